/- A part of the proof of ShelfStays. -/
import Derived.Test.YtlphnpmegolfmaaShelfStaysC2
import Derived.Test.YtlphnpmegolfmaaProg
set_option linter.unusedVariables false
set_option linter.unusedSimpArgs false
set_option maxRecDepth 100000
namespace Go.CL
open Go Go.RowKit Go.Proofs
theorem follows : Try.prog.follows .mixedOrders = true := by kernel_rfl
theorem len_8 {α : Type} {l : List α} (h : l.length = 8) : ∃ u0 u1 u2 u3 u4 u5 u6 u7, l = [u0, u1, u2, u3, u4, u5, u6, u7] := by
  match l, h with
  | [u0, u1, u2, u3, u4, u5, u6, u7], _ => exact ⟨u0, u1, u2, u3, u4, u5, u6, u7, rfl⟩
def fs_api_Item : List (Kd.FK api_Item) := [⟨_, Kd.flt, 0, fun x : api_Item => x.Score⟩,
  ⟨_, Kd.str, 1, fun x : api_Item => x.Name⟩]
def k_api_Item : Kd api_Item := Kd.struct 2 fs_api_Item (by rfl)
theorem zk_api_Item : ∀ g, k_api_Item.K g (default : api_Item) [.float .f64 0, .string ByteArray.empty] := fun g => ⟨rfl, (List.forall_mem_cons.2 ⟨(rfl), (List.forall_mem_cons.2 ⟨(rfl), (fun _ h => by cases h)⟩)⟩)⟩
def fs_api_Record : List (Kd.FK api_Record) := [⟨_, (Kd.int .i64), 0, fun x : api_Record => x.Kind⟩,
  ⟨_, (Kd.int .i64), 1, fun x : api_Record => x.Num⟩,
  ⟨_, (Kd.int .i64), 2, fun x : api_Record => x.Low⟩,
  ⟨_, (Kd.int .i64), 3, fun x : api_Record => x.High⟩,
  ⟨_, Kd.flt, 4, fun x : api_Record => x.Real⟩,
  ⟨_, (Kd.int .i64), 5, fun x : api_Record => x.Cap⟩,
  ⟨_, Kd.str, 6, fun x : api_Record => x.Text⟩,
  ⟨_, k_api_Item.sl, 7, fun x : api_Record => x.List⟩]
def k_api_Record : Kd api_Record := Kd.struct 8 fs_api_Record (by rfl)
theorem zk_api_Record : ∀ g, k_api_Record.K g (default : api_Record) [.int .i64 0, .int .i64 0, .int .i64 0, .int .i64 0, .float .f64 0, .int .i64 0, .string ByteArray.empty, .slice none 0 0] := fun g => ⟨rfl, (List.forall_mem_cons.2 ⟨(rfl), (List.forall_mem_cons.2 ⟨(rfl), (List.forall_mem_cons.2 ⟨(rfl), (List.forall_mem_cons.2 ⟨(rfl), (List.forall_mem_cons.2 ⟨(rfl), (List.forall_mem_cons.2 ⟨(rfl), (List.forall_mem_cons.2 ⟨(rfl), (List.forall_mem_cons.2 ⟨(⟨none, 0, rfl, Nat.le_refl _, Nat.zero_le _, .inl rfl⟩), (fun _ h => by cases h)⟩)⟩)⟩)⟩)⟩)⟩)⟩)⟩)⟩
def shelf_nodeT.V (g : G) : shelf_nodeT → Value → Prop
  | .nil, v => v = .pointer none
  | .node x0 x1 x2 x3 x4, v => ∃ b o cs, v = .pointer (some ⟨b, o, none⟩) ∧ CellsAt g b o cs ∧ cs.length = 12 ∧ (∀ u ∈ cs, u.oneCell' = true) ∧ Kd.str.K g x0 (seg cs 0 1) ∧ k_api_Record.K g x1 (seg cs 1 8) ∧ (∃ v, seg cs 9 1 = [v] ∧ shelf_nodeT.V g x2 v) ∧ (∃ v, seg cs 10 1 = [v] ∧ shelf_nodeT.V g x3 v) ∧ (Kd.int .i64).K g x4 (seg cs 11 1)
theorem shelf_nodeT.mono {g g' : G} (h : g.le g') (t : shelf_nodeT) : ∀ v, shelf_nodeT.V g t v → shelf_nodeT.V g' t v := by
  induction t with
  | nil => exact fun v h => h
  | node x0 x1 x2 x3 x4 ih2 ih3 =>
    rintro v ⟨b, o, cs, rfl, hc, hl, hz, h0, h1, ⟨w2, e2, k2⟩, ⟨w3, e3, k3⟩, h4⟩
    exact ⟨b, o, cs, rfl, hc.mono h, hl, hz, Kd.str.mono h h0, k_api_Record.mono h h1, ⟨w2, e2, ih2 w2 k2⟩, ⟨w3, e3, ih3 w3 k3⟩, (Kd.int .i64).mono h h4⟩
theorem shelf_nodeT.ptr {g : G} {t : shelf_nodeT} {v : Value} (h : shelf_nodeT.V g t v) : ∃ p, v = .pointer p ∧ p.isNone = t.isNil := by
  cases t with
  | nil => exact ⟨_, h, rfl⟩
  | node =>
    obtain ⟨b, o, cs, e, _⟩ := h
    exact ⟨_, e, rfl⟩
def k_shelf_nodeT : Kd shelf_nodeT where
  sz := 1
  ag := false
  K := fun g t cs => ∃ v, cs = [v] ∧ shelf_nodeT.V g t v
  len := by rintro _ _ _ ⟨v, rfl, _⟩; rfl
  one := by
    rintro _ _ _ ⟨v, rfl, h⟩ u hu
    obtain ⟨p, e, _⟩ := shelf_nodeT.ptr h
    rw [List.mem_singleton.1 hu, e]; rfl
  mono := fun h ⟨v, e, k⟩ => ⟨v, e, shelf_nodeT.mono h _ _ k⟩
  nag := fun _ => rfl
def fs_shelf_node : List (Kd.FK shelf_node) := [⟨_, Kd.str, 0, fun x : shelf_node => x.key⟩,
  ⟨_, k_api_Record, 1, fun x : shelf_node => x.rec_⟩,
  ⟨_, k_shelf_nodeT, 9, fun x : shelf_node => x.left⟩,
  ⟨_, k_shelf_nodeT, 10, fun x : shelf_node => x.right⟩,
  ⟨_, (Kd.int .i64), 11, fun x : shelf_node => x.size⟩]
def k_shelf_node : Kd shelf_node := Kd.struct 12 fs_shelf_node (by rfl)
theorem shelf_nodeT.V_iff {g : G} {t : shelf_nodeT} {v : Value} : (k_shelf_nodeT.pd t).p g v ↔ shelf_nodeT.V g t v := by
  constructor
  · rintro ⟨_, ⟨u, rfl, h⟩, rfl⟩; exact h
  · exact fun h => ⟨_, ⟨v, rfl, h⟩, rfl⟩
theorem k_shelf_nodeT_nil (g : G) : k_shelf_nodeT.K g shelf_nodeT.nil [.pointer none] := ⟨_, rfl, rfl⟩
theorem k_shelf_nodeT_nil_q (g : G) : (k_shelf_nodeT.pd shelf_nodeT.nil).p g (.pointer none) := shelf_nodeT.V_iff.2 rfl
theorem shelf_nodeT_isptr (t : shelf_nodeT) (g : G) (v : Value) (h : (k_shelf_nodeT.pd t).p g v) : ∃ p, v = .pointer p ∧ p.isNone = t.isNil := shelf_nodeT.ptr (shelf_nodeT.V_iff.1 h)
theorem shelf_nodeT_node {g : G} {t : shelf_nodeT} {x : shelf_node} {v : Value} (h : t.un = some x) (hv : (k_shelf_nodeT.pd t).p g v) : (k_shelf_node.ptr x).p g v := by
  cases t with
  | nil => cases h
  | node x0 x1 x2 x3 x4 =>
    obtain rfl := Option.some.inj h
    obtain ⟨b, o, cs, rfl, hc, hl, _, h0, h1, h2, h3, h4⟩ := shelf_nodeT.V_iff.1 hv
    exact ⟨b, o, cs, rfl, ⟨hl, (List.forall_mem_cons.2 ⟨h0, (List.forall_mem_cons.2 ⟨h1, (List.forall_mem_cons.2 ⟨h2, (List.forall_mem_cons.2 ⟨h3, (List.forall_mem_cons.2 ⟨h4, (fun _ h => by cases h)⟩)⟩)⟩)⟩)⟩)⟩, hc⟩
theorem shelf_nodeT_up {g : G} {x : shelf_node} {v : Value} (h : (k_shelf_node.ptr x).p g v) : (k_shelf_nodeT.pd x.up).p g v := by
  obtain ⟨b, o, cs, rfl, hk, hc⟩ := h
  exact shelf_nodeT.V_iff.2 ⟨b, o, cs, rfl, hc, hk.1, k_shelf_node.one hk, hk.2 _ (List.mem_of_getElem? (i := 0) rfl), hk.2 _ (List.mem_of_getElem? (i := 1) rfl), hk.2 _ (List.mem_of_getElem? (i := 2) rfl), hk.2 _ (List.mem_of_getElem? (i := 3) rfl), hk.2 _ (List.mem_of_getElem? (i := 4) rfl)⟩
def fs_shelf_Shelf : List (Kd.FK shelf_Shelf) := [⟨_, k_shelf_nodeT, 0, fun x : shelf_Shelf => x.top⟩,
  ⟨_, (Kd.int .i64), 1, fun x : shelf_Shelf => x.room⟩]
def k_shelf_Shelf : Kd shelf_Shelf := Kd.struct 2 fs_shelf_Shelf (by rfl)
theorem zk_shelf_Shelf : ∀ g, k_shelf_Shelf.K g (default : shelf_Shelf) [.pointer none, .int .i64 0] := fun g => ⟨rfl, (List.forall_mem_cons.2 ⟨(k_shelf_nodeT_nil _), (List.forall_mem_cons.2 ⟨(rfl), (fun _ h => by cases h)⟩)⟩)⟩
def fs_rec_shape : List (Kd.FK rec_shape) := [⟨_, Kd.bool, 0, fun x : rec_shape => x.text⟩,
  ⟨_, Kd.bool, 1, fun x : rec_shape => x.num⟩,
  ⟨_, Kd.bool, 2, fun x : rec_shape => x.bounds⟩,
  ⟨_, Kd.bool, 3, fun x : rec_shape => x.real⟩,
  ⟨_, Kd.bool, 4, fun x : rec_shape => x.list⟩]
def k_rec_shape : Kd rec_shape := Kd.struct 5 fs_rec_shape (by rfl)
theorem zk_rec_shape : ∀ g, k_rec_shape.K g (default : rec_shape) [.bool false, .bool false, .bool false, .bool false, .bool false] := fun g => ⟨rfl, (List.forall_mem_cons.2 ⟨(rfl), (List.forall_mem_cons.2 ⟨(rfl), (List.forall_mem_cons.2 ⟨(rfl), (List.forall_mem_cons.2 ⟨(rfl), (List.forall_mem_cons.2 ⟨(rfl), (fun _ h => by cases h)⟩)⟩)⟩)⟩)⟩)⟩
def fs_moietylaw09_Op : List (Kd.FK moietylaw09_Op) := [⟨_, Kd.bool, 0, fun x : moietylaw09_Op => x.Cut⟩,
  ⟨_, Kd.str, 1, fun x : moietylaw09_Op => x.Key⟩,
  ⟨_, k_api_Record, 2, fun x : moietylaw09_Op => x.Rec⟩]
def k_moietylaw09_Op : Kd moietylaw09_Op := Kd.struct 10 fs_moietylaw09_Op (by rfl)
theorem zk_moietylaw09_Op : ∀ g, k_moietylaw09_Op.K g (default : moietylaw09_Op) [.bool false, .string ByteArray.empty, .int .i64 0, .int .i64 0, .int .i64 0, .int .i64 0, .float .f64 0, .int .i64 0, .string ByteArray.empty, .slice none 0 0] := fun g => ⟨rfl, (List.forall_mem_cons.2 ⟨(rfl), (List.forall_mem_cons.2 ⟨(rfl), (List.forall_mem_cons.2 ⟨(zk_api_Record _), (fun _ h => by cases h)⟩)⟩)⟩)⟩
def fs_moietyref09_Pair : List (Kd.FK moietyref09_Pair) := [⟨_, Kd.str, 0, fun x : moietyref09_Pair => x.Key⟩,
  ⟨_, k_api_Record, 1, fun x : moietyref09_Pair => x.Rec⟩]
def k_moietyref09_Pair : Kd moietyref09_Pair := Kd.struct 9 fs_moietyref09_Pair (by rfl)
theorem zk_moietyref09_Pair : ∀ g, k_moietyref09_Pair.K g (default : moietyref09_Pair) [.string ByteArray.empty, .int .i64 0, .int .i64 0, .int .i64 0, .int .i64 0, .float .f64 0, .int .i64 0, .string ByteArray.empty, .slice none 0 0] := fun g => ⟨rfl, (List.forall_mem_cons.2 ⟨(rfl), (List.forall_mem_cons.2 ⟨(zk_api_Record _), (fun _ h => by cases h)⟩)⟩)⟩
def fs_moietyref09_Shelf : List (Kd.FK moietyref09_Shelf) := [⟨_, k_moietyref09_Pair.sl, 0, fun x : moietyref09_Shelf => x.L⟩,
  ⟨_, (Kd.int .i64), 1, fun x : moietyref09_Shelf => x.Room⟩]
def k_moietyref09_Shelf : Kd moietyref09_Shelf := Kd.struct 2 fs_moietyref09_Shelf (by rfl)
theorem zk_moietyref09_Shelf : ∀ g, k_moietyref09_Shelf.K g (default : moietyref09_Shelf) [.slice none 0 0, .int .i64 0] := fun g => ⟨rfl, (List.forall_mem_cons.2 ⟨(⟨none, 0, rfl, Nat.le_refl _, Nat.zero_le _, .inl rfl⟩), (List.forall_mem_cons.2 ⟨(rfl), (fun _ h => by cases h)⟩)⟩)⟩

theorem bd_28_ {N d : Nat} {o : Oper} {uses : Slots}   (hop : o.op = .build 28 #[]) (hd : o.dst = some d)  : OB Try.prog N o uses [(d, k_shelf_Shelf.pd { top := shelf_nodeT.nil, room := (0 : Int) })] [] := by
  refine ob_build hop hd fun a g hh => ?_

  refine ⟨.agg #[.pointer none, .int .i64 0], ?_, [.pointer none, .int .i64 0], ⟨rfl, (List.forall_mem_cons.2 ⟨(k_shelf_nodeT_nil _), (List.forall_mem_cons.2 ⟨(rfl), (fun _ h => by cases h)⟩)⟩)⟩, rfl⟩
  simp only [List.map_toArray, List.map_cons, List.map_nil, List.map_nil]
  exact run_build Try.underlying28 (zero := .agg #[.pointer none, .int .i64 0]) (by kernel_rfl) (places := [(0, 1), (1, 1)]) (by kernel_rfl) (by kernel_rfl) g.w
theorem ty_28 : Ty Try.prog 28 k_shelf_Shelf := ⟨by kernel_rfl, by kernel_rfl⟩
theorem bd_28_1 {N d : Nat} {o : Oper} {uses : Slots} {x1 : Operand} {v1 : Int} (hop : o.op = .build 28 #[(1, x1)]) (hd : o.dst = some d) (h1 : Opd uses x1 ((Kd.int .i64).pd v1)) : OB Try.prog N o uses [(d, k_shelf_Shelf.pd { top := shelf_nodeT.nil, room := v1 })] [] := by
  refine ob_build hop hd fun a g hh => ?_
  obtain ⟨c1, k1, e1⟩ := h1 a g hh
  obtain rfl := k1
  refine ⟨.agg #[.pointer none, .int .i64 v1], ?_, [.pointer none, .int .i64 v1], ⟨rfl, (List.forall_mem_cons.2 ⟨(k_shelf_nodeT_nil _), (List.forall_mem_cons.2 ⟨rfl, (fun _ h => by cases h)⟩)⟩)⟩, rfl⟩
  simp only [List.map_toArray, List.map_cons, List.map_nil, e1]
  exact run_build Try.underlying28 (zero := .agg #[.pointer none, .int .i64 0]) (by kernel_rfl) (places := [(0, 1), (1, 1)]) (by kernel_rfl) (by kernel_rfl) g.w
theorem fl_75_4 : Fld Try.prog 75 4 k_shelf_node (Kd.int .i64) (fun x : shelf_node => x.size) := Fld.of ⟨_, (Kd.int .i64), 11, fun x : shelf_node => x.size⟩ (List.mem_of_getElem? (i := 4) rfl) 11 rfl (by kernel_rfl) (by decide)
theorem ty_3 : Ty Try.prog 3 (Kd.int .i64) := ⟨by kernel_rfl, by kernel_rfl⟩
theorem fl_28_0 : Fld Try.prog 28 0 k_shelf_Shelf k_shelf_nodeT (fun x : shelf_Shelf => x.top) := Fld.of ⟨_, k_shelf_nodeT, 0, fun x : shelf_Shelf => x.top⟩ (List.mem_of_getElem? (i := 0) rfl) 0 rfl (by kernel_rfl) (by decide)
theorem ty_26 : Ty Try.prog 26 k_shelf_nodeT := ⟨by kernel_rfl, by kernel_rfl⟩
theorem fl_75_0 : Fld Try.prog 75 0 k_shelf_node Kd.str (fun x : shelf_node => x.key) := Fld.of ⟨_, Kd.str, 0, fun x : shelf_node => x.key⟩ (List.mem_of_getElem? (i := 0) rfl) 0 rfl (by kernel_rfl) (by decide)
theorem ty_9 : Ty Try.prog 9 Kd.str := ⟨by kernel_rfl, by kernel_rfl⟩
theorem fl_75_2 : Fld Try.prog 75 2 k_shelf_node k_shelf_nodeT (fun x : shelf_node => x.left) := Fld.of ⟨_, k_shelf_nodeT, 9, fun x : shelf_node => x.left⟩ (List.mem_of_getElem? (i := 2) rfl) 9 rfl (by kernel_rfl) (by decide)
theorem en_33 : Enters Try.prog 33 := by
  unfold Enters
  kernel_rfl
theorem fl_75_3 : Fld Try.prog 75 3 k_shelf_node k_shelf_nodeT (fun x : shelf_node => x.right) := Fld.of ⟨_, k_shelf_nodeT, 10, fun x : shelf_node => x.right⟩ (List.mem_of_getElem? (i := 3) rfl) 10 rfl (by kernel_rfl) (by decide)
theorem te_36 : TE Try.prog 36 64 k_api_Item 24 := TE.of Try.underlying36 (by kernel_rfl) (by decide) (by decide)
theorem fl_38_7 : Fld Try.prog 38 7 k_api_Record k_api_Item.sl (fun x : api_Record => x.List) := Fld.of ⟨_, k_api_Item.sl, 7, fun x : api_Record => x.List⟩ (List.mem_of_getElem? (i := 7) rfl) 7 rfl (by kernel_rfl) (by decide)
theorem ty_36 : Ty Try.prog 36 k_api_Item.sl := ⟨by kernel_rfl, by kernel_rfl⟩
theorem en_46 : Enters Try.prog 46 := by
  unfold Enters
  kernel_rfl
theorem wi_38_7 {c : Option Nat} {N j s : Nat} {o : Oper} {uses : Slots} {x z : Operand} {v : api_Record} {y0 y : List api_Item} {v0 : api_Record} {t : Nat} (hT : Ty Try.prog t k_api_Item.sl) (hop : o.op = .store t x z) (hd : o.dst = none) (hs : Opd uses (.tmp s) (pBoxC c k_api_Record j v)) (hx : Opd uses x (pPart k_api_Record j v0 7 k_api_Item.sl y0)) (hz : Opd uses z (k_api_Item.sl.pd y)) : OB Try.prog N o uses [(s, pBoxC c k_api_Record j { v with List := y })] [j + 1] :=
  ob_storeP hT hop hd hs hx hz fun g cs ys hk hy => by
    have hc : cs.length = 8 := hk.1
    have hl : ys.length = 1 := k_api_Item.sl.len hy
    exact ⟨by omega, (splice_length (by omega)).trans hc, (List.forall_mem_cons.2 ⟨(by show (Kd.int .i64).K g v.Kind (seg (splice cs 7 ys) 0 1); rw [seg_splice_ne (by omega) (by omega)]; exact hk.2 _ (List.mem_of_getElem? (i := 0) rfl)), (List.forall_mem_cons.2 ⟨(by show (Kd.int .i64).K g v.Num (seg (splice cs 7 ys) 1 1); rw [seg_splice_ne (by omega) (by omega)]; exact hk.2 _ (List.mem_of_getElem? (i := 1) rfl)), (List.forall_mem_cons.2 ⟨(by show (Kd.int .i64).K g v.Low (seg (splice cs 7 ys) 2 1); rw [seg_splice_ne (by omega) (by omega)]; exact hk.2 _ (List.mem_of_getElem? (i := 2) rfl)), (List.forall_mem_cons.2 ⟨(by show (Kd.int .i64).K g v.High (seg (splice cs 7 ys) 3 1); rw [seg_splice_ne (by omega) (by omega)]; exact hk.2 _ (List.mem_of_getElem? (i := 3) rfl)), (List.forall_mem_cons.2 ⟨(by show Kd.flt.K g v.Real (seg (splice cs 7 ys) 4 1); rw [seg_splice_ne (by omega) (by omega)]; exact hk.2 _ (List.mem_of_getElem? (i := 4) rfl)), (List.forall_mem_cons.2 ⟨(by show (Kd.int .i64).K g v.Cap (seg (splice cs 7 ys) 5 1); rw [seg_splice_ne (by omega) (by omega)]; exact hk.2 _ (List.mem_of_getElem? (i := 5) rfl)), (List.forall_mem_cons.2 ⟨(by show Kd.str.K g v.Text (seg (splice cs 7 ys) 6 1); rw [seg_splice_ne (by omega) (by omega)]; exact hk.2 _ (List.mem_of_getElem? (i := 6) rfl)), (List.forall_mem_cons.2 ⟨(by show k_api_Item.sl.K g y (seg (splice cs 7 ys) 7 1); rw [seg_splice_same (by omega) hl]; exact hy), (fun _ h => by cases h)⟩)⟩)⟩)⟩)⟩)⟩)⟩)⟩)⟩
theorem ty_38 : Ty Try.prog 38 k_api_Record := ⟨by kernel_rfl, by kernel_rfl⟩
theorem fl_75_1 : Fld Try.prog 75 1 k_shelf_node k_api_Record (fun x : shelf_node => x.rec_) := Fld.of ⟨_, k_api_Record, 1, fun x : shelf_node => x.rec_⟩ (List.mem_of_getElem? (i := 1) rfl) 1 rfl (by kernel_rfl) (by decide)
theorem en_34 : Enters Try.prog 34 := by
  unfold Enters
  kernel_rfl
theorem bd_38_ {N d : Nat} {o : Oper} {uses : Slots}   (hop : o.op = .build 38 #[]) (hd : o.dst = some d)  : OB Try.prog N o uses [(d, k_api_Record.pd { Kind := (0 : Int), Num := (0 : Int), Low := (0 : Int), High := (0 : Int), Real := (0 : Nat), Cap := (0 : Int), Text := ByteArray.empty, List := ([] : List api_Item) })] [] := by
  refine ob_build hop hd fun a g hh => ?_

  refine ⟨.agg #[.int .i64 0, .int .i64 0, .int .i64 0, .int .i64 0, .float .f64 0, .int .i64 0, .string ByteArray.empty, .slice none 0 0], ?_, [.int .i64 0, .int .i64 0, .int .i64 0, .int .i64 0, .float .f64 0, .int .i64 0, .string ByteArray.empty, .slice none 0 0], ⟨rfl, (List.forall_mem_cons.2 ⟨(rfl), (List.forall_mem_cons.2 ⟨(rfl), (List.forall_mem_cons.2 ⟨(rfl), (List.forall_mem_cons.2 ⟨(rfl), (List.forall_mem_cons.2 ⟨(rfl), (List.forall_mem_cons.2 ⟨(rfl), (List.forall_mem_cons.2 ⟨(rfl), (List.forall_mem_cons.2 ⟨(⟨none, 0, rfl, Nat.le_refl _, Nat.zero_le _, .inl rfl⟩), (fun _ h => by cases h)⟩)⟩)⟩)⟩)⟩)⟩)⟩)⟩)⟩, rfl⟩
  simp only [List.map_toArray, List.map_cons, List.map_nil, List.map_nil]
  exact run_build Try.underlying38 (zero := .agg #[.int .i64 0, .int .i64 0, .int .i64 0, .int .i64 0, .float .f64 0, .int .i64 0, .string ByteArray.empty, .slice none 0 0]) (by kernel_rfl) (places := [(0, 1), (1, 1), (2, 1), (3, 1), (4, 1), (5, 1), (6, 1), (7, 1)]) (by kernel_rfl) (by kernel_rfl) g.w
theorem en_14 : Enters Try.prog 14 := by
  unfold Enters
  kernel_rfl
theorem en_16 : Enters Try.prog 16 := by
  unfold Enters
  kernel_rfl
theorem te_43 : TE Try.prog 43 9 Kd.str 16 := TE.of Try.underlying43 (by kernel_rfl) (by decide) (by decide)
theorem ex_70 : Ext Try.prog 70 Extern.MathFloatBits.float64frombits := ⟨_, Try.func70, rfl, rfl, by kernel_rfl, by kernel_rfl⟩
theorem en_68 : Enters Try.prog 68 := by
  unfold Enters
  kernel_rfl
theorem en_61 : Enters Try.prog 61 := by
  unfold Enters
  kernel_rfl
theorem ex_60 : Ext Try.prog 60 Extern.MathFloatBits.float64bits := ⟨_, Try.func60, rfl, rfl, by kernel_rfl, by kernel_rfl⟩
theorem en_55 : Enters Try.prog 55 := by
  unfold Enters
  kernel_rfl
theorem sz_64 : (Try.prog.info? 64).map (·.size) = some k_api_Item.sz := by kernel_rfl
theorem ty_64 : Ty Try.prog 64 k_api_Item := ⟨by kernel_rfl, by kernel_rfl⟩
theorem fl_64_1 : Fld Try.prog 64 1 k_api_Item Kd.str (fun x : api_Item => x.Name) := Fld.of ⟨_, Kd.str, 1, fun x : api_Item => x.Name⟩ (List.mem_of_getElem? (i := 1) rfl) 1 rfl (by kernel_rfl) (by decide)
theorem fl_64_0 : Fld Try.prog 64 0 k_api_Item Kd.flt (fun x : api_Item => x.Score) := Fld.of ⟨_, Kd.flt, 0, fun x : api_Item => x.Score⟩ (List.mem_of_getElem? (i := 0) rfl) 0 rfl (by kernel_rfl) (by decide)
theorem ty_35 : Ty Try.prog 35 Kd.flt := ⟨by kernel_rfl, by kernel_rfl⟩
theorem en_42 : Enters Try.prog 42 := by
  unfold Enters
  kernel_rfl
theorem fl_38_0 : Fld Try.prog 38 0 k_api_Record (Kd.int .i64) (fun x : api_Record => x.Kind) := Fld.of ⟨_, (Kd.int .i64), 0, fun x : api_Record => x.Kind⟩ (List.mem_of_getElem? (i := 0) rfl) 0 rfl (by kernel_rfl) (by decide)
theorem fl_38_1 : Fld Try.prog 38 1 k_api_Record (Kd.int .i64) (fun x : api_Record => x.Num) := Fld.of ⟨_, (Kd.int .i64), 1, fun x : api_Record => x.Num⟩ (List.mem_of_getElem? (i := 1) rfl) 1 rfl (by kernel_rfl) (by decide)
theorem ty_2 : Ty Try.prog 2 (Kd.int .i64) := ⟨by kernel_rfl, by kernel_rfl⟩
theorem fl_38_2 : Fld Try.prog 38 2 k_api_Record (Kd.int .i64) (fun x : api_Record => x.Low) := Fld.of ⟨_, (Kd.int .i64), 2, fun x : api_Record => x.Low⟩ (List.mem_of_getElem? (i := 2) rfl) 2 rfl (by kernel_rfl) (by decide)
theorem fl_38_3 : Fld Try.prog 38 3 k_api_Record (Kd.int .i64) (fun x : api_Record => x.High) := Fld.of ⟨_, (Kd.int .i64), 3, fun x : api_Record => x.High⟩ (List.mem_of_getElem? (i := 3) rfl) 3 rfl (by kernel_rfl) (by decide)
theorem fl_38_4 : Fld Try.prog 38 4 k_api_Record Kd.flt (fun x : api_Record => x.Real) := Fld.of ⟨_, Kd.flt, 4, fun x : api_Record => x.Real⟩ (List.mem_of_getElem? (i := 4) rfl) 4 rfl (by kernel_rfl) (by decide)
theorem fl_38_5 : Fld Try.prog 38 5 k_api_Record (Kd.int .i64) (fun x : api_Record => x.Cap) := Fld.of ⟨_, (Kd.int .i64), 5, fun x : api_Record => x.Cap⟩ (List.mem_of_getElem? (i := 5) rfl) 5 rfl (by kernel_rfl) (by decide)
theorem fl_38_6 : Fld Try.prog 38 6 k_api_Record Kd.str (fun x : api_Record => x.Text) := Fld.of ⟨_, Kd.str, 6, fun x : api_Record => x.Text⟩ (List.mem_of_getElem? (i := 6) rfl) 6 rfl (by kernel_rfl) (by decide)
theorem en_44 : Enters Try.prog 44 := by
  unfold Enters
  kernel_rfl
theorem en_43 : Enters Try.prog 43 := by
  unfold Enters
  kernel_rfl
theorem en_17 : Enters Try.prog 17 := by
  unfold Enters
  kernel_rfl
theorem en_29 : Enters Try.prog 29 := by
  unfold Enters
  kernel_rfl
theorem bd_89_0 {N d : Nat} {o : Oper} {uses : Slots} {x0 : Operand} {v0 : Bool} (hop : o.op = .build 89 #[(0, x0)]) (hd : o.dst = some d) (h0 : Opd uses x0 (Kd.bool.pd v0)) : OB Try.prog N o uses [(d, k_rec_shape.pd { text := v0, num := false, bounds := false, real := false, list := false })] [] := by
  refine ob_build hop hd fun a g hh => ?_
  obtain ⟨c0, k0, e0⟩ := h0 a g hh
  obtain rfl := k0
  refine ⟨.agg #[.bool v0, .bool false, .bool false, .bool false, .bool false], ?_, [.bool v0, .bool false, .bool false, .bool false, .bool false], ⟨rfl, (List.forall_mem_cons.2 ⟨rfl, (List.forall_mem_cons.2 ⟨(rfl), (List.forall_mem_cons.2 ⟨(rfl), (List.forall_mem_cons.2 ⟨(rfl), (List.forall_mem_cons.2 ⟨(rfl), (fun _ h => by cases h)⟩)⟩)⟩)⟩)⟩)⟩, rfl⟩
  simp only [List.map_toArray, List.map_cons, List.map_nil, e0]
  exact run_build Try.underlying89 (zero := .agg #[.bool false, .bool false, .bool false, .bool false, .bool false]) (by kernel_rfl) (places := [(0, 1), (1, 1), (2, 1), (3, 1), (4, 1)]) (by kernel_rfl) (by kernel_rfl) g.w
theorem ty_89 : Ty Try.prog 89 k_rec_shape := ⟨by kernel_rfl, by kernel_rfl⟩
theorem bd_89_1 {N d : Nat} {o : Oper} {uses : Slots} {x1 : Operand} {v1 : Bool} (hop : o.op = .build 89 #[(1, x1)]) (hd : o.dst = some d) (h1 : Opd uses x1 (Kd.bool.pd v1)) : OB Try.prog N o uses [(d, k_rec_shape.pd { text := false, num := v1, bounds := false, real := false, list := false })] [] := by
  refine ob_build hop hd fun a g hh => ?_
  obtain ⟨c1, k1, e1⟩ := h1 a g hh
  obtain rfl := k1
  refine ⟨.agg #[.bool false, .bool v1, .bool false, .bool false, .bool false], ?_, [.bool false, .bool v1, .bool false, .bool false, .bool false], ⟨rfl, (List.forall_mem_cons.2 ⟨(rfl), (List.forall_mem_cons.2 ⟨rfl, (List.forall_mem_cons.2 ⟨(rfl), (List.forall_mem_cons.2 ⟨(rfl), (List.forall_mem_cons.2 ⟨(rfl), (fun _ h => by cases h)⟩)⟩)⟩)⟩)⟩)⟩, rfl⟩
  simp only [List.map_toArray, List.map_cons, List.map_nil, e1]
  exact run_build Try.underlying89 (zero := .agg #[.bool false, .bool false, .bool false, .bool false, .bool false]) (by kernel_rfl) (places := [(0, 1), (1, 1), (2, 1), (3, 1), (4, 1)]) (by kernel_rfl) (by kernel_rfl) g.w
theorem bd_89_1_2 {N d : Nat} {o : Oper} {uses : Slots} {x1 : Operand} {x2 : Operand} {v1 : Bool} {v2 : Bool} (hop : o.op = .build 89 #[(1, x1), (2, x2)]) (hd : o.dst = some d) (h1 : Opd uses x1 (Kd.bool.pd v1)) (h2 : Opd uses x2 (Kd.bool.pd v2)) : OB Try.prog N o uses [(d, k_rec_shape.pd { text := false, num := v1, bounds := v2, real := false, list := false })] [] := by
  refine ob_build hop hd fun a g hh => ?_
  obtain ⟨c1, k1, e1⟩ := h1 a g hh
  obtain rfl := k1
  obtain ⟨c2, k2, e2⟩ := h2 a g hh
  obtain rfl := k2
  refine ⟨.agg #[.bool false, .bool v1, .bool v2, .bool false, .bool false], ?_, [.bool false, .bool v1, .bool v2, .bool false, .bool false], ⟨rfl, (List.forall_mem_cons.2 ⟨(rfl), (List.forall_mem_cons.2 ⟨rfl, (List.forall_mem_cons.2 ⟨rfl, (List.forall_mem_cons.2 ⟨(rfl), (List.forall_mem_cons.2 ⟨(rfl), (fun _ h => by cases h)⟩)⟩)⟩)⟩)⟩)⟩, rfl⟩
  simp only [List.map_toArray, List.map_cons, List.map_nil, e1, e2]
  exact run_build Try.underlying89 (zero := .agg #[.bool false, .bool false, .bool false, .bool false, .bool false]) (by kernel_rfl) (places := [(0, 1), (1, 1), (2, 1), (3, 1), (4, 1)]) (by kernel_rfl) (by kernel_rfl) g.w
theorem bd_89_3 {N d : Nat} {o : Oper} {uses : Slots} {x3 : Operand} {v3 : Bool} (hop : o.op = .build 89 #[(3, x3)]) (hd : o.dst = some d) (h3 : Opd uses x3 (Kd.bool.pd v3)) : OB Try.prog N o uses [(d, k_rec_shape.pd { text := false, num := false, bounds := false, real := v3, list := false })] [] := by
  refine ob_build hop hd fun a g hh => ?_
  obtain ⟨c3, k3, e3⟩ := h3 a g hh
  obtain rfl := k3
  refine ⟨.agg #[.bool false, .bool false, .bool false, .bool v3, .bool false], ?_, [.bool false, .bool false, .bool false, .bool v3, .bool false], ⟨rfl, (List.forall_mem_cons.2 ⟨(rfl), (List.forall_mem_cons.2 ⟨(rfl), (List.forall_mem_cons.2 ⟨(rfl), (List.forall_mem_cons.2 ⟨rfl, (List.forall_mem_cons.2 ⟨(rfl), (fun _ h => by cases h)⟩)⟩)⟩)⟩)⟩)⟩, rfl⟩
  simp only [List.map_toArray, List.map_cons, List.map_nil, e3]
  exact run_build Try.underlying89 (zero := .agg #[.bool false, .bool false, .bool false, .bool false, .bool false]) (by kernel_rfl) (places := [(0, 1), (1, 1), (2, 1), (3, 1), (4, 1)]) (by kernel_rfl) (by kernel_rfl) g.w
theorem bd_89_4 {N d : Nat} {o : Oper} {uses : Slots} {x4 : Operand} {v4 : Bool} (hop : o.op = .build 89 #[(4, x4)]) (hd : o.dst = some d) (h4 : Opd uses x4 (Kd.bool.pd v4)) : OB Try.prog N o uses [(d, k_rec_shape.pd { text := false, num := false, bounds := false, real := false, list := v4 })] [] := by
  refine ob_build hop hd fun a g hh => ?_
  obtain ⟨c4, k4, e4⟩ := h4 a g hh
  obtain rfl := k4
  refine ⟨.agg #[.bool false, .bool false, .bool false, .bool false, .bool v4], ?_, [.bool false, .bool false, .bool false, .bool false, .bool v4], ⟨rfl, (List.forall_mem_cons.2 ⟨(rfl), (List.forall_mem_cons.2 ⟨(rfl), (List.forall_mem_cons.2 ⟨(rfl), (List.forall_mem_cons.2 ⟨(rfl), (List.forall_mem_cons.2 ⟨rfl, (fun _ h => by cases h)⟩)⟩)⟩)⟩)⟩)⟩, rfl⟩
  simp only [List.map_toArray, List.map_cons, List.map_nil, e4]
  exact run_build Try.underlying89 (zero := .agg #[.bool false, .bool false, .bool false, .bool false, .bool false]) (by kernel_rfl) (places := [(0, 1), (1, 1), (2, 1), (3, 1), (4, 1)]) (by kernel_rfl) (by kernel_rfl) g.w
theorem bd_89_ {N d : Nat} {o : Oper} {uses : Slots}   (hop : o.op = .build 89 #[]) (hd : o.dst = some d)  : OB Try.prog N o uses [(d, k_rec_shape.pd { text := false, num := false, bounds := false, real := false, list := false })] [] := by
  refine ob_build hop hd fun a g hh => ?_

  refine ⟨.agg #[.bool false, .bool false, .bool false, .bool false, .bool false], ?_, [.bool false, .bool false, .bool false, .bool false, .bool false], ⟨rfl, (List.forall_mem_cons.2 ⟨(rfl), (List.forall_mem_cons.2 ⟨(rfl), (List.forall_mem_cons.2 ⟨(rfl), (List.forall_mem_cons.2 ⟨(rfl), (List.forall_mem_cons.2 ⟨(rfl), (fun _ h => by cases h)⟩)⟩)⟩)⟩)⟩)⟩, rfl⟩
  simp only [List.map_toArray, List.map_cons, List.map_nil, List.map_nil]
  exact run_build Try.underlying89 (zero := .agg #[.bool false, .bool false, .bool false, .bool false, .bool false]) (by kernel_rfl) (places := [(0, 1), (1, 1), (2, 1), (3, 1), (4, 1)]) (by kernel_rfl) (by kernel_rfl) g.w
theorem fl_89_0 : Fld Try.prog 89 0 k_rec_shape Kd.bool (fun x : rec_shape => x.text) := Fld.of ⟨_, Kd.bool, 0, fun x : rec_shape => x.text⟩ (List.mem_of_getElem? (i := 0) rfl) 0 rfl (by kernel_rfl) (by decide)
theorem ty_4 : Ty Try.prog 4 Kd.bool := ⟨by kernel_rfl, by kernel_rfl⟩
theorem fl_89_1 : Fld Try.prog 89 1 k_rec_shape Kd.bool (fun x : rec_shape => x.num) := Fld.of ⟨_, Kd.bool, 1, fun x : rec_shape => x.num⟩ (List.mem_of_getElem? (i := 1) rfl) 1 rfl (by kernel_rfl) (by decide)
theorem fl_89_2 : Fld Try.prog 89 2 k_rec_shape Kd.bool (fun x : rec_shape => x.bounds) := Fld.of ⟨_, Kd.bool, 2, fun x : rec_shape => x.bounds⟩ (List.mem_of_getElem? (i := 2) rfl) 2 rfl (by kernel_rfl) (by decide)
theorem fl_89_3 : Fld Try.prog 89 3 k_rec_shape Kd.bool (fun x : rec_shape => x.real) := Fld.of ⟨_, Kd.bool, 3, fun x : rec_shape => x.real⟩ (List.mem_of_getElem? (i := 3) rfl) 3 rfl (by kernel_rfl) (by decide)
theorem fl_89_4 : Fld Try.prog 89 4 k_rec_shape Kd.bool (fun x : rec_shape => x.list) := Fld.of ⟨_, Kd.bool, 4, fun x : rec_shape => x.list⟩ (List.mem_of_getElem? (i := 4) rfl) 4 rfl (by kernel_rfl) (by decide)
theorem en_69 : Enters Try.prog 69 := by
  unfold Enters
  kernel_rfl
theorem en_49 : Enters Try.prog 49 := by
  unfold Enters
  kernel_rfl
theorem en_62 : Enters Try.prog 62 := by
  unfold Enters
  kernel_rfl
theorem en_47 : Enters Try.prog 47 := by
  unfold Enters
  kernel_rfl
theorem en_48 : Enters Try.prog 48 := by
  unfold Enters
  kernel_rfl
theorem en_50 : Enters Try.prog 50 := by
  unfold Enters
  kernel_rfl
theorem bd_75_0_1_2_3_4 {N d : Nat} {o : Oper} {uses : Slots} {x0 : Operand} {x1 : Operand} {x2 : Operand} {x3 : Operand} {x4 : Operand} {v0 : ByteArray} {v1 : api_Record} {v2 : shelf_nodeT} {v3 : shelf_nodeT} {v4 : Int} (hop : o.op = .build 75 #[(0, x0), (1, x1), (2, x2), (3, x3), (4, x4)]) (hd : o.dst = some d) (h0 : Opd uses x0 (Kd.str.pd v0)) (h1 : Opd uses x1 (k_api_Record.pd v1)) (h2 : Opd uses x2 (k_shelf_nodeT.pd v2)) (h3 : Opd uses x3 (k_shelf_nodeT.pd v3)) (h4 : Opd uses x4 ((Kd.int .i64).pd v4)) : OB Try.prog N o uses [(d, k_shelf_node.pd { key := v0, rec_ := v1, left := v2, right := v3, size := v4 })] [] := by
  refine ob_build hop hd fun a g hh => ?_
  obtain ⟨c0, k0, e0⟩ := h0 a g hh
  obtain rfl := k0
  obtain ⟨c1, k1, e1⟩ := h1 a g hh
  obtain ⟨u1_0, u1_1, u1_2, u1_3, u1_4, u1_5, u1_6, u1_7, rfl⟩ := len_8 (k_api_Record.len k1)
  obtain ⟨c2, k2, e2⟩ := h2 a g hh
  obtain ⟨p2, rfl, l2⟩ := k2
  obtain ⟨q2, rfl, _⟩ := shelf_nodeT.ptr l2
  obtain ⟨c3, k3, e3⟩ := h3 a g hh
  obtain ⟨p3, rfl, l3⟩ := k3
  obtain ⟨q3, rfl, _⟩ := shelf_nodeT.ptr l3
  obtain ⟨c4, k4, e4⟩ := h4 a g hh
  obtain rfl := k4
  refine ⟨.agg #[.string v0, u1_0, u1_1, u1_2, u1_3, u1_4, u1_5, u1_6, u1_7, .pointer q2, .pointer q3, .int .i64 v4], ?_, [.string v0, u1_0, u1_1, u1_2, u1_3, u1_4, u1_5, u1_6, u1_7, .pointer q2, .pointer q3, .int .i64 v4], ⟨rfl, (List.forall_mem_cons.2 ⟨rfl, (List.forall_mem_cons.2 ⟨k1, (List.forall_mem_cons.2 ⟨⟨.pointer q2, rfl, l2⟩, (List.forall_mem_cons.2 ⟨⟨.pointer q3, rfl, l3⟩, (List.forall_mem_cons.2 ⟨rfl, (fun _ h => by cases h)⟩)⟩)⟩)⟩)⟩)⟩, rfl⟩
  simp only [List.map_toArray, List.map_cons, List.map_nil, e0, e1, e2, e3, e4]
  exact run_build Try.underlying75 (zero := .agg #[.string ByteArray.empty, .int .i64 0, .int .i64 0, .int .i64 0, .int .i64 0, .float .f64 0, .int .i64 0, .string ByteArray.empty, .slice none 0 0, .pointer none, .pointer none, .int .i64 0]) (by kernel_rfl) (places := [(0, 1), (1, 8), (9, 1), (10, 1), (11, 1)]) (by kernel_rfl) (by kernel_rfl) g.w
theorem en_63 : Enters Try.prog 63 := by
  unfold Enters
  kernel_rfl
theorem en_51 : Enters Try.prog 51 := by
  unfold Enters
  kernel_rfl
theorem en_36 : Enters Try.prog 36 := by
  unfold Enters
  kernel_rfl
theorem en_52 : Enters Try.prog 52 := by
  unfold Enters
  kernel_rfl
theorem en_35 : Enters Try.prog 35 := by
  unfold Enters
  kernel_rfl
theorem en_22 : Enters Try.prog 22 := by
  unfold Enters
  kernel_rfl
theorem fl_28_1 : Fld Try.prog 28 1 k_shelf_Shelf (Kd.int .i64) (fun x : shelf_Shelf => x.room) := Fld.of ⟨_, (Kd.int .i64), 1, fun x : shelf_Shelf => x.room⟩ (List.mem_of_getElem? (i := 1) rfl) 1 rfl (by kernel_rfl) (by decide)
theorem bd_28_0_1 {N d : Nat} {o : Oper} {uses : Slots} {x0 : Operand} {x1 : Operand} {v0 : shelf_nodeT} {v1 : Int} (hop : o.op = .build 28 #[(0, x0), (1, x1)]) (hd : o.dst = some d) (h0 : Opd uses x0 (k_shelf_nodeT.pd v0)) (h1 : Opd uses x1 ((Kd.int .i64).pd v1)) : OB Try.prog N o uses [(d, k_shelf_Shelf.pd { top := v0, room := v1 })] [] := by
  refine ob_build hop hd fun a g hh => ?_
  obtain ⟨c0, k0, e0⟩ := h0 a g hh
  obtain ⟨p0, rfl, l0⟩ := k0
  obtain ⟨q0, rfl, _⟩ := shelf_nodeT.ptr l0
  obtain ⟨c1, k1, e1⟩ := h1 a g hh
  obtain rfl := k1
  refine ⟨.agg #[.pointer q0, .int .i64 v1], ?_, [.pointer q0, .int .i64 v1], ⟨rfl, (List.forall_mem_cons.2 ⟨⟨.pointer q0, rfl, l0⟩, (List.forall_mem_cons.2 ⟨rfl, (fun _ h => by cases h)⟩)⟩)⟩, rfl⟩
  simp only [List.map_toArray, List.map_cons, List.map_nil, e0, e1]
  exact run_build Try.underlying28 (zero := .agg #[.pointer none, .int .i64 0]) (by kernel_rfl) (places := [(0, 1), (1, 1)]) (by kernel_rfl) (by kernel_rfl) g.w
theorem en_10 : Enters Try.prog 10 := by
  unfold Enters
  kernel_rfl
theorem bd_38_0_1 {N d : Nat} {o : Oper} {uses : Slots} {x0 : Operand} {x1 : Operand} {v0 : Int} {v1 : Int} (hop : o.op = .build 38 #[(0, x0), (1, x1)]) (hd : o.dst = some d) (h0 : Opd uses x0 ((Kd.int .i64).pd v0)) (h1 : Opd uses x1 ((Kd.int .i64).pd v1)) : OB Try.prog N o uses [(d, k_api_Record.pd { Kind := v0, Num := v1, Low := (0 : Int), High := (0 : Int), Real := (0 : Nat), Cap := (0 : Int), Text := ByteArray.empty, List := ([] : List api_Item) })] [] := by
  refine ob_build hop hd fun a g hh => ?_
  obtain ⟨c0, k0, e0⟩ := h0 a g hh
  obtain rfl := k0
  obtain ⟨c1, k1, e1⟩ := h1 a g hh
  obtain rfl := k1
  refine ⟨.agg #[.int .i64 v0, .int .i64 v1, .int .i64 0, .int .i64 0, .float .f64 0, .int .i64 0, .string ByteArray.empty, .slice none 0 0], ?_, [.int .i64 v0, .int .i64 v1, .int .i64 0, .int .i64 0, .float .f64 0, .int .i64 0, .string ByteArray.empty, .slice none 0 0], ⟨rfl, (List.forall_mem_cons.2 ⟨rfl, (List.forall_mem_cons.2 ⟨rfl, (List.forall_mem_cons.2 ⟨(rfl), (List.forall_mem_cons.2 ⟨(rfl), (List.forall_mem_cons.2 ⟨(rfl), (List.forall_mem_cons.2 ⟨(rfl), (List.forall_mem_cons.2 ⟨(rfl), (List.forall_mem_cons.2 ⟨(⟨none, 0, rfl, Nat.le_refl _, Nat.zero_le _, .inl rfl⟩), (fun _ h => by cases h)⟩)⟩)⟩)⟩)⟩)⟩)⟩)⟩)⟩, rfl⟩
  simp only [List.map_toArray, List.map_cons, List.map_nil, e0, e1]
  exact run_build Try.underlying38 (zero := .agg #[.int .i64 0, .int .i64 0, .int .i64 0, .int .i64 0, .float .f64 0, .int .i64 0, .string ByteArray.empty, .slice none 0 0]) (by kernel_rfl) (places := [(0, 1), (1, 1), (2, 1), (3, 1), (4, 1), (5, 1), (6, 1), (7, 1)]) (by kernel_rfl) (by kernel_rfl) g.w
theorem en_20 : Enters Try.prog 20 := by
  unfold Enters
  kernel_rfl
theorem en_12 : Enters Try.prog 12 := by
  unfold Enters
  kernel_rfl
theorem en_18 : Enters Try.prog 18 := by
  unfold Enters
  kernel_rfl
theorem sz_40 : (Try.prog.info? 40).map (·.size) = some k_moietylaw09_Op.sz := by kernel_rfl
theorem ty_40 : Ty Try.prog 40 k_moietylaw09_Op := ⟨by kernel_rfl, by kernel_rfl⟩
theorem fl_40_1 : Fld Try.prog 40 1 k_moietylaw09_Op Kd.str (fun x : moietylaw09_Op => x.Key) := Fld.of ⟨_, Kd.str, 1, fun x : moietylaw09_Op => x.Key⟩ (List.mem_of_getElem? (i := 1) rfl) 1 rfl (by kernel_rfl) (by decide)
theorem fl_40_2 : Fld Try.prog 40 2 k_moietylaw09_Op k_api_Record (fun x : moietylaw09_Op => x.Rec) := Fld.of ⟨_, k_api_Record, 2, fun x : moietylaw09_Op => x.Rec⟩ (List.mem_of_getElem? (i := 2) rfl) 2 rfl (by kernel_rfl) (by decide)
theorem en_30 : Enters Try.prog 30 := by
  unfold Enters
  kernel_rfl
theorem en_38 : Enters Try.prog 38 := by
  unfold Enters
  kernel_rfl
theorem en_54 : Enters Try.prog 54 := by
  unfold Enters
  kernel_rfl
theorem fl_34_0 : Fld Try.prog 34 0 k_moietyref09_Shelf k_moietyref09_Pair.sl (fun x : moietyref09_Shelf => x.L) := Fld.of ⟨_, k_moietyref09_Pair.sl, 0, fun x : moietyref09_Shelf => x.L⟩ (List.mem_of_getElem? (i := 0) rfl) 0 rfl (by kernel_rfl) (by decide)
theorem ty_32 : Ty Try.prog 32 k_moietyref09_Pair.sl := ⟨by kernel_rfl, by kernel_rfl⟩
theorem sz_54 : (Try.prog.info? 54).map (·.size) = some k_moietyref09_Pair.sz := by kernel_rfl
theorem fl_54_0 : Fld Try.prog 54 0 k_moietyref09_Pair Kd.str (fun x : moietyref09_Pair => x.Key) := Fld.of ⟨_, Kd.str, 0, fun x : moietyref09_Pair => x.Key⟩ (List.mem_of_getElem? (i := 0) rfl) 0 rfl (by kernel_rfl) (by decide)
theorem ty_34 : Ty Try.prog 34 k_moietyref09_Shelf := ⟨by kernel_rfl, by kernel_rfl⟩
theorem en_15 : Enters Try.prog 15 := by
  unfold Enters
  kernel_rfl
theorem te_32 : TE Try.prog 32 54 k_moietyref09_Pair 104 := TE.of Try.underlying32 (by kernel_rfl) (by decide) (by decide)
theorem fl_34_1 : Fld Try.prog 34 1 k_moietyref09_Shelf (Kd.int .i64) (fun x : moietyref09_Shelf => x.Room) := Fld.of ⟨_, (Kd.int .i64), 1, fun x : moietyref09_Shelf => x.Room⟩ (List.mem_of_getElem? (i := 1) rfl) 1 rfl (by kernel_rfl) (by decide)
theorem bd_34_0_1 {N d : Nat} {o : Oper} {uses : Slots} {x0 : Operand} {x1 : Operand} {v0 : List moietyref09_Pair} {v1 : Int} (hop : o.op = .build 34 #[(0, x0), (1, x1)]) (hd : o.dst = some d) (h0 : Opd uses x0 (k_moietyref09_Pair.sl.pd v0)) (h1 : Opd uses x1 ((Kd.int .i64).pd v1)) : OB Try.prog N o uses [(d, k_moietyref09_Shelf.pd { L := v0, Room := v1 })] [] := by
  refine ob_build hop hd fun a g hh => ?_
  obtain ⟨c0, k0, e0⟩ := h0 a g hh
  obtain ⟨A0, n0, rfl, l0⟩ := k0
  obtain ⟨c1, k1, e1⟩ := h1 a g hh
  obtain rfl := k1
  refine ⟨.agg #[.slice A0 v0.length n0, .int .i64 v1], ?_, [.slice A0 v0.length n0, .int .i64 v1], ⟨rfl, (List.forall_mem_cons.2 ⟨⟨A0, n0, rfl, l0⟩, (List.forall_mem_cons.2 ⟨rfl, (fun _ h => by cases h)⟩)⟩)⟩, rfl⟩
  simp only [List.map_toArray, List.map_cons, List.map_nil, e0, e1]
  exact run_build Try.underlying34 (zero := .agg #[.slice none 0 0, .int .i64 0]) (by kernel_rfl) (places := [(0, 1), (1, 1)]) (by kernel_rfl) (by kernel_rfl) g.w
theorem en_64 : Enters Try.prog 64 := by
  unfold Enters
  kernel_rfl
theorem en_65 : Enters Try.prog 65 := by
  unfold Enters
  kernel_rfl
theorem en_53 : Enters Try.prog 53 := by
  unfold Enters
  kernel_rfl
theorem en_37 : Enters Try.prog 37 := by
  unfold Enters
  kernel_rfl
theorem en_66 : Enters Try.prog 66 := by
  unfold Enters
  kernel_rfl
theorem sz_9 : (Try.prog.info? 9).map (·.size) = some Kd.str.sz := by kernel_rfl
theorem en_58 : Enters Try.prog 58 := by
  unfold Enters
  kernel_rfl
theorem en_67 : Enters Try.prog 67 := by
  unfold Enters
  kernel_rfl
theorem en_57 : Enters Try.prog 57 := by
  unfold Enters
  kernel_rfl
theorem en_56 : Enters Try.prog 56 := by
  unfold Enters
  kernel_rfl
theorem en_59 : Enters Try.prog 59 := by
  unfold Enters
  kernel_rfl
theorem en_45 : Enters Try.prog 45 := by
  unfold Enters
  kernel_rfl
theorem bd_54_0_1 {N d : Nat} {o : Oper} {uses : Slots} {x0 : Operand} {x1 : Operand} {v0 : ByteArray} {v1 : api_Record} (hop : o.op = .build 54 #[(0, x0), (1, x1)]) (hd : o.dst = some d) (h0 : Opd uses x0 (Kd.str.pd v0)) (h1 : Opd uses x1 (k_api_Record.pd v1)) : OB Try.prog N o uses [(d, k_moietyref09_Pair.pd { Key := v0, Rec := v1 })] [] := by
  refine ob_build hop hd fun a g hh => ?_
  obtain ⟨c0, k0, e0⟩ := h0 a g hh
  obtain rfl := k0
  obtain ⟨c1, k1, e1⟩ := h1 a g hh
  obtain ⟨u1_0, u1_1, u1_2, u1_3, u1_4, u1_5, u1_6, u1_7, rfl⟩ := len_8 (k_api_Record.len k1)
  refine ⟨.agg #[.string v0, u1_0, u1_1, u1_2, u1_3, u1_4, u1_5, u1_6, u1_7], ?_, [.string v0, u1_0, u1_1, u1_2, u1_3, u1_4, u1_5, u1_6, u1_7], ⟨rfl, (List.forall_mem_cons.2 ⟨rfl, (List.forall_mem_cons.2 ⟨k1, (fun _ h => by cases h)⟩)⟩)⟩, rfl⟩
  simp only [List.map_toArray, List.map_cons, List.map_nil, e0, e1]
  exact run_build Try.underlying54 (zero := .agg #[.string ByteArray.empty, .int .i64 0, .int .i64 0, .int .i64 0, .int .i64 0, .float .f64 0, .int .i64 0, .string ByteArray.empty, .slice none 0 0]) (by kernel_rfl) (places := [(0, 1), (1, 8)]) (by kernel_rfl) (by kernel_rfl) g.w
theorem fl_40_0 : Fld Try.prog 40 0 k_moietylaw09_Op Kd.bool (fun x : moietylaw09_Op => x.Cut) := Fld.of ⟨_, Kd.bool, 0, fun x : moietylaw09_Op => x.Cut⟩ (List.mem_of_getElem? (i := 0) rfl) 0 rfl (by kernel_rfl) (by decide)
theorem en_26 : Enters Try.prog 26 := by
  unfold Enters
  kernel_rfl
theorem en_31 : Enters Try.prog 31 := by
  unfold Enters
  kernel_rfl
theorem en_32 : Enters Try.prog 32 := by
  unfold Enters
  kernel_rfl
theorem en_8 : Enters Try.prog 8 := by
  unfold Enters
  kernel_rfl
theorem en_9 : Enters Try.prog 9 := by
  unfold Enters
  kernel_rfl
theorem bd_34_1 {N d : Nat} {o : Oper} {uses : Slots} {x1 : Operand} {v1 : Int} (hop : o.op = .build 34 #[(1, x1)]) (hd : o.dst = some d) (h1 : Opd uses x1 ((Kd.int .i64).pd v1)) : OB Try.prog N o uses [(d, k_moietyref09_Shelf.pd { L := ([] : List moietyref09_Pair), Room := v1 })] [] := by
  refine ob_build hop hd fun a g hh => ?_
  obtain ⟨c1, k1, e1⟩ := h1 a g hh
  obtain rfl := k1
  refine ⟨.agg #[.slice none 0 0, .int .i64 v1], ?_, [.slice none 0 0, .int .i64 v1], ⟨rfl, (List.forall_mem_cons.2 ⟨(⟨none, 0, rfl, Nat.le_refl _, Nat.zero_le _, .inl rfl⟩), (List.forall_mem_cons.2 ⟨rfl, (fun _ h => by cases h)⟩)⟩)⟩, rfl⟩
  simp only [List.map_toArray, List.map_cons, List.map_nil, e1]
  exact run_build Try.underlying34 (zero := .agg #[.slice none 0 0, .int .i64 0]) (by kernel_rfl) (places := [(0, 1), (1, 1)]) (by kernel_rfl) (by kernel_rfl) g.w
theorem en_11 : Enters Try.prog 11 := by
  unfold Enters
  kernel_rfl
theorem en_13 : Enters Try.prog 13 := by
  unfold Enters
  kernel_rfl
theorem fl_54_1 : Fld Try.prog 54 1 k_moietyref09_Pair k_api_Record (fun x : moietyref09_Pair => x.Rec) := Fld.of ⟨_, k_api_Record, 1, fun x : moietyref09_Pair => x.Rec⟩ (List.mem_of_getElem? (i := 1) rfl) 1 rfl (by kernel_rfl) (by decide)
theorem en_25 : Enters Try.prog 25 := by
  unfold Enters
  kernel_rfl
theorem en_19 : Enters Try.prog 19 := by
  unfold Enters
  kernel_rfl
theorem en_21 : Enters Try.prog 21 := by
  unfold Enters
  kernel_rfl
theorem ty_54 : Ty Try.prog 54 k_moietyref09_Pair := ⟨by kernel_rfl, by kernel_rfl⟩
theorem en_23 : Enters Try.prog 23 := by
  unfold Enters
  kernel_rfl
theorem en_24 : Enters Try.prog 24 := by
  unfold Enters
  kernel_rfl
theorem te_61 : TE Try.prog 61 28 k_shelf_Shelf 16 := TE.of Try.underlying61 (by kernel_rfl) (by decide) (by decide)
theorem te_62 : TE Try.prog 62 34 k_moietyref09_Shelf 32 := TE.of Try.underlying62 (by kernel_rfl) (by decide) (by decide)
theorem sz_28 : (Try.prog.info? 28).map (·.size) = some k_shelf_Shelf.sz := by kernel_rfl
theorem sz_34 : (Try.prog.info? 34).map (·.size) = some k_moietyref09_Shelf.sz := by kernel_rfl
theorem en_39 : Enters Try.prog 39 := by
  unfold Enters
  kernel_rfl
theorem en_41 : Enters Try.prog 41 := by
  unfold Enters
  kernel_rfl
theorem en_27 : Enters Try.prog 27 := by
  unfold Enters
  kernel_rfl
theorem en_28 : Enters Try.prog 28 := by
  unfold Enters
  kernel_rfl
end Go.CL

set_option linter.unusedVariables false
set_option linter.unusedSimpArgs false
set_option maxRecDepth 100000
namespace Go.CL
open Go Go.RowKit Go.Proofs
theorem shelf_New_ok (a0 : Int) {r : shelf_Shelf × Int} (h : shelf_New a0 = some r) : FnOk Try.prog 10 [(pInt .i64 a0)] (pTup [(k_shelf_Shelf.pd r.1), (pInt .i64 r.2)]) := by
  have H0 := h
  unfold shelf_New at H0
  clear h
  refine fn_ok (N := 13) Try.func10 rfl rfl (Nat.le_of_ble_eq_true rfl) rfl rfl (fun a g0 hst hb => ?_)
  refine r_s (L := [(0, _)]) (T := [⟨[], [(2, (pBox k_shelf_Shelf 2 (default : shelf_Shelf)))], [3], [], [2]⟩, ⟨[], _, [], [], [3]⟩]) (F := [.old 0, .op 0 0]) hst hb follows
    (o_p rfl (ob_alloc (zs := [.pointer none, .int .i64 0]) (by kernel_rfl) (fun g => zk_shelf_Shelf g) rfl rfl) <|
     o_p rfl (ob_assign rfl rfl c_i) <|
     o_n) (by kernel_rfl) (fun a g hst hb => ?_)
  refine wp_seq ?_
  refine r_s (L := [(0, _), (2, _)]) (T := [⟨[.old 0], _, [], [], [4]⟩, ⟨[.op 0 0], _, [], [0], [5]⟩, ⟨[.op 1 0], _, [], [0, 1], [6]⟩, ⟨[.op 2 0, .old 0], _, [], [0, 1, 2], [7]⟩, ⟨[.op 2 0, .op 3 0], _, [], List.range 4, [8]⟩, ⟨[.op 2 0, .op 4 0], _, [], List.range 5, [9]⟩]) (F := [.old 0, .old 1, .op 5 0]) hst hb follows
    (o_p rfl (ob_move rfl rfl u_0) <|
     o_p rfl (ob_lt rfl rfl u_0 c_i) <|
     o_p rfl (ob_move rfl rfl u_0) <|
     o_g (g_f rfl rfl rfl (fun hG => ob_move rfl rfl u_0)) <|
     o_g (g_f rfl rfl rfl (fun hG => ob_gt rfl rfl (Opd.gd hG u_0) c_i)) <|
     o_p rfl (ob_por rfl rfl u_0 (fun hz => (Opd.gd (bNF hz) u_1))) <|
     o_n) (by kernel_rfl) (fun a g hst hb => ?_)
  refine wp_cond_split (hst.bool 2 rfl) (fun hc1 => ?_) (fun hc1 => ?_)
  · replace H0 := ite_t hc1 H0
    refine r_s (L := [(2, _)]) (T := [⟨[], _, [], [], [10]⟩, ⟨[.op 0 0, .old 0], _, [3], [0], [2]⟩, ⟨[], _, [], [0, 1], [3]⟩]) (F := [.op 1 0, .op 2 0]) (hst.pick [1] rfl) hb follows
      (o_p rfl (bd_28_ rfl rfl ) <|
       o_p rfl (ob_store ty_28 rfl rfl u_1 u_0) <|
       o_p rfl (ob_assign rfl rfl c_i) <|
       o_n) (by kernel_rfl) (fun a g hst hb => ?_)
    refine wp_ret ?_
    refine then_r ?_
    obtain rfl := Option.some.inj H0
    obtain ⟨u0, hu0, hq0⟩ := res_box (P := Try.prog) ty_28 (hst.at 0 rfl)
    exact endR2 rfl hst hb hu0 (res_tmp (s := 3)) (pTup_2 hq0 (hst.at 1 rfl))
  · replace H0 := ite_f hc1 H0
    refine wp_skip ?_
    refine then_n ?_
    refine r_s (L := [(0, _), (2, _)]) (T := [⟨[.old 0], _, [], [], [11]⟩, ⟨[.op 0 0], _, [], [0], [12]⟩, ⟨[.op 1 0, .old 1], _, [3], [0, 1], [2]⟩, ⟨[], _, [], [0, 1, 2], [3]⟩]) (F := [.op 2 0, .op 3 0]) (hst.pick [0, 1] rfl) hb follows
      (o_p rfl (ob_move rfl rfl u_0) <|
       o_p rfl (bd_28_1 rfl rfl u_0) <|
       o_p rfl (ob_store ty_28 rfl rfl u_1 u_0) <|
       o_p rfl (ob_assign rfl rfl c_i) <|
       o_n) (by kernel_rfl) (fun a g hst hb => ?_)
    refine wp_ret ?_
    obtain rfl := Option.some.inj H0
    obtain ⟨u0, hu0, hq0⟩ := res_box (P := Try.prog) ty_28 (hst.at 0 rfl)
    exact endR2 rfl hst hb hu0 (res_tmp (s := 3)) (pTup_2 hq0 (hst.at 1 rfl))
end Go.CL

set_option linter.unusedVariables false
set_option linter.unusedSimpArgs false
set_option maxRecDepth 100000
namespace Go.CL
open Go Go.RowKit Go.Proofs
theorem shelf_node_count_ok (a0 : shelf_nodeT) {r : Int} (h : shelf_node_count a0 = some r) : FnOk Try.prog 33 [(k_shelf_nodeT.pd a0)] (pInt .i64 r) := by
  have H0 := h
  unfold shelf_node_count at H0
  clear h
  refine fn_ok (N := 9) Try.func33 rfl rfl (Nat.le_of_ble_eq_true rfl) rfl rfl (fun a g0 hst hb => ?_)
  refine r_s (L := [(0, _)]) (T := [⟨[], _, [], [], [2]⟩]) (F := [.old 0]) hst hb follows
    (o_p rfl (ob_assign rfl rfl c_i) <|
     o_n) (by kernel_rfl) (fun a g hst hb => ?_)
  refine wp_seq ?_
  refine r_s (L := [(0, _)]) (T := [⟨[.old 0], _, [], [], [3]⟩, ⟨[.op 0 0], _, [], [0], [4]⟩]) (F := [.old 0, .op 1 0]) hst hb follows
    (o_p rfl (ob_move rfl rfl u_0) <|
     o_p rfl (ob_peq Try.underlying26 rfl rfl u_0 (shelf_nodeT_isptr _)) <|
     o_n) (by kernel_rfl) (fun a g hst hb => ?_)
  refine wp_cond_split (hst.bool 1 rfl) (fun hc1 => ?_) (fun hc1 => ?_)
  · replace H0 := ite_t hc1 H0
    refine r_s (L := []) (T := [⟨[], _, [], [], [2]⟩]) (F := [.op 0 0]) (hst.pick [] rfl) hb follows
      (o_p rfl (ob_assign rfl rfl c_i) <|
       o_n) (by kernel_rfl) (fun a g hst hb => ?_)
    refine wp_ret ?_
    refine then_r ?_
    obtain rfl := Option.some.inj H0
    exact endR1 rfl hst hb (res_tmp (s := 2)) (hst.at 0 rfl)
  · replace H0 := ite_f hc1 H0
    refine wp_skip ?_
    refine then_n ?_
    obtain ⟨n2, h3, H0⟩ := of_bind H0
    refine r_s (L := [(0, _)]) (T := [⟨[.old 0], _, [], [], [5]⟩, ⟨[.op 0 0], _, [], [0], [6]⟩, ⟨[.op 1 0], _, [], [0, 1], [7]⟩, ⟨[.op 2 0], _, [], [0, 1, 2], [8]⟩, ⟨[.op 3 0], _, [], List.range 4, [2]⟩]) (F := [.op 4 0]) (hst.pick [0] rfl) hb follows
      (o_p rfl (ob_move rfl rfl u_0) <|
       o_p rfl (ob_nilCheck rfl rfl (Opd.imp u_0 (fun _ _ h => shelf_nodeT_node h3 h)) (fun _ _ ⟨_, _, _, e, _⟩ => ⟨_, e⟩)) <|
       o_p rfl (ob_fieldAddr fl_75_4 rfl rfl u_0) <|
       o_p rfl (ob_load ty_3 rfl rfl u_0) <|
       o_p rfl (ob_assign rfl rfl u_0) <|
       o_n) (by kernel_rfl) (fun a g hst hb => ?_)
    refine wp_ret ?_
    obtain rfl := Option.some.inj H0
    exact endR1 rfl hst hb (res_tmp (s := 2)) (hst.at 0 rfl)
end Go.CL

set_option linter.unusedVariables false
set_option linter.unusedSimpArgs false
set_option maxRecDepth 100000
namespace Go.CL
open Go Go.RowKit Go.Proofs
theorem shelf_Shelf_Rank_ok (a0 : shelf_Shelf) (a1 : ByteArray) {r : Int} (h : shelf_Shelf_Rank a0 a1 = some r) : FnOk Try.prog 14 [(k_shelf_Shelf.pd a0), (pStr a1)] (pInt .i64 r) := by
  have H0 := h
  unfold shelf_Shelf_Rank at H0
  clear h
  refine fn_ok (N := 34) Try.func14 rfl rfl (Nat.le_of_ble_eq_true rfl) rfl rfl (fun a g0 hst hb => ?_)
  refine r_s (L := [(0, _), (1, _)]) (T := [⟨[.old 0], _, [], [], [2]⟩, ⟨[], _, [], [], [4]⟩]) (F := [.old 1, .op 0 0]) hst hb follows
    (o_p rfl (ob_box1 rfl rfl u_0) <|
     o_p rfl (ob_assign rfl rfl c_i) <|
     o_n) (by kernel_rfl) (fun a g hst hb => ?_)
  refine r_s (L := [(1, _), (2, _)]) (T := [⟨[], _, [], [], [5]⟩]) (F := [.old 0, .old 1, .op 0 0]) hst hb follows
    (o_p rfl (ob_assign rfl rfl c_i) <|
     o_n) (by kernel_rfl) (fun a g hst hb => ?_)
  refine wp_seq ?_
  refine r_s (L := [(1, _), (2, _), (5, _)]) (T := [⟨[.old 1], _, [], [], [7]⟩, ⟨[.op 0 0], _, [], [0], [8]⟩, ⟨[.op 1 0], _, [], [0, 1], [6]⟩]) (F := [.old 0, .old 2, .op 2 0]) hst hb follows
    (o_p rfl (ob_fieldAddr fl_28_0 rfl rfl u_0) <|
     o_p rfl (ob_load ty_26 rfl rfl u_0) <|
     o_p rfl (ob_assign rfl rfl u_0) <|
     o_n) (by kernel_rfl) (fun a g hst hb => ?_)
  obtain ⟨z12, hz1, H0⟩ := of_bind H0
  refine wp_cut (fun a w => ∃ (y11 : Int) (g : G), w = g.w ∧ St 34 [(5, (pInt .i64 y11))] a g ∧ Base g0 g ∧ y11 = z12) ?_ ?_
  · rintro a w ⟨y11, g, rfl, hst, hb, rfl⟩
    refine then_n ?_
    refine r_s (L := [(5, _)]) (T := [⟨[.old 0], _, [], [], [33]⟩, ⟨[.op 0 0], _, [], [0], [4]⟩]) (F := [.op 1 0]) hst hb follows
      (o_p rfl (ob_move rfl rfl u_0) <|
       o_p rfl (ob_assign rfl rfl u_0) <|
       o_n) (by kernel_rfl) (fun a g hst hb => ?_)
    refine wp_ret ?_
    obtain rfl := Option.some.inj H0
    exact endR1 rfl hst hb (res_tmp (s := 4)) (hst.at 0 rfl)
  · refine wp_block ?_
    refine wp_loop_ghost (fun n a w => ∃ (x1 : Int) (x2 : shelf_nodeT) (g : G), w = g.w ∧ St 34 [(1, (pStr a1)), (5, (pInt .i64 x1)), (6, (k_shelf_nodeT.pd x2))] a g ∧ Base g0 g ∧ shelf_Shelf_Rank_l1 a1 n x1 x2 = some z12) (a0.top.hh + 1) ⟨(0 : Int), a0.top, g, rfl, (hst.pick [0, 1, 2] rfl), hb, hz1⟩ (fun n a w hI => ?_)
    obtain ⟨x1, x2, g, rfl, hst, hb, H1⟩ := hI
    cases n with
    | zero => exact absurd H1 (by simp [shelf_Shelf_Rank_l1])
    | succ n =>
      rw [shelf_Shelf_Rank_l1] at H1
      refine wp_seq ?_
      refine r_s (L := [(1, _), (5, _), (6, _)]) (T := [⟨[.old 2], _, [], [], [9]⟩, ⟨[.op 0 0], _, [], [0], [10]⟩]) (F := [.old 0, .old 1, .old 2, .op 1 0]) hst hb follows
        (o_p rfl (ob_move rfl rfl u_0) <|
         o_p rfl (ob_pne Try.underlying26 rfl rfl u_0 (shelf_nodeT_isptr _)) <|
         o_n) (by kernel_rfl) (fun a g hst hb => ?_)
      refine wp_cond_split (hst.bool 3 rfl) (fun hc3 => ?_) (fun hc3 => ?_)
      · replace H1 := ite_t hc3 H1
        refine wp_skip ?_
        refine then_n ?_
        refine wp_cut (fun a w => ∃ (j9 : Int) (j10 : shelf_nodeT) (g : G), w = g.w ∧ St 34 [(1, (pStr a1)), (5, (pInt .i64 j9)), (6, (k_shelf_nodeT.pd j10))] a g ∧ Base g0 g ∧ shelf_Shelf_Rank_j1 (shelf_Shelf_Rank_l1 a1 n) j9 j10 = some z12) ?_ ?_
        · rintro a w ⟨j9, j10, g, rfl, hst, hb, H1⟩
          unfold shelf_Shelf_Rank_j1 at H1
          exact ⟨n, Nat.lt_succ_self _, j9, j10, g, rfl, (hst.pick [0, 1, 2] rfl), hb, H1⟩
        · refine wp_block ?_
          refine wp_seq ?_
          obtain ⟨n4, h5, H1⟩ := of_bind H1
          refine r_s (L := [(1, _), (5, _), (6, _)]) (T := [⟨[.old 0], _, [], [], [11]⟩, ⟨[.old 2], _, [], [], [12]⟩, ⟨[.op 1 0], _, [], [1], [13]⟩, ⟨[.op 2 0], _, [], [1, 2], [14]⟩, ⟨[.op 3 0], _, [], [1, 2, 3], [15]⟩, ⟨[.op 0 0, .op 4 0], _, [], List.range 5, [16]⟩]) (F := [.old 0, .old 1, .old 2, .op 5 0]) (hst.pick [0, 1, 2] rfl) hb follows
            (o_p rfl (ob_move rfl rfl u_0) <|
             o_p rfl (ob_move rfl rfl u_0) <|
             o_p rfl (ob_nilCheck rfl rfl (Opd.imp u_0 (fun _ _ h => shelf_nodeT_node h5 h)) (fun _ _ ⟨_, _, _, e, _⟩ => ⟨_, e⟩)) <|
             o_p rfl (ob_fieldAddr fl_75_0 rfl rfl u_0) <|
             o_p rfl (ob_load ty_9 rfl rfl u_0) <|
             o_p rfl (ob_sle rfl rfl u_0 u_1) <|
             o_n) (by kernel_rfl) (fun a g hst hb => ?_)
          refine wp_cond_split (hst.bool 3 rfl) (fun hc6 => ?_) (fun hc6 => ?_)
          · replace H1 := ite_t hc6 H1
            refine r_s (L := [(1, _), (5, _), (6, _)]) (T := [⟨[.old 2], _, [], [], [17]⟩, ⟨[.op 0 0], _, [], [0], [18]⟩, ⟨[.op 1 0], _, [], [0, 1], [19]⟩, ⟨[.op 2 0], _, [], [0, 1, 2], [20]⟩, ⟨[.op 3 0], _, [], List.range 4, [6]⟩]) (F := [.old 0, .old 1, .op 4 0]) (hst.pick [0, 1, 2] rfl) hb follows
              (o_p rfl (ob_move rfl rfl u_0) <|
               o_p rfl (ob_nilCheck rfl rfl (Opd.imp u_0 (fun _ _ h => shelf_nodeT_node h5 h)) (fun _ _ ⟨_, _, _, e, _⟩ => ⟨_, e⟩)) <|
               o_p rfl (ob_fieldAddr fl_75_2 rfl rfl u_0) <|
               o_p rfl (ob_load ty_26 rfl rfl u_0) <|
               o_p rfl (ob_assign rfl rfl u_0) <|
               o_n) (by kernel_rfl) (fun a g hst hb => ?_)
            refine wp_exit ?_
            refine then_e ?_
            refine inBlock_e ?_
            exact ⟨x1, n4.left, g, rfl, (hst.pick [0, 1, 2] rfl), hb, H1⟩
          · replace H1 := ite_f hc6 H1
            refine wp_skip ?_
            refine then_n ?_
            obtain ⟨r7, h8, H1⟩ := of_bind H1
            refine r_s (L := [(1, _), (5, _), (6, _)]) (T := [⟨[.old 1], _, [], [], [21]⟩, ⟨[.old 2], _, [], [], [22]⟩, ⟨[.op 1 0], _, [], [1], [23]⟩, ⟨[.op 2 0], _, [], [1, 2], [24]⟩, ⟨[.op 3 0], _, [], [1, 2, 3], [25]⟩, ⟨[.op 4 0], _, [], List.range' 1 4, [26]⟩, ⟨[.op 5 0], _, [], List.range' 1 5, [27]⟩, ⟨[.op 0 0, .op 6 0], _, [], List.range 7, [28]⟩, ⟨[.op 7 0], _, [], List.range 8, [5]⟩]) (F := [.old 0, .op 8 0, .old 2]) (hst.pick [0, 1, 2] rfl) hb follows
              (o_p rfl (ob_move rfl rfl u_0) <|
               o_p rfl (ob_move rfl rfl u_0) <|
               o_p rfl (ob_nilCheck rfl rfl (Opd.imp u_0 (fun _ _ h => shelf_nodeT_node h5 h)) (fun _ _ ⟨_, _, _, e, _⟩ => ⟨_, e⟩)) <|
               o_p rfl (ob_fieldAddr fl_75_2 rfl rfl u_0) <|
               o_p rfl (ob_load ty_26 rfl rfl u_0) <|
               o_p rfl (ob_call en_33 (shelf_node_count_ok _ h8) rfl rfl (.cons u_0 .nil)) <|
               o_p rfl (ob_add rfl rfl u_0 c_i rfl) <|
               o_p rfl (ob_add rfl rfl u_0 u_1 rfl) <|
               o_p rfl (ob_assign rfl rfl u_0) <|
               o_n) (by kernel_rfl) (fun a g hst hb => ?_)
            refine r_g (L := [(1, _), (5, _), (6, _)]) (T := [⟨[.old 2], _, [], [], [29]⟩, ⟨[.op 0 0], _, [], [0], [30]⟩, ⟨[.op 1 0], _, [], [0, 1], [31]⟩, ⟨[.op 2 0], _, [], [0, 1, 2], [32]⟩, ⟨[.op 3 0], _, [], List.range 4, [6]⟩]) (F := [.old 0, .old 1, .op 4 0]) hst hb follows
              (o_p rfl (ob_move rfl rfl u_0) <|
               o_p rfl (ob_nilCheck rfl rfl (Opd.imp u_0 (fun _ _ h => shelf_nodeT_node h5 h)) (fun _ _ ⟨_, _, _, e, _⟩ => ⟨_, e⟩)) <|
               o_p rfl (ob_fieldAddr fl_75_3 rfl rfl u_0) <|
               o_p rfl (ob_load ty_26 rfl rfl u_0) <|
               o_p rfl (ob_assign rfl rfl u_0) <|
               o_n) (by kernel_rfl) (fun a g hst hb => ?_)
            refine inBlock_n ?_
            exact ⟨(IntKind.i64.wrap (x1 + (IntKind.i64.wrap (r7 + (1 : Int))))), n4.right, g, rfl, (hst.pick [0, 1, 2] rfl), hb, H1⟩
      · replace H1 := ite_f hc3 H1
        refine wp_exit ?_
        refine then_e ?_
        refine then_e ?_
        refine inBlock_e ?_
        exact ⟨x1, g, rfl, (hst.pick [1] rfl), hb, Option.some.inj H1⟩
end Go.CL

set_option linter.unusedVariables false
set_option linter.unusedSimpArgs false
set_option maxRecDepth 100000
namespace Go.CL
open Go Go.RowKit Go.Proofs
theorem slices_Clone_api_Item_api_Item_ok (a0 : (List api_Item)) {r : (List api_Item)} (h : slices_Clone_api_Item_api_Item a0 = some r) : FnOk Try.prog 46 [(k_api_Item.sl.pd a0)] (k_api_Item.sl.pd r) := by
  unfold slices_Clone_api_Item_api_Item at h
  obtain ⟨hsz, H0⟩ := of_ite h
  obtain rfl := Option.some.inj H0
  refine fn_ok (N := 8) Try.func46 rfl rfl (Nat.le_of_ble_eq_true rfl) rfl rfl (fun a g0 hst hb => ?_)
  refine wp_seq ?_
  refine wp_reg follows (N := 8) (L := [(0, (k_api_Item.sl.pd a0))]) (T := [⟨[], [(2, (k_api_Item.sl.pd []))], [], [], [2]⟩]) (F := [.old 0]) (by kernel_rfl)
    (allOT_cons (OT.plain rfl (ob_assign rfl rfl (Opd.c (fun g => sl_nil_q g)))) allOT_nil) hst hb (fun a g hst hb => ?_)
  refine then_n ?_
  refine wp_seq ?_
  refine wp_seq ?_
  refine wp_reg follows (N := 8) (L := [(0, (k_api_Item.sl.pd a0))]) (T := [⟨[.old 0], [(3, (k_api_Item.sl.pd a0))], [], [], [3]⟩, ⟨[.op 0 0], [(4, pNilB a0)], [], [0], [4]⟩]) (F := [.old 0, .op 1 0]) (by kernel_rfl)
    (allOT_cons (OT.plain rfl (ob_move rfl rfl Opd.t0)) (allOT_cons (OT.plain rfl (ob_snil Try.underlying36 rfl rfl Opd.t0)) allOT_nil)) hst hb (fun a g hst hb => ?_)
  refine then_n ?_
  obtain ⟨c, hc, hc'⟩ := hst.at 1 rfl
  refine wp_cond_split hc (fun ht => ?_) (fun hf => ?_)
  · obtain rfl := hc' ht
    refine wp_seq ?_
    refine wp_reg follows (N := 8) (L := []) (T := [⟨[], [(2, (k_api_Item.sl.pd []))], [], [], [2]⟩]) (F := [.op 0 0]) (by kernel_rfl)
      (allOT_cons (OT.plain rfl (ob_assign rfl rfl (Opd.c (fun g => sl_nil_q g)))) allOT_nil) (hst.pick [] rfl) hb (fun a g hst hb => ?_)
    refine then_n ?_
    refine wp_ret ?_
    refine then_r ?_
    exact endR1 rfl hst hb (res_tmp (s := 2)) (hst.at 0 rfl)
  · refine wp_skip ?_
    refine then_n ?_
    refine wp_seq ?_
    have hsz' : (([] : (List api_Item)).length + a0.length) * 24 ≤ 140737488355328 := by simpa using hsz
    refine wp_reg follows (N := 8) (L := [(0, (k_api_Item.sl.pd a0))]) (T := [⟨[], [(5, (pRow k_api_Item 64 5 []))], [6], [], [5]⟩, ⟨[.old 0], [(6, (k_api_Item.sl.pd a0))], [], [], [6]⟩, ⟨[.op 0 0, .op 1 0], [(7, (pRow k_api_Item 64 5 ([] ++ a0)))], [6], [0, 1], [5, 7]⟩, ⟨[.op 2 0], [(2, (pRow k_api_Item 64 5 ([] ++ a0)))], [], [0, 1, 2], [2]⟩]) (F := [.op 3 0]) (by kernel_rfl)
      (allOT_cons (OT.plain rfl (ob_litRow 5 te_36 (xs := []) .nil (by decide) rfl rfl)) (allOT_cons (OT.plain rfl (ob_move rfl rfl Opd.t0)) (allOT_cons (OT.plain rfl (ob_append te_36 rfl rfl Opd.t0 (Opd.tl Opd.t0) hsz')) (allOT_cons (OT.plain rfl (ob_assign rfl rfl Opd.t0)) allOT_nil)))) (hst.pick [0] rfl) hb (fun a g hst hb => ?_)
    refine then_n ?_
    refine wp_ret ?_
    exact endR1 rfl hst hb (res_tmp (s := 2)) (pRow_read (hst.at 0 rfl))
theorem slices_Clone_api_Item_api_Item_fresh (a0 : (List api_Item)) {r : (List api_Item)} (h : slices_Clone_api_Item_api_Item a0 = some r) : FnFresh Try.prog 46 [(k_api_Item.sl.pd a0)] k_api_Item 64 r := by
  unfold slices_Clone_api_Item_api_Item at h
  obtain ⟨hsz, H0⟩ := of_ite h
  obtain rfl := Option.some.inj H0
  refine fnFresh_ok (N := 8) Try.func46 rfl rfl (Nat.le_of_ble_eq_true rfl) rfl (fun a g0 h0 hst hb => ?_)
  refine r_s (L := [(0, _)]) (T := [⟨[], [(2, (k_api_Item.sl.pd []))], [], [], [2]⟩]) (F := [.old 0]) hst hb follows
    (o_p rfl (ob_assign rfl rfl (Opd.c (fun g => sl_nil_q g))) <| o_n) (by kernel_rfl) (fun a g hst hb => ?_)
  refine wp_seq ?_
  refine r_s (L := [(0, _)]) (T := [⟨[.old 0], _, [], [], [3]⟩, ⟨[.op 0 0], _, [], [0], [4]⟩]) (F := [.old 0, .op 1 0]) hst hb follows
    (o_p rfl (ob_move rfl rfl u_0) <| o_p rfl (ob_snil Try.underlying36 rfl rfl u_0) <| o_n) (by kernel_rfl) (fun a g hst hb => ?_)
  obtain ⟨c, hc, hc'⟩ := hst.at 1 rfl
  refine wp_cond_split hc (fun ht => ?_) (fun hf => ?_)
  · obtain rfl := hc' ht
    refine r_s (L := []) (T := [⟨[], [(2, (pEq (.slice none 0 0)))], [], [], [2]⟩]) (F := [.op 0 0]) (hst.pick [] rfl) hb follows
      (o_p rfl (ob_assign rfl rfl (Opd.c (fun g => rfl))) <| o_n) (by kernel_rfl) (fun a g hst hb => ?_)
    refine wp_ret ?_
    refine then_r ?_
    exact endFreshNil rfl hst hb (res_tmp (s := 2)) ⟨none, hst.at 0 rfl⟩
  · refine wp_skip ?_
    refine then_n ?_
    refine r_s (L := [(0, _)]) (T := [⟨[], [(5, (pOwn k_api_Item 64 5 (some 0) (([] : (List api_Item)).map some)))], [6], [], [5]⟩, ⟨[.old 0], _, [], [], [6]⟩, ⟨[.op 0 0, .op 1 0], _, [6], [0, 1], [5, 7]⟩, ⟨[.op 2 0], _, [], [0, 1, 2], [2]⟩]) (F := [.op 3 0]) (hst.pick [0] rfl) hb follows
      (o_p rfl (ob_litOwn (ty := 0) te_36 rfl rfl) <| o_p rfl (ob_move rfl rfl u_0) <| o_p rfl (ob_appendO te_36 rfl rfl u_0 u_1 (by simpa using hsz)) <| o_p rfl (ob_assign rfl rfl u_0) <| o_n) (by kernel_rfl) (fun a g hst hb => ?_)
    refine wp_ret ?_
    exact endFresh rfl h0 hst hb (res_tmp (s := 2)) (hst.at 0 rfl)
end Go.CL

set_option linter.unusedVariables false
set_option linter.unusedSimpArgs false
set_option maxRecDepth 100000
namespace Go.CL
open Go Go.RowKit Go.Proofs
theorem rec_Clone_ok (a0 : api_Record) {r : api_Record} (h : rec_Clone a0 = some r) : FnOk Try.prog 34 [(k_api_Record.pd a0)] (k_api_Record.pd r) := by
  have H0 := h
  unfold rec_Clone at H0
  clear h
  refine fn_ok (N := 8) Try.func34 rfl rfl (Nat.le_of_ble_eq_true rfl) rfl rfl (fun a g0 hst hb => ?_)
  refine r_s (L := [(0, _)]) (T := [⟨[.old 0], _, [2], [], [1]⟩, ⟨[], [(2, (pBox k_api_Record 2 (default : api_Record)))], [3], [], [2]⟩]) (F := [.op 0 0, .op 1 0]) hst hb follows
    (o_p rfl (ob_boxM rfl rfl u_0) <|
     o_p rfl (ob_alloc (zs := [.int .i64 0, .int .i64 0, .int .i64 0, .int .i64 0, .float .f64 0, .int .i64 0, .string ByteArray.empty, .slice none 0 0]) (by kernel_rfl) (fun g => zk_api_Record g) rfl rfl) <|
     o_n) (by kernel_rfl) (fun a g hst hb => ?_)
  obtain ⟨r1, h2, H0⟩ := of_bind H0
  refine r_s (L := [(1, _), (2, _)]) (T := [⟨[.old 0], _, [], [], [3]⟩, ⟨[.op 0 0], _, [], [0], [4]⟩, ⟨[.op 1 0], _, [], [0, 1], [5]⟩, ⟨[.old 0], _, [], [0, 1, 2], [6]⟩, ⟨[.op 2 0, .op 3 0, .old 0], _, [2], List.range 4, [1, 3, 6]⟩]) (F := [.op 4 0, .old 1]) hst hb follows
    (o_p rfl (ob_fieldAddrM fl_38_7 (off := 7) (by kernel_rfl) rfl rfl u_0) <|
     o_p rfl (ob_loadP ty_36 rfl rfl u_0) <|
     o_p rfl (ob_call en_46 (slices_Clone_api_Item_api_Item_ok _ h2) rfl rfl (.cons u_0 .nil)) <|
     o_p rfl (ob_fieldAddrM fl_38_7 (off := 7) (by kernel_rfl) rfl rfl u_0) <|
     o_p rfl (wi_38_7 ty_36 rfl rfl u_2 u_1 u_0) <|
     o_n) (by kernel_rfl) (fun a g hst hb => ?_)
  refine r_s (L := [(1, _), (2, _)]) (T := [⟨[.old 0], _, [], [], [7]⟩, ⟨[.op 0 0, .old 1], _, [3], [0], [2]⟩]) (F := [.op 1 0]) hst hb follows
    (o_p rfl (ob_loadM ty_38 rfl rfl u_0) <|
     o_p rfl (ob_store ty_38 rfl rfl u_1 u_0) <|
     o_n) (by kernel_rfl) (fun a g hst hb => ?_)
  refine wp_ret ?_
  obtain rfl := Option.some.inj H0
  obtain ⟨u0, hu0, hq0⟩ := res_box (P := Try.prog) ty_38 (hst.at 0 rfl)
  exact endR1 rfl hst hb hu0 hq0
end Go.CL

set_option linter.unusedVariables false
set_option linter.unusedSimpArgs false
set_option maxRecDepth 100000
namespace Go.CL
open Go Go.RowKit Go.Proofs
theorem shelf_Shelf_At_ok (a0 : shelf_Shelf) (a1 : Int) {r : ByteArray × api_Record × Bool} (h : shelf_Shelf_At a0 a1 = some r) : FnOk Try.prog 16 [(k_shelf_Shelf.pd a0), (pInt .i64 a1)] (pTup [(pStr r.1), (k_api_Record.pd r.2.1), (pBool r.2.2)]) := by
  have H0 := h
  unfold shelf_Shelf_At at H0
  clear h
  refine fn_ok (N := 48) Try.func16 rfl rfl (Nat.le_of_ble_eq_true rfl) rfl rfl (fun a g0 hst hb => ?_)
  refine r_s (L := [(0, _), (1, _)]) (T := [⟨[.old 0], _, [], [], [2]⟩, ⟨[], _, [], [], [4]⟩, ⟨[], [(5, (pBox k_api_Record 5 (default : api_Record)))], [6], [], [5]⟩, ⟨[], _, [], [1], [6]⟩]) (F := [.old 1, .op 0 0, .op 2 0]) hst hb follows
    (o_p rfl (ob_box1 rfl rfl u_0) <|
     o_p rfl (ob_assign rfl rfl c_s) <|
     o_p rfl (ob_alloc (zs := [.int .i64 0, .int .i64 0, .int .i64 0, .int .i64 0, .float .f64 0, .int .i64 0, .string ByteArray.empty, .slice none 0 0]) (by kernel_rfl) (fun g => zk_api_Record g) rfl rfl) <|
     o_p rfl (ob_assign rfl rfl c_b) <|
     o_n) (by kernel_rfl) (fun a g hst hb => ?_)
  refine wp_seq ?_
  refine r_s (L := [(1, _), (2, _), (5, _)]) (T := [⟨[.old 1], _, [], [], [9]⟩, ⟨[.op 0 0], _, [], [0], [10]⟩, ⟨[.op 1 0], _, [], [0, 1], [7]⟩]) (F := [.old 0, .old 2, .op 2 0]) hst hb follows
    (o_p rfl (ob_fieldAddr fl_28_0 rfl rfl u_0) <|
     o_p rfl (ob_load ty_26 rfl rfl u_0) <|
     o_p rfl (ob_assign rfl rfl u_0) <|
     o_n) (by kernel_rfl) (fun a g hst hb => ?_)
  obtain ⟨z16, hz1, H0⟩ := of_bind H0
  refine wp_cut (fun a w => ∃ (y15 : api_Record) (g : G), w = g.w ∧ St 48 [(5, (pBox k_api_Record 5 y15))] a g ∧ Base g0 g ∧ (.inr y15) = z16) ?_ ?_
  · rintro a w ⟨y15, g, rfl, hst, hb, rfl⟩
    refine then_n ?_
    refine r_s (L := [(5, _)]) (T := [⟨[], _, [], [], [47]⟩, ⟨[], _, [], [], [4]⟩, ⟨[.op 0 0, .old 0], _, [6], [0, 1], [5]⟩, ⟨[], _, [], [0, 1, 2], [6]⟩]) (F := [.op 1 0, .op 2 0, .op 3 0]) hst hb follows
      (o_p rfl (bd_38_ rfl rfl ) <|
       o_p rfl (ob_assign rfl rfl c_s) <|
       o_p rfl (ob_store ty_38 rfl rfl u_1 u_0) <|
       o_p rfl (ob_assign rfl rfl c_b) <|
       o_n) (by kernel_rfl) (fun a g hst hb => ?_)
    refine wp_ret ?_
    obtain rfl := Option.some.inj H0
    obtain ⟨u1, hu1, hq1⟩ := res_box (P := Try.prog) ty_38 (hst.at 1 rfl)
    exact endR3 rfl hst hb (res_tmp (s := 4)) hu1 (res_tmp (s := 6)) (pTup_3 (hst.at 0 rfl) hq1 (hst.at 2 rfl))
  · refine wp_block ?_
    refine wp_loop_ghost (fun n a w => ∃ (x1 : Int) (x2 : api_Record) (x3 : shelf_nodeT) (g : G), w = g.w ∧ St 48 [(1, (pInt .i64 x1)), (5, (pBox k_api_Record 5 x2)), (7, (k_shelf_nodeT.pd x3))] a g ∧ Base g0 g ∧ shelf_Shelf_At_l1 n x1 x2 x3 = some z16) (a0.top.hh + 1) ⟨a1, (default : api_Record), a0.top, g, rfl, (hst.pick [0, 1, 2] rfl), hb, hz1⟩ (fun n a w hI => ?_)
    obtain ⟨x1, x2, x3, g, rfl, hst, hb, H1⟩ := hI
    cases n with
    | zero => exact absurd H1 (by simp [shelf_Shelf_At_l1])
    | succ n =>
      rw [shelf_Shelf_At_l1] at H1
      refine wp_seq ?_
      refine r_s (L := [(1, _), (5, _), (7, _)]) (T := [⟨[.old 2], _, [], [], [11]⟩, ⟨[.op 0 0], _, [], [0], [12]⟩]) (F := [.old 0, .old 1, .old 2, .op 1 0]) hst hb follows
        (o_p rfl (ob_move rfl rfl u_0) <|
         o_p rfl (ob_pne Try.underlying26 rfl rfl u_0 (shelf_nodeT_isptr _)) <|
         o_n) (by kernel_rfl) (fun a g hst hb => ?_)
      refine wp_cond_split (hst.bool 3 rfl) (fun hc4 => ?_) (fun hc4 => ?_)
      · replace H1 := ite_t hc4 H1
        refine wp_skip ?_
        refine then_n ?_
        refine wp_cut (fun a w => ∃ (j13 : Int) (j14 : shelf_nodeT) (g : G), w = g.w ∧ St 48 [(1, (pInt .i64 j13)), (5, (pBox k_api_Record 5 x2)), (7, (k_shelf_nodeT.pd j14))] a g ∧ Base g0 g ∧ shelf_Shelf_At_j1 x2 (shelf_Shelf_At_l1 n) j13 j14 = some z16) ?_ ?_
        · rintro a w ⟨j13, j14, g, rfl, hst, hb, H1⟩
          unfold shelf_Shelf_At_j1 at H1
          exact ⟨n, Nat.lt_succ_self _, j13, x2, j14, g, rfl, (hst.pick [0, 1, 2] rfl), hb, H1⟩
        · refine wp_block ?_
          obtain ⟨n5, h6, H1⟩ := of_bind H1; obtain ⟨r7, h8, H1⟩ := of_bind H1
          refine r_s (L := [(1, _), (5, _), (7, _)]) (T := [⟨[.old 2], _, [], [], [13]⟩, ⟨[.op 0 0], _, [], [0], [14]⟩, ⟨[.op 1 0], _, [], [0, 1], [15]⟩, ⟨[.op 2 0], _, [], [0, 1, 2], [16]⟩, ⟨[.op 3 0], _, [], List.range 4, [17]⟩, ⟨[.op 4 0], _, [], List.range 5, [8]⟩]) (F := [.old 0, .old 1, .old 2, .op 5 0]) (hst.pick [0, 1, 2] rfl) hb follows
            (o_p rfl (ob_move rfl rfl u_0) <|
             o_p rfl (ob_nilCheck rfl rfl (Opd.imp u_0 (fun _ _ h => shelf_nodeT_node h6 h)) (fun _ _ ⟨_, _, _, e, _⟩ => ⟨_, e⟩)) <|
             o_p rfl (ob_fieldAddr fl_75_2 rfl rfl u_0) <|
             o_p rfl (ob_load ty_26 rfl rfl u_0) <|
             o_p rfl (ob_call en_33 (shelf_node_count_ok _ h8) rfl rfl (.cons u_0 .nil)) <|
             o_p rfl (ob_assign rfl rfl u_0) <|
             o_n) (by kernel_rfl) (fun a g hst hb => ?_)
          refine wp_block ?_
          refine r_s (L := [(1, _), (5, _), (7, _), (8, _)]) (T := [⟨[.old 0], _, [], [], [28]⟩, ⟨[.old 3], _, [], [], [29]⟩, ⟨[.op 0 0, .op 1 0], _, [], [0, 1], [30]⟩, ⟨[.op 2 0], _, [], [0, 1, 2], [27]⟩]) (F := [.old 0, .old 1, .old 2, .old 3, .op 3 0]) hst hb follows
            (o_p rfl (ob_move rfl rfl u_0) <|
             o_p rfl (ob_move rfl rfl u_0) <|
             o_p rfl (ob_lt rfl rfl u_0 u_1) <|
             o_p rfl (ob_assign rfl rfl u_0) <|
             o_n) (by kernel_rfl) (fun a g hst hb => ?_)
          refine wp_cond_split (hst.bool 4 rfl) (fun hc9 => ?_) (fun hc9 => ?_)
          · replace H1 := ite_t hc9 H1
            refine r_g (L := [(1, _), (5, _), (7, _)]) (T := [⟨[.old 2], _, [], [], [31]⟩, ⟨[.op 0 0], _, [], [0], [32]⟩, ⟨[.op 1 0], _, [], [0, 1], [33]⟩, ⟨[.op 2 0], _, [], [0, 1, 2], [34]⟩, ⟨[.op 3 0], _, [], List.range 4, [7]⟩]) (F := [.old 0, .old 1, .op 4 0]) (hst.pick [0, 1, 2] rfl) hb follows
              (o_p rfl (ob_move rfl rfl u_0) <|
               o_p rfl (ob_nilCheck rfl rfl (Opd.imp u_0 (fun _ _ h => shelf_nodeT_node h6 h)) (fun _ _ ⟨_, _, _, e, _⟩ => ⟨_, e⟩)) <|
               o_p rfl (ob_fieldAddr fl_75_2 rfl rfl u_0) <|
               o_p rfl (ob_load ty_26 rfl rfl u_0) <|
               o_p rfl (ob_assign rfl rfl u_0) <|
               o_n) (by kernel_rfl) (fun a g hst hb => ?_)
            refine inBlock_n ?_
            refine inBlock_n ?_
            exact ⟨x1, n5.left, g, rfl, (hst.pick [0, 1, 2] rfl), hb, H1⟩
          · replace H1 := ite_f hc9 H1
            refine r_s (L := [(1, _), (5, _), (7, _), (8, _)]) (T := [⟨[.old 0], _, [], [], [36]⟩, ⟨[.old 3], _, [], [], [37]⟩, ⟨[.op 0 0, .op 1 0], _, [], [0, 1], [38]⟩, ⟨[.op 2 0], _, [], [0, 1, 2], [35]⟩]) (F := [.old 0, .old 1, .old 2, .old 3, .op 3 0]) (hst.pick [0, 1, 2, 3] rfl) hb follows
              (o_p rfl (ob_move rfl rfl u_0) <|
               o_p rfl (ob_move rfl rfl u_0) <|
               o_p rfl (ob_gt rfl rfl u_0 u_1) <|
               o_p rfl (ob_assign rfl rfl u_0) <|
               o_n) (by kernel_rfl) (fun a g hst hb => ?_)
            refine wp_cond_split (hst.bool 4 rfl) (fun hc10 => ?_) (fun hc10 => ?_)
            · replace H1 := ite_t hc10 H1
              refine r_s (L := [(1, _), (5, _), (7, _), (8, _)]) (T := [⟨[.old 0], _, [], [], [39]⟩, ⟨[.old 3], _, [], [], [40]⟩, ⟨[.op 1 0], _, [], [1], [41]⟩, ⟨[.op 0 0, .op 2 0], _, [], [0, 1, 2], [42]⟩, ⟨[.op 3 0], _, [], List.range 4, [1]⟩]) (F := [.op 4 0, .old 1, .old 2]) (hst.pick [0, 1, 2, 3] rfl) hb follows
                (o_p rfl (ob_move rfl rfl u_0) <|
                 o_p rfl (ob_move rfl rfl u_0) <|
                 o_p rfl (ob_add rfl rfl u_0 c_i rfl) <|
                 o_p rfl (ob_sub rfl rfl u_0 u_1 rfl) <|
                 o_p rfl (ob_assign rfl rfl u_0) <|
                 o_n) (by kernel_rfl) (fun a g hst hb => ?_)
              refine r_g (L := [(1, _), (5, _), (7, _)]) (T := [⟨[.old 2], _, [], [], [43]⟩, ⟨[.op 0 0], _, [], [0], [44]⟩, ⟨[.op 1 0], _, [], [0, 1], [45]⟩, ⟨[.op 2 0], _, [], [0, 1, 2], [46]⟩, ⟨[.op 3 0], _, [], List.range 4, [7]⟩]) (F := [.old 0, .old 1, .op 4 0]) hst hb follows
                (o_p rfl (ob_move rfl rfl u_0) <|
                 o_p rfl (ob_nilCheck rfl rfl (Opd.imp u_0 (fun _ _ h => shelf_nodeT_node h6 h)) (fun _ _ ⟨_, _, _, e, _⟩ => ⟨_, e⟩)) <|
                 o_p rfl (ob_fieldAddr fl_75_3 rfl rfl u_0) <|
                 o_p rfl (ob_load ty_26 rfl rfl u_0) <|
                 o_p rfl (ob_assign rfl rfl u_0) <|
                 o_n) (by kernel_rfl) (fun a g hst hb => ?_)
              refine inBlock_n ?_
              refine inBlock_n ?_
              exact ⟨(IntKind.i64.wrap (x1 - (IntKind.i64.wrap (r7 + (1 : Int))))), n5.right, g, rfl, (hst.pick [0, 1, 2] rfl), hb, H1⟩
            · replace H1 := ite_f hc10 H1
              obtain ⟨r11, h12, H1⟩ := of_bind H1
              refine r_s (L := [(5, _), (7, _)]) (T := ⟨[.old 1], _, [], [], [18]⟩ :: ⟨[.op 0 0], _, [], [0], [19]⟩ :: ⟨[.op 1 0], _, [], [0, 1], [20]⟩ :: ⟨[.op 2 0], _, [], [0, 1, 2], [21]⟩ :: ⟨[.old 1], _, [], [], [22]⟩ :: ⟨[.op 4 0], _, [], [4], [23]⟩ :: ⟨[.op 5 0], _, [], [4, 5], [24]⟩ :: ⟨[.op 6 0], _, [], [4, 5, 6], [25]⟩ :: ⟨[.op 7 0], _, [], List.range' 4 4, [26]⟩ :: ⟨[.op 3 0], _, [], List.range 9, [4]⟩ :: ⟨[.op 8 0, .old 0], _, [6], List.range 10, [5]⟩ :: ⟨[], _, [], List.range 11, [6]⟩ :: []) (F := [.op 9 0, .op 10 0, .op 11 0]) (hst.pick [1, 2] rfl) hb follows
                (o_p rfl (ob_move rfl rfl u_0) <|
                 o_p rfl (ob_nilCheck rfl rfl (Opd.imp u_0 (fun _ _ h => shelf_nodeT_node h6 h)) (fun _ _ ⟨_, _, _, e, _⟩ => ⟨_, e⟩)) <|
                 o_p rfl (ob_fieldAddr fl_75_0 rfl rfl u_0) <|
                 o_p rfl (ob_load ty_9 rfl rfl u_0) <|
                 o_p rfl (ob_move rfl rfl u_0) <|
                 o_p rfl (ob_nilCheck rfl rfl (Opd.imp u_0 (fun _ _ h => shelf_nodeT_node h6 h)) (fun _ _ ⟨_, _, _, e, _⟩ => ⟨_, e⟩)) <|
                 o_p rfl (ob_fieldAddr fl_75_1 rfl rfl u_0) <|
                 o_p rfl (ob_load ty_38 rfl rfl u_0) <|
                 o_p rfl (ob_call en_34 (rec_Clone_ok _ h12) rfl rfl (.cons u_0 .nil)) <|
                 o_p rfl (ob_assign rfl rfl u_0) <|
                 o_p rfl (ob_store ty_38 rfl rfl u_1 u_0) <|
                 o_p rfl (ob_assign rfl rfl c_b) <|
                 o_n) (by kernel_rfl) (fun a g hst hb => ?_)
              refine wp_ret ?_
              refine inBlock_r ?_
              refine inBlock_r ?_
              refine then_r ?_
              refine then_r ?_
              refine inBlock_r ?_
              refine then_r ?_
              refine then_r ?_
              obtain rfl := Option.some.inj H1
              obtain rfl := Option.some.inj H0
              obtain ⟨u1, hu1, hq1⟩ := res_box (P := Try.prog) ty_38 (hst.at 1 rfl)
              exact endR3 rfl hst hb (res_tmp (s := 4)) hu1 (res_tmp (s := 6)) (pTup_3 (hst.at 0 rfl) hq1 (hst.at 2 rfl))
      · replace H1 := ite_f hc4 H1
        refine wp_exit ?_
        refine then_e ?_
        refine then_e ?_
        refine inBlock_e ?_
        exact ⟨x2, g, rfl, (hst.pick [1] rfl), hb, Option.some.inj H1⟩
end Go.CL

set_option linter.unusedVariables false
set_option linter.unusedSimpArgs false
set_option maxRecDepth 100000
namespace Go.CL
open Go Go.RowKit Go.Proofs
theorem shelf_Shelf_Keys_ok (a0 : shelf_Shelf) (a1 : ByteArray) (a2 : ByteArray) (a3 : Int) {r : List ByteArray} (h : shelf_Shelf_Keys a0 a1 a2 a3 = some r) : FnOk Try.prog 12 [(k_shelf_Shelf.pd a0), (pStr a1), (pStr a2), (pInt .i64 a3)] (Kd.str.sl.pd r) := by
  have H0 := h
  unfold shelf_Shelf_Keys at H0
  clear h
  refine fn_ok (N := 42) Try.func12 rfl rfl (Nat.le_of_ble_eq_true rfl) rfl rfl (fun a g0 hst hb => ?_)
  refine r_s (L := [(0, _), (1, _), (2, _), (3, _)]) (T := [⟨[.old 0], _, [], [], [4]⟩, ⟨[], [(8, (Kd.str.sl.pd ([] : List ByteArray)))], [], [], [8]⟩]) (F := [.old 1, .old 2, .old 3, .op 0 0]) hst hb follows
    (o_p rfl (ob_box1 rfl rfl u_0) <|
     o_p rfl (ob_assign rfl rfl (Opd.c (fun g => sl_nil_q g))) <|
     o_n) (by kernel_rfl) (fun a g hst hb => ?_)
  refine r_s (L := [(1, _), (2, _), (3, _), (4, _)]) (T := [⟨[], [(9, (pRow Kd.str 9 9 ([] : List ByteArray)))], [], [], [9]⟩]) (F := [.old 0, .old 1, .old 2, .old 3, .op 0 0]) hst hb follows
    (o_p rfl (ob_assign rfl rfl (Opd.c (fun g => pRow_nil 9 g))) <|
     o_n) (by kernel_rfl) (fun a g hst hb => ?_)
  refine wp_seq ?_
  obtain ⟨r1, h2, H0⟩ := of_bind H0
  refine r_s (L := [(1, _), (2, _), (3, _), (4, _), (9, _)]) (T := [⟨[.old 3], _, [], [], [14]⟩, ⟨[.old 0], _, [], [], [15]⟩, ⟨[.op 0 0, .op 1 0], _, [], [0, 1], [16]⟩, ⟨[.op 2 0], _, [], [0, 1, 2], [10]⟩]) (F := [.old 1, .old 2, .old 3, .old 4, .op 3 0]) hst hb follows
    (o_p rfl (ob_load ty_28 rfl rfl u_0) <|
     o_p rfl (ob_move rfl rfl u_0) <|
     o_p rfl (ob_call en_14 (shelf_Shelf_Rank_ok _ _ h2) rfl rfl (.cons u_0 (.cons u_1 .nil))) <|
     o_p rfl (ob_assign rfl rfl u_0) <|
     o_n) (by kernel_rfl) (fun a g hst hb => ?_)
  obtain ⟨z11, hz1, H0⟩ := of_bind H0
  refine wp_cut (fun a w => ∃ (y10 : List ByteArray) (g : G), w = g.w ∧ St 42 [(9, (pRow Kd.str 9 9 y10))] a g ∧ Base g0 g ∧ y10 = z11) ?_ ?_
  · rintro a w ⟨y10, g, rfl, hst, hb, rfl⟩
    refine then_n ?_
    refine r_s (L := [(9, _)]) (T := [⟨[.old 0], _, [], [], [41]⟩, ⟨[.op 0 0], _, [], [0], [8]⟩]) (F := [.op 1 0]) hst hb follows
      (o_p rfl (ob_move rfl rfl u_0) <|
       o_p rfl (ob_assign rfl rfl u_0) <|
       o_n) (by kernel_rfl) (fun a g hst hb => ?_)
    refine wp_ret ?_
    obtain rfl := Option.some.inj H0
    exact endR1 rfl hst hb (res_tmp (s := 8)) (pRow_read (hst.at 0 rfl))
  · refine wp_block ?_
    refine wp_loop_ghost (fun n a w => ∃ (x3 : List ByteArray) (x4 : Int) (g : G), w = g.w ∧ St 42 [(2, (pStr a2)), (3, (pInt .i64 a3)), (4, (k_shelf_Shelf.ptr a0)), (9, (pRow Kd.str 9 9 x3)), (10, (pInt .i64 x4))] a g ∧ Base g0 g ∧ shelf_Shelf_Keys_l1 a0 a2 a3 n x3 x4 = some z11) (Int.toNat (a3 - (([] : List ByteArray).length : Int)) + 1) ⟨([] : List ByteArray), r1, g, rfl, (hst.pick [0, 1, 2, 3, 4] rfl), hb, hz1⟩ (fun n a w hI => ?_)
    obtain ⟨x3, x4, g, rfl, hst, hb, H1⟩ := hI
    cases n with
    | zero => exact absurd H1 (by simp [shelf_Shelf_Keys_l1])
    | succ n =>
      rw [shelf_Shelf_Keys_l1] at H1
      refine wp_seq ?_
      refine r_s (L := [(2, _), (3, _), (4, _), (9, _), (10, _)]) (T := [⟨[.old 3], _, [], [], [17]⟩, ⟨[.op 0 0], _, [], [0], [18]⟩, ⟨[.old 1], _, [], [], [19]⟩, ⟨[.op 1 0, .op 2 0], _, [], [0, 1, 2], [20]⟩]) (F := [.old 0, .old 1, .old 2, .old 3, .old 4, .op 3 0]) hst hb follows
        (o_p rfl (ob_move rfl rfl u_0) <|
         o_p rfl (ob_lenL Try.underlying43 rfl rfl (Opd.imp u_0 (fun _ _ h => pRow_read h))) <|
         o_p rfl (ob_move rfl rfl u_0) <|
         o_p rfl (ob_lt rfl rfl u_0 u_1) <|
         o_n) (by kernel_rfl) (fun a g hst hb => ?_)
      refine wp_cond_split (hst.bool 5 rfl) (fun hc5 => ?_) (fun hc5 => ?_)
      · replace H1 := ite_t hc5 H1
        refine wp_skip ?_
        refine then_n ?_
        refine wp_seq ?_
        refine wp_block ?_
        obtain ⟨r6, h7, H1⟩ := of_bind H1
        refine r_s (L := [(2, _), (3, _), (4, _), (9, _), (10, _)]) (T := [⟨[.old 2], _, [], [], [24]⟩, ⟨[.old 4], _, [], [], [25]⟩, ⟨[.op 0 0, .op 1 0], _, [], [0, 1], [26]⟩, ⟨[.op 2 0], _, [], [0, 1, 2], [23]⟩, ⟨[.op 3 0], _, [], List.range 4, [27]⟩, ⟨[.op 3 0], _, [], List.range 4, [28]⟩, ⟨[.op 3 0], _, [], List.range 4, [29]⟩, ⟨[], [(12, (pBox k_api_Record 12 (default : api_Record)))], [13], [], [12]⟩, ⟨[.op 4 0], _, [], [0, 1, 2, 3, 4, 7], [11]⟩, ⟨[.op 5 0, .op 7 0], _, [13], [0, 1, 2, 3, 4, 5, 7, 8], [12]⟩, ⟨[.op 6 0], _, [], List.range 10, [13]⟩]) (F := [.old 0, .old 1, .old 2, .old 3, .old 4, .op 8 0, .op 10 0]) (hst.pick [0, 1, 2, 3, 4] rfl) hb follows
          (o_p rfl (ob_load ty_28 rfl rfl u_0) <|
           o_p rfl (ob_move rfl rfl u_0) <|
           o_p rfl (ob_call en_16 (shelf_Shelf_At_ok _ _ h7) rfl rfl (.cons u_0 (.cons u_1 .nil))) <|
           o_p rfl (ob_move rfl rfl u_0) <|
           o_p rfl (ob_extract rfl rfl u_0 rfl) <|
           o_p rfl (ob_extract rfl rfl u_0 rfl) <|
           o_p rfl (ob_extract rfl rfl u_0 rfl) <|
           o_p rfl (ob_alloc (zs := [.int .i64 0, .int .i64 0, .int .i64 0, .int .i64 0, .float .f64 0, .int .i64 0, .string ByteArray.empty, .slice none 0 0]) (by kernel_rfl) (fun g => zk_api_Record g) rfl rfl) <|
           o_p rfl (ob_assign rfl rfl u_0) <|
           o_p rfl (ob_storeF ty_38 rfl rfl u_1 u_0) <|
           o_p rfl (ob_assign rfl rfl u_0) <|
           o_n) (by kernel_rfl) (fun a g hst hb => ?_)
        refine wp_seq ?_
        refine r_s (L := [(2, _), (3, _), (4, _), (9, _), (10, _), (11, _), (13, _)]) (T := [⟨[.old 6], _, [], [], [30]⟩, ⟨[.op 0 0], _, [], [0], [31]⟩, ⟨[.op 1 0], _, [], [0, 1], [32]⟩, ⟨[.op 2 0, .old 5], _, [], [0, 1, 2], [33]⟩, ⟨[.op 2 0, .old 0], _, [], [0, 1, 2], [34]⟩, ⟨[.op 2 0, .op 3 0, .op 4 0], _, [], List.range 5, [35]⟩, ⟨[.op 2 0, .op 5 0], _, [], List.range 6, [36]⟩]) (F := [.old 0, .old 1, .old 2, .old 3, .old 4, .old 5, .op 6 0]) hst hb follows
          (o_p rfl (ob_move rfl rfl u_0) <|
           o_p rfl (ob_not rfl rfl u_0) <|
           o_p rfl (ob_move rfl rfl u_0) <|
           o_g (g_f rfl rfl rfl (fun hG => ob_move rfl rfl u_0)) <|
           o_g (g_f rfl rfl rfl (fun hG => ob_move rfl rfl u_0)) <|
           o_g (g_f rfl rfl rfl (fun hG => ob_sge rfl rfl (Opd.gd hG u_0) (Opd.gd hG u_1))) <|
           o_p rfl (ob_por rfl rfl u_0 (fun hz => (Opd.gd (bNF hz) u_1))) <|
           o_n) (by kernel_rfl) (fun a g hst hb => ?_)
        refine wp_cond_split (hst.bool 6 rfl) (fun hc8 => ?_) (fun hc8 => ?_)
        · replace H1 := ite_t hc8 H1
          refine wp_exit ?_
          refine then_e ?_
          refine inBlock_o (by decide) ?_
          refine then_e ?_
          refine then_e ?_
          refine inBlock_e ?_
          exact ⟨x3, g, rfl, (hst.pick [3] rfl), hb, Option.some.inj H1⟩
        · replace H1 := ite_f hc8 H1
          refine wp_skip ?_
          refine then_n ?_
          obtain ⟨h9, H1⟩ := of_ite H1
          refine r_g (L := [(2, _), (3, _), (4, _), (9, _), (10, _), (11, _)]) (T := [⟨[.old 3], _, [], [], [37]⟩, ⟨[.old 5], _, [], [], [38]⟩, ⟨[.op 1 0], _, [], [1], [39]⟩, ⟨[.op 0 0, .op 2 0], _, [10], [0, 1, 2], [9, 37, 40]⟩, ⟨[.op 3 0], _, [], List.range 4, [9]⟩]) (F := [.old 0, .old 1, .old 2, .op 4 0, .old 4]) (hst.pick [0, 1, 2, 3, 4, 5] rfl) hb follows
            (o_p rfl (ob_move rfl rfl u_0) <|
             o_p rfl (ob_move rfl rfl u_0) <|
             o_p rfl (ob_lit te_43 (xs := [.tmp 38]) (.cons u_0 .nil) (by decide) rfl rfl) <|
             o_p rfl (ob_append te_43 rfl rfl u_0 u_1 h9) <|
             o_p rfl (ob_assign rfl rfl u_0) <|
             o_n) (by kernel_rfl) (fun a g hst hb => ?_)
          refine inBlock_n ?_
          refine then_n ?_
          refine r_g (L := [(2, _), (3, _), (4, _), (9, _), (10, _)]) (T := [⟨[.old 4], _, [], [], [21]⟩, ⟨[.op 0 0], _, [], [0], [22]⟩, ⟨[.op 1 0], _, [], [0, 1], [10]⟩]) (F := [.old 0, .old 1, .old 2, .old 3, .op 2 0]) hst hb follows
            (o_p rfl (ob_move rfl rfl u_0) <|
             o_p rfl (ob_add rfl rfl u_0 c_i rfl) <|
             o_p rfl (ob_assign rfl rfl u_0) <|
             o_n) (by kernel_rfl) (fun a g hst hb => ?_)
          exact ⟨n, Nat.lt_succ_self _, (x3 ++ ([r6.1] : List ByteArray)), (IntKind.i64.wrap (x4 + (1 : Int))), g, rfl, (hst.pick [0, 1, 2, 3, 4] rfl), hb, H1⟩
      · replace H1 := ite_f hc5 H1
        refine wp_exit ?_
        refine then_e ?_
        refine then_e ?_
        refine inBlock_e ?_
        exact ⟨x3, g, rfl, (hst.pick [3] rfl), hb, Option.some.inj H1⟩
end Go.CL

set_option linter.unusedVariables false
set_option linter.unusedSimpArgs false
set_option maxRecDepth 100000
namespace Go.CL
open Go Go.RowKit Go.Proofs
theorem shelf_Shelf_Len_ok (a0 : shelf_Shelf) {r : Int} (h : shelf_Shelf_Len a0 = some r) : FnOk Try.prog 17 [(k_shelf_Shelf.pd a0)] (pInt .i64 r) := by
  have H0 := h
  unfold shelf_Shelf_Len at H0
  clear h
  refine fn_ok (N := 6) Try.func17 rfl rfl (Nat.le_of_ble_eq_true rfl) rfl rfl (fun a g0 hst hb => ?_)
  refine r_s (L := [(0, _)]) (T := [⟨[.old 0], _, [], [], [1]⟩, ⟨[], _, [], [], [2]⟩]) (F := [.op 0 0]) hst hb follows
    (o_p rfl (ob_box1 rfl rfl u_0) <|
     o_p rfl (ob_assign rfl rfl c_i) <|
     o_n) (by kernel_rfl) (fun a g hst hb => ?_)
  obtain ⟨r1, h2, H0⟩ := of_bind H0
  refine r_s (L := [(1, _)]) (T := [⟨[.old 0], _, [], [], [3]⟩, ⟨[.op 0 0], _, [], [0], [4]⟩, ⟨[.op 1 0], _, [], [0, 1], [5]⟩, ⟨[.op 2 0], _, [], [0, 1, 2], [2]⟩]) (F := [.op 3 0]) hst hb follows
    (o_p rfl (ob_fieldAddr fl_28_0 rfl rfl u_0) <|
     o_p rfl (ob_load ty_26 rfl rfl u_0) <|
     o_p rfl (ob_call en_33 (shelf_node_count_ok _ h2) rfl rfl (.cons u_0 .nil)) <|
     o_p rfl (ob_assign rfl rfl u_0) <|
     o_n) (by kernel_rfl) (fun a g hst hb => ?_)
  refine wp_ret ?_
  obtain rfl := Option.some.inj H0
  exact endR1 rfl hst hb (res_tmp (s := 2)) (hst.at 0 rfl)
end Go.CL

set_option linter.unusedVariables false
set_option linter.unusedSimpArgs false
set_option maxRecDepth 100000
namespace Go.CL
open Go Go.RowKit Go.Proofs
theorem math_NaN_ok {r : Nat} (h : math_NaN = some r) : FnOk Try.prog 68 [] (pFlt r) := by
  have H0 := h
  unfold math_NaN at H0
  clear h
  refine fn_ok (N := 2) Try.func68 rfl rfl (Nat.le_of_ble_eq_true rfl) rfl rfl (fun a g0 hst hb => ?_)
  refine r_s (L := []) (T := [⟨[], _, [], [], [0]⟩]) (F := []) hst hb follows
    (o_p rfl (ob_assign rfl rfl c_f) <|
     o_n) (by kernel_rfl) (fun a g hst hb => ?_)
  refine r_s (L := []) (T := [⟨[], _, [], [], [1]⟩, ⟨[.op 0 0], _, [], [0], [0]⟩]) (F := [.op 1 0]) hst hb follows
    (o_p rfl (ob_frombits ex_70 rfl rfl c_i) <|
     o_p rfl (ob_assign rfl rfl u_0) <|
     o_n) (by kernel_rfl) (fun a g hst hb => ?_)
  refine wp_ret ?_
  obtain rfl := Option.some.inj H0
  exact endR1 rfl hst hb (res_tmp (s := 0)) (hst.at 0 rfl)
end Go.CL

set_option linter.unusedVariables false
set_option linter.unusedSimpArgs false
set_option maxRecDepth 100000
namespace Go.CL
open Go Go.RowKit Go.Proofs
theorem flo_Canon_ok (a0 : Nat) {r : Nat} (h : flo_Canon a0 = some r) : FnOk Try.prog 61 [(pFlt a0)] (pFlt r) := by
  have H0 := h
  unfold flo_Canon at H0
  clear h
  refine fn_ok (N := 8) Try.func61 rfl rfl (Nat.le_of_ble_eq_true rfl) rfl rfl (fun a g0 hst hb => ?_)
  refine r_s (L := [(0, _)]) (T := [⟨[], _, [], [], [2]⟩]) (F := [.old 0]) hst hb follows
    (o_p rfl (ob_assign rfl rfl c_f) <|
     o_n) (by kernel_rfl) (fun a g hst hb => ?_)
  refine wp_seq ?_
  refine r_s (L := [(0, _)]) (T := [⟨[.old 0], _, [], [], [3]⟩, ⟨[.old 0], _, [], [], [4]⟩, ⟨[.op 0 0, .op 1 0], _, [], [0, 1], [5]⟩]) (F := [.old 0, .op 2 0]) hst hb follows
    (o_p rfl (ob_move rfl rfl u_0) <|
     o_p rfl (ob_move rfl rfl u_0) <|
     o_p rfl (ob_fneq rfl rfl u_0 u_1) <|
     o_n) (by kernel_rfl) (fun a g hst hb => ?_)
  refine wp_cond_split (hst.bool 1 rfl) (fun hc1 => ?_) (fun hc1 => ?_)
  · replace H0 := ite_t hc1 H0
    obtain ⟨r2, h3, H0⟩ := of_bind H0
    refine r_s (L := []) (T := [⟨[], _, [], [], [6]⟩, ⟨[.op 0 0], _, [], [0], [2]⟩]) (F := [.op 1 0]) (hst.pick [] rfl) hb follows
      (o_p rfl (ob_call en_68 (math_NaN_ok h3) rfl rfl .nil) <|
       o_p rfl (ob_assign rfl rfl u_0) <|
       o_n) (by kernel_rfl) (fun a g hst hb => ?_)
    refine wp_ret ?_
    refine then_r ?_
    obtain rfl := Option.some.inj H0
    exact endR1 rfl hst hb (res_tmp (s := 2)) (hst.at 0 rfl)
  · replace H0 := ite_f hc1 H0
    refine wp_skip ?_
    refine then_n ?_
    refine r_s (L := [(0, _)]) (T := [⟨[.old 0], _, [], [], [7]⟩, ⟨[.op 0 0], _, [], [0], [2]⟩]) (F := [.op 1 0]) (hst.pick [0] rfl) hb follows
      (o_p rfl (ob_move rfl rfl u_0) <|
       o_p rfl (ob_assign rfl rfl u_0) <|
       o_n) (by kernel_rfl) (fun a g hst hb => ?_)
    refine wp_ret ?_
    obtain rfl := Option.some.inj H0
    exact endR1 rfl hst hb (res_tmp (s := 2)) (hst.at 0 rfl)
end Go.CL

set_option linter.unusedVariables false
set_option linter.unusedSimpArgs false
set_option maxRecDepth 100000
namespace Go.CL
open Go Go.RowKit Go.Proofs
theorem flo_Key_ok (a0 : Nat) {r : Int} (h : flo_Key a0 = some r) : FnOk Try.prog 55 [(pFlt a0)] (pInt .u64 r) := by
  have H0 := h
  unfold flo_Key at H0
  clear h
  refine fn_ok (N := 14) Try.func55 rfl rfl (Nat.le_of_ble_eq_true rfl) rfl rfl (fun a g0 hst hb => ?_)
  refine r_s (L := [(0, _)]) (T := [⟨[], _, [], [], [2]⟩]) (F := [.old 0]) hst hb follows
    (o_p rfl (ob_assign rfl rfl c_i) <|
     o_n) (by kernel_rfl) (fun a g hst hb => ?_)
  obtain ⟨r1, h2, H0⟩ := of_bind H0
  refine r_s (L := [(0, _)]) (T := [⟨[.old 0], _, [], [], [4]⟩, ⟨[.op 0 0], _, [], [0], [5]⟩, ⟨[.op 1 0], _, [], [0, 1], [6]⟩, ⟨[.op 2 0], _, [], [0, 1, 2], [3]⟩]) (F := [.op 3 0]) hst hb follows
    (o_p rfl (ob_move rfl rfl u_0) <|
     o_p rfl (ob_call en_61 (flo_Canon_ok _ h2) rfl rfl (.cons u_0 .nil)) <|
     o_p rfl (ob_bits ex_60 rfl rfl u_0) <|
     o_p rfl (ob_assign rfl rfl u_0) <|
     o_n) (by kernel_rfl) (fun a g hst hb => ?_)
  refine wp_seq ?_
  refine r_s (L := [(3, _)]) (T := [⟨[.old 0], _, [], [], [7]⟩, ⟨[.op 0 0], _, [], [0], [8]⟩, ⟨[.op 1 0], _, [], [0, 1], [9]⟩]) (F := [.old 0, .op 2 0]) hst hb follows
    (o_p rfl (ob_move rfl rfl u_0) <|
     o_p rfl (ob_and rfl rfl u_0 c_i) <|
     o_p rfl (ob_ne rfl rfl u_0 c_i) <|
     o_n) (by kernel_rfl) (fun a g hst hb => ?_)
  refine wp_cond_split (hst.bool 1 rfl) (fun hc3 => ?_) (fun hc3 => ?_)
  · replace H0 := ite_t hc3 H0
    refine r_s (L := [(3, _)]) (T := [⟨[.old 0], _, [], [], [10]⟩, ⟨[.op 0 0], _, [], [0], [11]⟩, ⟨[.op 1 0], _, [], [0, 1], [2]⟩]) (F := [.op 2 0]) (hst.pick [0] rfl) hb follows
      (o_p rfl (ob_move rfl rfl u_0) <|
       o_p rfl (ob_not1 rfl rfl rfl u_0) <|
       o_p rfl (ob_assign rfl rfl u_0) <|
       o_n) (by kernel_rfl) (fun a g hst hb => ?_)
    refine wp_ret ?_
    refine then_r ?_
    obtain rfl := Option.some.inj H0
    exact endR1 rfl hst hb (res_tmp (s := 2)) (hst.at 0 rfl)
  · replace H0 := ite_f hc3 H0
    refine wp_skip ?_
    refine then_n ?_
    refine r_s (L := [(3, _)]) (T := [⟨[.old 0], _, [], [], [12]⟩, ⟨[.op 0 0], _, [], [0], [13]⟩, ⟨[.op 1 0], _, [], [0, 1], [2]⟩]) (F := [.op 2 0]) (hst.pick [0] rfl) hb follows
      (o_p rfl (ob_move rfl rfl u_0) <|
       o_p rfl (ob_or rfl rfl u_0 c_i) <|
       o_p rfl (ob_assign rfl rfl u_0) <|
       o_n) (by kernel_rfl) (fun a g hst hb => ?_)
    refine wp_ret ?_
    obtain rfl := Option.some.inj H0
    exact endR1 rfl hst hb (res_tmp (s := 2)) (hst.at 0 rfl)
end Go.CL

set_option linter.unusedVariables false
set_option linter.unusedSimpArgs false
set_option maxRecDepth 100000
namespace Go.CL
open Go Go.RowKit Go.Proofs
theorem flo_Same_ok (a0 : Nat) (a1 : Nat) {r : Bool} (h : flo_Same a0 a1 = some r) : FnOk Try.prog 42 [(pFlt a0), (pFlt a1)] (pBool r) := by
  have H0 := h
  unfold flo_Same at H0
  clear h
  refine fn_ok (N := 10) Try.func42 rfl rfl (Nat.le_of_ble_eq_true rfl) rfl rfl (fun a g0 hst hb => ?_)
  refine r_s (L := [(0, _), (1, _)]) (T := [⟨[], _, [], [], [4]⟩]) (F := [.old 0, .old 1]) hst hb follows
    (o_p rfl (ob_assign rfl rfl c_b) <|
     o_n) (by kernel_rfl) (fun a g hst hb => ?_)
  obtain ⟨r1, h2, H0⟩ := of_bind H0; obtain ⟨r3, h4, H0⟩ := of_bind H0
  refine r_s (L := [(0, _), (1, _)]) (T := [⟨[.old 0], _, [], [], [5]⟩, ⟨[.op 0 0], _, [], [0], [6]⟩, ⟨[.old 1], _, [], [], [7]⟩, ⟨[.op 2 0], _, [], [0, 1, 2], [8]⟩, ⟨[.op 1 0, .op 3 0], _, [], List.range 4, [9]⟩, ⟨[.op 4 0], _, [], List.range 5, [4]⟩]) (F := [.op 5 0]) hst hb follows
    (o_p rfl (ob_move rfl rfl u_0) <|
     o_p rfl (ob_call en_55 (flo_Key_ok _ h2) rfl rfl (.cons u_0 .nil)) <|
     o_p rfl (ob_move rfl rfl u_0) <|
     o_p rfl (ob_call en_55 (flo_Key_ok _ h4) rfl rfl (.cons u_0 .nil)) <|
     o_p rfl (ob_eq rfl rfl u_0 u_1) <|
     o_p rfl (ob_assign rfl rfl u_0) <|
     o_n) (by kernel_rfl) (fun a g hst hb => ?_)
  refine wp_ret ?_
  obtain rfl := Option.some.inj H0
  exact endR1 rfl hst hb (res_tmp (s := 4)) (hst.at 0 rfl)
end Go.CL

set_option linter.unusedVariables false
set_option linter.unusedSimpArgs false
set_option maxRecDepth 100000
namespace Go.CL
open Go Go.RowKit Go.Proofs
theorem slices_EqualFunc_api_Item_api_Item_api_Item_api_Item_ok (f2 : Nat) (C2 : List Pd) (hC2 : Free C2) (e2_ : Enters Try.prog f2) (φ2 : api_Item → api_Item → Option Bool) (hφ2 : ∀ (y0 : api_Item) (y1 : api_Item) (r : Bool), φ2 y0 y1 = some r → FnOk Try.prog f2 ([(k_api_Item.pd y0), (k_api_Item.pd y1)] ++ C2) (pBool r)) (a0 : List api_Item) (a1 : List api_Item) {r : Bool} (h : slices_EqualFunc_api_Item_api_Item_api_Item_api_Item a0 a1 φ2 = some r) : FnOk Try.prog 43 [(k_api_Item.sl.pd a0), (k_api_Item.sl.pd a1), (pClo f2 C2 hC2)] (pBool r) := by
  have H0 := h
  unfold slices_EqualFunc_api_Item_api_Item_api_Item_api_Item at H0
  clear h
  refine fn_ok (N := 32) Try.func43 rfl rfl (Nat.le_of_ble_eq_true rfl) rfl rfl (fun a g0 hst hb => ?_)
  refine r_s (L := [(0, _), (1, _), (2, _)]) (T := [⟨[], _, [], [], [6]⟩]) (F := [.old 0, .old 1, .old 2]) hst hb follows
    (o_p rfl (ob_assign rfl rfl c_b) <|
     o_n) (by kernel_rfl) (fun a g hst hb => ?_)
  refine wp_seq ?_
  refine r_s (L := [(0, _), (1, _), (2, _)]) (T := [⟨[.old 0], _, [], [], [10]⟩, ⟨[.op 0 0], _, [], [0], [11]⟩, ⟨[.old 1], _, [], [], [12]⟩, ⟨[.op 2 0], _, [], [2], [13]⟩, ⟨[.op 1 0, .op 3 0], _, [], List.range 4, [14]⟩]) (F := [.old 0, .old 1, .old 2, .op 4 0]) hst hb follows
    (o_p rfl (ob_move rfl rfl u_0) <|
     o_p rfl (ob_lenL Try.underlying36 rfl rfl u_0) <|
     o_p rfl (ob_move rfl rfl u_0) <|
     o_p rfl (ob_lenL Try.underlying36 rfl rfl u_0) <|
     o_p rfl (ob_ne rfl rfl u_0 u_1) <|
     o_n) (by kernel_rfl) (fun a g hst hb => ?_)
  refine wp_cond_split (hst.bool 3 rfl) (fun hc1 => ?_) (fun hc1 => ?_)
  · replace H0 := ite_t hc1 H0
    refine r_s (L := []) (T := [⟨[], _, [], [], [6]⟩]) (F := [.op 0 0]) (hst.pick [] rfl) hb follows
      (o_p rfl (ob_assign rfl rfl c_b) <|
       o_n) (by kernel_rfl) (fun a g hst hb => ?_)
    refine wp_ret ?_
    refine then_r ?_
    obtain rfl := Option.some.inj H0
    exact endR1 rfl hst hb (res_tmp (s := 6)) (hst.at 0 rfl)
  · replace H0 := ite_f hc1 H0
    refine wp_skip ?_
    refine then_n ?_
    refine wp_seq ?_
    refine r_s (L := [(0, _), (1, _), (2, _)]) (T := [⟨[.old 0], _, [], [], [15]⟩, ⟨[.op 0 0], _, [], [0], [16]⟩, ⟨[], _, [], [], [17]⟩]) (F := [.old 1, .old 2, .op 0 0, .op 1 0, .op 2 0]) (hst.pick [0, 1, 2] rfl) hb follows
      (o_p rfl (ob_move rfl rfl u_0) <|
       o_p rfl (ob_lenL Try.underlying36 rfl rfl u_0) <|
       o_p rfl (ob_move rfl rfl c_i) <|
       o_n) (by kernel_rfl) (fun a g hst hb => ?_)
    obtain ⟨z11, hz1, H0⟩ := of_bind H0
    refine wp_cut (fun a w => ∃ (g : G), w = g.w ∧ St 32 [] a g ∧ Base g0 g ∧ (.inr ()) = z11) ?_ ?_
    · rintro a w ⟨g, rfl, hst, hb, rfl⟩
      refine then_n ?_
      refine r_s (L := []) (T := [⟨[], _, [], [], [6]⟩]) (F := [.op 0 0]) hst hb follows
        (o_p rfl (ob_assign rfl rfl c_b) <|
         o_n) (by kernel_rfl) (fun a g hst hb => ?_)
      refine wp_ret ?_
      obtain rfl := Option.some.inj H0
      exact endR1 rfl hst hb (res_tmp (s := 6)) (hst.at 0 rfl)
    · refine wp_block ?_
      refine wp_loop_ghost (fun n a w => ∃ (x2 : Int) (g : G), w = g.w ∧ St 32 [(1, (k_api_Item.sl.pd a1)), (2, (pClo f2 C2 hC2)), (15, (k_api_Item.sl.pd a0)), (16, (pInt .i64 (a0.length : Int))), (17, (pInt .i64 x2))] a g ∧ Base g0 g ∧ slices_EqualFunc_api_Item_api_Item_api_Item_api_Item_l1 a0 a1 φ2 n x2 = some z11) (Int.toNat ((a0.length : Int) - (0 : Int)) + 1) ⟨(0 : Int), g, rfl, (hst.pick [0, 1, 2, 3, 4] rfl), hb, hz1⟩ (fun n a w hI => ?_)
      obtain ⟨x2, g, rfl, hst, hb, H1⟩ := hI
      cases n with
      | zero => exact absurd H1 (by simp [slices_EqualFunc_api_Item_api_Item_api_Item_api_Item_l1])
      | succ n =>
        rw [slices_EqualFunc_api_Item_api_Item_api_Item_api_Item_l1] at H1
        refine r_s (L := [(1, _), (2, _), (15, _), (16, _), (17, _)]) (T := [⟨[.old 4, .old 3], _, [], [], [18]⟩]) (F := [.old 0, .old 1, .old 2, .old 3, .old 4, .op 0 0]) hst hb follows
          (o_p rfl (ob_lt rfl rfl u_0 u_1) <|
           o_n) (by kernel_rfl) (fun a g hst hb => ?_)
        refine wp_seq ?_
        refine wp_cond_split (hst.bool 5 rfl) (fun hc3 => ?_) (fun hc3 => ?_)
        · replace H1 := ite_t hc3 H1
          refine wp_skip ?_
          refine then_n ?_
          refine wp_seq ?_
          refine wp_block ?_
          obtain ⟨e4, h5, H1⟩ := of_bind H1
          refine r_s (L := [(1, _), (2, _), (15, _), (16, _), (17, _)]) (T := [⟨[.old 4], _, [], [], [19]⟩, ⟨[.old 2, .old 4], _, [], [], [20]⟩, ⟨[.op 1 0], _, [], [1], [21]⟩, ⟨[], [(8, (pBox k_api_Item 8 (default : api_Item)))], [9], [], [8]⟩, ⟨[.op 0 0], _, [], List.range 4, [7]⟩, ⟨[.op 2 0, .op 3 0], _, [9], List.range 5, [8]⟩]) (F := [.old 0, .old 1, .op 4 0, .op 5 0, .old 2, .old 3, .old 4]) (hst.pick [0, 1, 2, 3, 4] rfl) hb follows
            (o_p rfl (ob_move rfl rfl u_0) <|
             o_p rfl (ob_indexAddr Try.underlying36 sz_64 rfl rfl u_0 u_1 h5) <|
             o_p rfl (ob_load ty_64 rfl rfl u_0) <|
             o_p rfl (ob_alloc (zs := [.float .f64 0, .string ByteArray.empty]) (by kernel_rfl) (fun g => zk_api_Item g) rfl rfl) <|
             o_p rfl (ob_assign rfl rfl u_0) <|
             o_p rfl (ob_storeF ty_64 rfl rfl u_1 u_0) <|
             o_n) (by kernel_rfl) (fun a g hst hb => ?_)
          obtain ⟨e6, h7, H1⟩ := of_bind H1
          refine r_s (L := [(1, _), (2, _), (7, _), (8, _), (15, _), (16, _), (17, _)]) (T := [⟨[.old 0], _, [], [], [22]⟩, ⟨[.old 2], _, [], [], [23]⟩, ⟨[.op 0 0, .op 1 0], _, [], [0, 1], [24]⟩, ⟨[.op 2 0], _, [], [0, 1, 2], [25]⟩, ⟨[], [(9, (pBox k_api_Item 9 (default : api_Item)))], [10], [], [9]⟩, ⟨[.op 3 0, .op 4 0], _, [10], List.range 5, [9]⟩]) (F := [.old 0, .old 1, .old 3, .op 5 0, .old 4, .old 5, .old 6]) hst hb follows
            (o_p rfl (ob_move rfl rfl u_0) <|
             o_p rfl (ob_move rfl rfl u_0) <|
             o_p rfl (ob_indexAddr Try.underlying36 sz_64 rfl rfl u_0 u_1 h7) <|
             o_p rfl (ob_load ty_64 rfl rfl u_0) <|
             o_p rfl (ob_alloc (zs := [.float .f64 0, .string ByteArray.empty]) (by kernel_rfl) (fun g => zk_api_Item g) rfl rfl) <|
             o_p rfl (ob_storeF ty_64 rfl rfl u_1 u_0) <|
             o_n) (by kernel_rfl) (fun a g hst hb => ?_)
          obtain ⟨r8, h9, H1⟩ := of_bind H1
          refine r_s (L := [(1, _), (2, _), (8, _), (9, _), (15, _), (16, _), (17, _)]) (T := [⟨[.old 1], _, [], [], [26]⟩, ⟨[.old 2], _, [], [], [27]⟩, ⟨[.old 3], _, [], [], [28]⟩, ⟨[.op 0 0, .op 1 0, .op 2 0], _, [], [0, 1, 2], [29]⟩, ⟨[.op 3 0], _, [], List.range 4, [30]⟩]) (F := [.old 0, .old 1, .old 4, .old 5, .old 6, .op 4 0]) hst hb follows
            (o_p rfl (ob_move rfl rfl u_0) <|
             o_p rfl (ob_load ty_64 rfl rfl u_0) <|
             o_p rfl (ob_load ty_64 rfl rfl u_0) <|
             o_p rfl (ob_callV e2_ (hφ2 _ _ _ h9) rfl rfl u_0 (.cons u_1 (.cons u_2 .nil))) <|
             o_p rfl (ob_not rfl rfl u_0) <|
             o_n) (by kernel_rfl) (fun a g hst hb => ?_)
          refine wp_cond_split (hst.bool 5 rfl) (fun hc10 => ?_) (fun hc10 => ?_)
          · replace H1 := ite_t hc10 H1
            refine r_s (L := []) (T := [⟨[], _, [], [], [6]⟩]) (F := [.op 0 0]) (hst.pick [] rfl) hb follows
              (o_p rfl (ob_assign rfl rfl c_b) <|
               o_n) (by kernel_rfl) (fun a g hst hb => ?_)
            refine wp_ret ?_
            refine inBlock_r ?_
            refine then_r ?_
            refine then_r ?_
            refine inBlock_r ?_
            refine then_r ?_
            refine then_r ?_
            obtain rfl := Option.some.inj H1
            obtain rfl := Option.some.inj H0
            exact endR1 rfl hst hb (res_tmp (s := 6)) (hst.at 0 rfl)
          · replace H1 := ite_f hc10 H1
            refine wp_skip ?_
            refine inBlock_n ?_
            refine then_n ?_
            refine r_g (L := [(1, _), (2, _), (15, _), (16, _), (17, _)]) (T := [⟨[.old 4], _, [], [], [31]⟩, ⟨[.op 0 0], _, [], [0], [17]⟩]) (F := [.old 0, .old 1, .old 2, .old 3, .op 1 0]) (hst.pick [0, 1, 2, 3, 4] rfl) hb follows
              (o_p rfl (ob_add rfl rfl u_0 c_i rfl) <|
               o_p rfl (ob_move rfl rfl u_0) <|
               o_n) (by kernel_rfl) (fun a g hst hb => ?_)
            exact ⟨n, Nat.lt_succ_self _, (IntKind.i64.wrap (x2 + (1 : Int))), g, rfl, (hst.pick [0, 1, 2, 3, 4] rfl), hb, H1⟩
        · replace H1 := ite_f hc3 H1
          refine wp_exit ?_
          refine then_e ?_
          refine then_e ?_
          refine inBlock_e ?_
          exact ⟨g, rfl, (hst.pick [] rfl), hb, Option.some.inj H1⟩
end Go.CL

set_option linter.unusedVariables false
set_option linter.unusedSimpArgs false
set_option maxRecDepth 100000
namespace Go.CL
open Go Go.RowKit Go.Proofs
theorem rec_Same_1_ok (a0 : api_Item) (a1 : api_Item) {r : Bool} (h : rec_Same_1 a0 a1 = some r) : FnOk Try.prog 44 [(k_api_Item.pd a0), (k_api_Item.pd a1)] (pBool r) := by
  have H0 := h
  unfold rec_Same_1 at H0
  clear h
  refine fn_ok (N := 17) Try.func44 rfl rfl (Nat.le_of_ble_eq_true rfl) rfl rfl (fun a g0 hst hb => ?_)
  refine r_s (L := [(0, _), (1, _)]) (T := [⟨[.old 0], _, [], [], [2]⟩, ⟨[.old 1], _, [], [], [3]⟩, ⟨[], _, [], [], [4]⟩]) (F := [.op 0 0, .op 1 0]) hst hb follows
    (o_p rfl (ob_box1 rfl rfl u_0) <|
     o_p rfl (ob_box1 rfl rfl u_0) <|
     o_p rfl (ob_assign rfl rfl c_b) <|
     o_n) (by kernel_rfl) (fun a g hst hb => ?_)
  obtain ⟨r1, h2, H0⟩ := of_bind H0
  refine r_s (L := [(2, _), (3, _)]) (T := ⟨[.old 0], _, [], [], [5]⟩ :: ⟨[.op 0 0], _, [], [0], [6]⟩ :: ⟨[.old 1], _, [], [], [7]⟩ :: ⟨[.op 2 0], _, [], [2], [8]⟩ :: ⟨[.op 1 0, .op 3 0], _, [], List.range 4, [9]⟩ :: ⟨[.op 4 0], _, [], List.range 5, [10]⟩ :: ⟨[.op 5 0, .old 0], _, [], List.range 6, [11]⟩ :: ⟨[.op 5 0, .op 6 0], _, [], List.range 7, [12]⟩ :: ⟨[.op 5 0, .old 1], _, [], List.range 6, [13]⟩ :: ⟨[.op 5 0, .op 8 0], _, [], [0, 1, 2, 3, 4, 5, 8], [14]⟩ :: ⟨[.op 5 0, .op 7 0, .op 9 0], _, [], List.range 10, [15]⟩ :: ⟨[.op 5 0, .op 10 0], _, [], List.range 11, [16]⟩ :: ⟨[.op 11 0], _, [], List.range 12, [4]⟩ :: []) (F := [.op 12 0]) hst hb follows
    (o_p rfl (ob_fieldAddr fl_64_1 rfl rfl u_0) <|
     o_p rfl (ob_load ty_9 rfl rfl u_0) <|
     o_p rfl (ob_fieldAddr fl_64_1 rfl rfl u_0) <|
     o_p rfl (ob_load ty_9 rfl rfl u_0) <|
     o_p rfl (ob_seq rfl rfl u_0 u_1) <|
     o_p rfl (ob_move rfl rfl u_0) <|
     o_g (g_t rfl rfl rfl (fun hG => ob_fieldAddr fl_64_0 rfl rfl u_0)) <|
     o_g (g_t rfl rfl rfl (fun hG => ob_load ty_35 rfl rfl (Opd.gd hG u_0))) <|
     o_g (g_t rfl rfl rfl (fun hG => ob_fieldAddr fl_64_0 rfl rfl u_0)) <|
     o_g (g_t rfl rfl rfl (fun hG => ob_load ty_35 rfl rfl (Opd.gd hG u_0))) <|
     o_g (g_t rfl rfl rfl (fun hG => ob_call en_42 (flo_Same_ok _ _ (gd_true h2 hG)) rfl rfl (.cons (Opd.gd hG u_0) (.cons (Opd.gd hG u_1) .nil)))) <|
     o_p rfl (ob_pand rfl rfl u_0 (fun hz => (Opd.gd hz u_1))) <|
     o_p rfl (ob_assign rfl rfl u_0) <|
     o_n) (by kernel_rfl) (fun a g hst hb => ?_)
  refine wp_ret ?_
  obtain rfl := Option.some.inj H0
  exact endR1 rfl hst hb (res_tmp (s := 4)) (hst.at 0 rfl)
end Go.CL

set_option linter.unusedVariables false
set_option linter.unusedSimpArgs false
set_option maxRecDepth 100000
namespace Go.CL
open Go Go.RowKit Go.Proofs
theorem rec_Same_ok (a0 : api_Record) (a1 : api_Record) {r : Bool} (h : rec_Same a0 a1 = some r) : FnOk Try.prog 29 [(k_api_Record.pd a0), (k_api_Record.pd a1)] (pBool r) := by
  have H0 := h
  unfold rec_Same at H0
  clear h
  refine fn_ok (N := 59) Try.func29 rfl rfl (Nat.le_of_ble_eq_true rfl) rfl rfl (fun a g0 hst hb => ?_)
  refine r_s (L := [(0, _), (1, _)]) (T := [⟨[.old 0], _, [], [], [2]⟩, ⟨[.old 1], _, [], [], [3]⟩, ⟨[], _, [], [], [4]⟩]) (F := [.op 0 0, .op 1 0]) hst hb follows
    (o_p rfl (ob_box1 rfl rfl u_0) <|
     o_p rfl (ob_box1 rfl rfl u_0) <|
     o_p rfl (ob_assign rfl rfl c_b) <|
     o_n) (by kernel_rfl) (fun a g hst hb => ?_)
  obtain ⟨r1, h2, H0⟩ := of_bind H0; obtain ⟨r3, h4, H0⟩ := of_bind H0
  refine r_s (L := [(2, _), (3, _)]) (T := ⟨[.old 0], _, [], [], [5]⟩ :: ⟨[.op 0 0], _, [], [0], [6]⟩ :: ⟨[.old 1], _, [], [], [7]⟩ :: ⟨[.op 2 0], _, [], [2], [8]⟩ :: ⟨[.op 1 0, .op 3 0], _, [], List.range 4, [9]⟩ :: ⟨[.op 4 0], _, [], List.range 5, [10]⟩ :: ⟨[.op 5 0, .old 0], _, [], List.range 6, [11]⟩ :: ⟨[.op 5 0, .op 6 0], _, [], List.range 7, [12]⟩ :: ⟨[.op 5 0, .old 1], _, [], List.range 6, [13]⟩ :: ⟨[.op 5 0, .op 8 0], _, [], [0, 1, 2, 3, 4, 5, 8], [14]⟩ :: ⟨[.op 5 0, .op 7 0, .op 9 0], _, [], List.range 10, [15]⟩ :: ⟨[.op 5 0, .op 10 0], _, [], List.range 11, [16]⟩ :: ⟨[.op 11 0], _, [], List.range 12, [17]⟩ :: ⟨[.op 12 0, .old 0], _, [], List.range 13, [18]⟩ :: ⟨[.op 12 0, .op 13 0], _, [], List.range 14, [19]⟩ :: ⟨[.op 12 0, .old 1], _, [], List.range 13, [20]⟩ :: ⟨[.op 12 0, .op 15 0], _, [], 0 :: 1 :: 2 :: 3 :: 4 :: 5 :: 6 :: 7 :: 8 :: 9 :: 10 :: 11 :: 12 :: 15 :: [], [21]⟩ :: ⟨[.op 12 0, .op 14 0, .op 16 0], _, [], List.range 17, [22]⟩ :: ⟨[.op 12 0, .op 17 0], _, [], List.range 18, [23]⟩ :: ⟨[.op 18 0], _, [], List.range 19, [24]⟩ :: ⟨[.op 19 0, .old 0], _, [], List.range 20, [25]⟩ :: ⟨[.op 19 0, .op 20 0], _, [], List.range 21, [26]⟩ :: ⟨[.op 19 0, .old 1], _, [], List.range 20, [27]⟩ :: ⟨[.op 19 0, .op 22 0], _, [], 0 :: 1 :: 2 :: 3 :: 4 :: 5 :: 6 :: 7 :: 8 :: 9 :: 10 :: 11 :: 12 :: 13 :: 14 :: 15 :: 16 :: 17 :: 18 :: 19 :: 22 :: [], [28]⟩ :: ⟨[.op 19 0, .op 21 0, .op 23 0], _, [], List.range 24, [29]⟩ :: ⟨[.op 19 0, .op 24 0], _, [], List.range 25, [30]⟩ :: ⟨[.op 25 0], _, [], List.range 26, [31]⟩ :: ⟨[.op 26 0, .old 0], _, [], List.range 27, [32]⟩ :: ⟨[.op 26 0, .op 27 0], _, [], List.range 28, [33]⟩ :: ⟨[.op 26 0, .old 1], _, [], List.range 27, [34]⟩ :: ⟨[.op 26 0, .op 29 0], _, [], 0 :: 1 :: 2 :: 3 :: 4 :: 5 :: 6 :: 7 :: 8 :: 9 :: 10 :: 11 :: 12 :: 13 :: 14 :: 15 :: 16 :: 17 :: 18 :: 19 :: 20 :: 21 :: 22 :: 23 :: 24 :: 25 :: 26 :: 29 :: [], [35]⟩ :: ⟨[.op 26 0, .op 28 0, .op 30 0], _, [], List.range 31, [36]⟩ :: ⟨[.op 26 0, .op 31 0], _, [], List.range 32, [37]⟩ :: ⟨[.op 32 0], _, [], List.range 33, [38]⟩ :: ⟨[.op 33 0, .old 0], _, [], List.range 34, [39]⟩ :: ⟨[.op 33 0, .op 34 0], _, [], List.range 35, [40]⟩ :: ⟨[.op 33 0, .old 1], _, [], List.range 34, [41]⟩ :: ⟨[.op 33 0, .op 36 0], _, [], 0 :: 1 :: 2 :: 3 :: 4 :: 5 :: 6 :: 7 :: 8 :: 9 :: 10 :: 11 :: 12 :: 13 :: 14 :: 15 :: 16 :: 17 :: 18 :: 19 :: 20 :: 21 :: 22 :: 23 :: 24 :: 25 :: 26 :: 27 :: 28 :: 29 :: 30 :: 31 :: 32 :: 33 :: 36 :: [], [42]⟩ :: ⟨[.op 33 0, .op 35 0, .op 37 0], _, [], List.range 38, [43]⟩ :: ⟨[.op 33 0, .op 38 0], _, [], List.range 39, [44]⟩ :: ⟨[.op 39 0], _, [], List.range 40, [45]⟩ :: ⟨[.op 40 0, .old 0], _, [], List.range 41, [46]⟩ :: ⟨[.op 40 0, .op 41 0], _, [], List.range 42, [47]⟩ :: ⟨[.op 40 0, .old 1], _, [], List.range 41, [48]⟩ :: ⟨[.op 40 0, .op 43 0], _, [], 0 :: 1 :: 2 :: 3 :: 4 :: 5 :: 6 :: 7 :: 8 :: 9 :: 10 :: 11 :: 12 :: 13 :: 14 :: 15 :: 16 :: 17 :: 18 :: 19 :: 20 :: 21 :: 22 :: 23 :: 24 :: 25 :: 26 :: 27 :: 28 :: 29 :: 30 :: 31 :: 32 :: 33 :: 34 :: 35 :: 36 :: 37 :: 38 :: 39 :: 40 :: 43 :: [], [49]⟩ :: ⟨[.op 40 0, .op 42 0, .op 44 0], _, [], List.range 45, [50]⟩ :: ⟨[.op 40 0, .op 45 0], _, [], List.range 46, [51]⟩ :: ⟨[.op 46 0], _, [], List.range 47, [52]⟩ :: ⟨[.op 47 0, .old 0], _, [], List.range 48, [53]⟩ :: ⟨[.op 47 0, .op 48 0], _, [], List.range 49, [54]⟩ :: ⟨[.op 47 0, .old 1], _, [], List.range 48, [55]⟩ :: ⟨[.op 47 0, .op 50 0], _, [], 0 :: 1 :: 2 :: 3 :: 4 :: 5 :: 6 :: 7 :: 8 :: 9 :: 10 :: 11 :: 12 :: 13 :: 14 :: 15 :: 16 :: 17 :: 18 :: 19 :: 20 :: 21 :: 22 :: 23 :: 24 :: 25 :: 26 :: 27 :: 28 :: 29 :: 30 :: 31 :: 32 :: 33 :: 34 :: 35 :: 36 :: 37 :: 38 :: 39 :: 40 :: 41 :: 42 :: 43 :: 44 :: 45 :: 46 :: 47 :: 50 :: [], [56]⟩ :: ⟨[.op 47 0, .op 49 0, .op 51 0], _, [], List.range 52, [57]⟩ :: ⟨[.op 47 0, .op 52 0], _, [], List.range 53, [58]⟩ :: ⟨[.op 53 0], _, [], List.range 54, [4]⟩ :: []) (F := [.op 54 0]) hst hb follows
    (o_p rfl (ob_fieldAddr fl_38_0 rfl rfl u_0) <|
     o_p rfl (ob_load ty_3 rfl rfl u_0) <|
     o_p rfl (ob_fieldAddr fl_38_0 rfl rfl u_0) <|
     o_p rfl (ob_load ty_3 rfl rfl u_0) <|
     o_p rfl (ob_eq rfl rfl u_0 u_1) <|
     o_p rfl (ob_move rfl rfl u_0) <|
     o_g (g_t rfl rfl rfl (fun hG => ob_fieldAddr fl_38_1 rfl rfl u_0)) <|
     o_g (g_t rfl rfl rfl (fun hG => ob_load ty_2 rfl rfl (Opd.gd hG u_0))) <|
     o_g (g_t rfl rfl rfl (fun hG => ob_fieldAddr fl_38_1 rfl rfl u_0)) <|
     o_g (g_t rfl rfl rfl (fun hG => ob_load ty_2 rfl rfl (Opd.gd hG u_0))) <|
     o_g (g_t rfl rfl rfl (fun hG => ob_eq rfl rfl (Opd.gd hG u_0) (Opd.gd hG u_1))) <|
     o_p rfl (ob_pand rfl rfl u_0 (fun hz => (Opd.gd hz u_1))) <|
     o_p rfl (ob_move rfl rfl u_0) <|
     o_g (g_t rfl rfl rfl (fun hG => ob_fieldAddr fl_38_2 rfl rfl u_0)) <|
     o_g (g_t rfl rfl rfl (fun hG => ob_load ty_2 rfl rfl (Opd.gd hG u_0))) <|
     o_g (g_t rfl rfl rfl (fun hG => ob_fieldAddr fl_38_2 rfl rfl u_0)) <|
     o_g (g_t rfl rfl rfl (fun hG => ob_load ty_2 rfl rfl (Opd.gd hG u_0))) <|
     o_g (g_t rfl rfl rfl (fun hG => ob_eq rfl rfl (Opd.gd hG u_0) (Opd.gd hG u_1))) <|
     o_p rfl (ob_pand rfl rfl u_0 (fun hz => (Opd.gd hz u_1))) <|
     o_p rfl (ob_move rfl rfl u_0) <|
     o_g (g_t rfl rfl rfl (fun hG => ob_fieldAddr fl_38_3 rfl rfl u_0)) <|
     o_g (g_t rfl rfl rfl (fun hG => ob_load ty_2 rfl rfl (Opd.gd hG u_0))) <|
     o_g (g_t rfl rfl rfl (fun hG => ob_fieldAddr fl_38_3 rfl rfl u_0)) <|
     o_g (g_t rfl rfl rfl (fun hG => ob_load ty_2 rfl rfl (Opd.gd hG u_0))) <|
     o_g (g_t rfl rfl rfl (fun hG => ob_eq rfl rfl (Opd.gd hG u_0) (Opd.gd hG u_1))) <|
     o_p rfl (ob_pand rfl rfl u_0 (fun hz => (Opd.gd hz u_1))) <|
     o_p rfl (ob_move rfl rfl u_0) <|
     o_g (g_t rfl rfl rfl (fun hG => ob_fieldAddr fl_38_4 rfl rfl u_0)) <|
     o_g (g_t rfl rfl rfl (fun hG => ob_load ty_35 rfl rfl (Opd.gd hG u_0))) <|
     o_g (g_t rfl rfl rfl (fun hG => ob_fieldAddr fl_38_4 rfl rfl u_0)) <|
     o_g (g_t rfl rfl rfl (fun hG => ob_load ty_35 rfl rfl (Opd.gd hG u_0))) <|
     o_g (g_t rfl rfl rfl (fun hG => ob_call en_42 (flo_Same_ok _ _ (gd_true h2 hG)) rfl rfl (.cons (Opd.gd hG u_0) (.cons (Opd.gd hG u_1) .nil)))) <|
     o_p rfl (ob_pand rfl rfl u_0 (fun hz => (Opd.gd hz u_1))) <|
     o_p rfl (ob_move rfl rfl u_0) <|
     o_g (g_t rfl rfl rfl (fun hG => ob_fieldAddr fl_38_5 rfl rfl u_0)) <|
     o_g (g_t rfl rfl rfl (fun hG => ob_load ty_3 rfl rfl (Opd.gd hG u_0))) <|
     o_g (g_t rfl rfl rfl (fun hG => ob_fieldAddr fl_38_5 rfl rfl u_0)) <|
     o_g (g_t rfl rfl rfl (fun hG => ob_load ty_3 rfl rfl (Opd.gd hG u_0))) <|
     o_g (g_t rfl rfl rfl (fun hG => ob_eq rfl rfl (Opd.gd hG u_0) (Opd.gd hG u_1))) <|
     o_p rfl (ob_pand rfl rfl u_0 (fun hz => (Opd.gd hz u_1))) <|
     o_p rfl (ob_move rfl rfl u_0) <|
     o_g (g_t rfl rfl rfl (fun hG => ob_fieldAddr fl_38_6 rfl rfl u_0)) <|
     o_g (g_t rfl rfl rfl (fun hG => ob_load ty_9 rfl rfl (Opd.gd hG u_0))) <|
     o_g (g_t rfl rfl rfl (fun hG => ob_fieldAddr fl_38_6 rfl rfl u_0)) <|
     o_g (g_t rfl rfl rfl (fun hG => ob_load ty_9 rfl rfl (Opd.gd hG u_0))) <|
     o_g (g_t rfl rfl rfl (fun hG => ob_seq rfl rfl (Opd.gd hG u_0) (Opd.gd hG u_1))) <|
     o_p rfl (ob_pand rfl rfl u_0 (fun hz => (Opd.gd hz u_1))) <|
     o_p rfl (ob_move rfl rfl u_0) <|
     o_g (g_t rfl rfl rfl (fun hG => ob_fieldAddr fl_38_7 rfl rfl u_0)) <|
     o_g (g_t rfl rfl rfl (fun hG => ob_load ty_36 rfl rfl (Opd.gd hG u_0))) <|
     o_g (g_t rfl rfl rfl (fun hG => ob_fieldAddr fl_38_7 rfl rfl u_0)) <|
     o_g (g_t rfl rfl rfl (fun hG => ob_load ty_36 rfl rfl (Opd.gd hG u_0))) <|
     o_g (g_t rfl rfl rfl (fun hG => ob_call en_43 (slices_EqualFunc_api_Item_api_Item_api_Item_api_Item_ok 44 [] rfl en_44 (fun y0 y1 => rec_Same_1 y0 y1) (fun y0 y1 r h => rec_Same_1_ok y0 y1 h) _ _ (gd_true h4 hG)) rfl rfl (.cons (Opd.gd hG u_0) (.cons (Opd.gd hG u_1) (.cons Opd.fnc .nil))))) <|
     o_p rfl (ob_pand rfl rfl u_0 (fun hz => (Opd.gd hz u_1))) <|
     o_p rfl (ob_assign rfl rfl u_0) <|
     o_n) (by kernel_rfl) (fun a g hst hb => ?_)
  refine wp_ret ?_
  obtain rfl := Option.some.inj H0
  exact endR1 rfl hst hb (res_tmp (s := 4)) (hst.at 0 rfl)
end Go.CL

set_option linter.unusedVariables false
set_option linter.unusedSimpArgs false
set_option maxRecDepth 100000
namespace Go.CL
open Go Go.RowKit Go.Proofs
theorem shelf_Same_ok (a0 : shelf_Shelf) (a1 : shelf_Shelf) {r : Bool} (h : shelf_Same a0 a1 = some r) : FnOk Try.prog 18 [(k_shelf_Shelf.pd a0), (k_shelf_Shelf.pd a1)] (pBool r) := by
  have H0 := h
  unfold shelf_Same at H0
  clear h
  refine fn_ok (N := 46) Try.func18 rfl rfl (Nat.le_of_ble_eq_true rfl) rfl rfl (fun a g0 hst hb => ?_)
  refine r_s (L := [(0, _), (1, _)]) (T := [⟨[.old 0], _, [], [], [2]⟩, ⟨[.old 1], _, [], [], [3]⟩, ⟨[], _, [], [], [4]⟩]) (F := [.op 0 0, .op 1 0]) hst hb follows
    (o_p rfl (ob_box1 rfl rfl u_0) <|
     o_p rfl (ob_box1 rfl rfl u_0) <|
     o_p rfl (ob_assign rfl rfl c_b) <|
     o_n) (by kernel_rfl) (fun a g hst hb => ?_)
  refine wp_seq ?_
  obtain ⟨r1, h2, H0⟩ := of_bind H0; obtain ⟨r3, h4, H0⟩ := of_bind H0
  refine r_s (L := [(2, _), (3, _)]) (T := [⟨[.old 0], _, [], [], [12]⟩, ⟨[.op 0 0], _, [], [0], [13]⟩, ⟨[.old 1], _, [], [], [14]⟩, ⟨[.op 2 0], _, [], [0, 1, 2], [15]⟩, ⟨[.op 1 0, .op 3 0], _, [], List.range 4, [16]⟩]) (F := [.old 0, .old 1, .op 4 0]) hst hb follows
    (o_p rfl (ob_load ty_28 rfl rfl u_0) <|
     o_p rfl (ob_call en_17 (shelf_Shelf_Len_ok _ h2) rfl rfl (.cons u_0 .nil)) <|
     o_p rfl (ob_load ty_28 rfl rfl u_0) <|
     o_p rfl (ob_call en_17 (shelf_Shelf_Len_ok _ h4) rfl rfl (.cons u_0 .nil)) <|
     o_p rfl (ob_ne rfl rfl u_0 u_1) <|
     o_n) (by kernel_rfl) (fun a g hst hb => ?_)
  refine wp_cond_split (hst.bool 2 rfl) (fun hc5 => ?_) (fun hc5 => ?_)
  · replace H0 := ite_t hc5 H0
    refine r_s (L := []) (T := [⟨[], _, [], [], [4]⟩]) (F := [.op 0 0]) (hst.pick [] rfl) hb follows
      (o_p rfl (ob_assign rfl rfl c_b) <|
       o_n) (by kernel_rfl) (fun a g hst hb => ?_)
    refine wp_ret ?_
    refine then_r ?_
    obtain rfl := Option.some.inj H0
    exact endR1 rfl hst hb (res_tmp (s := 4)) (hst.at 0 rfl)
  · replace H0 := ite_f hc5 H0
    refine wp_skip ?_
    refine then_n ?_
    refine wp_seq ?_
    obtain ⟨r6, h7, H0⟩ := of_bind H0
    refine r_s (L := [(2, _), (3, _)]) (T := [⟨[.old 0], _, [], [], [17]⟩, ⟨[.op 0 0], _, [], [0], [18]⟩, ⟨[], _, [], [], [19]⟩]) (F := [.old 0, .old 1, .op 1 0, .op 2 0]) (hst.pick [0, 1] rfl) hb follows
      (o_p rfl (ob_load ty_28 rfl rfl u_0) <|
       o_p rfl (ob_call en_17 (shelf_Shelf_Len_ok _ h7) rfl rfl (.cons u_0 .nil)) <|
       o_p rfl (ob_move rfl rfl c_i) <|
       o_n) (by kernel_rfl) (fun a g hst hb => ?_)
    obtain ⟨z17, hz1, H0⟩ := of_bind H0
    refine wp_cut (fun a w => ∃ (g : G), w = g.w ∧ St 46 [] a g ∧ Base g0 g ∧ (.inr ()) = z17) ?_ ?_
    · rintro a w ⟨g, rfl, hst, hb, rfl⟩
      refine then_n ?_
      refine r_s (L := []) (T := [⟨[], _, [], [], [4]⟩]) (F := [.op 0 0]) hst hb follows
        (o_p rfl (ob_assign rfl rfl c_b) <|
         o_n) (by kernel_rfl) (fun a g hst hb => ?_)
      refine wp_ret ?_
      obtain rfl := Option.some.inj H0
      exact endR1 rfl hst hb (res_tmp (s := 4)) (hst.at 0 rfl)
    · refine wp_block ?_
      refine wp_loop_ghost (fun n a w => ∃ (x8 : Int) (g : G), w = g.w ∧ St 46 [(2, (k_shelf_Shelf.ptr a0)), (3, (k_shelf_Shelf.ptr a1)), (18, (pInt .i64 r6)), (19, (pInt .i64 x8))] a g ∧ Base g0 g ∧ shelf_Same_l1 a0 a1 r6 n x8 = some z17) (Int.toNat (r6 - (0 : Int)) + 1) ⟨(0 : Int), g, rfl, (hst.pick [0, 1, 2, 3] rfl), hb, hz1⟩ (fun n a w hI => ?_)
      obtain ⟨x8, g, rfl, hst, hb, H1⟩ := hI
      cases n with
      | zero => exact absurd H1 (by simp [shelf_Same_l1])
      | succ n =>
        rw [shelf_Same_l1] at H1
        refine r_s (L := [(2, _), (3, _), (18, _), (19, _)]) (T := [⟨[.old 3, .old 2], _, [], [], [20]⟩]) (F := [.old 0, .old 1, .old 2, .old 3, .op 0 0]) hst hb follows
          (o_p rfl (ob_lt rfl rfl u_0 u_1) <|
           o_n) (by kernel_rfl) (fun a g hst hb => ?_)
        refine wp_seq ?_
        refine wp_cond_split (hst.bool 4 rfl) (fun hc9 => ?_) (fun hc9 => ?_)
        · replace H1 := ite_t hc9 H1
          refine wp_skip ?_
          refine then_n ?_
          refine wp_seq ?_
          refine wp_block ?_
          refine r_s (L := [(2, _), (3, _), (18, _), (19, _)]) (T := [⟨[.old 3], _, [], [], [21]⟩, ⟨[.op 0 0], _, [], [0], [5]⟩]) (F := [.old 0, .old 1, .op 1 0, .old 2, .old 3]) (hst.pick [0, 1, 2, 3] rfl) hb follows
            (o_p rfl (ob_move rfl rfl u_0) <|
             o_p rfl (ob_assign rfl rfl u_0) <|
             o_n) (by kernel_rfl) (fun a g hst hb => ?_)
          obtain ⟨r10, h11, H1⟩ := of_bind H1
          refine r_s (L := [(2, _), (3, _), (5, _), (18, _), (19, _)]) (T := [⟨[.old 0], _, [], [], [23]⟩, ⟨[.old 2], _, [], [], [24]⟩, ⟨[.op 0 0, .op 1 0], _, [], [0, 1], [25]⟩, ⟨[.op 2 0], _, [], [0, 1, 2], [22]⟩, ⟨[.op 3 0], _, [], List.range 4, [26]⟩, ⟨[.op 3 0], _, [], List.range 4, [27]⟩, ⟨[.op 3 0], _, [], List.range 4, [28]⟩, ⟨[], [(7, (pBox k_api_Record 7 (default : api_Record)))], [8], [], [7]⟩, ⟨[.op 4 0], _, [], [0, 1, 2, 3, 4, 7], [6]⟩, ⟨[.op 5 0, .op 7 0], _, [8], [0, 1, 2, 3, 4, 5, 7, 8], [7]⟩, ⟨[.op 6 0], _, [], List.range 10, [8]⟩]) (F := [.old 0, .old 1, .old 2, .op 8 0, .op 9 0, .old 3, .old 4]) hst hb follows
            (o_p rfl (ob_load ty_28 rfl rfl u_0) <|
             o_p rfl (ob_move rfl rfl u_0) <|
             o_p rfl (ob_call en_16 (shelf_Shelf_At_ok _ _ h11) rfl rfl (.cons u_0 (.cons u_1 .nil))) <|
             o_p rfl (ob_move rfl rfl u_0) <|
             o_p rfl (ob_extract rfl rfl u_0 rfl) <|
             o_p rfl (ob_extract rfl rfl u_0 rfl) <|
             o_p rfl (ob_extract rfl rfl u_0 rfl) <|
             o_p rfl (ob_alloc (zs := [.int .i64 0, .int .i64 0, .int .i64 0, .int .i64 0, .float .f64 0, .int .i64 0, .string ByteArray.empty, .slice none 0 0]) (by kernel_rfl) (fun g => zk_api_Record g) rfl rfl) <|
             o_p rfl (ob_assign rfl rfl u_0) <|
             o_p rfl (ob_storeF ty_38 rfl rfl u_1 u_0) <|
             o_p rfl (ob_assign rfl rfl u_0) <|
             o_n) (by kernel_rfl) (fun a g hst hb => ?_)
          obtain ⟨r12, h13, H1⟩ := of_bind H1
          refine r_s (L := [(2, _), (3, _), (5, _), (6, _), (7, _), (18, _), (19, _)]) (T := [⟨[.old 1], _, [], [], [30]⟩, ⟨[.old 2], _, [], [], [31]⟩, ⟨[.op 0 0, .op 1 0], _, [], [0, 1], [32]⟩, ⟨[.op 2 0], _, [], [0, 1, 2], [29]⟩, ⟨[.op 3 0], _, [], List.range 4, [33]⟩, ⟨[.op 3 0], _, [], List.range 4, [34]⟩, ⟨[.op 3 0], _, [], List.range 4, [35]⟩, ⟨[], [(10, (pBox k_api_Record 10 (default : api_Record)))], [11], [], [10]⟩, ⟨[.op 4 0], _, [], [0, 1, 2, 3, 4, 7], [9]⟩, ⟨[.op 5 0, .op 7 0], _, [11], [0, 1, 2, 3, 4, 5, 7, 8], [10]⟩, ⟨[.op 6 0], _, [], List.range 10, [11]⟩]) (F := [.old 0, .old 1, .old 3, .old 4, .op 8 0, .op 9 0, .old 5, .old 6]) hst hb follows
            (o_p rfl (ob_load ty_28 rfl rfl u_0) <|
             o_p rfl (ob_move rfl rfl u_0) <|
             o_p rfl (ob_call en_16 (shelf_Shelf_At_ok _ _ h13) rfl rfl (.cons u_0 (.cons u_1 .nil))) <|
             o_p rfl (ob_move rfl rfl u_0) <|
             o_p rfl (ob_extract rfl rfl u_0 rfl) <|
             o_p rfl (ob_extract rfl rfl u_0 rfl) <|
             o_p rfl (ob_extract rfl rfl u_0 rfl) <|
             o_p rfl (ob_alloc (zs := [.int .i64 0, .int .i64 0, .int .i64 0, .int .i64 0, .float .f64 0, .int .i64 0, .string ByteArray.empty, .slice none 0 0]) (by kernel_rfl) (fun g => zk_api_Record g) rfl rfl) <|
             o_p rfl (ob_assign rfl rfl u_0) <|
             o_p rfl (ob_storeF ty_38 rfl rfl u_1 u_0) <|
             o_p rfl (ob_assign rfl rfl u_0) <|
             o_n) (by kernel_rfl) (fun a g hst hb => ?_)
          obtain ⟨r14, h15, H1⟩ := of_bind H1
          refine r_s (L := [(2, _), (3, _), (6, _), (7, _), (9, _), (10, _), (18, _), (19, _)]) (T := [⟨[.old 2], _, [], [], [36]⟩, ⟨[.old 4], _, [], [], [37]⟩, ⟨[.op 0 0, .op 1 0], _, [], [0, 1], [38]⟩, ⟨[.op 2 0], _, [], [0, 1, 2], [39]⟩, ⟨[.op 3 0, .old 3], _, [], List.range 4, [40]⟩, ⟨[.op 3 0, .old 5], _, [], List.range 4, [41]⟩, ⟨[.op 3 0, .op 4 0, .op 5 0], _, [], List.range 6, [42]⟩, ⟨[.op 3 0, .op 6 0], _, [], List.range 7, [43]⟩, ⟨[.op 3 0, .op 7 0], _, [], List.range 8, [44]⟩]) (F := [.old 0, .old 1, .old 6, .old 7, .op 8 0]) hst hb follows
            (o_p rfl (ob_move rfl rfl u_0) <|
             o_p rfl (ob_move rfl rfl u_0) <|
             o_p rfl (ob_sne rfl rfl u_0 u_1) <|
             o_p rfl (ob_move rfl rfl u_0) <|
             o_g (g_f rfl rfl rfl (fun hG => ob_load ty_38 rfl rfl u_0)) <|
             o_g (g_f rfl rfl rfl (fun hG => ob_load ty_38 rfl rfl u_0)) <|
             o_g (g_f rfl rfl rfl (fun hG => ob_call en_29 (rec_Same_ok _ _ (gd_true h15 hG)) rfl rfl (.cons (Opd.gd hG u_0) (.cons (Opd.gd hG u_1) .nil)))) <|
             o_g (g_f rfl rfl rfl (fun hG => ob_not rfl rfl (Opd.gd hG u_0))) <|
             o_p rfl (ob_por rfl rfl u_0 (fun hz => (Opd.gd (bNF hz) u_1))) <|
             o_n) (by kernel_rfl) (fun a g hst hb => ?_)
          refine wp_cond_split (hst.bool 4 rfl) (fun hc16 => ?_) (fun hc16 => ?_)
          · replace H1 := ite_t hc16 H1
            refine r_s (L := []) (T := [⟨[], _, [], [], [4]⟩]) (F := [.op 0 0]) (hst.pick [] rfl) hb follows
              (o_p rfl (ob_assign rfl rfl c_b) <|
               o_n) (by kernel_rfl) (fun a g hst hb => ?_)
            refine wp_ret ?_
            refine inBlock_r ?_
            refine then_r ?_
            refine then_r ?_
            refine inBlock_r ?_
            refine then_r ?_
            refine then_r ?_
            obtain rfl := Option.some.inj H1
            obtain rfl := Option.some.inj H0
            exact endR1 rfl hst hb (res_tmp (s := 4)) (hst.at 0 rfl)
          · replace H1 := ite_f hc16 H1
            refine wp_skip ?_
            refine inBlock_n ?_
            refine then_n ?_
            refine r_g (L := [(2, _), (3, _), (18, _), (19, _)]) (T := [⟨[.old 3], _, [], [], [45]⟩, ⟨[.op 0 0], _, [], [0], [19]⟩]) (F := [.old 0, .old 1, .old 2, .op 1 0]) (hst.pick [0, 1, 2, 3] rfl) hb follows
              (o_p rfl (ob_add rfl rfl u_0 c_i rfl) <|
               o_p rfl (ob_move rfl rfl u_0) <|
               o_n) (by kernel_rfl) (fun a g hst hb => ?_)
            exact ⟨n, Nat.lt_succ_self _, (IntKind.i64.wrap (x8 + (1 : Int))), g, rfl, (hst.pick [0, 1, 2, 3] rfl), hb, H1⟩
        · replace H1 := ite_f hc9 H1
          refine wp_exit ?_
          refine then_e ?_
          refine then_e ?_
          refine inBlock_e ?_
          exact ⟨g, rfl, (hst.pick [] rfl), hb, Option.some.inj H1⟩
end Go.CL

set_option linter.unusedVariables false
set_option linter.unusedSimpArgs false
set_option maxRecDepth 100000
namespace Go.CL
open Go Go.RowKit Go.Proofs
theorem shelf_Shelf_Get_ok (a0 : shelf_Shelf) (a1 : ByteArray) {r : api_Record × Bool} (h : shelf_Shelf_Get a0 a1 = some r) : FnOk Try.prog 22 [(k_shelf_Shelf.pd a0), (pStr a1)] (pTup [(k_api_Record.pd r.1), (pBool r.2)]) := by
  have H0 := h
  unfold shelf_Shelf_Get at H0
  clear h
  refine fn_ok (N := 39) Try.func22 rfl rfl (Nat.le_of_ble_eq_true rfl) rfl rfl (fun a g0 hst hb => ?_)
  refine r_s (L := [(0, _), (1, _)]) (T := [⟨[.old 0], _, [], [], [2]⟩, ⟨[], [(4, (pBox k_api_Record 4 (default : api_Record)))], [5], [], [4]⟩, ⟨[], _, [], [], [5]⟩]) (F := [.old 1, .op 0 0, .op 1 0]) hst hb follows
    (o_p rfl (ob_box1 rfl rfl u_0) <|
     o_p rfl (ob_alloc (zs := [.int .i64 0, .int .i64 0, .int .i64 0, .int .i64 0, .float .f64 0, .int .i64 0, .string ByteArray.empty, .slice none 0 0]) (by kernel_rfl) (fun g => zk_api_Record g) rfl rfl) <|
     o_p rfl (ob_assign rfl rfl c_b) <|
     o_n) (by kernel_rfl) (fun a g hst hb => ?_)
  refine wp_seq ?_
  refine r_s (L := [(1, _), (2, _), (4, _)]) (T := [⟨[.old 1], _, [], [], [7]⟩, ⟨[.op 0 0], _, [], [0], [8]⟩, ⟨[.op 1 0], _, [], [0, 1], [6]⟩]) (F := [.old 0, .old 2, .op 2 0]) hst hb follows
    (o_p rfl (ob_fieldAddr fl_28_0 rfl rfl u_0) <|
     o_p rfl (ob_load ty_26 rfl rfl u_0) <|
     o_p rfl (ob_assign rfl rfl u_0) <|
     o_n) (by kernel_rfl) (fun a g hst hb => ?_)
  obtain ⟨z12, hz1, H0⟩ := of_bind H0
  refine wp_cut (fun a w => ∃ (y11 : api_Record) (g : G), w = g.w ∧ St 39 [(4, (pBox k_api_Record 4 y11))] a g ∧ Base g0 g ∧ (.inr y11) = z12) ?_ ?_
  · rintro a w ⟨y11, g, rfl, hst, hb, rfl⟩
    refine then_n ?_
    refine r_s (L := [(4, _)]) (T := [⟨[], _, [], [], [38]⟩, ⟨[.op 0 0, .old 0], _, [5], [0], [4]⟩, ⟨[], _, [], [0, 1], [5]⟩]) (F := [.op 1 0, .op 2 0]) hst hb follows
      (o_p rfl (bd_38_ rfl rfl ) <|
       o_p rfl (ob_store ty_38 rfl rfl u_1 u_0) <|
       o_p rfl (ob_assign rfl rfl c_b) <|
       o_n) (by kernel_rfl) (fun a g hst hb => ?_)
    refine wp_ret ?_
    obtain rfl := Option.some.inj H0
    obtain ⟨u0, hu0, hq0⟩ := res_box (P := Try.prog) ty_38 (hst.at 0 rfl)
    exact endR2 rfl hst hb hu0 (res_tmp (s := 5)) (pTup_2 hq0 (hst.at 1 rfl))
  · refine wp_block ?_
    refine wp_loop_ghost (fun n a w => ∃ (x1 : api_Record) (x2 : shelf_nodeT) (g : G), w = g.w ∧ St 39 [(1, (pStr a1)), (4, (pBox k_api_Record 4 x1)), (6, (k_shelf_nodeT.pd x2))] a g ∧ Base g0 g ∧ shelf_Shelf_Get_l1 a1 n x1 x2 = some z12) (a0.top.hh + 1) ⟨(default : api_Record), a0.top, g, rfl, (hst.pick [0, 1, 2] rfl), hb, hz1⟩ (fun n a w hI => ?_)
    obtain ⟨x1, x2, g, rfl, hst, hb, H1⟩ := hI
    cases n with
    | zero => exact absurd H1 (by simp [shelf_Shelf_Get_l1])
    | succ n =>
      rw [shelf_Shelf_Get_l1] at H1
      refine wp_seq ?_
      refine r_s (L := [(1, _), (4, _), (6, _)]) (T := [⟨[.old 2], _, [], [], [9]⟩, ⟨[.op 0 0], _, [], [0], [10]⟩]) (F := [.old 0, .old 1, .old 2, .op 1 0]) hst hb follows
        (o_p rfl (ob_move rfl rfl u_0) <|
         o_p rfl (ob_pne Try.underlying26 rfl rfl u_0 (shelf_nodeT_isptr _)) <|
         o_n) (by kernel_rfl) (fun a g hst hb => ?_)
      refine wp_cond_split (hst.bool 3 rfl) (fun hc3 => ?_) (fun hc3 => ?_)
      · replace H1 := ite_t hc3 H1
        refine wp_skip ?_
        refine then_n ?_
        refine wp_cut (fun a w => ∃ (j10 : shelf_nodeT) (g : G), w = g.w ∧ St 39 [(1, (pStr a1)), (4, (pBox k_api_Record 4 x1)), (6, (k_shelf_nodeT.pd j10))] a g ∧ Base g0 g ∧ shelf_Shelf_Get_j1 x1 (shelf_Shelf_Get_l1 a1 n) j10 = some z12) ?_ ?_
        · rintro a w ⟨j10, g, rfl, hst, hb, H1⟩
          unfold shelf_Shelf_Get_j1 at H1
          exact ⟨n, Nat.lt_succ_self _, x1, j10, g, rfl, (hst.pick [0, 1, 2] rfl), hb, H1⟩
        · refine wp_block ?_
          refine wp_block ?_
          obtain ⟨n4, h5, H1⟩ := of_bind H1
          refine r_s (L := [(1, _), (4, _), (6, _)]) (T := [⟨[.old 0], _, [], [], [17]⟩, ⟨[.old 2], _, [], [], [18]⟩, ⟨[.op 1 0], _, [], [1], [19]⟩, ⟨[.op 2 0], _, [], [1, 2], [20]⟩, ⟨[.op 3 0], _, [], [1, 2, 3], [21]⟩, ⟨[.op 0 0, .op 4 0], _, [], List.range 5, [22]⟩, ⟨[.op 5 0], _, [], List.range 6, [16]⟩]) (F := [.old 0, .old 1, .old 2, .op 6 0]) (hst.pick [0, 1, 2] rfl) hb follows
            (o_p rfl (ob_move rfl rfl u_0) <|
             o_p rfl (ob_move rfl rfl u_0) <|
             o_p rfl (ob_nilCheck rfl rfl (Opd.imp u_0 (fun _ _ h => shelf_nodeT_node h5 h)) (fun _ _ ⟨_, _, _, e, _⟩ => ⟨_, e⟩)) <|
             o_p rfl (ob_fieldAddr fl_75_0 rfl rfl u_0) <|
             o_p rfl (ob_load ty_9 rfl rfl u_0) <|
             o_p rfl (ob_slt rfl rfl u_0 u_1) <|
             o_p rfl (ob_assign rfl rfl u_0) <|
             o_n) (by kernel_rfl) (fun a g hst hb => ?_)
          refine wp_cond_split (hst.bool 3 rfl) (fun hc6 => ?_) (fun hc6 => ?_)
          · replace H1 := ite_t hc6 H1
            refine r_g (L := [(1, _), (4, _), (6, _)]) (T := [⟨[.old 2], _, [], [], [23]⟩, ⟨[.op 0 0], _, [], [0], [24]⟩, ⟨[.op 1 0], _, [], [0, 1], [25]⟩, ⟨[.op 2 0], _, [], [0, 1, 2], [26]⟩, ⟨[.op 3 0], _, [], List.range 4, [6]⟩]) (F := [.old 0, .old 1, .op 4 0]) (hst.pick [0, 1, 2] rfl) hb follows
              (o_p rfl (ob_move rfl rfl u_0) <|
               o_p rfl (ob_nilCheck rfl rfl (Opd.imp u_0 (fun _ _ h => shelf_nodeT_node h5 h)) (fun _ _ ⟨_, _, _, e, _⟩ => ⟨_, e⟩)) <|
               o_p rfl (ob_fieldAddr fl_75_2 rfl rfl u_0) <|
               o_p rfl (ob_load ty_26 rfl rfl u_0) <|
               o_p rfl (ob_assign rfl rfl u_0) <|
               o_n) (by kernel_rfl) (fun a g hst hb => ?_)
            refine inBlock_n ?_
            refine inBlock_n ?_
            exact ⟨n4.left, g, rfl, (hst.pick [0, 1, 2] rfl), hb, H1⟩
          · replace H1 := ite_f hc6 H1
            refine r_s (L := [(1, _), (4, _), (6, _)]) (T := [⟨[.old 0], _, [], [], [28]⟩, ⟨[.old 2], _, [], [], [29]⟩, ⟨[.op 1 0], _, [], [1], [30]⟩, ⟨[.op 2 0], _, [], [1, 2], [31]⟩, ⟨[.op 3 0], _, [], [1, 2, 3], [32]⟩, ⟨[.op 0 0, .op 4 0], _, [], List.range 5, [33]⟩, ⟨[.op 5 0], _, [], List.range 6, [27]⟩]) (F := [.old 0, .old 1, .old 2, .op 6 0]) (hst.pick [0, 1, 2] rfl) hb follows
              (o_p rfl (ob_move rfl rfl u_0) <|
               o_p rfl (ob_move rfl rfl u_0) <|
               o_p rfl (ob_nilCheck rfl rfl (Opd.imp u_0 (fun _ _ h => shelf_nodeT_node h5 h)) (fun _ _ ⟨_, _, _, e, _⟩ => ⟨_, e⟩)) <|
               o_p rfl (ob_fieldAddr fl_75_0 rfl rfl u_0) <|
               o_p rfl (ob_load ty_9 rfl rfl u_0) <|
               o_p rfl (ob_sgt rfl rfl u_0 u_1) <|
               o_p rfl (ob_assign rfl rfl u_0) <|
               o_n) (by kernel_rfl) (fun a g hst hb => ?_)
            refine wp_cond_split (hst.bool 3 rfl) (fun hc7 => ?_) (fun hc7 => ?_)
            · replace H1 := ite_t hc7 H1
              refine r_g (L := [(1, _), (4, _), (6, _)]) (T := [⟨[.old 2], _, [], [], [34]⟩, ⟨[.op 0 0], _, [], [0], [35]⟩, ⟨[.op 1 0], _, [], [0, 1], [36]⟩, ⟨[.op 2 0], _, [], [0, 1, 2], [37]⟩, ⟨[.op 3 0], _, [], List.range 4, [6]⟩]) (F := [.old 0, .old 1, .op 4 0]) (hst.pick [0, 1, 2] rfl) hb follows
                (o_p rfl (ob_move rfl rfl u_0) <|
                 o_p rfl (ob_nilCheck rfl rfl (Opd.imp u_0 (fun _ _ h => shelf_nodeT_node h5 h)) (fun _ _ ⟨_, _, _, e, _⟩ => ⟨_, e⟩)) <|
                 o_p rfl (ob_fieldAddr fl_75_3 rfl rfl u_0) <|
                 o_p rfl (ob_load ty_26 rfl rfl u_0) <|
                 o_p rfl (ob_assign rfl rfl u_0) <|
                 o_n) (by kernel_rfl) (fun a g hst hb => ?_)
              refine inBlock_n ?_
              refine inBlock_n ?_
              exact ⟨n4.right, g, rfl, (hst.pick [0, 1, 2] rfl), hb, H1⟩
            · replace H1 := ite_f hc7 H1
              obtain ⟨r8, h9, H1⟩ := of_bind H1
              refine r_s (L := [(4, _), (6, _)]) (T := [⟨[.old 1], _, [], [], [11]⟩, ⟨[.op 0 0], _, [], [0], [12]⟩, ⟨[.op 1 0], _, [], [0, 1], [13]⟩, ⟨[.op 2 0], _, [], [0, 1, 2], [14]⟩, ⟨[.op 3 0], _, [], List.range 4, [15]⟩, ⟨[.op 4 0, .old 0], _, [5], List.range 5, [4]⟩, ⟨[], _, [], List.range 6, [5]⟩]) (F := [.op 5 0, .op 6 0]) (hst.pick [1, 2] rfl) hb follows
                (o_p rfl (ob_move rfl rfl u_0) <|
                 o_p rfl (ob_nilCheck rfl rfl (Opd.imp u_0 (fun _ _ h => shelf_nodeT_node h5 h)) (fun _ _ ⟨_, _, _, e, _⟩ => ⟨_, e⟩)) <|
                 o_p rfl (ob_fieldAddr fl_75_1 rfl rfl u_0) <|
                 o_p rfl (ob_load ty_38 rfl rfl u_0) <|
                 o_p rfl (ob_call en_34 (rec_Clone_ok _ h9) rfl rfl (.cons u_0 .nil)) <|
                 o_p rfl (ob_store ty_38 rfl rfl u_1 u_0) <|
                 o_p rfl (ob_assign rfl rfl c_b) <|
                 o_n) (by kernel_rfl) (fun a g hst hb => ?_)
              refine wp_ret ?_
              refine inBlock_r ?_
              refine inBlock_r ?_
              refine then_r ?_
              refine then_r ?_
              refine inBlock_r ?_
              refine then_r ?_
              refine then_r ?_
              obtain rfl := Option.some.inj H1
              obtain rfl := Option.some.inj H0
              obtain ⟨u0, hu0, hq0⟩ := res_box (P := Try.prog) ty_38 (hst.at 0 rfl)
              exact endR2 rfl hst hb hu0 (res_tmp (s := 5)) (pTup_2 hq0 (hst.at 1 rfl))
      · replace H1 := ite_f hc3 H1
        refine wp_exit ?_
        refine then_e ?_
        refine then_e ?_
        refine inBlock_e ?_
        exact ⟨x1, g, rfl, (hst.pick [1] rfl), hb, Option.some.inj H1⟩
end Go.CL

set_option linter.unusedVariables false
set_option linter.unusedSimpArgs false
set_option maxRecDepth 100000
namespace Go.CL
open Go Go.RowKit Go.Proofs
theorem rec_shaped_ok (a0 : Int) {r : rec_shape} (h : rec_shaped a0 = some r) : FnOk Try.prog 47 [(pInt .i64 a0)] (k_rec_shape.pd r) := by
  have H0 := h
  unfold rec_shaped at H0
  clear h
  refine fn_ok (N := 24) Try.func47 rfl rfl (Nat.le_of_ble_eq_true rfl) rfl rfl (fun a g0 hst hb => ?_)
  refine r_s (L := [(0, _)]) (T := [⟨[], [(2, (pBox k_rec_shape 2 (default : rec_shape)))], [3], [], [2]⟩]) (F := [.old 0, .op 0 0]) hst hb follows
    (o_p rfl (ob_alloc (zs := [.bool false, .bool false, .bool false, .bool false, .bool false]) (by kernel_rfl) (fun g => zk_rec_shape g) rfl rfl) <|
     o_n) (by kernel_rfl) (fun a g hst hb => ?_)
  refine wp_seq ?_
  refine r_s (L := [(0, _), (2, _)]) (T := [⟨[.old 0], _, [], [], [3]⟩]) (F := [.old 1, .op 0 0]) hst hb follows
    (o_p rfl (ob_move rfl rfl u_0) <|
     o_n) (by kernel_rfl) (fun a g hst hb => ?_)
  refine wp_block ?_
  refine r_s (L := [(2, _), (3, _)]) (T := [⟨[.old 1], _, [], [], [5]⟩, ⟨[.op 0 0], _, [], [0], [4]⟩]) (F := [.old 0, .old 1, .op 1 0]) hst hb follows
    (o_p rfl (ob_eq rfl rfl u_0 c_i) <|
     o_p rfl (ob_assign rfl rfl u_0) <|
     o_n) (by kernel_rfl) (fun a g hst hb => ?_)
  refine wp_cond_split (hst.bool 2 rfl) (fun hc1 => ?_) (fun hc1 => ?_)
  · replace H0 := ite_t hc1 H0
    refine r_s (L := [(2, _)]) (T := [⟨[], _, [], [], [6]⟩, ⟨[.op 0 0, .old 0], _, [3], [0], [2]⟩]) (F := [.op 1 0]) (hst.pick [0] rfl) hb follows
      (o_p rfl (bd_89_0 rfl rfl c_b) <|
       o_p rfl (ob_store ty_89 rfl rfl u_1 u_0) <|
       o_n) (by kernel_rfl) (fun a g hst hb => ?_)
    refine wp_ret ?_
    refine inBlock_r ?_
    refine then_r ?_
    obtain rfl := Option.some.inj H0
    obtain ⟨u0, hu0, hq0⟩ := res_box (P := Try.prog) ty_89 (hst.at 0 rfl)
    exact endR1 rfl hst hb hu0 hq0
  · replace H0 := ite_f hc1 H0
    refine wp_seq ?_
    refine r_s (L := [(2, _), (3, _)]) (T := [⟨[.old 1], _, [], [], [8]⟩, ⟨[.op 0 0], _, [], [0], [7]⟩]) (F := [.old 0, .old 1, .op 1 0]) (hst.pick [0, 1] rfl) hb follows
      (o_p rfl (ob_eq rfl rfl u_0 c_i) <|
       o_p rfl (ob_assign rfl rfl u_0) <|
       o_n) (by kernel_rfl) (fun a g hst hb => ?_)
    refine wp_cut (fun a w => ∃ (j3 : Bool) (g : G), w = g.w ∧ St 24 [(2, (pBox k_rec_shape 2 (default : rec_shape))), (3, (pInt .i64 a0)), (7, (pBool j3))] a g ∧ Base g0 g ∧ rec_shaped_j1 a0 j3 = some r) ?_ ?_
    · rintro a w ⟨j3, g, rfl, hst, hb, H0⟩
      unfold rec_shaped_j1 at H0
      refine then_n ?_
      refine wp_cond_split (hst.bool 2 rfl) (fun hc4 => ?_) (fun hc4 => ?_)
      · replace H0 := ite_t hc4 H0
        refine r_s (L := [(2, _)]) (T := [⟨[], _, [], [], [10]⟩, ⟨[.op 0 0, .old 0], _, [3], [0], [2]⟩]) (F := [.op 1 0]) (hst.pick [0] rfl) hb follows
          (o_p rfl (bd_89_1 rfl rfl c_b) <|
           o_p rfl (ob_store ty_89 rfl rfl u_1 u_0) <|
           o_n) (by kernel_rfl) (fun a g hst hb => ?_)
        refine wp_ret ?_
        refine inBlock_r ?_
        refine then_r ?_
        obtain rfl := Option.some.inj H0
        obtain ⟨u0, hu0, hq0⟩ := res_box (P := Try.prog) ty_89 (hst.at 0 rfl)
        exact endR1 rfl hst hb hu0 hq0
      · replace H0 := ite_f hc4 H0
        refine r_s (L := [(2, _), (3, _)]) (T := [⟨[.old 1], _, [], [], [12]⟩, ⟨[.op 0 0], _, [], [0], [11]⟩]) (F := [.old 0, .old 1, .op 1 0]) (hst.pick [0, 1] rfl) hb follows
          (o_p rfl (ob_eq rfl rfl u_0 c_i) <|
           o_p rfl (ob_assign rfl rfl u_0) <|
           o_n) (by kernel_rfl) (fun a g hst hb => ?_)
        refine wp_cond_split (hst.bool 2 rfl) (fun hc5 => ?_) (fun hc5 => ?_)
        · replace H0 := ite_t hc5 H0
          refine r_s (L := [(2, _)]) (T := [⟨[], _, [], [], [13]⟩, ⟨[.op 0 0, .old 0], _, [3], [0], [2]⟩]) (F := [.op 1 0]) (hst.pick [0] rfl) hb follows
            (o_p rfl (bd_89_1_2 rfl rfl c_b c_b) <|
             o_p rfl (ob_store ty_89 rfl rfl u_1 u_0) <|
             o_n) (by kernel_rfl) (fun a g hst hb => ?_)
          refine wp_ret ?_
          refine inBlock_r ?_
          refine then_r ?_
          obtain rfl := Option.some.inj H0
          obtain ⟨u0, hu0, hq0⟩ := res_box (P := Try.prog) ty_89 (hst.at 0 rfl)
          exact endR1 rfl hst hb hu0 hq0
        · replace H0 := ite_f hc5 H0
          refine wp_seq ?_
          refine r_s (L := [(2, _), (3, _)]) (T := [⟨[.old 1], _, [], [], [15]⟩, ⟨[.op 0 0], _, [], [0], [14]⟩]) (F := [.old 0, .old 1, .op 1 0]) (hst.pick [0, 1] rfl) hb follows
            (o_p rfl (ob_eq rfl rfl u_0 c_i) <|
             o_p rfl (ob_assign rfl rfl u_0) <|
             o_n) (by kernel_rfl) (fun a g hst hb => ?_)
          refine wp_cut (fun a w => ∃ (j8 : Bool) (g : G), w = g.w ∧ St 24 [(2, (pBox k_rec_shape 2 (default : rec_shape))), (3, (pInt .i64 a0)), (14, (pBool j8))] a g ∧ Base g0 g ∧ rec_shaped_j2 a0 j8 = some r) ?_ ?_
          · rintro a w ⟨j8, g, rfl, hst, hb, H0⟩
            unfold rec_shaped_j2 at H0
            refine then_n ?_
            refine wp_cond_split (hst.bool 2 rfl) (fun hc9 => ?_) (fun hc9 => ?_)
            · replace H0 := ite_t hc9 H0
              refine r_s (L := [(2, _)]) (T := [⟨[], _, [], [], [18]⟩, ⟨[.op 0 0, .old 0], _, [3], [0], [2]⟩]) (F := [.op 1 0]) (hst.pick [0] rfl) hb follows
                (o_p rfl (bd_89_3 rfl rfl c_b) <|
                 o_p rfl (ob_store ty_89 rfl rfl u_1 u_0) <|
                 o_n) (by kernel_rfl) (fun a g hst hb => ?_)
              refine wp_ret ?_
              refine inBlock_r ?_
              refine then_r ?_
              obtain rfl := Option.some.inj H0
              obtain ⟨u0, hu0, hq0⟩ := res_box (P := Try.prog) ty_89 (hst.at 0 rfl)
              exact endR1 rfl hst hb hu0 hq0
            · replace H0 := ite_f hc9 H0
              refine wp_seq ?_
              refine r_s (L := [(2, _), (3, _)]) (T := [⟨[.old 1], _, [], [], [20]⟩, ⟨[.op 0 0], _, [], [0], [19]⟩]) (F := [.old 0, .old 1, .op 1 0]) (hst.pick [0, 1] rfl) hb follows
                (o_p rfl (ob_eq rfl rfl u_0 c_i) <|
                 o_p rfl (ob_assign rfl rfl u_0) <|
                 o_n) (by kernel_rfl) (fun a g hst hb => ?_)
              refine wp_cut (fun a w => ∃ (j11 : Bool) (g : G), w = g.w ∧ St 24 [(2, (pBox k_rec_shape 2 (default : rec_shape))), (19, (pBool j11))] a g ∧ Base g0 g ∧ rec_shaped_j3 j11 = some r) ?_ ?_
              · rintro a w ⟨j11, g, rfl, hst, hb, H0⟩
                unfold rec_shaped_j3 at H0
                refine then_n ?_
                refine wp_cond_split (hst.bool 1 rfl) (fun hc12 => ?_) (fun hc12 => ?_)
                · replace H0 := ite_t hc12 H0
                  refine r_s (L := [(2, _)]) (T := [⟨[], _, [], [], [22]⟩, ⟨[.op 0 0, .old 0], _, [3], [0], [2]⟩]) (F := [.op 1 0]) (hst.pick [0] rfl) hb follows
                    (o_p rfl (bd_89_4 rfl rfl c_b) <|
                     o_p rfl (ob_store ty_89 rfl rfl u_1 u_0) <|
                     o_n) (by kernel_rfl) (fun a g hst hb => ?_)
                  refine wp_ret ?_
                  refine inBlock_r ?_
                  refine then_r ?_
                  obtain rfl := Option.some.inj H0
                  obtain ⟨u0, hu0, hq0⟩ := res_box (P := Try.prog) ty_89 (hst.at 0 rfl)
                  exact endR1 rfl hst hb hu0 hq0
                · replace H0 := ite_f hc12 H0
                  refine wp_skip ?_
                  refine inBlock_n ?_
                  refine then_n ?_
                  refine r_s (L := [(2, _)]) (T := [⟨[], _, [], [], [23]⟩, ⟨[.op 0 0, .old 0], _, [3], [0], [2]⟩]) (F := [.op 1 0]) (hst.pick [0] rfl) hb follows
                    (o_p rfl (bd_89_ rfl rfl ) <|
                     o_p rfl (ob_store ty_89 rfl rfl u_1 u_0) <|
                     o_n) (by kernel_rfl) (fun a g hst hb => ?_)
                  refine wp_ret ?_
                  obtain rfl := Option.some.inj H0
                  obtain ⟨u0, hu0, hq0⟩ := res_box (P := Try.prog) ty_89 (hst.at 0 rfl)
                  exact endR1 rfl hst hb hu0 hq0
              · refine wp_cond_split (hst.bool 2 rfl) (fun hc10 => ?_) (fun hc10 => ?_)
                · replace H0 := ite_t hc10 H0
                  refine wp_skip ?_
                  exact ⟨(a0 == (8 : Int)), g, rfl, (hst.pick [0, 2] rfl), hb, H0⟩
                · replace H0 := ite_f hc10 H0
                  refine r_g (L := [(2, _), (3, _)]) (T := [⟨[.old 1], _, [], [], [21]⟩, ⟨[.op 0 0], _, [], [0], [19]⟩]) (F := [.old 0, .op 1 0]) (hst.pick [0, 1] rfl) hb follows
                    (o_p rfl (ob_eq rfl rfl u_0 c_i) <|
                     o_p rfl (ob_assign rfl rfl u_0) <|
                     o_n) (by kernel_rfl) (fun a g hst hb => ?_)
                  exact ⟨(a0 == (9 : Int)), g, rfl, (hst.pick [0, 1] rfl), hb, H0⟩
          · refine wp_cond_split (hst.bool 2 rfl) (fun hc6 => ?_) (fun hc6 => ?_)
            · replace H0 := ite_t hc6 H0
              refine wp_skip ?_
              exact ⟨(a0 == (5 : Int)), g, rfl, (hst.pick [0, 1, 2] rfl), hb, H0⟩
            · replace H0 := ite_f hc6 H0
              refine r_s (L := [(2, _), (3, _)]) (T := [⟨[.old 1], _, [], [], [16]⟩, ⟨[.op 0 0], _, [], [0], [14]⟩]) (F := [.old 0, .old 1, .op 1 0]) (hst.pick [0, 1] rfl) hb follows
                (o_p rfl (ob_eq rfl rfl u_0 c_i) <|
                 o_p rfl (ob_assign rfl rfl u_0) <|
                 o_n) (by kernel_rfl) (fun a g hst hb => ?_)
              refine wp_cond_split (hst.bool 2 rfl) (fun hc7 => ?_) (fun hc7 => ?_)
              · replace H0 := ite_t hc7 H0
                refine wp_skip ?_
                exact ⟨(a0 == (6 : Int)), g, rfl, (hst.pick [0, 1, 2] rfl), hb, H0⟩
              · replace H0 := ite_f hc7 H0
                refine r_g (L := [(2, _), (3, _)]) (T := [⟨[.old 1], _, [], [], [17]⟩, ⟨[.op 0 0], _, [], [0], [14]⟩]) (F := [.old 0, .old 1, .op 1 0]) (hst.pick [0, 1] rfl) hb follows
                  (o_p rfl (ob_eq rfl rfl u_0 c_i) <|
                   o_p rfl (ob_assign rfl rfl u_0) <|
                   o_n) (by kernel_rfl) (fun a g hst hb => ?_)
                exact ⟨(a0 == (7 : Int)), g, rfl, (hst.pick [0, 1, 2] rfl), hb, H0⟩
    · refine wp_cond_split (hst.bool 2 rfl) (fun hc2 => ?_) (fun hc2 => ?_)
      · replace H0 := ite_t hc2 H0
        refine wp_skip ?_
        exact ⟨(a0 == (2 : Int)), g, rfl, (hst.pick [0, 1, 2] rfl), hb, H0⟩
      · replace H0 := ite_f hc2 H0
        refine r_g (L := [(2, _), (3, _)]) (T := [⟨[.old 1], _, [], [], [9]⟩, ⟨[.op 0 0], _, [], [0], [7]⟩]) (F := [.old 0, .old 1, .op 1 0]) (hst.pick [0, 1] rfl) hb follows
          (o_p rfl (ob_eq rfl rfl u_0 c_i) <|
           o_p rfl (ob_assign rfl rfl u_0) <|
           o_n) (by kernel_rfl) (fun a g hst hb => ?_)
        exact ⟨(a0 == (3 : Int)), g, rfl, (hst.pick [0, 1, 2] rfl), hb, H0⟩
end Go.CL

set_option linter.unusedVariables false
set_option linter.unusedSimpArgs false
set_option maxRecDepth 100000
namespace Go.CL
open Go Go.RowKit Go.Proofs
theorem rec_bare_ok (a0 : api_Record) (a1 : rec_shape) {r : Bool} (h : rec_bare a0 a1 = some r) : FnOk Try.prog 48 [(k_api_Record.pd a0), (k_rec_shape.pd a1)] (pBool r) := by
  have H0 := h
  unfold rec_bare at H0
  clear h
  refine fn_ok (N := 59) Try.func48 rfl rfl (Nat.le_of_ble_eq_true rfl) rfl rfl (fun a g0 hst hb => ?_)
  refine r_s (L := [(0, _), (1, _)]) (T := [⟨[.old 0], _, [], [], [2]⟩, ⟨[.old 1], _, [], [], [3]⟩, ⟨[], _, [], [], [4]⟩]) (F := [.op 0 0, .op 1 0]) hst hb follows
    (o_p rfl (ob_box1 rfl rfl u_0) <|
     o_p rfl (ob_box1 rfl rfl u_0) <|
     o_p rfl (ob_assign rfl rfl c_b) <|
     o_n) (by kernel_rfl) (fun a g hst hb => ?_)
  obtain ⟨r1, h2, H0⟩ := of_bind H0
  refine r_s (L := [(2, _), (3, _)]) (T := ⟨[.old 1], _, [], [], [5]⟩ :: ⟨[.op 0 0], _, [], [0], [6]⟩ :: ⟨[.op 1 0], _, [], [0, 1], [7]⟩ :: ⟨[.op 2 0, .old 0], _, [], [0, 1, 2], [8]⟩ :: ⟨[.op 2 0, .op 3 0], _, [], List.range 4, [9]⟩ :: ⟨[.op 2 0, .op 4 0], _, [], List.range 5, [10]⟩ :: ⟨[.op 2 0, .op 5 0], _, [], List.range 6, [11]⟩ :: ⟨[.op 6 0], _, [], List.range 7, [12]⟩ :: ⟨[.op 7 0, .old 1], _, [], List.range 8, [13]⟩ :: ⟨[.op 7 0, .op 8 0], _, [], List.range 9, [14]⟩ :: ⟨[.op 7 0, .op 9 0], _, [], List.range 10, [15]⟩ :: ⟨[.op 10 0, .old 0], _, [], List.range 11, [16]⟩ :: ⟨[.op 10 0, .op 11 0], _, [], List.range 12, [17]⟩ :: ⟨[.op 10 0, .op 12 0], _, [], List.range 13, [18]⟩ :: ⟨[.op 7 0, .op 10 0, .op 13 0], _, [], List.range 14, [19]⟩ :: ⟨[.op 7 0, .op 14 0], _, [], List.range 15, [20]⟩ :: ⟨[.op 15 0], _, [], List.range 16, [21]⟩ :: ⟨[.op 16 0, .old 1], _, [], List.range 17, [22]⟩ :: ⟨[.op 16 0, .op 17 0], _, [], List.range 18, [23]⟩ :: ⟨[.op 16 0, .op 18 0], _, [], List.range 19, [24]⟩ :: ⟨[.op 19 0, .old 0], _, [], List.range 20, [25]⟩ :: ⟨[.op 19 0, .op 20 0], _, [], List.range 21, [26]⟩ :: ⟨[.op 19 0, .op 21 0], _, [], List.range 22, [27]⟩ :: ⟨[.op 19 0, .op 22 0], _, [], List.range 23, [28]⟩ :: ⟨[.op 23 0, .old 0], _, [], List.range 24, [29]⟩ :: ⟨[.op 23 0, .op 24 0], _, [], List.range 25, [30]⟩ :: ⟨[.op 23 0, .op 25 0], _, [], List.range 26, [31]⟩ :: ⟨[.op 19 0, .op 23 0, .op 26 0], _, [], List.range 27, [32]⟩ :: ⟨[.op 16 0, .op 19 0, .op 27 0], _, [], List.range 28, [33]⟩ :: ⟨[.op 16 0, .op 28 0], _, [], List.range 29, [34]⟩ :: ⟨[.op 29 0], _, [], List.range 30, [35]⟩ :: ⟨[.op 30 0, .old 1], _, [], List.range 31, [36]⟩ :: ⟨[.op 30 0, .op 31 0], _, [], List.range 32, [37]⟩ :: ⟨[.op 30 0, .op 32 0], _, [], List.range 33, [38]⟩ :: ⟨[.op 33 0, .old 0], _, [], List.range 34, [39]⟩ :: ⟨[.op 33 0, .op 34 0], _, [], List.range 35, [40]⟩ :: ⟨[.op 33 0, .op 35 0], _, [], List.range 36, [41]⟩ :: ⟨[.op 30 0, .op 33 0, .op 36 0], _, [], List.range 37, [42]⟩ :: ⟨[.op 30 0, .op 37 0], _, [], List.range 38, [43]⟩ :: ⟨[.op 38 0], _, [], List.range 39, [44]⟩ :: ⟨[.op 39 0, .old 1], _, [], List.range 40, [45]⟩ :: ⟨[.op 39 0, .op 40 0], _, [], List.range 41, [46]⟩ :: ⟨[.op 39 0, .op 41 0], _, [], List.range 42, [47]⟩ :: ⟨[.op 42 0, .old 0], _, [], List.range 43, [48]⟩ :: ⟨[.op 42 0, .op 43 0], _, [], List.range 44, [49]⟩ :: ⟨[.op 42 0, .op 44 0], _, [], List.range 45, [50]⟩ :: ⟨[.op 42 0, .op 45 0], _, [], List.range 46, [51]⟩ :: ⟨[.op 46 0, .old 0], _, [], List.range 47, [52]⟩ :: ⟨[.op 46 0, .op 47 0], _, [], List.range 48, [53]⟩ :: ⟨[.op 46 0, .op 48 0], _, [], List.range 49, [54]⟩ :: ⟨[.op 46 0, .op 49 0], _, [], List.range 50, [55]⟩ :: ⟨[.op 42 0, .op 46 0, .op 50 0], _, [], List.range 51, [56]⟩ :: ⟨[.op 39 0, .op 42 0, .op 51 0], _, [], List.range 52, [57]⟩ :: ⟨[.op 39 0, .op 52 0], _, [], List.range 53, [58]⟩ :: ⟨[.op 53 0], _, [], List.range 54, [4]⟩ :: []) (F := [.op 54 0]) hst hb follows
    (o_p rfl (ob_fieldAddr fl_89_0 rfl rfl u_0) <|
     o_p rfl (ob_load ty_4 rfl rfl u_0) <|
     o_p rfl (ob_move rfl rfl u_0) <|
     o_g (g_f rfl rfl rfl (fun hG => ob_fieldAddr fl_38_6 rfl rfl u_0)) <|
     o_g (g_f rfl rfl rfl (fun hG => ob_load ty_9 rfl rfl (Opd.gd hG u_0))) <|
     o_g (g_f rfl rfl rfl (fun hG => ob_seq rfl rfl (Opd.gd hG u_0) c_s)) <|
     o_p rfl (ob_por rfl rfl u_0 (fun hz => (Opd.gd (bNF hz) u_1))) <|
     o_p rfl (ob_move rfl rfl u_0) <|
     o_g (g_t rfl rfl rfl (fun hG => ob_fieldAddr fl_89_1 rfl rfl u_0)) <|
     o_g (g_t rfl rfl rfl (fun hG => ob_load ty_4 rfl rfl (Opd.gd hG u_0))) <|
     o_g (g_t rfl rfl rfl (fun hG => ob_move rfl rfl (Opd.gd hG u_0))) <|
     o_g (g_fi rfl rfl rfl (fun hG => ob_fieldAddr fl_38_1 rfl rfl u_0)) <|
     o_g (g_fi rfl rfl rfl (fun hG => ob_load ty_2 rfl rfl (Opd.gd hG u_0))) <|
     o_g (g_fi rfl rfl rfl (fun hG => ob_eq rfl rfl (Opd.gd hG u_0) c_i)) <|
     o_g (g_t rfl rfl rfl (fun hG => ob_por rfl rfl (Opd.gd hG u_0) (fun hz => (Opd.gd (bA hG (bNF hz)) u_1)))) <|
     o_p rfl (ob_pand rfl rfl u_0 (fun hz => (Opd.gd hz u_1))) <|
     o_p rfl (ob_move rfl rfl u_0) <|
     o_g (g_t rfl rfl rfl (fun hG => ob_fieldAddr fl_89_2 rfl rfl u_0)) <|
     o_g (g_t rfl rfl rfl (fun hG => ob_load ty_4 rfl rfl (Opd.gd hG u_0))) <|
     o_g (g_t rfl rfl rfl (fun hG => ob_move rfl rfl (Opd.gd hG u_0))) <|
     o_g (g_fi rfl rfl rfl (fun hG => ob_fieldAddr fl_38_2 rfl rfl u_0)) <|
     o_g (g_fi rfl rfl rfl (fun hG => ob_load ty_2 rfl rfl (Opd.gd hG u_0))) <|
     o_g (g_fi rfl rfl rfl (fun hG => ob_eq rfl rfl (Opd.gd hG u_0) c_i)) <|
     o_g (g_fi rfl rfl rfl (fun hG => ob_move rfl rfl (Opd.gd hG u_0))) <|
     o_g (g_ti rfl rfl rfl (fun hG => ob_fieldAddr fl_38_3 rfl rfl u_0)) <|
     o_g (g_ti rfl rfl rfl (fun hG => ob_load ty_2 rfl rfl (Opd.gd hG u_0))) <|
     o_g (g_ti rfl rfl rfl (fun hG => ob_eq rfl rfl (Opd.gd hG u_0) c_i)) <|
     o_g (g_fi rfl rfl rfl (fun hG => ob_pand rfl rfl (Opd.gd hG u_0) (fun hz => (Opd.gd (bA hG hz) u_1)))) <|
     o_g (g_t rfl rfl rfl (fun hG => ob_por rfl rfl (Opd.gd hG u_0) (fun hz => (Opd.gd (bA hG (bNF hz)) u_1)))) <|
     o_p rfl (ob_pand rfl rfl u_0 (fun hz => (Opd.gd hz u_1))) <|
     o_p rfl (ob_move rfl rfl u_0) <|
     o_g (g_t rfl rfl rfl (fun hG => ob_fieldAddr fl_89_3 rfl rfl u_0)) <|
     o_g (g_t rfl rfl rfl (fun hG => ob_load ty_4 rfl rfl (Opd.gd hG u_0))) <|
     o_g (g_t rfl rfl rfl (fun hG => ob_move rfl rfl (Opd.gd hG u_0))) <|
     o_g (g_fi rfl rfl rfl (fun hG => ob_fieldAddr fl_38_4 rfl rfl u_0)) <|
     o_g (g_fi rfl rfl rfl (fun hG => ob_load ty_35 rfl rfl (Opd.gd hG u_0))) <|
     o_g (g_fi rfl rfl rfl (fun hG => ob_call en_42 (flo_Same_ok _ _ (gd_true h2 hG)) rfl rfl (.cons (Opd.gd hG u_0) (.cons c_f .nil)))) <|
     o_g (g_t rfl rfl rfl (fun hG => ob_por rfl rfl (Opd.gd hG u_0) (fun hz => (Opd.gd (bA hG (bNF hz)) u_1)))) <|
     o_p rfl (ob_pand rfl rfl u_0 (fun hz => (Opd.gd hz u_1))) <|
     o_p rfl (ob_move rfl rfl u_0) <|
     o_g (g_t rfl rfl rfl (fun hG => ob_fieldAddr fl_89_4 rfl rfl u_0)) <|
     o_g (g_t rfl rfl rfl (fun hG => ob_load ty_4 rfl rfl (Opd.gd hG u_0))) <|
     o_g (g_t rfl rfl rfl (fun hG => ob_move rfl rfl (Opd.gd hG u_0))) <|
     o_g (g_fi rfl rfl rfl (fun hG => ob_fieldAddr fl_38_5 rfl rfl u_0)) <|
     o_g (g_fi rfl rfl rfl (fun hG => ob_load ty_3 rfl rfl (Opd.gd hG u_0))) <|
     o_g (g_fi rfl rfl rfl (fun hG => ob_eq rfl rfl (Opd.gd hG u_0) c_i)) <|
     o_g (g_fi rfl rfl rfl (fun hG => ob_move rfl rfl (Opd.gd hG u_0))) <|
     o_g (g_ti rfl rfl rfl (fun hG => ob_fieldAddr fl_38_7 rfl rfl u_0)) <|
     o_g (g_ti rfl rfl rfl (fun hG => ob_load ty_36 rfl rfl (Opd.gd hG u_0))) <|
     o_g (g_ti rfl rfl rfl (fun hG => ob_lenL Try.underlying36 rfl rfl (Opd.gd hG u_0))) <|
     o_g (g_ti rfl rfl rfl (fun hG => ob_eq rfl rfl (Opd.gd hG u_0) c_i)) <|
     o_g (g_fi rfl rfl rfl (fun hG => ob_pand rfl rfl (Opd.gd hG u_0) (fun hz => (Opd.gd (bA hG hz) u_1)))) <|
     o_g (g_t rfl rfl rfl (fun hG => ob_por rfl rfl (Opd.gd hG u_0) (fun hz => (Opd.gd (bA hG (bNF hz)) u_1)))) <|
     o_p rfl (ob_pand rfl rfl u_0 (fun hz => (Opd.gd hz u_1))) <|
     o_p rfl (ob_assign rfl rfl u_0) <|
     o_n) (by kernel_rfl) (fun a g hst hb => ?_)
  refine wp_ret ?_
  obtain rfl := Option.some.inj H0
  exact endR1 rfl hst hb (res_tmp (s := 4)) (hst.at 0 rfl)
end Go.CL

set_option linter.unusedVariables false
set_option linter.unusedSimpArgs false
set_option maxRecDepth 100000
namespace Go.CL
open Go Go.RowKit Go.Proofs
theorem flo_Proper_ok (a0 : Nat) {r : Bool} (h : flo_Proper a0 = some r) : FnOk Try.prog 49 [(pFlt a0)] (pBool r) := by
  have H0 := h
  unfold flo_Proper at H0
  clear h
  refine fn_ok (N := 9) Try.func49 rfl rfl (Nat.le_of_ble_eq_true rfl) rfl rfl (fun a g0 hst hb => ?_)
  refine r_s (L := [(0, _)]) (T := [⟨[], _, [], [], [2]⟩]) (F := [.old 0]) hst hb follows
    (o_p rfl (ob_assign rfl rfl c_b) <|
     o_n) (by kernel_rfl) (fun a g hst hb => ?_)
  obtain ⟨r1, h2, H0⟩ := of_bind H0
  refine r_s (L := [(0, _)]) (T := [⟨[.old 0], _, [], [], [3]⟩, ⟨[.op 0 0], _, [], [0], [4]⟩, ⟨[.old 0], _, [], [], [5]⟩, ⟨[.op 2 0], _, [], [0, 1, 2], [6]⟩, ⟨[.op 3 0], _, [], List.range 4, [7]⟩, ⟨[.op 1 0, .op 4 0], _, [], List.range 5, [8]⟩, ⟨[.op 5 0], _, [], List.range 6, [2]⟩]) (F := [.op 6 0]) hst hb follows
    (o_p rfl (ob_move rfl rfl u_0) <|
     o_p rfl (ob_bits ex_60 rfl rfl u_0) <|
     o_p rfl (ob_move rfl rfl u_0) <|
     o_p rfl (ob_call en_61 (flo_Canon_ok _ h2) rfl rfl (.cons u_0 .nil)) <|
     o_p rfl (ob_bits ex_60 rfl rfl u_0) <|
     o_p rfl (ob_eq rfl rfl u_0 u_1) <|
     o_p rfl (ob_assign rfl rfl u_0) <|
     o_n) (by kernel_rfl) (fun a g hst hb => ?_)
  refine wp_ret ?_
  obtain rfl := Option.some.inj H0
  exact endR1 rfl hst hb (res_tmp (s := 2)) (hst.at 0 rfl)
end Go.CL

set_option linter.unusedVariables false
set_option linter.unusedSimpArgs false
set_option maxRecDepth 100000
namespace Go.CL
open Go Go.RowKit Go.Proofs
theorem flo_Less_ok (a0 : Nat) (a1 : Nat) {r : Bool} (h : flo_Less a0 a1 = some r) : FnOk Try.prog 69 [(pFlt a0), (pFlt a1)] (pBool r) := by
  have H0 := h
  unfold flo_Less at H0
  clear h
  refine fn_ok (N := 10) Try.func69 rfl rfl (Nat.le_of_ble_eq_true rfl) rfl rfl (fun a g0 hst hb => ?_)
  refine r_s (L := [(0, _), (1, _)]) (T := [⟨[], _, [], [], [4]⟩]) (F := [.old 0, .old 1]) hst hb follows
    (o_p rfl (ob_assign rfl rfl c_b) <|
     o_n) (by kernel_rfl) (fun a g hst hb => ?_)
  obtain ⟨r1, h2, H0⟩ := of_bind H0; obtain ⟨r3, h4, H0⟩ := of_bind H0
  refine r_s (L := [(0, _), (1, _)]) (T := [⟨[.old 0], _, [], [], [5]⟩, ⟨[.op 0 0], _, [], [0], [6]⟩, ⟨[.old 1], _, [], [], [7]⟩, ⟨[.op 2 0], _, [], [0, 1, 2], [8]⟩, ⟨[.op 1 0, .op 3 0], _, [], List.range 4, [9]⟩, ⟨[.op 4 0], _, [], List.range 5, [4]⟩]) (F := [.op 5 0]) hst hb follows
    (o_p rfl (ob_move rfl rfl u_0) <|
     o_p rfl (ob_call en_55 (flo_Key_ok _ h2) rfl rfl (.cons u_0 .nil)) <|
     o_p rfl (ob_move rfl rfl u_0) <|
     o_p rfl (ob_call en_55 (flo_Key_ok _ h4) rfl rfl (.cons u_0 .nil)) <|
     o_p rfl (ob_lt rfl rfl u_0 u_1) <|
     o_p rfl (ob_assign rfl rfl u_0) <|
     o_n) (by kernel_rfl) (fun a g hst hb => ?_)
  refine wp_ret ?_
  obtain rfl := Option.some.inj H0
  exact endR1 rfl hst hb (res_tmp (s := 4)) (hst.at 0 rfl)
end Go.CL

set_option linter.unusedVariables false
set_option linter.unusedSimpArgs false
set_option maxRecDepth 100000
namespace Go.CL
open Go Go.RowKit Go.Proofs
theorem rec_Better_ok (a0 : api_Item) (a1 : api_Item) {r : Bool} (h : rec_Better a0 a1 = some r) : FnOk Try.prog 62 [(k_api_Item.pd a0), (k_api_Item.pd a1)] (pBool r) := by
  have H0 := h
  unfold rec_Better at H0
  clear h
  refine fn_ok (N := 21) Try.func62 rfl rfl (Nat.le_of_ble_eq_true rfl) rfl rfl (fun a g0 hst hb => ?_)
  refine r_s (L := [(0, _), (1, _)]) (T := [⟨[.old 0], _, [], [], [2]⟩, ⟨[.old 1], _, [], [], [3]⟩, ⟨[], _, [], [], [4]⟩]) (F := [.op 0 0, .op 1 0]) hst hb follows
    (o_p rfl (ob_box1 rfl rfl u_0) <|
     o_p rfl (ob_box1 rfl rfl u_0) <|
     o_p rfl (ob_assign rfl rfl c_b) <|
     o_n) (by kernel_rfl) (fun a g hst hb => ?_)
  refine wp_seq ?_
  obtain ⟨r1, h2, H0⟩ := of_bind H0
  refine r_s (L := [(2, _), (3, _)]) (T := [⟨[.old 0], _, [], [], [5]⟩, ⟨[.op 0 0], _, [], [0], [6]⟩, ⟨[.old 1], _, [], [], [7]⟩, ⟨[.op 2 0], _, [], [2], [8]⟩, ⟨[.op 1 0, .op 3 0], _, [], List.range 4, [9]⟩, ⟨[.op 4 0], _, [], List.range 5, [10]⟩]) (F := [.old 0, .old 1, .op 5 0]) hst hb follows
    (o_p rfl (ob_fieldAddr fl_64_0 rfl rfl u_0) <|
     o_p rfl (ob_load ty_35 rfl rfl u_0) <|
     o_p rfl (ob_fieldAddr fl_64_0 rfl rfl u_0) <|
     o_p rfl (ob_load ty_35 rfl rfl u_0) <|
     o_p rfl (ob_call en_42 (flo_Same_ok _ _ h2) rfl rfl (.cons u_0 (.cons u_1 .nil))) <|
     o_p rfl (ob_not rfl rfl u_0) <|
     o_n) (by kernel_rfl) (fun a g hst hb => ?_)
  refine wp_cond_split (hst.bool 2 rfl) (fun hc3 => ?_) (fun hc3 => ?_)
  · replace H0 := ite_t hc3 H0
    obtain ⟨r4, h5, H0⟩ := of_bind H0
    refine r_s (L := [(2, _), (3, _)]) (T := [⟨[.old 1], _, [], [], [11]⟩, ⟨[.op 0 0], _, [], [0], [12]⟩, ⟨[.old 0], _, [], [], [13]⟩, ⟨[.op 2 0], _, [], [2], [14]⟩, ⟨[.op 1 0, .op 3 0], _, [], List.range 4, [15]⟩, ⟨[.op 4 0], _, [], List.range 5, [4]⟩]) (F := [.op 5 0]) (hst.pick [0, 1] rfl) hb follows
      (o_p rfl (ob_fieldAddr fl_64_0 rfl rfl u_0) <|
       o_p rfl (ob_load ty_35 rfl rfl u_0) <|
       o_p rfl (ob_fieldAddr fl_64_0 rfl rfl u_0) <|
       o_p rfl (ob_load ty_35 rfl rfl u_0) <|
       o_p rfl (ob_call en_69 (flo_Less_ok _ _ h5) rfl rfl (.cons u_0 (.cons u_1 .nil))) <|
       o_p rfl (ob_assign rfl rfl u_0) <|
       o_n) (by kernel_rfl) (fun a g hst hb => ?_)
    refine wp_ret ?_
    refine then_r ?_
    obtain rfl := Option.some.inj H0
    exact endR1 rfl hst hb (res_tmp (s := 4)) (hst.at 0 rfl)
  · replace H0 := ite_f hc3 H0
    refine wp_skip ?_
    refine then_n ?_
    refine r_s (L := [(2, _), (3, _)]) (T := [⟨[.old 0], _, [], [], [16]⟩, ⟨[.op 0 0], _, [], [0], [17]⟩, ⟨[.old 1], _, [], [], [18]⟩, ⟨[.op 2 0], _, [], [2], [19]⟩, ⟨[.op 1 0, .op 3 0], _, [], List.range 4, [20]⟩, ⟨[.op 4 0], _, [], List.range 5, [4]⟩]) (F := [.op 5 0]) (hst.pick [0, 1] rfl) hb follows
      (o_p rfl (ob_fieldAddr fl_64_1 rfl rfl u_0) <|
       o_p rfl (ob_load ty_9 rfl rfl u_0) <|
       o_p rfl (ob_fieldAddr fl_64_1 rfl rfl u_0) <|
       o_p rfl (ob_load ty_9 rfl rfl u_0) <|
       o_p rfl (ob_slt rfl rfl u_0 u_1) <|
       o_p rfl (ob_assign rfl rfl u_0) <|
       o_n) (by kernel_rfl) (fun a g hst hb => ?_)
    refine wp_ret ?_
    obtain rfl := Option.some.inj H0
    exact endR1 rfl hst hb (res_tmp (s := 4)) (hst.at 0 rfl)
end Go.CL

set_option linter.unusedVariables false
set_option linter.unusedSimpArgs false
set_option maxRecDepth 100000
namespace Go.CL
open Go Go.RowKit Go.Proofs
theorem rec_items_ok (a0 : Int) (a1 : List api_Item) {r : Int} (h : rec_items a0 a1 = some r) : FnOk Try.prog 50 [(pInt .i64 a0), (k_api_Item.sl.pd a1)] (pInt .i64 r) := by
  have H0 := h
  unfold rec_items at H0
  clear h
  refine fn_ok (N := 70) Try.func50 rfl rfl (Nat.le_of_ble_eq_true rfl) rfl rfl (fun a g0 hst hb => ?_)
  refine r_s (L := [(0, _), (1, _)]) (T := [⟨[], _, [], [], [4]⟩]) (F := [.old 0, .old 1]) hst hb follows
    (o_p rfl (ob_assign rfl rfl c_i) <|
     o_n) (by kernel_rfl) (fun a g hst hb => ?_)
  refine wp_seq ?_
  refine r_s (L := [(0, _), (1, _)]) (T := [⟨[.old 1], _, [], [], [7]⟩, ⟨[.op 0 0], _, [], [0], [8]⟩, ⟨[], _, [], [], [9]⟩]) (F := [.old 0, .old 1, .op 0 0, .op 1 0, .op 2 0]) hst hb follows
    (o_p rfl (ob_move rfl rfl u_0) <|
     o_p rfl (ob_lenL Try.underlying36 rfl rfl u_0) <|
     o_p rfl (ob_move rfl rfl c_i) <|
     o_n) (by kernel_rfl) (fun a g hst hb => ?_)
  obtain ⟨z19, hz1, H0⟩ := of_bind H0
  refine wp_cut (fun a w => ∃ (g : G), w = g.w ∧ St 70 [] a g ∧ Base g0 g ∧ (.inr ()) = z19) ?_ ?_
  · rintro a w ⟨g, rfl, hst, hb, rfl⟩
    refine then_n ?_
    refine r_s (L := []) (T := [⟨[], _, [], [], [4]⟩]) (F := [.op 0 0]) hst hb follows
      (o_p rfl (ob_assign rfl rfl c_i) <|
       o_n) (by kernel_rfl) (fun a g hst hb => ?_)
    refine wp_ret ?_
    obtain rfl := Option.some.inj H0
    exact endR1 rfl hst hb (res_tmp (s := 4)) (hst.at 0 rfl)
  · refine wp_block ?_
    refine wp_loop_ghost (fun n a w => ∃ (x1 : Int) (g : G), w = g.w ∧ St 70 [(0, (pInt .i64 a0)), (1, (k_api_Item.sl.pd a1)), (7, (k_api_Item.sl.pd a1)), (8, (pInt .i64 (a1.length : Int))), (9, (pInt .i64 x1))] a g ∧ Base g0 g ∧ rec_items_l1 a0 a1 n x1 = some z19) (Int.toNat ((a1.length : Int) - (0 : Int)) + 1) ⟨(0 : Int), g, rfl, (hst.pick [0, 1, 2, 3, 4] rfl), hb, hz1⟩ (fun n a w hI => ?_)
    obtain ⟨x1, g, rfl, hst, hb, H1⟩ := hI
    cases n with
    | zero => exact absurd H1 (by simp [rec_items_l1])
    | succ n =>
      rw [rec_items_l1] at H1
      refine r_s (L := [(0, _), (1, _), (7, _), (8, _), (9, _)]) (T := [⟨[.old 4, .old 3], _, [], [], [10]⟩]) (F := [.old 0, .old 1, .old 2, .old 3, .old 4, .op 0 0]) hst hb follows
        (o_p rfl (ob_lt rfl rfl u_0 u_1) <|
         o_n) (by kernel_rfl) (fun a g hst hb => ?_)
      refine wp_seq ?_
      refine wp_cond_split (hst.bool 5 rfl) (fun hc2 => ?_) (fun hc2 => ?_)
      · replace H1 := ite_t hc2 H1
        refine wp_skip ?_
        refine then_n ?_
        refine wp_seq ?_
        refine wp_block ?_
        obtain ⟨e3, h4, H1⟩ := of_bind H1
        refine r_s (L := [(0, _), (1, _), (7, _), (8, _), (9, _)]) (T := [⟨[.old 4], _, [], [], [11]⟩, ⟨[.old 2, .old 4], _, [], [], [12]⟩, ⟨[.op 1 0], _, [], [1], [13]⟩, ⟨[], [(6, (pBox k_api_Item 6 (default : api_Item)))], [7], [], [6]⟩, ⟨[.op 0 0], _, [], List.range 4, [5]⟩, ⟨[.op 2 0, .op 3 0], _, [7], List.range 5, [6]⟩]) (F := [.old 0, .old 1, .op 4 0, .op 5 0, .old 2, .old 3, .old 4]) (hst.pick [0, 1, 2, 3, 4] rfl) hb follows
          (o_p rfl (ob_move rfl rfl u_0) <|
           o_p rfl (ob_indexAddr Try.underlying36 sz_64 rfl rfl u_0 u_1 h4) <|
           o_p rfl (ob_load ty_64 rfl rfl u_0) <|
           o_p rfl (ob_alloc (zs := [.float .f64 0, .string ByteArray.empty]) (by kernel_rfl) (fun g => zk_api_Item g) rfl rfl) <|
           o_p rfl (ob_assign rfl rfl u_0) <|
           o_p rfl (ob_storeF ty_64 rfl rfl u_1 u_0) <|
           o_n) (by kernel_rfl) (fun a g hst hb => ?_)
        refine wp_block ?_
        refine r_s (L := [(0, _), (1, _), (5, _), (6, _), (7, _), (8, _), (9, _)]) (T := [⟨[.old 3], _, [], [], [15]⟩, ⟨[.op 0 0], _, [], [0], [16]⟩, ⟨[.op 1 0], _, [], [0, 1], [17]⟩, ⟨[.op 2 0], _, [], [0, 1, 2], [18]⟩, ⟨[.op 3 0], _, [], List.range 4, [14]⟩]) (F := [.old 0, .old 1, .old 2, .old 3, .old 4, .old 5, .old 6, .op 4 0]) hst hb follows
          (o_p rfl (ob_fieldAddr fl_64_1 rfl rfl u_0) <|
           o_p rfl (ob_load ty_9 rfl rfl u_0) <|
           o_p rfl (ob_lenS Try.underlying9 rfl rfl u_0) <|
           o_p rfl (ob_gt rfl rfl u_0 c_i) <|
           o_p rfl (ob_assign rfl rfl u_0) <|
           o_n) (by kernel_rfl) (fun a g hst hb => ?_)
        refine wp_cond_split (hst.bool 7 rfl) (fun hc5 => ?_) (fun hc5 => ?_)
        · replace H1 := ite_t hc5 H1
          refine r_s (L := []) (T := [⟨[], _, [], [], [4]⟩]) (F := [.op 0 0]) (hst.pick [] rfl) hb follows
            (o_p rfl (ob_assign rfl rfl c_i) <|
             o_n) (by kernel_rfl) (fun a g hst hb => ?_)
          refine wp_ret ?_
          refine inBlock_r ?_
          refine inBlock_r ?_
          refine then_r ?_
          refine then_r ?_
          refine inBlock_r ?_
          refine then_r ?_
          refine then_r ?_
          obtain rfl := Option.some.inj H1
          obtain rfl := Option.some.inj H0
          exact endR1 rfl hst hb (res_tmp (s := 4)) (hst.at 0 rfl)
        · replace H1 := ite_f hc5 H1
          obtain ⟨r6, h7, H1⟩ := of_bind H1; obtain ⟨r8, h9, H1⟩ := of_bind H1
          refine r_s (L := [(0, _), (1, _), (5, _), (6, _), (7, _), (8, _), (9, _)]) (T := ⟨[.old 0], _, [], [], [20]⟩ :: ⟨[.op 0 0], _, [], [0], [21]⟩ :: ⟨[.op 1 0], _, [], [0, 1], [22]⟩ :: ⟨[.op 2 0, .old 3], _, [], [0, 1, 2], [23]⟩ :: ⟨[.op 2 0, .op 3 0], _, [], List.range 4, [24]⟩ :: ⟨[.op 2 0, .op 4 0], _, [], List.range 5, [25]⟩ :: ⟨[.op 2 0, .op 5 0], _, [], List.range 6, [26]⟩ :: ⟨[.op 2 0, .op 6 0], _, [], List.range 7, [27]⟩ :: ⟨[.op 7 0], _, [], List.range 8, [28]⟩ :: ⟨[.op 8 0, .old 3], _, [], List.range 9, [29]⟩ :: ⟨[.op 8 0, .op 9 0], _, [], List.range 10, [30]⟩ :: ⟨[.op 8 0, .op 10 0], _, [], List.range 11, [31]⟩ :: ⟨[.op 8 0, .op 11 0], _, [], List.range 12, [32]⟩ :: ⟨[.op 8 0, .op 12 0], _, [], List.range 13, [33]⟩ :: ⟨[.op 13 0], _, [], List.range 14, [19]⟩ :: []) (F := [.old 0, .old 1, .old 2, .old 3, .old 4, .old 5, .old 6, .op 14 0]) (hst.pick [0, 1, 2, 3, 4, 5, 6] rfl) hb follows
            (o_p rfl (ob_move rfl rfl u_0) <|
             o_p rfl (ob_eq rfl rfl u_0 c_i) <|
             o_p rfl (ob_move rfl rfl u_0) <|
             o_g (g_t rfl rfl rfl (fun hG => ob_fieldAddr fl_64_0 rfl rfl u_0)) <|
             o_g (g_t rfl rfl rfl (fun hG => ob_load ty_35 rfl rfl (Opd.gd hG u_0))) <|
             o_g (g_t rfl rfl rfl (fun hG => ob_call en_42 (flo_Same_ok _ _ (gd_true h7 hG)) rfl rfl (.cons (Opd.gd hG u_0) (.cons c_f .nil)))) <|
             o_g (g_t rfl rfl rfl (fun hG => ob_not rfl rfl (Opd.gd hG u_0))) <|
             o_p rfl (ob_pand rfl rfl u_0 (fun hz => (Opd.gd hz u_1))) <|
             o_p rfl (ob_move rfl rfl u_0) <|
             o_g (g_f rfl rfl rfl (fun hG => ob_fieldAddr fl_64_0 rfl rfl u_0)) <|
             o_g (g_f rfl rfl rfl (fun hG => ob_load ty_35 rfl rfl (Opd.gd hG u_0))) <|
             o_g (g_f rfl rfl rfl (fun hG => ob_call en_49 (flo_Proper_ok _ (gd_true h9 hG)) rfl rfl (.cons (Opd.gd hG u_0) .nil))) <|
             o_g (g_f rfl rfl rfl (fun hG => ob_not rfl rfl (Opd.gd hG u_0))) <|
             o_p rfl (ob_por rfl rfl u_0 (fun hz => (Opd.gd (bNF hz) u_1))) <|
             o_p rfl (ob_assign rfl rfl u_0) <|
             o_n) (by kernel_rfl) (fun a g hst hb => ?_)
          refine wp_cond_split (hst.bool 7 rfl) (fun hc10 => ?_) (fun hc10 => ?_)
          · replace H1 := ite_t hc10 H1
            refine r_s (L := []) (T := [⟨[], _, [], [], [4]⟩]) (F := [.op 0 0]) (hst.pick [] rfl) hb follows
              (o_p rfl (ob_assign rfl rfl c_i) <|
               o_n) (by kernel_rfl) (fun a g hst hb => ?_)
            refine wp_ret ?_
            refine inBlock_r ?_
            refine inBlock_r ?_
            refine then_r ?_
            refine then_r ?_
            refine inBlock_r ?_
            refine then_r ?_
            refine then_r ?_
            obtain rfl := Option.some.inj H1
            obtain rfl := Option.some.inj H0
            exact endR1 rfl hst hb (res_tmp (s := 4)) (hst.at 0 rfl)
          · replace H1 := ite_f hc10 H1
            obtain ⟨e11, h12, H1⟩ := of_bind H1
            refine r_s (L := [(0, _), (1, _), (5, _), (6, _), (7, _), (8, _), (9, _)]) (T := ⟨[.old 2], _, [], [], [35]⟩ :: ⟨[.op 0 0], _, [], [0], [36]⟩ :: ⟨[.op 1 0], _, [], [0, 1], [37]⟩ :: ⟨[.op 2 0, .old 0], _, [], [0, 1, 2], [38]⟩ :: ⟨[.op 2 0, .op 3 0], _, [], List.range 4, [39]⟩ :: ⟨[.op 2 0, .op 4 0], _, [], List.range 5, [40]⟩ :: ⟨[.op 5 0], _, [], List.range 6, [41]⟩ :: ⟨[.op 6 0, .old 1], _, [], List.range 7, [42]⟩ :: ⟨[.op 6 0, .old 2], _, [], List.range 7, [43]⟩ :: ⟨[.op 6 0, .op 8 0], _, [], [0, 1, 2, 3, 4, 5, 6, 8], [44]⟩ :: ⟨[.op 6 0, .op 7 0, .op 9 0], _, [], List.range 10, [45]⟩ :: ⟨[.op 6 0, .op 10 0], _, [], List.range 11, [46]⟩ :: ⟨[.op 6 0, .op 11 0], _, [], List.range 12, [47]⟩ :: ⟨[.op 6 0, .old 3], _, [], List.range 7, [48]⟩ :: ⟨[.op 6 0, .op 13 0], _, [], [0, 1, 2, 3, 4, 5, 6, 13], [49]⟩ :: ⟨[.op 6 0, .op 12 0, .op 14 0], _, [], List.range 15, [50]⟩ :: ⟨[.op 6 0, .op 15 0], _, [], List.range 16, [51]⟩ :: ⟨[.op 16 0], _, [], List.range 17, [34]⟩ :: []) (F := [.old 0, .old 1, .old 2, .old 3, .old 4, .old 5, .old 6, .op 17 0]) (hst.pick [0, 1, 2, 3, 4, 5, 6] rfl) hb follows
              (o_p rfl (ob_move rfl rfl u_0) <|
               o_p rfl (ob_gt rfl rfl u_0 c_i) <|
               o_p rfl (ob_move rfl rfl u_0) <|
               o_g (g_t rfl rfl rfl (fun hG => ob_move rfl rfl u_0)) <|
               o_g (g_t rfl rfl rfl (fun hG => ob_eq rfl rfl (Opd.gd hG u_0) c_i)) <|
               o_p rfl (ob_pand rfl rfl u_0 (fun hz => (Opd.gd hz u_1))) <|
               o_p rfl (ob_move rfl rfl u_0) <|
               o_g (g_t rfl rfl rfl (fun hG => ob_move rfl rfl u_0)) <|
               o_g (g_t rfl rfl rfl (fun hG => ob_move rfl rfl u_0)) <|
               o_g (g_t rfl rfl rfl (fun hG => ob_sub rfl rfl (Opd.gd hG u_0) c_i rfl)) <|
               o_g (g_t rfl rfl rfl (fun hG => ob_indexAddr Try.underlying36 sz_64 rfl rfl (Opd.gd hG u_0) (Opd.gd hG u_1) (gd_true h12 hG))) <|
               o_g (g_t rfl rfl rfl (fun hG => ob_fieldAddr fl_64_1 rfl rfl (Opd.gd hG u_0))) <|
               o_g (g_t rfl rfl rfl (fun hG => ob_load ty_9 rfl rfl (Opd.gd hG u_0))) <|
               o_g (g_t rfl rfl rfl (fun hG => ob_fieldAddr fl_64_1 rfl rfl u_0)) <|
               o_g (g_t rfl rfl rfl (fun hG => ob_load ty_9 rfl rfl (Opd.gd hG u_0))) <|
               o_g (g_t rfl rfl rfl (fun hG => ob_sge rfl rfl (Opd.gd hG u_0) (Opd.gd hG u_1))) <|
               o_p rfl (ob_pand rfl rfl u_0 (fun hz => (Opd.gd hz u_1))) <|
               o_p rfl (ob_assign rfl rfl u_0) <|
               o_n) (by kernel_rfl) (fun a g hst hb => ?_)
            refine wp_cond_split (hst.bool 7 rfl) (fun hc13 => ?_) (fun hc13 => ?_)
            · replace H1 := ite_t hc13 H1
              refine r_s (L := []) (T := [⟨[], _, [], [], [4]⟩]) (F := [.op 0 0]) (hst.pick [] rfl) hb follows
                (o_p rfl (ob_assign rfl rfl c_i) <|
                 o_n) (by kernel_rfl) (fun a g hst hb => ?_)
              refine wp_ret ?_
              refine inBlock_r ?_
              refine inBlock_r ?_
              refine then_r ?_
              refine then_r ?_
              refine inBlock_r ?_
              refine then_r ?_
              refine then_r ?_
              obtain rfl := Option.some.inj H1
              obtain rfl := Option.some.inj H0
              exact endR1 rfl hst hb (res_tmp (s := 4)) (hst.at 0 rfl)
            · replace H1 := ite_f hc13 H1
              obtain ⟨e14, h15, H1⟩ := of_bind H1; obtain ⟨r16, h17, H1⟩ := of_bind H1
              refine r_s (L := [(0, _), (1, _), (5, _), (6, _), (7, _), (8, _), (9, _)]) (T := ⟨[.old 2], _, [], [], [53]⟩ :: ⟨[.op 0 0], _, [], [0], [54]⟩ :: ⟨[.op 1 0], _, [], [0, 1], [55]⟩ :: ⟨[.op 2 0, .old 0], _, [], [0, 1, 2], [56]⟩ :: ⟨[.op 2 0, .op 3 0], _, [], List.range 4, [57]⟩ :: ⟨[.op 2 0, .op 4 0], _, [], List.range 5, [58]⟩ :: ⟨[.op 5 0], _, [], List.range 6, [59]⟩ :: ⟨[.op 6 0, .old 1], _, [], List.range 7, [60]⟩ :: ⟨[.op 6 0, .old 2], _, [], List.range 7, [61]⟩ :: ⟨[.op 6 0, .op 8 0], _, [], [0, 1, 2, 3, 4, 5, 6, 8], [62]⟩ :: ⟨[.op 6 0, .op 7 0, .op 9 0], _, [], List.range 10, [63]⟩ :: ⟨[.op 6 0, .op 10 0], _, [], List.range 11, [64]⟩ :: ⟨[.op 6 0, .old 3], _, [], List.range 7, [65]⟩ :: ⟨[.op 6 0, .op 11 0, .op 12 0], _, [], List.range 13, [66]⟩ :: ⟨[.op 6 0, .op 13 0], _, [], List.range 14, [67]⟩ :: ⟨[.op 6 0, .op 14 0], _, [], List.range 15, [68]⟩ :: ⟨[.op 15 0], _, [], List.range 16, [52]⟩ :: []) (F := [.old 0, .old 1, .old 4, .old 5, .old 6, .op 16 0]) (hst.pick [0, 1, 2, 3, 4, 5, 6] rfl) hb follows
                (o_p rfl (ob_move rfl rfl u_0) <|
                 o_p rfl (ob_gt rfl rfl u_0 c_i) <|
                 o_p rfl (ob_move rfl rfl u_0) <|
                 o_g (g_t rfl rfl rfl (fun hG => ob_move rfl rfl u_0)) <|
                 o_g (g_t rfl rfl rfl (fun hG => ob_eq rfl rfl (Opd.gd hG u_0) c_i)) <|
                 o_p rfl (ob_pand rfl rfl u_0 (fun hz => (Opd.gd hz u_1))) <|
                 o_p rfl (ob_move rfl rfl u_0) <|
                 o_g (g_t rfl rfl rfl (fun hG => ob_move rfl rfl u_0)) <|
                 o_g (g_t rfl rfl rfl (fun hG => ob_move rfl rfl u_0)) <|
                 o_g (g_t rfl rfl rfl (fun hG => ob_sub rfl rfl (Opd.gd hG u_0) c_i rfl)) <|
                 o_g (g_t rfl rfl rfl (fun hG => ob_indexAddr Try.underlying36 sz_64 rfl rfl (Opd.gd hG u_0) (Opd.gd hG u_1) (gd_true h15 hG))) <|
                 o_g (g_t rfl rfl rfl (fun hG => ob_load ty_64 rfl rfl (Opd.gd hG u_0))) <|
                 o_g (g_t rfl rfl rfl (fun hG => ob_load ty_64 rfl rfl u_0)) <|
                 o_g (g_t rfl rfl rfl (fun hG => ob_call en_62 (rec_Better_ok _ _ (gd_true h17 hG)) rfl rfl (.cons (Opd.gd hG u_0) (.cons (Opd.gd hG u_1) .nil)))) <|
                 o_g (g_t rfl rfl rfl (fun hG => ob_not rfl rfl (Opd.gd hG u_0))) <|
                 o_p rfl (ob_pand rfl rfl u_0 (fun hz => (Opd.gd hz u_1))) <|
                 o_p rfl (ob_assign rfl rfl u_0) <|
                 o_n) (by kernel_rfl) (fun a g hst hb => ?_)
              refine wp_cond_split (hst.bool 5 rfl) (fun hc18 => ?_) (fun hc18 => ?_)
              · replace H1 := ite_t hc18 H1
                refine r_s (L := []) (T := [⟨[], _, [], [], [4]⟩]) (F := [.op 0 0]) (hst.pick [] rfl) hb follows
                  (o_p rfl (ob_assign rfl rfl c_i) <|
                   o_n) (by kernel_rfl) (fun a g hst hb => ?_)
                refine wp_ret ?_
                refine inBlock_r ?_
                refine inBlock_r ?_
                refine then_r ?_
                refine then_r ?_
                refine inBlock_r ?_
                refine then_r ?_
                refine then_r ?_
                obtain rfl := Option.some.inj H1
                obtain rfl := Option.some.inj H0
                exact endR1 rfl hst hb (res_tmp (s := 4)) (hst.at 0 rfl)
              · replace H1 := ite_f hc18 H1
                refine wp_skip ?_
                refine inBlock_n ?_
                refine inBlock_n ?_
                refine then_n ?_
                refine r_g (L := [(0, _), (1, _), (7, _), (8, _), (9, _)]) (T := [⟨[.old 4], _, [], [], [69]⟩, ⟨[.op 0 0], _, [], [0], [9]⟩]) (F := [.old 0, .old 1, .old 2, .old 3, .op 1 0]) (hst.pick [0, 1, 2, 3, 4] rfl) hb follows
                  (o_p rfl (ob_add rfl rfl u_0 c_i rfl) <|
                   o_p rfl (ob_move rfl rfl u_0) <|
                   o_n) (by kernel_rfl) (fun a g hst hb => ?_)
                exact ⟨n, Nat.lt_succ_self _, (IntKind.i64.wrap (x1 + (1 : Int))), g, rfl, (hst.pick [0, 1, 2, 3, 4] rfl), hb, H1⟩
      · replace H1 := ite_f hc2 H1
        refine wp_exit ?_
        refine then_e ?_
        refine then_e ?_
        refine inBlock_e ?_
        exact ⟨g, rfl, (hst.pick [] rfl), hb, Option.some.inj H1⟩
end Go.CL

set_option linter.unusedVariables false
set_option linter.unusedSimpArgs false
set_option maxRecDepth 100000
namespace Go.CL
open Go Go.RowKit Go.Proofs
theorem rec_Check_ok (a0 : api_Record) {r : Int} (h : rec_Check a0 = some r) : FnOk Try.prog 35 [(k_api_Record.pd a0)] (pInt .i64 r) := by
  have H0 := h
  unfold rec_Check at H0
  clear h
  refine fn_ok (N := 83) Try.func35 rfl rfl (Nat.le_of_ble_eq_true rfl) rfl rfl (fun a g0 hst hb => ?_)
  refine r_s (L := [(0, _)]) (T := [⟨[.old 0], _, [], [], [1]⟩, ⟨[], _, [], [], [2]⟩]) (F := [.op 0 0]) hst hb follows
    (o_p rfl (ob_box1 rfl rfl u_0) <|
     o_p rfl (ob_assign rfl rfl c_i) <|
     o_n) (by kernel_rfl) (fun a g hst hb => ?_)
  obtain ⟨r1, h2, H0⟩ := of_bind H0
  refine r_s (L := [(1, _)]) (T := [⟨[.old 0], _, [], [], [4]⟩, ⟨[.op 0 0], _, [], [0], [5]⟩, ⟨[.op 1 0], _, [], [0, 1], [6]⟩, ⟨[], [(3, (pBox k_rec_shape 3 (default : rec_shape)))], [4], [], [3]⟩, ⟨[.op 2 0, .op 3 0], _, [4], List.range 4, [3]⟩]) (F := [.old 0, .op 4 0]) hst hb follows
    (o_p rfl (ob_fieldAddr fl_38_0 rfl rfl u_0) <|
     o_p rfl (ob_load ty_3 rfl rfl u_0) <|
     o_p rfl (ob_call en_47 (rec_shaped_ok _ h2) rfl rfl (.cons u_0 .nil)) <|
     o_p rfl (ob_alloc (zs := [.bool false, .bool false, .bool false, .bool false, .bool false]) (by kernel_rfl) (fun g => zk_rec_shape g) rfl rfl) <|
     o_p rfl (ob_storeF ty_89 rfl rfl u_1 u_0) <|
     o_n) (by kernel_rfl) (fun a g hst hb => ?_)
  refine wp_seq ?_
  refine wp_block ?_
  refine r_s (L := [(1, _), (3, _)]) (T := [⟨[.old 0], _, [], [], [8]⟩, ⟨[.op 0 0], _, [], [0], [9]⟩, ⟨[.op 1 0], _, [], [0, 1], [10]⟩, ⟨[.op 2 0], _, [], [0, 1, 2], [11]⟩, ⟨[.op 3 0, .old 0], _, [], List.range 4, [12]⟩, ⟨[.op 3 0, .op 4 0], _, [], List.range 5, [13]⟩, ⟨[.op 3 0, .op 5 0], _, [], List.range 6, [14]⟩, ⟨[.op 3 0, .op 6 0], _, [], List.range 7, [15]⟩, ⟨[.op 7 0], _, [], List.range 8, [7]⟩]) (F := [.old 0, .old 1, .op 8 0]) hst hb follows
    (o_p rfl (ob_fieldAddr fl_38_0 rfl rfl u_0) <|
     o_p rfl (ob_load ty_3 rfl rfl u_0) <|
     o_p rfl (ob_le rfl rfl u_0 c_i) <|
     o_p rfl (ob_move rfl rfl u_0) <|
     o_g (g_f rfl rfl rfl (fun hG => ob_fieldAddr fl_38_0 rfl rfl u_0)) <|
     o_g (g_f rfl rfl rfl (fun hG => ob_load ty_3 rfl rfl (Opd.gd hG u_0))) <|
     o_g (g_f rfl rfl rfl (fun hG => ob_ge rfl rfl (Opd.gd hG u_0) c_i)) <|
     o_p rfl (ob_por rfl rfl u_0 (fun hz => (Opd.gd (bNF hz) u_1))) <|
     o_p rfl (ob_assign rfl rfl u_0) <|
     o_n) (by kernel_rfl) (fun a g hst hb => ?_)
  refine wp_cond_split (hst.bool 2 rfl) (fun hc3 => ?_) (fun hc3 => ?_)
  · replace H0 := ite_t hc3 H0
    refine r_s (L := []) (T := [⟨[], _, [], [], [2]⟩]) (F := [.op 0 0]) (hst.pick [] rfl) hb follows
      (o_p rfl (ob_assign rfl rfl c_i) <|
       o_n) (by kernel_rfl) (fun a g hst hb => ?_)
    refine wp_ret ?_
    refine inBlock_r ?_
    refine then_r ?_
    obtain rfl := Option.some.inj H0
    exact endR1 rfl hst hb (res_tmp (s := 2)) (hst.at 0 rfl)
  · replace H0 := ite_f hc3 H0
    obtain ⟨r4, h5, H0⟩ := of_bind H0
    refine r_s (L := [(1, _), (3, _)]) (T := [⟨[.old 0], _, [], [], [17]⟩, ⟨[.old 1], _, [], [], [18]⟩, ⟨[.op 0 0, .op 1 0], _, [], [0, 1], [19]⟩, ⟨[.op 2 0], _, [], [0, 1, 2], [20]⟩, ⟨[.op 3 0], _, [], List.range 4, [16]⟩]) (F := [.old 0, .old 1, .op 4 0]) (hst.pick [0, 1] rfl) hb follows
      (o_p rfl (ob_load ty_38 rfl rfl u_0) <|
       o_p rfl (ob_load ty_89 rfl rfl u_0) <|
       o_p rfl (ob_call en_48 (rec_bare_ok _ _ h5) rfl rfl (.cons u_0 (.cons u_1 .nil))) <|
       o_p rfl (ob_not rfl rfl u_0) <|
       o_p rfl (ob_assign rfl rfl u_0) <|
       o_n) (by kernel_rfl) (fun a g hst hb => ?_)
    refine wp_cond_split (hst.bool 2 rfl) (fun hc6 => ?_) (fun hc6 => ?_)
    · replace H0 := ite_t hc6 H0
      refine r_s (L := []) (T := [⟨[], _, [], [], [2]⟩]) (F := [.op 0 0]) (hst.pick [] rfl) hb follows
        (o_p rfl (ob_assign rfl rfl c_i) <|
         o_n) (by kernel_rfl) (fun a g hst hb => ?_)
      refine wp_ret ?_
      refine inBlock_r ?_
      refine then_r ?_
      obtain rfl := Option.some.inj H0
      exact endR1 rfl hst hb (res_tmp (s := 2)) (hst.at 0 rfl)
    · replace H0 := ite_f hc6 H0
      refine r_s (L := [(1, _), (3, _)]) (T := [⟨[.old 0], _, [], [], [22]⟩, ⟨[.op 0 0], _, [], [0], [23]⟩, ⟨[.op 1 0], _, [], [0, 1], [24]⟩, ⟨[.op 2 0], _, [], [0, 1, 2], [25]⟩, ⟨[.op 3 0], _, [], List.range 4, [21]⟩]) (F := [.old 0, .old 1, .op 4 0]) (hst.pick [0, 1] rfl) hb follows
        (o_p rfl (ob_fieldAddr fl_38_6 rfl rfl u_0) <|
         o_p rfl (ob_load ty_9 rfl rfl u_0) <|
         o_p rfl (ob_lenS Try.underlying9 rfl rfl u_0) <|
         o_p rfl (ob_gt rfl rfl u_0 c_i) <|
         o_p rfl (ob_assign rfl rfl u_0) <|
         o_n) (by kernel_rfl) (fun a g hst hb => ?_)
      refine wp_cond_split (hst.bool 2 rfl) (fun hc7 => ?_) (fun hc7 => ?_)
      · replace H0 := ite_t hc7 H0
        refine r_s (L := []) (T := [⟨[], _, [], [], [2]⟩]) (F := [.op 0 0]) (hst.pick [] rfl) hb follows
          (o_p rfl (ob_assign rfl rfl c_i) <|
           o_n) (by kernel_rfl) (fun a g hst hb => ?_)
        refine wp_ret ?_
        refine inBlock_r ?_
        refine then_r ?_
        obtain rfl := Option.some.inj H0
        exact endR1 rfl hst hb (res_tmp (s := 2)) (hst.at 0 rfl)
      · replace H0 := ite_f hc7 H0
        refine r_s (L := [(1, _), (3, _)]) (T := ⟨[.old 1], _, [], [], [27]⟩ :: ⟨[.op 0 0], _, [], [0], [28]⟩ :: ⟨[.op 1 0], _, [], [0, 1], [29]⟩ :: ⟨[.op 2 0, .old 0], _, [], [0, 1, 2], [30]⟩ :: ⟨[.op 2 0, .op 3 0], _, [], List.range 4, [31]⟩ :: ⟨[.op 2 0, .op 4 0], _, [], List.range 5, [32]⟩ :: ⟨[.op 2 0, .op 5 0], _, [], List.range 6, [33]⟩ :: ⟨[.op 6 0, .old 0], _, [], List.range 7, [34]⟩ :: ⟨[.op 6 0, .op 7 0], _, [], List.range 8, [35]⟩ :: ⟨[.op 6 0, .op 8 0], _, [], List.range 9, [36]⟩ :: ⟨[.op 2 0, .op 6 0, .op 9 0], _, [], List.range 10, [37]⟩ :: ⟨[.op 2 0, .op 10 0], _, [], List.range 11, [38]⟩ :: ⟨[.op 11 0, .old 0], _, [], List.range 12, [39]⟩ :: ⟨[.op 11 0, .op 12 0], _, [], List.range 13, [40]⟩ :: ⟨[.op 11 0, .old 0], _, [], List.range 12, [41]⟩ :: ⟨[.op 11 0, .op 14 0], _, [], 0 :: 1 :: 2 :: 3 :: 4 :: 5 :: 6 :: 7 :: 8 :: 9 :: 10 :: 11 :: 14 :: [], [42]⟩ :: ⟨[.op 11 0, .op 13 0, .op 15 0], _, [], List.range 16, [43]⟩ :: ⟨[.op 2 0, .op 11 0, .op 16 0], _, [], List.range 17, [44]⟩ :: ⟨[.op 2 0, .op 17 0], _, [], List.range 18, [45]⟩ :: ⟨[.op 18 0, .old 0], _, [], List.range 19, [46]⟩ :: ⟨[.op 18 0, .op 19 0], _, [], List.range 20, [47]⟩ :: ⟨[.op 18 0, .old 0], _, [], List.range 19, [48]⟩ :: ⟨[.op 18 0, .op 21 0], _, [], 0 :: 1 :: 2 :: 3 :: 4 :: 5 :: 6 :: 7 :: 8 :: 9 :: 10 :: 11 :: 12 :: 13 :: 14 :: 15 :: 16 :: 17 :: 18 :: 21 :: [], [49]⟩ :: ⟨[.op 18 0, .op 20 0, .op 22 0], _, [], List.range 23, [50]⟩ :: ⟨[.op 2 0, .op 18 0, .op 23 0], _, [], List.range 24, [51]⟩ :: ⟨[.op 2 0, .op 24 0], _, [], List.range 25, [52]⟩ :: ⟨[.op 25 0], _, [], List.range 26, [26]⟩ :: []) (F := [.old 0, .old 1, .op 26 0]) (hst.pick [0, 1] rfl) hb follows
          (o_p rfl (ob_fieldAddr fl_89_2 rfl rfl u_0) <|
           o_p rfl (ob_load ty_4 rfl rfl u_0) <|
           o_p rfl (ob_move rfl rfl u_0) <|
           o_g (g_t rfl rfl rfl (fun hG => ob_fieldAddr fl_38_2 rfl rfl u_0)) <|
           o_g (g_t rfl rfl rfl (fun hG => ob_load ty_2 rfl rfl (Opd.gd hG u_0))) <|
           o_g (g_t rfl rfl rfl (fun hG => ob_lt rfl rfl (Opd.gd hG u_0) c_i)) <|
           o_g (g_t rfl rfl rfl (fun hG => ob_move rfl rfl (Opd.gd hG u_0))) <|
           o_g (g_fi rfl rfl rfl (fun hG => ob_fieldAddr fl_38_3 rfl rfl u_0)) <|
           o_g (g_fi rfl rfl rfl (fun hG => ob_load ty_2 rfl rfl (Opd.gd hG u_0))) <|
           o_g (g_fi rfl rfl rfl (fun hG => ob_gt rfl rfl (Opd.gd hG u_0) c_i)) <|
           o_g (g_t rfl rfl rfl (fun hG => ob_por rfl rfl (Opd.gd hG u_0) (fun hz => (Opd.gd (bA hG (bNF hz)) u_1)))) <|
           o_g (g_t rfl rfl rfl (fun hG => ob_move rfl rfl (Opd.gd hG u_0))) <|
           o_g (g_fi rfl rfl rfl (fun hG => ob_fieldAddr fl_38_1 rfl rfl u_0)) <|
           o_g (g_fi rfl rfl rfl (fun hG => ob_load ty_2 rfl rfl (Opd.gd hG u_0))) <|
           o_g (g_fi rfl rfl rfl (fun hG => ob_fieldAddr fl_38_2 rfl rfl u_0)) <|
           o_g (g_fi rfl rfl rfl (fun hG => ob_load ty_2 rfl rfl (Opd.gd hG u_0))) <|
           o_g (g_fi rfl rfl rfl (fun hG => ob_lt rfl rfl (Opd.gd hG u_0) (Opd.gd hG u_1))) <|
           o_g (g_t rfl rfl rfl (fun hG => ob_por rfl rfl (Opd.gd hG u_0) (fun hz => (Opd.gd (bA hG (bNF hz)) u_1)))) <|
           o_g (g_t rfl rfl rfl (fun hG => ob_move rfl rfl (Opd.gd hG u_0))) <|
           o_g (g_fi rfl rfl rfl (fun hG => ob_fieldAddr fl_38_1 rfl rfl u_0)) <|
           o_g (g_fi rfl rfl rfl (fun hG => ob_load ty_2 rfl rfl (Opd.gd hG u_0))) <|
           o_g (g_fi rfl rfl rfl (fun hG => ob_fieldAddr fl_38_3 rfl rfl u_0)) <|
           o_g (g_fi rfl rfl rfl (fun hG => ob_load ty_2 rfl rfl (Opd.gd hG u_0))) <|
           o_g (g_fi rfl rfl rfl (fun hG => ob_gt rfl rfl (Opd.gd hG u_0) (Opd.gd hG u_1))) <|
           o_g (g_t rfl rfl rfl (fun hG => ob_por rfl rfl (Opd.gd hG u_0) (fun hz => (Opd.gd (bA hG (bNF hz)) u_1)))) <|
           o_p rfl (ob_pand rfl rfl u_0 (fun hz => (Opd.gd hz u_1))) <|
           o_p rfl (ob_assign rfl rfl u_0) <|
           o_n) (by kernel_rfl) (fun a g hst hb => ?_)
        refine wp_cond_split (hst.bool 2 rfl) (fun hc8 => ?_) (fun hc8 => ?_)
        · replace H0 := ite_t hc8 H0
          refine r_s (L := []) (T := [⟨[], _, [], [], [2]⟩]) (F := [.op 0 0]) (hst.pick [] rfl) hb follows
            (o_p rfl (ob_assign rfl rfl c_i) <|
             o_n) (by kernel_rfl) (fun a g hst hb => ?_)
          refine wp_ret ?_
          refine inBlock_r ?_
          refine then_r ?_
          obtain rfl := Option.some.inj H0
          exact endR1 rfl hst hb (res_tmp (s := 2)) (hst.at 0 rfl)
        · replace H0 := ite_f hc8 H0
          obtain ⟨r9, h10, H0⟩ := of_bind H0
          refine r_s (L := [(1, _), (3, _)]) (T := [⟨[.old 0], _, [], [], [54]⟩, ⟨[.op 0 0], _, [], [0], [55]⟩, ⟨[.op 1 0], _, [], [0, 1], [56]⟩, ⟨[.op 2 0], _, [], [0, 1, 2], [57]⟩, ⟨[.op 3 0], _, [], List.range 4, [53]⟩]) (F := [.old 0, .old 1, .op 4 0]) (hst.pick [0, 1] rfl) hb follows
            (o_p rfl (ob_fieldAddr fl_38_4 rfl rfl u_0) <|
             o_p rfl (ob_load ty_35 rfl rfl u_0) <|
             o_p rfl (ob_call en_49 (flo_Proper_ok _ h10) rfl rfl (.cons u_0 .nil)) <|
             o_p rfl (ob_not rfl rfl u_0) <|
             o_p rfl (ob_assign rfl rfl u_0) <|
             o_n) (by kernel_rfl) (fun a g hst hb => ?_)
          refine wp_cond_split (hst.bool 2 rfl) (fun hc11 => ?_) (fun hc11 => ?_)
          · replace H0 := ite_t hc11 H0
            refine r_s (L := []) (T := [⟨[], _, [], [], [2]⟩]) (F := [.op 0 0]) (hst.pick [] rfl) hb follows
              (o_p rfl (ob_assign rfl rfl c_i) <|
               o_n) (by kernel_rfl) (fun a g hst hb => ?_)
            refine wp_ret ?_
            refine inBlock_r ?_
            refine then_r ?_
            obtain rfl := Option.some.inj H0
            exact endR1 rfl hst hb (res_tmp (s := 2)) (hst.at 0 rfl)
          · replace H0 := ite_f hc11 H0
            refine r_s (L := [(1, _), (3, _)]) (T := [⟨[.old 1], _, [], [], [59]⟩, ⟨[.op 0 0], _, [], [0], [60]⟩, ⟨[.op 1 0], _, [], [0, 1], [61]⟩, ⟨[.op 2 0], _, [], [0, 1, 2], [58]⟩]) (F := [.old 0, .op 3 0]) (hst.pick [0, 1] rfl) hb follows
              (o_p rfl (ob_fieldAddr fl_89_4 rfl rfl u_0) <|
               o_p rfl (ob_load ty_4 rfl rfl u_0) <|
               o_p rfl (ob_not rfl rfl u_0) <|
               o_p rfl (ob_assign rfl rfl u_0) <|
               o_n) (by kernel_rfl) (fun a g hst hb => ?_)
            refine wp_cond_split (hst.bool 1 rfl) (fun hc12 => ?_) (fun hc12 => ?_)
            · replace H0 := ite_t hc12 H0
              refine r_s (L := []) (T := [⟨[], _, [], [], [2]⟩]) (F := [.op 0 0]) (hst.pick [] rfl) hb follows
                (o_p rfl (ob_assign rfl rfl c_i) <|
                 o_n) (by kernel_rfl) (fun a g hst hb => ?_)
              refine wp_ret ?_
              refine inBlock_r ?_
              refine then_r ?_
              obtain rfl := Option.some.inj H0
              exact endR1 rfl hst hb (res_tmp (s := 2)) (hst.at 0 rfl)
            · replace H0 := ite_f hc12 H0
              refine r_s (L := [(1, _)]) (T := [⟨[.old 0], _, [], [], [63]⟩, ⟨[.op 0 0], _, [], [0], [64]⟩, ⟨[.op 1 0], _, [], [0, 1], [65]⟩, ⟨[.op 2 0], _, [], [0, 1, 2], [66]⟩, ⟨[.op 3 0, .old 0], _, [], List.range 4, [67]⟩, ⟨[.op 3 0, .op 4 0], _, [], List.range 5, [68]⟩, ⟨[.op 3 0, .op 5 0], _, [], List.range 6, [69]⟩, ⟨[.op 3 0, .op 6 0], _, [], List.range 7, [70]⟩, ⟨[.op 7 0], _, [], List.range 8, [62]⟩]) (F := [.old 0, .op 8 0]) (hst.pick [0] rfl) hb follows
                (o_p rfl (ob_fieldAddr fl_38_5 rfl rfl u_0) <|
                 o_p rfl (ob_load ty_3 rfl rfl u_0) <|
                 o_p rfl (ob_lt rfl rfl u_0 c_i) <|
                 o_p rfl (ob_move rfl rfl u_0) <|
                 o_g (g_f rfl rfl rfl (fun hG => ob_fieldAddr fl_38_5 rfl rfl u_0)) <|
                 o_g (g_f rfl rfl rfl (fun hG => ob_load ty_3 rfl rfl (Opd.gd hG u_0))) <|
                 o_g (g_f rfl rfl rfl (fun hG => ob_gt rfl rfl (Opd.gd hG u_0) c_i)) <|
                 o_p rfl (ob_por rfl rfl u_0 (fun hz => (Opd.gd (bNF hz) u_1))) <|
                 o_p rfl (ob_assign rfl rfl u_0) <|
                 o_n) (by kernel_rfl) (fun a g hst hb => ?_)
              refine wp_cond_split (hst.bool 1 rfl) (fun hc13 => ?_) (fun hc13 => ?_)
              · replace H0 := ite_t hc13 H0
                refine r_s (L := []) (T := [⟨[], _, [], [], [2]⟩]) (F := [.op 0 0]) (hst.pick [] rfl) hb follows
                  (o_p rfl (ob_assign rfl rfl c_i) <|
                   o_n) (by kernel_rfl) (fun a g hst hb => ?_)
                refine wp_ret ?_
                refine inBlock_r ?_
                refine then_r ?_
                obtain rfl := Option.some.inj H0
                exact endR1 rfl hst hb (res_tmp (s := 2)) (hst.at 0 rfl)
              · replace H0 := ite_f hc13 H0
                refine r_s (L := [(1, _)]) (T := [⟨[.old 0], _, [], [], [72]⟩, ⟨[.op 0 0], _, [], [0], [73]⟩, ⟨[.op 1 0], _, [], [0, 1], [74]⟩, ⟨[.old 0], _, [], [], [75]⟩, ⟨[.op 3 0], _, [], [3], [76]⟩, ⟨[.op 2 0, .op 4 0], _, [], List.range 5, [77]⟩, ⟨[.op 5 0], _, [], List.range 6, [71]⟩]) (F := [.old 0, .op 6 0]) (hst.pick [0] rfl) hb follows
                  (o_p rfl (ob_fieldAddr fl_38_7 rfl rfl u_0) <|
                   o_p rfl (ob_load ty_36 rfl rfl u_0) <|
                   o_p rfl (ob_lenL Try.underlying36 rfl rfl u_0) <|
                   o_p rfl (ob_fieldAddr fl_38_5 rfl rfl u_0) <|
                   o_p rfl (ob_load ty_3 rfl rfl u_0) <|
                   o_p rfl (ob_gt rfl rfl u_0 u_1) <|
                   o_p rfl (ob_assign rfl rfl u_0) <|
                   o_n) (by kernel_rfl) (fun a g hst hb => ?_)
                refine wp_cond_split (hst.bool 1 rfl) (fun hc14 => ?_) (fun hc14 => ?_)
                · replace H0 := ite_t hc14 H0
                  refine r_s (L := []) (T := [⟨[], _, [], [], [2]⟩]) (F := [.op 0 0]) (hst.pick [] rfl) hb follows
                    (o_p rfl (ob_assign rfl rfl c_i) <|
                     o_n) (by kernel_rfl) (fun a g hst hb => ?_)
                  refine wp_ret ?_
                  refine inBlock_r ?_
                  refine then_r ?_
                  obtain rfl := Option.some.inj H0
                  exact endR1 rfl hst hb (res_tmp (s := 2)) (hst.at 0 rfl)
                · replace H0 := ite_f hc14 H0
                  refine wp_skip ?_
                  refine inBlock_n ?_
                  refine then_n ?_
                  obtain ⟨r15, h16, H0⟩ := of_bind H0
                  refine r_s (L := [(1, _)]) (T := [⟨[.old 0], _, [], [], [78]⟩, ⟨[.op 0 0], _, [], [0], [79]⟩, ⟨[.old 0], _, [], [], [80]⟩, ⟨[.op 2 0], _, [], [2], [81]⟩, ⟨[.op 1 0, .op 3 0], _, [], List.range 4, [82]⟩, ⟨[.op 4 0], _, [], List.range 5, [2]⟩]) (F := [.op 5 0]) (hst.pick [0] rfl) hb follows
                    (o_p rfl (ob_fieldAddr fl_38_0 rfl rfl u_0) <|
                     o_p rfl (ob_load ty_3 rfl rfl u_0) <|
                     o_p rfl (ob_fieldAddr fl_38_7 rfl rfl u_0) <|
                     o_p rfl (ob_load ty_36 rfl rfl u_0) <|
                     o_p rfl (ob_call en_50 (rec_items_ok _ _ h16) rfl rfl (.cons u_0 (.cons u_1 .nil))) <|
                     o_p rfl (ob_assign rfl rfl u_0) <|
                     o_n) (by kernel_rfl) (fun a g hst hb => ?_)
                  refine wp_ret ?_
                  obtain rfl := Option.some.inj H0
                  exact endR1 rfl hst hb (res_tmp (s := 2)) (hst.at 0 rfl)
end Go.CL

set_option linter.unusedVariables false
set_option linter.unusedSimpArgs false
set_option maxRecDepth 100000
namespace Go.CL
open Go Go.RowKit Go.Proofs
theorem shelf_made_ok (a0 : ByteArray) (a1 : api_Record) (a2 : shelf_nodeT) (a3 : shelf_nodeT) {r : shelf_nodeT} (h : shelf_made a0 a1 a2 a3 = some r) : FnOk Try.prog 51 [(pStr a0), (k_api_Record.pd a1), (k_shelf_nodeT.pd a2), (k_shelf_nodeT.pd a3)] (k_shelf_nodeT.pd r) := by
  have H0 := h
  unfold shelf_made at H0
  clear h
  refine fn_ok (N := 21) Try.func51 rfl rfl (Nat.le_of_ble_eq_true rfl) rfl rfl (fun a g0 hst hb => ?_)
  refine r_s (L := [(0, _), (1, _), (2, _), (3, _)]) (T := [⟨[.old 1], _, [], [], [5]⟩, ⟨[], [(8, (k_shelf_nodeT.pd shelf_nodeT.nil))], [], [], [8]⟩]) (F := [.old 0, .old 2, .old 3, .op 0 0]) hst hb follows
    (o_p rfl (ob_box1 rfl rfl u_0) <|
     o_p rfl (ob_assign rfl rfl (Opd.c (fun g => k_shelf_nodeT_nil_q g))) <|
     o_n) (by kernel_rfl) (fun a g hst hb => ?_)
  obtain ⟨r1, h2, H0⟩ := of_bind H0; obtain ⟨r3, h4, H0⟩ := of_bind H0
  refine r_s (L := [(0, _), (2, _), (3, _), (5, _)]) (T := ⟨[.old 0], _, [], [], [9]⟩ :: ⟨[.old 3], _, [], [], [10]⟩ :: ⟨[.old 1], _, [], [], [11]⟩ :: ⟨[.old 2], _, [], [], [12]⟩ :: ⟨[.old 1], _, [], [], [13]⟩ :: ⟨[.op 4 0], _, [], [4], [14]⟩ :: ⟨[.old 2], _, [], [], [15]⟩ :: ⟨[.op 6 0], _, [], [4, 5, 6], [16]⟩ :: ⟨[.op 5 0, .op 7 0], _, [], List.range' 4 4, [17]⟩ :: ⟨[.op 8 0], _, [], List.range' 4 5, [18]⟩ :: ⟨[.op 0 0, .op 1 0, .op 2 0, .op 3 0, .op 9 0], _, [], List.range 10, [19]⟩ :: ⟨[.op 10 0], _, [], List.range 11, [20]⟩ :: ⟨[.op 11 0], _, [], List.range 12, [8]⟩ :: []) (F := [.op 12 0]) hst hb follows
    (o_p rfl (ob_move rfl rfl u_0) <|
     o_p rfl (ob_load ty_38 rfl rfl u_0) <|
     o_p rfl (ob_move rfl rfl u_0) <|
     o_p rfl (ob_move rfl rfl u_0) <|
     o_p rfl (ob_move rfl rfl u_0) <|
     o_p rfl (ob_call en_33 (shelf_node_count_ok _ h2) rfl rfl (.cons u_0 .nil)) <|
     o_p rfl (ob_move rfl rfl u_0) <|
     o_p rfl (ob_call en_33 (shelf_node_count_ok _ h4) rfl rfl (.cons u_0 .nil)) <|
     o_p rfl (ob_add rfl rfl u_0 u_1 rfl) <|
     o_p rfl (ob_add rfl rfl u_0 c_i rfl) <|
     o_p rfl (bd_75_0_1_2_3_4 rfl rfl u_0 u_1 u_2 u_3 u_4) <|
     o_p rfl (ob_box1 rfl rfl u_0) <|
     o_p rfl (ob_assign rfl rfl (Opd.imp u_0 (fun _ _ h => shelf_nodeT_up h))) <|
     o_n) (by kernel_rfl) (fun a g hst hb => ?_)
  refine wp_ret ?_
  obtain rfl := Option.some.inj H0
  exact endR1 rfl hst hb (res_tmp (s := 8)) (hst.at 0 rfl)
end Go.CL

set_option linter.unusedVariables false
set_option linter.unusedSimpArgs false
set_option maxRecDepth 100000
namespace Go.CL
open Go Go.RowKit Go.Proofs
theorem shelf_heavy_ok (a0 : shelf_nodeT) (a1 : shelf_nodeT) {r : Bool} (h : shelf_heavy a0 a1 = some r) : FnOk Try.prog 63 [(k_shelf_nodeT.pd a0), (k_shelf_nodeT.pd a1)] (pBool r) := by
  have H0 := h
  unfold shelf_heavy at H0
  clear h
  refine fn_ok (N := 13) Try.func63 rfl rfl (Nat.le_of_ble_eq_true rfl) rfl rfl (fun a g0 hst hb => ?_)
  refine r_s (L := [(0, _), (1, _)]) (T := [⟨[], _, [], [], [4]⟩]) (F := [.old 0, .old 1]) hst hb follows
    (o_p rfl (ob_assign rfl rfl c_b) <|
     o_n) (by kernel_rfl) (fun a g hst hb => ?_)
  obtain ⟨r1, h2, H0⟩ := of_bind H0; obtain ⟨r3, h4, H0⟩ := of_bind H0
  refine r_s (L := [(0, _), (1, _)]) (T := [⟨[.old 0], _, [], [], [5]⟩, ⟨[.op 0 0], _, [], [0], [6]⟩, ⟨[.op 1 0], _, [], [0, 1], [7]⟩, ⟨[.old 1], _, [], [], [8]⟩, ⟨[.op 3 0], _, [], [0, 1, 3], [9]⟩, ⟨[.op 4 0], _, [], [0, 1, 3, 4], [10]⟩, ⟨[.op 5 0], _, [], [0, 1, 3, 4, 5], [11]⟩, ⟨[.op 2 0, .op 6 0], _, [], List.range 7, [12]⟩, ⟨[.op 7 0], _, [], List.range 8, [4]⟩]) (F := [.op 8 0]) hst hb follows
    (o_p rfl (ob_move rfl rfl u_0) <|
     o_p rfl (ob_call en_33 (shelf_node_count_ok _ h2) rfl rfl (.cons u_0 .nil)) <|
     o_p rfl (ob_add rfl rfl u_0 c_i rfl) <|
     o_p rfl (ob_move rfl rfl u_0) <|
     o_p rfl (ob_call en_33 (shelf_node_count_ok _ h4) rfl rfl (.cons u_0 .nil)) <|
     o_p rfl (ob_add rfl rfl u_0 c_i rfl) <|
     o_p rfl (ob_mul rfl rfl c_i u_0 rfl) <|
     o_p rfl (ob_gt rfl rfl u_0 u_1) <|
     o_p rfl (ob_assign rfl rfl u_0) <|
     o_n) (by kernel_rfl) (fun a g hst hb => ?_)
  refine wp_ret ?_
  obtain rfl := Option.some.inj H0
  exact endR1 rfl hst hb (res_tmp (s := 4)) (hst.at 0 rfl)
end Go.CL
