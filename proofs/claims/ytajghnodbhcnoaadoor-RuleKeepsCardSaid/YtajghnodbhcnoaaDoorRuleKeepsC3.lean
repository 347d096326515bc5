/- A part of the proof of RuleKeeps. -/
import Derived.Test.YtajghnodbhcnoaaDoorRuleKeepsC2
import Derived.Test.YtajghnodbhcnoaaDoorProg
set_option linter.unusedVariables false
set_option linter.unusedSimpArgs false
set_option maxRecDepth 100000
namespace Go.CL
open Go Go.RowKit Go.Proofs
theorem follows : Tryd.prog.follows .mixedOrders = true := by kernel_rfl
theorem len_1 {α : Type} {l : List α} (h : l.length = 1) : ∃ u0, l = [u0] := by
  match l, h with
  | [u0], _ => exact ⟨u0, rfl⟩
theorem len_2 {α : Type} {l : List α} (h : l.length = 2) : ∃ u0 u1, l = [u0, u1] := by
  match l, h with
  | [u0, u1], _ => exact ⟨u0, u1, rfl⟩
theorem len_8 {α : Type} {l : List α} (h : l.length = 8) : ∃ u0 u1 u2 u3 u4 u5 u6 u7, l = [u0, u1, u2, u3, u4, u5, u6, u7] := by
  match l, h with
  | [u0, u1, u2, u3, u4, u5, u6, u7], _ => exact ⟨u0, u1, u2, u3, u4, u5, u6, u7, rfl⟩
def fs_api_Item : List (Kd.FK api_Item) := [⟨_, Kd.flt, 0, fun x : api_Item => x.Score⟩,
  ⟨_, Kd.str, 1, fun x : api_Item => x.Name⟩]
def k_api_Item : Kd api_Item := Kd.struct 2 fs_api_Item (by rfl)
theorem zk_api_Item : ∀ g, k_api_Item.K g (default : api_Item) [.float .f64 0, .string ByteArray.empty] := fun g => ⟨rfl, (List.forall_mem_cons.2 ⟨(rfl), (List.forall_mem_cons.2 ⟨(rfl), (fun _ h => by cases h)⟩)⟩)⟩
def fs_api_Record : List (Kd.FK api_Record) := [⟨_, (Kd.int .i64), 0, fun x : api_Record => x.Kind⟩,
  ⟨_, (Kd.int .i64), 1, fun x : api_Record => x.Num⟩,
  ⟨_, (Kd.int .i64), 2, fun x : api_Record => x.Low⟩,
  ⟨_, (Kd.int .i64), 3, fun x : api_Record => x.High⟩,
  ⟨_, Kd.flt, 4, fun x : api_Record => x.Real⟩,
  ⟨_, (Kd.int .i64), 5, fun x : api_Record => x.Cap⟩,
  ⟨_, Kd.str, 6, fun x : api_Record => x.Text⟩,
  ⟨_, k_api_Item.sl, 7, fun x : api_Record => x.List⟩]
def k_api_Record : Kd api_Record := Kd.struct 8 fs_api_Record (by rfl)
theorem zk_api_Record : ∀ g, k_api_Record.K g (default : api_Record) [.int .i64 0, .int .i64 0, .int .i64 0, .int .i64 0, .float .f64 0, .int .i64 0, .string ByteArray.empty, .slice none 0 0] := fun g => ⟨rfl, (List.forall_mem_cons.2 ⟨(rfl), (List.forall_mem_cons.2 ⟨(rfl), (List.forall_mem_cons.2 ⟨(rfl), (List.forall_mem_cons.2 ⟨(rfl), (List.forall_mem_cons.2 ⟨(rfl), (List.forall_mem_cons.2 ⟨(rfl), (List.forall_mem_cons.2 ⟨(rfl), (List.forall_mem_cons.2 ⟨(⟨none, 0, rfl, Nat.le_refl _, Nat.zero_le _, .inl rfl⟩), (fun _ h => by cases h)⟩)⟩)⟩)⟩)⟩)⟩)⟩)⟩)⟩
def fs_rec_shape : List (Kd.FK rec_shape) := [⟨_, Kd.bool, 0, fun x : rec_shape => x.text⟩,
  ⟨_, Kd.bool, 1, fun x : rec_shape => x.num⟩,
  ⟨_, Kd.bool, 2, fun x : rec_shape => x.bounds⟩,
  ⟨_, Kd.bool, 3, fun x : rec_shape => x.real⟩,
  ⟨_, Kd.bool, 4, fun x : rec_shape => x.list⟩]
def k_rec_shape : Kd rec_shape := Kd.struct 5 fs_rec_shape (by rfl)
theorem zk_rec_shape : ∀ g, k_rec_shape.K g (default : rec_shape) [.bool false, .bool false, .bool false, .bool false, .bool false] := fun g => ⟨rfl, (List.forall_mem_cons.2 ⟨(rfl), (List.forall_mem_cons.2 ⟨(rfl), (List.forall_mem_cons.2 ⟨(rfl), (List.forall_mem_cons.2 ⟨(rfl), (List.forall_mem_cons.2 ⟨(rfl), (fun _ h => by cases h)⟩)⟩)⟩)⟩)⟩)⟩
def fs_act_kind : List (Kd.FK act_kind) := [⟨_, Kd.str, 0, fun x : act_kind => x.word⟩,
  ⟨_, (Kd.int .i64), 1, fun x : act_kind => x.on⟩,
  ⟨_, Kd.str, 2, fun x : act_kind => x.has⟩]
def k_act_kind : Kd act_kind := Kd.struct 3 fs_act_kind (by rfl)
theorem zk_act_kind : ∀ g, k_act_kind.K g (default : act_kind) [.string ByteArray.empty, .int .i64 0, .string ByteArray.empty] := fun g => ⟨rfl, (List.forall_mem_cons.2 ⟨(rfl), (List.forall_mem_cons.2 ⟨(rfl), (List.forall_mem_cons.2 ⟨(rfl), (fun _ h => by cases h)⟩)⟩)⟩)⟩
def fs_api_Act : List (Kd.FK api_Act) := [⟨_, (Kd.int .i64), 0, fun x : api_Act => x.Kind⟩,
  ⟨_, Kd.str, 1, fun x : api_Act => x.Key⟩,
  ⟨_, (Kd.int .i64), 2, fun x : api_Act => x.N⟩,
  ⟨_, Kd.flt, 3, fun x : api_Act => x.X⟩,
  ⟨_, Kd.str, 4, fun x : api_Act => x.S⟩,
  ⟨_, k_api_Record, 5, fun x : api_Act => x.Make⟩,
  ⟨_, Kd.bool, 13, fun x : api_Act => x.Must⟩]
def k_api_Act : Kd api_Act := Kd.struct 14 fs_api_Act (by rfl)
theorem zk_api_Act : ∀ g, k_api_Act.K g (default : api_Act) [.int .i64 0, .string ByteArray.empty, .int .i64 0, .float .f64 0, .string ByteArray.empty, .int .i64 0, .int .i64 0, .int .i64 0, .int .i64 0, .float .f64 0, .int .i64 0, .string ByteArray.empty, .slice none 0 0, .bool false] := fun g => ⟨rfl, (List.forall_mem_cons.2 ⟨(rfl), (List.forall_mem_cons.2 ⟨(rfl), (List.forall_mem_cons.2 ⟨(rfl), (List.forall_mem_cons.2 ⟨(rfl), (List.forall_mem_cons.2 ⟨(rfl), (List.forall_mem_cons.2 ⟨(zk_api_Record _), (List.forall_mem_cons.2 ⟨(rfl), (fun _ h => by cases h)⟩)⟩)⟩)⟩)⟩)⟩)⟩)⟩
def fs_api_Answer : List (Kd.FK api_Answer) := [⟨_, (Kd.int .i64), 0, fun x : api_Answer => x.Code⟩,
  ⟨_, (Kd.int .i64), 1, fun x : api_Answer => x.Num⟩,
  ⟨_, k_api_Record, 2, fun x : api_Answer => x.Rec⟩]
def k_api_Answer : Kd api_Answer := Kd.struct 10 fs_api_Answer (by rfl)
theorem zk_api_Answer : ∀ g, k_api_Answer.K g (default : api_Answer) [.int .i64 0, .int .i64 0, .int .i64 0, .int .i64 0, .int .i64 0, .int .i64 0, .float .f64 0, .int .i64 0, .string ByteArray.empty, .slice none 0 0] := fun g => ⟨rfl, (List.forall_mem_cons.2 ⟨(rfl), (List.forall_mem_cons.2 ⟨(rfl), (List.forall_mem_cons.2 ⟨(zk_api_Record _), (fun _ h => by cases h)⟩)⟩)⟩)⟩
def genc_0 : act_kind → List Value := fun x => [.string x.word, .int .i64 x.on, .string x.has]
theorem gm_0 : (0, g_0.flatMap genc_0) ∈ GL := List.mem_of_getElem? (i := 0) rfl
theorem gk_0 : ∀ g, (Kd.arr 22 k_act_kind).K g g_0 (g_0.flatMap genc_0) := fun g => arr_K (dk := k_act_kind) (enc := genc_0) (fun g x => ⟨rfl, (List.forall_mem_cons.2 ⟨rfl, (List.forall_mem_cons.2 ⟨rfl, (List.forall_mem_cons.2 ⟨rfl, (fun _ h => by cases h)⟩)⟩)⟩)⟩) g g_0
theorem te_23 : TE Tryd.prog 23 48 k_api_Item 24 := TE.of Tryd.underlying23 (by kernel_rfl) (by decide) (by decide)
theorem fl_25_7 : Fld Tryd.prog 25 7 k_api_Record k_api_Item.sl (fun x : api_Record => x.List) := Fld.of ⟨_, k_api_Item.sl, 7, fun x : api_Record => x.List⟩ (List.mem_of_getElem? (i := 7) rfl) 7 rfl (by kernel_rfl) (by decide)
theorem ty_23 : Ty Tryd.prog 23 k_api_Item.sl := ⟨by kernel_rfl, by kernel_rfl⟩
theorem en_41 : Enters Tryd.prog 41 := by
  unfold Enters
  kernel_rfl
theorem wi_25_7 {c : Option Nat} {N j s : Nat} {o : Oper} {uses : Slots} {x z : Operand} {v : api_Record} {y0 y : List api_Item} {v0 : api_Record} {t : Nat} (hT : Ty Tryd.prog t k_api_Item.sl) (hop : o.op = .store t x z) (hd : o.dst = none) (hs : Opd uses (.tmp s) (pBoxC c k_api_Record j v)) (hx : Opd uses x (pPart k_api_Record j v0 7 k_api_Item.sl y0)) (hz : Opd uses z (k_api_Item.sl.pd y)) : OB Tryd.prog N o uses [(s, pBoxC c k_api_Record j { v with List := y })] [j + 1] :=
  ob_storeP hT hop hd hs hx hz fun g cs ys hk hy => by
    have hc : cs.length = 8 := hk.1
    have hl : ys.length = 1 := k_api_Item.sl.len hy
    exact ⟨by omega, (splice_length (by omega)).trans hc, (List.forall_mem_cons.2 ⟨(by show (Kd.int .i64).K g v.Kind (seg (splice cs 7 ys) 0 1); rw [seg_splice_ne (by omega) (by omega)]; exact hk.2 _ (List.mem_of_getElem? (i := 0) rfl)), (List.forall_mem_cons.2 ⟨(by show (Kd.int .i64).K g v.Num (seg (splice cs 7 ys) 1 1); rw [seg_splice_ne (by omega) (by omega)]; exact hk.2 _ (List.mem_of_getElem? (i := 1) rfl)), (List.forall_mem_cons.2 ⟨(by show (Kd.int .i64).K g v.Low (seg (splice cs 7 ys) 2 1); rw [seg_splice_ne (by omega) (by omega)]; exact hk.2 _ (List.mem_of_getElem? (i := 2) rfl)), (List.forall_mem_cons.2 ⟨(by show (Kd.int .i64).K g v.High (seg (splice cs 7 ys) 3 1); rw [seg_splice_ne (by omega) (by omega)]; exact hk.2 _ (List.mem_of_getElem? (i := 3) rfl)), (List.forall_mem_cons.2 ⟨(by show Kd.flt.K g v.Real (seg (splice cs 7 ys) 4 1); rw [seg_splice_ne (by omega) (by omega)]; exact hk.2 _ (List.mem_of_getElem? (i := 4) rfl)), (List.forall_mem_cons.2 ⟨(by show (Kd.int .i64).K g v.Cap (seg (splice cs 7 ys) 5 1); rw [seg_splice_ne (by omega) (by omega)]; exact hk.2 _ (List.mem_of_getElem? (i := 5) rfl)), (List.forall_mem_cons.2 ⟨(by show Kd.str.K g v.Text (seg (splice cs 7 ys) 6 1); rw [seg_splice_ne (by omega) (by omega)]; exact hk.2 _ (List.mem_of_getElem? (i := 6) rfl)), (List.forall_mem_cons.2 ⟨(by show k_api_Item.sl.K g y (seg (splice cs 7 ys) 7 1); rw [seg_splice_same (by omega) hl]; exact hy), (fun _ h => by cases h)⟩)⟩)⟩)⟩)⟩)⟩)⟩)⟩)⟩
theorem ty_25 : Ty Tryd.prog 25 k_api_Record := ⟨by kernel_rfl, by kernel_rfl⟩
theorem bd_72_0 {N d : Nat} {o : Oper} {uses : Slots} {x0 : Operand} {v0 : Bool} (hop : o.op = .build 72 #[(0, x0)]) (hd : o.dst = some d) (h0 : Opd uses x0 (Kd.bool.pd v0)) : OB Tryd.prog N o uses [(d, k_rec_shape.pd { text := v0, num := false, bounds := false, real := false, list := false })] [] := by
  refine ob_build hop hd fun a g hh => ?_
  obtain ⟨c0, k0, e0⟩ := h0 a g hh
  obtain rfl := k0
  refine ⟨.agg #[.bool v0, .bool false, .bool false, .bool false, .bool false], ?_, [.bool v0, .bool false, .bool false, .bool false, .bool false], ⟨rfl, (List.forall_mem_cons.2 ⟨rfl, (List.forall_mem_cons.2 ⟨(rfl), (List.forall_mem_cons.2 ⟨(rfl), (List.forall_mem_cons.2 ⟨(rfl), (List.forall_mem_cons.2 ⟨(rfl), (fun _ h => by cases h)⟩)⟩)⟩)⟩)⟩)⟩, rfl⟩
  simp only [List.map_toArray, List.map_cons, List.map_nil, e0]
  exact run_build Tryd.underlying72 (zero := .agg #[.bool false, .bool false, .bool false, .bool false, .bool false]) (by kernel_rfl) (places := [(0, 1), (1, 1), (2, 1), (3, 1), (4, 1)]) (by kernel_rfl) (by kernel_rfl) g.w
theorem ty_72 : Ty Tryd.prog 72 k_rec_shape := ⟨by kernel_rfl, by kernel_rfl⟩
theorem bd_72_1 {N d : Nat} {o : Oper} {uses : Slots} {x1 : Operand} {v1 : Bool} (hop : o.op = .build 72 #[(1, x1)]) (hd : o.dst = some d) (h1 : Opd uses x1 (Kd.bool.pd v1)) : OB Tryd.prog N o uses [(d, k_rec_shape.pd { text := false, num := v1, bounds := false, real := false, list := false })] [] := by
  refine ob_build hop hd fun a g hh => ?_
  obtain ⟨c1, k1, e1⟩ := h1 a g hh
  obtain rfl := k1
  refine ⟨.agg #[.bool false, .bool v1, .bool false, .bool false, .bool false], ?_, [.bool false, .bool v1, .bool false, .bool false, .bool false], ⟨rfl, (List.forall_mem_cons.2 ⟨(rfl), (List.forall_mem_cons.2 ⟨rfl, (List.forall_mem_cons.2 ⟨(rfl), (List.forall_mem_cons.2 ⟨(rfl), (List.forall_mem_cons.2 ⟨(rfl), (fun _ h => by cases h)⟩)⟩)⟩)⟩)⟩)⟩, rfl⟩
  simp only [List.map_toArray, List.map_cons, List.map_nil, e1]
  exact run_build Tryd.underlying72 (zero := .agg #[.bool false, .bool false, .bool false, .bool false, .bool false]) (by kernel_rfl) (places := [(0, 1), (1, 1), (2, 1), (3, 1), (4, 1)]) (by kernel_rfl) (by kernel_rfl) g.w
theorem bd_72_1_2 {N d : Nat} {o : Oper} {uses : Slots} {x1 : Operand} {x2 : Operand} {v1 : Bool} {v2 : Bool} (hop : o.op = .build 72 #[(1, x1), (2, x2)]) (hd : o.dst = some d) (h1 : Opd uses x1 (Kd.bool.pd v1)) (h2 : Opd uses x2 (Kd.bool.pd v2)) : OB Tryd.prog N o uses [(d, k_rec_shape.pd { text := false, num := v1, bounds := v2, real := false, list := false })] [] := by
  refine ob_build hop hd fun a g hh => ?_
  obtain ⟨c1, k1, e1⟩ := h1 a g hh
  obtain rfl := k1
  obtain ⟨c2, k2, e2⟩ := h2 a g hh
  obtain rfl := k2
  refine ⟨.agg #[.bool false, .bool v1, .bool v2, .bool false, .bool false], ?_, [.bool false, .bool v1, .bool v2, .bool false, .bool false], ⟨rfl, (List.forall_mem_cons.2 ⟨(rfl), (List.forall_mem_cons.2 ⟨rfl, (List.forall_mem_cons.2 ⟨rfl, (List.forall_mem_cons.2 ⟨(rfl), (List.forall_mem_cons.2 ⟨(rfl), (fun _ h => by cases h)⟩)⟩)⟩)⟩)⟩)⟩, rfl⟩
  simp only [List.map_toArray, List.map_cons, List.map_nil, e1, e2]
  exact run_build Tryd.underlying72 (zero := .agg #[.bool false, .bool false, .bool false, .bool false, .bool false]) (by kernel_rfl) (places := [(0, 1), (1, 1), (2, 1), (3, 1), (4, 1)]) (by kernel_rfl) (by kernel_rfl) g.w
theorem bd_72_3 {N d : Nat} {o : Oper} {uses : Slots} {x3 : Operand} {v3 : Bool} (hop : o.op = .build 72 #[(3, x3)]) (hd : o.dst = some d) (h3 : Opd uses x3 (Kd.bool.pd v3)) : OB Tryd.prog N o uses [(d, k_rec_shape.pd { text := false, num := false, bounds := false, real := v3, list := false })] [] := by
  refine ob_build hop hd fun a g hh => ?_
  obtain ⟨c3, k3, e3⟩ := h3 a g hh
  obtain rfl := k3
  refine ⟨.agg #[.bool false, .bool false, .bool false, .bool v3, .bool false], ?_, [.bool false, .bool false, .bool false, .bool v3, .bool false], ⟨rfl, (List.forall_mem_cons.2 ⟨(rfl), (List.forall_mem_cons.2 ⟨(rfl), (List.forall_mem_cons.2 ⟨(rfl), (List.forall_mem_cons.2 ⟨rfl, (List.forall_mem_cons.2 ⟨(rfl), (fun _ h => by cases h)⟩)⟩)⟩)⟩)⟩)⟩, rfl⟩
  simp only [List.map_toArray, List.map_cons, List.map_nil, e3]
  exact run_build Tryd.underlying72 (zero := .agg #[.bool false, .bool false, .bool false, .bool false, .bool false]) (by kernel_rfl) (places := [(0, 1), (1, 1), (2, 1), (3, 1), (4, 1)]) (by kernel_rfl) (by kernel_rfl) g.w
theorem bd_72_4 {N d : Nat} {o : Oper} {uses : Slots} {x4 : Operand} {v4 : Bool} (hop : o.op = .build 72 #[(4, x4)]) (hd : o.dst = some d) (h4 : Opd uses x4 (Kd.bool.pd v4)) : OB Tryd.prog N o uses [(d, k_rec_shape.pd { text := false, num := false, bounds := false, real := false, list := v4 })] [] := by
  refine ob_build hop hd fun a g hh => ?_
  obtain ⟨c4, k4, e4⟩ := h4 a g hh
  obtain rfl := k4
  refine ⟨.agg #[.bool false, .bool false, .bool false, .bool false, .bool v4], ?_, [.bool false, .bool false, .bool false, .bool false, .bool v4], ⟨rfl, (List.forall_mem_cons.2 ⟨(rfl), (List.forall_mem_cons.2 ⟨(rfl), (List.forall_mem_cons.2 ⟨(rfl), (List.forall_mem_cons.2 ⟨(rfl), (List.forall_mem_cons.2 ⟨rfl, (fun _ h => by cases h)⟩)⟩)⟩)⟩)⟩)⟩, rfl⟩
  simp only [List.map_toArray, List.map_cons, List.map_nil, e4]
  exact run_build Tryd.underlying72 (zero := .agg #[.bool false, .bool false, .bool false, .bool false, .bool false]) (by kernel_rfl) (places := [(0, 1), (1, 1), (2, 1), (3, 1), (4, 1)]) (by kernel_rfl) (by kernel_rfl) g.w
theorem bd_72_ {N d : Nat} {o : Oper} {uses : Slots}   (hop : o.op = .build 72 #[]) (hd : o.dst = some d)  : OB Tryd.prog N o uses [(d, k_rec_shape.pd { text := false, num := false, bounds := false, real := false, list := false })] [] := by
  refine ob_build hop hd fun a g hh => ?_

  refine ⟨.agg #[.bool false, .bool false, .bool false, .bool false, .bool false], ?_, [.bool false, .bool false, .bool false, .bool false, .bool false], ⟨rfl, (List.forall_mem_cons.2 ⟨(rfl), (List.forall_mem_cons.2 ⟨(rfl), (List.forall_mem_cons.2 ⟨(rfl), (List.forall_mem_cons.2 ⟨(rfl), (List.forall_mem_cons.2 ⟨(rfl), (fun _ h => by cases h)⟩)⟩)⟩)⟩)⟩)⟩, rfl⟩
  simp only [List.map_toArray, List.map_cons, List.map_nil, List.map_nil]
  exact run_build Tryd.underlying72 (zero := .agg #[.bool false, .bool false, .bool false, .bool false, .bool false]) (by kernel_rfl) (places := [(0, 1), (1, 1), (2, 1), (3, 1), (4, 1)]) (by kernel_rfl) (by kernel_rfl) g.w
theorem ex_90 : Ext Tryd.prog 90 Extern.MathFloatBits.float64frombits := ⟨_, Tryd.func90, rfl, rfl, by kernel_rfl, by kernel_rfl⟩
theorem en_92 : Enters Tryd.prog 92 := by
  unfold Enters
  kernel_rfl
theorem en_82 : Enters Tryd.prog 82 := by
  unfold Enters
  kernel_rfl
theorem ex_79 : Ext Tryd.prog 79 Extern.MathFloatBits.float64bits := ⟨_, Tryd.func79, rfl, rfl, by kernel_rfl, by kernel_rfl⟩
theorem en_76 : Enters Tryd.prog 76 := by
  unfold Enters
  kernel_rfl
theorem fl_72_0 : Fld Tryd.prog 72 0 k_rec_shape Kd.bool (fun x : rec_shape => x.text) := Fld.of ⟨_, Kd.bool, 0, fun x : rec_shape => x.text⟩ (List.mem_of_getElem? (i := 0) rfl) 0 rfl (by kernel_rfl) (by decide)
theorem ty_4 : Ty Tryd.prog 4 Kd.bool := ⟨by kernel_rfl, by kernel_rfl⟩
theorem fl_25_6 : Fld Tryd.prog 25 6 k_api_Record Kd.str (fun x : api_Record => x.Text) := Fld.of ⟨_, Kd.str, 6, fun x : api_Record => x.Text⟩ (List.mem_of_getElem? (i := 6) rfl) 6 rfl (by kernel_rfl) (by decide)
theorem ty_9 : Ty Tryd.prog 9 Kd.str := ⟨by kernel_rfl, by kernel_rfl⟩
theorem fl_72_1 : Fld Tryd.prog 72 1 k_rec_shape Kd.bool (fun x : rec_shape => x.num) := Fld.of ⟨_, Kd.bool, 1, fun x : rec_shape => x.num⟩ (List.mem_of_getElem? (i := 1) rfl) 1 rfl (by kernel_rfl) (by decide)
theorem fl_25_1 : Fld Tryd.prog 25 1 k_api_Record (Kd.int .i64) (fun x : api_Record => x.Num) := Fld.of ⟨_, (Kd.int .i64), 1, fun x : api_Record => x.Num⟩ (List.mem_of_getElem? (i := 1) rfl) 1 rfl (by kernel_rfl) (by decide)
theorem ty_2 : Ty Tryd.prog 2 (Kd.int .i64) := ⟨by kernel_rfl, by kernel_rfl⟩
theorem fl_72_2 : Fld Tryd.prog 72 2 k_rec_shape Kd.bool (fun x : rec_shape => x.bounds) := Fld.of ⟨_, Kd.bool, 2, fun x : rec_shape => x.bounds⟩ (List.mem_of_getElem? (i := 2) rfl) 2 rfl (by kernel_rfl) (by decide)
theorem fl_25_2 : Fld Tryd.prog 25 2 k_api_Record (Kd.int .i64) (fun x : api_Record => x.Low) := Fld.of ⟨_, (Kd.int .i64), 2, fun x : api_Record => x.Low⟩ (List.mem_of_getElem? (i := 2) rfl) 2 rfl (by kernel_rfl) (by decide)
theorem fl_25_3 : Fld Tryd.prog 25 3 k_api_Record (Kd.int .i64) (fun x : api_Record => x.High) := Fld.of ⟨_, (Kd.int .i64), 3, fun x : api_Record => x.High⟩ (List.mem_of_getElem? (i := 3) rfl) 3 rfl (by kernel_rfl) (by decide)
theorem fl_72_3 : Fld Tryd.prog 72 3 k_rec_shape Kd.bool (fun x : rec_shape => x.real) := Fld.of ⟨_, Kd.bool, 3, fun x : rec_shape => x.real⟩ (List.mem_of_getElem? (i := 3) rfl) 3 rfl (by kernel_rfl) (by decide)
theorem fl_25_4 : Fld Tryd.prog 25 4 k_api_Record Kd.flt (fun x : api_Record => x.Real) := Fld.of ⟨_, Kd.flt, 4, fun x : api_Record => x.Real⟩ (List.mem_of_getElem? (i := 4) rfl) 4 rfl (by kernel_rfl) (by decide)
theorem ty_22 : Ty Tryd.prog 22 Kd.flt := ⟨by kernel_rfl, by kernel_rfl⟩
theorem en_33 : Enters Tryd.prog 33 := by
  unfold Enters
  kernel_rfl
theorem fl_72_4 : Fld Tryd.prog 72 4 k_rec_shape Kd.bool (fun x : rec_shape => x.list) := Fld.of ⟨_, Kd.bool, 4, fun x : rec_shape => x.list⟩ (List.mem_of_getElem? (i := 4) rfl) 4 rfl (by kernel_rfl) (by decide)
theorem fl_25_5 : Fld Tryd.prog 25 5 k_api_Record (Kd.int .i64) (fun x : api_Record => x.Cap) := Fld.of ⟨_, (Kd.int .i64), 5, fun x : api_Record => x.Cap⟩ (List.mem_of_getElem? (i := 5) rfl) 5 rfl (by kernel_rfl) (by decide)
theorem ty_3 : Ty Tryd.prog 3 (Kd.int .i64) := ⟨by kernel_rfl, by kernel_rfl⟩
theorem fl_48_0 : Fld Tryd.prog 48 0 k_api_Item Kd.flt (fun x : api_Item => x.Score) := Fld.of ⟨_, Kd.flt, 0, fun x : api_Item => x.Score⟩ (List.mem_of_getElem? (i := 0) rfl) 0 rfl (by kernel_rfl) (by decide)
theorem en_86 : Enters Tryd.prog 86 := by
  unfold Enters
  kernel_rfl
theorem fl_48_1 : Fld Tryd.prog 48 1 k_api_Item Kd.str (fun x : api_Item => x.Name) := Fld.of ⟨_, Kd.str, 1, fun x : api_Item => x.Name⟩ (List.mem_of_getElem? (i := 1) rfl) 1 rfl (by kernel_rfl) (by decide)
theorem sz_48 : (Tryd.prog.info? 48).map (·.size) = some k_api_Item.sz := by kernel_rfl
theorem ty_48 : Ty Tryd.prog 48 k_api_Item := ⟨by kernel_rfl, by kernel_rfl⟩
theorem en_44 : Enters Tryd.prog 44 := by
  unfold Enters
  kernel_rfl
theorem en_83 : Enters Tryd.prog 83 := by
  unfold Enters
  kernel_rfl
theorem fl_25_0 : Fld Tryd.prog 25 0 k_api_Record (Kd.int .i64) (fun x : api_Record => x.Kind) := Fld.of ⟨_, (Kd.int .i64), 0, fun x : api_Record => x.Kind⟩ (List.mem_of_getElem? (i := 0) rfl) 0 rfl (by kernel_rfl) (by decide)
theorem en_42 : Enters Tryd.prog 42 := by
  unfold Enters
  kernel_rfl
theorem en_43 : Enters Tryd.prog 43 := by
  unfold Enters
  kernel_rfl
theorem en_45 : Enters Tryd.prog 45 := by
  unfold Enters
  kernel_rfl
theorem bd_77_ {N d : Nat} {o : Oper} {uses : Slots}   (hop : o.op = .build 77 #[]) (hd : o.dst = some d)  : OB Tryd.prog N o uses [(d, k_act_kind.pd { word := ByteArray.empty, on := (0 : Int), has := ByteArray.empty })] [] := by
  refine ob_build hop hd fun a g hh => ?_

  refine ⟨.agg #[.string ByteArray.empty, .int .i64 0, .string ByteArray.empty], ?_, [.string ByteArray.empty, .int .i64 0, .string ByteArray.empty], ⟨rfl, (List.forall_mem_cons.2 ⟨(rfl), (List.forall_mem_cons.2 ⟨(rfl), (List.forall_mem_cons.2 ⟨(rfl), (fun _ h => by cases h)⟩)⟩)⟩)⟩, rfl⟩
  simp only [List.map_toArray, List.map_cons, List.map_nil, List.map_nil]
  exact run_build Tryd.underlying77 (zero := .agg #[.string ByteArray.empty, .int .i64 0, .string ByteArray.empty]) (by kernel_rfl) (places := [(0, 1), (1, 1), (2, 1)]) (by kernel_rfl) (by kernel_rfl) g.w
theorem ty_77 : Ty Tryd.prog 77 k_act_kind := ⟨by kernel_rfl, by kernel_rfl⟩
theorem sz_77 : (Tryd.prog.info? 77).map (·.size) = some k_act_kind.sz := by kernel_rfl
theorem en_35 : Enters Tryd.prog 35 := by
  unfold Enters
  kernel_rfl
theorem en_34 : Enters Tryd.prog 34 := by
  unfold Enters
  kernel_rfl
theorem fl_77_2 : Fld Tryd.prog 77 2 k_act_kind Kd.str (fun x : act_kind => x.has) := Fld.of ⟨_, Kd.str, 2, fun x : act_kind => x.has⟩ (List.mem_of_getElem? (i := 2) rfl) 2 rfl (by kernel_rfl) (by decide)
theorem en_84 : Enters Tryd.prog 84 := by
  unfold Enters
  kernel_rfl
theorem fl_27_2 : Fld Tryd.prog 27 2 k_api_Act (Kd.int .i64) (fun x : api_Act => x.N) := Fld.of ⟨_, (Kd.int .i64), 2, fun x : api_Act => x.N⟩ (List.mem_of_getElem? (i := 2) rfl) 2 rfl (by kernel_rfl) (by decide)
theorem fl_27_3 : Fld Tryd.prog 27 3 k_api_Act Kd.flt (fun x : api_Act => x.X) := Fld.of ⟨_, Kd.flt, 3, fun x : api_Act => x.X⟩ (List.mem_of_getElem? (i := 3) rfl) 3 rfl (by kernel_rfl) (by decide)
theorem fl_27_4 : Fld Tryd.prog 27 4 k_api_Act Kd.str (fun x : api_Act => x.S) := Fld.of ⟨_, Kd.str, 4, fun x : api_Act => x.S⟩ (List.mem_of_getElem? (i := 4) rfl) 4 rfl (by kernel_rfl) (by decide)
theorem fl_27_5 : Fld Tryd.prog 27 5 k_api_Act k_api_Record (fun x : api_Act => x.Make) := Fld.of ⟨_, k_api_Record, 5, fun x : api_Act => x.Make⟩ (List.mem_of_getElem? (i := 5) rfl) 5 rfl (by kernel_rfl) (by decide)
theorem bd_25_ {N d : Nat} {o : Oper} {uses : Slots}   (hop : o.op = .build 25 #[]) (hd : o.dst = some d)  : OB Tryd.prog N o uses [(d, k_api_Record.pd { Kind := (0 : Int), Num := (0 : Int), Low := (0 : Int), High := (0 : Int), Real := (0 : Nat), Cap := (0 : Int), Text := ByteArray.empty, List := ([] : List api_Item) })] [] := by
  refine ob_build hop hd fun a g hh => ?_

  refine ⟨.agg #[.int .i64 0, .int .i64 0, .int .i64 0, .int .i64 0, .float .f64 0, .int .i64 0, .string ByteArray.empty, .slice none 0 0], ?_, [.int .i64 0, .int .i64 0, .int .i64 0, .int .i64 0, .float .f64 0, .int .i64 0, .string ByteArray.empty, .slice none 0 0], ⟨rfl, (List.forall_mem_cons.2 ⟨(rfl), (List.forall_mem_cons.2 ⟨(rfl), (List.forall_mem_cons.2 ⟨(rfl), (List.forall_mem_cons.2 ⟨(rfl), (List.forall_mem_cons.2 ⟨(rfl), (List.forall_mem_cons.2 ⟨(rfl), (List.forall_mem_cons.2 ⟨(rfl), (List.forall_mem_cons.2 ⟨(⟨none, 0, rfl, Nat.le_refl _, Nat.zero_le _, .inl rfl⟩), (fun _ h => by cases h)⟩)⟩)⟩)⟩)⟩)⟩)⟩)⟩)⟩, rfl⟩
  simp only [List.map_toArray, List.map_cons, List.map_nil, List.map_nil]
  exact run_build Tryd.underlying25 (zero := .agg #[.int .i64 0, .int .i64 0, .int .i64 0, .int .i64 0, .float .f64 0, .int .i64 0, .string ByteArray.empty, .slice none 0 0]) (by kernel_rfl) (places := [(0, 1), (1, 1), (2, 1), (3, 1), (4, 1), (5, 1), (6, 1), (7, 1)]) (by kernel_rfl) (by kernel_rfl) g.w
theorem en_17 : Enters Tryd.prog 17 := by
  unfold Enters
  kernel_rfl
theorem fl_77_1 : Fld Tryd.prog 77 1 k_act_kind (Kd.int .i64) (fun x : act_kind => x.on) := Fld.of ⟨_, (Kd.int .i64), 1, fun x : act_kind => x.on⟩ (List.mem_of_getElem? (i := 1) rfl) 1 rfl (by kernel_rfl) (by decide)
theorem fl_27_0 : Fld Tryd.prog 27 0 k_api_Act (Kd.int .i64) (fun x : api_Act => x.Kind) := Fld.of ⟨_, (Kd.int .i64), 0, fun x : api_Act => x.Kind⟩ (List.mem_of_getElem? (i := 0) rfl) 0 rfl (by kernel_rfl) (by decide)
theorem en_46 : Enters Tryd.prog 46 := by
  unfold Enters
  kernel_rfl
theorem fl_77_0 : Fld Tryd.prog 77 0 k_act_kind Kd.str (fun x : act_kind => x.word) := Fld.of ⟨_, Kd.str, 0, fun x : act_kind => x.word⟩ (List.mem_of_getElem? (i := 0) rfl) 0 rfl (by kernel_rfl) (by decide)
theorem fl_27_1 : Fld Tryd.prog 27 1 k_api_Act Kd.str (fun x : api_Act => x.Key) := Fld.of ⟨_, Kd.str, 1, fun x : api_Act => x.Key⟩ (List.mem_of_getElem? (i := 1) rfl) 1 rfl (by kernel_rfl) (by decide)
theorem ty_27 : Ty Tryd.prog 27 k_api_Act := ⟨by kernel_rfl, by kernel_rfl⟩
theorem en_47 : Enters Tryd.prog 47 := by
  unfold Enters
  kernel_rfl
theorem en_48 : Enters Tryd.prog 48 := by
  unfold Enters
  kernel_rfl
theorem en_21 : Enters Tryd.prog 21 := by
  unfold Enters
  kernel_rfl
theorem wi_25_6 {c : Option Nat} {N j s : Nat} {o : Oper} {uses : Slots} {x z : Operand} {v : api_Record} {y0 y : ByteArray} {v0 : api_Record} {t : Nat} (hT : Ty Tryd.prog t Kd.str) (hop : o.op = .store t x z) (hd : o.dst = none) (hs : Opd uses (.tmp s) (pBoxC c k_api_Record j v)) (hx : Opd uses x (pPart k_api_Record j v0 6 Kd.str y0)) (hz : Opd uses z (Kd.str.pd y)) : OB Tryd.prog N o uses [(s, pBoxC c k_api_Record j { v with Text := y })] [j + 1] :=
  ob_storeP hT hop hd hs hx hz fun g cs ys hk hy => by
    have hc : cs.length = 8 := hk.1
    have hl : ys.length = 1 := Kd.str.len hy
    exact ⟨by omega, (splice_length (by omega)).trans hc, (List.forall_mem_cons.2 ⟨(by show (Kd.int .i64).K g v.Kind (seg (splice cs 6 ys) 0 1); rw [seg_splice_ne (by omega) (by omega)]; exact hk.2 _ (List.mem_of_getElem? (i := 0) rfl)), (List.forall_mem_cons.2 ⟨(by show (Kd.int .i64).K g v.Num (seg (splice cs 6 ys) 1 1); rw [seg_splice_ne (by omega) (by omega)]; exact hk.2 _ (List.mem_of_getElem? (i := 1) rfl)), (List.forall_mem_cons.2 ⟨(by show (Kd.int .i64).K g v.Low (seg (splice cs 6 ys) 2 1); rw [seg_splice_ne (by omega) (by omega)]; exact hk.2 _ (List.mem_of_getElem? (i := 2) rfl)), (List.forall_mem_cons.2 ⟨(by show (Kd.int .i64).K g v.High (seg (splice cs 6 ys) 3 1); rw [seg_splice_ne (by omega) (by omega)]; exact hk.2 _ (List.mem_of_getElem? (i := 3) rfl)), (List.forall_mem_cons.2 ⟨(by show Kd.flt.K g v.Real (seg (splice cs 6 ys) 4 1); rw [seg_splice_ne (by omega) (by omega)]; exact hk.2 _ (List.mem_of_getElem? (i := 4) rfl)), (List.forall_mem_cons.2 ⟨(by show (Kd.int .i64).K g v.Cap (seg (splice cs 6 ys) 5 1); rw [seg_splice_ne (by omega) (by omega)]; exact hk.2 _ (List.mem_of_getElem? (i := 5) rfl)), (List.forall_mem_cons.2 ⟨(by show Kd.str.K g y (seg (splice cs 6 ys) 6 1); rw [seg_splice_same (by omega) hl]; exact hy), (List.forall_mem_cons.2 ⟨(by show k_api_Item.sl.K g v.List (seg (splice cs 6 ys) 7 1); rw [seg_splice_ne (by omega) (by omega)]; exact hk.2 _ (List.mem_of_getElem? (i := 7) rfl)), (fun _ h => by cases h)⟩)⟩)⟩)⟩)⟩)⟩)⟩)⟩)⟩
theorem en_20 : Enters Tryd.prog 20 := by
  unfold Enters
  kernel_rfl
theorem fl_32_2 : Fld Tryd.prog 32 2 k_api_Answer k_api_Record (fun x : api_Answer => x.Rec) := Fld.of ⟨_, k_api_Record, 2, fun x : api_Answer => x.Rec⟩ (List.mem_of_getElem? (i := 2) rfl) 2 rfl (by kernel_rfl) (by decide)
theorem wi_32_2 {c : Option Nat} {N j s : Nat} {o : Oper} {uses : Slots} {x z : Operand} {v : api_Answer} {y0 y : api_Record} {v0 : api_Answer} {t : Nat} (hT : Ty Tryd.prog t k_api_Record) (hop : o.op = .store t x z) (hd : o.dst = none) (hs : Opd uses (.tmp s) (pBoxC c k_api_Answer j v)) (hx : Opd uses x (pPart k_api_Answer j v0 2 k_api_Record y0)) (hz : Opd uses z (k_api_Record.pd y)) : OB Tryd.prog N o uses [(s, pBoxC c k_api_Answer j { v with Rec := y })] [j + 1] :=
  ob_storeP hT hop hd hs hx hz fun g cs ys hk hy => by
    have hc : cs.length = 10 := hk.1
    have hl : ys.length = 8 := k_api_Record.len hy
    exact ⟨by omega, (splice_length (by omega)).trans hc, (List.forall_mem_cons.2 ⟨(by show (Kd.int .i64).K g v.Code (seg (splice cs 2 ys) 0 1); rw [seg_splice_ne (by omega) (by omega)]; exact hk.2 _ (List.mem_of_getElem? (i := 0) rfl)), (List.forall_mem_cons.2 ⟨(by show (Kd.int .i64).K g v.Num (seg (splice cs 2 ys) 1 1); rw [seg_splice_ne (by omega) (by omega)]; exact hk.2 _ (List.mem_of_getElem? (i := 1) rfl)), (List.forall_mem_cons.2 ⟨(by show k_api_Record.K g y (seg (splice cs 2 ys) 2 8); rw [seg_splice_same (by omega) hl]; exact hy), (fun _ h => by cases h)⟩)⟩)⟩)⟩
theorem wi_25_1 {c : Option Nat} {N j s : Nat} {o : Oper} {uses : Slots} {x z : Operand} {v : api_Record} {y0 y : Int} {v0 : api_Record} {t : Nat} (hT : Ty Tryd.prog t (Kd.int .i64)) (hop : o.op = .store t x z) (hd : o.dst = none) (hs : Opd uses (.tmp s) (pBoxC c k_api_Record j v)) (hx : Opd uses x (pPart k_api_Record j v0 1 (Kd.int .i64) y0)) (hz : Opd uses z ((Kd.int .i64).pd y)) : OB Tryd.prog N o uses [(s, pBoxC c k_api_Record j { v with Num := y })] [j + 1] :=
  ob_storeP hT hop hd hs hx hz fun g cs ys hk hy => by
    have hc : cs.length = 8 := hk.1
    have hl : ys.length = 1 := (Kd.int .i64).len hy
    exact ⟨by omega, (splice_length (by omega)).trans hc, (List.forall_mem_cons.2 ⟨(by show (Kd.int .i64).K g v.Kind (seg (splice cs 1 ys) 0 1); rw [seg_splice_ne (by omega) (by omega)]; exact hk.2 _ (List.mem_of_getElem? (i := 0) rfl)), (List.forall_mem_cons.2 ⟨(by show (Kd.int .i64).K g y (seg (splice cs 1 ys) 1 1); rw [seg_splice_same (by omega) hl]; exact hy), (List.forall_mem_cons.2 ⟨(by show (Kd.int .i64).K g v.Low (seg (splice cs 1 ys) 2 1); rw [seg_splice_ne (by omega) (by omega)]; exact hk.2 _ (List.mem_of_getElem? (i := 2) rfl)), (List.forall_mem_cons.2 ⟨(by show (Kd.int .i64).K g v.High (seg (splice cs 1 ys) 3 1); rw [seg_splice_ne (by omega) (by omega)]; exact hk.2 _ (List.mem_of_getElem? (i := 3) rfl)), (List.forall_mem_cons.2 ⟨(by show Kd.flt.K g v.Real (seg (splice cs 1 ys) 4 1); rw [seg_splice_ne (by omega) (by omega)]; exact hk.2 _ (List.mem_of_getElem? (i := 4) rfl)), (List.forall_mem_cons.2 ⟨(by show (Kd.int .i64).K g v.Cap (seg (splice cs 1 ys) 5 1); rw [seg_splice_ne (by omega) (by omega)]; exact hk.2 _ (List.mem_of_getElem? (i := 5) rfl)), (List.forall_mem_cons.2 ⟨(by show Kd.str.K g v.Text (seg (splice cs 1 ys) 6 1); rw [seg_splice_ne (by omega) (by omega)]; exact hk.2 _ (List.mem_of_getElem? (i := 6) rfl)), (List.forall_mem_cons.2 ⟨(by show k_api_Item.sl.K g v.List (seg (splice cs 1 ys) 7 1); rw [seg_splice_ne (by omega) (by omega)]; exact hk.2 _ (List.mem_of_getElem? (i := 7) rfl)), (fun _ h => by cases h)⟩)⟩)⟩)⟩)⟩)⟩)⟩)⟩)⟩
theorem wi_25_4 {c : Option Nat} {N j s : Nat} {o : Oper} {uses : Slots} {x z : Operand} {v : api_Record} {y0 y : Nat} {v0 : api_Record} {t : Nat} (hT : Ty Tryd.prog t Kd.flt) (hop : o.op = .store t x z) (hd : o.dst = none) (hs : Opd uses (.tmp s) (pBoxC c k_api_Record j v)) (hx : Opd uses x (pPart k_api_Record j v0 4 Kd.flt y0)) (hz : Opd uses z (Kd.flt.pd y)) : OB Tryd.prog N o uses [(s, pBoxC c k_api_Record j { v with Real := y })] [j + 1] :=
  ob_storeP hT hop hd hs hx hz fun g cs ys hk hy => by
    have hc : cs.length = 8 := hk.1
    have hl : ys.length = 1 := Kd.flt.len hy
    exact ⟨by omega, (splice_length (by omega)).trans hc, (List.forall_mem_cons.2 ⟨(by show (Kd.int .i64).K g v.Kind (seg (splice cs 4 ys) 0 1); rw [seg_splice_ne (by omega) (by omega)]; exact hk.2 _ (List.mem_of_getElem? (i := 0) rfl)), (List.forall_mem_cons.2 ⟨(by show (Kd.int .i64).K g v.Num (seg (splice cs 4 ys) 1 1); rw [seg_splice_ne (by omega) (by omega)]; exact hk.2 _ (List.mem_of_getElem? (i := 1) rfl)), (List.forall_mem_cons.2 ⟨(by show (Kd.int .i64).K g v.Low (seg (splice cs 4 ys) 2 1); rw [seg_splice_ne (by omega) (by omega)]; exact hk.2 _ (List.mem_of_getElem? (i := 2) rfl)), (List.forall_mem_cons.2 ⟨(by show (Kd.int .i64).K g v.High (seg (splice cs 4 ys) 3 1); rw [seg_splice_ne (by omega) (by omega)]; exact hk.2 _ (List.mem_of_getElem? (i := 3) rfl)), (List.forall_mem_cons.2 ⟨(by show Kd.flt.K g y (seg (splice cs 4 ys) 4 1); rw [seg_splice_same (by omega) hl]; exact hy), (List.forall_mem_cons.2 ⟨(by show (Kd.int .i64).K g v.Cap (seg (splice cs 4 ys) 5 1); rw [seg_splice_ne (by omega) (by omega)]; exact hk.2 _ (List.mem_of_getElem? (i := 5) rfl)), (List.forall_mem_cons.2 ⟨(by show Kd.str.K g v.Text (seg (splice cs 4 ys) 6 1); rw [seg_splice_ne (by omega) (by omega)]; exact hk.2 _ (List.mem_of_getElem? (i := 6) rfl)), (List.forall_mem_cons.2 ⟨(by show k_api_Item.sl.K g v.List (seg (splice cs 4 ys) 7 1); rw [seg_splice_ne (by omega) (by omega)]; exact hk.2 _ (List.mem_of_getElem? (i := 7) rfl)), (fun _ h => by cases h)⟩)⟩)⟩)⟩)⟩)⟩)⟩)⟩)⟩
theorem en_85 : Enters Tryd.prog 85 := by
  unfold Enters
  kernel_rfl
theorem ty_f82 : Ty Tryd.prog 82 Kd.fnc := ⟨by kernel_rfl, by kernel_rfl⟩
theorem en_89 : Enters Tryd.prog 89 := by
  unfold Enters
  kernel_rfl
theorem en_88 : Enters Tryd.prog 88 := by
  unfold Enters
  kernel_rfl
theorem ov_93 : Ext Tryd.prog 93 (Extern.SlicesOverlaps.overlaps #[23, 23] #[4]) := ⟨_, Tryd.func93, rfl, rfl, by kernel_rfl, by kernel_rfl⟩
theorem en_64 : Enters Tryd.prog 64 := by
  unfold Enters
  kernel_rfl
theorem bd_48_1 {N d : Nat} {o : Oper} {uses : Slots} {x1 : Operand} {v1 : ByteArray} (hop : o.op = .build 48 #[(1, x1)]) (hd : o.dst = some d) (h1 : Opd uses x1 (Kd.str.pd v1)) : OB Tryd.prog N o uses [(d, k_api_Item.pd { Score := (0 : Nat), Name := v1 })] [] := by
  refine ob_build hop hd fun a g hh => ?_
  obtain ⟨c1, k1, e1⟩ := h1 a g hh
  obtain rfl := k1
  refine ⟨.agg #[.float .f64 0, .string v1], ?_, [.float .f64 0, .string v1], ⟨rfl, (List.forall_mem_cons.2 ⟨(rfl), (List.forall_mem_cons.2 ⟨rfl, (fun _ h => by cases h)⟩)⟩)⟩, rfl⟩
  simp only [List.map_toArray, List.map_cons, List.map_nil, e1]
  exact run_build Tryd.underlying48 (zero := .agg #[.float .f64 0, .string ByteArray.empty]) (by kernel_rfl) (places := [(0, 1), (1, 1)]) (by kernel_rfl) (by kernel_rfl) g.w
theorem en_87 : Enters Tryd.prog 87 := by
  unfold Enters
  kernel_rfl
theorem en_65 : Enters Tryd.prog 65 := by
  unfold Enters
  kernel_rfl
theorem bd_48_0_1 {N d : Nat} {o : Oper} {uses : Slots} {x0 : Operand} {x1 : Operand} {v0 : Nat} {v1 : ByteArray} (hop : o.op = .build 48 #[(0, x0), (1, x1)]) (hd : o.dst = some d) (h0 : Opd uses x0 (Kd.flt.pd v0)) (h1 : Opd uses x1 (Kd.str.pd v1)) : OB Tryd.prog N o uses [(d, k_api_Item.pd { Score := v0, Name := v1 })] [] := by
  refine ob_build hop hd fun a g hh => ?_
  obtain ⟨c0, k0, e0⟩ := h0 a g hh
  obtain rfl := k0
  obtain ⟨c1, k1, e1⟩ := h1 a g hh
  obtain rfl := k1
  refine ⟨.agg #[.float .f64 v0, .string v1], ?_, [.float .f64 v0, .string v1], ⟨rfl, (List.forall_mem_cons.2 ⟨rfl, (List.forall_mem_cons.2 ⟨rfl, (fun _ h => by cases h)⟩)⟩)⟩, rfl⟩
  simp only [List.map_toArray, List.map_cons, List.map_nil, e0, e1]
  exact run_build Tryd.underlying48 (zero := .agg #[.float .f64 0, .string ByteArray.empty]) (by kernel_rfl) (places := [(0, 1), (1, 1)]) (by kernel_rfl) (by kernel_rfl) g.w
theorem en_49 : Enters Tryd.prog 49 := by
  unfold Enters
  kernel_rfl
theorem en_50 : Enters Tryd.prog 50 := by
  unfold Enters
  kernel_rfl
theorem en_51 : Enters Tryd.prog 51 := by
  unfold Enters
  kernel_rfl
theorem en_52 : Enters Tryd.prog 52 := by
  unfold Enters
  kernel_rfl
theorem en_53 : Enters Tryd.prog 53 := by
  unfold Enters
  kernel_rfl
theorem en_54 : Enters Tryd.prog 54 := by
  unfold Enters
  kernel_rfl
theorem en_55 : Enters Tryd.prog 55 := by
  unfold Enters
  kernel_rfl
theorem en_57 : Enters Tryd.prog 57 := by
  unfold Enters
  kernel_rfl
theorem en_58 : Enters Tryd.prog 58 := by
  unfold Enters
  kernel_rfl
theorem en_59 : Enters Tryd.prog 59 := by
  unfold Enters
  kernel_rfl
theorem en_60 : Enters Tryd.prog 60 := by
  unfold Enters
  kernel_rfl
theorem en_61 : Enters Tryd.prog 61 := by
  unfold Enters
  kernel_rfl
theorem en_62 : Enters Tryd.prog 62 := by
  unfold Enters
  kernel_rfl
theorem en_63 : Enters Tryd.prog 63 := by
  unfold Enters
  kernel_rfl
theorem en_66 : Enters Tryd.prog 66 := by
  unfold Enters
  kernel_rfl
theorem en_67 : Enters Tryd.prog 67 := by
  unfold Enters
  kernel_rfl
theorem en_56 : Enters Tryd.prog 56 := by
  unfold Enters
  kernel_rfl
theorem bd_32_0 {N d : Nat} {o : Oper} {uses : Slots} {x0 : Operand} {v0 : Int} (hop : o.op = .build 32 #[(0, x0)]) (hd : o.dst = some d) (h0 : Opd uses x0 ((Kd.int .i64).pd v0)) : OB Tryd.prog N o uses [(d, k_api_Answer.pd { Code := v0, Num := (0 : Int), Rec := (default : api_Record) })] [] := by
  refine ob_build hop hd fun a g hh => ?_
  obtain ⟨c0, k0, e0⟩ := h0 a g hh
  obtain rfl := k0
  refine ⟨.agg #[.int .i64 v0, .int .i64 0, .int .i64 0, .int .i64 0, .int .i64 0, .int .i64 0, .float .f64 0, .int .i64 0, .string ByteArray.empty, .slice none 0 0], ?_, [.int .i64 v0, .int .i64 0, .int .i64 0, .int .i64 0, .int .i64 0, .int .i64 0, .float .f64 0, .int .i64 0, .string ByteArray.empty, .slice none 0 0], ⟨rfl, (List.forall_mem_cons.2 ⟨rfl, (List.forall_mem_cons.2 ⟨(rfl), (List.forall_mem_cons.2 ⟨(zk_api_Record _), (fun _ h => by cases h)⟩)⟩)⟩)⟩, rfl⟩
  simp only [List.map_toArray, List.map_cons, List.map_nil, e0]
  exact run_build Tryd.underlying32 (zero := .agg #[.int .i64 0, .int .i64 0, .int .i64 0, .int .i64 0, .int .i64 0, .int .i64 0, .float .f64 0, .int .i64 0, .string ByteArray.empty, .slice none 0 0]) (by kernel_rfl) (places := [(0, 1), (1, 1), (2, 8)]) (by kernel_rfl) (by kernel_rfl) g.w
theorem ty_32 : Ty Tryd.prog 32 k_api_Answer := ⟨by kernel_rfl, by kernel_rfl⟩
theorem en_26 : Enters Tryd.prog 26 := by
  unfold Enters
  kernel_rfl
theorem en_25 : Enters Tryd.prog 25 := by
  unfold Enters
  kernel_rfl
theorem bd_32_ {N d : Nat} {o : Oper} {uses : Slots}   (hop : o.op = .build 32 #[]) (hd : o.dst = some d)  : OB Tryd.prog N o uses [(d, k_api_Answer.pd { Code := (0 : Int), Num := (0 : Int), Rec := (default : api_Record) })] [] := by
  refine ob_build hop hd fun a g hh => ?_

  refine ⟨.agg #[.int .i64 0, .int .i64 0, .int .i64 0, .int .i64 0, .int .i64 0, .int .i64 0, .float .f64 0, .int .i64 0, .string ByteArray.empty, .slice none 0 0], ?_, [.int .i64 0, .int .i64 0, .int .i64 0, .int .i64 0, .int .i64 0, .int .i64 0, .float .f64 0, .int .i64 0, .string ByteArray.empty, .slice none 0 0], ⟨rfl, (List.forall_mem_cons.2 ⟨(rfl), (List.forall_mem_cons.2 ⟨(rfl), (List.forall_mem_cons.2 ⟨(zk_api_Record _), (fun _ h => by cases h)⟩)⟩)⟩)⟩, rfl⟩
  simp only [List.map_toArray, List.map_cons, List.map_nil, List.map_nil]
  exact run_build Tryd.underlying32 (zero := .agg #[.int .i64 0, .int .i64 0, .int .i64 0, .int .i64 0, .int .i64 0, .int .i64 0, .float .f64 0, .int .i64 0, .string ByteArray.empty, .slice none 0 0]) (by kernel_rfl) (places := [(0, 1), (1, 1), (2, 8)]) (by kernel_rfl) (by kernel_rfl) g.w
theorem bd_32_1 {N d : Nat} {o : Oper} {uses : Slots} {x1 : Operand} {v1 : Int} (hop : o.op = .build 32 #[(1, x1)]) (hd : o.dst = some d) (h1 : Opd uses x1 ((Kd.int .i64).pd v1)) : OB Tryd.prog N o uses [(d, k_api_Answer.pd { Code := (0 : Int), Num := v1, Rec := (default : api_Record) })] [] := by
  refine ob_build hop hd fun a g hh => ?_
  obtain ⟨c1, k1, e1⟩ := h1 a g hh
  obtain rfl := k1
  refine ⟨.agg #[.int .i64 0, .int .i64 v1, .int .i64 0, .int .i64 0, .int .i64 0, .int .i64 0, .float .f64 0, .int .i64 0, .string ByteArray.empty, .slice none 0 0], ?_, [.int .i64 0, .int .i64 v1, .int .i64 0, .int .i64 0, .int .i64 0, .int .i64 0, .float .f64 0, .int .i64 0, .string ByteArray.empty, .slice none 0 0], ⟨rfl, (List.forall_mem_cons.2 ⟨(rfl), (List.forall_mem_cons.2 ⟨rfl, (List.forall_mem_cons.2 ⟨(zk_api_Record _), (fun _ h => by cases h)⟩)⟩)⟩)⟩, rfl⟩
  simp only [List.map_toArray, List.map_cons, List.map_nil, e1]
  exact run_build Tryd.underlying32 (zero := .agg #[.int .i64 0, .int .i64 0, .int .i64 0, .int .i64 0, .int .i64 0, .int .i64 0, .float .f64 0, .int .i64 0, .string ByteArray.empty, .slice none 0 0]) (by kernel_rfl) (places := [(0, 1), (1, 1), (2, 8)]) (by kernel_rfl) (by kernel_rfl) g.w
theorem bd_32_2 {N d : Nat} {o : Oper} {uses : Slots} {x2 : Operand} {v2 : api_Record} (hop : o.op = .build 32 #[(2, x2)]) (hd : o.dst = some d) (h2 : Opd uses x2 (k_api_Record.pd v2)) : OB Tryd.prog N o uses [(d, k_api_Answer.pd { Code := (0 : Int), Num := (0 : Int), Rec := v2 })] [] := by
  refine ob_build hop hd fun a g hh => ?_
  obtain ⟨c2, k2, e2⟩ := h2 a g hh
  obtain ⟨u2_0, u2_1, u2_2, u2_3, u2_4, u2_5, u2_6, u2_7, rfl⟩ := len_8 (k_api_Record.len k2)
  refine ⟨.agg #[.int .i64 0, .int .i64 0, u2_0, u2_1, u2_2, u2_3, u2_4, u2_5, u2_6, u2_7], ?_, [.int .i64 0, .int .i64 0, u2_0, u2_1, u2_2, u2_3, u2_4, u2_5, u2_6, u2_7], ⟨rfl, (List.forall_mem_cons.2 ⟨(rfl), (List.forall_mem_cons.2 ⟨(rfl), (List.forall_mem_cons.2 ⟨k2, (fun _ h => by cases h)⟩)⟩)⟩)⟩, rfl⟩
  simp only [List.map_toArray, List.map_cons, List.map_nil, e2]
  exact run_build Tryd.underlying32 (zero := .agg #[.int .i64 0, .int .i64 0, .int .i64 0, .int .i64 0, .int .i64 0, .int .i64 0, .float .f64 0, .int .i64 0, .string ByteArray.empty, .slice none 0 0]) (by kernel_rfl) (places := [(0, 1), (1, 1), (2, 8)]) (by kernel_rfl) (by kernel_rfl) g.w
theorem en_27 : Enters Tryd.prog 27 := by
  unfold Enters
  kernel_rfl
theorem en_28 : Enters Tryd.prog 28 := by
  unfold Enters
  kernel_rfl
theorem fl_32_0 : Fld Tryd.prog 32 0 k_api_Answer (Kd.int .i64) (fun x : api_Answer => x.Code) := Fld.of ⟨_, (Kd.int .i64), 0, fun x : api_Answer => x.Code⟩ (List.mem_of_getElem? (i := 0) rfl) 0 rfl (by kernel_rfl) (by decide)
theorem ty_30 : Ty Tryd.prog 30 (Kd.int .i64) := ⟨by kernel_rfl, by kernel_rfl⟩
theorem fl_32_1 : Fld Tryd.prog 32 1 k_api_Answer (Kd.int .i64) (fun x : api_Answer => x.Num) := Fld.of ⟨_, (Kd.int .i64), 1, fun x : api_Answer => x.Num⟩ (List.mem_of_getElem? (i := 1) rfl) 1 rfl (by kernel_rfl) (by decide)
theorem sz_27 : (Tryd.prog.info? 27).map (·.size) = some k_api_Act.sz := by kernel_rfl
theorem en_11 : Enters Tryd.prog 11 := by
  unfold Enters
  kernel_rfl
theorem te_39 : TE Tryd.prog 39 32 k_api_Answer 104 := TE.of Tryd.underlying39 (by kernel_rfl) (by decide) (by decide)
theorem bd_25_0_3_1 {N d : Nat} {o : Oper} {uses : Slots} {x0 : Operand} {x3 : Operand} {x1 : Operand} {v0 : Int} {v3 : Int} {v1 : Int} (hop : o.op = .build 25 #[(0, x0), (3, x3), (1, x1)]) (hd : o.dst = some d) (h0 : Opd uses x0 ((Kd.int .i64).pd v0)) (h3 : Opd uses x3 ((Kd.int .i64).pd v3)) (h1 : Opd uses x1 ((Kd.int .i64).pd v1)) : OB Tryd.prog N o uses [(d, k_api_Record.pd { Kind := v0, Num := v1, Low := (0 : Int), High := v3, Real := (0 : Nat), Cap := (0 : Int), Text := ByteArray.empty, List := ([] : List api_Item) })] [] := by
  refine ob_build hop hd fun a g hh => ?_
  obtain ⟨c0, k0, e0⟩ := h0 a g hh
  obtain rfl := k0
  obtain ⟨c1, k1, e1⟩ := h1 a g hh
  obtain rfl := k1
  obtain ⟨c3, k3, e3⟩ := h3 a g hh
  obtain rfl := k3
  refine ⟨.agg #[.int .i64 v0, .int .i64 v1, .int .i64 0, .int .i64 v3, .float .f64 0, .int .i64 0, .string ByteArray.empty, .slice none 0 0], ?_, [.int .i64 v0, .int .i64 v1, .int .i64 0, .int .i64 v3, .float .f64 0, .int .i64 0, .string ByteArray.empty, .slice none 0 0], ⟨rfl, (List.forall_mem_cons.2 ⟨rfl, (List.forall_mem_cons.2 ⟨rfl, (List.forall_mem_cons.2 ⟨(rfl), (List.forall_mem_cons.2 ⟨rfl, (List.forall_mem_cons.2 ⟨(rfl), (List.forall_mem_cons.2 ⟨(rfl), (List.forall_mem_cons.2 ⟨(rfl), (List.forall_mem_cons.2 ⟨(⟨none, 0, rfl, Nat.le_refl _, Nat.zero_le _, .inl rfl⟩), (fun _ h => by cases h)⟩)⟩)⟩)⟩)⟩)⟩)⟩)⟩)⟩, rfl⟩
  simp only [List.map_toArray, List.map_cons, List.map_nil, e0, e3, e1]
  exact run_build Tryd.underlying25 (zero := .agg #[.int .i64 0, .int .i64 0, .int .i64 0, .int .i64 0, .float .f64 0, .int .i64 0, .string ByteArray.empty, .slice none 0 0]) (by kernel_rfl) (places := [(0, 1), (1, 1), (2, 1), (3, 1), (4, 1), (5, 1), (6, 1), (7, 1)]) (by kernel_rfl) (by kernel_rfl) g.w
theorem bd_27_0_1_2 {N d : Nat} {o : Oper} {uses : Slots} {x0 : Operand} {x1 : Operand} {x2 : Operand} {v0 : Int} {v1 : ByteArray} {v2 : Int} (hop : o.op = .build 27 #[(0, x0), (1, x1), (2, x2)]) (hd : o.dst = some d) (h0 : Opd uses x0 ((Kd.int .i64).pd v0)) (h1 : Opd uses x1 (Kd.str.pd v1)) (h2 : Opd uses x2 ((Kd.int .i64).pd v2)) : OB Tryd.prog N o uses [(d, k_api_Act.pd { Kind := v0, Key := v1, N := v2, X := (0 : Nat), S := ByteArray.empty, Make := (default : api_Record), Must := false })] [] := by
  refine ob_build hop hd fun a g hh => ?_
  obtain ⟨c0, k0, e0⟩ := h0 a g hh
  obtain rfl := k0
  obtain ⟨c1, k1, e1⟩ := h1 a g hh
  obtain rfl := k1
  obtain ⟨c2, k2, e2⟩ := h2 a g hh
  obtain rfl := k2
  refine ⟨.agg #[.int .i64 v0, .string v1, .int .i64 v2, .float .f64 0, .string ByteArray.empty, .int .i64 0, .int .i64 0, .int .i64 0, .int .i64 0, .float .f64 0, .int .i64 0, .string ByteArray.empty, .slice none 0 0, .bool false], ?_, [.int .i64 v0, .string v1, .int .i64 v2, .float .f64 0, .string ByteArray.empty, .int .i64 0, .int .i64 0, .int .i64 0, .int .i64 0, .float .f64 0, .int .i64 0, .string ByteArray.empty, .slice none 0 0, .bool false], ⟨rfl, (List.forall_mem_cons.2 ⟨rfl, (List.forall_mem_cons.2 ⟨rfl, (List.forall_mem_cons.2 ⟨rfl, (List.forall_mem_cons.2 ⟨(rfl), (List.forall_mem_cons.2 ⟨(rfl), (List.forall_mem_cons.2 ⟨(zk_api_Record _), (List.forall_mem_cons.2 ⟨(rfl), (fun _ h => by cases h)⟩)⟩)⟩)⟩)⟩)⟩)⟩)⟩, rfl⟩
  simp only [List.map_toArray, List.map_cons, List.map_nil, e0, e1, e2]
  exact run_build Tryd.underlying27 (zero := .agg #[.int .i64 0, .string ByteArray.empty, .int .i64 0, .float .f64 0, .string ByteArray.empty, .int .i64 0, .int .i64 0, .int .i64 0, .int .i64 0, .float .f64 0, .int .i64 0, .string ByteArray.empty, .slice none 0 0, .bool false]) (by kernel_rfl) (places := [(0, 1), (1, 1), (2, 1), (3, 1), (4, 1), (5, 8), (13, 1)]) (by kernel_rfl) (by kernel_rfl) g.w
theorem bd_25_0_1 {N d : Nat} {o : Oper} {uses : Slots} {x0 : Operand} {x1 : Operand} {v0 : Int} {v1 : Int} (hop : o.op = .build 25 #[(0, x0), (1, x1)]) (hd : o.dst = some d) (h0 : Opd uses x0 ((Kd.int .i64).pd v0)) (h1 : Opd uses x1 ((Kd.int .i64).pd v1)) : OB Tryd.prog N o uses [(d, k_api_Record.pd { Kind := v0, Num := v1, Low := (0 : Int), High := (0 : Int), Real := (0 : Nat), Cap := (0 : Int), Text := ByteArray.empty, List := ([] : List api_Item) })] [] := by
  refine ob_build hop hd fun a g hh => ?_
  obtain ⟨c0, k0, e0⟩ := h0 a g hh
  obtain rfl := k0
  obtain ⟨c1, k1, e1⟩ := h1 a g hh
  obtain rfl := k1
  refine ⟨.agg #[.int .i64 v0, .int .i64 v1, .int .i64 0, .int .i64 0, .float .f64 0, .int .i64 0, .string ByteArray.empty, .slice none 0 0], ?_, [.int .i64 v0, .int .i64 v1, .int .i64 0, .int .i64 0, .float .f64 0, .int .i64 0, .string ByteArray.empty, .slice none 0 0], ⟨rfl, (List.forall_mem_cons.2 ⟨rfl, (List.forall_mem_cons.2 ⟨rfl, (List.forall_mem_cons.2 ⟨(rfl), (List.forall_mem_cons.2 ⟨(rfl), (List.forall_mem_cons.2 ⟨(rfl), (List.forall_mem_cons.2 ⟨(rfl), (List.forall_mem_cons.2 ⟨(rfl), (List.forall_mem_cons.2 ⟨(⟨none, 0, rfl, Nat.le_refl _, Nat.zero_le _, .inl rfl⟩), (fun _ h => by cases h)⟩)⟩)⟩)⟩)⟩)⟩)⟩)⟩)⟩, rfl⟩
  simp only [List.map_toArray, List.map_cons, List.map_nil, e0, e1]
  exact run_build Tryd.underlying25 (zero := .agg #[.int .i64 0, .int .i64 0, .int .i64 0, .int .i64 0, .float .f64 0, .int .i64 0, .string ByteArray.empty, .slice none 0 0]) (by kernel_rfl) (places := [(0, 1), (1, 1), (2, 1), (3, 1), (4, 1), (5, 1), (6, 1), (7, 1)]) (by kernel_rfl) (by kernel_rfl) g.w
theorem bd_27_0_1_5 {N d : Nat} {o : Oper} {uses : Slots} {x0 : Operand} {x1 : Operand} {x5 : Operand} {v0 : Int} {v1 : ByteArray} {v5 : api_Record} (hop : o.op = .build 27 #[(0, x0), (1, x1), (5, x5)]) (hd : o.dst = some d) (h0 : Opd uses x0 ((Kd.int .i64).pd v0)) (h1 : Opd uses x1 (Kd.str.pd v1)) (h5 : Opd uses x5 (k_api_Record.pd v5)) : OB Tryd.prog N o uses [(d, k_api_Act.pd { Kind := v0, Key := v1, N := (0 : Int), X := (0 : Nat), S := ByteArray.empty, Make := v5, Must := false })] [] := by
  refine ob_build hop hd fun a g hh => ?_
  obtain ⟨c0, k0, e0⟩ := h0 a g hh
  obtain rfl := k0
  obtain ⟨c1, k1, e1⟩ := h1 a g hh
  obtain rfl := k1
  obtain ⟨c5, k5, e5⟩ := h5 a g hh
  obtain ⟨u5_0, u5_1, u5_2, u5_3, u5_4, u5_5, u5_6, u5_7, rfl⟩ := len_8 (k_api_Record.len k5)
  refine ⟨.agg #[.int .i64 v0, .string v1, .int .i64 0, .float .f64 0, .string ByteArray.empty, u5_0, u5_1, u5_2, u5_3, u5_4, u5_5, u5_6, u5_7, .bool false], ?_, [.int .i64 v0, .string v1, .int .i64 0, .float .f64 0, .string ByteArray.empty, u5_0, u5_1, u5_2, u5_3, u5_4, u5_5, u5_6, u5_7, .bool false], ⟨rfl, (List.forall_mem_cons.2 ⟨rfl, (List.forall_mem_cons.2 ⟨rfl, (List.forall_mem_cons.2 ⟨(rfl), (List.forall_mem_cons.2 ⟨(rfl), (List.forall_mem_cons.2 ⟨(rfl), (List.forall_mem_cons.2 ⟨k5, (List.forall_mem_cons.2 ⟨(rfl), (fun _ h => by cases h)⟩)⟩)⟩)⟩)⟩)⟩)⟩)⟩, rfl⟩
  simp only [List.map_toArray, List.map_cons, List.map_nil, e0, e1, e5]
  exact run_build Tryd.underlying27 (zero := .agg #[.int .i64 0, .string ByteArray.empty, .int .i64 0, .float .f64 0, .string ByteArray.empty, .int .i64 0, .int .i64 0, .int .i64 0, .int .i64 0, .float .f64 0, .int .i64 0, .string ByteArray.empty, .slice none 0 0, .bool false]) (by kernel_rfl) (places := [(0, 1), (1, 1), (2, 1), (3, 1), (4, 1), (5, 8), (13, 1)]) (by kernel_rfl) (by kernel_rfl) g.w
theorem te_38 : TE Tryd.prog 38 27 k_api_Act 152 := TE.of Tryd.underlying38 (by kernel_rfl) (by decide) (by decide)
theorem en_16 : Enters Tryd.prog 16 := by
  unfold Enters
  kernel_rfl
theorem sz_32 : (Tryd.prog.info? 32).map (·.size) = some k_api_Answer.sz := by kernel_rfl
theorem en_15 : Enters Tryd.prog 15 := by
  unfold Enters
  kernel_rfl
theorem en_23 : Enters Tryd.prog 23 := by
  unfold Enters
  kernel_rfl
theorem en_24 : Enters Tryd.prog 24 := by
  unfold Enters
  kernel_rfl
theorem en_78 : Enters Tryd.prog 78 := by
  unfold Enters
  kernel_rfl
theorem en_91 : Enters Tryd.prog 91 := by
  unfold Enters
  kernel_rfl
theorem en_75 : Enters Tryd.prog 75 := by
  unfold Enters
  kernel_rfl
theorem en_32 : Enters Tryd.prog 32 := by
  unfold Enters
  kernel_rfl
theorem en_77 : Enters Tryd.prog 77 := by
  unfold Enters
  kernel_rfl
theorem te_93 : TE Tryd.prog 93 9 Kd.str 16 := TE.of Tryd.underlying93 (by kernel_rfl) (by decide) (by decide)
theorem sz_9 : (Tryd.prog.info? 9).map (·.size) = some Kd.str.sz := by kernel_rfl
theorem en_38 : Enters Tryd.prog 38 := by
  unfold Enters
  kernel_rfl
theorem en_80 : Enters Tryd.prog 80 := by
  unfold Enters
  kernel_rfl
theorem en_37 : Enters Tryd.prog 37 := by
  unfold Enters
  kernel_rfl
theorem en_36 : Enters Tryd.prog 36 := by
  unfold Enters
  kernel_rfl
theorem en_39 : Enters Tryd.prog 39 := by
  unfold Enters
  kernel_rfl
theorem te_86 : TE Tryd.prog 86 3 (Kd.int .i64) 8 := TE.of Tryd.underlying86 (by kernel_rfl) (by decide) (by decide)
theorem sz_3 : (Tryd.prog.info? 3).map (·.size) = some (Kd.int .i64).sz := by kernel_rfl
theorem en_81 : Enters Tryd.prog 81 := by
  unfold Enters
  kernel_rfl
theorem en_40 : Enters Tryd.prog 40 := by
  unfold Enters
  kernel_rfl
theorem en_13 : Enters Tryd.prog 13 := by
  unfold Enters
  kernel_rfl
theorem en_30 : Enters Tryd.prog 30 := by
  unfold Enters
  kernel_rfl
theorem en_18 : Enters Tryd.prog 18 := by
  unfold Enters
  kernel_rfl
theorem en_29 : Enters Tryd.prog 29 := by
  unfold Enters
  kernel_rfl
theorem en_68 : Enters Tryd.prog 68 := by
  unfold Enters
  kernel_rfl
theorem wi_32_0 {c : Option Nat} {N j s : Nat} {o : Oper} {uses : Slots} {x z : Operand} {v : api_Answer} {y0 y : Int} {v0 : api_Answer} {t : Nat} (hT : Ty Tryd.prog t (Kd.int .i64)) (hop : o.op = .store t x z) (hd : o.dst = none) (hs : Opd uses (.tmp s) (pBoxC c k_api_Answer j v)) (hx : Opd uses x (pPart k_api_Answer j v0 0 (Kd.int .i64) y0)) (hz : Opd uses z ((Kd.int .i64).pd y)) : OB Tryd.prog N o uses [(s, pBoxC c k_api_Answer j { v with Code := y })] [j + 1] :=
  ob_storeP hT hop hd hs hx hz fun g cs ys hk hy => by
    have hc : cs.length = 10 := hk.1
    have hl : ys.length = 1 := (Kd.int .i64).len hy
    exact ⟨by omega, (splice_length (by omega)).trans hc, (List.forall_mem_cons.2 ⟨(by show (Kd.int .i64).K g y (seg (splice cs 0 ys) 0 1); rw [seg_splice_same (by omega) hl]; exact hy), (List.forall_mem_cons.2 ⟨(by show (Kd.int .i64).K g v.Num (seg (splice cs 0 ys) 1 1); rw [seg_splice_ne (by omega) (by omega)]; exact hk.2 _ (List.mem_of_getElem? (i := 1) rfl)), (List.forall_mem_cons.2 ⟨(by show k_api_Record.K g v.Rec (seg (splice cs 0 ys) 2 8); rw [seg_splice_ne (by omega) (by omega)]; exact hk.2 _ (List.mem_of_getElem? (i := 2) rfl)), (fun _ h => by cases h)⟩)⟩)⟩)⟩
theorem en_69 : Enters Tryd.prog 69 := by
  unfold Enters
  kernel_rfl
theorem en_70 : Enters Tryd.prog 70 := by
  unfold Enters
  kernel_rfl
theorem en_72 : Enters Tryd.prog 72 := by
  unfold Enters
  kernel_rfl
theorem en_71 : Enters Tryd.prog 71 := by
  unfold Enters
  kernel_rfl
theorem en_73 : Enters Tryd.prog 73 := by
  unfold Enters
  kernel_rfl
theorem en_74 : Enters Tryd.prog 74 := by
  unfold Enters
  kernel_rfl
theorem en_19 : Enters Tryd.prog 19 := by
  unfold Enters
  kernel_rfl
theorem en_31 : Enters Tryd.prog 31 := by
  unfold Enters
  kernel_rfl
theorem en_9 : Enters Tryd.prog 9 := by
  unfold Enters
  kernel_rfl
theorem en_10 : Enters Tryd.prog 10 := by
  unfold Enters
  kernel_rfl
theorem en_12 : Enters Tryd.prog 12 := by
  unfold Enters
  kernel_rfl
theorem en_14 : Enters Tryd.prog 14 := by
  unfold Enters
  kernel_rfl
theorem wi_27_2 {c : Option Nat} {N j s : Nat} {o : Oper} {uses : Slots} {x z : Operand} {v : api_Act} {y0 y : Int} {v0 : api_Act} {t : Nat} (hT : Ty Tryd.prog t (Kd.int .i64)) (hop : o.op = .store t x z) (hd : o.dst = none) (hs : Opd uses (.tmp s) (pBoxC c k_api_Act j v)) (hx : Opd uses x (pPart k_api_Act j v0 2 (Kd.int .i64) y0)) (hz : Opd uses z ((Kd.int .i64).pd y)) : OB Tryd.prog N o uses [(s, pBoxC c k_api_Act j { v with N := y })] [j + 1] :=
  ob_storeP hT hop hd hs hx hz fun g cs ys hk hy => by
    have hc : cs.length = 14 := hk.1
    have hl : ys.length = 1 := (Kd.int .i64).len hy
    exact ⟨by omega, (splice_length (by omega)).trans hc, (List.forall_mem_cons.2 ⟨(by show (Kd.int .i64).K g v.Kind (seg (splice cs 2 ys) 0 1); rw [seg_splice_ne (by omega) (by omega)]; exact hk.2 _ (List.mem_of_getElem? (i := 0) rfl)), (List.forall_mem_cons.2 ⟨(by show Kd.str.K g v.Key (seg (splice cs 2 ys) 1 1); rw [seg_splice_ne (by omega) (by omega)]; exact hk.2 _ (List.mem_of_getElem? (i := 1) rfl)), (List.forall_mem_cons.2 ⟨(by show (Kd.int .i64).K g y (seg (splice cs 2 ys) 2 1); rw [seg_splice_same (by omega) hl]; exact hy), (List.forall_mem_cons.2 ⟨(by show Kd.flt.K g v.X (seg (splice cs 2 ys) 3 1); rw [seg_splice_ne (by omega) (by omega)]; exact hk.2 _ (List.mem_of_getElem? (i := 3) rfl)), (List.forall_mem_cons.2 ⟨(by show Kd.str.K g v.S (seg (splice cs 2 ys) 4 1); rw [seg_splice_ne (by omega) (by omega)]; exact hk.2 _ (List.mem_of_getElem? (i := 4) rfl)), (List.forall_mem_cons.2 ⟨(by show k_api_Record.K g v.Make (seg (splice cs 2 ys) 5 8); rw [seg_splice_ne (by omega) (by omega)]; exact hk.2 _ (List.mem_of_getElem? (i := 5) rfl)), (List.forall_mem_cons.2 ⟨(by show Kd.bool.K g v.Must (seg (splice cs 2 ys) 13 1); rw [seg_splice_ne (by omega) (by omega)]; exact hk.2 _ (List.mem_of_getElem? (i := 6) rfl)), (fun _ h => by cases h)⟩)⟩)⟩)⟩)⟩)⟩)⟩)⟩
theorem wi_27_0 {c : Option Nat} {N j s : Nat} {o : Oper} {uses : Slots} {x z : Operand} {v : api_Act} {y0 y : Int} {v0 : api_Act} {t : Nat} (hT : Ty Tryd.prog t (Kd.int .i64)) (hop : o.op = .store t x z) (hd : o.dst = none) (hs : Opd uses (.tmp s) (pBoxC c k_api_Act j v)) (hx : Opd uses x (pPart k_api_Act j v0 0 (Kd.int .i64) y0)) (hz : Opd uses z ((Kd.int .i64).pd y)) : OB Tryd.prog N o uses [(s, pBoxC c k_api_Act j { v with Kind := y })] [j + 1] :=
  ob_storeP hT hop hd hs hx hz fun g cs ys hk hy => by
    have hc : cs.length = 14 := hk.1
    have hl : ys.length = 1 := (Kd.int .i64).len hy
    exact ⟨by omega, (splice_length (by omega)).trans hc, (List.forall_mem_cons.2 ⟨(by show (Kd.int .i64).K g y (seg (splice cs 0 ys) 0 1); rw [seg_splice_same (by omega) hl]; exact hy), (List.forall_mem_cons.2 ⟨(by show Kd.str.K g v.Key (seg (splice cs 0 ys) 1 1); rw [seg_splice_ne (by omega) (by omega)]; exact hk.2 _ (List.mem_of_getElem? (i := 1) rfl)), (List.forall_mem_cons.2 ⟨(by show (Kd.int .i64).K g v.N (seg (splice cs 0 ys) 2 1); rw [seg_splice_ne (by omega) (by omega)]; exact hk.2 _ (List.mem_of_getElem? (i := 2) rfl)), (List.forall_mem_cons.2 ⟨(by show Kd.flt.K g v.X (seg (splice cs 0 ys) 3 1); rw [seg_splice_ne (by omega) (by omega)]; exact hk.2 _ (List.mem_of_getElem? (i := 3) rfl)), (List.forall_mem_cons.2 ⟨(by show Kd.str.K g v.S (seg (splice cs 0 ys) 4 1); rw [seg_splice_ne (by omega) (by omega)]; exact hk.2 _ (List.mem_of_getElem? (i := 4) rfl)), (List.forall_mem_cons.2 ⟨(by show k_api_Record.K g v.Make (seg (splice cs 0 ys) 5 8); rw [seg_splice_ne (by omega) (by omega)]; exact hk.2 _ (List.mem_of_getElem? (i := 5) rfl)), (List.forall_mem_cons.2 ⟨(by show Kd.bool.K g v.Must (seg (splice cs 0 ys) 13 1); rw [seg_splice_ne (by omega) (by omega)]; exact hk.2 _ (List.mem_of_getElem? (i := 6) rfl)), (fun _ h => by cases h)⟩)⟩)⟩)⟩)⟩)⟩)⟩)⟩
theorem en_22 : Enters Tryd.prog 22 := by
  unfold Enters
  kernel_rfl
end Go.CL

set_option linter.unusedVariables false
set_option linter.unusedSimpArgs false
set_option maxRecDepth 100000
namespace Go.CL
open Go Go.RowKit Go.Proofs
theorem slices_Clone_api_Item_api_Item_ok (a0 : (List api_Item)) {r : (List api_Item)} (h : slices_Clone_api_Item_api_Item a0 = some r) : FnOk Tryd.prog 41 [(k_api_Item.sl.pd a0)] (k_api_Item.sl.pd r) := by
  unfold slices_Clone_api_Item_api_Item at h
  obtain ⟨hsz, H0⟩ := of_ite h
  obtain rfl := Option.some.inj H0
  refine fn_ok (N := 8) Tryd.func41 rfl rfl (Nat.le_of_ble_eq_true rfl) rfl rfl (fun a g0 hst hb => ?_)
  refine wp_seq ?_
  refine wp_reg follows (N := 8) (L := [(0, (k_api_Item.sl.pd a0))]) (T := [⟨[], [(2, (k_api_Item.sl.pd []))], [], [], [2]⟩]) (F := [.old 0]) (by kernel_rfl)
    (allOT_cons (OT.plain rfl (ob_assign rfl rfl (Opd.c (fun g => sl_nil_q g)))) allOT_nil) hst hb (fun a g hst hb => ?_)
  refine then_n ?_
  refine wp_seq ?_
  refine wp_seq ?_
  refine wp_reg follows (N := 8) (L := [(0, (k_api_Item.sl.pd a0))]) (T := [⟨[.old 0], [(3, (k_api_Item.sl.pd a0))], [], [], [3]⟩, ⟨[.op 0 0], [(4, pNilB a0)], [], [0], [4]⟩]) (F := [.old 0, .op 1 0]) (by kernel_rfl)
    (allOT_cons (OT.plain rfl (ob_move rfl rfl Opd.t0)) (allOT_cons (OT.plain rfl (ob_snil Tryd.underlying23 rfl rfl Opd.t0)) allOT_nil)) hst hb (fun a g hst hb => ?_)
  refine then_n ?_
  obtain ⟨c, hc, hc'⟩ := hst.at 1 rfl
  refine wp_cond_split hc (fun ht => ?_) (fun hf => ?_)
  · obtain rfl := hc' ht
    refine wp_seq ?_
    refine wp_reg follows (N := 8) (L := []) (T := [⟨[], [(2, (k_api_Item.sl.pd []))], [], [], [2]⟩]) (F := [.op 0 0]) (by kernel_rfl)
      (allOT_cons (OT.plain rfl (ob_assign rfl rfl (Opd.c (fun g => sl_nil_q g)))) allOT_nil) (hst.pick [] rfl) hb (fun a g hst hb => ?_)
    refine then_n ?_
    refine wp_ret ?_
    refine then_r ?_
    exact endR1 rfl hst hb (res_tmp (s := 2)) (hst.at 0 rfl)
  · refine wp_skip ?_
    refine then_n ?_
    refine wp_seq ?_
    have hsz' : (([] : (List api_Item)).length + a0.length) * 24 ≤ 140737488355328 := by simpa using hsz
    refine wp_reg follows (N := 8) (L := [(0, (k_api_Item.sl.pd a0))]) (T := [⟨[], [(5, (pRow k_api_Item 48 5 []))], [6], [], [5]⟩, ⟨[.old 0], [(6, (k_api_Item.sl.pd a0))], [], [], [6]⟩, ⟨[.op 0 0, .op 1 0], [(7, (pRow k_api_Item 48 5 ([] ++ a0)))], [6], [0, 1], [5, 7]⟩, ⟨[.op 2 0], [(2, (pRow k_api_Item 48 5 ([] ++ a0)))], [], [0, 1, 2], [2]⟩]) (F := [.op 3 0]) (by kernel_rfl)
      (allOT_cons (OT.plain rfl (ob_litRow 5 te_23 (xs := []) .nil (by decide) rfl rfl)) (allOT_cons (OT.plain rfl (ob_move rfl rfl Opd.t0)) (allOT_cons (OT.plain rfl (ob_append te_23 rfl rfl Opd.t0 (Opd.tl Opd.t0) hsz')) (allOT_cons (OT.plain rfl (ob_assign rfl rfl Opd.t0)) allOT_nil)))) (hst.pick [0] rfl) hb (fun a g hst hb => ?_)
    refine then_n ?_
    refine wp_ret ?_
    exact endR1 rfl hst hb (res_tmp (s := 2)) (pRow_read (hst.at 0 rfl))
theorem slices_Clone_api_Item_api_Item_fresh (a0 : (List api_Item)) {r : (List api_Item)} (h : slices_Clone_api_Item_api_Item a0 = some r) : FnFresh Tryd.prog 41 [(k_api_Item.sl.pd a0)] k_api_Item 48 r := by
  unfold slices_Clone_api_Item_api_Item at h
  obtain ⟨hsz, H0⟩ := of_ite h
  obtain rfl := Option.some.inj H0
  refine fnFresh_ok (N := 8) Tryd.func41 rfl rfl (Nat.le_of_ble_eq_true rfl) rfl (fun a g0 h0 hst hb => ?_)
  refine r_s (L := [(0, _)]) (T := [⟨[], [(2, (k_api_Item.sl.pd []))], [], [], [2]⟩]) (F := [.old 0]) hst hb follows
    (o_p rfl (ob_assign rfl rfl (Opd.c (fun g => sl_nil_q g))) <| o_n) (by kernel_rfl) (fun a g hst hb => ?_)
  refine wp_seq ?_
  refine r_s (L := [(0, _)]) (T := [⟨[.old 0], _, [], [], [3]⟩, ⟨[.op 0 0], _, [], [0], [4]⟩]) (F := [.old 0, .op 1 0]) hst hb follows
    (o_p rfl (ob_move rfl rfl u_0) <| o_p rfl (ob_snil Tryd.underlying23 rfl rfl u_0) <| o_n) (by kernel_rfl) (fun a g hst hb => ?_)
  obtain ⟨c, hc, hc'⟩ := hst.at 1 rfl
  refine wp_cond_split hc (fun ht => ?_) (fun hf => ?_)
  · obtain rfl := hc' ht
    refine r_s (L := []) (T := [⟨[], [(2, (pEq (.slice none 0 0)))], [], [], [2]⟩]) (F := [.op 0 0]) (hst.pick [] rfl) hb follows
      (o_p rfl (ob_assign rfl rfl (Opd.c (fun g => rfl))) <| o_n) (by kernel_rfl) (fun a g hst hb => ?_)
    refine wp_ret ?_
    refine then_r ?_
    exact endFreshNil rfl hst hb (res_tmp (s := 2)) ⟨none, hst.at 0 rfl⟩
  · refine wp_skip ?_
    refine then_n ?_
    refine r_s (L := [(0, _)]) (T := [⟨[], [(5, (pOwn k_api_Item 48 5 (some 0) (([] : (List api_Item)).map some)))], [6], [], [5]⟩, ⟨[.old 0], _, [], [], [6]⟩, ⟨[.op 0 0, .op 1 0], _, [6], [0, 1], [5, 7]⟩, ⟨[.op 2 0], _, [], [0, 1, 2], [2]⟩]) (F := [.op 3 0]) (hst.pick [0] rfl) hb follows
      (o_p rfl (ob_litOwn (ty := 0) te_23 rfl rfl) <| o_p rfl (ob_move rfl rfl u_0) <| o_p rfl (ob_appendO te_23 rfl rfl u_0 u_1 (by simpa using hsz)) <| o_p rfl (ob_assign rfl rfl u_0) <| o_n) (by kernel_rfl) (fun a g hst hb => ?_)
    refine wp_ret ?_
    exact endFresh rfl h0 hst hb (res_tmp (s := 2)) (hst.at 0 rfl)
end Go.CL

set_option linter.unusedVariables false
set_option linter.unusedSimpArgs false
set_option maxRecDepth 100000
namespace Go.CL
open Go Go.RowKit Go.Proofs
theorem rec_Clone_ok (a0 : api_Record) {r : api_Record} (h : rec_Clone a0 = some r) : FnOk Tryd.prog 20 [(k_api_Record.pd a0)] (k_api_Record.pd r) := by
  have H0 := h
  unfold rec_Clone at H0
  clear h
  refine fn_ok (N := 8) Tryd.func20 rfl rfl (Nat.le_of_ble_eq_true rfl) rfl rfl (fun a g0 hst hb => ?_)
  refine r_s (L := [(0, _)]) (T := [⟨[.old 0], _, [2], [], [1]⟩, ⟨[], [(2, (pBox k_api_Record 2 (default : api_Record)))], [3], [], [2]⟩]) (F := [.op 0 0, .op 1 0]) hst hb follows
    (o_p rfl (ob_boxM rfl rfl u_0) <|
     o_p rfl (ob_alloc (zs := [.int .i64 0, .int .i64 0, .int .i64 0, .int .i64 0, .float .f64 0, .int .i64 0, .string ByteArray.empty, .slice none 0 0]) (by kernel_rfl) (fun g => zk_api_Record g) rfl rfl) <|
     o_n) (by kernel_rfl) (fun a g hst hb => ?_)
  obtain ⟨r1, h2, H0⟩ := of_bind H0
  refine r_s (L := [(1, _), (2, _)]) (T := [⟨[.old 0], _, [], [], [3]⟩, ⟨[.op 0 0], _, [], [0], [4]⟩, ⟨[.op 1 0], _, [], [0, 1], [5]⟩, ⟨[.old 0], _, [], [0, 1, 2], [6]⟩, ⟨[.op 2 0, .op 3 0, .old 0], _, [2], List.range 4, [1, 3, 6]⟩]) (F := [.op 4 0, .old 1]) hst hb follows
    (o_p rfl (ob_fieldAddrM fl_25_7 (off := 7) (by kernel_rfl) rfl rfl u_0) <|
     o_p rfl (ob_loadP ty_23 rfl rfl u_0) <|
     o_p rfl (ob_call en_41 (slices_Clone_api_Item_api_Item_ok _ h2) rfl rfl (.cons u_0 .nil)) <|
     o_p rfl (ob_fieldAddrM fl_25_7 (off := 7) (by kernel_rfl) rfl rfl u_0) <|
     o_p rfl (wi_25_7 ty_23 rfl rfl u_2 u_1 u_0) <|
     o_n) (by kernel_rfl) (fun a g hst hb => ?_)
  refine r_s (L := [(1, _), (2, _)]) (T := [⟨[.old 0], _, [], [], [7]⟩, ⟨[.op 0 0, .old 1], _, [3], [0], [2]⟩]) (F := [.op 1 0]) hst hb follows
    (o_p rfl (ob_loadM ty_25 rfl rfl u_0) <|
     o_p rfl (ob_store ty_25 rfl rfl u_1 u_0) <|
     o_n) (by kernel_rfl) (fun a g hst hb => ?_)
  refine wp_ret ?_
  obtain rfl := Option.some.inj H0
  obtain ⟨u0, hu0, hq0⟩ := res_box (P := Tryd.prog) ty_25 (hst.at 0 rfl)
  exact endR1 rfl hst hb hu0 hq0
end Go.CL

set_option linter.unusedVariables false
set_option linter.unusedSimpArgs false
set_option maxRecDepth 100000
namespace Go.CL
open Go Go.RowKit Go.Proofs
theorem rec_shaped_ok (a0 : Int) {r : rec_shape} (h : rec_shaped a0 = some r) : FnOk Tryd.prog 42 [(pInt .i64 a0)] (k_rec_shape.pd r) := by
  have H0 := h
  unfold rec_shaped at H0
  clear h
  refine fn_ok (N := 24) Tryd.func42 rfl rfl (Nat.le_of_ble_eq_true rfl) rfl rfl (fun a g0 hst hb => ?_)
  refine r_s (L := [(0, _)]) (T := [⟨[], [(2, (pBox k_rec_shape 2 (default : rec_shape)))], [3], [], [2]⟩]) (F := [.old 0, .op 0 0]) hst hb follows
    (o_p rfl (ob_alloc (zs := [.bool false, .bool false, .bool false, .bool false, .bool false]) (by kernel_rfl) (fun g => zk_rec_shape g) rfl rfl) <|
     o_n) (by kernel_rfl) (fun a g hst hb => ?_)
  refine wp_seq ?_
  refine r_s (L := [(0, _), (2, _)]) (T := [⟨[.old 0], _, [], [], [3]⟩]) (F := [.old 1, .op 0 0]) hst hb follows
    (o_p rfl (ob_move rfl rfl u_0) <|
     o_n) (by kernel_rfl) (fun a g hst hb => ?_)
  refine wp_block ?_
  refine r_s (L := [(2, _), (3, _)]) (T := [⟨[.old 1], _, [], [], [5]⟩, ⟨[.op 0 0], _, [], [0], [4]⟩]) (F := [.old 0, .old 1, .op 1 0]) hst hb follows
    (o_p rfl (ob_eq rfl rfl u_0 c_i) <|
     o_p rfl (ob_assign rfl rfl u_0) <|
     o_n) (by kernel_rfl) (fun a g hst hb => ?_)
  refine wp_cond_split (hst.bool 2 rfl) (fun hc1 => ?_) (fun hc1 => ?_)
  · replace H0 := ite_t hc1 H0
    refine r_s (L := [(2, _)]) (T := [⟨[], _, [], [], [6]⟩, ⟨[.op 0 0, .old 0], _, [3], [0], [2]⟩]) (F := [.op 1 0]) (hst.pick [0] rfl) hb follows
      (o_p rfl (bd_72_0 rfl rfl c_b) <|
       o_p rfl (ob_store ty_72 rfl rfl u_1 u_0) <|
       o_n) (by kernel_rfl) (fun a g hst hb => ?_)
    refine wp_ret ?_
    refine inBlock_r ?_
    refine then_r ?_
    obtain rfl := Option.some.inj H0
    obtain ⟨u0, hu0, hq0⟩ := res_box (P := Tryd.prog) ty_72 (hst.at 0 rfl)
    exact endR1 rfl hst hb hu0 hq0
  · replace H0 := ite_f hc1 H0
    refine wp_seq ?_
    refine r_s (L := [(2, _), (3, _)]) (T := [⟨[.old 1], _, [], [], [8]⟩, ⟨[.op 0 0], _, [], [0], [7]⟩]) (F := [.old 0, .old 1, .op 1 0]) (hst.pick [0, 1] rfl) hb follows
      (o_p rfl (ob_eq rfl rfl u_0 c_i) <|
       o_p rfl (ob_assign rfl rfl u_0) <|
       o_n) (by kernel_rfl) (fun a g hst hb => ?_)
    refine wp_cut (fun a w => ∃ (j3 : Bool) (g : G), w = g.w ∧ St 24 [(2, (pBox k_rec_shape 2 (default : rec_shape))), (3, (pInt .i64 a0)), (7, (pBool j3))] a g ∧ Base g0 g ∧ rec_shaped_j1 a0 j3 = some r) ?_ ?_
    · rintro a w ⟨j3, g, rfl, hst, hb, H0⟩
      unfold rec_shaped_j1 at H0
      refine then_n ?_
      refine wp_cond_split (hst.bool 2 rfl) (fun hc4 => ?_) (fun hc4 => ?_)
      · replace H0 := ite_t hc4 H0
        refine r_s (L := [(2, _)]) (T := [⟨[], _, [], [], [10]⟩, ⟨[.op 0 0, .old 0], _, [3], [0], [2]⟩]) (F := [.op 1 0]) (hst.pick [0] rfl) hb follows
          (o_p rfl (bd_72_1 rfl rfl c_b) <|
           o_p rfl (ob_store ty_72 rfl rfl u_1 u_0) <|
           o_n) (by kernel_rfl) (fun a g hst hb => ?_)
        refine wp_ret ?_
        refine inBlock_r ?_
        refine then_r ?_
        obtain rfl := Option.some.inj H0
        obtain ⟨u0, hu0, hq0⟩ := res_box (P := Tryd.prog) ty_72 (hst.at 0 rfl)
        exact endR1 rfl hst hb hu0 hq0
      · replace H0 := ite_f hc4 H0
        refine r_s (L := [(2, _), (3, _)]) (T := [⟨[.old 1], _, [], [], [12]⟩, ⟨[.op 0 0], _, [], [0], [11]⟩]) (F := [.old 0, .old 1, .op 1 0]) (hst.pick [0, 1] rfl) hb follows
          (o_p rfl (ob_eq rfl rfl u_0 c_i) <|
           o_p rfl (ob_assign rfl rfl u_0) <|
           o_n) (by kernel_rfl) (fun a g hst hb => ?_)
        refine wp_cond_split (hst.bool 2 rfl) (fun hc5 => ?_) (fun hc5 => ?_)
        · replace H0 := ite_t hc5 H0
          refine r_s (L := [(2, _)]) (T := [⟨[], _, [], [], [13]⟩, ⟨[.op 0 0, .old 0], _, [3], [0], [2]⟩]) (F := [.op 1 0]) (hst.pick [0] rfl) hb follows
            (o_p rfl (bd_72_1_2 rfl rfl c_b c_b) <|
             o_p rfl (ob_store ty_72 rfl rfl u_1 u_0) <|
             o_n) (by kernel_rfl) (fun a g hst hb => ?_)
          refine wp_ret ?_
          refine inBlock_r ?_
          refine then_r ?_
          obtain rfl := Option.some.inj H0
          obtain ⟨u0, hu0, hq0⟩ := res_box (P := Tryd.prog) ty_72 (hst.at 0 rfl)
          exact endR1 rfl hst hb hu0 hq0
        · replace H0 := ite_f hc5 H0
          refine wp_seq ?_
          refine r_s (L := [(2, _), (3, _)]) (T := [⟨[.old 1], _, [], [], [15]⟩, ⟨[.op 0 0], _, [], [0], [14]⟩]) (F := [.old 0, .old 1, .op 1 0]) (hst.pick [0, 1] rfl) hb follows
            (o_p rfl (ob_eq rfl rfl u_0 c_i) <|
             o_p rfl (ob_assign rfl rfl u_0) <|
             o_n) (by kernel_rfl) (fun a g hst hb => ?_)
          refine wp_cut (fun a w => ∃ (j8 : Bool) (g : G), w = g.w ∧ St 24 [(2, (pBox k_rec_shape 2 (default : rec_shape))), (3, (pInt .i64 a0)), (14, (pBool j8))] a g ∧ Base g0 g ∧ rec_shaped_j2 a0 j8 = some r) ?_ ?_
          · rintro a w ⟨j8, g, rfl, hst, hb, H0⟩
            unfold rec_shaped_j2 at H0
            refine then_n ?_
            refine wp_cond_split (hst.bool 2 rfl) (fun hc9 => ?_) (fun hc9 => ?_)
            · replace H0 := ite_t hc9 H0
              refine r_s (L := [(2, _)]) (T := [⟨[], _, [], [], [18]⟩, ⟨[.op 0 0, .old 0], _, [3], [0], [2]⟩]) (F := [.op 1 0]) (hst.pick [0] rfl) hb follows
                (o_p rfl (bd_72_3 rfl rfl c_b) <|
                 o_p rfl (ob_store ty_72 rfl rfl u_1 u_0) <|
                 o_n) (by kernel_rfl) (fun a g hst hb => ?_)
              refine wp_ret ?_
              refine inBlock_r ?_
              refine then_r ?_
              obtain rfl := Option.some.inj H0
              obtain ⟨u0, hu0, hq0⟩ := res_box (P := Tryd.prog) ty_72 (hst.at 0 rfl)
              exact endR1 rfl hst hb hu0 hq0
            · replace H0 := ite_f hc9 H0
              refine wp_seq ?_
              refine r_s (L := [(2, _), (3, _)]) (T := [⟨[.old 1], _, [], [], [20]⟩, ⟨[.op 0 0], _, [], [0], [19]⟩]) (F := [.old 0, .old 1, .op 1 0]) (hst.pick [0, 1] rfl) hb follows
                (o_p rfl (ob_eq rfl rfl u_0 c_i) <|
                 o_p rfl (ob_assign rfl rfl u_0) <|
                 o_n) (by kernel_rfl) (fun a g hst hb => ?_)
              refine wp_cut (fun a w => ∃ (j11 : Bool) (g : G), w = g.w ∧ St 24 [(2, (pBox k_rec_shape 2 (default : rec_shape))), (19, (pBool j11))] a g ∧ Base g0 g ∧ rec_shaped_j3 j11 = some r) ?_ ?_
              · rintro a w ⟨j11, g, rfl, hst, hb, H0⟩
                unfold rec_shaped_j3 at H0
                refine then_n ?_
                refine wp_cond_split (hst.bool 1 rfl) (fun hc12 => ?_) (fun hc12 => ?_)
                · replace H0 := ite_t hc12 H0
                  refine r_s (L := [(2, _)]) (T := [⟨[], _, [], [], [22]⟩, ⟨[.op 0 0, .old 0], _, [3], [0], [2]⟩]) (F := [.op 1 0]) (hst.pick [0] rfl) hb follows
                    (o_p rfl (bd_72_4 rfl rfl c_b) <|
                     o_p rfl (ob_store ty_72 rfl rfl u_1 u_0) <|
                     o_n) (by kernel_rfl) (fun a g hst hb => ?_)
                  refine wp_ret ?_
                  refine inBlock_r ?_
                  refine then_r ?_
                  obtain rfl := Option.some.inj H0
                  obtain ⟨u0, hu0, hq0⟩ := res_box (P := Tryd.prog) ty_72 (hst.at 0 rfl)
                  exact endR1 rfl hst hb hu0 hq0
                · replace H0 := ite_f hc12 H0
                  refine wp_skip ?_
                  refine inBlock_n ?_
                  refine then_n ?_
                  refine r_s (L := [(2, _)]) (T := [⟨[], _, [], [], [23]⟩, ⟨[.op 0 0, .old 0], _, [3], [0], [2]⟩]) (F := [.op 1 0]) (hst.pick [0] rfl) hb follows
                    (o_p rfl (bd_72_ rfl rfl ) <|
                     o_p rfl (ob_store ty_72 rfl rfl u_1 u_0) <|
                     o_n) (by kernel_rfl) (fun a g hst hb => ?_)
                  refine wp_ret ?_
                  obtain rfl := Option.some.inj H0
                  obtain ⟨u0, hu0, hq0⟩ := res_box (P := Tryd.prog) ty_72 (hst.at 0 rfl)
                  exact endR1 rfl hst hb hu0 hq0
              · refine wp_cond_split (hst.bool 2 rfl) (fun hc10 => ?_) (fun hc10 => ?_)
                · replace H0 := ite_t hc10 H0
                  refine wp_skip ?_
                  exact ⟨(a0 == (8 : Int)), g, rfl, (hst.pick [0, 2] rfl), hb, H0⟩
                · replace H0 := ite_f hc10 H0
                  refine r_g (L := [(2, _), (3, _)]) (T := [⟨[.old 1], _, [], [], [21]⟩, ⟨[.op 0 0], _, [], [0], [19]⟩]) (F := [.old 0, .op 1 0]) (hst.pick [0, 1] rfl) hb follows
                    (o_p rfl (ob_eq rfl rfl u_0 c_i) <|
                     o_p rfl (ob_assign rfl rfl u_0) <|
                     o_n) (by kernel_rfl) (fun a g hst hb => ?_)
                  exact ⟨(a0 == (9 : Int)), g, rfl, (hst.pick [0, 1] rfl), hb, H0⟩
          · refine wp_cond_split (hst.bool 2 rfl) (fun hc6 => ?_) (fun hc6 => ?_)
            · replace H0 := ite_t hc6 H0
              refine wp_skip ?_
              exact ⟨(a0 == (5 : Int)), g, rfl, (hst.pick [0, 1, 2] rfl), hb, H0⟩
            · replace H0 := ite_f hc6 H0
              refine r_s (L := [(2, _), (3, _)]) (T := [⟨[.old 1], _, [], [], [16]⟩, ⟨[.op 0 0], _, [], [0], [14]⟩]) (F := [.old 0, .old 1, .op 1 0]) (hst.pick [0, 1] rfl) hb follows
                (o_p rfl (ob_eq rfl rfl u_0 c_i) <|
                 o_p rfl (ob_assign rfl rfl u_0) <|
                 o_n) (by kernel_rfl) (fun a g hst hb => ?_)
              refine wp_cond_split (hst.bool 2 rfl) (fun hc7 => ?_) (fun hc7 => ?_)
              · replace H0 := ite_t hc7 H0
                refine wp_skip ?_
                exact ⟨(a0 == (6 : Int)), g, rfl, (hst.pick [0, 1, 2] rfl), hb, H0⟩
              · replace H0 := ite_f hc7 H0
                refine r_g (L := [(2, _), (3, _)]) (T := [⟨[.old 1], _, [], [], [17]⟩, ⟨[.op 0 0], _, [], [0], [14]⟩]) (F := [.old 0, .old 1, .op 1 0]) (hst.pick [0, 1] rfl) hb follows
                  (o_p rfl (ob_eq rfl rfl u_0 c_i) <|
                   o_p rfl (ob_assign rfl rfl u_0) <|
                   o_n) (by kernel_rfl) (fun a g hst hb => ?_)
                exact ⟨(a0 == (7 : Int)), g, rfl, (hst.pick [0, 1, 2] rfl), hb, H0⟩
    · refine wp_cond_split (hst.bool 2 rfl) (fun hc2 => ?_) (fun hc2 => ?_)
      · replace H0 := ite_t hc2 H0
        refine wp_skip ?_
        exact ⟨(a0 == (2 : Int)), g, rfl, (hst.pick [0, 1, 2] rfl), hb, H0⟩
      · replace H0 := ite_f hc2 H0
        refine r_g (L := [(2, _), (3, _)]) (T := [⟨[.old 1], _, [], [], [9]⟩, ⟨[.op 0 0], _, [], [0], [7]⟩]) (F := [.old 0, .old 1, .op 1 0]) (hst.pick [0, 1] rfl) hb follows
          (o_p rfl (ob_eq rfl rfl u_0 c_i) <|
           o_p rfl (ob_assign rfl rfl u_0) <|
           o_n) (by kernel_rfl) (fun a g hst hb => ?_)
        exact ⟨(a0 == (3 : Int)), g, rfl, (hst.pick [0, 1, 2] rfl), hb, H0⟩
end Go.CL

set_option linter.unusedVariables false
set_option linter.unusedSimpArgs false
set_option maxRecDepth 100000
namespace Go.CL
open Go Go.RowKit Go.Proofs
theorem math_NaN_ok {r : Nat} (h : math_NaN = some r) : FnOk Tryd.prog 92 [] (pFlt r) := by
  have H0 := h
  unfold math_NaN at H0
  clear h
  refine fn_ok (N := 2) Tryd.func92 rfl rfl (Nat.le_of_ble_eq_true rfl) rfl rfl (fun a g0 hst hb => ?_)
  refine r_s (L := []) (T := [⟨[], _, [], [], [0]⟩]) (F := []) hst hb follows
    (o_p rfl (ob_assign rfl rfl c_f) <|
     o_n) (by kernel_rfl) (fun a g hst hb => ?_)
  refine r_s (L := []) (T := [⟨[], _, [], [], [1]⟩, ⟨[.op 0 0], _, [], [0], [0]⟩]) (F := [.op 1 0]) hst hb follows
    (o_p rfl (ob_frombits ex_90 rfl rfl c_i) <|
     o_p rfl (ob_assign rfl rfl u_0) <|
     o_n) (by kernel_rfl) (fun a g hst hb => ?_)
  refine wp_ret ?_
  obtain rfl := Option.some.inj H0
  exact endR1 rfl hst hb (res_tmp (s := 0)) (hst.at 0 rfl)
end Go.CL

set_option linter.unusedVariables false
set_option linter.unusedSimpArgs false
set_option maxRecDepth 100000
namespace Go.CL
open Go Go.RowKit Go.Proofs
theorem flo_Canon_ok (a0 : Nat) {r : Nat} (h : flo_Canon a0 = some r) : FnOk Tryd.prog 82 [(pFlt a0)] (pFlt r) := by
  have H0 := h
  unfold flo_Canon at H0
  clear h
  refine fn_ok (N := 8) Tryd.func82 rfl rfl (Nat.le_of_ble_eq_true rfl) rfl rfl (fun a g0 hst hb => ?_)
  refine r_s (L := [(0, _)]) (T := [⟨[], _, [], [], [2]⟩]) (F := [.old 0]) hst hb follows
    (o_p rfl (ob_assign rfl rfl c_f) <|
     o_n) (by kernel_rfl) (fun a g hst hb => ?_)
  refine wp_seq ?_
  refine r_s (L := [(0, _)]) (T := [⟨[.old 0], _, [], [], [3]⟩, ⟨[.old 0], _, [], [], [4]⟩, ⟨[.op 0 0, .op 1 0], _, [], [0, 1], [5]⟩]) (F := [.old 0, .op 2 0]) hst hb follows
    (o_p rfl (ob_move rfl rfl u_0) <|
     o_p rfl (ob_move rfl rfl u_0) <|
     o_p rfl (ob_fneq rfl rfl u_0 u_1) <|
     o_n) (by kernel_rfl) (fun a g hst hb => ?_)
  refine wp_cond_split (hst.bool 1 rfl) (fun hc1 => ?_) (fun hc1 => ?_)
  · replace H0 := ite_t hc1 H0
    obtain ⟨r2, h3, H0⟩ := of_bind H0
    refine r_s (L := []) (T := [⟨[], _, [], [], [6]⟩, ⟨[.op 0 0], _, [], [0], [2]⟩]) (F := [.op 1 0]) (hst.pick [] rfl) hb follows
      (o_p rfl (ob_call en_92 (math_NaN_ok h3) rfl rfl .nil) <|
       o_p rfl (ob_assign rfl rfl u_0) <|
       o_n) (by kernel_rfl) (fun a g hst hb => ?_)
    refine wp_ret ?_
    refine then_r ?_
    obtain rfl := Option.some.inj H0
    exact endR1 rfl hst hb (res_tmp (s := 2)) (hst.at 0 rfl)
  · replace H0 := ite_f hc1 H0
    refine wp_skip ?_
    refine then_n ?_
    refine r_s (L := [(0, _)]) (T := [⟨[.old 0], _, [], [], [7]⟩, ⟨[.op 0 0], _, [], [0], [2]⟩]) (F := [.op 1 0]) (hst.pick [0] rfl) hb follows
      (o_p rfl (ob_move rfl rfl u_0) <|
       o_p rfl (ob_assign rfl rfl u_0) <|
       o_n) (by kernel_rfl) (fun a g hst hb => ?_)
    refine wp_ret ?_
    obtain rfl := Option.some.inj H0
    exact endR1 rfl hst hb (res_tmp (s := 2)) (hst.at 0 rfl)
end Go.CL

set_option linter.unusedVariables false
set_option linter.unusedSimpArgs false
set_option maxRecDepth 100000
namespace Go.CL
open Go Go.RowKit Go.Proofs
theorem flo_Key_ok (a0 : Nat) {r : Int} (h : flo_Key a0 = some r) : FnOk Tryd.prog 76 [(pFlt a0)] (pInt .u64 r) := by
  have H0 := h
  unfold flo_Key at H0
  clear h
  refine fn_ok (N := 14) Tryd.func76 rfl rfl (Nat.le_of_ble_eq_true rfl) rfl rfl (fun a g0 hst hb => ?_)
  refine r_s (L := [(0, _)]) (T := [⟨[], _, [], [], [2]⟩]) (F := [.old 0]) hst hb follows
    (o_p rfl (ob_assign rfl rfl c_i) <|
     o_n) (by kernel_rfl) (fun a g hst hb => ?_)
  obtain ⟨r1, h2, H0⟩ := of_bind H0
  refine r_s (L := [(0, _)]) (T := [⟨[.old 0], _, [], [], [4]⟩, ⟨[.op 0 0], _, [], [0], [5]⟩, ⟨[.op 1 0], _, [], [0, 1], [6]⟩, ⟨[.op 2 0], _, [], [0, 1, 2], [3]⟩]) (F := [.op 3 0]) hst hb follows
    (o_p rfl (ob_move rfl rfl u_0) <|
     o_p rfl (ob_call en_82 (flo_Canon_ok _ h2) rfl rfl (.cons u_0 .nil)) <|
     o_p rfl (ob_bits ex_79 rfl rfl u_0) <|
     o_p rfl (ob_assign rfl rfl u_0) <|
     o_n) (by kernel_rfl) (fun a g hst hb => ?_)
  refine wp_seq ?_
  refine r_s (L := [(3, _)]) (T := [⟨[.old 0], _, [], [], [7]⟩, ⟨[.op 0 0], _, [], [0], [8]⟩, ⟨[.op 1 0], _, [], [0, 1], [9]⟩]) (F := [.old 0, .op 2 0]) hst hb follows
    (o_p rfl (ob_move rfl rfl u_0) <|
     o_p rfl (ob_and rfl rfl u_0 c_i) <|
     o_p rfl (ob_ne rfl rfl u_0 c_i) <|
     o_n) (by kernel_rfl) (fun a g hst hb => ?_)
  refine wp_cond_split (hst.bool 1 rfl) (fun hc3 => ?_) (fun hc3 => ?_)
  · replace H0 := ite_t hc3 H0
    refine r_s (L := [(3, _)]) (T := [⟨[.old 0], _, [], [], [10]⟩, ⟨[.op 0 0], _, [], [0], [11]⟩, ⟨[.op 1 0], _, [], [0, 1], [2]⟩]) (F := [.op 2 0]) (hst.pick [0] rfl) hb follows
      (o_p rfl (ob_move rfl rfl u_0) <|
       o_p rfl (ob_not1 rfl rfl rfl u_0) <|
       o_p rfl (ob_assign rfl rfl u_0) <|
       o_n) (by kernel_rfl) (fun a g hst hb => ?_)
    refine wp_ret ?_
    refine then_r ?_
    obtain rfl := Option.some.inj H0
    exact endR1 rfl hst hb (res_tmp (s := 2)) (hst.at 0 rfl)
  · replace H0 := ite_f hc3 H0
    refine wp_skip ?_
    refine then_n ?_
    refine r_s (L := [(3, _)]) (T := [⟨[.old 0], _, [], [], [12]⟩, ⟨[.op 0 0], _, [], [0], [13]⟩, ⟨[.op 1 0], _, [], [0, 1], [2]⟩]) (F := [.op 2 0]) (hst.pick [0] rfl) hb follows
      (o_p rfl (ob_move rfl rfl u_0) <|
       o_p rfl (ob_or rfl rfl u_0 c_i) <|
       o_p rfl (ob_assign rfl rfl u_0) <|
       o_n) (by kernel_rfl) (fun a g hst hb => ?_)
    refine wp_ret ?_
    obtain rfl := Option.some.inj H0
    exact endR1 rfl hst hb (res_tmp (s := 2)) (hst.at 0 rfl)
end Go.CL

set_option linter.unusedVariables false
set_option linter.unusedSimpArgs false
set_option maxRecDepth 100000
namespace Go.CL
open Go Go.RowKit Go.Proofs
theorem flo_Same_ok (a0 : Nat) (a1 : Nat) {r : Bool} (h : flo_Same a0 a1 = some r) : FnOk Tryd.prog 33 [(pFlt a0), (pFlt a1)] (pBool r) := by
  have H0 := h
  unfold flo_Same at H0
  clear h
  refine fn_ok (N := 10) Tryd.func33 rfl rfl (Nat.le_of_ble_eq_true rfl) rfl rfl (fun a g0 hst hb => ?_)
  refine r_s (L := [(0, _), (1, _)]) (T := [⟨[], _, [], [], [4]⟩]) (F := [.old 0, .old 1]) hst hb follows
    (o_p rfl (ob_assign rfl rfl c_b) <|
     o_n) (by kernel_rfl) (fun a g hst hb => ?_)
  obtain ⟨r1, h2, H0⟩ := of_bind H0; obtain ⟨r3, h4, H0⟩ := of_bind H0
  refine r_s (L := [(0, _), (1, _)]) (T := [⟨[.old 0], _, [], [], [5]⟩, ⟨[.op 0 0], _, [], [0], [6]⟩, ⟨[.old 1], _, [], [], [7]⟩, ⟨[.op 2 0], _, [], [0, 1, 2], [8]⟩, ⟨[.op 1 0, .op 3 0], _, [], List.range 4, [9]⟩, ⟨[.op 4 0], _, [], List.range 5, [4]⟩]) (F := [.op 5 0]) hst hb follows
    (o_p rfl (ob_move rfl rfl u_0) <|
     o_p rfl (ob_call en_76 (flo_Key_ok _ h2) rfl rfl (.cons u_0 .nil)) <|
     o_p rfl (ob_move rfl rfl u_0) <|
     o_p rfl (ob_call en_76 (flo_Key_ok _ h4) rfl rfl (.cons u_0 .nil)) <|
     o_p rfl (ob_eq rfl rfl u_0 u_1) <|
     o_p rfl (ob_assign rfl rfl u_0) <|
     o_n) (by kernel_rfl) (fun a g hst hb => ?_)
  refine wp_ret ?_
  obtain rfl := Option.some.inj H0
  exact endR1 rfl hst hb (res_tmp (s := 4)) (hst.at 0 rfl)
end Go.CL

set_option linter.unusedVariables false
set_option linter.unusedSimpArgs false
set_option maxRecDepth 100000
namespace Go.CL
open Go Go.RowKit Go.Proofs
theorem rec_bare_ok (a0 : api_Record) (a1 : rec_shape) {r : Bool} (h : rec_bare a0 a1 = some r) : FnOk Tryd.prog 43 [(k_api_Record.pd a0), (k_rec_shape.pd a1)] (pBool r) := by
  have H0 := h
  unfold rec_bare at H0
  clear h
  refine fn_ok (N := 59) Tryd.func43 rfl rfl (Nat.le_of_ble_eq_true rfl) rfl rfl (fun a g0 hst hb => ?_)
  refine r_s (L := [(0, _), (1, _)]) (T := [⟨[.old 0], _, [], [], [2]⟩, ⟨[.old 1], _, [], [], [3]⟩, ⟨[], _, [], [], [4]⟩]) (F := [.op 0 0, .op 1 0]) hst hb follows
    (o_p rfl (ob_box1 rfl rfl u_0) <|
     o_p rfl (ob_box1 rfl rfl u_0) <|
     o_p rfl (ob_assign rfl rfl c_b) <|
     o_n) (by kernel_rfl) (fun a g hst hb => ?_)
  obtain ⟨r1, h2, H0⟩ := of_bind H0
  refine r_s (L := [(2, _), (3, _)]) (T := ⟨[.old 1], _, [], [], [5]⟩ :: ⟨[.op 0 0], _, [], [0], [6]⟩ :: ⟨[.op 1 0], _, [], [0, 1], [7]⟩ :: ⟨[.op 2 0, .old 0], _, [], [0, 1, 2], [8]⟩ :: ⟨[.op 2 0, .op 3 0], _, [], List.range 4, [9]⟩ :: ⟨[.op 2 0, .op 4 0], _, [], List.range 5, [10]⟩ :: ⟨[.op 2 0, .op 5 0], _, [], List.range 6, [11]⟩ :: ⟨[.op 6 0], _, [], List.range 7, [12]⟩ :: ⟨[.op 7 0, .old 1], _, [], List.range 8, [13]⟩ :: ⟨[.op 7 0, .op 8 0], _, [], List.range 9, [14]⟩ :: ⟨[.op 7 0, .op 9 0], _, [], List.range 10, [15]⟩ :: ⟨[.op 10 0, .old 0], _, [], List.range 11, [16]⟩ :: ⟨[.op 10 0, .op 11 0], _, [], List.range 12, [17]⟩ :: ⟨[.op 10 0, .op 12 0], _, [], List.range 13, [18]⟩ :: ⟨[.op 7 0, .op 10 0, .op 13 0], _, [], List.range 14, [19]⟩ :: ⟨[.op 7 0, .op 14 0], _, [], List.range 15, [20]⟩ :: ⟨[.op 15 0], _, [], List.range 16, [21]⟩ :: ⟨[.op 16 0, .old 1], _, [], List.range 17, [22]⟩ :: ⟨[.op 16 0, .op 17 0], _, [], List.range 18, [23]⟩ :: ⟨[.op 16 0, .op 18 0], _, [], List.range 19, [24]⟩ :: ⟨[.op 19 0, .old 0], _, [], List.range 20, [25]⟩ :: ⟨[.op 19 0, .op 20 0], _, [], List.range 21, [26]⟩ :: ⟨[.op 19 0, .op 21 0], _, [], List.range 22, [27]⟩ :: ⟨[.op 19 0, .op 22 0], _, [], List.range 23, [28]⟩ :: ⟨[.op 23 0, .old 0], _, [], List.range 24, [29]⟩ :: ⟨[.op 23 0, .op 24 0], _, [], List.range 25, [30]⟩ :: ⟨[.op 23 0, .op 25 0], _, [], List.range 26, [31]⟩ :: ⟨[.op 19 0, .op 23 0, .op 26 0], _, [], List.range 27, [32]⟩ :: ⟨[.op 16 0, .op 19 0, .op 27 0], _, [], List.range 28, [33]⟩ :: ⟨[.op 16 0, .op 28 0], _, [], List.range 29, [34]⟩ :: ⟨[.op 29 0], _, [], List.range 30, [35]⟩ :: ⟨[.op 30 0, .old 1], _, [], List.range 31, [36]⟩ :: ⟨[.op 30 0, .op 31 0], _, [], List.range 32, [37]⟩ :: ⟨[.op 30 0, .op 32 0], _, [], List.range 33, [38]⟩ :: ⟨[.op 33 0, .old 0], _, [], List.range 34, [39]⟩ :: ⟨[.op 33 0, .op 34 0], _, [], List.range 35, [40]⟩ :: ⟨[.op 33 0, .op 35 0], _, [], List.range 36, [41]⟩ :: ⟨[.op 30 0, .op 33 0, .op 36 0], _, [], List.range 37, [42]⟩ :: ⟨[.op 30 0, .op 37 0], _, [], List.range 38, [43]⟩ :: ⟨[.op 38 0], _, [], List.range 39, [44]⟩ :: ⟨[.op 39 0, .old 1], _, [], List.range 40, [45]⟩ :: ⟨[.op 39 0, .op 40 0], _, [], List.range 41, [46]⟩ :: ⟨[.op 39 0, .op 41 0], _, [], List.range 42, [47]⟩ :: ⟨[.op 42 0, .old 0], _, [], List.range 43, [48]⟩ :: ⟨[.op 42 0, .op 43 0], _, [], List.range 44, [49]⟩ :: ⟨[.op 42 0, .op 44 0], _, [], List.range 45, [50]⟩ :: ⟨[.op 42 0, .op 45 0], _, [], List.range 46, [51]⟩ :: ⟨[.op 46 0, .old 0], _, [], List.range 47, [52]⟩ :: ⟨[.op 46 0, .op 47 0], _, [], List.range 48, [53]⟩ :: ⟨[.op 46 0, .op 48 0], _, [], List.range 49, [54]⟩ :: ⟨[.op 46 0, .op 49 0], _, [], List.range 50, [55]⟩ :: ⟨[.op 42 0, .op 46 0, .op 50 0], _, [], List.range 51, [56]⟩ :: ⟨[.op 39 0, .op 42 0, .op 51 0], _, [], List.range 52, [57]⟩ :: ⟨[.op 39 0, .op 52 0], _, [], List.range 53, [58]⟩ :: ⟨[.op 53 0], _, [], List.range 54, [4]⟩ :: []) (F := [.op 54 0]) hst hb follows
    (o_p rfl (ob_fieldAddr fl_72_0 rfl rfl u_0) <|
     o_p rfl (ob_load ty_4 rfl rfl u_0) <|
     o_p rfl (ob_move rfl rfl u_0) <|
     o_g (g_f rfl rfl rfl (fun hG => ob_fieldAddr fl_25_6 rfl rfl u_0)) <|
     o_g (g_f rfl rfl rfl (fun hG => ob_load ty_9 rfl rfl (Opd.gd hG u_0))) <|
     o_g (g_f rfl rfl rfl (fun hG => ob_seq rfl rfl (Opd.gd hG u_0) c_s)) <|
     o_p rfl (ob_por rfl rfl u_0 (fun hz => (Opd.gd (bNF hz) u_1))) <|
     o_p rfl (ob_move rfl rfl u_0) <|
     o_g (g_t rfl rfl rfl (fun hG => ob_fieldAddr fl_72_1 rfl rfl u_0)) <|
     o_g (g_t rfl rfl rfl (fun hG => ob_load ty_4 rfl rfl (Opd.gd hG u_0))) <|
     o_g (g_t rfl rfl rfl (fun hG => ob_move rfl rfl (Opd.gd hG u_0))) <|
     o_g (g_fi rfl rfl rfl (fun hG => ob_fieldAddr fl_25_1 rfl rfl u_0)) <|
     o_g (g_fi rfl rfl rfl (fun hG => ob_load ty_2 rfl rfl (Opd.gd hG u_0))) <|
     o_g (g_fi rfl rfl rfl (fun hG => ob_eq rfl rfl (Opd.gd hG u_0) c_i)) <|
     o_g (g_t rfl rfl rfl (fun hG => ob_por rfl rfl (Opd.gd hG u_0) (fun hz => (Opd.gd (bA hG (bNF hz)) u_1)))) <|
     o_p rfl (ob_pand rfl rfl u_0 (fun hz => (Opd.gd hz u_1))) <|
     o_p rfl (ob_move rfl rfl u_0) <|
     o_g (g_t rfl rfl rfl (fun hG => ob_fieldAddr fl_72_2 rfl rfl u_0)) <|
     o_g (g_t rfl rfl rfl (fun hG => ob_load ty_4 rfl rfl (Opd.gd hG u_0))) <|
     o_g (g_t rfl rfl rfl (fun hG => ob_move rfl rfl (Opd.gd hG u_0))) <|
     o_g (g_fi rfl rfl rfl (fun hG => ob_fieldAddr fl_25_2 rfl rfl u_0)) <|
     o_g (g_fi rfl rfl rfl (fun hG => ob_load ty_2 rfl rfl (Opd.gd hG u_0))) <|
     o_g (g_fi rfl rfl rfl (fun hG => ob_eq rfl rfl (Opd.gd hG u_0) c_i)) <|
     o_g (g_fi rfl rfl rfl (fun hG => ob_move rfl rfl (Opd.gd hG u_0))) <|
     o_g (g_ti rfl rfl rfl (fun hG => ob_fieldAddr fl_25_3 rfl rfl u_0)) <|
     o_g (g_ti rfl rfl rfl (fun hG => ob_load ty_2 rfl rfl (Opd.gd hG u_0))) <|
     o_g (g_ti rfl rfl rfl (fun hG => ob_eq rfl rfl (Opd.gd hG u_0) c_i)) <|
     o_g (g_fi rfl rfl rfl (fun hG => ob_pand rfl rfl (Opd.gd hG u_0) (fun hz => (Opd.gd (bA hG hz) u_1)))) <|
     o_g (g_t rfl rfl rfl (fun hG => ob_por rfl rfl (Opd.gd hG u_0) (fun hz => (Opd.gd (bA hG (bNF hz)) u_1)))) <|
     o_p rfl (ob_pand rfl rfl u_0 (fun hz => (Opd.gd hz u_1))) <|
     o_p rfl (ob_move rfl rfl u_0) <|
     o_g (g_t rfl rfl rfl (fun hG => ob_fieldAddr fl_72_3 rfl rfl u_0)) <|
     o_g (g_t rfl rfl rfl (fun hG => ob_load ty_4 rfl rfl (Opd.gd hG u_0))) <|
     o_g (g_t rfl rfl rfl (fun hG => ob_move rfl rfl (Opd.gd hG u_0))) <|
     o_g (g_fi rfl rfl rfl (fun hG => ob_fieldAddr fl_25_4 rfl rfl u_0)) <|
     o_g (g_fi rfl rfl rfl (fun hG => ob_load ty_22 rfl rfl (Opd.gd hG u_0))) <|
     o_g (g_fi rfl rfl rfl (fun hG => ob_call en_33 (flo_Same_ok _ _ (gd_true h2 hG)) rfl rfl (.cons (Opd.gd hG u_0) (.cons c_f .nil)))) <|
     o_g (g_t rfl rfl rfl (fun hG => ob_por rfl rfl (Opd.gd hG u_0) (fun hz => (Opd.gd (bA hG (bNF hz)) u_1)))) <|
     o_p rfl (ob_pand rfl rfl u_0 (fun hz => (Opd.gd hz u_1))) <|
     o_p rfl (ob_move rfl rfl u_0) <|
     o_g (g_t rfl rfl rfl (fun hG => ob_fieldAddr fl_72_4 rfl rfl u_0)) <|
     o_g (g_t rfl rfl rfl (fun hG => ob_load ty_4 rfl rfl (Opd.gd hG u_0))) <|
     o_g (g_t rfl rfl rfl (fun hG => ob_move rfl rfl (Opd.gd hG u_0))) <|
     o_g (g_fi rfl rfl rfl (fun hG => ob_fieldAddr fl_25_5 rfl rfl u_0)) <|
     o_g (g_fi rfl rfl rfl (fun hG => ob_load ty_3 rfl rfl (Opd.gd hG u_0))) <|
     o_g (g_fi rfl rfl rfl (fun hG => ob_eq rfl rfl (Opd.gd hG u_0) c_i)) <|
     o_g (g_fi rfl rfl rfl (fun hG => ob_move rfl rfl (Opd.gd hG u_0))) <|
     o_g (g_ti rfl rfl rfl (fun hG => ob_fieldAddr fl_25_7 rfl rfl u_0)) <|
     o_g (g_ti rfl rfl rfl (fun hG => ob_load ty_23 rfl rfl (Opd.gd hG u_0))) <|
     o_g (g_ti rfl rfl rfl (fun hG => ob_lenL Tryd.underlying23 rfl rfl (Opd.gd hG u_0))) <|
     o_g (g_ti rfl rfl rfl (fun hG => ob_eq rfl rfl (Opd.gd hG u_0) c_i)) <|
     o_g (g_fi rfl rfl rfl (fun hG => ob_pand rfl rfl (Opd.gd hG u_0) (fun hz => (Opd.gd (bA hG hz) u_1)))) <|
     o_g (g_t rfl rfl rfl (fun hG => ob_por rfl rfl (Opd.gd hG u_0) (fun hz => (Opd.gd (bA hG (bNF hz)) u_1)))) <|
     o_p rfl (ob_pand rfl rfl u_0 (fun hz => (Opd.gd hz u_1))) <|
     o_p rfl (ob_assign rfl rfl u_0) <|
     o_n) (by kernel_rfl) (fun a g hst hb => ?_)
  refine wp_ret ?_
  obtain rfl := Option.some.inj H0
  exact endR1 rfl hst hb (res_tmp (s := 4)) (hst.at 0 rfl)
end Go.CL

set_option linter.unusedVariables false
set_option linter.unusedSimpArgs false
set_option maxRecDepth 100000
namespace Go.CL
open Go Go.RowKit Go.Proofs
theorem flo_Proper_ok (a0 : Nat) {r : Bool} (h : flo_Proper a0 = some r) : FnOk Tryd.prog 44 [(pFlt a0)] (pBool r) := by
  have H0 := h
  unfold flo_Proper at H0
  clear h
  refine fn_ok (N := 9) Tryd.func44 rfl rfl (Nat.le_of_ble_eq_true rfl) rfl rfl (fun a g0 hst hb => ?_)
  refine r_s (L := [(0, _)]) (T := [⟨[], _, [], [], [2]⟩]) (F := [.old 0]) hst hb follows
    (o_p rfl (ob_assign rfl rfl c_b) <|
     o_n) (by kernel_rfl) (fun a g hst hb => ?_)
  obtain ⟨r1, h2, H0⟩ := of_bind H0
  refine r_s (L := [(0, _)]) (T := [⟨[.old 0], _, [], [], [3]⟩, ⟨[.op 0 0], _, [], [0], [4]⟩, ⟨[.old 0], _, [], [], [5]⟩, ⟨[.op 2 0], _, [], [0, 1, 2], [6]⟩, ⟨[.op 3 0], _, [], List.range 4, [7]⟩, ⟨[.op 1 0, .op 4 0], _, [], List.range 5, [8]⟩, ⟨[.op 5 0], _, [], List.range 6, [2]⟩]) (F := [.op 6 0]) hst hb follows
    (o_p rfl (ob_move rfl rfl u_0) <|
     o_p rfl (ob_bits ex_79 rfl rfl u_0) <|
     o_p rfl (ob_move rfl rfl u_0) <|
     o_p rfl (ob_call en_82 (flo_Canon_ok _ h2) rfl rfl (.cons u_0 .nil)) <|
     o_p rfl (ob_bits ex_79 rfl rfl u_0) <|
     o_p rfl (ob_eq rfl rfl u_0 u_1) <|
     o_p rfl (ob_assign rfl rfl u_0) <|
     o_n) (by kernel_rfl) (fun a g hst hb => ?_)
  refine wp_ret ?_
  obtain rfl := Option.some.inj H0
  exact endR1 rfl hst hb (res_tmp (s := 2)) (hst.at 0 rfl)
end Go.CL

set_option linter.unusedVariables false
set_option linter.unusedSimpArgs false
set_option maxRecDepth 100000
namespace Go.CL
open Go Go.RowKit Go.Proofs
theorem flo_Less_ok (a0 : Nat) (a1 : Nat) {r : Bool} (h : flo_Less a0 a1 = some r) : FnOk Tryd.prog 86 [(pFlt a0), (pFlt a1)] (pBool r) := by
  have H0 := h
  unfold flo_Less at H0
  clear h
  refine fn_ok (N := 10) Tryd.func86 rfl rfl (Nat.le_of_ble_eq_true rfl) rfl rfl (fun a g0 hst hb => ?_)
  refine r_s (L := [(0, _), (1, _)]) (T := [⟨[], _, [], [], [4]⟩]) (F := [.old 0, .old 1]) hst hb follows
    (o_p rfl (ob_assign rfl rfl c_b) <|
     o_n) (by kernel_rfl) (fun a g hst hb => ?_)
  obtain ⟨r1, h2, H0⟩ := of_bind H0; obtain ⟨r3, h4, H0⟩ := of_bind H0
  refine r_s (L := [(0, _), (1, _)]) (T := [⟨[.old 0], _, [], [], [5]⟩, ⟨[.op 0 0], _, [], [0], [6]⟩, ⟨[.old 1], _, [], [], [7]⟩, ⟨[.op 2 0], _, [], [0, 1, 2], [8]⟩, ⟨[.op 1 0, .op 3 0], _, [], List.range 4, [9]⟩, ⟨[.op 4 0], _, [], List.range 5, [4]⟩]) (F := [.op 5 0]) hst hb follows
    (o_p rfl (ob_move rfl rfl u_0) <|
     o_p rfl (ob_call en_76 (flo_Key_ok _ h2) rfl rfl (.cons u_0 .nil)) <|
     o_p rfl (ob_move rfl rfl u_0) <|
     o_p rfl (ob_call en_76 (flo_Key_ok _ h4) rfl rfl (.cons u_0 .nil)) <|
     o_p rfl (ob_lt rfl rfl u_0 u_1) <|
     o_p rfl (ob_assign rfl rfl u_0) <|
     o_n) (by kernel_rfl) (fun a g hst hb => ?_)
  refine wp_ret ?_
  obtain rfl := Option.some.inj H0
  exact endR1 rfl hst hb (res_tmp (s := 4)) (hst.at 0 rfl)
end Go.CL

set_option linter.unusedVariables false
set_option linter.unusedSimpArgs false
set_option maxRecDepth 100000
namespace Go.CL
open Go Go.RowKit Go.Proofs
theorem rec_Better_ok (a0 : api_Item) (a1 : api_Item) {r : Bool} (h : rec_Better a0 a1 = some r) : FnOk Tryd.prog 83 [(k_api_Item.pd a0), (k_api_Item.pd a1)] (pBool r) := by
  have H0 := h
  unfold rec_Better at H0
  clear h
  refine fn_ok (N := 21) Tryd.func83 rfl rfl (Nat.le_of_ble_eq_true rfl) rfl rfl (fun a g0 hst hb => ?_)
  refine r_s (L := [(0, _), (1, _)]) (T := [⟨[.old 0], _, [], [], [2]⟩, ⟨[.old 1], _, [], [], [3]⟩, ⟨[], _, [], [], [4]⟩]) (F := [.op 0 0, .op 1 0]) hst hb follows
    (o_p rfl (ob_box1 rfl rfl u_0) <|
     o_p rfl (ob_box1 rfl rfl u_0) <|
     o_p rfl (ob_assign rfl rfl c_b) <|
     o_n) (by kernel_rfl) (fun a g hst hb => ?_)
  refine wp_seq ?_
  obtain ⟨r1, h2, H0⟩ := of_bind H0
  refine r_s (L := [(2, _), (3, _)]) (T := [⟨[.old 0], _, [], [], [5]⟩, ⟨[.op 0 0], _, [], [0], [6]⟩, ⟨[.old 1], _, [], [], [7]⟩, ⟨[.op 2 0], _, [], [2], [8]⟩, ⟨[.op 1 0, .op 3 0], _, [], List.range 4, [9]⟩, ⟨[.op 4 0], _, [], List.range 5, [10]⟩]) (F := [.old 0, .old 1, .op 5 0]) hst hb follows
    (o_p rfl (ob_fieldAddr fl_48_0 rfl rfl u_0) <|
     o_p rfl (ob_load ty_22 rfl rfl u_0) <|
     o_p rfl (ob_fieldAddr fl_48_0 rfl rfl u_0) <|
     o_p rfl (ob_load ty_22 rfl rfl u_0) <|
     o_p rfl (ob_call en_33 (flo_Same_ok _ _ h2) rfl rfl (.cons u_0 (.cons u_1 .nil))) <|
     o_p rfl (ob_not rfl rfl u_0) <|
     o_n) (by kernel_rfl) (fun a g hst hb => ?_)
  refine wp_cond_split (hst.bool 2 rfl) (fun hc3 => ?_) (fun hc3 => ?_)
  · replace H0 := ite_t hc3 H0
    obtain ⟨r4, h5, H0⟩ := of_bind H0
    refine r_s (L := [(2, _), (3, _)]) (T := [⟨[.old 1], _, [], [], [11]⟩, ⟨[.op 0 0], _, [], [0], [12]⟩, ⟨[.old 0], _, [], [], [13]⟩, ⟨[.op 2 0], _, [], [2], [14]⟩, ⟨[.op 1 0, .op 3 0], _, [], List.range 4, [15]⟩, ⟨[.op 4 0], _, [], List.range 5, [4]⟩]) (F := [.op 5 0]) (hst.pick [0, 1] rfl) hb follows
      (o_p rfl (ob_fieldAddr fl_48_0 rfl rfl u_0) <|
       o_p rfl (ob_load ty_22 rfl rfl u_0) <|
       o_p rfl (ob_fieldAddr fl_48_0 rfl rfl u_0) <|
       o_p rfl (ob_load ty_22 rfl rfl u_0) <|
       o_p rfl (ob_call en_86 (flo_Less_ok _ _ h5) rfl rfl (.cons u_0 (.cons u_1 .nil))) <|
       o_p rfl (ob_assign rfl rfl u_0) <|
       o_n) (by kernel_rfl) (fun a g hst hb => ?_)
    refine wp_ret ?_
    refine then_r ?_
    obtain rfl := Option.some.inj H0
    exact endR1 rfl hst hb (res_tmp (s := 4)) (hst.at 0 rfl)
  · replace H0 := ite_f hc3 H0
    refine wp_skip ?_
    refine then_n ?_
    refine r_s (L := [(2, _), (3, _)]) (T := [⟨[.old 0], _, [], [], [16]⟩, ⟨[.op 0 0], _, [], [0], [17]⟩, ⟨[.old 1], _, [], [], [18]⟩, ⟨[.op 2 0], _, [], [2], [19]⟩, ⟨[.op 1 0, .op 3 0], _, [], List.range 4, [20]⟩, ⟨[.op 4 0], _, [], List.range 5, [4]⟩]) (F := [.op 5 0]) (hst.pick [0, 1] rfl) hb follows
      (o_p rfl (ob_fieldAddr fl_48_1 rfl rfl u_0) <|
       o_p rfl (ob_load ty_9 rfl rfl u_0) <|
       o_p rfl (ob_fieldAddr fl_48_1 rfl rfl u_0) <|
       o_p rfl (ob_load ty_9 rfl rfl u_0) <|
       o_p rfl (ob_slt rfl rfl u_0 u_1) <|
       o_p rfl (ob_assign rfl rfl u_0) <|
       o_n) (by kernel_rfl) (fun a g hst hb => ?_)
    refine wp_ret ?_
    obtain rfl := Option.some.inj H0
    exact endR1 rfl hst hb (res_tmp (s := 4)) (hst.at 0 rfl)
end Go.CL

set_option linter.unusedVariables false
set_option linter.unusedSimpArgs false
set_option maxRecDepth 100000
namespace Go.CL
open Go Go.RowKit Go.Proofs
theorem rec_items_ok (a0 : Int) (a1 : List api_Item) {r : Int} (h : rec_items a0 a1 = some r) : FnOk Tryd.prog 45 [(pInt .i64 a0), (k_api_Item.sl.pd a1)] (pInt .i64 r) := by
  have H0 := h
  unfold rec_items at H0
  clear h
  refine fn_ok (N := 70) Tryd.func45 rfl rfl (Nat.le_of_ble_eq_true rfl) rfl rfl (fun a g0 hst hb => ?_)
  refine r_s (L := [(0, _), (1, _)]) (T := [⟨[], _, [], [], [4]⟩]) (F := [.old 0, .old 1]) hst hb follows
    (o_p rfl (ob_assign rfl rfl c_i) <|
     o_n) (by kernel_rfl) (fun a g hst hb => ?_)
  refine wp_seq ?_
  refine r_s (L := [(0, _), (1, _)]) (T := [⟨[.old 1], _, [], [], [7]⟩, ⟨[.op 0 0], _, [], [0], [8]⟩, ⟨[], _, [], [], [9]⟩]) (F := [.old 0, .old 1, .op 0 0, .op 1 0, .op 2 0]) hst hb follows
    (o_p rfl (ob_move rfl rfl u_0) <|
     o_p rfl (ob_lenL Tryd.underlying23 rfl rfl u_0) <|
     o_p rfl (ob_move rfl rfl c_i) <|
     o_n) (by kernel_rfl) (fun a g hst hb => ?_)
  obtain ⟨z19, hz1, H0⟩ := of_bind H0
  refine wp_cut (fun a w => ∃ (g : G), w = g.w ∧ St 70 [] a g ∧ Base g0 g ∧ (.inr ()) = z19) ?_ ?_
  · rintro a w ⟨g, rfl, hst, hb, rfl⟩
    refine then_n ?_
    refine r_s (L := []) (T := [⟨[], _, [], [], [4]⟩]) (F := [.op 0 0]) hst hb follows
      (o_p rfl (ob_assign rfl rfl c_i) <|
       o_n) (by kernel_rfl) (fun a g hst hb => ?_)
    refine wp_ret ?_
    obtain rfl := Option.some.inj H0
    exact endR1 rfl hst hb (res_tmp (s := 4)) (hst.at 0 rfl)
  · refine wp_block ?_
    refine wp_loop_ghost (fun n a w => ∃ (x1 : Int) (g : G), w = g.w ∧ St 70 [(0, (pInt .i64 a0)), (1, (k_api_Item.sl.pd a1)), (7, (k_api_Item.sl.pd a1)), (8, (pInt .i64 (a1.length : Int))), (9, (pInt .i64 x1))] a g ∧ Base g0 g ∧ rec_items_l1 a0 a1 n x1 = some z19) (Int.toNat ((a1.length : Int) - (0 : Int)) + 1) ⟨(0 : Int), g, rfl, (hst.pick [0, 1, 2, 3, 4] rfl), hb, hz1⟩ (fun n a w hI => ?_)
    obtain ⟨x1, g, rfl, hst, hb, H1⟩ := hI
    cases n with
    | zero => exact absurd H1 (by simp [rec_items_l1])
    | succ n =>
      rw [rec_items_l1] at H1
      refine r_s (L := [(0, _), (1, _), (7, _), (8, _), (9, _)]) (T := [⟨[.old 4, .old 3], _, [], [], [10]⟩]) (F := [.old 0, .old 1, .old 2, .old 3, .old 4, .op 0 0]) hst hb follows
        (o_p rfl (ob_lt rfl rfl u_0 u_1) <|
         o_n) (by kernel_rfl) (fun a g hst hb => ?_)
      refine wp_seq ?_
      refine wp_cond_split (hst.bool 5 rfl) (fun hc2 => ?_) (fun hc2 => ?_)
      · replace H1 := ite_t hc2 H1
        refine wp_skip ?_
        refine then_n ?_
        refine wp_seq ?_
        refine wp_block ?_
        obtain ⟨e3, h4, H1⟩ := of_bind H1
        refine r_s (L := [(0, _), (1, _), (7, _), (8, _), (9, _)]) (T := [⟨[.old 4], _, [], [], [11]⟩, ⟨[.old 2, .old 4], _, [], [], [12]⟩, ⟨[.op 1 0], _, [], [1], [13]⟩, ⟨[], [(6, (pBox k_api_Item 6 (default : api_Item)))], [7], [], [6]⟩, ⟨[.op 0 0], _, [], List.range 4, [5]⟩, ⟨[.op 2 0, .op 3 0], _, [7], List.range 5, [6]⟩]) (F := [.old 0, .old 1, .op 4 0, .op 5 0, .old 2, .old 3, .old 4]) (hst.pick [0, 1, 2, 3, 4] rfl) hb follows
          (o_p rfl (ob_move rfl rfl u_0) <|
           o_p rfl (ob_indexAddr Tryd.underlying23 sz_48 rfl rfl u_0 u_1 h4) <|
           o_p rfl (ob_load ty_48 rfl rfl u_0) <|
           o_p rfl (ob_alloc (zs := [.float .f64 0, .string ByteArray.empty]) (by kernel_rfl) (fun g => zk_api_Item g) rfl rfl) <|
           o_p rfl (ob_assign rfl rfl u_0) <|
           o_p rfl (ob_storeF ty_48 rfl rfl u_1 u_0) <|
           o_n) (by kernel_rfl) (fun a g hst hb => ?_)
        refine wp_block ?_
        refine r_s (L := [(0, _), (1, _), (5, _), (6, _), (7, _), (8, _), (9, _)]) (T := [⟨[.old 3], _, [], [], [15]⟩, ⟨[.op 0 0], _, [], [0], [16]⟩, ⟨[.op 1 0], _, [], [0, 1], [17]⟩, ⟨[.op 2 0], _, [], [0, 1, 2], [18]⟩, ⟨[.op 3 0], _, [], List.range 4, [14]⟩]) (F := [.old 0, .old 1, .old 2, .old 3, .old 4, .old 5, .old 6, .op 4 0]) hst hb follows
          (o_p rfl (ob_fieldAddr fl_48_1 rfl rfl u_0) <|
           o_p rfl (ob_load ty_9 rfl rfl u_0) <|
           o_p rfl (ob_lenS Tryd.underlying9 rfl rfl u_0) <|
           o_p rfl (ob_gt rfl rfl u_0 c_i) <|
           o_p rfl (ob_assign rfl rfl u_0) <|
           o_n) (by kernel_rfl) (fun a g hst hb => ?_)
        refine wp_cond_split (hst.bool 7 rfl) (fun hc5 => ?_) (fun hc5 => ?_)
        · replace H1 := ite_t hc5 H1
          refine r_s (L := []) (T := [⟨[], _, [], [], [4]⟩]) (F := [.op 0 0]) (hst.pick [] rfl) hb follows
            (o_p rfl (ob_assign rfl rfl c_i) <|
             o_n) (by kernel_rfl) (fun a g hst hb => ?_)
          refine wp_ret ?_
          refine inBlock_r ?_
          refine inBlock_r ?_
          refine then_r ?_
          refine then_r ?_
          refine inBlock_r ?_
          refine then_r ?_
          refine then_r ?_
          obtain rfl := Option.some.inj H1
          obtain rfl := Option.some.inj H0
          exact endR1 rfl hst hb (res_tmp (s := 4)) (hst.at 0 rfl)
        · replace H1 := ite_f hc5 H1
          obtain ⟨r6, h7, H1⟩ := of_bind H1; obtain ⟨r8, h9, H1⟩ := of_bind H1
          refine r_s (L := [(0, _), (1, _), (5, _), (6, _), (7, _), (8, _), (9, _)]) (T := ⟨[.old 0], _, [], [], [20]⟩ :: ⟨[.op 0 0], _, [], [0], [21]⟩ :: ⟨[.op 1 0], _, [], [0, 1], [22]⟩ :: ⟨[.op 2 0, .old 3], _, [], [0, 1, 2], [23]⟩ :: ⟨[.op 2 0, .op 3 0], _, [], List.range 4, [24]⟩ :: ⟨[.op 2 0, .op 4 0], _, [], List.range 5, [25]⟩ :: ⟨[.op 2 0, .op 5 0], _, [], List.range 6, [26]⟩ :: ⟨[.op 2 0, .op 6 0], _, [], List.range 7, [27]⟩ :: ⟨[.op 7 0], _, [], List.range 8, [28]⟩ :: ⟨[.op 8 0, .old 3], _, [], List.range 9, [29]⟩ :: ⟨[.op 8 0, .op 9 0], _, [], List.range 10, [30]⟩ :: ⟨[.op 8 0, .op 10 0], _, [], List.range 11, [31]⟩ :: ⟨[.op 8 0, .op 11 0], _, [], List.range 12, [32]⟩ :: ⟨[.op 8 0, .op 12 0], _, [], List.range 13, [33]⟩ :: ⟨[.op 13 0], _, [], List.range 14, [19]⟩ :: []) (F := [.old 0, .old 1, .old 2, .old 3, .old 4, .old 5, .old 6, .op 14 0]) (hst.pick [0, 1, 2, 3, 4, 5, 6] rfl) hb follows
            (o_p rfl (ob_move rfl rfl u_0) <|
             o_p rfl (ob_eq rfl rfl u_0 c_i) <|
             o_p rfl (ob_move rfl rfl u_0) <|
             o_g (g_t rfl rfl rfl (fun hG => ob_fieldAddr fl_48_0 rfl rfl u_0)) <|
             o_g (g_t rfl rfl rfl (fun hG => ob_load ty_22 rfl rfl (Opd.gd hG u_0))) <|
             o_g (g_t rfl rfl rfl (fun hG => ob_call en_33 (flo_Same_ok _ _ (gd_true h7 hG)) rfl rfl (.cons (Opd.gd hG u_0) (.cons c_f .nil)))) <|
             o_g (g_t rfl rfl rfl (fun hG => ob_not rfl rfl (Opd.gd hG u_0))) <|
             o_p rfl (ob_pand rfl rfl u_0 (fun hz => (Opd.gd hz u_1))) <|
             o_p rfl (ob_move rfl rfl u_0) <|
             o_g (g_f rfl rfl rfl (fun hG => ob_fieldAddr fl_48_0 rfl rfl u_0)) <|
             o_g (g_f rfl rfl rfl (fun hG => ob_load ty_22 rfl rfl (Opd.gd hG u_0))) <|
             o_g (g_f rfl rfl rfl (fun hG => ob_call en_44 (flo_Proper_ok _ (gd_true h9 hG)) rfl rfl (.cons (Opd.gd hG u_0) .nil))) <|
             o_g (g_f rfl rfl rfl (fun hG => ob_not rfl rfl (Opd.gd hG u_0))) <|
             o_p rfl (ob_por rfl rfl u_0 (fun hz => (Opd.gd (bNF hz) u_1))) <|
             o_p rfl (ob_assign rfl rfl u_0) <|
             o_n) (by kernel_rfl) (fun a g hst hb => ?_)
          refine wp_cond_split (hst.bool 7 rfl) (fun hc10 => ?_) (fun hc10 => ?_)
          · replace H1 := ite_t hc10 H1
            refine r_s (L := []) (T := [⟨[], _, [], [], [4]⟩]) (F := [.op 0 0]) (hst.pick [] rfl) hb follows
              (o_p rfl (ob_assign rfl rfl c_i) <|
               o_n) (by kernel_rfl) (fun a g hst hb => ?_)
            refine wp_ret ?_
            refine inBlock_r ?_
            refine inBlock_r ?_
            refine then_r ?_
            refine then_r ?_
            refine inBlock_r ?_
            refine then_r ?_
            refine then_r ?_
            obtain rfl := Option.some.inj H1
            obtain rfl := Option.some.inj H0
            exact endR1 rfl hst hb (res_tmp (s := 4)) (hst.at 0 rfl)
          · replace H1 := ite_f hc10 H1
            obtain ⟨e11, h12, H1⟩ := of_bind H1
            refine r_s (L := [(0, _), (1, _), (5, _), (6, _), (7, _), (8, _), (9, _)]) (T := ⟨[.old 2], _, [], [], [35]⟩ :: ⟨[.op 0 0], _, [], [0], [36]⟩ :: ⟨[.op 1 0], _, [], [0, 1], [37]⟩ :: ⟨[.op 2 0, .old 0], _, [], [0, 1, 2], [38]⟩ :: ⟨[.op 2 0, .op 3 0], _, [], List.range 4, [39]⟩ :: ⟨[.op 2 0, .op 4 0], _, [], List.range 5, [40]⟩ :: ⟨[.op 5 0], _, [], List.range 6, [41]⟩ :: ⟨[.op 6 0, .old 1], _, [], List.range 7, [42]⟩ :: ⟨[.op 6 0, .old 2], _, [], List.range 7, [43]⟩ :: ⟨[.op 6 0, .op 8 0], _, [], [0, 1, 2, 3, 4, 5, 6, 8], [44]⟩ :: ⟨[.op 6 0, .op 7 0, .op 9 0], _, [], List.range 10, [45]⟩ :: ⟨[.op 6 0, .op 10 0], _, [], List.range 11, [46]⟩ :: ⟨[.op 6 0, .op 11 0], _, [], List.range 12, [47]⟩ :: ⟨[.op 6 0, .old 3], _, [], List.range 7, [48]⟩ :: ⟨[.op 6 0, .op 13 0], _, [], [0, 1, 2, 3, 4, 5, 6, 13], [49]⟩ :: ⟨[.op 6 0, .op 12 0, .op 14 0], _, [], List.range 15, [50]⟩ :: ⟨[.op 6 0, .op 15 0], _, [], List.range 16, [51]⟩ :: ⟨[.op 16 0], _, [], List.range 17, [34]⟩ :: []) (F := [.old 0, .old 1, .old 2, .old 3, .old 4, .old 5, .old 6, .op 17 0]) (hst.pick [0, 1, 2, 3, 4, 5, 6] rfl) hb follows
              (o_p rfl (ob_move rfl rfl u_0) <|
               o_p rfl (ob_gt rfl rfl u_0 c_i) <|
               o_p rfl (ob_move rfl rfl u_0) <|
               o_g (g_t rfl rfl rfl (fun hG => ob_move rfl rfl u_0)) <|
               o_g (g_t rfl rfl rfl (fun hG => ob_eq rfl rfl (Opd.gd hG u_0) c_i)) <|
               o_p rfl (ob_pand rfl rfl u_0 (fun hz => (Opd.gd hz u_1))) <|
               o_p rfl (ob_move rfl rfl u_0) <|
               o_g (g_t rfl rfl rfl (fun hG => ob_move rfl rfl u_0)) <|
               o_g (g_t rfl rfl rfl (fun hG => ob_move rfl rfl u_0)) <|
               o_g (g_t rfl rfl rfl (fun hG => ob_sub rfl rfl (Opd.gd hG u_0) c_i rfl)) <|
               o_g (g_t rfl rfl rfl (fun hG => ob_indexAddr Tryd.underlying23 sz_48 rfl rfl (Opd.gd hG u_0) (Opd.gd hG u_1) (gd_true h12 hG))) <|
               o_g (g_t rfl rfl rfl (fun hG => ob_fieldAddr fl_48_1 rfl rfl (Opd.gd hG u_0))) <|
               o_g (g_t rfl rfl rfl (fun hG => ob_load ty_9 rfl rfl (Opd.gd hG u_0))) <|
               o_g (g_t rfl rfl rfl (fun hG => ob_fieldAddr fl_48_1 rfl rfl u_0)) <|
               o_g (g_t rfl rfl rfl (fun hG => ob_load ty_9 rfl rfl (Opd.gd hG u_0))) <|
               o_g (g_t rfl rfl rfl (fun hG => ob_sge rfl rfl (Opd.gd hG u_0) (Opd.gd hG u_1))) <|
               o_p rfl (ob_pand rfl rfl u_0 (fun hz => (Opd.gd hz u_1))) <|
               o_p rfl (ob_assign rfl rfl u_0) <|
               o_n) (by kernel_rfl) (fun a g hst hb => ?_)
            refine wp_cond_split (hst.bool 7 rfl) (fun hc13 => ?_) (fun hc13 => ?_)
            · replace H1 := ite_t hc13 H1
              refine r_s (L := []) (T := [⟨[], _, [], [], [4]⟩]) (F := [.op 0 0]) (hst.pick [] rfl) hb follows
                (o_p rfl (ob_assign rfl rfl c_i) <|
                 o_n) (by kernel_rfl) (fun a g hst hb => ?_)
              refine wp_ret ?_
              refine inBlock_r ?_
              refine inBlock_r ?_
              refine then_r ?_
              refine then_r ?_
              refine inBlock_r ?_
              refine then_r ?_
              refine then_r ?_
              obtain rfl := Option.some.inj H1
              obtain rfl := Option.some.inj H0
              exact endR1 rfl hst hb (res_tmp (s := 4)) (hst.at 0 rfl)
            · replace H1 := ite_f hc13 H1
              obtain ⟨e14, h15, H1⟩ := of_bind H1; obtain ⟨r16, h17, H1⟩ := of_bind H1
              refine r_s (L := [(0, _), (1, _), (5, _), (6, _), (7, _), (8, _), (9, _)]) (T := ⟨[.old 2], _, [], [], [53]⟩ :: ⟨[.op 0 0], _, [], [0], [54]⟩ :: ⟨[.op 1 0], _, [], [0, 1], [55]⟩ :: ⟨[.op 2 0, .old 0], _, [], [0, 1, 2], [56]⟩ :: ⟨[.op 2 0, .op 3 0], _, [], List.range 4, [57]⟩ :: ⟨[.op 2 0, .op 4 0], _, [], List.range 5, [58]⟩ :: ⟨[.op 5 0], _, [], List.range 6, [59]⟩ :: ⟨[.op 6 0, .old 1], _, [], List.range 7, [60]⟩ :: ⟨[.op 6 0, .old 2], _, [], List.range 7, [61]⟩ :: ⟨[.op 6 0, .op 8 0], _, [], [0, 1, 2, 3, 4, 5, 6, 8], [62]⟩ :: ⟨[.op 6 0, .op 7 0, .op 9 0], _, [], List.range 10, [63]⟩ :: ⟨[.op 6 0, .op 10 0], _, [], List.range 11, [64]⟩ :: ⟨[.op 6 0, .old 3], _, [], List.range 7, [65]⟩ :: ⟨[.op 6 0, .op 11 0, .op 12 0], _, [], List.range 13, [66]⟩ :: ⟨[.op 6 0, .op 13 0], _, [], List.range 14, [67]⟩ :: ⟨[.op 6 0, .op 14 0], _, [], List.range 15, [68]⟩ :: ⟨[.op 15 0], _, [], List.range 16, [52]⟩ :: []) (F := [.old 0, .old 1, .old 4, .old 5, .old 6, .op 16 0]) (hst.pick [0, 1, 2, 3, 4, 5, 6] rfl) hb follows
                (o_p rfl (ob_move rfl rfl u_0) <|
                 o_p rfl (ob_gt rfl rfl u_0 c_i) <|
                 o_p rfl (ob_move rfl rfl u_0) <|
                 o_g (g_t rfl rfl rfl (fun hG => ob_move rfl rfl u_0)) <|
                 o_g (g_t rfl rfl rfl (fun hG => ob_eq rfl rfl (Opd.gd hG u_0) c_i)) <|
                 o_p rfl (ob_pand rfl rfl u_0 (fun hz => (Opd.gd hz u_1))) <|
                 o_p rfl (ob_move rfl rfl u_0) <|
                 o_g (g_t rfl rfl rfl (fun hG => ob_move rfl rfl u_0)) <|
                 o_g (g_t rfl rfl rfl (fun hG => ob_move rfl rfl u_0)) <|
                 o_g (g_t rfl rfl rfl (fun hG => ob_sub rfl rfl (Opd.gd hG u_0) c_i rfl)) <|
                 o_g (g_t rfl rfl rfl (fun hG => ob_indexAddr Tryd.underlying23 sz_48 rfl rfl (Opd.gd hG u_0) (Opd.gd hG u_1) (gd_true h15 hG))) <|
                 o_g (g_t rfl rfl rfl (fun hG => ob_load ty_48 rfl rfl (Opd.gd hG u_0))) <|
                 o_g (g_t rfl rfl rfl (fun hG => ob_load ty_48 rfl rfl u_0)) <|
                 o_g (g_t rfl rfl rfl (fun hG => ob_call en_83 (rec_Better_ok _ _ (gd_true h17 hG)) rfl rfl (.cons (Opd.gd hG u_0) (.cons (Opd.gd hG u_1) .nil)))) <|
                 o_g (g_t rfl rfl rfl (fun hG => ob_not rfl rfl (Opd.gd hG u_0))) <|
                 o_p rfl (ob_pand rfl rfl u_0 (fun hz => (Opd.gd hz u_1))) <|
                 o_p rfl (ob_assign rfl rfl u_0) <|
                 o_n) (by kernel_rfl) (fun a g hst hb => ?_)
              refine wp_cond_split (hst.bool 5 rfl) (fun hc18 => ?_) (fun hc18 => ?_)
              · replace H1 := ite_t hc18 H1
                refine r_s (L := []) (T := [⟨[], _, [], [], [4]⟩]) (F := [.op 0 0]) (hst.pick [] rfl) hb follows
                  (o_p rfl (ob_assign rfl rfl c_i) <|
                   o_n) (by kernel_rfl) (fun a g hst hb => ?_)
                refine wp_ret ?_
                refine inBlock_r ?_
                refine inBlock_r ?_
                refine then_r ?_
                refine then_r ?_
                refine inBlock_r ?_
                refine then_r ?_
                refine then_r ?_
                obtain rfl := Option.some.inj H1
                obtain rfl := Option.some.inj H0
                exact endR1 rfl hst hb (res_tmp (s := 4)) (hst.at 0 rfl)
              · replace H1 := ite_f hc18 H1
                refine wp_skip ?_
                refine inBlock_n ?_
                refine inBlock_n ?_
                refine then_n ?_
                refine r_g (L := [(0, _), (1, _), (7, _), (8, _), (9, _)]) (T := [⟨[.old 4], _, [], [], [69]⟩, ⟨[.op 0 0], _, [], [0], [9]⟩]) (F := [.old 0, .old 1, .old 2, .old 3, .op 1 0]) (hst.pick [0, 1, 2, 3, 4] rfl) hb follows
                  (o_p rfl (ob_add rfl rfl u_0 c_i rfl) <|
                   o_p rfl (ob_move rfl rfl u_0) <|
                   o_n) (by kernel_rfl) (fun a g hst hb => ?_)
                exact ⟨n, Nat.lt_succ_self _, (IntKind.i64.wrap (x1 + (1 : Int))), g, rfl, (hst.pick [0, 1, 2, 3, 4] rfl), hb, H1⟩
      · replace H1 := ite_f hc2 H1
        refine wp_exit ?_
        refine then_e ?_
        refine then_e ?_
        refine inBlock_e ?_
        exact ⟨g, rfl, (hst.pick [] rfl), hb, Option.some.inj H1⟩
end Go.CL

set_option linter.unusedVariables false
set_option linter.unusedSimpArgs false
set_option maxRecDepth 100000
namespace Go.CL
open Go Go.RowKit Go.Proofs
theorem rec_Check_ok (a0 : api_Record) {r : Int} (h : rec_Check a0 = some r) : FnOk Tryd.prog 21 [(k_api_Record.pd a0)] (pInt .i64 r) := by
  have H0 := h
  unfold rec_Check at H0
  clear h
  refine fn_ok (N := 83) Tryd.func21 rfl rfl (Nat.le_of_ble_eq_true rfl) rfl rfl (fun a g0 hst hb => ?_)
  refine r_s (L := [(0, _)]) (T := [⟨[.old 0], _, [], [], [1]⟩, ⟨[], _, [], [], [2]⟩]) (F := [.op 0 0]) hst hb follows
    (o_p rfl (ob_box1 rfl rfl u_0) <|
     o_p rfl (ob_assign rfl rfl c_i) <|
     o_n) (by kernel_rfl) (fun a g hst hb => ?_)
  obtain ⟨r1, h2, H0⟩ := of_bind H0
  refine r_s (L := [(1, _)]) (T := [⟨[.old 0], _, [], [], [4]⟩, ⟨[.op 0 0], _, [], [0], [5]⟩, ⟨[.op 1 0], _, [], [0, 1], [6]⟩, ⟨[], [(3, (pBox k_rec_shape 3 (default : rec_shape)))], [4], [], [3]⟩, ⟨[.op 2 0, .op 3 0], _, [4], List.range 4, [3]⟩]) (F := [.old 0, .op 4 0]) hst hb follows
    (o_p rfl (ob_fieldAddr fl_25_0 rfl rfl u_0) <|
     o_p rfl (ob_load ty_3 rfl rfl u_0) <|
     o_p rfl (ob_call en_42 (rec_shaped_ok _ h2) rfl rfl (.cons u_0 .nil)) <|
     o_p rfl (ob_alloc (zs := [.bool false, .bool false, .bool false, .bool false, .bool false]) (by kernel_rfl) (fun g => zk_rec_shape g) rfl rfl) <|
     o_p rfl (ob_storeF ty_72 rfl rfl u_1 u_0) <|
     o_n) (by kernel_rfl) (fun a g hst hb => ?_)
  refine wp_seq ?_
  refine wp_block ?_
  refine r_s (L := [(1, _), (3, _)]) (T := [⟨[.old 0], _, [], [], [8]⟩, ⟨[.op 0 0], _, [], [0], [9]⟩, ⟨[.op 1 0], _, [], [0, 1], [10]⟩, ⟨[.op 2 0], _, [], [0, 1, 2], [11]⟩, ⟨[.op 3 0, .old 0], _, [], List.range 4, [12]⟩, ⟨[.op 3 0, .op 4 0], _, [], List.range 5, [13]⟩, ⟨[.op 3 0, .op 5 0], _, [], List.range 6, [14]⟩, ⟨[.op 3 0, .op 6 0], _, [], List.range 7, [15]⟩, ⟨[.op 7 0], _, [], List.range 8, [7]⟩]) (F := [.old 0, .old 1, .op 8 0]) hst hb follows
    (o_p rfl (ob_fieldAddr fl_25_0 rfl rfl u_0) <|
     o_p rfl (ob_load ty_3 rfl rfl u_0) <|
     o_p rfl (ob_le rfl rfl u_0 c_i) <|
     o_p rfl (ob_move rfl rfl u_0) <|
     o_g (g_f rfl rfl rfl (fun hG => ob_fieldAddr fl_25_0 rfl rfl u_0)) <|
     o_g (g_f rfl rfl rfl (fun hG => ob_load ty_3 rfl rfl (Opd.gd hG u_0))) <|
     o_g (g_f rfl rfl rfl (fun hG => ob_ge rfl rfl (Opd.gd hG u_0) c_i)) <|
     o_p rfl (ob_por rfl rfl u_0 (fun hz => (Opd.gd (bNF hz) u_1))) <|
     o_p rfl (ob_assign rfl rfl u_0) <|
     o_n) (by kernel_rfl) (fun a g hst hb => ?_)
  refine wp_cond_split (hst.bool 2 rfl) (fun hc3 => ?_) (fun hc3 => ?_)
  · replace H0 := ite_t hc3 H0
    refine r_s (L := []) (T := [⟨[], _, [], [], [2]⟩]) (F := [.op 0 0]) (hst.pick [] rfl) hb follows
      (o_p rfl (ob_assign rfl rfl c_i) <|
       o_n) (by kernel_rfl) (fun a g hst hb => ?_)
    refine wp_ret ?_
    refine inBlock_r ?_
    refine then_r ?_
    obtain rfl := Option.some.inj H0
    exact endR1 rfl hst hb (res_tmp (s := 2)) (hst.at 0 rfl)
  · replace H0 := ite_f hc3 H0
    obtain ⟨r4, h5, H0⟩ := of_bind H0
    refine r_s (L := [(1, _), (3, _)]) (T := [⟨[.old 0], _, [], [], [17]⟩, ⟨[.old 1], _, [], [], [18]⟩, ⟨[.op 0 0, .op 1 0], _, [], [0, 1], [19]⟩, ⟨[.op 2 0], _, [], [0, 1, 2], [20]⟩, ⟨[.op 3 0], _, [], List.range 4, [16]⟩]) (F := [.old 0, .old 1, .op 4 0]) (hst.pick [0, 1] rfl) hb follows
      (o_p rfl (ob_load ty_25 rfl rfl u_0) <|
       o_p rfl (ob_load ty_72 rfl rfl u_0) <|
       o_p rfl (ob_call en_43 (rec_bare_ok _ _ h5) rfl rfl (.cons u_0 (.cons u_1 .nil))) <|
       o_p rfl (ob_not rfl rfl u_0) <|
       o_p rfl (ob_assign rfl rfl u_0) <|
       o_n) (by kernel_rfl) (fun a g hst hb => ?_)
    refine wp_cond_split (hst.bool 2 rfl) (fun hc6 => ?_) (fun hc6 => ?_)
    · replace H0 := ite_t hc6 H0
      refine r_s (L := []) (T := [⟨[], _, [], [], [2]⟩]) (F := [.op 0 0]) (hst.pick [] rfl) hb follows
        (o_p rfl (ob_assign rfl rfl c_i) <|
         o_n) (by kernel_rfl) (fun a g hst hb => ?_)
      refine wp_ret ?_
      refine inBlock_r ?_
      refine then_r ?_
      obtain rfl := Option.some.inj H0
      exact endR1 rfl hst hb (res_tmp (s := 2)) (hst.at 0 rfl)
    · replace H0 := ite_f hc6 H0
      refine r_s (L := [(1, _), (3, _)]) (T := [⟨[.old 0], _, [], [], [22]⟩, ⟨[.op 0 0], _, [], [0], [23]⟩, ⟨[.op 1 0], _, [], [0, 1], [24]⟩, ⟨[.op 2 0], _, [], [0, 1, 2], [25]⟩, ⟨[.op 3 0], _, [], List.range 4, [21]⟩]) (F := [.old 0, .old 1, .op 4 0]) (hst.pick [0, 1] rfl) hb follows
        (o_p rfl (ob_fieldAddr fl_25_6 rfl rfl u_0) <|
         o_p rfl (ob_load ty_9 rfl rfl u_0) <|
         o_p rfl (ob_lenS Tryd.underlying9 rfl rfl u_0) <|
         o_p rfl (ob_gt rfl rfl u_0 c_i) <|
         o_p rfl (ob_assign rfl rfl u_0) <|
         o_n) (by kernel_rfl) (fun a g hst hb => ?_)
      refine wp_cond_split (hst.bool 2 rfl) (fun hc7 => ?_) (fun hc7 => ?_)
      · replace H0 := ite_t hc7 H0
        refine r_s (L := []) (T := [⟨[], _, [], [], [2]⟩]) (F := [.op 0 0]) (hst.pick [] rfl) hb follows
          (o_p rfl (ob_assign rfl rfl c_i) <|
           o_n) (by kernel_rfl) (fun a g hst hb => ?_)
        refine wp_ret ?_
        refine inBlock_r ?_
        refine then_r ?_
        obtain rfl := Option.some.inj H0
        exact endR1 rfl hst hb (res_tmp (s := 2)) (hst.at 0 rfl)
      · replace H0 := ite_f hc7 H0
        refine r_s (L := [(1, _), (3, _)]) (T := ⟨[.old 1], _, [], [], [27]⟩ :: ⟨[.op 0 0], _, [], [0], [28]⟩ :: ⟨[.op 1 0], _, [], [0, 1], [29]⟩ :: ⟨[.op 2 0, .old 0], _, [], [0, 1, 2], [30]⟩ :: ⟨[.op 2 0, .op 3 0], _, [], List.range 4, [31]⟩ :: ⟨[.op 2 0, .op 4 0], _, [], List.range 5, [32]⟩ :: ⟨[.op 2 0, .op 5 0], _, [], List.range 6, [33]⟩ :: ⟨[.op 6 0, .old 0], _, [], List.range 7, [34]⟩ :: ⟨[.op 6 0, .op 7 0], _, [], List.range 8, [35]⟩ :: ⟨[.op 6 0, .op 8 0], _, [], List.range 9, [36]⟩ :: ⟨[.op 2 0, .op 6 0, .op 9 0], _, [], List.range 10, [37]⟩ :: ⟨[.op 2 0, .op 10 0], _, [], List.range 11, [38]⟩ :: ⟨[.op 11 0, .old 0], _, [], List.range 12, [39]⟩ :: ⟨[.op 11 0, .op 12 0], _, [], List.range 13, [40]⟩ :: ⟨[.op 11 0, .old 0], _, [], List.range 12, [41]⟩ :: ⟨[.op 11 0, .op 14 0], _, [], 0 :: 1 :: 2 :: 3 :: 4 :: 5 :: 6 :: 7 :: 8 :: 9 :: 10 :: 11 :: 14 :: [], [42]⟩ :: ⟨[.op 11 0, .op 13 0, .op 15 0], _, [], List.range 16, [43]⟩ :: ⟨[.op 2 0, .op 11 0, .op 16 0], _, [], List.range 17, [44]⟩ :: ⟨[.op 2 0, .op 17 0], _, [], List.range 18, [45]⟩ :: ⟨[.op 18 0, .old 0], _, [], List.range 19, [46]⟩ :: ⟨[.op 18 0, .op 19 0], _, [], List.range 20, [47]⟩ :: ⟨[.op 18 0, .old 0], _, [], List.range 19, [48]⟩ :: ⟨[.op 18 0, .op 21 0], _, [], 0 :: 1 :: 2 :: 3 :: 4 :: 5 :: 6 :: 7 :: 8 :: 9 :: 10 :: 11 :: 12 :: 13 :: 14 :: 15 :: 16 :: 17 :: 18 :: 21 :: [], [49]⟩ :: ⟨[.op 18 0, .op 20 0, .op 22 0], _, [], List.range 23, [50]⟩ :: ⟨[.op 2 0, .op 18 0, .op 23 0], _, [], List.range 24, [51]⟩ :: ⟨[.op 2 0, .op 24 0], _, [], List.range 25, [52]⟩ :: ⟨[.op 25 0], _, [], List.range 26, [26]⟩ :: []) (F := [.old 0, .old 1, .op 26 0]) (hst.pick [0, 1] rfl) hb follows
          (o_p rfl (ob_fieldAddr fl_72_2 rfl rfl u_0) <|
           o_p rfl (ob_load ty_4 rfl rfl u_0) <|
           o_p rfl (ob_move rfl rfl u_0) <|
           o_g (g_t rfl rfl rfl (fun hG => ob_fieldAddr fl_25_2 rfl rfl u_0)) <|
           o_g (g_t rfl rfl rfl (fun hG => ob_load ty_2 rfl rfl (Opd.gd hG u_0))) <|
           o_g (g_t rfl rfl rfl (fun hG => ob_lt rfl rfl (Opd.gd hG u_0) c_i)) <|
           o_g (g_t rfl rfl rfl (fun hG => ob_move rfl rfl (Opd.gd hG u_0))) <|
           o_g (g_fi rfl rfl rfl (fun hG => ob_fieldAddr fl_25_3 rfl rfl u_0)) <|
           o_g (g_fi rfl rfl rfl (fun hG => ob_load ty_2 rfl rfl (Opd.gd hG u_0))) <|
           o_g (g_fi rfl rfl rfl (fun hG => ob_gt rfl rfl (Opd.gd hG u_0) c_i)) <|
           o_g (g_t rfl rfl rfl (fun hG => ob_por rfl rfl (Opd.gd hG u_0) (fun hz => (Opd.gd (bA hG (bNF hz)) u_1)))) <|
           o_g (g_t rfl rfl rfl (fun hG => ob_move rfl rfl (Opd.gd hG u_0))) <|
           o_g (g_fi rfl rfl rfl (fun hG => ob_fieldAddr fl_25_1 rfl rfl u_0)) <|
           o_g (g_fi rfl rfl rfl (fun hG => ob_load ty_2 rfl rfl (Opd.gd hG u_0))) <|
           o_g (g_fi rfl rfl rfl (fun hG => ob_fieldAddr fl_25_2 rfl rfl u_0)) <|
           o_g (g_fi rfl rfl rfl (fun hG => ob_load ty_2 rfl rfl (Opd.gd hG u_0))) <|
           o_g (g_fi rfl rfl rfl (fun hG => ob_lt rfl rfl (Opd.gd hG u_0) (Opd.gd hG u_1))) <|
           o_g (g_t rfl rfl rfl (fun hG => ob_por rfl rfl (Opd.gd hG u_0) (fun hz => (Opd.gd (bA hG (bNF hz)) u_1)))) <|
           o_g (g_t rfl rfl rfl (fun hG => ob_move rfl rfl (Opd.gd hG u_0))) <|
           o_g (g_fi rfl rfl rfl (fun hG => ob_fieldAddr fl_25_1 rfl rfl u_0)) <|
           o_g (g_fi rfl rfl rfl (fun hG => ob_load ty_2 rfl rfl (Opd.gd hG u_0))) <|
           o_g (g_fi rfl rfl rfl (fun hG => ob_fieldAddr fl_25_3 rfl rfl u_0)) <|
           o_g (g_fi rfl rfl rfl (fun hG => ob_load ty_2 rfl rfl (Opd.gd hG u_0))) <|
           o_g (g_fi rfl rfl rfl (fun hG => ob_gt rfl rfl (Opd.gd hG u_0) (Opd.gd hG u_1))) <|
           o_g (g_t rfl rfl rfl (fun hG => ob_por rfl rfl (Opd.gd hG u_0) (fun hz => (Opd.gd (bA hG (bNF hz)) u_1)))) <|
           o_p rfl (ob_pand rfl rfl u_0 (fun hz => (Opd.gd hz u_1))) <|
           o_p rfl (ob_assign rfl rfl u_0) <|
           o_n) (by kernel_rfl) (fun a g hst hb => ?_)
        refine wp_cond_split (hst.bool 2 rfl) (fun hc8 => ?_) (fun hc8 => ?_)
        · replace H0 := ite_t hc8 H0
          refine r_s (L := []) (T := [⟨[], _, [], [], [2]⟩]) (F := [.op 0 0]) (hst.pick [] rfl) hb follows
            (o_p rfl (ob_assign rfl rfl c_i) <|
             o_n) (by kernel_rfl) (fun a g hst hb => ?_)
          refine wp_ret ?_
          refine inBlock_r ?_
          refine then_r ?_
          obtain rfl := Option.some.inj H0
          exact endR1 rfl hst hb (res_tmp (s := 2)) (hst.at 0 rfl)
        · replace H0 := ite_f hc8 H0
          obtain ⟨r9, h10, H0⟩ := of_bind H0
          refine r_s (L := [(1, _), (3, _)]) (T := [⟨[.old 0], _, [], [], [54]⟩, ⟨[.op 0 0], _, [], [0], [55]⟩, ⟨[.op 1 0], _, [], [0, 1], [56]⟩, ⟨[.op 2 0], _, [], [0, 1, 2], [57]⟩, ⟨[.op 3 0], _, [], List.range 4, [53]⟩]) (F := [.old 0, .old 1, .op 4 0]) (hst.pick [0, 1] rfl) hb follows
            (o_p rfl (ob_fieldAddr fl_25_4 rfl rfl u_0) <|
             o_p rfl (ob_load ty_22 rfl rfl u_0) <|
             o_p rfl (ob_call en_44 (flo_Proper_ok _ h10) rfl rfl (.cons u_0 .nil)) <|
             o_p rfl (ob_not rfl rfl u_0) <|
             o_p rfl (ob_assign rfl rfl u_0) <|
             o_n) (by kernel_rfl) (fun a g hst hb => ?_)
          refine wp_cond_split (hst.bool 2 rfl) (fun hc11 => ?_) (fun hc11 => ?_)
          · replace H0 := ite_t hc11 H0
            refine r_s (L := []) (T := [⟨[], _, [], [], [2]⟩]) (F := [.op 0 0]) (hst.pick [] rfl) hb follows
              (o_p rfl (ob_assign rfl rfl c_i) <|
               o_n) (by kernel_rfl) (fun a g hst hb => ?_)
            refine wp_ret ?_
            refine inBlock_r ?_
            refine then_r ?_
            obtain rfl := Option.some.inj H0
            exact endR1 rfl hst hb (res_tmp (s := 2)) (hst.at 0 rfl)
          · replace H0 := ite_f hc11 H0
            refine r_s (L := [(1, _), (3, _)]) (T := [⟨[.old 1], _, [], [], [59]⟩, ⟨[.op 0 0], _, [], [0], [60]⟩, ⟨[.op 1 0], _, [], [0, 1], [61]⟩, ⟨[.op 2 0], _, [], [0, 1, 2], [58]⟩]) (F := [.old 0, .op 3 0]) (hst.pick [0, 1] rfl) hb follows
              (o_p rfl (ob_fieldAddr fl_72_4 rfl rfl u_0) <|
               o_p rfl (ob_load ty_4 rfl rfl u_0) <|
               o_p rfl (ob_not rfl rfl u_0) <|
               o_p rfl (ob_assign rfl rfl u_0) <|
               o_n) (by kernel_rfl) (fun a g hst hb => ?_)
            refine wp_cond_split (hst.bool 1 rfl) (fun hc12 => ?_) (fun hc12 => ?_)
            · replace H0 := ite_t hc12 H0
              refine r_s (L := []) (T := [⟨[], _, [], [], [2]⟩]) (F := [.op 0 0]) (hst.pick [] rfl) hb follows
                (o_p rfl (ob_assign rfl rfl c_i) <|
                 o_n) (by kernel_rfl) (fun a g hst hb => ?_)
              refine wp_ret ?_
              refine inBlock_r ?_
              refine then_r ?_
              obtain rfl := Option.some.inj H0
              exact endR1 rfl hst hb (res_tmp (s := 2)) (hst.at 0 rfl)
            · replace H0 := ite_f hc12 H0
              refine r_s (L := [(1, _)]) (T := [⟨[.old 0], _, [], [], [63]⟩, ⟨[.op 0 0], _, [], [0], [64]⟩, ⟨[.op 1 0], _, [], [0, 1], [65]⟩, ⟨[.op 2 0], _, [], [0, 1, 2], [66]⟩, ⟨[.op 3 0, .old 0], _, [], List.range 4, [67]⟩, ⟨[.op 3 0, .op 4 0], _, [], List.range 5, [68]⟩, ⟨[.op 3 0, .op 5 0], _, [], List.range 6, [69]⟩, ⟨[.op 3 0, .op 6 0], _, [], List.range 7, [70]⟩, ⟨[.op 7 0], _, [], List.range 8, [62]⟩]) (F := [.old 0, .op 8 0]) (hst.pick [0] rfl) hb follows
                (o_p rfl (ob_fieldAddr fl_25_5 rfl rfl u_0) <|
                 o_p rfl (ob_load ty_3 rfl rfl u_0) <|
                 o_p rfl (ob_lt rfl rfl u_0 c_i) <|
                 o_p rfl (ob_move rfl rfl u_0) <|
                 o_g (g_f rfl rfl rfl (fun hG => ob_fieldAddr fl_25_5 rfl rfl u_0)) <|
                 o_g (g_f rfl rfl rfl (fun hG => ob_load ty_3 rfl rfl (Opd.gd hG u_0))) <|
                 o_g (g_f rfl rfl rfl (fun hG => ob_gt rfl rfl (Opd.gd hG u_0) c_i)) <|
                 o_p rfl (ob_por rfl rfl u_0 (fun hz => (Opd.gd (bNF hz) u_1))) <|
                 o_p rfl (ob_assign rfl rfl u_0) <|
                 o_n) (by kernel_rfl) (fun a g hst hb => ?_)
              refine wp_cond_split (hst.bool 1 rfl) (fun hc13 => ?_) (fun hc13 => ?_)
              · replace H0 := ite_t hc13 H0
                refine r_s (L := []) (T := [⟨[], _, [], [], [2]⟩]) (F := [.op 0 0]) (hst.pick [] rfl) hb follows
                  (o_p rfl (ob_assign rfl rfl c_i) <|
                   o_n) (by kernel_rfl) (fun a g hst hb => ?_)
                refine wp_ret ?_
                refine inBlock_r ?_
                refine then_r ?_
                obtain rfl := Option.some.inj H0
                exact endR1 rfl hst hb (res_tmp (s := 2)) (hst.at 0 rfl)
              · replace H0 := ite_f hc13 H0
                refine r_s (L := [(1, _)]) (T := [⟨[.old 0], _, [], [], [72]⟩, ⟨[.op 0 0], _, [], [0], [73]⟩, ⟨[.op 1 0], _, [], [0, 1], [74]⟩, ⟨[.old 0], _, [], [], [75]⟩, ⟨[.op 3 0], _, [], [3], [76]⟩, ⟨[.op 2 0, .op 4 0], _, [], List.range 5, [77]⟩, ⟨[.op 5 0], _, [], List.range 6, [71]⟩]) (F := [.old 0, .op 6 0]) (hst.pick [0] rfl) hb follows
                  (o_p rfl (ob_fieldAddr fl_25_7 rfl rfl u_0) <|
                   o_p rfl (ob_load ty_23 rfl rfl u_0) <|
                   o_p rfl (ob_lenL Tryd.underlying23 rfl rfl u_0) <|
                   o_p rfl (ob_fieldAddr fl_25_5 rfl rfl u_0) <|
                   o_p rfl (ob_load ty_3 rfl rfl u_0) <|
                   o_p rfl (ob_gt rfl rfl u_0 u_1) <|
                   o_p rfl (ob_assign rfl rfl u_0) <|
                   o_n) (by kernel_rfl) (fun a g hst hb => ?_)
                refine wp_cond_split (hst.bool 1 rfl) (fun hc14 => ?_) (fun hc14 => ?_)
                · replace H0 := ite_t hc14 H0
                  refine r_s (L := []) (T := [⟨[], _, [], [], [2]⟩]) (F := [.op 0 0]) (hst.pick [] rfl) hb follows
                    (o_p rfl (ob_assign rfl rfl c_i) <|
                     o_n) (by kernel_rfl) (fun a g hst hb => ?_)
                  refine wp_ret ?_
                  refine inBlock_r ?_
                  refine then_r ?_
                  obtain rfl := Option.some.inj H0
                  exact endR1 rfl hst hb (res_tmp (s := 2)) (hst.at 0 rfl)
                · replace H0 := ite_f hc14 H0
                  refine wp_skip ?_
                  refine inBlock_n ?_
                  refine then_n ?_
                  obtain ⟨r15, h16, H0⟩ := of_bind H0
                  refine r_s (L := [(1, _)]) (T := [⟨[.old 0], _, [], [], [78]⟩, ⟨[.op 0 0], _, [], [0], [79]⟩, ⟨[.old 0], _, [], [], [80]⟩, ⟨[.op 2 0], _, [], [2], [81]⟩, ⟨[.op 1 0, .op 3 0], _, [], List.range 4, [82]⟩, ⟨[.op 4 0], _, [], List.range 5, [2]⟩]) (F := [.op 5 0]) (hst.pick [0] rfl) hb follows
                    (o_p rfl (ob_fieldAddr fl_25_0 rfl rfl u_0) <|
                     o_p rfl (ob_load ty_3 rfl rfl u_0) <|
                     o_p rfl (ob_fieldAddr fl_25_7 rfl rfl u_0) <|
                     o_p rfl (ob_load ty_23 rfl rfl u_0) <|
                     o_p rfl (ob_call en_45 (rec_items_ok _ _ h16) rfl rfl (.cons u_0 (.cons u_1 .nil))) <|
                     o_p rfl (ob_assign rfl rfl u_0) <|
                     o_n) (by kernel_rfl) (fun a g hst hb => ?_)
                  refine wp_ret ?_
                  obtain rfl := Option.some.inj H0
                  exact endR1 rfl hst hb (res_tmp (s := 2)) (hst.at 0 rfl)
end Go.CL

set_option linter.unusedVariables false
set_option linter.unusedSimpArgs false
set_option maxRecDepth 100000
namespace Go.CL
open Go Go.RowKit Go.Proofs
theorem rule_Apply_1_ok (a0 : Int) (a1 : api_Record) (a2 : Bool) {r : api_Record × Bool × api_Answer × api_Record} (h : rule_Apply_1 a0 a1 a2 = some r) : FnB Tryd.prog 25 [.val (pInt .i64 a0), .box k_api_Record a1 r.2.2.2, .val (Kd.bool.ptr a2)] (pTup [(k_api_Record.pd r.1), (pBool r.2.1), (k_api_Answer.pd r.2.2.1)]) := by
  have H0 := h
  unfold rule_Apply_1 at H0
  clear h
  refine fnB_ok (N := 11) Tryd.func25 rfl rfl (Nat.le_of_ble_eq_true rfl) rfl rfl (fun a g0 bs hbs hst hb => ?_)
  obtain ⟨b1, rfl⟩ := len_1 hbs
  replace hst : St 11 [(0, (pInt .i64 a0)), (1, (pBoxC (some b1) k_api_Record 1 a1)), (2, (Kd.bool.ptr a2))] _ _ := hst
  refine r_s (L := [(0, _), (1, _), (2, _)]) (T := [⟨[], [(4, (pBox k_api_Record 4 (default : api_Record)))], [5], [], [4]⟩, ⟨[], _, [], [], [5]⟩, ⟨[], [(6, (pBox k_api_Answer 6 (default : api_Answer)))], [7], [], [6]⟩]) (F := [.old 0, .old 1, .old 2, .op 0 0, .op 2 0]) hst hb follows
    (o_p rfl (ob_alloc (zs := [.int .i64 0, .int .i64 0, .int .i64 0, .int .i64 0, .float .f64 0, .int .i64 0, .string ByteArray.empty, .slice none 0 0]) (by kernel_rfl) (fun g => zk_api_Record g) rfl rfl) <|
     o_p rfl (ob_assign rfl rfl c_b) <|
     o_p rfl (ob_alloc (zs := [.int .i64 0, .int .i64 0, .int .i64 0, .int .i64 0, .int .i64 0, .int .i64 0, .float .f64 0, .int .i64 0, .string ByteArray.empty, .slice none 0 0]) (by kernel_rfl) (fun g => zk_api_Answer g) rfl rfl) <|
     o_n) (by kernel_rfl) (fun a g hst hb => ?_)
  refine r_s (L := [(0, _), (1, _), (2, _), (4, _), (6, _)]) (T := [⟨[.old 1], _, [], [], [7]⟩, ⟨[.old 2], _, [], [], [8]⟩, ⟨[.old 0], _, [], [], [9]⟩, ⟨[.op 2 0], _, [], [2], [10]⟩, ⟨[.op 0 0, .old 3], _, [5], [0], [4]⟩, ⟨[.op 1 0], _, [], [0, 1, 4], [5]⟩, ⟨[.op 3 0, .old 4], _, [7], List.range 6, [6]⟩]) (F := [.old 1, .op 4 0, .op 5 0, .op 6 0]) hst hb follows
    (o_p rfl (ob_loadM ty_25 rfl rfl u_0) <|
     o_p rfl (ob_load ty_4 rfl rfl u_0) <|
     o_p rfl (ob_move rfl rfl u_0) <|
     o_p rfl (bd_32_0 rfl rfl u_0) <|
     o_p rfl (ob_store ty_25 rfl rfl u_1 u_0) <|
     o_p rfl (ob_assign rfl rfl u_0) <|
     o_p rfl (ob_store ty_32 rfl rfl u_1 u_0) <|
     o_n) (by kernel_rfl) (fun a g hst hb => ?_)
  refine wp_ret ?_
  obtain rfl := Option.some.inj H0
  obtain ⟨u0, hu0, hq0⟩ := res_box (P := Tryd.prog) ty_25 (hst.at 1 rfl)
  obtain ⟨u2, hu2, hq2⟩ := res_box (P := Tryd.prog) ty_32 (hst.at 3 rfl)
  exact endB3 rfl hst hb hu0 (res_tmp (s := 5)) hu2 (pTup_3 hq0 (hst.at 2 rfl) hq2) ⟨box_of (hst.at 0 rfl), trivial⟩
end Go.CL

set_option linter.unusedVariables false
set_option linter.unusedSimpArgs false
set_option maxRecDepth 100000
namespace Go.CL
open Go Go.RowKit Go.Proofs
theorem act_of_ok (a0 : Int) {r : act_kind} (h : act_of a0 = some r) : FnOk Tryd.prog 46 [(pInt .i64 a0)] (k_act_kind.pd r) := by
  have H0 := h
  unfold act_of at H0
  clear h
  refine fn_ok (N := 13) Tryd.func46 rfl rfl (Nat.le_of_ble_eq_true rfl) rfl rfl (fun a g0 hst hb => ?_)
  refine r_s (L := [(0, _)]) (T := [⟨[], [(2, (pBox k_act_kind 2 (default : act_kind)))], [3], [], [2]⟩]) (F := [.old 0, .op 0 0]) hst hb follows
    (o_p rfl (ob_alloc (zs := [.string ByteArray.empty, .int .i64 0, .string ByteArray.empty]) (by kernel_rfl) (fun g => zk_act_kind g) rfl rfl) <|
     o_n) (by kernel_rfl) (fun a g hst hb => ?_)
  refine wp_seq ?_
  refine r_s (L := [(0, _), (2, _)]) (T := [⟨[.old 0], _, [], [], [3]⟩, ⟨[.op 0 0], _, [], [0], [4]⟩, ⟨[.op 1 0], _, [], [0, 1], [5]⟩, ⟨[.op 2 0, .old 0], _, [], [0, 1, 2], [6]⟩, ⟨[.op 2 0, .op 3 0], _, [], List.range 4, [7]⟩, ⟨[.op 2 0, .op 4 0], _, [], List.range 5, [8]⟩]) (F := [.old 0, .old 1, .op 5 0]) hst hb follows
    (o_p rfl (ob_move rfl rfl u_0) <|
     o_p rfl (ob_le rfl rfl u_0 c_i) <|
     o_p rfl (ob_move rfl rfl u_0) <|
     o_g (g_f rfl rfl rfl (fun hG => ob_move rfl rfl u_0)) <|
     o_g (g_f rfl rfl rfl (fun hG => ob_ge rfl rfl (Opd.gd hG u_0) c_i)) <|
     o_p rfl (ob_por rfl rfl u_0 (fun hz => (Opd.gd (bNF hz) u_1))) <|
     o_n) (by kernel_rfl) (fun a g hst hb => ?_)
  refine wp_cond_split (hst.bool 2 rfl) (fun hc1 => ?_) (fun hc1 => ?_)
  · replace H0 := ite_t hc1 H0
    refine r_s (L := [(2, _)]) (T := [⟨[], _, [], [], [9]⟩, ⟨[.op 0 0, .old 0], _, [3], [0], [2]⟩]) (F := [.op 1 0]) (hst.pick [1] rfl) hb follows
      (o_p rfl (bd_77_ rfl rfl ) <|
       o_p rfl (ob_store ty_77 rfl rfl u_1 u_0) <|
       o_n) (by kernel_rfl) (fun a g hst hb => ?_)
    refine wp_ret ?_
    refine then_r ?_
    obtain rfl := Option.some.inj H0
    obtain ⟨u0, hu0, hq0⟩ := res_box (P := Tryd.prog) ty_77 (hst.at 0 rfl)
    exact endR1 rfl hst hb hu0 hq0
  · replace H0 := ite_f hc1 H0
    refine wp_skip ?_
    refine then_n ?_
    obtain ⟨e2, h3, H0⟩ := of_bind H0
    refine r_s (L := [(0, _), (2, _)]) (T := [⟨[.old 0], _, [], [], [10]⟩, ⟨[.op 0 0], _, [], [0], [11]⟩, ⟨[.op 1 0], _, [], [0, 1], [12]⟩, ⟨[.op 2 0, .old 1], _, [3], [0, 1, 2], [2]⟩]) (F := [.op 3 0]) (hst.pick [0, 1] rfl) hb follows
      (o_p rfl (ob_move rfl rfl u_0) <|
       o_p rfl (ob_indexArr Tryd.underlying95 sz_77 rfl rfl (Opd.glob gm_0 gk_0) u_0 h3) <|
       o_p rfl (ob_load ty_77 rfl rfl u_0) <|
       o_p rfl (ob_store ty_77 rfl rfl u_1 u_0) <|
       o_n) (by kernel_rfl) (fun a g hst hb => ?_)
    refine wp_ret ?_
    obtain rfl := Option.some.inj H0
    obtain ⟨u0, hu0, hq0⟩ := res_box (P := Tryd.prog) ty_77 (hst.at 0 rfl)
    exact endR1 rfl hst hb hu0 hq0
end Go.CL

set_option linter.unusedVariables false
set_option linter.unusedSimpArgs false
set_option maxRecDepth 100000
namespace Go.CL
open Go Go.RowKit Go.Proofs
theorem slices_EqualFunc_api_Item_api_Item_api_Item_api_Item_ok (f2 : Nat) (C2 : List Pd) (hC2 : Free C2) (e2_ : Enters Tryd.prog f2) (φ2 : api_Item → api_Item → Option Bool) (hφ2 : ∀ (y0 : api_Item) (y1 : api_Item) (r : Bool), φ2 y0 y1 = some r → FnOk Tryd.prog f2 ([(k_api_Item.pd y0), (k_api_Item.pd y1)] ++ C2) (pBool r)) (a0 : List api_Item) (a1 : List api_Item) {r : Bool} (h : slices_EqualFunc_api_Item_api_Item_api_Item_api_Item a0 a1 φ2 = some r) : FnOk Tryd.prog 34 [(k_api_Item.sl.pd a0), (k_api_Item.sl.pd a1), (pClo f2 C2 hC2)] (pBool r) := by
  have H0 := h
  unfold slices_EqualFunc_api_Item_api_Item_api_Item_api_Item at H0
  clear h
  refine fn_ok (N := 32) Tryd.func34 rfl rfl (Nat.le_of_ble_eq_true rfl) rfl rfl (fun a g0 hst hb => ?_)
  refine r_s (L := [(0, _), (1, _), (2, _)]) (T := [⟨[], _, [], [], [6]⟩]) (F := [.old 0, .old 1, .old 2]) hst hb follows
    (o_p rfl (ob_assign rfl rfl c_b) <|
     o_n) (by kernel_rfl) (fun a g hst hb => ?_)
  refine wp_seq ?_
  refine r_s (L := [(0, _), (1, _), (2, _)]) (T := [⟨[.old 0], _, [], [], [10]⟩, ⟨[.op 0 0], _, [], [0], [11]⟩, ⟨[.old 1], _, [], [], [12]⟩, ⟨[.op 2 0], _, [], [2], [13]⟩, ⟨[.op 1 0, .op 3 0], _, [], List.range 4, [14]⟩]) (F := [.old 0, .old 1, .old 2, .op 4 0]) hst hb follows
    (o_p rfl (ob_move rfl rfl u_0) <|
     o_p rfl (ob_lenL Tryd.underlying23 rfl rfl u_0) <|
     o_p rfl (ob_move rfl rfl u_0) <|
     o_p rfl (ob_lenL Tryd.underlying23 rfl rfl u_0) <|
     o_p rfl (ob_ne rfl rfl u_0 u_1) <|
     o_n) (by kernel_rfl) (fun a g hst hb => ?_)
  refine wp_cond_split (hst.bool 3 rfl) (fun hc1 => ?_) (fun hc1 => ?_)
  · replace H0 := ite_t hc1 H0
    refine r_s (L := []) (T := [⟨[], _, [], [], [6]⟩]) (F := [.op 0 0]) (hst.pick [] rfl) hb follows
      (o_p rfl (ob_assign rfl rfl c_b) <|
       o_n) (by kernel_rfl) (fun a g hst hb => ?_)
    refine wp_ret ?_
    refine then_r ?_
    obtain rfl := Option.some.inj H0
    exact endR1 rfl hst hb (res_tmp (s := 6)) (hst.at 0 rfl)
  · replace H0 := ite_f hc1 H0
    refine wp_skip ?_
    refine then_n ?_
    refine wp_seq ?_
    refine r_s (L := [(0, _), (1, _), (2, _)]) (T := [⟨[.old 0], _, [], [], [15]⟩, ⟨[.op 0 0], _, [], [0], [16]⟩, ⟨[], _, [], [], [17]⟩]) (F := [.old 1, .old 2, .op 0 0, .op 1 0, .op 2 0]) (hst.pick [0, 1, 2] rfl) hb follows
      (o_p rfl (ob_move rfl rfl u_0) <|
       o_p rfl (ob_lenL Tryd.underlying23 rfl rfl u_0) <|
       o_p rfl (ob_move rfl rfl c_i) <|
       o_n) (by kernel_rfl) (fun a g hst hb => ?_)
    obtain ⟨z11, hz1, H0⟩ := of_bind H0
    refine wp_cut (fun a w => ∃ (g : G), w = g.w ∧ St 32 [] a g ∧ Base g0 g ∧ (.inr ()) = z11) ?_ ?_
    · rintro a w ⟨g, rfl, hst, hb, rfl⟩
      refine then_n ?_
      refine r_s (L := []) (T := [⟨[], _, [], [], [6]⟩]) (F := [.op 0 0]) hst hb follows
        (o_p rfl (ob_assign rfl rfl c_b) <|
         o_n) (by kernel_rfl) (fun a g hst hb => ?_)
      refine wp_ret ?_
      obtain rfl := Option.some.inj H0
      exact endR1 rfl hst hb (res_tmp (s := 6)) (hst.at 0 rfl)
    · refine wp_block ?_
      refine wp_loop_ghost (fun n a w => ∃ (x2 : Int) (g : G), w = g.w ∧ St 32 [(1, (k_api_Item.sl.pd a1)), (2, (pClo f2 C2 hC2)), (15, (k_api_Item.sl.pd a0)), (16, (pInt .i64 (a0.length : Int))), (17, (pInt .i64 x2))] a g ∧ Base g0 g ∧ slices_EqualFunc_api_Item_api_Item_api_Item_api_Item_l1 a0 a1 φ2 n x2 = some z11) (Int.toNat ((a0.length : Int) - (0 : Int)) + 1) ⟨(0 : Int), g, rfl, (hst.pick [0, 1, 2, 3, 4] rfl), hb, hz1⟩ (fun n a w hI => ?_)
      obtain ⟨x2, g, rfl, hst, hb, H1⟩ := hI
      cases n with
      | zero => exact absurd H1 (by simp [slices_EqualFunc_api_Item_api_Item_api_Item_api_Item_l1])
      | succ n =>
        rw [slices_EqualFunc_api_Item_api_Item_api_Item_api_Item_l1] at H1
        refine r_s (L := [(1, _), (2, _), (15, _), (16, _), (17, _)]) (T := [⟨[.old 4, .old 3], _, [], [], [18]⟩]) (F := [.old 0, .old 1, .old 2, .old 3, .old 4, .op 0 0]) hst hb follows
          (o_p rfl (ob_lt rfl rfl u_0 u_1) <|
           o_n) (by kernel_rfl) (fun a g hst hb => ?_)
        refine wp_seq ?_
        refine wp_cond_split (hst.bool 5 rfl) (fun hc3 => ?_) (fun hc3 => ?_)
        · replace H1 := ite_t hc3 H1
          refine wp_skip ?_
          refine then_n ?_
          refine wp_seq ?_
          refine wp_block ?_
          obtain ⟨e4, h5, H1⟩ := of_bind H1
          refine r_s (L := [(1, _), (2, _), (15, _), (16, _), (17, _)]) (T := [⟨[.old 4], _, [], [], [19]⟩, ⟨[.old 2, .old 4], _, [], [], [20]⟩, ⟨[.op 1 0], _, [], [1], [21]⟩, ⟨[], [(8, (pBox k_api_Item 8 (default : api_Item)))], [9], [], [8]⟩, ⟨[.op 0 0], _, [], List.range 4, [7]⟩, ⟨[.op 2 0, .op 3 0], _, [9], List.range 5, [8]⟩]) (F := [.old 0, .old 1, .op 4 0, .op 5 0, .old 2, .old 3, .old 4]) (hst.pick [0, 1, 2, 3, 4] rfl) hb follows
            (o_p rfl (ob_move rfl rfl u_0) <|
             o_p rfl (ob_indexAddr Tryd.underlying23 sz_48 rfl rfl u_0 u_1 h5) <|
             o_p rfl (ob_load ty_48 rfl rfl u_0) <|
             o_p rfl (ob_alloc (zs := [.float .f64 0, .string ByteArray.empty]) (by kernel_rfl) (fun g => zk_api_Item g) rfl rfl) <|
             o_p rfl (ob_assign rfl rfl u_0) <|
             o_p rfl (ob_storeF ty_48 rfl rfl u_1 u_0) <|
             o_n) (by kernel_rfl) (fun a g hst hb => ?_)
          obtain ⟨e6, h7, H1⟩ := of_bind H1
          refine r_s (L := [(1, _), (2, _), (7, _), (8, _), (15, _), (16, _), (17, _)]) (T := [⟨[.old 0], _, [], [], [22]⟩, ⟨[.old 2], _, [], [], [23]⟩, ⟨[.op 0 0, .op 1 0], _, [], [0, 1], [24]⟩, ⟨[.op 2 0], _, [], [0, 1, 2], [25]⟩, ⟨[], [(9, (pBox k_api_Item 9 (default : api_Item)))], [10], [], [9]⟩, ⟨[.op 3 0, .op 4 0], _, [10], List.range 5, [9]⟩]) (F := [.old 0, .old 1, .old 3, .op 5 0, .old 4, .old 5, .old 6]) hst hb follows
            (o_p rfl (ob_move rfl rfl u_0) <|
             o_p rfl (ob_move rfl rfl u_0) <|
             o_p rfl (ob_indexAddr Tryd.underlying23 sz_48 rfl rfl u_0 u_1 h7) <|
             o_p rfl (ob_load ty_48 rfl rfl u_0) <|
             o_p rfl (ob_alloc (zs := [.float .f64 0, .string ByteArray.empty]) (by kernel_rfl) (fun g => zk_api_Item g) rfl rfl) <|
             o_p rfl (ob_storeF ty_48 rfl rfl u_1 u_0) <|
             o_n) (by kernel_rfl) (fun a g hst hb => ?_)
          obtain ⟨r8, h9, H1⟩ := of_bind H1
          refine r_s (L := [(1, _), (2, _), (8, _), (9, _), (15, _), (16, _), (17, _)]) (T := [⟨[.old 1], _, [], [], [26]⟩, ⟨[.old 2], _, [], [], [27]⟩, ⟨[.old 3], _, [], [], [28]⟩, ⟨[.op 0 0, .op 1 0, .op 2 0], _, [], [0, 1, 2], [29]⟩, ⟨[.op 3 0], _, [], List.range 4, [30]⟩]) (F := [.old 0, .old 1, .old 4, .old 5, .old 6, .op 4 0]) hst hb follows
            (o_p rfl (ob_move rfl rfl u_0) <|
             o_p rfl (ob_load ty_48 rfl rfl u_0) <|
             o_p rfl (ob_load ty_48 rfl rfl u_0) <|
             o_p rfl (ob_callV e2_ (hφ2 _ _ _ h9) rfl rfl u_0 (.cons u_1 (.cons u_2 .nil))) <|
             o_p rfl (ob_not rfl rfl u_0) <|
             o_n) (by kernel_rfl) (fun a g hst hb => ?_)
          refine wp_cond_split (hst.bool 5 rfl) (fun hc10 => ?_) (fun hc10 => ?_)
          · replace H1 := ite_t hc10 H1
            refine r_s (L := []) (T := [⟨[], _, [], [], [6]⟩]) (F := [.op 0 0]) (hst.pick [] rfl) hb follows
              (o_p rfl (ob_assign rfl rfl c_b) <|
               o_n) (by kernel_rfl) (fun a g hst hb => ?_)
            refine wp_ret ?_
            refine inBlock_r ?_
            refine then_r ?_
            refine then_r ?_
            refine inBlock_r ?_
            refine then_r ?_
            refine then_r ?_
            obtain rfl := Option.some.inj H1
            obtain rfl := Option.some.inj H0
            exact endR1 rfl hst hb (res_tmp (s := 6)) (hst.at 0 rfl)
          · replace H1 := ite_f hc10 H1
            refine wp_skip ?_
            refine inBlock_n ?_
            refine then_n ?_
            refine r_g (L := [(1, _), (2, _), (15, _), (16, _), (17, _)]) (T := [⟨[.old 4], _, [], [], [31]⟩, ⟨[.op 0 0], _, [], [0], [17]⟩]) (F := [.old 0, .old 1, .old 2, .old 3, .op 1 0]) (hst.pick [0, 1, 2, 3, 4] rfl) hb follows
              (o_p rfl (ob_add rfl rfl u_0 c_i rfl) <|
               o_p rfl (ob_move rfl rfl u_0) <|
               o_n) (by kernel_rfl) (fun a g hst hb => ?_)
            exact ⟨n, Nat.lt_succ_self _, (IntKind.i64.wrap (x2 + (1 : Int))), g, rfl, (hst.pick [0, 1, 2, 3, 4] rfl), hb, H1⟩
        · replace H1 := ite_f hc3 H1
          refine wp_exit ?_
          refine then_e ?_
          refine then_e ?_
          refine inBlock_e ?_
          exact ⟨g, rfl, (hst.pick [] rfl), hb, Option.some.inj H1⟩
end Go.CL

set_option linter.unusedVariables false
set_option linter.unusedSimpArgs false
set_option maxRecDepth 100000
namespace Go.CL
open Go Go.RowKit Go.Proofs
theorem rec_Same_1_ok (a0 : api_Item) (a1 : api_Item) {r : Bool} (h : rec_Same_1 a0 a1 = some r) : FnOk Tryd.prog 35 [(k_api_Item.pd a0), (k_api_Item.pd a1)] (pBool r) := by
  have H0 := h
  unfold rec_Same_1 at H0
  clear h
  refine fn_ok (N := 17) Tryd.func35 rfl rfl (Nat.le_of_ble_eq_true rfl) rfl rfl (fun a g0 hst hb => ?_)
  refine r_s (L := [(0, _), (1, _)]) (T := [⟨[.old 0], _, [], [], [2]⟩, ⟨[.old 1], _, [], [], [3]⟩, ⟨[], _, [], [], [4]⟩]) (F := [.op 0 0, .op 1 0]) hst hb follows
    (o_p rfl (ob_box1 rfl rfl u_0) <|
     o_p rfl (ob_box1 rfl rfl u_0) <|
     o_p rfl (ob_assign rfl rfl c_b) <|
     o_n) (by kernel_rfl) (fun a g hst hb => ?_)
  obtain ⟨r1, h2, H0⟩ := of_bind H0
  refine r_s (L := [(2, _), (3, _)]) (T := ⟨[.old 0], _, [], [], [5]⟩ :: ⟨[.op 0 0], _, [], [0], [6]⟩ :: ⟨[.old 1], _, [], [], [7]⟩ :: ⟨[.op 2 0], _, [], [2], [8]⟩ :: ⟨[.op 1 0, .op 3 0], _, [], List.range 4, [9]⟩ :: ⟨[.op 4 0], _, [], List.range 5, [10]⟩ :: ⟨[.op 5 0, .old 0], _, [], List.range 6, [11]⟩ :: ⟨[.op 5 0, .op 6 0], _, [], List.range 7, [12]⟩ :: ⟨[.op 5 0, .old 1], _, [], List.range 6, [13]⟩ :: ⟨[.op 5 0, .op 8 0], _, [], [0, 1, 2, 3, 4, 5, 8], [14]⟩ :: ⟨[.op 5 0, .op 7 0, .op 9 0], _, [], List.range 10, [15]⟩ :: ⟨[.op 5 0, .op 10 0], _, [], List.range 11, [16]⟩ :: ⟨[.op 11 0], _, [], List.range 12, [4]⟩ :: []) (F := [.op 12 0]) hst hb follows
    (o_p rfl (ob_fieldAddr fl_48_1 rfl rfl u_0) <|
     o_p rfl (ob_load ty_9 rfl rfl u_0) <|
     o_p rfl (ob_fieldAddr fl_48_1 rfl rfl u_0) <|
     o_p rfl (ob_load ty_9 rfl rfl u_0) <|
     o_p rfl (ob_seq rfl rfl u_0 u_1) <|
     o_p rfl (ob_move rfl rfl u_0) <|
     o_g (g_t rfl rfl rfl (fun hG => ob_fieldAddr fl_48_0 rfl rfl u_0)) <|
     o_g (g_t rfl rfl rfl (fun hG => ob_load ty_22 rfl rfl (Opd.gd hG u_0))) <|
     o_g (g_t rfl rfl rfl (fun hG => ob_fieldAddr fl_48_0 rfl rfl u_0)) <|
     o_g (g_t rfl rfl rfl (fun hG => ob_load ty_22 rfl rfl (Opd.gd hG u_0))) <|
     o_g (g_t rfl rfl rfl (fun hG => ob_call en_33 (flo_Same_ok _ _ (gd_true h2 hG)) rfl rfl (.cons (Opd.gd hG u_0) (.cons (Opd.gd hG u_1) .nil)))) <|
     o_p rfl (ob_pand rfl rfl u_0 (fun hz => (Opd.gd hz u_1))) <|
     o_p rfl (ob_assign rfl rfl u_0) <|
     o_n) (by kernel_rfl) (fun a g hst hb => ?_)
  refine wp_ret ?_
  obtain rfl := Option.some.inj H0
  exact endR1 rfl hst hb (res_tmp (s := 4)) (hst.at 0 rfl)
end Go.CL

set_option linter.unusedVariables false
set_option linter.unusedSimpArgs false
set_option maxRecDepth 100000
namespace Go.CL
open Go Go.RowKit Go.Proofs
theorem rec_Same_ok (a0 : api_Record) (a1 : api_Record) {r : Bool} (h : rec_Same a0 a1 = some r) : FnOk Tryd.prog 17 [(k_api_Record.pd a0), (k_api_Record.pd a1)] (pBool r) := by
  have H0 := h
  unfold rec_Same at H0
  clear h
  refine fn_ok (N := 59) Tryd.func17 rfl rfl (Nat.le_of_ble_eq_true rfl) rfl rfl (fun a g0 hst hb => ?_)
  refine r_s (L := [(0, _), (1, _)]) (T := [⟨[.old 0], _, [], [], [2]⟩, ⟨[.old 1], _, [], [], [3]⟩, ⟨[], _, [], [], [4]⟩]) (F := [.op 0 0, .op 1 0]) hst hb follows
    (o_p rfl (ob_box1 rfl rfl u_0) <|
     o_p rfl (ob_box1 rfl rfl u_0) <|
     o_p rfl (ob_assign rfl rfl c_b) <|
     o_n) (by kernel_rfl) (fun a g hst hb => ?_)
  obtain ⟨r1, h2, H0⟩ := of_bind H0; obtain ⟨r3, h4, H0⟩ := of_bind H0
  refine r_s (L := [(2, _), (3, _)]) (T := ⟨[.old 0], _, [], [], [5]⟩ :: ⟨[.op 0 0], _, [], [0], [6]⟩ :: ⟨[.old 1], _, [], [], [7]⟩ :: ⟨[.op 2 0], _, [], [2], [8]⟩ :: ⟨[.op 1 0, .op 3 0], _, [], List.range 4, [9]⟩ :: ⟨[.op 4 0], _, [], List.range 5, [10]⟩ :: ⟨[.op 5 0, .old 0], _, [], List.range 6, [11]⟩ :: ⟨[.op 5 0, .op 6 0], _, [], List.range 7, [12]⟩ :: ⟨[.op 5 0, .old 1], _, [], List.range 6, [13]⟩ :: ⟨[.op 5 0, .op 8 0], _, [], [0, 1, 2, 3, 4, 5, 8], [14]⟩ :: ⟨[.op 5 0, .op 7 0, .op 9 0], _, [], List.range 10, [15]⟩ :: ⟨[.op 5 0, .op 10 0], _, [], List.range 11, [16]⟩ :: ⟨[.op 11 0], _, [], List.range 12, [17]⟩ :: ⟨[.op 12 0, .old 0], _, [], List.range 13, [18]⟩ :: ⟨[.op 12 0, .op 13 0], _, [], List.range 14, [19]⟩ :: ⟨[.op 12 0, .old 1], _, [], List.range 13, [20]⟩ :: ⟨[.op 12 0, .op 15 0], _, [], 0 :: 1 :: 2 :: 3 :: 4 :: 5 :: 6 :: 7 :: 8 :: 9 :: 10 :: 11 :: 12 :: 15 :: [], [21]⟩ :: ⟨[.op 12 0, .op 14 0, .op 16 0], _, [], List.range 17, [22]⟩ :: ⟨[.op 12 0, .op 17 0], _, [], List.range 18, [23]⟩ :: ⟨[.op 18 0], _, [], List.range 19, [24]⟩ :: ⟨[.op 19 0, .old 0], _, [], List.range 20, [25]⟩ :: ⟨[.op 19 0, .op 20 0], _, [], List.range 21, [26]⟩ :: ⟨[.op 19 0, .old 1], _, [], List.range 20, [27]⟩ :: ⟨[.op 19 0, .op 22 0], _, [], 0 :: 1 :: 2 :: 3 :: 4 :: 5 :: 6 :: 7 :: 8 :: 9 :: 10 :: 11 :: 12 :: 13 :: 14 :: 15 :: 16 :: 17 :: 18 :: 19 :: 22 :: [], [28]⟩ :: ⟨[.op 19 0, .op 21 0, .op 23 0], _, [], List.range 24, [29]⟩ :: ⟨[.op 19 0, .op 24 0], _, [], List.range 25, [30]⟩ :: ⟨[.op 25 0], _, [], List.range 26, [31]⟩ :: ⟨[.op 26 0, .old 0], _, [], List.range 27, [32]⟩ :: ⟨[.op 26 0, .op 27 0], _, [], List.range 28, [33]⟩ :: ⟨[.op 26 0, .old 1], _, [], List.range 27, [34]⟩ :: ⟨[.op 26 0, .op 29 0], _, [], 0 :: 1 :: 2 :: 3 :: 4 :: 5 :: 6 :: 7 :: 8 :: 9 :: 10 :: 11 :: 12 :: 13 :: 14 :: 15 :: 16 :: 17 :: 18 :: 19 :: 20 :: 21 :: 22 :: 23 :: 24 :: 25 :: 26 :: 29 :: [], [35]⟩ :: ⟨[.op 26 0, .op 28 0, .op 30 0], _, [], List.range 31, [36]⟩ :: ⟨[.op 26 0, .op 31 0], _, [], List.range 32, [37]⟩ :: ⟨[.op 32 0], _, [], List.range 33, [38]⟩ :: ⟨[.op 33 0, .old 0], _, [], List.range 34, [39]⟩ :: ⟨[.op 33 0, .op 34 0], _, [], List.range 35, [40]⟩ :: ⟨[.op 33 0, .old 1], _, [], List.range 34, [41]⟩ :: ⟨[.op 33 0, .op 36 0], _, [], 0 :: 1 :: 2 :: 3 :: 4 :: 5 :: 6 :: 7 :: 8 :: 9 :: 10 :: 11 :: 12 :: 13 :: 14 :: 15 :: 16 :: 17 :: 18 :: 19 :: 20 :: 21 :: 22 :: 23 :: 24 :: 25 :: 26 :: 27 :: 28 :: 29 :: 30 :: 31 :: 32 :: 33 :: 36 :: [], [42]⟩ :: ⟨[.op 33 0, .op 35 0, .op 37 0], _, [], List.range 38, [43]⟩ :: ⟨[.op 33 0, .op 38 0], _, [], List.range 39, [44]⟩ :: ⟨[.op 39 0], _, [], List.range 40, [45]⟩ :: ⟨[.op 40 0, .old 0], _, [], List.range 41, [46]⟩ :: ⟨[.op 40 0, .op 41 0], _, [], List.range 42, [47]⟩ :: ⟨[.op 40 0, .old 1], _, [], List.range 41, [48]⟩ :: ⟨[.op 40 0, .op 43 0], _, [], 0 :: 1 :: 2 :: 3 :: 4 :: 5 :: 6 :: 7 :: 8 :: 9 :: 10 :: 11 :: 12 :: 13 :: 14 :: 15 :: 16 :: 17 :: 18 :: 19 :: 20 :: 21 :: 22 :: 23 :: 24 :: 25 :: 26 :: 27 :: 28 :: 29 :: 30 :: 31 :: 32 :: 33 :: 34 :: 35 :: 36 :: 37 :: 38 :: 39 :: 40 :: 43 :: [], [49]⟩ :: ⟨[.op 40 0, .op 42 0, .op 44 0], _, [], List.range 45, [50]⟩ :: ⟨[.op 40 0, .op 45 0], _, [], List.range 46, [51]⟩ :: ⟨[.op 46 0], _, [], List.range 47, [52]⟩ :: ⟨[.op 47 0, .old 0], _, [], List.range 48, [53]⟩ :: ⟨[.op 47 0, .op 48 0], _, [], List.range 49, [54]⟩ :: ⟨[.op 47 0, .old 1], _, [], List.range 48, [55]⟩ :: ⟨[.op 47 0, .op 50 0], _, [], 0 :: 1 :: 2 :: 3 :: 4 :: 5 :: 6 :: 7 :: 8 :: 9 :: 10 :: 11 :: 12 :: 13 :: 14 :: 15 :: 16 :: 17 :: 18 :: 19 :: 20 :: 21 :: 22 :: 23 :: 24 :: 25 :: 26 :: 27 :: 28 :: 29 :: 30 :: 31 :: 32 :: 33 :: 34 :: 35 :: 36 :: 37 :: 38 :: 39 :: 40 :: 41 :: 42 :: 43 :: 44 :: 45 :: 46 :: 47 :: 50 :: [], [56]⟩ :: ⟨[.op 47 0, .op 49 0, .op 51 0], _, [], List.range 52, [57]⟩ :: ⟨[.op 47 0, .op 52 0], _, [], List.range 53, [58]⟩ :: ⟨[.op 53 0], _, [], List.range 54, [4]⟩ :: []) (F := [.op 54 0]) hst hb follows
    (o_p rfl (ob_fieldAddr fl_25_0 rfl rfl u_0) <|
     o_p rfl (ob_load ty_3 rfl rfl u_0) <|
     o_p rfl (ob_fieldAddr fl_25_0 rfl rfl u_0) <|
     o_p rfl (ob_load ty_3 rfl rfl u_0) <|
     o_p rfl (ob_eq rfl rfl u_0 u_1) <|
     o_p rfl (ob_move rfl rfl u_0) <|
     o_g (g_t rfl rfl rfl (fun hG => ob_fieldAddr fl_25_1 rfl rfl u_0)) <|
     o_g (g_t rfl rfl rfl (fun hG => ob_load ty_2 rfl rfl (Opd.gd hG u_0))) <|
     o_g (g_t rfl rfl rfl (fun hG => ob_fieldAddr fl_25_1 rfl rfl u_0)) <|
     o_g (g_t rfl rfl rfl (fun hG => ob_load ty_2 rfl rfl (Opd.gd hG u_0))) <|
     o_g (g_t rfl rfl rfl (fun hG => ob_eq rfl rfl (Opd.gd hG u_0) (Opd.gd hG u_1))) <|
     o_p rfl (ob_pand rfl rfl u_0 (fun hz => (Opd.gd hz u_1))) <|
     o_p rfl (ob_move rfl rfl u_0) <|
     o_g (g_t rfl rfl rfl (fun hG => ob_fieldAddr fl_25_2 rfl rfl u_0)) <|
     o_g (g_t rfl rfl rfl (fun hG => ob_load ty_2 rfl rfl (Opd.gd hG u_0))) <|
     o_g (g_t rfl rfl rfl (fun hG => ob_fieldAddr fl_25_2 rfl rfl u_0)) <|
     o_g (g_t rfl rfl rfl (fun hG => ob_load ty_2 rfl rfl (Opd.gd hG u_0))) <|
     o_g (g_t rfl rfl rfl (fun hG => ob_eq rfl rfl (Opd.gd hG u_0) (Opd.gd hG u_1))) <|
     o_p rfl (ob_pand rfl rfl u_0 (fun hz => (Opd.gd hz u_1))) <|
     o_p rfl (ob_move rfl rfl u_0) <|
     o_g (g_t rfl rfl rfl (fun hG => ob_fieldAddr fl_25_3 rfl rfl u_0)) <|
     o_g (g_t rfl rfl rfl (fun hG => ob_load ty_2 rfl rfl (Opd.gd hG u_0))) <|
     o_g (g_t rfl rfl rfl (fun hG => ob_fieldAddr fl_25_3 rfl rfl u_0)) <|
     o_g (g_t rfl rfl rfl (fun hG => ob_load ty_2 rfl rfl (Opd.gd hG u_0))) <|
     o_g (g_t rfl rfl rfl (fun hG => ob_eq rfl rfl (Opd.gd hG u_0) (Opd.gd hG u_1))) <|
     o_p rfl (ob_pand rfl rfl u_0 (fun hz => (Opd.gd hz u_1))) <|
     o_p rfl (ob_move rfl rfl u_0) <|
     o_g (g_t rfl rfl rfl (fun hG => ob_fieldAddr fl_25_4 rfl rfl u_0)) <|
     o_g (g_t rfl rfl rfl (fun hG => ob_load ty_22 rfl rfl (Opd.gd hG u_0))) <|
     o_g (g_t rfl rfl rfl (fun hG => ob_fieldAddr fl_25_4 rfl rfl u_0)) <|
     o_g (g_t rfl rfl rfl (fun hG => ob_load ty_22 rfl rfl (Opd.gd hG u_0))) <|
     o_g (g_t rfl rfl rfl (fun hG => ob_call en_33 (flo_Same_ok _ _ (gd_true h2 hG)) rfl rfl (.cons (Opd.gd hG u_0) (.cons (Opd.gd hG u_1) .nil)))) <|
     o_p rfl (ob_pand rfl rfl u_0 (fun hz => (Opd.gd hz u_1))) <|
     o_p rfl (ob_move rfl rfl u_0) <|
     o_g (g_t rfl rfl rfl (fun hG => ob_fieldAddr fl_25_5 rfl rfl u_0)) <|
     o_g (g_t rfl rfl rfl (fun hG => ob_load ty_3 rfl rfl (Opd.gd hG u_0))) <|
     o_g (g_t rfl rfl rfl (fun hG => ob_fieldAddr fl_25_5 rfl rfl u_0)) <|
     o_g (g_t rfl rfl rfl (fun hG => ob_load ty_3 rfl rfl (Opd.gd hG u_0))) <|
     o_g (g_t rfl rfl rfl (fun hG => ob_eq rfl rfl (Opd.gd hG u_0) (Opd.gd hG u_1))) <|
     o_p rfl (ob_pand rfl rfl u_0 (fun hz => (Opd.gd hz u_1))) <|
     o_p rfl (ob_move rfl rfl u_0) <|
     o_g (g_t rfl rfl rfl (fun hG => ob_fieldAddr fl_25_6 rfl rfl u_0)) <|
     o_g (g_t rfl rfl rfl (fun hG => ob_load ty_9 rfl rfl (Opd.gd hG u_0))) <|
     o_g (g_t rfl rfl rfl (fun hG => ob_fieldAddr fl_25_6 rfl rfl u_0)) <|
     o_g (g_t rfl rfl rfl (fun hG => ob_load ty_9 rfl rfl (Opd.gd hG u_0))) <|
     o_g (g_t rfl rfl rfl (fun hG => ob_seq rfl rfl (Opd.gd hG u_0) (Opd.gd hG u_1))) <|
     o_p rfl (ob_pand rfl rfl u_0 (fun hz => (Opd.gd hz u_1))) <|
     o_p rfl (ob_move rfl rfl u_0) <|
     o_g (g_t rfl rfl rfl (fun hG => ob_fieldAddr fl_25_7 rfl rfl u_0)) <|
     o_g (g_t rfl rfl rfl (fun hG => ob_load ty_23 rfl rfl (Opd.gd hG u_0))) <|
     o_g (g_t rfl rfl rfl (fun hG => ob_fieldAddr fl_25_7 rfl rfl u_0)) <|
     o_g (g_t rfl rfl rfl (fun hG => ob_load ty_23 rfl rfl (Opd.gd hG u_0))) <|
     o_g (g_t rfl rfl rfl (fun hG => ob_call en_34 (slices_EqualFunc_api_Item_api_Item_api_Item_api_Item_ok 35 [] rfl en_35 (fun y0 y1 => rec_Same_1 y0 y1) (fun y0 y1 r h => rec_Same_1_ok y0 y1 h) _ _ (gd_true h4 hG)) rfl rfl (.cons (Opd.gd hG u_0) (.cons (Opd.gd hG u_1) (.cons Opd.fnc .nil))))) <|
     o_p rfl (ob_pand rfl rfl u_0 (fun hz => (Opd.gd hz u_1))) <|
     o_p rfl (ob_assign rfl rfl u_0) <|
     o_n) (by kernel_rfl) (fun a g hst hb => ?_)
  refine wp_ret ?_
  obtain rfl := Option.some.inj H0
  exact endR1 rfl hst hb (res_tmp (s := 4)) (hst.at 0 rfl)
end Go.CL

set_option linter.unusedVariables false
set_option linter.unusedSimpArgs false
set_option maxRecDepth 100000
namespace Go.CL
open Go Go.RowKit Go.Proofs
theorem act_kind_field_ok (a0 : act_kind) (a1 : Int) {r : Bool} (h : act_kind_field a0 a1 = some r) : FnOk Tryd.prog 84 [(k_act_kind.pd a0), (pInt .u8 a1)] (pBool r) := by
  have H0 := h
  unfold act_kind_field at H0
  clear h
  refine fn_ok (N := 19) Tryd.func84 rfl rfl (Nat.le_of_ble_eq_true rfl) rfl rfl (fun a g0 hst hb => ?_)
  refine r_s (L := [(0, _), (1, _)]) (T := [⟨[.old 0], _, [], [], [2]⟩, ⟨[], _, [], [], [4]⟩]) (F := [.old 1, .op 0 0]) hst hb follows
    (o_p rfl (ob_box1 rfl rfl u_0) <|
     o_p rfl (ob_assign rfl rfl c_b) <|
     o_n) (by kernel_rfl) (fun a g hst hb => ?_)
  refine wp_seq ?_
  refine r_s (L := [(1, _), (2, _)]) (T := [⟨[.old 1], _, [], [], [6]⟩, ⟨[.op 0 0], _, [], [0], [7]⟩, ⟨[.op 1 0], _, [], [0, 1], [8]⟩, ⟨[], _, [], [], [9]⟩]) (F := [.old 0, .old 1, .op 2 0, .op 3 0]) hst hb follows
    (o_p rfl (ob_fieldAddr fl_77_2 rfl rfl u_0) <|
     o_p rfl (ob_load ty_9 rfl rfl u_0) <|
     o_p rfl (ob_lenS Tryd.underlying9 rfl rfl u_0) <|
     o_p rfl (ob_move rfl rfl c_i) <|
     o_n) (by kernel_rfl) (fun a g hst hb => ?_)
  obtain ⟨z6, hz1, H0⟩ := of_bind H0
  refine wp_cut (fun a w => ∃ (g : G), w = g.w ∧ St 19 [] a g ∧ Base g0 g ∧ (.inr ()) = z6) ?_ ?_
  · rintro a w ⟨g, rfl, hst, hb, rfl⟩
    refine then_n ?_
    refine r_s (L := []) (T := [⟨[], _, [], [], [4]⟩]) (F := [.op 0 0]) hst hb follows
      (o_p rfl (ob_assign rfl rfl c_b) <|
       o_n) (by kernel_rfl) (fun a g hst hb => ?_)
    refine wp_ret ?_
    obtain rfl := Option.some.inj H0
    exact endR1 rfl hst hb (res_tmp (s := 4)) (hst.at 0 rfl)
  · refine wp_block ?_
    refine wp_loop_ghost (fun n a w => ∃ (x1 : Int) (g : G), w = g.w ∧ St 19 [(1, (pInt .u8 a1)), (2, (k_act_kind.ptr a0)), (8, (pInt .i64 (a0.has.size : Int))), (9, (pInt .i64 x1))] a g ∧ Base g0 g ∧ act_kind_field_l1 a0 a1 n x1 = some z6) (Int.toNat ((a0.has.size : Int) - (0 : Int)) + 1) ⟨(0 : Int), g, rfl, (hst.pick [0, 1, 2, 3] rfl), hb, hz1⟩ (fun n a w hI => ?_)
    obtain ⟨x1, g, rfl, hst, hb, H1⟩ := hI
    cases n with
    | zero => exact absurd H1 (by simp [act_kind_field_l1])
    | succ n =>
      rw [act_kind_field_l1] at H1
      refine r_s (L := [(1, _), (2, _), (8, _), (9, _)]) (T := [⟨[.old 3, .old 2], _, [], [], [10]⟩]) (F := [.old 0, .old 1, .old 2, .old 3, .op 0 0]) hst hb follows
        (o_p rfl (ob_lt rfl rfl u_0 u_1) <|
         o_n) (by kernel_rfl) (fun a g hst hb => ?_)
      refine wp_seq ?_
      refine wp_cond_split (hst.bool 4 rfl) (fun hc2 => ?_) (fun hc2 => ?_)
      · replace H1 := ite_t hc2 H1
        refine wp_skip ?_
        refine then_n ?_
        refine wp_seq ?_
        refine wp_block ?_
        refine r_s (L := [(1, _), (2, _), (8, _), (9, _)]) (T := [⟨[.old 3], _, [], [], [11]⟩, ⟨[.op 0 0], _, [], [0], [5]⟩]) (F := [.old 0, .old 1, .op 1 0, .old 2, .old 3]) (hst.pick [0, 1, 2, 3] rfl) hb follows
          (o_p rfl (ob_move rfl rfl u_0) <|
           o_p rfl (ob_assign rfl rfl u_0) <|
           o_n) (by kernel_rfl) (fun a g hst hb => ?_)
        obtain ⟨b3, h4, H1⟩ := of_bind H1
        refine r_s (L := [(1, _), (2, _), (5, _), (8, _), (9, _)]) (T := [⟨[.old 1], _, [], [], [12]⟩, ⟨[.op 0 0], _, [], [0], [13]⟩, ⟨[.old 2], _, [], [], [14]⟩, ⟨[.op 1 0, .op 2 0], _, [], [0, 1, 2], [15]⟩, ⟨[.old 0], _, [], [], [16]⟩, ⟨[.op 3 0, .op 4 0], _, [], List.range 5, [17]⟩]) (F := [.old 0, .old 1, .old 3, .old 4, .op 5 0]) hst hb follows
          (o_p rfl (ob_fieldAddr fl_77_2 rfl rfl u_0) <|
           o_p rfl (ob_load ty_9 rfl rfl u_0) <|
           o_p rfl (ob_move rfl rfl u_0) <|
           o_p rfl (ob_sidx Tryd.underlying9 rfl rfl u_0 u_1 h4) <|
           o_p rfl (ob_move rfl rfl u_0) <|
           o_p rfl (ob_eq rfl rfl u_0 u_1) <|
           o_n) (by kernel_rfl) (fun a g hst hb => ?_)
        refine wp_cond_split (hst.bool 4 rfl) (fun hc5 => ?_) (fun hc5 => ?_)
        · replace H1 := ite_t hc5 H1
          refine r_s (L := []) (T := [⟨[], _, [], [], [4]⟩]) (F := [.op 0 0]) (hst.pick [] rfl) hb follows
            (o_p rfl (ob_assign rfl rfl c_b) <|
             o_n) (by kernel_rfl) (fun a g hst hb => ?_)
          refine wp_ret ?_
          refine inBlock_r ?_
          refine then_r ?_
          refine then_r ?_
          refine inBlock_r ?_
          refine then_r ?_
          refine then_r ?_
          obtain rfl := Option.some.inj H1
          obtain rfl := Option.some.inj H0
          exact endR1 rfl hst hb (res_tmp (s := 4)) (hst.at 0 rfl)
        · replace H1 := ite_f hc5 H1
          refine wp_skip ?_
          refine inBlock_n ?_
          refine then_n ?_
          refine r_g (L := [(1, _), (2, _), (8, _), (9, _)]) (T := [⟨[.old 3], _, [], [], [18]⟩, ⟨[.op 0 0], _, [], [0], [9]⟩]) (F := [.old 0, .old 1, .old 2, .op 1 0]) (hst.pick [0, 1, 2, 3] rfl) hb follows
            (o_p rfl (ob_add rfl rfl u_0 c_i rfl) <|
             o_p rfl (ob_move rfl rfl u_0) <|
             o_n) (by kernel_rfl) (fun a g hst hb => ?_)
          exact ⟨n, Nat.lt_succ_self _, (IntKind.i64.wrap (x1 + (1 : Int))), g, rfl, (hst.pick [0, 1, 2, 3] rfl), hb, H1⟩
      · replace H1 := ite_f hc2 H1
        refine wp_exit ?_
        refine then_e ?_
        refine then_e ?_
        refine inBlock_e ?_
        exact ⟨g, rfl, (hst.pick [] rfl), hb, Option.some.inj H1⟩
end Go.CL

set_option linter.unusedVariables false
set_option linter.unusedSimpArgs false
set_option maxRecDepth 100000
namespace Go.CL
open Go Go.RowKit Go.Proofs
theorem act_bare_ok (a0 : api_Act) (a1 : act_kind) {r : Bool} (h : act_bare a0 a1 = some r) : FnOk Tryd.prog 47 [(k_api_Act.pd a0), (k_act_kind.pd a1)] (pBool r) := by
  have H0 := h
  unfold act_bare at H0
  clear h
  refine fn_ok (N := 40) Tryd.func47 rfl rfl (Nat.le_of_ble_eq_true rfl) rfl rfl (fun a g0 hst hb => ?_)
  refine r_s (L := [(0, _), (1, _)]) (T := [⟨[.old 0], _, [], [], [2]⟩, ⟨[.old 1], _, [], [], [3]⟩, ⟨[], _, [], [], [4]⟩]) (F := [.op 0 0, .op 1 0]) hst hb follows
    (o_p rfl (ob_box1 rfl rfl u_0) <|
     o_p rfl (ob_box1 rfl rfl u_0) <|
     o_p rfl (ob_assign rfl rfl c_b) <|
     o_n) (by kernel_rfl) (fun a g hst hb => ?_)
  obtain ⟨r1, h2, H0⟩ := of_bind H0; obtain ⟨r3, h4, H0⟩ := of_bind H0; obtain ⟨r5, h6, H0⟩ := of_bind H0; obtain ⟨r7, h8, H0⟩ := of_bind H0; obtain ⟨r9, h10, H0⟩ := of_bind H0; obtain ⟨r11, h12, H0⟩ := of_bind H0
  refine r_s (L := [(2, _), (3, _)]) (T := ⟨[.old 1], _, [], [], [5]⟩ :: ⟨[.op 0 0], _, [], [0], [6]⟩ :: ⟨[.op 1 0], _, [], [0, 1], [7]⟩ :: ⟨[.op 2 0, .old 0], _, [], [0, 1, 2], [8]⟩ :: ⟨[.op 2 0, .op 3 0], _, [], List.range 4, [9]⟩ :: ⟨[.op 2 0, .op 4 0], _, [], List.range 5, [10]⟩ :: ⟨[.op 2 0, .op 5 0], _, [], List.range 6, [11]⟩ :: ⟨[.op 6 0], _, [], List.range 7, [12]⟩ :: ⟨[.op 7 0, .old 1], _, [], List.range 8, [13]⟩ :: ⟨[.op 7 0, .op 8 0], _, [], List.range 9, [14]⟩ :: ⟨[.op 7 0, .op 9 0], _, [], List.range 10, [15]⟩ :: ⟨[.op 10 0, .old 0], _, [], List.range 11, [16]⟩ :: ⟨[.op 10 0, .op 11 0], _, [], List.range 12, [17]⟩ :: ⟨[.op 10 0, .op 12 0], _, [], List.range 13, [18]⟩ :: ⟨[.op 7 0, .op 10 0, .op 13 0], _, [], List.range 14, [19]⟩ :: ⟨[.op 7 0, .op 14 0], _, [], List.range 15, [20]⟩ :: ⟨[.op 15 0], _, [], List.range 16, [21]⟩ :: ⟨[.op 16 0, .old 1], _, [], List.range 17, [22]⟩ :: ⟨[.op 16 0, .op 17 0], _, [], List.range 18, [23]⟩ :: ⟨[.op 16 0, .op 18 0], _, [], List.range 19, [24]⟩ :: ⟨[.op 19 0, .old 0], _, [], List.range 20, [25]⟩ :: ⟨[.op 19 0, .op 20 0], _, [], List.range 21, [26]⟩ :: ⟨[.op 19 0, .op 21 0], _, [], List.range 22, [27]⟩ :: ⟨[.op 16 0, .op 19 0, .op 22 0], _, [], List.range 23, [28]⟩ :: ⟨[.op 16 0, .op 23 0], _, [], List.range 24, [29]⟩ :: ⟨[.op 24 0], _, [], List.range 25, [30]⟩ :: ⟨[.op 25 0, .old 1], _, [], List.range 26, [31]⟩ :: ⟨[.op 25 0, .op 26 0], _, [], List.range 27, [32]⟩ :: ⟨[.op 25 0, .op 27 0], _, [], List.range 28, [33]⟩ :: ⟨[.op 28 0, .old 0], _, [], List.range 29, [34]⟩ :: ⟨[.op 28 0, .op 29 0], _, [], List.range 30, [35]⟩ :: ⟨[.op 28 0], _, [], List.range 29, [36]⟩ :: ⟨[.op 28 0, .op 30 0, .op 31 0], _, [], List.range 32, [37]⟩ :: ⟨[.op 25 0, .op 28 0, .op 32 0], _, [], List.range 33, [38]⟩ :: ⟨[.op 25 0, .op 33 0], _, [], List.range 34, [39]⟩ :: ⟨[.op 34 0], _, [], List.range 35, [4]⟩ :: []) (F := [.op 35 0]) hst hb follows
    (o_p rfl (ob_load ty_77 rfl rfl u_0) <|
     o_p rfl (ob_call en_84 (act_kind_field_ok _ _ h2) rfl rfl (.cons u_0 (.cons c_i .nil))) <|
     o_p rfl (ob_move rfl rfl u_0) <|
     o_g (g_f rfl rfl rfl (fun hG => ob_fieldAddr fl_27_2 rfl rfl u_0)) <|
     o_g (g_f rfl rfl rfl (fun hG => ob_load ty_2 rfl rfl (Opd.gd hG u_0))) <|
     o_g (g_f rfl rfl rfl (fun hG => ob_eq rfl rfl (Opd.gd hG u_0) c_i)) <|
     o_p rfl (ob_por rfl rfl u_0 (fun hz => (Opd.gd (bNF hz) u_1))) <|
     o_p rfl (ob_move rfl rfl u_0) <|
     o_g (g_t rfl rfl rfl (fun hG => ob_load ty_77 rfl rfl u_0)) <|
     o_g (g_t rfl rfl rfl (fun hG => ob_call en_84 (act_kind_field_ok _ _ (gd_true h4 hG)) rfl rfl (.cons (Opd.gd hG u_0) (.cons c_i .nil)))) <|
     o_g (g_t rfl rfl rfl (fun hG => ob_move rfl rfl (Opd.gd hG u_0))) <|
     o_g (g_fi rfl rfl rfl (fun hG => ob_fieldAddr fl_27_3 rfl rfl u_0)) <|
     o_g (g_fi rfl rfl rfl (fun hG => ob_load ty_22 rfl rfl (Opd.gd hG u_0))) <|
     o_g (g_fi rfl rfl rfl (fun hG => ob_call en_33 (flo_Same_ok _ _ (gd_true h6 hG)) rfl rfl (.cons (Opd.gd hG u_0) (.cons c_f .nil)))) <|
     o_g (g_t rfl rfl rfl (fun hG => ob_por rfl rfl (Opd.gd hG u_0) (fun hz => (Opd.gd (bA hG (bNF hz)) u_1)))) <|
     o_p rfl (ob_pand rfl rfl u_0 (fun hz => (Opd.gd hz u_1))) <|
     o_p rfl (ob_move rfl rfl u_0) <|
     o_g (g_t rfl rfl rfl (fun hG => ob_load ty_77 rfl rfl u_0)) <|
     o_g (g_t rfl rfl rfl (fun hG => ob_call en_84 (act_kind_field_ok _ _ (gd_true h8 hG)) rfl rfl (.cons (Opd.gd hG u_0) (.cons c_i .nil)))) <|
     o_g (g_t rfl rfl rfl (fun hG => ob_move rfl rfl (Opd.gd hG u_0))) <|
     o_g (g_fi rfl rfl rfl (fun hG => ob_fieldAddr fl_27_4 rfl rfl u_0)) <|
     o_g (g_fi rfl rfl rfl (fun hG => ob_load ty_9 rfl rfl (Opd.gd hG u_0))) <|
     o_g (g_fi rfl rfl rfl (fun hG => ob_seq rfl rfl (Opd.gd hG u_0) c_s)) <|
     o_g (g_t rfl rfl rfl (fun hG => ob_por rfl rfl (Opd.gd hG u_0) (fun hz => (Opd.gd (bA hG (bNF hz)) u_1)))) <|
     o_p rfl (ob_pand rfl rfl u_0 (fun hz => (Opd.gd hz u_1))) <|
     o_p rfl (ob_move rfl rfl u_0) <|
     o_g (g_t rfl rfl rfl (fun hG => ob_load ty_77 rfl rfl u_0)) <|
     o_g (g_t rfl rfl rfl (fun hG => ob_call en_84 (act_kind_field_ok _ _ (gd_true h10 hG)) rfl rfl (.cons (Opd.gd hG u_0) (.cons c_i .nil)))) <|
     o_g (g_t rfl rfl rfl (fun hG => ob_move rfl rfl (Opd.gd hG u_0))) <|
     o_g (g_fi rfl rfl rfl (fun hG => ob_fieldAddr fl_27_5 rfl rfl u_0)) <|
     o_g (g_fi rfl rfl rfl (fun hG => ob_load ty_25 rfl rfl (Opd.gd hG u_0))) <|
     o_g (g_fi rfl rfl rfl (fun hG => bd_25_ rfl rfl )) <|
     o_g (g_fi rfl rfl rfl (fun hG => ob_call en_17 (rec_Same_ok _ _ (gd_true h12 hG)) rfl rfl (.cons (Opd.gd hG u_0) (.cons (Opd.gd hG u_1) .nil)))) <|
     o_g (g_t rfl rfl rfl (fun hG => ob_por rfl rfl (Opd.gd hG u_0) (fun hz => (Opd.gd (bA hG (bNF hz)) u_1)))) <|
     o_p rfl (ob_pand rfl rfl u_0 (fun hz => (Opd.gd hz u_1))) <|
     o_p rfl (ob_assign rfl rfl u_0) <|
     o_n) (by kernel_rfl) (fun a g hst hb => ?_)
  refine wp_ret ?_
  obtain rfl := Option.some.inj H0
  exact endR1 rfl hst hb (res_tmp (s := 4)) (hst.at 0 rfl)
end Go.CL

set_option linter.unusedVariables false
set_option linter.unusedSimpArgs false
set_option maxRecDepth 100000
namespace Go.CL
open Go Go.RowKit Go.Proofs
theorem act_most_ok (a0 : act_kind) {r : Int} (h : act_most a0 = some r) : FnOk Tryd.prog 48 [(k_act_kind.pd a0)] (pInt .i64 r) := by
  have H0 := h
  unfold act_most at H0
  clear h
  refine fn_ok (N := 6) Tryd.func48 rfl rfl (Nat.le_of_ble_eq_true rfl) rfl rfl (fun a g0 hst hb => ?_)
  refine r_s (L := [(0, _)]) (T := [⟨[.old 0], _, [], [], [1]⟩, ⟨[], _, [], [], [2]⟩]) (F := [.op 0 0]) hst hb follows
    (o_p rfl (ob_box1 rfl rfl u_0) <|
     o_p rfl (ob_assign rfl rfl c_i) <|
     o_n) (by kernel_rfl) (fun a g hst hb => ?_)
  refine wp_seq ?_
  refine r_s (L := [(1, _)]) (T := [⟨[.old 0], _, [], [], [3]⟩, ⟨[.op 0 0], _, [], [0], [4]⟩, ⟨[.op 1 0], _, [], [0, 1], [5]⟩]) (F := [.op 2 0]) hst hb follows
    (o_p rfl (ob_fieldAddr fl_77_1 rfl rfl u_0) <|
     o_p rfl (ob_load ty_3 rfl rfl u_0) <|
     o_p rfl (ob_eq rfl rfl u_0 c_i) <|
     o_n) (by kernel_rfl) (fun a g hst hb => ?_)
  refine wp_cond_split (hst.bool 0 rfl) (fun hc1 => ?_) (fun hc1 => ?_)
  · replace H0 := ite_t hc1 H0
    refine r_s (L := []) (T := [⟨[], _, [], [], [2]⟩]) (F := [.op 0 0]) (hst.pick [] rfl) hb follows
      (o_p rfl (ob_assign rfl rfl c_i) <|
       o_n) (by kernel_rfl) (fun a g hst hb => ?_)
    refine wp_ret ?_
    refine then_r ?_
    obtain rfl := Option.some.inj H0
    exact endR1 rfl hst hb (res_tmp (s := 2)) (hst.at 0 rfl)
  · replace H0 := ite_f hc1 H0
    refine wp_skip ?_
    refine then_n ?_
    refine r_s (L := []) (T := [⟨[], _, [], [], [2]⟩]) (F := [.op 0 0]) (hst.pick [] rfl) hb follows
      (o_p rfl (ob_assign rfl rfl c_i) <|
       o_n) (by kernel_rfl) (fun a g hst hb => ?_)
    refine wp_ret ?_
    obtain rfl := Option.some.inj H0
    exact endR1 rfl hst hb (res_tmp (s := 2)) (hst.at 0 rfl)
end Go.CL

set_option linter.unusedVariables false
set_option linter.unusedSimpArgs false
set_option maxRecDepth 100000
namespace Go.CL
open Go Go.RowKit Go.Proofs
theorem act_Check_ok (a0 : api_Act) {r : Int} (h : act_Check a0 = some r) : FnOk Tryd.prog 26 [(k_api_Act.pd a0)] (pInt .i64 r) := by
  have H0 := h
  unfold act_Check at H0
  clear h
  refine fn_ok (N := 64) Tryd.func26 rfl rfl (Nat.le_of_ble_eq_true rfl) rfl rfl (fun a g0 hst hb => ?_)
  refine r_s (L := [(0, _)]) (T := [⟨[.old 0], _, [], [], [1]⟩, ⟨[], _, [], [], [2]⟩]) (F := [.op 0 0]) hst hb follows
    (o_p rfl (ob_box1 rfl rfl u_0) <|
     o_p rfl (ob_assign rfl rfl c_i) <|
     o_n) (by kernel_rfl) (fun a g hst hb => ?_)
  obtain ⟨r1, h2, H0⟩ := of_bind H0
  refine r_s (L := [(1, _)]) (T := [⟨[.old 0], _, [], [], [4]⟩, ⟨[.op 0 0], _, [], [0], [5]⟩, ⟨[.op 1 0], _, [], [0, 1], [6]⟩, ⟨[], [(3, (pBox k_act_kind 3 (default : act_kind)))], [4], [], [3]⟩, ⟨[.op 2 0, .op 3 0], _, [4], List.range 4, [3]⟩]) (F := [.old 0, .op 4 0]) hst hb follows
    (o_p rfl (ob_fieldAddr fl_27_0 rfl rfl u_0) <|
     o_p rfl (ob_load ty_3 rfl rfl u_0) <|
     o_p rfl (ob_call en_46 (act_of_ok _ h2) rfl rfl (.cons u_0 .nil)) <|
     o_p rfl (ob_alloc (zs := [.string ByteArray.empty, .int .i64 0, .string ByteArray.empty]) (by kernel_rfl) (fun g => zk_act_kind g) rfl rfl) <|
     o_p rfl (ob_storeF ty_77 rfl rfl u_1 u_0) <|
     o_n) (by kernel_rfl) (fun a g hst hb => ?_)
  refine wp_seq ?_
  refine wp_block ?_
  refine r_s (L := [(1, _), (3, _)]) (T := [⟨[.old 1], _, [], [], [8]⟩, ⟨[.op 0 0], _, [], [0], [9]⟩, ⟨[.op 1 0], _, [], [0, 1], [10]⟩, ⟨[.op 2 0], _, [], [0, 1, 2], [7]⟩]) (F := [.old 0, .old 1, .op 3 0]) hst hb follows
    (o_p rfl (ob_fieldAddr fl_77_0 rfl rfl u_0) <|
     o_p rfl (ob_load ty_9 rfl rfl u_0) <|
     o_p rfl (ob_seq rfl rfl u_0 c_s) <|
     o_p rfl (ob_assign rfl rfl u_0) <|
     o_n) (by kernel_rfl) (fun a g hst hb => ?_)
  refine wp_cond_split (hst.bool 2 rfl) (fun hc3 => ?_) (fun hc3 => ?_)
  · replace H0 := ite_t hc3 H0
    refine r_s (L := []) (T := [⟨[], _, [], [], [2]⟩]) (F := [.op 0 0]) (hst.pick [] rfl) hb follows
      (o_p rfl (ob_assign rfl rfl c_i) <|
       o_n) (by kernel_rfl) (fun a g hst hb => ?_)
    refine wp_ret ?_
    refine inBlock_r ?_
    refine then_r ?_
    obtain rfl := Option.some.inj H0
    exact endR1 rfl hst hb (res_tmp (s := 2)) (hst.at 0 rfl)
  · replace H0 := ite_f hc3 H0
    refine r_s (L := [(1, _), (3, _)]) (T := [⟨[.old 0], _, [], [], [12]⟩, ⟨[.op 0 0], _, [], [0], [13]⟩, ⟨[.op 1 0], _, [], [0, 1], [14]⟩, ⟨[.op 2 0], _, [], [0, 1, 2], [15]⟩, ⟨[.op 3 0, .old 0], _, [], List.range 4, [16]⟩, ⟨[.op 3 0, .op 4 0], _, [], List.range 5, [17]⟩, ⟨[.op 3 0, .op 5 0], _, [], List.range 6, [18]⟩, ⟨[.op 3 0, .op 6 0], _, [], List.range 7, [19]⟩, ⟨[.op 3 0, .op 7 0], _, [], List.range 8, [20]⟩, ⟨[.op 8 0], _, [], List.range 9, [11]⟩]) (F := [.old 0, .old 1, .op 9 0]) (hst.pick [0, 1] rfl) hb follows
      (o_p rfl (ob_fieldAddr fl_27_1 rfl rfl u_0) <|
       o_p rfl (ob_load ty_9 rfl rfl u_0) <|
       o_p rfl (ob_seq rfl rfl u_0 c_s) <|
       o_p rfl (ob_move rfl rfl u_0) <|
       o_g (g_f rfl rfl rfl (fun hG => ob_fieldAddr fl_27_1 rfl rfl u_0)) <|
       o_g (g_f rfl rfl rfl (fun hG => ob_load ty_9 rfl rfl (Opd.gd hG u_0))) <|
       o_g (g_f rfl rfl rfl (fun hG => ob_lenS Tryd.underlying9 rfl rfl (Opd.gd hG u_0))) <|
       o_g (g_f rfl rfl rfl (fun hG => ob_gt rfl rfl (Opd.gd hG u_0) c_i)) <|
       o_p rfl (ob_por rfl rfl u_0 (fun hz => (Opd.gd (bNF hz) u_1))) <|
       o_p rfl (ob_assign rfl rfl u_0) <|
       o_n) (by kernel_rfl) (fun a g hst hb => ?_)
    refine wp_cond_split (hst.bool 2 rfl) (fun hc4 => ?_) (fun hc4 => ?_)
    · replace H0 := ite_t hc4 H0
      refine r_s (L := []) (T := [⟨[], _, [], [], [2]⟩]) (F := [.op 0 0]) (hst.pick [] rfl) hb follows
        (o_p rfl (ob_assign rfl rfl c_i) <|
         o_n) (by kernel_rfl) (fun a g hst hb => ?_)
      refine wp_ret ?_
      refine inBlock_r ?_
      refine then_r ?_
      obtain rfl := Option.some.inj H0
      exact endR1 rfl hst hb (res_tmp (s := 2)) (hst.at 0 rfl)
    · replace H0 := ite_f hc4 H0
      obtain ⟨r5, h6, H0⟩ := of_bind H0
      refine r_s (L := [(1, _), (3, _)]) (T := [⟨[.old 0], _, [], [], [22]⟩, ⟨[.old 1], _, [], [], [23]⟩, ⟨[.op 0 0, .op 1 0], _, [], [0, 1], [24]⟩, ⟨[.op 2 0], _, [], [0, 1, 2], [25]⟩, ⟨[.op 3 0], _, [], List.range 4, [21]⟩]) (F := [.old 0, .old 1, .op 4 0]) (hst.pick [0, 1] rfl) hb follows
        (o_p rfl (ob_load ty_27 rfl rfl u_0) <|
         o_p rfl (ob_load ty_77 rfl rfl u_0) <|
         o_p rfl (ob_call en_47 (act_bare_ok _ _ h6) rfl rfl (.cons u_0 (.cons u_1 .nil))) <|
         o_p rfl (ob_not rfl rfl u_0) <|
         o_p rfl (ob_assign rfl rfl u_0) <|
         o_n) (by kernel_rfl) (fun a g hst hb => ?_)
      refine wp_cond_split (hst.bool 2 rfl) (fun hc7 => ?_) (fun hc7 => ?_)
      · replace H0 := ite_t hc7 H0
        refine r_s (L := []) (T := [⟨[], _, [], [], [2]⟩]) (F := [.op 0 0]) (hst.pick [] rfl) hb follows
          (o_p rfl (ob_assign rfl rfl c_i) <|
           o_n) (by kernel_rfl) (fun a g hst hb => ?_)
        refine wp_ret ?_
        refine inBlock_r ?_
        refine then_r ?_
        obtain rfl := Option.some.inj H0
        exact endR1 rfl hst hb (res_tmp (s := 2)) (hst.at 0 rfl)
      · replace H0 := ite_f hc7 H0
        obtain ⟨r8, h9, H0⟩ := of_bind H0
        refine r_s (L := [(1, _), (3, _)]) (T := [⟨[.old 0], _, [], [], [27]⟩, ⟨[.op 0 0], _, [], [0], [28]⟩, ⟨[.op 1 0], _, [], [0, 1], [29]⟩, ⟨[.old 1], _, [], [], [30]⟩, ⟨[.op 3 0], _, [], [3], [31]⟩, ⟨[.op 2 0, .op 4 0], _, [], List.range 5, [32]⟩, ⟨[.op 5 0], _, [], List.range 6, [26]⟩]) (F := [.old 0, .op 6 0]) (hst.pick [0, 1] rfl) hb follows
          (o_p rfl (ob_fieldAddr fl_27_4 rfl rfl u_0) <|
           o_p rfl (ob_load ty_9 rfl rfl u_0) <|
           o_p rfl (ob_lenS Tryd.underlying9 rfl rfl u_0) <|
           o_p rfl (ob_load ty_77 rfl rfl u_0) <|
           o_p rfl (ob_call en_48 (act_most_ok _ h9) rfl rfl (.cons u_0 .nil)) <|
           o_p rfl (ob_gt rfl rfl u_0 u_1) <|
           o_p rfl (ob_assign rfl rfl u_0) <|
           o_n) (by kernel_rfl) (fun a g hst hb => ?_)
        refine wp_cond_split (hst.bool 1 rfl) (fun hc10 => ?_) (fun hc10 => ?_)
        · replace H0 := ite_t hc10 H0
          refine r_s (L := []) (T := [⟨[], _, [], [], [2]⟩]) (F := [.op 0 0]) (hst.pick [] rfl) hb follows
            (o_p rfl (ob_assign rfl rfl c_i) <|
             o_n) (by kernel_rfl) (fun a g hst hb => ?_)
          refine wp_ret ?_
          refine inBlock_r ?_
          refine then_r ?_
          obtain rfl := Option.some.inj H0
          exact endR1 rfl hst hb (res_tmp (s := 2)) (hst.at 0 rfl)
        · replace H0 := ite_f hc10 H0
          refine r_s (L := [(1, _)]) (T := ⟨[.old 0], _, [], [], [34]⟩ :: ⟨[.op 0 0], _, [], [0], [35]⟩ :: ⟨[.op 1 0], _, [], [0, 1], [36]⟩ :: ⟨[.op 2 0], _, [], [0, 1, 2], [37]⟩ :: ⟨[.op 3 0, .old 0], _, [], List.range 4, [38]⟩ :: ⟨[.op 3 0, .op 4 0], _, [], List.range 5, [39]⟩ :: ⟨[.op 3 0, .op 5 0], _, [], List.range 6, [40]⟩ :: ⟨[.op 3 0, .op 6 0], _, [], List.range 7, [41]⟩ :: ⟨[.op 7 0], _, [], List.range 8, [42]⟩ :: ⟨[.op 8 0, .old 0], _, [], List.range 9, [43]⟩ :: ⟨[.op 8 0, .op 9 0], _, [], List.range 10, [44]⟩ :: ⟨[.op 8 0, .op 10 0], _, [], List.range 11, [45]⟩ :: ⟨[.op 8 0, .op 11 0], _, [], List.range 12, [46]⟩ :: ⟨[.op 12 0, .old 0], _, [], List.range 13, [47]⟩ :: ⟨[.op 12 0, .op 13 0], _, [], List.range 14, [48]⟩ :: ⟨[.op 12 0, .op 14 0], _, [], List.range 15, [49]⟩ :: ⟨[.op 8 0, .op 12 0, .op 15 0], _, [], List.range 16, [50]⟩ :: ⟨[.op 8 0, .op 16 0], _, [], List.range 17, [51]⟩ :: ⟨[.op 17 0], _, [], List.range 18, [33]⟩ :: []) (F := [.old 0, .op 18 0]) (hst.pick [0] rfl) hb follows
            (o_p rfl (ob_fieldAddr fl_27_0 rfl rfl u_0) <|
             o_p rfl (ob_load ty_3 rfl rfl u_0) <|
             o_p rfl (ob_eq rfl rfl u_0 c_i) <|
             o_p rfl (ob_move rfl rfl u_0) <|
             o_g (g_f rfl rfl rfl (fun hG => ob_fieldAddr fl_27_0 rfl rfl u_0)) <|
             o_g (g_f rfl rfl rfl (fun hG => ob_load ty_3 rfl rfl (Opd.gd hG u_0))) <|
             o_g (g_f rfl rfl rfl (fun hG => ob_eq rfl rfl (Opd.gd hG u_0) c_i)) <|
             o_p rfl (ob_por rfl rfl u_0 (fun hz => (Opd.gd (bNF hz) u_1))) <|
             o_p rfl (ob_move rfl rfl u_0) <|
             o_g (g_t rfl rfl rfl (fun hG => ob_fieldAddr fl_27_2 rfl rfl u_0)) <|
             o_g (g_t rfl rfl rfl (fun hG => ob_load ty_2 rfl rfl (Opd.gd hG u_0))) <|
             o_g (g_t rfl rfl rfl (fun hG => ob_lt rfl rfl (Opd.gd hG u_0) c_i)) <|
             o_g (g_t rfl rfl rfl (fun hG => ob_move rfl rfl (Opd.gd hG u_0))) <|
             o_g (g_fi rfl rfl rfl (fun hG => ob_fieldAddr fl_27_2 rfl rfl u_0)) <|
             o_g (g_fi rfl rfl rfl (fun hG => ob_load ty_2 rfl rfl (Opd.gd hG u_0))) <|
             o_g (g_fi rfl rfl rfl (fun hG => ob_gt rfl rfl (Opd.gd hG u_0) c_i)) <|
             o_g (g_t rfl rfl rfl (fun hG => ob_por rfl rfl (Opd.gd hG u_0) (fun hz => (Opd.gd (bA hG (bNF hz)) u_1)))) <|
             o_p rfl (ob_pand rfl rfl u_0 (fun hz => (Opd.gd hz u_1))) <|
             o_p rfl (ob_assign rfl rfl u_0) <|
             o_n) (by kernel_rfl) (fun a g hst hb => ?_)
          refine wp_cond_split (hst.bool 1 rfl) (fun hc11 => ?_) (fun hc11 => ?_)
          · replace H0 := ite_t hc11 H0
            refine r_s (L := []) (T := [⟨[], _, [], [], [2]⟩]) (F := [.op 0 0]) (hst.pick [] rfl) hb follows
              (o_p rfl (ob_assign rfl rfl c_i) <|
               o_n) (by kernel_rfl) (fun a g hst hb => ?_)
            refine wp_ret ?_
            refine inBlock_r ?_
            refine then_r ?_
            obtain rfl := Option.some.inj H0
            exact endR1 rfl hst hb (res_tmp (s := 2)) (hst.at 0 rfl)
          · replace H0 := ite_f hc11 H0
            obtain ⟨r12, h13, H0⟩ := of_bind H0
            refine r_s (L := [(1, _)]) (T := [⟨[.old 0], _, [], [], [53]⟩, ⟨[.op 0 0], _, [], [0], [54]⟩, ⟨[.op 1 0], _, [], [0, 1], [55]⟩, ⟨[.op 2 0], _, [], [0, 1, 2], [56]⟩, ⟨[.op 3 0], _, [], List.range 4, [52]⟩]) (F := [.old 0, .op 4 0]) (hst.pick [0] rfl) hb follows
              (o_p rfl (ob_fieldAddr fl_27_3 rfl rfl u_0) <|
               o_p rfl (ob_load ty_22 rfl rfl u_0) <|
               o_p rfl (ob_call en_44 (flo_Proper_ok _ h13) rfl rfl (.cons u_0 .nil)) <|
               o_p rfl (ob_not rfl rfl u_0) <|
               o_p rfl (ob_assign rfl rfl u_0) <|
               o_n) (by kernel_rfl) (fun a g hst hb => ?_)
            refine wp_cond_split (hst.bool 1 rfl) (fun hc14 => ?_) (fun hc14 => ?_)
            · replace H0 := ite_t hc14 H0
              refine r_s (L := []) (T := [⟨[], _, [], [], [2]⟩]) (F := [.op 0 0]) (hst.pick [] rfl) hb follows
                (o_p rfl (ob_assign rfl rfl c_i) <|
                 o_n) (by kernel_rfl) (fun a g hst hb => ?_)
              refine wp_ret ?_
              refine inBlock_r ?_
              refine then_r ?_
              obtain rfl := Option.some.inj H0
              exact endR1 rfl hst hb (res_tmp (s := 2)) (hst.at 0 rfl)
            · replace H0 := ite_f hc14 H0
              refine r_s (L := [(1, _)]) (T := [⟨[.old 0], _, [], [], [58]⟩, ⟨[.op 0 0], _, [], [0], [59]⟩, ⟨[.op 1 0], _, [], [0, 1], [60]⟩, ⟨[.op 2 0], _, [], [0, 1, 2], [57]⟩]) (F := [.old 0, .op 3 0]) (hst.pick [0] rfl) hb follows
                (o_p rfl (ob_fieldAddr fl_27_0 rfl rfl u_0) <|
                 o_p rfl (ob_load ty_3 rfl rfl u_0) <|
                 o_p rfl (ob_eq rfl rfl u_0 c_i) <|
                 o_p rfl (ob_assign rfl rfl u_0) <|
                 o_n) (by kernel_rfl) (fun a g hst hb => ?_)
              refine wp_cond_split (hst.bool 1 rfl) (fun hc15 => ?_) (fun hc15 => ?_)
              · replace H0 := ite_t hc15 H0
                obtain ⟨r16, h17, H0⟩ := of_bind H0
                refine r_s (L := [(1, _)]) (T := [⟨[.old 0], _, [], [], [61]⟩, ⟨[.op 0 0], _, [], [0], [62]⟩, ⟨[.op 1 0], _, [], [0, 1], [63]⟩, ⟨[.op 2 0], _, [], [0, 1, 2], [2]⟩]) (F := [.op 3 0]) (hst.pick [0] rfl) hb follows
                  (o_p rfl (ob_fieldAddr fl_27_5 rfl rfl u_0) <|
                   o_p rfl (ob_load ty_25 rfl rfl u_0) <|
                   o_p rfl (ob_call en_21 (rec_Check_ok _ h17) rfl rfl (.cons u_0 .nil)) <|
                   o_p rfl (ob_assign rfl rfl u_0) <|
                   o_n) (by kernel_rfl) (fun a g hst hb => ?_)
                refine wp_ret ?_
                refine inBlock_r ?_
                refine then_r ?_
                obtain rfl := Option.some.inj H0
                exact endR1 rfl hst hb (res_tmp (s := 2)) (hst.at 0 rfl)
              · replace H0 := ite_f hc15 H0
                refine wp_skip ?_
                refine inBlock_n ?_
                refine then_n ?_
                refine r_s (L := []) (T := [⟨[], _, [], [], [2]⟩]) (F := [.op 0 0]) (hst.pick [] rfl) hb follows
                  (o_p rfl (ob_assign rfl rfl c_i) <|
                   o_n) (by kernel_rfl) (fun a g hst hb => ?_)
                refine wp_ret ?_
                obtain rfl := Option.some.inj H0
                exact endR1 rfl hst hb (res_tmp (s := 2)) (hst.at 0 rfl)
end Go.CL

set_option linter.unusedVariables false
set_option linter.unusedSimpArgs false
set_option maxRecDepth 100000
namespace Go.CL
open Go Go.RowKit Go.Proofs
theorem act_On_ok (a0 : Int) {r : Int} (h : act_On a0 = some r) : FnOk Tryd.prog 27 [(pInt .i64 a0)] (pInt .i64 r) := by
  have H0 := h
  unfold act_On at H0
  clear h
  refine fn_ok (N := 6) Tryd.func27 rfl rfl (Nat.le_of_ble_eq_true rfl) rfl rfl (fun a g0 hst hb => ?_)
  refine r_s (L := [(0, _)]) (T := [⟨[], _, [], [], [2]⟩]) (F := [.old 0]) hst hb follows
    (o_p rfl (ob_assign rfl rfl c_i) <|
     o_n) (by kernel_rfl) (fun a g hst hb => ?_)
  obtain ⟨r1, h2, H0⟩ := of_bind H0
  refine r_s (L := [(0, _)]) (T := [⟨[.old 0], _, [], [], [3]⟩, ⟨[.op 0 0], _, [], [0], [4]⟩, ⟨[.op 1 0], _, [], [0, 1], [5]⟩, ⟨[.op 2 0], _, [], [0, 1, 2], [2]⟩]) (F := [.op 3 0]) hst hb follows
    (o_p rfl (ob_move rfl rfl u_0) <|
     o_p rfl (ob_call en_46 (act_of_ok _ h2) rfl rfl (.cons u_0 .nil)) <|
     o_p rfl (ob_field fl_77_1 rfl rfl u_0) <|
     o_p rfl (ob_assign rfl rfl u_0) <|
     o_n) (by kernel_rfl) (fun a g hst hb => ?_)
  refine wp_ret ?_
  obtain rfl := Option.some.inj H0
  exact endR1 rfl hst hb (res_tmp (s := 2)) (hst.at 0 rfl)
end Go.CL

set_option linter.unusedVariables false
set_option linter.unusedSimpArgs false
set_option maxRecDepth 100000
namespace Go.CL
open Go Go.RowKit Go.Proofs
theorem rule_changes_1_ok (a0 : api_Record) (a1 : api_Act) (a2 : api_Answer) {r : Int × api_Record × api_Answer} (h : rule_changes_1 a0 a1 a2 = some r) : FnB Tryd.prog 49 [.box k_api_Record a0 r.2.1, .val (k_api_Act.pd a1), .box k_api_Answer a2 r.2.2] (pInt .i64 r.1) := by
  have H0 := h
  unfold rule_changes_1 at H0
  clear h
  refine fnB_ok (N := 12) Tryd.func49 rfl rfl (Nat.le_of_ble_eq_true rfl) rfl rfl (fun a g0 bs hbs hst hb => ?_)
  obtain ⟨b0, b2, rfl⟩ := len_2 hbs
  replace hst : St 12 [(0, (pBoxC (some b0) k_api_Record 0 a0)), (1, (k_api_Act.pd a1)), (2, (pBoxC (some b2) k_api_Answer 2 a2))] _ _ := hst
  refine r_s (L := [(0, _), (1, _), (2, _)]) (T := [⟨[.old 1], _, [], [], [4]⟩, ⟨[], _, [], [], [6]⟩]) (F := [.old 0, .old 2, .op 0 0]) hst hb follows
    (o_p rfl (ob_box1 rfl rfl u_0) <|
     o_p rfl (ob_assign rfl rfl c_i) <|
     o_n) (by kernel_rfl) (fun a g hst hb => ?_)
  refine r_s (L := [(0, _), (2, _), (4, _)]) (T := [⟨[.old 0], _, [], [], [7]⟩, ⟨[.old 2], _, [], [], [8]⟩, ⟨[.op 1 0], _, [], [1], [9]⟩, ⟨[.op 0 0], _, [], [0, 1, 2], [10]⟩, ⟨[.op 3 0], _, [], List.range 4, [11]⟩, ⟨[.op 2 0, .op 4 0, .old 0], _, [1], List.range 5, [0, 7, 10, 11]⟩]) (F := [.op 5 0, .old 1]) hst hb follows
    (o_p rfl (ob_move rfl rfl u_0) <|
     o_p rfl (ob_fieldAddr fl_27_4 rfl rfl u_0) <|
     o_p rfl (ob_load ty_9 rfl rfl u_0) <|
     o_p rfl (ob_nilCheck rfl rfl u_0 (fun _ _ ⟨_, _, _, e, _⟩ => ⟨_, e⟩)) <|
     o_p rfl (ob_fieldAddrM fl_25_6 (off := 6) (by kernel_rfl) rfl rfl u_0) <|
     o_p rfl (wi_25_6 ty_9 rfl rfl u_2 u_1 u_0) <|
     o_n) (by kernel_rfl) (fun a g hst hb => ?_)
  refine r_s (L := [(0, _), (2, _)]) (T := [⟨[], _, [], [], [6]⟩]) (F := [.old 0, .old 1, .op 0 0]) hst hb follows
    (o_p rfl (ob_assign rfl rfl c_i) <|
     o_n) (by kernel_rfl) (fun a g hst hb => ?_)
  refine wp_ret ?_
  obtain rfl := Option.some.inj H0
  exact endB1 rfl hst hb (res_tmp (s := 6)) (hst.at 2 rfl) ⟨box_of (hst.at 0 rfl), box_of (hst.at 1 rfl), trivial⟩
end Go.CL

set_option linter.unusedVariables false
set_option linter.unusedSimpArgs false
set_option maxRecDepth 100000
namespace Go.CL
open Go Go.RowKit Go.Proofs
theorem rule_changes_2_ok (a0 : api_Record) (a1 : api_Act) (a2 : api_Answer) {r : Int × api_Record × api_Answer} (h : rule_changes_2 a0 a1 a2 = some r) : FnB Tryd.prog 50 [.box k_api_Record a0 r.2.1, .val (k_api_Act.pd a1), .box k_api_Answer a2 r.2.2] (pInt .i64 r.1) := by
  have H0 := h
  unfold rule_changes_2 at H0
  clear h
  refine fnB_ok (N := 19) Tryd.func50 rfl rfl (Nat.le_of_ble_eq_true rfl) rfl rfl (fun a g0 bs hbs hst hb => ?_)
  obtain ⟨b0, b2, rfl⟩ := len_2 hbs
  replace hst : St 19 [(0, (pBoxC (some b0) k_api_Record 0 a0)), (1, (k_api_Act.pd a1)), (2, (pBoxC (some b2) k_api_Answer 2 a2))] _ _ := hst
  refine r_s (L := [(0, _), (1, _), (2, _)]) (T := [⟨[.old 1], _, [], [], [4]⟩, ⟨[], _, [], [], [6]⟩]) (F := [.old 0, .old 2, .op 0 0]) hst hb follows
    (o_p rfl (ob_box1 rfl rfl u_0) <|
     o_p rfl (ob_assign rfl rfl c_i) <|
     o_n) (by kernel_rfl) (fun a g hst hb => ?_)
  obtain ⟨r1, h2, H0⟩ := of_bind H0
  refine r_s (L := [(0, _), (2, _), (4, _)]) (T := [⟨[.old 1], _, [], [], [7]⟩, ⟨[.old 0], _, [], [], [8]⟩, ⟨[.op 1 0], _, [], [1], [9]⟩, ⟨[.op 2 0], _, [], [1, 2], [10]⟩, ⟨[.op 3 0], _, [], [1, 2, 3], [11]⟩, ⟨[.op 0 0], _, [], List.range 5, [12]⟩, ⟨[.op 5 0], _, [], List.range 6, [13]⟩, ⟨[.op 4 0, .op 6 0, .old 1], _, [3], List.range 7, [2, 7, 12, 13]⟩]) (F := [.old 0, .op 7 0, .old 2]) hst hb follows
    (o_p rfl (ob_move rfl rfl u_0) <|
     o_p rfl (ob_move rfl rfl u_0) <|
     o_p rfl (ob_nilCheck rfl rfl u_0 (fun _ _ ⟨_, _, _, e, _⟩ => ⟨_, e⟩)) <|
     o_p rfl (ob_loadM ty_25 rfl rfl u_0) <|
     o_p rfl (ob_call en_20 (rec_Clone_ok _ h2) rfl rfl (.cons u_0 .nil)) <|
     o_p rfl (ob_nilCheck rfl rfl u_0 (fun _ _ ⟨_, _, _, e, _⟩ => ⟨_, e⟩)) <|
     o_p rfl (ob_fieldAddrM fl_32_2 (off := 2) (by kernel_rfl) rfl rfl u_0) <|
     o_p rfl (wi_32_2 ty_25 rfl rfl u_2 u_1 u_0) <|
     o_n) (by kernel_rfl) (fun a g hst hb => ?_)
  refine r_s (L := [(0, _), (2, _), (4, _)]) (T := [⟨[.old 0], _, [], [], [14]⟩, ⟨[.old 2], _, [], [], [15]⟩, ⟨[.op 1 0], _, [], [1], [16]⟩, ⟨[.op 0 0], _, [], [0, 1, 2], [17]⟩, ⟨[.op 3 0], _, [], List.range 4, [18]⟩, ⟨[.op 2 0, .op 4 0, .old 0], _, [1], List.range 5, [0, 14, 17, 18]⟩]) (F := [.op 5 0, .old 1]) hst hb follows
    (o_p rfl (ob_move rfl rfl u_0) <|
     o_p rfl (ob_fieldAddr fl_27_4 rfl rfl u_0) <|
     o_p rfl (ob_load ty_9 rfl rfl u_0) <|
     o_p rfl (ob_nilCheck rfl rfl u_0 (fun _ _ ⟨_, _, _, e, _⟩ => ⟨_, e⟩)) <|
     o_p rfl (ob_fieldAddrM fl_25_6 (off := 6) (by kernel_rfl) rfl rfl u_0) <|
     o_p rfl (wi_25_6 ty_9 rfl rfl u_2 u_1 u_0) <|
     o_n) (by kernel_rfl) (fun a g hst hb => ?_)
  refine r_s (L := [(0, _), (2, _)]) (T := [⟨[], _, [], [], [6]⟩]) (F := [.old 0, .old 1, .op 0 0]) hst hb follows
    (o_p rfl (ob_assign rfl rfl c_i) <|
     o_n) (by kernel_rfl) (fun a g hst hb => ?_)
  refine wp_ret ?_
  obtain rfl := Option.some.inj H0
  exact endB1 rfl hst hb (res_tmp (s := 6)) (hst.at 2 rfl) ⟨box_of (hst.at 0 rfl), box_of (hst.at 1 rfl), trivial⟩
end Go.CL

set_option linter.unusedVariables false
set_option linter.unusedSimpArgs false
set_option maxRecDepth 100000
namespace Go.CL
open Go Go.RowKit Go.Proofs
theorem rule_changes_3_ok (a0 : api_Record) (a1 : api_Act) (a2 : api_Answer) {r : Int × api_Record × api_Answer} (h : rule_changes_3 a0 a1 a2 = some r) : FnB Tryd.prog 51 [.box k_api_Record a0 r.2.1, .val (k_api_Act.pd a1), .box k_api_Answer a2 r.2.2] (pInt .i64 r.1) := by
  have H0 := h
  unfold rule_changes_3 at H0
  clear h
  refine fnB_ok (N := 16) Tryd.func51 rfl rfl (Nat.le_of_ble_eq_true rfl) rfl rfl (fun a g0 bs hbs hst hb => ?_)
  obtain ⟨b0, b2, rfl⟩ := len_2 hbs
  replace hst : St 16 [(0, (pBoxC (some b0) k_api_Record 0 a0)), (1, (k_api_Act.pd a1)), (2, (pBoxC (some b2) k_api_Answer 2 a2))] _ _ := hst
  refine r_s (L := [(0, _), (1, _), (2, _)]) (T := [⟨[.old 1], _, [], [], [4]⟩, ⟨[], _, [], [], [6]⟩]) (F := [.old 0, .old 2, .op 0 0]) hst hb follows
    (o_p rfl (ob_box1 rfl rfl u_0) <|
     o_p rfl (ob_assign rfl rfl c_i) <|
     o_n) (by kernel_rfl) (fun a g hst hb => ?_)
  refine r_s (L := [(0, _), (2, _), (4, _)]) (T := [⟨[.old 0], _, [], [], [7]⟩, ⟨[.op 0 0], _, [], [0], [8]⟩, ⟨[.op 1 0], _, [], [0, 1], [9]⟩, ⟨[.op 2 0], _, [], [0, 1, 2], [10]⟩, ⟨[.old 2], _, [], [], [11]⟩, ⟨[.op 4 0], _, [], [4], [12]⟩, ⟨[.op 3 0, .op 5 0], _, [], List.range 6, [13]⟩, ⟨[.op 0 0], _, [], List.range 7, [14]⟩, ⟨[.op 7 0], _, [], List.range 8, [15]⟩, ⟨[.op 6 0, .op 8 0, .old 0], _, [1], List.range 9, [0, 7, 8, 9, 14, 15]⟩]) (F := [.op 9 0, .old 1]) hst hb follows
    (o_p rfl (ob_move rfl rfl u_0) <|
     o_p rfl (ob_nilCheck rfl rfl u_0 (fun _ _ ⟨_, _, _, e, _⟩ => ⟨_, e⟩)) <|
     o_p rfl (ob_fieldAddrM fl_25_1 (off := 1) (by kernel_rfl) rfl rfl u_0) <|
     o_p rfl (ob_loadP ty_2 rfl rfl u_0) <|
     o_p rfl (ob_fieldAddr fl_27_2 rfl rfl u_0) <|
     o_p rfl (ob_load ty_2 rfl rfl u_0) <|
     o_p rfl (ob_add rfl rfl u_0 u_1 rfl) <|
     o_p rfl (ob_nilCheck rfl rfl u_0 (fun _ _ ⟨_, _, _, e, _⟩ => ⟨_, e⟩)) <|
     o_p rfl (ob_fieldAddrM fl_25_1 (off := 1) (by kernel_rfl) rfl rfl u_0) <|
     o_p rfl (wi_25_1 ty_2 rfl rfl u_2 u_1 u_0) <|
     o_n) (by kernel_rfl) (fun a g hst hb => ?_)
  refine r_s (L := [(0, _), (2, _)]) (T := [⟨[], _, [], [], [6]⟩]) (F := [.old 0, .old 1, .op 0 0]) hst hb follows
    (o_p rfl (ob_assign rfl rfl c_i) <|
     o_n) (by kernel_rfl) (fun a g hst hb => ?_)
  refine wp_ret ?_
  obtain rfl := Option.some.inj H0
  exact endB1 rfl hst hb (res_tmp (s := 6)) (hst.at 2 rfl) ⟨box_of (hst.at 0 rfl), box_of (hst.at 1 rfl), trivial⟩
end Go.CL
