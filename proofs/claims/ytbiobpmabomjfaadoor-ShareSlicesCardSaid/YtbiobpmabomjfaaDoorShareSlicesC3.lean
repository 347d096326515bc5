/- A part of the proof of ShareSlices. -/
import Derived.Test.YtbiobpmabomjfaaDoorShareSlicesC2
import Derived.Test.YtbiobpmabomjfaaDoorProg
set_option linter.unusedVariables false
set_option linter.unusedSimpArgs false
set_option maxRecDepth 100000
namespace Go.CL
open Go Go.RowKit Go.Proofs
theorem Za : Tryd.prog.follows .mixedOrders = true := by kernel_rfl
theorem Zyy {α : Type} {l : List α} (h : l.length = 1) : ∃ u0, l = [u0] := by
 match l, h with
 | [u0], _ => exact ⟨u0, rfl⟩
theorem Zhf {α : Type} {l : List α} (h : l.length = 2) : ∃ u0 u1, l = [u0, u1] := by
 match l, h with
 | [u0, u1], _ => exact ⟨u0, u1, rfl⟩
theorem Zux {α : Type} {l : List α} (h : l.length = 8) : ∃ u0 u1 u2 u3 u4 u5 u6 u7, l = [u0, u1, u2, u3, u4, u5, u6, u7] := by
 match l, h with
 | [u0, u1, u2, u3, u4, u5, u6, u7], _ => exact ⟨u0, u1, u2, u3, u4, u5, u6, u7, rfl⟩
def Zp8 : List (Kd.FK Zbl) := [⟨_, Kd.bool, 0, fun x : Zbl => x.text⟩,
 ⟨_, Kd.bool, 1, fun x : Zbl => x.num⟩,
 ⟨_, Kd.bool, 2, fun x : Zbl => x.bounds⟩,
 ⟨_, Kd.bool, 3, fun x : Zbl => x.real⟩,
 ⟨_, Kd.bool, 4, fun x : Zbl => x.list⟩]
def Zb2 : Kd Zbl := Kd.struct 5 Zp8 (by rfl)
theorem Zll : ∀ g, Zb2.K g (default : Zbl) [.bool false, .bool false, .bool false, .bool false, .bool false] := fun g => ⟨rfl, (List.forall_mem_cons.2 ⟨(rfl), (List.forall_mem_cons.2 ⟨(rfl), (List.forall_mem_cons.2 ⟨(rfl), (List.forall_mem_cons.2 ⟨(rfl), (List.forall_mem_cons.2 ⟨(rfl), (fun _ h => by cases h)⟩)⟩)⟩)⟩)⟩)⟩
def Zqq : List (Kd.FK Zj) := [⟨_, Kd.flt, 0, fun x : Zj => x.Score⟩,
 ⟨_, Kd.str, 1, fun x : Zj => x.Name⟩]
def Zm : Kd Zj := Kd.struct 2 Zqq (by rfl)
theorem Zey : ∀ g, Zm.K g (default : Zj) [.float .f64 0, .string ByteArray.empty] := fun g => ⟨rfl, (List.forall_mem_cons.2 ⟨(rfl), (List.forall_mem_cons.2 ⟨(rfl), (fun _ h => by cases h)⟩)⟩)⟩
def Zot : List (Kd.FK Zd) := [⟨_, (Kd.int .i64), 0, fun x : Zd => x.Kind⟩,
 ⟨_, (Kd.int .i64), 1, fun x : Zd => x.Num⟩,
 ⟨_, (Kd.int .i64), 2, fun x : Zd => x.Low⟩,
 ⟨_, (Kd.int .i64), 3, fun x : Zd => x.High⟩,
 ⟨_, Kd.flt, 4, fun x : Zd => x.Real⟩,
 ⟨_, (Kd.int .i64), 5, fun x : Zd => x.Cap⟩,
 ⟨_, Kd.str, 6, fun x : Zd => x.Text⟩,
 ⟨_, Zm.sl, 7, fun x : Zd => x.List⟩]
def Zf : Kd Zd := Kd.struct 8 Zot (by rfl)
theorem Zbr : ∀ g, Zf.K g (default : Zd) [.int .i64 0, .int .i64 0, .int .i64 0, .int .i64 0, .float .f64 0, .int .i64 0, .string ByteArray.empty, .slice none 0 0] := fun g => ⟨rfl, (List.forall_mem_cons.2 ⟨(rfl), (List.forall_mem_cons.2 ⟨(rfl), (List.forall_mem_cons.2 ⟨(rfl), (List.forall_mem_cons.2 ⟨(rfl), (List.forall_mem_cons.2 ⟨(rfl), (List.forall_mem_cons.2 ⟨(rfl), (List.forall_mem_cons.2 ⟨(rfl), (List.forall_mem_cons.2 ⟨(⟨none, 0, rfl, Nat.le_refl _, Nat.zero_le _, .inl rfl⟩), (fun _ h => by cases h)⟩)⟩)⟩)⟩)⟩)⟩)⟩)⟩)⟩
def Zqm : List (Kd.FK Zb8) := [⟨_, Kd.str, 0, fun x : Zb8 => x.word⟩,
 ⟨_, (Kd.int .i64), 1, fun x : Zb8 => x.on⟩,
 ⟨_, Kd.str, 2, fun x : Zb8 => x.has⟩]
def Zcx : Kd Zb8 := Kd.struct 3 Zqm (by rfl)
theorem Zmh : ∀ g, Zcx.K g (default : Zb8) [.string ByteArray.empty, .int .i64 0, .string ByteArray.empty] := fun g => ⟨rfl, (List.forall_mem_cons.2 ⟨(rfl), (List.forall_mem_cons.2 ⟨(rfl), (List.forall_mem_cons.2 ⟨(rfl), (fun _ h => by cases h)⟩)⟩)⟩)⟩
def Zrw : List (Kd.FK Zu) := [⟨_, (Kd.int .i64), 0, fun x : Zu => x.Kind⟩,
 ⟨_, Kd.str, 1, fun x : Zu => x.Key⟩,
 ⟨_, (Kd.int .i64), 2, fun x : Zu => x.N⟩,
 ⟨_, Kd.flt, 3, fun x : Zu => x.X⟩,
 ⟨_, Kd.str, 4, fun x : Zu => x.S⟩,
 ⟨_, Zf, 5, fun x : Zu => x.Make⟩,
 ⟨_, Kd.bool, 13, fun x : Zu => x.Must⟩]
def Z1 : Kd Zu := Kd.struct 14 Zrw (by rfl)
theorem Ziy : ∀ g, Z1.K g (default : Zu) [.int .i64 0, .string ByteArray.empty, .int .i64 0, .float .f64 0, .string ByteArray.empty, .int .i64 0, .int .i64 0, .int .i64 0, .int .i64 0, .float .f64 0, .int .i64 0, .string ByteArray.empty, .slice none 0 0, .bool false] := fun g => ⟨rfl, (List.forall_mem_cons.2 ⟨(rfl), (List.forall_mem_cons.2 ⟨(rfl), (List.forall_mem_cons.2 ⟨(rfl), (List.forall_mem_cons.2 ⟨(rfl), (List.forall_mem_cons.2 ⟨(rfl), (List.forall_mem_cons.2 ⟨(Zbr _), (List.forall_mem_cons.2 ⟨(rfl), (fun _ h => by cases h)⟩)⟩)⟩)⟩)⟩)⟩)⟩)⟩
def Zox : List (Kd.FK Zq) := [⟨_, (Kd.int .i64), 0, fun x : Zq => x.Code⟩,
 ⟨_, (Kd.int .i64), 1, fun x : Zq => x.Num⟩,
 ⟨_, Zf, 2, fun x : Zq => x.Rec⟩]
def Z0 : Kd Zq := Kd.struct 10 Zox (by rfl)
theorem Zhb : ∀ g, Z0.K g (default : Zq) [.int .i64 0, .int .i64 0, .int .i64 0, .int .i64 0, .int .i64 0, .int .i64 0, .float .f64 0, .int .i64 0, .string ByteArray.empty, .slice none 0 0] := fun g => ⟨rfl, (List.forall_mem_cons.2 ⟨(rfl), (List.forall_mem_cons.2 ⟨(rfl), (List.forall_mem_cons.2 ⟨(Zbr _), (fun _ h => by cases h)⟩)⟩)⟩)⟩
def Zov : List (Kd.FK Zx) := [⟨_, (Kd.int .u64), 0, fun x : Zx => x.up⟩,
 ⟨_, (Kd.int .u64), 1, fun x : Zx => x.down⟩]
def Z2 : Kd Zx := Kd.struct 2 Zov (by rfl)
theorem Zgj : ∀ g, Z2.K g (default : Zx) [.int .u64 0, .int .u64 0] := fun g => ⟨rfl, (List.forall_mem_cons.2 ⟨(rfl), (List.forall_mem_cons.2 ⟨(rfl), (fun _ h => by cases h)⟩)⟩)⟩
def Zm7 : List (Kd.FK Zw) := [⟨_, Zf, 0, fun x : Zw => x.r⟩,
 ⟨_, Z2.sl, 8, fun x : Zw => x.by_⟩]
def Zd9 : Kd Zw := Kd.struct 9 Zm7 (by rfl)
def Zk4 : List (Kd.FK Zbw) := [⟨_, (Kd.int .i64), 0, fun x : Zbw => x.Worker⟩,
 ⟨_, Z1, 1, fun x : Zbw => x.Act⟩]
def Zdb : Kd Zbw := Kd.struct 15 Zk4 (by rfl)
theorem Zk2 : ∀ g, Zdb.K g (default : Zbw) [.int .i64 0, .int .i64 0, .string ByteArray.empty, .int .i64 0, .float .f64 0, .string ByteArray.empty, .int .i64 0, .int .i64 0, .int .i64 0, .int .i64 0, .float .f64 0, .int .i64 0, .string ByteArray.empty, .slice none 0 0, .bool false] := fun g => ⟨rfl, (List.forall_mem_cons.2 ⟨(rfl), (List.forall_mem_cons.2 ⟨(Ziy _), (fun _ h => by cases h)⟩)⟩)⟩
def Zpn : Zb8 → List Value := fun x => [.string x.word, .int .i64 x.on, .string x.has]
theorem gm_1 : (1, g_1.flatMap Zpn) ∈ GL := List.mem_of_getElem? (i := 0) rfl
theorem gk_1 : ∀ g, (Kd.arr 22 Zcx).K g g_1 (g_1.flatMap Zpn) := fun g => Zzg (dk := Zcx) (enc := Zpn) (fun g x => ⟨rfl, (List.forall_mem_cons.2 ⟨rfl, (List.forall_mem_cons.2 ⟨rfl, (List.forall_mem_cons.2 ⟨rfl, (fun _ h => by cases h)⟩)⟩)⟩)⟩) g g_1
theorem Zwf {N d : Nat} {o : Oper} {uses : Z3} {x0 : Operand} {v0 : Bool} (hop : o.op = .build 88 #[(0, x0)]) (hd : o.dst = some d) (h0 : Opd uses x0 (Kd.bool.pd v0)) : OB Tryd.prog N o uses [(d, Zb2.pd { text := v0, num := false, bounds := false, real := false, list := false })] [] := by
 refine Zcb hop hd fun a g hh => ?_
 obtain ⟨c0, k0, e0⟩ := h0 a g hh
 obtain rfl := k0
 refine ⟨.agg #[.bool v0, .bool false, .bool false, .bool false, .bool false], ?_, [.bool v0, .bool false, .bool false, .bool false, .bool false], ⟨rfl, (List.forall_mem_cons.2 ⟨rfl, (List.forall_mem_cons.2 ⟨(rfl), (List.forall_mem_cons.2 ⟨(rfl), (List.forall_mem_cons.2 ⟨(rfl), (List.forall_mem_cons.2 ⟨(rfl), (fun _ h => by cases h)⟩)⟩)⟩)⟩)⟩)⟩, rfl⟩
 simp only [List.map_toArray, List.map_cons, List.map_nil, e0]
 exact Zb0 Tryd.underlying88 (zero := .agg #[.bool false, .bool false, .bool false, .bool false, .bool false]) (by kernel_rfl) (places := [(0, 1), (1, 1), (2, 1), (3, 1), (4, 1)]) (by kernel_rfl) (by kernel_rfl) g.w
theorem Zgr : Ty Tryd.prog 88 Zb2 := ⟨by kernel_rfl, by kernel_rfl⟩
theorem Zwc {N d : Nat} {o : Oper} {uses : Z3} {x1 : Operand} {v1 : Bool} (hop : o.op = .build 88 #[(1, x1)]) (hd : o.dst = some d) (h1 : Opd uses x1 (Kd.bool.pd v1)) : OB Tryd.prog N o uses [(d, Zb2.pd { text := false, num := v1, bounds := false, real := false, list := false })] [] := by
 refine Zcb hop hd fun a g hh => ?_
 obtain ⟨c1, k1, e1⟩ := h1 a g hh
 obtain rfl := k1
 refine ⟨.agg #[.bool false, .bool v1, .bool false, .bool false, .bool false], ?_, [.bool false, .bool v1, .bool false, .bool false, .bool false], ⟨rfl, (List.forall_mem_cons.2 ⟨(rfl), (List.forall_mem_cons.2 ⟨rfl, (List.forall_mem_cons.2 ⟨(rfl), (List.forall_mem_cons.2 ⟨(rfl), (List.forall_mem_cons.2 ⟨(rfl), (fun _ h => by cases h)⟩)⟩)⟩)⟩)⟩)⟩, rfl⟩
 simp only [List.map_toArray, List.map_cons, List.map_nil, e1]
 exact Zb0 Tryd.underlying88 (zero := .agg #[.bool false, .bool false, .bool false, .bool false, .bool false]) (by kernel_rfl) (places := [(0, 1), (1, 1), (2, 1), (3, 1), (4, 1)]) (by kernel_rfl) (by kernel_rfl) g.w
theorem Ztf {N d : Nat} {o : Oper} {uses : Z3} {x1 : Operand} {x2 : Operand} {v1 : Bool} {v2 : Bool} (hop : o.op = .build 88 #[(1, x1), (2, x2)]) (hd : o.dst = some d) (h1 : Opd uses x1 (Kd.bool.pd v1)) (h2 : Opd uses x2 (Kd.bool.pd v2)) : OB Tryd.prog N o uses [(d, Zb2.pd { text := false, num := v1, bounds := v2, real := false, list := false })] [] := by
 refine Zcb hop hd fun a g hh => ?_
 obtain ⟨c1, k1, e1⟩ := h1 a g hh
 obtain rfl := k1
 obtain ⟨c2, k2, e2⟩ := h2 a g hh
 obtain rfl := k2
 refine ⟨.agg #[.bool false, .bool v1, .bool v2, .bool false, .bool false], ?_, [.bool false, .bool v1, .bool v2, .bool false, .bool false], ⟨rfl, (List.forall_mem_cons.2 ⟨(rfl), (List.forall_mem_cons.2 ⟨rfl, (List.forall_mem_cons.2 ⟨rfl, (List.forall_mem_cons.2 ⟨(rfl), (List.forall_mem_cons.2 ⟨(rfl), (fun _ h => by cases h)⟩)⟩)⟩)⟩)⟩)⟩, rfl⟩
 simp only [List.map_toArray, List.map_cons, List.map_nil, e1, e2]
 exact Zb0 Tryd.underlying88 (zero := .agg #[.bool false, .bool false, .bool false, .bool false, .bool false]) (by kernel_rfl) (places := [(0, 1), (1, 1), (2, 1), (3, 1), (4, 1)]) (by kernel_rfl) (by kernel_rfl) g.w
theorem Zv1 {N d : Nat} {o : Oper} {uses : Z3} {x3 : Operand} {v3 : Bool} (hop : o.op = .build 88 #[(3, x3)]) (hd : o.dst = some d) (h3 : Opd uses x3 (Kd.bool.pd v3)) : OB Tryd.prog N o uses [(d, Zb2.pd { text := false, num := false, bounds := false, real := v3, list := false })] [] := by
 refine Zcb hop hd fun a g hh => ?_
 obtain ⟨c3, k3, e3⟩ := h3 a g hh
 obtain rfl := k3
 refine ⟨.agg #[.bool false, .bool false, .bool false, .bool v3, .bool false], ?_, [.bool false, .bool false, .bool false, .bool v3, .bool false], ⟨rfl, (List.forall_mem_cons.2 ⟨(rfl), (List.forall_mem_cons.2 ⟨(rfl), (List.forall_mem_cons.2 ⟨(rfl), (List.forall_mem_cons.2 ⟨rfl, (List.forall_mem_cons.2 ⟨(rfl), (fun _ h => by cases h)⟩)⟩)⟩)⟩)⟩)⟩, rfl⟩
 simp only [List.map_toArray, List.map_cons, List.map_nil, e3]
 exact Zb0 Tryd.underlying88 (zero := .agg #[.bool false, .bool false, .bool false, .bool false, .bool false]) (by kernel_rfl) (places := [(0, 1), (1, 1), (2, 1), (3, 1), (4, 1)]) (by kernel_rfl) (by kernel_rfl) g.w
theorem Zvy {N d : Nat} {o : Oper} {uses : Z3} {x4 : Operand} {v4 : Bool} (hop : o.op = .build 88 #[(4, x4)]) (hd : o.dst = some d) (h4 : Opd uses x4 (Kd.bool.pd v4)) : OB Tryd.prog N o uses [(d, Zb2.pd { text := false, num := false, bounds := false, real := false, list := v4 })] [] := by
 refine Zcb hop hd fun a g hh => ?_
 obtain ⟨c4, k4, e4⟩ := h4 a g hh
 obtain rfl := k4
 refine ⟨.agg #[.bool false, .bool false, .bool false, .bool false, .bool v4], ?_, [.bool false, .bool false, .bool false, .bool false, .bool v4], ⟨rfl, (List.forall_mem_cons.2 ⟨(rfl), (List.forall_mem_cons.2 ⟨(rfl), (List.forall_mem_cons.2 ⟨(rfl), (List.forall_mem_cons.2 ⟨(rfl), (List.forall_mem_cons.2 ⟨rfl, (fun _ h => by cases h)⟩)⟩)⟩)⟩)⟩)⟩, rfl⟩
 simp only [List.map_toArray, List.map_cons, List.map_nil, e4]
 exact Zb0 Tryd.underlying88 (zero := .agg #[.bool false, .bool false, .bool false, .bool false, .bool false]) (by kernel_rfl) (places := [(0, 1), (1, 1), (2, 1), (3, 1), (4, 1)]) (by kernel_rfl) (by kernel_rfl) g.w
theorem Zx1 {N d : Nat} {o : Oper} {uses : Z3}   (hop : o.op = .build 88 #[]) (hd : o.dst = some d)  : OB Tryd.prog N o uses [(d, Zb2.pd { text := false, num := false, bounds := false, real := false, list := false })] [] := by
 refine Zcb hop hd fun a g hh => ?_
 refine ⟨.agg #[.bool false, .bool false, .bool false, .bool false, .bool false], ?_, [.bool false, .bool false, .bool false, .bool false, .bool false], ⟨rfl, (List.forall_mem_cons.2 ⟨(rfl), (List.forall_mem_cons.2 ⟨(rfl), (List.forall_mem_cons.2 ⟨(rfl), (List.forall_mem_cons.2 ⟨(rfl), (List.forall_mem_cons.2 ⟨(rfl), (fun _ h => by cases h)⟩)⟩)⟩)⟩)⟩)⟩, rfl⟩
 simp only [List.map_toArray, List.map_cons, List.map_nil, List.map_nil]
 exact Zb0 Tryd.underlying88 (zero := .agg #[.bool false, .bool false, .bool false, .bool false, .bool false]) (by kernel_rfl) (places := [(0, 1), (1, 1), (2, 1), (3, 1), (4, 1)]) (by kernel_rfl) (by kernel_rfl) g.w
theorem Zu9 : Ext Tryd.prog 61 Extern.MathFloatBits.float64frombits := ⟨_, Tryd.func61, rfl, rfl, by kernel_rfl, by kernel_rfl⟩
theorem Zsd : Zl Tryd.prog 33 := by
 unfold Zl
 kernel_rfl
theorem Zjp : Zl Tryd.prog 66 := by
 unfold Zl
 kernel_rfl
theorem Zo4 : Ext Tryd.prog 73 Extern.MathFloatBits.float64bits := ⟨_, Tryd.func73, rfl, rfl, by kernel_rfl, by kernel_rfl⟩
theorem Zo8 : Zl Tryd.prog 81 := by
 unfold Zl
 kernel_rfl
theorem Zw0 : Fld Tryd.prog 88 0 Zb2 Kd.bool (fun x : Zbl => x.text) := Fld.of ⟨_, Kd.bool, 0, fun x : Zbl => x.text⟩ (List.mem_of_getElem? (i := 0) rfl) 0 rfl (by kernel_rfl) (by decide)
theorem ty_4 : Ty Tryd.prog 4 Kd.bool := ⟨by kernel_rfl, by kernel_rfl⟩
theorem Zf1 : Fld Tryd.prog 25 6 Zf Kd.str (fun x : Zd => x.Text) := Fld.of ⟨_, Kd.str, 6, fun x : Zd => x.Text⟩ (List.mem_of_getElem? (i := 6) rfl) 6 rfl (by kernel_rfl) (by decide)
theorem ty_9 : Ty Tryd.prog 9 Kd.str := ⟨by kernel_rfl, by kernel_rfl⟩
theorem Zv9 : Fld Tryd.prog 88 1 Zb2 Kd.bool (fun x : Zbl => x.num) := Fld.of ⟨_, Kd.bool, 1, fun x : Zbl => x.num⟩ (List.mem_of_getElem? (i := 1) rfl) 1 rfl (by kernel_rfl) (by decide)
theorem Zb6 : Fld Tryd.prog 25 1 Zf (Kd.int .i64) (fun x : Zd => x.Num) := Fld.of ⟨_, (Kd.int .i64), 1, fun x : Zd => x.Num⟩ (List.mem_of_getElem? (i := 1) rfl) 1 rfl (by kernel_rfl) (by decide)
theorem ty_2 : Ty Tryd.prog 2 (Kd.int .i64) := ⟨by kernel_rfl, by kernel_rfl⟩
theorem Zrb : Fld Tryd.prog 88 2 Zb2 Kd.bool (fun x : Zbl => x.bounds) := Fld.of ⟨_, Kd.bool, 2, fun x : Zbl => x.bounds⟩ (List.mem_of_getElem? (i := 2) rfl) 2 rfl (by kernel_rfl) (by decide)
theorem Zfc : Fld Tryd.prog 25 2 Zf (Kd.int .i64) (fun x : Zd => x.Low) := Fld.of ⟨_, (Kd.int .i64), 2, fun x : Zd => x.Low⟩ (List.mem_of_getElem? (i := 2) rfl) 2 rfl (by kernel_rfl) (by decide)
theorem Zfb : Fld Tryd.prog 25 3 Zf (Kd.int .i64) (fun x : Zd => x.High) := Fld.of ⟨_, (Kd.int .i64), 3, fun x : Zd => x.High⟩ (List.mem_of_getElem? (i := 3) rfl) 3 rfl (by kernel_rfl) (by decide)
theorem Zvp : Fld Tryd.prog 88 3 Zb2 Kd.bool (fun x : Zbl => x.real) := Fld.of ⟨_, Kd.bool, 3, fun x : Zbl => x.real⟩ (List.mem_of_getElem? (i := 3) rfl) 3 rfl (by kernel_rfl) (by decide)
theorem Zd5 : Fld Tryd.prog 25 4 Zf Kd.flt (fun x : Zd => x.Real) := Fld.of ⟨_, Kd.flt, 4, fun x : Zd => x.Real⟩ (List.mem_of_getElem? (i := 4) rfl) 4 rfl (by kernel_rfl) (by decide)
theorem Zci : Ty Tryd.prog 22 Kd.flt := ⟨by kernel_rfl, by kernel_rfl⟩
theorem Zl1 : Zl Tryd.prog 76 := by
 unfold Zl
 kernel_rfl
theorem Zrc : Fld Tryd.prog 88 4 Zb2 Kd.bool (fun x : Zbl => x.list) := Fld.of ⟨_, Kd.bool, 4, fun x : Zbl => x.list⟩ (List.mem_of_getElem? (i := 4) rfl) 4 rfl (by kernel_rfl) (by decide)
theorem Zds : Fld Tryd.prog 25 5 Zf (Kd.int .i64) (fun x : Zd => x.Cap) := Fld.of ⟨_, (Kd.int .i64), 5, fun x : Zd => x.Cap⟩ (List.mem_of_getElem? (i := 5) rfl) 5 rfl (by kernel_rfl) (by decide)
theorem ty_3 : Ty Tryd.prog 3 (Kd.int .i64) := ⟨by kernel_rfl, by kernel_rfl⟩
theorem Zbu : Fld Tryd.prog 25 7 Zf Zm.sl (fun x : Zd => x.List) := Fld.of ⟨_, Zm.sl, 7, fun x : Zd => x.List⟩ (List.mem_of_getElem? (i := 7) rfl) 7 rfl (by kernel_rfl) (by decide)
theorem Zck : Ty Tryd.prog 23 Zm.sl := ⟨by kernel_rfl, by kernel_rfl⟩
theorem Zdr : Fld Tryd.prog 75 0 Zm Kd.flt (fun x : Zj => x.Score) := Fld.of ⟨_, Kd.flt, 0, fun x : Zj => x.Score⟩ (List.mem_of_getElem? (i := 0) rfl) 0 rfl (by kernel_rfl) (by decide)
theorem Zr3 : Zl Tryd.prog 65 := by
 unfold Zl
 kernel_rfl
theorem Zdg : Fld Tryd.prog 75 1 Zm Kd.str (fun x : Zj => x.Name) := Fld.of ⟨_, Kd.str, 1, fun x : Zj => x.Name⟩ (List.mem_of_getElem? (i := 1) rfl) 1 rfl (by kernel_rfl) (by decide)
theorem Zen : (Tryd.prog.info? 75).map (·.size) = some Zm.sz := by kernel_rfl
theorem Zc9 : Ty Tryd.prog 75 Zm := ⟨by kernel_rfl, by kernel_rfl⟩
theorem Zrt : Zl Tryd.prog 51 := by
 unfold Zl
 kernel_rfl
theorem Zr8 : Zl Tryd.prog 77 := by
 unfold Zl
 kernel_rfl
theorem Zcn : Fld Tryd.prog 25 0 Zf (Kd.int .i64) (fun x : Zd => x.Kind) := Fld.of ⟨_, (Kd.int .i64), 0, fun x : Zd => x.Kind⟩ (List.mem_of_getElem? (i := 0) rfl) 0 rfl (by kernel_rfl) (by decide)
theorem Zzt : Zl Tryd.prog 49 := by
 unfold Zl
 kernel_rfl
theorem Z4 : Ty Tryd.prog 25 Zf := ⟨by kernel_rfl, by kernel_rfl⟩
theorem Zy9 : Zl Tryd.prog 50 := by
 unfold Zl
 kernel_rfl
theorem Zyv : Zl Tryd.prog 52 := by
 unfold Zl
 kernel_rfl
theorem Zo2 : Zl Tryd.prog 23 := by
 unfold Zl
 kernel_rfl
theorem Zka {N d : Nat} {o : Oper} {uses : Z3}   (hop : o.op = .build 25 #[]) (hd : o.dst = some d)  : OB Tryd.prog N o uses [(d, Zf.pd { Kind := (0 : Int), Num := (0 : Int), Low := (0 : Int), High := (0 : Int), Real := (0 : Nat), Cap := (0 : Int), Text := ByteArray.empty, List := ([] : List Zj) })] [] := by
 refine Zcb hop hd fun a g hh => ?_
 refine ⟨.agg #[.int .i64 0, .int .i64 0, .int .i64 0, .int .i64 0, .float .f64 0, .int .i64 0, .string ByteArray.empty, .slice none 0 0], ?_, [.int .i64 0, .int .i64 0, .int .i64 0, .int .i64 0, .float .f64 0, .int .i64 0, .string ByteArray.empty, .slice none 0 0], ⟨rfl, (List.forall_mem_cons.2 ⟨(rfl), (List.forall_mem_cons.2 ⟨(rfl), (List.forall_mem_cons.2 ⟨(rfl), (List.forall_mem_cons.2 ⟨(rfl), (List.forall_mem_cons.2 ⟨(rfl), (List.forall_mem_cons.2 ⟨(rfl), (List.forall_mem_cons.2 ⟨(rfl), (List.forall_mem_cons.2 ⟨(⟨none, 0, rfl, Nat.le_refl _, Nat.zero_le _, .inl rfl⟩), (fun _ h => by cases h)⟩)⟩)⟩)⟩)⟩)⟩)⟩)⟩)⟩, rfl⟩
 simp only [List.map_toArray, List.map_cons, List.map_nil, List.map_nil]
 exact Zb0 Tryd.underlying25 (zero := .agg #[.int .i64 0, .int .i64 0, .int .i64 0, .int .i64 0, .float .f64 0, .int .i64 0, .string ByteArray.empty, .slice none 0 0]) (by kernel_rfl) (places := [(0, 1), (1, 1), (2, 1), (3, 1), (4, 1), (5, 1), (6, 1), (7, 1)]) (by kernel_rfl) (by kernel_rfl) g.w
theorem Zq2 {N d : Nat} {o : Oper} {uses : Z3} {x0 : Operand} {v0 : Int} (hop : o.op = .build 25 #[(0, x0)]) (hd : o.dst = some d) (h0 : Opd uses x0 ((Kd.int .i64).pd v0)) : OB Tryd.prog N o uses [(d, Zf.pd { Kind := v0, Num := (0 : Int), Low := (0 : Int), High := (0 : Int), Real := (0 : Nat), Cap := (0 : Int), Text := ByteArray.empty, List := ([] : List Zj) })] [] := by
 refine Zcb hop hd fun a g hh => ?_
 obtain ⟨c0, k0, e0⟩ := h0 a g hh
 obtain rfl := k0
 refine ⟨.agg #[.int .i64 v0, .int .i64 0, .int .i64 0, .int .i64 0, .float .f64 0, .int .i64 0, .string ByteArray.empty, .slice none 0 0], ?_, [.int .i64 v0, .int .i64 0, .int .i64 0, .int .i64 0, .float .f64 0, .int .i64 0, .string ByteArray.empty, .slice none 0 0], ⟨rfl, (List.forall_mem_cons.2 ⟨rfl, (List.forall_mem_cons.2 ⟨(rfl), (List.forall_mem_cons.2 ⟨(rfl), (List.forall_mem_cons.2 ⟨(rfl), (List.forall_mem_cons.2 ⟨(rfl), (List.forall_mem_cons.2 ⟨(rfl), (List.forall_mem_cons.2 ⟨(rfl), (List.forall_mem_cons.2 ⟨(⟨none, 0, rfl, Nat.le_refl _, Nat.zero_le _, .inl rfl⟩), (fun _ h => by cases h)⟩)⟩)⟩)⟩)⟩)⟩)⟩)⟩)⟩, rfl⟩
 simp only [List.map_toArray, List.map_cons, List.map_nil, e0]
 exact Zb0 Tryd.underlying25 (zero := .agg #[.int .i64 0, .int .i64 0, .int .i64 0, .int .i64 0, .float .f64 0, .int .i64 0, .string ByteArray.empty, .slice none 0 0]) (by kernel_rfl) (places := [(0, 1), (1, 1), (2, 1), (3, 1), (4, 1), (5, 1), (6, 1), (7, 1)]) (by kernel_rfl) (by kernel_rfl) g.w
theorem Zuz : Zl Tryd.prog 32 := by
 unfold Zl
 kernel_rfl
theorem Zjl {N d : Nat} {o : Oper} {uses : Z3} {x0 : Operand} {x4 : Operand} {v0 : Int} {v4 : Nat} (hop : o.op = .build 25 #[(0, x0), (4, x4)]) (hd : o.dst = some d) (h0 : Opd uses x0 ((Kd.int .i64).pd v0)) (h4 : Opd uses x4 (Kd.flt.pd v4)) : OB Tryd.prog N o uses [(d, Zf.pd { Kind := v0, Num := (0 : Int), Low := (0 : Int), High := (0 : Int), Real := v4, Cap := (0 : Int), Text := ByteArray.empty, List := ([] : List Zj) })] [] := by
 refine Zcb hop hd fun a g hh => ?_
 obtain ⟨c0, k0, e0⟩ := h0 a g hh
 obtain rfl := k0
 obtain ⟨c4, k4, e4⟩ := h4 a g hh
 obtain rfl := k4
 refine ⟨.agg #[.int .i64 v0, .int .i64 0, .int .i64 0, .int .i64 0, .float .f64 v4, .int .i64 0, .string ByteArray.empty, .slice none 0 0], ?_, [.int .i64 v0, .int .i64 0, .int .i64 0, .int .i64 0, .float .f64 v4, .int .i64 0, .string ByteArray.empty, .slice none 0 0], ⟨rfl, (List.forall_mem_cons.2 ⟨rfl, (List.forall_mem_cons.2 ⟨(rfl), (List.forall_mem_cons.2 ⟨(rfl), (List.forall_mem_cons.2 ⟨(rfl), (List.forall_mem_cons.2 ⟨rfl, (List.forall_mem_cons.2 ⟨(rfl), (List.forall_mem_cons.2 ⟨(rfl), (List.forall_mem_cons.2 ⟨(⟨none, 0, rfl, Nat.le_refl _, Nat.zero_le _, .inl rfl⟩), (fun _ h => by cases h)⟩)⟩)⟩)⟩)⟩)⟩)⟩)⟩)⟩, rfl⟩
 simp only [List.map_toArray, List.map_cons, List.map_nil, e0, e4]
 exact Zb0 Tryd.underlying25 (zero := .agg #[.int .i64 0, .int .i64 0, .int .i64 0, .int .i64 0, .float .f64 0, .int .i64 0, .string ByteArray.empty, .slice none 0 0]) (by kernel_rfl) (places := [(0, 1), (1, 1), (2, 1), (3, 1), (4, 1), (5, 1), (6, 1), (7, 1)]) (by kernel_rfl) (by kernel_rfl) g.w
theorem Zjm {N d : Nat} {o : Oper} {uses : Z3} {x0 : Operand} {x5 : Operand} {v0 : Int} {v5 : Int} (hop : o.op = .build 25 #[(0, x0), (5, x5)]) (hd : o.dst = some d) (h0 : Opd uses x0 ((Kd.int .i64).pd v0)) (h5 : Opd uses x5 ((Kd.int .i64).pd v5)) : OB Tryd.prog N o uses [(d, Zf.pd { Kind := v0, Num := (0 : Int), Low := (0 : Int), High := (0 : Int), Real := (0 : Nat), Cap := v5, Text := ByteArray.empty, List := ([] : List Zj) })] [] := by
 refine Zcb hop hd fun a g hh => ?_
 obtain ⟨c0, k0, e0⟩ := h0 a g hh
 obtain rfl := k0
 obtain ⟨c5, k5, e5⟩ := h5 a g hh
 obtain rfl := k5
 refine ⟨.agg #[.int .i64 v0, .int .i64 0, .int .i64 0, .int .i64 0, .float .f64 0, .int .i64 v5, .string ByteArray.empty, .slice none 0 0], ?_, [.int .i64 v0, .int .i64 0, .int .i64 0, .int .i64 0, .float .f64 0, .int .i64 v5, .string ByteArray.empty, .slice none 0 0], ⟨rfl, (List.forall_mem_cons.2 ⟨rfl, (List.forall_mem_cons.2 ⟨(rfl), (List.forall_mem_cons.2 ⟨(rfl), (List.forall_mem_cons.2 ⟨(rfl), (List.forall_mem_cons.2 ⟨(rfl), (List.forall_mem_cons.2 ⟨rfl, (List.forall_mem_cons.2 ⟨(rfl), (List.forall_mem_cons.2 ⟨(⟨none, 0, rfl, Nat.le_refl _, Nat.zero_le _, .inl rfl⟩), (fun _ h => by cases h)⟩)⟩)⟩)⟩)⟩)⟩)⟩)⟩)⟩, rfl⟩
 simp only [List.map_toArray, List.map_cons, List.map_nil, e0, e5]
 exact Zb0 Tryd.underlying25 (zero := .agg #[.int .i64 0, .int .i64 0, .int .i64 0, .int .i64 0, .float .f64 0, .int .i64 0, .string ByteArray.empty, .slice none 0 0]) (by kernel_rfl) (places := [(0, 1), (1, 1), (2, 1), (3, 1), (4, 1), (5, 1), (6, 1), (7, 1)]) (by kernel_rfl) (by kernel_rfl) g.w
theorem Zvo {N d : Nat} {o : Oper} {uses : Z3}   (hop : o.op = .build 108 #[]) (hd : o.dst = some d)  : OB Tryd.prog N o uses [(d, Zcx.pd { word := ByteArray.empty, on := (0 : Int), has := ByteArray.empty })] [] := by
 refine Zcb hop hd fun a g hh => ?_
 refine ⟨.agg #[.string ByteArray.empty, .int .i64 0, .string ByteArray.empty], ?_, [.string ByteArray.empty, .int .i64 0, .string ByteArray.empty], ⟨rfl, (List.forall_mem_cons.2 ⟨(rfl), (List.forall_mem_cons.2 ⟨(rfl), (List.forall_mem_cons.2 ⟨(rfl), (fun _ h => by cases h)⟩)⟩)⟩)⟩, rfl⟩
 simp only [List.map_toArray, List.map_cons, List.map_nil, List.map_nil]
 exact Zb0 Tryd.underlying108 (zero := .agg #[.string ByteArray.empty, .int .i64 0, .string ByteArray.empty]) (by kernel_rfl) (places := [(0, 1), (1, 1), (2, 1)]) (by kernel_rfl) (by kernel_rfl) g.w
theorem Zgf : Ty Tryd.prog 108 Zcx := ⟨by kernel_rfl, by kernel_rfl⟩
theorem Zyg : (Tryd.prog.info? 108).map (·.size) = some Zcx.sz := by kernel_rfl
theorem Zul : Zl Tryd.prog 62 := by
 unfold Zl
 kernel_rfl
theorem Zpo : Fld Tryd.prog 108 1 Zcx (Kd.int .i64) (fun x : Zb8 => x.on) := Fld.of ⟨_, (Kd.int .i64), 1, fun x : Zb8 => x.on⟩ (List.mem_of_getElem? (i := 1) rfl) 1 rfl (by kernel_rfl) (by decide)
theorem Zum : Zl Tryd.prog 34 := by
 unfold Zl
 kernel_rfl
theorem Zc1 : TE Tryd.prog 23 75 Zm 24 := TE.of Tryd.underlying23 (by kernel_rfl) (by decide) (by decide)
theorem Zpf : Zl Tryd.prog 64 := by
 unfold Zl
 kernel_rfl
theorem Zlv {c : Option Nat} {N j s : Nat} {o : Oper} {uses : Z3} {x z : Operand} {v : Zd} {y0 y : List Zj} {v0 : Zd} {t : Nat} (hT : Ty Tryd.prog t Zm.sl) (hop : o.op = .store t x z) (hd : o.dst = none) (hs : Opd uses (.tmp s) (Zbd c Zf j v)) (hx : Opd uses x (Zdv Zf j v0 7 Zm.sl y0)) (hz : Opd uses z (Zm.sl.pd y)) : OB Tryd.prog N o uses [(s, Zbd c Zf j { v with List := y })] [j + 1] :=
 Zel hT hop hd hs hx hz fun g cs ys hk hy => by
   have hc : cs.length = 8 := hk.1
   have hl : ys.length = 1 := Zm.sl.len hy
   exact ⟨by omega, (Zcm (by omega)).trans hc, (List.forall_mem_cons.2 ⟨(by show (Kd.int .i64).K g v.Kind (seg (Zz cs 7 ys) 0 1); rw [Zv (by omega) (by omega)]; exact hk.2 _ (List.mem_of_getElem? (i := 0) rfl)), (List.forall_mem_cons.2 ⟨(by show (Kd.int .i64).K g v.Num (seg (Zz cs 7 ys) 1 1); rw [Zv (by omega) (by omega)]; exact hk.2 _ (List.mem_of_getElem? (i := 1) rfl)), (List.forall_mem_cons.2 ⟨(by show (Kd.int .i64).K g v.Low (seg (Zz cs 7 ys) 2 1); rw [Zv (by omega) (by omega)]; exact hk.2 _ (List.mem_of_getElem? (i := 2) rfl)), (List.forall_mem_cons.2 ⟨(by show (Kd.int .i64).K g v.High (seg (Zz cs 7 ys) 3 1); rw [Zv (by omega) (by omega)]; exact hk.2 _ (List.mem_of_getElem? (i := 3) rfl)), (List.forall_mem_cons.2 ⟨(by show Kd.flt.K g v.Real (seg (Zz cs 7 ys) 4 1); rw [Zv (by omega) (by omega)]; exact hk.2 _ (List.mem_of_getElem? (i := 4) rfl)), (List.forall_mem_cons.2 ⟨(by show (Kd.int .i64).K g v.Cap (seg (Zz cs 7 ys) 5 1); rw [Zv (by omega) (by omega)]; exact hk.2 _ (List.mem_of_getElem? (i := 5) rfl)), (List.forall_mem_cons.2 ⟨(by show Kd.str.K g v.Text (seg (Zz cs 7 ys) 6 1); rw [Zv (by omega) (by omega)]; exact hk.2 _ (List.mem_of_getElem? (i := 6) rfl)), (List.forall_mem_cons.2 ⟨(by show Zm.sl.K g y (seg (Zz cs 7 ys) 7 1); rw [Zco (by omega) hl]; exact hy), (fun _ h => by cases h)⟩)⟩)⟩)⟩)⟩)⟩)⟩)⟩)⟩
theorem Zpt : Fld Tryd.prog 108 2 Zcx Kd.str (fun x : Zb8 => x.has) := Fld.of ⟨_, Kd.str, 2, fun x : Zb8 => x.has⟩ (List.mem_of_getElem? (i := 2) rfl) 2 rfl (by kernel_rfl) (by decide)
theorem Zyh : Zl Tryd.prog 111 := by
 unfold Zl
 kernel_rfl
theorem Zw9 : Zl Tryd.prog 110 := by
 unfold Zl
 kernel_rfl
theorem Znc : Zl Tryd.prog 104 := by
 unfold Zl
 kernel_rfl
theorem Zc3 : Fld Tryd.prog 37 2 Z1 (Kd.int .i64) (fun x : Zu => x.N) := Fld.of ⟨_, (Kd.int .i64), 2, fun x : Zu => x.N⟩ (List.mem_of_getElem? (i := 2) rfl) 2 rfl (by kernel_rfl) (by decide)
theorem Zj4 : Fld Tryd.prog 37 3 Z1 Kd.flt (fun x : Zu => x.X) := Fld.of ⟨_, Kd.flt, 3, fun x : Zu => x.X⟩ (List.mem_of_getElem? (i := 3) rfl) 3 rfl (by kernel_rfl) (by decide)
theorem Zf4 : Fld Tryd.prog 37 4 Z1 Kd.str (fun x : Zu => x.S) := Fld.of ⟨_, Kd.str, 4, fun x : Zu => x.S⟩ (List.mem_of_getElem? (i := 4) rfl) 4 rfl (by kernel_rfl) (by decide)
theorem Zl2 : Fld Tryd.prog 37 5 Z1 Zf (fun x : Zu => x.Make) := Fld.of ⟨_, Zf, 5, fun x : Zu => x.Make⟩ (List.mem_of_getElem? (i := 5) rfl) 5 rfl (by kernel_rfl) (by decide)
theorem Zx2 : Zl Tryd.prog 105 := by
 unfold Zl
 kernel_rfl
theorem Zdm : Fld Tryd.prog 37 0 Z1 (Kd.int .i64) (fun x : Zu => x.Kind) := Fld.of ⟨_, (Kd.int .i64), 0, fun x : Zu => x.Kind⟩ (List.mem_of_getElem? (i := 0) rfl) 0 rfl (by kernel_rfl) (by decide)
theorem Zty : Fld Tryd.prog 108 0 Zcx Kd.str (fun x : Zb8 => x.word) := Fld.of ⟨_, Kd.str, 0, fun x : Zb8 => x.word⟩ (List.mem_of_getElem? (i := 0) rfl) 0 rfl (by kernel_rfl) (by decide)
theorem Zn5 : Fld Tryd.prog 37 1 Z1 Kd.str (fun x : Zu => x.Key) := Fld.of ⟨_, Kd.str, 1, fun x : Zu => x.Key⟩ (List.mem_of_getElem? (i := 1) rfl) 1 rfl (by kernel_rfl) (by decide)
theorem Zf9 : Ty Tryd.prog 37 Z1 := ⟨by kernel_rfl, by kernel_rfl⟩
theorem Zy6 : Zl Tryd.prog 78 := by
 unfold Zl
 kernel_rfl
theorem Zyz : Zl Tryd.prog 79 := by
 unfold Zl
 kernel_rfl
theorem Zrf {c : Option Nat} {N j s : Nat} {o : Oper} {uses : Z3} {x z : Operand} {v : Zd} {y0 y : ByteArray} {v0 : Zd} {t : Nat} (hT : Ty Tryd.prog t Kd.str) (hop : o.op = .store t x z) (hd : o.dst = none) (hs : Opd uses (.tmp s) (Zbd c Zf j v)) (hx : Opd uses x (Zdv Zf j v0 6 Kd.str y0)) (hz : Opd uses z (Kd.str.pd y)) : OB Tryd.prog N o uses [(s, Zbd c Zf j { v with Text := y })] [j + 1] :=
 Zel hT hop hd hs hx hz fun g cs ys hk hy => by
   have hc : cs.length = 8 := hk.1
   have hl : ys.length = 1 := Kd.str.len hy
   exact ⟨by omega, (Zcm (by omega)).trans hc, (List.forall_mem_cons.2 ⟨(by show (Kd.int .i64).K g v.Kind (seg (Zz cs 6 ys) 0 1); rw [Zv (by omega) (by omega)]; exact hk.2 _ (List.mem_of_getElem? (i := 0) rfl)), (List.forall_mem_cons.2 ⟨(by show (Kd.int .i64).K g v.Num (seg (Zz cs 6 ys) 1 1); rw [Zv (by omega) (by omega)]; exact hk.2 _ (List.mem_of_getElem? (i := 1) rfl)), (List.forall_mem_cons.2 ⟨(by show (Kd.int .i64).K g v.Low (seg (Zz cs 6 ys) 2 1); rw [Zv (by omega) (by omega)]; exact hk.2 _ (List.mem_of_getElem? (i := 2) rfl)), (List.forall_mem_cons.2 ⟨(by show (Kd.int .i64).K g v.High (seg (Zz cs 6 ys) 3 1); rw [Zv (by omega) (by omega)]; exact hk.2 _ (List.mem_of_getElem? (i := 3) rfl)), (List.forall_mem_cons.2 ⟨(by show Kd.flt.K g v.Real (seg (Zz cs 6 ys) 4 1); rw [Zv (by omega) (by omega)]; exact hk.2 _ (List.mem_of_getElem? (i := 4) rfl)), (List.forall_mem_cons.2 ⟨(by show (Kd.int .i64).K g v.Cap (seg (Zz cs 6 ys) 5 1); rw [Zv (by omega) (by omega)]; exact hk.2 _ (List.mem_of_getElem? (i := 5) rfl)), (List.forall_mem_cons.2 ⟨(by show Kd.str.K g y (seg (Zz cs 6 ys) 6 1); rw [Zco (by omega) hl]; exact hy), (List.forall_mem_cons.2 ⟨(by show Zm.sl.K g v.List (seg (Zz cs 6 ys) 7 1); rw [Zv (by omega) (by omega)]; exact hk.2 _ (List.mem_of_getElem? (i := 7) rfl)), (fun _ h => by cases h)⟩)⟩)⟩)⟩)⟩)⟩)⟩)⟩)⟩
theorem Zks : Zl Tryd.prog 37 := by
 unfold Zl
 kernel_rfl
theorem Zwx : Fld Tryd.prog 79 2 Z0 Zf (fun x : Zq => x.Rec) := Fld.of ⟨_, Zf, 2, fun x : Zq => x.Rec⟩ (List.mem_of_getElem? (i := 2) rfl) 2 rfl (by kernel_rfl) (by decide)
theorem Zww {c : Option Nat} {N j s : Nat} {o : Oper} {uses : Z3} {x z : Operand} {v : Zq} {y0 y : Zd} {v0 : Zq} {t : Nat} (hT : Ty Tryd.prog t Zf) (hop : o.op = .store t x z) (hd : o.dst = none) (hs : Opd uses (.tmp s) (Zbd c Z0 j v)) (hx : Opd uses x (Zdv Z0 j v0 2 Zf y0)) (hz : Opd uses z (Zf.pd y)) : OB Tryd.prog N o uses [(s, Zbd c Z0 j { v with Rec := y })] [j + 1] :=
 Zel hT hop hd hs hx hz fun g cs ys hk hy => by
   have hc : cs.length = 10 := hk.1
   have hl : ys.length = 8 := Zf.len hy
   exact ⟨by omega, (Zcm (by omega)).trans hc, (List.forall_mem_cons.2 ⟨(by show (Kd.int .i64).K g v.Code (seg (Zz cs 2 ys) 0 1); rw [Zv (by omega) (by omega)]; exact hk.2 _ (List.mem_of_getElem? (i := 0) rfl)), (List.forall_mem_cons.2 ⟨(by show (Kd.int .i64).K g v.Num (seg (Zz cs 2 ys) 1 1); rw [Zv (by omega) (by omega)]; exact hk.2 _ (List.mem_of_getElem? (i := 1) rfl)), (List.forall_mem_cons.2 ⟨(by show Zf.K g y (seg (Zz cs 2 ys) 2 8); rw [Zco (by omega) hl]; exact hy), (fun _ h => by cases h)⟩)⟩)⟩)⟩
theorem Zj5 {c : Option Nat} {N j s : Nat} {o : Oper} {uses : Z3} {x z : Operand} {v : Zd} {y0 y : Int} {v0 : Zd} {t : Nat} (hT : Ty Tryd.prog t (Kd.int .i64)) (hop : o.op = .store t x z) (hd : o.dst = none) (hs : Opd uses (.tmp s) (Zbd c Zf j v)) (hx : Opd uses x (Zdv Zf j v0 1 (Kd.int .i64) y0)) (hz : Opd uses z ((Kd.int .i64).pd y)) : OB Tryd.prog N o uses [(s, Zbd c Zf j { v with Num := y })] [j + 1] :=
 Zel hT hop hd hs hx hz fun g cs ys hk hy => by
   have hc : cs.length = 8 := hk.1
   have hl : ys.length = 1 := (Kd.int .i64).len hy
   exact ⟨by omega, (Zcm (by omega)).trans hc, (List.forall_mem_cons.2 ⟨(by show (Kd.int .i64).K g v.Kind (seg (Zz cs 1 ys) 0 1); rw [Zv (by omega) (by omega)]; exact hk.2 _ (List.mem_of_getElem? (i := 0) rfl)), (List.forall_mem_cons.2 ⟨(by show (Kd.int .i64).K g y (seg (Zz cs 1 ys) 1 1); rw [Zco (by omega) hl]; exact hy), (List.forall_mem_cons.2 ⟨(by show (Kd.int .i64).K g v.Low (seg (Zz cs 1 ys) 2 1); rw [Zv (by omega) (by omega)]; exact hk.2 _ (List.mem_of_getElem? (i := 2) rfl)), (List.forall_mem_cons.2 ⟨(by show (Kd.int .i64).K g v.High (seg (Zz cs 1 ys) 3 1); rw [Zv (by omega) (by omega)]; exact hk.2 _ (List.mem_of_getElem? (i := 3) rfl)), (List.forall_mem_cons.2 ⟨(by show Kd.flt.K g v.Real (seg (Zz cs 1 ys) 4 1); rw [Zv (by omega) (by omega)]; exact hk.2 _ (List.mem_of_getElem? (i := 4) rfl)), (List.forall_mem_cons.2 ⟨(by show (Kd.int .i64).K g v.Cap (seg (Zz cs 1 ys) 5 1); rw [Zv (by omega) (by omega)]; exact hk.2 _ (List.mem_of_getElem? (i := 5) rfl)), (List.forall_mem_cons.2 ⟨(by show Kd.str.K g v.Text (seg (Zz cs 1 ys) 6 1); rw [Zv (by omega) (by omega)]; exact hk.2 _ (List.mem_of_getElem? (i := 6) rfl)), (List.forall_mem_cons.2 ⟨(by show Zm.sl.K g v.List (seg (Zz cs 1 ys) 7 1); rw [Zv (by omega) (by omega)]; exact hk.2 _ (List.mem_of_getElem? (i := 7) rfl)), (fun _ h => by cases h)⟩)⟩)⟩)⟩)⟩)⟩)⟩)⟩)⟩
theorem Znp {c : Option Nat} {N j s : Nat} {o : Oper} {uses : Z3} {x z : Operand} {v : Zd} {y0 y : Nat} {v0 : Zd} {t : Nat} (hT : Ty Tryd.prog t Kd.flt) (hop : o.op = .store t x z) (hd : o.dst = none) (hs : Opd uses (.tmp s) (Zbd c Zf j v)) (hx : Opd uses x (Zdv Zf j v0 4 Kd.flt y0)) (hz : Opd uses z (Kd.flt.pd y)) : OB Tryd.prog N o uses [(s, Zbd c Zf j { v with Real := y })] [j + 1] :=
 Zel hT hop hd hs hx hz fun g cs ys hk hy => by
   have hc : cs.length = 8 := hk.1
   have hl : ys.length = 1 := Kd.flt.len hy
   exact ⟨by omega, (Zcm (by omega)).trans hc, (List.forall_mem_cons.2 ⟨(by show (Kd.int .i64).K g v.Kind (seg (Zz cs 4 ys) 0 1); rw [Zv (by omega) (by omega)]; exact hk.2 _ (List.mem_of_getElem? (i := 0) rfl)), (List.forall_mem_cons.2 ⟨(by show (Kd.int .i64).K g v.Num (seg (Zz cs 4 ys) 1 1); rw [Zv (by omega) (by omega)]; exact hk.2 _ (List.mem_of_getElem? (i := 1) rfl)), (List.forall_mem_cons.2 ⟨(by show (Kd.int .i64).K g v.Low (seg (Zz cs 4 ys) 2 1); rw [Zv (by omega) (by omega)]; exact hk.2 _ (List.mem_of_getElem? (i := 2) rfl)), (List.forall_mem_cons.2 ⟨(by show (Kd.int .i64).K g v.High (seg (Zz cs 4 ys) 3 1); rw [Zv (by omega) (by omega)]; exact hk.2 _ (List.mem_of_getElem? (i := 3) rfl)), (List.forall_mem_cons.2 ⟨(by show Kd.flt.K g y (seg (Zz cs 4 ys) 4 1); rw [Zco (by omega) hl]; exact hy), (List.forall_mem_cons.2 ⟨(by show (Kd.int .i64).K g v.Cap (seg (Zz cs 4 ys) 5 1); rw [Zv (by omega) (by omega)]; exact hk.2 _ (List.mem_of_getElem? (i := 5) rfl)), (List.forall_mem_cons.2 ⟨(by show Kd.str.K g v.Text (seg (Zz cs 4 ys) 6 1); rw [Zv (by omega) (by omega)]; exact hk.2 _ (List.mem_of_getElem? (i := 6) rfl)), (List.forall_mem_cons.2 ⟨(by show Zm.sl.K g v.List (seg (Zz cs 4 ys) 7 1); rw [Zv (by omega) (by omega)]; exact hk.2 _ (List.mem_of_getElem? (i := 7) rfl)), (fun _ h => by cases h)⟩)⟩)⟩)⟩)⟩)⟩)⟩)⟩)⟩
theorem Zk6 : Zl Tryd.prog 106 := by
 unfold Zl
 kernel_rfl
theorem Zx4 : Ty Tryd.prog 77 Kd.fnc := ⟨by kernel_rfl, by kernel_rfl⟩
theorem Zyb : Zl Tryd.prog 109 := by
 unfold Zl
 kernel_rfl
theorem Zxc : Zl Tryd.prog 108 := by
 unfold Zl
 kernel_rfl
theorem Zya : Ext Tryd.prog 112 (Extern.SlicesOverlaps.overlaps #[23, 23] #[4]) := ⟨_, Tryd.func112, rfl, rfl, by kernel_rfl, by kernel_rfl⟩
theorem Zr1 : Zl Tryd.prog 95 := by
 unfold Zl
 kernel_rfl
theorem Zwy {N d : Nat} {o : Oper} {uses : Z3} {x1 : Operand} {v1 : ByteArray} (hop : o.op = .build 75 #[(1, x1)]) (hd : o.dst = some d) (h1 : Opd uses x1 (Kd.str.pd v1)) : OB Tryd.prog N o uses [(d, Zm.pd { Score := (0 : Nat), Name := v1 })] [] := by
 refine Zcb hop hd fun a g hh => ?_
 obtain ⟨c1, k1, e1⟩ := h1 a g hh
 obtain rfl := k1
 refine ⟨.agg #[.float .f64 0, .string v1], ?_, [.float .f64 0, .string v1], ⟨rfl, (List.forall_mem_cons.2 ⟨(rfl), (List.forall_mem_cons.2 ⟨rfl, (fun _ h => by cases h)⟩)⟩)⟩, rfl⟩
 simp only [List.map_toArray, List.map_cons, List.map_nil, e1]
 exact Zb0 Tryd.underlying75 (zero := .agg #[.float .f64 0, .string ByteArray.empty]) (by kernel_rfl) (places := [(0, 1), (1, 1)]) (by kernel_rfl) (by kernel_rfl) g.w
theorem Zsr : Zl Tryd.prog 107 := by
 unfold Zl
 kernel_rfl
theorem Zzm : Zl Tryd.prog 96 := by
 unfold Zl
 kernel_rfl
theorem Zsu {N d : Nat} {o : Oper} {uses : Z3} {x0 : Operand} {x1 : Operand} {v0 : Nat} {v1 : ByteArray} (hop : o.op = .build 75 #[(0, x0), (1, x1)]) (hd : o.dst = some d) (h0 : Opd uses x0 (Kd.flt.pd v0)) (h1 : Opd uses x1 (Kd.str.pd v1)) : OB Tryd.prog N o uses [(d, Zm.pd { Score := v0, Name := v1 })] [] := by
 refine Zcb hop hd fun a g hh => ?_
 obtain ⟨c0, k0, e0⟩ := h0 a g hh
 obtain rfl := k0
 obtain ⟨c1, k1, e1⟩ := h1 a g hh
 obtain rfl := k1
 refine ⟨.agg #[.float .f64 v0, .string v1], ?_, [.float .f64 v0, .string v1], ⟨rfl, (List.forall_mem_cons.2 ⟨rfl, (List.forall_mem_cons.2 ⟨rfl, (fun _ h => by cases h)⟩)⟩)⟩, rfl⟩
 simp only [List.map_toArray, List.map_cons, List.map_nil, e0, e1]
 exact Zb0 Tryd.underlying75 (zero := .agg #[.float .f64 0, .string ByteArray.empty]) (by kernel_rfl) (places := [(0, 1), (1, 1)]) (by kernel_rfl) (by kernel_rfl) g.w
theorem Zy3 : Zl Tryd.prog 82 := by
 unfold Zl
 kernel_rfl
theorem Zyo : Zl Tryd.prog 83 := by
 unfold Zl
 kernel_rfl
theorem Zyn : Zl Tryd.prog 84 := by
 unfold Zl
 kernel_rfl
theorem Zzn : Zl Tryd.prog 85 := by
 unfold Zl
 kernel_rfl
theorem Zur : Zl Tryd.prog 86 := by
 unfold Zl
 kernel_rfl
theorem Zzf : Zl Tryd.prog 87 := by
 unfold Zl
 kernel_rfl
theorem Zzv : Zl Tryd.prog 88 := by
 unfold Zl
 kernel_rfl
theorem Zu0 : Zl Tryd.prog 38 := by
 unfold Zl
 kernel_rfl
theorem Zu8 : Zl Tryd.prog 39 := by
 unfold Zl
 kernel_rfl
theorem Zyk : Zl Tryd.prog 90 := by
 unfold Zl
 kernel_rfl
theorem Zy4 : Zl Tryd.prog 91 := by
 unfold Zl
 kernel_rfl
theorem Zzc : Zl Tryd.prog 92 := by
 unfold Zl
 kernel_rfl
theorem Zzo : Zl Tryd.prog 93 := by
 unfold Zl
 kernel_rfl
theorem Zym : Zl Tryd.prog 94 := by
 unfold Zl
 kernel_rfl
theorem Zzu : Zl Tryd.prog 97 := by
 unfold Zl
 kernel_rfl
theorem Zyt : Zl Tryd.prog 98 := by
 unfold Zl
 kernel_rfl
theorem Znk : Zl Tryd.prog 89 := by
 unfold Zl
 kernel_rfl
theorem Zq7 {N d : Nat} {o : Oper} {uses : Z3} {x0 : Operand} {v0 : Int} (hop : o.op = .build 79 #[(0, x0)]) (hd : o.dst = some d) (h0 : Opd uses x0 ((Kd.int .i64).pd v0)) : OB Tryd.prog N o uses [(d, Z0.pd { Code := v0, Num := (0 : Int), Rec := (default : Zd) })] [] := by
 refine Zcb hop hd fun a g hh => ?_
 obtain ⟨c0, k0, e0⟩ := h0 a g hh
 obtain rfl := k0
 refine ⟨.agg #[.int .i64 v0, .int .i64 0, .int .i64 0, .int .i64 0, .int .i64 0, .int .i64 0, .float .f64 0, .int .i64 0, .string ByteArray.empty, .slice none 0 0], ?_, [.int .i64 v0, .int .i64 0, .int .i64 0, .int .i64 0, .int .i64 0, .int .i64 0, .float .f64 0, .int .i64 0, .string ByteArray.empty, .slice none 0 0], ⟨rfl, (List.forall_mem_cons.2 ⟨rfl, (List.forall_mem_cons.2 ⟨(rfl), (List.forall_mem_cons.2 ⟨(Zbr _), (fun _ h => by cases h)⟩)⟩)⟩)⟩, rfl⟩
 simp only [List.map_toArray, List.map_cons, List.map_nil, e0]
 exact Zb0 Tryd.underlying79 (zero := .agg #[.int .i64 0, .int .i64 0, .int .i64 0, .int .i64 0, .int .i64 0, .int .i64 0, .float .f64 0, .int .i64 0, .string ByteArray.empty, .slice none 0 0]) (by kernel_rfl) (places := [(0, 1), (1, 1), (2, 8)]) (by kernel_rfl) (by kernel_rfl) g.w
theorem Zdl : Ty Tryd.prog 79 Z0 := ⟨by kernel_rfl, by kernel_rfl⟩
theorem Zu5 : Zl Tryd.prog 58 := by
 unfold Zl
 kernel_rfl
theorem Zm0 : Zl Tryd.prog 67 := by
 unfold Zl
 kernel_rfl
theorem Zsm {N d : Nat} {o : Oper} {uses : Z3}   (hop : o.op = .build 79 #[]) (hd : o.dst = some d)  : OB Tryd.prog N o uses [(d, Z0.pd { Code := (0 : Int), Num := (0 : Int), Rec := (default : Zd) })] [] := by
 refine Zcb hop hd fun a g hh => ?_
 refine ⟨.agg #[.int .i64 0, .int .i64 0, .int .i64 0, .int .i64 0, .int .i64 0, .int .i64 0, .float .f64 0, .int .i64 0, .string ByteArray.empty, .slice none 0 0], ?_, [.int .i64 0, .int .i64 0, .int .i64 0, .int .i64 0, .int .i64 0, .int .i64 0, .float .f64 0, .int .i64 0, .string ByteArray.empty, .slice none 0 0], ⟨rfl, (List.forall_mem_cons.2 ⟨(rfl), (List.forall_mem_cons.2 ⟨(rfl), (List.forall_mem_cons.2 ⟨(Zbr _), (fun _ h => by cases h)⟩)⟩)⟩)⟩, rfl⟩
 simp only [List.map_toArray, List.map_cons, List.map_nil, List.map_nil]
 exact Zb0 Tryd.underlying79 (zero := .agg #[.int .i64 0, .int .i64 0, .int .i64 0, .int .i64 0, .int .i64 0, .int .i64 0, .float .f64 0, .int .i64 0, .string ByteArray.empty, .slice none 0 0]) (by kernel_rfl) (places := [(0, 1), (1, 1), (2, 8)]) (by kernel_rfl) (by kernel_rfl) g.w
theorem Zvl {N d : Nat} {o : Oper} {uses : Z3} {x1 : Operand} {v1 : Int} (hop : o.op = .build 79 #[(1, x1)]) (hd : o.dst = some d) (h1 : Opd uses x1 ((Kd.int .i64).pd v1)) : OB Tryd.prog N o uses [(d, Z0.pd { Code := (0 : Int), Num := v1, Rec := (default : Zd) })] [] := by
 refine Zcb hop hd fun a g hh => ?_
 obtain ⟨c1, k1, e1⟩ := h1 a g hh
 obtain rfl := k1
 refine ⟨.agg #[.int .i64 0, .int .i64 v1, .int .i64 0, .int .i64 0, .int .i64 0, .int .i64 0, .float .f64 0, .int .i64 0, .string ByteArray.empty, .slice none 0 0], ?_, [.int .i64 0, .int .i64 v1, .int .i64 0, .int .i64 0, .int .i64 0, .int .i64 0, .float .f64 0, .int .i64 0, .string ByteArray.empty, .slice none 0 0], ⟨rfl, (List.forall_mem_cons.2 ⟨(rfl), (List.forall_mem_cons.2 ⟨rfl, (List.forall_mem_cons.2 ⟨(Zbr _), (fun _ h => by cases h)⟩)⟩)⟩)⟩, rfl⟩
 simp only [List.map_toArray, List.map_cons, List.map_nil, e1]
 exact Zb0 Tryd.underlying79 (zero := .agg #[.int .i64 0, .int .i64 0, .int .i64 0, .int .i64 0, .int .i64 0, .int .i64 0, .float .f64 0, .int .i64 0, .string ByteArray.empty, .slice none 0 0]) (by kernel_rfl) (places := [(0, 1), (1, 1), (2, 8)]) (by kernel_rfl) (by kernel_rfl) g.w
theorem Zwj {N d : Nat} {o : Oper} {uses : Z3} {x2 : Operand} {v2 : Zd} (hop : o.op = .build 79 #[(2, x2)]) (hd : o.dst = some d) (h2 : Opd uses x2 (Zf.pd v2)) : OB Tryd.prog N o uses [(d, Z0.pd { Code := (0 : Int), Num := (0 : Int), Rec := v2 })] [] := by
 refine Zcb hop hd fun a g hh => ?_
 obtain ⟨c2, k2, e2⟩ := h2 a g hh
 obtain ⟨u2_0, u2_1, u2_2, u2_3, u2_4, u2_5, u2_6, u2_7, rfl⟩ := Zux (Zf.len k2)
 refine ⟨.agg #[.int .i64 0, .int .i64 0, u2_0, u2_1, u2_2, u2_3, u2_4, u2_5, u2_6, u2_7], ?_, [.int .i64 0, .int .i64 0, u2_0, u2_1, u2_2, u2_3, u2_4, u2_5, u2_6, u2_7], ⟨rfl, (List.forall_mem_cons.2 ⟨(rfl), (List.forall_mem_cons.2 ⟨(rfl), (List.forall_mem_cons.2 ⟨k2, (fun _ h => by cases h)⟩)⟩)⟩)⟩, rfl⟩
 simp only [List.map_toArray, List.map_cons, List.map_nil, e2]
 exact Zb0 Tryd.underlying79 (zero := .agg #[.int .i64 0, .int .i64 0, .int .i64 0, .int .i64 0, .int .i64 0, .int .i64 0, .float .f64 0, .int .i64 0, .string ByteArray.empty, .slice none 0 0]) (by kernel_rfl) (places := [(0, 1), (1, 1), (2, 8)]) (by kernel_rfl) (by kernel_rfl) g.w
theorem Zzl : Zl Tryd.prog 68 := by
 unfold Zl
 kernel_rfl
theorem Zyq : (Tryd.prog.info? 25).map (·.size) = some Zf.sz := by kernel_rfl
theorem Zqz {N d : Nat} {o : Oper} {uses : Z3} {x0 : Operand} {x1 : Operand} {x4 : Operand} {v0 : Int} {v1 : ByteArray} {v4 : ByteArray} (hop : o.op = .build 37 #[(0, x0), (1, x1), (4, x4)]) (hd : o.dst = some d) (h0 : Opd uses x0 ((Kd.int .i64).pd v0)) (h1 : Opd uses x1 (Kd.str.pd v1)) (h4 : Opd uses x4 (Kd.str.pd v4)) : OB Tryd.prog N o uses [(d, Z1.pd { Kind := v0, Key := v1, N := (0 : Int), X := (0 : Nat), S := v4, Make := (default : Zd), Must := false })] [] := by
 refine Zcb hop hd fun a g hh => ?_
 obtain ⟨c0, k0, e0⟩ := h0 a g hh
 obtain rfl := k0
 obtain ⟨c1, k1, e1⟩ := h1 a g hh
 obtain rfl := k1
 obtain ⟨c4, k4, e4⟩ := h4 a g hh
 obtain rfl := k4
 refine ⟨.agg #[.int .i64 v0, .string v1, .int .i64 0, .float .f64 0, .string v4, .int .i64 0, .int .i64 0, .int .i64 0, .int .i64 0, .float .f64 0, .int .i64 0, .string ByteArray.empty, .slice none 0 0, .bool false], ?_, [.int .i64 v0, .string v1, .int .i64 0, .float .f64 0, .string v4, .int .i64 0, .int .i64 0, .int .i64 0, .int .i64 0, .float .f64 0, .int .i64 0, .string ByteArray.empty, .slice none 0 0, .bool false], ⟨rfl, (List.forall_mem_cons.2 ⟨rfl, (List.forall_mem_cons.2 ⟨rfl, (List.forall_mem_cons.2 ⟨(rfl), (List.forall_mem_cons.2 ⟨(rfl), (List.forall_mem_cons.2 ⟨rfl, (List.forall_mem_cons.2 ⟨(Zbr _), (List.forall_mem_cons.2 ⟨(rfl), (fun _ h => by cases h)⟩)⟩)⟩)⟩)⟩)⟩)⟩)⟩, rfl⟩
 simp only [List.map_toArray, List.map_cons, List.map_nil, e0, e1, e4]
 exact Zb0 Tryd.underlying37 (zero := .agg #[.int .i64 0, .string ByteArray.empty, .int .i64 0, .float .f64 0, .string ByteArray.empty, .int .i64 0, .int .i64 0, .int .i64 0, .int .i64 0, .float .f64 0, .int .i64 0, .string ByteArray.empty, .slice none 0 0, .bool false]) (by kernel_rfl) (places := [(0, 1), (1, 1), (2, 1), (3, 1), (4, 1), (5, 8), (13, 1)]) (by kernel_rfl) (by kernel_rfl) g.w
theorem Zn2 {c : Option Nat} {N j s : Nat} {o : Oper} {uses : Z3} {x z : Operand} {v : Zu} {y0 y : Int} {v0 : Zu} {t : Nat} (hT : Ty Tryd.prog t (Kd.int .i64)) (hop : o.op = .store t x z) (hd : o.dst = none) (hs : Opd uses (.tmp s) (Zbd c Z1 j v)) (hx : Opd uses x (Zdv Z1 j v0 0 (Kd.int .i64) y0)) (hz : Opd uses z ((Kd.int .i64).pd y)) : OB Tryd.prog N o uses [(s, Zbd c Z1 j { v with Kind := y })] [j + 1] :=
 Zel hT hop hd hs hx hz fun g cs ys hk hy => by
   have hc : cs.length = 14 := hk.1
   have hl : ys.length = 1 := (Kd.int .i64).len hy
   exact ⟨by omega, (Zcm (by omega)).trans hc, (List.forall_mem_cons.2 ⟨(by show (Kd.int .i64).K g y (seg (Zz cs 0 ys) 0 1); rw [Zco (by omega) hl]; exact hy), (List.forall_mem_cons.2 ⟨(by show Kd.str.K g v.Key (seg (Zz cs 0 ys) 1 1); rw [Zv (by omega) (by omega)]; exact hk.2 _ (List.mem_of_getElem? (i := 1) rfl)), (List.forall_mem_cons.2 ⟨(by show (Kd.int .i64).K g v.N (seg (Zz cs 0 ys) 2 1); rw [Zv (by omega) (by omega)]; exact hk.2 _ (List.mem_of_getElem? (i := 2) rfl)), (List.forall_mem_cons.2 ⟨(by show Kd.flt.K g v.X (seg (Zz cs 0 ys) 3 1); rw [Zv (by omega) (by omega)]; exact hk.2 _ (List.mem_of_getElem? (i := 3) rfl)), (List.forall_mem_cons.2 ⟨(by show Kd.str.K g v.S (seg (Zz cs 0 ys) 4 1); rw [Zv (by omega) (by omega)]; exact hk.2 _ (List.mem_of_getElem? (i := 4) rfl)), (List.forall_mem_cons.2 ⟨(by show Zf.K g v.Make (seg (Zz cs 0 ys) 5 8); rw [Zv (by omega) (by omega)]; exact hk.2 _ (List.mem_of_getElem? (i := 5) rfl)), (List.forall_mem_cons.2 ⟨(by show Kd.bool.K g v.Must (seg (Zz cs 0 ys) 13 1); rw [Zv (by omega) (by omega)]; exact hk.2 _ (List.mem_of_getElem? (i := 6) rfl)), (fun _ h => by cases h)⟩)⟩)⟩)⟩)⟩)⟩)⟩)⟩
theorem Zw2 {c : Option Nat} {N j s : Nat} {o : Oper} {uses : Z3} {x z : Operand} {v : Zu} {y0 y : Nat} {v0 : Zu} {t : Nat} (hT : Ty Tryd.prog t Kd.flt) (hop : o.op = .store t x z) (hd : o.dst = none) (hs : Opd uses (.tmp s) (Zbd c Z1 j v)) (hx : Opd uses x (Zdv Z1 j v0 3 Kd.flt y0)) (hz : Opd uses z (Kd.flt.pd y)) : OB Tryd.prog N o uses [(s, Zbd c Z1 j { v with X := y })] [j + 1] :=
 Zel hT hop hd hs hx hz fun g cs ys hk hy => by
   have hc : cs.length = 14 := hk.1
   have hl : ys.length = 1 := Kd.flt.len hy
   exact ⟨by omega, (Zcm (by omega)).trans hc, (List.forall_mem_cons.2 ⟨(by show (Kd.int .i64).K g v.Kind (seg (Zz cs 3 ys) 0 1); rw [Zv (by omega) (by omega)]; exact hk.2 _ (List.mem_of_getElem? (i := 0) rfl)), (List.forall_mem_cons.2 ⟨(by show Kd.str.K g v.Key (seg (Zz cs 3 ys) 1 1); rw [Zv (by omega) (by omega)]; exact hk.2 _ (List.mem_of_getElem? (i := 1) rfl)), (List.forall_mem_cons.2 ⟨(by show (Kd.int .i64).K g v.N (seg (Zz cs 3 ys) 2 1); rw [Zv (by omega) (by omega)]; exact hk.2 _ (List.mem_of_getElem? (i := 2) rfl)), (List.forall_mem_cons.2 ⟨(by show Kd.flt.K g y (seg (Zz cs 3 ys) 3 1); rw [Zco (by omega) hl]; exact hy), (List.forall_mem_cons.2 ⟨(by show Kd.str.K g v.S (seg (Zz cs 3 ys) 4 1); rw [Zv (by omega) (by omega)]; exact hk.2 _ (List.mem_of_getElem? (i := 4) rfl)), (List.forall_mem_cons.2 ⟨(by show Zf.K g v.Make (seg (Zz cs 3 ys) 5 8); rw [Zv (by omega) (by omega)]; exact hk.2 _ (List.mem_of_getElem? (i := 5) rfl)), (List.forall_mem_cons.2 ⟨(by show Kd.bool.K g v.Must (seg (Zz cs 3 ys) 13 1); rw [Zv (by omega) (by omega)]; exact hk.2 _ (List.mem_of_getElem? (i := 6) rfl)), (fun _ h => by cases h)⟩)⟩)⟩)⟩)⟩)⟩)⟩)⟩
theorem Zuj : Zl Tryd.prog 40 := by
 unfold Zl
 kernel_rfl
theorem Zwp {c : Option Nat} {N j s : Nat} {o : Oper} {uses : Z3} {x z : Operand} {v : Zu} {y0 y : Int} {v0 : Zu} {t : Nat} (hT : Ty Tryd.prog t (Kd.int .i64)) (hop : o.op = .store t x z) (hd : o.dst = none) (hs : Opd uses (.tmp s) (Zbd c Z1 j v)) (hx : Opd uses x (Zdv Z1 j v0 2 (Kd.int .i64) y0)) (hz : Opd uses z ((Kd.int .i64).pd y)) : OB Tryd.prog N o uses [(s, Zbd c Z1 j { v with N := y })] [j + 1] :=
 Zel hT hop hd hs hx hz fun g cs ys hk hy => by
   have hc : cs.length = 14 := hk.1
   have hl : ys.length = 1 := (Kd.int .i64).len hy
   exact ⟨by omega, (Zcm (by omega)).trans hc, (List.forall_mem_cons.2 ⟨(by show (Kd.int .i64).K g v.Kind (seg (Zz cs 2 ys) 0 1); rw [Zv (by omega) (by omega)]; exact hk.2 _ (List.mem_of_getElem? (i := 0) rfl)), (List.forall_mem_cons.2 ⟨(by show Kd.str.K g v.Key (seg (Zz cs 2 ys) 1 1); rw [Zv (by omega) (by omega)]; exact hk.2 _ (List.mem_of_getElem? (i := 1) rfl)), (List.forall_mem_cons.2 ⟨(by show (Kd.int .i64).K g y (seg (Zz cs 2 ys) 2 1); rw [Zco (by omega) hl]; exact hy), (List.forall_mem_cons.2 ⟨(by show Kd.flt.K g v.X (seg (Zz cs 2 ys) 3 1); rw [Zv (by omega) (by omega)]; exact hk.2 _ (List.mem_of_getElem? (i := 3) rfl)), (List.forall_mem_cons.2 ⟨(by show Kd.str.K g v.S (seg (Zz cs 2 ys) 4 1); rw [Zv (by omega) (by omega)]; exact hk.2 _ (List.mem_of_getElem? (i := 4) rfl)), (List.forall_mem_cons.2 ⟨(by show Zf.K g v.Make (seg (Zz cs 2 ys) 5 8); rw [Zv (by omega) (by omega)]; exact hk.2 _ (List.mem_of_getElem? (i := 5) rfl)), (List.forall_mem_cons.2 ⟨(by show Kd.bool.K g v.Must (seg (Zz cs 2 ys) 13 1); rw [Zv (by omega) (by omega)]; exact hk.2 _ (List.mem_of_getElem? (i := 6) rfl)), (fun _ h => by cases h)⟩)⟩)⟩)⟩)⟩)⟩)⟩)⟩
theorem Zla {N d : Nat} {o : Oper} {uses : Z3} {x0 : Operand} {x1 : Operand} {v0 : Int} {v1 : Int} (hop : o.op = .build 96 #[(0, x0), (1, x1)]) (hd : o.dst = some d) (h0 : Opd uses x0 ((Kd.int .u64).pd v0)) (h1 : Opd uses x1 ((Kd.int .u64).pd v1)) : OB Tryd.prog N o uses [(d, Z2.pd { up := v0, down := v1 })] [] := by
 refine Zcb hop hd fun a g hh => ?_
 obtain ⟨c0, k0, e0⟩ := h0 a g hh
 obtain rfl := k0
 obtain ⟨c1, k1, e1⟩ := h1 a g hh
 obtain rfl := k1
 refine ⟨.agg #[.int .u64 v0, .int .u64 v1], ?_, [.int .u64 v0, .int .u64 v1], ⟨rfl, (List.forall_mem_cons.2 ⟨rfl, (List.forall_mem_cons.2 ⟨rfl, (fun _ h => by cases h)⟩)⟩)⟩, rfl⟩
 simp only [List.map_toArray, List.map_cons, List.map_nil, e0, e1]
 exact Zb0 Tryd.underlying96 (zero := .agg #[.int .u64 0, .int .u64 0]) (by kernel_rfl) (places := [(0, 1), (1, 1)]) (by kernel_rfl) (by kernel_rfl) g.w
theorem Zc8 : Ty Tryd.prog 96 Z2 := ⟨by kernel_rfl, by kernel_rfl⟩
theorem Zlz {N d : Nat} {o : Oper} {uses : Z3} {x0 : Operand} {v0 : Int} (hop : o.op = .build 96 #[(0, x0)]) (hd : o.dst = some d) (h0 : Opd uses x0 ((Kd.int .u64).pd v0)) : OB Tryd.prog N o uses [(d, Z2.pd { up := v0, down := (0 : Int) })] [] := by
 refine Zcb hop hd fun a g hh => ?_
 obtain ⟨c0, k0, e0⟩ := h0 a g hh
 obtain rfl := k0
 refine ⟨.agg #[.int .u64 v0, .int .u64 0], ?_, [.int .u64 v0, .int .u64 0], ⟨rfl, (List.forall_mem_cons.2 ⟨rfl, (List.forall_mem_cons.2 ⟨(rfl), (fun _ h => by cases h)⟩)⟩)⟩, rfl⟩
 simp only [List.map_toArray, List.map_cons, List.map_nil, e0]
 exact Zb0 Tryd.underlying96 (zero := .agg #[.int .u64 0, .int .u64 0]) (by kernel_rfl) (places := [(0, 1), (1, 1)]) (by kernel_rfl) (by kernel_rfl) g.w
theorem Zp0 {N d : Nat} {o : Oper} {uses : Z3}   (hop : o.op = .build 96 #[]) (hd : o.dst = some d)  : OB Tryd.prog N o uses [(d, Z2.pd { up := (0 : Int), down := (0 : Int) })] [] := by
 refine Zcb hop hd fun a g hh => ?_
 refine ⟨.agg #[.int .u64 0, .int .u64 0], ?_, [.int .u64 0, .int .u64 0], ⟨rfl, (List.forall_mem_cons.2 ⟨(rfl), (List.forall_mem_cons.2 ⟨(rfl), (fun _ h => by cases h)⟩)⟩)⟩, rfl⟩
 simp only [List.map_toArray, List.map_cons, List.map_nil, List.map_nil]
 exact Zb0 Tryd.underlying96 (zero := .agg #[.int .u64 0, .int .u64 0]) (by kernel_rfl) (places := [(0, 1), (1, 1)]) (by kernel_rfl) (by kernel_rfl) g.w
structure Zdf where
 r : Zd
 by_ : SlV
def Zl6 : List (Kd.FK Zdf) := [⟨_, Zf, 0, fun x : Zdf => x.r⟩,
 ⟨_, Kd.raw, 8, fun x : Zdf => x.by_⟩]
def Zbf : Kd Zdf := Kd.struct 9 Zl6 (by rfl)
def Zbh (x : Zw) (s : SlV) : Zdf := ⟨x.r, s⟩
theorem Zmb {x : Zw} {g : G} {cs ys : List Value} {s0 s1 : SlV} (hk : Zbf.K g (Zbh x s0) cs) (hy : Kd.raw.K g s1 ys) : 8 + ys.length ≤ cs.length ∧ Zbf.K g (Zbh x s1) (Zz cs 8 ys) := by
 have hc : cs.length = 9 := hk.1
 have hl : ys.length = 1 := Kd.raw.len hy
 exact ⟨by omega, (Zcm (by omega)).trans hc, (List.forall_mem_cons.2 ⟨(by show Zf.K g x.r (seg (Zz cs 8 ys) 0 8); rw [Zv (by omega) (by omega)]; exact hk.2 _ (List.mem_of_getElem? (i := 0) rfl)), (List.forall_mem_cons.2 ⟨(by show Kd.raw.K g s1 (seg (Zz cs 8 ys) 8 1); rw [Zco (by omega) hl]; exact hy), (fun _ h => by cases h)⟩)⟩)⟩
theorem Ztz : Fld Tryd.prog 94 0 Zbf Zf (fun x : Zdf => x.r) := Fld.of ⟨_, Zf, 0, fun x : Zdf => x.r⟩ (List.mem_of_getElem? (i := 0) rfl) 0 rfl (by kernel_rfl) (by decide)
theorem Zi8 : Fld Tryd.prog 94 1 Zbf Kd.raw (fun x : Zdf => x.by_) := Fld.of ⟨_, Kd.raw, 8, fun x : Zdf => x.by_⟩ (List.mem_of_getElem? (i := 1) rfl) 8 rfl (by kernel_rfl) (by decide)
theorem Zln : Ty Tryd.prog 92 Kd.raw := ⟨by kernel_rfl, by kernel_rfl⟩
theorem Zr9 : Ty Tryd.prog 92 Z2.sl := ⟨by kernel_rfl, by kernel_rfl⟩
abbrev Zbt : Zw → List Zx := fun x => x.by_
theorem Zjo : Zo5 Zbf Zbh Zbt Z2 Zd9 := fun g x s cs h hr => ⟨h.1, (List.forall_mem_cons.2 ⟨(h.2 _ (List.mem_of_getElem? (i := 0) rfl)), (List.forall_mem_cons.2 ⟨(Zxi (h.2 _ (List.mem_of_getElem? (i := 1) rfl)) hr), (fun _ h => by cases h)⟩)⟩)⟩
abbrev Zc7 : Ob Zw := obS Zbf Zbh Zbt Z2 96
theorem Zrx : Zl Tryd.prog 10 := by
 unfold Zl
 kernel_rfl
theorem Zvs {N d : Nat} {o : Oper} {uses : Z3} {x0 : Operand} {v0 : Zd} (hop : o.op = .build 94 #[(0, x0)]) (hd : o.dst = some d) (h0 : Opd uses x0 (Zf.pd v0)) : OB Tryd.prog N o uses [(d, Zbf.pd { r := v0, by_ := ((none, 0, 0) : SlV) })] [] := by
 refine Zcb hop hd fun a g hh => ?_
 obtain ⟨c0, k0, e0⟩ := h0 a g hh
 obtain ⟨u0_0, u0_1, u0_2, u0_3, u0_4, u0_5, u0_6, u0_7, rfl⟩ := Zux (Zf.len k0)
 refine ⟨.agg #[u0_0, u0_1, u0_2, u0_3, u0_4, u0_5, u0_6, u0_7, .slice none 0 0], ?_, [u0_0, u0_1, u0_2, u0_3, u0_4, u0_5, u0_6, u0_7, .slice none 0 0], ⟨rfl, (List.forall_mem_cons.2 ⟨k0, (List.forall_mem_cons.2 ⟨(rfl), (fun _ h => by cases h)⟩)⟩)⟩, rfl⟩
 simp only [List.map_toArray, List.map_cons, List.map_nil, e0]
 exact Zb0 Tryd.underlying94 (zero := .agg #[.int .i64 0, .int .i64 0, .int .i64 0, .int .i64 0, .float .f64 0, .int .i64 0, .string ByteArray.empty, .slice none 0 0, .slice none 0 0]) (by kernel_rfl) (places := [(0, 8), (8, 1)]) (by kernel_rfl) (by kernel_rfl) g.w
theorem Zzd : Zl Tryd.prog 53 := by
 unfold Zl
 kernel_rfl
theorem Zg0 : Fld Tryd.prog 96 0 Z2 (Kd.int .u64) (fun x : Zx => x.up) := Fld.of ⟨_, (Kd.int .u64), 0, fun x : Zx => x.up⟩ (List.mem_of_getElem? (i := 0) rfl) 0 rfl (by kernel_rfl) (by decide)
theorem Zfw : Ty Tryd.prog 62 (Kd.int .u64) := ⟨by kernel_rfl, by kernel_rfl⟩
theorem Zvc : Zl Tryd.prog 54 := by
 unfold Zl
 kernel_rfl
theorem Zh9 : Fld Tryd.prog 96 1 Z2 (Kd.int .u64) (fun x : Zx => x.down) := Fld.of ⟨_, (Kd.int .u64), 1, fun x : Zx => x.down⟩ (List.mem_of_getElem? (i := 1) rfl) 1 rfl (by kernel_rfl) (by decide)
theorem Zuu : TE Tryd.prog 92 96 Z2 16 := TE.of Tryd.underlying92 (by kernel_rfl) (by decide) (by decide)
theorem Zno : Fld Tryd.prog 94 1 Zd9 Z2.sl (fun x : Zw => x.by_) := Fld.of ⟨_, Z2.sl, 8, fun x : Zw => x.by_⟩ (List.mem_of_getElem? (i := 1) rfl) 8 rfl (by kernel_rfl) (by decide)
theorem Zo7 : (Tryd.prog.info? 96).map (·.size) = some Z2.sz := by kernel_rfl
theorem Zrl {N d : Nat} {o : Oper} {uses : Z3} {x1 : Operand} {v1 : Int} (hop : o.op = .build 96 #[(1, x1)]) (hd : o.dst = some d) (h1 : Opd uses x1 ((Kd.int .u64).pd v1)) : OB Tryd.prog N o uses [(d, Z2.pd { up := (0 : Int), down := v1 })] [] := by
 refine Zcb hop hd fun a g hh => ?_
 obtain ⟨c1, k1, e1⟩ := h1 a g hh
 obtain rfl := k1
 refine ⟨.agg #[.int .u64 0, .int .u64 v1], ?_, [.int .u64 0, .int .u64 v1], ⟨rfl, (List.forall_mem_cons.2 ⟨(rfl), (List.forall_mem_cons.2 ⟨rfl, (fun _ h => by cases h)⟩)⟩)⟩, rfl⟩
 simp only [List.map_toArray, List.map_cons, List.map_nil, e1]
 exact Zb0 Tryd.underlying96 (zero := .agg #[.int .u64 0, .int .u64 0]) (by kernel_rfl) (places := [(0, 1), (1, 1)]) (by kernel_rfl) (by kernel_rfl) g.w
theorem Zv4 : Fld Tryd.prog 94 0 Zd9 Zf (fun x : Zw => x.r) := Fld.of ⟨_, Zf, 0, fun x : Zw => x.r⟩ (List.mem_of_getElem? (i := 0) rfl) 0 rfl (by kernel_rfl) (by decide)
theorem Znq : ∀ (g g' : G) (x : Zx) (cs : List Value), Z2.K g x cs → Z2.K g' x cs := fun g g' x cs h => ⟨h.1, (List.forall_mem_cons.2 ⟨(h.2 _ (List.mem_of_getElem? (i := 0) rfl)), (List.forall_mem_cons.2 ⟨(h.2 _ (List.mem_of_getElem? (i := 1) rfl)), (fun _ h => by cases h)⟩)⟩)⟩
theorem Zyl : (Tryd.prog.info? 37).map (·.size) = some Z1.sz := by kernel_rfl
theorem Zr0 : Zl Tryd.prog 12 := by
 unfold Zl
 kernel_rfl
theorem Zzy : Zl Tryd.prog 59 := by
 unfold Zl
 kernel_rfl
theorem Zwv {c : Option Nat} {N j s : Nat} {o : Oper} {uses : Z3} {x z : Operand} {v : Zx} {y0 y : Int} {v0 : Zx} {t : Nat} (hT : Ty Tryd.prog t (Kd.int .u64)) (hop : o.op = .store t x z) (hd : o.dst = none) (hs : Opd uses (.tmp s) (Zbd c Z2 j v)) (hx : Opd uses x (Zdv Z2 j v0 0 (Kd.int .u64) y0)) (hz : Opd uses z ((Kd.int .u64).pd y)) : OB Tryd.prog N o uses [(s, Zbd c Z2 j { v with up := y })] [j + 1] :=
 Zel hT hop hd hs hx hz fun g cs ys hk hy => by
   have hc : cs.length = 2 := hk.1
   have hl : ys.length = 1 := (Kd.int .u64).len hy
   exact ⟨by omega, (Zcm (by omega)).trans hc, (List.forall_mem_cons.2 ⟨(by show (Kd.int .u64).K g y (seg (Zz cs 0 ys) 0 1); rw [Zco (by omega) hl]; exact hy), (List.forall_mem_cons.2 ⟨(by show (Kd.int .u64).K g v.down (seg (Zz cs 0 ys) 1 1); rw [Zv (by omega) (by omega)]; exact hk.2 _ (List.mem_of_getElem? (i := 1) rfl)), (fun _ h => by cases h)⟩)⟩)⟩
theorem Zw4 {c : Option Nat} {N j s : Nat} {o : Oper} {uses : Z3} {x z : Operand} {v : Zx} {y0 y : Int} {v0 : Zx} {t : Nat} (hT : Ty Tryd.prog t (Kd.int .u64)) (hop : o.op = .store t x z) (hd : o.dst = none) (hs : Opd uses (.tmp s) (Zbd c Z2 j v)) (hx : Opd uses x (Zdv Z2 j v0 1 (Kd.int .u64) y0)) (hz : Opd uses z ((Kd.int .u64).pd y)) : OB Tryd.prog N o uses [(s, Zbd c Z2 j { v with down := y })] [j + 1] :=
 Zel hT hop hd hs hx hz fun g cs ys hk hy => by
   have hc : cs.length = 2 := hk.1
   have hl : ys.length = 1 := (Kd.int .u64).len hy
   exact ⟨by omega, (Zcm (by omega)).trans hc, (List.forall_mem_cons.2 ⟨(by show (Kd.int .u64).K g v.up (seg (Zz cs 1 ys) 0 1); rw [Zv (by omega) (by omega)]; exact hk.2 _ (List.mem_of_getElem? (i := 0) rfl)), (List.forall_mem_cons.2 ⟨(by show (Kd.int .u64).K g y (seg (Zz cs 1 ys) 1 1); rw [Zco (by omega) hl]; exact hy), (fun _ h => by cases h)⟩)⟩)⟩
theorem Zqf {N d : Nat} {o : Oper} {uses : Z3} {x0 : Operand} {x3 : Operand} {x1 : Operand} {v0 : Int} {v3 : Int} {v1 : Int} (hop : o.op = .build 25 #[(0, x0), (3, x3), (1, x1)]) (hd : o.dst = some d) (h0 : Opd uses x0 ((Kd.int .i64).pd v0)) (h3 : Opd uses x3 ((Kd.int .i64).pd v3)) (h1 : Opd uses x1 ((Kd.int .i64).pd v1)) : OB Tryd.prog N o uses [(d, Zf.pd { Kind := v0, Num := v1, Low := (0 : Int), High := v3, Real := (0 : Nat), Cap := (0 : Int), Text := ByteArray.empty, List := ([] : List Zj) })] [] := by
 refine Zcb hop hd fun a g hh => ?_
 obtain ⟨c0, k0, e0⟩ := h0 a g hh
 obtain rfl := k0
 obtain ⟨c1, k1, e1⟩ := h1 a g hh
 obtain rfl := k1
 obtain ⟨c3, k3, e3⟩ := h3 a g hh
 obtain rfl := k3
 refine ⟨.agg #[.int .i64 v0, .int .i64 v1, .int .i64 0, .int .i64 v3, .float .f64 0, .int .i64 0, .string ByteArray.empty, .slice none 0 0], ?_, [.int .i64 v0, .int .i64 v1, .int .i64 0, .int .i64 v3, .float .f64 0, .int .i64 0, .string ByteArray.empty, .slice none 0 0], ⟨rfl, (List.forall_mem_cons.2 ⟨rfl, (List.forall_mem_cons.2 ⟨rfl, (List.forall_mem_cons.2 ⟨(rfl), (List.forall_mem_cons.2 ⟨rfl, (List.forall_mem_cons.2 ⟨(rfl), (List.forall_mem_cons.2 ⟨(rfl), (List.forall_mem_cons.2 ⟨(rfl), (List.forall_mem_cons.2 ⟨(⟨none, 0, rfl, Nat.le_refl _, Nat.zero_le _, .inl rfl⟩), (fun _ h => by cases h)⟩)⟩)⟩)⟩)⟩)⟩)⟩)⟩)⟩, rfl⟩
 simp only [List.map_toArray, List.map_cons, List.map_nil, e0, e3, e1]
 exact Zb0 Tryd.underlying25 (zero := .agg #[.int .i64 0, .int .i64 0, .int .i64 0, .int .i64 0, .float .f64 0, .int .i64 0, .string ByteArray.empty, .slice none 0 0]) (by kernel_rfl) (places := [(0, 1), (1, 1), (2, 1), (3, 1), (4, 1), (5, 1), (6, 1), (7, 1)]) (by kernel_rfl) (by kernel_rfl) g.w
theorem Zzx : Zl Tryd.prog 24 := by
 unfold Zl
 kernel_rfl
theorem Zuk : Zl Tryd.prog 27 := by
 unfold Zl
 kernel_rfl
theorem Zqs {N d : Nat} {o : Oper} {uses : Z3} {x0 : Operand} {x1 : Operand} {x2 : Operand} {v0 : Int} {v1 : ByteArray} {v2 : Int} (hop : o.op = .build 37 #[(0, x0), (1, x1), (2, x2)]) (hd : o.dst = some d) (h0 : Opd uses x0 ((Kd.int .i64).pd v0)) (h1 : Opd uses x1 (Kd.str.pd v1)) (h2 : Opd uses x2 ((Kd.int .i64).pd v2)) : OB Tryd.prog N o uses [(d, Z1.pd { Kind := v0, Key := v1, N := v2, X := (0 : Nat), S := ByteArray.empty, Make := (default : Zd), Must := false })] [] := by
 refine Zcb hop hd fun a g hh => ?_
 obtain ⟨c0, k0, e0⟩ := h0 a g hh
 obtain rfl := k0
 obtain ⟨c1, k1, e1⟩ := h1 a g hh
 obtain rfl := k1
 obtain ⟨c2, k2, e2⟩ := h2 a g hh
 obtain rfl := k2
 refine ⟨.agg #[.int .i64 v0, .string v1, .int .i64 v2, .float .f64 0, .string ByteArray.empty, .int .i64 0, .int .i64 0, .int .i64 0, .int .i64 0, .float .f64 0, .int .i64 0, .string ByteArray.empty, .slice none 0 0, .bool false], ?_, [.int .i64 v0, .string v1, .int .i64 v2, .float .f64 0, .string ByteArray.empty, .int .i64 0, .int .i64 0, .int .i64 0, .int .i64 0, .float .f64 0, .int .i64 0, .string ByteArray.empty, .slice none 0 0, .bool false], ⟨rfl, (List.forall_mem_cons.2 ⟨rfl, (List.forall_mem_cons.2 ⟨rfl, (List.forall_mem_cons.2 ⟨rfl, (List.forall_mem_cons.2 ⟨(rfl), (List.forall_mem_cons.2 ⟨(rfl), (List.forall_mem_cons.2 ⟨(Zbr _), (List.forall_mem_cons.2 ⟨(rfl), (fun _ h => by cases h)⟩)⟩)⟩)⟩)⟩)⟩)⟩)⟩, rfl⟩
 simp only [List.map_toArray, List.map_cons, List.map_nil, e0, e1, e2]
 exact Zb0 Tryd.underlying37 (zero := .agg #[.int .i64 0, .string ByteArray.empty, .int .i64 0, .float .f64 0, .string ByteArray.empty, .int .i64 0, .int .i64 0, .int .i64 0, .int .i64 0, .float .f64 0, .int .i64 0, .string ByteArray.empty, .slice none 0 0, .bool false]) (by kernel_rfl) (places := [(0, 1), (1, 1), (2, 1), (3, 1), (4, 1), (5, 8), (13, 1)]) (by kernel_rfl) (by kernel_rfl) g.w
theorem Zvi : TE Tryd.prog 60 37 Z1 152 := TE.of Tryd.underlying60 (by kernel_rfl) (by decide) (by decide)
theorem Zup : Zl Tryd.prog 28 := by
 unfold Zl
 kernel_rfl
theorem Zza : Zl Tryd.prog 16 := by
 unfold Zl
 kernel_rfl
theorem Zrv : TE Tryd.prog 33 25 Zf 88 := TE.of Tryd.underlying33 (by kernel_rfl) (by decide) (by decide)
theorem Zu4 : Zl Tryd.prog 15 := by
 unfold Zl
 kernel_rfl
theorem Zvh : Zl Tryd.prog 30 := by
 unfold Zl
 kernel_rfl
theorem Zyx : (Tryd.prog.info? 39).map (·.size) = some Zdb.sz := by kernel_rfl
theorem Zva : Ty Tryd.prog 39 Zdb := ⟨by kernel_rfl, by kernel_rfl⟩
theorem Zwg : Fld Tryd.prog 39 1 Zdb Z1 (fun x : Zbw => x.Act) := Fld.of ⟨_, Z1, 1, fun x : Zbw => x.Act⟩ (List.mem_of_getElem? (i := 1) rfl) 1 rfl (by kernel_rfl) (by decide)
theorem Zzs : Zl Tryd.prog 31 := by
 unfold Zl
 kernel_rfl
theorem Zrp : Zl Tryd.prog 72 := by
 unfold Zl
 kernel_rfl
theorem Zu3 : Zl Tryd.prog 80 := by
 unfold Zl
 kernel_rfl
theorem Zr5 : Zl Tryd.prog 63 := by
 unfold Zl
 kernel_rfl
theorem Zpe : Zl Tryd.prog 36 := by
 unfold Zl
 kernel_rfl
theorem Zu2 : Zl Tryd.prog 71 := by
 unfold Zl
 kernel_rfl
theorem Zyi : TE Tryd.prog 122 9 Kd.str 16 := TE.of Tryd.underlying122 (by kernel_rfl) (by decide) (by decide)
theorem sz_9 : (Tryd.prog.info? 9).map (·.size) = some Kd.str.sz := by kernel_rfl
theorem Zuw : Zl Tryd.prog 46 := by
 unfold Zl
 kernel_rfl
theorem Zys : Zl Tryd.prog 74 := by
 unfold Zl
 kernel_rfl
theorem Zzp : Zl Tryd.prog 45 := by
 unfold Zl
 kernel_rfl
theorem Zz1 : Zl Tryd.prog 44 := by
 unfold Zl
 kernel_rfl
theorem Zzr : Zl Tryd.prog 47 := by
 unfold Zl
 kernel_rfl
theorem Zy2 : Zl Tryd.prog 19 := by
 unfold Zl
 kernel_rfl
theorem Zye : TE Tryd.prog 110 3 (Kd.int .i64) 8 := TE.of Tryd.underlying110 (by kernel_rfl) (by decide) (by decide)
theorem sz_3 : (Tryd.prog.info? 3).map (·.size) = some (Kd.int .i64).sz := by kernel_rfl
theorem Zyj : Zl Tryd.prog 35 := by
 unfold Zl
 kernel_rfl
theorem en_8 : Zl Tryd.prog 8 := by
 unfold Zl
 kernel_rfl
theorem en_9 : Zl Tryd.prog 9 := by
 unfold Zl
 kernel_rfl
theorem Zz0 : Zl Tryd.prog 11 := by
 unfold Zl
 kernel_rfl
theorem Zy5 : Zl Tryd.prog 13 := by
 unfold Zl
 kernel_rfl
theorem Zvd : Zl Tryd.prog 14 := by
 unfold Zl
 kernel_rfl
theorem Zoy (a0 : Int) {r : Zbl} (h : Zcw a0 = some r) : FnOk Tryd.prog 49 [(pInt .i64 a0)] (Zb2.pd r) := by
 have H0 := h
 unfold Zcw at H0
 clear h
 refine Zbo (N := 24) Tryd.func49 rfl rfl (Nat.le_of_ble_eq_true rfl) rfl rfl (fun a g0 hst hb => ?_)
 refine r_s (T := [⟨[], [(2, (pBox Zb2 2 (default : Zbl)))], [3], [], [2]⟩]) (F := [.old 0, .op 0 0]) hst hb Za
   (o_p rfl (Zbj (zs := [.bool false, .bool false, .bool false, .bool false, .bool false]) (by kernel_rfl) (fun g => Zll g) rfl rfl) <| o_n) (by kernel_rfl) (fun a g hst hb => ?_)
 refine wp_seq ?_
 refine r_s (T := [⟨[.old 0], _, [], [], [3]⟩]) (F := [.old 1, .op 0 0]) hst hb Za
   (o_p rfl (Zc rfl rfl u_0) <| o_n) (by kernel_rfl) (fun a g hst hb => ?_)
 refine wp_block ?_
 refine r_s (T := [⟨[.old 1], _, [], [], [5]⟩, ⟨[.op 0 0], _, [], [0], [4]⟩]) (F := [.old 0, .old 1, .op 1 0]) hst hb Za
   (o_p rfl (Z8 rfl rfl u_0 c_i) <| o_p rfl (Zb rfl rfl u_0) <| o_n) (by kernel_rfl) (fun a g hst hb => ?_)
 refine wp_cond_split (hst.bool 2 rfl) (fun hc1 => ?_) (fun hc1 => ?_)
 · replace H0 := Zp hc1 H0
   refine r_s (L := [(2, _)]) (T := [⟨[], _, [], [], [6]⟩, ⟨[.op 0 0, .old 0], _, [3], [0], [2]⟩]) (F := [.op 1 0]) (hst.pick [0] rfl) hb Za
     (o_p rfl (Zwf rfl rfl c_b) <| o_p rfl (Z6 Zgr rfl rfl u_1 u_0) <| o_n) (by kernel_rfl) (fun a g hst hb => ?_)
   refine wp_ret ?_
   refine Zt ?_
   refine Zk ?_
   obtain rfl := Option.some.inj H0
   obtain ⟨u0, hu0, hq0⟩ := Zba (P := Tryd.prog) Zgr (hst.at 0 rfl)
   exact Zy rfl hst hb hu0 hq0
 · replace H0 := Zr hc1 H0
   refine wp_seq ?_
   refine r_s (L := [(2, _), (3, _)]) (T := [⟨[.old 1], _, [], [], [8]⟩, ⟨[.op 0 0], _, [], [0], [7]⟩]) (F := [.old 0, .old 1, .op 1 0]) (hst.pick [0, 1] rfl) hb Za
     (o_p rfl (Z8 rfl rfl u_0 c_i) <| o_p rfl (Zb rfl rfl u_0) <| o_n) (by kernel_rfl) (fun a g hst hb => ?_)
   refine Zcf (fun a w => ∃ (j3 : Bool) (g : G), w = g.w ∧ St 24 [(2, (pBox Zb2 2 (default : Zbl))), (3, (pInt .i64 a0)), (7, (Z5 j3))] a g ∧ Base g0 g ∧ Zgg a0 j3 = some r) ?_ ?_
   · rintro a w ⟨j3, g, rfl, hst, hb, H0⟩
     unfold Zgg at H0
     refine Zn ?_
     refine wp_cond_split (hst.bool 2 rfl) (fun hc4 => ?_) (fun hc4 => ?_)
     · replace H0 := Zp hc4 H0
       refine r_s (L := [(2, _)]) (T := [⟨[], _, [], [], [10]⟩, ⟨[.op 0 0, .old 0], _, [3], [0], [2]⟩]) (F := [.op 1 0]) (hst.pick [0] rfl) hb Za
         (o_p rfl (Zwc rfl rfl c_b) <| o_p rfl (Z6 Zgr rfl rfl u_1 u_0) <| o_n) (by kernel_rfl) (fun a g hst hb => ?_)
       refine wp_ret ?_
       refine Zt ?_
       refine Zk ?_
       obtain rfl := Option.some.inj H0
       obtain ⟨u0, hu0, hq0⟩ := Zba (P := Tryd.prog) Zgr (hst.at 0 rfl)
       exact Zy rfl hst hb hu0 hq0
     · replace H0 := Zr hc4 H0
       refine r_s (L := [(2, _), (3, _)]) (T := [⟨[.old 1], _, [], [], [12]⟩, ⟨[.op 0 0], _, [], [0], [11]⟩]) (F := [.old 0, .old 1, .op 1 0]) (hst.pick [0, 1] rfl) hb Za
         (o_p rfl (Z8 rfl rfl u_0 c_i) <| o_p rfl (Zb rfl rfl u_0) <| o_n) (by kernel_rfl) (fun a g hst hb => ?_)
       refine wp_cond_split (hst.bool 2 rfl) (fun hc5 => ?_) (fun hc5 => ?_)
       · replace H0 := Zp hc5 H0
         refine r_s (L := [(2, _)]) (T := [⟨[], _, [], [], [13]⟩, ⟨[.op 0 0, .old 0], _, [3], [0], [2]⟩]) (F := [.op 1 0]) (hst.pick [0] rfl) hb Za
           (o_p rfl (Ztf rfl rfl c_b c_b) <| o_p rfl (Z6 Zgr rfl rfl u_1 u_0) <| o_n) (by kernel_rfl) (fun a g hst hb => ?_)
         refine wp_ret ?_
         refine Zt ?_
         refine Zk ?_
         obtain rfl := Option.some.inj H0
         obtain ⟨u0, hu0, hq0⟩ := Zba (P := Tryd.prog) Zgr (hst.at 0 rfl)
         exact Zy rfl hst hb hu0 hq0
       · replace H0 := Zr hc5 H0
         refine wp_seq ?_
         refine r_s (L := [(2, _), (3, _)]) (T := [⟨[.old 1], _, [], [], [15]⟩, ⟨[.op 0 0], _, [], [0], [14]⟩]) (F := [.old 0, .old 1, .op 1 0]) (hst.pick [0, 1] rfl) hb Za
           (o_p rfl (Z8 rfl rfl u_0 c_i) <| o_p rfl (Zb rfl rfl u_0) <| o_n) (by kernel_rfl) (fun a g hst hb => ?_)
         refine Zcf (fun a w => ∃ (j8 : Bool) (g : G), w = g.w ∧ St 24 [(2, (pBox Zb2 2 (default : Zbl))), (3, (pInt .i64 a0)), (14, (Z5 j8))] a g ∧ Base g0 g ∧ Ze9 a0 j8 = some r) ?_ ?_
         · rintro a w ⟨j8, g, rfl, hst, hb, H0⟩
           unfold Ze9 at H0
           refine Zn ?_
           refine wp_cond_split (hst.bool 2 rfl) (fun hc9 => ?_) (fun hc9 => ?_)
           · replace H0 := Zp hc9 H0
             refine r_s (L := [(2, _)]) (T := [⟨[], _, [], [], [18]⟩, ⟨[.op 0 0, .old 0], _, [3], [0], [2]⟩]) (F := [.op 1 0]) (hst.pick [0] rfl) hb Za
               (o_p rfl (Zv1 rfl rfl c_b) <| o_p rfl (Z6 Zgr rfl rfl u_1 u_0) <| o_n) (by kernel_rfl) (fun a g hst hb => ?_)
             refine wp_ret ?_
             refine Zt ?_
             refine Zk ?_
             obtain rfl := Option.some.inj H0
             obtain ⟨u0, hu0, hq0⟩ := Zba (P := Tryd.prog) Zgr (hst.at 0 rfl)
             exact Zy rfl hst hb hu0 hq0
           · replace H0 := Zr hc9 H0
             refine wp_seq ?_
             refine r_s (L := [(2, _), (3, _)]) (T := [⟨[.old 1], _, [], [], [20]⟩, ⟨[.op 0 0], _, [], [0], [19]⟩]) (F := [.old 0, .old 1, .op 1 0]) (hst.pick [0, 1] rfl) hb Za
               (o_p rfl (Z8 rfl rfl u_0 c_i) <| o_p rfl (Zb rfl rfl u_0) <| o_n) (by kernel_rfl) (fun a g hst hb => ?_)
             refine Zcf (fun a w => ∃ (j11 : Bool) (g : G), w = g.w ∧ St 24 [(2, (pBox Zb2 2 (default : Zbl))), (19, (Z5 j11))] a g ∧ Base g0 g ∧ Zgi j11 = some r) ?_ ?_
             · rintro a w ⟨j11, g, rfl, hst, hb, H0⟩
               unfold Zgi at H0
               refine Zn ?_
               refine wp_cond_split (hst.bool 1 rfl) (fun hc12 => ?_) (fun hc12 => ?_)
               · replace H0 := Zp hc12 H0
                 refine r_s (L := [(2, _)]) (T := [⟨[], _, [], [], [22]⟩, ⟨[.op 0 0, .old 0], _, [3], [0], [2]⟩]) (F := [.op 1 0]) (hst.pick [0] rfl) hb Za
                   (o_p rfl (Zvy rfl rfl c_b) <| o_p rfl (Z6 Zgr rfl rfl u_1 u_0) <| o_n) (by kernel_rfl) (fun a g hst hb => ?_)
                 refine wp_ret ?_
                 refine Zt ?_
                 refine Zk ?_
                 obtain rfl := Option.some.inj H0
                 obtain ⟨u0, hu0, hq0⟩ := Zba (P := Tryd.prog) Zgr (hst.at 0 rfl)
                 exact Zy rfl hst hb hu0 hq0
               · replace H0 := Zr hc12 H0
                 refine wp_skip ?_
                 refine Zbe ?_
                 refine Zn ?_
                 refine r_s (L := [(2, _)]) (T := [⟨[], _, [], [], [23]⟩, ⟨[.op 0 0, .old 0], _, [3], [0], [2]⟩]) (F := [.op 1 0]) (hst.pick [0] rfl) hb Za
                   (o_p rfl (Zx1 rfl rfl ) <| o_p rfl (Z6 Zgr rfl rfl u_1 u_0) <| o_n) (by kernel_rfl) (fun a g hst hb => ?_)
                 refine wp_ret ?_
                 obtain rfl := Option.some.inj H0
                 obtain ⟨u0, hu0, hq0⟩ := Zba (P := Tryd.prog) Zgr (hst.at 0 rfl)
                 exact Zy rfl hst hb hu0 hq0
             · refine wp_cond_split (hst.bool 2 rfl) (fun hc10 => ?_) (fun hc10 => ?_)
               · replace H0 := Zp hc10 H0
                 refine wp_skip ?_
                 exact ⟨(a0 == (8 : Int)), g, rfl, (hst.pick [0, 2] rfl), hb, H0⟩
               · replace H0 := Zr hc10 H0
                 refine r_g (L := [(2, _), (3, _)]) (T := [⟨[.old 1], _, [], [], [21]⟩, ⟨[.op 0 0], _, [], [0], [19]⟩]) (F := [.old 0, .op 1 0]) (hst.pick [0, 1] rfl) hb Za
                   (o_p rfl (Z8 rfl rfl u_0 c_i) <| o_p rfl (Zb rfl rfl u_0) <| o_n) (by kernel_rfl) (fun a g hst hb => ?_)
                 exact ⟨(a0 == (9 : Int)), g, rfl, (hst.pick [0, 1] rfl), hb, H0⟩
         · refine wp_cond_split (hst.bool 2 rfl) (fun hc6 => ?_) (fun hc6 => ?_)
           · replace H0 := Zp hc6 H0
             refine wp_skip ?_
             exact ⟨(a0 == (5 : Int)), g, rfl, (hst.pick [0, 1, 2] rfl), hb, H0⟩
           · replace H0 := Zr hc6 H0
             refine r_s (L := [(2, _), (3, _)]) (T := [⟨[.old 1], _, [], [], [16]⟩, ⟨[.op 0 0], _, [], [0], [14]⟩]) (F := [.old 0, .old 1, .op 1 0]) (hst.pick [0, 1] rfl) hb Za
               (o_p rfl (Z8 rfl rfl u_0 c_i) <| o_p rfl (Zb rfl rfl u_0) <| o_n) (by kernel_rfl) (fun a g hst hb => ?_)
             refine wp_cond_split (hst.bool 2 rfl) (fun hc7 => ?_) (fun hc7 => ?_)
             · replace H0 := Zp hc7 H0
               refine wp_skip ?_
               exact ⟨(a0 == (6 : Int)), g, rfl, (hst.pick [0, 1, 2] rfl), hb, H0⟩
             · replace H0 := Zr hc7 H0
               refine r_g (L := [(2, _), (3, _)]) (T := [⟨[.old 1], _, [], [], [17]⟩, ⟨[.op 0 0], _, [], [0], [14]⟩]) (F := [.old 0, .old 1, .op 1 0]) (hst.pick [0, 1] rfl) hb Za
                 (o_p rfl (Z8 rfl rfl u_0 c_i) <| o_p rfl (Zb rfl rfl u_0) <| o_n) (by kernel_rfl) (fun a g hst hb => ?_)
               exact ⟨(a0 == (7 : Int)), g, rfl, (hst.pick [0, 1, 2] rfl), hb, H0⟩
   · refine wp_cond_split (hst.bool 2 rfl) (fun hc2 => ?_) (fun hc2 => ?_)
     · replace H0 := Zp hc2 H0
       refine wp_skip ?_
       exact ⟨(a0 == (2 : Int)), g, rfl, (hst.pick [0, 1, 2] rfl), hb, H0⟩
     · replace H0 := Zr hc2 H0
       refine r_g (L := [(2, _), (3, _)]) (T := [⟨[.old 1], _, [], [], [9]⟩, ⟨[.op 0 0], _, [], [0], [7]⟩]) (F := [.old 0, .old 1, .op 1 0]) (hst.pick [0, 1] rfl) hb Za
         (o_p rfl (Z8 rfl rfl u_0 c_i) <| o_p rfl (Zb rfl rfl u_0) <| o_n) (by kernel_rfl) (fun a g hst hb => ?_)
       exact ⟨(a0 == (3 : Int)), g, rfl, (hst.pick [0, 1, 2] rfl), hb, H0⟩
theorem Zju {r : Nat} (h : Zhi = some r) : FnOk Tryd.prog 33 [] (pFlt r) := by
 have H0 := h
 unfold Zhi at H0
 clear h
 refine Zbo (N := 2) Tryd.func33 rfl rfl (Nat.le_of_ble_eq_true rfl) rfl rfl (fun a g0 hst hb => ?_)
 refine r_s (T := [⟨[], _, [], [], [0]⟩]) (F := []) hst hb Za
   (o_p rfl (Zb rfl rfl c_f) <| o_n) (by kernel_rfl) (fun a g hst hb => ?_)
 refine r_s (T := [⟨[], _, [], [], [1]⟩, ⟨[.op 0 0], _, [], [0], [0]⟩]) (F := [.op 1 0]) hst hb Za
   (o_p rfl (Zmj Zu9 rfl rfl c_i) <| o_p rfl (Zb rfl rfl u_0) <| o_n) (by kernel_rfl) (fun a g hst hb => ?_)
 refine wp_ret ?_
 obtain rfl := Option.some.inj H0
 exact Zy rfl hst hb (Zi (s := 0)) (hst.at 0 rfl)
theorem Zej (a0 : Nat) {r : Nat} (h : Zdj a0 = some r) : FnOk Tryd.prog 66 [(pFlt a0)] (pFlt r) := by
 have H0 := h
 unfold Zdj at H0
 clear h
 refine Zbo (N := 8) Tryd.func66 rfl rfl (Nat.le_of_ble_eq_true rfl) rfl rfl (fun a g0 hst hb => ?_)
 refine r_s (T := [⟨[], _, [], [], [2]⟩]) (F := [.old 0]) hst hb Za
   (o_p rfl (Zb rfl rfl c_f) <| o_n) (by kernel_rfl) (fun a g hst hb => ?_)
 refine wp_seq ?_
 refine r_s (T := [⟨[.old 0], _, [], [], [3]⟩, ⟨[.old 0], _, [], [], [4]⟩, ⟨[.op 0 0, .op 1 0], _, [], [0, 1], [5]⟩]) (F := [.old 0, .op 2 0]) hst hb Za
   (o_p rfl (Zc rfl rfl u_0) <| o_p rfl (Zc rfl rfl u_0) <| o_p rfl (Zrm rfl rfl u_0 u_1) <| o_n) (by kernel_rfl) (fun a g hst hb => ?_)
 refine wp_cond_split (hst.bool 1 rfl) (fun hc1 => ?_) (fun hc1 => ?_)
 · replace H0 := Zp hc1 H0
   obtain ⟨r2, h3, H0⟩ := Zh H0
   refine r_s (L := []) (T := [⟨[], _, [], [], [6]⟩, ⟨[.op 0 0], _, [], [0], [2]⟩]) (F := [.op 1 0]) (hst.pick [] rfl) hb Za
     (o_p rfl (Zs Zsd (Zju h3) rfl rfl .nil) <| o_p rfl (Zb rfl rfl u_0) <| o_n) (by kernel_rfl) (fun a g hst hb => ?_)
   refine wp_ret ?_
   refine Zk ?_
   obtain rfl := Option.some.inj H0
   exact Zy rfl hst hb (Zi (s := 2)) (hst.at 0 rfl)
 · replace H0 := Zr hc1 H0
   refine wp_skip ?_
   refine Zn ?_
   refine r_s (L := [(0, _)]) (T := [⟨[.old 0], _, [], [], [7]⟩, ⟨[.op 0 0], _, [], [0], [2]⟩]) (F := [.op 1 0]) (hst.pick [0] rfl) hb Za
     (o_p rfl (Zc rfl rfl u_0) <| o_p rfl (Zb rfl rfl u_0) <| o_n) (by kernel_rfl) (fun a g hst hb => ?_)
   refine wp_ret ?_
   obtain rfl := Option.some.inj H0
   exact Zy rfl hst hb (Zi (s := 2)) (hst.at 0 rfl)
theorem Zi1 (a0 : Nat) {r : Int} (h : Zhq a0 = some r) : FnOk Tryd.prog 81 [(pFlt a0)] (pInt .u64 r) := by
 have H0 := h
 unfold Zhq at H0
 clear h
 refine Zbo (N := 14) Tryd.func81 rfl rfl (Nat.le_of_ble_eq_true rfl) rfl rfl (fun a g0 hst hb => ?_)
 refine r_s (T := [⟨[], _, [], [], [2]⟩]) (F := [.old 0]) hst hb Za
   (o_p rfl (Zb rfl rfl c_i) <| o_n) (by kernel_rfl) (fun a g hst hb => ?_)
 obtain ⟨r1, h2, H0⟩ := Zh H0
 refine r_s (T := [⟨[.old 0], _, [], [], [4]⟩, ⟨[.op 0 0], _, [], [0], [5]⟩, ⟨[.op 1 0], _, [], [0, 1], [6]⟩, ⟨[.op 2 0], _, [], [0, 1, 2], [3]⟩]) (F := [.op 3 0]) hst hb Za
   (o_p rfl (Zc rfl rfl u_0) <| o_p rfl (Zs Zjp (Zej _ h2) rfl rfl (.cons u_0 .nil)) <| o_p rfl (Zl3 Zo4 rfl rfl u_0) <| o_p rfl (Zb rfl rfl u_0) <| o_n) (by kernel_rfl) (fun a g hst hb => ?_)
 refine wp_seq ?_
 refine r_s (T := [⟨[.old 0], _, [], [], [7]⟩, ⟨[.op 0 0], _, [], [0], [8]⟩, ⟨[.op 1 0], _, [], [0, 1], [9]⟩]) (F := [.old 0, .op 2 0]) hst hb Za
   (o_p rfl (Zc rfl rfl u_0) <| o_p rfl (Zxs rfl rfl u_0 c_i) <| o_p rfl (Zcv rfl rfl u_0 c_i) <| o_n) (by kernel_rfl) (fun a g hst hb => ?_)
 refine wp_cond_split (hst.bool 1 rfl) (fun hc3 => ?_) (fun hc3 => ?_)
 · replace H0 := Zp hc3 H0
   refine r_s (L := [(3, _)]) (T := [⟨[.old 0], _, [], [], [10]⟩, ⟨[.op 0 0], _, [], [0], [11]⟩, ⟨[.op 1 0], _, [], [0, 1], [2]⟩]) (F := [.op 2 0]) (hst.pick [0] rfl) hb Za
     (o_p rfl (Zc rfl rfl u_0) <| o_p rfl (Zwm rfl rfl rfl u_0) <| o_p rfl (Zb rfl rfl u_0) <| o_n) (by kernel_rfl) (fun a g hst hb => ?_)
   refine wp_ret ?_
   refine Zk ?_
   obtain rfl := Option.some.inj H0
   exact Zy rfl hst hb (Zi (s := 2)) (hst.at 0 rfl)
 · replace H0 := Zr hc3 H0
   refine wp_skip ?_
   refine Zn ?_
   refine r_s (L := [(3, _)]) (T := [⟨[.old 0], _, [], [], [12]⟩, ⟨[.op 0 0], _, [], [0], [13]⟩, ⟨[.op 1 0], _, [], [0, 1], [2]⟩]) (F := [.op 2 0]) (hst.pick [0] rfl) hb Za
     (o_p rfl (Zc rfl rfl u_0) <| o_p rfl (Zzb rfl rfl u_0 c_i) <| o_p rfl (Zb rfl rfl u_0) <| o_n) (by kernel_rfl) (fun a g hst hb => ?_)
   refine wp_ret ?_
   obtain rfl := Option.some.inj H0
   exact Zy rfl hst hb (Zi (s := 2)) (hst.at 0 rfl)
theorem Zgl (a0 : Nat) (a1 : Nat) {r : Bool} (h : Zfq a0 a1 = some r) : FnOk Tryd.prog 76 [(pFlt a0), (pFlt a1)] (Z5 r) := by
 have H0 := h
 unfold Zfq at H0
 clear h
 refine Zbo (N := 10) Tryd.func76 rfl rfl (Nat.le_of_ble_eq_true rfl) rfl rfl (fun a g0 hst hb => ?_)
 refine r_s (T := [⟨[], _, [], [], [4]⟩]) (F := [.old 0, .old 1]) hst hb Za
   (o_p rfl (Zb rfl rfl c_b) <| o_n) (by kernel_rfl) (fun a g hst hb => ?_)
 obtain ⟨r1, h2, H0⟩ := Zh H0; obtain ⟨r3, h4, H0⟩ := Zh H0
 refine r_s (T := [⟨[.old 0], _, [], [], [5]⟩, ⟨[.op 0 0], _, [], [0], [6]⟩, ⟨[.old 1], _, [], [], [7]⟩, ⟨[.op 2 0], _, [], [0, 1, 2], [8]⟩, ⟨[.op 1 0, .op 3 0], _, [], Lr 4, [9]⟩, ⟨[.op 4 0], _, [], Lr 5, [4]⟩]) (F := [.op 5 0]) hst hb Za
   (o_p rfl (Zc rfl rfl u_0) <| o_p rfl (Zs Zo8 (Zi1 _ h2) rfl rfl (.cons u_0 .nil)) <| o_p rfl (Zc rfl rfl u_0) <| o_p rfl (Zs Zo8 (Zi1 _ h4) rfl rfl (.cons u_0 .nil)) <| o_p rfl (Z8 rfl rfl u_0 u_1) <| o_p rfl (Zb rfl rfl u_0) <| o_n) (by kernel_rfl) (fun a g hst hb => ?_)
 refine wp_ret ?_
 obtain rfl := Option.some.inj H0
 exact Zy rfl hst hb (Zi (s := 4)) (hst.at 0 rfl)
theorem Zqr (a0 : Zd) (a1 : Zbl) {r : Bool} (h : Zja a0 a1 = some r) : FnOk Tryd.prog 50 [(Zf.pd a0), (Zb2.pd a1)] (Z5 r) := by
 have H0 := h
 unfold Zja at H0
 clear h
 refine Zbo (N := 59) Tryd.func50 rfl rfl (Nat.le_of_ble_eq_true rfl) rfl rfl (fun a g0 hst hb => ?_)
 refine r_s (T := [⟨[.old 0], _, [], [], [2]⟩, ⟨[.old 1], _, [], [], [3]⟩, ⟨[], _, [], [], [4]⟩]) (F := [.op 0 0, .op 1 0]) hst hb Za
   (o_p rfl (Zbk rfl rfl u_0) <| o_p rfl (Zbk rfl rfl u_0) <| o_p rfl (Zb rfl rfl c_b) <| o_n) (by kernel_rfl) (fun a g hst hb => ?_)
 obtain ⟨r1, h2, H0⟩ := Zh H0
 refine r_s (T := ⟨[.old 1], _, [], [], [5]⟩ :: ⟨[.op 0 0], _, [], [0], [6]⟩ :: ⟨[.op 1 0], _, [], [0, 1], [7]⟩ :: ⟨[.op 2 0, .old 0], _, [], [0, 1, 2], [8]⟩ :: ⟨[.op 2 0, .op 3 0], _, [], Lr 4, [9]⟩ :: ⟨[.op 2 0, .op 4 0], _, [], Lr 5, [10]⟩ :: ⟨[.op 2 0, .op 5 0], _, [], Lr 6, [11]⟩ :: ⟨[.op 6 0], _, [], Lr 7, [12]⟩ :: ⟨[.op 7 0, .old 1], _, [], Lr 8, [13]⟩ :: ⟨[.op 7 0, .op 8 0], _, [], Lr 9, [14]⟩ :: ⟨[.op 7 0, .op 9 0], _, [], Lr 10, [15]⟩ :: ⟨[.op 10 0, .old 0], _, [], Lr 11, [16]⟩ :: ⟨[.op 10 0, .op 11 0], _, [], Lr 12, [17]⟩ :: ⟨[.op 10 0, .op 12 0], _, [], Lr 13, [18]⟩ :: ⟨[.op 7 0, .op 10 0, .op 13 0], _, [], Lr 14, [19]⟩ :: ⟨[.op 7 0, .op 14 0], _, [], Lr 15, [20]⟩ :: ⟨[.op 15 0], _, [], Lr 16, [21]⟩ :: ⟨[.op 16 0, .old 1], _, [], Lr 17, [22]⟩ :: ⟨[.op 16 0, .op 17 0], _, [], Lr 18, [23]⟩ :: ⟨[.op 16 0, .op 18 0], _, [], Lr 19, [24]⟩ :: ⟨[.op 19 0, .old 0], _, [], Lr 20, [25]⟩ :: ⟨[.op 19 0, .op 20 0], _, [], Lr 21, [26]⟩ :: ⟨[.op 19 0, .op 21 0], _, [], Lr 22, [27]⟩ :: ⟨[.op 19 0, .op 22 0], _, [], Lr 23, [28]⟩ :: ⟨[.op 23 0, .old 0], _, [], Lr 24, [29]⟩ :: ⟨[.op 23 0, .op 24 0], _, [], Lr 25, [30]⟩ :: ⟨[.op 23 0, .op 25 0], _, [], Lr 26, [31]⟩ :: ⟨[.op 19 0, .op 23 0, .op 26 0], _, [], Lr 27, [32]⟩ :: ⟨[.op 16 0, .op 19 0, .op 27 0], _, [], Lr 28, [33]⟩ :: ⟨[.op 16 0, .op 28 0], _, [], Lr 29, [34]⟩ :: ⟨[.op 29 0], _, [], Lr 30, [35]⟩ :: ⟨[.op 30 0, .old 1], _, [], Lr 31, [36]⟩ :: ⟨[.op 30 0, .op 31 0], _, [], Lr 32, [37]⟩ :: ⟨[.op 30 0, .op 32 0], _, [], Lr 33, [38]⟩ :: ⟨[.op 33 0, .old 0], _, [], Lr 34, [39]⟩ :: ⟨[.op 33 0, .op 34 0], _, [], Lr 35, [40]⟩ :: ⟨[.op 33 0, .op 35 0], _, [], Lr 36, [41]⟩ :: ⟨[.op 30 0, .op 33 0, .op 36 0], _, [], Lr 37, [42]⟩ :: ⟨[.op 30 0, .op 37 0], _, [], Lr 38, [43]⟩ :: ⟨[.op 38 0], _, [], Lr 39, [44]⟩ :: ⟨[.op 39 0, .old 1], _, [], Lr 40, [45]⟩ :: ⟨[.op 39 0, .op 40 0], _, [], Lr 41, [46]⟩ :: ⟨[.op 39 0, .op 41 0], _, [], Lr 42, [47]⟩ :: ⟨[.op 42 0, .old 0], _, [], Lr 43, [48]⟩ :: ⟨[.op 42 0, .op 43 0], _, [], Lr 44, [49]⟩ :: ⟨[.op 42 0, .op 44 0], _, [], Lr 45, [50]⟩ :: ⟨[.op 42 0, .op 45 0], _, [], Lr 46, [51]⟩ :: ⟨[.op 46 0, .old 0], _, [], Lr 47, [52]⟩ :: ⟨[.op 46 0, .op 47 0], _, [], Lr 48, [53]⟩ :: ⟨[.op 46 0, .op 48 0], _, [], Lr 49, [54]⟩ :: ⟨[.op 46 0, .op 49 0], _, [], Lr 50, [55]⟩ :: ⟨[.op 42 0, .op 46 0, .op 50 0], _, [], Lr 51, [56]⟩ :: ⟨[.op 39 0, .op 42 0, .op 51 0], _, [], Lr 52, [57]⟩ :: ⟨[.op 39 0, .op 52 0], _, [], Lr 53, [58]⟩ :: ⟨[.op 53 0], _, [], Lr 54, [4]⟩ :: []) (F := [.op 54 0]) hst hb Za
   (o_p rfl (Ze Zw0 rfl rfl u_0) <| o_p rfl (Zg ty_4 rfl rfl u_0) <| o_p rfl (Zc rfl rfl u_0) <| o_g (g_f rfl rfl rfl (fun hG => Ze Zf1 rfl rfl u_0)) <| o_g (g_f rfl rfl rfl (fun hG => Zg ty_9 rfl rfl (Opd.gd hG u_0))) <| o_g (g_f rfl rfl rfl (fun hG => Zjj rfl rfl (Opd.gd hG u_0) c_s)) <| o_p rfl (Zbg rfl rfl u_0 (fun hz => (Opd.gd (bNF hz) u_1))) <| o_p rfl (Zc rfl rfl u_0) <| o_g (g_t rfl rfl rfl (fun hG => Ze Zv9 rfl rfl u_0)) <| o_g (g_t rfl rfl rfl (fun hG => Zg ty_4 rfl rfl (Opd.gd hG u_0))) <| o_g (g_t rfl rfl rfl (fun hG => Zc rfl rfl (Opd.gd hG u_0))) <| o_g (g_fi rfl rfl rfl (fun hG => Ze Zb6 rfl rfl u_0)) <| o_g (g_fi rfl rfl rfl (fun hG => Zg ty_2 rfl rfl (Opd.gd hG u_0))) <| o_g (g_fi rfl rfl rfl (fun hG => Z8 rfl rfl (Opd.gd hG u_0) c_i)) <| o_g (g_t rfl rfl rfl (fun hG => Zbg rfl rfl (Opd.gd hG u_0) (fun hz => (Opd.gd (bA hG (bNF hz)) u_1)))) <| o_p rfl (Zbb rfl rfl u_0 (fun hz => (Opd.gd hz u_1))) <| o_p rfl (Zc rfl rfl u_0) <| o_g (g_t rfl rfl rfl (fun hG => Ze Zrb rfl rfl u_0)) <| o_g (g_t rfl rfl rfl (fun hG => Zg ty_4 rfl rfl (Opd.gd hG u_0))) <| o_g (g_t rfl rfl rfl (fun hG => Zc rfl rfl (Opd.gd hG u_0))) <| o_g (g_fi rfl rfl rfl (fun hG => Ze Zfc rfl rfl u_0)) <| o_g (g_fi rfl rfl rfl (fun hG => Zg ty_2 rfl rfl (Opd.gd hG u_0))) <| o_g (g_fi rfl rfl rfl (fun hG => Z8 rfl rfl (Opd.gd hG u_0) c_i)) <| o_g (g_fi rfl rfl rfl (fun hG => Zc rfl rfl (Opd.gd hG u_0))) <| o_g (g_ti rfl rfl rfl (fun hG => Ze Zfb rfl rfl u_0)) <| o_g (g_ti rfl rfl rfl (fun hG => Zg ty_2 rfl rfl (Opd.gd hG u_0))) <| o_g (g_ti rfl rfl rfl (fun hG => Z8 rfl rfl (Opd.gd hG u_0) c_i)) <| o_g (g_fi rfl rfl rfl (fun hG => Zbb rfl rfl (Opd.gd hG u_0) (fun hz => (Opd.gd (bA hG hz) u_1)))) <| o_g (g_t rfl rfl rfl (fun hG => Zbg rfl rfl (Opd.gd hG u_0) (fun hz => (Opd.gd (bA hG (bNF hz)) u_1)))) <| o_p rfl (Zbb rfl rfl u_0 (fun hz => (Opd.gd hz u_1))) <| o_p rfl (Zc rfl rfl u_0) <| o_g (g_t rfl rfl rfl (fun hG => Ze Zvp rfl rfl u_0)) <| o_g (g_t rfl rfl rfl (fun hG => Zg ty_4 rfl rfl (Opd.gd hG u_0))) <| o_g (g_t rfl rfl rfl (fun hG => Zc rfl rfl (Opd.gd hG u_0))) <| o_g (g_fi rfl rfl rfl (fun hG => Ze Zd5 rfl rfl u_0)) <| o_g (g_fi rfl rfl rfl (fun hG => Zg Zci rfl rfl (Opd.gd hG u_0))) <| o_g (g_fi rfl rfl rfl (fun hG => Zs Zl1 (Zgl _ _ (Zbp h2 hG)) rfl rfl (.cons (Opd.gd hG u_0) (.cons c_f .nil)))) <| o_g (g_t rfl rfl rfl (fun hG => Zbg rfl rfl (Opd.gd hG u_0) (fun hz => (Opd.gd (bA hG (bNF hz)) u_1)))) <| o_p rfl (Zbb rfl rfl u_0 (fun hz => (Opd.gd hz u_1))) <| o_p rfl (Zc rfl rfl u_0) <| o_g (g_t rfl rfl rfl (fun hG => Ze Zrc rfl rfl u_0)) <| o_g (g_t rfl rfl rfl (fun hG => Zg ty_4 rfl rfl (Opd.gd hG u_0))) <| o_g (g_t rfl rfl rfl (fun hG => Zc rfl rfl (Opd.gd hG u_0))) <| o_g (g_fi rfl rfl rfl (fun hG => Ze Zds rfl rfl u_0)) <| o_g (g_fi rfl rfl rfl (fun hG => Zg ty_3 rfl rfl (Opd.gd hG u_0))) <| o_g (g_fi rfl rfl rfl (fun hG => Z8 rfl rfl (Opd.gd hG u_0) c_i)) <| o_g (g_fi rfl rfl rfl (fun hG => Zc rfl rfl (Opd.gd hG u_0))) <| o_g (g_ti rfl rfl rfl (fun hG => Ze Zbu rfl rfl u_0)) <| o_g (g_ti rfl rfl rfl (fun hG => Zg Zck rfl rfl (Opd.gd hG u_0))) <| o_g (g_ti rfl rfl rfl (fun hG => Zca Tryd.underlying23 rfl rfl (Opd.gd hG u_0))) <| o_g (g_ti rfl rfl rfl (fun hG => Z8 rfl rfl (Opd.gd hG u_0) c_i)) <| o_g (g_fi rfl rfl rfl (fun hG => Zbb rfl rfl (Opd.gd hG u_0) (fun hz => (Opd.gd (bA hG hz) u_1)))) <| o_g (g_t rfl rfl rfl (fun hG => Zbg rfl rfl (Opd.gd hG u_0) (fun hz => (Opd.gd (bA hG (bNF hz)) u_1)))) <| o_p rfl (Zbb rfl rfl u_0 (fun hz => (Opd.gd hz u_1))) <| o_p rfl (Zb rfl rfl u_0) <| o_n) (by kernel_rfl) (fun a g hst hb => ?_)
 refine wp_ret ?_
 obtain rfl := Option.some.inj H0
 exact Zy rfl hst hb (Zi (s := 4)) (hst.at 0 rfl)
theorem Ziv (a0 : Nat) {r : Bool} (h : Zgb a0 = some r) : FnOk Tryd.prog 51 [(pFlt a0)] (Z5 r) := by
 have H0 := h
 unfold Zgb at H0
 clear h
 refine Zbo (N := 9) Tryd.func51 rfl rfl (Nat.le_of_ble_eq_true rfl) rfl rfl (fun a g0 hst hb => ?_)
 refine r_s (T := [⟨[], _, [], [], [2]⟩]) (F := [.old 0]) hst hb Za
   (o_p rfl (Zb rfl rfl c_b) <| o_n) (by kernel_rfl) (fun a g hst hb => ?_)
 obtain ⟨r1, h2, H0⟩ := Zh H0
 refine r_s (T := [⟨[.old 0], _, [], [], [3]⟩, ⟨[.op 0 0], _, [], [0], [4]⟩, ⟨[.old 0], _, [], [], [5]⟩, ⟨[.op 2 0], _, [], [0, 1, 2], [6]⟩, ⟨[.op 3 0], _, [], Lr 4, [7]⟩, ⟨[.op 1 0, .op 4 0], _, [], Lr 5, [8]⟩, ⟨[.op 5 0], _, [], Lr 6, [2]⟩]) (F := [.op 6 0]) hst hb Za
   (o_p rfl (Zc rfl rfl u_0) <| o_p rfl (Zl3 Zo4 rfl rfl u_0) <| o_p rfl (Zc rfl rfl u_0) <| o_p rfl (Zs Zjp (Zej _ h2) rfl rfl (.cons u_0 .nil)) <| o_p rfl (Zl3 Zo4 rfl rfl u_0) <| o_p rfl (Z8 rfl rfl u_0 u_1) <| o_p rfl (Zb rfl rfl u_0) <| o_n) (by kernel_rfl) (fun a g hst hb => ?_)
 refine wp_ret ?_
 obtain rfl := Option.some.inj H0
 exact Zy rfl hst hb (Zi (s := 2)) (hst.at 0 rfl)
theorem Zjv (a0 : Nat) (a1 : Nat) {r : Bool} (h : Zhk a0 a1 = some r) : FnOk Tryd.prog 65 [(pFlt a0), (pFlt a1)] (Z5 r) := by
 have H0 := h
 unfold Zhk at H0
 clear h
 refine Zbo (N := 10) Tryd.func65 rfl rfl (Nat.le_of_ble_eq_true rfl) rfl rfl (fun a g0 hst hb => ?_)
 refine r_s (T := [⟨[], _, [], [], [4]⟩]) (F := [.old 0, .old 1]) hst hb Za
   (o_p rfl (Zb rfl rfl c_b) <| o_n) (by kernel_rfl) (fun a g hst hb => ?_)
 obtain ⟨r1, h2, H0⟩ := Zh H0; obtain ⟨r3, h4, H0⟩ := Zh H0
 refine r_s (T := [⟨[.old 0], _, [], [], [5]⟩, ⟨[.op 0 0], _, [], [0], [6]⟩, ⟨[.old 1], _, [], [], [7]⟩, ⟨[.op 2 0], _, [], [0, 1, 2], [8]⟩, ⟨[.op 1 0, .op 3 0], _, [], Lr 4, [9]⟩, ⟨[.op 4 0], _, [], Lr 5, [4]⟩]) (F := [.op 5 0]) hst hb Za
   (o_p rfl (Zc rfl rfl u_0) <| o_p rfl (Zs Zo8 (Zi1 _ h2) rfl rfl (.cons u_0 .nil)) <| o_p rfl (Zc rfl rfl u_0) <| o_p rfl (Zs Zo8 (Zi1 _ h4) rfl rfl (.cons u_0 .nil)) <| o_p rfl (Zce rfl rfl u_0 u_1) <| o_p rfl (Zb rfl rfl u_0) <| o_n) (by kernel_rfl) (fun a g hst hb => ?_)
 refine wp_ret ?_
 obtain rfl := Option.some.inj H0
 exact Zy rfl hst hb (Zi (s := 4)) (hst.at 0 rfl)
theorem Ziu (a0 : Zj) (a1 : Zj) {r : Bool} (h : Zga a0 a1 = some r) : FnOk Tryd.prog 77 [(Zm.pd a0), (Zm.pd a1)] (Z5 r) := by
 have H0 := h
 unfold Zga at H0
 clear h
 refine Zbo (N := 21) Tryd.func77 rfl rfl (Nat.le_of_ble_eq_true rfl) rfl rfl (fun a g0 hst hb => ?_)
 refine r_s (T := [⟨[.old 0], _, [], [], [2]⟩, ⟨[.old 1], _, [], [], [3]⟩, ⟨[], _, [], [], [4]⟩]) (F := [.op 0 0, .op 1 0]) hst hb Za
   (o_p rfl (Zbk rfl rfl u_0) <| o_p rfl (Zbk rfl rfl u_0) <| o_p rfl (Zb rfl rfl c_b) <| o_n) (by kernel_rfl) (fun a g hst hb => ?_)
 refine wp_seq ?_
 obtain ⟨r1, h2, H0⟩ := Zh H0
 refine r_s (T := [⟨[.old 0], _, [], [], [5]⟩, ⟨[.op 0 0], _, [], [0], [6]⟩, ⟨[.old 1], _, [], [], [7]⟩, ⟨[.op 2 0], _, [], [2], [8]⟩, ⟨[.op 1 0, .op 3 0], _, [], Lr 4, [9]⟩, ⟨[.op 4 0], _, [], Lr 5, [10]⟩]) (F := [.old 0, .old 1, .op 5 0]) hst hb Za
   (o_p rfl (Ze Zdr rfl rfl u_0) <| o_p rfl (Zg Zci rfl rfl u_0) <| o_p rfl (Ze Zdr rfl rfl u_0) <| o_p rfl (Zg Zci rfl rfl u_0) <| o_p rfl (Zs Zl1 (Zgl _ _ h2) rfl rfl (.cons u_0 (.cons u_1 .nil))) <| o_p rfl (Zb7 rfl rfl u_0) <| o_n) (by kernel_rfl) (fun a g hst hb => ?_)
 refine wp_cond_split (hst.bool 2 rfl) (fun hc3 => ?_) (fun hc3 => ?_)
 · replace H0 := Zp hc3 H0
   obtain ⟨r4, h5, H0⟩ := Zh H0
   refine r_s (L := [(2, _), (3, _)]) (T := [⟨[.old 1], _, [], [], [11]⟩, ⟨[.op 0 0], _, [], [0], [12]⟩, ⟨[.old 0], _, [], [], [13]⟩, ⟨[.op 2 0], _, [], [2], [14]⟩, ⟨[.op 1 0, .op 3 0], _, [], Lr 4, [15]⟩, ⟨[.op 4 0], _, [], Lr 5, [4]⟩]) (F := [.op 5 0]) (hst.pick [0, 1] rfl) hb Za
     (o_p rfl (Ze Zdr rfl rfl u_0) <| o_p rfl (Zg Zci rfl rfl u_0) <| o_p rfl (Ze Zdr rfl rfl u_0) <| o_p rfl (Zg Zci rfl rfl u_0) <| o_p rfl (Zs Zr3 (Zjv _ _ h5) rfl rfl (.cons u_0 (.cons u_1 .nil))) <| o_p rfl (Zb rfl rfl u_0) <| o_n) (by kernel_rfl) (fun a g hst hb => ?_)
   refine wp_ret ?_
   refine Zk ?_
   obtain rfl := Option.some.inj H0
   exact Zy rfl hst hb (Zi (s := 4)) (hst.at 0 rfl)
 · replace H0 := Zr hc3 H0
   refine wp_skip ?_
   refine Zn ?_
   refine r_s (L := [(2, _), (3, _)]) (T := [⟨[.old 0], _, [], [], [16]⟩, ⟨[.op 0 0], _, [], [0], [17]⟩, ⟨[.old 1], _, [], [], [18]⟩, ⟨[.op 2 0], _, [], [2], [19]⟩, ⟨[.op 1 0, .op 3 0], _, [], Lr 4, [20]⟩, ⟨[.op 4 0], _, [], Lr 5, [4]⟩]) (F := [.op 5 0]) (hst.pick [0, 1] rfl) hb Za
     (o_p rfl (Ze Zdg rfl rfl u_0) <| o_p rfl (Zg ty_9 rfl rfl u_0) <| o_p rfl (Ze Zdg rfl rfl u_0) <| o_p rfl (Zg ty_9 rfl rfl u_0) <| o_p rfl (Zm9 rfl rfl u_0 u_1) <| o_p rfl (Zb rfl rfl u_0) <| o_n) (by kernel_rfl) (fun a g hst hb => ?_)
   refine wp_ret ?_
   obtain rfl := Option.some.inj H0
   exact Zy rfl hst hb (Zi (s := 4)) (hst.at 0 rfl)
theorem Zqc (a0 : Int) (a1 : List Zj) {r : Int} (h : Zin a0 a1 = some r) : FnOk Tryd.prog 52 [(pInt .i64 a0), (Zm.sl.pd a1)] (pInt .i64 r) := by
 have H0 := h
 unfold Zin at H0
 clear h
 refine Zbo (N := 70) Tryd.func52 rfl rfl (Nat.le_of_ble_eq_true rfl) rfl rfl (fun a g0 hst hb => ?_)
 refine r_s (T := [⟨[], _, [], [], [4]⟩]) (F := [.old 0, .old 1]) hst hb Za
   (o_p rfl (Zb rfl rfl c_i) <| o_n) (by kernel_rfl) (fun a g hst hb => ?_)
 refine wp_seq ?_
 refine r_s (T := [⟨[.old 1], _, [], [], [7]⟩, ⟨[.op 0 0], _, [], [0], [8]⟩, ⟨[], _, [], [], [9]⟩]) (F := [.old 0, .old 1, .op 0 0, .op 1 0, .op 2 0]) hst hb Za
   (o_p rfl (Zc rfl rfl u_0) <| o_p rfl (Zca Tryd.underlying23 rfl rfl u_0) <| o_p rfl (Zc rfl rfl c_i) <| o_n) (by kernel_rfl) (fun a g hst hb => ?_)
 obtain ⟨z19, hz1, H0⟩ := Zh H0
 refine Zcf (fun a w => ∃ (g : G), w = g.w ∧ St 70 [] a g ∧ Base g0 g ∧ (.inr ()) = z19) ?_ ?_
 · rintro a w ⟨g, rfl, hst, hb, rfl⟩
   refine Zn ?_
   refine r_s (T := [⟨[], _, [], [], [4]⟩]) (F := [.op 0 0]) hst hb Za
     (o_p rfl (Zb rfl rfl c_i) <| o_n) (by kernel_rfl) (fun a g hst hb => ?_)
   refine wp_ret ?_
   obtain rfl := Option.some.inj H0
   exact Zy rfl hst hb (Zi (s := 4)) (hst.at 0 rfl)
 · refine wp_block ?_
   refine wp_loop_ghost (fun n a w => ∃ (x1 : Int) (g : G), w = g.w ∧ St 70 [(0, (pInt .i64 a0)), (1, (Zm.sl.pd a1)), (7, (Zm.sl.pd a1)), (8, (pInt .i64 (a1.length : Int))), (9, (pInt .i64 x1))] a g ∧ Base g0 g ∧ Zdn a0 a1 n x1 = some z19) (Int.toNat ((a1.length : Int) - (0 : Int)) + 1) ⟨(0 : Int), g, rfl, (hst.pick [0, 1, 2, 3, 4] rfl), hb, hz1⟩ (fun n a w hI => ?_)
   obtain ⟨x1, g, rfl, hst, hb, H1⟩ := hI
   cases n with
   | zero => exact absurd H1 (by simp [Zdn])
   | succ n =>
     rw [Zdn] at H1
     refine r_s (T := [⟨[.old 4, .old 3], _, [], [], [10]⟩]) (F := [.old 0, .old 1, .old 2, .old 3, .old 4, .op 0 0]) hst hb Za
       (o_p rfl (Zce rfl rfl u_0 u_1) <| o_n) (by kernel_rfl) (fun a g hst hb => ?_)
     refine wp_seq ?_
     refine wp_cond_split (hst.bool 5 rfl) (fun hc2 => ?_) (fun hc2 => ?_)
     · replace H1 := Zp hc2 H1
       refine wp_skip ?_
       refine Zn ?_
       refine wp_seq ?_
       refine wp_block ?_
       obtain ⟨e3, h4, H1⟩ := Zh H1
       refine r_s (L := [(0, _), (1, _), (7, _), (8, _), (9, _)]) (T := [⟨[.old 4], _, [], [], [11]⟩, ⟨[.old 2, .old 4], _, [], [], [12]⟩, ⟨[.op 1 0], _, [], [1], [13]⟩, ⟨[], [(6, (pBox Zm 6 (default : Zj)))], [7], [], [6]⟩, ⟨[.op 0 0], _, [], Lr 4, [5]⟩, ⟨[.op 2 0, .op 3 0], _, [7], Lr 5, [6]⟩]) (F := [.old 0, .old 1, .op 4 0, .op 5 0, .old 2, .old 3, .old 4]) (hst.pick [0, 1, 2, 3, 4] rfl) hb Za
         (o_p rfl (Zc rfl rfl u_0) <| o_p rfl (Zbn Tryd.underlying23 Zen rfl rfl u_0 u_1 h4) <| o_p rfl (Zg Zc9 rfl rfl u_0) <| o_p rfl (Zbj (zs := [.float .f64 0, .string ByteArray.empty]) (by kernel_rfl) (fun g => Zey g) rfl rfl) <| o_p rfl (Zb rfl rfl u_0) <| o_p rfl (Zb4 Zc9 rfl rfl u_1 u_0) <| o_n) (by kernel_rfl) (fun a g hst hb => ?_)
       refine wp_block ?_
       refine r_s (T := [⟨[.old 3], _, [], [], [15]⟩, ⟨[.op 0 0], _, [], [0], [16]⟩, ⟨[.op 1 0], _, [], [0, 1], [17]⟩, ⟨[.op 2 0], _, [], [0, 1, 2], [18]⟩, ⟨[.op 3 0], _, [], Lr 4, [14]⟩]) (F := [.old 0, .old 1, .old 2, .old 3, .old 4, .old 5, .old 6, .op 4 0]) hst hb Za
         (o_p rfl (Ze Zdg rfl rfl u_0) <| o_p rfl (Zg ty_9 rfl rfl u_0) <| o_p rfl (Zfa Tryd.underlying9 rfl rfl u_0) <| o_p rfl (Zb9 rfl rfl u_0 c_i) <| o_p rfl (Zb rfl rfl u_0) <| o_n) (by kernel_rfl) (fun a g hst hb => ?_)
       refine wp_cond_split (hst.bool 7 rfl) (fun hc5 => ?_) (fun hc5 => ?_)
       · replace H1 := Zp hc5 H1
         refine r_s (L := []) (T := [⟨[], _, [], [], [4]⟩]) (F := [.op 0 0]) (hst.pick [] rfl) hb Za
           (o_p rfl (Zb rfl rfl c_i) <| o_n) (by kernel_rfl) (fun a g hst hb => ?_)
         refine wp_ret ?_
         refine Zt ?_
         refine Zt ?_
         refine Zk ?_
         refine Zk ?_
         refine Zt ?_
         refine Zk ?_
         refine Zk ?_
         obtain rfl := Option.some.inj H1
         obtain rfl := Option.some.inj H0
         exact Zy rfl hst hb (Zi (s := 4)) (hst.at 0 rfl)
       · replace H1 := Zr hc5 H1
         obtain ⟨r6, h7, H1⟩ := Zh H1; obtain ⟨r8, h9, H1⟩ := Zh H1
         refine r_s (L := [(0, _), (1, _), (5, _), (6, _), (7, _), (8, _), (9, _)]) (T := ⟨[.old 0], _, [], [], [20]⟩ :: ⟨[.op 0 0], _, [], [0], [21]⟩ :: ⟨[.op 1 0], _, [], [0, 1], [22]⟩ :: ⟨[.op 2 0, .old 3], _, [], [0, 1, 2], [23]⟩ :: ⟨[.op 2 0, .op 3 0], _, [], Lr 4, [24]⟩ :: ⟨[.op 2 0, .op 4 0], _, [], Lr 5, [25]⟩ :: ⟨[.op 2 0, .op 5 0], _, [], Lr 6, [26]⟩ :: ⟨[.op 2 0, .op 6 0], _, [], Lr 7, [27]⟩ :: ⟨[.op 7 0], _, [], Lr 8, [28]⟩ :: ⟨[.op 8 0, .old 3], _, [], Lr 9, [29]⟩ :: ⟨[.op 8 0, .op 9 0], _, [], Lr 10, [30]⟩ :: ⟨[.op 8 0, .op 10 0], _, [], Lr 11, [31]⟩ :: ⟨[.op 8 0, .op 11 0], _, [], Lr 12, [32]⟩ :: ⟨[.op 8 0, .op 12 0], _, [], Lr 13, [33]⟩ :: ⟨[.op 13 0], _, [], Lr 14, [19]⟩ :: []) (F := [.old 0, .old 1, .old 2, .old 3, .old 4, .old 5, .old 6, .op 14 0]) (hst.pick [0, 1, 2, 3, 4, 5, 6] rfl) hb Za
           (o_p rfl (Zc rfl rfl u_0) <| o_p rfl (Z8 rfl rfl u_0 c_i) <| o_p rfl (Zc rfl rfl u_0) <| o_g (g_t rfl rfl rfl (fun hG => Ze Zdr rfl rfl u_0)) <| o_g (g_t rfl rfl rfl (fun hG => Zg Zci rfl rfl (Opd.gd hG u_0))) <| o_g (g_t rfl rfl rfl (fun hG => Zs Zl1 (Zgl _ _ (Zbp h7 hG)) rfl rfl (.cons (Opd.gd hG u_0) (.cons c_f .nil)))) <| o_g (g_t rfl rfl rfl (fun hG => Zb7 rfl rfl (Opd.gd hG u_0))) <| o_p rfl (Zbb rfl rfl u_0 (fun hz => (Opd.gd hz u_1))) <| o_p rfl (Zc rfl rfl u_0) <| o_g (g_f rfl rfl rfl (fun hG => Ze Zdr rfl rfl u_0)) <| o_g (g_f rfl rfl rfl (fun hG => Zg Zci rfl rfl (Opd.gd hG u_0))) <| o_g (g_f rfl rfl rfl (fun hG => Zs Zrt (Ziv _ (Zbp h9 hG)) rfl rfl (.cons (Opd.gd hG u_0) .nil))) <| o_g (g_f rfl rfl rfl (fun hG => Zb7 rfl rfl (Opd.gd hG u_0))) <| o_p rfl (Zbg rfl rfl u_0 (fun hz => (Opd.gd (bNF hz) u_1))) <| o_p rfl (Zb rfl rfl u_0) <| o_n) (by kernel_rfl) (fun a g hst hb => ?_)
         refine wp_cond_split (hst.bool 7 rfl) (fun hc10 => ?_) (fun hc10 => ?_)
         · replace H1 := Zp hc10 H1
           refine r_s (L := []) (T := [⟨[], _, [], [], [4]⟩]) (F := [.op 0 0]) (hst.pick [] rfl) hb Za
             (o_p rfl (Zb rfl rfl c_i) <| o_n) (by kernel_rfl) (fun a g hst hb => ?_)
           refine wp_ret ?_
           refine Zt ?_
           refine Zt ?_
           refine Zk ?_
           refine Zk ?_
           refine Zt ?_
           refine Zk ?_
           refine Zk ?_
           obtain rfl := Option.some.inj H1
           obtain rfl := Option.some.inj H0
           exact Zy rfl hst hb (Zi (s := 4)) (hst.at 0 rfl)
         · replace H1 := Zr hc10 H1
           obtain ⟨e11, h12, H1⟩ := Zh H1
           refine r_s (L := [(0, _), (1, _), (5, _), (6, _), (7, _), (8, _), (9, _)]) (T := ⟨[.old 2], _, [], [], [35]⟩ :: ⟨[.op 0 0], _, [], [0], [36]⟩ :: ⟨[.op 1 0], _, [], [0, 1], [37]⟩ :: ⟨[.op 2 0, .old 0], _, [], [0, 1, 2], [38]⟩ :: ⟨[.op 2 0, .op 3 0], _, [], Lr 4, [39]⟩ :: ⟨[.op 2 0, .op 4 0], _, [], Lr 5, [40]⟩ :: ⟨[.op 5 0], _, [], Lr 6, [41]⟩ :: ⟨[.op 6 0, .old 1], _, [], Lr 7, [42]⟩ :: ⟨[.op 6 0, .old 2], _, [], Lr 7, [43]⟩ :: ⟨[.op 6 0, .op 8 0], _, [], [0, 1, 2, 3, 4, 5, 6, 8], [44]⟩ :: ⟨[.op 6 0, .op 7 0, .op 9 0], _, [], Lr 10, [45]⟩ :: ⟨[.op 6 0, .op 10 0], _, [], Lr 11, [46]⟩ :: ⟨[.op 6 0, .op 11 0], _, [], Lr 12, [47]⟩ :: ⟨[.op 6 0, .old 3], _, [], Lr 7, [48]⟩ :: ⟨[.op 6 0, .op 13 0], _, [], [0, 1, 2, 3, 4, 5, 6, 13], [49]⟩ :: ⟨[.op 6 0, .op 12 0, .op 14 0], _, [], Lr 15, [50]⟩ :: ⟨[.op 6 0, .op 15 0], _, [], Lr 16, [51]⟩ :: ⟨[.op 16 0], _, [], Lr 17, [34]⟩ :: []) (F := [.old 0, .old 1, .old 2, .old 3, .old 4, .old 5, .old 6, .op 17 0]) (hst.pick [0, 1, 2, 3, 4, 5, 6] rfl) hb Za
             (o_p rfl (Zc rfl rfl u_0) <| o_p rfl (Zb9 rfl rfl u_0 c_i) <| o_p rfl (Zc rfl rfl u_0) <| o_g (g_t rfl rfl rfl (fun hG => Zc rfl rfl u_0)) <| o_g (g_t rfl rfl rfl (fun hG => Z8 rfl rfl (Opd.gd hG u_0) c_i)) <| o_p rfl (Zbb rfl rfl u_0 (fun hz => (Opd.gd hz u_1))) <| o_p rfl (Zc rfl rfl u_0) <| o_g (g_t rfl rfl rfl (fun hG => Zc rfl rfl u_0)) <| o_g (g_t rfl rfl rfl (fun hG => Zc rfl rfl u_0)) <| o_g (g_t rfl rfl rfl (fun hG => Zei rfl rfl (Opd.gd hG u_0) c_i rfl)) <| o_g (g_t rfl rfl rfl (fun hG => Zbn Tryd.underlying23 Zen rfl rfl (Opd.gd hG u_0) (Opd.gd hG u_1) (Zbp h12 hG))) <| o_g (g_t rfl rfl rfl (fun hG => Ze Zdg rfl rfl (Opd.gd hG u_0))) <| o_g (g_t rfl rfl rfl (fun hG => Zg ty_9 rfl rfl (Opd.gd hG u_0))) <| o_g (g_t rfl rfl rfl (fun hG => Ze Zdg rfl rfl u_0)) <| o_g (g_t rfl rfl rfl (fun hG => Zg ty_9 rfl rfl (Opd.gd hG u_0))) <| o_g (g_t rfl rfl rfl (fun hG => Zw7 rfl rfl (Opd.gd hG u_0) (Opd.gd hG u_1))) <| o_p rfl (Zbb rfl rfl u_0 (fun hz => (Opd.gd hz u_1))) <| o_p rfl (Zb rfl rfl u_0) <| o_n) (by kernel_rfl) (fun a g hst hb => ?_)
           refine wp_cond_split (hst.bool 7 rfl) (fun hc13 => ?_) (fun hc13 => ?_)
           · replace H1 := Zp hc13 H1
             refine r_s (L := []) (T := [⟨[], _, [], [], [4]⟩]) (F := [.op 0 0]) (hst.pick [] rfl) hb Za
               (o_p rfl (Zb rfl rfl c_i) <| o_n) (by kernel_rfl) (fun a g hst hb => ?_)
             refine wp_ret ?_
             refine Zt ?_
             refine Zt ?_
             refine Zk ?_
             refine Zk ?_
             refine Zt ?_
             refine Zk ?_
             refine Zk ?_
             obtain rfl := Option.some.inj H1
             obtain rfl := Option.some.inj H0
             exact Zy rfl hst hb (Zi (s := 4)) (hst.at 0 rfl)
           · replace H1 := Zr hc13 H1
             obtain ⟨e14, h15, H1⟩ := Zh H1; obtain ⟨r16, h17, H1⟩ := Zh H1
             refine r_s (L := [(0, _), (1, _), (5, _), (6, _), (7, _), (8, _), (9, _)]) (T := ⟨[.old 2], _, [], [], [53]⟩ :: ⟨[.op 0 0], _, [], [0], [54]⟩ :: ⟨[.op 1 0], _, [], [0, 1], [55]⟩ :: ⟨[.op 2 0, .old 0], _, [], [0, 1, 2], [56]⟩ :: ⟨[.op 2 0, .op 3 0], _, [], Lr 4, [57]⟩ :: ⟨[.op 2 0, .op 4 0], _, [], Lr 5, [58]⟩ :: ⟨[.op 5 0], _, [], Lr 6, [59]⟩ :: ⟨[.op 6 0, .old 1], _, [], Lr 7, [60]⟩ :: ⟨[.op 6 0, .old 2], _, [], Lr 7, [61]⟩ :: ⟨[.op 6 0, .op 8 0], _, [], [0, 1, 2, 3, 4, 5, 6, 8], [62]⟩ :: ⟨[.op 6 0, .op 7 0, .op 9 0], _, [], Lr 10, [63]⟩ :: ⟨[.op 6 0, .op 10 0], _, [], Lr 11, [64]⟩ :: ⟨[.op 6 0, .old 3], _, [], Lr 7, [65]⟩ :: ⟨[.op 6 0, .op 11 0, .op 12 0], _, [], Lr 13, [66]⟩ :: ⟨[.op 6 0, .op 13 0], _, [], Lr 14, [67]⟩ :: ⟨[.op 6 0, .op 14 0], _, [], Lr 15, [68]⟩ :: ⟨[.op 15 0], _, [], Lr 16, [52]⟩ :: []) (F := [.old 0, .old 1, .old 4, .old 5, .old 6, .op 16 0]) (hst.pick [0, 1, 2, 3, 4, 5, 6] rfl) hb Za
               (o_p rfl (Zc rfl rfl u_0) <| o_p rfl (Zb9 rfl rfl u_0 c_i) <| o_p rfl (Zc rfl rfl u_0) <| o_g (g_t rfl rfl rfl (fun hG => Zc rfl rfl u_0)) <| o_g (g_t rfl rfl rfl (fun hG => Z8 rfl rfl (Opd.gd hG u_0) c_i)) <| o_p rfl (Zbb rfl rfl u_0 (fun hz => (Opd.gd hz u_1))) <| o_p rfl (Zc rfl rfl u_0) <| o_g (g_t rfl rfl rfl (fun hG => Zc rfl rfl u_0)) <| o_g (g_t rfl rfl rfl (fun hG => Zc rfl rfl u_0)) <| o_g (g_t rfl rfl rfl (fun hG => Zei rfl rfl (Opd.gd hG u_0) c_i rfl)) <| o_g (g_t rfl rfl rfl (fun hG => Zbn Tryd.underlying23 Zen rfl rfl (Opd.gd hG u_0) (Opd.gd hG u_1) (Zbp h15 hG))) <| o_g (g_t rfl rfl rfl (fun hG => Zg Zc9 rfl rfl (Opd.gd hG u_0))) <| o_g (g_t rfl rfl rfl (fun hG => Zg Zc9 rfl rfl u_0)) <| o_g (g_t rfl rfl rfl (fun hG => Zs Zr8 (Ziu _ _ (Zbp h17 hG)) rfl rfl (.cons (Opd.gd hG u_0) (.cons (Opd.gd hG u_1) .nil)))) <| o_g (g_t rfl rfl rfl (fun hG => Zb7 rfl rfl (Opd.gd hG u_0))) <| o_p rfl (Zbb rfl rfl u_0 (fun hz => (Opd.gd hz u_1))) <| o_p rfl (Zb rfl rfl u_0) <| o_n) (by kernel_rfl) (fun a g hst hb => ?_)
             refine wp_cond_split (hst.bool 5 rfl) (fun hc18 => ?_) (fun hc18 => ?_)
             · replace H1 := Zp hc18 H1
               refine r_s (L := []) (T := [⟨[], _, [], [], [4]⟩]) (F := [.op 0 0]) (hst.pick [] rfl) hb Za
                 (o_p rfl (Zb rfl rfl c_i) <| o_n) (by kernel_rfl) (fun a g hst hb => ?_)
               refine wp_ret ?_
               refine Zt ?_
               refine Zt ?_
               refine Zk ?_
               refine Zk ?_
               refine Zt ?_
               refine Zk ?_
               refine Zk ?_
               obtain rfl := Option.some.inj H1
               obtain rfl := Option.some.inj H0
               exact Zy rfl hst hb (Zi (s := 4)) (hst.at 0 rfl)
             · replace H1 := Zr hc18 H1
               refine wp_skip ?_
               refine Zbe ?_
               refine Zbe ?_
               refine Zn ?_
               refine r_g (L := [(0, _), (1, _), (7, _), (8, _), (9, _)]) (T := [⟨[.old 4], _, [], [], [69]⟩, ⟨[.op 0 0], _, [], [0], [9]⟩]) (F := [.old 0, .old 1, .old 2, .old 3, .op 1 0]) (hst.pick [0, 1, 2, 3, 4] rfl) hb Za
                 (o_p rfl (Zcq rfl rfl u_0 c_i rfl) <| o_p rfl (Zc rfl rfl u_0) <| o_n) (by kernel_rfl) (fun a g hst hb => ?_)
               exact ⟨n, Nat.lt_succ_self _, (IntKind.i64.wrap (x1 + (1 : Int))), g, rfl, (hst.pick [0, 1, 2, 3, 4] rfl), hb, H1⟩
     · replace H1 := Zr hc2 H1
       refine wp_exit ?_
       refine Zcg ?_
       refine Zcg ?_
       refine Zc4 ?_
       exact ⟨g, rfl, (hst.pick [] rfl), hb, Option.some.inj H1⟩
theorem Zh2 (a0 : Zd) {r : Int} (h : Zdk a0 = some r) : FnOk Tryd.prog 23 [(Zf.pd a0)] (pInt .i64 r) := by
 have H0 := h
 unfold Zdk at H0
 clear h
 refine Zbo (N := 83) Tryd.func23 rfl rfl (Nat.le_of_ble_eq_true rfl) rfl rfl (fun a g0 hst hb => ?_)
 refine r_s (T := [⟨[.old 0], _, [], [], [1]⟩, ⟨[], _, [], [], [2]⟩]) (F := [.op 0 0]) hst hb Za
   (o_p rfl (Zbk rfl rfl u_0) <| o_p rfl (Zb rfl rfl c_i) <| o_n) (by kernel_rfl) (fun a g hst hb => ?_)
 obtain ⟨r1, h2, H0⟩ := Zh H0
 refine r_s (T := [⟨[.old 0], _, [], [], [4]⟩, ⟨[.op 0 0], _, [], [0], [5]⟩, ⟨[.op 1 0], _, [], [0, 1], [6]⟩, ⟨[], [(3, (pBox Zb2 3 (default : Zbl)))], [4], [], [3]⟩, ⟨[.op 2 0, .op 3 0], _, [4], Lr 4, [3]⟩]) (F := [.old 0, .op 4 0]) hst hb Za
   (o_p rfl (Ze Zcn rfl rfl u_0) <| o_p rfl (Zg ty_3 rfl rfl u_0) <| o_p rfl (Zs Zzt (Zoy _ h2) rfl rfl (.cons u_0 .nil)) <| o_p rfl (Zbj (zs := [.bool false, .bool false, .bool false, .bool false, .bool false]) (by kernel_rfl) (fun g => Zll g) rfl rfl) <| o_p rfl (Zb4 Zgr rfl rfl u_1 u_0) <| o_n) (by kernel_rfl) (fun a g hst hb => ?_)
 refine wp_seq ?_
 refine wp_block ?_
 refine r_s (T := [⟨[.old 0], _, [], [], [8]⟩, ⟨[.op 0 0], _, [], [0], [9]⟩, ⟨[.op 1 0], _, [], [0, 1], [10]⟩, ⟨[.op 2 0], _, [], [0, 1, 2], [11]⟩, ⟨[.op 3 0, .old 0], _, [], Lr 4, [12]⟩, ⟨[.op 3 0, .op 4 0], _, [], Lr 5, [13]⟩, ⟨[.op 3 0, .op 5 0], _, [], Lr 6, [14]⟩, ⟨[.op 3 0, .op 6 0], _, [], Lr 7, [15]⟩, ⟨[.op 7 0], _, [], Lr 8, [7]⟩]) (F := [.old 0, .old 1, .op 8 0]) hst hb Za
   (o_p rfl (Ze Zcn rfl rfl u_0) <| o_p rfl (Zg ty_3 rfl rfl u_0) <| o_p rfl (Zus rfl rfl u_0 c_i) <| o_p rfl (Zc rfl rfl u_0) <| o_g (g_f rfl rfl rfl (fun hG => Ze Zcn rfl rfl u_0)) <| o_g (g_f rfl rfl rfl (fun hG => Zg ty_3 rfl rfl (Opd.gd hG u_0))) <| o_g (g_f rfl rfl rfl (fun hG => Zl0 rfl rfl (Opd.gd hG u_0) c_i)) <| o_p rfl (Zbg rfl rfl u_0 (fun hz => (Opd.gd (bNF hz) u_1))) <| o_p rfl (Zb rfl rfl u_0) <| o_n) (by kernel_rfl) (fun a g hst hb => ?_)
 refine wp_cond_split (hst.bool 2 rfl) (fun hc3 => ?_) (fun hc3 => ?_)
 · replace H0 := Zp hc3 H0
   refine r_s (L := []) (T := [⟨[], _, [], [], [2]⟩]) (F := [.op 0 0]) (hst.pick [] rfl) hb Za
     (o_p rfl (Zb rfl rfl c_i) <| o_n) (by kernel_rfl) (fun a g hst hb => ?_)
   refine wp_ret ?_
   refine Zt ?_
   refine Zk ?_
   obtain rfl := Option.some.inj H0
   exact Zy rfl hst hb (Zi (s := 2)) (hst.at 0 rfl)
 · replace H0 := Zr hc3 H0
   obtain ⟨r4, h5, H0⟩ := Zh H0
   refine r_s (L := [(1, _), (3, _)]) (T := [⟨[.old 0], _, [], [], [17]⟩, ⟨[.old 1], _, [], [], [18]⟩, ⟨[.op 0 0, .op 1 0], _, [], [0, 1], [19]⟩, ⟨[.op 2 0], _, [], [0, 1, 2], [20]⟩, ⟨[.op 3 0], _, [], Lr 4, [16]⟩]) (F := [.old 0, .old 1, .op 4 0]) (hst.pick [0, 1] rfl) hb Za
     (o_p rfl (Zg Z4 rfl rfl u_0) <| o_p rfl (Zg Zgr rfl rfl u_0) <| o_p rfl (Zs Zy9 (Zqr _ _ h5) rfl rfl (.cons u_0 (.cons u_1 .nil))) <| o_p rfl (Zb7 rfl rfl u_0) <| o_p rfl (Zb rfl rfl u_0) <| o_n) (by kernel_rfl) (fun a g hst hb => ?_)
   refine wp_cond_split (hst.bool 2 rfl) (fun hc6 => ?_) (fun hc6 => ?_)
   · replace H0 := Zp hc6 H0
     refine r_s (L := []) (T := [⟨[], _, [], [], [2]⟩]) (F := [.op 0 0]) (hst.pick [] rfl) hb Za
       (o_p rfl (Zb rfl rfl c_i) <| o_n) (by kernel_rfl) (fun a g hst hb => ?_)
     refine wp_ret ?_
     refine Zt ?_
     refine Zk ?_
     obtain rfl := Option.some.inj H0
     exact Zy rfl hst hb (Zi (s := 2)) (hst.at 0 rfl)
   · replace H0 := Zr hc6 H0
     refine r_s (L := [(1, _), (3, _)]) (T := [⟨[.old 0], _, [], [], [22]⟩, ⟨[.op 0 0], _, [], [0], [23]⟩, ⟨[.op 1 0], _, [], [0, 1], [24]⟩, ⟨[.op 2 0], _, [], [0, 1, 2], [25]⟩, ⟨[.op 3 0], _, [], Lr 4, [21]⟩]) (F := [.old 0, .old 1, .op 4 0]) (hst.pick [0, 1] rfl) hb Za
       (o_p rfl (Ze Zf1 rfl rfl u_0) <| o_p rfl (Zg ty_9 rfl rfl u_0) <| o_p rfl (Zfa Tryd.underlying9 rfl rfl u_0) <| o_p rfl (Zb9 rfl rfl u_0 c_i) <| o_p rfl (Zb rfl rfl u_0) <| o_n) (by kernel_rfl) (fun a g hst hb => ?_)
     refine wp_cond_split (hst.bool 2 rfl) (fun hc7 => ?_) (fun hc7 => ?_)
     · replace H0 := Zp hc7 H0
       refine r_s (L := []) (T := [⟨[], _, [], [], [2]⟩]) (F := [.op 0 0]) (hst.pick [] rfl) hb Za
         (o_p rfl (Zb rfl rfl c_i) <| o_n) (by kernel_rfl) (fun a g hst hb => ?_)
       refine wp_ret ?_
       refine Zt ?_
       refine Zk ?_
       obtain rfl := Option.some.inj H0
       exact Zy rfl hst hb (Zi (s := 2)) (hst.at 0 rfl)
     · replace H0 := Zr hc7 H0
       refine r_s (L := [(1, _), (3, _)]) (T := ⟨[.old 1], _, [], [], [27]⟩ :: ⟨[.op 0 0], _, [], [0], [28]⟩ :: ⟨[.op 1 0], _, [], [0, 1], [29]⟩ :: ⟨[.op 2 0, .old 0], _, [], [0, 1, 2], [30]⟩ :: ⟨[.op 2 0, .op 3 0], _, [], Lr 4, [31]⟩ :: ⟨[.op 2 0, .op 4 0], _, [], Lr 5, [32]⟩ :: ⟨[.op 2 0, .op 5 0], _, [], Lr 6, [33]⟩ :: ⟨[.op 6 0, .old 0], _, [], Lr 7, [34]⟩ :: ⟨[.op 6 0, .op 7 0], _, [], Lr 8, [35]⟩ :: ⟨[.op 6 0, .op 8 0], _, [], Lr 9, [36]⟩ :: ⟨[.op 2 0, .op 6 0, .op 9 0], _, [], Lr 10, [37]⟩ :: ⟨[.op 2 0, .op 10 0], _, [], Lr 11, [38]⟩ :: ⟨[.op 11 0, .old 0], _, [], Lr 12, [39]⟩ :: ⟨[.op 11 0, .op 12 0], _, [], Lr 13, [40]⟩ :: ⟨[.op 11 0, .old 0], _, [], Lr 12, [41]⟩ :: ⟨[.op 11 0, .op 14 0], _, [], 0 :: 1 :: 2 :: 3 :: 4 :: 5 :: 6 :: 7 :: 8 :: 9 :: 10 :: 11 :: 14 :: [], [42]⟩ :: ⟨[.op 11 0, .op 13 0, .op 15 0], _, [], Lr 16, [43]⟩ :: ⟨[.op 2 0, .op 11 0, .op 16 0], _, [], Lr 17, [44]⟩ :: ⟨[.op 2 0, .op 17 0], _, [], Lr 18, [45]⟩ :: ⟨[.op 18 0, .old 0], _, [], Lr 19, [46]⟩ :: ⟨[.op 18 0, .op 19 0], _, [], Lr 20, [47]⟩ :: ⟨[.op 18 0, .old 0], _, [], Lr 19, [48]⟩ :: ⟨[.op 18 0, .op 21 0], _, [], 0 :: 1 :: 2 :: 3 :: 4 :: 5 :: 6 :: 7 :: 8 :: 9 :: 10 :: 11 :: 12 :: 13 :: 14 :: 15 :: 16 :: 17 :: 18 :: 21 :: [], [49]⟩ :: ⟨[.op 18 0, .op 20 0, .op 22 0], _, [], Lr 23, [50]⟩ :: ⟨[.op 2 0, .op 18 0, .op 23 0], _, [], Lr 24, [51]⟩ :: ⟨[.op 2 0, .op 24 0], _, [], Lr 25, [52]⟩ :: ⟨[.op 25 0], _, [], Lr 26, [26]⟩ :: []) (F := [.old 0, .old 1, .op 26 0]) (hst.pick [0, 1] rfl) hb Za
         (o_p rfl (Ze Zrb rfl rfl u_0) <| o_p rfl (Zg ty_4 rfl rfl u_0) <| o_p rfl (Zc rfl rfl u_0) <| o_g (g_t rfl rfl rfl (fun hG => Ze Zfc rfl rfl u_0)) <| o_g (g_t rfl rfl rfl (fun hG => Zg ty_2 rfl rfl (Opd.gd hG u_0))) <| o_g (g_t rfl rfl rfl (fun hG => Zce rfl rfl (Opd.gd hG u_0) c_i)) <| o_g (g_t rfl rfl rfl (fun hG => Zc rfl rfl (Opd.gd hG u_0))) <| o_g (g_fi rfl rfl rfl (fun hG => Ze Zfb rfl rfl u_0)) <| o_g (g_fi rfl rfl rfl (fun hG => Zg ty_2 rfl rfl (Opd.gd hG u_0))) <| o_g (g_fi rfl rfl rfl (fun hG => Zb9 rfl rfl (Opd.gd hG u_0) c_i)) <| o_g (g_t rfl rfl rfl (fun hG => Zbg rfl rfl (Opd.gd hG u_0) (fun hz => (Opd.gd (bA hG (bNF hz)) u_1)))) <| o_g (g_t rfl rfl rfl (fun hG => Zc rfl rfl (Opd.gd hG u_0))) <| o_g (g_fi rfl rfl rfl (fun hG => Ze Zb6 rfl rfl u_0)) <| o_g (g_fi rfl rfl rfl (fun hG => Zg ty_2 rfl rfl (Opd.gd hG u_0))) <| o_g (g_fi rfl rfl rfl (fun hG => Ze Zfc rfl rfl u_0)) <| o_g (g_fi rfl rfl rfl (fun hG => Zg ty_2 rfl rfl (Opd.gd hG u_0))) <| o_g (g_fi rfl rfl rfl (fun hG => Zce rfl rfl (Opd.gd hG u_0) (Opd.gd hG u_1))) <| o_g (g_t rfl rfl rfl (fun hG => Zbg rfl rfl (Opd.gd hG u_0) (fun hz => (Opd.gd (bA hG (bNF hz)) u_1)))) <| o_g (g_t rfl rfl rfl (fun hG => Zc rfl rfl (Opd.gd hG u_0))) <| o_g (g_fi rfl rfl rfl (fun hG => Ze Zb6 rfl rfl u_0)) <| o_g (g_fi rfl rfl rfl (fun hG => Zg ty_2 rfl rfl (Opd.gd hG u_0))) <| o_g (g_fi rfl rfl rfl (fun hG => Ze Zfb rfl rfl u_0)) <| o_g (g_fi rfl rfl rfl (fun hG => Zg ty_2 rfl rfl (Opd.gd hG u_0))) <| o_g (g_fi rfl rfl rfl (fun hG => Zb9 rfl rfl (Opd.gd hG u_0) (Opd.gd hG u_1))) <| o_g (g_t rfl rfl rfl (fun hG => Zbg rfl rfl (Opd.gd hG u_0) (fun hz => (Opd.gd (bA hG (bNF hz)) u_1)))) <| o_p rfl (Zbb rfl rfl u_0 (fun hz => (Opd.gd hz u_1))) <| o_p rfl (Zb rfl rfl u_0) <| o_n) (by kernel_rfl) (fun a g hst hb => ?_)
       refine wp_cond_split (hst.bool 2 rfl) (fun hc8 => ?_) (fun hc8 => ?_)
       · replace H0 := Zp hc8 H0
         refine r_s (L := []) (T := [⟨[], _, [], [], [2]⟩]) (F := [.op 0 0]) (hst.pick [] rfl) hb Za
           (o_p rfl (Zb rfl rfl c_i) <| o_n) (by kernel_rfl) (fun a g hst hb => ?_)
         refine wp_ret ?_
         refine Zt ?_
         refine Zk ?_
         obtain rfl := Option.some.inj H0
         exact Zy rfl hst hb (Zi (s := 2)) (hst.at 0 rfl)
       · replace H0 := Zr hc8 H0
         obtain ⟨r9, h10, H0⟩ := Zh H0
         refine r_s (L := [(1, _), (3, _)]) (T := [⟨[.old 0], _, [], [], [54]⟩, ⟨[.op 0 0], _, [], [0], [55]⟩, ⟨[.op 1 0], _, [], [0, 1], [56]⟩, ⟨[.op 2 0], _, [], [0, 1, 2], [57]⟩, ⟨[.op 3 0], _, [], Lr 4, [53]⟩]) (F := [.old 0, .old 1, .op 4 0]) (hst.pick [0, 1] rfl) hb Za
           (o_p rfl (Ze Zd5 rfl rfl u_0) <| o_p rfl (Zg Zci rfl rfl u_0) <| o_p rfl (Zs Zrt (Ziv _ h10) rfl rfl (.cons u_0 .nil)) <| o_p rfl (Zb7 rfl rfl u_0) <| o_p rfl (Zb rfl rfl u_0) <| o_n) (by kernel_rfl) (fun a g hst hb => ?_)
         refine wp_cond_split (hst.bool 2 rfl) (fun hc11 => ?_) (fun hc11 => ?_)
         · replace H0 := Zp hc11 H0
           refine r_s (L := []) (T := [⟨[], _, [], [], [2]⟩]) (F := [.op 0 0]) (hst.pick [] rfl) hb Za
             (o_p rfl (Zb rfl rfl c_i) <| o_n) (by kernel_rfl) (fun a g hst hb => ?_)
           refine wp_ret ?_
           refine Zt ?_
           refine Zk ?_
           obtain rfl := Option.some.inj H0
           exact Zy rfl hst hb (Zi (s := 2)) (hst.at 0 rfl)
         · replace H0 := Zr hc11 H0
           refine r_s (L := [(1, _), (3, _)]) (T := [⟨[.old 1], _, [], [], [59]⟩, ⟨[.op 0 0], _, [], [0], [60]⟩, ⟨[.op 1 0], _, [], [0, 1], [61]⟩, ⟨[.op 2 0], _, [], [0, 1, 2], [58]⟩]) (F := [.old 0, .op 3 0]) (hst.pick [0, 1] rfl) hb Za
             (o_p rfl (Ze Zrc rfl rfl u_0) <| o_p rfl (Zg ty_4 rfl rfl u_0) <| o_p rfl (Zb7 rfl rfl u_0) <| o_p rfl (Zb rfl rfl u_0) <| o_n) (by kernel_rfl) (fun a g hst hb => ?_)
           refine wp_cond_split (hst.bool 1 rfl) (fun hc12 => ?_) (fun hc12 => ?_)
           · replace H0 := Zp hc12 H0
             refine r_s (L := []) (T := [⟨[], _, [], [], [2]⟩]) (F := [.op 0 0]) (hst.pick [] rfl) hb Za
               (o_p rfl (Zb rfl rfl c_i) <| o_n) (by kernel_rfl) (fun a g hst hb => ?_)
             refine wp_ret ?_
             refine Zt ?_
             refine Zk ?_
             obtain rfl := Option.some.inj H0
             exact Zy rfl hst hb (Zi (s := 2)) (hst.at 0 rfl)
           · replace H0 := Zr hc12 H0
             refine r_s (L := [(1, _)]) (T := [⟨[.old 0], _, [], [], [63]⟩, ⟨[.op 0 0], _, [], [0], [64]⟩, ⟨[.op 1 0], _, [], [0, 1], [65]⟩, ⟨[.op 2 0], _, [], [0, 1, 2], [66]⟩, ⟨[.op 3 0, .old 0], _, [], Lr 4, [67]⟩, ⟨[.op 3 0, .op 4 0], _, [], Lr 5, [68]⟩, ⟨[.op 3 0, .op 5 0], _, [], Lr 6, [69]⟩, ⟨[.op 3 0, .op 6 0], _, [], Lr 7, [70]⟩, ⟨[.op 7 0], _, [], Lr 8, [62]⟩]) (F := [.old 0, .op 8 0]) (hst.pick [0] rfl) hb Za
               (o_p rfl (Ze Zds rfl rfl u_0) <| o_p rfl (Zg ty_3 rfl rfl u_0) <| o_p rfl (Zce rfl rfl u_0 c_i) <| o_p rfl (Zc rfl rfl u_0) <| o_g (g_f rfl rfl rfl (fun hG => Ze Zds rfl rfl u_0)) <| o_g (g_f rfl rfl rfl (fun hG => Zg ty_3 rfl rfl (Opd.gd hG u_0))) <| o_g (g_f rfl rfl rfl (fun hG => Zb9 rfl rfl (Opd.gd hG u_0) c_i)) <| o_p rfl (Zbg rfl rfl u_0 (fun hz => (Opd.gd (bNF hz) u_1))) <| o_p rfl (Zb rfl rfl u_0) <| o_n) (by kernel_rfl) (fun a g hst hb => ?_)
             refine wp_cond_split (hst.bool 1 rfl) (fun hc13 => ?_) (fun hc13 => ?_)
             · replace H0 := Zp hc13 H0
               refine r_s (L := []) (T := [⟨[], _, [], [], [2]⟩]) (F := [.op 0 0]) (hst.pick [] rfl) hb Za
                 (o_p rfl (Zb rfl rfl c_i) <| o_n) (by kernel_rfl) (fun a g hst hb => ?_)
               refine wp_ret ?_
               refine Zt ?_
               refine Zk ?_
               obtain rfl := Option.some.inj H0
               exact Zy rfl hst hb (Zi (s := 2)) (hst.at 0 rfl)
             · replace H0 := Zr hc13 H0
               refine r_s (L := [(1, _)]) (T := [⟨[.old 0], _, [], [], [72]⟩, ⟨[.op 0 0], _, [], [0], [73]⟩, ⟨[.op 1 0], _, [], [0, 1], [74]⟩, ⟨[.old 0], _, [], [], [75]⟩, ⟨[.op 3 0], _, [], [3], [76]⟩, ⟨[.op 2 0, .op 4 0], _, [], Lr 5, [77]⟩, ⟨[.op 5 0], _, [], Lr 6, [71]⟩]) (F := [.old 0, .op 6 0]) (hst.pick [0] rfl) hb Za
                 (o_p rfl (Ze Zbu rfl rfl u_0) <| o_p rfl (Zg Zck rfl rfl u_0) <| o_p rfl (Zca Tryd.underlying23 rfl rfl u_0) <| o_p rfl (Ze Zds rfl rfl u_0) <| o_p rfl (Zg ty_3 rfl rfl u_0) <| o_p rfl (Zb9 rfl rfl u_0 u_1) <| o_p rfl (Zb rfl rfl u_0) <| o_n) (by kernel_rfl) (fun a g hst hb => ?_)
               refine wp_cond_split (hst.bool 1 rfl) (fun hc14 => ?_) (fun hc14 => ?_)
               · replace H0 := Zp hc14 H0
                 refine r_s (L := []) (T := [⟨[], _, [], [], [2]⟩]) (F := [.op 0 0]) (hst.pick [] rfl) hb Za
                   (o_p rfl (Zb rfl rfl c_i) <| o_n) (by kernel_rfl) (fun a g hst hb => ?_)
                 refine wp_ret ?_
                 refine Zt ?_
                 refine Zk ?_
                 obtain rfl := Option.some.inj H0
                 exact Zy rfl hst hb (Zi (s := 2)) (hst.at 0 rfl)
               · replace H0 := Zr hc14 H0
                 refine wp_skip ?_
                 refine Zbe ?_
                 refine Zn ?_
                 obtain ⟨r15, h16, H0⟩ := Zh H0
                 refine r_s (L := [(1, _)]) (T := [⟨[.old 0], _, [], [], [78]⟩, ⟨[.op 0 0], _, [], [0], [79]⟩, ⟨[.old 0], _, [], [], [80]⟩, ⟨[.op 2 0], _, [], [2], [81]⟩, ⟨[.op 1 0, .op 3 0], _, [], Lr 4, [82]⟩, ⟨[.op 4 0], _, [], Lr 5, [2]⟩]) (F := [.op 5 0]) (hst.pick [0] rfl) hb Za
                   (o_p rfl (Ze Zcn rfl rfl u_0) <| o_p rfl (Zg ty_3 rfl rfl u_0) <| o_p rfl (Ze Zbu rfl rfl u_0) <| o_p rfl (Zg Zck rfl rfl u_0) <| o_p rfl (Zs Zyv (Zqc _ _ h16) rfl rfl (.cons u_0 (.cons u_1 .nil))) <| o_p rfl (Zb rfl rfl u_0) <| o_n) (by kernel_rfl) (fun a g hst hb => ?_)
                 refine wp_ret ?_
                 obtain rfl := Option.some.inj H0
                 exact Zy rfl hst hb (Zi (s := 2)) (hst.at 0 rfl)
theorem Zml (a0 : Int) {r : Nat} (h : Zje a0 = some r) : FnOk Tryd.prog 32 [(pInt .i64 a0)] (pFlt r) := by
 have H0 := h
 unfold Zje at H0
 clear h
 refine Zbo (N := 8) Tryd.func32 rfl rfl (Nat.le_of_ble_eq_true rfl) rfl rfl (fun a g0 hst hb => ?_)
 refine r_s (T := [⟨[], _, [], [], [2]⟩]) (F := [.old 0]) hst hb Za
   (o_p rfl (Zb rfl rfl c_f) <| o_n) (by kernel_rfl) (fun a g hst hb => ?_)
 refine r_s (T := [⟨[], _, [], [], [3]⟩]) (F := [.old 0]) hst hb Za
   (o_p rfl (Zb rfl rfl c_i) <| o_n) (by kernel_rfl) (fun a g hst hb => ?_)
 refine wp_seq ?_
 refine r_s (T := [⟨[.old 0], _, [], [], [4]⟩, ⟨[.op 0 0], _, [], [0], [5]⟩]) (F := [.op 1 0]) hst hb Za
   (o_p rfl (Zc rfl rfl u_0) <| o_p rfl (Zl0 rfl rfl u_0 c_i) <| o_n) (by kernel_rfl) (fun a g hst hb => ?_)
 refine Zcf (fun a w => ∃ (j2 : Int) (g : G), w = g.w ∧ St 8 [(3, (pInt .u64 j2))] a g ∧ Base g0 g ∧ Zil j2 = some r) ?_ ?_
 · rintro a w ⟨j2, g, rfl, hst, hb, H0⟩
   unfold Zil at H0
   refine Zn ?_
   refine r_s (T := [⟨[.old 0], _, [], [], [6]⟩, ⟨[.op 0 0], _, [], [0], [7]⟩, ⟨[.op 1 0], _, [], [0, 1], [2]⟩]) (F := [.op 2 0]) hst hb Za
     (o_p rfl (Zc rfl rfl u_0) <| o_p rfl (Zmj Zu9 rfl rfl u_0) <| o_p rfl (Zb rfl rfl u_0) <| o_n) (by kernel_rfl) (fun a g hst hb => ?_)
   refine wp_ret ?_
   obtain rfl := Option.some.inj H0
   exact Zy rfl hst hb (Zi (s := 2)) (hst.at 0 rfl)
 · refine wp_cond_split (hst.bool 0 rfl) (fun hc1 => ?_) (fun hc1 => ?_)
   · replace H0 := Zp hc1 H0
     refine r_g (L := []) (T := [⟨[], _, [], [], [3]⟩]) (F := [.op 0 0]) (hst.pick [] rfl) hb Za
       (o_p rfl (Zb rfl rfl c_i) <| o_n) (by kernel_rfl) (fun a g hst hb => ?_)
     exact ⟨(9218868437227405312 : Int), g, rfl, (hst.pick [0] rfl), hb, H0⟩
   · replace H0 := Zr hc1 H0
     refine r_g (L := []) (T := [⟨[], _, [], [], [3]⟩]) (F := [.op 0 0]) (hst.pick [] rfl) hb Za
       (o_p rfl (Zb rfl rfl c_i) <| o_n) (by kernel_rfl) (fun a g hst hb => ?_)
     exact ⟨(18442240474082181120 : Int), g, rfl, (hst.pick [0] rfl), hb, H0⟩
theorem Zia (a0 : Zd) {r : Zd × Bool} (h : Zfr a0 = some r) : FnOk Tryd.prog 10 [(Zf.pd a0)] (pTup [(Zf.pd r.1), (Z5 r.2)]) := by
 have H0 := h
 unfold Zfr at H0
 clear h
 refine Zbo (N := 32) Tryd.func10 rfl rfl (Nat.le_of_ble_eq_true rfl) rfl rfl (fun a g0 hst hb => ?_)
 refine r_s (T := [⟨[.old 0], _, [], [], [1]⟩, ⟨[], [(2, (pBox Zf 2 (default : Zd)))], [3], [], [2]⟩, ⟨[], _, [], [], [3]⟩]) (F := [.op 0 0, .op 1 0]) hst hb Za
   (o_p rfl (Zbk rfl rfl u_0) <| o_p rfl (Zbj (zs := [.int .i64 0, .int .i64 0, .int .i64 0, .int .i64 0, .float .f64 0, .int .i64 0, .string ByteArray.empty, .slice none 0 0]) (by kernel_rfl) (fun g => Zbr g) rfl rfl) <| o_p rfl (Zb rfl rfl c_b) <| o_n) (by kernel_rfl) (fun a g hst hb => ?_)
 refine wp_seq ?_
 obtain ⟨r1, h2, H0⟩ := Zh H0
 refine r_s (T := [⟨[.old 0], _, [], [], [4]⟩, ⟨[.op 0 0], _, [], [0], [5]⟩, ⟨[.op 1 0], _, [], [0, 1], [6]⟩]) (F := [.old 0, .old 1, .op 2 0]) hst hb Za
   (o_p rfl (Zg Z4 rfl rfl u_0) <| o_p rfl (Zs Zo2 (Zh2 _ h2) rfl rfl (.cons u_0 .nil)) <| o_p rfl (Zcv rfl rfl u_0 c_i) <| o_n) (by kernel_rfl) (fun a g hst hb => ?_)
 refine wp_cond_split (hst.bool 2 rfl) (fun hc3 => ?_) (fun hc3 => ?_)
 · replace H0 := Zp hc3 H0
   refine r_s (L := [(2, _)]) (T := [⟨[], _, [], [], [7]⟩, ⟨[.op 0 0, .old 0], _, [3], [0], [2]⟩, ⟨[], _, [], [0, 1], [3]⟩]) (F := [.op 1 0, .op 2 0]) (hst.pick [1] rfl) hb Za
     (o_p rfl (Zka rfl rfl ) <| o_p rfl (Z6 Z4 rfl rfl u_1 u_0) <| o_p rfl (Zb rfl rfl c_b) <| o_n) (by kernel_rfl) (fun a g hst hb => ?_)
   refine wp_ret ?_
   refine Zk ?_
   obtain rfl := Option.some.inj H0
   obtain ⟨u0, hu0, hq0⟩ := Zba (P := Tryd.prog) Z4 (hst.at 0 rfl)
   exact Zef rfl hst hb hu0 (Zi (s := 3)) (Zdi hq0 (hst.at 1 rfl))
 · replace H0 := Zr hc3 H0
   refine wp_skip ?_
   refine Zn ?_
   refine wp_seq ?_
   refine r_s (L := [(1, _), (2, _)]) (T := [⟨[.old 0], _, [], [], [8]⟩, ⟨[.op 0 0], _, [], [0], [9]⟩]) (F := [.old 0, .old 1, .op 1 0]) (hst.pick [0, 1] rfl) hb Za
     (o_p rfl (Ze Zcn rfl rfl u_0) <| o_p rfl (Zg ty_3 rfl rfl u_0) <| o_n) (by kernel_rfl) (fun a g hst hb => ?_)
   refine wp_block ?_
   refine wp_seq ?_
   refine r_s (T := [⟨[.old 2], _, [], [], [11]⟩, ⟨[.op 0 0], _, [], [0], [10]⟩]) (F := [.old 0, .old 1, .old 2, .op 1 0]) hst hb Za
     (o_p rfl (Z8 rfl rfl u_0 c_i) <| o_p rfl (Zb rfl rfl u_0) <| o_n) (by kernel_rfl) (fun a g hst hb => ?_)
   refine Zcf (fun a w => ∃ (j6 : Bool) (g : G), w = g.w ∧ St 32 [(1, (Zf.ptr a0)), (2, (pBox Zf 2 (default : Zd))), (9, (pInt .i64 a0.Kind)), (10, (Z5 j6))] a g ∧ Base g0 g ∧ Ze3 a0 j6 = some r) ?_ ?_
   · rintro a w ⟨j6, g, rfl, hst, hb, H0⟩
     unfold Ze3 at H0
     refine Zn ?_
     refine wp_cond_split (hst.bool 3 rfl) (fun hc7 => ?_) (fun hc7 => ?_)
     · replace H0 := Zp hc7 H0
       refine r_s (L := [(2, _)]) (T := [⟨[], _, [], [], [14]⟩, ⟨[.op 0 0, .old 0], _, [3], [0], [2]⟩, ⟨[], _, [], [0, 1], [3]⟩]) (F := [.op 1 0, .op 2 0]) (hst.pick [1] rfl) hb Za
         (o_p rfl (Zq2 rfl rfl c_i) <| o_p rfl (Z6 Z4 rfl rfl u_1 u_0) <| o_p rfl (Zb rfl rfl c_b) <| o_n) (by kernel_rfl) (fun a g hst hb => ?_)
       refine wp_ret ?_
       refine Zt ?_
       refine Zk ?_
       obtain rfl := Option.some.inj H0
       obtain ⟨u0, hu0, hq0⟩ := Zba (P := Tryd.prog) Z4 (hst.at 0 rfl)
       exact Zef rfl hst hb hu0 (Zi (s := 3)) (Zdi hq0 (hst.at 1 rfl))
     · replace H0 := Zr hc7 H0
       refine r_s (L := [(1, _), (2, _), (9, _)]) (T := [⟨[.old 2], _, [], [], [16]⟩, ⟨[.op 0 0], _, [], [0], [15]⟩]) (F := [.old 0, .old 1, .old 2, .op 1 0]) (hst.pick [0, 1, 2] rfl) hb Za
         (o_p rfl (Z8 rfl rfl u_0 c_i) <| o_p rfl (Zb rfl rfl u_0) <| o_n) (by kernel_rfl) (fun a g hst hb => ?_)
       refine wp_cond_split (hst.bool 3 rfl) (fun hc8 => ?_) (fun hc8 => ?_)
       · replace H0 := Zp hc8 H0
         obtain ⟨r9, h10, H0⟩ := Zh H0
         refine r_s (L := [(2, _)]) (T := [⟨[], _, [], [], [17]⟩, ⟨[.op 0 0], _, [], [0], [18]⟩, ⟨[.op 1 0, .old 0], _, [3], [0, 1], [2]⟩, ⟨[], _, [], [0, 1, 2], [3]⟩]) (F := [.op 2 0, .op 3 0]) (hst.pick [1] rfl) hb Za
           (o_p rfl (Zs Zuz (Zml _ h10) rfl rfl (.cons c_i .nil)) <| o_p rfl (Zjl rfl rfl c_i u_0) <| o_p rfl (Z6 Z4 rfl rfl u_1 u_0) <| o_p rfl (Zb rfl rfl c_b) <| o_n) (by kernel_rfl) (fun a g hst hb => ?_)
         refine wp_ret ?_
         refine Zt ?_
         refine Zk ?_
         obtain rfl := Option.some.inj H0
         obtain ⟨u0, hu0, hq0⟩ := Zba (P := Tryd.prog) Z4 (hst.at 0 rfl)
         exact Zef rfl hst hb hu0 (Zi (s := 3)) (Zdi hq0 (hst.at 1 rfl))
       · replace H0 := Zr hc8 H0
         refine r_s (L := [(1, _), (2, _), (9, _)]) (T := [⟨[.old 2], _, [], [], [20]⟩, ⟨[.op 0 0], _, [], [0], [19]⟩]) (F := [.old 0, .old 1, .old 2, .op 1 0]) (hst.pick [0, 1, 2] rfl) hb Za
           (o_p rfl (Z8 rfl rfl u_0 c_i) <| o_p rfl (Zb rfl rfl u_0) <| o_n) (by kernel_rfl) (fun a g hst hb => ?_)
         refine wp_cond_split (hst.bool 3 rfl) (fun hc11 => ?_) (fun hc11 => ?_)
         · replace H0 := Zp hc11 H0
           obtain ⟨r12, h13, H0⟩ := Zh H0
           refine r_s (L := [(2, _)]) (T := [⟨[], _, [], [], [21]⟩, ⟨[.op 0 0], _, [], [0], [22]⟩, ⟨[.op 1 0, .old 0], _, [3], [0, 1], [2]⟩, ⟨[], _, [], [0, 1, 2], [3]⟩]) (F := [.op 2 0, .op 3 0]) (hst.pick [1] rfl) hb Za
             (o_p rfl (Zs Zsd (Zju h13) rfl rfl .nil) <| o_p rfl (Zjl rfl rfl c_i u_0) <| o_p rfl (Z6 Z4 rfl rfl u_1 u_0) <| o_p rfl (Zb rfl rfl c_b) <| o_n) (by kernel_rfl) (fun a g hst hb => ?_)
           refine wp_ret ?_
           refine Zt ?_
           refine Zk ?_
           obtain rfl := Option.some.inj H0
           obtain ⟨u0, hu0, hq0⟩ := Zba (P := Tryd.prog) Z4 (hst.at 0 rfl)
           exact Zef rfl hst hb hu0 (Zi (s := 3)) (Zdi hq0 (hst.at 1 rfl))
         · replace H0 := Zr hc11 H0
           refine r_s (L := [(1, _), (2, _), (9, _)]) (T := [⟨[.old 2], _, [], [], [24]⟩, ⟨[.op 0 0], _, [], [0], [23]⟩]) (F := [.old 0, .old 1, .old 2, .op 1 0]) (hst.pick [0, 1, 2] rfl) hb Za
             (o_p rfl (Z8 rfl rfl u_0 c_i) <| o_p rfl (Zb rfl rfl u_0) <| o_n) (by kernel_rfl) (fun a g hst hb => ?_)
           refine wp_cond_split (hst.bool 3 rfl) (fun hc14 => ?_) (fun hc14 => ?_)
           · replace H0 := Zp hc14 H0
             refine r_s (L := [(2, _)]) (T := [⟨[], _, [], [], [25]⟩, ⟨[.op 0 0, .old 0], _, [3], [0], [2]⟩, ⟨[], _, [], [0, 1], [3]⟩]) (F := [.op 1 0, .op 2 0]) (hst.pick [1] rfl) hb Za
               (o_p rfl (Zjm rfl rfl c_i c_i) <| o_p rfl (Z6 Z4 rfl rfl u_1 u_0) <| o_p rfl (Zb rfl rfl c_b) <| o_n) (by kernel_rfl) (fun a g hst hb => ?_)
             refine wp_ret ?_
             refine Zt ?_
             refine Zk ?_
             obtain rfl := Option.some.inj H0
             obtain ⟨u0, hu0, hq0⟩ := Zba (P := Tryd.prog) Z4 (hst.at 0 rfl)
             exact Zef rfl hst hb hu0 (Zi (s := 3)) (Zdi hq0 (hst.at 1 rfl))
           · replace H0 := Zr hc14 H0
             refine r_s (L := [(1, _), (2, _), (9, _)]) (T := [⟨[.old 2], _, [], [], [27]⟩, ⟨[.op 0 0], _, [], [0], [26]⟩]) (F := [.old 0, .old 1, .op 1 0]) (hst.pick [0, 1, 2] rfl) hb Za
               (o_p rfl (Z8 rfl rfl u_0 c_i) <| o_p rfl (Zb rfl rfl u_0) <| o_n) (by kernel_rfl) (fun a g hst hb => ?_)
             refine wp_cond_split (hst.bool 2 rfl) (fun hc15 => ?_) (fun hc15 => ?_)
             · replace H0 := Zp hc15 H0
               refine r_s (L := [(1, _), (2, _)]) (T := [⟨[.old 0], _, [], [], [28]⟩, ⟨[.op 0 0], _, [], [0], [29]⟩, ⟨[.op 1 0], _, [], [0, 1], [30]⟩, ⟨[.op 2 0, .old 1], _, [3], [0, 1, 2], [2]⟩, ⟨[], _, [], Lr 4, [3]⟩]) (F := [.op 3 0, .op 4 0]) (hst.pick [0, 1] rfl) hb Za
                 (o_p rfl (Ze Zds rfl rfl u_0) <| o_p rfl (Zg ty_3 rfl rfl u_0) <| o_p rfl (Zjm rfl rfl c_i u_0) <| o_p rfl (Z6 Z4 rfl rfl u_1 u_0) <| o_p rfl (Zb rfl rfl c_b) <| o_n) (by kernel_rfl) (fun a g hst hb => ?_)
               refine wp_ret ?_
               refine Zt ?_
               refine Zk ?_
               obtain rfl := Option.some.inj H0
               obtain ⟨u0, hu0, hq0⟩ := Zba (P := Tryd.prog) Z4 (hst.at 0 rfl)
               exact Zef rfl hst hb hu0 (Zi (s := 3)) (Zdi hq0 (hst.at 1 rfl))
             · replace H0 := Zr hc15 H0
               refine wp_skip ?_
               refine Zbe ?_
               refine Zn ?_
               refine r_s (L := [(2, _)]) (T := [⟨[], _, [], [], [31]⟩, ⟨[.op 0 0, .old 0], _, [3], [0], [2]⟩, ⟨[], _, [], [0, 1], [3]⟩]) (F := [.op 1 0, .op 2 0]) (hst.pick [1] rfl) hb Za
                 (o_p rfl (Zka rfl rfl ) <| o_p rfl (Z6 Z4 rfl rfl u_1 u_0) <| o_p rfl (Zb rfl rfl c_b) <| o_n) (by kernel_rfl) (fun a g hst hb => ?_)
               refine wp_ret ?_
               obtain rfl := Option.some.inj H0
               obtain ⟨u0, hu0, hq0⟩ := Zba (P := Tryd.prog) Z4 (hst.at 0 rfl)
               exact Zef rfl hst hb hu0 (Zi (s := 3)) (Zdi hq0 (hst.at 1 rfl))
   · refine wp_cond_split (hst.bool 3 rfl) (fun hc4 => ?_) (fun hc4 => ?_)
     · replace H0 := Zp hc4 H0
       refine wp_skip ?_
       exact ⟨(a0.Kind == (2 : Int)), g, rfl, (hst.pick [0, 1, 2, 3] rfl), hb, H0⟩
     · replace H0 := Zr hc4 H0
       refine r_s (L := [(1, _), (2, _), (9, _)]) (T := [⟨[.old 2], _, [], [], [12]⟩, ⟨[.op 0 0], _, [], [0], [10]⟩]) (F := [.old 0, .old 1, .old 2, .op 1 0]) (hst.pick [0, 1, 2] rfl) hb Za
         (o_p rfl (Z8 rfl rfl u_0 c_i) <| o_p rfl (Zb rfl rfl u_0) <| o_n) (by kernel_rfl) (fun a g hst hb => ?_)
       refine wp_cond_split (hst.bool 3 rfl) (fun hc5 => ?_) (fun hc5 => ?_)
       · replace H0 := Zp hc5 H0
         refine wp_skip ?_
         exact ⟨(a0.Kind == (3 : Int)), g, rfl, (hst.pick [0, 1, 2, 3] rfl), hb, H0⟩
       · replace H0 := Zr hc5 H0
         refine r_g (L := [(1, _), (2, _), (9, _)]) (T := [⟨[.old 2], _, [], [], [13]⟩, ⟨[.op 0 0], _, [], [0], [10]⟩]) (F := [.old 0, .old 1, .old 2, .op 1 0]) (hst.pick [0, 1, 2] rfl) hb Za
           (o_p rfl (Z8 rfl rfl u_0 c_i) <| o_p rfl (Zb rfl rfl u_0) <| o_n) (by kernel_rfl) (fun a g hst hb => ?_)
         exact ⟨(a0.Kind == (4 : Int)), g, rfl, (hst.pick [0, 1, 2, 3] rfl), hb, H0⟩
theorem Zom (a0 : Int) {r : Zb8} (h : Zna a0 = some r) : FnOk Tryd.prog 62 [(pInt .i64 a0)] (Zcx.pd r) := by
 have H0 := h
 unfold Zna at H0
 clear h
 refine Zbo (N := 13) Tryd.func62 rfl rfl (Nat.le_of_ble_eq_true rfl) rfl rfl (fun a g0 hst hb => ?_)
 refine r_s (T := [⟨[], [(2, (pBox Zcx 2 (default : Zb8)))], [3], [], [2]⟩]) (F := [.old 0, .op 0 0]) hst hb Za
   (o_p rfl (Zbj (zs := [.string ByteArray.empty, .int .i64 0, .string ByteArray.empty]) (by kernel_rfl) (fun g => Zmh g) rfl rfl) <| o_n) (by kernel_rfl) (fun a g hst hb => ?_)
 refine wp_seq ?_
 refine r_s (T := [⟨[.old 0], _, [], [], [3]⟩, ⟨[.op 0 0], _, [], [0], [4]⟩, ⟨[.op 1 0], _, [], [0, 1], [5]⟩, ⟨[.op 2 0, .old 0], _, [], [0, 1, 2], [6]⟩, ⟨[.op 2 0, .op 3 0], _, [], Lr 4, [7]⟩, ⟨[.op 2 0, .op 4 0], _, [], Lr 5, [8]⟩]) (F := [.old 0, .old 1, .op 5 0]) hst hb Za
   (o_p rfl (Zc rfl rfl u_0) <| o_p rfl (Zus rfl rfl u_0 c_i) <| o_p rfl (Zc rfl rfl u_0) <| o_g (g_f rfl rfl rfl (fun hG => Zc rfl rfl u_0)) <| o_g (g_f rfl rfl rfl (fun hG => Zl0 rfl rfl (Opd.gd hG u_0) c_i)) <| o_p rfl (Zbg rfl rfl u_0 (fun hz => (Opd.gd (bNF hz) u_1))) <| o_n) (by kernel_rfl) (fun a g hst hb => ?_)
 refine wp_cond_split (hst.bool 2 rfl) (fun hc1 => ?_) (fun hc1 => ?_)
 · replace H0 := Zp hc1 H0
   refine r_s (L := [(2, _)]) (T := [⟨[], _, [], [], [9]⟩, ⟨[.op 0 0, .old 0], _, [3], [0], [2]⟩]) (F := [.op 1 0]) (hst.pick [1] rfl) hb Za
     (o_p rfl (Zvo rfl rfl ) <| o_p rfl (Z6 Zgf rfl rfl u_1 u_0) <| o_n) (by kernel_rfl) (fun a g hst hb => ?_)
   refine wp_ret ?_
   refine Zk ?_
   obtain rfl := Option.some.inj H0
   obtain ⟨u0, hu0, hq0⟩ := Zba (P := Tryd.prog) Zgf (hst.at 0 rfl)
   exact Zy rfl hst hb hu0 hq0
 · replace H0 := Zr hc1 H0
   refine wp_skip ?_
   refine Zn ?_
   obtain ⟨e2, h3, H0⟩ := Zh H0
   refine r_s (L := [(0, _), (2, _)]) (T := [⟨[.old 0], _, [], [], [10]⟩, ⟨[.op 0 0], _, [], [0], [11]⟩, ⟨[.op 1 0], _, [], [0, 1], [12]⟩, ⟨[.op 2 0, .old 1], _, [3], [0, 1, 2], [2]⟩]) (F := [.op 3 0]) (hst.pick [0, 1] rfl) hb Za
     (o_p rfl (Zc rfl rfl u_0) <| o_p rfl (Zg8 Tryd.underlying127 Zyg rfl rfl (Opd.glob gm_1 gk_1) u_0 h3) <| o_p rfl (Zg Zgf rfl rfl u_0) <| o_p rfl (Z6 Zgf rfl rfl u_1 u_0) <| o_n) (by kernel_rfl) (fun a g hst hb => ?_)
   refine wp_ret ?_
   obtain rfl := Option.some.inj H0
   obtain ⟨u0, hu0, hq0⟩ := Zba (P := Tryd.prog) Zgf (hst.at 0 rfl)
   exact Zy rfl hst hb hu0 hq0
theorem Zoo (a0 : Int) {r : Int} (h : Zk9 a0 = some r) : FnOk Tryd.prog 34 [(pInt .i64 a0)] (pInt .i64 r) := by
 have H0 := h
 unfold Zk9 at H0
 clear h
 refine Zbo (N := 6) Tryd.func34 rfl rfl (Nat.le_of_ble_eq_true rfl) rfl rfl (fun a g0 hst hb => ?_)
 refine r_s (T := [⟨[], _, [], [], [2]⟩]) (F := [.old 0]) hst hb Za
   (o_p rfl (Zb rfl rfl c_i) <| o_n) (by kernel_rfl) (fun a g hst hb => ?_)
 obtain ⟨r1, h2, H0⟩ := Zh H0
 refine r_s (T := [⟨[.old 0], _, [], [], [3]⟩, ⟨[.op 0 0], _, [], [0], [4]⟩, ⟨[.op 1 0], _, [], [0, 1], [5]⟩, ⟨[.op 2 0], _, [], [0, 1, 2], [2]⟩]) (F := [.op 3 0]) hst hb Za
   (o_p rfl (Zc rfl rfl u_0) <| o_p rfl (Zs Zul (Zom _ h2) rfl rfl (.cons u_0 .nil)) <| o_p rfl (Zpy Zpo rfl rfl u_0) <| o_p rfl (Zb rfl rfl u_0) <| o_n) (by kernel_rfl) (fun a g hst hb => ?_)
 refine wp_ret ?_
 obtain rfl := Option.some.inj H0
 exact Zy rfl hst hb (Zi (s := 2)) (hst.at 0 rfl)
theorem Zhy (a0 : Int) (a1 : Int) {r : Bool} (h : Zek a0 a1 = some r) : FnOk Tryd.prog 12 [(pInt .i64 a0), (pInt .i64 a1)] (Z5 r) := by
 have H0 := h
 unfold Zek at H0
 clear h
 refine Zbo (N := 19) Tryd.func12 rfl rfl (Nat.le_of_ble_eq_true rfl) rfl rfl (fun a g0 hst hb => ?_)
 refine r_s (T := [⟨[], _, [], [], [4]⟩]) (F := [.old 0, .old 1]) hst hb Za
   (o_p rfl (Zb rfl rfl c_b) <| o_n) (by kernel_rfl) (fun a g hst hb => ?_)
 refine wp_seq ?_
 refine r_s (T := [⟨[.old 1], _, [], [], [5]⟩]) (F := [.old 0, .old 1, .op 0 0]) hst hb Za
   (o_p rfl (Zc rfl rfl u_0) <| o_n) (by kernel_rfl) (fun a g hst hb => ?_)
 refine wp_block ?_
 refine wp_seq ?_
 refine r_s (T := [⟨[.old 2], _, [], [], [7]⟩, ⟨[.op 0 0], _, [], [0], [6]⟩]) (F := [.old 0, .old 1, .old 2, .op 1 0]) hst hb Za
   (o_p rfl (Z8 rfl rfl u_0 c_i) <| o_p rfl (Zb rfl rfl u_0) <| o_n) (by kernel_rfl) (fun a g hst hb => ?_)
 refine Zcf (fun a w => ∃ (j8 : Bool) (g : G), w = g.w ∧ St 19 [(0, (pInt .i64 a0)), (1, (pInt .i64 a1)), (6, (Z5 j8))] a g ∧ Base g0 g ∧ Zch a0 a1 j8 = some r) ?_ ?_
 · rintro a w ⟨j8, g, rfl, hst, hb, H0⟩
   unfold Zch at H0
   refine Zn ?_
   refine wp_cond_split (hst.bool 2 rfl) (fun hc9 => ?_) (fun hc9 => ?_)
   · replace H0 := Zp hc9 H0
     obtain ⟨r10, h11, H0⟩ := Zh H0
     refine r_s (L := [(0, _), (1, _)]) (T := [⟨[.old 1], _, [], [], [15]⟩, ⟨[.op 0 0], _, [], [0], [16]⟩, ⟨[.old 0], _, [], [], [17]⟩, ⟨[.op 1 0, .op 2 0], _, [], [0, 1, 2], [18]⟩, ⟨[.op 3 0], _, [], Lr 4, [4]⟩]) (F := [.op 4 0]) (hst.pick [0, 1] rfl) hb Za
       (o_p rfl (Zc rfl rfl u_0) <| o_p rfl (Zs Zum (Zoo _ h11) rfl rfl (.cons u_0 .nil)) <| o_p rfl (Zc rfl rfl u_0) <| o_p rfl (Z8 rfl rfl u_0 u_1) <| o_p rfl (Zb rfl rfl u_0) <| o_n) (by kernel_rfl) (fun a g hst hb => ?_)
     refine wp_ret ?_
     refine Zt ?_
     refine Zk ?_
     obtain rfl := Option.some.inj H0
     exact Zy rfl hst hb (Zi (s := 4)) (hst.at 0 rfl)
   · replace H0 := Zr hc9 H0
     refine wp_skip ?_
     refine Zbe ?_
     refine Zn ?_
     refine r_s (L := []) (T := [⟨[], _, [], [], [4]⟩]) (F := [.op 0 0]) (hst.pick [] rfl) hb Za
       (o_p rfl (Zb rfl rfl c_b) <| o_n) (by kernel_rfl) (fun a g hst hb => ?_)
     refine wp_ret ?_
     obtain rfl := Option.some.inj H0
     exact Zy rfl hst hb (Zi (s := 4)) (hst.at 0 rfl)
 · refine wp_cond_split (hst.bool 3 rfl) (fun hc1 => ?_) (fun hc1 => ?_)
   · replace H0 := Zp hc1 H0
     refine wp_skip ?_
     exact ⟨(a1 == (7 : Int)), g, rfl, (hst.pick [0, 1, 3] rfl), hb, H0⟩
   · replace H0 := Zr hc1 H0
     refine r_s (L := [(0, _), (1, _), (5, _)]) (T := [⟨[.old 2], _, [], [], [8]⟩, ⟨[.op 0 0], _, [], [0], [6]⟩]) (F := [.old 0, .old 1, .old 2, .op 1 0]) (hst.pick [0, 1, 2] rfl) hb Za
       (o_p rfl (Z8 rfl rfl u_0 c_i) <| o_p rfl (Zb rfl rfl u_0) <| o_n) (by kernel_rfl) (fun a g hst hb => ?_)
     refine wp_cond_split (hst.bool 3 rfl) (fun hc2 => ?_) (fun hc2 => ?_)
     · replace H0 := Zp hc2 H0
       refine wp_skip ?_
       exact ⟨(a1 == (8 : Int)), g, rfl, (hst.pick [0, 1, 3] rfl), hb, H0⟩
     · replace H0 := Zr hc2 H0
       refine r_s (L := [(0, _), (1, _), (5, _)]) (T := [⟨[.old 2], _, [], [], [9]⟩, ⟨[.op 0 0], _, [], [0], [6]⟩]) (F := [.old 0, .old 1, .old 2, .op 1 0]) (hst.pick [0, 1, 2] rfl) hb Za
         (o_p rfl (Z8 rfl rfl u_0 c_i) <| o_p rfl (Zb rfl rfl u_0) <| o_n) (by kernel_rfl) (fun a g hst hb => ?_)
       refine wp_cond_split (hst.bool 3 rfl) (fun hc3 => ?_) (fun hc3 => ?_)
       · replace H0 := Zp hc3 H0
         refine wp_skip ?_
         exact ⟨(a1 == (10 : Int)), g, rfl, (hst.pick [0, 1, 3] rfl), hb, H0⟩
       · replace H0 := Zr hc3 H0
         refine r_s (L := [(0, _), (1, _), (5, _)]) (T := [⟨[.old 2], _, [], [], [10]⟩, ⟨[.op 0 0], _, [], [0], [6]⟩]) (F := [.old 0, .old 1, .old 2, .op 1 0]) (hst.pick [0, 1, 2] rfl) hb Za
           (o_p rfl (Z8 rfl rfl u_0 c_i) <| o_p rfl (Zb rfl rfl u_0) <| o_n) (by kernel_rfl) (fun a g hst hb => ?_)
         refine wp_cond_split (hst.bool 3 rfl) (fun hc4 => ?_) (fun hc4 => ?_)
         · replace H0 := Zp hc4 H0
           refine wp_skip ?_
           exact ⟨(a1 == (11 : Int)), g, rfl, (hst.pick [0, 1, 3] rfl), hb, H0⟩
         · replace H0 := Zr hc4 H0
           refine r_s (L := [(0, _), (1, _), (5, _)]) (T := [⟨[.old 2], _, [], [], [11]⟩, ⟨[.op 0 0], _, [], [0], [6]⟩]) (F := [.old 0, .old 1, .old 2, .op 1 0]) (hst.pick [0, 1, 2] rfl) hb Za
             (o_p rfl (Z8 rfl rfl u_0 c_i) <| o_p rfl (Zb rfl rfl u_0) <| o_n) (by kernel_rfl) (fun a g hst hb => ?_)
           refine wp_cond_split (hst.bool 3 rfl) (fun hc5 => ?_) (fun hc5 => ?_)
           · replace H0 := Zp hc5 H0
             refine wp_skip ?_
             exact ⟨(a1 == (13 : Int)), g, rfl, (hst.pick [0, 1, 3] rfl), hb, H0⟩
           · replace H0 := Zr hc5 H0
             refine r_s (L := [(0, _), (1, _), (5, _)]) (T := [⟨[.old 2], _, [], [], [12]⟩, ⟨[.op 0 0], _, [], [0], [6]⟩]) (F := [.old 0, .old 1, .old 2, .op 1 0]) (hst.pick [0, 1, 2] rfl) hb Za
               (o_p rfl (Z8 rfl rfl u_0 c_i) <| o_p rfl (Zb rfl rfl u_0) <| o_n) (by kernel_rfl) (fun a g hst hb => ?_)
             refine wp_cond_split (hst.bool 3 rfl) (fun hc6 => ?_) (fun hc6 => ?_)
             · replace H0 := Zp hc6 H0
               refine wp_skip ?_
               exact ⟨(a1 == (14 : Int)), g, rfl, (hst.pick [0, 1, 3] rfl), hb, H0⟩
             · replace H0 := Zr hc6 H0
               refine r_s (L := [(0, _), (1, _), (5, _)]) (T := [⟨[.old 2], _, [], [], [13]⟩, ⟨[.op 0 0], _, [], [0], [6]⟩]) (F := [.old 0, .old 1, .old 2, .op 1 0]) (hst.pick [0, 1, 2] rfl) hb Za
                 (o_p rfl (Z8 rfl rfl u_0 c_i) <| o_p rfl (Zb rfl rfl u_0) <| o_n) (by kernel_rfl) (fun a g hst hb => ?_)
               refine wp_cond_split (hst.bool 3 rfl) (fun hc7 => ?_) (fun hc7 => ?_)
               · replace H0 := Zp hc7 H0
                 refine wp_skip ?_
                 exact ⟨(a1 == (18 : Int)), g, rfl, (hst.pick [0, 1, 3] rfl), hb, H0⟩
               · replace H0 := Zr hc7 H0
                 refine r_g (L := [(0, _), (1, _), (5, _)]) (T := [⟨[.old 2], _, [], [], [14]⟩, ⟨[.op 0 0], _, [], [0], [6]⟩]) (F := [.old 0, .old 1, .op 1 0]) (hst.pick [0, 1, 2] rfl) hb Za
                   (o_p rfl (Z8 rfl rfl u_0 c_i) <| o_p rfl (Zb rfl rfl u_0) <| o_n) (by kernel_rfl) (fun a g hst hb => ?_)
                 exact ⟨(a1 == (21 : Int)), g, rfl, (hst.pick [0, 1, 2] rfl), hb, H0⟩
theorem Zha (a0 : (List Zj)) {r : (List Zj)} (h : Zbq a0 = some r) : FnOk Tryd.prog 64 [(Zm.sl.pd a0)] (Zm.sl.pd r) := by
 unfold Zbq at h
 obtain ⟨hsz, H0⟩ := Zh4 h
 obtain rfl := Option.some.inj H0
 refine Zbo (N := 8) Tryd.func64 rfl rfl (Nat.le_of_ble_eq_true rfl) rfl rfl (fun a g0 hst hb => ?_)
 refine wp_seq ?_
 refine Zkb Za (N := 8) (L := [(0, (Zm.sl.pd a0))]) (T := [⟨[], [(2, (Zm.sl.pd []))], [], [], [2]⟩]) (F := [.old 0]) (by kernel_rfl)
   (Zfo (OT.plain rfl (Zb rfl rfl (Opd.c (fun g => Zhj g)))) Zjr) hst hb (fun a g hst hb => ?_)
 refine Zn ?_
 refine wp_seq ?_
 refine wp_seq ?_
 refine Zkb Za (N := 8) (L := [(0, (Zm.sl.pd a0))]) (T := [⟨[.old 0], [(3, (Zm.sl.pd a0))], [], [], [3]⟩, ⟨[.op 0 0], [(4, Zvb a0)], [], [0], [4]⟩]) (F := [.old 0, .op 1 0]) (by kernel_rfl)
   (Zfo (OT.plain rfl (Zc rfl rfl Opd.t0)) (Zfo (OT.plain rfl (Zq8 Tryd.underlying23 rfl rfl Opd.t0)) Zjr)) hst hb (fun a g hst hb => ?_)
 refine Zn ?_
 obtain ⟨c, hc, hc'⟩ := hst.at 1 rfl
 refine wp_cond_split hc (fun ht => ?_) (fun hf => ?_)
 · obtain rfl := hc' ht
   refine wp_seq ?_
   refine Zkb Za (N := 8) (L := []) (T := [⟨[], [(2, (Zm.sl.pd []))], [], [], [2]⟩]) (F := [.op 0 0]) (by kernel_rfl)
     (Zfo (OT.plain rfl (Zb rfl rfl (Opd.c (fun g => Zhj g)))) Zjr) (hst.pick [] rfl) hb (fun a g hst hb => ?_)
   refine Zn ?_
   refine wp_ret ?_
   refine Zk ?_
   exact Zy rfl hst hb (Zi (s := 2)) (hst.at 0 rfl)
 · refine wp_skip ?_
   refine Zn ?_
   refine wp_seq ?_
   have hsz' : (([] : (List Zj)).length + a0.length) * 24 ≤ 140737488355328 := by simpa using hsz
   refine Zkb Za (N := 8) (L := [(0, (Zm.sl.pd a0))]) (T := [⟨[], [(5, (pRow Zm 75 5 []))], [6], [], [5]⟩, ⟨[.old 0], [(6, (Zm.sl.pd a0))], [], [], [6]⟩, ⟨[.op 0 0, .op 1 0], [(7, (pRow Zm 75 5 ([] ++ a0)))], [6], [0, 1], [5, 7]⟩, ⟨[.op 2 0], [(2, (pRow Zm 75 5 ([] ++ a0)))], [], [0, 1, 2], [2]⟩]) (F := [.op 3 0]) (by kernel_rfl)
     (Zfo (OT.plain rfl (Ztl 5 Zc1 (xs := []) .nil (by decide) rfl rfl)) (Zfo (OT.plain rfl (Zc rfl rfl Opd.t0)) (Zfo (OT.plain rfl (Zoe Zc1 rfl rfl Opd.t0 (Opd.tl Opd.t0) hsz')) (Zfo (OT.plain rfl (Zb rfl rfl Opd.t0)) Zjr)))) (hst.pick [0] rfl) hb (fun a g hst hb => ?_)
   refine Zn ?_
   refine wp_ret ?_
   exact Zy rfl hst hb (Zi (s := 2)) (Zoc (hst.at 0 rfl))
theorem Zdc (a0 : (List Zj)) {r : (List Zj)} (h : Zbq a0 = some r) : Zny Tryd.prog 64 [(Zm.sl.pd a0)] Zm 75 r := by
 unfold Zbq at h
 obtain ⟨hsz, H0⟩ := Zh4 h
 obtain rfl := Option.some.inj H0
 refine Zrr (N := 8) Tryd.func64 rfl rfl (Nat.le_of_ble_eq_true rfl) rfl (fun a g0 h0 hst hb => ?_)
 refine r_s (T := [⟨[], [(2, (Zm.sl.pd []))], [], [], [2]⟩]) (F := [.old 0]) hst hb Za
   (o_p rfl (Zb rfl rfl (Opd.c (fun g => Zhj g))) <| o_n) (by kernel_rfl) (fun a g hst hb => ?_)
 refine wp_seq ?_
 refine r_s (T := [⟨[.old 0], _, [], [], [3]⟩, ⟨[.op 0 0], _, [], [0], [4]⟩]) (F := [.old 0, .op 1 0]) hst hb Za
   (o_p rfl (Zc rfl rfl u_0) <| o_p rfl (Zq8 Tryd.underlying23 rfl rfl u_0) <| o_n) (by kernel_rfl) (fun a g hst hb => ?_)
 obtain ⟨c, hc, hc'⟩ := hst.at 1 rfl
 refine wp_cond_split hc (fun ht => ?_) (fun hf => ?_)
 · obtain rfl := hc' ht
   refine r_s (L := []) (T := [⟨[], [(2, (pEq (.slice none 0 0)))], [], [], [2]⟩]) (F := [.op 0 0]) (hst.pick [] rfl) hb Za
     (o_p rfl (Zb rfl rfl (Opd.c (fun g => rfl))) <| o_n) (by kernel_rfl) (fun a g hst hb => ?_)
   refine wp_ret ?_
   refine Zk ?_
   exact Zqh rfl hst hb (Zi (s := 2)) ⟨none, hst.at 0 rfl⟩
 · refine wp_skip ?_
   refine Zn ?_
   refine r_s (L := [(0, _)]) (T := [⟨[], [(5, (pOwn Zm 75 5 (some 0) (([] : (List Zj)).map some)))], [6], [], [5]⟩, ⟨[.old 0], _, [], [], [6]⟩, ⟨[.op 0 0, .op 1 0], _, [6], [0, 1], [5, 7]⟩, ⟨[.op 2 0], _, [], [0, 1, 2], [2]⟩]) (F := [.op 3 0]) (hst.pick [0] rfl) hb Za
     (o_p rfl (Ztk (ty := 0) Zc1 rfl rfl) <| o_p rfl (Zc rfl rfl u_0) <| o_p rfl (Zkq Zc1 rfl rfl u_0 u_1 (by simpa using hsz)) <| o_p rfl (Zb rfl rfl u_0) <| o_n) (by kernel_rfl) (fun a g hst hb => ?_)
   refine wp_ret ?_
   exact Zuh rfl h0 hst hb (Zi (s := 2)) (hst.at 0 rfl)
theorem Ze6 (a0 : Zd) {r : Zd} (h : Zeg a0 = some r) : FnOk Tryd.prog 37 [(Zf.pd a0)] (Zf.pd r) := by
 have H0 := h
 unfold Zeg at H0
 clear h
 refine Zbo (N := 8) Tryd.func37 rfl rfl (Nat.le_of_ble_eq_true rfl) rfl rfl (fun a g0 hst hb => ?_)
 refine r_s (T := [⟨[.old 0], _, [2], [], [1]⟩, ⟨[], [(2, (pBox Zf 2 (default : Zd)))], [3], [], [2]⟩]) (F := [.op 0 0, .op 1 0]) hst hb Za
   (o_p rfl (Zj2 rfl rfl u_0) <| o_p rfl (Zbj (zs := [.int .i64 0, .int .i64 0, .int .i64 0, .int .i64 0, .float .f64 0, .int .i64 0, .string ByteArray.empty, .slice none 0 0]) (by kernel_rfl) (fun g => Zbr g) rfl rfl) <| o_n) (by kernel_rfl) (fun a g hst hb => ?_)
 obtain ⟨r1, h2, H0⟩ := Zh H0
 refine r_s (T := [⟨[.old 0], _, [], [], [3]⟩, ⟨[.op 0 0], _, [], [0], [4]⟩, ⟨[.op 1 0], _, [], [0, 1], [5]⟩, ⟨[.old 0], _, [], [0, 1, 2], [6]⟩, ⟨[.op 2 0, .op 3 0, .old 0], _, [2], Lr 4, [1, 3, 6]⟩]) (F := [.op 4 0, .old 1]) hst hb Za
   (o_p rfl (Zo Zbu (off := 7) (by kernel_rfl) rfl rfl u_0) <| o_p rfl (Zbi Zck rfl rfl u_0) <| o_p rfl (Zs Zpf (Zha _ h2) rfl rfl (.cons u_0 .nil)) <| o_p rfl (Zo Zbu (off := 7) (by kernel_rfl) rfl rfl u_0) <| o_p rfl (Zlv Zck rfl rfl u_2 u_1 u_0) <| o_n) (by kernel_rfl) (fun a g hst hb => ?_)
 refine r_s (T := [⟨[.old 0], _, [], [], [7]⟩, ⟨[.op 0 0, .old 1], _, [3], [0], [2]⟩]) (F := [.op 1 0]) hst hb Za
   (o_p rfl (Zdd Z4 rfl rfl u_0) <| o_p rfl (Z6 Z4 rfl rfl u_1 u_0) <| o_n) (by kernel_rfl) (fun a g hst hb => ?_)
 refine wp_ret ?_
 obtain rfl := Option.some.inj H0
 obtain ⟨u0, hu0, hq0⟩ := Zba (P := Tryd.prog) Z4 (hst.at 0 rfl)
 exact Zy rfl hst hb hu0 hq0
theorem Znh (a0 : Nat) (a1 : Nat) {r : Nat} (h : Zhm a0 a1 = some r) : FnOk Tryd.prog 38 [(pFlt a0), (pFlt a1)] (pFlt r) := by
 have H0 := h
 unfold Zhm at H0
 clear h
 refine Zbo (N := 12) Tryd.func38 rfl rfl (Nat.le_of_ble_eq_true rfl) rfl rfl (fun a g0 hst hb => ?_)
 refine r_s (T := [⟨[], _, [], [], [4]⟩]) (F := [.old 0, .old 1]) hst hb Za
   (o_p rfl (Zb rfl rfl c_f) <| o_n) (by kernel_rfl) (fun a g hst hb => ?_)
 refine wp_seq ?_
 obtain ⟨r1, h2, H0⟩ := Zh H0
 refine r_s (T := [⟨[.old 0], _, [], [], [5]⟩, ⟨[.old 1], _, [], [], [6]⟩, ⟨[.op 0 0, .op 1 0], _, [], [0, 1], [7]⟩]) (F := [.old 0, .old 1, .op 2 0]) hst hb Za
   (o_p rfl (Zc rfl rfl u_0) <| o_p rfl (Zc rfl rfl u_0) <| o_p rfl (Zs Zr3 (Zjv _ _ h2) rfl rfl (.cons u_0 (.cons u_1 .nil))) <| o_n) (by kernel_rfl) (fun a g hst hb => ?_)
 refine wp_cond_split (hst.bool 2 rfl) (fun hc3 => ?_) (fun hc3 => ?_)
 · replace H0 := Zp hc3 H0
   obtain ⟨r4, h5, H0⟩ := Zh H0
   refine r_s (L := [(1, _)]) (T := [⟨[.old 0], _, [], [], [8]⟩, ⟨[.op 0 0], _, [], [0], [9]⟩, ⟨[.op 1 0], _, [], [0, 1], [4]⟩]) (F := [.op 2 0]) (hst.pick [1] rfl) hb Za
     (o_p rfl (Zc rfl rfl u_0) <| o_p rfl (Zs Zjp (Zej _ h5) rfl rfl (.cons u_0 .nil)) <| o_p rfl (Zb rfl rfl u_0) <| o_n) (by kernel_rfl) (fun a g hst hb => ?_)
   refine wp_ret ?_
   refine Zk ?_
   obtain rfl := Option.some.inj H0
   exact Zy rfl hst hb (Zi (s := 4)) (hst.at 0 rfl)
 · replace H0 := Zr hc3 H0
   refine wp_skip ?_
   refine Zn ?_
   obtain ⟨r6, h7, H0⟩ := Zh H0
   refine r_s (L := [(0, _)]) (T := [⟨[.old 0], _, [], [], [10]⟩, ⟨[.op 0 0], _, [], [0], [11]⟩, ⟨[.op 1 0], _, [], [0, 1], [4]⟩]) (F := [.op 2 0]) (hst.pick [0] rfl) hb Za
     (o_p rfl (Zc rfl rfl u_0) <| o_p rfl (Zs Zjp (Zej _ h7) rfl rfl (.cons u_0 .nil)) <| o_p rfl (Zb rfl rfl u_0) <| o_n) (by kernel_rfl) (fun a g hst hb => ?_)
   refine wp_ret ?_
   obtain rfl := Option.some.inj H0
   exact Zy rfl hst hb (Zi (s := 4)) (hst.at 0 rfl)
theorem Zng (a0 : Nat) (a1 : Nat) {r : Nat} (h : Zhp a0 a1 = some r) : FnOk Tryd.prog 39 [(pFlt a0), (pFlt a1)] (pFlt r) := by
 have H0 := h
 unfold Zhp at H0
 clear h
 refine Zbo (N := 12) Tryd.func39 rfl rfl (Nat.le_of_ble_eq_true rfl) rfl rfl (fun a g0 hst hb => ?_)
 refine r_s (T := [⟨[], _, [], [], [4]⟩]) (F := [.old 0, .old 1]) hst hb Za
   (o_p rfl (Zb rfl rfl c_f) <| o_n) (by kernel_rfl) (fun a g hst hb => ?_)
 refine wp_seq ?_
 obtain ⟨r1, h2, H0⟩ := Zh H0
 refine r_s (T := [⟨[.old 1], _, [], [], [5]⟩, ⟨[.old 0], _, [], [], [6]⟩, ⟨[.op 0 0, .op 1 0], _, [], [0, 1], [7]⟩]) (F := [.old 0, .old 1, .op 2 0]) hst hb Za
   (o_p rfl (Zc rfl rfl u_0) <| o_p rfl (Zc rfl rfl u_0) <| o_p rfl (Zs Zr3 (Zjv _ _ h2) rfl rfl (.cons u_0 (.cons u_1 .nil))) <| o_n) (by kernel_rfl) (fun a g hst hb => ?_)
 refine wp_cond_split (hst.bool 2 rfl) (fun hc3 => ?_) (fun hc3 => ?_)
 · replace H0 := Zp hc3 H0
   obtain ⟨r4, h5, H0⟩ := Zh H0
   refine r_s (L := [(1, _)]) (T := [⟨[.old 0], _, [], [], [8]⟩, ⟨[.op 0 0], _, [], [0], [9]⟩, ⟨[.op 1 0], _, [], [0, 1], [4]⟩]) (F := [.op 2 0]) (hst.pick [1] rfl) hb Za
     (o_p rfl (Zc rfl rfl u_0) <| o_p rfl (Zs Zjp (Zej _ h5) rfl rfl (.cons u_0 .nil)) <| o_p rfl (Zb rfl rfl u_0) <| o_n) (by kernel_rfl) (fun a g hst hb => ?_)
   refine wp_ret ?_
   refine Zk ?_
   obtain rfl := Option.some.inj H0
   exact Zy rfl hst hb (Zi (s := 4)) (hst.at 0 rfl)
 · replace H0 := Zr hc3 H0
   refine wp_skip ?_
   refine Zn ?_
   obtain ⟨r6, h7, H0⟩ := Zh H0
   refine r_s (L := [(0, _)]) (T := [⟨[.old 0], _, [], [], [10]⟩, ⟨[.op 0 0], _, [], [0], [11]⟩, ⟨[.op 1 0], _, [], [0, 1], [4]⟩]) (F := [.op 2 0]) (hst.pick [0] rfl) hb Za
     (o_p rfl (Zc rfl rfl u_0) <| o_p rfl (Zs Zjp (Zej _ h7) rfl rfl (.cons u_0 .nil)) <| o_p rfl (Zb rfl rfl u_0) <| o_n) (by kernel_rfl) (fun a g hst hb => ?_)
   refine wp_ret ?_
   obtain rfl := Option.some.inj H0
   exact Zy rfl hst hb (Zi (s := 4)) (hst.at 0 rfl)
theorem Zfz (a0 : Zb8) (a1 : Int) {r : Bool} (h : Zez a0 a1 = some r) : FnOk Tryd.prog 104 [(Zcx.pd a0), (pInt .u8 a1)] (Z5 r) := by
 have H0 := h
 unfold Zez at H0
 clear h
 refine Zbo (N := 19) Tryd.func104 rfl rfl (Nat.le_of_ble_eq_true rfl) rfl rfl (fun a g0 hst hb => ?_)
 refine r_s (T := [⟨[.old 0], _, [], [], [2]⟩, ⟨[], _, [], [], [4]⟩]) (F := [.old 1, .op 0 0]) hst hb Za
   (o_p rfl (Zbk rfl rfl u_0) <| o_p rfl (Zb rfl rfl c_b) <| o_n) (by kernel_rfl) (fun a g hst hb => ?_)
 refine wp_seq ?_
 refine r_s (T := [⟨[.old 1], _, [], [], [6]⟩, ⟨[.op 0 0], _, [], [0], [7]⟩, ⟨[.op 1 0], _, [], [0, 1], [8]⟩, ⟨[], _, [], [], [9]⟩]) (F := [.old 0, .old 1, .op 2 0, .op 3 0]) hst hb Za
   (o_p rfl (Ze Zpt rfl rfl u_0) <| o_p rfl (Zg ty_9 rfl rfl u_0) <| o_p rfl (Zfa Tryd.underlying9 rfl rfl u_0) <| o_p rfl (Zc rfl rfl c_i) <| o_n) (by kernel_rfl) (fun a g hst hb => ?_)
 obtain ⟨z6, hz1, H0⟩ := Zh H0
 refine Zcf (fun a w => ∃ (g : G), w = g.w ∧ St 19 [] a g ∧ Base g0 g ∧ (.inr ()) = z6) ?_ ?_
 · rintro a w ⟨g, rfl, hst, hb, rfl⟩
   refine Zn ?_
   refine r_s (T := [⟨[], _, [], [], [4]⟩]) (F := [.op 0 0]) hst hb Za
     (o_p rfl (Zb rfl rfl c_b) <| o_n) (by kernel_rfl) (fun a g hst hb => ?_)
   refine wp_ret ?_
   obtain rfl := Option.some.inj H0
   exact Zy rfl hst hb (Zi (s := 4)) (hst.at 0 rfl)
 · refine wp_block ?_
   refine wp_loop_ghost (fun n a w => ∃ (x1 : Int) (g : G), w = g.w ∧ St 19 [(1, (pInt .u8 a1)), (2, (Zcx.ptr a0)), (8, (pInt .i64 (a0.has.size : Int))), (9, (pInt .i64 x1))] a g ∧ Base g0 g ∧ Zeu a0 a1 n x1 = some z6) (Int.toNat ((a0.has.size : Int) - (0 : Int)) + 1) ⟨(0 : Int), g, rfl, (hst.pick [0, 1, 2, 3] rfl), hb, hz1⟩ (fun n a w hI => ?_)
   obtain ⟨x1, g, rfl, hst, hb, H1⟩ := hI
   cases n with
   | zero => exact absurd H1 (by simp [Zeu])
   | succ n =>
     rw [Zeu] at H1
     refine r_s (T := [⟨[.old 3, .old 2], _, [], [], [10]⟩]) (F := [.old 0, .old 1, .old 2, .old 3, .op 0 0]) hst hb Za
       (o_p rfl (Zce rfl rfl u_0 u_1) <| o_n) (by kernel_rfl) (fun a g hst hb => ?_)
     refine wp_seq ?_
     refine wp_cond_split (hst.bool 4 rfl) (fun hc2 => ?_) (fun hc2 => ?_)
     · replace H1 := Zp hc2 H1
       refine wp_skip ?_
       refine Zn ?_
       refine wp_seq ?_
       refine wp_block ?_
       refine r_s (L := [(1, _), (2, _), (8, _), (9, _)]) (T := [⟨[.old 3], _, [], [], [11]⟩, ⟨[.op 0 0], _, [], [0], [5]⟩]) (F := [.old 0, .old 1, .op 1 0, .old 2, .old 3]) (hst.pick [0, 1, 2, 3] rfl) hb Za
         (o_p rfl (Zc rfl rfl u_0) <| o_p rfl (Zb rfl rfl u_0) <| o_n) (by kernel_rfl) (fun a g hst hb => ?_)
       obtain ⟨b3, h4, H1⟩ := Zh H1
       refine r_s (T := [⟨[.old 1], _, [], [], [12]⟩, ⟨[.op 0 0], _, [], [0], [13]⟩, ⟨[.old 2], _, [], [], [14]⟩, ⟨[.op 1 0, .op 2 0], _, [], [0, 1, 2], [15]⟩, ⟨[.old 0], _, [], [], [16]⟩, ⟨[.op 3 0, .op 4 0], _, [], Lr 5, [17]⟩]) (F := [.old 0, .old 1, .old 3, .old 4, .op 5 0]) hst hb Za
         (o_p rfl (Ze Zpt rfl rfl u_0) <| o_p rfl (Zg ty_9 rfl rfl u_0) <| o_p rfl (Zc rfl rfl u_0) <| o_p rfl (Zi4 Tryd.underlying9 rfl rfl u_0 u_1 h4) <| o_p rfl (Zc rfl rfl u_0) <| o_p rfl (Z8 rfl rfl u_0 u_1) <| o_n) (by kernel_rfl) (fun a g hst hb => ?_)
       refine wp_cond_split (hst.bool 4 rfl) (fun hc5 => ?_) (fun hc5 => ?_)
       · replace H1 := Zp hc5 H1
         refine r_s (L := []) (T := [⟨[], _, [], [], [4]⟩]) (F := [.op 0 0]) (hst.pick [] rfl) hb Za
           (o_p rfl (Zb rfl rfl c_b) <| o_n) (by kernel_rfl) (fun a g hst hb => ?_)
         refine wp_ret ?_
         refine Zt ?_
         refine Zk ?_
         refine Zk ?_
         refine Zt ?_
         refine Zk ?_
         refine Zk ?_
         obtain rfl := Option.some.inj H1
         obtain rfl := Option.some.inj H0
         exact Zy rfl hst hb (Zi (s := 4)) (hst.at 0 rfl)
       · replace H1 := Zr hc5 H1
         refine wp_skip ?_
         refine Zbe ?_
         refine Zn ?_
         refine r_g (L := [(1, _), (2, _), (8, _), (9, _)]) (T := [⟨[.old 3], _, [], [], [18]⟩, ⟨[.op 0 0], _, [], [0], [9]⟩]) (F := [.old 0, .old 1, .old 2, .op 1 0]) (hst.pick [0, 1, 2, 3] rfl) hb Za
           (o_p rfl (Zcq rfl rfl u_0 c_i rfl) <| o_p rfl (Zc rfl rfl u_0) <| o_n) (by kernel_rfl) (fun a g hst hb => ?_)
         exact ⟨n, Nat.lt_succ_self _, (IntKind.i64.wrap (x1 + (1 : Int))), g, rfl, (hst.pick [0, 1, 2, 3] rfl), hb, H1⟩
     · replace H1 := Zr hc2 H1
       refine wp_exit ?_
       refine Zcg ?_
       refine Zcg ?_
       refine Zc4 ?_
       exact ⟨g, rfl, (hst.pick [] rfl), hb, Option.some.inj H1⟩
theorem Zec (f2 : Nat) (C2 : List Pd) (hC2 : Free C2) (e2_ : Zl Tryd.prog f2) (φ2 : Zj → Zj → Option Bool) (hφ2 : ∀ (y0 : Zj) (y1 : Zj) (r : Bool), φ2 y0 y1 = some r → FnOk Tryd.prog f2 ([(Zm.pd y0), (Zm.pd y1)] ++ C2) (Z5 r)) (a0 : List Zj) (a1 : List Zj) {r : Bool} (h : Zcd a0 a1 φ2 = some r) : FnOk Tryd.prog 110 [(Zm.sl.pd a0), (Zm.sl.pd a1), (pClo f2 C2 hC2)] (Z5 r) := by
 have H0 := h
 unfold Zcd at H0
 clear h
 refine Zbo (N := 32) Tryd.func110 rfl rfl (Nat.le_of_ble_eq_true rfl) rfl rfl (fun a g0 hst hb => ?_)
 refine r_s (T := [⟨[], _, [], [], [6]⟩]) (F := [.old 0, .old 1, .old 2]) hst hb Za
   (o_p rfl (Zb rfl rfl c_b) <| o_n) (by kernel_rfl) (fun a g hst hb => ?_)
 refine wp_seq ?_
 refine r_s (T := [⟨[.old 0], _, [], [], [10]⟩, ⟨[.op 0 0], _, [], [0], [11]⟩, ⟨[.old 1], _, [], [], [12]⟩, ⟨[.op 2 0], _, [], [2], [13]⟩, ⟨[.op 1 0, .op 3 0], _, [], Lr 4, [14]⟩]) (F := [.old 0, .old 1, .old 2, .op 4 0]) hst hb Za
   (o_p rfl (Zc rfl rfl u_0) <| o_p rfl (Zca Tryd.underlying23 rfl rfl u_0) <| o_p rfl (Zc rfl rfl u_0) <| o_p rfl (Zca Tryd.underlying23 rfl rfl u_0) <| o_p rfl (Zcv rfl rfl u_0 u_1) <| o_n) (by kernel_rfl) (fun a g hst hb => ?_)
 refine wp_cond_split (hst.bool 3 rfl) (fun hc1 => ?_) (fun hc1 => ?_)
 · replace H0 := Zp hc1 H0
   refine r_s (L := []) (T := [⟨[], _, [], [], [6]⟩]) (F := [.op 0 0]) (hst.pick [] rfl) hb Za
     (o_p rfl (Zb rfl rfl c_b) <| o_n) (by kernel_rfl) (fun a g hst hb => ?_)
   refine wp_ret ?_
   refine Zk ?_
   obtain rfl := Option.some.inj H0
   exact Zy rfl hst hb (Zi (s := 6)) (hst.at 0 rfl)
 · replace H0 := Zr hc1 H0
   refine wp_skip ?_
   refine Zn ?_
   refine wp_seq ?_
   refine r_s (L := [(0, _), (1, _), (2, _)]) (T := [⟨[.old 0], _, [], [], [15]⟩, ⟨[.op 0 0], _, [], [0], [16]⟩, ⟨[], _, [], [], [17]⟩]) (F := [.old 1, .old 2, .op 0 0, .op 1 0, .op 2 0]) (hst.pick [0, 1, 2] rfl) hb Za
     (o_p rfl (Zc rfl rfl u_0) <| o_p rfl (Zca Tryd.underlying23 rfl rfl u_0) <| o_p rfl (Zc rfl rfl c_i) <| o_n) (by kernel_rfl) (fun a g hst hb => ?_)
   obtain ⟨z11, hz1, H0⟩ := Zh H0
   refine Zcf (fun a w => ∃ (g : G), w = g.w ∧ St 32 [] a g ∧ Base g0 g ∧ (.inr ()) = z11) ?_ ?_
   · rintro a w ⟨g, rfl, hst, hb, rfl⟩
     refine Zn ?_
     refine r_s (T := [⟨[], _, [], [], [6]⟩]) (F := [.op 0 0]) hst hb Za
       (o_p rfl (Zb rfl rfl c_b) <| o_n) (by kernel_rfl) (fun a g hst hb => ?_)
     refine wp_ret ?_
     obtain rfl := Option.some.inj H0
     exact Zy rfl hst hb (Zi (s := 6)) (hst.at 0 rfl)
   · refine wp_block ?_
     refine wp_loop_ghost (fun n a w => ∃ (x2 : Int) (g : G), w = g.w ∧ St 32 [(1, (Zm.sl.pd a1)), (2, (pClo f2 C2 hC2)), (15, (Zm.sl.pd a0)), (16, (pInt .i64 (a0.length : Int))), (17, (pInt .i64 x2))] a g ∧ Base g0 g ∧ Zbm a0 a1 φ2 n x2 = some z11) (Int.toNat ((a0.length : Int) - (0 : Int)) + 1) ⟨(0 : Int), g, rfl, (hst.pick [0, 1, 2, 3, 4] rfl), hb, hz1⟩ (fun n a w hI => ?_)
     obtain ⟨x2, g, rfl, hst, hb, H1⟩ := hI
     cases n with
     | zero => exact absurd H1 (by simp [Zbm])
     | succ n =>
       rw [Zbm] at H1
       refine r_s (T := [⟨[.old 4, .old 3], _, [], [], [18]⟩]) (F := [.old 0, .old 1, .old 2, .old 3, .old 4, .op 0 0]) hst hb Za
         (o_p rfl (Zce rfl rfl u_0 u_1) <| o_n) (by kernel_rfl) (fun a g hst hb => ?_)
       refine wp_seq ?_
       refine wp_cond_split (hst.bool 5 rfl) (fun hc3 => ?_) (fun hc3 => ?_)
       · replace H1 := Zp hc3 H1
         refine wp_skip ?_
         refine Zn ?_
         refine wp_seq ?_
         refine wp_block ?_
         obtain ⟨e4, h5, H1⟩ := Zh H1
         refine r_s (L := [(1, _), (2, _), (15, _), (16, _), (17, _)]) (T := [⟨[.old 4], _, [], [], [19]⟩, ⟨[.old 2, .old 4], _, [], [], [20]⟩, ⟨[.op 1 0], _, [], [1], [21]⟩, ⟨[], [(8, (pBox Zm 8 (default : Zj)))], [9], [], [8]⟩, ⟨[.op 0 0], _, [], Lr 4, [7]⟩, ⟨[.op 2 0, .op 3 0], _, [9], Lr 5, [8]⟩]) (F := [.old 0, .old 1, .op 4 0, .op 5 0, .old 2, .old 3, .old 4]) (hst.pick [0, 1, 2, 3, 4] rfl) hb Za
           (o_p rfl (Zc rfl rfl u_0) <| o_p rfl (Zbn Tryd.underlying23 Zen rfl rfl u_0 u_1 h5) <| o_p rfl (Zg Zc9 rfl rfl u_0) <| o_p rfl (Zbj (zs := [.float .f64 0, .string ByteArray.empty]) (by kernel_rfl) (fun g => Zey g) rfl rfl) <| o_p rfl (Zb rfl rfl u_0) <| o_p rfl (Zb4 Zc9 rfl rfl u_1 u_0) <| o_n) (by kernel_rfl) (fun a g hst hb => ?_)
         obtain ⟨e6, h7, H1⟩ := Zh H1
         refine r_s (T := [⟨[.old 0], _, [], [], [22]⟩, ⟨[.old 2], _, [], [], [23]⟩, ⟨[.op 0 0, .op 1 0], _, [], [0, 1], [24]⟩, ⟨[.op 2 0], _, [], [0, 1, 2], [25]⟩, ⟨[], [(9, (pBox Zm 9 (default : Zj)))], [10], [], [9]⟩, ⟨[.op 3 0, .op 4 0], _, [10], Lr 5, [9]⟩]) (F := [.old 0, .old 1, .old 3, .op 5 0, .old 4, .old 5, .old 6]) hst hb Za
           (o_p rfl (Zc rfl rfl u_0) <| o_p rfl (Zc rfl rfl u_0) <| o_p rfl (Zbn Tryd.underlying23 Zen rfl rfl u_0 u_1 h7) <| o_p rfl (Zg Zc9 rfl rfl u_0) <| o_p rfl (Zbj (zs := [.float .f64 0, .string ByteArray.empty]) (by kernel_rfl) (fun g => Zey g) rfl rfl) <| o_p rfl (Zb4 Zc9 rfl rfl u_1 u_0) <| o_n) (by kernel_rfl) (fun a g hst hb => ?_)
         obtain ⟨r8, h9, H1⟩ := Zh H1
         refine r_s (T := [⟨[.old 1], _, [], [], [26]⟩, ⟨[.old 2], _, [], [], [27]⟩, ⟨[.old 3], _, [], [], [28]⟩, ⟨[.op 0 0, .op 1 0, .op 2 0], _, [], [0, 1, 2], [29]⟩, ⟨[.op 3 0], _, [], Lr 4, [30]⟩]) (F := [.old 0, .old 1, .old 4, .old 5, .old 6, .op 4 0]) hst hb Za
           (o_p rfl (Zc rfl rfl u_0) <| o_p rfl (Zg Zc9 rfl rfl u_0) <| o_p rfl (Zg Zc9 rfl rfl u_0) <| o_p rfl (Zkk e2_ (hφ2 _ _ _ h9) rfl rfl u_0 (.cons u_1 (.cons u_2 .nil))) <| o_p rfl (Zb7 rfl rfl u_0) <| o_n) (by kernel_rfl) (fun a g hst hb => ?_)
         refine wp_cond_split (hst.bool 5 rfl) (fun hc10 => ?_) (fun hc10 => ?_)
         · replace H1 := Zp hc10 H1
           refine r_s (L := []) (T := [⟨[], _, [], [], [6]⟩]) (F := [.op 0 0]) (hst.pick [] rfl) hb Za
             (o_p rfl (Zb rfl rfl c_b) <| o_n) (by kernel_rfl) (fun a g hst hb => ?_)
           refine wp_ret ?_
           refine Zt ?_
           refine Zk ?_
           refine Zk ?_
           refine Zt ?_
           refine Zk ?_
           refine Zk ?_
           obtain rfl := Option.some.inj H1
           obtain rfl := Option.some.inj H0
           exact Zy rfl hst hb (Zi (s := 6)) (hst.at 0 rfl)
         · replace H1 := Zr hc10 H1
           refine wp_skip ?_
           refine Zbe ?_
           refine Zn ?_
           refine r_g (L := [(1, _), (2, _), (15, _), (16, _), (17, _)]) (T := [⟨[.old 4], _, [], [], [31]⟩, ⟨[.op 0 0], _, [], [0], [17]⟩]) (F := [.old 0, .old 1, .old 2, .old 3, .op 1 0]) (hst.pick [0, 1, 2, 3, 4] rfl) hb Za
             (o_p rfl (Zcq rfl rfl u_0 c_i rfl) <| o_p rfl (Zc rfl rfl u_0) <| o_n) (by kernel_rfl) (fun a g hst hb => ?_)
           exact ⟨n, Nat.lt_succ_self _, (IntKind.i64.wrap (x2 + (1 : Int))), g, rfl, (hst.pick [0, 1, 2, 3, 4] rfl), hb, H1⟩
       · replace H1 := Zr hc3 H1
         refine wp_exit ?_
         refine Zcg ?_
         refine Zcg ?_
         refine Zc4 ?_
         exact ⟨g, rfl, (hst.pick [] rfl), hb, Option.some.inj H1⟩
theorem Zos (a0 : Zj) (a1 : Zj) {r : Bool} (h : Zix a0 a1 = some r) : FnOk Tryd.prog 111 [(Zm.pd a0), (Zm.pd a1)] (Z5 r) := by
 have H0 := h
 unfold Zix at H0
 clear h
 refine Zbo (N := 17) Tryd.func111 rfl rfl (Nat.le_of_ble_eq_true rfl) rfl rfl (fun a g0 hst hb => ?_)
 refine r_s (T := [⟨[.old 0], _, [], [], [2]⟩, ⟨[.old 1], _, [], [], [3]⟩, ⟨[], _, [], [], [4]⟩]) (F := [.op 0 0, .op 1 0]) hst hb Za
   (o_p rfl (Zbk rfl rfl u_0) <| o_p rfl (Zbk rfl rfl u_0) <| o_p rfl (Zb rfl rfl c_b) <| o_n) (by kernel_rfl) (fun a g hst hb => ?_)
 obtain ⟨r1, h2, H0⟩ := Zh H0
 refine r_s (T := ⟨[.old 0], _, [], [], [5]⟩ :: ⟨[.op 0 0], _, [], [0], [6]⟩ :: ⟨[.old 1], _, [], [], [7]⟩ :: ⟨[.op 2 0], _, [], [2], [8]⟩ :: ⟨[.op 1 0, .op 3 0], _, [], Lr 4, [9]⟩ :: ⟨[.op 4 0], _, [], Lr 5, [10]⟩ :: ⟨[.op 5 0, .old 0], _, [], Lr 6, [11]⟩ :: ⟨[.op 5 0, .op 6 0], _, [], Lr 7, [12]⟩ :: ⟨[.op 5 0, .old 1], _, [], Lr 6, [13]⟩ :: ⟨[.op 5 0, .op 8 0], _, [], [0, 1, 2, 3, 4, 5, 8], [14]⟩ :: ⟨[.op 5 0, .op 7 0, .op 9 0], _, [], Lr 10, [15]⟩ :: ⟨[.op 5 0, .op 10 0], _, [], Lr 11, [16]⟩ :: ⟨[.op 11 0], _, [], Lr 12, [4]⟩ :: []) (F := [.op 12 0]) hst hb Za
   (o_p rfl (Ze Zdg rfl rfl u_0) <| o_p rfl (Zg ty_9 rfl rfl u_0) <| o_p rfl (Ze Zdg rfl rfl u_0) <| o_p rfl (Zg ty_9 rfl rfl u_0) <| o_p rfl (Zjj rfl rfl u_0 u_1) <| o_p rfl (Zc rfl rfl u_0) <| o_g (g_t rfl rfl rfl (fun hG => Ze Zdr rfl rfl u_0)) <| o_g (g_t rfl rfl rfl (fun hG => Zg Zci rfl rfl (Opd.gd hG u_0))) <| o_g (g_t rfl rfl rfl (fun hG => Ze Zdr rfl rfl u_0)) <| o_g (g_t rfl rfl rfl (fun hG => Zg Zci rfl rfl (Opd.gd hG u_0))) <| o_g (g_t rfl rfl rfl (fun hG => Zs Zl1 (Zgl _ _ (Zbp h2 hG)) rfl rfl (.cons (Opd.gd hG u_0) (.cons (Opd.gd hG u_1) .nil)))) <| o_p rfl (Zbb rfl rfl u_0 (fun hz => (Opd.gd hz u_1))) <| o_p rfl (Zb rfl rfl u_0) <| o_n) (by kernel_rfl) (fun a g hst hb => ?_)
 refine wp_ret ?_
 obtain rfl := Option.some.inj H0
 exact Zy rfl hst hb (Zi (s := 4)) (hst.at 0 rfl)
theorem Zqj (a0 : Zd) (a1 : Zd) {r : Bool} (h : Zmw a0 a1 = some r) : FnOk Tryd.prog 105 [(Zf.pd a0), (Zf.pd a1)] (Z5 r) := by
 have H0 := h
 unfold Zmw at H0
 clear h
 refine Zbo (N := 59) Tryd.func105 rfl rfl (Nat.le_of_ble_eq_true rfl) rfl rfl (fun a g0 hst hb => ?_)
 refine r_s (T := [⟨[.old 0], _, [], [], [2]⟩, ⟨[.old 1], _, [], [], [3]⟩, ⟨[], _, [], [], [4]⟩]) (F := [.op 0 0, .op 1 0]) hst hb Za
   (o_p rfl (Zbk rfl rfl u_0) <| o_p rfl (Zbk rfl rfl u_0) <| o_p rfl (Zb rfl rfl c_b) <| o_n) (by kernel_rfl) (fun a g hst hb => ?_)
 obtain ⟨r1, h2, H0⟩ := Zh H0; obtain ⟨r3, h4, H0⟩ := Zh H0
 refine r_s (T := ⟨[.old 0], _, [], [], [5]⟩ :: ⟨[.op 0 0], _, [], [0], [6]⟩ :: ⟨[.old 1], _, [], [], [7]⟩ :: ⟨[.op 2 0], _, [], [2], [8]⟩ :: ⟨[.op 1 0, .op 3 0], _, [], Lr 4, [9]⟩ :: ⟨[.op 4 0], _, [], Lr 5, [10]⟩ :: ⟨[.op 5 0, .old 0], _, [], Lr 6, [11]⟩ :: ⟨[.op 5 0, .op 6 0], _, [], Lr 7, [12]⟩ :: ⟨[.op 5 0, .old 1], _, [], Lr 6, [13]⟩ :: ⟨[.op 5 0, .op 8 0], _, [], [0, 1, 2, 3, 4, 5, 8], [14]⟩ :: ⟨[.op 5 0, .op 7 0, .op 9 0], _, [], Lr 10, [15]⟩ :: ⟨[.op 5 0, .op 10 0], _, [], Lr 11, [16]⟩ :: ⟨[.op 11 0], _, [], Lr 12, [17]⟩ :: ⟨[.op 12 0, .old 0], _, [], Lr 13, [18]⟩ :: ⟨[.op 12 0, .op 13 0], _, [], Lr 14, [19]⟩ :: ⟨[.op 12 0, .old 1], _, [], Lr 13, [20]⟩ :: ⟨[.op 12 0, .op 15 0], _, [], 0 :: 1 :: 2 :: 3 :: 4 :: 5 :: 6 :: 7 :: 8 :: 9 :: 10 :: 11 :: 12 :: 15 :: [], [21]⟩ :: ⟨[.op 12 0, .op 14 0, .op 16 0], _, [], Lr 17, [22]⟩ :: ⟨[.op 12 0, .op 17 0], _, [], Lr 18, [23]⟩ :: ⟨[.op 18 0], _, [], Lr 19, [24]⟩ :: ⟨[.op 19 0, .old 0], _, [], Lr 20, [25]⟩ :: ⟨[.op 19 0, .op 20 0], _, [], Lr 21, [26]⟩ :: ⟨[.op 19 0, .old 1], _, [], Lr 20, [27]⟩ :: ⟨[.op 19 0, .op 22 0], _, [], 0 :: 1 :: 2 :: 3 :: 4 :: 5 :: 6 :: 7 :: 8 :: 9 :: 10 :: 11 :: 12 :: 13 :: 14 :: 15 :: 16 :: 17 :: 18 :: 19 :: 22 :: [], [28]⟩ :: ⟨[.op 19 0, .op 21 0, .op 23 0], _, [], Lr 24, [29]⟩ :: ⟨[.op 19 0, .op 24 0], _, [], Lr 25, [30]⟩ :: ⟨[.op 25 0], _, [], Lr 26, [31]⟩ :: ⟨[.op 26 0, .old 0], _, [], Lr 27, [32]⟩ :: ⟨[.op 26 0, .op 27 0], _, [], Lr 28, [33]⟩ :: ⟨[.op 26 0, .old 1], _, [], Lr 27, [34]⟩ :: ⟨[.op 26 0, .op 29 0], _, [], 0 :: 1 :: 2 :: 3 :: 4 :: 5 :: 6 :: 7 :: 8 :: 9 :: 10 :: 11 :: 12 :: 13 :: 14 :: 15 :: 16 :: 17 :: 18 :: 19 :: 20 :: 21 :: 22 :: 23 :: 24 :: 25 :: 26 :: 29 :: [], [35]⟩ :: ⟨[.op 26 0, .op 28 0, .op 30 0], _, [], Lr 31, [36]⟩ :: ⟨[.op 26 0, .op 31 0], _, [], Lr 32, [37]⟩ :: ⟨[.op 32 0], _, [], Lr 33, [38]⟩ :: ⟨[.op 33 0, .old 0], _, [], Lr 34, [39]⟩ :: ⟨[.op 33 0, .op 34 0], _, [], Lr 35, [40]⟩ :: ⟨[.op 33 0, .old 1], _, [], Lr 34, [41]⟩ :: ⟨[.op 33 0, .op 36 0], _, [], 0 :: 1 :: 2 :: 3 :: 4 :: 5 :: 6 :: 7 :: 8 :: 9 :: 10 :: 11 :: 12 :: 13 :: 14 :: 15 :: 16 :: 17 :: 18 :: 19 :: 20 :: 21 :: 22 :: 23 :: 24 :: 25 :: 26 :: 27 :: 28 :: 29 :: 30 :: 31 :: 32 :: 33 :: 36 :: [], [42]⟩ :: ⟨[.op 33 0, .op 35 0, .op 37 0], _, [], Lr 38, [43]⟩ :: ⟨[.op 33 0, .op 38 0], _, [], Lr 39, [44]⟩ :: ⟨[.op 39 0], _, [], Lr 40, [45]⟩ :: ⟨[.op 40 0, .old 0], _, [], Lr 41, [46]⟩ :: ⟨[.op 40 0, .op 41 0], _, [], Lr 42, [47]⟩ :: ⟨[.op 40 0, .old 1], _, [], Lr 41, [48]⟩ :: ⟨[.op 40 0, .op 43 0], _, [], 0 :: 1 :: 2 :: 3 :: 4 :: 5 :: 6 :: 7 :: 8 :: 9 :: 10 :: 11 :: 12 :: 13 :: 14 :: 15 :: 16 :: 17 :: 18 :: 19 :: 20 :: 21 :: 22 :: 23 :: 24 :: 25 :: 26 :: 27 :: 28 :: 29 :: 30 :: 31 :: 32 :: 33 :: 34 :: 35 :: 36 :: 37 :: 38 :: 39 :: 40 :: 43 :: [], [49]⟩ :: ⟨[.op 40 0, .op 42 0, .op 44 0], _, [], Lr 45, [50]⟩ :: ⟨[.op 40 0, .op 45 0], _, [], Lr 46, [51]⟩ :: ⟨[.op 46 0], _, [], Lr 47, [52]⟩ :: ⟨[.op 47 0, .old 0], _, [], Lr 48, [53]⟩ :: ⟨[.op 47 0, .op 48 0], _, [], Lr 49, [54]⟩ :: ⟨[.op 47 0, .old 1], _, [], Lr 48, [55]⟩ :: ⟨[.op 47 0, .op 50 0], _, [], 0 :: 1 :: 2 :: 3 :: 4 :: 5 :: 6 :: 7 :: 8 :: 9 :: 10 :: 11 :: 12 :: 13 :: 14 :: 15 :: 16 :: 17 :: 18 :: 19 :: 20 :: 21 :: 22 :: 23 :: 24 :: 25 :: 26 :: 27 :: 28 :: 29 :: 30 :: 31 :: 32 :: 33 :: 34 :: 35 :: 36 :: 37 :: 38 :: 39 :: 40 :: 41 :: 42 :: 43 :: 44 :: 45 :: 46 :: 47 :: 50 :: [], [56]⟩ :: ⟨[.op 47 0, .op 49 0, .op 51 0], _, [], Lr 52, [57]⟩ :: ⟨[.op 47 0, .op 52 0], _, [], Lr 53, [58]⟩ :: ⟨[.op 53 0], _, [], Lr 54, [4]⟩ :: []) (F := [.op 54 0]) hst hb Za
   (o_p rfl (Ze Zcn rfl rfl u_0) <| o_p rfl (Zg ty_3 rfl rfl u_0) <| o_p rfl (Ze Zcn rfl rfl u_0) <| o_p rfl (Zg ty_3 rfl rfl u_0) <| o_p rfl (Z8 rfl rfl u_0 u_1) <| o_p rfl (Zc rfl rfl u_0) <| o_g (g_t rfl rfl rfl (fun hG => Ze Zb6 rfl rfl u_0)) <| o_g (g_t rfl rfl rfl (fun hG => Zg ty_2 rfl rfl (Opd.gd hG u_0))) <| o_g (g_t rfl rfl rfl (fun hG => Ze Zb6 rfl rfl u_0)) <| o_g (g_t rfl rfl rfl (fun hG => Zg ty_2 rfl rfl (Opd.gd hG u_0))) <| o_g (g_t rfl rfl rfl (fun hG => Z8 rfl rfl (Opd.gd hG u_0) (Opd.gd hG u_1))) <| o_p rfl (Zbb rfl rfl u_0 (fun hz => (Opd.gd hz u_1))) <| o_p rfl (Zc rfl rfl u_0) <| o_g (g_t rfl rfl rfl (fun hG => Ze Zfc rfl rfl u_0)) <| o_g (g_t rfl rfl rfl (fun hG => Zg ty_2 rfl rfl (Opd.gd hG u_0))) <| o_g (g_t rfl rfl rfl (fun hG => Ze Zfc rfl rfl u_0)) <| o_g (g_t rfl rfl rfl (fun hG => Zg ty_2 rfl rfl (Opd.gd hG u_0))) <| o_g (g_t rfl rfl rfl (fun hG => Z8 rfl rfl (Opd.gd hG u_0) (Opd.gd hG u_1))) <| o_p rfl (Zbb rfl rfl u_0 (fun hz => (Opd.gd hz u_1))) <| o_p rfl (Zc rfl rfl u_0) <| o_g (g_t rfl rfl rfl (fun hG => Ze Zfb rfl rfl u_0)) <| o_g (g_t rfl rfl rfl (fun hG => Zg ty_2 rfl rfl (Opd.gd hG u_0))) <| o_g (g_t rfl rfl rfl (fun hG => Ze Zfb rfl rfl u_0)) <| o_g (g_t rfl rfl rfl (fun hG => Zg ty_2 rfl rfl (Opd.gd hG u_0))) <| o_g (g_t rfl rfl rfl (fun hG => Z8 rfl rfl (Opd.gd hG u_0) (Opd.gd hG u_1))) <| o_p rfl (Zbb rfl rfl u_0 (fun hz => (Opd.gd hz u_1))) <| o_p rfl (Zc rfl rfl u_0) <| o_g (g_t rfl rfl rfl (fun hG => Ze Zd5 rfl rfl u_0)) <| o_g (g_t rfl rfl rfl (fun hG => Zg Zci rfl rfl (Opd.gd hG u_0))) <| o_g (g_t rfl rfl rfl (fun hG => Ze Zd5 rfl rfl u_0)) <| o_g (g_t rfl rfl rfl (fun hG => Zg Zci rfl rfl (Opd.gd hG u_0))) <| o_g (g_t rfl rfl rfl (fun hG => Zs Zl1 (Zgl _ _ (Zbp h2 hG)) rfl rfl (.cons (Opd.gd hG u_0) (.cons (Opd.gd hG u_1) .nil)))) <| o_p rfl (Zbb rfl rfl u_0 (fun hz => (Opd.gd hz u_1))) <| o_p rfl (Zc rfl rfl u_0) <| o_g (g_t rfl rfl rfl (fun hG => Ze Zds rfl rfl u_0)) <| o_g (g_t rfl rfl rfl (fun hG => Zg ty_3 rfl rfl (Opd.gd hG u_0))) <| o_g (g_t rfl rfl rfl (fun hG => Ze Zds rfl rfl u_0)) <| o_g (g_t rfl rfl rfl (fun hG => Zg ty_3 rfl rfl (Opd.gd hG u_0))) <| o_g (g_t rfl rfl rfl (fun hG => Z8 rfl rfl (Opd.gd hG u_0) (Opd.gd hG u_1))) <| o_p rfl (Zbb rfl rfl u_0 (fun hz => (Opd.gd hz u_1))) <| o_p rfl (Zc rfl rfl u_0) <| o_g (g_t rfl rfl rfl (fun hG => Ze Zf1 rfl rfl u_0)) <| o_g (g_t rfl rfl rfl (fun hG => Zg ty_9 rfl rfl (Opd.gd hG u_0))) <| o_g (g_t rfl rfl rfl (fun hG => Ze Zf1 rfl rfl u_0)) <| o_g (g_t rfl rfl rfl (fun hG => Zg ty_9 rfl rfl (Opd.gd hG u_0))) <| o_g (g_t rfl rfl rfl (fun hG => Zjj rfl rfl (Opd.gd hG u_0) (Opd.gd hG u_1))) <| o_p rfl (Zbb rfl rfl u_0 (fun hz => (Opd.gd hz u_1))) <| o_p rfl (Zc rfl rfl u_0) <| o_g (g_t rfl rfl rfl (fun hG => Ze Zbu rfl rfl u_0)) <| o_g (g_t rfl rfl rfl (fun hG => Zg Zck rfl rfl (Opd.gd hG u_0))) <| o_g (g_t rfl rfl rfl (fun hG => Ze Zbu rfl rfl u_0)) <| o_g (g_t rfl rfl rfl (fun hG => Zg Zck rfl rfl (Opd.gd hG u_0))) <| o_g (g_t rfl rfl rfl (fun hG => Zs Zw9 (Zec 111 [] rfl Zyh (fun y0 y1 => Zix y0 y1) (fun y0 y1 r h => Zos y0 y1 h) _ _ (Zbp h4 hG)) rfl rfl (.cons (Opd.gd hG u_0) (.cons (Opd.gd hG u_1) (.cons Opd.fnc .nil))))) <| o_p rfl (Zbb rfl rfl u_0 (fun hz => (Opd.gd hz u_1))) <| o_p rfl (Zb rfl rfl u_0) <| o_n) (by kernel_rfl) (fun a g hst hb => ?_)
 refine wp_ret ?_
 obtain rfl := Option.some.inj H0
 exact Zy rfl hst hb (Zi (s := 4)) (hst.at 0 rfl)
theorem Zqe (a0 : Zu) (a1 : Zb8) {r : Bool} (h : Zmq a0 a1 = some r) : FnOk Tryd.prog 78 [(Z1.pd a0), (Zcx.pd a1)] (Z5 r) := by
 have H0 := h
 unfold Zmq at H0
 clear h
 refine Zbo (N := 40) Tryd.func78 rfl rfl (Nat.le_of_ble_eq_true rfl) rfl rfl (fun a g0 hst hb => ?_)
 refine r_s (T := [⟨[.old 0], _, [], [], [2]⟩, ⟨[.old 1], _, [], [], [3]⟩, ⟨[], _, [], [], [4]⟩]) (F := [.op 0 0, .op 1 0]) hst hb Za
   (o_p rfl (Zbk rfl rfl u_0) <| o_p rfl (Zbk rfl rfl u_0) <| o_p rfl (Zb rfl rfl c_b) <| o_n) (by kernel_rfl) (fun a g hst hb => ?_)
 obtain ⟨r1, h2, H0⟩ := Zh H0; obtain ⟨r3, h4, H0⟩ := Zh H0; obtain ⟨r5, h6, H0⟩ := Zh H0; obtain ⟨r7, h8, H0⟩ := Zh H0; obtain ⟨r9, h10, H0⟩ := Zh H0; obtain ⟨r11, h12, H0⟩ := Zh H0
 refine r_s (T := ⟨[.old 1], _, [], [], [5]⟩ :: ⟨[.op 0 0], _, [], [0], [6]⟩ :: ⟨[.op 1 0], _, [], [0, 1], [7]⟩ :: ⟨[.op 2 0, .old 0], _, [], [0, 1, 2], [8]⟩ :: ⟨[.op 2 0, .op 3 0], _, [], Lr 4, [9]⟩ :: ⟨[.op 2 0, .op 4 0], _, [], Lr 5, [10]⟩ :: ⟨[.op 2 0, .op 5 0], _, [], Lr 6, [11]⟩ :: ⟨[.op 6 0], _, [], Lr 7, [12]⟩ :: ⟨[.op 7 0, .old 1], _, [], Lr 8, [13]⟩ :: ⟨[.op 7 0, .op 8 0], _, [], Lr 9, [14]⟩ :: ⟨[.op 7 0, .op 9 0], _, [], Lr 10, [15]⟩ :: ⟨[.op 10 0, .old 0], _, [], Lr 11, [16]⟩ :: ⟨[.op 10 0, .op 11 0], _, [], Lr 12, [17]⟩ :: ⟨[.op 10 0, .op 12 0], _, [], Lr 13, [18]⟩ :: ⟨[.op 7 0, .op 10 0, .op 13 0], _, [], Lr 14, [19]⟩ :: ⟨[.op 7 0, .op 14 0], _, [], Lr 15, [20]⟩ :: ⟨[.op 15 0], _, [], Lr 16, [21]⟩ :: ⟨[.op 16 0, .old 1], _, [], Lr 17, [22]⟩ :: ⟨[.op 16 0, .op 17 0], _, [], Lr 18, [23]⟩ :: ⟨[.op 16 0, .op 18 0], _, [], Lr 19, [24]⟩ :: ⟨[.op 19 0, .old 0], _, [], Lr 20, [25]⟩ :: ⟨[.op 19 0, .op 20 0], _, [], Lr 21, [26]⟩ :: ⟨[.op 19 0, .op 21 0], _, [], Lr 22, [27]⟩ :: ⟨[.op 16 0, .op 19 0, .op 22 0], _, [], Lr 23, [28]⟩ :: ⟨[.op 16 0, .op 23 0], _, [], Lr 24, [29]⟩ :: ⟨[.op 24 0], _, [], Lr 25, [30]⟩ :: ⟨[.op 25 0, .old 1], _, [], Lr 26, [31]⟩ :: ⟨[.op 25 0, .op 26 0], _, [], Lr 27, [32]⟩ :: ⟨[.op 25 0, .op 27 0], _, [], Lr 28, [33]⟩ :: ⟨[.op 28 0, .old 0], _, [], Lr 29, [34]⟩ :: ⟨[.op 28 0, .op 29 0], _, [], Lr 30, [35]⟩ :: ⟨[.op 28 0], _, [], Lr 29, [36]⟩ :: ⟨[.op 28 0, .op 30 0, .op 31 0], _, [], Lr 32, [37]⟩ :: ⟨[.op 25 0, .op 28 0, .op 32 0], _, [], Lr 33, [38]⟩ :: ⟨[.op 25 0, .op 33 0], _, [], Lr 34, [39]⟩ :: ⟨[.op 34 0], _, [], Lr 35, [4]⟩ :: []) (F := [.op 35 0]) hst hb Za
   (o_p rfl (Zg Zgf rfl rfl u_0) <| o_p rfl (Zs Znc (Zfz _ _ h2) rfl rfl (.cons u_0 (.cons c_i .nil))) <| o_p rfl (Zc rfl rfl u_0) <| o_g (g_f rfl rfl rfl (fun hG => Ze Zc3 rfl rfl u_0)) <| o_g (g_f rfl rfl rfl (fun hG => Zg ty_2 rfl rfl (Opd.gd hG u_0))) <| o_g (g_f rfl rfl rfl (fun hG => Z8 rfl rfl (Opd.gd hG u_0) c_i)) <| o_p rfl (Zbg rfl rfl u_0 (fun hz => (Opd.gd (bNF hz) u_1))) <| o_p rfl (Zc rfl rfl u_0) <| o_g (g_t rfl rfl rfl (fun hG => Zg Zgf rfl rfl u_0)) <| o_g (g_t rfl rfl rfl (fun hG => Zs Znc (Zfz _ _ (Zbp h4 hG)) rfl rfl (.cons (Opd.gd hG u_0) (.cons c_i .nil)))) <| o_g (g_t rfl rfl rfl (fun hG => Zc rfl rfl (Opd.gd hG u_0))) <| o_g (g_fi rfl rfl rfl (fun hG => Ze Zj4 rfl rfl u_0)) <| o_g (g_fi rfl rfl rfl (fun hG => Zg Zci rfl rfl (Opd.gd hG u_0))) <| o_g (g_fi rfl rfl rfl (fun hG => Zs Zl1 (Zgl _ _ (Zbp h6 hG)) rfl rfl (.cons (Opd.gd hG u_0) (.cons c_f .nil)))) <| o_g (g_t rfl rfl rfl (fun hG => Zbg rfl rfl (Opd.gd hG u_0) (fun hz => (Opd.gd (bA hG (bNF hz)) u_1)))) <| o_p rfl (Zbb rfl rfl u_0 (fun hz => (Opd.gd hz u_1))) <| o_p rfl (Zc rfl rfl u_0) <| o_g (g_t rfl rfl rfl (fun hG => Zg Zgf rfl rfl u_0)) <| o_g (g_t rfl rfl rfl (fun hG => Zs Znc (Zfz _ _ (Zbp h8 hG)) rfl rfl (.cons (Opd.gd hG u_0) (.cons c_i .nil)))) <| o_g (g_t rfl rfl rfl (fun hG => Zc rfl rfl (Opd.gd hG u_0))) <| o_g (g_fi rfl rfl rfl (fun hG => Ze Zf4 rfl rfl u_0)) <| o_g (g_fi rfl rfl rfl (fun hG => Zg ty_9 rfl rfl (Opd.gd hG u_0))) <| o_g (g_fi rfl rfl rfl (fun hG => Zjj rfl rfl (Opd.gd hG u_0) c_s)) <| o_g (g_t rfl rfl rfl (fun hG => Zbg rfl rfl (Opd.gd hG u_0) (fun hz => (Opd.gd (bA hG (bNF hz)) u_1)))) <| o_p rfl (Zbb rfl rfl u_0 (fun hz => (Opd.gd hz u_1))) <| o_p rfl (Zc rfl rfl u_0) <| o_g (g_t rfl rfl rfl (fun hG => Zg Zgf rfl rfl u_0)) <| o_g (g_t rfl rfl rfl (fun hG => Zs Znc (Zfz _ _ (Zbp h10 hG)) rfl rfl (.cons (Opd.gd hG u_0) (.cons c_i .nil)))) <| o_g (g_t rfl rfl rfl (fun hG => Zc rfl rfl (Opd.gd hG u_0))) <| o_g (g_fi rfl rfl rfl (fun hG => Ze Zl2 rfl rfl u_0)) <| o_g (g_fi rfl rfl rfl (fun hG => Zg Z4 rfl rfl (Opd.gd hG u_0))) <| o_g (g_fi rfl rfl rfl (fun hG => Zka rfl rfl )) <| o_g (g_fi rfl rfl rfl (fun hG => Zs Zx2 (Zqj _ _ (Zbp h12 hG)) rfl rfl (.cons (Opd.gd hG u_0) (.cons (Opd.gd hG u_1) .nil)))) <| o_g (g_t rfl rfl rfl (fun hG => Zbg rfl rfl (Opd.gd hG u_0) (fun hz => (Opd.gd (bA hG (bNF hz)) u_1)))) <| o_p rfl (Zbb rfl rfl u_0 (fun hz => (Opd.gd hz u_1))) <| o_p rfl (Zb rfl rfl u_0) <| o_n) (by kernel_rfl) (fun a g hst hb => ?_)
 refine wp_ret ?_
 obtain rfl := Option.some.inj H0
 exact Zy rfl hst hb (Zi (s := 4)) (hst.at 0 rfl)
theorem Zqn (a0 : Zb8) {r : Int} (h : Zmv a0 = some r) : FnOk Tryd.prog 79 [(Zcx.pd a0)] (pInt .i64 r) := by
 have H0 := h
 unfold Zmv at H0
 clear h
 refine Zbo (N := 6) Tryd.func79 rfl rfl (Nat.le_of_ble_eq_true rfl) rfl rfl (fun a g0 hst hb => ?_)
 refine r_s (T := [⟨[.old 0], _, [], [], [1]⟩, ⟨[], _, [], [], [2]⟩]) (F := [.op 0 0]) hst hb Za
   (o_p rfl (Zbk rfl rfl u_0) <| o_p rfl (Zb rfl rfl c_i) <| o_n) (by kernel_rfl) (fun a g hst hb => ?_)
 refine wp_seq ?_
 refine r_s (T := [⟨[.old 0], _, [], [], [3]⟩, ⟨[.op 0 0], _, [], [0], [4]⟩, ⟨[.op 1 0], _, [], [0, 1], [5]⟩]) (F := [.op 2 0]) hst hb Za
   (o_p rfl (Ze Zpo rfl rfl u_0) <| o_p rfl (Zg ty_3 rfl rfl u_0) <| o_p rfl (Z8 rfl rfl u_0 c_i) <| o_n) (by kernel_rfl) (fun a g hst hb => ?_)
 refine wp_cond_split (hst.bool 0 rfl) (fun hc1 => ?_) (fun hc1 => ?_)
 · replace H0 := Zp hc1 H0
   refine r_s (L := []) (T := [⟨[], _, [], [], [2]⟩]) (F := [.op 0 0]) (hst.pick [] rfl) hb Za
     (o_p rfl (Zb rfl rfl c_i) <| o_n) (by kernel_rfl) (fun a g hst hb => ?_)
   refine wp_ret ?_
   refine Zk ?_
   obtain rfl := Option.some.inj H0
   exact Zy rfl hst hb (Zi (s := 2)) (hst.at 0 rfl)
 · replace H0 := Zr hc1 H0
   refine wp_skip ?_
   refine Zn ?_
   refine r_s (L := []) (T := [⟨[], _, [], [], [2]⟩]) (F := [.op 0 0]) (hst.pick [] rfl) hb Za
     (o_p rfl (Zb rfl rfl c_i) <| o_n) (by kernel_rfl) (fun a g hst hb => ?_)
   refine wp_ret ?_
   obtain rfl := Option.some.inj H0
   exact Zy rfl hst hb (Zi (s := 2)) (hst.at 0 rfl)
theorem Zlf (a0 : Zu) {r : Int} (h : Zjk a0 = some r) : FnOk Tryd.prog 58 [(Z1.pd a0)] (pInt .i64 r) := by
 have H0 := h
 unfold Zjk at H0
 clear h
 refine Zbo (N := 64) Tryd.func58 rfl rfl (Nat.le_of_ble_eq_true rfl) rfl rfl (fun a g0 hst hb => ?_)
 refine r_s (T := [⟨[.old 0], _, [], [], [1]⟩, ⟨[], _, [], [], [2]⟩]) (F := [.op 0 0]) hst hb Za
   (o_p rfl (Zbk rfl rfl u_0) <| o_p rfl (Zb rfl rfl c_i) <| o_n) (by kernel_rfl) (fun a g hst hb => ?_)
 obtain ⟨r1, h2, H0⟩ := Zh H0
 refine r_s (T := [⟨[.old 0], _, [], [], [4]⟩, ⟨[.op 0 0], _, [], [0], [5]⟩, ⟨[.op 1 0], _, [], [0, 1], [6]⟩, ⟨[], [(3, (pBox Zcx 3 (default : Zb8)))], [4], [], [3]⟩, ⟨[.op 2 0, .op 3 0], _, [4], Lr 4, [3]⟩]) (F := [.old 0, .op 4 0]) hst hb Za
   (o_p rfl (Ze Zdm rfl rfl u_0) <| o_p rfl (Zg ty_3 rfl rfl u_0) <| o_p rfl (Zs Zul (Zom _ h2) rfl rfl (.cons u_0 .nil)) <| o_p rfl (Zbj (zs := [.string ByteArray.empty, .int .i64 0, .string ByteArray.empty]) (by kernel_rfl) (fun g => Zmh g) rfl rfl) <| o_p rfl (Zb4 Zgf rfl rfl u_1 u_0) <| o_n) (by kernel_rfl) (fun a g hst hb => ?_)
 refine wp_seq ?_
 refine wp_block ?_
 refine r_s (T := [⟨[.old 1], _, [], [], [8]⟩, ⟨[.op 0 0], _, [], [0], [9]⟩, ⟨[.op 1 0], _, [], [0, 1], [10]⟩, ⟨[.op 2 0], _, [], [0, 1, 2], [7]⟩]) (F := [.old 0, .old 1, .op 3 0]) hst hb Za
   (o_p rfl (Ze Zty rfl rfl u_0) <| o_p rfl (Zg ty_9 rfl rfl u_0) <| o_p rfl (Zjj rfl rfl u_0 c_s) <| o_p rfl (Zb rfl rfl u_0) <| o_n) (by kernel_rfl) (fun a g hst hb => ?_)
 refine wp_cond_split (hst.bool 2 rfl) (fun hc3 => ?_) (fun hc3 => ?_)
 · replace H0 := Zp hc3 H0
   refine r_s (L := []) (T := [⟨[], _, [], [], [2]⟩]) (F := [.op 0 0]) (hst.pick [] rfl) hb Za
     (o_p rfl (Zb rfl rfl c_i) <| o_n) (by kernel_rfl) (fun a g hst hb => ?_)
   refine wp_ret ?_
   refine Zt ?_
   refine Zk ?_
   obtain rfl := Option.some.inj H0
   exact Zy rfl hst hb (Zi (s := 2)) (hst.at 0 rfl)
 · replace H0 := Zr hc3 H0
   refine r_s (L := [(1, _), (3, _)]) (T := [⟨[.old 0], _, [], [], [12]⟩, ⟨[.op 0 0], _, [], [0], [13]⟩, ⟨[.op 1 0], _, [], [0, 1], [14]⟩, ⟨[.op 2 0], _, [], [0, 1, 2], [15]⟩, ⟨[.op 3 0, .old 0], _, [], Lr 4, [16]⟩, ⟨[.op 3 0, .op 4 0], _, [], Lr 5, [17]⟩, ⟨[.op 3 0, .op 5 0], _, [], Lr 6, [18]⟩, ⟨[.op 3 0, .op 6 0], _, [], Lr 7, [19]⟩, ⟨[.op 3 0, .op 7 0], _, [], Lr 8, [20]⟩, ⟨[.op 8 0], _, [], Lr 9, [11]⟩]) (F := [.old 0, .old 1, .op 9 0]) (hst.pick [0, 1] rfl) hb Za
     (o_p rfl (Ze Zn5 rfl rfl u_0) <| o_p rfl (Zg ty_9 rfl rfl u_0) <| o_p rfl (Zjj rfl rfl u_0 c_s) <| o_p rfl (Zc rfl rfl u_0) <| o_g (g_f rfl rfl rfl (fun hG => Ze Zn5 rfl rfl u_0)) <| o_g (g_f rfl rfl rfl (fun hG => Zg ty_9 rfl rfl (Opd.gd hG u_0))) <| o_g (g_f rfl rfl rfl (fun hG => Zfa Tryd.underlying9 rfl rfl (Opd.gd hG u_0))) <| o_g (g_f rfl rfl rfl (fun hG => Zb9 rfl rfl (Opd.gd hG u_0) c_i)) <| o_p rfl (Zbg rfl rfl u_0 (fun hz => (Opd.gd (bNF hz) u_1))) <| o_p rfl (Zb rfl rfl u_0) <| o_n) (by kernel_rfl) (fun a g hst hb => ?_)
   refine wp_cond_split (hst.bool 2 rfl) (fun hc4 => ?_) (fun hc4 => ?_)
   · replace H0 := Zp hc4 H0
     refine r_s (L := []) (T := [⟨[], _, [], [], [2]⟩]) (F := [.op 0 0]) (hst.pick [] rfl) hb Za
       (o_p rfl (Zb rfl rfl c_i) <| o_n) (by kernel_rfl) (fun a g hst hb => ?_)
     refine wp_ret ?_
     refine Zt ?_
     refine Zk ?_
     obtain rfl := Option.some.inj H0
     exact Zy rfl hst hb (Zi (s := 2)) (hst.at 0 rfl)
   · replace H0 := Zr hc4 H0
     obtain ⟨r5, h6, H0⟩ := Zh H0
     refine r_s (L := [(1, _), (3, _)]) (T := [⟨[.old 0], _, [], [], [22]⟩, ⟨[.old 1], _, [], [], [23]⟩, ⟨[.op 0 0, .op 1 0], _, [], [0, 1], [24]⟩, ⟨[.op 2 0], _, [], [0, 1, 2], [25]⟩, ⟨[.op 3 0], _, [], Lr 4, [21]⟩]) (F := [.old 0, .old 1, .op 4 0]) (hst.pick [0, 1] rfl) hb Za
       (o_p rfl (Zg Zf9 rfl rfl u_0) <| o_p rfl (Zg Zgf rfl rfl u_0) <| o_p rfl (Zs Zy6 (Zqe _ _ h6) rfl rfl (.cons u_0 (.cons u_1 .nil))) <| o_p rfl (Zb7 rfl rfl u_0) <| o_p rfl (Zb rfl rfl u_0) <| o_n) (by kernel_rfl) (fun a g hst hb => ?_)
     refine wp_cond_split (hst.bool 2 rfl) (fun hc7 => ?_) (fun hc7 => ?_)
     · replace H0 := Zp hc7 H0
       refine r_s (L := []) (T := [⟨[], _, [], [], [2]⟩]) (F := [.op 0 0]) (hst.pick [] rfl) hb Za
         (o_p rfl (Zb rfl rfl c_i) <| o_n) (by kernel_rfl) (fun a g hst hb => ?_)
       refine wp_ret ?_
       refine Zt ?_
       refine Zk ?_
       obtain rfl := Option.some.inj H0
       exact Zy rfl hst hb (Zi (s := 2)) (hst.at 0 rfl)
     · replace H0 := Zr hc7 H0
       obtain ⟨r8, h9, H0⟩ := Zh H0
       refine r_s (L := [(1, _), (3, _)]) (T := [⟨[.old 0], _, [], [], [27]⟩, ⟨[.op 0 0], _, [], [0], [28]⟩, ⟨[.op 1 0], _, [], [0, 1], [29]⟩, ⟨[.old 1], _, [], [], [30]⟩, ⟨[.op 3 0], _, [], [3], [31]⟩, ⟨[.op 2 0, .op 4 0], _, [], Lr 5, [32]⟩, ⟨[.op 5 0], _, [], Lr 6, [26]⟩]) (F := [.old 0, .op 6 0]) (hst.pick [0, 1] rfl) hb Za
         (o_p rfl (Ze Zf4 rfl rfl u_0) <| o_p rfl (Zg ty_9 rfl rfl u_0) <| o_p rfl (Zfa Tryd.underlying9 rfl rfl u_0) <| o_p rfl (Zg Zgf rfl rfl u_0) <| o_p rfl (Zs Zyz (Zqn _ h9) rfl rfl (.cons u_0 .nil)) <| o_p rfl (Zb9 rfl rfl u_0 u_1) <| o_p rfl (Zb rfl rfl u_0) <| o_n) (by kernel_rfl) (fun a g hst hb => ?_)
       refine wp_cond_split (hst.bool 1 rfl) (fun hc10 => ?_) (fun hc10 => ?_)
       · replace H0 := Zp hc10 H0
         refine r_s (L := []) (T := [⟨[], _, [], [], [2]⟩]) (F := [.op 0 0]) (hst.pick [] rfl) hb Za
           (o_p rfl (Zb rfl rfl c_i) <| o_n) (by kernel_rfl) (fun a g hst hb => ?_)
         refine wp_ret ?_
         refine Zt ?_
         refine Zk ?_
         obtain rfl := Option.some.inj H0
         exact Zy rfl hst hb (Zi (s := 2)) (hst.at 0 rfl)
       · replace H0 := Zr hc10 H0
         refine r_s (L := [(1, _)]) (T := ⟨[.old 0], _, [], [], [34]⟩ :: ⟨[.op 0 0], _, [], [0], [35]⟩ :: ⟨[.op 1 0], _, [], [0, 1], [36]⟩ :: ⟨[.op 2 0], _, [], [0, 1, 2], [37]⟩ :: ⟨[.op 3 0, .old 0], _, [], Lr 4, [38]⟩ :: ⟨[.op 3 0, .op 4 0], _, [], Lr 5, [39]⟩ :: ⟨[.op 3 0, .op 5 0], _, [], Lr 6, [40]⟩ :: ⟨[.op 3 0, .op 6 0], _, [], Lr 7, [41]⟩ :: ⟨[.op 7 0], _, [], Lr 8, [42]⟩ :: ⟨[.op 8 0, .old 0], _, [], Lr 9, [43]⟩ :: ⟨[.op 8 0, .op 9 0], _, [], Lr 10, [44]⟩ :: ⟨[.op 8 0, .op 10 0], _, [], Lr 11, [45]⟩ :: ⟨[.op 8 0, .op 11 0], _, [], Lr 12, [46]⟩ :: ⟨[.op 12 0, .old 0], _, [], Lr 13, [47]⟩ :: ⟨[.op 12 0, .op 13 0], _, [], Lr 14, [48]⟩ :: ⟨[.op 12 0, .op 14 0], _, [], Lr 15, [49]⟩ :: ⟨[.op 8 0, .op 12 0, .op 15 0], _, [], Lr 16, [50]⟩ :: ⟨[.op 8 0, .op 16 0], _, [], Lr 17, [51]⟩ :: ⟨[.op 17 0], _, [], Lr 18, [33]⟩ :: []) (F := [.old 0, .op 18 0]) (hst.pick [0] rfl) hb Za
           (o_p rfl (Ze Zdm rfl rfl u_0) <| o_p rfl (Zg ty_3 rfl rfl u_0) <| o_p rfl (Z8 rfl rfl u_0 c_i) <| o_p rfl (Zc rfl rfl u_0) <| o_g (g_f rfl rfl rfl (fun hG => Ze Zdm rfl rfl u_0)) <| o_g (g_f rfl rfl rfl (fun hG => Zg ty_3 rfl rfl (Opd.gd hG u_0))) <| o_g (g_f rfl rfl rfl (fun hG => Z8 rfl rfl (Opd.gd hG u_0) c_i)) <| o_p rfl (Zbg rfl rfl u_0 (fun hz => (Opd.gd (bNF hz) u_1))) <| o_p rfl (Zc rfl rfl u_0) <| o_g (g_t rfl rfl rfl (fun hG => Ze Zc3 rfl rfl u_0)) <| o_g (g_t rfl rfl rfl (fun hG => Zg ty_2 rfl rfl (Opd.gd hG u_0))) <| o_g (g_t rfl rfl rfl (fun hG => Zce rfl rfl (Opd.gd hG u_0) c_i)) <| o_g (g_t rfl rfl rfl (fun hG => Zc rfl rfl (Opd.gd hG u_0))) <| o_g (g_fi rfl rfl rfl (fun hG => Ze Zc3 rfl rfl u_0)) <| o_g (g_fi rfl rfl rfl (fun hG => Zg ty_2 rfl rfl (Opd.gd hG u_0))) <| o_g (g_fi rfl rfl rfl (fun hG => Zb9 rfl rfl (Opd.gd hG u_0) c_i)) <| o_g (g_t rfl rfl rfl (fun hG => Zbg rfl rfl (Opd.gd hG u_0) (fun hz => (Opd.gd (bA hG (bNF hz)) u_1)))) <| o_p rfl (Zbb rfl rfl u_0 (fun hz => (Opd.gd hz u_1))) <| o_p rfl (Zb rfl rfl u_0) <| o_n) (by kernel_rfl) (fun a g hst hb => ?_)
         refine wp_cond_split (hst.bool 1 rfl) (fun hc11 => ?_) (fun hc11 => ?_)
         · replace H0 := Zp hc11 H0
           refine r_s (L := []) (T := [⟨[], _, [], [], [2]⟩]) (F := [.op 0 0]) (hst.pick [] rfl) hb Za
             (o_p rfl (Zb rfl rfl c_i) <| o_n) (by kernel_rfl) (fun a g hst hb => ?_)
           refine wp_ret ?_
           refine Zt ?_
           refine Zk ?_
           obtain rfl := Option.some.inj H0
           exact Zy rfl hst hb (Zi (s := 2)) (hst.at 0 rfl)
         · replace H0 := Zr hc11 H0
           obtain ⟨r12, h13, H0⟩ := Zh H0
           refine r_s (L := [(1, _)]) (T := [⟨[.old 0], _, [], [], [53]⟩, ⟨[.op 0 0], _, [], [0], [54]⟩, ⟨[.op 1 0], _, [], [0, 1], [55]⟩, ⟨[.op 2 0], _, [], [0, 1, 2], [56]⟩, ⟨[.op 3 0], _, [], Lr 4, [52]⟩]) (F := [.old 0, .op 4 0]) (hst.pick [0] rfl) hb Za
             (o_p rfl (Ze Zj4 rfl rfl u_0) <| o_p rfl (Zg Zci rfl rfl u_0) <| o_p rfl (Zs Zrt (Ziv _ h13) rfl rfl (.cons u_0 .nil)) <| o_p rfl (Zb7 rfl rfl u_0) <| o_p rfl (Zb rfl rfl u_0) <| o_n) (by kernel_rfl) (fun a g hst hb => ?_)
           refine wp_cond_split (hst.bool 1 rfl) (fun hc14 => ?_) (fun hc14 => ?_)
           · replace H0 := Zp hc14 H0
             refine r_s (L := []) (T := [⟨[], _, [], [], [2]⟩]) (F := [.op 0 0]) (hst.pick [] rfl) hb Za
               (o_p rfl (Zb rfl rfl c_i) <| o_n) (by kernel_rfl) (fun a g hst hb => ?_)
             refine wp_ret ?_
             refine Zt ?_
             refine Zk ?_
             obtain rfl := Option.some.inj H0
             exact Zy rfl hst hb (Zi (s := 2)) (hst.at 0 rfl)
           · replace H0 := Zr hc14 H0
             refine r_s (L := [(1, _)]) (T := [⟨[.old 0], _, [], [], [58]⟩, ⟨[.op 0 0], _, [], [0], [59]⟩, ⟨[.op 1 0], _, [], [0, 1], [60]⟩, ⟨[.op 2 0], _, [], [0, 1, 2], [57]⟩]) (F := [.old 0, .op 3 0]) (hst.pick [0] rfl) hb Za
               (o_p rfl (Ze Zdm rfl rfl u_0) <| o_p rfl (Zg ty_3 rfl rfl u_0) <| o_p rfl (Z8 rfl rfl u_0 c_i) <| o_p rfl (Zb rfl rfl u_0) <| o_n) (by kernel_rfl) (fun a g hst hb => ?_)
             refine wp_cond_split (hst.bool 1 rfl) (fun hc15 => ?_) (fun hc15 => ?_)
             · replace H0 := Zp hc15 H0
               obtain ⟨r16, h17, H0⟩ := Zh H0
               refine r_s (L := [(1, _)]) (T := [⟨[.old 0], _, [], [], [61]⟩, ⟨[.op 0 0], _, [], [0], [62]⟩, ⟨[.op 1 0], _, [], [0, 1], [63]⟩, ⟨[.op 2 0], _, [], [0, 1, 2], [2]⟩]) (F := [.op 3 0]) (hst.pick [0] rfl) hb Za
                 (o_p rfl (Ze Zl2 rfl rfl u_0) <| o_p rfl (Zg Z4 rfl rfl u_0) <| o_p rfl (Zs Zo2 (Zh2 _ h17) rfl rfl (.cons u_0 .nil)) <| o_p rfl (Zb rfl rfl u_0) <| o_n) (by kernel_rfl) (fun a g hst hb => ?_)
               refine wp_ret ?_
               refine Zt ?_
               refine Zk ?_
               obtain rfl := Option.some.inj H0
               exact Zy rfl hst hb (Zi (s := 2)) (hst.at 0 rfl)
             · replace H0 := Zr hc15 H0
               refine wp_skip ?_
               refine Zbe ?_
               refine Zn ?_
               refine r_s (L := []) (T := [⟨[], _, [], [], [2]⟩]) (F := [.op 0 0]) (hst.pick [] rfl) hb Za
                 (o_p rfl (Zb rfl rfl c_i) <| o_n) (by kernel_rfl) (fun a g hst hb => ?_)
               refine wp_ret ?_
               obtain rfl := Option.some.inj H0
               exact Zy rfl hst hb (Zi (s := 2)) (hst.at 0 rfl)
theorem Zfl (a0 : Int) (a1 : Zd) (a2 : Bool) {r : Zd × Bool × Zq × Zd} (h : Ze7 a0 a1 a2 = some r) : FnB Tryd.prog 67 [.val (pInt .i64 a0), .box Zf a1 r.2.2.2, .val (Kd.bool.ptr a2)] (pTup [(Zf.pd r.1), (Z5 r.2.1), (Z0.pd r.2.2.1)]) := by
 have H0 := h
 unfold Ze7 at H0
 clear h
 refine Zf6 (N := 11) Tryd.func67 rfl rfl (Nat.le_of_ble_eq_true rfl) rfl rfl (fun a g0 bs hbs hst hb => ?_)
 obtain ⟨b1, rfl⟩ := Zyy hbs
 replace hst : St 11 [(0, (pInt .i64 a0)), (1, (Zbd (some b1) Zf 1 a1)), (2, (Kd.bool.ptr a2))] _ _ := hst
 refine r_s (T := [⟨[], [(4, (pBox Zf 4 (default : Zd)))], [5], [], [4]⟩, ⟨[], _, [], [], [5]⟩, ⟨[], [(6, (pBox Z0 6 (default : Zq)))], [7], [], [6]⟩]) (F := [.old 0, .old 1, .old 2, .op 0 0, .op 2 0]) hst hb Za
   (o_p rfl (Zbj (zs := [.int .i64 0, .int .i64 0, .int .i64 0, .int .i64 0, .float .f64 0, .int .i64 0, .string ByteArray.empty, .slice none 0 0]) (by kernel_rfl) (fun g => Zbr g) rfl rfl) <| o_p rfl (Zb rfl rfl c_b) <| o_p rfl (Zbj (zs := [.int .i64 0, .int .i64 0, .int .i64 0, .int .i64 0, .int .i64 0, .int .i64 0, .float .f64 0, .int .i64 0, .string ByteArray.empty, .slice none 0 0]) (by kernel_rfl) (fun g => Zhb g) rfl rfl) <| o_n) (by kernel_rfl) (fun a g hst hb => ?_)
 refine r_s (T := [⟨[.old 1], _, [], [], [7]⟩, ⟨[.old 2], _, [], [], [8]⟩, ⟨[.old 0], _, [], [], [9]⟩, ⟨[.op 2 0], _, [], [2], [10]⟩, ⟨[.op 0 0, .old 3], _, [5], [0], [4]⟩, ⟨[.op 1 0], _, [], [0, 1, 4], [5]⟩, ⟨[.op 3 0, .old 4], _, [7], Lr 6, [6]⟩]) (F := [.old 1, .op 4 0, .op 5 0, .op 6 0]) hst hb Za
   (o_p rfl (Zdd Z4 rfl rfl u_0) <| o_p rfl (Zg ty_4 rfl rfl u_0) <| o_p rfl (Zc rfl rfl u_0) <| o_p rfl (Zq7 rfl rfl u_0) <| o_p rfl (Z6 Z4 rfl rfl u_1 u_0) <| o_p rfl (Zb rfl rfl u_0) <| o_p rfl (Z6 Zdl rfl rfl u_1 u_0) <| o_n) (by kernel_rfl) (fun a g hst hb => ?_)
 refine wp_ret ?_
 obtain rfl := Option.some.inj H0
 obtain ⟨u0, hu0, hq0⟩ := Zba (P := Tryd.prog) Z4 (hst.at 1 rfl)
 obtain ⟨u2, hu2, hq2⟩ := Zba (P := Tryd.prog) Zdl (hst.at 3 rfl)
 exact Zzk rfl hst hb hu0 (Zi (s := 5)) hu2 (Zgd hq0 (hst.at 2 rfl) hq2) ⟨Zby (hst.at 0 rfl), trivial⟩
end Go.CL
