/- A part of the proof of HandReads. -/
import Derived.Test.YtlanlccmokaajaaGreatDoorHandReadsC2
import Derived.Test.YtlanlccmokaajaaGreatDoorProg
set_option linter.unusedVariables false
set_option linter.unusedSimpArgs false
set_option maxRecDepth 100000
namespace Go.CL
open Go Go.RowKit
structure Zj where
 Score : Nat
 Name : ByteArray
 deriving Inhabited
structure Zd where
 Kind : Int
 Num : Int
 Low : Int
 High : Int
 Real : Nat
 Cap : Int
 Text : ByteArray
 List : List Zj
 deriving Inhabited
structure Zs where
 Kind : Int
 Key : ByteArray
 N : Int
 X : Nat
 S : ByteArray
 Make : Zd
 Must : Bool
 deriving Inhabited
structure Zbg where
 Acts : List Zs
 deriving Inhabited
structure Zb2 where
 text : Bool
 num : Bool
 bounds : Bool
 real : Bool
 list : Bool
 deriving Inhabited
structure Zc9 where
 word : ByteArray
 on : Int
 has : ByteArray
 deriving Inhabited
inductive shelf_nodeT where
 | nil
 | node (key : ByteArray) (rec_ : Zd) (left : shelf_nodeT) (right : shelf_nodeT) (size : Int)
 deriving Inhabited
structure shelf_node where
 key : ByteArray
 rec_ : Zd
 left : shelf_nodeT
 right : shelf_nodeT
 size : Int
 deriving Inhabited
def shelf_nodeT.un : shelf_nodeT → Option shelf_node
 | .nil => none
 | .node x0 x1 x2 x3 x4 => some ⟨x0, x1, x2, x3, x4⟩
def shelf_node.up (x : shelf_node) : shelf_nodeT := .node x.key x.rec_ x.left x.right x.size
def shelf_nodeT.isNil : shelf_nodeT → Bool
 | .nil => true
 | .node .. => false
def shelf_nodeT.hh : shelf_nodeT → Nat
 | .nil => 0
 | .node x0 x1 x2 x3 x4 => max x2.hh x3.hh + 1
structure Zl where
 top : shelf_nodeT
 room : Int
 deriving Inhabited
structure Zi where
 Code : Int
 Num : Int
 Rec : Zd
 deriving Inhabited
structure Z6 where
 Code : Int
 At : Int
 Answers : List Zi
 deriving Inhabited
structure Zu where
 d : Zbg
 split : List ByteArray
 now : Zl
 out : Z6
 over : Bool
 deriving Inhabited
structure Z9 where
 Key : ByteArray
 Rec : Zd
 deriving Inhabited
structure Zo where
 L : List Z9
 Room : Int
 deriving Inhabited
def g_0 : List Zc9 := [{ word := ⟨#[]⟩, on := (0), has := ⟨#[]⟩ },
 { word := ⟨#[110, 101, 119]⟩, on := (0), has := ⟨#[109]⟩ },
 { word := ⟨#[100, 114, 111, 112]⟩, on := (0), has := ⟨#[]⟩ },
 { word := ⟨#[105, 115]⟩, on := (0), has := ⟨#[]⟩ },
 { word := ⟨#[108, 111, 111, 107]⟩, on := (0), has := ⟨#[]⟩ },
 { word := ⟨#[112, 117, 116]⟩, on := (1), has := ⟨#[115]⟩ },
 { word := ⟨#[115, 119, 97, 112]⟩, on := (1), has := ⟨#[115]⟩ },
 { word := ⟨#[97, 100, 100]⟩, on := (2), has := ⟨#[110]⟩ },
 { word := ⟨#[112, 108, 117, 115]⟩, on := (3), has := ⟨#[110]⟩ },
 { word := ⟨#[114, 101, 97, 99, 104]⟩, on := (3), has := ⟨#[110]⟩ },
 { word := ⟨#[105, 110]⟩, on := (4), has := ⟨#[110]⟩ },
 { word := ⟨#[111, 117, 116]⟩, on := (4), has := ⟨#[110]⟩ },
 { word := ⟨#[101, 110, 111, 117, 103, 104]⟩, on := (4), has := ⟨#[110]⟩ },
 { word := ⟨#[114, 97, 105, 115, 101]⟩, on := (5), has := ⟨#[120]⟩ },
 { word := ⟨#[108, 111, 119, 101, 114]⟩, on := (6), has := ⟨#[120]⟩ },
 { word := ⟨#[115, 104, 105, 102, 116]⟩, on := (7), has := ⟨#[120]⟩ },
 { word := ⟨#[115, 99, 97, 108, 101]⟩, on := (7), has := ⟨#[120]⟩ },
 { word := ⟨#[102, 105, 120]⟩, on := (7), has := ⟨#[120]⟩ },
 { word := ⟨#[106, 111, 105, 110]⟩, on := (8), has := ⟨#[115]⟩ },
 { word := ⟨#[108, 101, 97, 118, 101]⟩, on := (8), has := ⟨#[115]⟩ },
 { word := ⟨#[104, 97, 115]⟩, on := (8), has := ⟨#[115]⟩ },
 { word := ⟨#[111, 102, 102, 101, 114]⟩, on := (9), has := ⟨#[120, 115]⟩ }]
def Zbo (a0 : List Zj) : Option (List Zj) := if a0.length * 24 ≤ 140737488355328 then some a0 else none
def Zd9 (a0 : Zd) : Option (Zd) := ((Zbo a0.List).bind fun r1 => (some ({ a0 with List := r1 })))
def Zfa (a0 : List Zs) : Option (List Zs) := if a0.length * 152 ≤ 140737488355328 then some a0 else none
def Zkm (a0 : Zbg) : Option (Zbg) := if a0.Acts.length * 152 ≤ 140737488355328 ∧ (a0.Acts.all fun e => decide (e.Make.List.length * 24 ≤ 140737488355328)) = true then some a0 else none
def Zfo (a0 : List ByteArray) : Option (List ByteArray) := if a0.length * 16 ≤ 140737488355328 then some a0 else none
def Zjt (j11 : Bool) : Option (Zb2) := (if j11 then (some ({ text := false, num := false, bounds := false, real := false, list := true } : Zb2)) else (some ({ text := false, num := false, bounds := false, real := false, list := false } : Zb2)))
def Zh4 (a0 : Int) (j8 : Bool) : Option (Zb2) := (if j8 then (some ({ text := false, num := false, bounds := false, real := true, list := false } : Zb2)) else (if (a0 == (8 : Int)) then (Zjt (a0 == (8 : Int))) else (Zjt (a0 == (9 : Int)))))
def Zjq (a0 : Int) (j3 : Bool) : Option (Zb2) := (if j3 then (some ({ text := false, num := true, bounds := false, real := false, list := false } : Zb2)) else (if (a0 == (4 : Int)) then (some ({ text := false, num := true, bounds := true, real := false, list := false } : Zb2)) else (if (a0 == (5 : Int)) then (Zh4 a0 (a0 == (5 : Int))) else (if (a0 == (6 : Int)) then (Zh4 a0 (a0 == (6 : Int))) else (Zh4 a0 (a0 == (7 : Int)))))))
def Zee (a0 : Int) : Option (Zb2) := (if (a0 == (1 : Int)) then (some ({ text := true, num := false, bounds := false, real := false, list := false } : Zb2)) else (if (a0 == (2 : Int)) then (Zjq a0 (a0 == (2 : Int))) else (Zjq a0 (a0 == (3 : Int)))))
def Zpn : Option (Nat) := (some (Int.toNat (9221120237041090561 : Int)))
def Zff (a0 : Nat) : Option (Nat) := (if (fneq a0 a0) then ((Zpn).bind fun r2 => (some r2)) else (some a0))
def Zli (a0 : Nat) : Option (Int) := ((Zff a0).bind fun r1 => (if ((bAnd .u64 (r1 : Int) (9223372036854775808 : Int)) != (0 : Int)) then (some (bXor .u64 IntKind.u64.max (r1 : Int))) else (some (bOr .u64 (r1 : Int) (9223372036854775808 : Int)))))
def Ziv (a0 : Nat) (a1 : Nat) : Option (Bool) := ((Zli a0).bind fun r1 => ((Zli a1).bind fun r3 => (some (r1 == r3))))
def Zn4 (a0 : Zd) (a1 : Zb2) : Option (Bool) := ((gd ((((a1.text || (sEq a0.Text (⟨#[]⟩ : ByteArray))) && (a1.num || (a0.Num == (0 : Int)))) && (a1.bounds || ((a0.Low == (0 : Int)) && (a0.High == (0 : Int))))) && (!a1.real)) (Ziv a0.Real (0 : Nat))).bind fun r1 => (some (((((a1.text || (sEq a0.Text (⟨#[]⟩ : ByteArray))) && (a1.num || (a0.Num == (0 : Int)))) && (a1.bounds || ((a0.Low == (0 : Int)) && (a0.High == (0 : Int))))) && (a1.real || r1)) && (a1.list || ((a0.Cap == (0 : Int)) && ((a0.List.length : Int) == (0 : Int)))))))
def Zji (a0 : Nat) : Option (Bool) := ((Zff a0).bind fun r1 => (some ((a0 : Int) == (r1 : Int))))
def Zle (a0 : Nat) (a1 : Nat) : Option (Bool) := ((Zli a0).bind fun r1 => ((Zli a1).bind fun r3 => (some (decide (r1 < r3)))))
def Zjn (a0 : Zj) (a1 : Zj) : Option (Bool) := ((Ziv a0.Score a1.Score).bind fun r1 => (if (!r1) then ((Zle a1.Score a0.Score).bind fun r4 => (some r4)) else (some (sLt a0.Name a1.Name))))
def Zfk (a0 : Int) (a1 : List Zj) : Nat → (Int) → Option ((Int) ⊕ (Unit))
 | 0, _ => none
 | n + 1, x1 => (if (decide (x1 < (a1.length : Int))) then ((idx a1 x1).bind fun e3 => (if (decide ((16 : Int) < (e3.Name.size : Int))) then (some (.inl (3 : Int))) else ((gd (a0 == (8 : Int)) (Ziv e3.Score (0 : Nat))).bind fun r6 => ((gd (!((a0 == (8 : Int)) && (!r6))) (Zji e3.Score)).bind fun r8 => (if (((a0 == (8 : Int)) && (!r6)) || (!r8)) then (some (.inl (4 : Int))) else ((gd ((decide ((0 : Int) < x1)) && (a0 == (8 : Int))) (idx a1 (IntKind.i64.wrap (x1 - (1 : Int))))).bind fun e11 => (if (((decide ((0 : Int) < x1)) && (a0 == (8 : Int))) && (!sLt e11.Name e3.Name)) then (some (.inl (4 : Int))) else ((gd ((decide ((0 : Int) < x1)) && (a0 == (9 : Int))) (idx a1 (IntKind.i64.wrap (x1 - (1 : Int))))).bind fun e14 => ((gd ((decide ((0 : Int) < x1)) && (a0 == (9 : Int))) (Zjn e14 e3)).bind fun r16 => (if (((decide ((0 : Int) < x1)) && (a0 == (9 : Int))) && (!r16)) then (some (.inl (4 : Int))) else ((Zfk a0 a1 n) (IntKind.i64.wrap (x1 + (1 : Int)))))))))))))) else (some (.inr ())))
def Zmu (a0 : Int) (a1 : List Zj) : Option (Int) := ((Zfk a0 a1 (Int.toNat ((a1.length : Int) - (0 : Int)) + 1) (0 : Int)).bind fun z19 => match z19 with | .inl r => some r | .inr () => (some (0 : Int)))
def Zd8 (a0 : Zd) : Option (Int) := ((Zee a0.Kind).bind fun r1 => (if ((decide (a0.Kind ≤ (0 : Int))) || (decide ((10 : Int) ≤ a0.Kind))) then (some (5 : Int)) else ((Zn4 a0 r1).bind fun r4 => (if (!r4) then (some (4 : Int)) else (if (decide ((64 : Int) < (a0.Text.size : Int))) then (some (3 : Int)) else (if (r1.bounds && ((((decide (a0.Low < (-2305843009213693952 : Int))) || (decide ((2305843009213693952 : Int) < a0.High))) || (decide (a0.Num < a0.Low))) || (decide (a0.High < a0.Num)))) then (some (1 : Int)) else ((Zji a0.Real).bind fun r9 => (if (!r9) then (some (4 : Int)) else (if (!r1.list) then (some (0 : Int)) else (if ((decide (a0.Cap < (1 : Int))) || (decide ((32 : Int) < a0.Cap))) then (some (1 : Int)) else (if (decide (a0.Cap < (a0.List.length : Int))) then (some (8 : Int)) else ((Zmu a0.Kind a0.List).bind fun r15 => (some r15)))))))))))))
def Zn9 (a0 : Int) : Option (Zc9) := (if ((decide (a0 ≤ (0 : Int))) || (decide ((22 : Int) ≤ a0))) then (some ({ word := ByteArray.empty, on := (0 : Int), has := ByteArray.empty } : Zc9)) else ((idx g_0 a0).bind fun e2 => (some e2)))
def Zbj (a0 : List Zj) (a1 : List Zj) (φ2 : Zj → Zj → Option Bool) : Nat → (Int) → Option ((Bool) ⊕ (Unit))
 | 0, _ => none
 | n + 1, x2 => (if (decide (x2 < (a0.length : Int))) then ((idx a0 x2).bind fun e4 => ((idx a1 x2).bind fun e6 => ((φ2 e4 e6).bind fun r8 => (if (!r8) then (some (.inl false)) else ((Zbj a0 a1 φ2 n) (IntKind.i64.wrap (x2 + (1 : Int)))))))) else (some (.inr ())))
def Zb7 (a0 : List Zj) (a1 : List Zj) (φ2 : Zj → Zj → Option Bool) : Option (Bool) := (if ((a0.length : Int) != (a1.length : Int)) then (some false) else ((Zbj a0 a1 φ2 (Int.toNat ((a0.length : Int) - (0 : Int)) + 1) (0 : Int)).bind fun z11 => match z11 with | .inl r => some r | .inr () => (some true)))
def Zie (a0 : Zj) (a1 : Zj) : Option (Bool) := ((gd (sEq a0.Name a1.Name) (Ziv a0.Score a1.Score)).bind fun r1 => (some ((sEq a0.Name a1.Name) && r1)))
def Zmc (a0 : Zd) (a1 : Zd) : Option (Bool) := ((gd ((((a0.Kind == a1.Kind) && (a0.Num == a1.Num)) && (a0.Low == a1.Low)) && (a0.High == a1.High)) (Ziv a0.Real a1.Real)).bind fun r1 => ((gd (((((((a0.Kind == a1.Kind) && (a0.Num == a1.Num)) && (a0.Low == a1.Low)) && (a0.High == a1.High)) && r1) && (a0.Cap == a1.Cap)) && (sEq a0.Text a1.Text)) (Zb7 a0.List a1.List (fun y0 y1 => Zie y0 y1))).bind fun r3 => (some ((((((((a0.Kind == a1.Kind) && (a0.Num == a1.Num)) && (a0.Low == a1.Low)) && (a0.High == a1.High)) && r1) && (a0.Cap == a1.Cap)) && (sEq a0.Text a1.Text)) && r3))))
def Zhk (a0 : Zc9) (a1 : Int) : Nat → (Int) → Option ((Bool) ⊕ (Unit))
 | 0, _ => none
 | n + 1, x1 => (if (decide (x1 < (a0.has.size : Int))) then ((sidx a0.has x1).bind fun b3 => (if (b3 == a1) then (some (.inl true)) else ((Zhk a0 a1 n) (IntKind.i64.wrap (x1 + (1 : Int)))))) else (some (.inr ())))
def Zdd (a0 : Zc9) (a1 : Int) : Option (Bool) := ((Zhk a0 a1 (Int.toNat ((a0.has.size : Int) - (0 : Int)) + 1) (0 : Int)).bind fun z6 => match z6 with | .inl r => some r | .inr () => (some false))
def Zpu (a0 : Zs) (a1 : Zc9) : Option (Bool) := ((Zdd a1 (110 : Int)).bind fun r1 => ((gd (r1 || (a0.N == (0 : Int))) (Zdd a1 (120 : Int))).bind fun r3 => ((gd ((r1 || (a0.N == (0 : Int))) && (!r3)) (Ziv a0.X (0 : Nat))).bind fun r5 => ((gd ((r1 || (a0.N == (0 : Int))) && (r3 || r5)) (Zdd a1 (115 : Int))).bind fun r7 => ((gd (((r1 || (a0.N == (0 : Int))) && (r3 || r5)) && (r7 || (sEq a0.S (⟨#[]⟩ : ByteArray)))) (Zdd a1 (109 : Int))).bind fun r9 => ((gd ((((r1 || (a0.N == (0 : Int))) && (r3 || r5)) && (r7 || (sEq a0.S (⟨#[]⟩ : ByteArray)))) && (!r9)) (Zmc a0.Make ({ Kind := (0 : Int), Num := (0 : Int), Low := (0 : Int), High := (0 : Int), Real := (0 : Nat), Cap := (0 : Int), Text := ByteArray.empty, List := ([] : List Zj) } : Zd))).bind fun r11 => (some ((((r1 || (a0.N == (0 : Int))) && (r3 || r5)) && (r7 || (sEq a0.S (⟨#[]⟩ : ByteArray)))) && (r9 || r11)))))))))
def Zp3 (a0 : Zc9) : Option (Int) := (if (a0.on == (1 : Int)) then (some (64 : Int)) else (some (16 : Int)))
def Zfz (a0 : Zs) : Option (Int) := ((Zn9 a0.Kind).bind fun r1 => (if (sEq r1.word (⟨#[]⟩ : ByteArray)) then (some (5 : Int)) else (if ((sEq a0.Key (⟨#[]⟩ : ByteArray)) || (decide ((24 : Int) < (a0.Key.size : Int)))) then (some (1 : Int)) else ((Zpu a0 r1).bind fun r5 => (if (!r5) then (some (4 : Int)) else ((Zp3 r1).bind fun r8 => (if (decide (r8 < (a0.S.size : Int))) then (some (3 : Int)) else (if (((a0.Kind == (10 : Int)) || (a0.Kind == (11 : Int))) && ((decide (a0.N < (0 : Int))) || (decide ((2305843009213693952 : Int) < a0.N)))) then (some (1 : Int)) else ((Zji a0.X).bind fun r12 => (if (!r12) then (some (4 : Int)) else (if (a0.Kind == (1 : Int)) then ((Zd8 a0.Make).bind fun r16 => (some r16)) else (some (0 : Int)))))))))))))
def Ze8 (a0 : Zbg) : Nat → (Int) → Option ((Int × Int) ⊕ (Unit))
 | 0, _ => none
 | n + 1, x2 => (if (decide (x2 < (a0.Acts.length : Int))) then ((idx a0.Acts x2).bind fun e4 => ((Zfz e4).bind fun r6 => (if (r6 != (0 : Int)) then (some (.inl (r6, (IntKind.i64.wrap (x2 + (1 : Int)))))) else ((Ze8 a0 n) (IntKind.i64.wrap (x2 + (1 : Int))))))) else (some (.inr ())))
def Zfr (a0 : Zbg) : Option (Int × Int) := (if (((a0.Acts.length : Int) == (0 : Int)) || (decide ((12 : Int) < (a0.Acts.length : Int)))) then (some ((1 : Int), (0 : Int))) else ((Ze8 a0 (Int.toNat ((a0.Acts.length : Int) - (0 : Int)) + 1) (0 : Int)).bind fun z9 => match z9 with | .inl r => some r | .inr () => (some ((0 : Int), (0 : Int)))))
def Zmt (j8 : Zu) : Option (Zu) := (some j8)
def Zlg (a0 : Zbg) (a1 : Zl) (a2 : List ByteArray) : Option (Zu) := ((Zkm a0).bind fun r1 => ((Zfo a2).bind fun r3 => ((Zfr a0).bind fun r5 => (if (r5.1 != (0 : Int)) then (Zmt ({ ({ ({ d := r1, split := r3, now := a1, out := (default : Z6), over := false } : Zu) with out := ({ Code := r5.1, At := r5.2, Answers := ([] : List Zi) } : Z6) } : Zu) with over := true } : Zu)) else (Zmt ({ d := r1, split := r3, now := a1, out := (default : Z6), over := false } : Zu))))))
def Zed (a0 : List Zi) : Option (List Zi) := if a0.length * 104 ≤ 140737488355328 then some a0 else none
def Zm9 (a0 : Z6) : Option (Z6) := if a0.Answers.length * 104 ≤ 140737488355328 ∧ (a0.Answers.all fun e => decide (e.Rec.List.length * 24 ≤ 140737488355328)) = true then some a0 else none
def Zgt (a0 : Zu) : Option (Z6 × Bool) := (if (!a0.over) then (some (({ Code := (0 : Int), At := (0 : Int), Answers := ([] : List Zi) } : Z6), false)) else ((Zm9 a0.out).bind fun r2 => (some (r2, true))))
def Zjf (a0 : Int) : Option (Bool) := (some (((((a0 == (3 : Int)) || (a0 == (4 : Int))) || (a0 == (9 : Int))) || (a0 == (12 : Int))) || (a0 == (20 : Int))))
def Zg3 (x1 : Zd) (kk : (Zd) → (shelf_nodeT) → Option ((Zd × Bool) ⊕ (Zd))) (j10 : shelf_nodeT) : Option ((Zd × Bool) ⊕ (Zd)) := (kk x1 j10)
def Zd2 (a1 : ByteArray) : Nat → (Zd) → (shelf_nodeT) → Option ((Zd × Bool) ⊕ (Zd))
 | 0, _, _ => none
 | n + 1, x1, x2 => (if (!x2.isNil) then ((x2.un).bind fun n4 => (if (sLt a1 n4.key) then (Zg3 x1 (Zd2 a1 n) n4.left) else (if (!(sLt a1 n4.key || sEq a1 n4.key)) then (Zg3 x1 (Zd2 a1 n) n4.right) else ((Zd9 n4.rec_).bind fun r8 => (some (.inl (r8, true))))))) else (some (.inr x1)))
def Zd1 (a0 : Zl) (a1 : ByteArray) : Option (Zd × Bool) := ((Zd2 a1 (a0.top.hh + 1) (default : Zd) a0.top).bind fun z12 => match z12 with | .inl r => some r | .inr y11 => (some (({ Kind := (0 : Int), Num := (0 : Int), Low := (0 : Int), High := (0 : Int), Real := (0 : Nat), Cap := (0 : Int), Text := ByteArray.empty, List := ([] : List Zj) } : Zd), false)))
def Zcl (a0 : shelf_nodeT) : Option (Int) := (if a0.isNil then (some (0 : Int)) else ((a0.un).bind fun n2 => (some n2.size)))
def Zey (a0 : Zl) : Option (Int) := ((Zcl a0.top).bind fun r1 => (some r1))
def Zds (a0 : ByteArray) (a1 : Zd) (a2 : shelf_nodeT) (a3 : shelf_nodeT) : Option (shelf_nodeT) := ((Zcl a2).bind fun r1 => ((Zcl a3).bind fun r3 => (some ({ key := a0, rec_ := a1, left := a2, right := a3, size := (IntKind.i64.wrap ((IntKind.i64.wrap (r1 + r3)) + (1 : Int))) } : shelf_node).up)))
def Zhr (a0 : shelf_nodeT) (a1 : shelf_nodeT) : Option (Bool) := ((Zcl a0).bind fun r1 => ((Zcl a1).bind fun r3 => (some (decide ((IntKind.i64.wrap ((3 : Int) * (IntKind.i64.wrap (r3 + (1 : Int))))) < (IntKind.i64.wrap (r1 + (1 : Int))))))))
def Zhq (a0 : ByteArray) (a1 : Zd) (a2 : shelf_nodeT) (a3 : shelf_nodeT) : Option (shelf_nodeT) := ((Zhr a3 a2).bind fun r1 => ((gd r1 (a3.un)).bind fun n3 => ((gd r1 (Zcl n3.left)).bind fun r5 => ((gd r1 (a3.un)).bind fun n7 => ((gd r1 (Zcl n7.right)).bind fun r9 => (if (r1 && (decide ((IntKind.i64.wrap (r5 + (1 : Int))) < (IntKind.i64.wrap ((2 : Int) * (IntKind.i64.wrap (r9 + (1 : Int)))))))) then ((a3.un).bind fun n12 => ((Zds a0 a1 a2 n12.left).bind fun r14 => ((Zds n12.key n12.rec_ r14 n12.right).bind fun r16 => (some r16)))) else ((Zhr a3 a2).bind fun r18 => (if r18 then ((a3.un).bind fun n21 => ((n21.left.un).bind fun n23 => ((Zds a0 a1 a2 n23.left).bind fun r25 => ((Zds n21.key n21.rec_ n23.right n21.right).bind fun r27 => ((Zds n23.key n23.rec_ r25 r27).bind fun r29 => (some r29)))))) else ((Zhr a2 a3).bind fun r31 => ((gd r31 (a2.un)).bind fun n33 => ((gd r31 (Zcl n33.right)).bind fun r35 => ((gd r31 (a2.un)).bind fun n37 => ((gd r31 (Zcl n37.left)).bind fun r39 => (if (r31 && (decide ((IntKind.i64.wrap (r35 + (1 : Int))) < (IntKind.i64.wrap ((2 : Int) * (IntKind.i64.wrap (r39 + (1 : Int)))))))) then ((a2.un).bind fun n42 => ((Zds a0 a1 n42.right a3).bind fun r44 => ((Zds n42.key n42.rec_ n42.left r44).bind fun r46 => (some r46)))) else ((Zhr a2 a3).bind fun r48 => (if r48 then ((a2.un).bind fun n51 => ((n51.right.un).bind fun n53 => ((Zds n51.key n51.rec_ n51.left n53.left).bind fun r55 => ((Zds a0 a1 n53.right a3).bind fun r57 => ((Zds n53.key n53.rec_ r55 r57).bind fun r59 => (some r59)))))) else ((Zds a0 a1 a2 a3).bind fun r61 => (some r61))))))))))))))))))
def Zhw (self : shelf_nodeT → ByteArray → Zd → Option (shelf_nodeT)) (a0 : shelf_nodeT) (a1 : ByteArray) (a2 : Zd) : Option (shelf_nodeT) := (if a0.isNil then ((Zds a1 a2 shelf_nodeT.nil shelf_nodeT.nil).bind fun r2 => (some r2)) else ((a0.un).bind fun n4 => (if (sLt a1 n4.key) then ((self n4.left a1 a2).bind fun r7 => ((Zhq n4.key n4.rec_ r7 n4.right).bind fun r9 => (some r9))) else (if (!(sLt a1 n4.key || sEq a1 n4.key)) then ((self n4.right a1 a2).bind fun r12 => ((Zhq n4.key n4.rec_ n4.left r12).bind fun r14 => (some r14))) else ((Zds a1 a2 n4.left n4.right).bind fun r16 => (some r16))))))
def Ze7 : Nat → shelf_nodeT → ByteArray → Zd → Option (shelf_nodeT)
 | 0 => fun _ _ _ => none
 | n + 1 => Zhw (Ze7 n)
def Zml (a0 : shelf_nodeT) (a1 : ByteArray) (a2 : Zd) : Option (shelf_nodeT) := Ze7 (a0.hh + 1) a0 a1 a2
def Zc4 (a0 : Zl) (a1 : ByteArray) (a2 : Zd) : Option (Zl × Int) := (if ((sEq a1 (⟨#[]⟩ : ByteArray)) || (decide ((24 : Int) < (a1.size : Int)))) then (some (a0, (1 : Int))) else ((Zd8 a2).bind fun r2 => (if (r2 != (0 : Int)) then (some (a0, r2)) else ((Zd1 a0 a1).bind fun r5 => ((gd (!r5.2) (Zey a0)).bind fun r7 => (if ((!r5.2) && (decide (a0.room ≤ r7))) then (some (a0, (8 : Int))) else ((Zd9 a2).bind fun r10 => ((Zml a0.top a1 r10).bind fun r12 => (some (({ top := r12, room := a0.room } : Zl), (0 : Int)))))))))))
def Zcf (a0 : List ByteArray) (a1 : ByteArray) : Nat → (Int) → Option ((Int) ⊕ (Unit))
 | 0, _ => none
 | n + 1, x1 => (if (decide (x1 < (a0.length : Int))) then ((idx a0 x1).bind fun e3 => (if (sEq a1 e3) then (some (.inl x1)) else ((Zcf a0 a1 n) (IntKind.i64.wrap (x1 + (1 : Int)))))) else (some (.inr ())))
def Zfp (a0 : List ByteArray) (a1 : ByteArray) : Option (Int) := ((Zcf a0 a1 (Int.toNat ((a0.length : Int) - (0 : Int)) + 1) (0 : Int)).bind fun z6 => match z6 with | .inl r => some r | .inr () => (some (-1 : Int)))
def Zdm (a0 : List ByteArray) (a1 : ByteArray) : Option (Bool) := ((Zfp a0 a1).bind fun r1 => (some (decide ((0 : Int) ≤ r1))))
def Zex : Nat → (shelf_nodeT) → Option (shelf_nodeT)
 | 0, _ => none
 | n + 1, x1 => ((x1.un).bind fun n2 => (if (!n2.left.isNil) then ((Zex n) n2.left) else (some x1)))
def Zhy (a0 : shelf_nodeT) : Option (shelf_nodeT) := ((Zex (a0.hh + 1) a0).bind fun z6 => match z6 with | y5 => (some y5))
def Zjm (self : shelf_nodeT → ByteArray → Option (shelf_nodeT)) (a0 : shelf_nodeT) (a1 : ByteArray) : Option (shelf_nodeT) := (if a0.isNil then (some shelf_nodeT.nil) else ((a0.un).bind fun n2 => (if (sLt a1 n2.key) then ((self n2.left a1).bind fun r5 => ((Zhq n2.key n2.rec_ r5 n2.right).bind fun r7 => (some r7))) else (if (!(sLt a1 n2.key || sEq a1 n2.key)) then ((self n2.right a1).bind fun r10 => ((Zhq n2.key n2.rec_ n2.left r10).bind fun r12 => (some r12))) else (if n2.left.isNil then (some n2.right) else (if n2.right.isNil then (some n2.left) else ((Zhy n2.right).bind fun r16 => ((r16.un).bind fun n18 => ((self n2.right n18.key).bind fun r20 => ((Zhq n18.key n18.rec_ n2.left r20).bind fun r22 => (some r22)))))))))))
def Zfs : Nat → shelf_nodeT → ByteArray → Option (shelf_nodeT)
 | 0 => fun _ _ => none
 | n + 1 => Zjm (Zfs n)
def Zmj (a0 : shelf_nodeT) (a1 : ByteArray) : Option (shelf_nodeT) := Zfs (a0.hh + 1) a0 a1
def Zd0 (a0 : Zl) (a1 : ByteArray) : Option (Zl × Bool) := ((Zd1 a0 a1).bind fun r1 => (if (!r1.2) then (some (a0, false)) else ((Zmj a0.top a1).bind fun r4 => (some (({ top := r4, room := a0.room } : Zl), true)))))
def Zgk (x35 : Int) (kk : (Zl) → (Int) → Option (Zl)) (j44 : Zl) : Option (Zl) := (kk j44 (IntKind.i64.wrap (x35 + (1 : Int))))
def Zdi (a0 : Zu) (y19 : List ByteArray) : Nat → (Zl) → (Int) → Option (Zl)
 | 0, _, _ => none
 | n + 1, x34, x35 => (if (decide (x35 < (y19.length : Int))) then ((idx y19 x35).bind fun e37 => ((Zd1 a0.now e37).bind fun r39 => (if r39.2 then ((Zc4 x34 e37 r39.1).bind fun r42 => (Zgk x35 (Zdi a0 y19 n) r42.1)) else (Zgk x35 (Zdi a0 y19 n) x34)))) else (some x34))
def Zgj (x22 : Int) (kk : (Zl) → (Int) → Option (Zl)) (j31 : Zl) : Option (Zl) := (kk j31 (IntKind.i64.wrap (x22 + (1 : Int))))
def Zdg (a0 : Zu) (y19 : List ByteArray) : Nat → (Zl) → (Int) → Option (Zl)
 | 0, _, _ => none
 | n + 1, x21, x22 => (if (decide (x22 < (y19.length : Int))) then ((idx y19 x22).bind fun e24 => ((Zd1 a0.now e24).bind fun r26 => (if (!r26.2) then ((Zd0 x21 e24).bind fun r29 => (Zgj x22 (Zdg a0 y19 n) r29.1)) else (Zgj x22 (Zdg a0 y19 n) x21)))) else (some x21))
def Zfj (x4 : Int) (kk : (List Zs) → (List ByteArray) → (Int) → Option ((List Zs) × (List ByteArray))) (j16 : List Zs) (j17 : List ByteArray) : Option ((List Zs) × (List ByteArray)) := (kk j16 j17 (IntKind.i64.wrap (x4 + (1 : Int))))
def Zc1 (a0 : Zu) : Nat → (List Zs) → (List ByteArray) → (Int) → Option ((List Zs) × (List ByteArray))
 | 0, _, _, _ => none
 | n + 1, x2, x3, x4 => (if (decide (x4 < (a0.d.Acts.length : Int))) then ((idx a0.d.Acts x4).bind fun e6 => ((Zdm a0.split e6.Key).bind fun r8 => (if r8 then (if (x2.length + ([e6] : List Zs).length) * 152 ≤ 140737488355328 then (Zfj x4 (Zc1 a0 n) (x2 ++ ([e6] : List Zs)) x3) else none) else ((Zjf e6.Kind).bind fun r12 => (if (!r12) then (if (x3.length + ([e6.Key] : List ByteArray).length) * 16 ≤ 140737488355328 then (Zfj x4 (Zc1 a0 n) x2 (x3 ++ ([e6.Key] : List ByteArray))) else none) else (Zfj x4 (Zc1 a0 n) x2 x3)))))) else (some (x2, x3)))
def Zd6 (a0 : Zu) (a1 : Zl) : Option (Zl × (List Zs)) := (if ((!a0.over) || (a0.out.Code != (0 : Int))) then (some (a1, ([] : List Zs))) else ((Zc1 a0 (Int.toNat ((a0.d.Acts.length : Int) - (0 : Int)) + 1) ([] : List Zs) ([] : List ByteArray) (0 : Int)).bind fun z20 => match z20 with | (y18, y19) => ((Zdg a0 y19 (Int.toNat ((y19.length : Int) - (0 : Int)) + 1) a1 (0 : Int)).bind fun z33 => match z33 with | y32 => ((Zdi a0 y19 (Int.toNat ((y19.length : Int) - (0 : Int)) + 1) y32 (0 : Int)).bind fun z46 => match z46 with | y45 => ((Zkm ({ Acts := y18 } : Zbg)).bind fun r47 => (some (y45, r47.Acts)))))))
def Zgl (a0 : Zu) : Option (Bool) := (some a0.over)
def Zhn (x2 : Zd) (kk : (Int) → (Zd) → (shelf_nodeT) → Option ((ByteArray × Zd × Bool) ⊕ (Zd))) (j13 : Int) (j14 : shelf_nodeT) : Option ((ByteArray × Zd × Bool) ⊕ (Zd)) := (kk j13 x2 j14)
def Zdu : Nat → (Int) → (Zd) → (shelf_nodeT) → Option ((ByteArray × Zd × Bool) ⊕ (Zd))
 | 0, _, _, _ => none
 | n + 1, x1, x2, x3 => (if (!x3.isNil) then ((x3.un).bind fun n5 => ((Zcl n5.left).bind fun r7 => (if (decide (x1 < r7)) then (Zhn x2 (Zdu n) x1 n5.left) else (if (decide (r7 < x1)) then (Zhn x2 (Zdu n) (IntKind.i64.wrap (x1 - (IntKind.i64.wrap (r7 + (1 : Int))))) n5.right) else ((Zd9 n5.rec_).bind fun r11 => (some (.inl (n5.key, r11, true)))))))) else (some (.inr x2)))
def Zht (a0 : Zl) (a1 : Int) : Option (ByteArray × Zd × Bool) := ((Zdu (a0.top.hh + 1) a1 (default : Zd) a0.top).bind fun z16 => match z16 with | .inl r => some r | .inr y15 => (some ((⟨#[]⟩ : ByteArray), ({ Kind := (0 : Int), Num := (0 : Int), Low := (0 : Int), High := (0 : Int), Real := (0 : Nat), Cap := (0 : Int), Text := ByteArray.empty, List := ([] : List Zj) } : Zd), false)))
def Zge (a0 : Zl) (a1 : Zl) (r6 : Int) : Nat → (Int) → Option ((Bool) ⊕ (Unit))
 | 0, _ => none
 | n + 1, x8 => (if (decide (x8 < r6)) then ((Zht a0 x8).bind fun r10 => ((Zht a1 x8).bind fun r12 => ((gd (!(!sEq r10.1 r12.1)) (Zmc r10.2.1 r12.2.1)).bind fun r14 => (if ((!sEq r10.1 r12.1) || (!r14)) then (some (.inl false)) else ((Zge a0 a1 r6 n) (IntKind.i64.wrap (x8 + (1 : Int)))))))) else (some (.inr ())))
def Zjj (a0 : Zl) (a1 : Zl) : Option (Bool) := ((Zey a0).bind fun r1 => ((Zey a1).bind fun r3 => (if (r1 != r3) then (some false) else ((Zey a0).bind fun r6 => ((Zge a0 a1 r6 (Int.toNat (r6 - (0 : Int)) + 1) (0 : Int)).bind fun z17 => match z17 with | .inl r => some r | .inr () => (some true))))))
def Zk6 (a0 : Int) : Option (Int) := ((Zn9 a0).bind fun r1 => (some r1.on))
def Zi6 (a0 : Zd) (a1 : Zs) (a2 : Zi) : Option (Int × Zd × Zi) := (some ((0 : Int), ({ a0 with Text := a1.S }), a2))
def Zgm (a0 : Zd) (a1 : Zs) (a2 : Zi) : Option (Int × Zd × Zi) := ((Zd9 a0).bind fun r1 => (some ((0 : Int), ({ a0 with Text := a1.S }), ({ a2 with Rec := r1 }))))
def Zi7 (a0 : Zd) (a1 : Zs) (a2 : Zi) : Option (Int × Zd × Zi) := (some ((0 : Int), ({ a0 with Num := (IntKind.i64.wrap (a0.Num + a1.N)) }), a2))
def Zj8 (a0 : Zd) (a1 : Zs) (a2 : Zi) : Option (Int × Zd × Zi) := (if (((decide ((0 : Int) < a1.N)) && (decide ((IntKind.i64.wrap ((9223372036854775807 : Int) - a1.N)) < a0.Num))) || ((decide (a1.N < (0 : Int))) && (decide (a0.Num < (IntKind.i64.wrap ((-9223372036854775808 : Int) - a1.N)))))) then (some ((9 : Int), a0, a2)) else (some ((0 : Int), ({ a0 with Num := (IntKind.i64.wrap (a0.Num + a1.N)) }), a2)))
def Zd4 (a0 : Zd) (a1 : Zs) (a2 : Zi) : Option (Int × Zd × Zi) := (if (decide (a0.Num < a1.N)) then (some ((11 : Int), a0, a2)) else (some ((0 : Int), a0, a2)))
def Zgw (a0 : Zd) (a1 : Zs) (a2 : Zi) : Option (Int × Zd × Zi) := (if (decide ((IntKind.i64.wrap (a0.High - a0.Num)) < a1.N)) then (some ((9 : Int), a0, a2)) else (some ((0 : Int), ({ a0 with Num := (IntKind.i64.wrap (a0.Num + a1.N)) }), a2)))
def Zgp (a0 : Zd) (a1 : Zs) (a2 : Zi) : Option (Int × Zd × Zi) := (if (decide ((IntKind.i64.wrap (a0.Num - a0.Low)) < a1.N)) then (some ((10 : Int), a0, a2)) else (some ((0 : Int), ({ a0 with Num := (IntKind.i64.wrap (a0.Num - a1.N)) }), a2)))
def Zei (ψ : Nat → Nat → Option Nat) (a0 : Zd) (a1 : Zs) (a2 : Zi) : Option (Int × Zd × Zi) := (ψ a0.Real a1.X).bind fun z => some ((0 : Int), { a0 with Real := z }, a2)
def Zkl (a0 : Nat) (a1 : Nat) : Option (Nat) := ((Zle a0 a1).bind fun r1 => (if r1 then ((Zff a1).bind fun r4 => (some r4)) else ((Zff a0).bind fun r6 => (some r6))))
def Zko (a0 : Nat) (a1 : Nat) : Option (Nat) := ((Zle a1 a0).bind fun r1 => (if r1 then ((Zff a1).bind fun r4 => (some r4)) else ((Zff a0).bind fun r6 => (some r6))))
def Zhz (a0 : Nat) (a1 : Nat) : Option (Nat) := ((Zff (fadd a0 a1)).bind fun r1 => (some r1))
def Zg6 (a0 : Nat) (a1 : Nat) : Option (Nat) := ((Zff (fmul a0 a1)).bind fun r1 => (some r1))
def Zgx (a0 : Nat) (a1 : Nat) : Option (Nat) := (some a1)
def Zcc (kk : (Int) → (Int) → Option (Int)) (j9 : Int) (j10 : Int) : Option (Int) := (kk j9 j10)
def Zbi (a0 : List Zj) (a1 : ByteArray) (φ2 : Zj → ByteArray → Option Int) : Nat → (Int) → (Int) → Option (Int)
 | 0, _, _ => none
 | n + 1, x1, x2 => (if (decide (x1 < x2)) then ((idx a0 (IntKind.i64.wrap (Int.fdiv (IntKind.u64.wrap (IntKind.i64.wrap (x1 + x2))) (2 ^ 1)))).bind fun e4 => ((φ2 e4 a1).bind fun r6 => (if (decide (r6 < (0 : Int))) then (Zcc (Zbi a0 a1 φ2 n) (IntKind.i64.wrap ((IntKind.i64.wrap (Int.fdiv (IntKind.u64.wrap (IntKind.i64.wrap (x1 + x2))) (2 ^ 1))) + (1 : Int))) x2) else (Zcc (Zbi a0 a1 φ2 n) x1 (IntKind.i64.wrap (Int.fdiv (IntKind.u64.wrap (IntKind.i64.wrap (x1 + x2))) (2 ^ 1))))))) else (some x1))
def Zcu (a0 : List Zj) (a1 : ByteArray) (φ2 : Zj → ByteArray → Option Int) : Option (Int × Bool) := ((Zbi a0 a1 φ2 (Int.toNat ((a0.length : Int) - (0 : Int)) + 1) (0 : Int) (a0.length : Int)).bind fun z12 => match z12 with | y11 => ((gd (decide (y11 < (a0.length : Int))) (idx a0 y11)).bind fun e13 => ((gd (decide (y11 < (a0.length : Int))) (φ2 e13 a1)).bind fun r15 => (some (y11, ((decide (y11 < (a0.length : Int))) && (r15 == (0 : Int))))))))
def Ziy (a0 : Zj) (a1 : ByteArray) : Option (Int) := (if (sLt a0.Name a1) then (some (-1 : Int)) else (if (!(sLt a0.Name a1 || sEq a0.Name a1)) then (some (1 : Int)) else (some (0 : Int))))
def Zkc (a0 : List Zj) (a1 : ByteArray) : Option (Int × Bool) := ((Zcu a0 a1 (fun y0 y1 => Ziy y0 y1)).bind fun r1 => (some (r1.1, r1.2)))
def Zb9 (a0 : List Zj) (a1 : Int) (a2 : List Zj) : Option (List Zj) := if 0 ≤ a1 ∧ a1 ≤ a0.length ∧ 0 < a2.length ∧ (a0.length + a2.length) * 24 ≤ 140737488355328 then some (a0.take a1.toNat ++ a2 ++ a0.drop a1.toNat) else none
def Zkh (a0 : Zd) (a1 : Zs) (a2 : Zi) : Option (Int × Zd × Zi) := ((Zkc a0.List a1.S).bind fun r1 => (if r1.2 then (some ((0 : Int), a0, a2)) else (if (decide (a0.Cap ≤ (a0.List.length : Int))) then (some ((8 : Int), a0, a2)) else ((Zbo a0.List).bind fun r5 => ((Zb9 r5 r1.1 ([({ Score := (0 : Nat), Name := a1.S } : Zj)] : List Zj)).bind fun r7 => (some ((0 : Int), ({ a0 with List := r7 }), a2)))))))
def Zer (a0 : List Zj) (a1 a2 : Int) : Option (List Zj) := if 0 < a0.length ∧ 0 ≤ a1 ∧ a1 ≤ a2 ∧ a2 ≤ a0.length ∧ a0.length ≤ 140737488355328 then some (a0.take a1.toNat ++ a0.drop a2.toNat) else none
def Zi3 (a2 : Zi) (j8 : Zd) : Option (Int × Zd × Zi) := (some ((0 : Int), j8, a2))
def Zi8 (a0 : Zd) (a1 : Zs) (a2 : Zi) : Option (Int × Zd × Zi) := ((Zkc a0.List a1.S).bind fun r1 => (if r1.2 then ((Zbo a0.List).bind fun r4 => ((Zer r4 r1.1 (IntKind.i64.wrap (r1.1 + (1 : Int)))).bind fun r6 => (Zi3 a2 ({ a0 with List := r6 })))) else (Zi3 a2 a0)))
def Zfc (a0 : Zd) (a1 : Zs) (a2 : Zi) : Option (Int × Zd × Zi) := ((Zkc a0.List a1.S).bind fun r1 => (if (!r1.2) then (some ((11 : Int), a0, a2)) else (some ((0 : Int), a0, a2))))
def Zfq (a0 : Zd) (a1 : Zs) : Nat → (Int) → Option (Int)
 | 0, _ => none
 | n + 1, x1 => ((gd (decide (x1 < (a0.List.length : Int))) (idx a0.List x1)).bind fun e2 => ((gd (decide (x1 < (a0.List.length : Int))) (Zjn e2 ({ Score := a1.X, Name := a1.S } : Zj))).bind fun r4 => (if ((decide (x1 < (a0.List.length : Int))) && r4) then ((Zfq a0 a1 n) (IntKind.i64.wrap (x1 + (1 : Int)))) else (some x1))))
def Zjk (a0 : Zd) (a1 : Zs) (a2 : Zi) : Option (Int × Zd × Zi) := ((Zfq a0 a1 (Int.toNat ((a0.List.length : Int) - (0 : Int)) + 1) (0 : Int)).bind fun z8 => match z8 with | y7 => ((gd (decide (y7 < (a0.List.length : Int))) (idx a0.List y7)).bind fun e9 => ((gd (decide (y7 < (a0.List.length : Int))) (Zjn ({ Score := a1.X, Name := a1.S } : Zj) e9)).bind fun r11 => (if ((decide (y7 < (a0.List.length : Int))) && (!r11)) then (some ((0 : Int), a0, a2)) else ((Zbo a0.List).bind fun r14 => ((Zb9 r14 y7 ([({ Score := a1.X, Name := a1.S } : Zj)] : List Zj)).bind fun r16 => ((cut r16 (0 : Int) (min (r16.length : Int) a0.Cap)).bind fun c18 => (some ((0 : Int), ({ a0 with List := c18 }), a2)))))))))
def Zbd (k : Int) (a0 : Zd) (a1 : Zs) (a2 : Zi) : Option (Int × Zd × Zi) := if k = 5 then Zi6 a0 a1 a2 else if k = 6 then Zgm a0 a1 a2 else if k = 7 then Zi7 a0 a1 a2 else if k = 8 then Zj8 a0 a1 a2 else if k = 9 then Zd4 a0 a1 a2 else if k = 10 then Zgw a0 a1 a2 else if k = 11 then Zgp a0 a1 a2 else if k = 12 then Zd4 a0 a1 a2 else if k = 13 then Zei (fun x y => Zkl x y) a0 a1 a2 else if k = 14 then Zei (fun x y => Zko x y) a0 a1 a2 else if k = 15 then Zei (fun x y => Zhz x y) a0 a1 a2 else if k = 16 then Zei (fun x y => Zg6 x y) a0 a1 a2 else if k = 17 then Zei (fun x y => Zgx x y) a0 a1 a2 else if k = 18 then Zkh a0 a1 a2 else if k = 19 then Zi8 a0 a1 a2 else if k = 20 then Zfc a0 a1 a2 else if k = 21 then Zjk a0 a1 a2 else none
def Zg2 (a0 : Int) (a1 : Zd) (a2 : Bool) : Option (Zd × Bool × Zi × Zd) := (some (a1, a2, ({ Code := a0, Num := (0 : Int), Rec := (default : Zd) } : Zi), a1))
def Zh6 (a1 : Bool) (a2 : Zs) (r3 : Zd) : Option (Zd × Bool × Zi) := (if ((a2.Kind == (1 : Int)) && a1) then ((Zg2 (7 : Int) r3 a1).bind fun r17 => (some (r17.1, r17.2.1, r17.2.2.1))) else (if (a2.Kind == (1 : Int)) then ((Zd9 a2.Make).bind fun r20 => (some (r20, true, ({ Code := (0 : Int), Num := (0 : Int), Rec := (default : Zd) } : Zi)))) else (if (a2.Kind == (3 : Int)) then (some (r3, a1, ({ Code := (0 : Int), Num := r3.Kind, Rec := (default : Zd) } : Zi))) else (if (!a1) then ((Zg2 (6 : Int) r3 a1).bind fun r24 => (some (r24.1, r24.2.1, r24.2.2.1))) else (if (a2.Kind == (2 : Int)) then (some (({ Kind := (0 : Int), Num := (0 : Int), Low := (0 : Int), High := (0 : Int), Real := (0 : Nat), Cap := (0 : Int), Text := ByteArray.empty, List := ([] : List Zj) } : Zd), false, ({ Code := (0 : Int), Num := (0 : Int), Rec := (default : Zd) } : Zi))) else (if (a2.Kind == (4 : Int)) then ((Zd9 r3).bind fun r28 => (some (r3, a1, ({ Code := (0 : Int), Num := (0 : Int), Rec := r28 } : Zi)))) else ((Zk6 a2.Kind).bind fun r30 => (if (r30 != r3.Kind) then ((Zg2 (5 : Int) r3 a1).bind fun r33 => (some (r33.1, r33.2.1, r33.2.2.1))) else ((Zd9 r3).bind fun r35 => (if (5 ≤ a2.Kind ∧ a2.Kind ≤ 21) then ((Zbd a2.Kind r3 a2 (default : Zi)).bind fun r38 => (if (r38.1 != (0 : Int)) then (some (r35, a1, ({ Code := r38.1, Num := (0 : Int), Rec := (default : Zd) } : Zi))) else (some (r38.2.1, a1, r38.2.2)))) else none))))))))))
def Zh8 (a1 : Bool) (a2 : Zs) (j2 : Zd) : Option (Zd × Bool × Zi) := ((Zd9 j2).bind fun r3 => ((Zfz a2).bind fun r5 => (if (r5 != (0 : Int)) then ((Zg2 r5 r3 a1).bind fun r8 => (some (r8.1, r8.2.1, r8.2.2.1))) else (if a1 then ((Zd8 r3).bind fun r11 => (if (r11 != (0 : Int)) then ((Zg2 r11 r3 a1).bind fun r14 => (some (r14.1, r14.2.1, r14.2.2.1))) else (Zh6 a1 a2 r3))) else (Zh6 a1 a2 r3)))))
def Zig (a0 : Zd) (a1 : Bool) (a2 : Zs) : Option (Zd × Bool × Zi) := (if (!a1) then (Zh8 a1 a2 ({ Kind := (0 : Int), Num := (0 : Int), Low := (0 : Int), High := (0 : Int), Real := (0 : Nat), Cap := (0 : Int), Text := ByteArray.empty, List := ([] : List Zj) } : Zd)) else (Zh8 a1 a2 a0))
def Zny (a0 : Zl) (a1 : Zs) : Option (Zl × Zi) := ((Zd1 a0 a1.Key).bind fun r1 => ((Zig r1.1 r1.2 a1).bind fun r3 => ((gd (!(r3.2.2.Code != (0 : Int))) (Zjf a1.Kind)).bind fun r5 => (if ((r3.2.2.Code != (0 : Int)) || r5) then (some (a0, r3.2.2)) else (if (!r3.2.1) then ((Zd0 a0 a1.Key).bind fun r9 => (some (r9.1, r3.2.2))) else ((Zc4 a0 a1.Key r3.1).bind fun r11 => (if (r11.2 != (0 : Int)) then (some (a0, ({ Code := r11.2, Num := (0 : Int), Rec := (default : Zd) } : Zi))) else (some (r11.1, r3.2.2)))))))))
def Zf8 (a0 : Zu) (e2 : Zs) (j9 : Zi) (j10 : Zu) : Option (Bool × Zu) := (if (e2.Must && (j9.Code != (0 : Int))) then (some (true, ({ ({ j10 with out := ({ Code := j9.Code, At := (IntKind.i64.wrap ((a0.out.Answers.length : Int) + (1 : Int))), Answers := ([] : List Zi) } : Z6) } : Zu) with over := true } : Zu))) else (if (j10.out.Answers.length + ([j9] : List Zi).length) * 104 ≤ 140737488355328 then (some (true, ({ ({ j10 with out := { j10.out with Answers := (j10.out.Answers ++ ([j9] : List Zi)) } } : Zu) with over := ((IntKind.i64.wrap ((a0.out.Answers.length : Int) + (1 : Int))) == (((({ j10 with out := { j10.out with Answers := (j10.out.Answers ++ ([j9] : List Zi)) } } : Zu).d).Acts).length : Int)) } : Zu))) else none))
def Zh0 (a0 : Zu) : Option (Bool × Zu) := (if a0.over then (some (false, a0)) else ((idx a0.d.Acts (a0.out.Answers.length : Int)).bind fun e2 => ((Zdm a0.split e2.Key).bind fun r4 => (if (!r4) then ((Zny a0.now e2).bind fun r7 => (Zf8 a0 e2 r7.2 ({ a0 with now := r7.1 } : Zu))) else (Zf8 a0 e2 (default : Zi) a0)))))
def Zfy (a0 : Zu) : Option (Zu × Bool) := (Zh0 a0).bind fun r => some (r.2, r.1)
def Znb (a0 : Int) : Option (Zl × Int) := (if ((decide (a0 < (1 : Int))) || (decide ((4096 : Int) < a0))) then (some (({ top := shelf_nodeT.nil, room := (0 : Int) } : Zl), (1 : Int))) else (some (({ top := shelf_nodeT.nil, room := a0 } : Zl), (0 : Int))))
def Zij : Option (Bool) := ((Znb (2 : Int)).bind fun r1 => ((Zc4 r1.1 (⟨#[97]⟩ : ByteArray) ({ Kind := (2 : Int), Num := (3 : Int), Low := (0 : Int), High := (0 : Int), Real := (0 : Nat), Cap := (0 : Int), Text := ByteArray.empty, List := ([] : List Zj) } : Zd)).bind fun r3 => ((Zlg ({ Acts := ([({ Kind := (7 : Int), Key := (⟨#[97]⟩ : ByteArray), N := (1 : Int), X := (0 : Nat), S := ByteArray.empty, Make := (default : Zd), Must := false } : Zs)] : List Zs) } : Zbg) r3.1 ([] : List ByteArray)).bind fun r5 => ((Zlg ({ Acts := ([({ Kind := (7 : Int), Key := (⟨#[97]⟩ : ByteArray), N := (1 : Int), X := (0 : Nat), S := ByteArray.empty, Make := (default : Zd), Must := false } : Zs)] : List Zs) } : Zbg) r3.1 ([(⟨#[97]⟩ : ByteArray)] : List ByteArray)).bind fun r7 => ((gd (!(false || false)) (Zgl r5)).bind fun r9 => ((gd (!((false || false) || r9)) (Zfy r5)).bind fun r11 => ((gd (!(((false || false) || r9) || (!r11.2))) (Zfy (if (!((false || false) || r9)) = true then r11.1 else r5))).bind fun r13 => ((gd (!((((false || false) || r9) || (!r11.2)) || r13.2)) (Zgl (if (!(((false || false) || r9) || (!r11.2))) = true then r13.1 else (if (!((false || false) || r9)) = true then r11.1 else r5)))).bind fun r15 => ((gd (!(((((false || false) || r9) || (!r11.2)) || r13.2) || (!r15))) (Zfy r7)).bind fun r17 => (if ((((((false || false) || r9) || (!r11.2)) || r13.2) || (!r15)) || (!r17.2)) then (some false) else ((Zd6 (if (!(((false || false) || r9) || (!r11.2))) = true then r13.1 else (if (!((false || false) || r9)) = true then r11.1 else r5)) r3.1).bind fun r20 => ((Zd6 (if (!(((((false || false) || r9) || (!r11.2)) || r13.2) || (!r15))) = true then r17.1 else r7) r3.1).bind fun r22 => ((Zd1 r20.1 (⟨#[97]⟩ : ByteArray)).bind fun r24 => ((Zgt (if (!(((((false || false) || r9) || (!r11.2)) || r13.2) || (!r15))) = true then r17.1 else r7)).bind fun r26 => ((gd (((r20.2.length : Int) == (0 : Int)) && (r24.1.Num == (4 : Int))) (Zjj r3.1 r22.1)).bind fun r28 => (some (((((((r20.2.length : Int) == (0 : Int)) && (r24.1.Num == (4 : Int))) && r28) && ((r22.2.length : Int) == (1 : Int))) && r26.2) && ((r26.1.Answers.length : Int) == (1 : Int)))))))))))))))))))
def Zej (a0 : Zd) : Nat → (Int) → Option ((Int) ⊕ (Unit))
 | 0, _ => none
 | n + 1, x2 => (if (decide (x2 < (a0.List.length : Int))) then ((idx a0.List x2).bind fun e4 => (if (decide ((100 : Int) < (e4.Name.size : Int))) then (some (.inl (1 : Int))) else ((Zej a0 n) (IntKind.i64.wrap (x2 + (1 : Int)))))) else (some (.inr ())))
def Zhf (a0 : Zd) : Option (Int) := (if ((decide ((100 : Int) < (a0.List.length : Int))) || (decide ((1000 : Int) < (a0.Text.size : Int)))) then (some (1 : Int)) else ((Zej a0 (Int.toNat ((a0.List.length : Int) - (0 : Int)) + 1) (0 : Int)).bind fun z7 => match z7 with | .inl r => some r | .inr () => (some (0 : Int))))
def Ze6 (a0 : Nat) : Option (Bool) := (some (fneq a0 a0))
def Ze4 (a0 : Nat) : Option (Bool) := ((Ze6 a0).bind fun r1 => (some ((!r1) || ((a0 : Int) == (9221120237041090561 : Int)))))
def Zgb (a0 : Nat) : Option (Bool) := (if (feql a0 (0 : Nat)) then ((Ieee.double.div (4607182418800017408 : Nat) a0).bind fun f2 => (some (flss f2 (0 : Nat)))) else (some (flss a0 (0 : Nat))))
def Zen (a0 : Nat) (a1 : Nat) : Option (Bool) := ((Ze6 a0).bind fun r1 => (if r1 then (some false) else ((Ze6 a1).bind fun r4 => (if r4 then (some true) else (if ((feql a0 (0 : Nat)) && (feql a1 (0 : Nat))) then ((Zgb a0).bind fun r8 => ((gd r8 (Zgb a1)).bind fun r10 => (some (r8 && (!r10))))) else (some (flss a0 a1)))))))
def Zdr (a0 : Nat) (a1 : Nat) : Option (Bool) := ((Zen a0 a1).bind fun r1 => ((gd (!r1) (Zen a1 a0)).bind fun r3 => (some ((!r1) && (!r3)))))
def Zgu (a0 : Nat) : Option (Bool) := ((Zdr a0 (0 : Nat)).bind fun r1 => (some r1))
def Zcr (a1 : ByteArray) : Nat → (Bool) → (Bool) → (Bool) → (Bool) → (Bool) → (Int) → Option (Bool × Bool × Bool × Bool × Bool)
 | 0, _, _, _, _, _, _ => none
 | n + 1, x1, x2, x3, x4, x5, x6 => (if (decide (x6 < (a1.size : Int))) then ((gd (!x1) (sidx a1 x6)).bind fun b8 => ((gd (!x2) (sidx a1 x6)).bind fun b10 => ((gd (!x3) (sidx a1 x6)).bind fun b12 => ((gd (!x4) (sidx a1 x6)).bind fun b14 => ((gd (!x5) (sidx a1 x6)).bind fun b16 => ((Zcr a1 n) (x1 || (b8 == (116 : Int))) (x2 || (b10 == (110 : Int))) (x3 || (b12 == (98 : Int))) (x4 || (b14 == (114 : Int))) (x5 || (b16 == (108 : Int))) (IntKind.i64.wrap (x6 + (1 : Int))))))))) else (some (x1, x2, x3, x4, x5)))
def Zh1 (a0 : Zd) (a1 : ByteArray) : Option (Bool) := ((Zcr a1 (Int.toNat ((a1.size : Int) - (0 : Int)) + 1) false false false false false (0 : Int)).bind fun z23 => match z23 with | (y18, y19, y20, y21, y22) => (if (((((!y18) && (!sEq a0.Text (⟨#[]⟩ : ByteArray))) || ((!y19) && (a0.Num != (0 : Int)))) || ((!y20) && (a0.Low != (0 : Int)))) || ((!y20) && (a0.High != (0 : Int)))) then (some false) else ((gd (!y21) (Zgu a0.Real)).bind fun r25 => (some ((y21 || r25) && (y22 || ((a0.Cap == (0 : Int)) && ((a0.List.length : Int) == (0 : Int)))))))))
def Ziu (a0 : Int) : Option (ByteArray) := (if ((decide (a0 < (1 : Int))) || (decide ((9 : Int) < a0))) then (some (⟨#[]⟩ : ByteArray)) else ((idx ([(⟨#[]⟩ : ByteArray), (⟨#[116]⟩ : ByteArray), (⟨#[110]⟩ : ByteArray), (⟨#[110]⟩ : ByteArray), (⟨#[110, 98]⟩ : ByteArray), (⟨#[114]⟩ : ByteArray), (⟨#[114]⟩ : ByteArray), (⟨#[114]⟩ : ByteArray), (⟨#[108]⟩ : ByteArray), (⟨#[108]⟩ : ByteArray)] : List ByteArray) a0).bind fun e2 => (some e2)))
def Zfe (a0 : Zj) (a1 : Zj) : Option (Bool) := ((Zen a1.Score a0.Score).bind fun r1 => (if r1 then (some true) else ((Zdr a0.Score a1.Score).bind fun r4 => (some (r4 && (sLt a0.Name a1.Name))))))
def Zhv (a0 : Int) (a1 : List Zj) (a2 : Int) : Option (Int) := ((idx a1 a2).bind fun e1 => (if (decide ((16 : Int) < (e1.Name.size : Int))) then (some (3 : Int)) else ((gd (a0 == (8 : Int)) (Zgu e1.Score)).bind fun r4 => ((gd (!((a0 == (8 : Int)) && (!r4))) (Ze4 e1.Score)).bind fun r6 => (if (((a0 == (8 : Int)) && (!r4)) || (!r6)) then (some (4 : Int)) else ((gd ((decide ((0 : Int) < a2)) && (a0 == (8 : Int))) (idx a1 (IntKind.i64.wrap (a2 - (1 : Int))))).bind fun e9 => (if (((decide ((0 : Int) < a2)) && (a0 == (8 : Int))) && (!(sLt e9.Name e1.Name))) then (some (4 : Int)) else ((gd ((decide ((0 : Int) < a2)) && (a0 == (9 : Int))) (idx a1 (IntKind.i64.wrap (a2 - (1 : Int))))).bind fun e12 => ((gd ((decide ((0 : Int) < a2)) && (a0 == (9 : Int))) (Zfe e12 e1)).bind fun r14 => (if (((decide ((0 : Int) < a2)) && (a0 == (9 : Int))) && (!r14)) then (some (4 : Int)) else (some (0 : Int))))))))))))
def Zd3 (a0 : Zd) : Nat → (Int) → Option ((Int) ⊕ (Unit))
 | 0, _ => none
 | n + 1, x15 => (if (decide (x15 < (a0.List.length : Int))) then ((Zhv a0.Kind a0.List x15).bind fun r17 => (if (r17 != (0 : Int)) then (some (.inl r17)) else ((Zd3 a0 n) (IntKind.i64.wrap (x15 + (1 : Int)))))) else (some (.inr ())))
def Zdt (a0 : Zd) : Option (Int) := (if ((decide (a0.Kind < (1 : Int))) || (decide ((9 : Int) < a0.Kind))) then (some (5 : Int)) else ((Ziu a0.Kind).bind fun r2 => ((Zh1 a0 r2).bind fun r4 => (if (!r4) then (some (4 : Int)) else (if ((a0.Kind == (1 : Int)) && (decide ((64 : Int) < (a0.Text.size : Int)))) then (some (3 : Int)) else (if ((a0.Kind == (4 : Int)) && ((((decide (a0.Low < (IntKind.i64.wrap (0 - (2305843009213693952 : Int))))) || (decide ((2305843009213693952 : Int) < a0.High))) || (decide (a0.Num < a0.Low))) || (decide (a0.High < a0.Num)))) then (some (1 : Int)) else ((Ze4 a0.Real).bind fun r9 => (if (!r9) then (some (4 : Int)) else (if (decide (a0.Kind < (8 : Int))) then (some (0 : Int)) else (if ((decide (a0.Cap < (1 : Int))) || (decide ((32 : Int) < a0.Cap))) then (some (1 : Int)) else (if (decide (a0.Cap < (a0.List.length : Int))) then (some (8 : Int)) else ((Zd3 a0 (Int.toNat ((a0.List.length : Int) - (0 : Int)) + 1) (0 : Int)).bind fun z20 => match z20 with | .inl r => some r | .inr () => (some (0 : Int))))))))))))))
def Zc3 (a0 : Zo) (a1 : ByteArray) : Nat → (Int) → Option (Int)
 | 0, _ => none
 | n + 1, x1 => ((gd (decide (x1 < (a0.L.length : Int))) (idx a0.L x1)).bind fun e2 => (if ((decide (x1 < (a0.L.length : Int))) && (sLt e2.Key a1)) then ((Zc3 a0 a1 n) (IntKind.i64.wrap (x1 + (1 : Int)))) else (some x1)))
def Zet (a0 : Zo) (a1 : ByteArray) : Option (Int) := ((Zc3 a0 a1 (Int.toNat ((a0.L.length : Int) - (0 : Int)) + 1) (0 : Int)).bind fun z6 => match z6 with | y5 => (some y5))
def Zeg (a0 : Zo) (a1 : ByteArray) (a2 : Zd) (c10 : List Z9) (j15 : Int) : Option (Zo × Int) := ((cut a0.L j15 (a0.L.length : Int)).bind fun c16 => (if (((([] : List Z9) ++ c10) ++ ([({ Key := a1, Rec := a2 } : Z9)] : List Z9)).length + c16.length) * 104 ≤ 140737488355328 then (some (({ L := (((([] : List Z9) ++ c10) ++ ([({ Key := a1, Rec := a2 } : Z9)] : List Z9)) ++ c16), Room := a0.Room } : Zo), (0 : Int))) else none))
def Zfx (a0 : Zo) (a1 : ByteArray) (a2 : Zd) : Option (Zo × Int) := (if ((decide ((a1.size : Int) < (1 : Int))) || (decide ((24 : Int) < (a1.size : Int)))) then (some (a0, (1 : Int))) else ((Zdt a2).bind fun r2 => (if (r2 != (0 : Int)) then (some (a0, r2)) else ((Zet a0 a1).bind fun r5 => ((gd (decide (r5 < (a0.L.length : Int))) (idx a0.L r5)).bind fun e7 => (if ((!((decide (r5 < (a0.L.length : Int))) && (sEq e7.Key a1))) && (decide (a0.Room ≤ (a0.L.length : Int)))) then (some (a0, (8 : Int))) else ((cut a0.L (0 : Int) r5).bind fun c10 => (if (([] : List Z9).length + c10.length) * 104 ≤ 140737488355328 then (if ((([] : List Z9) ++ c10).length + ([({ Key := a1, Rec := a2 } : Z9)] : List Z9).length) * 104 ≤ 140737488355328 then (if ((decide (r5 < (a0.L.length : Int))) && (sEq e7.Key a1)) then (Zeg a0 a1 a2 c10 (IntKind.i64.wrap (r5 + (1 : Int)))) else (Zeg a0 a1 a2 c10 r5)) else none) else none))))))))
def Zdo (a1 : List Z9) : Nat → (Zl) → (Zl) → (Zo) → (Int) → Option ((Zl × (Option Zo)) ⊕ (Zl × Zl × Zo))
 | 0, _, _, _, _ => none
 | n + 1, x4, x5, x6, x7 => (if (decide (x7 < (a1.length : Int))) then ((idx a1 x7).bind fun e9 => ((gd (!(decide ((100 : Int) < (e9.Key.size : Int)))) (Zhf e9.Rec)).bind fun r11 => (if ((decide ((100 : Int) < (e9.Key.size : Int))) || (decide ((0 : Int) < r11))) then (some (.inl (x5, (none : Option Zo)))) else ((Zc4 x5 e9.Key e9.Rec).bind fun r14 => ((Zfx x6 e9.Key e9.Rec).bind fun r16 => ((Zdo a1 n) x4 r14.1 r16.1 (IntKind.i64.wrap (x7 + (1 : Int))))))))) else (some (.inr (x4, x5, x6))))
def Zga (a0 : Int) (a1 : List Z9) : Option (Zl × (Option Zo)) := ((Znb a0).bind fun r1 => (if ((r1.2 != (0 : Int)) || (decide ((60 : Int) < (a1.length : Int)))) then (some (r1.1, (none : Option Zo))) else ((Zdo a1 (Int.toNat ((a1.length : Int) - (0 : Int)) + 1) (default : Zl) r1.1 ({ L := ([] : List Z9), Room := a0 } : Zo) (0 : Int)).bind fun z21 => match z21 with | .inl r => some r | .inr (y18, y19, y20) => (some (y19, (some y20))))))
def Zia (a0 : Zs) : Option (Int) := ((gd (!((decide ((200 : Int) < (a0.Key.size : Int))) || (decide ((1000 : Int) < (a0.S.size : Int))))) (Zhf a0.Make)).bind fun r1 => (if (((decide ((200 : Int) < (a0.Key.size : Int))) || (decide ((1000 : Int) < (a0.S.size : Int)))) || (decide ((0 : Int) < r1))) then (some (1 : Int)) else (some (0 : Int))))
def Zd5 (a0 : Zbg) : Nat → (Int) → Option ((Int) ⊕ (Unit))
 | 0, _ => none
 | n + 1, x2 => (if (decide (x2 < (a0.Acts.length : Int))) then ((idx a0.Acts x2).bind fun e4 => ((Zia e4).bind fun r6 => (if (decide ((0 : Int) < r6)) then (some (.inl (1 : Int))) else ((Zd5 a0 n) (IntKind.i64.wrap (x2 + (1 : Int))))))) else (some (.inr ())))
def Ziq (a0 : Zbg) : Option (Int) := (if (decide ((40 : Int) < (a0.Acts.length : Int))) then (some (1 : Int)) else ((Zd5 a0 (Int.toNat ((a0.Acts.length : Int) - (0 : Int)) + 1) (0 : Int)).bind fun z9 => match z9 with | .inl r => some r | .inr () => (some (0 : Int))))
def Zdz (a0 : List ByteArray) (a1 : ByteArray) : Nat → (Int) → Option ((Bool) ⊕ (Unit))
 | 0, _ => none
 | n + 1, x1 => (if (decide (x1 < (a0.length : Int))) then ((idx a0 x1).bind fun e3 => (if (sEq e3 a1) then (some (.inl true)) else ((Zdz a0 a1 n) (IntKind.i64.wrap (x1 + (1 : Int)))))) else (some (.inr ())))
def Zh9 (a0 : List ByteArray) (a1 : ByteArray) : Option (Bool) := ((Zdz a0 a1 (Int.toNat ((a0.length : Int) - (0 : Int)) + 1) (0 : Int)).bind fun z6 => match z6 with | .inl r => some r | .inr () => (some false))
def Zek : Nat → (Zu) → (Int) → Option (Zu × Int)
 | 0, _, _ => none
 | n + 1, x1, x2 => ((gd (decide (x2 < (20 : Int))) (Zfy x1)).bind fun r3 => (if ((decide (x2 < (20 : Int))) && r3.2) then ((Zek n) (if (decide (x2 < (20 : Int))) = true then r3.1 else x1) (IntKind.i64.wrap (x2 + (1 : Int)))) else (some ((if (decide (x2 < (20 : Int))) = true then r3.1 else x1), x2))))
def Zi1 (a0 : Zu) : Option (Int × Zu) := ((Zek (Int.toNat ((20 : Int) - (0 : Int)) + 1) a0 (0 : Int)).bind fun z8 => match z8 with | (y6, y7) => (some (y7, y6)))
def Zj6 (a0 : Zu) : Option (Zu × Int) := (Zi1 a0).bind fun r => some (r.2, r.1)
def Zc7 (a1 : Zbg) (a2 : List ByteArray) : Nat → (Bool) → (Int) → Option (Bool)
 | 0, _, _ => none
 | n + 1, x9, x10 => (if (decide (x10 < (a1.Acts.length : Int))) then ((idx a1.Acts x10).bind fun e12 => ((gd x9 (Zjf e12.Kind)).bind fun r14 => ((gd (x9 && r14) (Zh9 a2 e12.Key)).bind fun r16 => ((Zc7 a1 a2 n) ((x9 && r14) && (!r16)) (IntKind.i64.wrap (x10 + (1 : Int))))))) else (some x9))
def Zg8 (a0 : List Z9) (a1 : Zbg) (a2 : List ByteArray) : Option (Bool) := ((Zij).bind fun r1 => (if (!r1) then (some false) else ((Zga (50 : Int) a0).bind fun r4 => ((gd (!r4.2.isNone) (Ziq a1)).bind fun r6 => (if ((r4.2.isNone || (decide ((0 : Int) < r6))) || (decide ((20 : Int) < (a2.length : Int)))) then (some true) else ((Zc7 a1 a2 (Int.toNat ((a1.Acts.length : Int) - (0 : Int)) + 1) true (0 : Int)).bind fun z19 => match z19 with | y18 => ((Zlg a1 r4.1 a2).bind fun r20 => ((Zj6 r20).bind fun r22 => ((Zgt r22.1).bind fun r24 => ((Zd6 r22.1 r4.1).bind fun r26 => ((gd (!(!r24.2)) (Zgl r22.1)).bind fun r28 => (if ((!r24.2) || (!r28)) then (some false) else ((gd (!((!y18) && (r24.1.Code == (0 : Int)))) (Zjj r26.1 r4.1)).bind fun r31 => (some (((!y18) && (r24.1.Code == (0 : Int))) || (r31 && ((r26.2.length : Int) == (0 : Int))))))))))))))))))
def Zgh (a0 : Zd) (a1 : Zd) : Nat → (Int) → Option ((Bool) ⊕ (Unit))
 | 0, _ => none
 | n + 1, x5 => (if (decide (x5 < (a0.List.length : Int))) then ((idx a0.List x5).bind fun e7 => ((idx a1.List x5).bind fun e9 => ((gd (!(!sEq e7.Name e9.Name)) (idx a0.List x5)).bind fun e11 => ((gd (!(!sEq e7.Name e9.Name)) (idx a1.List x5)).bind fun e13 => ((gd (!(!sEq e7.Name e9.Name)) (Zdr e11.Score e13.Score)).bind fun r15 => (if ((!sEq e7.Name e9.Name) || (!r15)) then (some (.inl false)) else ((Zgh a0 a1 n) (IntKind.i64.wrap (x5 + (1 : Int)))))))))) else (some (.inr ())))
def Zlf (a0 : Zd) (a1 : Zd) : Option (Bool) := (if ((((((a0.Kind != a1.Kind) || (a0.Num != a1.Num)) || (a0.Low != a1.Low)) || (a0.High != a1.High)) || (a0.Cap != a1.Cap)) || (!sEq a0.Text a1.Text)) then (some false) else ((Zdr a0.Real a1.Real).bind fun r2 => (if ((!r2) || ((a0.List.length : Int) != (a1.List.length : Int))) then (some false) else ((Zgh a0 a1 (Int.toNat ((a0.List.length : Int) - (0 : Int)) + 1) (0 : Int)).bind fun z18 => match z18 with | .inl r => some r | .inr () => (some true)))))
def Zqu (a0 : Int) : Option (ByteArray) := (if ((decide (a0 < (0 : Int))) || (decide ((21 : Int) < a0))) then (some (⟨#[]⟩ : ByteArray)) else ((idx ([(⟨#[]⟩ : ByteArray), (⟨#[109]⟩ : ByteArray), (⟨#[]⟩ : ByteArray), (⟨#[]⟩ : ByteArray), (⟨#[]⟩ : ByteArray), (⟨#[115]⟩ : ByteArray), (⟨#[115]⟩ : ByteArray), (⟨#[110]⟩ : ByteArray), (⟨#[110]⟩ : ByteArray), (⟨#[110]⟩ : ByteArray), (⟨#[110]⟩ : ByteArray), (⟨#[110]⟩ : ByteArray), (⟨#[110]⟩ : ByteArray), (⟨#[120]⟩ : ByteArray), (⟨#[120]⟩ : ByteArray), (⟨#[120]⟩ : ByteArray), (⟨#[120]⟩ : ByteArray), (⟨#[120]⟩ : ByteArray), (⟨#[115]⟩ : ByteArray), (⟨#[115]⟩ : ByteArray), (⟨#[115]⟩ : ByteArray), (⟨#[120, 115]⟩ : ByteArray)] : List ByteArray) a0).bind fun e2 => (some e2)))
def Zm2 (a1 : Int) (r1 : ByteArray) : Nat → (Int) → Option ((Bool) ⊕ (Unit))
 | 0, _ => none
 | n + 1, x3 => (if (decide (x3 < (r1.size : Int))) then ((sidx r1 x3).bind fun b5 => (if (b5 == a1) then (some (.inl true)) else ((Zm2 a1 r1 n) (IntKind.i64.wrap (x3 + (1 : Int)))))) else (some (.inr ())))
def Ze2 (a0 : Int) (a1 : Int) : Option (Bool) := ((Zqu a0).bind fun r1 => ((Zm2 a1 r1 (Int.toNat ((r1.size : Int) - (0 : Int)) + 1) (0 : Int)).bind fun z8 => match z8 with | .inl r => some r | .inr () => (some false)))
def Zi9 (a0 : Int) : Option (Int) := (if ((decide (a0 < (0 : Int))) || (decide ((21 : Int) < a0))) then (some (0 : Int)) else ((idx ([(0 : Int), (0 : Int), (0 : Int), (0 : Int), (0 : Int), (1 : Int), (1 : Int), (2 : Int), (3 : Int), (3 : Int), (4 : Int), (4 : Int), (4 : Int), (5 : Int), (6 : Int), (7 : Int), (7 : Int), (7 : Int), (8 : Int), (8 : Int), (8 : Int), (9 : Int)] : List Int) a0).bind fun e2 => (some e2)))
def Zgd (a0 : Zs) : Option (Int) := (if ((decide (a0.Kind < (1 : Int))) || (decide ((21 : Int) < a0.Kind))) then (some (5 : Int)) else (if ((decide ((a0.Key.size : Int) < (1 : Int))) || (decide ((24 : Int) < (a0.Key.size : Int)))) then (some (1 : Int)) else ((Ze2 a0.Kind (110 : Int)).bind fun r3 => ((gd (!((!r3) && (a0.N != (0 : Int)))) (Ze2 a0.Kind (120 : Int))).bind fun r5 => ((gd ((!((!r3) && (a0.N != (0 : Int)))) && (!r5)) (Zdr a0.X (0 : Nat))).bind fun r7 => ((gd (!(((!r3) && (a0.N != (0 : Int))) || ((!r5) && (!r7)))) (Ze2 a0.Kind (115 : Int))).bind fun r9 => (if ((((!r3) && (a0.N != (0 : Int))) || ((!r5) && (!r7))) || ((!r9) && (!sEq a0.S (⟨#[]⟩ : ByteArray)))) then (some (4 : Int)) else ((gd (a0.Kind != (1 : Int)) (Zlf a0.Make ({ Kind := (0 : Int), Num := (0 : Int), Low := (0 : Int), High := (0 : Int), Real := (0 : Nat), Cap := (0 : Int), Text := ByteArray.empty, List := ([] : List Zj) } : Zd))).bind fun r12 => (if ((a0.Kind != (1 : Int)) && (!r12)) then (some (4 : Int)) else ((Zi9 a0.Kind).bind fun r15 => ((gd (!((r15 == (1 : Int)) && (decide ((64 : Int) < (a0.S.size : Int))))) (Zi9 a0.Kind)).bind fun r17 => (if (((r15 == (1 : Int)) && (decide ((64 : Int) < (a0.S.size : Int)))) || ((r17 != (1 : Int)) && (decide ((16 : Int) < (a0.S.size : Int))))) then (some (3 : Int)) else (if (((a0.Kind == (10 : Int)) || (a0.Kind == (11 : Int))) && ((decide (a0.N < (0 : Int))) || (decide ((2305843009213693952 : Int) < a0.N)))) then (some (1 : Int)) else ((Ze4 a0.X).bind fun r21 => (if (!r21) then (some (4 : Int)) else (if (a0.Kind == (1 : Int)) then ((Zdt a0.Make).bind fun r25 => (some r25)) else (some (0 : Int))))))))))))))))))
def Zf6 (a0 : Zbg) : Nat → (Int) → Option ((Int × Int) ⊕ (Unit))
 | 0, _ => none
 | n + 1, x2 => (if (decide (x2 < (a0.Acts.length : Int))) then ((idx a0.Acts x2).bind fun e4 => ((Zgd e4).bind fun r6 => (if (r6 != (0 : Int)) then (some (.inl (r6, (IntKind.i64.wrap (x2 + (1 : Int)))))) else ((Zf6 a0 n) (IntKind.i64.wrap (x2 + (1 : Int))))))) else (some (.inr ())))
def Zng (a0 : Zbg) : Option (Int × Int) := (if ((decide ((a0.Acts.length : Int) < (1 : Int))) || (decide ((12 : Int) < (a0.Acts.length : Int)))) then (some ((1 : Int), (0 : Int))) else ((Zf6 a0 (Int.toNat ((a0.Acts.length : Int) - (0 : Int)) + 1) (0 : Int)).bind fun z9 => match z9 with | .inl r => some r | .inr () => (some ((0 : Int), (0 : Int)))))
def Zkd (a0 : Zd) : Option (Zd) := (if (([] : List Zj).length + a0.List.length) * 24 ≤ 140737488355328 then (some ({ a0 with List := (([] : List Zj) ++ a0.List) })) else none)
def Zlh (a0 : Int) (a1 : Int) : Option (Bool) := (some ((((decide ((0 : Int) < a0)) && (decide ((0 : Int) < a1))) && (decide ((IntKind.i64.wrap (a0 + a1)) < (0 : Int)))) || (((decide (a0 < (0 : Int))) && (decide (a1 < (0 : Int)))) && (decide ((0 : Int) ≤ (IntKind.i64.wrap (a0 + a1)))))))
def Zl3 (a0 : Nat) (a1 : Nat) : Option (Nat) := ((Zen a0 a1).bind fun r1 => (if r1 then (some a1) else (some a0)))
def Zl0 (a0 : Nat) (a1 : Nat) : Option (Nat) := ((Zen a1 a0).bind fun r1 => (if r1 then (some a1) else (some a0)))
def Zfw (a0 : Int) : Option (Nat) := (if (decide ((9223372036854775808 : Int) ≤ a0)) then (some (Int.toNat (IntKind.u64.wrap (a0 - (9223372036854775808 : Int))))) else (some (Int.toNat (IntKind.u64.wrap ((9223372036854775808 : Int) + (IntKind.u64.wrap ((IntKind.u64.wrap ((9223372036854775808 : Int) - (1 : Int))) - a0)))))))
def Zi4 (a0 : Nat) : Option (Int) := ((Ze6 a0).bind fun r1 => (if r1 then (some (IntKind.u64.wrap ((9223372036854775808 : Int) + (9221120237041090561 : Int)))) else (if (decide ((9223372036854775808 : Int) ≤ (a0 : Int))) then (some (IntKind.u64.wrap ((IntKind.u64.wrap ((9223372036854775808 : Int) - (1 : Int))) - (IntKind.u64.wrap ((a0 : Int) - (9223372036854775808 : Int)))))) else (some (IntKind.u64.wrap ((9223372036854775808 : Int) + (a0 : Int)))))))
def Zg5 (a0 : List Zj) (a1 : ByteArray) : Nat → (Int) → Option ((Bool) ⊕ (Unit))
 | 0, _ => none
 | n + 1, x1 => (if (decide (x1 < (a0.length : Int))) then ((idx a0 x1).bind fun e3 => (if (sEq e3.Name a1) then (some (.inl true)) else ((Zg5 a0 a1 n) (IntKind.i64.wrap (x1 + (1 : Int)))))) else (some (.inr ())))
def Zhe (a0 : List Zj) (a1 : ByteArray) : Option (Bool) := ((Zg5 a0 a1 (Int.toNat ((a0.length : Int) - (0 : Int)) + 1) (0 : Int)).bind fun z6 => match z6 with | .inl r => some r | .inr () => (some false))
def Zh3 (j30 : List Zj) : Option (List Zj) := (some j30)
def Zew (a0 : List Zj) (x3 : Int) (kk : (List Zj) → (Bool) → (Int) → Option ((List Zj) × Bool)) (j20 : List Zj) (j21 : Bool) : Option ((List Zj) × Bool) := ((idx a0 x3).bind fun e22 => (if (j20.length + ([e22] : List Zj).length) * 24 ≤ 140737488355328 then (kk (j20 ++ ([e22] : List Zj)) j21 (IntKind.i64.wrap (x3 + (1 : Int)))) else none))
def Zc2 (a0 : List Zj) (a1 : Zj) (a2 : Bool) : Nat → (List Zj) → (Bool) → (Int) → Option ((List Zj) × Bool)
 | 0, _, _, _ => none
 | n + 1, x1, x2, x3 => (if (decide (x3 < (a0.length : Int))) then ((gd (!a2) (idx a0 x3)).bind fun e5 => ((gd (!a2) (Zfe e5 a1)).bind fun r7 => ((gd ((!((!a2) && r7)) && a2) (idx a0 x3)).bind fun e9 => ((idx a0 x3).bind fun e11 => ((gd ((sEq e11.Name a1.Name) && (!a2)) (idx a0 x3)).bind fun e13 => ((gd ((sEq e11.Name a1.Name) && (!a2)) (Zdr e13.Score a1.Score)).bind fun r15 => (if ((!x2) && (!(((!a2) && r7) || (a2 && (sLt e9.Name a1.Name))))) then (if (!((sEq e11.Name a1.Name) && (a2 || r15))) then (if (x1.length + ([a1] : List Zj).length) * 24 ≤ 140737488355328 then (Zew a0 x3 (Zc2 a0 a1 a2 n) (x1 ++ ([a1] : List Zj)) true) else none) else (Zew a0 x3 (Zc2 a0 a1 a2 n) x1 true)) else (Zew a0 x3 (Zc2 a0 a1 a2 n) x1 x2)))))))) else (some (x1, x2)))
def Zgq (a0 : List Zj) (a1 : Zj) (a2 : Bool) : Option (List Zj) := ((Zc2 a0 a1 a2 (Int.toNat ((a0.length : Int) - (0 : Int)) + 1) ([] : List Zj) false (0 : Int)).bind fun z27 => match z27 with | (y25, y26) => (if (!y26) then (if (y25.length + ([a1] : List Zj).length) * 24 ≤ 140737488355328 then (Zh3 (y25 ++ ([a1] : List Zj))) else none) else (Zh3 y25)))
def Z2 (j65 : Zd) (j66 : Zi) : Option (Zd × Zi) := (some (j65, j66))
def Zk1 (x43 : Int) (kk : (List Zj) → (Int) → Option (List Zj)) (j51 : List Zj) : Option (List Zj) := (kk j51 (IntKind.i64.wrap (x43 + (1 : Int))))
def Zeu (a0 : Zd) (a1 : Zs) : Nat → (List Zj) → (Int) → Option (List Zj)
 | 0, _, _ => none
 | n + 1, x42, x43 => (if (decide (x43 < (a0.List.length : Int))) then ((idx a0.List x43).bind fun e45 => (if (!sEq e45.Name a1.S) then ((idx a0.List x43).bind fun e48 => (if (x42.length + ([e48] : List Zj).length) * 24 ≤ 140737488355328 then (Zk1 x43 (Zeu a0 a1 n) (x42 ++ ([e48] : List Zj))) else none)) else (Zk1 x43 (Zeu a0 a1 n) x42))) else (some x42))
def Zfd (a0 : Zd) (j64 : List Zj) : Option (Zd × Zi) := (Z2 ({ a0 with List := j64 }) ({ Code := (0 : Int), Num := (0 : Int), Rec := (default : Zd) } : Zi))
def Zcn (a0 : Zd) (a1 : Zs) (j11 : Bool) : Option (Zd × Zi) := (if j11 then (if (decide (a0.Num < a1.N)) then (Z2 a0 ({ ({ Code := (0 : Int), Num := (0 : Int), Rec := (default : Zd) } : Zi) with Code := (11 : Int) })) else (Z2 a0 ({ Code := (0 : Int), Num := (0 : Int), Rec := (default : Zd) } : Zi))) else (if (a1.Kind == (10 : Int)) then (if (decide (a0.High < (IntKind.i64.wrap (a0.Num + a1.N)))) then (Z2 a0 ({ ({ Code := (0 : Int), Num := (0 : Int), Rec := (default : Zd) } : Zi) with Code := (9 : Int) })) else (Z2 ({ a0 with Num := (IntKind.i64.wrap (a0.Num + a1.N)) }) ({ Code := (0 : Int), Num := (0 : Int), Rec := (default : Zd) } : Zi))) else (if (a1.Kind == (11 : Int)) then (if (decide ((IntKind.i64.wrap (a0.Num - a1.N)) < a0.Low)) then (Z2 a0 ({ ({ Code := (0 : Int), Num := (0 : Int), Rec := (default : Zd) } : Zi) with Code := (10 : Int) })) else (Z2 ({ a0 with Num := (IntKind.i64.wrap (a0.Num - a1.N)) }) ({ Code := (0 : Int), Num := (0 : Int), Rec := (default : Zd) } : Zi))) else (if (a1.Kind == (13 : Int)) then ((Zl3 a0.Real a1.X).bind fun r19 => (Z2 ({ a0 with Real := r19 }) ({ Code := (0 : Int), Num := (0 : Int), Rec := (default : Zd) } : Zi))) else (if (a1.Kind == (14 : Int)) then ((Zl0 a0.Real a1.X).bind fun r22 => (Z2 ({ a0 with Real := r22 }) ({ Code := (0 : Int), Num := (0 : Int), Rec := (default : Zd) } : Zi))) else (if (a1.Kind == (15 : Int)) then ((Zi4 (fadd a0.Real a1.X)).bind fun r25 => ((Zfw r25).bind fun r27 => (Z2 ({ a0 with Real := r27 }) ({ Code := (0 : Int), Num := (0 : Int), Rec := (default : Zd) } : Zi)))) else (if (a1.Kind == (16 : Int)) then ((Zi4 (fmul a0.Real a1.X)).bind fun r30 => ((Zfw r30).bind fun r32 => (Z2 ({ a0 with Real := r32 }) ({ Code := (0 : Int), Num := (0 : Int), Rec := (default : Zd) } : Zi)))) else (if (a1.Kind == (17 : Int)) then (Z2 ({ a0 with Real := a1.X }) ({ Code := (0 : Int), Num := (0 : Int), Rec := (default : Zd) } : Zi)) else (if (a1.Kind == (18 : Int)) then ((Zhe a0.List a1.S).bind fun r36 => (if ((!r36) && (decide (a0.Cap ≤ (a0.List.length : Int)))) then (Z2 a0 ({ ({ Code := (0 : Int), Num := (0 : Int), Rec := (default : Zd) } : Zi) with Code := (8 : Int) })) else ((Zgq a0.List ({ Score := (0 : Nat), Name := a1.S } : Zj) true).bind fun r39 => (Z2 ({ a0 with List := r39 }) ({ Code := (0 : Int), Num := (0 : Int), Rec := (default : Zd) } : Zi))))) else (if (a1.Kind == (19 : Int)) then ((Zeu a0 a1 (Int.toNat ((a0.List.length : Int) - (0 : Int)) + 1) ([] : List Zj) (0 : Int)).bind fun z53 => match z53 with | y52 => (Z2 ({ a0 with List := y52 }) ({ Code := (0 : Int), Num := (0 : Int), Rec := (default : Zd) } : Zi))) else (if (a1.Kind == (20 : Int)) then ((Zhe a0.List a1.S).bind fun r55 => (if (!r55) then (Z2 a0 ({ ({ Code := (0 : Int), Num := (0 : Int), Rec := (default : Zd) } : Zi) with Code := (11 : Int) })) else (Z2 a0 ({ Code := (0 : Int), Num := (0 : Int), Rec := (default : Zd) } : Zi)))) else (if (a1.Kind == (21 : Int)) then ((Zgq a0.List ({ Score := a1.X, Name := a1.S } : Zj) false).bind fun r59 => (if (decide (a0.Cap < (r59.length : Int))) then ((cut r59 (0 : Int) a0.Cap).bind fun c62 => (Zfd a0 c62)) else (Zfd a0 r59))) else (Z2 a0 ({ Code := (0 : Int), Num := (0 : Int), Rec := (default : Zd) } : Zi))))))))))))))
def Zbs (a0 : Zd) (a1 : Zs) : Option (Zd × Zi) := (if (a1.Kind == (5 : Int)) then (Z2 ({ a0 with Text := a1.S }) ({ Code := (0 : Int), Num := (0 : Int), Rec := (default : Zd) } : Zi)) else (if (a1.Kind == (6 : Int)) then ((Zkd a0).bind fun r3 => (Z2 ({ a0 with Text := a1.S }) ({ ({ Code := (0 : Int), Num := (0 : Int), Rec := (default : Zd) } : Zi) with Rec := r3 }))) else (if (a1.Kind == (7 : Int)) then (Z2 ({ a0 with Num := (IntKind.i64.wrap (a0.Num + a1.N)) }) ({ Code := (0 : Int), Num := (0 : Int), Rec := (default : Zd) } : Zi)) else (if (a1.Kind == (8 : Int)) then ((Zlh a0.Num a1.N).bind fun r7 => (if r7 then (Z2 a0 ({ ({ Code := (0 : Int), Num := (0 : Int), Rec := (default : Zd) } : Zi) with Code := (9 : Int) })) else (Z2 ({ a0 with Num := (IntKind.i64.wrap (a0.Num + a1.N)) }) ({ Code := (0 : Int), Num := (0 : Int), Rec := (default : Zd) } : Zi)))) else (if (a1.Kind == (9 : Int)) then (Zcn a0 a1 (a1.Kind == (9 : Int))) else (Zcn a0 a1 (a1.Kind == (12 : Int))))))))
def Zlj (a0 : Zo) (a1 : ByteArray) : Option (Zo × Bool) := ((Zet a0 a1).bind fun r1 => ((gd (!(decide ((a0.L.length : Int) ≤ r1))) (idx a0.L r1)).bind fun e3 => (if ((decide ((a0.L.length : Int) ≤ r1)) || (!sEq e3.Key a1)) then (some (a0, false)) else ((cut a0.L (0 : Int) r1).bind fun c6 => (if (([] : List Z9).length + c6.length) * 104 ≤ 140737488355328 then ((cut a0.L (IntKind.i64.wrap (r1 + (1 : Int))) (a0.L.length : Int)).bind fun c9 => (if ((([] : List Z9) ++ c6).length + c9.length) * 104 ≤ 140737488355328 then (some (({ L := ((([] : List Z9) ++ c6) ++ c9), Room := a0.Room } : Zo), true)) else none)) else none)))))
def Zow (x : Zj) : Prop := (x.Score < 2 ^ 64) ∧ (x.Name.size ≤ maxLen)
def Zjp (x : Zd) : Prop := ((IntKind.i64).min ≤ x.Kind ∧ x.Kind ≤ (IntKind.i64).max) ∧ ((IntKind.i64).min ≤ x.Num ∧ x.Num ≤ (IntKind.i64).max) ∧ ((IntKind.i64).min ≤ x.Low ∧ x.Low ≤ (IntKind.i64).max) ∧ ((IntKind.i64).min ≤ x.High ∧ x.High ≤ (IntKind.i64).max) ∧ (x.Real < 2 ^ 64) ∧ ((IntKind.i64).min ≤ x.Cap ∧ x.Cap ≤ (IntKind.i64).max) ∧ (x.Text.size ≤ maxLen) ∧ (x.List.length ≤ maxLen ∧ ∀ e0 ∈ x.List, (Zow e0))
def Zkn (x : Zs) : Prop := ((IntKind.i64).min ≤ x.Kind ∧ x.Kind ≤ (IntKind.i64).max) ∧ (x.Key.size ≤ maxLen) ∧ ((IntKind.i64).min ≤ x.N ∧ x.N ≤ (IntKind.i64).max) ∧ (x.X < 2 ^ 64) ∧ (x.S.size ≤ maxLen) ∧ (Zjp x.Make) ∧ True
def Zot (x : Zbg) : Prop := (x.Acts.length ≤ maxLen ∧ ∀ e0 ∈ x.Acts, (Zkn e0))
def Zgi (x : Z9) : Prop := (x.Key.size ≤ maxLen) ∧ (Zjp x.Rec)
end Go.CL
namespace Go.CL
open Go Go.RowKit Go.Proofs
theorem Zb : Tryz.prog.follows .mixedOrders = true := by kernel_rfl
theorem Z5c {α : Type} {l : List α} (h : l.length = 1) : ∃ u0, l = [u0] := by
 match l, h with
 | [u0], _ => exact ⟨u0, rfl⟩
theorem Zky {α : Type} {l : List α} (h : l.length = 2) : ∃ u0 u1, l = [u0, u1] := by
 match l, h with
 | [u0, u1], _ => exact ⟨u0, u1, rfl⟩
theorem Z0s {α : Type} {l : List α} (h : l.length = 8) : ∃ u0 u1 u2 u3 u4 u5 u6 u7, l = [u0, u1, u2, u3, u4, u5, u6, u7] := by
 match l, h with
 | [u0, u1, u2, u3, u4, u5, u6, u7], _ => exact ⟨u0, u1, u2, u3, u4, u5, u6, u7, rfl⟩
def Zzr : List (Kd.FK Zj) := [⟨_, Kd.flt, 0, fun x : Zj => x.Score⟩,
 ⟨_, Kd.str, 1, fun x : Zj => x.Name⟩]
def Zx : Kd Zj := Kd.struct 2 Zzr (by rfl)
theorem Zju : ∀ g, Zx.K g (default : Zj) [.float .f64 0, .string ByteArray.empty] := fun g => ⟨rfl, (List.forall_mem_cons.2 ⟨(rfl), (List.forall_mem_cons.2 ⟨(rfl), (fun _ h => by cases h)⟩)⟩)⟩
def Zwm : List (Kd.FK Zd) := [⟨_, (Kd.int .i64), 0, fun x : Zd => x.Kind⟩,
 ⟨_, (Kd.int .i64), 1, fun x : Zd => x.Num⟩,
 ⟨_, (Kd.int .i64), 2, fun x : Zd => x.Low⟩,
 ⟨_, (Kd.int .i64), 3, fun x : Zd => x.High⟩,
 ⟨_, Kd.flt, 4, fun x : Zd => x.Real⟩,
 ⟨_, (Kd.int .i64), 5, fun x : Zd => x.Cap⟩,
 ⟨_, Kd.str, 6, fun x : Zd => x.Text⟩,
 ⟨_, Zx.sl, 7, fun x : Zd => x.List⟩]
def Zh : Kd Zd := Kd.struct 8 Zwm (by rfl)
theorem Zcd : ∀ g, Zh.K g (default : Zd) [.int .i64 0, .int .i64 0, .int .i64 0, .int .i64 0, .float .f64 0, .int .i64 0, .string ByteArray.empty, .slice none 0 0] := fun g => ⟨rfl, (List.forall_mem_cons.2 ⟨(rfl), (List.forall_mem_cons.2 ⟨(rfl), (List.forall_mem_cons.2 ⟨(rfl), (List.forall_mem_cons.2 ⟨(rfl), (List.forall_mem_cons.2 ⟨(rfl), (List.forall_mem_cons.2 ⟨(rfl), (List.forall_mem_cons.2 ⟨(rfl), (List.forall_mem_cons.2 ⟨(⟨none, 0, rfl, Nat.le_refl _, Nat.zero_le _, .inl rfl⟩), (fun _ h => by cases h)⟩)⟩)⟩)⟩)⟩)⟩)⟩)⟩)⟩
def Z1t : List (Kd.FK Zs) := [⟨_, (Kd.int .i64), 0, fun x : Zs => x.Kind⟩,
 ⟨_, Kd.str, 1, fun x : Zs => x.Key⟩,
 ⟨_, (Kd.int .i64), 2, fun x : Zs => x.N⟩,
 ⟨_, Kd.flt, 3, fun x : Zs => x.X⟩,
 ⟨_, Kd.str, 4, fun x : Zs => x.S⟩,
 ⟨_, Zh, 5, fun x : Zs => x.Make⟩,
 ⟨_, Kd.bool, 13, fun x : Zs => x.Must⟩]
def Zy : Kd Zs := Kd.struct 14 Z1t (by rfl)
theorem Zlz : ∀ g, Zy.K g (default : Zs) [.int .i64 0, .string ByteArray.empty, .int .i64 0, .float .f64 0, .string ByteArray.empty, .int .i64 0, .int .i64 0, .int .i64 0, .int .i64 0, .float .f64 0, .int .i64 0, .string ByteArray.empty, .slice none 0 0, .bool false] := fun g => ⟨rfl, (List.forall_mem_cons.2 ⟨(rfl), (List.forall_mem_cons.2 ⟨(rfl), (List.forall_mem_cons.2 ⟨(rfl), (List.forall_mem_cons.2 ⟨(rfl), (List.forall_mem_cons.2 ⟨(rfl), (List.forall_mem_cons.2 ⟨(Zcd _), (List.forall_mem_cons.2 ⟨(rfl), (fun _ h => by cases h)⟩)⟩)⟩)⟩)⟩)⟩)⟩)⟩
def Zzd : List (Kd.FK Zbg) := [⟨_, Zy.sl, 0, fun x : Zbg => x.Acts⟩]
def Zb8 : Kd Zbg := Kd.struct 1 Zzd (by rfl)
theorem Zsa : ∀ g, Zb8.K g (default : Zbg) [.slice none 0 0] := fun g => ⟨rfl, (List.forall_mem_cons.2 ⟨(⟨none, 0, rfl, Nat.le_refl _, Nat.zero_le _, .inl rfl⟩), (fun _ h => by cases h)⟩)⟩
def Zx8 : List (Kd.FK Zb2) := [⟨_, Kd.bool, 0, fun x : Zb2 => x.text⟩,
 ⟨_, Kd.bool, 1, fun x : Zb2 => x.num⟩,
 ⟨_, Kd.bool, 2, fun x : Zb2 => x.bounds⟩,
 ⟨_, Kd.bool, 3, fun x : Zb2 => x.real⟩,
 ⟨_, Kd.bool, 4, fun x : Zb2 => x.list⟩]
def Zcx : Kd Zb2 := Kd.struct 5 Zx8 (by rfl)
theorem Zql : ∀ g, Zcx.K g (default : Zb2) [.bool false, .bool false, .bool false, .bool false, .bool false] := fun g => ⟨rfl, (List.forall_mem_cons.2 ⟨(rfl), (List.forall_mem_cons.2 ⟨(rfl), (List.forall_mem_cons.2 ⟨(rfl), (List.forall_mem_cons.2 ⟨(rfl), (List.forall_mem_cons.2 ⟨(rfl), (fun _ h => by cases h)⟩)⟩)⟩)⟩)⟩)⟩
def Zzg : List (Kd.FK Zc9) := [⟨_, Kd.str, 0, fun x : Zc9 => x.word⟩,
 ⟨_, (Kd.int .i64), 1, fun x : Zc9 => x.on⟩,
 ⟨_, Kd.str, 2, fun x : Zc9 => x.has⟩]
def Zef : Kd Zc9 := Kd.struct 3 Zzg (by rfl)
theorem Zsk : ∀ g, Zef.K g (default : Zc9) [.string ByteArray.empty, .int .i64 0, .string ByteArray.empty] := fun g => ⟨rfl, (List.forall_mem_cons.2 ⟨(rfl), (List.forall_mem_cons.2 ⟨(rfl), (List.forall_mem_cons.2 ⟨(rfl), (fun _ h => by cases h)⟩)⟩)⟩)⟩
def shelf_nodeT.V (g : G) : shelf_nodeT → Value → Prop
 | .nil, v => v = .pointer none
 | .node x0 x1 x2 x3 x4, v => ∃ b o cs, v = .pointer (some ⟨b, o, none⟩) ∧ CellsAt g b o cs ∧ cs.length = 12 ∧ (∀ u ∈ cs, u.oneCell' = true) ∧ Kd.str.K g x0 (seg cs 0 1) ∧ Zh.K g x1 (seg cs 1 8) ∧ (∃ v, seg cs 9 1 = [v] ∧ shelf_nodeT.V g x2 v) ∧ (∃ v, seg cs 10 1 = [v] ∧ shelf_nodeT.V g x3 v) ∧ (Kd.int .i64).K g x4 (seg cs 11 1)
theorem shelf_nodeT.mono {g g' : G} (h : g.le g') (t : shelf_nodeT) : ∀ v, shelf_nodeT.V g t v → shelf_nodeT.V g' t v := by
 induction t with
 | nil => exact fun v h => h
 | node x0 x1 x2 x3 x4 ih2 ih3 =>
   rintro v ⟨b, o, cs, rfl, hc, hl, hz, h0, h1, ⟨w2, e2, k2⟩, ⟨w3, e3, k3⟩, h4⟩
   exact ⟨b, o, cs, rfl, hc.mono h, hl, hz, Kd.str.mono h h0, Zh.mono h h1, ⟨w2, e2, ih2 w2 k2⟩, ⟨w3, e3, ih3 w3 k3⟩, (Kd.int .i64).mono h h4⟩
theorem shelf_nodeT.ptr {g : G} {t : shelf_nodeT} {v : Value} (h : shelf_nodeT.V g t v) : ∃ p, v = .pointer p ∧ p.isNone = t.isNil := by
 cases t with
 | nil => exact ⟨_, h, rfl⟩
 | node =>
   obtain ⟨b, o, cs, e, _⟩ := h
   exact ⟨_, e, rfl⟩
def Z5 : Kd shelf_nodeT where
 sz := 1
 ag := false
 K := fun g t cs => ∃ v, cs = [v] ∧ shelf_nodeT.V g t v
 len := by rintro _ _ _ ⟨v, rfl, _⟩; rfl
 one := by
   rintro _ _ _ ⟨v, rfl, h⟩ u hu
   obtain ⟨p, e, _⟩ := shelf_nodeT.ptr h
   rw [List.mem_singleton.1 hu, e]; rfl
 mono := fun h ⟨v, e, k⟩ => ⟨v, e, shelf_nodeT.mono h _ _ k⟩
 nag := fun _ => rfl
def Zwd : List (Kd.FK shelf_node) := [⟨_, Kd.str, 0, fun x : shelf_node => x.key⟩,
 ⟨_, Zh, 1, fun x : shelf_node => x.rec_⟩,
 ⟨_, Z5, 9, fun x : shelf_node => x.left⟩,
 ⟨_, Z5, 10, fun x : shelf_node => x.right⟩,
 ⟨_, (Kd.int .i64), 11, fun x : shelf_node => x.size⟩]
def Zf7 : Kd shelf_node := Kd.struct 12 Zwd (by rfl)
theorem shelf_nodeT.V_iff {g : G} {t : shelf_nodeT} {v : Value} : (Z5.pd t).p g v ↔ shelf_nodeT.V g t v := by
 constructor
 · rintro ⟨_, ⟨u, rfl, h⟩, rfl⟩; exact h
 · exact fun h => ⟨_, ⟨v, rfl, h⟩, rfl⟩
theorem Zk2 (g : G) : Z5.K g shelf_nodeT.nil [.pointer none] := ⟨_, rfl, rfl⟩
theorem Zea (g : G) : (Z5.pd shelf_nodeT.nil).p g (.pointer none) := shelf_nodeT.V_iff.2 rfl
theorem Zev (t : shelf_nodeT) (g : G) (v : Value) (h : (Z5.pd t).p g v) : ∃ p, v = .pointer p ∧ p.isNone = t.isNil := shelf_nodeT.ptr (shelf_nodeT.V_iff.1 h)
theorem Zr {g : G} {t : shelf_nodeT} {x : shelf_node} {v : Value} (h : t.un = some x) (hv : (Z5.pd t).p g v) : (Zf7.ptr x).p g v := by
 cases t with
 | nil => cases h
 | node x0 x1 x2 x3 x4 =>
   obtain rfl := Option.some.inj h
   obtain ⟨b, o, cs, rfl, hc, hl, _, h0, h1, h2, h3, h4⟩ := shelf_nodeT.V_iff.1 hv
   exact ⟨b, o, cs, rfl, ⟨hl, (List.forall_mem_cons.2 ⟨h0, (List.forall_mem_cons.2 ⟨h1, (List.forall_mem_cons.2 ⟨h2, (List.forall_mem_cons.2 ⟨h3, (List.forall_mem_cons.2 ⟨h4, (fun _ h => by cases h)⟩)⟩)⟩)⟩)⟩)⟩, hc⟩
theorem Zuy {g : G} {x : shelf_node} {v : Value} (h : (Zf7.ptr x).p g v) : (Z5.pd x.up).p g v := by
 obtain ⟨b, o, cs, rfl, hk, hc⟩ := h
 exact shelf_nodeT.V_iff.2 ⟨b, o, cs, rfl, hc, hk.1, Zf7.one hk, hk.2 _ (List.mem_of_getElem? (i := 0) rfl), hk.2 _ (List.mem_of_getElem? (i := 1) rfl), hk.2 _ (List.mem_of_getElem? (i := 2) rfl), hk.2 _ (List.mem_of_getElem? (i := 3) rfl), hk.2 _ (List.mem_of_getElem? (i := 4) rfl)⟩
def Zui : List (Kd.FK Zl) := [⟨_, Z5, 0, fun x : Zl => x.top⟩,
 ⟨_, (Kd.int .i64), 1, fun x : Zl => x.room⟩]
def Zw : Kd Zl := Kd.struct 2 Zui (by rfl)
theorem Zdq : ∀ g, Zw.K g (default : Zl) [.pointer none, .int .i64 0] := fun g => ⟨rfl, (List.forall_mem_cons.2 ⟨(Zk2 _), (List.forall_mem_cons.2 ⟨(rfl), (fun _ h => by cases h)⟩)⟩)⟩
def Zwe : List (Kd.FK Zi) := [⟨_, (Kd.int .i64), 0, fun x : Zi => x.Code⟩,
 ⟨_, (Kd.int .i64), 1, fun x : Zi => x.Num⟩,
 ⟨_, Zh, 2, fun x : Zi => x.Rec⟩]
def Zn : Kd Zi := Kd.struct 10 Zwe (by rfl)
theorem Zh5 : ∀ g, Zn.K g (default : Zi) [.int .i64 0, .int .i64 0, .int .i64 0, .int .i64 0, .int .i64 0, .int .i64 0, .float .f64 0, .int .i64 0, .string ByteArray.empty, .slice none 0 0] := fun g => ⟨rfl, (List.forall_mem_cons.2 ⟨(rfl), (List.forall_mem_cons.2 ⟨(rfl), (List.forall_mem_cons.2 ⟨(Zcd _), (fun _ h => by cases h)⟩)⟩)⟩)⟩
def Zwg : List (Kd.FK Z6) := [⟨_, (Kd.int .i64), 0, fun x : Z6 => x.Code⟩,
 ⟨_, (Kd.int .i64), 1, fun x : Z6 => x.At⟩,
 ⟨_, Zn.sl, 2, fun x : Z6 => x.Answers⟩]
def Zcj : Kd Z6 := Kd.struct 3 Zwg (by rfl)
theorem Zlb : ∀ g, Zcj.K g (default : Z6) [.int .i64 0, .int .i64 0, .slice none 0 0] := fun g => ⟨rfl, (List.forall_mem_cons.2 ⟨(rfl), (List.forall_mem_cons.2 ⟨(rfl), (List.forall_mem_cons.2 ⟨(⟨none, 0, rfl, Nat.le_refl _, Nat.zero_le _, .inl rfl⟩), (fun _ h => by cases h)⟩)⟩)⟩)⟩
def Zqa : List (Kd.FK Z9) := [⟨_, Kd.str, 0, fun x : Z9 => x.Key⟩,
 ⟨_, Zh, 1, fun x : Z9 => x.Rec⟩]
def Zbx : Kd Z9 := Kd.struct 9 Zqa (by rfl)
theorem Zqe : ∀ g, Zbx.K g (default : Z9) [.string ByteArray.empty, .int .i64 0, .int .i64 0, .int .i64 0, .int .i64 0, .float .f64 0, .int .i64 0, .string ByteArray.empty, .slice none 0 0] := fun g => ⟨rfl, (List.forall_mem_cons.2 ⟨(rfl), (List.forall_mem_cons.2 ⟨(Zcd _), (fun _ h => by cases h)⟩)⟩)⟩
def Zpf : List (Kd.FK Zo) := [⟨_, Zbx.sl, 0, fun x : Zo => x.L⟩,
 ⟨_, (Kd.int .i64), 1, fun x : Zo => x.Room⟩]
def Zbt : Kd Zo := Kd.struct 2 Zpf (by rfl)
theorem Zlv : ∀ g, Zbt.K g (default : Zo) [.slice none 0 0, .int .i64 0] := fun g => ⟨rfl, (List.forall_mem_cons.2 ⟨(⟨none, 0, rfl, Nat.le_refl _, Nat.zero_le _, .inl rfl⟩), (List.forall_mem_cons.2 ⟨(rfl), (fun _ h => by cases h)⟩)⟩)⟩
def Zxj : Zc9 → List Value := fun x => [.string x.word, .int .i64 x.on, .string x.has]
theorem gm_0 : (0, g_0.flatMap Zxj) ∈ GL := List.mem_of_getElem? (i := 0) rfl
theorem gk_0 : ∀ g, (Kd.arr 22 Zef).K g g_0 (g_0.flatMap Zxj) := fun g => Zbal (dk := Zef) (enc := Zxj) (fun g x => ⟨rfl, (List.forall_mem_cons.2 ⟨rfl, (List.forall_mem_cons.2 ⟨rfl, (List.forall_mem_cons.2 ⟨rfl, (fun _ h => by cases h)⟩)⟩)⟩)⟩) g g_0
theorem Zeo : TE Tryz.prog 36 116 Zx 24 := TE.of Tryz.underlying36 (by kernel_rfl) (by decide) (by decide)
theorem Zdp : Fld Tryz.prog 38 7 Zh Zx.sl (fun x : Zd => x.List) := Fld.of ⟨_, Zx.sl, 7, fun x : Zd => x.List⟩ (List.mem_of_getElem? (i := 7) rfl) 7 rfl (by kernel_rfl) (by decide)
theorem Ze9 : Ty Tryz.prog 36 Zx.sl := ⟨by kernel_rfl, by kernel_rfl⟩
theorem Zwy : Zp Tryz.prog 81 := by
 unfold Zp
 kernel_rfl
theorem Zrz {c : Option Nat} {N j s : Nat} {o : Oper} {uses : Zbc} {x z : Operand} {v : Zd} {y0 y : List Zj} {v0 : Zd} {t : Nat} (hT : Ty Tryz.prog t Zx.sl) (hop : o.op = .store t x z) (hd : o.dst = none) (hs : Opd uses (.tmp s) (Zb3 c Zh j v)) (hx : Opd uses x (Zic Zh j v0 7 Zx.sl y0)) (hz : Opd uses z (Zx.sl.pd y)) : OB Tryz.prog N o uses [(s, Zb3 c Zh j { v with List := y })] [j + 1] :=
 Zlq hT hop hd hs hx hz fun g cs ys hk hy => by
   have hc : cs.length = 8 := hk.1
   have hl : ys.length = 1 := Zx.sl.len hy
   exact ⟨by omega, (Zc6 (by omega)).trans hc, (List.forall_mem_cons.2 ⟨(by show (Kd.int .i64).K g v.Kind (seg (Z3 cs 7 ys) 0 1); rw [Z1 (by omega) (by omega)]; exact hk.2 _ (List.mem_of_getElem? (i := 0) rfl)), (List.forall_mem_cons.2 ⟨(by show (Kd.int .i64).K g v.Num (seg (Z3 cs 7 ys) 1 1); rw [Z1 (by omega) (by omega)]; exact hk.2 _ (List.mem_of_getElem? (i := 1) rfl)), (List.forall_mem_cons.2 ⟨(by show (Kd.int .i64).K g v.Low (seg (Z3 cs 7 ys) 2 1); rw [Z1 (by omega) (by omega)]; exact hk.2 _ (List.mem_of_getElem? (i := 2) rfl)), (List.forall_mem_cons.2 ⟨(by show (Kd.int .i64).K g v.High (seg (Z3 cs 7 ys) 3 1); rw [Z1 (by omega) (by omega)]; exact hk.2 _ (List.mem_of_getElem? (i := 3) rfl)), (List.forall_mem_cons.2 ⟨(by show Kd.flt.K g v.Real (seg (Z3 cs 7 ys) 4 1); rw [Z1 (by omega) (by omega)]; exact hk.2 _ (List.mem_of_getElem? (i := 4) rfl)), (List.forall_mem_cons.2 ⟨(by show (Kd.int .i64).K g v.Cap (seg (Z3 cs 7 ys) 5 1); rw [Z1 (by omega) (by omega)]; exact hk.2 _ (List.mem_of_getElem? (i := 5) rfl)), (List.forall_mem_cons.2 ⟨(by show Kd.str.K g v.Text (seg (Z3 cs 7 ys) 6 1); rw [Z1 (by omega) (by omega)]; exact hk.2 _ (List.mem_of_getElem? (i := 6) rfl)), (List.forall_mem_cons.2 ⟨(by show Zx.sl.K g y (seg (Z3 cs 7 ys) 7 1); rw [Zdc (by omega) hl]; exact hy), (fun _ h => by cases h)⟩)⟩)⟩)⟩)⟩)⟩)⟩)⟩)⟩
theorem Zbh : Ty Tryz.prog 38 Zh := ⟨by kernel_rfl, by kernel_rfl⟩
theorem Ztl : TE Tryz.prog 23 40 Zy 152 := TE.of Tryz.underlying23 (by kernel_rfl) (by decide) (by decide)
structure Zkr where
 Acts : SlV
def Zwo : List (Kd.FK Zkr) := [⟨_, Kd.raw, 0, fun x : Zkr => x.Acts⟩]
def Zfm : Kd Zkr := Kd.struct 1 Zwo (by rfl)
def Zfu (x : Zbg) (s : SlV) : Zkr := ⟨s⟩
theorem Zwr {x : Zbg} {g : G} {cs ys : List Value} {s0 s1 : SlV} (hk : Zfm.K g (Zfu x s0) cs) (hy : Kd.raw.K g s1 ys) : 0 + ys.length ≤ cs.length ∧ Zfm.K g (Zfu x s1) (Z3 cs 0 ys) := by
 have hc : cs.length = 1 := hk.1
 have hl : ys.length = 1 := Kd.raw.len hy
 exact ⟨by omega, (Zc6 (by omega)).trans hc, (List.forall_mem_cons.2 ⟨(by show Kd.raw.K g s1 (seg (Z3 cs 0 ys) 0 1); rw [Zdc (by omega) hl]; exact hy), (fun _ h => by cases h)⟩)⟩
theorem Zsv : Fld Tryz.prog 25 0 Zfm Kd.raw (fun x : Zkr => x.Acts) := Fld.of ⟨_, Kd.raw, 0, fun x : Zkr => x.Acts⟩ (List.mem_of_getElem? (i := 0) rfl) 0 rfl (by kernel_rfl) (by decide)
theorem Zte : Ty Tryz.prog 23 Kd.raw := ⟨by kernel_rfl, by kernel_rfl⟩
theorem Znl : Ty Tryz.prog 25 Zb8 := ⟨by kernel_rfl, by kernel_rfl⟩
theorem Zmr : Ty Tryz.prog 23 Zy.sl := ⟨by kernel_rfl, by kernel_rfl⟩
theorem Zp5 : (Tryz.prog.info? 40).map (·.size) = some Zy.sz := by kernel_rfl
theorem Zkv : Fld Tryz.prog 25 0 Zb8 Zy.sl (fun x : Zbg => x.Acts) := Fld.of ⟨_, Zy.sl, 0, fun x : Zbg => x.Acts⟩ (List.mem_of_getElem? (i := 0) rfl) 0 rfl (by kernel_rfl) (by decide)
theorem Znw : Fld Tryz.prog 40 5 Zy Zh (fun x : Zs => x.Make) := Fld.of ⟨_, Zh, 5, fun x : Zs => x.Make⟩ (List.mem_of_getElem? (i := 5) rfl) 5 rfl (by kernel_rfl) (by decide)
theorem Z9v : Zp Tryz.prog 56 := by
 unfold Zp
 kernel_rfl
theorem Zms : Zp Tryz.prog 53 := by
 unfold Zp
 kernel_rfl
theorem Zxh : Z1w Zb8 Zfm Zfu := fun g x cs h => by
 obtain ⟨A, c, e, _⟩ := h.2 _ (List.mem_of_getElem? (i := 0) rfl)
 exact ⟨(A, x.Acts.length, c), h.1, (List.forall_mem_cons.2 ⟨e, (fun _ h => by cases h)⟩)⟩
theorem Zx4 : Z1l Zb8 Zfm Zfu (fun x : Zbg => x.Acts) Zy := fun g x s cs h hr => ⟨h.1, (List.forall_mem_cons.2 ⟨(Zyr (h.2 _ (List.mem_of_getElem? (i := 0) rfl)) hr), (fun _ h => by cases h)⟩)⟩
theorem Z8j : Ty Tryz.prog 25 Zfm := ⟨by kernel_rfl, by kernel_rfl⟩
theorem Zwp (u : Zs) : ∀ (g : G) (cs ys : List Value), Zy.K g u cs → Zh.K g u.Make ys → 0 + 5 + ys.length ≤ cs.length → Zy.K g u (Z3 cs (0 + 5) ys) := fun g cs ys hk hy _ => by
 have hc : cs.length = 14 := hk.1
 have hl : ys.length = 8 := Zh.len hy
 exact ⟨(Zc6 (by omega)).trans hc, (List.forall_mem_cons.2 ⟨(by show (Kd.int .i64).K g u.Kind (seg (Z3 cs (0 + 5) ys) 0 1); rw [Nat.zero_add, Z1 (by omega) (by omega)]; exact hk.2 _ (List.mem_of_getElem? (i := 0) rfl)), (List.forall_mem_cons.2 ⟨(by show Kd.str.K g u.Key (seg (Z3 cs (0 + 5) ys) 1 1); rw [Nat.zero_add, Z1 (by omega) (by omega)]; exact hk.2 _ (List.mem_of_getElem? (i := 1) rfl)), (List.forall_mem_cons.2 ⟨(by show (Kd.int .i64).K g u.N (seg (Z3 cs (0 + 5) ys) 2 1); rw [Nat.zero_add, Z1 (by omega) (by omega)]; exact hk.2 _ (List.mem_of_getElem? (i := 2) rfl)), (List.forall_mem_cons.2 ⟨(by show Kd.flt.K g u.X (seg (Z3 cs (0 + 5) ys) 3 1); rw [Nat.zero_add, Z1 (by omega) (by omega)]; exact hk.2 _ (List.mem_of_getElem? (i := 3) rfl)), (List.forall_mem_cons.2 ⟨(by show Kd.str.K g u.S (seg (Z3 cs (0 + 5) ys) 4 1); rw [Nat.zero_add, Z1 (by omega) (by omega)]; exact hk.2 _ (List.mem_of_getElem? (i := 4) rfl)), (List.forall_mem_cons.2 ⟨(by show Zh.K g u.Make (seg (Z3 cs (0 + 5) ys) 5 8); rw [Nat.zero_add, Zdc (by omega) hl]; exact hy), (List.forall_mem_cons.2 ⟨(by show Kd.bool.K g u.Must (seg (Z3 cs (0 + 5) ys) 13 1); rw [Nat.zero_add, Z1 (by omega) (by omega)]; exact hk.2 _ (List.mem_of_getElem? (i := 6) rfl)), (fun _ h => by cases h)⟩)⟩)⟩)⟩)⟩)⟩)⟩)⟩
theorem Zro : TE Tryz.prog 26 9 Kd.str 16 := TE.of Tryz.underlying26 (by kernel_rfl) (by decide) (by decide)
theorem Z3s {N d : Nat} {o : Oper} {uses : Zbc} {x0 : Operand} {v0 : Bool} (hop : o.op = .build 135 #[(0, x0)]) (hd : o.dst = some d) (h0 : Opd uses x0 (Kd.bool.pd v0)) : OB Tryz.prog N o uses [(d, Zcx.pd { text := v0, num := false, bounds := false, real := false, list := false })] [] := by
 refine Zc5 hop hd fun a g hh => ?_
 obtain ⟨c0, k0, e0⟩ := h0 a g hh
 obtain rfl := k0
 refine ⟨.agg #[.bool v0, .bool false, .bool false, .bool false, .bool false], ?_, [.bool v0, .bool false, .bool false, .bool false, .bool false], ⟨rfl, (List.forall_mem_cons.2 ⟨rfl, (List.forall_mem_cons.2 ⟨(rfl), (List.forall_mem_cons.2 ⟨(rfl), (List.forall_mem_cons.2 ⟨(rfl), (List.forall_mem_cons.2 ⟨(rfl), (fun _ h => by cases h)⟩)⟩)⟩)⟩)⟩)⟩, rfl⟩
 simp only [List.map_toArray, List.map_cons, List.map_nil, e0]
 exact Zcq Tryz.underlying135 (zero := .agg #[.bool false, .bool false, .bool false, .bool false, .bool false]) (by kernel_rfl) (places := [(0, 1), (1, 1), (2, 1), (3, 1), (4, 1)]) (by kernel_rfl) (by kernel_rfl) g.w
theorem Zip : Ty Tryz.prog 135 Zcx := ⟨by kernel_rfl, by kernel_rfl⟩
theorem Z4g {N d : Nat} {o : Oper} {uses : Zbc} {x1 : Operand} {v1 : Bool} (hop : o.op = .build 135 #[(1, x1)]) (hd : o.dst = some d) (h1 : Opd uses x1 (Kd.bool.pd v1)) : OB Tryz.prog N o uses [(d, Zcx.pd { text := false, num := v1, bounds := false, real := false, list := false })] [] := by
 refine Zc5 hop hd fun a g hh => ?_
 obtain ⟨c1, k1, e1⟩ := h1 a g hh
 obtain rfl := k1
 refine ⟨.agg #[.bool false, .bool v1, .bool false, .bool false, .bool false], ?_, [.bool false, .bool v1, .bool false, .bool false, .bool false], ⟨rfl, (List.forall_mem_cons.2 ⟨(rfl), (List.forall_mem_cons.2 ⟨rfl, (List.forall_mem_cons.2 ⟨(rfl), (List.forall_mem_cons.2 ⟨(rfl), (List.forall_mem_cons.2 ⟨(rfl), (fun _ h => by cases h)⟩)⟩)⟩)⟩)⟩)⟩, rfl⟩
 simp only [List.map_toArray, List.map_cons, List.map_nil, e1]
 exact Zcq Tryz.underlying135 (zero := .agg #[.bool false, .bool false, .bool false, .bool false, .bool false]) (by kernel_rfl) (places := [(0, 1), (1, 1), (2, 1), (3, 1), (4, 1)]) (by kernel_rfl) (by kernel_rfl) g.w
theorem Z1o {N d : Nat} {o : Oper} {uses : Zbc} {x1 : Operand} {x2 : Operand} {v1 : Bool} {v2 : Bool} (hop : o.op = .build 135 #[(1, x1), (2, x2)]) (hd : o.dst = some d) (h1 : Opd uses x1 (Kd.bool.pd v1)) (h2 : Opd uses x2 (Kd.bool.pd v2)) : OB Tryz.prog N o uses [(d, Zcx.pd { text := false, num := v1, bounds := v2, real := false, list := false })] [] := by
 refine Zc5 hop hd fun a g hh => ?_
 obtain ⟨c1, k1, e1⟩ := h1 a g hh
 obtain rfl := k1
 obtain ⟨c2, k2, e2⟩ := h2 a g hh
 obtain rfl := k2
 refine ⟨.agg #[.bool false, .bool v1, .bool v2, .bool false, .bool false], ?_, [.bool false, .bool v1, .bool v2, .bool false, .bool false], ⟨rfl, (List.forall_mem_cons.2 ⟨(rfl), (List.forall_mem_cons.2 ⟨rfl, (List.forall_mem_cons.2 ⟨rfl, (List.forall_mem_cons.2 ⟨(rfl), (List.forall_mem_cons.2 ⟨(rfl), (fun _ h => by cases h)⟩)⟩)⟩)⟩)⟩)⟩, rfl⟩
 simp only [List.map_toArray, List.map_cons, List.map_nil, e1, e2]
 exact Zcq Tryz.underlying135 (zero := .agg #[.bool false, .bool false, .bool false, .bool false, .bool false]) (by kernel_rfl) (places := [(0, 1), (1, 1), (2, 1), (3, 1), (4, 1)]) (by kernel_rfl) (by kernel_rfl) g.w
theorem Z38 {N d : Nat} {o : Oper} {uses : Zbc} {x3 : Operand} {v3 : Bool} (hop : o.op = .build 135 #[(3, x3)]) (hd : o.dst = some d) (h3 : Opd uses x3 (Kd.bool.pd v3)) : OB Tryz.prog N o uses [(d, Zcx.pd { text := false, num := false, bounds := false, real := v3, list := false })] [] := by
 refine Zc5 hop hd fun a g hh => ?_
 obtain ⟨c3, k3, e3⟩ := h3 a g hh
 obtain rfl := k3
 refine ⟨.agg #[.bool false, .bool false, .bool false, .bool v3, .bool false], ?_, [.bool false, .bool false, .bool false, .bool v3, .bool false], ⟨rfl, (List.forall_mem_cons.2 ⟨(rfl), (List.forall_mem_cons.2 ⟨(rfl), (List.forall_mem_cons.2 ⟨(rfl), (List.forall_mem_cons.2 ⟨rfl, (List.forall_mem_cons.2 ⟨(rfl), (fun _ h => by cases h)⟩)⟩)⟩)⟩)⟩)⟩, rfl⟩
 simp only [List.map_toArray, List.map_cons, List.map_nil, e3]
 exact Zcq Tryz.underlying135 (zero := .agg #[.bool false, .bool false, .bool false, .bool false, .bool false]) (by kernel_rfl) (places := [(0, 1), (1, 1), (2, 1), (3, 1), (4, 1)]) (by kernel_rfl) (by kernel_rfl) g.w
theorem Z4y {N d : Nat} {o : Oper} {uses : Zbc} {x4 : Operand} {v4 : Bool} (hop : o.op = .build 135 #[(4, x4)]) (hd : o.dst = some d) (h4 : Opd uses x4 (Kd.bool.pd v4)) : OB Tryz.prog N o uses [(d, Zcx.pd { text := false, num := false, bounds := false, real := false, list := v4 })] [] := by
 refine Zc5 hop hd fun a g hh => ?_
 obtain ⟨c4, k4, e4⟩ := h4 a g hh
 obtain rfl := k4
 refine ⟨.agg #[.bool false, .bool false, .bool false, .bool false, .bool v4], ?_, [.bool false, .bool false, .bool false, .bool false, .bool v4], ⟨rfl, (List.forall_mem_cons.2 ⟨(rfl), (List.forall_mem_cons.2 ⟨(rfl), (List.forall_mem_cons.2 ⟨(rfl), (List.forall_mem_cons.2 ⟨(rfl), (List.forall_mem_cons.2 ⟨rfl, (fun _ h => by cases h)⟩)⟩)⟩)⟩)⟩)⟩, rfl⟩
 simp only [List.map_toArray, List.map_cons, List.map_nil, e4]
 exact Zcq Tryz.underlying135 (zero := .agg #[.bool false, .bool false, .bool false, .bool false, .bool false]) (by kernel_rfl) (places := [(0, 1), (1, 1), (2, 1), (3, 1), (4, 1)]) (by kernel_rfl) (by kernel_rfl) g.w
theorem Z6k {N d : Nat} {o : Oper} {uses : Zbc}   (hop : o.op = .build 135 #[]) (hd : o.dst = some d)  : OB Tryz.prog N o uses [(d, Zcx.pd { text := false, num := false, bounds := false, real := false, list := false })] [] := by
 refine Zc5 hop hd fun a g hh => ?_
 refine ⟨.agg #[.bool false, .bool false, .bool false, .bool false, .bool false], ?_, [.bool false, .bool false, .bool false, .bool false, .bool false], ⟨rfl, (List.forall_mem_cons.2 ⟨(rfl), (List.forall_mem_cons.2 ⟨(rfl), (List.forall_mem_cons.2 ⟨(rfl), (List.forall_mem_cons.2 ⟨(rfl), (List.forall_mem_cons.2 ⟨(rfl), (fun _ h => by cases h)⟩)⟩)⟩)⟩)⟩)⟩, rfl⟩
 simp only [List.map_toArray, List.map_cons, List.map_nil, List.map_nil]
 exact Zcq Tryz.underlying135 (zero := .agg #[.bool false, .bool false, .bool false, .bool false, .bool false]) (by kernel_rfl) (places := [(0, 1), (1, 1), (2, 1), (3, 1), (4, 1)]) (by kernel_rfl) (by kernel_rfl) g.w
theorem Z9d : Ext Tryz.prog 134 Extern.MathFloatBits.float64frombits := ⟨_, Tryz.func134, rfl, rfl, by kernel_rfl, by kernel_rfl⟩
theorem Z9j : Zp Tryz.prog 132 := by
 unfold Zp
 kernel_rfl
theorem Zmy : Zp Tryz.prog 100 := by
 unfold Zp
 kernel_rfl
theorem Zww : Ext Tryz.prog 97 Extern.MathFloatBits.float64bits := ⟨_, Tryz.func97, rfl, rfl, by kernel_rfl, by kernel_rfl⟩
theorem Zw4 : Zp Tryz.prog 89 := by
 unfold Zp
 kernel_rfl
theorem Z4m : Fld Tryz.prog 135 0 Zcx Kd.bool (fun x : Zb2 => x.text) := Fld.of ⟨_, Kd.bool, 0, fun x : Zb2 => x.text⟩ (List.mem_of_getElem? (i := 0) rfl) 0 rfl (by kernel_rfl) (by decide)
theorem ty_4 : Ty Tryz.prog 4 Kd.bool := ⟨by kernel_rfl, by kernel_rfl⟩
theorem Zkp : Fld Tryz.prog 38 6 Zh Kd.str (fun x : Zd => x.Text) := Fld.of ⟨_, Kd.str, 6, fun x : Zd => x.Text⟩ (List.mem_of_getElem? (i := 6) rfl) 6 rfl (by kernel_rfl) (by decide)
theorem ty_9 : Ty Tryz.prog 9 Kd.str := ⟨by kernel_rfl, by kernel_rfl⟩
theorem Z4k : Fld Tryz.prog 135 1 Zcx Kd.bool (fun x : Zb2 => x.num) := Fld.of ⟨_, Kd.bool, 1, fun x : Zb2 => x.num⟩ (List.mem_of_getElem? (i := 1) rfl) 1 rfl (by kernel_rfl) (by decide)
theorem Zem : Fld Tryz.prog 38 1 Zh (Kd.int .i64) (fun x : Zd => x.Num) := Fld.of ⟨_, (Kd.int .i64), 1, fun x : Zd => x.Num⟩ (List.mem_of_getElem? (i := 1) rfl) 1 rfl (by kernel_rfl) (by decide)
theorem ty_2 : Ty Tryz.prog 2 (Kd.int .i64) := ⟨by kernel_rfl, by kernel_rfl⟩
theorem Zyc : Fld Tryz.prog 135 2 Zcx Kd.bool (fun x : Zb2 => x.bounds) := Fld.of ⟨_, Kd.bool, 2, fun x : Zb2 => x.bounds⟩ (List.mem_of_getElem? (i := 2) rfl) 2 rfl (by kernel_rfl) (by decide)
theorem Zkj : Fld Tryz.prog 38 2 Zh (Kd.int .i64) (fun x : Zd => x.Low) := Fld.of ⟨_, (Kd.int .i64), 2, fun x : Zd => x.Low⟩ (List.mem_of_getElem? (i := 2) rfl) 2 rfl (by kernel_rfl) (by decide)
theorem Zkt : Fld Tryz.prog 38 3 Zh (Kd.int .i64) (fun x : Zd => x.High) := Fld.of ⟨_, (Kd.int .i64), 3, fun x : Zd => x.High⟩ (List.mem_of_getElem? (i := 3) rfl) 3 rfl (by kernel_rfl) (by decide)
theorem Z4v : Fld Tryz.prog 135 3 Zcx Kd.bool (fun x : Zb2 => x.real) := Fld.of ⟨_, Kd.bool, 3, fun x : Zb2 => x.real⟩ (List.mem_of_getElem? (i := 3) rfl) 3 rfl (by kernel_rfl) (by decide)
theorem Zlo : Fld Tryz.prog 38 4 Zh Kd.flt (fun x : Zd => x.Real) := Fld.of ⟨_, Kd.flt, 4, fun x : Zd => x.Real⟩ (List.mem_of_getElem? (i := 4) rfl) 4 rfl (by kernel_rfl) (by decide)
theorem Zfg : Ty Tryz.prog 35 Kd.flt := ⟨by kernel_rfl, by kernel_rfl⟩
theorem Zrx : Zp Tryz.prog 62 := by
 unfold Zp
 kernel_rfl
theorem Zyu : Fld Tryz.prog 135 4 Zcx Kd.bool (fun x : Zb2 => x.list) := Fld.of ⟨_, Kd.bool, 4, fun x : Zb2 => x.list⟩ (List.mem_of_getElem? (i := 4) rfl) 4 rfl (by kernel_rfl) (by decide)
theorem Zh7 : Fld Tryz.prog 38 5 Zh (Kd.int .i64) (fun x : Zd => x.Cap) := Fld.of ⟨_, (Kd.int .i64), 5, fun x : Zd => x.Cap⟩ (List.mem_of_getElem? (i := 5) rfl) 5 rfl (by kernel_rfl) (by decide)
theorem ty_3 : Ty Tryz.prog 3 (Kd.int .i64) := ⟨by kernel_rfl, by kernel_rfl⟩
theorem Zf4 : Fld Tryz.prog 116 0 Zx Kd.flt (fun x : Zj => x.Score) := Fld.of ⟨_, Kd.flt, 0, fun x : Zj => x.Score⟩ (List.mem_of_getElem? (i := 0) rfl) 0 rfl (by kernel_rfl) (by decide)
theorem Zxz : Zp Tryz.prog 133 := by
 unfold Zp
 kernel_rfl
theorem Zft : Fld Tryz.prog 116 1 Zx Kd.str (fun x : Zj => x.Name) := Fld.of ⟨_, Kd.str, 1, fun x : Zj => x.Name⟩ (List.mem_of_getElem? (i := 1) rfl) 1 rfl (by kernel_rfl) (by decide)
theorem Zil : (Tryz.prog.info? 116).map (·.size) = some Zx.sz := by kernel_rfl
theorem Ze1 : Ty Tryz.prog 116 Zx := ⟨by kernel_rfl, by kernel_rfl⟩
theorem Z02 : Zp Tryz.prog 77 := by
 unfold Zp
 kernel_rfl
theorem Zxs : Zp Tryz.prog 101 := by
 unfold Zp
 kernel_rfl
theorem Zgv : Fld Tryz.prog 38 0 Zh (Kd.int .i64) (fun x : Zd => x.Kind) := Fld.of ⟨_, (Kd.int .i64), 0, fun x : Zd => x.Kind⟩ (List.mem_of_getElem? (i := 0) rfl) 0 rfl (by kernel_rfl) (by decide)
theorem Z90 : Zp Tryz.prog 75 := by
 unfold Zp
 kernel_rfl
theorem Zba6 : Zp Tryz.prog 76 := by
 unfold Zp
 kernel_rfl
theorem Z94 : Zp Tryz.prog 78 := by
 unfold Zp
 kernel_rfl
theorem Z7t {N d : Nat} {o : Oper} {uses : Zbc}   (hop : o.op = .build 145 #[]) (hd : o.dst = some d)  : OB Tryz.prog N o uses [(d, Zef.pd { word := ByteArray.empty, on := (0 : Int), has := ByteArray.empty })] [] := by
 refine Zc5 hop hd fun a g hh => ?_
 refine ⟨.agg #[.string ByteArray.empty, .int .i64 0, .string ByteArray.empty], ?_, [.string ByteArray.empty, .int .i64 0, .string ByteArray.empty], ⟨rfl, (List.forall_mem_cons.2 ⟨(rfl), (List.forall_mem_cons.2 ⟨(rfl), (List.forall_mem_cons.2 ⟨(rfl), (fun _ h => by cases h)⟩)⟩)⟩)⟩, rfl⟩
 simp only [List.map_toArray, List.map_cons, List.map_nil, List.map_nil]
 exact Zcq Tryz.underlying145 (zero := .agg #[.string ByteArray.empty, .int .i64 0, .string ByteArray.empty]) (by kernel_rfl) (places := [(0, 1), (1, 1), (2, 1)]) (by kernel_rfl) (by kernel_rfl) g.w
theorem Zjs : Ty Tryz.prog 145 Zef := ⟨by kernel_rfl, by kernel_rfl⟩
theorem Z9g : (Tryz.prog.info? 145).map (·.size) = some Zef.sz := by kernel_rfl
theorem Z9w : Zp Tryz.prog 64 := by
 unfold Zp
 kernel_rfl
theorem Zbay : Zp Tryz.prog 63 := by
 unfold Zp
 kernel_rfl
theorem Zxg : Fld Tryz.prog 145 2 Zef Kd.str (fun x : Zc9 => x.has) := Fld.of ⟨_, Kd.str, 2, fun x : Zc9 => x.has⟩ (List.mem_of_getElem? (i := 2) rfl) 2 rfl (by kernel_rfl) (by decide)
theorem Ztc : Zp Tryz.prog 105 := by
 unfold Zp
 kernel_rfl
theorem Zhb : Fld Tryz.prog 40 2 Zy (Kd.int .i64) (fun x : Zs => x.N) := Fld.of ⟨_, (Kd.int .i64), 2, fun x : Zs => x.N⟩ (List.mem_of_getElem? (i := 2) rfl) 2 rfl (by kernel_rfl) (by decide)
theorem Zrl : Fld Tryz.prog 40 3 Zy Kd.flt (fun x : Zs => x.X) := Fld.of ⟨_, Kd.flt, 3, fun x : Zs => x.X⟩ (List.mem_of_getElem? (i := 3) rfl) 3 rfl (by kernel_rfl) (by decide)
theorem Zjy : Fld Tryz.prog 40 4 Zy Kd.str (fun x : Zs => x.S) := Fld.of ⟨_, Kd.str, 4, fun x : Zs => x.S⟩ (List.mem_of_getElem? (i := 4) rfl) 4 rfl (by kernel_rfl) (by decide)
theorem Zq9 {N d : Nat} {o : Oper} {uses : Zbc}   (hop : o.op = .build 38 #[]) (hd : o.dst = some d)  : OB Tryz.prog N o uses [(d, Zh.pd { Kind := (0 : Int), Num := (0 : Int), Low := (0 : Int), High := (0 : Int), Real := (0 : Nat), Cap := (0 : Int), Text := ByteArray.empty, List := ([] : List Zj) })] [] := by
 refine Zc5 hop hd fun a g hh => ?_
 refine ⟨.agg #[.int .i64 0, .int .i64 0, .int .i64 0, .int .i64 0, .float .f64 0, .int .i64 0, .string ByteArray.empty, .slice none 0 0], ?_, [.int .i64 0, .int .i64 0, .int .i64 0, .int .i64 0, .float .f64 0, .int .i64 0, .string ByteArray.empty, .slice none 0 0], ⟨rfl, (List.forall_mem_cons.2 ⟨(rfl), (List.forall_mem_cons.2 ⟨(rfl), (List.forall_mem_cons.2 ⟨(rfl), (List.forall_mem_cons.2 ⟨(rfl), (List.forall_mem_cons.2 ⟨(rfl), (List.forall_mem_cons.2 ⟨(rfl), (List.forall_mem_cons.2 ⟨(rfl), (List.forall_mem_cons.2 ⟨(⟨none, 0, rfl, Nat.le_refl _, Nat.zero_le _, .inl rfl⟩), (fun _ h => by cases h)⟩)⟩)⟩)⟩)⟩)⟩)⟩)⟩)⟩, rfl⟩
 simp only [List.map_toArray, List.map_cons, List.map_nil, List.map_nil]
 exact Zcq Tryz.underlying38 (zero := .agg #[.int .i64 0, .int .i64 0, .int .i64 0, .int .i64 0, .float .f64 0, .int .i64 0, .string ByteArray.empty, .slice none 0 0]) (by kernel_rfl) (places := [(0, 1), (1, 1), (2, 1), (3, 1), (4, 1), (5, 1), (6, 1), (7, 1)]) (by kernel_rfl) (by kernel_rfl) g.w
theorem Z5n : Zp Tryz.prog 42 := by
 unfold Zp
 kernel_rfl
theorem Zxd : Fld Tryz.prog 145 1 Zef (Kd.int .i64) (fun x : Zc9 => x.on) := Fld.of ⟨_, (Kd.int .i64), 1, fun x : Zc9 => x.on⟩ (List.mem_of_getElem? (i := 1) rfl) 1 rfl (by kernel_rfl) (by decide)
theorem Zg7 : Fld Tryz.prog 40 0 Zy (Kd.int .i64) (fun x : Zs => x.Kind) := Fld.of ⟨_, (Kd.int .i64), 0, fun x : Zs => x.Kind⟩ (List.mem_of_getElem? (i := 0) rfl) 0 rfl (by kernel_rfl) (by decide)
theorem Z5y : Zp Tryz.prog 85 := by
 unfold Zp
 kernel_rfl
theorem Z3t : Fld Tryz.prog 145 0 Zef Kd.str (fun x : Zc9 => x.word) := Fld.of ⟨_, Kd.str, 0, fun x : Zc9 => x.word⟩ (List.mem_of_getElem? (i := 0) rfl) 0 rfl (by kernel_rfl) (by decide)
theorem Zjw : Fld Tryz.prog 40 1 Zy Kd.str (fun x : Zs => x.Key) := Fld.of ⟨_, Kd.str, 1, fun x : Zs => x.Key⟩ (List.mem_of_getElem? (i := 1) rfl) 1 rfl (by kernel_rfl) (by decide)
theorem Zh2 : Ty Tryz.prog 40 Zy := ⟨by kernel_rfl, by kernel_rfl⟩
theorem Z98 : Zp Tryz.prog 86 := by
 unfold Zp
 kernel_rfl
theorem Zbau : Zp Tryz.prog 87 := by
 unfold Zp
 kernel_rfl
theorem Z0v : Zp Tryz.prog 51 := by
 unfold Zp
 kernel_rfl
theorem Z5o : Zp Tryz.prog 57 := by
 unfold Zp
 kernel_rfl
theorem Z45 : Zp Tryz.prog 34 := by
 unfold Zp
 kernel_rfl
theorem Zbar : Zp Tryz.prog 35 := by
 unfold Zp
 kernel_rfl
theorem Zbn : Ty Tryz.prog 30 Zw := ⟨by kernel_rfl, by kernel_rfl⟩
structure Zf3 where
 Code : Int
 At : Int
 Answers : SlV
def Ztm : List (Kd.FK Zf3) := [⟨_, (Kd.int .i64), 0, fun x : Zf3 => x.Code⟩,
 ⟨_, (Kd.int .i64), 1, fun x : Zf3 => x.At⟩,
 ⟨_, Kd.raw, 2, fun x : Zf3 => x.Answers⟩]
def Zbw : Kd Zf3 := Kd.struct 3 Ztm (by rfl)
def Zby (x : Z6) (s : SlV) : Zf3 := ⟨x.Code, x.At, s⟩
theorem Zto : ∀ g, Zbw.K g (Zby ((default : Z6)) (none, 0, 0)) [.int .i64 0, .int .i64 0, .slice none 0 0] := fun g => ⟨rfl, (List.forall_mem_cons.2 ⟨(rfl), (List.forall_mem_cons.2 ⟨(rfl), (List.forall_mem_cons.2 ⟨rfl, (fun _ h => by cases h)⟩)⟩)⟩)⟩
theorem Zub {x : Z6} {e j : Nat} : ∀ (g : G) (s : SlV) (cs : List Value), Zbw.K g (Zby x s) cs → (hpL (pRow Zn e j x.Answers)).p g s → Zcj.K g x cs := fun g s cs h hr => ⟨h.1, (List.forall_mem_cons.2 ⟨(h.2 _ (List.mem_of_getElem? (i := 0) rfl)), (List.forall_mem_cons.2 ⟨(h.2 _ (List.mem_of_getElem? (i := 1) rfl)), (List.forall_mem_cons.2 ⟨(Zyr (h.2 _ (List.mem_of_getElem? (i := 2) rfl)) hr.1), (fun _ h => by cases h)⟩)⟩)⟩)⟩
theorem Zug {x : Z6} {g : G} {cs ys : List Value} {s0 s1 : SlV} (hk : Zbw.K g (Zby x s0) cs) (hy : Kd.raw.K g s1 ys) : 2 + ys.length ≤ cs.length ∧ Zbw.K g (Zby x s1) (Z3 cs 2 ys) := by
 have hc : cs.length = 3 := hk.1
 have hl : ys.length = 1 := Kd.raw.len hy
 exact ⟨by omega, (Zc6 (by omega)).trans hc, (List.forall_mem_cons.2 ⟨(by show (Kd.int .i64).K g x.Code (seg (Z3 cs 2 ys) 0 1); rw [Z1 (by omega) (by omega)]; exact hk.2 _ (List.mem_of_getElem? (i := 0) rfl)), (List.forall_mem_cons.2 ⟨(by show (Kd.int .i64).K g x.At (seg (Z3 cs 2 ys) 1 1); rw [Z1 (by omega) (by omega)]; exact hk.2 _ (List.mem_of_getElem? (i := 1) rfl)), (List.forall_mem_cons.2 ⟨(by show Kd.raw.K g s1 (seg (Z3 cs 2 ys) 2 1); rw [Zdc (by omega) hl]; exact hy), (fun _ h => by cases h)⟩)⟩)⟩)⟩
theorem Zsq : Fld Tryz.prog 49 2 Zbw Kd.raw (fun x : Zf3 => x.Answers) := Fld.of ⟨_, Kd.raw, 2, fun x : Zf3 => x.Answers⟩ (List.mem_of_getElem? (i := 2) rfl) 2 rfl (by kernel_rfl) (by decide)
theorem Zok : Ty Tryz.prog 47 Kd.raw := ⟨by kernel_rfl, by kernel_rfl⟩
structure Zio where
 d : Zbg
 split : List ByteArray
 now : Zl
 out : Zf3
 over : Bool
def Zwk : List (Kd.FK Zio) := [⟨_, Zb8, 0, fun x : Zio => x.d⟩,
 ⟨_, Kd.str.sl, 1, fun x : Zio => x.split⟩,
 ⟨_, Zw, 2, fun x : Zio => x.now⟩,
 ⟨_, Zbw, 4, fun x : Zio => x.out⟩,
 ⟨_, Kd.bool, 7, fun x : Zio => x.over⟩]
def Zbf : Kd Zio := Kd.struct 8 Zwk (by rfl)
def Zbz (x : Zu) (s : SlV) : Zio := ⟨x.d, x.split, x.now, Zby x.out s, x.over⟩
abbrev Zda : Zu → List Zi := fun x => x.out.Answers
abbrev Zci : ObR Zu := obR Zbf Zbz Zda Zn 68
theorem Z2t : Ty Tryz.prog 49 Zbw := ⟨by kernel_rfl, by kernel_rfl⟩
theorem Zxp {x : Zu} {g : G} {s : SlV} {cs : List Value} (h : Zbf.K g (Zbz x s) cs) : Zy.sl.K g x.d.Acts (seg cs 0 1) := by
 have h1 : Zb8.K g x.d (seg cs 0 1) := h.2 _ (List.mem_of_getElem? (i := 0) rfl)
 have h2 : Zy.sl.K g x.d.Acts (seg (seg cs 0 1) 0 1) := h1.2 _ (List.mem_of_getElem? (i := 0) rfl)
 rwa [Zki (by decide)] at h2
theorem kp_1 {x : Zu} {g : G} {s : SlV} {cs : List Value} (h : Zbf.K g (Zbz x s) cs) : Kd.str.sl.K g x.split (seg cs 1 1) := h.2 _ (List.mem_of_getElem? (i := 1) rfl)
theorem kp_2 {x : Zu} {g : G} {s : SlV} {cs : List Value} (h : Zbf.K g (Zbz x s) cs) : Zw.K g x.now (seg cs 2 2) := h.2 _ (List.mem_of_getElem? (i := 2) rfl)
theorem Z2w {x : Zu} {g : G} {s : SlV} {cs : List Value} (h : Zbf.K g (Zbz x s) cs) : (Kd.int .i64).K g x.out.Code (seg cs 4 1) := by
 have h1 : Zbw.K g (Zby x.out s) (seg cs 4 3) := h.2 _ (List.mem_of_getElem? (i := 3) rfl)
 have h2 : (Kd.int .i64).K g x.out.Code (seg (seg cs 4 3) 0 1) := h1.2 _ (List.mem_of_getElem? (i := 0) rfl)
 rwa [Zki (by decide)] at h2
theorem Z79 {x : Zu} {g : G} {s : SlV} {cs : List Value} (h : Zbf.K g (Zbz x s) cs) : (Kd.int .i64).K g x.out.At (seg cs 5 1) := by
 have h1 : Zbw.K g (Zby x.out s) (seg cs 4 3) := h.2 _ (List.mem_of_getElem? (i := 3) rfl)
 have h2 : (Kd.int .i64).K g x.out.At (seg (seg cs 4 3) 1 1) := h1.2 _ (List.mem_of_getElem? (i := 1) rfl)
 rwa [Zki (by decide)] at h2
theorem Z16 {x : Zu} {g : G} {s : SlV} {cs : List Value} (h : Zbf.K g (Zbz x s) cs) : Kd.raw.K g s (seg cs 6 1) := by
 have h1 : Zbw.K g (Zby x.out s) (seg cs 4 3) := h.2 _ (List.mem_of_getElem? (i := 3) rfl)
 have h2 : Kd.raw.K g s (seg (seg cs 4 3) 2 1) := h1.2 _ (List.mem_of_getElem? (i := 2) rfl)
 rwa [Zki (by decide)] at h2
theorem kp_4 {x : Zu} {g : G} {s : SlV} {cs : List Value} (h : Zbf.K g (Zbz x s) cs) : Kd.bool.K g x.over (seg cs 7 1) := h.2 _ (List.mem_of_getElem? (i := 4) rfl)
theorem Z8w {jl : Nat} {x : Zu} {g : G} {s : SlV} {cs : List Value} (h : Zbf.K g (Zbz x s) cs) (hr : (hpL (pRow Zn 68 jl (Zda x))).p g s) : Zcj.K g x.out (seg cs 4 3) := Zub g s _ (h.2 _ (List.mem_of_getElem? (i := 3) rfl)) hr
theorem wp_2 {u : Zl} {ys : List Value} {x : Zu} {g : G} {s : SlV} {cs : List Value} (h : Zbf.K g (Zbz x s) cs) (hy : Zw.K g u ys) : 2 + ys.length ≤ cs.length ∧ Zbf.K g (Zbz { x with now := u } s) (Z3 cs 2 ys) := by
 have hc : cs.length = 8 := h.1
 have hl : ys.length = 2 := Zw.len hy
 exact ⟨by omega, (Zc6 (by omega)).trans hc, (List.forall_mem_cons.2 ⟨(by show Zb8.K g x.d (seg (Z3 cs 2 ys) 0 1); rw [Z1 (by omega) (by omega)]; exact h.2 _ (List.mem_of_getElem? (i := 0) rfl)), (List.forall_mem_cons.2 ⟨(by show Kd.str.sl.K g x.split (seg (Z3 cs 2 ys) 1 1); rw [Z1 (by omega) (by omega)]; exact h.2 _ (List.mem_of_getElem? (i := 1) rfl)), (List.forall_mem_cons.2 ⟨(by show Zw.K g u (seg (Z3 cs 2 ys) 2 2); rw [Zdc (by omega) hl]; exact hy), (List.forall_mem_cons.2 ⟨(by show Zbw.K g (Zby x.out s) (seg (Z3 cs 2 ys) 4 3); rw [Z1 (by omega) (by omega)]; exact h.2 _ (List.mem_of_getElem? (i := 3) rfl)), (List.forall_mem_cons.2 ⟨(by show Kd.bool.K g x.over (seg (Z3 cs 2 ys) 7 1); rw [Z1 (by omega) (by omega)]; exact h.2 _ (List.mem_of_getElem? (i := 4) rfl)), (fun _ h => by cases h)⟩)⟩)⟩)⟩)⟩)⟩
theorem wp_4 {u : Bool} {ys : List Value} {x : Zu} {g : G} {s : SlV} {cs : List Value} (h : Zbf.K g (Zbz x s) cs) (hy : Kd.bool.K g u ys) : 7 + ys.length ≤ cs.length ∧ Zbf.K g (Zbz { x with over := u } s) (Z3 cs 7 ys) := by
 have hc : cs.length = 8 := h.1
 have hl : ys.length = 1 := Kd.bool.len hy
 exact ⟨by omega, (Zc6 (by omega)).trans hc, (List.forall_mem_cons.2 ⟨(by show Zb8.K g x.d (seg (Z3 cs 7 ys) 0 1); rw [Z1 (by omega) (by omega)]; exact h.2 _ (List.mem_of_getElem? (i := 0) rfl)), (List.forall_mem_cons.2 ⟨(by show Kd.str.sl.K g x.split (seg (Z3 cs 7 ys) 1 1); rw [Z1 (by omega) (by omega)]; exact h.2 _ (List.mem_of_getElem? (i := 1) rfl)), (List.forall_mem_cons.2 ⟨(by show Zw.K g x.now (seg (Z3 cs 7 ys) 2 2); rw [Z1 (by omega) (by omega)]; exact h.2 _ (List.mem_of_getElem? (i := 2) rfl)), (List.forall_mem_cons.2 ⟨(by show Zbw.K g (Zby x.out s) (seg (Z3 cs 7 ys) 4 3); rw [Z1 (by omega) (by omega)]; exact h.2 _ (List.mem_of_getElem? (i := 3) rfl)), (List.forall_mem_cons.2 ⟨(by show Kd.bool.K g u (seg (Z3 cs 7 ys) 7 1); rw [Zdc (by omega) hl]; exact hy), (fun _ h => by cases h)⟩)⟩)⟩)⟩)⟩)⟩
theorem Z18 {u : Z6} {ys : List Value} {x : Zu} {g : G} {s : SlV} {cs : List Value} (h : Zbf.K g (Zbz x s) cs) (hy : Zbw.K g (Zby u (none, 0, 0)) ys) : 4 + ys.length ≤ cs.length ∧ Zbf.K g (Zbz { x with out := u } (none, 0, 0)) (Z3 cs 4 ys) := by
 have hc : cs.length = 8 := h.1
 have hl : ys.length = 3 := Zbw.len hy
 exact ⟨by omega, (Zc6 (by omega)).trans hc, (List.forall_mem_cons.2 ⟨(by show Zb8.K g x.d (seg (Z3 cs 4 ys) 0 1); rw [Z1 (by omega) (by omega)]; exact h.2 _ (List.mem_of_getElem? (i := 0) rfl)), (List.forall_mem_cons.2 ⟨(by show Kd.str.sl.K g x.split (seg (Z3 cs 4 ys) 1 1); rw [Z1 (by omega) (by omega)]; exact h.2 _ (List.mem_of_getElem? (i := 1) rfl)), (List.forall_mem_cons.2 ⟨(by show Zw.K g x.now (seg (Z3 cs 4 ys) 2 2); rw [Z1 (by omega) (by omega)]; exact h.2 _ (List.mem_of_getElem? (i := 2) rfl)), (List.forall_mem_cons.2 ⟨(by show Zbw.K g (Zby u (none, 0, 0)) (seg (Z3 cs 4 ys) 4 3); rw [Zdc (by omega) hl]; exact hy), (List.forall_mem_cons.2 ⟨(by show Kd.bool.K g x.over (seg (Z3 cs 4 ys) 7 1); rw [Z1 (by omega) (by omega)]; exact h.2 _ (List.mem_of_getElem? (i := 4) rfl)), (fun _ h => by cases h)⟩)⟩)⟩)⟩)⟩)⟩
theorem Z8o {l : List Zi} {s1 : SlV} {ys : List Value} {x : Zu} {g : G} {s : SlV} {cs : List Value} (h : Zbf.K g (Zbz x s) cs) (hy : Kd.raw.K g s1 ys) : 6 + ys.length ≤ cs.length ∧ Zbf.K g (Zbz { x with out := { x.out with Answers := l } } s1) (Z3 cs 6 ys) := by
 have hc : cs.length = 8 := h.1
 have hl : ys.length = 1 := Kd.raw.len hy
 exact ⟨by omega, (Zc6 (by omega)).trans hc, (List.forall_mem_cons.2 ⟨(by show Zb8.K g x.d (seg (Z3 cs 6 ys) 0 1); rw [Z1 (by omega) (by omega)]; exact h.2 _ (List.mem_of_getElem? (i := 0) rfl)), (List.forall_mem_cons.2 ⟨(by show Kd.str.sl.K g x.split (seg (Z3 cs 6 ys) 1 1); rw [Z1 (by omega) (by omega)]; exact h.2 _ (List.mem_of_getElem? (i := 1) rfl)), (List.forall_mem_cons.2 ⟨(by show Zw.K g x.now (seg (Z3 cs 6 ys) 2 2); rw [Z1 (by omega) (by omega)]; exact h.2 _ (List.mem_of_getElem? (i := 2) rfl)), (List.forall_mem_cons.2 ⟨(show Zbw.K g _ (seg (Z3 cs 6 ys) 4 3) from ⟨by simp only [seg, List.length_take, List.length_drop, Zc6 (show 6 + ys.length ≤ cs.length by omega)]; omega, (List.forall_mem_cons.2 ⟨(by show (Kd.int .i64).K g x.out.Code (seg (seg (Z3 cs 6 ys) 4 3) 0 1); rw [Zki (by decide), Z1 (by omega) (by omega)]; exact Z2w h), (List.forall_mem_cons.2 ⟨(by show (Kd.int .i64).K g x.out.At (seg (seg (Z3 cs 6 ys) 4 3) 1 1); rw [Zki (by decide), Z1 (by omega) (by omega)]; exact Z79 h), (List.forall_mem_cons.2 ⟨(by show Kd.raw.K g s1 (seg (seg (Z3 cs 6 ys) 4 3) 2 1); rw [Zki (by decide), Zdc (by omega) hl]; exact hy), (fun _ h => by cases h)⟩)⟩)⟩)⟩), (List.forall_mem_cons.2 ⟨(by show Kd.bool.K g x.over (seg (Z3 cs 6 ys) 7 1); rw [Z1 (by omega) (by omega)]; exact h.2 _ (List.mem_of_getElem? (i := 4) rfl)), (fun _ h => by cases h)⟩)⟩)⟩)⟩)⟩)⟩
theorem Zyb {N d : Nat} {o : Oper} {uses : Zbc} {x0 : Operand} {x1 : Operand} {x2 : Operand} {v0 : Zbg} {v1 : List ByteArray} {v2 : Zl} (hop : o.op = .build 93 #[(0, x0), (1, x1), (2, x2)]) (hd : o.dst = some d) (h0 : Opd uses x0 (Zb8.pd v0)) (h1 : Opd uses x1 (Kd.str.sl.pd v1)) (h2 : Opd uses x2 (Zw.pd v2)) : OB Tryz.prog N o uses [(d, Zbf.pd { d := v0, split := v1, now := v2, out := (Zby ((default : Z6)) (none, 0, 0)), over := false })] [] := by
 refine Zc5 hop hd fun a g hh => ?_
 obtain ⟨c0, k0, e0⟩ := h0 a g hh
 obtain ⟨u0_0, rfl⟩ := Z5c (Zb8.len k0)
 obtain ⟨c1, k1, e1⟩ := h1 a g hh
 obtain ⟨A1, n1, rfl, l1⟩ := k1
 obtain ⟨c2, k2, e2⟩ := h2 a g hh
 obtain ⟨u2_0, u2_1, rfl⟩ := Zky (Zw.len k2)
 refine ⟨.agg #[u0_0, .slice A1 v1.length n1, u2_0, u2_1, .int .i64 0, .int .i64 0, .slice none 0 0, .bool false], ?_, [u0_0, .slice A1 v1.length n1, u2_0, u2_1, .int .i64 0, .int .i64 0, .slice none 0 0, .bool false], ⟨rfl, (List.forall_mem_cons.2 ⟨k0, (List.forall_mem_cons.2 ⟨⟨A1, n1, rfl, l1⟩, (List.forall_mem_cons.2 ⟨k2, (List.forall_mem_cons.2 ⟨(Zto _), (List.forall_mem_cons.2 ⟨(rfl), (fun _ h => by cases h)⟩)⟩)⟩)⟩)⟩)⟩, rfl⟩
 simp only [List.map_toArray, List.map_cons, List.map_nil, e0, e1, e2]
 exact Zcq Tryz.underlying93 (zero := .agg #[.slice none 0 0, .slice none 0 0, .pointer none, .int .i64 0, .int .i64 0, .int .i64 0, .slice none 0 0, .bool false]) (by kernel_rfl) (places := [(0, 1), (1, 1), (2, 2), (4, 3), (7, 1)]) (by kernel_rfl) (by kernel_rfl) g.w
theorem Zbac : Zp Tryz.prog 36 := by
 unfold Zp
 kernel_rfl
theorem Ztp {N d : Nat} {o : Oper} {uses : Zbc} {x0 : Operand} {x1 : Operand} {v0 : Int} {v1 : Int} (hop : o.op = .build 49 #[(0, x0), (1, x1)]) (hd : o.dst = some d) (h0 : Opd uses x0 ((Kd.int .i64).pd v0)) (h1 : Opd uses x1 ((Kd.int .i64).pd v1)) : OB Tryz.prog N o uses [(d, Zbw.pd { Code := v0, At := v1, Answers := ((none, 0, 0) : SlV) })] [] := by
 refine Zc5 hop hd fun a g hh => ?_
 obtain ⟨c0, k0, e0⟩ := h0 a g hh
 obtain rfl := k0
 obtain ⟨c1, k1, e1⟩ := h1 a g hh
 obtain rfl := k1
 refine ⟨.agg #[.int .i64 v0, .int .i64 v1, .slice none 0 0], ?_, [.int .i64 v0, .int .i64 v1, .slice none 0 0], ⟨rfl, (List.forall_mem_cons.2 ⟨rfl, (List.forall_mem_cons.2 ⟨rfl, (List.forall_mem_cons.2 ⟨(rfl), (fun _ h => by cases h)⟩)⟩)⟩)⟩, rfl⟩
 simp only [List.map_toArray, List.map_cons, List.map_nil, e0, e1]
 exact Zcq Tryz.underlying49 (zero := .agg #[.int .i64 0, .int .i64 0, .slice none 0 0]) (by kernel_rfl) (places := [(0, 1), (1, 1), (2, 1)]) (by kernel_rfl) (by kernel_rfl) g.w
theorem Zme : PF Tryz.prog 93 3 4 := by
 unfold PF
 kernel_rfl
theorem Zmi : PF Tryz.prog 93 4 7 := by
 unfold PF
 kernel_rfl
theorem Zw1 : TE Tryz.prog 47 68 Zn 104 := TE.of Tryz.underlying47 (by kernel_rfl) (by decide) (by decide)
theorem Znn : Ty Tryz.prog 49 Zcj := ⟨by kernel_rfl, by kernel_rfl⟩
theorem Z5u : Ty Tryz.prog 47 Zn.sl := ⟨by kernel_rfl, by kernel_rfl⟩
theorem Z5l : (Tryz.prog.info? 68).map (·.size) = some Zn.sz := by kernel_rfl
theorem Zu6 : Fld Tryz.prog 49 2 Zcj Zn.sl (fun x : Z6 => x.Answers) := Fld.of ⟨_, Zn.sl, 2, fun x : Z6 => x.Answers⟩ (List.mem_of_getElem? (i := 2) rfl) 2 rfl (by kernel_rfl) (by decide)
theorem Zuq : Fld Tryz.prog 68 2 Zn Zh (fun x : Zi => x.Rec) := Fld.of ⟨_, Zh, 2, fun x : Zi => x.Rec⟩ (List.mem_of_getElem? (i := 2) rfl) 2 rfl (by kernel_rfl) (by decide)
theorem Zbaq : Zp Tryz.prog 58 := by
 unfold Zp
 kernel_rfl
theorem Zun : Z1w Zcj Zbw Zby := fun g x cs h => by
 obtain ⟨A, c, e, _⟩ := h.2 _ (List.mem_of_getElem? (i := 2) rfl)
 exact ⟨(A, x.Answers.length, c), h.1, (List.forall_mem_cons.2 ⟨(h.2 _ (List.mem_of_getElem? (i := 0) rfl)), (List.forall_mem_cons.2 ⟨(h.2 _ (List.mem_of_getElem? (i := 1) rfl)), (List.forall_mem_cons.2 ⟨e, (fun _ h => by cases h)⟩)⟩)⟩)⟩
theorem Zum : Z1l Zcj Zbw Zby (fun x : Z6 => x.Answers) Zn := fun g x s cs h hr => ⟨h.1, (List.forall_mem_cons.2 ⟨(h.2 _ (List.mem_of_getElem? (i := 0) rfl)), (List.forall_mem_cons.2 ⟨(h.2 _ (List.mem_of_getElem? (i := 1) rfl)), (List.forall_mem_cons.2 ⟨(Zyr (h.2 _ (List.mem_of_getElem? (i := 2) rfl)) hr), (fun _ h => by cases h)⟩)⟩)⟩)⟩
theorem Z8n : Ty Tryz.prog 49 Zbw := ⟨by kernel_rfl, by kernel_rfl⟩
theorem Zs5 (u : Zi) : ∀ (g : G) (cs ys : List Value), Zn.K g u cs → Zh.K g u.Rec ys → 0 + 2 + ys.length ≤ cs.length → Zn.K g u (Z3 cs (0 + 2) ys) := fun g cs ys hk hy _ => by
 have hc : cs.length = 10 := hk.1
 have hl : ys.length = 8 := Zh.len hy
 exact ⟨(Zc6 (by omega)).trans hc, (List.forall_mem_cons.2 ⟨(by show (Kd.int .i64).K g u.Code (seg (Z3 cs (0 + 2) ys) 0 1); rw [Nat.zero_add, Z1 (by omega) (by omega)]; exact hk.2 _ (List.mem_of_getElem? (i := 0) rfl)), (List.forall_mem_cons.2 ⟨(by show (Kd.int .i64).K g u.Num (seg (Z3 cs (0 + 2) ys) 1 1); rw [Nat.zero_add, Z1 (by omega) (by omega)]; exact hk.2 _ (List.mem_of_getElem? (i := 1) rfl)), (List.forall_mem_cons.2 ⟨(by show Zh.K g u.Rec (seg (Z3 cs (0 + 2) ys) 2 8); rw [Nat.zero_add, Zdc (by omega) hl]; exact hy), (fun _ h => by cases h)⟩)⟩)⟩)⟩
theorem Z8u {N d : Nat} {o : Oper} {uses : Zbc}   (hop : o.op = .build 49 #[]) (hd : o.dst = some d)  : OB Tryz.prog N o uses [(d, Zcj.pd { Code := (0 : Int), At := (0 : Int), Answers := ([] : List Zi) })] [] := by
 refine Zc5 hop hd fun a g hh => ?_
 refine ⟨.agg #[.int .i64 0, .int .i64 0, .slice none 0 0], ?_, [.int .i64 0, .int .i64 0, .slice none 0 0], ⟨rfl, (List.forall_mem_cons.2 ⟨(rfl), (List.forall_mem_cons.2 ⟨(rfl), (List.forall_mem_cons.2 ⟨(⟨none, 0, rfl, Nat.le_refl _, Nat.zero_le _, .inl rfl⟩), (fun _ h => by cases h)⟩)⟩)⟩)⟩, rfl⟩
 simp only [List.map_toArray, List.map_cons, List.map_nil, List.map_nil]
 exact Zcq Tryz.underlying49 (zero := .agg #[.int .i64 0, .int .i64 0, .slice none 0 0]) (by kernel_rfl) (places := [(0, 1), (1, 1), (2, 1)]) (by kernel_rfl) (by kernel_rfl) g.w
theorem Zba3 : Zp Tryz.prog 37 := by
 unfold Zp
 kernel_rfl
theorem Zpd : Fld Tryz.prog 30 0 Zw Z5 (fun x : Zl => x.top) := Fld.of ⟨_, Z5, 0, fun x : Zl => x.top⟩ (List.mem_of_getElem? (i := 0) rfl) 0 rfl (by kernel_rfl) (by decide)
theorem Zcz : Ty Tryz.prog 28 Z5 := ⟨by kernel_rfl, by kernel_rfl⟩
theorem Zep : Fld Tryz.prog 114 0 Zf7 Kd.str (fun x : shelf_node => x.key) := Fld.of ⟨_, Kd.str, 0, fun x : shelf_node => x.key⟩ (List.mem_of_getElem? (i := 0) rfl) 0 rfl (by kernel_rfl) (by decide)
theorem Zd7 : Fld Tryz.prog 114 2 Zf7 Z5 (fun x : shelf_node => x.left) := Fld.of ⟨_, Z5, 9, fun x : shelf_node => x.left⟩ (List.mem_of_getElem? (i := 2) rfl) 9 rfl (by kernel_rfl) (by decide)
theorem Zeq : Fld Tryz.prog 114 3 Zf7 Z5 (fun x : shelf_node => x.right) := Fld.of ⟨_, Z5, 10, fun x : shelf_node => x.right⟩ (List.mem_of_getElem? (i := 3) rfl) 10 rfl (by kernel_rfl) (by decide)
theorem Zgo : Fld Tryz.prog 114 1 Zf7 Zh (fun x : shelf_node => x.rec_) := Fld.of ⟨_, Zh, 1, fun x : shelf_node => x.rec_⟩ (List.mem_of_getElem? (i := 1) rfl) 1 rfl (by kernel_rfl) (by decide)
theorem Z3x : Fld Tryz.prog 114 4 Zf7 (Kd.int .i64) (fun x : shelf_node => x.size) := Fld.of ⟨_, (Kd.int .i64), 11, fun x : shelf_node => x.size⟩ (List.mem_of_getElem? (i := 4) rfl) 11 rfl (by kernel_rfl) (by decide)
theorem Zmp : Zp Tryz.prog 61 := by
 unfold Zp
 kernel_rfl
theorem Zsp {N d : Nat} {o : Oper} {uses : Zbc} {x0 : Operand} {x1 : Operand} {x2 : Operand} {x3 : Operand} {x4 : Operand} {v0 : ByteArray} {v1 : Zd} {v2 : shelf_nodeT} {v3 : shelf_nodeT} {v4 : Int} (hop : o.op = .build 114 #[(0, x0), (1, x1), (2, x2), (3, x3), (4, x4)]) (hd : o.dst = some d) (h0 : Opd uses x0 (Kd.str.pd v0)) (h1 : Opd uses x1 (Zh.pd v1)) (h2 : Opd uses x2 (Z5.pd v2)) (h3 : Opd uses x3 (Z5.pd v3)) (h4 : Opd uses x4 ((Kd.int .i64).pd v4)) : OB Tryz.prog N o uses [(d, Zf7.pd { key := v0, rec_ := v1, left := v2, right := v3, size := v4 })] [] := by
 refine Zc5 hop hd fun a g hh => ?_
 obtain ⟨c0, k0, e0⟩ := h0 a g hh
 obtain rfl := k0
 obtain ⟨c1, k1, e1⟩ := h1 a g hh
 obtain ⟨u1_0, u1_1, u1_2, u1_3, u1_4, u1_5, u1_6, u1_7, rfl⟩ := Z0s (Zh.len k1)
 obtain ⟨c2, k2, e2⟩ := h2 a g hh
 obtain ⟨p2, rfl, l2⟩ := k2
 obtain ⟨q2, rfl, _⟩ := shelf_nodeT.ptr l2
 obtain ⟨c3, k3, e3⟩ := h3 a g hh
 obtain ⟨p3, rfl, l3⟩ := k3
 obtain ⟨q3, rfl, _⟩ := shelf_nodeT.ptr l3
 obtain ⟨c4, k4, e4⟩ := h4 a g hh
 obtain rfl := k4
 refine ⟨.agg #[.string v0, u1_0, u1_1, u1_2, u1_3, u1_4, u1_5, u1_6, u1_7, .pointer q2, .pointer q3, .int .i64 v4], ?_, [.string v0, u1_0, u1_1, u1_2, u1_3, u1_4, u1_5, u1_6, u1_7, .pointer q2, .pointer q3, .int .i64 v4], ⟨rfl, (List.forall_mem_cons.2 ⟨rfl, (List.forall_mem_cons.2 ⟨k1, (List.forall_mem_cons.2 ⟨⟨.pointer q2, rfl, l2⟩, (List.forall_mem_cons.2 ⟨⟨.pointer q3, rfl, l3⟩, (List.forall_mem_cons.2 ⟨rfl, (fun _ h => by cases h)⟩)⟩)⟩)⟩)⟩)⟩, rfl⟩
 simp only [List.map_toArray, List.map_cons, List.map_nil, e0, e1, e2, e3, e4]
 exact Zcq Tryz.underlying114 (zero := .agg #[.string ByteArray.empty, .int .i64 0, .int .i64 0, .int .i64 0, .int .i64 0, .float .f64 0, .int .i64 0, .string ByteArray.empty, .slice none 0 0, .pointer none, .pointer none, .int .i64 0]) (by kernel_rfl) (places := [(0, 1), (1, 8), (9, 1), (10, 1), (11, 1)]) (by kernel_rfl) (by kernel_rfl) g.w
theorem Zuf : Zp Tryz.prog 102 := by
 unfold Zp
 kernel_rfl
theorem Zkw : Zp Tryz.prog 79 := by
 unfold Zp
 kernel_rfl
theorem Z0u : Zp Tryz.prog 52 := by
 unfold Zp
 kernel_rfl
theorem Zud : Zp Tryz.prog 80 := by
 unfold Zp
 kernel_rfl
theorem Zrv : Zp Tryz.prog 30 := by
 unfold Zp
 kernel_rfl
theorem Zwz : Zp Tryz.prog 40 := by
 unfold Zp
 kernel_rfl
theorem Zvc : Fld Tryz.prog 30 1 Zw (Kd.int .i64) (fun x : Zl => x.room) := Fld.of ⟨_, (Kd.int .i64), 1, fun x : Zl => x.room⟩ (List.mem_of_getElem? (i := 1) rfl) 1 rfl (by kernel_rfl) (by decide)
theorem Zvl {N d : Nat} {o : Oper} {uses : Zbc} {x0 : Operand} {x1 : Operand} {v0 : shelf_nodeT} {v1 : Int} (hop : o.op = .build 30 #[(0, x0), (1, x1)]) (hd : o.dst = some d) (h0 : Opd uses x0 (Z5.pd v0)) (h1 : Opd uses x1 ((Kd.int .i64).pd v1)) : OB Tryz.prog N o uses [(d, Zw.pd { top := v0, room := v1 })] [] := by
 refine Zc5 hop hd fun a g hh => ?_
 obtain ⟨c0, k0, e0⟩ := h0 a g hh
 obtain ⟨p0, rfl, l0⟩ := k0
 obtain ⟨q0, rfl, _⟩ := shelf_nodeT.ptr l0
 obtain ⟨c1, k1, e1⟩ := h1 a g hh
 obtain rfl := k1
 refine ⟨.agg #[.pointer q0, .int .i64 v1], ?_, [.pointer q0, .int .i64 v1], ⟨rfl, (List.forall_mem_cons.2 ⟨⟨.pointer q0, rfl, l0⟩, (List.forall_mem_cons.2 ⟨rfl, (fun _ h => by cases h)⟩)⟩)⟩, rfl⟩
 simp only [List.map_toArray, List.map_cons, List.map_nil, e0, e1]
 exact Zcq Tryz.underlying30 (zero := .agg #[.pointer none, .int .i64 0]) (by kernel_rfl) (places := [(0, 1), (1, 1)]) (by kernel_rfl) (by kernel_rfl) g.w
theorem sz_9 : (Tryz.prog.info? 9).map (·.size) = some Kd.str.sz := by kernel_rfl
theorem Z92 : Zp Tryz.prog 59 := by
 unfold Zp
 kernel_rfl
theorem Zwx : Zp Tryz.prog 60 := by
 unfold Zp
 kernel_rfl
theorem Zbao : Zp Tryz.prog 88 := by
 unfold Zp
 kernel_rfl
theorem Z6v : PF Tryz.prog 49 0 0 := by
 unfold PF
 kernel_rfl
theorem Zt4 : Ty Tryz.prog 46 (Kd.int .i64) := ⟨by kernel_rfl, by kernel_rfl⟩
theorem Zu1 : PF Tryz.prog 93 0 0 := by
 unfold PF
 kernel_rfl
theorem Zuj : PF Tryz.prog 25 0 0 := by
 unfold PF
 kernel_rfl
theorem Z0h : PF Tryz.prog 93 1 1 := by
 unfold PF
 kernel_rfl
theorem Z5s : Ty Tryz.prog 26 Kd.str.sl := ⟨by kernel_rfl, by kernel_rfl⟩
theorem Z5r : Zp Tryz.prog 38 := by
 unfold Zp
 kernel_rfl
theorem Z0t : Zp Tryz.prog 10 := by
 unfold Zp
 kernel_rfl
theorem Zrk : PF Tryz.prog 93 2 2 := by
 unfold PF
 kernel_rfl
theorem Z5b : Zp Tryz.prog 39 := by
 unfold Zp
 kernel_rfl
theorem Zw2 : Zp Tryz.prog 29 := by
 unfold Zp
 kernel_rfl
theorem Z0l {N d : Nat} {o : Oper} {uses : Zbc} {x0 : Operand} {v0 : List Zs} (hop : o.op = .build 25 #[(0, x0)]) (hd : o.dst = some d) (h0 : Opd uses x0 (Zy.sl.pd v0)) : OB Tryz.prog N o uses [(d, Zb8.pd { Acts := v0 })] [] := by
 refine Zc5 hop hd fun a g hh => ?_
 obtain ⟨c0, k0, e0⟩ := h0 a g hh
 obtain ⟨A0, n0, rfl, l0⟩ := k0
 refine ⟨.agg #[.slice A0 v0.length n0], ?_, [.slice A0 v0.length n0], ⟨rfl, (List.forall_mem_cons.2 ⟨⟨A0, n0, rfl, l0⟩, (fun _ h => by cases h)⟩)⟩, rfl⟩
 simp only [List.map_toArray, List.map_cons, List.map_nil, e0]
 exact Zcq Tryz.underlying25 (zero := .agg #[.slice none 0 0]) (by kernel_rfl) (places := [(0, 1)]) (by kernel_rfl) (by kernel_rfl) g.w
theorem Z52 : Zp Tryz.prog 41 := by
 unfold Zp
 kernel_rfl
theorem Zzv {c : Option Nat} {N j s : Nat} {o : Oper} {uses : Zbc} {x z : Operand} {v : Zd} {y0 y : ByteArray} {v0 : Zd} {t : Nat} (hT : Ty Tryz.prog t Kd.str) (hop : o.op = .store t x z) (hd : o.dst = none) (hs : Opd uses (.tmp s) (Zb3 c Zh j v)) (hx : Opd uses x (Zic Zh j v0 6 Kd.str y0)) (hz : Opd uses z (Kd.str.pd y)) : OB Tryz.prog N o uses [(s, Zb3 c Zh j { v with Text := y })] [j + 1] :=
 Zlq hT hop hd hs hx hz fun g cs ys hk hy => by
   have hc : cs.length = 8 := hk.1
   have hl : ys.length = 1 := Kd.str.len hy
   exact ⟨by omega, (Zc6 (by omega)).trans hc, (List.forall_mem_cons.2 ⟨(by show (Kd.int .i64).K g v.Kind (seg (Z3 cs 6 ys) 0 1); rw [Z1 (by omega) (by omega)]; exact hk.2 _ (List.mem_of_getElem? (i := 0) rfl)), (List.forall_mem_cons.2 ⟨(by show (Kd.int .i64).K g v.Num (seg (Z3 cs 6 ys) 1 1); rw [Z1 (by omega) (by omega)]; exact hk.2 _ (List.mem_of_getElem? (i := 1) rfl)), (List.forall_mem_cons.2 ⟨(by show (Kd.int .i64).K g v.Low (seg (Z3 cs 6 ys) 2 1); rw [Z1 (by omega) (by omega)]; exact hk.2 _ (List.mem_of_getElem? (i := 2) rfl)), (List.forall_mem_cons.2 ⟨(by show (Kd.int .i64).K g v.High (seg (Z3 cs 6 ys) 3 1); rw [Z1 (by omega) (by omega)]; exact hk.2 _ (List.mem_of_getElem? (i := 3) rfl)), (List.forall_mem_cons.2 ⟨(by show Kd.flt.K g v.Real (seg (Z3 cs 6 ys) 4 1); rw [Z1 (by omega) (by omega)]; exact hk.2 _ (List.mem_of_getElem? (i := 4) rfl)), (List.forall_mem_cons.2 ⟨(by show (Kd.int .i64).K g v.Cap (seg (Z3 cs 6 ys) 5 1); rw [Z1 (by omega) (by omega)]; exact hk.2 _ (List.mem_of_getElem? (i := 5) rfl)), (List.forall_mem_cons.2 ⟨(by show Kd.str.K g y (seg (Z3 cs 6 ys) 6 1); rw [Zdc (by omega) hl]; exact hy), (List.forall_mem_cons.2 ⟨(by show Zx.sl.K g v.List (seg (Z3 cs 6 ys) 7 1); rw [Z1 (by omega) (by omega)]; exact hk.2 _ (List.mem_of_getElem? (i := 7) rfl)), (fun _ h => by cases h)⟩)⟩)⟩)⟩)⟩)⟩)⟩)⟩)⟩
theorem Z54 {c : Option Nat} {N j s : Nat} {o : Oper} {uses : Zbc} {x z : Operand} {v : Zi} {y0 y : Zd} {v0 : Zi} {t : Nat} (hT : Ty Tryz.prog t Zh) (hop : o.op = .store t x z) (hd : o.dst = none) (hs : Opd uses (.tmp s) (Zb3 c Zn j v)) (hx : Opd uses x (Zic Zn j v0 2 Zh y0)) (hz : Opd uses z (Zh.pd y)) : OB Tryz.prog N o uses [(s, Zb3 c Zn j { v with Rec := y })] [j + 1] :=
 Zlq hT hop hd hs hx hz fun g cs ys hk hy => by
   have hc : cs.length = 10 := hk.1
   have hl : ys.length = 8 := Zh.len hy
   exact ⟨by omega, (Zc6 (by omega)).trans hc, (List.forall_mem_cons.2 ⟨(by show (Kd.int .i64).K g v.Code (seg (Z3 cs 2 ys) 0 1); rw [Z1 (by omega) (by omega)]; exact hk.2 _ (List.mem_of_getElem? (i := 0) rfl)), (List.forall_mem_cons.2 ⟨(by show (Kd.int .i64).K g v.Num (seg (Z3 cs 2 ys) 1 1); rw [Z1 (by omega) (by omega)]; exact hk.2 _ (List.mem_of_getElem? (i := 1) rfl)), (List.forall_mem_cons.2 ⟨(by show Zh.K g y (seg (Z3 cs 2 ys) 2 8); rw [Zdc (by omega) hl]; exact hy), (fun _ h => by cases h)⟩)⟩)⟩)⟩
theorem Zrn {c : Option Nat} {N j s : Nat} {o : Oper} {uses : Zbc} {x z : Operand} {v : Zd} {y0 y : Int} {v0 : Zd} {t : Nat} (hT : Ty Tryz.prog t (Kd.int .i64)) (hop : o.op = .store t x z) (hd : o.dst = none) (hs : Opd uses (.tmp s) (Zb3 c Zh j v)) (hx : Opd uses x (Zic Zh j v0 1 (Kd.int .i64) y0)) (hz : Opd uses z ((Kd.int .i64).pd y)) : OB Tryz.prog N o uses [(s, Zb3 c Zh j { v with Num := y })] [j + 1] :=
 Zlq hT hop hd hs hx hz fun g cs ys hk hy => by
   have hc : cs.length = 8 := hk.1
   have hl : ys.length = 1 := (Kd.int .i64).len hy
   exact ⟨by omega, (Zc6 (by omega)).trans hc, (List.forall_mem_cons.2 ⟨(by show (Kd.int .i64).K g v.Kind (seg (Z3 cs 1 ys) 0 1); rw [Z1 (by omega) (by omega)]; exact hk.2 _ (List.mem_of_getElem? (i := 0) rfl)), (List.forall_mem_cons.2 ⟨(by show (Kd.int .i64).K g y (seg (Z3 cs 1 ys) 1 1); rw [Zdc (by omega) hl]; exact hy), (List.forall_mem_cons.2 ⟨(by show (Kd.int .i64).K g v.Low (seg (Z3 cs 1 ys) 2 1); rw [Z1 (by omega) (by omega)]; exact hk.2 _ (List.mem_of_getElem? (i := 2) rfl)), (List.forall_mem_cons.2 ⟨(by show (Kd.int .i64).K g v.High (seg (Z3 cs 1 ys) 3 1); rw [Z1 (by omega) (by omega)]; exact hk.2 _ (List.mem_of_getElem? (i := 3) rfl)), (List.forall_mem_cons.2 ⟨(by show Kd.flt.K g v.Real (seg (Z3 cs 1 ys) 4 1); rw [Z1 (by omega) (by omega)]; exact hk.2 _ (List.mem_of_getElem? (i := 4) rfl)), (List.forall_mem_cons.2 ⟨(by show (Kd.int .i64).K g v.Cap (seg (Z3 cs 1 ys) 5 1); rw [Z1 (by omega) (by omega)]; exact hk.2 _ (List.mem_of_getElem? (i := 5) rfl)), (List.forall_mem_cons.2 ⟨(by show Kd.str.K g v.Text (seg (Z3 cs 1 ys) 6 1); rw [Z1 (by omega) (by omega)]; exact hk.2 _ (List.mem_of_getElem? (i := 6) rfl)), (List.forall_mem_cons.2 ⟨(by show Zx.sl.K g v.List (seg (Z3 cs 1 ys) 7 1); rw [Z1 (by omega) (by omega)]; exact hk.2 _ (List.mem_of_getElem? (i := 7) rfl)), (fun _ h => by cases h)⟩)⟩)⟩)⟩)⟩)⟩)⟩)⟩)⟩
theorem Z6y {c : Option Nat} {N j s : Nat} {o : Oper} {uses : Zbc} {x z : Operand} {v : Zd} {y0 y : Nat} {v0 : Zd} {t : Nat} (hT : Ty Tryz.prog t Kd.flt) (hop : o.op = .store t x z) (hd : o.dst = none) (hs : Opd uses (.tmp s) (Zb3 c Zh j v)) (hx : Opd uses x (Zic Zh j v0 4 Kd.flt y0)) (hz : Opd uses z (Kd.flt.pd y)) : OB Tryz.prog N o uses [(s, Zb3 c Zh j { v with Real := y })] [j + 1] :=
 Zlq hT hop hd hs hx hz fun g cs ys hk hy => by
   have hc : cs.length = 8 := hk.1
   have hl : ys.length = 1 := Kd.flt.len hy
   exact ⟨by omega, (Zc6 (by omega)).trans hc, (List.forall_mem_cons.2 ⟨(by show (Kd.int .i64).K g v.Kind (seg (Z3 cs 4 ys) 0 1); rw [Z1 (by omega) (by omega)]; exact hk.2 _ (List.mem_of_getElem? (i := 0) rfl)), (List.forall_mem_cons.2 ⟨(by show (Kd.int .i64).K g v.Num (seg (Z3 cs 4 ys) 1 1); rw [Z1 (by omega) (by omega)]; exact hk.2 _ (List.mem_of_getElem? (i := 1) rfl)), (List.forall_mem_cons.2 ⟨(by show (Kd.int .i64).K g v.Low (seg (Z3 cs 4 ys) 2 1); rw [Z1 (by omega) (by omega)]; exact hk.2 _ (List.mem_of_getElem? (i := 2) rfl)), (List.forall_mem_cons.2 ⟨(by show (Kd.int .i64).K g v.High (seg (Z3 cs 4 ys) 3 1); rw [Z1 (by omega) (by omega)]; exact hk.2 _ (List.mem_of_getElem? (i := 3) rfl)), (List.forall_mem_cons.2 ⟨(by show Kd.flt.K g y (seg (Z3 cs 4 ys) 4 1); rw [Zdc (by omega) hl]; exact hy), (List.forall_mem_cons.2 ⟨(by show (Kd.int .i64).K g v.Cap (seg (Z3 cs 4 ys) 5 1); rw [Z1 (by omega) (by omega)]; exact hk.2 _ (List.mem_of_getElem? (i := 5) rfl)), (List.forall_mem_cons.2 ⟨(by show Kd.str.K g v.Text (seg (Z3 cs 4 ys) 6 1); rw [Z1 (by omega) (by omega)]; exact hk.2 _ (List.mem_of_getElem? (i := 6) rfl)), (List.forall_mem_cons.2 ⟨(by show Zx.sl.K g v.List (seg (Z3 cs 4 ys) 7 1); rw [Z1 (by omega) (by omega)]; exact hk.2 _ (List.mem_of_getElem? (i := 7) rfl)), (fun _ h => by cases h)⟩)⟩)⟩)⟩)⟩)⟩)⟩)⟩)⟩
theorem Zqn : Zp Tryz.prog 135 := by
 unfold Zp
 kernel_rfl
theorem Z7h : Ty Tryz.prog 167 Kd.fnc := ⟨by kernel_rfl, by kernel_rfl⟩
theorem Z81 : Zp Tryz.prog 138 := by
 unfold Zp
 kernel_rfl
theorem Z8i : Zp Tryz.prog 137 := by
 unfold Zp
 kernel_rfl
theorem Z88 : Ext Tryz.prog 139 (Extern.SlicesOverlaps.overlaps #[36, 36] #[4]) := ⟨_, Tryz.func139, rfl, rfl, by kernel_rfl, by kernel_rfl⟩
theorem Zyh : Zp Tryz.prog 128 := by
 unfold Zp
 kernel_rfl
theorem Z3u {N d : Nat} {o : Oper} {uses : Zbc} {x1 : Operand} {v1 : ByteArray} (hop : o.op = .build 116 #[(1, x1)]) (hd : o.dst = some d) (h1 : Opd uses x1 (Kd.str.pd v1)) : OB Tryz.prog N o uses [(d, Zx.pd { Score := (0 : Nat), Name := v1 })] [] := by
 refine Zc5 hop hd fun a g hh => ?_
 obtain ⟨c1, k1, e1⟩ := h1 a g hh
 obtain rfl := k1
 refine ⟨.agg #[.float .f64 0, .string v1], ?_, [.float .f64 0, .string v1], ⟨rfl, (List.forall_mem_cons.2 ⟨(rfl), (List.forall_mem_cons.2 ⟨rfl, (fun _ h => by cases h)⟩)⟩)⟩, rfl⟩
 simp only [List.map_toArray, List.map_cons, List.map_nil, e1]
 exact Zcq Tryz.underlying116 (zero := .agg #[.float .f64 0, .string ByteArray.empty]) (by kernel_rfl) (places := [(0, 1), (1, 1)]) (by kernel_rfl) (by kernel_rfl) g.w
theorem Z10 : Zp Tryz.prog 136 := by
 unfold Zp
 kernel_rfl
theorem Z9m : Zp Tryz.prog 129 := by
 unfold Zp
 kernel_rfl
theorem Z06 {N d : Nat} {o : Oper} {uses : Zbc} {x0 : Operand} {x1 : Operand} {v0 : Nat} {v1 : ByteArray} (hop : o.op = .build 116 #[(0, x0), (1, x1)]) (hd : o.dst = some d) (h0 : Opd uses x0 (Kd.flt.pd v0)) (h1 : Opd uses x1 (Kd.str.pd v1)) : OB Tryz.prog N o uses [(d, Zx.pd { Score := v0, Name := v1 })] [] := by
 refine Zc5 hop hd fun a g hh => ?_
 obtain ⟨c0, k0, e0⟩ := h0 a g hh
 obtain rfl := k0
 obtain ⟨c1, k1, e1⟩ := h1 a g hh
 obtain rfl := k1
 refine ⟨.agg #[.float .f64 v0, .string v1], ?_, [.float .f64 v0, .string v1], ⟨rfl, (List.forall_mem_cons.2 ⟨rfl, (List.forall_mem_cons.2 ⟨rfl, (fun _ h => by cases h)⟩)⟩)⟩, rfl⟩
 simp only [List.map_toArray, List.map_cons, List.map_nil, e0, e1]
 exact Zcq Tryz.underlying116 (zero := .agg #[.float .f64 0, .string ByteArray.empty]) (by kernel_rfl) (places := [(0, 1), (1, 1)]) (by kernel_rfl) (by kernel_rfl) g.w
theorem Z8h : Zp Tryz.prog 113 := by
 unfold Zp
 kernel_rfl
theorem Z8x : Zp Tryz.prog 114 := by
 unfold Zp
 kernel_rfl
theorem Z9h : Zp Tryz.prog 115 := by
 unfold Zp
 kernel_rfl
theorem Z9f : Zp Tryz.prog 116 := by
 unfold Zp
 kernel_rfl
theorem Z2j : Zp Tryz.prog 117 := by
 unfold Zp
 kernel_rfl
theorem Z7w : Zp Tryz.prog 118 := by
 unfold Zp
 kernel_rfl
theorem Z85 : Zp Tryz.prog 119 := by
 unfold Zp
 kernel_rfl
theorem Z7x : Zp Tryz.prog 121 := by
 unfold Zp
 kernel_rfl
theorem Z8k : Zp Tryz.prog 122 := by
 unfold Zp
 kernel_rfl
theorem Z8r : Zp Tryz.prog 123 := by
 unfold Zp
 kernel_rfl
theorem Z8e : Zp Tryz.prog 124 := by
 unfold Zp
 kernel_rfl
theorem Z8a : Zp Tryz.prog 125 := by
 unfold Zp
 kernel_rfl
theorem Z9n : Zp Tryz.prog 126 := by
 unfold Zp
 kernel_rfl
theorem Z83 : Zp Tryz.prog 127 := by
 unfold Zp
 kernel_rfl
theorem Z9a : Zp Tryz.prog 130 := by
 unfold Zp
 kernel_rfl
theorem Z75 : Zp Tryz.prog 131 := by
 unfold Zp
 kernel_rfl
theorem Zqj : Zp Tryz.prog 120 := by
 unfold Zp
 kernel_rfl
theorem Zu7 {N d : Nat} {o : Oper} {uses : Zbc} {x0 : Operand} {v0 : Int} (hop : o.op = .build 68 #[(0, x0)]) (hd : o.dst = some d) (h0 : Opd uses x0 ((Kd.int .i64).pd v0)) : OB Tryz.prog N o uses [(d, Zn.pd { Code := v0, Num := (0 : Int), Rec := (default : Zd) })] [] := by
 refine Zc5 hop hd fun a g hh => ?_
 obtain ⟨c0, k0, e0⟩ := h0 a g hh
 obtain rfl := k0
 refine ⟨.agg #[.int .i64 v0, .int .i64 0, .int .i64 0, .int .i64 0, .int .i64 0, .int .i64 0, .float .f64 0, .int .i64 0, .string ByteArray.empty, .slice none 0 0], ?_, [.int .i64 v0, .int .i64 0, .int .i64 0, .int .i64 0, .int .i64 0, .int .i64 0, .float .f64 0, .int .i64 0, .string ByteArray.empty, .slice none 0 0], ⟨rfl, (List.forall_mem_cons.2 ⟨rfl, (List.forall_mem_cons.2 ⟨(rfl), (List.forall_mem_cons.2 ⟨(Zcd _), (fun _ h => by cases h)⟩)⟩)⟩)⟩, rfl⟩
 simp only [List.map_toArray, List.map_cons, List.map_nil, e0]
 exact Zcq Tryz.underlying68 (zero := .agg #[.int .i64 0, .int .i64 0, .int .i64 0, .int .i64 0, .int .i64 0, .int .i64 0, .float .f64 0, .int .i64 0, .string ByteArray.empty, .slice none 0 0]) (by kernel_rfl) (places := [(0, 1), (1, 1), (2, 8)]) (by kernel_rfl) (by kernel_rfl) g.w
theorem Zdn : Ty Tryz.prog 68 Zn := ⟨by kernel_rfl, by kernel_rfl⟩
theorem Ztw : Zp Tryz.prog 92 := by
 unfold Zp
 kernel_rfl
theorem Z23 {N d : Nat} {o : Oper} {uses : Zbc}   (hop : o.op = .build 68 #[]) (hd : o.dst = some d)  : OB Tryz.prog N o uses [(d, Zn.pd { Code := (0 : Int), Num := (0 : Int), Rec := (default : Zd) })] [] := by
 refine Zc5 hop hd fun a g hh => ?_
 refine ⟨.agg #[.int .i64 0, .int .i64 0, .int .i64 0, .int .i64 0, .int .i64 0, .int .i64 0, .float .f64 0, .int .i64 0, .string ByteArray.empty, .slice none 0 0], ?_, [.int .i64 0, .int .i64 0, .int .i64 0, .int .i64 0, .int .i64 0, .int .i64 0, .float .f64 0, .int .i64 0, .string ByteArray.empty, .slice none 0 0], ⟨rfl, (List.forall_mem_cons.2 ⟨(rfl), (List.forall_mem_cons.2 ⟨(rfl), (List.forall_mem_cons.2 ⟨(Zcd _), (fun _ h => by cases h)⟩)⟩)⟩)⟩, rfl⟩
 simp only [List.map_toArray, List.map_cons, List.map_nil, List.map_nil]
 exact Zcq Tryz.underlying68 (zero := .agg #[.int .i64 0, .int .i64 0, .int .i64 0, .int .i64 0, .int .i64 0, .int .i64 0, .float .f64 0, .int .i64 0, .string ByteArray.empty, .slice none 0 0]) (by kernel_rfl) (places := [(0, 1), (1, 1), (2, 8)]) (by kernel_rfl) (by kernel_rfl) g.w
theorem Z65 {N d : Nat} {o : Oper} {uses : Zbc} {x1 : Operand} {v1 : Int} (hop : o.op = .build 68 #[(1, x1)]) (hd : o.dst = some d) (h1 : Opd uses x1 ((Kd.int .i64).pd v1)) : OB Tryz.prog N o uses [(d, Zn.pd { Code := (0 : Int), Num := v1, Rec := (default : Zd) })] [] := by
 refine Zc5 hop hd fun a g hh => ?_
 obtain ⟨c1, k1, e1⟩ := h1 a g hh
 obtain rfl := k1
 refine ⟨.agg #[.int .i64 0, .int .i64 v1, .int .i64 0, .int .i64 0, .int .i64 0, .int .i64 0, .float .f64 0, .int .i64 0, .string ByteArray.empty, .slice none 0 0], ?_, [.int .i64 0, .int .i64 v1, .int .i64 0, .int .i64 0, .int .i64 0, .int .i64 0, .float .f64 0, .int .i64 0, .string ByteArray.empty, .slice none 0 0], ⟨rfl, (List.forall_mem_cons.2 ⟨(rfl), (List.forall_mem_cons.2 ⟨rfl, (List.forall_mem_cons.2 ⟨(Zcd _), (fun _ h => by cases h)⟩)⟩)⟩)⟩, rfl⟩
 simp only [List.map_toArray, List.map_cons, List.map_nil, e1]
 exact Zcq Tryz.underlying68 (zero := .agg #[.int .i64 0, .int .i64 0, .int .i64 0, .int .i64 0, .int .i64 0, .int .i64 0, .float .f64 0, .int .i64 0, .string ByteArray.empty, .slice none 0 0]) (by kernel_rfl) (places := [(0, 1), (1, 1), (2, 8)]) (by kernel_rfl) (by kernel_rfl) g.w
theorem Z63 {N d : Nat} {o : Oper} {uses : Zbc} {x2 : Operand} {v2 : Zd} (hop : o.op = .build 68 #[(2, x2)]) (hd : o.dst = some d) (h2 : Opd uses x2 (Zh.pd v2)) : OB Tryz.prog N o uses [(d, Zn.pd { Code := (0 : Int), Num := (0 : Int), Rec := v2 })] [] := by
 refine Zc5 hop hd fun a g hh => ?_
 obtain ⟨c2, k2, e2⟩ := h2 a g hh
 obtain ⟨u2_0, u2_1, u2_2, u2_3, u2_4, u2_5, u2_6, u2_7, rfl⟩ := Z0s (Zh.len k2)
 refine ⟨.agg #[.int .i64 0, .int .i64 0, u2_0, u2_1, u2_2, u2_3, u2_4, u2_5, u2_6, u2_7], ?_, [.int .i64 0, .int .i64 0, u2_0, u2_1, u2_2, u2_3, u2_4, u2_5, u2_6, u2_7], ⟨rfl, (List.forall_mem_cons.2 ⟨(rfl), (List.forall_mem_cons.2 ⟨(rfl), (List.forall_mem_cons.2 ⟨k2, (fun _ h => by cases h)⟩)⟩)⟩)⟩, rfl⟩
 simp only [List.map_toArray, List.map_cons, List.map_nil, e2]
 exact Zcq Tryz.underlying68 (zero := .agg #[.int .i64 0, .int .i64 0, .int .i64 0, .int .i64 0, .int .i64 0, .int .i64 0, .float .f64 0, .int .i64 0, .string ByteArray.empty, .slice none 0 0]) (by kernel_rfl) (places := [(0, 1), (1, 1), (2, 8)]) (by kernel_rfl) (by kernel_rfl) g.w
theorem Z91 : Zp Tryz.prog 93 := by
 unfold Zp
 kernel_rfl
theorem Zbaa : Zp Tryz.prog 94 := by
 unfold Zp
 kernel_rfl
theorem Zbad : Zp Tryz.prog 68 := by
 unfold Zp
 kernel_rfl
theorem Zur : Fld Tryz.prog 68 0 Zn (Kd.int .i64) (fun x : Zi => x.Code) := Fld.of ⟨_, (Kd.int .i64), 0, fun x : Zi => x.Code⟩ (List.mem_of_getElem? (i := 0) rfl) 0 rfl (by kernel_rfl) (by decide)
theorem Zu5 : PF Tryz.prog 49 2 2 := by
 unfold PF
 kernel_rfl
theorem Zbat : Zp Tryz.prog 44 := by
 unfold Zp
 kernel_rfl
theorem Z6e : Fld Tryz.prog 40 6 Zy Kd.bool (fun x : Zs => x.Must) := Fld.of ⟨_, Kd.bool, 13, fun x : Zs => x.Must⟩ (List.mem_of_getElem? (i := 6) rfl) 13 rfl (by kernel_rfl) (by decide)
theorem Z8c {N d : Nat} {o : Oper} {uses : Zbc}   (hop : o.op = .build 30 #[]) (hd : o.dst = some d)  : OB Tryz.prog N o uses [(d, Zw.pd { top := shelf_nodeT.nil, room := (0 : Int) })] [] := by
 refine Zc5 hop hd fun a g hh => ?_
 refine ⟨.agg #[.pointer none, .int .i64 0], ?_, [.pointer none, .int .i64 0], ⟨rfl, (List.forall_mem_cons.2 ⟨(Zk2 _), (List.forall_mem_cons.2 ⟨(rfl), (fun _ h => by cases h)⟩)⟩)⟩, rfl⟩
 simp only [List.map_toArray, List.map_cons, List.map_nil, List.map_nil]
 exact Zcq Tryz.underlying30 (zero := .agg #[.pointer none, .int .i64 0]) (by kernel_rfl) (places := [(0, 1), (1, 1)]) (by kernel_rfl) (by kernel_rfl) g.w
theorem Z7k {N d : Nat} {o : Oper} {uses : Zbc} {x1 : Operand} {v1 : Int} (hop : o.op = .build 30 #[(1, x1)]) (hd : o.dst = some d) (h1 : Opd uses x1 ((Kd.int .i64).pd v1)) : OB Tryz.prog N o uses [(d, Zw.pd { top := shelf_nodeT.nil, room := v1 })] [] := by
 refine Zc5 hop hd fun a g hh => ?_
 obtain ⟨c1, k1, e1⟩ := h1 a g hh
 obtain rfl := k1
 refine ⟨.agg #[.pointer none, .int .i64 v1], ?_, [.pointer none, .int .i64 v1], ⟨rfl, (List.forall_mem_cons.2 ⟨(Zk2 _), (List.forall_mem_cons.2 ⟨rfl, (fun _ h => by cases h)⟩)⟩)⟩, rfl⟩
 simp only [List.map_toArray, List.map_cons, List.map_nil, e1]
 exact Zcq Tryz.underlying30 (zero := .agg #[.pointer none, .int .i64 0]) (by kernel_rfl) (places := [(0, 1), (1, 1)]) (by kernel_rfl) (by kernel_rfl) g.w
theorem Z47 : Zp Tryz.prog 28 := by
 unfold Zp
 kernel_rfl
theorem Z2p {N d : Nat} {o : Oper} {uses : Zbc} {x0 : Operand} {x1 : Operand} {v0 : Int} {v1 : Int} (hop : o.op = .build 38 #[(0, x0), (1, x1)]) (hd : o.dst = some d) (h0 : Opd uses x0 ((Kd.int .i64).pd v0)) (h1 : Opd uses x1 ((Kd.int .i64).pd v1)) : OB Tryz.prog N o uses [(d, Zh.pd { Kind := v0, Num := v1, Low := (0 : Int), High := (0 : Int), Real := (0 : Nat), Cap := (0 : Int), Text := ByteArray.empty, List := ([] : List Zj) })] [] := by
 refine Zc5 hop hd fun a g hh => ?_
 obtain ⟨c0, k0, e0⟩ := h0 a g hh
 obtain rfl := k0
 obtain ⟨c1, k1, e1⟩ := h1 a g hh
 obtain rfl := k1
 refine ⟨.agg #[.int .i64 v0, .int .i64 v1, .int .i64 0, .int .i64 0, .float .f64 0, .int .i64 0, .string ByteArray.empty, .slice none 0 0], ?_, [.int .i64 v0, .int .i64 v1, .int .i64 0, .int .i64 0, .float .f64 0, .int .i64 0, .string ByteArray.empty, .slice none 0 0], ⟨rfl, (List.forall_mem_cons.2 ⟨rfl, (List.forall_mem_cons.2 ⟨rfl, (List.forall_mem_cons.2 ⟨(rfl), (List.forall_mem_cons.2 ⟨(rfl), (List.forall_mem_cons.2 ⟨(rfl), (List.forall_mem_cons.2 ⟨(rfl), (List.forall_mem_cons.2 ⟨(rfl), (List.forall_mem_cons.2 ⟨(⟨none, 0, rfl, Nat.le_refl _, Nat.zero_le _, .inl rfl⟩), (fun _ h => by cases h)⟩)⟩)⟩)⟩)⟩)⟩)⟩)⟩)⟩, rfl⟩
 simp only [List.map_toArray, List.map_cons, List.map_nil, e0, e1]
 exact Zcq Tryz.underlying38 (zero := .agg #[.int .i64 0, .int .i64 0, .int .i64 0, .int .i64 0, .float .f64 0, .int .i64 0, .string ByteArray.empty, .slice none 0 0]) (by kernel_rfl) (places := [(0, 1), (1, 1), (2, 1), (3, 1), (4, 1), (5, 1), (6, 1), (7, 1)]) (by kernel_rfl) (by kernel_rfl) g.w
theorem Zzq {N d : Nat} {o : Oper} {uses : Zbc} {x0 : Operand} {x1 : Operand} {x2 : Operand} {v0 : Int} {v1 : ByteArray} {v2 : Int} (hop : o.op = .build 40 #[(0, x0), (1, x1), (2, x2)]) (hd : o.dst = some d) (h0 : Opd uses x0 ((Kd.int .i64).pd v0)) (h1 : Opd uses x1 (Kd.str.pd v1)) (h2 : Opd uses x2 ((Kd.int .i64).pd v2)) : OB Tryz.prog N o uses [(d, Zy.pd { Kind := v0, Key := v1, N := v2, X := (0 : Nat), S := ByteArray.empty, Make := (default : Zd), Must := false })] [] := by
 refine Zc5 hop hd fun a g hh => ?_
 obtain ⟨c0, k0, e0⟩ := h0 a g hh
 obtain rfl := k0
 obtain ⟨c1, k1, e1⟩ := h1 a g hh
 obtain rfl := k1
 obtain ⟨c2, k2, e2⟩ := h2 a g hh
 obtain rfl := k2
 refine ⟨.agg #[.int .i64 v0, .string v1, .int .i64 v2, .float .f64 0, .string ByteArray.empty, .int .i64 0, .int .i64 0, .int .i64 0, .int .i64 0, .float .f64 0, .int .i64 0, .string ByteArray.empty, .slice none 0 0, .bool false], ?_, [.int .i64 v0, .string v1, .int .i64 v2, .float .f64 0, .string ByteArray.empty, .int .i64 0, .int .i64 0, .int .i64 0, .int .i64 0, .float .f64 0, .int .i64 0, .string ByteArray.empty, .slice none 0 0, .bool false], ⟨rfl, (List.forall_mem_cons.2 ⟨rfl, (List.forall_mem_cons.2 ⟨rfl, (List.forall_mem_cons.2 ⟨rfl, (List.forall_mem_cons.2 ⟨(rfl), (List.forall_mem_cons.2 ⟨(rfl), (List.forall_mem_cons.2 ⟨(Zcd _), (List.forall_mem_cons.2 ⟨(rfl), (fun _ h => by cases h)⟩)⟩)⟩)⟩)⟩)⟩)⟩)⟩, rfl⟩
 simp only [List.map_toArray, List.map_cons, List.map_nil, e0, e1, e2]
 exact Zcq Tryz.underlying40 (zero := .agg #[.int .i64 0, .string ByteArray.empty, .int .i64 0, .float .f64 0, .string ByteArray.empty, .int .i64 0, .int .i64 0, .int .i64 0, .int .i64 0, .float .f64 0, .int .i64 0, .string ByteArray.empty, .slice none 0 0, .bool false]) (by kernel_rfl) (places := [(0, 1), (1, 1), (2, 1), (3, 1), (4, 1), (5, 8), (13, 1)]) (by kernel_rfl) (by kernel_rfl) g.w
theorem Z1q : Zp Tryz.prog 12 := by
 unfold Zp
 kernel_rfl
theorem Z1p : Zp Tryz.prog 16 := by
 unfold Zp
 kernel_rfl
theorem Zwu : Zp Tryz.prog 19 := by
 unfold Zp
 kernel_rfl
theorem Z0w : Zp Tryz.prog 15 := by
 unfold Zp
 kernel_rfl
theorem Z5z : Zp Tryz.prog 14 := by
 unfold Zp
 kernel_rfl
theorem Z5v : Zp Tryz.prog 17 := by
 unfold Zp
 kernel_rfl
theorem Z1n : Zp Tryz.prog 96 := by
 unfold Zp
 kernel_rfl
theorem Z51 : Zp Tryz.prog 98 := by
 unfold Zp
 kernel_rfl
theorem Z07 : Zp Tryz.prog 72 := by
 unfold Zp
 kernel_rfl
theorem Z5g : Zp Tryz.prog 49 := by
 unfold Zp
 kernel_rfl
theorem Z27 : Zp Tryz.prog 103 := by
 unfold Zp
 kernel_rfl
theorem Z5e : Zp Tryz.prog 71 := by
 unfold Zp
 kernel_rfl
theorem Z73 : Zp Tryz.prog 104 := by
 unfold Zp
 kernel_rfl
theorem Zban : Zp Tryz.prog 83 := by
 unfold Zp
 kernel_rfl
theorem Zbab : Zp Tryz.prog 82 := by
 unfold Zp
 kernel_rfl
theorem Zbae : Zp Tryz.prog 84 := by
 unfold Zp
 kernel_rfl
theorem Zmh : Fld Tryz.prog 57 0 Zbt Zbx.sl (fun x : Zo => x.L) := Fld.of ⟨_, Zbx.sl, 0, fun x : Zo => x.L⟩ (List.mem_of_getElem? (i := 0) rfl) 0 rfl (by kernel_rfl) (by decide)
theorem Zpo : Ty Tryz.prog 22 Zbx.sl := ⟨by kernel_rfl, by kernel_rfl⟩
theorem Zt3 : (Tryz.prog.info? 85).map (·.size) = some Zbx.sz := by kernel_rfl
theorem Zpa : Fld Tryz.prog 85 0 Zbx Kd.str (fun x : Z9 => x.Key) := Fld.of ⟨_, Kd.str, 0, fun x : Z9 => x.Key⟩ (List.mem_of_getElem? (i := 0) rfl) 0 rfl (by kernel_rfl) (by decide)
theorem Zjg : Ty Tryz.prog 57 Zbt := ⟨by kernel_rfl, by kernel_rfl⟩
theorem Zbak : Zp Tryz.prog 54 := by
 unfold Zp
 kernel_rfl
theorem Zbaw : Zp Tryz.prog 55 := by
 unfold Zp
 kernel_rfl
theorem Z0c : Fld Tryz.prog 57 1 Zbt (Kd.int .i64) (fun x : Zo => x.Room) := Fld.of ⟨_, (Kd.int .i64), 1, fun x : Zo => x.Room⟩ (List.mem_of_getElem? (i := 1) rfl) 1 rfl (by kernel_rfl) (by decide)
theorem Ztf : TE Tryz.prog 22 85 Zbx 104 := TE.of Tryz.underlying22 (by kernel_rfl) (by decide) (by decide)
theorem Z2r {N d : Nat} {o : Oper} {uses : Zbc} {x0 : Operand} {x1 : Operand} {v0 : ByteArray} {v1 : Zd} (hop : o.op = .build 85 #[(0, x0), (1, x1)]) (hd : o.dst = some d) (h0 : Opd uses x0 (Kd.str.pd v0)) (h1 : Opd uses x1 (Zh.pd v1)) : OB Tryz.prog N o uses [(d, Zbx.pd { Key := v0, Rec := v1 })] [] := by
 refine Zc5 hop hd fun a g hh => ?_
 obtain ⟨c0, k0, e0⟩ := h0 a g hh
 obtain rfl := k0
 obtain ⟨c1, k1, e1⟩ := h1 a g hh
 obtain ⟨u1_0, u1_1, u1_2, u1_3, u1_4, u1_5, u1_6, u1_7, rfl⟩ := Z0s (Zh.len k1)
 refine ⟨.agg #[.string v0, u1_0, u1_1, u1_2, u1_3, u1_4, u1_5, u1_6, u1_7], ?_, [.string v0, u1_0, u1_1, u1_2, u1_3, u1_4, u1_5, u1_6, u1_7], ⟨rfl, (List.forall_mem_cons.2 ⟨rfl, (List.forall_mem_cons.2 ⟨k1, (fun _ h => by cases h)⟩)⟩)⟩, rfl⟩
 simp only [List.map_toArray, List.map_cons, List.map_nil, e0, e1]
 exact Zcq Tryz.underlying85 (zero := .agg #[.string ByteArray.empty, .int .i64 0, .int .i64 0, .int .i64 0, .int .i64 0, .float .f64 0, .int .i64 0, .string ByteArray.empty, .slice none 0 0]) (by kernel_rfl) (places := [(0, 1), (1, 8)]) (by kernel_rfl) (by kernel_rfl) g.w
theorem Z2g {N d : Nat} {o : Oper} {uses : Zbc} {x0 : Operand} {x1 : Operand} {v0 : List Z9} {v1 : Int} (hop : o.op = .build 57 #[(0, x0), (1, x1)]) (hd : o.dst = some d) (h0 : Opd uses x0 (Zbx.sl.pd v0)) (h1 : Opd uses x1 ((Kd.int .i64).pd v1)) : OB Tryz.prog N o uses [(d, Zbt.pd { L := v0, Room := v1 })] [] := by
 refine Zc5 hop hd fun a g hh => ?_
 obtain ⟨c0, k0, e0⟩ := h0 a g hh
 obtain ⟨A0, n0, rfl, l0⟩ := k0
 obtain ⟨c1, k1, e1⟩ := h1 a g hh
 obtain rfl := k1
 refine ⟨.agg #[.slice A0 v0.length n0, .int .i64 v1], ?_, [.slice A0 v0.length n0, .int .i64 v1], ⟨rfl, (List.forall_mem_cons.2 ⟨⟨A0, n0, rfl, l0⟩, (List.forall_mem_cons.2 ⟨rfl, (fun _ h => by cases h)⟩)⟩)⟩, rfl⟩
 simp only [List.map_toArray, List.map_cons, List.map_nil, e0, e1]
 exact Zcq Tryz.underlying57 (zero := .agg #[.slice none 0 0, .int .i64 0]) (by kernel_rfl) (places := [(0, 1), (1, 1)]) (by kernel_rfl) (by kernel_rfl) g.w
theorem Z7r {N d : Nat} {o : Oper} {uses : Zbc} {x1 : Operand} {v1 : Int} (hop : o.op = .build 57 #[(1, x1)]) (hd : o.dst = some d) (h1 : Opd uses x1 ((Kd.int .i64).pd v1)) : OB Tryz.prog N o uses [(d, Zbt.pd { L := ([] : List Z9), Room := v1 })] [] := by
 refine Zc5 hop hd fun a g hh => ?_
 obtain ⟨c1, k1, e1⟩ := h1 a g hh
 obtain rfl := k1
 refine ⟨.agg #[.slice none 0 0, .int .i64 v1], ?_, [.slice none 0 0, .int .i64 v1], ⟨rfl, (List.forall_mem_cons.2 ⟨(⟨none, 0, rfl, Nat.le_refl _, Nat.zero_le _, .inl rfl⟩), (List.forall_mem_cons.2 ⟨rfl, (fun _ h => by cases h)⟩)⟩)⟩, rfl⟩
 simp only [List.map_toArray, List.map_cons, List.map_nil, e1]
 exact Zcq Tryz.underlying57 (zero := .agg #[.slice none 0 0, .int .i64 0]) (by kernel_rfl) (places := [(0, 1), (1, 1)]) (by kernel_rfl) (by kernel_rfl) g.w
theorem Z5i : Ty Tryz.prog 85 Zbx := ⟨by kernel_rfl, by kernel_rfl⟩
theorem Zuk : Fld Tryz.prog 85 1 Zbx Zh (fun x : Z9 => x.Rec) := Fld.of ⟨_, Zh, 1, fun x : Z9 => x.Rec⟩ (List.mem_of_getElem? (i := 1) rfl) 1 rfl (by kernel_rfl) (by decide)
theorem Z46 : Zp Tryz.prog 31 := by
 unfold Zp
 kernel_rfl
theorem Zba0 : Zp Tryz.prog 32 := by
 unfold Zp
 kernel_rfl
theorem Zbaj : Zp Tryz.prog 33 := by
 unfold Zp
 kernel_rfl
theorem en_7 : Zp Tryz.prog 7 := by
 unfold Zp
 kernel_rfl
theorem en_8 : Zp Tryz.prog 8 := by
 unfold Zp
 kernel_rfl
theorem en_9 : Zp Tryz.prog 9 := by
 unfold Zp
 kernel_rfl
theorem Zbap : Zp Tryz.prog 11 := by
 unfold Zp
 kernel_rfl
theorem Zbai : Zp Tryz.prog 13 := by
 unfold Zp
 kernel_rfl
theorem Z57 : Fld Tryz.prog 49 0 Zcj (Kd.int .i64) (fun x : Z6 => x.Code) := Fld.of ⟨_, (Kd.int .i64), 0, fun x : Z6 => x.Code⟩ (List.mem_of_getElem? (i := 0) rfl) 0 rfl (by kernel_rfl) (by decide)
theorem Zk8 (a0 : (List Zj)) {r : (List Zj)} (h : Zbo a0 = some r) : FnOk Tryz.prog 81 [(Zx.sl.pd a0)] (Zx.sl.pd r) := by
 unfold Zbo at h
 obtain ⟨hsz, H0⟩ := Zhi h
 obtain rfl := Option.some.inj H0
 refine Zbv (N := 8) Tryz.func81 rfl rfl (Nat.le_of_ble_eq_true rfl) rfl rfl (fun a g0 hst hb => ?_)
 refine wp_seq ?_
 refine Zk4 Zb (N := 8) (L := [(0, (Zx.sl.pd a0))]) (T := [⟨[], [(2, (Zx.sl.pd []))], [], [], [2]⟩]) (F := [.old 0]) (by kernel_rfl)
   (Zec (OT.plain rfl (Zc rfl rfl (Opd.c (fun g => Zgn g)))) Zjd) hst hb (fun a g hst hb => ?_)
 refine Zv ?_
 refine wp_seq ?_
 refine wp_seq ?_
 refine Zk4 Zb (N := 8) (L := [(0, (Zx.sl.pd a0))]) (T := [⟨[.old 0], [(3, (Zx.sl.pd a0))], [], [], [3]⟩, ⟨[.op 0 0], [(4, Z09 a0)], [], [0], [4]⟩]) (F := [.old 0, .op 1 0]) (by kernel_rfl)
   (Zec (OT.plain rfl (Za rfl rfl Opd.t0)) (Zec (OT.plain rfl (Zo9 Tryz.underlying36 rfl rfl Opd.t0)) Zjd)) hst hb (fun a g hst hb => ?_)
 refine Zv ?_
 obtain ⟨c, hc, hc'⟩ := hst.at 1 rfl
 refine wp_cond_split hc (fun ht => ?_) (fun hf => ?_)
 · obtain rfl := hc' ht
   refine wp_seq ?_
   refine Zk4 Zb (N := 8) (L := []) (T := [⟨[], [(2, (Zx.sl.pd []))], [], [], [2]⟩]) (F := [.op 0 0]) (by kernel_rfl)
     (Zec (OT.plain rfl (Zc rfl rfl (Opd.c (fun g => Zgn g)))) Zjd) (hst.pick [] rfl) hb (fun a g hst hb => ?_)
   refine Zv ?_
   refine wp_ret ?_
   refine Zt ?_
   exact Z8 rfl hst hb (Zk (s := 2)) (hst.at 0 rfl)
 · refine wp_skip ?_
   refine Zv ?_
   refine wp_seq ?_
   have hsz' : (([] : (List Zj)).length + a0.length) * 24 ≤ 140737488355328 := by simpa using hsz
   refine Zk4 Zb (N := 8) (L := [(0, (Zx.sl.pd a0))]) (T := [⟨[], [(5, (pRow Zx 116 5 []))], [6], [], [5]⟩, ⟨[.old 0], [(6, (Zx.sl.pd a0))], [], [], [6]⟩, ⟨[.op 0 0, .op 1 0], [(7, (pRow Zx 116 5 ([] ++ a0)))], [6], [0, 1], [5, 7]⟩, ⟨[.op 2 0], [(2, (pRow Zx 116 5 ([] ++ a0)))], [], [0, 1, 2], [2]⟩]) (F := [.op 3 0]) (by kernel_rfl)
     (Zec (OT.plain rfl (Zrf 5 Zeo (xs := []) .nil (by decide) rfl rfl)) (Zec (OT.plain rfl (Za rfl rfl Opd.t0)) (Zec (OT.plain rfl (Zje Zeo rfl rfl Opd.t0 (Opd.tl Opd.t0) hsz')) (Zec (OT.plain rfl (Zc rfl rfl Opd.t0)) Zjd)))) (hst.pick [0] rfl) hb (fun a g hst hb => ?_)
   refine Zv ?_
   refine wp_ret ?_
   exact Z8 rfl hst hb (Zk (s := 2)) (Zis (hst.at 0 rfl))
theorem Ze3 (a0 : (List Zj)) {r : (List Zj)} (h : Zbo a0 = some r) : Zo7 Tryz.prog 81 [(Zx.sl.pd a0)] Zx 116 r := by
 unfold Zbo at h
 obtain ⟨hsz, H0⟩ := Zhi h
 obtain rfl := Option.some.inj H0
 refine Zpw (N := 8) Tryz.func81 rfl rfl (Nat.le_of_ble_eq_true rfl) rfl (fun a g0 h0 hst hb => ?_)
 refine r_s (T := [⟨[], [(2, (Zx.sl.pd []))], [], [], [2]⟩]) (F := [.old 0]) hst hb Zb
   (o_p rfl (Zc rfl rfl (Opd.c (fun g => Zgn g))) <| o_n) (by kernel_rfl) (fun a g hst hb => ?_)
 refine wp_seq ?_
 refine r_s (T := [⟨[.old 0], _, [], [], [3]⟩, ⟨[.op 0 0], _, [], [0], [4]⟩]) (F := [.old 0, .op 1 0]) hst hb Zb
   (o_p rfl (Za rfl rfl u_0) <| o_p rfl (Zo9 Tryz.underlying36 rfl rfl u_0) <| o_n) (by kernel_rfl) (fun a g hst hb => ?_)
 obtain ⟨c, hc, hc'⟩ := hst.at 1 rfl
 refine wp_cond_split hc (fun ht => ?_) (fun hf => ?_)
 · obtain rfl := hc' ht
   refine r_s (L := []) (T := [⟨[], [(2, (pEq (.slice none 0 0)))], [], [], [2]⟩]) (F := [.op 0 0]) (hst.pick [] rfl) hb Zb
     (o_p rfl (Zc rfl rfl (Opd.c (fun g => rfl))) <| o_n) (by kernel_rfl) (fun a g hst hb => ?_)
   refine wp_ret ?_
   refine Zt ?_
   exact Zoy rfl hst hb (Zk (s := 2)) ⟨none, hst.at 0 rfl⟩
 · refine wp_skip ?_
   refine Zv ?_
   refine r_s (L := [(0, _)]) (T := [⟨[], [(5, (pOwn Zx 116 5 (some 0) (([] : (List Zj)).map some)))], [6], [], [5]⟩, ⟨[.old 0], _, [], [], [6]⟩, ⟨[.op 0 0, .op 1 0], _, [6], [0, 1], [5, 7]⟩, ⟨[.op 2 0], _, [], [0, 1, 2], [2]⟩]) (F := [.op 3 0]) (hst.pick [0] rfl) hb Zb
     (o_p rfl (Zrd (ty := 0) Zeo rfl rfl) <| o_p rfl (Za rfl rfl u_0) <| o_p rfl (Znj Zeo rfl rfl u_0 u_1 (by simpa using hsz)) <| o_p rfl (Zc rfl rfl u_0) <| o_n) (by kernel_rfl) (fun a g hst hb => ?_)
   refine wp_ret ?_
   exact Zs1 rfl h0 hst hb (Zk (s := 2)) (hst.at 0 rfl)
theorem Zfl (a0 : Zd) {r : Zd} (h : Zd9 a0 = some r) : FnOk Tryz.prog 53 [(Zh.pd a0)] (Zh.pd r) := by
 have H0 := h
 unfold Zd9 at H0
 clear h
 refine Zbv (N := 8) Tryz.func53 rfl rfl (Nat.le_of_ble_eq_true rfl) rfl rfl (fun a g0 hst hb => ?_)
 refine r_s (T := [⟨[.old 0], _, [2], [], [1]⟩, ⟨[], [(2, (pBox Zh 2 (default : Zd)))], [3], [], [2]⟩]) (F := [.op 0 0, .op 1 0]) hst hb Zb
   (o_p rfl (Zmn rfl rfl u_0) <| o_p rfl (Zbk (zs := [.int .i64 0, .int .i64 0, .int .i64 0, .int .i64 0, .float .f64 0, .int .i64 0, .string ByteArray.empty, .slice none 0 0]) (by kernel_rfl) (fun g => Zcd g) rfl rfl) <| o_n) (by kernel_rfl) (fun a g hst hb => ?_)
 obtain ⟨r1, h2, H0⟩ := Zg H0
 refine r_s (T := [⟨[.old 0], _, [], [], [3]⟩, ⟨[.op 0 0], _, [], [0], [4]⟩, ⟨[.op 1 0], _, [], [0, 1], [5]⟩, ⟨[.old 0], _, [], [0, 1, 2], [6]⟩, ⟨[.op 2 0, .op 3 0, .old 0], _, [2], Lr 4, [1, 3, 6]⟩]) (F := [.op 4 0, .old 1]) hst hb Zb
   (o_p rfl (Zbb Zdp (off := 7) (by kernel_rfl) rfl rfl u_0) <| o_p rfl (Zcm Ze9 rfl rfl u_0) <| o_p rfl (Zq Zwy (Zk8 _ h2) rfl rfl (.cons u_0 .nil)) <| o_p rfl (Zbb Zdp (off := 7) (by kernel_rfl) rfl rfl u_0) <| o_p rfl (Zrz Ze9 rfl rfl u_2 u_1 u_0) <| o_n) (by kernel_rfl) (fun a g hst hb => ?_)
 refine r_s (T := [⟨[.old 0], _, [], [], [7]⟩, ⟨[.op 0 0, .old 1], _, [3], [0], [2]⟩]) (F := [.op 1 0]) hst hb Zb
   (o_p rfl (Zck Zbh rfl rfl u_0) <| o_p rfl (Zba Zbh rfl rfl u_1 u_0) <| o_n) (by kernel_rfl) (fun a g hst hb => ?_)
 refine wp_ret ?_
 obtain rfl := Option.some.inj H0
 obtain ⟨u0, hu0, hq0⟩ := Zbl (P := Tryz.prog) Zbh (hst.at 0 rfl)
 exact Z8 rfl hst hb hu0 hq0
theorem Zkz (a0 : (List Zs)) {r : (List Zs)} (h : Zfa a0 = some r) : Zo7 Tryz.prog 56 [(Zy.sl.pd a0)] Zy 40 r := by
 unfold Zfa at h
 obtain ⟨hsz, H0⟩ := Zhi h
 obtain rfl := Option.some.inj H0
 refine Zpw (N := 8) Tryz.func56 rfl rfl (Nat.le_of_ble_eq_true rfl) rfl (fun a g0 h0 hst hb => ?_)
 refine r_s (T := [⟨[], [(2, (Zy.sl.pd []))], [], [], [2]⟩]) (F := [.old 0]) hst hb Zb
   (o_p rfl (Zc rfl rfl (Opd.c (fun g => Zgn g))) <| o_n) (by kernel_rfl) (fun a g hst hb => ?_)
 refine wp_seq ?_
 refine r_s (T := [⟨[.old 0], _, [], [], [3]⟩, ⟨[.op 0 0], _, [], [0], [4]⟩]) (F := [.old 0, .op 1 0]) hst hb Zb
   (o_p rfl (Za rfl rfl u_0) <| o_p rfl (Zo9 Tryz.underlying23 rfl rfl u_0) <| o_n) (by kernel_rfl) (fun a g hst hb => ?_)
 obtain ⟨c, hc, hc'⟩ := hst.at 1 rfl
 refine wp_cond_split hc (fun ht => ?_) (fun hf => ?_)
 · obtain rfl := hc' ht
   refine r_s (L := []) (T := [⟨[], [(2, (pEq (.slice none 0 0)))], [], [], [2]⟩]) (F := [.op 0 0]) (hst.pick [] rfl) hb Zb
     (o_p rfl (Zc rfl rfl (Opd.c (fun g => rfl))) <| o_n) (by kernel_rfl) (fun a g hst hb => ?_)
   refine wp_ret ?_
   refine Zt ?_
   exact Zoy rfl hst hb (Zk (s := 2)) ⟨none, hst.at 0 rfl⟩
 · refine wp_skip ?_
   refine Zv ?_
   refine r_s (L := [(0, _)]) (T := [⟨[], [(5, (pOwn Zy 40 5 (some 0) (([] : (List Zs)).map some)))], [6], [], [5]⟩, ⟨[.old 0], _, [], [], [6]⟩, ⟨[.op 0 0, .op 1 0], _, [6], [0, 1], [5, 7]⟩, ⟨[.op 2 0], _, [], [0, 1, 2], [2]⟩]) (F := [.op 3 0]) (hst.pick [0] rfl) hb Zb
     (o_p rfl (Zrd (ty := 0) Ztl rfl rfl) <| o_p rfl (Za rfl rfl u_0) <| o_p rfl (Znj Ztl rfl rfl u_0 u_1 (by simpa using hsz)) <| o_p rfl (Zc rfl rfl u_0) <| o_n) (by kernel_rfl) (fun a g hst hb => ?_)
   refine wp_ret ?_
   exact Zs1 rfl h0 hst hb (Zk (s := 2)) (hst.at 0 rfl)
theorem Zp6 (a0 : Zbg) {r : Zbg} (h : Zkm a0 = some r) : FnOk Tryz.prog 34 [(Zb8.pd a0)] (Zb8.pd r) := by
 unfold Zkm at h
 obtain ⟨⟨hsz, hall⟩, H0⟩ := Zhi h
 obtain rfl := Option.some.inj H0
 have hcl : Zfa a0.Acts = some a0.Acts := by unfold Zfa; rw [if_pos hsz]
 have hrc : ∀ e ∈ a0.Acts, Zd9 e.Make = some e.Make := fun e he => by
   have := List.all_eq_true.1 hall e he
   unfold Zd9 Zbo
   rw [if_pos (of_decide_eq_true this)]
   rfl
 have hmx : a0.Acts.length ≤ 140737488355328 := Nat.le_trans (Nat.le_mul_of_pos_right _ (by decide)) hsz
 refine Zbv (N := 28) Tryz.func34 rfl rfl (Nat.le_of_ble_eq_true rfl) rfl rfl (fun a g0 hst hb => ?_)
 refine r_s (T := [⟨[.old 0], [(1, (pBox Zb8 1 a0))], [2], [], [1]⟩, ⟨[], [(2, (pBox Zb8 2 (default : Zbg)))], [3], [], [2]⟩]) (F := [.op 0 0, .op 1 0]) hst hb Zb
   (o_p rfl (Zmn (j := 1) rfl rfl u_0) <| o_p rfl (Zbk (zs := [.slice none 0 0]) (by kernel_rfl) (fun g => Zsa g) rfl rfl) <| o_n) (by kernel_rfl) (fun a g hst hb => ?_)
 refine r_s (T := [⟨[.old 0], _, [], [], [4]⟩, ⟨[.op 0 0], _, [], [0], [5]⟩, ⟨[.op 1 0], [(6, (pArr Zy 40 6 a0.Acts))], [7], [0, 1], [6]⟩, ⟨[.old 0], _, [], [0, 1, 2], [7]⟩, ⟨[.old 0, .op 3 0, .op 2 0], [(1, (pBxO Zfm Zfu (fun x : Zbg => x.Acts) Zy 40 1 6 a0))], [2], [0, 1, 2, 3], [1, 4, 7]⟩]) (F := [.op 4 0, .old 1]) hst hb Zb
   (o_p rfl (Zbb Zkv (off := 0) (by kernel_rfl) rfl rfl u_0) <| o_p rfl (Zcm Zmr rfl rfl u_0) <| o_p rfl (Zkb (j := 6) Z9v (Zkz _ hcl) rfl rfl (.cons u_0 .nil)) <| o_p rfl (Zbb Zkv (off := 0) (by kernel_rfl) rfl rfl u_0) <| o_p rfl (Zv2 Zxh Zte rfl rfl (by decide) u_0 u_1 u_2 (fun g cs s0 s1 ys h k => Zwr h k)) <| o_n) (by kernel_rfl) (fun a g hst hb => ?_)
 refine wp_seq ?_
 refine r_s (T := [⟨[.old 0], _, [], [], [8]⟩, ⟨[.op 0 0], _, [], [0], [9]⟩, ⟨[.op 1 0], _, [], [0, 1], [10]⟩, ⟨[], _, [], [], [11]⟩]) (F := [.old 0, .old 1, .op 2 0, .op 3 0]) hst hb Zb
   (o_p rfl (Zlk Zsv (off := 0) (by kernel_rfl) (fun _ => rfl) rfl rfl u_0) <| o_p rfl (Zmg Zte rfl rfl u_0) <| o_p rfl (Zz4 Tryz.underlying23 rfl rfl u_0) <| o_p rfl (Za rfl rfl c_i) <| o_n) (by kernel_rfl) (fun a g hst hb => ?_)
 refine Zcs (fun a w => ∃ (g : G), w = g.w ∧ St 28 [(1, (pBxO Zfm Zfu (fun x : Zbg => x.Acts) Zy 40 1 6 a0)), (2, (pBox Zb8 2 (default : Zbg)))] a g ∧ Base g0 g) ?_ ?_
 · rintro a w ⟨g, rfl, hst, hb⟩
   refine Zv ?_
   refine r_s (T := [⟨[.old 0], [(27, (Zb8.pd a0))], [7], [], [27, 1]⟩, ⟨[.old 1, .op 0 0], _, [3], [0], [2]⟩]) (F := [.op 1 0]) hst hb Zb
     (o_p rfl (Zsc Zx4 rfl Z8j rfl rfl u_0) <| o_p rfl (Zba Znl rfl rfl u_0 u_1) <| o_n) (by kernel_rfl) (fun a g hst hb => ?_)
   refine wp_ret ?_
   obtain ⟨u0, hu0, hq0⟩ := Zbl (P := Tryz.prog) Znl (hst.at 0 rfl)
   exact Z8 rfl hst hb hu0 hq0
 · refine wp_block ?_
   refine wp_loop_ghost (fun n a w => ∃ (i : Nat) (g : G), w = g.w ∧ St 28 [(1, (pBxO Zfm Zfu (fun x : Zbg => x.Acts) Zy 40 1 6 a0)), (2, (pBox Zb8 2 (default : Zbg))), (10, (pInt .i64 (a0.Acts.length : Int))), (11, (pInt .i64 (i : Int)))] a g ∧ Base g0 g ∧ i ≤ a0.Acts.length ∧ n = a0.Acts.length - i) a0.Acts.length ⟨0, g, rfl, hst, hb, Nat.zero_le _, rfl⟩ (fun n a w hI => ?_)
   obtain ⟨i, g, rfl, hst, hb, hi, rfl⟩ := hI
   refine r_s (T := [⟨[.old 3, .old 2], _, [], [], [12]⟩]) (F := [.old 0, .old 1, .old 2, .old 3, .op 0 0]) hst hb Zb
     (o_p rfl (Zc0 rfl rfl u_0 u_1) <| o_n) (by kernel_rfl) (fun a g hst hb => ?_)
   refine wp_seq ?_
   refine wp_cond_split (hst.bool 4 rfl) (fun hc => ?_) (fun hc => ?_)
   · have hlt : i < a0.Acts.length := by have := of_decide_eq_true hc; omega
     have hx : idx a0.Acts (i : Int) = some a0.Acts[i] := Z0a (List.getElem?_eq_getElem hlt)
     refine wp_skip ?_
     refine Zv ?_
     refine wp_seq ?_
     refine wp_block ?_
     refine r_s (L := [(1, _), (2, _), (10, _), (11, _)]) (T := [⟨[.old 3], _, [], [], [13]⟩, ⟨[.op 0 0], _, [], [0], [3]⟩]) (F := [.old 0, .old 1, .op 1 0, .old 2, .old 3]) (hst.pick [0, 1, 2, 3] rfl) hb Zb
       (o_p rfl (Za rfl rfl u_0) <| o_p rfl (Zc rfl rfl u_0) <| o_n) (by kernel_rfl) (fun a g hst hb => ?_)
     refine r_g (T := [⟨[.old 0], _, [], [], [14]⟩, ⟨[.op 0 0], _, [], [0], [15]⟩, ⟨[.old 2], _, [], [], [16]⟩, ⟨[.old 0], _, [], [], [17]⟩, ⟨[.op 3 0], _, [], [3], [18]⟩, ⟨[.old 2], _, [], [], [19]⟩, ⟨[.op 4 0, .op 5 0], _, [], [3, 4, 5], [20]⟩, ⟨[.op 6 0], _, [], [3, 4, 5, 6], [21]⟩, ⟨[.op 7 0], _, [], [3, 4, 5, 6, 7], [22]⟩, ⟨[.op 8 0], _, [], [3, 4, 5, 6, 7, 8], [23]⟩, ⟨[.op 1 0, .op 2 0], _, [], [0, 1, 2, 3, 4, 5, 6, 7, 8, 9], [24]⟩, ⟨[.op 10 0], _, [], [0, 1, 2, 3, 4, 5, 6, 7, 8, 9, 10], [25]⟩, ⟨[.old 0, .op 11 0, .op 9 0], [(1, (pBxO Zfm Zfu (fun x : Zbg => x.Acts) Zy 40 1 6 a0))], [7], [0, 1, 2, 3, 4, 5, 6, 7, 8, 9, 10, 11], [1, 14, 15, 17, 18, 20, 21, 24, 25]⟩]) (F := [.op 12 0, .old 1, .old 3, .old 4]) hst hb Zb
       (o_p rfl (Zlk Zsv (off := 0) (by kernel_rfl) (fun _ => rfl) rfl rfl u_0) <| o_p rfl (Zmg Zte rfl rfl u_0) <| o_p rfl (Za rfl rfl u_0) <| o_p rfl (Zlk Zsv (off := 0) (by kernel_rfl) (fun _ => rfl) rfl rfl u_0) <| o_p rfl (Zmg Zte rfl rfl u_0) <| o_p rfl (Za rfl rfl u_0) <| o_p rfl (Zom Tryz.underlying23 Zp5 rfl rfl u_0 u_1 hx) <| o_p rfl (Zno Znw (off2 := 5) (by kernel_rfl) (by decide) rfl rfl u_0) <| o_p rfl (Zvf Zbh rfl rfl u_0) <| o_p rfl (Zq Zms (Zfl _ (hrc _ (List.getElem_mem hlt))) rfl rfl (.cons u_0 .nil)) <| o_p rfl (Zom Tryz.underlying23 Zp5 rfl rfl u_0 u_1 hx) <| o_p rfl (Zno Znw (off2 := 5) (by kernel_rfl) (by decide) rfl rfl u_0) <| o_p rfl (Zsh (u := a0.Acts[i]) (u' := a0.Acts[i]) (x' := a0) Zbh rfl rfl (by decide) u_0 u_1 u_2 (Zz2 hx) (by decide) (by rw [Int.toNat_natCast]; exact (List.set_getElem_self hlt).symm) (fun _ => rfl) (Zwp _)) <| o_n) (by kernel_rfl) (fun a g hst hb => ?_)
     refine Zbp ?_
     refine Zv ?_
     refine r_g (T := [⟨[.old 3], _, [], [], [26]⟩, ⟨[.op 0 0], _, [], [0], [11]⟩]) (F := [.old 0, .old 1, .old 2, .op 1 0]) hst hb Zb
       (o_p rfl (Zch rfl rfl u_0 c_i (Zvv hlt (by omega))) <| o_p rfl (Za rfl rfl u_0) <| o_n) (by kernel_rfl) (fun a g hst hb => ?_)
     exact ⟨a0.Acts.length - (i + 1), by omega, i + 1, g, rfl, hst, hb, by omega, rfl⟩
   · refine wp_exit ?_
     refine Zca ?_
     refine Zca ?_
     refine Zcv ?_
     exact ⟨g, rfl, hst.pick [0, 1] rfl, hb⟩
theorem Zl6 (a0 : (List ByteArray)) {r : (List ByteArray)} (h : Zfo a0 = some r) : FnOk Tryz.prog 35 [(Kd.str.sl.pd a0)] (Kd.str.sl.pd r) := by
 unfold Zfo at h
 obtain ⟨hsz, H0⟩ := Zhi h
 obtain rfl := Option.some.inj H0
 refine Zbv (N := 8) Tryz.func35 rfl rfl (Nat.le_of_ble_eq_true rfl) rfl rfl (fun a g0 hst hb => ?_)
 refine wp_seq ?_
 refine Zk4 Zb (N := 8) (L := [(0, (Kd.str.sl.pd a0))]) (T := [⟨[], [(2, (Kd.str.sl.pd []))], [], [], [2]⟩]) (F := [.old 0]) (by kernel_rfl)
   (Zec (OT.plain rfl (Zc rfl rfl (Opd.c (fun g => Zgn g)))) Zjd) hst hb (fun a g hst hb => ?_)
 refine Zv ?_
 refine wp_seq ?_
 refine wp_seq ?_
 refine Zk4 Zb (N := 8) (L := [(0, (Kd.str.sl.pd a0))]) (T := [⟨[.old 0], [(3, (Kd.str.sl.pd a0))], [], [], [3]⟩, ⟨[.op 0 0], [(4, Z09 a0)], [], [0], [4]⟩]) (F := [.old 0, .op 1 0]) (by kernel_rfl)
   (Zec (OT.plain rfl (Za rfl rfl Opd.t0)) (Zec (OT.plain rfl (Zo9 Tryz.underlying26 rfl rfl Opd.t0)) Zjd)) hst hb (fun a g hst hb => ?_)
 refine Zv ?_
 obtain ⟨c, hc, hc'⟩ := hst.at 1 rfl
 refine wp_cond_split hc (fun ht => ?_) (fun hf => ?_)
 · obtain rfl := hc' ht
   refine wp_seq ?_
   refine Zk4 Zb (N := 8) (L := []) (T := [⟨[], [(2, (Kd.str.sl.pd []))], [], [], [2]⟩]) (F := [.op 0 0]) (by kernel_rfl)
     (Zec (OT.plain rfl (Zc rfl rfl (Opd.c (fun g => Zgn g)))) Zjd) (hst.pick [] rfl) hb (fun a g hst hb => ?_)
   refine Zv ?_
   refine wp_ret ?_
   refine Zt ?_
   exact Z8 rfl hst hb (Zk (s := 2)) (hst.at 0 rfl)
 · refine wp_skip ?_
   refine Zv ?_
   refine wp_seq ?_
   have hsz' : (([] : (List ByteArray)).length + a0.length) * 16 ≤ 140737488355328 := by simpa using hsz
   refine Zk4 Zb (N := 8) (L := [(0, (Kd.str.sl.pd a0))]) (T := [⟨[], [(5, (pRow Kd.str 9 5 []))], [6], [], [5]⟩, ⟨[.old 0], [(6, (Kd.str.sl.pd a0))], [], [], [6]⟩, ⟨[.op 0 0, .op 1 0], [(7, (pRow Kd.str 9 5 ([] ++ a0)))], [6], [0, 1], [5, 7]⟩, ⟨[.op 2 0], [(2, (pRow Kd.str 9 5 ([] ++ a0)))], [], [0, 1, 2], [2]⟩]) (F := [.op 3 0]) (by kernel_rfl)
     (Zec (OT.plain rfl (Zrf 5 Zro (xs := []) .nil (by decide) rfl rfl)) (Zec (OT.plain rfl (Za rfl rfl Opd.t0)) (Zec (OT.plain rfl (Zje Zro rfl rfl Opd.t0 (Opd.tl Opd.t0) hsz')) (Zec (OT.plain rfl (Zc rfl rfl Opd.t0)) Zjd)))) (hst.pick [0] rfl) hb (fun a g hst hb => ?_)
   refine Zv ?_
   refine wp_ret ?_
   exact Z8 rfl hst hb (Zk (s := 2)) (Zis (hst.at 0 rfl))
theorem Zwn (a0 : Int) {r : Zb2} (h : Zee a0 = some r) : FnOk Tryz.prog 75 [(pInt .i64 a0)] (Zcx.pd r) := by
 have H0 := h
 unfold Zee at H0
 clear h
 refine Zbv (N := 24) Tryz.func75 rfl rfl (Nat.le_of_ble_eq_true rfl) rfl rfl (fun a g0 hst hb => ?_)
 refine r_s (T := [⟨[], [(2, (pBox Zcx 2 (default : Zb2)))], [3], [], [2]⟩]) (F := [.old 0, .op 0 0]) hst hb Zb
   (o_p rfl (Zbk (zs := [.bool false, .bool false, .bool false, .bool false, .bool false]) (by kernel_rfl) (fun g => Zql g) rfl rfl) <| o_n) (by kernel_rfl) (fun a g hst hb => ?_)
 refine wp_seq ?_
 refine r_s (T := [⟨[.old 0], _, [], [], [3]⟩]) (F := [.old 1, .op 0 0]) hst hb Zb
   (o_p rfl (Za rfl rfl u_0) <| o_n) (by kernel_rfl) (fun a g hst hb => ?_)
 refine wp_block ?_
 refine r_s (T := [⟨[.old 1], _, [], [], [5]⟩, ⟨[.op 0 0], _, [], [0], [4]⟩]) (F := [.old 0, .old 1, .op 1 0]) hst hb Zb
   (o_p rfl (Zb1 rfl rfl u_0 c_i) <| o_p rfl (Zc rfl rfl u_0) <| o_n) (by kernel_rfl) (fun a g hst hb => ?_)
 refine wp_cond_split (hst.bool 2 rfl) (fun hc1 => ?_) (fun hc1 => ?_)
 · replace H0 := Zz hc1 H0
   refine r_s (L := [(2, _)]) (T := [⟨[], _, [], [], [6]⟩, ⟨[.op 0 0, .old 0], _, [3], [0], [2]⟩]) (F := [.op 1 0]) (hst.pick [0] rfl) hb Zb
     (o_p rfl (Z3s rfl rfl c_b) <| o_p rfl (Zba Zip rfl rfl u_1 u_0) <| o_n) (by kernel_rfl) (fun a g hst hb => ?_)
   refine wp_ret ?_
   refine Z7 ?_
   refine Zt ?_
   obtain rfl := Option.some.inj H0
   obtain ⟨u0, hu0, hq0⟩ := Zbl (P := Tryz.prog) Zip (hst.at 0 rfl)
   exact Z8 rfl hst hb hu0 hq0
 · replace H0 := Z0 hc1 H0
   refine wp_seq ?_
   refine r_s (L := [(2, _), (3, _)]) (T := [⟨[.old 1], _, [], [], [8]⟩, ⟨[.op 0 0], _, [], [0], [7]⟩]) (F := [.old 0, .old 1, .op 1 0]) (hst.pick [0, 1] rfl) hb Zb
     (o_p rfl (Zb1 rfl rfl u_0 c_i) <| o_p rfl (Zc rfl rfl u_0) <| o_n) (by kernel_rfl) (fun a g hst hb => ?_)
   refine Zcs (fun a w => ∃ (j3 : Bool) (g : G), w = g.w ∧ St 24 [(2, (pBox Zcx 2 (default : Zb2))), (3, (pInt .i64 a0)), (7, (Zbe j3))] a g ∧ Base g0 g ∧ Zjq a0 j3 = some r) ?_ ?_
   · rintro a w ⟨j3, g, rfl, hst, hb, H0⟩
     unfold Zjq at H0
     refine Zv ?_
     refine wp_cond_split (hst.bool 2 rfl) (fun hc4 => ?_) (fun hc4 => ?_)
     · replace H0 := Zz hc4 H0
       refine r_s (L := [(2, _)]) (T := [⟨[], _, [], [], [10]⟩, ⟨[.op 0 0, .old 0], _, [3], [0], [2]⟩]) (F := [.op 1 0]) (hst.pick [0] rfl) hb Zb
         (o_p rfl (Z4g rfl rfl c_b) <| o_p rfl (Zba Zip rfl rfl u_1 u_0) <| o_n) (by kernel_rfl) (fun a g hst hb => ?_)
       refine wp_ret ?_
       refine Z7 ?_
       refine Zt ?_
       obtain rfl := Option.some.inj H0
       obtain ⟨u0, hu0, hq0⟩ := Zbl (P := Tryz.prog) Zip (hst.at 0 rfl)
       exact Z8 rfl hst hb hu0 hq0
     · replace H0 := Z0 hc4 H0
       refine r_s (L := [(2, _), (3, _)]) (T := [⟨[.old 1], _, [], [], [12]⟩, ⟨[.op 0 0], _, [], [0], [11]⟩]) (F := [.old 0, .old 1, .op 1 0]) (hst.pick [0, 1] rfl) hb Zb
         (o_p rfl (Zb1 rfl rfl u_0 c_i) <| o_p rfl (Zc rfl rfl u_0) <| o_n) (by kernel_rfl) (fun a g hst hb => ?_)
       refine wp_cond_split (hst.bool 2 rfl) (fun hc5 => ?_) (fun hc5 => ?_)
       · replace H0 := Zz hc5 H0
         refine r_s (L := [(2, _)]) (T := [⟨[], _, [], [], [13]⟩, ⟨[.op 0 0, .old 0], _, [3], [0], [2]⟩]) (F := [.op 1 0]) (hst.pick [0] rfl) hb Zb
           (o_p rfl (Z1o rfl rfl c_b c_b) <| o_p rfl (Zba Zip rfl rfl u_1 u_0) <| o_n) (by kernel_rfl) (fun a g hst hb => ?_)
         refine wp_ret ?_
         refine Z7 ?_
         refine Zt ?_
         obtain rfl := Option.some.inj H0
         obtain ⟨u0, hu0, hq0⟩ := Zbl (P := Tryz.prog) Zip (hst.at 0 rfl)
         exact Z8 rfl hst hb hu0 hq0
       · replace H0 := Z0 hc5 H0
         refine wp_seq ?_
         refine r_s (L := [(2, _), (3, _)]) (T := [⟨[.old 1], _, [], [], [15]⟩, ⟨[.op 0 0], _, [], [0], [14]⟩]) (F := [.old 0, .old 1, .op 1 0]) (hst.pick [0, 1] rfl) hb Zb
           (o_p rfl (Zb1 rfl rfl u_0 c_i) <| o_p rfl (Zc rfl rfl u_0) <| o_n) (by kernel_rfl) (fun a g hst hb => ?_)
         refine Zcs (fun a w => ∃ (j8 : Bool) (g : G), w = g.w ∧ St 24 [(2, (pBox Zcx 2 (default : Zb2))), (3, (pInt .i64 a0)), (14, (Zbe j8))] a g ∧ Base g0 g ∧ Zh4 a0 j8 = some r) ?_ ?_
         · rintro a w ⟨j8, g, rfl, hst, hb, H0⟩
           unfold Zh4 at H0
           refine Zv ?_
           refine wp_cond_split (hst.bool 2 rfl) (fun hc9 => ?_) (fun hc9 => ?_)
           · replace H0 := Zz hc9 H0
             refine r_s (L := [(2, _)]) (T := [⟨[], _, [], [], [18]⟩, ⟨[.op 0 0, .old 0], _, [3], [0], [2]⟩]) (F := [.op 1 0]) (hst.pick [0] rfl) hb Zb
               (o_p rfl (Z38 rfl rfl c_b) <| o_p rfl (Zba Zip rfl rfl u_1 u_0) <| o_n) (by kernel_rfl) (fun a g hst hb => ?_)
             refine wp_ret ?_
             refine Z7 ?_
             refine Zt ?_
             obtain rfl := Option.some.inj H0
             obtain ⟨u0, hu0, hq0⟩ := Zbl (P := Tryz.prog) Zip (hst.at 0 rfl)
             exact Z8 rfl hst hb hu0 hq0
           · replace H0 := Z0 hc9 H0
             refine wp_seq ?_
             refine r_s (L := [(2, _), (3, _)]) (T := [⟨[.old 1], _, [], [], [20]⟩, ⟨[.op 0 0], _, [], [0], [19]⟩]) (F := [.old 0, .old 1, .op 1 0]) (hst.pick [0, 1] rfl) hb Zb
               (o_p rfl (Zb1 rfl rfl u_0 c_i) <| o_p rfl (Zc rfl rfl u_0) <| o_n) (by kernel_rfl) (fun a g hst hb => ?_)
             refine Zcs (fun a w => ∃ (j11 : Bool) (g : G), w = g.w ∧ St 24 [(2, (pBox Zcx 2 (default : Zb2))), (19, (Zbe j11))] a g ∧ Base g0 g ∧ Zjt j11 = some r) ?_ ?_
             · rintro a w ⟨j11, g, rfl, hst, hb, H0⟩
               unfold Zjt at H0
               refine Zv ?_
               refine wp_cond_split (hst.bool 1 rfl) (fun hc12 => ?_) (fun hc12 => ?_)
               · replace H0 := Zz hc12 H0
                 refine r_s (L := [(2, _)]) (T := [⟨[], _, [], [], [22]⟩, ⟨[.op 0 0, .old 0], _, [3], [0], [2]⟩]) (F := [.op 1 0]) (hst.pick [0] rfl) hb Zb
                   (o_p rfl (Z4y rfl rfl c_b) <| o_p rfl (Zba Zip rfl rfl u_1 u_0) <| o_n) (by kernel_rfl) (fun a g hst hb => ?_)
                 refine wp_ret ?_
                 refine Z7 ?_
                 refine Zt ?_
                 obtain rfl := Option.some.inj H0
                 obtain ⟨u0, hu0, hq0⟩ := Zbl (P := Tryz.prog) Zip (hst.at 0 rfl)
                 exact Z8 rfl hst hb hu0 hq0
               · replace H0 := Z0 hc12 H0
                 refine wp_skip ?_
                 refine Zbp ?_
                 refine Zv ?_
                 refine r_s (L := [(2, _)]) (T := [⟨[], _, [], [], [23]⟩, ⟨[.op 0 0, .old 0], _, [3], [0], [2]⟩]) (F := [.op 1 0]) (hst.pick [0] rfl) hb Zb
                   (o_p rfl (Z6k rfl rfl ) <| o_p rfl (Zba Zip rfl rfl u_1 u_0) <| o_n) (by kernel_rfl) (fun a g hst hb => ?_)
                 refine wp_ret ?_
                 obtain rfl := Option.some.inj H0
                 obtain ⟨u0, hu0, hq0⟩ := Zbl (P := Tryz.prog) Zip (hst.at 0 rfl)
                 exact Z8 rfl hst hb hu0 hq0
             · refine wp_cond_split (hst.bool 2 rfl) (fun hc10 => ?_) (fun hc10 => ?_)
               · replace H0 := Zz hc10 H0
                 refine wp_skip ?_
                 exact ⟨(a0 == (8 : Int)), g, rfl, (hst.pick [0, 2] rfl), hb, H0⟩
               · replace H0 := Z0 hc10 H0
                 refine r_g (L := [(2, _), (3, _)]) (T := [⟨[.old 1], _, [], [], [21]⟩, ⟨[.op 0 0], _, [], [0], [19]⟩]) (F := [.old 0, .op 1 0]) (hst.pick [0, 1] rfl) hb Zb
                   (o_p rfl (Zb1 rfl rfl u_0 c_i) <| o_p rfl (Zc rfl rfl u_0) <| o_n) (by kernel_rfl) (fun a g hst hb => ?_)
                 exact ⟨(a0 == (9 : Int)), g, rfl, (hst.pick [0, 1] rfl), hb, H0⟩
         · refine wp_cond_split (hst.bool 2 rfl) (fun hc6 => ?_) (fun hc6 => ?_)
           · replace H0 := Zz hc6 H0
             refine wp_skip ?_
             exact ⟨(a0 == (5 : Int)), g, rfl, (hst.pick [0, 1, 2] rfl), hb, H0⟩
           · replace H0 := Z0 hc6 H0
             refine r_s (L := [(2, _), (3, _)]) (T := [⟨[.old 1], _, [], [], [16]⟩, ⟨[.op 0 0], _, [], [0], [14]⟩]) (F := [.old 0, .old 1, .op 1 0]) (hst.pick [0, 1] rfl) hb Zb
               (o_p rfl (Zb1 rfl rfl u_0 c_i) <| o_p rfl (Zc rfl rfl u_0) <| o_n) (by kernel_rfl) (fun a g hst hb => ?_)
             refine wp_cond_split (hst.bool 2 rfl) (fun hc7 => ?_) (fun hc7 => ?_)
             · replace H0 := Zz hc7 H0
               refine wp_skip ?_
               exact ⟨(a0 == (6 : Int)), g, rfl, (hst.pick [0, 1, 2] rfl), hb, H0⟩
             · replace H0 := Z0 hc7 H0
               refine r_g (L := [(2, _), (3, _)]) (T := [⟨[.old 1], _, [], [], [17]⟩, ⟨[.op 0 0], _, [], [0], [14]⟩]) (F := [.old 0, .old 1, .op 1 0]) (hst.pick [0, 1] rfl) hb Zb
                 (o_p rfl (Zb1 rfl rfl u_0 c_i) <| o_p rfl (Zc rfl rfl u_0) <| o_n) (by kernel_rfl) (fun a g hst hb => ?_)
               exact ⟨(a0 == (7 : Int)), g, rfl, (hst.pick [0, 1, 2] rfl), hb, H0⟩
   · refine wp_cond_split (hst.bool 2 rfl) (fun hc2 => ?_) (fun hc2 => ?_)
     · replace H0 := Zz hc2 H0
       refine wp_skip ?_
       exact ⟨(a0 == (2 : Int)), g, rfl, (hst.pick [0, 1, 2] rfl), hb, H0⟩
     · replace H0 := Z0 hc2 H0
       refine r_g (L := [(2, _), (3, _)]) (T := [⟨[.old 1], _, [], [], [9]⟩, ⟨[.op 0 0], _, [], [0], [7]⟩]) (F := [.old 0, .old 1, .op 1 0]) (hst.pick [0, 1] rfl) hb Zb
         (o_p rfl (Zb1 rfl rfl u_0 c_i) <| o_p rfl (Zc rfl rfl u_0) <| o_n) (by kernel_rfl) (fun a g hst hb => ?_)
       exact ⟨(a0 == (3 : Int)), g, rfl, (hst.pick [0, 1, 2] rfl), hb, H0⟩
theorem Zzn {r : Nat} (h : Zpn = some r) : FnOk Tryz.prog 132 [] (pFlt r) := by
 have H0 := h
 unfold Zpn at H0
 clear h
 refine Zbv (N := 2) Tryz.func132 rfl rfl (Nat.le_of_ble_eq_true rfl) rfl rfl (fun a g0 hst hb => ?_)
 refine r_s (T := [⟨[], _, [], [], [0]⟩]) (F := []) hst hb Zb
   (o_p rfl (Zc rfl rfl c_f) <| o_n) (by kernel_rfl) (fun a g hst hb => ?_)
 refine r_s (T := [⟨[], _, [], [], [1]⟩, ⟨[.op 0 0], _, [], [0], [0]⟩]) (F := [.op 1 0]) hst hb Zb
   (o_p rfl (Zze Z9d rfl rfl c_i) <| o_p rfl (Zc rfl rfl u_0) <| o_n) (by kernel_rfl) (fun a g hst hb => ?_)
 refine wp_ret ?_
 obtain rfl := Option.some.inj H0
 exact Z8 rfl hst hb (Zk (s := 0)) (hst.at 0 rfl)
theorem Zg4 (a0 : Nat) {r : Nat} (h : Zff a0 = some r) : FnOk Tryz.prog 100 [(pFlt a0)] (pFlt r) := by
 have H0 := h
 unfold Zff at H0
 clear h
 refine Zbv (N := 8) Tryz.func100 rfl rfl (Nat.le_of_ble_eq_true rfl) rfl rfl (fun a g0 hst hb => ?_)
 refine r_s (T := [⟨[], _, [], [], [2]⟩]) (F := [.old 0]) hst hb Zb
   (o_p rfl (Zc rfl rfl c_f) <| o_n) (by kernel_rfl) (fun a g hst hb => ?_)
 refine wp_seq ?_
 refine r_s (T := [⟨[.old 0], _, [], [], [3]⟩, ⟨[.old 0], _, [], [], [4]⟩, ⟨[.op 0 0, .op 1 0], _, [], [0, 1], [5]⟩]) (F := [.old 0, .op 2 0]) hst hb Zb
   (o_p rfl (Za rfl rfl u_0) <| o_p rfl (Za rfl rfl u_0) <| o_p rfl (Z0j rfl rfl u_0 u_1) <| o_n) (by kernel_rfl) (fun a g hst hb => ?_)
 refine wp_cond_split (hst.bool 1 rfl) (fun hc1 => ?_) (fun hc1 => ?_)
 · replace H0 := Zz hc1 H0
   obtain ⟨r2, h3, H0⟩ := Zg H0
   refine r_s (L := []) (T := [⟨[], _, [], [], [6]⟩, ⟨[.op 0 0], _, [], [0], [2]⟩]) (F := [.op 1 0]) (hst.pick [] rfl) hb Zb
     (o_p rfl (Zq Z9j (Zzn h3) rfl rfl .nil) <| o_p rfl (Zc rfl rfl u_0) <| o_n) (by kernel_rfl) (fun a g hst hb => ?_)
   refine wp_ret ?_
   refine Zt ?_
   obtain rfl := Option.some.inj H0
   exact Z8 rfl hst hb (Zk (s := 2)) (hst.at 0 rfl)
 · replace H0 := Z0 hc1 H0
   refine wp_skip ?_
   refine Zv ?_
   refine r_s (L := [(0, _)]) (T := [⟨[.old 0], _, [], [], [7]⟩, ⟨[.op 0 0], _, [], [0], [2]⟩]) (F := [.op 1 0]) (hst.pick [0] rfl) hb Zb
     (o_p rfl (Za rfl rfl u_0) <| o_p rfl (Zc rfl rfl u_0) <| o_n) (by kernel_rfl) (fun a g hst hb => ?_)
   refine wp_ret ?_
   obtain rfl := Option.some.inj H0
   exact Z8 rfl hst hb (Zk (s := 2)) (hst.at 0 rfl)
theorem Zni (a0 : Nat) {r : Int} (h : Zli a0 = some r) : FnOk Tryz.prog 89 [(pFlt a0)] (pInt .u64 r) := by
 have H0 := h
 unfold Zli at H0
 clear h
 refine Zbv (N := 14) Tryz.func89 rfl rfl (Nat.le_of_ble_eq_true rfl) rfl rfl (fun a g0 hst hb => ?_)
 refine r_s (T := [⟨[], _, [], [], [2]⟩]) (F := [.old 0]) hst hb Zb
   (o_p rfl (Zc rfl rfl c_i) <| o_n) (by kernel_rfl) (fun a g hst hb => ?_)
 obtain ⟨r1, h2, H0⟩ := Zg H0
 refine r_s (T := [⟨[.old 0], _, [], [], [4]⟩, ⟨[.op 0 0], _, [], [0], [5]⟩, ⟨[.op 1 0], _, [], [0, 1], [6]⟩, ⟨[.op 2 0], _, [], [0, 1, 2], [3]⟩]) (F := [.op 3 0]) hst hb Zb
   (o_p rfl (Za rfl rfl u_0) <| o_p rfl (Zq Zmy (Zg4 _ h2) rfl rfl (.cons u_0 .nil)) <| o_p rfl (Zrm Zww rfl rfl u_0) <| o_p rfl (Zc rfl rfl u_0) <| o_n) (by kernel_rfl) (fun a g hst hb => ?_)
 refine wp_seq ?_
 refine r_s (T := [⟨[.old 0], _, [], [], [7]⟩, ⟨[.op 0 0], _, [], [0], [8]⟩, ⟨[.op 1 0], _, [], [0, 1], [9]⟩]) (F := [.old 0, .op 2 0]) hst hb Zb
   (o_p rfl (Za rfl rfl u_0) <| o_p rfl (Z9c rfl rfl u_0 c_i) <| o_p rfl (Zg9 rfl rfl u_0 c_i) <| o_n) (by kernel_rfl) (fun a g hst hb => ?_)
 refine wp_cond_split (hst.bool 1 rfl) (fun hc3 => ?_) (fun hc3 => ?_)
 · replace H0 := Zz hc3 H0
   refine r_s (L := [(3, _)]) (T := [⟨[.old 0], _, [], [], [10]⟩, ⟨[.op 0 0], _, [], [0], [11]⟩, ⟨[.op 1 0], _, [], [0, 1], [2]⟩]) (F := [.op 2 0]) (hst.pick [0] rfl) hb Zb
     (o_p rfl (Za rfl rfl u_0) <| o_p rfl (Z55 rfl rfl rfl u_0) <| o_p rfl (Zc rfl rfl u_0) <| o_n) (by kernel_rfl) (fun a g hst hb => ?_)
   refine wp_ret ?_
   refine Zt ?_
   obtain rfl := Option.some.inj H0
   exact Z8 rfl hst hb (Zk (s := 2)) (hst.at 0 rfl)
 · replace H0 := Z0 hc3 H0
   refine wp_skip ?_
   refine Zv ?_
   refine r_s (L := [(3, _)]) (T := [⟨[.old 0], _, [], [], [12]⟩, ⟨[.op 0 0], _, [], [0], [13]⟩, ⟨[.op 1 0], _, [], [0, 1], [2]⟩]) (F := [.op 2 0]) (hst.pick [0] rfl) hb Zb
     (o_p rfl (Za rfl rfl u_0) <| o_p rfl (Zbax rfl rfl u_0 c_i) <| o_p rfl (Zc rfl rfl u_0) <| o_n) (by kernel_rfl) (fun a g hst hb => ?_)
   refine wp_ret ?_
   obtain rfl := Option.some.inj H0
   exact Z8 rfl hst hb (Zk (s := 2)) (hst.at 0 rfl)
theorem Zjx (a0 : Nat) (a1 : Nat) {r : Bool} (h : Ziv a0 a1 = some r) : FnOk Tryz.prog 62 [(pFlt a0), (pFlt a1)] (Zbe r) := by
 have H0 := h
 unfold Ziv at H0
 clear h
 refine Zbv (N := 10) Tryz.func62 rfl rfl (Nat.le_of_ble_eq_true rfl) rfl rfl (fun a g0 hst hb => ?_)
 refine r_s (T := [⟨[], _, [], [], [4]⟩]) (F := [.old 0, .old 1]) hst hb Zb
   (o_p rfl (Zc rfl rfl c_b) <| o_n) (by kernel_rfl) (fun a g hst hb => ?_)
 obtain ⟨r1, h2, H0⟩ := Zg H0; obtain ⟨r3, h4, H0⟩ := Zg H0
 refine r_s (T := [⟨[.old 0], _, [], [], [5]⟩, ⟨[.op 0 0], _, [], [0], [6]⟩, ⟨[.old 1], _, [], [], [7]⟩, ⟨[.op 2 0], _, [], [0, 1, 2], [8]⟩, ⟨[.op 1 0, .op 3 0], _, [], Lr 4, [9]⟩, ⟨[.op 4 0], _, [], Lr 5, [4]⟩]) (F := [.op 5 0]) hst hb Zb
   (o_p rfl (Za rfl rfl u_0) <| o_p rfl (Zq Zw4 (Zni _ h2) rfl rfl (.cons u_0 .nil)) <| o_p rfl (Za rfl rfl u_0) <| o_p rfl (Zq Zw4 (Zni _ h4) rfl rfl (.cons u_0 .nil)) <| o_p rfl (Zb1 rfl rfl u_0 u_1) <| o_p rfl (Zc rfl rfl u_0) <| o_n) (by kernel_rfl) (fun a g hst hb => ?_)
 refine wp_ret ?_
 obtain rfl := Option.some.inj H0
 exact Z8 rfl hst hb (Zk (s := 4)) (hst.at 0 rfl)
theorem Zzl (a0 : Zd) (a1 : Zb2) {r : Bool} (h : Zn4 a0 a1 = some r) : FnOk Tryz.prog 76 [(Zh.pd a0), (Zcx.pd a1)] (Zbe r) := by
 have H0 := h
 unfold Zn4 at H0
 clear h
 refine Zbv (N := 59) Tryz.func76 rfl rfl (Nat.le_of_ble_eq_true rfl) rfl rfl (fun a g0 hst hb => ?_)
 refine r_s (T := [⟨[.old 0], _, [], [], [2]⟩, ⟨[.old 1], _, [], [], [3]⟩, ⟨[], _, [], [], [4]⟩]) (F := [.op 0 0, .op 1 0]) hst hb Zb
   (o_p rfl (Zbr rfl rfl u_0) <| o_p rfl (Zbr rfl rfl u_0) <| o_p rfl (Zc rfl rfl c_b) <| o_n) (by kernel_rfl) (fun a g hst hb => ?_)
 obtain ⟨r1, h2, H0⟩ := Zg H0
 refine r_s (T := ⟨[.old 1], _, [], [], [5]⟩ :: ⟨[.op 0 0], _, [], [0], [6]⟩ :: ⟨[.op 1 0], _, [], [0, 1], [7]⟩ :: ⟨[.op 2 0, .old 0], _, [], [0, 1, 2], [8]⟩ :: ⟨[.op 2 0, .op 3 0], _, [], Lr 4, [9]⟩ :: ⟨[.op 2 0, .op 4 0], _, [], Lr 5, [10]⟩ :: ⟨[.op 2 0, .op 5 0], _, [], Lr 6, [11]⟩ :: ⟨[.op 6 0], _, [], Lr 7, [12]⟩ :: ⟨[.op 7 0, .old 1], _, [], Lr 8, [13]⟩ :: ⟨[.op 7 0, .op 8 0], _, [], Lr 9, [14]⟩ :: ⟨[.op 7 0, .op 9 0], _, [], Lr 10, [15]⟩ :: ⟨[.op 10 0, .old 0], _, [], Lr 11, [16]⟩ :: ⟨[.op 10 0, .op 11 0], _, [], Lr 12, [17]⟩ :: ⟨[.op 10 0, .op 12 0], _, [], Lr 13, [18]⟩ :: ⟨[.op 7 0, .op 10 0, .op 13 0], _, [], Lr 14, [19]⟩ :: ⟨[.op 7 0, .op 14 0], _, [], Lr 15, [20]⟩ :: ⟨[.op 15 0], _, [], Lr 16, [21]⟩ :: ⟨[.op 16 0, .old 1], _, [], Lr 17, [22]⟩ :: ⟨[.op 16 0, .op 17 0], _, [], Lr 18, [23]⟩ :: ⟨[.op 16 0, .op 18 0], _, [], Lr 19, [24]⟩ :: ⟨[.op 19 0, .old 0], _, [], Lr 20, [25]⟩ :: ⟨[.op 19 0, .op 20 0], _, [], Lr 21, [26]⟩ :: ⟨[.op 19 0, .op 21 0], _, [], Lr 22, [27]⟩ :: ⟨[.op 19 0, .op 22 0], _, [], Lr 23, [28]⟩ :: ⟨[.op 23 0, .old 0], _, [], Lr 24, [29]⟩ :: ⟨[.op 23 0, .op 24 0], _, [], Lr 25, [30]⟩ :: ⟨[.op 23 0, .op 25 0], _, [], Lr 26, [31]⟩ :: ⟨[.op 19 0, .op 23 0, .op 26 0], _, [], Lr 27, [32]⟩ :: ⟨[.op 16 0, .op 19 0, .op 27 0], _, [], Lr 28, [33]⟩ :: ⟨[.op 16 0, .op 28 0], _, [], Lr 29, [34]⟩ :: ⟨[.op 29 0], _, [], Lr 30, [35]⟩ :: ⟨[.op 30 0, .old 1], _, [], Lr 31, [36]⟩ :: ⟨[.op 30 0, .op 31 0], _, [], Lr 32, [37]⟩ :: ⟨[.op 30 0, .op 32 0], _, [], Lr 33, [38]⟩ :: ⟨[.op 33 0, .old 0], _, [], Lr 34, [39]⟩ :: ⟨[.op 33 0, .op 34 0], _, [], Lr 35, [40]⟩ :: ⟨[.op 33 0, .op 35 0], _, [], Lr 36, [41]⟩ :: ⟨[.op 30 0, .op 33 0, .op 36 0], _, [], Lr 37, [42]⟩ :: ⟨[.op 30 0, .op 37 0], _, [], Lr 38, [43]⟩ :: ⟨[.op 38 0], _, [], Lr 39, [44]⟩ :: ⟨[.op 39 0, .old 1], _, [], Lr 40, [45]⟩ :: ⟨[.op 39 0, .op 40 0], _, [], Lr 41, [46]⟩ :: ⟨[.op 39 0, .op 41 0], _, [], Lr 42, [47]⟩ :: ⟨[.op 42 0, .old 0], _, [], Lr 43, [48]⟩ :: ⟨[.op 42 0, .op 43 0], _, [], Lr 44, [49]⟩ :: ⟨[.op 42 0, .op 44 0], _, [], Lr 45, [50]⟩ :: ⟨[.op 42 0, .op 45 0], _, [], Lr 46, [51]⟩ :: ⟨[.op 46 0, .old 0], _, [], Lr 47, [52]⟩ :: ⟨[.op 46 0, .op 47 0], _, [], Lr 48, [53]⟩ :: ⟨[.op 46 0, .op 48 0], _, [], Lr 49, [54]⟩ :: ⟨[.op 46 0, .op 49 0], _, [], Lr 50, [55]⟩ :: ⟨[.op 42 0, .op 46 0, .op 50 0], _, [], Lr 51, [56]⟩ :: ⟨[.op 39 0, .op 42 0, .op 51 0], _, [], Lr 52, [57]⟩ :: ⟨[.op 39 0, .op 52 0], _, [], Lr 53, [58]⟩ :: ⟨[.op 53 0], _, [], Lr 54, [4]⟩ :: []) (F := [.op 54 0]) hst hb Zb
   (o_p rfl (Ze Z4m rfl rfl u_0) <| o_p rfl (Zf ty_4 rfl rfl u_0) <| o_p rfl (Za rfl rfl u_0) <| o_g (g_f rfl rfl rfl (fun hG => Ze Zkp rfl rfl u_0)) <| o_g (g_f rfl rfl rfl (fun hG => Zf ty_9 rfl rfl (Opd.gd hG u_0))) <| o_g (g_f rfl rfl rfl (fun hG => Zk7 rfl rfl (Opd.gd hG u_0) c_s)) <| o_p rfl (Zbu rfl rfl u_0 (fun hz => (Opd.gd (bNF hz) u_1))) <| o_p rfl (Za rfl rfl u_0) <| o_g (g_t rfl rfl rfl (fun hG => Ze Z4k rfl rfl u_0)) <| o_g (g_t rfl rfl rfl (fun hG => Zf ty_4 rfl rfl (Opd.gd hG u_0))) <| o_g (g_t rfl rfl rfl (fun hG => Za rfl rfl (Opd.gd hG u_0))) <| o_g (g_fi rfl rfl rfl (fun hG => Ze Zem rfl rfl u_0)) <| o_g (g_fi rfl rfl rfl (fun hG => Zf ty_2 rfl rfl (Opd.gd hG u_0))) <| o_g (g_fi rfl rfl rfl (fun hG => Zb1 rfl rfl (Opd.gd hG u_0) c_i)) <| o_g (g_t rfl rfl rfl (fun hG => Zbu rfl rfl (Opd.gd hG u_0) (fun hz => (Opd.gd (bA hG (bNF hz)) u_1)))) <| o_p rfl (Zbm rfl rfl u_0 (fun hz => (Opd.gd hz u_1))) <| o_p rfl (Za rfl rfl u_0) <| o_g (g_t rfl rfl rfl (fun hG => Ze Zyc rfl rfl u_0)) <| o_g (g_t rfl rfl rfl (fun hG => Zf ty_4 rfl rfl (Opd.gd hG u_0))) <| o_g (g_t rfl rfl rfl (fun hG => Za rfl rfl (Opd.gd hG u_0))) <| o_g (g_fi rfl rfl rfl (fun hG => Ze Zkj rfl rfl u_0)) <| o_g (g_fi rfl rfl rfl (fun hG => Zf ty_2 rfl rfl (Opd.gd hG u_0))) <| o_g (g_fi rfl rfl rfl (fun hG => Zb1 rfl rfl (Opd.gd hG u_0) c_i)) <| o_g (g_fi rfl rfl rfl (fun hG => Za rfl rfl (Opd.gd hG u_0))) <| o_g (g_ti rfl rfl rfl (fun hG => Ze Zkt rfl rfl u_0)) <| o_g (g_ti rfl rfl rfl (fun hG => Zf ty_2 rfl rfl (Opd.gd hG u_0))) <| o_g (g_ti rfl rfl rfl (fun hG => Zb1 rfl rfl (Opd.gd hG u_0) c_i)) <| o_g (g_fi rfl rfl rfl (fun hG => Zbm rfl rfl (Opd.gd hG u_0) (fun hz => (Opd.gd (bA hG hz) u_1)))) <| o_g (g_t rfl rfl rfl (fun hG => Zbu rfl rfl (Opd.gd hG u_0) (fun hz => (Opd.gd (bA hG (bNF hz)) u_1)))) <| o_p rfl (Zbm rfl rfl u_0 (fun hz => (Opd.gd hz u_1))) <| o_p rfl (Za rfl rfl u_0) <| o_g (g_t rfl rfl rfl (fun hG => Ze Z4v rfl rfl u_0)) <| o_g (g_t rfl rfl rfl (fun hG => Zf ty_4 rfl rfl (Opd.gd hG u_0))) <| o_g (g_t rfl rfl rfl (fun hG => Za rfl rfl (Opd.gd hG u_0))) <| o_g (g_fi rfl rfl rfl (fun hG => Ze Zlo rfl rfl u_0)) <| o_g (g_fi rfl rfl rfl (fun hG => Zf Zfg rfl rfl (Opd.gd hG u_0))) <| o_g (g_fi rfl rfl rfl (fun hG => Zq Zrx (Zjx _ _ (Zbq h2 hG)) rfl rfl (.cons (Opd.gd hG u_0) (.cons c_f .nil)))) <| o_g (g_t rfl rfl rfl (fun hG => Zbu rfl rfl (Opd.gd hG u_0) (fun hz => (Opd.gd (bA hG (bNF hz)) u_1)))) <| o_p rfl (Zbm rfl rfl u_0 (fun hz => (Opd.gd hz u_1))) <| o_p rfl (Za rfl rfl u_0) <| o_g (g_t rfl rfl rfl (fun hG => Ze Zyu rfl rfl u_0)) <| o_g (g_t rfl rfl rfl (fun hG => Zf ty_4 rfl rfl (Opd.gd hG u_0))) <| o_g (g_t rfl rfl rfl (fun hG => Za rfl rfl (Opd.gd hG u_0))) <| o_g (g_fi rfl rfl rfl (fun hG => Ze Zh7 rfl rfl u_0)) <| o_g (g_fi rfl rfl rfl (fun hG => Zf ty_3 rfl rfl (Opd.gd hG u_0))) <| o_g (g_fi rfl rfl rfl (fun hG => Zb1 rfl rfl (Opd.gd hG u_0) c_i)) <| o_g (g_fi rfl rfl rfl (fun hG => Za rfl rfl (Opd.gd hG u_0))) <| o_g (g_ti rfl rfl rfl (fun hG => Ze Zdp rfl rfl u_0)) <| o_g (g_ti rfl rfl rfl (fun hG => Zf Ze9 rfl rfl (Opd.gd hG u_0))) <| o_g (g_ti rfl rfl rfl (fun hG => Zce Tryz.underlying36 rfl rfl (Opd.gd hG u_0))) <| o_g (g_ti rfl rfl rfl (fun hG => Zb1 rfl rfl (Opd.gd hG u_0) c_i)) <| o_g (g_fi rfl rfl rfl (fun hG => Zbm rfl rfl (Opd.gd hG u_0) (fun hz => (Opd.gd (bA hG hz) u_1)))) <| o_g (g_t rfl rfl rfl (fun hG => Zbu rfl rfl (Opd.gd hG u_0) (fun hz => (Opd.gd (bA hG (bNF hz)) u_1)))) <| o_p rfl (Zbm rfl rfl u_0 (fun hz => (Opd.gd hz u_1))) <| o_p rfl (Zc rfl rfl u_0) <| o_n) (by kernel_rfl) (fun a g hst hb => ?_)
 refine wp_ret ?_
 obtain rfl := Option.some.inj H0
 exact Z8 rfl hst hb (Zk (s := 4)) (hst.at 0 rfl)
theorem Zne (a0 : Nat) {r : Bool} (h : Zji a0 = some r) : FnOk Tryz.prog 77 [(pFlt a0)] (Zbe r) := by
 have H0 := h
 unfold Zji at H0
 clear h
 refine Zbv (N := 9) Tryz.func77 rfl rfl (Nat.le_of_ble_eq_true rfl) rfl rfl (fun a g0 hst hb => ?_)
 refine r_s (T := [⟨[], _, [], [], [2]⟩]) (F := [.old 0]) hst hb Zb
   (o_p rfl (Zc rfl rfl c_b) <| o_n) (by kernel_rfl) (fun a g hst hb => ?_)
 obtain ⟨r1, h2, H0⟩ := Zg H0
 refine r_s (T := [⟨[.old 0], _, [], [], [3]⟩, ⟨[.op 0 0], _, [], [0], [4]⟩, ⟨[.old 0], _, [], [], [5]⟩, ⟨[.op 2 0], _, [], [0, 1, 2], [6]⟩, ⟨[.op 3 0], _, [], Lr 4, [7]⟩, ⟨[.op 1 0, .op 4 0], _, [], Lr 5, [8]⟩, ⟨[.op 5 0], _, [], Lr 6, [2]⟩]) (F := [.op 6 0]) hst hb Zb
   (o_p rfl (Za rfl rfl u_0) <| o_p rfl (Zrm Zww rfl rfl u_0) <| o_p rfl (Za rfl rfl u_0) <| o_p rfl (Zq Zmy (Zg4 _ h2) rfl rfl (.cons u_0 .nil)) <| o_p rfl (Zrm Zww rfl rfl u_0) <| o_p rfl (Zb1 rfl rfl u_0 u_1) <| o_p rfl (Zc rfl rfl u_0) <| o_n) (by kernel_rfl) (fun a g hst hb => ?_)
 refine wp_ret ?_
 obtain rfl := Option.some.inj H0
 exact Z8 rfl hst hb (Zk (s := 2)) (hst.at 0 rfl)
theorem Zoz (a0 : Nat) (a1 : Nat) {r : Bool} (h : Zle a0 a1 = some r) : FnOk Tryz.prog 133 [(pFlt a0), (pFlt a1)] (Zbe r) := by
 have H0 := h
 unfold Zle at H0
 clear h
 refine Zbv (N := 10) Tryz.func133 rfl rfl (Nat.le_of_ble_eq_true rfl) rfl rfl (fun a g0 hst hb => ?_)
 refine r_s (T := [⟨[], _, [], [], [4]⟩]) (F := [.old 0, .old 1]) hst hb Zb
   (o_p rfl (Zc rfl rfl c_b) <| o_n) (by kernel_rfl) (fun a g hst hb => ?_)
 obtain ⟨r1, h2, H0⟩ := Zg H0; obtain ⟨r3, h4, H0⟩ := Zg H0
 refine r_s (T := [⟨[.old 0], _, [], [], [5]⟩, ⟨[.op 0 0], _, [], [0], [6]⟩, ⟨[.old 1], _, [], [], [7]⟩, ⟨[.op 2 0], _, [], [0, 1, 2], [8]⟩, ⟨[.op 1 0, .op 3 0], _, [], Lr 4, [9]⟩, ⟨[.op 4 0], _, [], Lr 5, [4]⟩]) (F := [.op 5 0]) hst hb Zb
   (o_p rfl (Za rfl rfl u_0) <| o_p rfl (Zq Zw4 (Zni _ h2) rfl rfl (.cons u_0 .nil)) <| o_p rfl (Za rfl rfl u_0) <| o_p rfl (Zq Zw4 (Zni _ h4) rfl rfl (.cons u_0 .nil)) <| o_p rfl (Zc0 rfl rfl u_0 u_1) <| o_p rfl (Zc rfl rfl u_0) <| o_n) (by kernel_rfl) (fun a g hst hb => ?_)
 refine wp_ret ?_
 obtain rfl := Option.some.inj H0
 exact Z8 rfl hst hb (Zk (s := 4)) (hst.at 0 rfl)
theorem Znd (a0 : Zj) (a1 : Zj) {r : Bool} (h : Zjn a0 a1 = some r) : FnOk Tryz.prog 101 [(Zx.pd a0), (Zx.pd a1)] (Zbe r) := by
 have H0 := h
 unfold Zjn at H0
 clear h
 refine Zbv (N := 21) Tryz.func101 rfl rfl (Nat.le_of_ble_eq_true rfl) rfl rfl (fun a g0 hst hb => ?_)
 refine r_s (T := [⟨[.old 0], _, [], [], [2]⟩, ⟨[.old 1], _, [], [], [3]⟩, ⟨[], _, [], [], [4]⟩]) (F := [.op 0 0, .op 1 0]) hst hb Zb
   (o_p rfl (Zbr rfl rfl u_0) <| o_p rfl (Zbr rfl rfl u_0) <| o_p rfl (Zc rfl rfl c_b) <| o_n) (by kernel_rfl) (fun a g hst hb => ?_)
 refine wp_seq ?_
 obtain ⟨r1, h2, H0⟩ := Zg H0
 refine r_s (T := [⟨[.old 0], _, [], [], [5]⟩, ⟨[.op 0 0], _, [], [0], [6]⟩, ⟨[.old 1], _, [], [], [7]⟩, ⟨[.op 2 0], _, [], [2], [8]⟩, ⟨[.op 1 0, .op 3 0], _, [], Lr 4, [9]⟩, ⟨[.op 4 0], _, [], Lr 5, [10]⟩]) (F := [.old 0, .old 1, .op 5 0]) hst hb Zb
   (o_p rfl (Ze Zf4 rfl rfl u_0) <| o_p rfl (Zf Zfg rfl rfl u_0) <| o_p rfl (Ze Zf4 rfl rfl u_0) <| o_p rfl (Zf Zfg rfl rfl u_0) <| o_p rfl (Zq Zrx (Zjx _ _ h2) rfl rfl (.cons u_0 (.cons u_1 .nil))) <| o_p rfl (Zcg rfl rfl u_0) <| o_n) (by kernel_rfl) (fun a g hst hb => ?_)
 refine wp_cond_split (hst.bool 2 rfl) (fun hc3 => ?_) (fun hc3 => ?_)
 · replace H0 := Zz hc3 H0
   obtain ⟨r4, h5, H0⟩ := Zg H0
   refine r_s (L := [(2, _), (3, _)]) (T := [⟨[.old 1], _, [], [], [11]⟩, ⟨[.op 0 0], _, [], [0], [12]⟩, ⟨[.old 0], _, [], [], [13]⟩, ⟨[.op 2 0], _, [], [2], [14]⟩, ⟨[.op 1 0, .op 3 0], _, [], Lr 4, [15]⟩, ⟨[.op 4 0], _, [], Lr 5, [4]⟩]) (F := [.op 5 0]) (hst.pick [0, 1] rfl) hb Zb
     (o_p rfl (Ze Zf4 rfl rfl u_0) <| o_p rfl (Zf Zfg rfl rfl u_0) <| o_p rfl (Ze Zf4 rfl rfl u_0) <| o_p rfl (Zf Zfg rfl rfl u_0) <| o_p rfl (Zq Zxz (Zoz _ _ h5) rfl rfl (.cons u_0 (.cons u_1 .nil))) <| o_p rfl (Zc rfl rfl u_0) <| o_n) (by kernel_rfl) (fun a g hst hb => ?_)
   refine wp_ret ?_
   refine Zt ?_
   obtain rfl := Option.some.inj H0
   exact Z8 rfl hst hb (Zk (s := 4)) (hst.at 0 rfl)
 · replace H0 := Z0 hc3 H0
   refine wp_skip ?_
   refine Zv ?_
   refine r_s (L := [(2, _), (3, _)]) (T := [⟨[.old 0], _, [], [], [16]⟩, ⟨[.op 0 0], _, [], [0], [17]⟩, ⟨[.old 1], _, [], [], [18]⟩, ⟨[.op 2 0], _, [], [2], [19]⟩, ⟨[.op 1 0, .op 3 0], _, [], Lr 4, [20]⟩, ⟨[.op 4 0], _, [], Lr 5, [4]⟩]) (F := [.op 5 0]) (hst.pick [0, 1] rfl) hb Zb
     (o_p rfl (Ze Zft rfl rfl u_0) <| o_p rfl (Zf ty_9 rfl rfl u_0) <| o_p rfl (Ze Zft rfl rfl u_0) <| o_p rfl (Zf ty_9 rfl rfl u_0) <| o_p rfl (Zmz rfl rfl u_0 u_1) <| o_p rfl (Zc rfl rfl u_0) <| o_n) (by kernel_rfl) (fun a g hst hb => ?_)
   refine wp_ret ?_
   obtain rfl := Option.some.inj H0
   exact Z8 rfl hst hb (Zk (s := 4)) (hst.at 0 rfl)
end Go.CL
