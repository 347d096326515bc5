/- A part of the proof of ShareMerges. -/
import Derived.Test.YtbiobpmabomjfaaDoorShareMergesC2
import Derived.Test.YtbiobpmabomjfaaDoorProg
set_option linter.unusedVariables false
set_option linter.unusedSimpArgs false
set_option maxRecDepth 100000
namespace Go.CL
open Go Go.RowKit
structure Zbw where
 text : Bool
 num : Bool
 bounds : Bool
 real : Bool
 list : Bool
 deriving Inhabited
structure Zh where
 Score : Nat
 Name : ByteArray
 deriving Inhabited
structure Zb where
 Kind : Int
 Num : Int
 Low : Int
 High : Int
 Real : Nat
 Cap : Int
 Text : ByteArray
 List : List Zh
 deriving Inhabited
structure Zcy where
 word : ByteArray
 on : Int
 has : ByteArray
 deriving Inhabited
structure Zs where
 Kind : Int
 Key : ByteArray
 N : Int
 X : Nat
 S : ByteArray
 Make : Zb
 Must : Bool
 deriving Inhabited
structure Zi where
 Code : Int
 Num : Int
 Rec : Zb
 deriving Inhabited
structure Z3 where
 up : Int
 down : Int
 deriving Inhabited
structure Z2 where
 r : Zb
 by_ : List Z3
 deriving Inhabited
structure Zb3 where
 Worker : Int
 Act : Zs
 deriving Inhabited
def g_1 : List Zcy := [{ word := ⟨#[]⟩, on := (0), has := ⟨#[]⟩ },
 { word := ⟨#[110, 101, 119]⟩, on := (0), has := ⟨#[109]⟩ },
 { word := ⟨#[100, 114, 111, 112]⟩, on := (0), has := ⟨#[]⟩ },
 { word := ⟨#[105, 115]⟩, on := (0), has := ⟨#[]⟩ },
 { word := ⟨#[108, 111, 111, 107]⟩, on := (0), has := ⟨#[]⟩ },
 { word := ⟨#[112, 117, 116]⟩, on := (1), has := ⟨#[115]⟩ },
 { word := ⟨#[115, 119, 97, 112]⟩, on := (1), has := ⟨#[115]⟩ },
 { word := ⟨#[97, 100, 100]⟩, on := (2), has := ⟨#[110]⟩ },
 { word := ⟨#[112, 108, 117, 115]⟩, on := (3), has := ⟨#[110]⟩ },
 { word := ⟨#[114, 101, 97, 99, 104]⟩, on := (3), has := ⟨#[110]⟩ },
 { word := ⟨#[105, 110]⟩, on := (4), has := ⟨#[110]⟩ },
 { word := ⟨#[111, 117, 116]⟩, on := (4), has := ⟨#[110]⟩ },
 { word := ⟨#[101, 110, 111, 117, 103, 104]⟩, on := (4), has := ⟨#[110]⟩ },
 { word := ⟨#[114, 97, 105, 115, 101]⟩, on := (5), has := ⟨#[120]⟩ },
 { word := ⟨#[108, 111, 119, 101, 114]⟩, on := (6), has := ⟨#[120]⟩ },
 { word := ⟨#[115, 104, 105, 102, 116]⟩, on := (7), has := ⟨#[120]⟩ },
 { word := ⟨#[115, 99, 97, 108, 101]⟩, on := (7), has := ⟨#[120]⟩ },
 { word := ⟨#[102, 105, 120]⟩, on := (7), has := ⟨#[120]⟩ },
 { word := ⟨#[106, 111, 105, 110]⟩, on := (8), has := ⟨#[115]⟩ },
 { word := ⟨#[108, 101, 97, 118, 101]⟩, on := (8), has := ⟨#[115]⟩ },
 { word := ⟨#[104, 97, 115]⟩, on := (8), has := ⟨#[115]⟩ },
 { word := ⟨#[111, 102, 102, 101, 114]⟩, on := (9), has := ⟨#[120, 115]⟩ }]
def Zih (j11 : Bool) : Option (Zbw) := (if j11 then (some ({ text := false, num := false, bounds := false, real := false, list := true } : Zbw)) else (some ({ text := false, num := false, bounds := false, real := false, list := false } : Zbw)))
def Zgv (a0 : Int) (j8 : Bool) : Option (Zbw) := (if j8 then (some ({ text := false, num := false, bounds := false, real := true, list := false } : Zbw)) else (if (a0 == (8 : Int)) then (Zih (a0 == (8 : Int))) else (Zih (a0 == (9 : Int)))))
def Zif (a0 : Int) (j3 : Bool) : Option (Zbw) := (if j3 then (some ({ text := false, num := true, bounds := false, real := false, list := false } : Zbw)) else (if (a0 == (4 : Int)) then (some ({ text := false, num := true, bounds := true, real := false, list := false } : Zbw)) else (if (a0 == (5 : Int)) then (Zgv a0 (a0 == (5 : Int))) else (if (a0 == (6 : Int)) then (Zgv a0 (a0 == (6 : Int))) else (Zgv a0 (a0 == (7 : Int)))))))
def Zdo (a0 : Int) : Option (Zbw) := (if (a0 == (1 : Int)) then (some ({ text := true, num := false, bounds := false, real := false, list := false } : Zbw)) else (if (a0 == (2 : Int)) then (Zif a0 (a0 == (2 : Int))) else (Zif a0 (a0 == (3 : Int)))))
def Zlv : Option (Nat) := (some (Int.toNat (9221120237041090561 : Int)))
def Zez (a0 : Nat) : Option (Nat) := (if (fneq a0 a0) then ((Zlv).bind fun r2 => (some r2)) else (some a0))
def Zjq (a0 : Nat) : Option (Int) := ((Zez a0).bind fun r1 => (if ((bAnd .u64 (r1 : Int) (9223372036854775808 : Int)) != (0 : Int)) then (some (bXor .u64 IntKind.u64.max (r1 : Int))) else (some (bOr .u64 (r1 : Int) (9223372036854775808 : Int)))))
def Zhf (a0 : Nat) (a1 : Nat) : Option (Bool) := ((Zjq a0).bind fun r1 => ((Zjq a1).bind fun r3 => (some (r1 == r3))))
def Zls (a0 : Zb) (a1 : Zbw) : Option (Bool) := ((gd ((((a1.text || (sEq a0.Text (⟨#[]⟩ : ByteArray))) && (a1.num || (a0.Num == (0 : Int)))) && (a1.bounds || ((a0.Low == (0 : Int)) && (a0.High == (0 : Int))))) && (!a1.real)) (Zhf a0.Real (0 : Nat))).bind fun r1 => (some (((((a1.text || (sEq a0.Text (⟨#[]⟩ : ByteArray))) && (a1.num || (a0.Num == (0 : Int)))) && (a1.bounds || ((a0.Low == (0 : Int)) && (a0.High == (0 : Int))))) && (a1.real || r1)) && (a1.list || ((a0.Cap == (0 : Int)) && ((a0.List.length : Int) == (0 : Int)))))))
def Zic (a0 : Nat) : Option (Bool) := ((Zez a0).bind fun r1 => (some ((a0 : Int) == (r1 : Int))))
def Zjo (a0 : Nat) (a1 : Nat) : Option (Bool) := ((Zjq a0).bind fun r1 => ((Zjq a1).bind fun r3 => (some (decide (r1 < r3)))))
def Zib (a0 : Zh) (a1 : Zh) : Option (Bool) := ((Zhf a0.Score a1.Score).bind fun r1 => (if (!r1) then ((Zjo a1.Score a0.Score).bind fun r4 => (some r4)) else (some (sLt a0.Name a1.Name))))
def Ze3 (a0 : Int) (a1 : List Zh) : Nat → (Int) → Option ((Int) ⊕ (Unit))
 | 0, _ => none
 | n + 1, x1 => (if (decide (x1 < (a1.length : Int))) then ((idx a1 x1).bind fun e3 => (if (decide ((16 : Int) < (e3.Name.size : Int))) then (some (.inl (3 : Int))) else ((gd (a0 == (8 : Int)) (Zhf e3.Score (0 : Nat))).bind fun r6 => ((gd (!((a0 == (8 : Int)) && (!r6))) (Zic e3.Score)).bind fun r8 => (if (((a0 == (8 : Int)) && (!r6)) || (!r8)) then (some (.inl (4 : Int))) else ((gd ((decide ((0 : Int) < x1)) && (a0 == (8 : Int))) (idx a1 (IntKind.i64.wrap (x1 - (1 : Int))))).bind fun e11 => (if (((decide ((0 : Int) < x1)) && (a0 == (8 : Int))) && (!sLt e11.Name e3.Name)) then (some (.inl (4 : Int))) else ((gd ((decide ((0 : Int) < x1)) && (a0 == (9 : Int))) (idx a1 (IntKind.i64.wrap (x1 - (1 : Int))))).bind fun e14 => ((gd ((decide ((0 : Int) < x1)) && (a0 == (9 : Int))) (Zib e14 e3)).bind fun r16 => (if (((decide ((0 : Int) < x1)) && (a0 == (9 : Int))) && (!r16)) then (some (.inl (4 : Int))) else ((Ze3 a0 a1 n) (IntKind.i64.wrap (x1 + (1 : Int)))))))))))))) else (some (.inr ())))
def Zky (a0 : Int) (a1 : List Zh) : Option (Int) := ((Ze3 a0 a1 (Int.toNat ((a1.length : Int) - (0 : Int)) + 1) (0 : Int)).bind fun z19 => match z19 with | .inl r => some r | .inr () => (some (0 : Int)))
def Zdy (a0 : Zb) : Option (Int) := ((Zdo a0.Kind).bind fun r1 => (if ((decide (a0.Kind ≤ (0 : Int))) || (decide ((10 : Int) ≤ a0.Kind))) then (some (5 : Int)) else ((Zls a0 r1).bind fun r4 => (if (!r4) then (some (4 : Int)) else (if (decide ((64 : Int) < (a0.Text.size : Int))) then (some (3 : Int)) else (if (r1.bounds && ((((decide (a0.Low < (-2305843009213693952 : Int))) || (decide ((2305843009213693952 : Int) < a0.High))) || (decide (a0.Num < a0.Low))) || (decide (a0.High < a0.Num)))) then (some (1 : Int)) else ((Zic a0.Real).bind fun r9 => (if (!r9) then (some (4 : Int)) else (if (!r1.list) then (some (0 : Int)) else (if ((decide (a0.Cap < (1 : Int))) || (decide ((32 : Int) < a0.Cap))) then (some (1 : Int)) else (if (decide (a0.Cap < (a0.List.length : Int))) then (some (8 : Int)) else ((Zky a0.Kind a0.List).bind fun r15 => (some r15)))))))))))))
def Zkn (j2 : Int) : Option (Nat) := (some (Int.toNat j2))
def Zpg (a0 : Int) : Option (Nat) := (if (decide ((0 : Int) ≤ a0)) then (Zkn (9218868437227405312 : Int)) else (Zkn (18442240474082181120 : Int)))
def Zhy (a0 : Zb) (j6 : Bool) : Option (Zb × Bool) := (if j6 then (some (({ Kind := (2 : Int), Num := (0 : Int), Low := (0 : Int), High := (0 : Int), Real := (0 : Nat), Cap := (0 : Int), Text := ByteArray.empty, List := ([] : List Zh) } : Zb), true)) else (if (a0.Kind == (5 : Int)) then ((Zpg (-1 : Int)).bind fun r9 => (some (({ Kind := (5 : Int), Num := (0 : Int), Low := (0 : Int), High := (0 : Int), Real := r9, Cap := (0 : Int), Text := ByteArray.empty, List := ([] : List Zh) } : Zb), true))) else (if (a0.Kind == (6 : Int)) then ((Zlv).bind fun r12 => (some (({ Kind := (6 : Int), Num := (0 : Int), Low := (0 : Int), High := (0 : Int), Real := r12, Cap := (0 : Int), Text := ByteArray.empty, List := ([] : List Zh) } : Zb), true))) else (if (a0.Kind == (8 : Int)) then (some (({ Kind := (8 : Int), Num := (0 : Int), Low := (0 : Int), High := (0 : Int), Real := (0 : Nat), Cap := (32 : Int), Text := ByteArray.empty, List := ([] : List Zh) } : Zb), true)) else (if (a0.Kind == (9 : Int)) then (some (({ Kind := (9 : Int), Num := (0 : Int), Low := (0 : Int), High := (0 : Int), Real := (0 : Nat), Cap := a0.Cap, Text := ByteArray.empty, List := ([] : List Zh) } : Zb), true)) else (some (({ Kind := (0 : Int), Num := (0 : Int), Low := (0 : Int), High := (0 : Int), Real := (0 : Nat), Cap := (0 : Int), Text := ByteArray.empty, List := ([] : List Zh) } : Zb), false)))))))
def Zkm (a0 : Zb) : Option (Zb × Bool) := ((Zdy a0).bind fun r1 => (if (r1 != (0 : Int)) then (some (({ Kind := (0 : Int), Num := (0 : Int), Low := (0 : Int), High := (0 : Int), Real := (0 : Nat), Cap := (0 : Int), Text := ByteArray.empty, List := ([] : List Zh) } : Zb), false)) else (if (a0.Kind == (2 : Int)) then (Zhy a0 (a0.Kind == (2 : Int))) else (if (a0.Kind == (3 : Int)) then (Zhy a0 (a0.Kind == (3 : Int))) else (Zhy a0 (a0.Kind == (4 : Int)))))))
def Zlg (a0 : Int) : Option (Zcy) := (if ((decide (a0 ≤ (0 : Int))) || (decide ((22 : Int) ≤ a0))) then (some ({ word := ByteArray.empty, on := (0 : Int), has := ByteArray.empty } : Zcy)) else ((idx g_1 a0).bind fun e2 => (some e2)))
def Zll (a0 : Int) : Option (Int) := ((Zlg a0).bind fun r1 => (some r1.on))
def Zds (a0 : Int) (a1 : Int) (j8 : Bool) : Option (Bool) := (if j8 then ((Zll a1).bind fun r10 => (some (r10 == a0))) else (some false))
def Zj5 (a0 : Int) (a1 : Int) : Option (Bool) := (if (a1 == (7 : Int)) then (Zds a0 a1 (a1 == (7 : Int))) else (if (a1 == (8 : Int)) then (Zds a0 a1 (a1 == (8 : Int))) else (if (a1 == (10 : Int)) then (Zds a0 a1 (a1 == (10 : Int))) else (if (a1 == (11 : Int)) then (Zds a0 a1 (a1 == (11 : Int))) else (if (a1 == (13 : Int)) then (Zds a0 a1 (a1 == (13 : Int))) else (if (a1 == (14 : Int)) then (Zds a0 a1 (a1 == (14 : Int))) else (if (a1 == (18 : Int)) then (Zds a0 a1 (a1 == (18 : Int))) else (Zds a0 a1 (a1 == (21 : Int))))))))))
def Zbt (a0 : List Zh) : Option (List Zh) := if a0.length * 24 ≤ 140737488355328 then some a0 else none
def Zf2 (a0 : Zb) : Option (Zb) := ((Zbt a0.List).bind fun r1 => (some ({ a0 with List := r1 })))
def Zh2 (a0 : Nat) (a1 : Nat) : Option (Nat) := ((Zjo a0 a1).bind fun r1 => (if r1 then ((Zez a1).bind fun r4 => (some r4)) else ((Zez a0).bind fun r6 => (some r6))))
def Zhr (a0 : Nat) (a1 : Nat) : Option (Nat) := ((Zjo a1 a0).bind fun r1 => (if r1 then ((Zez a1).bind fun r4 => (some r4)) else ((Zez a0).bind fun r6 => (some r6))))
def Zgb (a0 : Zcy) (a1 : Int) : Nat → (Int) → Option ((Bool) ⊕ (Unit))
 | 0, _ => none
 | n + 1, x1 => (if (decide (x1 < (a0.has.size : Int))) then ((sidx a0.has x1).bind fun b3 => (if (b3 == a1) then (some (.inl true)) else ((Zgb a0 a1 n) (IntKind.i64.wrap (x1 + (1 : Int)))))) else (some (.inr ())))
def Zcz (a0 : Zcy) (a1 : Int) : Option (Bool) := ((Zgb a0 a1 (Int.toNat ((a0.has.size : Int) - (0 : Int)) + 1) (0 : Int)).bind fun z6 => match z6 with | .inl r => some r | .inr () => (some false))
def Zbg (a0 : List Zh) (a1 : List Zh) (φ2 : Zh → Zh → Option Bool) : Nat → (Int) → Option ((Bool) ⊕ (Unit))
 | 0, _ => none
 | n + 1, x2 => (if (decide (x2 < (a0.length : Int))) then ((idx a0 x2).bind fun e4 => ((idx a1 x2).bind fun e6 => ((φ2 e4 e6).bind fun r8 => (if (!r8) then (some (.inl false)) else ((Zbg a0 a1 φ2 n) (IntKind.i64.wrap (x2 + (1 : Int)))))))) else (some (.inr ())))
def Zb0 (a0 : List Zh) (a1 : List Zh) (φ2 : Zh → Zh → Option Bool) : Option (Bool) := (if ((a0.length : Int) != (a1.length : Int)) then (some false) else ((Zbg a0 a1 φ2 (Int.toNat ((a0.length : Int) - (0 : Int)) + 1) (0 : Int)).bind fun z11 => match z11 with | .inl r => some r | .inr () => (some true)))
def Zgw (a0 : Zh) (a1 : Zh) : Option (Bool) := ((gd (sEq a0.Name a1.Name) (Zhf a0.Score a1.Score)).bind fun r1 => (some ((sEq a0.Name a1.Name) && r1)))
def Zlk (a0 : Zb) (a1 : Zb) : Option (Bool) := ((gd ((((a0.Kind == a1.Kind) && (a0.Num == a1.Num)) && (a0.Low == a1.Low)) && (a0.High == a1.High)) (Zhf a0.Real a1.Real)).bind fun r1 => ((gd (((((((a0.Kind == a1.Kind) && (a0.Num == a1.Num)) && (a0.Low == a1.Low)) && (a0.High == a1.High)) && r1) && (a0.Cap == a1.Cap)) && (sEq a0.Text a1.Text)) (Zb0 a0.List a1.List (fun y0 y1 => Zgw y0 y1))).bind fun r3 => (some ((((((((a0.Kind == a1.Kind) && (a0.Num == a1.Num)) && (a0.Low == a1.Low)) && (a0.High == a1.High)) && r1) && (a0.Cap == a1.Cap)) && (sEq a0.Text a1.Text)) && r3))))
def Znb (a0 : Zs) (a1 : Zcy) : Option (Bool) := ((Zcz a1 (110 : Int)).bind fun r1 => ((gd (r1 || (a0.N == (0 : Int))) (Zcz a1 (120 : Int))).bind fun r3 => ((gd ((r1 || (a0.N == (0 : Int))) && (!r3)) (Zhf a0.X (0 : Nat))).bind fun r5 => ((gd ((r1 || (a0.N == (0 : Int))) && (r3 || r5)) (Zcz a1 (115 : Int))).bind fun r7 => ((gd (((r1 || (a0.N == (0 : Int))) && (r3 || r5)) && (r7 || (sEq a0.S (⟨#[]⟩ : ByteArray)))) (Zcz a1 (109 : Int))).bind fun r9 => ((gd ((((r1 || (a0.N == (0 : Int))) && (r3 || r5)) && (r7 || (sEq a0.S (⟨#[]⟩ : ByteArray)))) && (!r9)) (Zlk a0.Make ({ Kind := (0 : Int), Num := (0 : Int), Low := (0 : Int), High := (0 : Int), Real := (0 : Nat), Cap := (0 : Int), Text := ByteArray.empty, List := ([] : List Zh) } : Zb))).bind fun r11 => (some ((((r1 || (a0.N == (0 : Int))) && (r3 || r5)) && (r7 || (sEq a0.S (⟨#[]⟩ : ByteArray)))) && (r9 || r11)))))))))
def Zmr (a0 : Zcy) : Option (Int) := (if (a0.on == (1 : Int)) then (some (64 : Int)) else (some (16 : Int)))
def Zgh (a0 : Zs) : Option (Int) := ((Zlg a0.Kind).bind fun r1 => (if (sEq r1.word (⟨#[]⟩ : ByteArray)) then (some (5 : Int)) else (if ((sEq a0.Key (⟨#[]⟩ : ByteArray)) || (decide ((24 : Int) < (a0.Key.size : Int)))) then (some (1 : Int)) else ((Znb a0 r1).bind fun r5 => (if (!r5) then (some (4 : Int)) else ((Zmr r1).bind fun r8 => (if (decide (r8 < (a0.S.size : Int))) then (some (3 : Int)) else (if (((a0.Kind == (10 : Int)) || (a0.Kind == (11 : Int))) && ((decide (a0.N < (0 : Int))) || (decide ((2305843009213693952 : Int) < a0.N)))) then (some (1 : Int)) else ((Zic a0.X).bind fun r12 => (if (!r12) then (some (4 : Int)) else (if (a0.Kind == (1 : Int)) then ((Zdy a0.Make).bind fun r16 => (some r16)) else (some (0 : Int)))))))))))))
def Zkc (a0 : Zb) (a1 : Zs) (a2 : Zi) : Option (Int × Zb × Zi) := (some ((0 : Int), ({ a0 with Text := a1.S }), a2))
def Zh3 (a0 : Zb) (a1 : Zs) (a2 : Zi) : Option (Int × Zb × Zi) := ((Zf2 a0).bind fun r1 => (some ((0 : Int), ({ a0 with Text := a1.S }), ({ a2 with Rec := r1 }))))
def Zki (a0 : Zb) (a1 : Zs) (a2 : Zi) : Option (Int × Zb × Zi) := (some ((0 : Int), ({ a0 with Num := (IntKind.i64.wrap (a0.Num + a1.N)) }), a2))
def Zkr (a0 : Zb) (a1 : Zs) (a2 : Zi) : Option (Int × Zb × Zi) := (if (((decide ((0 : Int) < a1.N)) && (decide ((IntKind.i64.wrap ((9223372036854775807 : Int) - a1.N)) < a0.Num))) || ((decide (a1.N < (0 : Int))) && (decide (a0.Num < (IntKind.i64.wrap ((-9223372036854775808 : Int) - a1.N)))))) then (some ((9 : Int), a0, a2)) else (some ((0 : Int), ({ a0 with Num := (IntKind.i64.wrap (a0.Num + a1.N)) }), a2)))
def Zh4 (a0 : Zb) (a1 : Zs) (a2 : Zi) : Option (Int × Zb × Zi) := (if (decide (a0.Num < a1.N)) then (some ((11 : Int), a0, a2)) else (some ((0 : Int), a0, a2)))
def Zh1 (a0 : Zb) (a1 : Zs) (a2 : Zi) : Option (Int × Zb × Zi) := (if (decide ((IntKind.i64.wrap (a0.High - a0.Num)) < a1.N)) then (some ((9 : Int), a0, a2)) else (some ((0 : Int), ({ a0 with Num := (IntKind.i64.wrap (a0.Num + a1.N)) }), a2)))
def Zhu (a0 : Zb) (a1 : Zs) (a2 : Zi) : Option (Int × Zb × Zi) := (if (decide ((IntKind.i64.wrap (a0.Num - a0.Low)) < a1.N)) then (some ((10 : Int), a0, a2)) else (some ((0 : Int), ({ a0 with Num := (IntKind.i64.wrap (a0.Num - a1.N)) }), a2)))
def Zel (ψ : Nat → Nat → Option Nat) (a0 : Zb) (a1 : Zs) (a2 : Zi) : Option (Int × Zb × Zi) := (ψ a0.Real a1.X).bind fun z => some ((0 : Int), { a0 with Real := z }, a2)
def Ziz (a0 : Nat) (a1 : Nat) : Option (Nat) := ((Zez (fadd a0 a1)).bind fun r1 => (some r1))
def Zh7 (a0 : Nat) (a1 : Nat) : Option (Nat) := ((Zez (fmul a0 a1)).bind fun r1 => (some r1))
def Zgk (a0 : Nat) (a1 : Nat) : Option (Nat) := (some a1)
def Zb1 (kk : (Int) → (Int) → Option (Int)) (j9 : Int) (j10 : Int) : Option (Int) := (kk j9 j10)
def Zbd (a0 : List Zh) (a1 : ByteArray) (φ2 : Zh → ByteArray → Option Int) : Nat → (Int) → (Int) → Option (Int)
 | 0, _, _ => none
 | n + 1, x1, x2 => (if (decide (x1 < x2)) then ((idx a0 (IntKind.i64.wrap (Int.fdiv (IntKind.u64.wrap (IntKind.i64.wrap (x1 + x2))) (2 ^ 1)))).bind fun e4 => ((φ2 e4 a1).bind fun r6 => (if (decide (r6 < (0 : Int))) then (Zb1 (Zbd a0 a1 φ2 n) (IntKind.i64.wrap ((IntKind.i64.wrap (Int.fdiv (IntKind.u64.wrap (IntKind.i64.wrap (x1 + x2))) (2 ^ 1))) + (1 : Int))) x2) else (Zb1 (Zbd a0 a1 φ2 n) x1 (IntKind.i64.wrap (Int.fdiv (IntKind.u64.wrap (IntKind.i64.wrap (x1 + x2))) (2 ^ 1))))))) else (some x1))
def Zcr (a0 : List Zh) (a1 : ByteArray) (φ2 : Zh → ByteArray → Option Int) : Option (Int × Bool) := ((Zbd a0 a1 φ2 (Int.toNat ((a0.length : Int) - (0 : Int)) + 1) (0 : Int) (a0.length : Int)).bind fun z12 => match z12 with | y11 => ((gd (decide (y11 < (a0.length : Int))) (idx a0 y11)).bind fun e13 => ((gd (decide (y11 < (a0.length : Int))) (φ2 e13 a1)).bind fun r15 => (some (y11, ((decide (y11 < (a0.length : Int))) && (r15 == (0 : Int))))))))
def Zhi (a0 : Zh) (a1 : ByteArray) : Option (Int) := (if (sLt a0.Name a1) then (some (-1 : Int)) else (if (!(sLt a0.Name a1 || sEq a0.Name a1)) then (some (1 : Int)) else (some (0 : Int))))
def Zi3 (a0 : List Zh) (a1 : ByteArray) : Option (Int × Bool) := ((Zcr a0 a1 (fun y0 y1 => Zhi y0 y1)).bind fun r1 => (some (r1.1, r1.2)))
def Zco (a0 : List Zh) (a1 : Int) (a2 : List Zh) : Option (List Zh) := if 0 ≤ a1 ∧ a1 ≤ a0.length ∧ 0 < a2.length ∧ (a0.length + a2.length) * 24 ≤ 140737488355328 then some (a0.take a1.toNat ++ a2 ++ a0.drop a1.toNat) else none
def Zi4 (a0 : Zb) (a1 : Zs) (a2 : Zi) : Option (Int × Zb × Zi) := ((Zi3 a0.List a1.S).bind fun r1 => (if r1.2 then (some ((0 : Int), a0, a2)) else (if (decide (a0.Cap ≤ (a0.List.length : Int))) then (some ((8 : Int), a0, a2)) else ((Zbt a0.List).bind fun r5 => ((Zco r5 r1.1 ([({ Score := (0 : Nat), Name := a1.S } : Zh)] : List Zh)).bind fun r7 => (some ((0 : Int), ({ a0 with List := r7 }), a2)))))))
def Zd6 (a0 : List Zh) (a1 a2 : Int) : Option (List Zh) := if 0 < a0.length ∧ 0 ≤ a1 ∧ a1 ≤ a2 ∧ a2 ≤ a0.length ∧ a0.length ≤ 140737488355328 then some (a0.take a1.toNat ++ a0.drop a2.toNat) else none
def Zhm (a2 : Zi) (j8 : Zb) : Option (Int × Zb × Zi) := (some ((0 : Int), j8, a2))
def Zht (a0 : Zb) (a1 : Zs) (a2 : Zi) : Option (Int × Zb × Zi) := ((Zi3 a0.List a1.S).bind fun r1 => (if r1.2 then ((Zbt a0.List).bind fun r4 => ((Zd6 r4 r1.1 (IntKind.i64.wrap (r1.1 + (1 : Int)))).bind fun r6 => (Zhm a2 ({ a0 with List := r6 })))) else (Zhm a2 a0)))
def Zhw (a0 : Zb) (a1 : Zs) (a2 : Zi) : Option (Int × Zb × Zi) := ((Zi3 a0.List a1.S).bind fun r1 => (if (!r1.2) then (some ((11 : Int), a0, a2)) else (some ((0 : Int), a0, a2))))
def Ze5 (a0 : Zb) (a1 : Zs) : Nat → (Int) → Option (Int)
 | 0, _ => none
 | n + 1, x1 => ((gd (decide (x1 < (a0.List.length : Int))) (idx a0.List x1)).bind fun e2 => ((gd (decide (x1 < (a0.List.length : Int))) (Zib e2 ({ Score := a1.X, Name := a1.S } : Zh))).bind fun r4 => (if ((decide (x1 < (a0.List.length : Int))) && r4) then ((Ze5 a0 a1 n) (IntKind.i64.wrap (x1 + (1 : Int)))) else (some x1))))
def Zia (a0 : Zb) (a1 : Zs) (a2 : Zi) : Option (Int × Zb × Zi) := ((Ze5 a0 a1 (Int.toNat ((a0.List.length : Int) - (0 : Int)) + 1) (0 : Int)).bind fun z8 => match z8 with | y7 => ((gd (decide (y7 < (a0.List.length : Int))) (idx a0.List y7)).bind fun e9 => ((gd (decide (y7 < (a0.List.length : Int))) (Zib ({ Score := a1.X, Name := a1.S } : Zh) e9)).bind fun r11 => (if ((decide (y7 < (a0.List.length : Int))) && (!r11)) then (some ((0 : Int), a0, a2)) else ((Zbt a0.List).bind fun r14 => ((Zco r14 y7 ([({ Score := a1.X, Name := a1.S } : Zh)] : List Zh)).bind fun r16 => ((cut r16 (0 : Int) (min (r16.length : Int) a0.Cap)).bind fun c18 => (some ((0 : Int), ({ a0 with List := c18 }), a2)))))))))
def Zbu (k : Int) (a0 : Zb) (a1 : Zs) (a2 : Zi) : Option (Int × Zb × Zi) := if k = 5 then Zkc a0 a1 a2 else if k = 6 then Zh3 a0 a1 a2 else if k = 7 then Zki a0 a1 a2 else if k = 8 then Zkr a0 a1 a2 else if k = 9 then Zh4 a0 a1 a2 else if k = 10 then Zh1 a0 a1 a2 else if k = 11 then Zhu a0 a1 a2 else if k = 12 then Zh4 a0 a1 a2 else if k = 13 then Zel (fun x y => Zh2 x y) a0 a1 a2 else if k = 14 then Zel (fun x y => Zhr x y) a0 a1 a2 else if k = 15 then Zel (fun x y => Ziz x y) a0 a1 a2 else if k = 16 then Zel (fun x y => Zh7 x y) a0 a1 a2 else if k = 17 then Zel (fun x y => Zgk x y) a0 a1 a2 else if k = 18 then Zi4 a0 a1 a2 else if k = 19 then Zht a0 a1 a2 else if k = 20 then Zhw a0 a1 a2 else if k = 21 then Zia a0 a1 a2 else none
def Zff (a0 : Int) (a1 : Zb) (a2 : Bool) : Option (Zb × Bool × Zi × Zb) := (some (a1, a2, ({ Code := a0, Num := (0 : Int), Rec := (default : Zb) } : Zi), a1))
def Zfn (a1 : Bool) (a2 : Zs) (r3 : Zb) : Option (Zb × Bool × Zi) := (if ((a2.Kind == (1 : Int)) && a1) then ((Zff (7 : Int) r3 a1).bind fun r17 => (some (r17.1, r17.2.1, r17.2.2.1))) else (if (a2.Kind == (1 : Int)) then ((Zf2 a2.Make).bind fun r20 => (some (r20, true, ({ Code := (0 : Int), Num := (0 : Int), Rec := (default : Zb) } : Zi)))) else (if (a2.Kind == (3 : Int)) then (some (r3, a1, ({ Code := (0 : Int), Num := r3.Kind, Rec := (default : Zb) } : Zi))) else (if (!a1) then ((Zff (6 : Int) r3 a1).bind fun r24 => (some (r24.1, r24.2.1, r24.2.2.1))) else (if (a2.Kind == (2 : Int)) then (some (({ Kind := (0 : Int), Num := (0 : Int), Low := (0 : Int), High := (0 : Int), Real := (0 : Nat), Cap := (0 : Int), Text := ByteArray.empty, List := ([] : List Zh) } : Zb), false, ({ Code := (0 : Int), Num := (0 : Int), Rec := (default : Zb) } : Zi))) else (if (a2.Kind == (4 : Int)) then ((Zf2 r3).bind fun r28 => (some (r3, a1, ({ Code := (0 : Int), Num := (0 : Int), Rec := r28 } : Zi)))) else ((Zll a2.Kind).bind fun r30 => (if (r30 != r3.Kind) then ((Zff (5 : Int) r3 a1).bind fun r33 => (some (r33.1, r33.2.1, r33.2.2.1))) else ((Zf2 r3).bind fun r35 => (if (5 ≤ a2.Kind ∧ a2.Kind ≤ 21) then ((Zbu a2.Kind r3 a2 (default : Zi)).bind fun r38 => (if (r38.1 != (0 : Int)) then (some (r35, a1, ({ Code := r38.1, Num := (0 : Int), Rec := (default : Zb) } : Zi))) else (some (r38.2.1, a1, r38.2.2)))) else none))))))))))
def Zfm (a1 : Bool) (a2 : Zs) (j2 : Zb) : Option (Zb × Bool × Zi) := ((Zf2 j2).bind fun r3 => ((Zgh a2).bind fun r5 => (if (r5 != (0 : Int)) then ((Zff r5 r3 a1).bind fun r8 => (some (r8.1, r8.2.1, r8.2.2.1))) else (if a1 then ((Zdy r3).bind fun r11 => (if (r11 != (0 : Int)) then ((Zff r11 r3 a1).bind fun r14 => (some (r14.1, r14.2.1, r14.2.2.1))) else (Zfn a1 a2 r3))) else (Zfn a1 a2 r3)))))
def Zgg (a0 : Zb) (a1 : Bool) (a2 : Zs) : Option (Zb × Bool × Zi) := (if (!a1) then (Zfm a1 a2 ({ Kind := (0 : Int), Num := (0 : Int), Low := (0 : Int), High := (0 : Int), Real := (0 : Nat), Cap := (0 : Int), Text := ByteArray.empty, List := ([] : List Zh) } : Zb)) else (Zfm a1 a2 a0))
def Zda (x4 : Int) (kk : (Zb) → (Int) → Option (Zb)) (j32 : Zb) : Option (Zb) := (kk j32 (IntKind.i64.wrap (x4 + (1 : Int))))
def Zgj (x21 : Zb) (x22 : Int) (kk : (Zb) → (Int) → Option (Zb)) (j27 : Zs) : Option (Zb) := ((Zgg x21 true j27).bind fun r28 => (kk r28.1 (IntKind.i64.wrap (x22 + (1 : Int)))))
def Zdq (e6 : Zb) : Nat → (Zb) → (Int) → Option (Zb)
 | 0, _, _ => none
 | n + 1, x21, x22 => (if (decide (x22 < (e6.List.length : Int))) then ((idx e6.List x22).bind fun e24 => (if (x21.Kind == (9 : Int)) then (Zgj x21 x22 (Zdq e6 n) ({ ({ ({ Kind := (18 : Int), Key := (⟨#[107]⟩ : ByteArray), N := (0 : Int), X := (0 : Nat), S := e24.Name, Make := (default : Zb), Must := false } : Zs) with Kind := (21 : Int) }) with X := e24.Score })) else (Zgj x21 x22 (Zdq e6 n) ({ Kind := (18 : Int), Key := (⟨#[107]⟩ : ByteArray), N := (0 : Int), X := (0 : Nat), S := e24.Name, Make := (default : Zb), Must := false } : Zs)))) else (some x21))
def Zet (x3 : Zb) (x4 : Int) (e6 : Zb) (kk : (Zb) → (Int) → Option (Zb)) (j19 : Bool) : Option (Zb) := (if j19 then ((Zdq e6 (Int.toNat ((e6.List.length : Int) - (0 : Int)) + 1) x3 (0 : Int)).bind fun z31 => match z31 with | y30 => (Zda x4 kk y30)) else (Zda x4 kk x3))
def Zdr (x3 : Zb) (x4 : Int) (e6 : Zb) (kk : (Zb) → (Int) → Option (Zb)) (j10 : Bool) : Option (Zb) := (if j10 then (Zda x4 kk ({ x3 with Num := (IntKind.i64.wrap (x3.Num + e6.Num)) })) else (if (x3.Kind == (5 : Int)) then ((Zh2 x3.Real e6.Real).bind fun r13 => (Zda x4 kk ({ x3 with Real := r13 }))) else (if (x3.Kind == (6 : Int)) then ((Zhr x3.Real e6.Real).bind fun r16 => (Zda x4 kk ({ x3 with Real := r16 }))) else (if (x3.Kind == (8 : Int)) then (Zet x3 x4 e6 kk (x3.Kind == (8 : Int))) else (Zet x3 x4 e6 kk (x3.Kind == (9 : Int)))))))
def Zb6 (a1 : List Zb) : Nat → (Zb) → (Int) → Option (Zb)
 | 0, _, _ => none
 | n + 1, x3, x4 => (if (decide (x4 < (a1.length : Int))) then ((idx a1 x4).bind fun e6 => (if (x3.Kind == (2 : Int)) then (Zdr x3 x4 e6 (Zb6 a1 n) (x3.Kind == (2 : Int))) else (if (x3.Kind == (3 : Int)) then (Zdr x3 x4 e6 (Zb6 a1 n) (x3.Kind == (3 : Int))) else (Zdr x3 x4 e6 (Zb6 a1 n) (x3.Kind == (4 : Int)))))) else (some x3))
def Zii (a0 : Zb) (a1 : List Zb) : Option (Zb) := ((Zf2 a0).bind fun r1 => ((Zb6 a1 (Int.toNat ((a1.length : Int) - (0 : Int)) + 1) r1 (0 : Int)).bind fun z34 => match z34 with | y33 => (some y33)))
def Zhe (a0 : Zb) (j5 : Zs) : Option (Zb) := ((Zgg a0 true j5).bind fun r6 => (some r6.1))
def Zij (a0 : Zb) (a1 : Zs) (j2 : Bool) : Option (Zb) := (if j2 then (Zhe a0 ({ a1 with Kind := (7 : Int) })) else (if (a1.Kind == (11 : Int)) then (Zhe a0 ({ ({ a1 with Kind := (7 : Int) }) with N := (IntKind.i64.wrap (0 - a1.N)) })) else (Zhe a0 a1)))
def Zkk (a0 : Zb) (a1 : Zs) : Option (Zb) := (if (a1.Kind == (8 : Int)) then (Zij a0 a1 (a1.Kind == (8 : Int))) else (Zij a0 a1 (a1.Kind == (10 : Int))))
def Zmu (a0 : Zb) : Option (Z3 × Bool) := (if (a0.Kind == (3 : Int)) then (some (({ up := (IntKind.u64.wrap ((9223372036854775807 : Int) - (IntKind.u64.wrap a0.Num))), down := (IntKind.u64.wrap ((IntKind.u64.wrap a0.Num) - (9223372036854775808 : Int))) } : Z3), true)) else (if (a0.Kind == (4 : Int)) then (some (({ up := (IntKind.u64.wrap (IntKind.i64.wrap (a0.High - a0.Num))), down := (IntKind.u64.wrap (IntKind.i64.wrap (a0.Num - a0.Low))) } : Z3), true)) else (if (a0.Kind == (8 : Int)) then (some (({ up := (IntKind.u64.wrap (IntKind.i64.wrap (a0.Cap - (a0.List.length : Int)))), down := (0 : Int) } : Z3), true)) else (some (({ up := (0 : Int), down := (0 : Int) } : Z3), false)))))
def Zjk (j4 : Int) : Option (Int) := (some j4)
def Zk6 (a0 : Int) (a1 : Int) (a2 : Int) : Option (Int) := (if (IntKind.u64.wrap a2) ≠ (0 : Int) then (if (IntKind.u64.wrap a2) ≠ (0 : Int) then (if (decide ((IntKind.u64.wrap a1) < (Int.tmod a0 (IntKind.u64.wrap a2)))) then (Zjk (IntKind.u64.wrap ((IntKind.u64.wrap (Int.tdiv a0 (IntKind.u64.wrap a2))) + (1 : Int)))) else (Zjk (IntKind.u64.wrap (Int.tdiv a0 (IntKind.u64.wrap a2))))) else none) else none)
def Zi2 (a1 : Int) (r10 : Z3 × Bool) : Nat → (Z2) → (Int) → Option (Z2)
 | 0, _, _ => none
 | n + 1, x12, x13 => (if (decide (x13 < a1)) then ((Zk6 r10.1.up x13 a1).bind fun r15 => ((Zk6 r10.1.down x13 a1).bind fun r17 => (if (x12.by_.length + ([({ up := r15, down := r17 } : Z3)] : List Z3).length) * 16 ≤ 140737488355328 then ((Zi2 a1 r10 n) ({ x12 with by_ := (x12.by_ ++ ([({ up := r15, down := r17 } : Z3)] : List Z3)) } : Z2) (IntKind.i64.wrap (x13 + (1 : Int)))) else none))) else (some x12))
def Zn0 (a0 : Zb) (a1 : Int) : Option ((Option Z2) × Int) := (if ((decide (a1 < (1 : Int))) || (decide ((8 : Int) < a1))) then (some ((none : Option Z2), (1 : Int))) else ((Zdy a0).bind fun r2 => (if (r2 != (0 : Int)) then (some ((none : Option Z2), r2)) else ((Zkm a0).bind fun r5 => (if (!r5.2) then (some ((none : Option Z2), (5 : Int))) else ((Zf2 a0).bind fun r8 => ((Zmu a0).bind fun r10 => ((Zi2 a1 r10 (Int.toNat (a1 - (0 : Int)) + 1) ({ r := r8, by_ := ([] : List Z3) } : Z2) (0 : Int)).bind fun z21 => match z21 with | y20 => (some ((some y20), (0 : Int)))))))))))
def Zfi (a0 : Z2) (a1 : Int) : Option (Int × Int) := (if ((decide (a1 < (0 : Int))) || (decide ((a0.by_.length : Int) ≤ a1))) then (some ((0 : Int), (0 : Int))) else ((idx a0.by_ a1).bind fun e2 => ((idx a0.by_ a1).bind fun e4 => (some (e2.up, e4.down)))))
def Zfh (a0 : Z2) (a1 : Zs) : Nat → (Z3) → (Int) → Option ((Z3) ⊕ (Z3))
 | 0, _, _ => none
 | n + 1, x6, x7 => (if (decide (x7 < (a0.r.List.length : Int))) then ((idx a0.r.List x7).bind fun e9 => (if (sEq e9.Name a1.S) then (some (.inl ({ up := (0 : Int), down := (0 : Int) } : Z3))) else ((Zfh a0 a1 n) x6 (IntKind.i64.wrap (x7 + (1 : Int)))))) else (some (.inr x6)))
def Zhp (a0 : Z2) (a1 : Zs) : Option (Z3) := (if (a1.Kind == (8 : Int)) then (if (decide (a1.N < (0 : Int))) then (some ({ up := (0 : Int), down := (IntKind.u64.wrap (0 - (IntKind.u64.wrap a1.N))) } : Z3)) else (some ({ up := (IntKind.u64.wrap a1.N), down := (0 : Int) } : Z3))) else (if (a1.Kind == (10 : Int)) then (some ({ up := (IntKind.u64.wrap a1.N), down := (0 : Int) } : Z3)) else (if (a1.Kind == (11 : Int)) then (some ({ up := (0 : Int), down := (IntKind.u64.wrap a1.N) } : Z3)) else (if (a1.Kind == (18 : Int)) then ((Zfh a0 a1 (Int.toNat ((a0.r.List.length : Int) - (0 : Int)) + 1) (default : Z3) (0 : Int)).bind fun z13 => match z13 with | .inl r => some r | .inr y12 => (some ({ up := (1 : Int), down := (0 : Int) } : Z3))) else (some ({ up := (0 : Int), down := (0 : Int) } : Z3))))))
def Zfd (a2 : List Zs) : Nat → (Z2) → (Z3) → (Int) → Option ((Int × Z2) ⊕ (Z2 × Z3))
 | 0, _, _, _ => none
 | n + 1, x4, x5, x6 => (if (decide (x6 < (a2.length : Int))) then ((idx a2 x6).bind fun e8 => ((Zgh e8).bind fun r10 => (if (r10 != (0 : Int)) then (some (.inl (r10, x4))) else ((Zj5 x4.r.Kind e8.Kind).bind fun r13 => (if (!r13) then (some (.inl ((5 : Int), x4))) else ((Zhp x4 e8).bind fun r16 => (if ((decide (x5.up < r16.up)) && (e8.Kind == (18 : Int))) then (some (.inl ((8 : Int), x4))) else (if (decide (x5.up < r16.up)) then (some (.inl ((9 : Int), x4))) else (if (decide (x5.down < r16.down)) then (some (.inl ((10 : Int), x4))) else ((Zfd a2 n) x4 ({ ({ x5 with up := (IntKind.u64.wrap (x5.up - r16.up)) }) with down := (IntKind.u64.wrap (({ x5 with up := (IntKind.u64.wrap (x5.up - r16.up)) }).down - r16.down)) }) (IntKind.i64.wrap (x6 + (1 : Int))))))))))))) else (some (.inr (x4, x5))))
def Ziq (a0 : Z2) (a1 : Int) (a2 : List Zs) : Option (Int × Z2) := (if ((decide (a1 < (0 : Int))) || (decide ((a0.by_.length : Int) ≤ a1))) then (some ((1 : Int), a0)) else ((idx a0.by_ a1).bind fun e2 => ((Zfd a2 (Int.toNat ((a2.length : Int) - (0 : Int)) + 1) a0 e2 (0 : Int)).bind fun z23 => match z23 with | .inl r => some r | .inr (y21, y22) => ((idx y21.by_ a1).bind fun e24 => (some ((0 : Int), ({ y21 with by_ := y21.by_.set (Int.toNat a1) y22 } : Z2)))))))
def Zjc (a0 : Z2) (a1 : Int) (a2 : List Zs) : Option (Z2 × Int) := (Ziq a0 a1 a2).bind fun r => some (r.2, r.1)
def Zhd : Option (Bool) := ((Zn0 ({ Kind := (4 : Int), Num := (5 : Int), Low := (0 : Int), High := (10 : Int), Real := (0 : Nat), Cap := (0 : Int), Text := ByteArray.empty, List := ([] : List Zh) } : Zb) (2 : Int)).bind fun r1 => (if ((r1.2 != (0 : Int)) || r1.1.isNone) then (some false) else ((r1.1).bind fun n4 => ((Zfi n4 (0 : Int)).bind fun r6 => ((Zfi n4 (1 : Int)).bind fun r8 => (if ((((r6.1 != (3 : Int)) || (r6.2 != (3 : Int))) || (r8.1 != (2 : Int))) || (r8.2 != (2 : Int))) then (some false) else ((Zkm ({ Kind := (4 : Int), Num := (5 : Int), Low := (0 : Int), High := (10 : Int), Real := (0 : Nat), Cap := (0 : Int), Text := ByteArray.empty, List := ([] : List Zh) } : Zb)).bind fun r11 => ((Zjc n4 (1 : Int) ([({ Kind := (10 : Int), Key := (⟨#[97]⟩ : ByteArray), N := (3 : Int), X := (0 : Nat), S := ByteArray.empty, Make := (default : Zb), Must := false } : Zs)] : List Zs)).bind fun r13 => ((gd (r13.2 == (9 : Int)) (Zjc r13.1 (0 : Int) ([({ Kind := (10 : Int), Key := (⟨#[97]⟩ : ByteArray), N := (3 : Int), X := (0 : Nat), S := ByteArray.empty, Make := (default : Zb), Must := false } : Zs)] : List Zs))).bind fun r15 => ((gd (((r13.2 == (9 : Int)) && (r15.2 == (0 : Int))) && r11.2) (Zkk r11.1 ({ Kind := (10 : Int), Key := (⟨#[97]⟩ : ByteArray), N := (3 : Int), X := (0 : Nat), S := ByteArray.empty, Make := (default : Zb), Must := false } : Zs))).bind fun r17 => ((gd (((r13.2 == (9 : Int)) && (r15.2 == (0 : Int))) && r11.2) (Zii ({ Kind := (4 : Int), Num := (5 : Int), Low := (0 : Int), High := (10 : Int), Real := (0 : Nat), Cap := (0 : Int), Text := ByteArray.empty, List := ([] : List Zh) } : Zb) ([r17] : List Zb))).bind fun r19 => ((gd ((((r13.2 == (9 : Int)) && (r15.2 == (0 : Int))) && r11.2) && (r19.Num == (8 : Int))) (Zj5 (4 : Int) (10 : Int))).bind fun r21 => (some (((((r13.2 == (9 : Int)) && (r15.2 == (0 : Int))) && r11.2) && (r19.Num == (8 : Int))) && r21))))))))))))))
def Zd0 (a0 : Zb) : Nat → (Int) → Option ((Int) ⊕ (Unit))
 | 0, _ => none
 | n + 1, x2 => (if (decide (x2 < (a0.List.length : Int))) then ((idx a0.List x2).bind fun e4 => (if (decide ((100 : Int) < (e4.Name.size : Int))) then (some (.inl (1 : Int))) else ((Zd0 a0 n) (IntKind.i64.wrap (x2 + (1 : Int)))))) else (some (.inr ())))
def Zf3 (a0 : Zb) : Option (Int) := (if ((decide ((100 : Int) < (a0.List.length : Int))) || (decide ((1000 : Int) < (a0.Text.size : Int)))) then (some (1 : Int)) else ((Zd0 a0 (Int.toNat ((a0.List.length : Int) - (0 : Int)) + 1) (0 : Int)).bind fun z7 => match z7 with | .inl r => some r | .inr () => (some (0 : Int))))
def Zg5 (a0 : Zs) : Option (Int) := ((gd (!((decide ((200 : Int) < (a0.Key.size : Int))) || (decide ((1000 : Int) < (a0.S.size : Int))))) (Zf3 a0.Make)).bind fun r1 => (if (((decide ((200 : Int) < (a0.Key.size : Int))) || (decide ((1000 : Int) < (a0.S.size : Int)))) || (decide ((0 : Int) < r1))) then (some (1 : Int)) else (some (0 : Int))))
def Zdf (a1 : List Zb3) : Nat → (Int) → Option ((Bool) ⊕ (Unit))
 | 0, _ => none
 | n + 1, x4 => (if (decide (x4 < (a1.length : Int))) then ((idx a1 x4).bind fun e6 => ((Zg5 e6.Act).bind fun r8 => (if (decide ((0 : Int) < r8)) then (some (.inl true)) else ((Zdf a1 n) (IntKind.i64.wrap (x4 + (1 : Int))))))) else (some (.inr ())))
def Zfg (a0 : Zb) (a1 : List Zb3) : Option (Bool) := ((Zf3 a0).bind fun r1 => (if ((decide ((0 : Int) < r1)) || (decide ((40 : Int) < (a1.length : Int)))) then (some true) else ((Zdf a1 (Int.toNat ((a1.length : Int) - (0 : Int)) + 1) (0 : Int)).bind fun z11 => match z11 with | .inl r => some r | .inr () => (some false))))
def Zdg (a0 : Nat) : Option (Bool) := (some (fneq a0 a0))
def Zfj (a0 : Nat) : Option (Bool) := (if (feql a0 (0 : Nat)) then ((Ieee.double.div (4607182418800017408 : Nat) a0).bind fun f2 => (some (flss f2 (0 : Nat)))) else (some (flss a0 (0 : Nat))))
def Zd2 (a0 : Nat) (a1 : Nat) : Option (Bool) := ((Zdg a0).bind fun r1 => (if r1 then (some false) else ((Zdg a1).bind fun r4 => (if r4 then (some true) else (if ((feql a0 (0 : Nat)) && (feql a1 (0 : Nat))) then ((Zfj a0).bind fun r8 => ((gd r8 (Zfj a1)).bind fun r10 => (some (r8 && (!r10))))) else (some (flss a0 a1)))))))
def Zc7 (a0 : Nat) (a1 : Nat) : Option (Bool) := ((Zd2 a0 a1).bind fun r1 => ((gd (!r1) (Zd2 a1 a0)).bind fun r3 => (some ((!r1) && (!r3)))))
def Zfs (a0 : Nat) : Option (Bool) := ((Zc7 a0 (0 : Nat)).bind fun r1 => (some r1))
def Zcp (a1 : ByteArray) : Nat → (Bool) → (Bool) → (Bool) → (Bool) → (Bool) → (Int) → Option (Bool × Bool × Bool × Bool × Bool)
 | 0, _, _, _, _, _, _ => none
 | n + 1, x1, x2, x3, x4, x5, x6 => (if (decide (x6 < (a1.size : Int))) then ((gd (!x1) (sidx a1 x6)).bind fun b8 => ((gd (!x2) (sidx a1 x6)).bind fun b10 => ((gd (!x3) (sidx a1 x6)).bind fun b12 => ((gd (!x4) (sidx a1 x6)).bind fun b14 => ((gd (!x5) (sidx a1 x6)).bind fun b16 => ((Zcp a1 n) (x1 || (b8 == (116 : Int))) (x2 || (b10 == (110 : Int))) (x3 || (b12 == (98 : Int))) (x4 || (b14 == (114 : Int))) (x5 || (b16 == (108 : Int))) (IntKind.i64.wrap (x6 + (1 : Int))))))))) else (some (x1, x2, x3, x4, x5)))
def Zgq (a0 : Zb) (a1 : ByteArray) : Option (Bool) := ((Zcp a1 (Int.toNat ((a1.size : Int) - (0 : Int)) + 1) false false false false false (0 : Int)).bind fun z23 => match z23 with | (y18, y19, y20, y21, y22) => (if (((((!y18) && (!sEq a0.Text (⟨#[]⟩ : ByteArray))) || ((!y19) && (a0.Num != (0 : Int)))) || ((!y20) && (a0.Low != (0 : Int)))) || ((!y20) && (a0.High != (0 : Int)))) then (some false) else ((gd (!y21) (Zfs a0.Real)).bind fun r25 => (some ((y21 || r25) && (y22 || ((a0.Cap == (0 : Int)) && ((a0.List.length : Int) == (0 : Int)))))))))
def Zg2 (a0 : Int) : Option (ByteArray) := (if ((decide (a0 < (1 : Int))) || (decide ((9 : Int) < a0))) then (some (⟨#[]⟩ : ByteArray)) else ((idx ([(⟨#[]⟩ : ByteArray), (⟨#[116]⟩ : ByteArray), (⟨#[110]⟩ : ByteArray), (⟨#[110]⟩ : ByteArray), (⟨#[110, 98]⟩ : ByteArray), (⟨#[114]⟩ : ByteArray), (⟨#[114]⟩ : ByteArray), (⟨#[114]⟩ : ByteArray), (⟨#[108]⟩ : ByteArray), (⟨#[108]⟩ : ByteArray)] : List ByteArray) a0).bind fun e2 => (some e2)))
def Zei (a0 : Nat) : Option (Bool) := ((Zdg a0).bind fun r1 => (some ((!r1) || ((a0 : Int) == (9221120237041090561 : Int)))))
def Zew (a0 : Zh) (a1 : Zh) : Option (Bool) := ((Zd2 a1.Score a0.Score).bind fun r1 => (if r1 then (some true) else ((Zc7 a0.Score a1.Score).bind fun r4 => (some (r4 && (sLt a0.Name a1.Name))))))
def Zgt (a0 : Int) (a1 : List Zh) (a2 : Int) : Option (Int) := ((idx a1 a2).bind fun e1 => (if (decide ((16 : Int) < (e1.Name.size : Int))) then (some (3 : Int)) else ((gd (a0 == (8 : Int)) (Zfs e1.Score)).bind fun r4 => ((gd (!((a0 == (8 : Int)) && (!r4))) (Zei e1.Score)).bind fun r6 => (if (((a0 == (8 : Int)) && (!r4)) || (!r6)) then (some (4 : Int)) else ((gd ((decide ((0 : Int) < a2)) && (a0 == (8 : Int))) (idx a1 (IntKind.i64.wrap (a2 - (1 : Int))))).bind fun e9 => (if (((decide ((0 : Int) < a2)) && (a0 == (8 : Int))) && (!(sLt e9.Name e1.Name))) then (some (4 : Int)) else ((gd ((decide ((0 : Int) < a2)) && (a0 == (9 : Int))) (idx a1 (IntKind.i64.wrap (a2 - (1 : Int))))).bind fun e12 => ((gd ((decide ((0 : Int) < a2)) && (a0 == (9 : Int))) (Zew e12 e1)).bind fun r14 => (if (((decide ((0 : Int) < a2)) && (a0 == (9 : Int))) && (!r14)) then (some (4 : Int)) else (some (0 : Int))))))))))))
def Zdb (a0 : Zb) : Nat → (Int) → Option ((Int) ⊕ (Unit))
 | 0, _ => none
 | n + 1, x15 => (if (decide (x15 < (a0.List.length : Int))) then ((Zgt a0.Kind a0.List x15).bind fun r17 => (if (r17 != (0 : Int)) then (some (.inl r17)) else ((Zdb a0 n) (IntKind.i64.wrap (x15 + (1 : Int)))))) else (some (.inr ())))
def Zc9 (a0 : Zb) : Option (Int) := (if ((decide (a0.Kind < (1 : Int))) || (decide ((9 : Int) < a0.Kind))) then (some (5 : Int)) else ((Zg2 a0.Kind).bind fun r2 => ((Zgq a0 r2).bind fun r4 => (if (!r4) then (some (4 : Int)) else (if ((a0.Kind == (1 : Int)) && (decide ((64 : Int) < (a0.Text.size : Int)))) then (some (3 : Int)) else (if ((a0.Kind == (4 : Int)) && ((((decide (a0.Low < (IntKind.i64.wrap (0 - (2305843009213693952 : Int))))) || (decide ((2305843009213693952 : Int) < a0.High))) || (decide (a0.Num < a0.Low))) || (decide (a0.High < a0.Num)))) then (some (1 : Int)) else ((Zei a0.Real).bind fun r9 => (if (!r9) then (some (4 : Int)) else (if (decide (a0.Kind < (8 : Int))) then (some (0 : Int)) else (if ((decide (a0.Cap < (1 : Int))) || (decide ((32 : Int) < a0.Cap))) then (some (1 : Int)) else (if (decide (a0.Cap < (a0.List.length : Int))) then (some (8 : Int)) else ((Zdb a0 (Int.toNat ((a0.List.length : Int) - (0 : Int)) + 1) (0 : Int)).bind fun z20 => match z20 with | .inl r => some r | .inr () => (some (0 : Int))))))))))))))
def Zdp (a0 : Int) : Option (Int) := (if ((decide (a0 < (0 : Int))) || (decide ((21 : Int) < a0))) then (some (0 : Int)) else ((idx ([(0 : Int), (0 : Int), (0 : Int), (0 : Int), (0 : Int), (1 : Int), (1 : Int), (2 : Int), (3 : Int), (3 : Int), (4 : Int), (4 : Int), (4 : Int), (5 : Int), (6 : Int), (7 : Int), (7 : Int), (7 : Int), (8 : Int), (8 : Int), (8 : Int), (9 : Int)] : List Int) a0).bind fun e2 => (some e2)))
def Zdi (a0 : Zb) (a1 : Zb) : Nat → (Int) → Option ((Bool) ⊕ (Unit))
 | 0, _ => none
 | n + 1, x5 => (if (decide (x5 < (a0.List.length : Int))) then ((idx a0.List x5).bind fun e7 => ((idx a1.List x5).bind fun e9 => ((gd (!(!sEq e7.Name e9.Name)) (idx a0.List x5)).bind fun e11 => ((gd (!(!sEq e7.Name e9.Name)) (idx a1.List x5)).bind fun e13 => ((gd (!(!sEq e7.Name e9.Name)) (Zc7 e11.Score e13.Score)).bind fun r15 => (if ((!sEq e7.Name e9.Name) || (!r15)) then (some (.inl false)) else ((Zdi a0 a1 n) (IntKind.i64.wrap (x5 + (1 : Int)))))))))) else (some (.inr ())))
def Zeg (a0 : Zb) (a1 : Zb) : Option (Bool) := (if ((((((a0.Kind != a1.Kind) || (a0.Num != a1.Num)) || (a0.Low != a1.Low)) || (a0.High != a1.High)) || (a0.Cap != a1.Cap)) || (!sEq a0.Text a1.Text)) then (some false) else ((Zc7 a0.Real a1.Real).bind fun r2 => (if ((!r2) || ((a0.List.length : Int) != (a1.List.length : Int))) then (some false) else ((Zdi a0 a1 (Int.toNat ((a0.List.length : Int) - (0 : Int)) + 1) (0 : Int)).bind fun z18 => match z18 with | .inl r => some r | .inr () => (some true)))))
def Ziy (a0 : Int) : Option (ByteArray) := (if ((decide (a0 < (0 : Int))) || (decide ((21 : Int) < a0))) then (some (⟨#[]⟩ : ByteArray)) else ((idx ([(⟨#[]⟩ : ByteArray), (⟨#[109]⟩ : ByteArray), (⟨#[]⟩ : ByteArray), (⟨#[]⟩ : ByteArray), (⟨#[]⟩ : ByteArray), (⟨#[115]⟩ : ByteArray), (⟨#[115]⟩ : ByteArray), (⟨#[110]⟩ : ByteArray), (⟨#[110]⟩ : ByteArray), (⟨#[110]⟩ : ByteArray), (⟨#[110]⟩ : ByteArray), (⟨#[110]⟩ : ByteArray), (⟨#[110]⟩ : ByteArray), (⟨#[120]⟩ : ByteArray), (⟨#[120]⟩ : ByteArray), (⟨#[120]⟩ : ByteArray), (⟨#[120]⟩ : ByteArray), (⟨#[120]⟩ : ByteArray), (⟨#[115]⟩ : ByteArray), (⟨#[115]⟩ : ByteArray), (⟨#[115]⟩ : ByteArray), (⟨#[120, 115]⟩ : ByteArray)] : List ByteArray) a0).bind fun e2 => (some e2)))
def Zfz (a1 : Int) (r1 : ByteArray) : Nat → (Int) → Option ((Bool) ⊕ (Unit))
 | 0, _ => none
 | n + 1, x3 => (if (decide (x3 < (r1.size : Int))) then ((sidx r1 x3).bind fun b5 => (if (b5 == a1) then (some (.inl true)) else ((Zfz a1 r1 n) (IntKind.i64.wrap (x3 + (1 : Int)))))) else (some (.inr ())))
def Zdd (a0 : Int) (a1 : Int) : Option (Bool) := ((Ziy a0).bind fun r1 => ((Zfz a1 r1 (Int.toNat ((r1.size : Int) - (0 : Int)) + 1) (0 : Int)).bind fun z8 => match z8 with | .inl r => some r | .inr () => (some false)))
def Zea (a0 : Zs) : Option (Int) := (if ((decide (a0.Kind < (1 : Int))) || (decide ((21 : Int) < a0.Kind))) then (some (5 : Int)) else (if ((decide ((a0.Key.size : Int) < (1 : Int))) || (decide ((24 : Int) < (a0.Key.size : Int)))) then (some (1 : Int)) else ((Zdd a0.Kind (110 : Int)).bind fun r3 => ((gd (!((!r3) && (a0.N != (0 : Int)))) (Zdd a0.Kind (120 : Int))).bind fun r5 => ((gd ((!((!r3) && (a0.N != (0 : Int)))) && (!r5)) (Zc7 a0.X (0 : Nat))).bind fun r7 => ((gd (!(((!r3) && (a0.N != (0 : Int))) || ((!r5) && (!r7)))) (Zdd a0.Kind (115 : Int))).bind fun r9 => (if ((((!r3) && (a0.N != (0 : Int))) || ((!r5) && (!r7))) || ((!r9) && (!sEq a0.S (⟨#[]⟩ : ByteArray)))) then (some (4 : Int)) else ((gd (a0.Kind != (1 : Int)) (Zeg a0.Make ({ Kind := (0 : Int), Num := (0 : Int), Low := (0 : Int), High := (0 : Int), Real := (0 : Nat), Cap := (0 : Int), Text := ByteArray.empty, List := ([] : List Zh) } : Zb))).bind fun r12 => (if ((a0.Kind != (1 : Int)) && (!r12)) then (some (4 : Int)) else ((Zdp a0.Kind).bind fun r15 => ((gd (!((r15 == (1 : Int)) && (decide ((64 : Int) < (a0.S.size : Int))))) (Zdp a0.Kind)).bind fun r17 => (if (((r15 == (1 : Int)) && (decide ((64 : Int) < (a0.S.size : Int)))) || ((r17 != (1 : Int)) && (decide ((16 : Int) < (a0.S.size : Int))))) then (some (3 : Int)) else (if (((a0.Kind == (10 : Int)) || (a0.Kind == (11 : Int))) && ((decide (a0.N < (0 : Int))) || (decide ((2305843009213693952 : Int) < a0.N)))) then (some (1 : Int)) else ((Zei a0.X).bind fun r21 => (if (!r21) then (some (4 : Int)) else (if (a0.Kind == (1 : Int)) then ((Zc9 a0.Make).bind fun r25 => (some r25)) else (some (0 : Int))))))))))))))))))
def Zdz (a0 : Zb) : Option (Zb) := (if (([] : List Zh).length + a0.List.length) * 24 ≤ 140737488355328 then (some ({ a0 with List := (([] : List Zh) ++ a0.List) })) else none)
def Zey (a0 : Nat) (a1 : Nat) : Option (Nat) := ((Zd2 a0 a1).bind fun r1 => (if r1 then (some a1) else (some a0)))
def Zex (a0 : Nat) (a1 : Nat) : Option (Nat) := ((Zd2 a1 a0).bind fun r1 => (if r1 then (some a1) else (some a0)))
def Zgr (a0 : Int) (a1 : Int) : Option (Bool) := (some ((((decide ((0 : Int) < a0)) && (decide ((0 : Int) < a1))) && (decide ((IntKind.i64.wrap (a0 + a1)) < (0 : Int)))) || (((decide (a0 < (0 : Int))) && (decide (a1 < (0 : Int)))) && (decide ((0 : Int) ≤ (IntKind.i64.wrap (a0 + a1)))))))
def Zdx (a0 : Int) : Option (Nat) := (if (decide ((9223372036854775808 : Int) ≤ a0)) then (some (Int.toNat (IntKind.u64.wrap (a0 - (9223372036854775808 : Int))))) else (some (Int.toNat (IntKind.u64.wrap ((9223372036854775808 : Int) + (IntKind.u64.wrap ((IntKind.u64.wrap ((9223372036854775808 : Int) - (1 : Int))) - a0)))))))
def Zd8 (a0 : Nat) : Option (Int) := ((Zdg a0).bind fun r1 => (if r1 then (some (IntKind.u64.wrap ((9223372036854775808 : Int) + (9221120237041090561 : Int)))) else (if (decide ((9223372036854775808 : Int) ≤ (a0 : Int))) then (some (IntKind.u64.wrap ((IntKind.u64.wrap ((9223372036854775808 : Int) - (1 : Int))) - (IntKind.u64.wrap ((a0 : Int) - (9223372036854775808 : Int)))))) else (some (IntKind.u64.wrap ((9223372036854775808 : Int) + (a0 : Int)))))))
def Zdw (a0 : List Zh) (a1 : ByteArray) : Nat → (Int) → Option ((Bool) ⊕ (Unit))
 | 0, _ => none
 | n + 1, x1 => (if (decide (x1 < (a0.length : Int))) then ((idx a0 x1).bind fun e3 => (if (sEq e3.Name a1) then (some (.inl true)) else ((Zdw a0 a1 n) (IntKind.i64.wrap (x1 + (1 : Int)))))) else (some (.inr ())))
def Ze0 (a0 : List Zh) (a1 : ByteArray) : Option (Bool) := ((Zdw a0 a1 (Int.toNat ((a0.length : Int) - (0 : Int)) + 1) (0 : Int)).bind fun z6 => match z6 with | .inl r => some r | .inr () => (some false))
def Ze2 (j30 : List Zh) : Option (List Zh) := (some j30)
def Zc8 (a0 : List Zh) (x3 : Int) (kk : (List Zh) → (Bool) → (Int) → Option ((List Zh) × Bool)) (j20 : List Zh) (j21 : Bool) : Option ((List Zh) × Bool) := ((idx a0 x3).bind fun e22 => (if (j20.length + ([e22] : List Zh).length) * 24 ≤ 140737488355328 then (kk (j20 ++ ([e22] : List Zh)) j21 (IntKind.i64.wrap (x3 + (1 : Int)))) else none))
def Zb2 (a0 : List Zh) (a1 : Zh) (a2 : Bool) : Nat → (List Zh) → (Bool) → (Int) → Option ((List Zh) × Bool)
 | 0, _, _, _ => none
 | n + 1, x1, x2, x3 => (if (decide (x3 < (a0.length : Int))) then ((gd (!a2) (idx a0 x3)).bind fun e5 => ((gd (!a2) (Zew e5 a1)).bind fun r7 => ((gd ((!((!a2) && r7)) && a2) (idx a0 x3)).bind fun e9 => ((idx a0 x3).bind fun e11 => ((gd ((sEq e11.Name a1.Name) && (!a2)) (idx a0 x3)).bind fun e13 => ((gd ((sEq e11.Name a1.Name) && (!a2)) (Zc7 e13.Score a1.Score)).bind fun r15 => (if ((!x2) && (!(((!a2) && r7) || (a2 && (sLt e9.Name a1.Name))))) then (if (!((sEq e11.Name a1.Name) && (a2 || r15))) then (if (x1.length + ([a1] : List Zh).length) * 24 ≤ 140737488355328 then (Zc8 a0 x3 (Zb2 a0 a1 a2 n) (x1 ++ ([a1] : List Zh)) true) else none) else (Zc8 a0 x3 (Zb2 a0 a1 a2 n) x1 true)) else (Zc8 a0 x3 (Zb2 a0 a1 a2 n) x1 x2)))))))) else (some (x1, x2)))
def Zeh (a0 : List Zh) (a1 : Zh) (a2 : Bool) : Option (List Zh) := ((Zb2 a0 a1 a2 (Int.toNat ((a0.length : Int) - (0 : Int)) + 1) ([] : List Zh) false (0 : Int)).bind fun z27 => match z27 with | (y25, y26) => (if (!y26) then (if (y25.length + ([a1] : List Zh).length) * 24 ≤ 140737488355328 then (Ze2 (y25 ++ ([a1] : List Zh))) else none) else (Ze2 y25)))
def Zy (j65 : Zb) (j66 : Zi) : Option (Zb × Zi) := (some (j65, j66))
def Zgf (x43 : Int) (kk : (List Zh) → (Int) → Option (List Zh)) (j51 : List Zh) : Option (List Zh) := (kk j51 (IntKind.i64.wrap (x43 + (1 : Int))))
def Zc2 (a0 : Zb) (a1 : Zs) : Nat → (List Zh) → (Int) → Option (List Zh)
 | 0, _, _ => none
 | n + 1, x42, x43 => (if (decide (x43 < (a0.List.length : Int))) then ((idx a0.List x43).bind fun e45 => (if (!sEq e45.Name a1.S) then ((idx a0.List x43).bind fun e48 => (if (x42.length + ([e48] : List Zh).length) * 24 ≤ 140737488355328 then (Zgf x43 (Zc2 a0 a1 n) (x42 ++ ([e48] : List Zh))) else none)) else (Zgf x43 (Zc2 a0 a1 n) x42))) else (some x42))
def Zdk (a0 : Zb) (j64 : List Zh) : Option (Zb × Zi) := (Zy ({ a0 with List := j64 }) ({ Code := (0 : Int), Num := (0 : Int), Rec := (default : Zb) } : Zi))
def Zb7 (a0 : Zb) (a1 : Zs) (j11 : Bool) : Option (Zb × Zi) := (if j11 then (if (decide (a0.Num < a1.N)) then (Zy a0 ({ ({ Code := (0 : Int), Num := (0 : Int), Rec := (default : Zb) } : Zi) with Code := (11 : Int) })) else (Zy a0 ({ Code := (0 : Int), Num := (0 : Int), Rec := (default : Zb) } : Zi))) else (if (a1.Kind == (10 : Int)) then (if (decide (a0.High < (IntKind.i64.wrap (a0.Num + a1.N)))) then (Zy a0 ({ ({ Code := (0 : Int), Num := (0 : Int), Rec := (default : Zb) } : Zi) with Code := (9 : Int) })) else (Zy ({ a0 with Num := (IntKind.i64.wrap (a0.Num + a1.N)) }) ({ Code := (0 : Int), Num := (0 : Int), Rec := (default : Zb) } : Zi))) else (if (a1.Kind == (11 : Int)) then (if (decide ((IntKind.i64.wrap (a0.Num - a1.N)) < a0.Low)) then (Zy a0 ({ ({ Code := (0 : Int), Num := (0 : Int), Rec := (default : Zb) } : Zi) with Code := (10 : Int) })) else (Zy ({ a0 with Num := (IntKind.i64.wrap (a0.Num - a1.N)) }) ({ Code := (0 : Int), Num := (0 : Int), Rec := (default : Zb) } : Zi))) else (if (a1.Kind == (13 : Int)) then ((Zey a0.Real a1.X).bind fun r19 => (Zy ({ a0 with Real := r19 }) ({ Code := (0 : Int), Num := (0 : Int), Rec := (default : Zb) } : Zi))) else (if (a1.Kind == (14 : Int)) then ((Zex a0.Real a1.X).bind fun r22 => (Zy ({ a0 with Real := r22 }) ({ Code := (0 : Int), Num := (0 : Int), Rec := (default : Zb) } : Zi))) else (if (a1.Kind == (15 : Int)) then ((Zd8 (fadd a0.Real a1.X)).bind fun r25 => ((Zdx r25).bind fun r27 => (Zy ({ a0 with Real := r27 }) ({ Code := (0 : Int), Num := (0 : Int), Rec := (default : Zb) } : Zi)))) else (if (a1.Kind == (16 : Int)) then ((Zd8 (fmul a0.Real a1.X)).bind fun r30 => ((Zdx r30).bind fun r32 => (Zy ({ a0 with Real := r32 }) ({ Code := (0 : Int), Num := (0 : Int), Rec := (default : Zb) } : Zi)))) else (if (a1.Kind == (17 : Int)) then (Zy ({ a0 with Real := a1.X }) ({ Code := (0 : Int), Num := (0 : Int), Rec := (default : Zb) } : Zi)) else (if (a1.Kind == (18 : Int)) then ((Ze0 a0.List a1.S).bind fun r36 => (if ((!r36) && (decide (a0.Cap ≤ (a0.List.length : Int)))) then (Zy a0 ({ ({ Code := (0 : Int), Num := (0 : Int), Rec := (default : Zb) } : Zi) with Code := (8 : Int) })) else ((Zeh a0.List ({ Score := (0 : Nat), Name := a1.S } : Zh) true).bind fun r39 => (Zy ({ a0 with List := r39 }) ({ Code := (0 : Int), Num := (0 : Int), Rec := (default : Zb) } : Zi))))) else (if (a1.Kind == (19 : Int)) then ((Zc2 a0 a1 (Int.toNat ((a0.List.length : Int) - (0 : Int)) + 1) ([] : List Zh) (0 : Int)).bind fun z53 => match z53 with | y52 => (Zy ({ a0 with List := y52 }) ({ Code := (0 : Int), Num := (0 : Int), Rec := (default : Zb) } : Zi))) else (if (a1.Kind == (20 : Int)) then ((Ze0 a0.List a1.S).bind fun r55 => (if (!r55) then (Zy a0 ({ ({ Code := (0 : Int), Num := (0 : Int), Rec := (default : Zb) } : Zi) with Code := (11 : Int) })) else (Zy a0 ({ Code := (0 : Int), Num := (0 : Int), Rec := (default : Zb) } : Zi)))) else (if (a1.Kind == (21 : Int)) then ((Zeh a0.List ({ Score := a1.X, Name := a1.S } : Zh) false).bind fun r59 => (if (decide (a0.Cap < (r59.length : Int))) then ((cut r59 (0 : Int) a0.Cap).bind fun c62 => (Zdk a0 c62)) else (Zdk a0 r59))) else (Zy a0 ({ Code := (0 : Int), Num := (0 : Int), Rec := (default : Zb) } : Zi))))))))))))))
def Zbk (a0 : Zb) (a1 : Zs) : Option (Zb × Zi) := (if (a1.Kind == (5 : Int)) then (Zy ({ a0 with Text := a1.S }) ({ Code := (0 : Int), Num := (0 : Int), Rec := (default : Zb) } : Zi)) else (if (a1.Kind == (6 : Int)) then ((Zdz a0).bind fun r3 => (Zy ({ a0 with Text := a1.S }) ({ ({ Code := (0 : Int), Num := (0 : Int), Rec := (default : Zb) } : Zi) with Rec := r3 }))) else (if (a1.Kind == (7 : Int)) then (Zy ({ a0 with Num := (IntKind.i64.wrap (a0.Num + a1.N)) }) ({ Code := (0 : Int), Num := (0 : Int), Rec := (default : Zb) } : Zi)) else (if (a1.Kind == (8 : Int)) then ((Zgr a0.Num a1.N).bind fun r7 => (if r7 then (Zy a0 ({ ({ Code := (0 : Int), Num := (0 : Int), Rec := (default : Zb) } : Zi) with Code := (9 : Int) })) else (Zy ({ a0 with Num := (IntKind.i64.wrap (a0.Num + a1.N)) }) ({ Code := (0 : Int), Num := (0 : Int), Rec := (default : Zb) } : Zi)))) else (if (a1.Kind == (9 : Int)) then (Zb7 a0 a1 (a1.Kind == (9 : Int))) else (Zb7 a0 a1 (a1.Kind == (12 : Int))))))))
def Zen (a1 : Bool) (a2 : Zs) (r3 : Zb) (j18 : Int) : Option (Zb × Bool × Zi) := (if (j18 != (0 : Int)) then (some (r3, a1, ({ Code := j18, Num := (0 : Int), Rec := (default : Zb) } : Zi))) else (if (a2.Kind == (1 : Int)) then ((Zdz a2.Make).bind fun r21 => (some (r21, true, ({ Code := (0 : Int), Num := (0 : Int), Rec := (default : Zb) } : Zi)))) else (if (a2.Kind == (2 : Int)) then (some (({ Kind := (0 : Int), Num := (0 : Int), Low := (0 : Int), High := (0 : Int), Real := (0 : Nat), Cap := (0 : Int), Text := ByteArray.empty, List := ([] : List Zh) } : Zb), false, ({ Code := (0 : Int), Num := (0 : Int), Rec := (default : Zb) } : Zi))) else (if (a2.Kind == (3 : Int)) then (some (r3, a1, ({ Code := (0 : Int), Num := r3.Kind, Rec := (default : Zb) } : Zi))) else (if (a2.Kind == (4 : Int)) then ((Zdz r3).bind fun r26 => (some (r3, a1, ({ Code := (0 : Int), Num := (0 : Int), Rec := r26 } : Zi)))) else ((Zbk r3 a2).bind fun r28 => (some (r28.1, a1, r28.2))))))))
def Zer (a1 : Bool) (a2 : Zs) (r3 : Zb) (j14 : Int) : Option (Zb × Bool × Zi) := ((Zdp a2.Kind).bind fun r15 => (if (((j14 == (0 : Int)) && (r15 != (0 : Int))) && (r15 != r3.Kind)) then (Zen a1 a2 r3 (5 : Int)) else (Zen a1 a2 r3 j14)))
def Zeq (a1 : Bool) (a2 : Zs) (r3 : Zb) (j12 : Int) : Option (Zb × Bool × Zi) := (if ((((j12 == (0 : Int)) && (!a1)) && (a2.Kind != (1 : Int))) && (a2.Kind != (3 : Int))) then (Zer a1 a2 r3 (6 : Int)) else (Zer a1 a2 r3 j12))
def Zdc (a1 : Bool) (a2 : Zs) (r3 : Zb) (j10 : Int) : Option (Zb × Bool × Zi) := (if (((j10 == (0 : Int)) && (a2.Kind == (1 : Int))) && a1) then (Zeq a1 a2 r3 (7 : Int)) else (Zeq a1 a2 r3 j10))
def Zes (a1 : Bool) (a2 : Zs) (j2 : Zb) : Option (Zb × Bool × Zi) := ((Zdz j2).bind fun r3 => ((Zea a2).bind fun r5 => (if ((r5 == (0 : Int)) && a1) then ((Zc9 r3).bind fun r8 => (Zdc a1 a2 r3 r8)) else (Zdc a1 a2 r3 r5))))
def Zev (a0 : Zb) (a1 : Bool) (a2 : Zs) : Option (Zb × Bool × Zi) := (if (!a1) then (Zes a1 a2 ({ Kind := (0 : Int), Num := (0 : Int), Low := (0 : Int), High := (0 : Int), Real := (0 : Nat), Cap := (0 : Int), Text := ByteArray.empty, List := ([] : List Zh) } : Zb)) else (Zes a1 a2 a0))
def Zfk (a0 : Zb) (j4 : Zs) : Option (Zb) := ((Zev a0 true j4).bind fun r5 => (some r5.1))
def Zd9 (a0 : Zb) (j2 : Zs) : Option (Zb) := (if (((j2.Kind == (8 : Int)) || (j2.Kind == (10 : Int))) || (j2.Kind == (11 : Int))) then (Zfk a0 ({ j2 with Kind := (7 : Int) })) else (Zfk a0 j2))
def Zhs (a0 : Zb) (a1 : Zs) : Option (Zb) := (if (a1.Kind == (11 : Int)) then (Zd9 a0 ({ a1 with N := (IntKind.i64.wrap (0 - a1.N)) })) else (Zd9 a0 a1))
def Zd3 (x17 : Zb) (x18 : Int) (kk : (Zb) → (Int) → Option (Zb)) (j27 : Zs) : Option (Zb) := ((Zev x17 true j27).bind fun r28 => (kk r28.1 (IntKind.i64.wrap (x18 + (1 : Int)))))
def Zbz (e5 : Zb) : Nat → (Zb) → (Int) → Option (Zb)
 | 0, _, _ => none
 | n + 1, x17, x18 => (if ((decide (x18 < (e5.List.length : Int))) && (decide ((8 : Int) ≤ x17.Kind))) then ((idx e5.List x18).bind fun e20 => (if (x17.Kind == (9 : Int)) then ((idx e5.List x18).bind fun e23 => ((idx e5.List x18).bind fun e25 => (Zd3 x17 x18 (Zbz e5 n) ({ Kind := (21 : Int), Key := (⟨#[107]⟩ : ByteArray), N := (0 : Int), X := e23.Score, S := e25.Name, Make := (default : Zb), Must := false } : Zs)))) else (Zd3 x17 x18 (Zbz e5 n) ({ Kind := (18 : Int), Key := (⟨#[107]⟩ : ByteArray), N := (0 : Int), X := (0 : Nat), S := e20.Name, Make := (default : Zb), Must := false } : Zs)))) else (some x17))
def Zd1 (x3 : Int) (e5 : Zb) (kk : (Zb) → (Int) → Option (Zb)) (j16 : Zb) : Option (Zb) := ((Zbz e5 (Int.toNat ((e5.List.length : Int) - (0 : Int)) + 1) j16 (0 : Int)).bind fun z31 => match z31 with | y30 => (kk y30 (IntKind.i64.wrap (x3 + (1 : Int)))))
def Zd4 (x3 : Int) (e5 : Zb) (kk : (Zb) → (Int) → Option (Zb)) (j12 : Zb) : Option (Zb) := (if (j12.Kind == (6 : Int)) then ((Zex j12.Real e5.Real).bind fun r14 => (Zd1 x3 e5 kk ({ j12 with Real := r14 }))) else (Zd1 x3 e5 kk j12))
def Zep (x3 : Int) (e5 : Zb) (kk : (Zb) → (Int) → Option (Zb)) (j8 : Zb) : Option (Zb) := (if (j8.Kind == (5 : Int)) then ((Zey j8.Real e5.Real).bind fun r10 => (Zd4 x3 e5 kk ({ j8 with Real := r10 }))) else (Zd4 x3 e5 kk j8))
def Zb5 (a1 : List Zb) : Nat → (Zb) → (Int) → Option (Zb)
 | 0, _, _ => none
 | n + 1, x2, x3 => (if (decide (x3 < (a1.length : Int))) then ((idx a1 x3).bind fun e5 => (if ((decide ((2 : Int) ≤ x2.Kind)) && (decide (x2.Kind ≤ (4 : Int)))) then (Zep x3 e5 (Zb5 a1 n) ({ x2 with Num := (IntKind.i64.wrap (x2.Num + e5.Num)) })) else (Zep x3 e5 (Zb5 a1 n) x2))) else (some x2))
def Zgc (a0 : Zb) (a1 : List Zb) : Option (Zb) := (if (([] : List Zh).length + a0.List.length) * 24 ≤ 140737488355328 then ((Zb5 a1 (Int.toNat ((a1.length : Int) - (0 : Int)) + 1) ({ a0 with List := (([] : List Zh) ++ a0.List) }) (0 : Int)).bind fun z33 => match z33 with | y32 => (some y32)) else none)
def Zck (a1 : List Zb) : Nat → (Int) → Option ((Bool) ⊕ (Unit))
 | 0, _ => none
 | n + 1, x7 => (if (decide (x7 < (a1.length : Int))) then ((idx a1 x7).bind fun e9 => ((Zfg e9 ([] : List Zb3)).bind fun r11 => (if r11 then (some (.inl true)) else ((Zck a1 n) (IntKind.i64.wrap (x7 + (1 : Int))))))) else (some (.inr ())))
def Zfo (a0 : Zb) (a1 : List Zb) (a2 : Zs) : Option (Bool) := ((Zhd).bind fun r1 => (if (!r1) then (some false) else ((gd (!(decide ((10 : Int) < (a1.length : Int)))) (Zfg a0 ([({ Worker := (0 : Int), Act := a2 } : Zb3)] : List Zb3))).bind fun r4 => (if ((decide ((10 : Int) < (a1.length : Int))) || r4) then (some true) else ((Zck a1 (Int.toNat ((a1.length : Int) - (0 : Int)) + 1) (0 : Int)).bind fun z14 => match z14 with | .inl r => some r | .inr () => ((Zkk a0 a2).bind fun r15 => ((Zhs a0 a2).bind fun r17 => ((Zeg r15 r17).bind fun r19 => ((gd r19 (Zii a0 a1)).bind fun r21 => ((gd r19 (Zgc a0 a1)).bind fun r23 => ((gd r19 (Zeg r21 r23)).bind fun r25 => (some (r19 && r25)))))))))))))
def Zl6 (x : Zh) : Prop := (x.Score < 2 ^ 64) ∧ (x.Name.size ≤ maxLen)
def Ze7 (x : Zb) : Prop := ((IntKind.i64).min ≤ x.Kind ∧ x.Kind ≤ (IntKind.i64).max) ∧ ((IntKind.i64).min ≤ x.Num ∧ x.Num ≤ (IntKind.i64).max) ∧ ((IntKind.i64).min ≤ x.Low ∧ x.Low ≤ (IntKind.i64).max) ∧ ((IntKind.i64).min ≤ x.High ∧ x.High ≤ (IntKind.i64).max) ∧ (x.Real < 2 ^ 64) ∧ ((IntKind.i64).min ≤ x.Cap ∧ x.Cap ≤ (IntKind.i64).max) ∧ (x.Text.size ≤ maxLen) ∧ (x.List.length ≤ maxLen ∧ ∀ e0 ∈ x.List, (Zl6 e0))
def Zj1 (x : Zs) : Prop := ((IntKind.i64).min ≤ x.Kind ∧ x.Kind ≤ (IntKind.i64).max) ∧ (x.Key.size ≤ maxLen) ∧ ((IntKind.i64).min ≤ x.N ∧ x.N ≤ (IntKind.i64).max) ∧ (x.X < 2 ^ 64) ∧ (x.S.size ≤ maxLen) ∧ (Ze7 x.Make) ∧ True
def Zj8 (x : Zb3) : Prop := ((IntKind.i64).min ≤ x.Worker ∧ x.Worker ≤ (IntKind.i64).max) ∧ (Zj1 x.Act)
end Go.CL
namespace Go.CL
open Go Go.RowKit Go.Proofs
theorem Za : Tryd.prog.follows .mixedOrders = true := by kernel_rfl
theorem Z3j {α : Type} {l : List α} (h : l.length = 1) : ∃ u0, l = [u0] := by
 match l, h with
 | [u0], _ => exact ⟨u0, rfl⟩
theorem Zjh {α : Type} {l : List α} (h : l.length = 2) : ∃ u0 u1, l = [u0, u1] := by
 match l, h with
 | [u0, u1], _ => exact ⟨u0, u1, rfl⟩
theorem Zyr {α : Type} {l : List α} (h : l.length = 8) : ∃ u0 u1 u2 u3 u4 u5 u6 u7, l = [u0, u1, u2, u3, u4, u5, u6, u7] := by
 match l, h with
 | [u0, u1, u2, u3, u4, u5, u6, u7], _ => exact ⟨u0, u1, u2, u3, u4, u5, u6, u7, rfl⟩
theorem Z2d {α : Type} {l : List α} (h : l.length = 14) : ∃ u0 u1 u2 u3 u4 u5 u6 u7 u8 u9 u10 u11 u12 u13, l = [u0, u1, u2, u3, u4, u5, u6, u7, u8, u9, u10, u11, u12, u13] := by
 match l, h with
 | [u0, u1, u2, u3, u4, u5, u6, u7, u8, u9, u10, u11, u12, u13], _ => exact ⟨u0, u1, u2, u3, u4, u5, u6, u7, u8, u9, u10, u11, u12, u13, rfl⟩
def Zsn : List (Kd.FK Zbw) := [⟨_, Kd.bool, 0, fun x : Zbw => x.text⟩,
 ⟨_, Kd.bool, 1, fun x : Zbw => x.num⟩,
 ⟨_, Kd.bool, 2, fun x : Zbw => x.bounds⟩,
 ⟨_, Kd.bool, 3, fun x : Zbw => x.real⟩,
 ⟨_, Kd.bool, 4, fun x : Zbw => x.list⟩]
def Zcs : Kd Zbw := Kd.struct 5 Zsn (by rfl)
theorem Znu : ∀ g, Zcs.K g (default : Zbw) [.bool false, .bool false, .bool false, .bool false, .bool false] := fun g => ⟨rfl, (List.forall_mem_cons.2 ⟨(rfl), (List.forall_mem_cons.2 ⟨(rfl), (List.forall_mem_cons.2 ⟨(rfl), (List.forall_mem_cons.2 ⟨(rfl), (List.forall_mem_cons.2 ⟨(rfl), (fun _ h => by cases h)⟩)⟩)⟩)⟩)⟩)⟩
def Ztt : List (Kd.FK Zh) := [⟨_, Kd.flt, 0, fun x : Zh => x.Score⟩,
 ⟨_, Kd.str, 1, fun x : Zh => x.Name⟩]
def Zr : Kd Zh := Kd.struct 2 Ztt (by rfl)
theorem Zgi : ∀ g, Zr.K g (default : Zh) [.float .f64 0, .string ByteArray.empty] := fun g => ⟨rfl, (List.forall_mem_cons.2 ⟨(rfl), (List.forall_mem_cons.2 ⟨(rfl), (fun _ h => by cases h)⟩)⟩)⟩
def Zrr : List (Kd.FK Zb) := [⟨_, (Kd.int .i64), 0, fun x : Zb => x.Kind⟩,
 ⟨_, (Kd.int .i64), 1, fun x : Zb => x.Num⟩,
 ⟨_, (Kd.int .i64), 2, fun x : Zb => x.Low⟩,
 ⟨_, (Kd.int .i64), 3, fun x : Zb => x.High⟩,
 ⟨_, Kd.flt, 4, fun x : Zb => x.Real⟩,
 ⟨_, (Kd.int .i64), 5, fun x : Zb => x.Cap⟩,
 ⟨_, Kd.str, 6, fun x : Zb => x.Text⟩,
 ⟨_, Zr.sl, 7, fun x : Zb => x.List⟩]
def Zf : Kd Zb := Kd.struct 8 Zrr (by rfl)
theorem Zbo : ∀ g, Zf.K g (default : Zb) [.int .i64 0, .int .i64 0, .int .i64 0, .int .i64 0, .float .f64 0, .int .i64 0, .string ByteArray.empty, .slice none 0 0] := fun g => ⟨rfl, (List.forall_mem_cons.2 ⟨(rfl), (List.forall_mem_cons.2 ⟨(rfl), (List.forall_mem_cons.2 ⟨(rfl), (List.forall_mem_cons.2 ⟨(rfl), (List.forall_mem_cons.2 ⟨(rfl), (List.forall_mem_cons.2 ⟨(rfl), (List.forall_mem_cons.2 ⟨(rfl), (List.forall_mem_cons.2 ⟨(⟨none, 0, rfl, Nat.le_refl _, Nat.zero_le _, .inl rfl⟩), (fun _ h => by cases h)⟩)⟩)⟩)⟩)⟩)⟩)⟩)⟩)⟩
def Ztx : List (Kd.FK Zcy) := [⟨_, Kd.str, 0, fun x : Zcy => x.word⟩,
 ⟨_, (Kd.int .i64), 1, fun x : Zcy => x.on⟩,
 ⟨_, Kd.str, 2, fun x : Zcy => x.has⟩]
def Zdm : Kd Zcy := Kd.struct 3 Ztx (by rfl)
theorem Zpf : ∀ g, Zdm.K g (default : Zcy) [.string ByteArray.empty, .int .i64 0, .string ByteArray.empty] := fun g => ⟨rfl, (List.forall_mem_cons.2 ⟨(rfl), (List.forall_mem_cons.2 ⟨(rfl), (List.forall_mem_cons.2 ⟨(rfl), (fun _ h => by cases h)⟩)⟩)⟩)⟩
def Zu7 : List (Kd.FK Zs) := [⟨_, (Kd.int .i64), 0, fun x : Zs => x.Kind⟩,
 ⟨_, Kd.str, 1, fun x : Zs => x.Key⟩,
 ⟨_, (Kd.int .i64), 2, fun x : Zs => x.N⟩,
 ⟨_, Kd.flt, 3, fun x : Zs => x.X⟩,
 ⟨_, Kd.str, 4, fun x : Zs => x.S⟩,
 ⟨_, Zf, 5, fun x : Zs => x.Make⟩,
 ⟨_, Kd.bool, 13, fun x : Zs => x.Must⟩]
def Zw : Kd Zs := Kd.struct 14 Zu7 (by rfl)
theorem Zjy : ∀ g, Zw.K g (default : Zs) [.int .i64 0, .string ByteArray.empty, .int .i64 0, .float .f64 0, .string ByteArray.empty, .int .i64 0, .int .i64 0, .int .i64 0, .int .i64 0, .float .f64 0, .int .i64 0, .string ByteArray.empty, .slice none 0 0, .bool false] := fun g => ⟨rfl, (List.forall_mem_cons.2 ⟨(rfl), (List.forall_mem_cons.2 ⟨(rfl), (List.forall_mem_cons.2 ⟨(rfl), (List.forall_mem_cons.2 ⟨(rfl), (List.forall_mem_cons.2 ⟨(rfl), (List.forall_mem_cons.2 ⟨(Zbo _), (List.forall_mem_cons.2 ⟨(rfl), (fun _ h => by cases h)⟩)⟩)⟩)⟩)⟩)⟩)⟩)⟩
def Zrv : List (Kd.FK Zi) := [⟨_, (Kd.int .i64), 0, fun x : Zi => x.Code⟩,
 ⟨_, (Kd.int .i64), 1, fun x : Zi => x.Num⟩,
 ⟨_, Zf, 2, fun x : Zi => x.Rec⟩]
def Zu : Kd Zi := Kd.struct 10 Zrv (by rfl)
theorem Ze6 : ∀ g, Zu.K g (default : Zi) [.int .i64 0, .int .i64 0, .int .i64 0, .int .i64 0, .int .i64 0, .int .i64 0, .float .f64 0, .int .i64 0, .string ByteArray.empty, .slice none 0 0] := fun g => ⟨rfl, (List.forall_mem_cons.2 ⟨(rfl), (List.forall_mem_cons.2 ⟨(rfl), (List.forall_mem_cons.2 ⟨(Zbo _), (fun _ h => by cases h)⟩)⟩)⟩)⟩
def Zru : List (Kd.FK Z3) := [⟨_, (Kd.int .u64), 0, fun x : Z3 => x.up⟩,
 ⟨_, (Kd.int .u64), 1, fun x : Z3 => x.down⟩]
def Z9 : Kd Z3 := Kd.struct 2 Zru (by rfl)
theorem Zid : ∀ g, Z9.K g (default : Z3) [.int .u64 0, .int .u64 0] := fun g => ⟨rfl, (List.forall_mem_cons.2 ⟨(rfl), (List.forall_mem_cons.2 ⟨(rfl), (fun _ h => by cases h)⟩)⟩)⟩
def Zqh : List (Kd.FK Z2) := [⟨_, Zf, 0, fun x : Z2 => x.r⟩,
 ⟨_, Z9.sl, 8, fun x : Z2 => x.by_⟩]
def Zfv : Kd Z2 := Kd.struct 9 Zqh (by rfl)
def Znj : List (Kd.FK Zb3) := [⟨_, (Kd.int .i64), 0, fun x : Zb3 => x.Worker⟩,
 ⟨_, Zw, 1, fun x : Zb3 => x.Act⟩]
def Zde : Kd Zb3 := Kd.struct 15 Znj (by rfl)
theorem Znl : ∀ g, Zde.K g (default : Zb3) [.int .i64 0, .int .i64 0, .string ByteArray.empty, .int .i64 0, .float .f64 0, .string ByteArray.empty, .int .i64 0, .int .i64 0, .int .i64 0, .int .i64 0, .float .f64 0, .int .i64 0, .string ByteArray.empty, .slice none 0 0, .bool false] := fun g => ⟨rfl, (List.forall_mem_cons.2 ⟨(rfl), (List.forall_mem_cons.2 ⟨(Zjy _), (fun _ h => by cases h)⟩)⟩)⟩
def Zsu : Zcy → List Value := fun x => [.string x.word, .int .i64 x.on, .string x.has]
theorem gm_1 : (1, g_1.flatMap Zsu) ∈ GL := List.mem_of_getElem? (i := 0) rfl
theorem gk_1 : ∀ g, (Kd.arr 22 Zdm).K g g_1 (g_1.flatMap Zsu) := fun g => Z3x (dk := Zdm) (enc := Zsu) (fun g x => ⟨rfl, (List.forall_mem_cons.2 ⟨rfl, (List.forall_mem_cons.2 ⟨rfl, (List.forall_mem_cons.2 ⟨rfl, (fun _ h => by cases h)⟩)⟩)⟩)⟩) g g_1
theorem Zz9 {N d : Nat} {o : Oper} {uses : Z8} {x0 : Operand} {v0 : Bool} (hop : o.op = .build 88 #[(0, x0)]) (hd : o.dst = some d) (h0 : Opd uses x0 (Kd.bool.pd v0)) : OB Tryd.prog N o uses [(d, Zcs.pd { text := v0, num := false, bounds := false, real := false, list := false })] [] := by
 refine Zcw hop hd fun a g hh => ?_
 obtain ⟨c0, k0, e0⟩ := h0 a g hh
 obtain rfl := k0
 refine ⟨.agg #[.bool v0, .bool false, .bool false, .bool false, .bool false], ?_, [.bool v0, .bool false, .bool false, .bool false, .bool false], ⟨rfl, (List.forall_mem_cons.2 ⟨rfl, (List.forall_mem_cons.2 ⟨(rfl), (List.forall_mem_cons.2 ⟨(rfl), (List.forall_mem_cons.2 ⟨(rfl), (List.forall_mem_cons.2 ⟨(rfl), (fun _ h => by cases h)⟩)⟩)⟩)⟩)⟩)⟩, rfl⟩
 simp only [List.map_toArray, List.map_cons, List.map_nil, e0]
 exact Zcm Tryd.underlying88 (zero := .agg #[.bool false, .bool false, .bool false, .bool false, .bool false]) (by kernel_rfl) (places := [(0, 1), (1, 1), (2, 1), (3, 1), (4, 1)]) (by kernel_rfl) (by kernel_rfl) g.w
theorem Zis : Ty Tryd.prog 88 Zcs := ⟨by kernel_rfl, by kernel_rfl⟩
theorem Z0r {N d : Nat} {o : Oper} {uses : Z8} {x1 : Operand} {v1 : Bool} (hop : o.op = .build 88 #[(1, x1)]) (hd : o.dst = some d) (h1 : Opd uses x1 (Kd.bool.pd v1)) : OB Tryd.prog N o uses [(d, Zcs.pd { text := false, num := v1, bounds := false, real := false, list := false })] [] := by
 refine Zcw hop hd fun a g hh => ?_
 obtain ⟨c1, k1, e1⟩ := h1 a g hh
 obtain rfl := k1
 refine ⟨.agg #[.bool false, .bool v1, .bool false, .bool false, .bool false], ?_, [.bool false, .bool v1, .bool false, .bool false, .bool false], ⟨rfl, (List.forall_mem_cons.2 ⟨(rfl), (List.forall_mem_cons.2 ⟨rfl, (List.forall_mem_cons.2 ⟨(rfl), (List.forall_mem_cons.2 ⟨(rfl), (List.forall_mem_cons.2 ⟨(rfl), (fun _ h => by cases h)⟩)⟩)⟩)⟩)⟩)⟩, rfl⟩
 simp only [List.map_toArray, List.map_cons, List.map_nil, e1]
 exact Zcm Tryd.underlying88 (zero := .agg #[.bool false, .bool false, .bool false, .bool false, .bool false]) (by kernel_rfl) (places := [(0, 1), (1, 1), (2, 1), (3, 1), (4, 1)]) (by kernel_rfl) (by kernel_rfl) g.w
theorem Zwg {N d : Nat} {o : Oper} {uses : Z8} {x1 : Operand} {x2 : Operand} {v1 : Bool} {v2 : Bool} (hop : o.op = .build 88 #[(1, x1), (2, x2)]) (hd : o.dst = some d) (h1 : Opd uses x1 (Kd.bool.pd v1)) (h2 : Opd uses x2 (Kd.bool.pd v2)) : OB Tryd.prog N o uses [(d, Zcs.pd { text := false, num := v1, bounds := v2, real := false, list := false })] [] := by
 refine Zcw hop hd fun a g hh => ?_
 obtain ⟨c1, k1, e1⟩ := h1 a g hh
 obtain rfl := k1
 obtain ⟨c2, k2, e2⟩ := h2 a g hh
 obtain rfl := k2
 refine ⟨.agg #[.bool false, .bool v1, .bool v2, .bool false, .bool false], ?_, [.bool false, .bool v1, .bool v2, .bool false, .bool false], ⟨rfl, (List.forall_mem_cons.2 ⟨(rfl), (List.forall_mem_cons.2 ⟨rfl, (List.forall_mem_cons.2 ⟨rfl, (List.forall_mem_cons.2 ⟨(rfl), (List.forall_mem_cons.2 ⟨(rfl), (fun _ h => by cases h)⟩)⟩)⟩)⟩)⟩)⟩, rfl⟩
 simp only [List.map_toArray, List.map_cons, List.map_nil, e1, e2]
 exact Zcm Tryd.underlying88 (zero := .agg #[.bool false, .bool false, .bool false, .bool false, .bool false]) (by kernel_rfl) (places := [(0, 1), (1, 1), (2, 1), (3, 1), (4, 1)]) (by kernel_rfl) (by kernel_rfl) g.w
theorem Z07 {N d : Nat} {o : Oper} {uses : Z8} {x3 : Operand} {v3 : Bool} (hop : o.op = .build 88 #[(3, x3)]) (hd : o.dst = some d) (h3 : Opd uses x3 (Kd.bool.pd v3)) : OB Tryd.prog N o uses [(d, Zcs.pd { text := false, num := false, bounds := false, real := v3, list := false })] [] := by
 refine Zcw hop hd fun a g hh => ?_
 obtain ⟨c3, k3, e3⟩ := h3 a g hh
 obtain rfl := k3
 refine ⟨.agg #[.bool false, .bool false, .bool false, .bool v3, .bool false], ?_, [.bool false, .bool false, .bool false, .bool v3, .bool false], ⟨rfl, (List.forall_mem_cons.2 ⟨(rfl), (List.forall_mem_cons.2 ⟨(rfl), (List.forall_mem_cons.2 ⟨(rfl), (List.forall_mem_cons.2 ⟨rfl, (List.forall_mem_cons.2 ⟨(rfl), (fun _ h => by cases h)⟩)⟩)⟩)⟩)⟩)⟩, rfl⟩
 simp only [List.map_toArray, List.map_cons, List.map_nil, e3]
 exact Zcm Tryd.underlying88 (zero := .agg #[.bool false, .bool false, .bool false, .bool false, .bool false]) (by kernel_rfl) (places := [(0, 1), (1, 1), (2, 1), (3, 1), (4, 1)]) (by kernel_rfl) (by kernel_rfl) g.w
theorem Z1i {N d : Nat} {o : Oper} {uses : Z8} {x4 : Operand} {v4 : Bool} (hop : o.op = .build 88 #[(4, x4)]) (hd : o.dst = some d) (h4 : Opd uses x4 (Kd.bool.pd v4)) : OB Tryd.prog N o uses [(d, Zcs.pd { text := false, num := false, bounds := false, real := false, list := v4 })] [] := by
 refine Zcw hop hd fun a g hh => ?_
 obtain ⟨c4, k4, e4⟩ := h4 a g hh
 obtain rfl := k4
 refine ⟨.agg #[.bool false, .bool false, .bool false, .bool false, .bool v4], ?_, [.bool false, .bool false, .bool false, .bool false, .bool v4], ⟨rfl, (List.forall_mem_cons.2 ⟨(rfl), (List.forall_mem_cons.2 ⟨(rfl), (List.forall_mem_cons.2 ⟨(rfl), (List.forall_mem_cons.2 ⟨(rfl), (List.forall_mem_cons.2 ⟨rfl, (fun _ h => by cases h)⟩)⟩)⟩)⟩)⟩)⟩, rfl⟩
 simp only [List.map_toArray, List.map_cons, List.map_nil, e4]
 exact Zcm Tryd.underlying88 (zero := .agg #[.bool false, .bool false, .bool false, .bool false, .bool false]) (by kernel_rfl) (places := [(0, 1), (1, 1), (2, 1), (3, 1), (4, 1)]) (by kernel_rfl) (by kernel_rfl) g.w
theorem Z1x {N d : Nat} {o : Oper} {uses : Z8}   (hop : o.op = .build 88 #[]) (hd : o.dst = some d)  : OB Tryd.prog N o uses [(d, Zcs.pd { text := false, num := false, bounds := false, real := false, list := false })] [] := by
 refine Zcw hop hd fun a g hh => ?_
 refine ⟨.agg #[.bool false, .bool false, .bool false, .bool false, .bool false], ?_, [.bool false, .bool false, .bool false, .bool false, .bool false], ⟨rfl, (List.forall_mem_cons.2 ⟨(rfl), (List.forall_mem_cons.2 ⟨(rfl), (List.forall_mem_cons.2 ⟨(rfl), (List.forall_mem_cons.2 ⟨(rfl), (List.forall_mem_cons.2 ⟨(rfl), (fun _ h => by cases h)⟩)⟩)⟩)⟩)⟩)⟩, rfl⟩
 simp only [List.map_toArray, List.map_cons, List.map_nil, List.map_nil]
 exact Zcm Tryd.underlying88 (zero := .agg #[.bool false, .bool false, .bool false, .bool false, .bool false]) (by kernel_rfl) (places := [(0, 1), (1, 1), (2, 1), (3, 1), (4, 1)]) (by kernel_rfl) (by kernel_rfl) g.w
theorem Zsb : Ext Tryd.prog 61 Extern.MathFloatBits.float64frombits := ⟨_, Tryd.func61, rfl, rfl, by kernel_rfl, by kernel_rfl⟩
theorem Zyl : Zn Tryd.prog 33 := by
 unfold Zn
 kernel_rfl
theorem Zl4 : Zn Tryd.prog 66 := by
 unfold Zn
 kernel_rfl
theorem Zp8 : Ext Tryd.prog 73 Extern.MathFloatBits.float64bits := ⟨_, Tryd.func73, rfl, rfl, by kernel_rfl, by kernel_rfl⟩
theorem Zr6 : Zn Tryd.prog 81 := by
 unfold Zn
 kernel_rfl
theorem Zzv : Fld Tryd.prog 88 0 Zcs Kd.bool (fun x : Zbw => x.text) := Fld.of ⟨_, Kd.bool, 0, fun x : Zbw => x.text⟩ (List.mem_of_getElem? (i := 0) rfl) 0 rfl (by kernel_rfl) (by decide)
theorem ty_4 : Ty Tryd.prog 4 Kd.bool := ⟨by kernel_rfl, by kernel_rfl⟩
theorem Zgp : Fld Tryd.prog 25 6 Zf Kd.str (fun x : Zb => x.Text) := Fld.of ⟨_, Kd.str, 6, fun x : Zb => x.Text⟩ (List.mem_of_getElem? (i := 6) rfl) 6 rfl (by kernel_rfl) (by decide)
theorem ty_9 : Ty Tryd.prog 9 Kd.str := ⟨by kernel_rfl, by kernel_rfl⟩
theorem Zzz : Fld Tryd.prog 88 1 Zcs Kd.bool (fun x : Zbw => x.num) := Fld.of ⟨_, Kd.bool, 1, fun x : Zbw => x.num⟩ (List.mem_of_getElem? (i := 1) rfl) 1 rfl (by kernel_rfl) (by decide)
theorem Zbx : Fld Tryd.prog 25 1 Zf (Kd.int .i64) (fun x : Zb => x.Num) := Fld.of ⟨_, (Kd.int .i64), 1, fun x : Zb => x.Num⟩ (List.mem_of_getElem? (i := 1) rfl) 1 rfl (by kernel_rfl) (by decide)
theorem ty_2 : Ty Tryd.prog 2 (Kd.int .i64) := ⟨by kernel_rfl, by kernel_rfl⟩
theorem Zt8 : Fld Tryd.prog 88 2 Zcs Kd.bool (fun x : Zbw => x.bounds) := Fld.of ⟨_, Kd.bool, 2, fun x : Zbw => x.bounds⟩ (List.mem_of_getElem? (i := 2) rfl) 2 rfl (by kernel_rfl) (by decide)
theorem Zgl : Fld Tryd.prog 25 2 Zf (Kd.int .i64) (fun x : Zb => x.Low) := Fld.of ⟨_, (Kd.int .i64), 2, fun x : Zb => x.Low⟩ (List.mem_of_getElem? (i := 2) rfl) 2 rfl (by kernel_rfl) (by decide)
theorem Zgn : Fld Tryd.prog 25 3 Zf (Kd.int .i64) (fun x : Zb => x.High) := Fld.of ⟨_, (Kd.int .i64), 3, fun x : Zb => x.High⟩ (List.mem_of_getElem? (i := 3) rfl) 3 rfl (by kernel_rfl) (by decide)
theorem Z06 : Fld Tryd.prog 88 3 Zcs Kd.bool (fun x : Zbw => x.real) := Fld.of ⟨_, Kd.bool, 3, fun x : Zbw => x.real⟩ (List.mem_of_getElem? (i := 3) rfl) 3 rfl (by kernel_rfl) (by decide)
theorem Zcv : Fld Tryd.prog 25 4 Zf Kd.flt (fun x : Zb => x.Real) := Fld.of ⟨_, Kd.flt, 4, fun x : Zb => x.Real⟩ (List.mem_of_getElem? (i := 4) rfl) 4 rfl (by kernel_rfl) (by decide)
theorem Zby : Ty Tryd.prog 22 Kd.flt := ⟨by kernel_rfl, by kernel_rfl⟩
theorem Zoh : Zn Tryd.prog 76 := by
 unfold Zn
 kernel_rfl
theorem Zuw : Fld Tryd.prog 88 4 Zcs Kd.bool (fun x : Zbw => x.list) := Fld.of ⟨_, Kd.bool, 4, fun x : Zbw => x.list⟩ (List.mem_of_getElem? (i := 4) rfl) 4 rfl (by kernel_rfl) (by decide)
theorem Zeo : Fld Tryd.prog 25 5 Zf (Kd.int .i64) (fun x : Zb => x.Cap) := Fld.of ⟨_, (Kd.int .i64), 5, fun x : Zb => x.Cap⟩ (List.mem_of_getElem? (i := 5) rfl) 5 rfl (by kernel_rfl) (by decide)
theorem ty_3 : Ty Tryd.prog 3 (Kd.int .i64) := ⟨by kernel_rfl, by kernel_rfl⟩
theorem Zbm : Fld Tryd.prog 25 7 Zf Zr.sl (fun x : Zb => x.List) := Fld.of ⟨_, Zr.sl, 7, fun x : Zb => x.List⟩ (List.mem_of_getElem? (i := 7) rfl) 7 rfl (by kernel_rfl) (by decide)
theorem Zca : Ty Tryd.prog 23 Zr.sl := ⟨by kernel_rfl, by kernel_rfl⟩
theorem Zee : Fld Tryd.prog 75 0 Zr Kd.flt (fun x : Zh => x.Score) := Fld.of ⟨_, Kd.flt, 0, fun x : Zh => x.Score⟩ (List.mem_of_getElem? (i := 0) rfl) 0 rfl (by kernel_rfl) (by decide)
theorem Zvr : Zn Tryd.prog 65 := by
 unfold Zn
 kernel_rfl
theorem Zc4 : Fld Tryd.prog 75 1 Zr Kd.str (fun x : Zh => x.Name) := Fld.of ⟨_, Kd.str, 1, fun x : Zh => x.Name⟩ (List.mem_of_getElem? (i := 1) rfl) 1 rfl (by kernel_rfl) (by decide)
theorem Zdv : (Tryd.prog.info? 75).map (·.size) = some Zr.sz := by kernel_rfl
theorem Zdh : Ty Tryd.prog 75 Zr := ⟨by kernel_rfl, by kernel_rfl⟩
theorem Zvt : Zn Tryd.prog 51 := by
 unfold Zn
 kernel_rfl
theorem Zvn : Zn Tryd.prog 77 := by
 unfold Zn
 kernel_rfl
theorem Zcx : Fld Tryd.prog 25 0 Zf (Kd.int .i64) (fun x : Zb => x.Kind) := Fld.of ⟨_, (Kd.int .i64), 0, fun x : Zb => x.Kind⟩ (List.mem_of_getElem? (i := 0) rfl) 0 rfl (by kernel_rfl) (by decide)
theorem Z3e : Zn Tryd.prog 49 := by
 unfold Zn
 kernel_rfl
theorem Z0 : Ty Tryd.prog 25 Zf := ⟨by kernel_rfl, by kernel_rfl⟩
theorem Z31 : Zn Tryd.prog 50 := by
 unfold Zn
 kernel_rfl
theorem Z24 : Zn Tryd.prog 52 := by
 unfold Zn
 kernel_rfl
theorem Zr1 : Zn Tryd.prog 23 := by
 unfold Zn
 kernel_rfl
theorem Zkt {N d : Nat} {o : Oper} {uses : Z8}   (hop : o.op = .build 25 #[]) (hd : o.dst = some d)  : OB Tryd.prog N o uses [(d, Zf.pd { Kind := (0 : Int), Num := (0 : Int), Low := (0 : Int), High := (0 : Int), Real := (0 : Nat), Cap := (0 : Int), Text := ByteArray.empty, List := ([] : List Zh) })] [] := by
 refine Zcw hop hd fun a g hh => ?_
 refine ⟨.agg #[.int .i64 0, .int .i64 0, .int .i64 0, .int .i64 0, .float .f64 0, .int .i64 0, .string ByteArray.empty, .slice none 0 0], ?_, [.int .i64 0, .int .i64 0, .int .i64 0, .int .i64 0, .float .f64 0, .int .i64 0, .string ByteArray.empty, .slice none 0 0], ⟨rfl, (List.forall_mem_cons.2 ⟨(rfl), (List.forall_mem_cons.2 ⟨(rfl), (List.forall_mem_cons.2 ⟨(rfl), (List.forall_mem_cons.2 ⟨(rfl), (List.forall_mem_cons.2 ⟨(rfl), (List.forall_mem_cons.2 ⟨(rfl), (List.forall_mem_cons.2 ⟨(rfl), (List.forall_mem_cons.2 ⟨(⟨none, 0, rfl, Nat.le_refl _, Nat.zero_le _, .inl rfl⟩), (fun _ h => by cases h)⟩)⟩)⟩)⟩)⟩)⟩)⟩)⟩)⟩, rfl⟩
 simp only [List.map_toArray, List.map_cons, List.map_nil, List.map_nil]
 exact Zcm Tryd.underlying25 (zero := .agg #[.int .i64 0, .int .i64 0, .int .i64 0, .int .i64 0, .float .f64 0, .int .i64 0, .string ByteArray.empty, .slice none 0 0]) (by kernel_rfl) (places := [(0, 1), (1, 1), (2, 1), (3, 1), (4, 1), (5, 1), (6, 1), (7, 1)]) (by kernel_rfl) (by kernel_rfl) g.w
theorem Z0q {N d : Nat} {o : Oper} {uses : Z8} {x0 : Operand} {v0 : Int} (hop : o.op = .build 25 #[(0, x0)]) (hd : o.dst = some d) (h0 : Opd uses x0 ((Kd.int .i64).pd v0)) : OB Tryd.prog N o uses [(d, Zf.pd { Kind := v0, Num := (0 : Int), Low := (0 : Int), High := (0 : Int), Real := (0 : Nat), Cap := (0 : Int), Text := ByteArray.empty, List := ([] : List Zh) })] [] := by
 refine Zcw hop hd fun a g hh => ?_
 obtain ⟨c0, k0, e0⟩ := h0 a g hh
 obtain rfl := k0
 refine ⟨.agg #[.int .i64 v0, .int .i64 0, .int .i64 0, .int .i64 0, .float .f64 0, .int .i64 0, .string ByteArray.empty, .slice none 0 0], ?_, [.int .i64 v0, .int .i64 0, .int .i64 0, .int .i64 0, .float .f64 0, .int .i64 0, .string ByteArray.empty, .slice none 0 0], ⟨rfl, (List.forall_mem_cons.2 ⟨rfl, (List.forall_mem_cons.2 ⟨(rfl), (List.forall_mem_cons.2 ⟨(rfl), (List.forall_mem_cons.2 ⟨(rfl), (List.forall_mem_cons.2 ⟨(rfl), (List.forall_mem_cons.2 ⟨(rfl), (List.forall_mem_cons.2 ⟨(rfl), (List.forall_mem_cons.2 ⟨(⟨none, 0, rfl, Nat.le_refl _, Nat.zero_le _, .inl rfl⟩), (fun _ h => by cases h)⟩)⟩)⟩)⟩)⟩)⟩)⟩)⟩)⟩, rfl⟩
 simp only [List.map_toArray, List.map_cons, List.map_nil, e0]
 exact Zcm Tryd.underlying25 (zero := .agg #[.int .i64 0, .int .i64 0, .int .i64 0, .int .i64 0, .float .f64 0, .int .i64 0, .string ByteArray.empty, .slice none 0 0]) (by kernel_rfl) (places := [(0, 1), (1, 1), (2, 1), (3, 1), (4, 1), (5, 1), (6, 1), (7, 1)]) (by kernel_rfl) (by kernel_rfl) g.w
theorem Z33 : Zn Tryd.prog 32 := by
 unfold Zn
 kernel_rfl
theorem Zq7 {N d : Nat} {o : Oper} {uses : Z8} {x0 : Operand} {x4 : Operand} {v0 : Int} {v4 : Nat} (hop : o.op = .build 25 #[(0, x0), (4, x4)]) (hd : o.dst = some d) (h0 : Opd uses x0 ((Kd.int .i64).pd v0)) (h4 : Opd uses x4 (Kd.flt.pd v4)) : OB Tryd.prog N o uses [(d, Zf.pd { Kind := v0, Num := (0 : Int), Low := (0 : Int), High := (0 : Int), Real := v4, Cap := (0 : Int), Text := ByteArray.empty, List := ([] : List Zh) })] [] := by
 refine Zcw hop hd fun a g hh => ?_
 obtain ⟨c0, k0, e0⟩ := h0 a g hh
 obtain rfl := k0
 obtain ⟨c4, k4, e4⟩ := h4 a g hh
 obtain rfl := k4
 refine ⟨.agg #[.int .i64 v0, .int .i64 0, .int .i64 0, .int .i64 0, .float .f64 v4, .int .i64 0, .string ByteArray.empty, .slice none 0 0], ?_, [.int .i64 v0, .int .i64 0, .int .i64 0, .int .i64 0, .float .f64 v4, .int .i64 0, .string ByteArray.empty, .slice none 0 0], ⟨rfl, (List.forall_mem_cons.2 ⟨rfl, (List.forall_mem_cons.2 ⟨(rfl), (List.forall_mem_cons.2 ⟨(rfl), (List.forall_mem_cons.2 ⟨(rfl), (List.forall_mem_cons.2 ⟨rfl, (List.forall_mem_cons.2 ⟨(rfl), (List.forall_mem_cons.2 ⟨(rfl), (List.forall_mem_cons.2 ⟨(⟨none, 0, rfl, Nat.le_refl _, Nat.zero_le _, .inl rfl⟩), (fun _ h => by cases h)⟩)⟩)⟩)⟩)⟩)⟩)⟩)⟩)⟩, rfl⟩
 simp only [List.map_toArray, List.map_cons, List.map_nil, e0, e4]
 exact Zcm Tryd.underlying25 (zero := .agg #[.int .i64 0, .int .i64 0, .int .i64 0, .int .i64 0, .float .f64 0, .int .i64 0, .string ByteArray.empty, .slice none 0 0]) (by kernel_rfl) (places := [(0, 1), (1, 1), (2, 1), (3, 1), (4, 1), (5, 1), (6, 1), (7, 1)]) (by kernel_rfl) (by kernel_rfl) g.w
theorem Zrl {N d : Nat} {o : Oper} {uses : Z8} {x0 : Operand} {x5 : Operand} {v0 : Int} {v5 : Int} (hop : o.op = .build 25 #[(0, x0), (5, x5)]) (hd : o.dst = some d) (h0 : Opd uses x0 ((Kd.int .i64).pd v0)) (h5 : Opd uses x5 ((Kd.int .i64).pd v5)) : OB Tryd.prog N o uses [(d, Zf.pd { Kind := v0, Num := (0 : Int), Low := (0 : Int), High := (0 : Int), Real := (0 : Nat), Cap := v5, Text := ByteArray.empty, List := ([] : List Zh) })] [] := by
 refine Zcw hop hd fun a g hh => ?_
 obtain ⟨c0, k0, e0⟩ := h0 a g hh
 obtain rfl := k0
 obtain ⟨c5, k5, e5⟩ := h5 a g hh
 obtain rfl := k5
 refine ⟨.agg #[.int .i64 v0, .int .i64 0, .int .i64 0, .int .i64 0, .float .f64 0, .int .i64 v5, .string ByteArray.empty, .slice none 0 0], ?_, [.int .i64 v0, .int .i64 0, .int .i64 0, .int .i64 0, .float .f64 0, .int .i64 v5, .string ByteArray.empty, .slice none 0 0], ⟨rfl, (List.forall_mem_cons.2 ⟨rfl, (List.forall_mem_cons.2 ⟨(rfl), (List.forall_mem_cons.2 ⟨(rfl), (List.forall_mem_cons.2 ⟨(rfl), (List.forall_mem_cons.2 ⟨(rfl), (List.forall_mem_cons.2 ⟨rfl, (List.forall_mem_cons.2 ⟨(rfl), (List.forall_mem_cons.2 ⟨(⟨none, 0, rfl, Nat.le_refl _, Nat.zero_le _, .inl rfl⟩), (fun _ h => by cases h)⟩)⟩)⟩)⟩)⟩)⟩)⟩)⟩)⟩, rfl⟩
 simp only [List.map_toArray, List.map_cons, List.map_nil, e0, e5]
 exact Zcm Tryd.underlying25 (zero := .agg #[.int .i64 0, .int .i64 0, .int .i64 0, .int .i64 0, .float .f64 0, .int .i64 0, .string ByteArray.empty, .slice none 0 0]) (by kernel_rfl) (places := [(0, 1), (1, 1), (2, 1), (3, 1), (4, 1), (5, 1), (6, 1), (7, 1)]) (by kernel_rfl) (by kernel_rfl) g.w
theorem Zz4 {N d : Nat} {o : Oper} {uses : Z8}   (hop : o.op = .build 108 #[]) (hd : o.dst = some d)  : OB Tryd.prog N o uses [(d, Zdm.pd { word := ByteArray.empty, on := (0 : Int), has := ByteArray.empty })] [] := by
 refine Zcw hop hd fun a g hh => ?_
 refine ⟨.agg #[.string ByteArray.empty, .int .i64 0, .string ByteArray.empty], ?_, [.string ByteArray.empty, .int .i64 0, .string ByteArray.empty], ⟨rfl, (List.forall_mem_cons.2 ⟨(rfl), (List.forall_mem_cons.2 ⟨(rfl), (List.forall_mem_cons.2 ⟨(rfl), (fun _ h => by cases h)⟩)⟩)⟩)⟩, rfl⟩
 simp only [List.map_toArray, List.map_cons, List.map_nil, List.map_nil]
 exact Zcm Tryd.underlying108 (zero := .agg #[.string ByteArray.empty, .int .i64 0, .string ByteArray.empty]) (by kernel_rfl) (places := [(0, 1), (1, 1), (2, 1)]) (by kernel_rfl) (by kernel_rfl) g.w
theorem Zig : Ty Tryd.prog 108 Zdm := ⟨by kernel_rfl, by kernel_rfl⟩
theorem Z2q : (Tryd.prog.info? 108).map (·.size) = some Zdm.sz := by kernel_rfl
theorem Zzn : Zn Tryd.prog 62 := by
 unfold Zn
 kernel_rfl
theorem Zs5 : Fld Tryd.prog 108 1 Zdm (Kd.int .i64) (fun x : Zcy => x.on) := Fld.of ⟨_, (Kd.int .i64), 1, fun x : Zcy => x.on⟩ (List.mem_of_getElem? (i := 1) rfl) 1 rfl (by kernel_rfl) (by decide)
theorem Zzf : Zn Tryd.prog 34 := by
 unfold Zn
 kernel_rfl
theorem Zcu : TE Tryd.prog 23 75 Zr 24 := TE.of Tryd.underlying23 (by kernel_rfl) (by decide) (by decide)
theorem Zr2 : Zn Tryd.prog 64 := by
 unfold Zn
 kernel_rfl
theorem Zi6 {c : Option Nat} {N j s : Nat} {o : Oper} {uses : Z8} {x z : Operand} {v : Zb} {y0 y : List Zh} {v0 : Zb} {t : Nat} (hT : Ty Tryd.prog t Zr.sl) (hop : o.op = .store t x z) (hd : o.dst = none) (hs : Opd uses (.tmp s) (Zbl c Zf j v)) (hx : Opd uses x (Ze4 Zf j v0 7 Zr.sl y0)) (hz : Opd uses z (Zr.sl.pd y)) : OB Tryd.prog N o uses [(s, Zbl c Zf j { v with List := y })] [j + 1] :=
 Zfl hT hop hd hs hx hz fun g cs ys hk hy => by
   have hc : cs.length = 8 := hk.1
   have hl : ys.length = 1 := Zr.sl.len hy
   exact ⟨by omega, (Zc5 (by omega)).trans hc, (List.forall_mem_cons.2 ⟨(by show (Kd.int .i64).K g v.Kind (seg (Z4 cs 7 ys) 0 1); rw [Zz (by omega) (by omega)]; exact hk.2 _ (List.mem_of_getElem? (i := 0) rfl)), (List.forall_mem_cons.2 ⟨(by show (Kd.int .i64).K g v.Num (seg (Z4 cs 7 ys) 1 1); rw [Zz (by omega) (by omega)]; exact hk.2 _ (List.mem_of_getElem? (i := 1) rfl)), (List.forall_mem_cons.2 ⟨(by show (Kd.int .i64).K g v.Low (seg (Z4 cs 7 ys) 2 1); rw [Zz (by omega) (by omega)]; exact hk.2 _ (List.mem_of_getElem? (i := 2) rfl)), (List.forall_mem_cons.2 ⟨(by show (Kd.int .i64).K g v.High (seg (Z4 cs 7 ys) 3 1); rw [Zz (by omega) (by omega)]; exact hk.2 _ (List.mem_of_getElem? (i := 3) rfl)), (List.forall_mem_cons.2 ⟨(by show Kd.flt.K g v.Real (seg (Z4 cs 7 ys) 4 1); rw [Zz (by omega) (by omega)]; exact hk.2 _ (List.mem_of_getElem? (i := 4) rfl)), (List.forall_mem_cons.2 ⟨(by show (Kd.int .i64).K g v.Cap (seg (Z4 cs 7 ys) 5 1); rw [Zz (by omega) (by omega)]; exact hk.2 _ (List.mem_of_getElem? (i := 5) rfl)), (List.forall_mem_cons.2 ⟨(by show Kd.str.K g v.Text (seg (Z4 cs 7 ys) 6 1); rw [Zz (by omega) (by omega)]; exact hk.2 _ (List.mem_of_getElem? (i := 6) rfl)), (List.forall_mem_cons.2 ⟨(by show Zr.sl.K g y (seg (Z4 cs 7 ys) 7 1); rw [Zc6 (by omega) hl]; exact hy), (fun _ h => by cases h)⟩)⟩)⟩)⟩)⟩)⟩)⟩)⟩)⟩
theorem Zs0 : Fld Tryd.prog 108 2 Zdm Kd.str (fun x : Zcy => x.has) := Fld.of ⟨_, Kd.str, 2, fun x : Zcy => x.has⟩ (List.mem_of_getElem? (i := 2) rfl) 2 rfl (by kernel_rfl) (by decide)
theorem Z1z : Zn Tryd.prog 111 := by
 unfold Zn
 kernel_rfl
theorem Z18 : Zn Tryd.prog 110 := by
 unfold Zn
 kernel_rfl
theorem Zpq : Zn Tryd.prog 104 := by
 unfold Zn
 kernel_rfl
theorem Zcq : Fld Tryd.prog 37 2 Zw (Kd.int .i64) (fun x : Zs => x.N) := Fld.of ⟨_, (Kd.int .i64), 2, fun x : Zs => x.N⟩ (List.mem_of_getElem? (i := 2) rfl) 2 rfl (by kernel_rfl) (by decide)
theorem Zgm : Fld Tryd.prog 37 3 Zw Kd.flt (fun x : Zs => x.X) := Fld.of ⟨_, Kd.flt, 3, fun x : Zs => x.X⟩ (List.mem_of_getElem? (i := 3) rfl) 3 rfl (by kernel_rfl) (by decide)
theorem Zd7 : Fld Tryd.prog 37 4 Zw Kd.str (fun x : Zs => x.S) := Fld.of ⟨_, Kd.str, 4, fun x : Zs => x.S⟩ (List.mem_of_getElem? (i := 4) rfl) 4 rfl (by kernel_rfl) (by decide)
theorem Zkd : Fld Tryd.prog 37 5 Zw Zf (fun x : Zs => x.Make) := Fld.of ⟨_, Zf, 5, fun x : Zs => x.Make⟩ (List.mem_of_getElem? (i := 5) rfl) 5 rfl (by kernel_rfl) (by decide)
theorem Z2p : Zn Tryd.prog 105 := by
 unfold Zn
 kernel_rfl
theorem Zb9 : Fld Tryd.prog 37 0 Zw (Kd.int .i64) (fun x : Zs => x.Kind) := Fld.of ⟨_, (Kd.int .i64), 0, fun x : Zs => x.Kind⟩ (List.mem_of_getElem? (i := 0) rfl) 0 rfl (by kernel_rfl) (by decide)
theorem Zxx : Fld Tryd.prog 108 0 Zdm Kd.str (fun x : Zcy => x.word) := Fld.of ⟨_, Kd.str, 0, fun x : Zcy => x.word⟩ (List.mem_of_getElem? (i := 0) rfl) 0 rfl (by kernel_rfl) (by decide)
theorem Zmb : Fld Tryd.prog 37 1 Zw Kd.str (fun x : Zs => x.Key) := Fld.of ⟨_, Kd.str, 1, fun x : Zs => x.Key⟩ (List.mem_of_getElem? (i := 1) rfl) 1 rfl (by kernel_rfl) (by decide)
theorem Zfa : Ty Tryd.prog 37 Zw := ⟨by kernel_rfl, by kernel_rfl⟩
theorem Z39 : Zn Tryd.prog 78 := by
 unfold Zn
 kernel_rfl
theorem Z3k : Zn Tryd.prog 79 := by
 unfold Zn
 kernel_rfl
theorem Zok {c : Option Nat} {N j s : Nat} {o : Oper} {uses : Z8} {x z : Operand} {v : Zb} {y0 y : ByteArray} {v0 : Zb} {t : Nat} (hT : Ty Tryd.prog t Kd.str) (hop : o.op = .store t x z) (hd : o.dst = none) (hs : Opd uses (.tmp s) (Zbl c Zf j v)) (hx : Opd uses x (Ze4 Zf j v0 6 Kd.str y0)) (hz : Opd uses z (Kd.str.pd y)) : OB Tryd.prog N o uses [(s, Zbl c Zf j { v with Text := y })] [j + 1] :=
 Zfl hT hop hd hs hx hz fun g cs ys hk hy => by
   have hc : cs.length = 8 := hk.1
   have hl : ys.length = 1 := Kd.str.len hy
   exact ⟨by omega, (Zc5 (by omega)).trans hc, (List.forall_mem_cons.2 ⟨(by show (Kd.int .i64).K g v.Kind (seg (Z4 cs 6 ys) 0 1); rw [Zz (by omega) (by omega)]; exact hk.2 _ (List.mem_of_getElem? (i := 0) rfl)), (List.forall_mem_cons.2 ⟨(by show (Kd.int .i64).K g v.Num (seg (Z4 cs 6 ys) 1 1); rw [Zz (by omega) (by omega)]; exact hk.2 _ (List.mem_of_getElem? (i := 1) rfl)), (List.forall_mem_cons.2 ⟨(by show (Kd.int .i64).K g v.Low (seg (Z4 cs 6 ys) 2 1); rw [Zz (by omega) (by omega)]; exact hk.2 _ (List.mem_of_getElem? (i := 2) rfl)), (List.forall_mem_cons.2 ⟨(by show (Kd.int .i64).K g v.High (seg (Z4 cs 6 ys) 3 1); rw [Zz (by omega) (by omega)]; exact hk.2 _ (List.mem_of_getElem? (i := 3) rfl)), (List.forall_mem_cons.2 ⟨(by show Kd.flt.K g v.Real (seg (Z4 cs 6 ys) 4 1); rw [Zz (by omega) (by omega)]; exact hk.2 _ (List.mem_of_getElem? (i := 4) rfl)), (List.forall_mem_cons.2 ⟨(by show (Kd.int .i64).K g v.Cap (seg (Z4 cs 6 ys) 5 1); rw [Zz (by omega) (by omega)]; exact hk.2 _ (List.mem_of_getElem? (i := 5) rfl)), (List.forall_mem_cons.2 ⟨(by show Kd.str.K g y (seg (Z4 cs 6 ys) 6 1); rw [Zc6 (by omega) hl]; exact hy), (List.forall_mem_cons.2 ⟨(by show Zr.sl.K g v.List (seg (Z4 cs 6 ys) 7 1); rw [Zz (by omega) (by omega)]; exact hk.2 _ (List.mem_of_getElem? (i := 7) rfl)), (fun _ h => by cases h)⟩)⟩)⟩)⟩)⟩)⟩)⟩)⟩)⟩
theorem Zmx : Zn Tryd.prog 37 := by
 unfold Zn
 kernel_rfl
theorem Zup : Fld Tryd.prog 79 2 Zu Zf (fun x : Zi => x.Rec) := Fld.of ⟨_, Zf, 2, fun x : Zi => x.Rec⟩ (List.mem_of_getElem? (i := 2) rfl) 2 rfl (by kernel_rfl) (by decide)
theorem Zum {c : Option Nat} {N j s : Nat} {o : Oper} {uses : Z8} {x z : Operand} {v : Zi} {y0 y : Zb} {v0 : Zi} {t : Nat} (hT : Ty Tryd.prog t Zf) (hop : o.op = .store t x z) (hd : o.dst = none) (hs : Opd uses (.tmp s) (Zbl c Zu j v)) (hx : Opd uses x (Ze4 Zu j v0 2 Zf y0)) (hz : Opd uses z (Zf.pd y)) : OB Tryd.prog N o uses [(s, Zbl c Zu j { v with Rec := y })] [j + 1] :=
 Zfl hT hop hd hs hx hz fun g cs ys hk hy => by
   have hc : cs.length = 10 := hk.1
   have hl : ys.length = 8 := Zf.len hy
   exact ⟨by omega, (Zc5 (by omega)).trans hc, (List.forall_mem_cons.2 ⟨(by show (Kd.int .i64).K g v.Code (seg (Z4 cs 2 ys) 0 1); rw [Zz (by omega) (by omega)]; exact hk.2 _ (List.mem_of_getElem? (i := 0) rfl)), (List.forall_mem_cons.2 ⟨(by show (Kd.int .i64).K g v.Num (seg (Z4 cs 2 ys) 1 1); rw [Zz (by omega) (by omega)]; exact hk.2 _ (List.mem_of_getElem? (i := 1) rfl)), (List.forall_mem_cons.2 ⟨(by show Zf.K g y (seg (Z4 cs 2 ys) 2 8); rw [Zc6 (by omega) hl]; exact hy), (fun _ h => by cases h)⟩)⟩)⟩)⟩
theorem Zil {c : Option Nat} {N j s : Nat} {o : Oper} {uses : Z8} {x z : Operand} {v : Zb} {y0 y : Int} {v0 : Zb} {t : Nat} (hT : Ty Tryd.prog t (Kd.int .i64)) (hop : o.op = .store t x z) (hd : o.dst = none) (hs : Opd uses (.tmp s) (Zbl c Zf j v)) (hx : Opd uses x (Ze4 Zf j v0 1 (Kd.int .i64) y0)) (hz : Opd uses z ((Kd.int .i64).pd y)) : OB Tryd.prog N o uses [(s, Zbl c Zf j { v with Num := y })] [j + 1] :=
 Zfl hT hop hd hs hx hz fun g cs ys hk hy => by
   have hc : cs.length = 8 := hk.1
   have hl : ys.length = 1 := (Kd.int .i64).len hy
   exact ⟨by omega, (Zc5 (by omega)).trans hc, (List.forall_mem_cons.2 ⟨(by show (Kd.int .i64).K g v.Kind (seg (Z4 cs 1 ys) 0 1); rw [Zz (by omega) (by omega)]; exact hk.2 _ (List.mem_of_getElem? (i := 0) rfl)), (List.forall_mem_cons.2 ⟨(by show (Kd.int .i64).K g y (seg (Z4 cs 1 ys) 1 1); rw [Zc6 (by omega) hl]; exact hy), (List.forall_mem_cons.2 ⟨(by show (Kd.int .i64).K g v.Low (seg (Z4 cs 1 ys) 2 1); rw [Zz (by omega) (by omega)]; exact hk.2 _ (List.mem_of_getElem? (i := 2) rfl)), (List.forall_mem_cons.2 ⟨(by show (Kd.int .i64).K g v.High (seg (Z4 cs 1 ys) 3 1); rw [Zz (by omega) (by omega)]; exact hk.2 _ (List.mem_of_getElem? (i := 3) rfl)), (List.forall_mem_cons.2 ⟨(by show Kd.flt.K g v.Real (seg (Z4 cs 1 ys) 4 1); rw [Zz (by omega) (by omega)]; exact hk.2 _ (List.mem_of_getElem? (i := 4) rfl)), (List.forall_mem_cons.2 ⟨(by show (Kd.int .i64).K g v.Cap (seg (Z4 cs 1 ys) 5 1); rw [Zz (by omega) (by omega)]; exact hk.2 _ (List.mem_of_getElem? (i := 5) rfl)), (List.forall_mem_cons.2 ⟨(by show Kd.str.K g v.Text (seg (Z4 cs 1 ys) 6 1); rw [Zz (by omega) (by omega)]; exact hk.2 _ (List.mem_of_getElem? (i := 6) rfl)), (List.forall_mem_cons.2 ⟨(by show Zr.sl.K g v.List (seg (Z4 cs 1 ys) 7 1); rw [Zz (by omega) (by omega)]; exact hk.2 _ (List.mem_of_getElem? (i := 7) rfl)), (fun _ h => by cases h)⟩)⟩)⟩)⟩)⟩)⟩)⟩)⟩)⟩
theorem Zio {c : Option Nat} {N j s : Nat} {o : Oper} {uses : Z8} {x z : Operand} {v : Zb} {y0 y : Nat} {v0 : Zb} {t : Nat} (hT : Ty Tryd.prog t Kd.flt) (hop : o.op = .store t x z) (hd : o.dst = none) (hs : Opd uses (.tmp s) (Zbl c Zf j v)) (hx : Opd uses x (Ze4 Zf j v0 4 Kd.flt y0)) (hz : Opd uses z (Kd.flt.pd y)) : OB Tryd.prog N o uses [(s, Zbl c Zf j { v with Real := y })] [j + 1] :=
 Zfl hT hop hd hs hx hz fun g cs ys hk hy => by
   have hc : cs.length = 8 := hk.1
   have hl : ys.length = 1 := Kd.flt.len hy
   exact ⟨by omega, (Zc5 (by omega)).trans hc, (List.forall_mem_cons.2 ⟨(by show (Kd.int .i64).K g v.Kind (seg (Z4 cs 4 ys) 0 1); rw [Zz (by omega) (by omega)]; exact hk.2 _ (List.mem_of_getElem? (i := 0) rfl)), (List.forall_mem_cons.2 ⟨(by show (Kd.int .i64).K g v.Num (seg (Z4 cs 4 ys) 1 1); rw [Zz (by omega) (by omega)]; exact hk.2 _ (List.mem_of_getElem? (i := 1) rfl)), (List.forall_mem_cons.2 ⟨(by show (Kd.int .i64).K g v.Low (seg (Z4 cs 4 ys) 2 1); rw [Zz (by omega) (by omega)]; exact hk.2 _ (List.mem_of_getElem? (i := 2) rfl)), (List.forall_mem_cons.2 ⟨(by show (Kd.int .i64).K g v.High (seg (Z4 cs 4 ys) 3 1); rw [Zz (by omega) (by omega)]; exact hk.2 _ (List.mem_of_getElem? (i := 3) rfl)), (List.forall_mem_cons.2 ⟨(by show Kd.flt.K g y (seg (Z4 cs 4 ys) 4 1); rw [Zc6 (by omega) hl]; exact hy), (List.forall_mem_cons.2 ⟨(by show (Kd.int .i64).K g v.Cap (seg (Z4 cs 4 ys) 5 1); rw [Zz (by omega) (by omega)]; exact hk.2 _ (List.mem_of_getElem? (i := 5) rfl)), (List.forall_mem_cons.2 ⟨(by show Kd.str.K g v.Text (seg (Z4 cs 4 ys) 6 1); rw [Zz (by omega) (by omega)]; exact hk.2 _ (List.mem_of_getElem? (i := 6) rfl)), (List.forall_mem_cons.2 ⟨(by show Zr.sl.K g v.List (seg (Z4 cs 4 ys) 7 1); rw [Zz (by omega) (by omega)]; exact hk.2 _ (List.mem_of_getElem? (i := 7) rfl)), (fun _ h => by cases h)⟩)⟩)⟩)⟩)⟩)⟩)⟩)⟩)⟩
theorem Znr : Zn Tryd.prog 106 := by
 unfold Zn
 kernel_rfl
theorem Z2h : Ty Tryd.prog 77 Kd.fnc := ⟨by kernel_rfl, by kernel_rfl⟩
theorem Z2c : Zn Tryd.prog 109 := by
 unfold Zn
 kernel_rfl
theorem Z2g : Zn Tryd.prog 108 := by
 unfold Zn
 kernel_rfl
theorem Z16 : Ext Tryd.prog 112 (Extern.SlicesOverlaps.overlaps #[23, 23] #[4]) := ⟨_, Tryd.func112, rfl, rfl, by kernel_rfl, by kernel_rfl⟩
theorem Zvk : Zn Tryd.prog 95 := by
 unfold Zn
 kernel_rfl
theorem Zt5 {N d : Nat} {o : Oper} {uses : Z8} {x1 : Operand} {v1 : ByteArray} (hop : o.op = .build 75 #[(1, x1)]) (hd : o.dst = some d) (h1 : Opd uses x1 (Kd.str.pd v1)) : OB Tryd.prog N o uses [(d, Zr.pd { Score := (0 : Nat), Name := v1 })] [] := by
 refine Zcw hop hd fun a g hh => ?_
 obtain ⟨c1, k1, e1⟩ := h1 a g hh
 obtain rfl := k1
 refine ⟨.agg #[.float .f64 0, .string v1], ?_, [.float .f64 0, .string v1], ⟨rfl, (List.forall_mem_cons.2 ⟨(rfl), (List.forall_mem_cons.2 ⟨rfl, (fun _ h => by cases h)⟩)⟩)⟩, rfl⟩
 simp only [List.map_toArray, List.map_cons, List.map_nil, e1]
 exact Zcm Tryd.underlying75 (zero := .agg #[.float .f64 0, .string ByteArray.empty]) (by kernel_rfl) (places := [(0, 1), (1, 1)]) (by kernel_rfl) (by kernel_rfl) g.w
theorem Zv7 : Zn Tryd.prog 107 := by
 unfold Zn
 kernel_rfl
theorem Z36 : Zn Tryd.prog 96 := by
 unfold Zn
 kernel_rfl
theorem Zrm {N d : Nat} {o : Oper} {uses : Z8} {x0 : Operand} {x1 : Operand} {v0 : Nat} {v1 : ByteArray} (hop : o.op = .build 75 #[(0, x0), (1, x1)]) (hd : o.dst = some d) (h0 : Opd uses x0 (Kd.flt.pd v0)) (h1 : Opd uses x1 (Kd.str.pd v1)) : OB Tryd.prog N o uses [(d, Zr.pd { Score := v0, Name := v1 })] [] := by
 refine Zcw hop hd fun a g hh => ?_
 obtain ⟨c0, k0, e0⟩ := h0 a g hh
 obtain rfl := k0
 obtain ⟨c1, k1, e1⟩ := h1 a g hh
 obtain rfl := k1
 refine ⟨.agg #[.float .f64 v0, .string v1], ?_, [.float .f64 v0, .string v1], ⟨rfl, (List.forall_mem_cons.2 ⟨rfl, (List.forall_mem_cons.2 ⟨rfl, (fun _ h => by cases h)⟩)⟩)⟩, rfl⟩
 simp only [List.map_toArray, List.map_cons, List.map_nil, e0, e1]
 exact Zcm Tryd.underlying75 (zero := .agg #[.float .f64 0, .string ByteArray.empty]) (by kernel_rfl) (places := [(0, 1), (1, 1)]) (by kernel_rfl) (by kernel_rfl) g.w
theorem Z2x : Zn Tryd.prog 82 := by
 unfold Zn
 kernel_rfl
theorem Z3w : Zn Tryd.prog 83 := by
 unfold Zn
 kernel_rfl
theorem Z2y : Zn Tryd.prog 84 := by
 unfold Zn
 kernel_rfl
theorem Z4d : Zn Tryd.prog 85 := by
 unfold Zn
 kernel_rfl
theorem Zzl : Zn Tryd.prog 86 := by
 unfold Zn
 kernel_rfl
theorem Z37 : Zn Tryd.prog 87 := by
 unfold Zn
 kernel_rfl
theorem Z3y : Zn Tryd.prog 88 := by
 unfold Zn
 kernel_rfl
theorem Zyu : Zn Tryd.prog 38 := by
 unfold Zn
 kernel_rfl
theorem Zzb : Zn Tryd.prog 39 := by
 unfold Zn
 kernel_rfl
theorem Z32 : Zn Tryd.prog 90 := by
 unfold Zn
 kernel_rfl
theorem Z26 : Zn Tryd.prog 91 := by
 unfold Zn
 kernel_rfl
theorem Z3t : Zn Tryd.prog 92 := by
 unfold Zn
 kernel_rfl
theorem Z3f : Zn Tryd.prog 93 := by
 unfold Zn
 kernel_rfl
theorem Z3u : Zn Tryd.prog 94 := by
 unfold Zn
 kernel_rfl
theorem Z4b : Zn Tryd.prog 97 := by
 unfold Zn
 kernel_rfl
theorem Z3i : Zn Tryd.prog 98 := by
 unfold Zn
 kernel_rfl
theorem Zqe : Zn Tryd.prog 89 := by
 unfold Zn
 kernel_rfl
theorem Zqx {N d : Nat} {o : Oper} {uses : Z8} {x0 : Operand} {v0 : Int} (hop : o.op = .build 79 #[(0, x0)]) (hd : o.dst = some d) (h0 : Opd uses x0 ((Kd.int .i64).pd v0)) : OB Tryd.prog N o uses [(d, Zu.pd { Code := v0, Num := (0 : Int), Rec := (default : Zb) })] [] := by
 refine Zcw hop hd fun a g hh => ?_
 obtain ⟨c0, k0, e0⟩ := h0 a g hh
 obtain rfl := k0
 refine ⟨.agg #[.int .i64 v0, .int .i64 0, .int .i64 0, .int .i64 0, .int .i64 0, .int .i64 0, .float .f64 0, .int .i64 0, .string ByteArray.empty, .slice none 0 0], ?_, [.int .i64 v0, .int .i64 0, .int .i64 0, .int .i64 0, .int .i64 0, .int .i64 0, .float .f64 0, .int .i64 0, .string ByteArray.empty, .slice none 0 0], ⟨rfl, (List.forall_mem_cons.2 ⟨rfl, (List.forall_mem_cons.2 ⟨(rfl), (List.forall_mem_cons.2 ⟨(Zbo _), (fun _ h => by cases h)⟩)⟩)⟩)⟩, rfl⟩
 simp only [List.map_toArray, List.map_cons, List.map_nil, e0]
 exact Zcm Tryd.underlying79 (zero := .agg #[.int .i64 0, .int .i64 0, .int .i64 0, .int .i64 0, .int .i64 0, .int .i64 0, .float .f64 0, .int .i64 0, .string ByteArray.empty, .slice none 0 0]) (by kernel_rfl) (places := [(0, 1), (1, 1), (2, 8)]) (by kernel_rfl) (by kernel_rfl) g.w
theorem Zct : Ty Tryd.prog 79 Zu := ⟨by kernel_rfl, by kernel_rfl⟩
theorem Zzm : Zn Tryd.prog 58 := by
 unfold Zn
 kernel_rfl
theorem Zp9 : Zn Tryd.prog 67 := by
 unfold Zn
 kernel_rfl
theorem Zob {N d : Nat} {o : Oper} {uses : Z8}   (hop : o.op = .build 79 #[]) (hd : o.dst = some d)  : OB Tryd.prog N o uses [(d, Zu.pd { Code := (0 : Int), Num := (0 : Int), Rec := (default : Zb) })] [] := by
 refine Zcw hop hd fun a g hh => ?_
 refine ⟨.agg #[.int .i64 0, .int .i64 0, .int .i64 0, .int .i64 0, .int .i64 0, .int .i64 0, .float .f64 0, .int .i64 0, .string ByteArray.empty, .slice none 0 0], ?_, [.int .i64 0, .int .i64 0, .int .i64 0, .int .i64 0, .int .i64 0, .int .i64 0, .float .f64 0, .int .i64 0, .string ByteArray.empty, .slice none 0 0], ⟨rfl, (List.forall_mem_cons.2 ⟨(rfl), (List.forall_mem_cons.2 ⟨(rfl), (List.forall_mem_cons.2 ⟨(Zbo _), (fun _ h => by cases h)⟩)⟩)⟩)⟩, rfl⟩
 simp only [List.map_toArray, List.map_cons, List.map_nil, List.map_nil]
 exact Zcm Tryd.underlying79 (zero := .agg #[.int .i64 0, .int .i64 0, .int .i64 0, .int .i64 0, .int .i64 0, .int .i64 0, .float .f64 0, .int .i64 0, .string ByteArray.empty, .slice none 0 0]) (by kernel_rfl) (places := [(0, 1), (1, 1), (2, 8)]) (by kernel_rfl) (by kernel_rfl) g.w
theorem Zuo {N d : Nat} {o : Oper} {uses : Z8} {x1 : Operand} {v1 : Int} (hop : o.op = .build 79 #[(1, x1)]) (hd : o.dst = some d) (h1 : Opd uses x1 ((Kd.int .i64).pd v1)) : OB Tryd.prog N o uses [(d, Zu.pd { Code := (0 : Int), Num := v1, Rec := (default : Zb) })] [] := by
 refine Zcw hop hd fun a g hh => ?_
 obtain ⟨c1, k1, e1⟩ := h1 a g hh
 obtain rfl := k1
 refine ⟨.agg #[.int .i64 0, .int .i64 v1, .int .i64 0, .int .i64 0, .int .i64 0, .int .i64 0, .float .f64 0, .int .i64 0, .string ByteArray.empty, .slice none 0 0], ?_, [.int .i64 0, .int .i64 v1, .int .i64 0, .int .i64 0, .int .i64 0, .int .i64 0, .float .f64 0, .int .i64 0, .string ByteArray.empty, .slice none 0 0], ⟨rfl, (List.forall_mem_cons.2 ⟨(rfl), (List.forall_mem_cons.2 ⟨rfl, (List.forall_mem_cons.2 ⟨(Zbo _), (fun _ h => by cases h)⟩)⟩)⟩)⟩, rfl⟩
 simp only [List.map_toArray, List.map_cons, List.map_nil, e1]
 exact Zcm Tryd.underlying79 (zero := .agg #[.int .i64 0, .int .i64 0, .int .i64 0, .int .i64 0, .int .i64 0, .int .i64 0, .float .f64 0, .int .i64 0, .string ByteArray.empty, .slice none 0 0]) (by kernel_rfl) (places := [(0, 1), (1, 1), (2, 8)]) (by kernel_rfl) (by kernel_rfl) g.w
theorem Zug {N d : Nat} {o : Oper} {uses : Z8} {x2 : Operand} {v2 : Zb} (hop : o.op = .build 79 #[(2, x2)]) (hd : o.dst = some d) (h2 : Opd uses x2 (Zf.pd v2)) : OB Tryd.prog N o uses [(d, Zu.pd { Code := (0 : Int), Num := (0 : Int), Rec := v2 })] [] := by
 refine Zcw hop hd fun a g hh => ?_
 obtain ⟨c2, k2, e2⟩ := h2 a g hh
 obtain ⟨u2_0, u2_1, u2_2, u2_3, u2_4, u2_5, u2_6, u2_7, rfl⟩ := Zyr (Zf.len k2)
 refine ⟨.agg #[.int .i64 0, .int .i64 0, u2_0, u2_1, u2_2, u2_3, u2_4, u2_5, u2_6, u2_7], ?_, [.int .i64 0, .int .i64 0, u2_0, u2_1, u2_2, u2_3, u2_4, u2_5, u2_6, u2_7], ⟨rfl, (List.forall_mem_cons.2 ⟨(rfl), (List.forall_mem_cons.2 ⟨(rfl), (List.forall_mem_cons.2 ⟨k2, (fun _ h => by cases h)⟩)⟩)⟩)⟩, rfl⟩
 simp only [List.map_toArray, List.map_cons, List.map_nil, e2]
 exact Zcm Tryd.underlying79 (zero := .agg #[.int .i64 0, .int .i64 0, .int .i64 0, .int .i64 0, .int .i64 0, .int .i64 0, .float .f64 0, .int .i64 0, .string ByteArray.empty, .slice none 0 0]) (by kernel_rfl) (places := [(0, 1), (1, 1), (2, 8)]) (by kernel_rfl) (by kernel_rfl) g.w
theorem Z4e : Zn Tryd.prog 68 := by
 unfold Zn
 kernel_rfl
theorem Zvd : (Tryd.prog.info? 25).map (·.size) = some Zf.sz := by kernel_rfl
theorem Zo8 {N d : Nat} {o : Oper} {uses : Z8} {x0 : Operand} {x1 : Operand} {x4 : Operand} {v0 : Int} {v1 : ByteArray} {v4 : ByteArray} (hop : o.op = .build 37 #[(0, x0), (1, x1), (4, x4)]) (hd : o.dst = some d) (h0 : Opd uses x0 ((Kd.int .i64).pd v0)) (h1 : Opd uses x1 (Kd.str.pd v1)) (h4 : Opd uses x4 (Kd.str.pd v4)) : OB Tryd.prog N o uses [(d, Zw.pd { Kind := v0, Key := v1, N := (0 : Int), X := (0 : Nat), S := v4, Make := (default : Zb), Must := false })] [] := by
 refine Zcw hop hd fun a g hh => ?_
 obtain ⟨c0, k0, e0⟩ := h0 a g hh
 obtain rfl := k0
 obtain ⟨c1, k1, e1⟩ := h1 a g hh
 obtain rfl := k1
 obtain ⟨c4, k4, e4⟩ := h4 a g hh
 obtain rfl := k4
 refine ⟨.agg #[.int .i64 v0, .string v1, .int .i64 0, .float .f64 0, .string v4, .int .i64 0, .int .i64 0, .int .i64 0, .int .i64 0, .float .f64 0, .int .i64 0, .string ByteArray.empty, .slice none 0 0, .bool false], ?_, [.int .i64 v0, .string v1, .int .i64 0, .float .f64 0, .string v4, .int .i64 0, .int .i64 0, .int .i64 0, .int .i64 0, .float .f64 0, .int .i64 0, .string ByteArray.empty, .slice none 0 0, .bool false], ⟨rfl, (List.forall_mem_cons.2 ⟨rfl, (List.forall_mem_cons.2 ⟨rfl, (List.forall_mem_cons.2 ⟨(rfl), (List.forall_mem_cons.2 ⟨(rfl), (List.forall_mem_cons.2 ⟨rfl, (List.forall_mem_cons.2 ⟨(Zbo _), (List.forall_mem_cons.2 ⟨(rfl), (fun _ h => by cases h)⟩)⟩)⟩)⟩)⟩)⟩)⟩)⟩, rfl⟩
 simp only [List.map_toArray, List.map_cons, List.map_nil, e0, e1, e4]
 exact Zcm Tryd.underlying37 (zero := .agg #[.int .i64 0, .string ByteArray.empty, .int .i64 0, .float .f64 0, .string ByteArray.empty, .int .i64 0, .int .i64 0, .int .i64 0, .int .i64 0, .float .f64 0, .int .i64 0, .string ByteArray.empty, .slice none 0 0, .bool false]) (by kernel_rfl) (places := [(0, 1), (1, 1), (2, 1), (3, 1), (4, 1), (5, 8), (13, 1)]) (by kernel_rfl) (by kernel_rfl) g.w
theorem Zoo {c : Option Nat} {N j s : Nat} {o : Oper} {uses : Z8} {x z : Operand} {v : Zs} {y0 y : Int} {v0 : Zs} {t : Nat} (hT : Ty Tryd.prog t (Kd.int .i64)) (hop : o.op = .store t x z) (hd : o.dst = none) (hs : Opd uses (.tmp s) (Zbl c Zw j v)) (hx : Opd uses x (Ze4 Zw j v0 0 (Kd.int .i64) y0)) (hz : Opd uses z ((Kd.int .i64).pd y)) : OB Tryd.prog N o uses [(s, Zbl c Zw j { v with Kind := y })] [j + 1] :=
 Zfl hT hop hd hs hx hz fun g cs ys hk hy => by
   have hc : cs.length = 14 := hk.1
   have hl : ys.length = 1 := (Kd.int .i64).len hy
   exact ⟨by omega, (Zc5 (by omega)).trans hc, (List.forall_mem_cons.2 ⟨(by show (Kd.int .i64).K g y (seg (Z4 cs 0 ys) 0 1); rw [Zc6 (by omega) hl]; exact hy), (List.forall_mem_cons.2 ⟨(by show Kd.str.K g v.Key (seg (Z4 cs 0 ys) 1 1); rw [Zz (by omega) (by omega)]; exact hk.2 _ (List.mem_of_getElem? (i := 1) rfl)), (List.forall_mem_cons.2 ⟨(by show (Kd.int .i64).K g v.N (seg (Z4 cs 0 ys) 2 1); rw [Zz (by omega) (by omega)]; exact hk.2 _ (List.mem_of_getElem? (i := 2) rfl)), (List.forall_mem_cons.2 ⟨(by show Kd.flt.K g v.X (seg (Z4 cs 0 ys) 3 1); rw [Zz (by omega) (by omega)]; exact hk.2 _ (List.mem_of_getElem? (i := 3) rfl)), (List.forall_mem_cons.2 ⟨(by show Kd.str.K g v.S (seg (Z4 cs 0 ys) 4 1); rw [Zz (by omega) (by omega)]; exact hk.2 _ (List.mem_of_getElem? (i := 4) rfl)), (List.forall_mem_cons.2 ⟨(by show Zf.K g v.Make (seg (Z4 cs 0 ys) 5 8); rw [Zz (by omega) (by omega)]; exact hk.2 _ (List.mem_of_getElem? (i := 5) rfl)), (List.forall_mem_cons.2 ⟨(by show Kd.bool.K g v.Must (seg (Z4 cs 0 ys) 13 1); rw [Zz (by omega) (by omega)]; exact hk.2 _ (List.mem_of_getElem? (i := 6) rfl)), (fun _ h => by cases h)⟩)⟩)⟩)⟩)⟩)⟩)⟩)⟩
theorem Z0h {c : Option Nat} {N j s : Nat} {o : Oper} {uses : Z8} {x z : Operand} {v : Zs} {y0 y : Nat} {v0 : Zs} {t : Nat} (hT : Ty Tryd.prog t Kd.flt) (hop : o.op = .store t x z) (hd : o.dst = none) (hs : Opd uses (.tmp s) (Zbl c Zw j v)) (hx : Opd uses x (Ze4 Zw j v0 3 Kd.flt y0)) (hz : Opd uses z (Kd.flt.pd y)) : OB Tryd.prog N o uses [(s, Zbl c Zw j { v with X := y })] [j + 1] :=
 Zfl hT hop hd hs hx hz fun g cs ys hk hy => by
   have hc : cs.length = 14 := hk.1
   have hl : ys.length = 1 := Kd.flt.len hy
   exact ⟨by omega, (Zc5 (by omega)).trans hc, (List.forall_mem_cons.2 ⟨(by show (Kd.int .i64).K g v.Kind (seg (Z4 cs 3 ys) 0 1); rw [Zz (by omega) (by omega)]; exact hk.2 _ (List.mem_of_getElem? (i := 0) rfl)), (List.forall_mem_cons.2 ⟨(by show Kd.str.K g v.Key (seg (Z4 cs 3 ys) 1 1); rw [Zz (by omega) (by omega)]; exact hk.2 _ (List.mem_of_getElem? (i := 1) rfl)), (List.forall_mem_cons.2 ⟨(by show (Kd.int .i64).K g v.N (seg (Z4 cs 3 ys) 2 1); rw [Zz (by omega) (by omega)]; exact hk.2 _ (List.mem_of_getElem? (i := 2) rfl)), (List.forall_mem_cons.2 ⟨(by show Kd.flt.K g y (seg (Z4 cs 3 ys) 3 1); rw [Zc6 (by omega) hl]; exact hy), (List.forall_mem_cons.2 ⟨(by show Kd.str.K g v.S (seg (Z4 cs 3 ys) 4 1); rw [Zz (by omega) (by omega)]; exact hk.2 _ (List.mem_of_getElem? (i := 4) rfl)), (List.forall_mem_cons.2 ⟨(by show Zf.K g v.Make (seg (Z4 cs 3 ys) 5 8); rw [Zz (by omega) (by omega)]; exact hk.2 _ (List.mem_of_getElem? (i := 5) rfl)), (List.forall_mem_cons.2 ⟨(by show Kd.bool.K g v.Must (seg (Z4 cs 3 ys) 13 1); rw [Zz (by omega) (by omega)]; exact hk.2 _ (List.mem_of_getElem? (i := 6) rfl)), (fun _ h => by cases h)⟩)⟩)⟩)⟩)⟩)⟩)⟩)⟩
theorem Zyq : Zn Tryd.prog 40 := by
 unfold Zn
 kernel_rfl
theorem Zuc {c : Option Nat} {N j s : Nat} {o : Oper} {uses : Z8} {x z : Operand} {v : Zs} {y0 y : Int} {v0 : Zs} {t : Nat} (hT : Ty Tryd.prog t (Kd.int .i64)) (hop : o.op = .store t x z) (hd : o.dst = none) (hs : Opd uses (.tmp s) (Zbl c Zw j v)) (hx : Opd uses x (Ze4 Zw j v0 2 (Kd.int .i64) y0)) (hz : Opd uses z ((Kd.int .i64).pd y)) : OB Tryd.prog N o uses [(s, Zbl c Zw j { v with N := y })] [j + 1] :=
 Zfl hT hop hd hs hx hz fun g cs ys hk hy => by
   have hc : cs.length = 14 := hk.1
   have hl : ys.length = 1 := (Kd.int .i64).len hy
   exact ⟨by omega, (Zc5 (by omega)).trans hc, (List.forall_mem_cons.2 ⟨(by show (Kd.int .i64).K g v.Kind (seg (Z4 cs 2 ys) 0 1); rw [Zz (by omega) (by omega)]; exact hk.2 _ (List.mem_of_getElem? (i := 0) rfl)), (List.forall_mem_cons.2 ⟨(by show Kd.str.K g v.Key (seg (Z4 cs 2 ys) 1 1); rw [Zz (by omega) (by omega)]; exact hk.2 _ (List.mem_of_getElem? (i := 1) rfl)), (List.forall_mem_cons.2 ⟨(by show (Kd.int .i64).K g y (seg (Z4 cs 2 ys) 2 1); rw [Zc6 (by omega) hl]; exact hy), (List.forall_mem_cons.2 ⟨(by show Kd.flt.K g v.X (seg (Z4 cs 2 ys) 3 1); rw [Zz (by omega) (by omega)]; exact hk.2 _ (List.mem_of_getElem? (i := 3) rfl)), (List.forall_mem_cons.2 ⟨(by show Kd.str.K g v.S (seg (Z4 cs 2 ys) 4 1); rw [Zz (by omega) (by omega)]; exact hk.2 _ (List.mem_of_getElem? (i := 4) rfl)), (List.forall_mem_cons.2 ⟨(by show Zf.K g v.Make (seg (Z4 cs 2 ys) 5 8); rw [Zz (by omega) (by omega)]; exact hk.2 _ (List.mem_of_getElem? (i := 5) rfl)), (List.forall_mem_cons.2 ⟨(by show Kd.bool.K g v.Must (seg (Z4 cs 2 ys) 13 1); rw [Zz (by omega) (by omega)]; exact hk.2 _ (List.mem_of_getElem? (i := 6) rfl)), (fun _ h => by cases h)⟩)⟩)⟩)⟩)⟩)⟩)⟩)⟩
theorem Znz {N d : Nat} {o : Oper} {uses : Z8} {x0 : Operand} {x1 : Operand} {v0 : Int} {v1 : Int} (hop : o.op = .build 96 #[(0, x0), (1, x1)]) (hd : o.dst = some d) (h0 : Opd uses x0 ((Kd.int .u64).pd v0)) (h1 : Opd uses x1 ((Kd.int .u64).pd v1)) : OB Tryd.prog N o uses [(d, Z9.pd { up := v0, down := v1 })] [] := by
 refine Zcw hop hd fun a g hh => ?_
 obtain ⟨c0, k0, e0⟩ := h0 a g hh
 obtain rfl := k0
 obtain ⟨c1, k1, e1⟩ := h1 a g hh
 obtain rfl := k1
 refine ⟨.agg #[.int .u64 v0, .int .u64 v1], ?_, [.int .u64 v0, .int .u64 v1], ⟨rfl, (List.forall_mem_cons.2 ⟨rfl, (List.forall_mem_cons.2 ⟨rfl, (fun _ h => by cases h)⟩)⟩)⟩, rfl⟩
 simp only [List.map_toArray, List.map_cons, List.map_nil, e0, e1]
 exact Zcm Tryd.underlying96 (zero := .agg #[.int .u64 0, .int .u64 0]) (by kernel_rfl) (places := [(0, 1), (1, 1)]) (by kernel_rfl) (by kernel_rfl) g.w
theorem Zef : Ty Tryd.prog 96 Z9 := ⟨by kernel_rfl, by kernel_rfl⟩
theorem Zop {N d : Nat} {o : Oper} {uses : Z8} {x0 : Operand} {v0 : Int} (hop : o.op = .build 96 #[(0, x0)]) (hd : o.dst = some d) (h0 : Opd uses x0 ((Kd.int .u64).pd v0)) : OB Tryd.prog N o uses [(d, Z9.pd { up := v0, down := (0 : Int) })] [] := by
 refine Zcw hop hd fun a g hh => ?_
 obtain ⟨c0, k0, e0⟩ := h0 a g hh
 obtain rfl := k0
 refine ⟨.agg #[.int .u64 v0, .int .u64 0], ?_, [.int .u64 v0, .int .u64 0], ⟨rfl, (List.forall_mem_cons.2 ⟨rfl, (List.forall_mem_cons.2 ⟨(rfl), (fun _ h => by cases h)⟩)⟩)⟩, rfl⟩
 simp only [List.map_toArray, List.map_cons, List.map_nil, e0]
 exact Zcm Tryd.underlying96 (zero := .agg #[.int .u64 0, .int .u64 0]) (by kernel_rfl) (places := [(0, 1), (1, 1)]) (by kernel_rfl) (by kernel_rfl) g.w
theorem Zsw {N d : Nat} {o : Oper} {uses : Z8}   (hop : o.op = .build 96 #[]) (hd : o.dst = some d)  : OB Tryd.prog N o uses [(d, Z9.pd { up := (0 : Int), down := (0 : Int) })] [] := by
 refine Zcw hop hd fun a g hh => ?_
 refine ⟨.agg #[.int .u64 0, .int .u64 0], ?_, [.int .u64 0, .int .u64 0], ⟨rfl, (List.forall_mem_cons.2 ⟨(rfl), (List.forall_mem_cons.2 ⟨(rfl), (fun _ h => by cases h)⟩)⟩)⟩, rfl⟩
 simp only [List.map_toArray, List.map_cons, List.map_nil, List.map_nil]
 exact Zcm Tryd.underlying96 (zero := .agg #[.int .u64 0, .int .u64 0]) (by kernel_rfl) (places := [(0, 1), (1, 1)]) (by kernel_rfl) (by kernel_rfl) g.w
structure Zeu where
 r : Zb
 by_ : SlV
def Zou : List (Kd.FK Zeu) := [⟨_, Zf, 0, fun x : Zeu => x.r⟩,
 ⟨_, Kd.raw, 8, fun x : Zeu => x.by_⟩]
def Zbp : Kd Zeu := Kd.struct 9 Zou (by rfl)
def Zbr (x : Z2) (s : SlV) : Zeu := ⟨x.r, s⟩
theorem Zov {x : Z2} {g : G} {cs ys : List Value} {s0 s1 : SlV} (hk : Zbp.K g (Zbr x s0) cs) (hy : Kd.raw.K g s1 ys) : 8 + ys.length ≤ cs.length ∧ Zbp.K g (Zbr x s1) (Z4 cs 8 ys) := by
 have hc : cs.length = 9 := hk.1
 have hl : ys.length = 1 := Kd.raw.len hy
 exact ⟨by omega, (Zc5 (by omega)).trans hc, (List.forall_mem_cons.2 ⟨(by show Zf.K g x.r (seg (Z4 cs 8 ys) 0 8); rw [Zz (by omega) (by omega)]; exact hk.2 _ (List.mem_of_getElem? (i := 0) rfl)), (List.forall_mem_cons.2 ⟨(by show Kd.raw.K g s1 (seg (Z4 cs 8 ys) 8 1); rw [Zc6 (by omega) hl]; exact hy), (fun _ h => by cases h)⟩)⟩)⟩
theorem Zyg : Fld Tryd.prog 94 0 Zbp Zf (fun x : Zeu => x.r) := Fld.of ⟨_, Zf, 0, fun x : Zeu => x.r⟩ (List.mem_of_getElem? (i := 0) rfl) 0 rfl (by kernel_rfl) (by decide)
theorem Zlo : Fld Tryd.prog 94 1 Zbp Kd.raw (fun x : Zeu => x.by_) := Fld.of ⟨_, Kd.raw, 8, fun x : Zeu => x.by_⟩ (List.mem_of_getElem? (i := 1) rfl) 8 rfl (by kernel_rfl) (by decide)
theorem Zn6 : Ty Tryd.prog 92 Kd.raw := ⟨by kernel_rfl, by kernel_rfl⟩
theorem Zva : Ty Tryd.prog 92 Z9.sl := ⟨by kernel_rfl, by kernel_rfl⟩
abbrev Zce : Z2 → List Z3 := fun x => x.by_
theorem Zl2 : Zr4 Zbp Zbr Zce Z9 Zfv := fun g x s cs h hr => ⟨h.1, (List.forall_mem_cons.2 ⟨(h.2 _ (List.mem_of_getElem? (i := 0) rfl)), (List.forall_mem_cons.2 ⟨(Z1n (h.2 _ (List.mem_of_getElem? (i := 1) rfl)) hr), (fun _ h => by cases h)⟩)⟩)⟩
abbrev Zec : Ob Z2 := obS Zbp Zbr Zce Z9 96
theorem Zyx : Zn Tryd.prog 10 := by
 unfold Zn
 kernel_rfl
theorem Zz6 {N d : Nat} {o : Oper} {uses : Z8} {x0 : Operand} {v0 : Zb} (hop : o.op = .build 94 #[(0, x0)]) (hd : o.dst = some d) (h0 : Opd uses x0 (Zf.pd v0)) : OB Tryd.prog N o uses [(d, Zbp.pd { r := v0, by_ := ((none, 0, 0) : SlV) })] [] := by
 refine Zcw hop hd fun a g hh => ?_
 obtain ⟨c0, k0, e0⟩ := h0 a g hh
 obtain ⟨u0_0, u0_1, u0_2, u0_3, u0_4, u0_5, u0_6, u0_7, rfl⟩ := Zyr (Zf.len k0)
 refine ⟨.agg #[u0_0, u0_1, u0_2, u0_3, u0_4, u0_5, u0_6, u0_7, .slice none 0 0], ?_, [u0_0, u0_1, u0_2, u0_3, u0_4, u0_5, u0_6, u0_7, .slice none 0 0], ⟨rfl, (List.forall_mem_cons.2 ⟨k0, (List.forall_mem_cons.2 ⟨(rfl), (fun _ h => by cases h)⟩)⟩)⟩, rfl⟩
 simp only [List.map_toArray, List.map_cons, List.map_nil, e0]
 exact Zcm Tryd.underlying94 (zero := .agg #[.int .i64 0, .int .i64 0, .int .i64 0, .int .i64 0, .float .f64 0, .int .i64 0, .string ByteArray.empty, .slice none 0 0, .slice none 0 0]) (by kernel_rfl) (places := [(0, 8), (8, 1)]) (by kernel_rfl) (by kernel_rfl) g.w
theorem Z34 : Zn Tryd.prog 53 := by
 unfold Zn
 kernel_rfl
theorem Zi7 : Fld Tryd.prog 96 0 Z9 (Kd.int .u64) (fun x : Z3 => x.up) := Fld.of ⟨_, (Kd.int .u64), 0, fun x : Z3 => x.up⟩ (List.mem_of_getElem? (i := 0) rfl) 0 rfl (by kernel_rfl) (by decide)
theorem Zhj : Ty Tryd.prog 62 (Kd.int .u64) := ⟨by kernel_rfl, by kernel_rfl⟩
theorem Zzk : Zn Tryd.prog 54 := by
 unfold Zn
 kernel_rfl
theorem Zke : Fld Tryd.prog 96 1 Z9 (Kd.int .u64) (fun x : Z3 => x.down) := Fld.of ⟨_, (Kd.int .u64), 1, fun x : Z3 => x.down⟩ (List.mem_of_getElem? (i := 1) rfl) 1 rfl (by kernel_rfl) (by decide)
theorem Zyn : TE Tryd.prog 92 96 Z9 16 := TE.of Tryd.underlying92 (by kernel_rfl) (by decide) (by decide)
theorem Zqp : Fld Tryd.prog 94 1 Zfv Z9.sl (fun x : Z2 => x.by_) := Fld.of ⟨_, Z9.sl, 8, fun x : Z2 => x.by_⟩ (List.mem_of_getElem? (i := 1) rfl) 8 rfl (by kernel_rfl) (by decide)
theorem Zr9 : (Tryd.prog.info? 96).map (·.size) = some Z9.sz := by kernel_rfl
theorem Zus {N d : Nat} {o : Oper} {uses : Z8} {x1 : Operand} {v1 : Int} (hop : o.op = .build 96 #[(1, x1)]) (hd : o.dst = some d) (h1 : Opd uses x1 ((Kd.int .u64).pd v1)) : OB Tryd.prog N o uses [(d, Z9.pd { up := (0 : Int), down := v1 })] [] := by
 refine Zcw hop hd fun a g hh => ?_
 obtain ⟨c1, k1, e1⟩ := h1 a g hh
 obtain rfl := k1
 refine ⟨.agg #[.int .u64 0, .int .u64 v1], ?_, [.int .u64 0, .int .u64 v1], ⟨rfl, (List.forall_mem_cons.2 ⟨(rfl), (List.forall_mem_cons.2 ⟨rfl, (fun _ h => by cases h)⟩)⟩)⟩, rfl⟩
 simp only [List.map_toArray, List.map_cons, List.map_nil, e1]
 exact Zcm Tryd.underlying96 (zero := .agg #[.int .u64 0, .int .u64 0]) (by kernel_rfl) (places := [(0, 1), (1, 1)]) (by kernel_rfl) (by kernel_rfl) g.w
theorem Zz8 : Fld Tryd.prog 94 0 Zfv Zf (fun x : Z2 => x.r) := Fld.of ⟨_, Zf, 0, fun x : Z2 => x.r⟩ (List.mem_of_getElem? (i := 0) rfl) 0 rfl (by kernel_rfl) (by decide)
theorem Zqk : ∀ (g g' : G) (x : Z3) (cs : List Value), Z9.K g x cs → Z9.K g' x cs := fun g g' x cs h => ⟨h.1, (List.forall_mem_cons.2 ⟨(h.2 _ (List.mem_of_getElem? (i := 0) rfl)), (List.forall_mem_cons.2 ⟨(h.2 _ (List.mem_of_getElem? (i := 1) rfl)), (fun _ h => by cases h)⟩)⟩)⟩
theorem Z2z : (Tryd.prog.info? 37).map (·.size) = some Zw.sz := by kernel_rfl
theorem Zy5 : Zn Tryd.prog 12 := by
 unfold Zn
 kernel_rfl
theorem Z3q : Zn Tryd.prog 59 := by
 unfold Zn
 kernel_rfl
theorem Z0t {c : Option Nat} {N j s : Nat} {o : Oper} {uses : Z8} {x z : Operand} {v : Z3} {y0 y : Int} {v0 : Z3} {t : Nat} (hT : Ty Tryd.prog t (Kd.int .u64)) (hop : o.op = .store t x z) (hd : o.dst = none) (hs : Opd uses (.tmp s) (Zbl c Z9 j v)) (hx : Opd uses x (Ze4 Z9 j v0 0 (Kd.int .u64) y0)) (hz : Opd uses z ((Kd.int .u64).pd y)) : OB Tryd.prog N o uses [(s, Zbl c Z9 j { v with up := y })] [j + 1] :=
 Zfl hT hop hd hs hx hz fun g cs ys hk hy => by
   have hc : cs.length = 2 := hk.1
   have hl : ys.length = 1 := (Kd.int .u64).len hy
   exact ⟨by omega, (Zc5 (by omega)).trans hc, (List.forall_mem_cons.2 ⟨(by show (Kd.int .u64).K g y (seg (Z4 cs 0 ys) 0 1); rw [Zc6 (by omega) hl]; exact hy), (List.forall_mem_cons.2 ⟨(by show (Kd.int .u64).K g v.down (seg (Z4 cs 0 ys) 1 1); rw [Zz (by omega) (by omega)]; exact hk.2 _ (List.mem_of_getElem? (i := 1) rfl)), (fun _ h => by cases h)⟩)⟩)⟩
theorem Z1g {c : Option Nat} {N j s : Nat} {o : Oper} {uses : Z8} {x z : Operand} {v : Z3} {y0 y : Int} {v0 : Z3} {t : Nat} (hT : Ty Tryd.prog t (Kd.int .u64)) (hop : o.op = .store t x z) (hd : o.dst = none) (hs : Opd uses (.tmp s) (Zbl c Z9 j v)) (hx : Opd uses x (Ze4 Z9 j v0 1 (Kd.int .u64) y0)) (hz : Opd uses z ((Kd.int .u64).pd y)) : OB Tryd.prog N o uses [(s, Zbl c Z9 j { v with down := y })] [j + 1] :=
 Zfl hT hop hd hs hx hz fun g cs ys hk hy => by
   have hc : cs.length = 2 := hk.1
   have hl : ys.length = 1 := (Kd.int .u64).len hy
   exact ⟨by omega, (Zc5 (by omega)).trans hc, (List.forall_mem_cons.2 ⟨(by show (Kd.int .u64).K g v.up (seg (Z4 cs 1 ys) 0 1); rw [Zz (by omega) (by omega)]; exact hk.2 _ (List.mem_of_getElem? (i := 0) rfl)), (List.forall_mem_cons.2 ⟨(by show (Kd.int .u64).K g y (seg (Z4 cs 1 ys) 1 1); rw [Zc6 (by omega) hl]; exact hy), (fun _ h => by cases h)⟩)⟩)⟩
theorem Zty {N d : Nat} {o : Oper} {uses : Z8} {x0 : Operand} {x3 : Operand} {x1 : Operand} {v0 : Int} {v3 : Int} {v1 : Int} (hop : o.op = .build 25 #[(0, x0), (3, x3), (1, x1)]) (hd : o.dst = some d) (h0 : Opd uses x0 ((Kd.int .i64).pd v0)) (h3 : Opd uses x3 ((Kd.int .i64).pd v3)) (h1 : Opd uses x1 ((Kd.int .i64).pd v1)) : OB Tryd.prog N o uses [(d, Zf.pd { Kind := v0, Num := v1, Low := (0 : Int), High := v3, Real := (0 : Nat), Cap := (0 : Int), Text := ByteArray.empty, List := ([] : List Zh) })] [] := by
 refine Zcw hop hd fun a g hh => ?_
 obtain ⟨c0, k0, e0⟩ := h0 a g hh
 obtain rfl := k0
 obtain ⟨c1, k1, e1⟩ := h1 a g hh
 obtain rfl := k1
 obtain ⟨c3, k3, e3⟩ := h3 a g hh
 obtain rfl := k3
 refine ⟨.agg #[.int .i64 v0, .int .i64 v1, .int .i64 0, .int .i64 v3, .float .f64 0, .int .i64 0, .string ByteArray.empty, .slice none 0 0], ?_, [.int .i64 v0, .int .i64 v1, .int .i64 0, .int .i64 v3, .float .f64 0, .int .i64 0, .string ByteArray.empty, .slice none 0 0], ⟨rfl, (List.forall_mem_cons.2 ⟨rfl, (List.forall_mem_cons.2 ⟨rfl, (List.forall_mem_cons.2 ⟨(rfl), (List.forall_mem_cons.2 ⟨rfl, (List.forall_mem_cons.2 ⟨(rfl), (List.forall_mem_cons.2 ⟨(rfl), (List.forall_mem_cons.2 ⟨(rfl), (List.forall_mem_cons.2 ⟨(⟨none, 0, rfl, Nat.le_refl _, Nat.zero_le _, .inl rfl⟩), (fun _ h => by cases h)⟩)⟩)⟩)⟩)⟩)⟩)⟩)⟩)⟩, rfl⟩
 simp only [List.map_toArray, List.map_cons, List.map_nil, e0, e3, e1]
 exact Zcm Tryd.underlying25 (zero := .agg #[.int .i64 0, .int .i64 0, .int .i64 0, .int .i64 0, .float .f64 0, .int .i64 0, .string ByteArray.empty, .slice none 0 0]) (by kernel_rfl) (places := [(0, 1), (1, 1), (2, 1), (3, 1), (4, 1), (5, 1), (6, 1), (7, 1)]) (by kernel_rfl) (by kernel_rfl) g.w
theorem Z29 : Zn Tryd.prog 24 := by
 unfold Zn
 kernel_rfl
theorem Zy2 : Zn Tryd.prog 27 := by
 unfold Zn
 kernel_rfl
theorem Zt2 {N d : Nat} {o : Oper} {uses : Z8} {x0 : Operand} {x1 : Operand} {x2 : Operand} {v0 : Int} {v1 : ByteArray} {v2 : Int} (hop : o.op = .build 37 #[(0, x0), (1, x1), (2, x2)]) (hd : o.dst = some d) (h0 : Opd uses x0 ((Kd.int .i64).pd v0)) (h1 : Opd uses x1 (Kd.str.pd v1)) (h2 : Opd uses x2 ((Kd.int .i64).pd v2)) : OB Tryd.prog N o uses [(d, Zw.pd { Kind := v0, Key := v1, N := v2, X := (0 : Nat), S := ByteArray.empty, Make := (default : Zb), Must := false })] [] := by
 refine Zcw hop hd fun a g hh => ?_
 obtain ⟨c0, k0, e0⟩ := h0 a g hh
 obtain rfl := k0
 obtain ⟨c1, k1, e1⟩ := h1 a g hh
 obtain rfl := k1
 obtain ⟨c2, k2, e2⟩ := h2 a g hh
 obtain rfl := k2
 refine ⟨.agg #[.int .i64 v0, .string v1, .int .i64 v2, .float .f64 0, .string ByteArray.empty, .int .i64 0, .int .i64 0, .int .i64 0, .int .i64 0, .float .f64 0, .int .i64 0, .string ByteArray.empty, .slice none 0 0, .bool false], ?_, [.int .i64 v0, .string v1, .int .i64 v2, .float .f64 0, .string ByteArray.empty, .int .i64 0, .int .i64 0, .int .i64 0, .int .i64 0, .float .f64 0, .int .i64 0, .string ByteArray.empty, .slice none 0 0, .bool false], ⟨rfl, (List.forall_mem_cons.2 ⟨rfl, (List.forall_mem_cons.2 ⟨rfl, (List.forall_mem_cons.2 ⟨rfl, (List.forall_mem_cons.2 ⟨(rfl), (List.forall_mem_cons.2 ⟨(rfl), (List.forall_mem_cons.2 ⟨(Zbo _), (List.forall_mem_cons.2 ⟨(rfl), (fun _ h => by cases h)⟩)⟩)⟩)⟩)⟩)⟩)⟩)⟩, rfl⟩
 simp only [List.map_toArray, List.map_cons, List.map_nil, e0, e1, e2]
 exact Zcm Tryd.underlying37 (zero := .agg #[.int .i64 0, .string ByteArray.empty, .int .i64 0, .float .f64 0, .string ByteArray.empty, .int .i64 0, .int .i64 0, .int .i64 0, .int .i64 0, .float .f64 0, .int .i64 0, .string ByteArray.empty, .slice none 0 0, .bool false]) (by kernel_rfl) (places := [(0, 1), (1, 1), (2, 1), (3, 1), (4, 1), (5, 8), (13, 1)]) (by kernel_rfl) (by kernel_rfl) g.w
theorem Zy8 : TE Tryd.prog 60 37 Zw 152 := TE.of Tryd.underlying60 (by kernel_rfl) (by decide) (by decide)
theorem Zy7 : Zn Tryd.prog 28 := by
 unfold Zn
 kernel_rfl
theorem Zyz : Zn Tryd.prog 16 := by
 unfold Zn
 kernel_rfl
theorem Z3l : TE Tryd.prog 33 25 Zf 88 := TE.of Tryd.underlying33 (by kernel_rfl) (by decide) (by decide)
theorem Zzh : Zn Tryd.prog 15 := by
 unfold Zn
 kernel_rfl
theorem Zzc : Zn Tryd.prog 30 := by
 unfold Zn
 kernel_rfl
theorem Z3a : (Tryd.prog.info? 39).map (·.size) = some Zde.sz := by kernel_rfl
theorem Zzd : Ty Tryd.prog 39 Zde := ⟨by kernel_rfl, by kernel_rfl⟩
theorem Zz7 : Fld Tryd.prog 39 1 Zde Zw (fun x : Zb3 => x.Act) := Fld.of ⟨_, Zw, 1, fun x : Zb3 => x.Act⟩ (List.mem_of_getElem? (i := 1) rfl) 1 rfl (by kernel_rfl) (by decide)
theorem Z3o : Zn Tryd.prog 31 := by
 unfold Zn
 kernel_rfl
theorem Zr3 : Zn Tryd.prog 72 := by
 unfold Zn
 kernel_rfl
theorem Zza : Zn Tryd.prog 80 := by
 unfold Zn
 kernel_rfl
theorem Zpv : Zn Tryd.prog 63 := by
 unfold Zn
 kernel_rfl
theorem Zon : Zn Tryd.prog 36 := by
 unfold Zn
 kernel_rfl
theorem Zyw : Zn Tryd.prog 71 := by
 unfold Zn
 kernel_rfl
theorem Zwq : TE Tryd.prog 122 9 Kd.str 16 := TE.of Tryd.underlying122 (by kernel_rfl) (by decide) (by decide)
theorem sz_9 : (Tryd.prog.info? 9).map (·.size) = some Kd.str.sz := by kernel_rfl
theorem Zu2 : Zn Tryd.prog 46 := by
 unfold Zn
 kernel_rfl
theorem Zy0 : Zn Tryd.prog 74 := by
 unfold Zn
 kernel_rfl
theorem Z25 : Zn Tryd.prog 45 := by
 unfold Zn
 kernel_rfl
theorem Z27 : Zn Tryd.prog 44 := by
 unfold Zn
 kernel_rfl
theorem Z3r : Zn Tryd.prog 47 := by
 unfold Zn
 kernel_rfl
theorem Zzr : Zn Tryd.prog 19 := by
 unfold Zn
 kernel_rfl
theorem Z19 : TE Tryd.prog 110 3 (Kd.int .i64) 8 := TE.of Tryd.underlying110 (by kernel_rfl) (by decide) (by decide)
theorem sz_3 : (Tryd.prog.info? 3).map (·.size) = some (Kd.int .i64).sz := by kernel_rfl
theorem Zvo : Zn Tryd.prog 35 := by
 unfold Zn
 kernel_rfl
theorem en_8 : Zn Tryd.prog 8 := by
 unfold Zn
 kernel_rfl
theorem en_9 : Zn Tryd.prog 9 := by
 unfold Zn
 kernel_rfl
theorem Zvm : Zn Tryd.prog 14 := by
 unfold Zn
 kernel_rfl
theorem Z22 : Zn Tryd.prog 75 := by
 unfold Zn
 kernel_rfl
theorem Zu5 : Zn Tryd.prog 48 := by
 unfold Zn
 kernel_rfl
theorem Zr5 : Zn Tryd.prog 69 := by
 unfold Zn
 kernel_rfl
theorem Z23 : Zn Tryd.prog 99 := by
 unfold Zn
 kernel_rfl
theorem Zlc : Fld Tryd.prog 79 0 Zu (Kd.int .i64) (fun x : Zi => x.Code) := Fld.of ⟨_, (Kd.int .i64), 0, fun x : Zi => x.Code⟩ (List.mem_of_getElem? (i := 0) rfl) 0 rfl (by kernel_rfl) (by decide)
theorem Zlb {c : Option Nat} {N j s : Nat} {o : Oper} {uses : Z8} {x z : Operand} {v : Zi} {y0 y : Int} {v0 : Zi} {t : Nat} (hT : Ty Tryd.prog t (Kd.int .i64)) (hop : o.op = .store t x z) (hd : o.dst = none) (hs : Opd uses (.tmp s) (Zbl c Zu j v)) (hx : Opd uses x (Ze4 Zu j v0 0 (Kd.int .i64) y0)) (hz : Opd uses z ((Kd.int .i64).pd y)) : OB Tryd.prog N o uses [(s, Zbl c Zu j { v with Code := y })] [j + 1] :=
 Zfl hT hop hd hs hx hz fun g cs ys hk hy => by
   have hc : cs.length = 10 := hk.1
   have hl : ys.length = 1 := (Kd.int .i64).len hy
   exact ⟨by omega, (Zc5 (by omega)).trans hc, (List.forall_mem_cons.2 ⟨(by show (Kd.int .i64).K g y (seg (Z4 cs 0 ys) 0 1); rw [Zc6 (by omega) hl]; exact hy), (List.forall_mem_cons.2 ⟨(by show (Kd.int .i64).K g v.Num (seg (Z4 cs 0 ys) 1 1); rw [Zz (by omega) (by omega)]; exact hk.2 _ (List.mem_of_getElem? (i := 1) rfl)), (List.forall_mem_cons.2 ⟨(by show Zf.K g v.Rec (seg (Z4 cs 0 ys) 2 8); rw [Zz (by omega) (by omega)]; exact hk.2 _ (List.mem_of_getElem? (i := 2) rfl)), (fun _ h => by cases h)⟩)⟩)⟩)⟩
theorem Zoj : Ty Tryd.prog 51 (Kd.int .i64) := ⟨by kernel_rfl, by kernel_rfl⟩
theorem Zze : Zn Tryd.prog 42 := by
 unfold Zn
 kernel_rfl
theorem Zyo : Zn Tryd.prog 43 := by
 unfold Zn
 kernel_rfl
theorem Zwc : Zn Tryd.prog 101 := by
 unfold Zn
 kernel_rfl
theorem Zv2 : Zn Tryd.prog 100 := by
 unfold Zn
 kernel_rfl
theorem Zv6 : Zn Tryd.prog 102 := by
 unfold Zn
 kernel_rfl
theorem Zv1 : Zn Tryd.prog 103 := by
 unfold Zn
 kernel_rfl
theorem Z3p : Zn Tryd.prog 22 := by
 unfold Zn
 kernel_rfl
theorem Z4f : Zn Tryd.prog 70 := by
 unfold Zn
 kernel_rfl
theorem Zzg : Zn Tryd.prog 41 := by
 unfold Zn
 kernel_rfl
theorem Zro {N d : Nat} {o : Oper} {uses : Z8} {x0 : Operand} {x1 : Operand} {x3 : Operand} {x4 : Operand} {v0 : Int} {v1 : ByteArray} {v3 : Nat} {v4 : ByteArray} (hop : o.op = .build 37 #[(0, x0), (1, x1), (3, x3), (4, x4)]) (hd : o.dst = some d) (h0 : Opd uses x0 ((Kd.int .i64).pd v0)) (h1 : Opd uses x1 (Kd.str.pd v1)) (h3 : Opd uses x3 (Kd.flt.pd v3)) (h4 : Opd uses x4 (Kd.str.pd v4)) : OB Tryd.prog N o uses [(d, Zw.pd { Kind := v0, Key := v1, N := (0 : Int), X := v3, S := v4, Make := (default : Zb), Must := false })] [] := by
 refine Zcw hop hd fun a g hh => ?_
 obtain ⟨c0, k0, e0⟩ := h0 a g hh
 obtain rfl := k0
 obtain ⟨c1, k1, e1⟩ := h1 a g hh
 obtain rfl := k1
 obtain ⟨c3, k3, e3⟩ := h3 a g hh
 obtain rfl := k3
 obtain ⟨c4, k4, e4⟩ := h4 a g hh
 obtain rfl := k4
 refine ⟨.agg #[.int .i64 v0, .string v1, .int .i64 0, .float .f64 v3, .string v4, .int .i64 0, .int .i64 0, .int .i64 0, .int .i64 0, .float .f64 0, .int .i64 0, .string ByteArray.empty, .slice none 0 0, .bool false], ?_, [.int .i64 v0, .string v1, .int .i64 0, .float .f64 v3, .string v4, .int .i64 0, .int .i64 0, .int .i64 0, .int .i64 0, .float .f64 0, .int .i64 0, .string ByteArray.empty, .slice none 0 0, .bool false], ⟨rfl, (List.forall_mem_cons.2 ⟨rfl, (List.forall_mem_cons.2 ⟨rfl, (List.forall_mem_cons.2 ⟨(rfl), (List.forall_mem_cons.2 ⟨rfl, (List.forall_mem_cons.2 ⟨rfl, (List.forall_mem_cons.2 ⟨(Zbo _), (List.forall_mem_cons.2 ⟨(rfl), (fun _ h => by cases h)⟩)⟩)⟩)⟩)⟩)⟩)⟩)⟩, rfl⟩
 simp only [List.map_toArray, List.map_cons, List.map_nil, e0, e1, e3, e4]
 exact Zcm Tryd.underlying37 (zero := .agg #[.int .i64 0, .string ByteArray.empty, .int .i64 0, .float .f64 0, .string ByteArray.empty, .int .i64 0, .int .i64 0, .int .i64 0, .int .i64 0, .float .f64 0, .int .i64 0, .string ByteArray.empty, .slice none 0 0, .bool false]) (by kernel_rfl) (places := [(0, 1), (1, 1), (2, 1), (3, 1), (4, 1), (5, 8), (13, 1)]) (by kernel_rfl) (by kernel_rfl) g.w
theorem Zzw {N d : Nat} {o : Oper} {uses : Z8} {x1 : Operand} {v1 : Zs} (hop : o.op = .build 39 #[(1, x1)]) (hd : o.dst = some d) (h1 : Opd uses x1 (Zw.pd v1)) : OB Tryd.prog N o uses [(d, Zde.pd { Worker := (0 : Int), Act := v1 })] [] := by
 refine Zcw hop hd fun a g hh => ?_
 obtain ⟨c1, k1, e1⟩ := h1 a g hh
 obtain ⟨u1_0, u1_1, u1_2, u1_3, u1_4, u1_5, u1_6, u1_7, u1_8, u1_9, u1_10, u1_11, u1_12, u1_13, rfl⟩ := Z2d (Zw.len k1)
 refine ⟨.agg #[.int .i64 0, u1_0, u1_1, u1_2, u1_3, u1_4, u1_5, u1_6, u1_7, u1_8, u1_9, u1_10, u1_11, u1_12, u1_13], ?_, [.int .i64 0, u1_0, u1_1, u1_2, u1_3, u1_4, u1_5, u1_6, u1_7, u1_8, u1_9, u1_10, u1_11, u1_12, u1_13], ⟨rfl, (List.forall_mem_cons.2 ⟨(rfl), (List.forall_mem_cons.2 ⟨k1, (fun _ h => by cases h)⟩)⟩)⟩, rfl⟩
 simp only [List.map_toArray, List.map_cons, List.map_nil, e1]
 exact Zcm Tryd.underlying39 (zero := .agg #[.int .i64 0, .int .i64 0, .string ByteArray.empty, .int .i64 0, .float .f64 0, .string ByteArray.empty, .int .i64 0, .int .i64 0, .int .i64 0, .int .i64 0, .float .f64 0, .int .i64 0, .string ByteArray.empty, .slice none 0 0, .bool false]) (by kernel_rfl) (places := [(0, 1), (1, 14)]) (by kernel_rfl) (by kernel_rfl) g.w
theorem Z3s : TE Tryd.prog 40 39 Zde 160 := TE.of Tryd.underlying40 (by kernel_rfl) (by decide) (by decide)
theorem Z3b : Zn Tryd.prog 17 := by
 unfold Zn
 kernel_rfl
theorem Z38 : Zn Tryd.prog 18 := by
 unfold Zn
 kernel_rfl
theorem Zrx (a0 : Int) {r : Zbw} (h : Zdo a0 = some r) : FnOk Tryd.prog 49 [(pInt .i64 a0)] (Zcs.pd r) := by
 have H0 := h
 unfold Zdo at H0
 clear h
 refine Zbq (N := 24) Tryd.func49 rfl rfl (Nat.le_of_ble_eq_true rfl) rfl rfl (fun a g0 hst hb => ?_)
 refine r_s (T := [⟨[], [(2, (pBox Zcs 2 (default : Zbw)))], [3], [], [2]⟩]) (F := [.old 0, .op 0 0]) hst hb Za
   (o_p rfl (Zbi (zs := [.bool false, .bool false, .bool false, .bool false, .bool false]) (by kernel_rfl) (fun g => Znu g) rfl rfl) <| o_n) (by kernel_rfl) (fun a g hst hb => ?_)
 refine wp_seq ?_
 refine r_s (T := [⟨[.old 0], _, [], [], [3]⟩]) (F := [.old 1, .op 0 0]) hst hb Za
   (o_p rfl (Zd rfl rfl u_0) <| o_n) (by kernel_rfl) (fun a g hst hb => ?_)
 refine wp_block ?_
 refine r_s (T := [⟨[.old 1], _, [], [], [5]⟩, ⟨[.op 0 0], _, [], [0], [4]⟩]) (F := [.old 0, .old 1, .op 1 0]) hst hb Za
   (o_p rfl (Z7 rfl rfl u_0 c_i) <| o_p rfl (Zc rfl rfl u_0) <| o_n) (by kernel_rfl) (fun a g hst hb => ?_)
 refine wp_cond_split (hst.bool 2 rfl) (fun hc1 => ?_) (fun hc1 => ?_)
 · replace H0 := Zp hc1 H0
   refine r_s (L := [(2, _)]) (T := [⟨[], _, [], [], [6]⟩, ⟨[.op 0 0, .old 0], _, [3], [0], [2]⟩]) (F := [.op 1 0]) (hst.pick [0] rfl) hb Za
     (o_p rfl (Zz9 rfl rfl c_b) <| o_p rfl (Z5 Zis rfl rfl u_1 u_0) <| o_n) (by kernel_rfl) (fun a g hst hb => ?_)
   refine wp_ret ?_
   refine Zv ?_
   refine Zm ?_
   obtain rfl := Option.some.inj H0
   obtain ⟨u0, hu0, hq0⟩ := Zbe (P := Tryd.prog) Zis (hst.at 0 rfl)
   exact Zx rfl hst hb hu0 hq0
 · replace H0 := Zo hc1 H0
   refine wp_seq ?_
   refine r_s (L := [(2, _), (3, _)]) (T := [⟨[.old 1], _, [], [], [8]⟩, ⟨[.op 0 0], _, [], [0], [7]⟩]) (F := [.old 0, .old 1, .op 1 0]) (hst.pick [0, 1] rfl) hb Za
     (o_p rfl (Z7 rfl rfl u_0 c_i) <| o_p rfl (Zc rfl rfl u_0) <| o_n) (by kernel_rfl) (fun a g hst hb => ?_)
   refine Zbv (fun a w => ∃ (j3 : Bool) (g : G), w = g.w ∧ St 24 [(2, (pBox Zcs 2 (default : Zbw))), (3, (pInt .i64 a0)), (7, (Zba j3))] a g ∧ Base g0 g ∧ Zif a0 j3 = some r) ?_ ?_
   · rintro a w ⟨j3, g, rfl, hst, hb, H0⟩
     unfold Zif at H0
     refine Zq ?_
     refine wp_cond_split (hst.bool 2 rfl) (fun hc4 => ?_) (fun hc4 => ?_)
     · replace H0 := Zp hc4 H0
       refine r_s (L := [(2, _)]) (T := [⟨[], _, [], [], [10]⟩, ⟨[.op 0 0, .old 0], _, [3], [0], [2]⟩]) (F := [.op 1 0]) (hst.pick [0] rfl) hb Za
         (o_p rfl (Z0r rfl rfl c_b) <| o_p rfl (Z5 Zis rfl rfl u_1 u_0) <| o_n) (by kernel_rfl) (fun a g hst hb => ?_)
       refine wp_ret ?_
       refine Zv ?_
       refine Zm ?_
       obtain rfl := Option.some.inj H0
       obtain ⟨u0, hu0, hq0⟩ := Zbe (P := Tryd.prog) Zis (hst.at 0 rfl)
       exact Zx rfl hst hb hu0 hq0
     · replace H0 := Zo hc4 H0
       refine r_s (L := [(2, _), (3, _)]) (T := [⟨[.old 1], _, [], [], [12]⟩, ⟨[.op 0 0], _, [], [0], [11]⟩]) (F := [.old 0, .old 1, .op 1 0]) (hst.pick [0, 1] rfl) hb Za
         (o_p rfl (Z7 rfl rfl u_0 c_i) <| o_p rfl (Zc rfl rfl u_0) <| o_n) (by kernel_rfl) (fun a g hst hb => ?_)
       refine wp_cond_split (hst.bool 2 rfl) (fun hc5 => ?_) (fun hc5 => ?_)
       · replace H0 := Zp hc5 H0
         refine r_s (L := [(2, _)]) (T := [⟨[], _, [], [], [13]⟩, ⟨[.op 0 0, .old 0], _, [3], [0], [2]⟩]) (F := [.op 1 0]) (hst.pick [0] rfl) hb Za
           (o_p rfl (Zwg rfl rfl c_b c_b) <| o_p rfl (Z5 Zis rfl rfl u_1 u_0) <| o_n) (by kernel_rfl) (fun a g hst hb => ?_)
         refine wp_ret ?_
         refine Zv ?_
         refine Zm ?_
         obtain rfl := Option.some.inj H0
         obtain ⟨u0, hu0, hq0⟩ := Zbe (P := Tryd.prog) Zis (hst.at 0 rfl)
         exact Zx rfl hst hb hu0 hq0
       · replace H0 := Zo hc5 H0
         refine wp_seq ?_
         refine r_s (L := [(2, _), (3, _)]) (T := [⟨[.old 1], _, [], [], [15]⟩, ⟨[.op 0 0], _, [], [0], [14]⟩]) (F := [.old 0, .old 1, .op 1 0]) (hst.pick [0, 1] rfl) hb Za
           (o_p rfl (Z7 rfl rfl u_0 c_i) <| o_p rfl (Zc rfl rfl u_0) <| o_n) (by kernel_rfl) (fun a g hst hb => ?_)
         refine Zbv (fun a w => ∃ (j8 : Bool) (g : G), w = g.w ∧ St 24 [(2, (pBox Zcs 2 (default : Zbw))), (3, (pInt .i64 a0)), (14, (Zba j8))] a g ∧ Base g0 g ∧ Zgv a0 j8 = some r) ?_ ?_
         · rintro a w ⟨j8, g, rfl, hst, hb, H0⟩
           unfold Zgv at H0
           refine Zq ?_
           refine wp_cond_split (hst.bool 2 rfl) (fun hc9 => ?_) (fun hc9 => ?_)
           · replace H0 := Zp hc9 H0
             refine r_s (L := [(2, _)]) (T := [⟨[], _, [], [], [18]⟩, ⟨[.op 0 0, .old 0], _, [3], [0], [2]⟩]) (F := [.op 1 0]) (hst.pick [0] rfl) hb Za
               (o_p rfl (Z07 rfl rfl c_b) <| o_p rfl (Z5 Zis rfl rfl u_1 u_0) <| o_n) (by kernel_rfl) (fun a g hst hb => ?_)
             refine wp_ret ?_
             refine Zv ?_
             refine Zm ?_
             obtain rfl := Option.some.inj H0
             obtain ⟨u0, hu0, hq0⟩ := Zbe (P := Tryd.prog) Zis (hst.at 0 rfl)
             exact Zx rfl hst hb hu0 hq0
           · replace H0 := Zo hc9 H0
             refine wp_seq ?_
             refine r_s (L := [(2, _), (3, _)]) (T := [⟨[.old 1], _, [], [], [20]⟩, ⟨[.op 0 0], _, [], [0], [19]⟩]) (F := [.old 0, .old 1, .op 1 0]) (hst.pick [0, 1] rfl) hb Za
               (o_p rfl (Z7 rfl rfl u_0 c_i) <| o_p rfl (Zc rfl rfl u_0) <| o_n) (by kernel_rfl) (fun a g hst hb => ?_)
             refine Zbv (fun a w => ∃ (j11 : Bool) (g : G), w = g.w ∧ St 24 [(2, (pBox Zcs 2 (default : Zbw))), (19, (Zba j11))] a g ∧ Base g0 g ∧ Zih j11 = some r) ?_ ?_
             · rintro a w ⟨j11, g, rfl, hst, hb, H0⟩
               unfold Zih at H0
               refine Zq ?_
               refine wp_cond_split (hst.bool 1 rfl) (fun hc12 => ?_) (fun hc12 => ?_)
               · replace H0 := Zp hc12 H0
                 refine r_s (L := [(2, _)]) (T := [⟨[], _, [], [], [22]⟩, ⟨[.op 0 0, .old 0], _, [3], [0], [2]⟩]) (F := [.op 1 0]) (hst.pick [0] rfl) hb Za
                   (o_p rfl (Z1i rfl rfl c_b) <| o_p rfl (Z5 Zis rfl rfl u_1 u_0) <| o_n) (by kernel_rfl) (fun a g hst hb => ?_)
                 refine wp_ret ?_
                 refine Zv ?_
                 refine Zm ?_
                 obtain rfl := Option.some.inj H0
                 obtain ⟨u0, hu0, hq0⟩ := Zbe (P := Tryd.prog) Zis (hst.at 0 rfl)
                 exact Zx rfl hst hb hu0 hq0
               · replace H0 := Zo hc12 H0
                 refine wp_skip ?_
                 refine Z6 ?_
                 refine Zq ?_
                 refine r_s (L := [(2, _)]) (T := [⟨[], _, [], [], [23]⟩, ⟨[.op 0 0, .old 0], _, [3], [0], [2]⟩]) (F := [.op 1 0]) (hst.pick [0] rfl) hb Za
                   (o_p rfl (Z1x rfl rfl ) <| o_p rfl (Z5 Zis rfl rfl u_1 u_0) <| o_n) (by kernel_rfl) (fun a g hst hb => ?_)
                 refine wp_ret ?_
                 obtain rfl := Option.some.inj H0
                 obtain ⟨u0, hu0, hq0⟩ := Zbe (P := Tryd.prog) Zis (hst.at 0 rfl)
                 exact Zx rfl hst hb hu0 hq0
             · refine wp_cond_split (hst.bool 2 rfl) (fun hc10 => ?_) (fun hc10 => ?_)
               · replace H0 := Zp hc10 H0
                 refine wp_skip ?_
                 exact ⟨(a0 == (8 : Int)), g, rfl, (hst.pick [0, 2] rfl), hb, H0⟩
               · replace H0 := Zo hc10 H0
                 refine r_g (L := [(2, _), (3, _)]) (T := [⟨[.old 1], _, [], [], [21]⟩, ⟨[.op 0 0], _, [], [0], [19]⟩]) (F := [.old 0, .op 1 0]) (hst.pick [0, 1] rfl) hb Za
                   (o_p rfl (Z7 rfl rfl u_0 c_i) <| o_p rfl (Zc rfl rfl u_0) <| o_n) (by kernel_rfl) (fun a g hst hb => ?_)
                 exact ⟨(a0 == (9 : Int)), g, rfl, (hst.pick [0, 1] rfl), hb, H0⟩
         · refine wp_cond_split (hst.bool 2 rfl) (fun hc6 => ?_) (fun hc6 => ?_)
           · replace H0 := Zp hc6 H0
             refine wp_skip ?_
             exact ⟨(a0 == (5 : Int)), g, rfl, (hst.pick [0, 1, 2] rfl), hb, H0⟩
           · replace H0 := Zo hc6 H0
             refine r_s (L := [(2, _), (3, _)]) (T := [⟨[.old 1], _, [], [], [16]⟩, ⟨[.op 0 0], _, [], [0], [14]⟩]) (F := [.old 0, .old 1, .op 1 0]) (hst.pick [0, 1] rfl) hb Za
               (o_p rfl (Z7 rfl rfl u_0 c_i) <| o_p rfl (Zc rfl rfl u_0) <| o_n) (by kernel_rfl) (fun a g hst hb => ?_)
             refine wp_cond_split (hst.bool 2 rfl) (fun hc7 => ?_) (fun hc7 => ?_)
             · replace H0 := Zp hc7 H0
               refine wp_skip ?_
               exact ⟨(a0 == (6 : Int)), g, rfl, (hst.pick [0, 1, 2] rfl), hb, H0⟩
             · replace H0 := Zo hc7 H0
               refine r_g (L := [(2, _), (3, _)]) (T := [⟨[.old 1], _, [], [], [17]⟩, ⟨[.op 0 0], _, [], [0], [14]⟩]) (F := [.old 0, .old 1, .op 1 0]) (hst.pick [0, 1] rfl) hb Za
                 (o_p rfl (Z7 rfl rfl u_0 c_i) <| o_p rfl (Zc rfl rfl u_0) <| o_n) (by kernel_rfl) (fun a g hst hb => ?_)
               exact ⟨(a0 == (7 : Int)), g, rfl, (hst.pick [0, 1, 2] rfl), hb, H0⟩
   · refine wp_cond_split (hst.bool 2 rfl) (fun hc2 => ?_) (fun hc2 => ?_)
     · replace H0 := Zp hc2 H0
       refine wp_skip ?_
       exact ⟨(a0 == (2 : Int)), g, rfl, (hst.pick [0, 1, 2] rfl), hb, H0⟩
     · replace H0 := Zo hc2 H0
       refine r_g (L := [(2, _), (3, _)]) (T := [⟨[.old 1], _, [], [], [9]⟩, ⟨[.op 0 0], _, [], [0], [7]⟩]) (F := [.old 0, .old 1, .op 1 0]) (hst.pick [0, 1] rfl) hb Za
         (o_p rfl (Z7 rfl rfl u_0 c_i) <| o_p rfl (Zc rfl rfl u_0) <| o_n) (by kernel_rfl) (fun a g hst hb => ?_)
       exact ⟨(a0 == (3 : Int)), g, rfl, (hst.pick [0, 1, 2] rfl), hb, H0⟩
theorem Zo6 {r : Nat} (h : Zlv = some r) : FnOk Tryd.prog 33 [] (pFlt r) := by
 have H0 := h
 unfold Zlv at H0
 clear h
 refine Zbq (N := 2) Tryd.func33 rfl rfl (Nat.le_of_ble_eq_true rfl) rfl rfl (fun a g0 hst hb => ?_)
 refine r_s (T := [⟨[], _, [], [], [0]⟩]) (F := []) hst hb Za
   (o_p rfl (Zc rfl rfl c_f) <| o_n) (by kernel_rfl) (fun a g hst hb => ?_)
 refine r_s (T := [⟨[], _, [], [], [1]⟩, ⟨[.op 0 0], _, [], [0], [0]⟩]) (F := [.op 1 0]) hst hb Za
   (o_p rfl (Zkl Zsb rfl rfl c_i) <| o_p rfl (Zc rfl rfl u_0) <| o_n) (by kernel_rfl) (fun a g hst hb => ?_)
 refine wp_ret ?_
 obtain rfl := Option.some.inj H0
 exact Zx rfl hst hb (Zl (s := 0)) (hst.at 0 rfl)
theorem Zf0 (a0 : Nat) {r : Nat} (h : Zez a0 = some r) : FnOk Tryd.prog 66 [(pFlt a0)] (pFlt r) := by
 have H0 := h
 unfold Zez at H0
 clear h
 refine Zbq (N := 8) Tryd.func66 rfl rfl (Nat.le_of_ble_eq_true rfl) rfl rfl (fun a g0 hst hb => ?_)
 refine r_s (T := [⟨[], _, [], [], [2]⟩]) (F := [.old 0]) hst hb Za
   (o_p rfl (Zc rfl rfl c_f) <| o_n) (by kernel_rfl) (fun a g hst hb => ?_)
 refine wp_seq ?_
 refine r_s (T := [⟨[.old 0], _, [], [], [3]⟩, ⟨[.old 0], _, [], [], [4]⟩, ⟨[.op 0 0, .op 1 0], _, [], [0, 1], [5]⟩]) (F := [.old 0, .op 2 0]) hst hb Za
   (o_p rfl (Zd rfl rfl u_0) <| o_p rfl (Zd rfl rfl u_0) <| o_p rfl (Zud rfl rfl u_0 u_1) <| o_n) (by kernel_rfl) (fun a g hst hb => ?_)
 refine wp_cond_split (hst.bool 1 rfl) (fun hc1 => ?_) (fun hc1 => ?_)
 · replace H0 := Zp hc1 H0
   obtain ⟨r2, h3, H0⟩ := Zk H0
   refine r_s (L := []) (T := [⟨[], _, [], [], [6]⟩, ⟨[.op 0 0], _, [], [0], [2]⟩]) (F := [.op 1 0]) (hst.pick [] rfl) hb Za
     (o_p rfl (Zt Zyl (Zo6 h3) rfl rfl .nil) <| o_p rfl (Zc rfl rfl u_0) <| o_n) (by kernel_rfl) (fun a g hst hb => ?_)
   refine wp_ret ?_
   refine Zm ?_
   obtain rfl := Option.some.inj H0
   exact Zx rfl hst hb (Zl (s := 2)) (hst.at 0 rfl)
 · replace H0 := Zo hc1 H0
   refine wp_skip ?_
   refine Zq ?_
   refine r_s (L := [(0, _)]) (T := [⟨[.old 0], _, [], [], [7]⟩, ⟨[.op 0 0], _, [], [0], [2]⟩]) (F := [.op 1 0]) (hst.pick [0] rfl) hb Za
     (o_p rfl (Zd rfl rfl u_0) <| o_p rfl (Zc rfl rfl u_0) <| o_n) (by kernel_rfl) (fun a g hst hb => ?_)
   refine wp_ret ?_
   obtain rfl := Option.some.inj H0
   exact Zx rfl hst hb (Zl (s := 2)) (hst.at 0 rfl)
theorem Zla (a0 : Nat) {r : Int} (h : Zjq a0 = some r) : FnOk Tryd.prog 81 [(pFlt a0)] (pInt .u64 r) := by
 have H0 := h
 unfold Zjq at H0
 clear h
 refine Zbq (N := 14) Tryd.func81 rfl rfl (Nat.le_of_ble_eq_true rfl) rfl rfl (fun a g0 hst hb => ?_)
 refine r_s (T := [⟨[], _, [], [], [2]⟩]) (F := [.old 0]) hst hb Za
   (o_p rfl (Zc rfl rfl c_i) <| o_n) (by kernel_rfl) (fun a g hst hb => ?_)
 obtain ⟨r1, h2, H0⟩ := Zk H0
 refine r_s (T := [⟨[.old 0], _, [], [], [4]⟩, ⟨[.op 0 0], _, [], [0], [5]⟩, ⟨[.op 1 0], _, [], [0, 1], [6]⟩, ⟨[.op 2 0], _, [], [0, 1, 2], [3]⟩]) (F := [.op 3 0]) hst hb Za
   (o_p rfl (Zd rfl rfl u_0) <| o_p rfl (Zt Zl4 (Zf0 _ h2) rfl rfl (.cons u_0 .nil)) <| o_p rfl (Zl9 Zp8 rfl rfl u_0) <| o_p rfl (Zc rfl rfl u_0) <| o_n) (by kernel_rfl) (fun a g hst hb => ?_)
 refine wp_seq ?_
 refine r_s (T := [⟨[.old 0], _, [], [], [7]⟩, ⟨[.op 0 0], _, [], [0], [8]⟩, ⟨[.op 1 0], _, [], [0, 1], [9]⟩]) (F := [.old 0, .op 2 0]) hst hb Za
   (o_p rfl (Zd rfl rfl u_0) <| o_p rfl (Z1o rfl rfl u_0 c_i) <| o_p rfl (Zdu rfl rfl u_0 c_i) <| o_n) (by kernel_rfl) (fun a g hst hb => ?_)
 refine wp_cond_split (hst.bool 1 rfl) (fun hc3 => ?_) (fun hc3 => ?_)
 · replace H0 := Zp hc3 H0
   refine r_s (L := [(3, _)]) (T := [⟨[.old 0], _, [], [], [10]⟩, ⟨[.op 0 0], _, [], [0], [11]⟩, ⟨[.op 1 0], _, [], [0, 1], [2]⟩]) (F := [.op 2 0]) (hst.pick [0] rfl) hb Za
     (o_p rfl (Zd rfl rfl u_0) <| o_p rfl (Z0v rfl rfl rfl u_0) <| o_p rfl (Zc rfl rfl u_0) <| o_n) (by kernel_rfl) (fun a g hst hb => ?_)
   refine wp_ret ?_
   refine Zm ?_
   obtain rfl := Option.some.inj H0
   exact Zx rfl hst hb (Zl (s := 2)) (hst.at 0 rfl)
 · replace H0 := Zo hc3 H0
   refine wp_skip ?_
   refine Zq ?_
   refine r_s (L := [(3, _)]) (T := [⟨[.old 0], _, [], [], [12]⟩, ⟨[.op 0 0], _, [], [0], [13]⟩, ⟨[.op 1 0], _, [], [0, 1], [2]⟩]) (F := [.op 2 0]) (hst.pick [0] rfl) hb Za
     (o_p rfl (Zd rfl rfl u_0) <| o_p rfl (Z4g rfl rfl u_0 c_i) <| o_p rfl (Zc rfl rfl u_0) <| o_n) (by kernel_rfl) (fun a g hst hb => ?_)
   refine wp_ret ?_
   obtain rfl := Option.some.inj H0
   exact Zx rfl hst hb (Zl (s := 2)) (hst.at 0 rfl)
theorem Zin (a0 : Nat) (a1 : Nat) {r : Bool} (h : Zhf a0 a1 = some r) : FnOk Tryd.prog 76 [(pFlt a0), (pFlt a1)] (Zba r) := by
 have H0 := h
 unfold Zhf at H0
 clear h
 refine Zbq (N := 10) Tryd.func76 rfl rfl (Nat.le_of_ble_eq_true rfl) rfl rfl (fun a g0 hst hb => ?_)
 refine r_s (T := [⟨[], _, [], [], [4]⟩]) (F := [.old 0, .old 1]) hst hb Za
   (o_p rfl (Zc rfl rfl c_b) <| o_n) (by kernel_rfl) (fun a g hst hb => ?_)
 obtain ⟨r1, h2, H0⟩ := Zk H0; obtain ⟨r3, h4, H0⟩ := Zk H0
 refine r_s (T := [⟨[.old 0], _, [], [], [5]⟩, ⟨[.op 0 0], _, [], [0], [6]⟩, ⟨[.old 1], _, [], [], [7]⟩, ⟨[.op 2 0], _, [], [0, 1, 2], [8]⟩, ⟨[.op 1 0, .op 3 0], _, [], Lr 4, [9]⟩, ⟨[.op 4 0], _, [], Lr 5, [4]⟩]) (F := [.op 5 0]) hst hb Za
   (o_p rfl (Zd rfl rfl u_0) <| o_p rfl (Zt Zr6 (Zla _ h2) rfl rfl (.cons u_0 .nil)) <| o_p rfl (Zd rfl rfl u_0) <| o_p rfl (Zt Zr6 (Zla _ h4) rfl rfl (.cons u_0 .nil)) <| o_p rfl (Z7 rfl rfl u_0 u_1) <| o_p rfl (Zc rfl rfl u_0) <| o_n) (by kernel_rfl) (fun a g hst hb => ?_)
 refine wp_ret ?_
 obtain rfl := Option.some.inj H0
 exact Zx rfl hst hb (Zl (s := 4)) (hst.at 0 rfl)
theorem Ztz (a0 : Zb) (a1 : Zbw) {r : Bool} (h : Zls a0 a1 = some r) : FnOk Tryd.prog 50 [(Zf.pd a0), (Zcs.pd a1)] (Zba r) := by
 have H0 := h
 unfold Zls at H0
 clear h
 refine Zbq (N := 59) Tryd.func50 rfl rfl (Nat.le_of_ble_eq_true rfl) rfl rfl (fun a g0 hst hb => ?_)
 refine r_s (T := [⟨[.old 0], _, [], [], [2]⟩, ⟨[.old 1], _, [], [], [3]⟩, ⟨[], _, [], [], [4]⟩]) (F := [.op 0 0, .op 1 0]) hst hb Za
   (o_p rfl (Zbs rfl rfl u_0) <| o_p rfl (Zbs rfl rfl u_0) <| o_p rfl (Zc rfl rfl c_b) <| o_n) (by kernel_rfl) (fun a g hst hb => ?_)
 obtain ⟨r1, h2, H0⟩ := Zk H0
 refine r_s (T := ⟨[.old 1], _, [], [], [5]⟩ :: ⟨[.op 0 0], _, [], [0], [6]⟩ :: ⟨[.op 1 0], _, [], [0, 1], [7]⟩ :: ⟨[.op 2 0, .old 0], _, [], [0, 1, 2], [8]⟩ :: ⟨[.op 2 0, .op 3 0], _, [], Lr 4, [9]⟩ :: ⟨[.op 2 0, .op 4 0], _, [], Lr 5, [10]⟩ :: ⟨[.op 2 0, .op 5 0], _, [], Lr 6, [11]⟩ :: ⟨[.op 6 0], _, [], Lr 7, [12]⟩ :: ⟨[.op 7 0, .old 1], _, [], Lr 8, [13]⟩ :: ⟨[.op 7 0, .op 8 0], _, [], Lr 9, [14]⟩ :: ⟨[.op 7 0, .op 9 0], _, [], Lr 10, [15]⟩ :: ⟨[.op 10 0, .old 0], _, [], Lr 11, [16]⟩ :: ⟨[.op 10 0, .op 11 0], _, [], Lr 12, [17]⟩ :: ⟨[.op 10 0, .op 12 0], _, [], Lr 13, [18]⟩ :: ⟨[.op 7 0, .op 10 0, .op 13 0], _, [], Lr 14, [19]⟩ :: ⟨[.op 7 0, .op 14 0], _, [], Lr 15, [20]⟩ :: ⟨[.op 15 0], _, [], Lr 16, [21]⟩ :: ⟨[.op 16 0, .old 1], _, [], Lr 17, [22]⟩ :: ⟨[.op 16 0, .op 17 0], _, [], Lr 18, [23]⟩ :: ⟨[.op 16 0, .op 18 0], _, [], Lr 19, [24]⟩ :: ⟨[.op 19 0, .old 0], _, [], Lr 20, [25]⟩ :: ⟨[.op 19 0, .op 20 0], _, [], Lr 21, [26]⟩ :: ⟨[.op 19 0, .op 21 0], _, [], Lr 22, [27]⟩ :: ⟨[.op 19 0, .op 22 0], _, [], Lr 23, [28]⟩ :: ⟨[.op 23 0, .old 0], _, [], Lr 24, [29]⟩ :: ⟨[.op 23 0, .op 24 0], _, [], Lr 25, [30]⟩ :: ⟨[.op 23 0, .op 25 0], _, [], Lr 26, [31]⟩ :: ⟨[.op 19 0, .op 23 0, .op 26 0], _, [], Lr 27, [32]⟩ :: ⟨[.op 16 0, .op 19 0, .op 27 0], _, [], Lr 28, [33]⟩ :: ⟨[.op 16 0, .op 28 0], _, [], Lr 29, [34]⟩ :: ⟨[.op 29 0], _, [], Lr 30, [35]⟩ :: ⟨[.op 30 0, .old 1], _, [], Lr 31, [36]⟩ :: ⟨[.op 30 0, .op 31 0], _, [], Lr 32, [37]⟩ :: ⟨[.op 30 0, .op 32 0], _, [], Lr 33, [38]⟩ :: ⟨[.op 33 0, .old 0], _, [], Lr 34, [39]⟩ :: ⟨[.op 33 0, .op 34 0], _, [], Lr 35, [40]⟩ :: ⟨[.op 33 0, .op 35 0], _, [], Lr 36, [41]⟩ :: ⟨[.op 30 0, .op 33 0, .op 36 0], _, [], Lr 37, [42]⟩ :: ⟨[.op 30 0, .op 37 0], _, [], Lr 38, [43]⟩ :: ⟨[.op 38 0], _, [], Lr 39, [44]⟩ :: ⟨[.op 39 0, .old 1], _, [], Lr 40, [45]⟩ :: ⟨[.op 39 0, .op 40 0], _, [], Lr 41, [46]⟩ :: ⟨[.op 39 0, .op 41 0], _, [], Lr 42, [47]⟩ :: ⟨[.op 42 0, .old 0], _, [], Lr 43, [48]⟩ :: ⟨[.op 42 0, .op 43 0], _, [], Lr 44, [49]⟩ :: ⟨[.op 42 0, .op 44 0], _, [], Lr 45, [50]⟩ :: ⟨[.op 42 0, .op 45 0], _, [], Lr 46, [51]⟩ :: ⟨[.op 46 0, .old 0], _, [], Lr 47, [52]⟩ :: ⟨[.op 46 0, .op 47 0], _, [], Lr 48, [53]⟩ :: ⟨[.op 46 0, .op 48 0], _, [], Lr 49, [54]⟩ :: ⟨[.op 46 0, .op 49 0], _, [], Lr 50, [55]⟩ :: ⟨[.op 42 0, .op 46 0, .op 50 0], _, [], Lr 51, [56]⟩ :: ⟨[.op 39 0, .op 42 0, .op 51 0], _, [], Lr 52, [57]⟩ :: ⟨[.op 39 0, .op 52 0], _, [], Lr 53, [58]⟩ :: ⟨[.op 53 0], _, [], Lr 54, [4]⟩ :: []) (F := [.op 54 0]) hst hb Za
   (o_p rfl (Ze Zzv rfl rfl u_0) <| o_p rfl (Zg ty_4 rfl rfl u_0) <| o_p rfl (Zd rfl rfl u_0) <| o_g (g_f rfl rfl rfl (fun hG => Ze Zgp rfl rfl u_0)) <| o_g (g_f rfl rfl rfl (fun hG => Zg ty_9 rfl rfl (Opd.gd hG u_0))) <| o_g (g_f rfl rfl rfl (fun hG => Zj2 rfl rfl (Opd.gd hG u_0) c_s)) <| o_p rfl (Zbj rfl rfl u_0 (fun hz => (Opd.gd (bNF hz) u_1))) <| o_p rfl (Zd rfl rfl u_0) <| o_g (g_t rfl rfl rfl (fun hG => Ze Zzz rfl rfl u_0)) <| o_g (g_t rfl rfl rfl (fun hG => Zg ty_4 rfl rfl (Opd.gd hG u_0))) <| o_g (g_t rfl rfl rfl (fun hG => Zd rfl rfl (Opd.gd hG u_0))) <| o_g (g_fi rfl rfl rfl (fun hG => Ze Zbx rfl rfl u_0)) <| o_g (g_fi rfl rfl rfl (fun hG => Zg ty_2 rfl rfl (Opd.gd hG u_0))) <| o_g (g_fi rfl rfl rfl (fun hG => Z7 rfl rfl (Opd.gd hG u_0) c_i)) <| o_g (g_t rfl rfl rfl (fun hG => Zbj rfl rfl (Opd.gd hG u_0) (fun hz => (Opd.gd (bA hG (bNF hz)) u_1)))) <| o_p rfl (Zbb rfl rfl u_0 (fun hz => (Opd.gd hz u_1))) <| o_p rfl (Zd rfl rfl u_0) <| o_g (g_t rfl rfl rfl (fun hG => Ze Zt8 rfl rfl u_0)) <| o_g (g_t rfl rfl rfl (fun hG => Zg ty_4 rfl rfl (Opd.gd hG u_0))) <| o_g (g_t rfl rfl rfl (fun hG => Zd rfl rfl (Opd.gd hG u_0))) <| o_g (g_fi rfl rfl rfl (fun hG => Ze Zgl rfl rfl u_0)) <| o_g (g_fi rfl rfl rfl (fun hG => Zg ty_2 rfl rfl (Opd.gd hG u_0))) <| o_g (g_fi rfl rfl rfl (fun hG => Z7 rfl rfl (Opd.gd hG u_0) c_i)) <| o_g (g_fi rfl rfl rfl (fun hG => Zd rfl rfl (Opd.gd hG u_0))) <| o_g (g_ti rfl rfl rfl (fun hG => Ze Zgn rfl rfl u_0)) <| o_g (g_ti rfl rfl rfl (fun hG => Zg ty_2 rfl rfl (Opd.gd hG u_0))) <| o_g (g_ti rfl rfl rfl (fun hG => Z7 rfl rfl (Opd.gd hG u_0) c_i)) <| o_g (g_fi rfl rfl rfl (fun hG => Zbb rfl rfl (Opd.gd hG u_0) (fun hz => (Opd.gd (bA hG hz) u_1)))) <| o_g (g_t rfl rfl rfl (fun hG => Zbj rfl rfl (Opd.gd hG u_0) (fun hz => (Opd.gd (bA hG (bNF hz)) u_1)))) <| o_p rfl (Zbb rfl rfl u_0 (fun hz => (Opd.gd hz u_1))) <| o_p rfl (Zd rfl rfl u_0) <| o_g (g_t rfl rfl rfl (fun hG => Ze Z06 rfl rfl u_0)) <| o_g (g_t rfl rfl rfl (fun hG => Zg ty_4 rfl rfl (Opd.gd hG u_0))) <| o_g (g_t rfl rfl rfl (fun hG => Zd rfl rfl (Opd.gd hG u_0))) <| o_g (g_fi rfl rfl rfl (fun hG => Ze Zcv rfl rfl u_0)) <| o_g (g_fi rfl rfl rfl (fun hG => Zg Zby rfl rfl (Opd.gd hG u_0))) <| o_g (g_fi rfl rfl rfl (fun hG => Zt Zoh (Zin _ _ (Zbn h2 hG)) rfl rfl (.cons (Opd.gd hG u_0) (.cons c_f .nil)))) <| o_g (g_t rfl rfl rfl (fun hG => Zbj rfl rfl (Opd.gd hG u_0) (fun hz => (Opd.gd (bA hG (bNF hz)) u_1)))) <| o_p rfl (Zbb rfl rfl u_0 (fun hz => (Opd.gd hz u_1))) <| o_p rfl (Zd rfl rfl u_0) <| o_g (g_t rfl rfl rfl (fun hG => Ze Zuw rfl rfl u_0)) <| o_g (g_t rfl rfl rfl (fun hG => Zg ty_4 rfl rfl (Opd.gd hG u_0))) <| o_g (g_t rfl rfl rfl (fun hG => Zd rfl rfl (Opd.gd hG u_0))) <| o_g (g_fi rfl rfl rfl (fun hG => Ze Zeo rfl rfl u_0)) <| o_g (g_fi rfl rfl rfl (fun hG => Zg ty_3 rfl rfl (Opd.gd hG u_0))) <| o_g (g_fi rfl rfl rfl (fun hG => Z7 rfl rfl (Opd.gd hG u_0) c_i)) <| o_g (g_fi rfl rfl rfl (fun hG => Zd rfl rfl (Opd.gd hG u_0))) <| o_g (g_ti rfl rfl rfl (fun hG => Ze Zbm rfl rfl u_0)) <| o_g (g_ti rfl rfl rfl (fun hG => Zg Zca rfl rfl (Opd.gd hG u_0))) <| o_g (g_ti rfl rfl rfl (fun hG => Zcd Tryd.underlying23 rfl rfl (Opd.gd hG u_0))) <| o_g (g_ti rfl rfl rfl (fun hG => Z7 rfl rfl (Opd.gd hG u_0) c_i)) <| o_g (g_fi rfl rfl rfl (fun hG => Zbb rfl rfl (Opd.gd hG u_0) (fun hz => (Opd.gd (bA hG hz) u_1)))) <| o_g (g_t rfl rfl rfl (fun hG => Zbj rfl rfl (Opd.gd hG u_0) (fun hz => (Opd.gd (bA hG (bNF hz)) u_1)))) <| o_p rfl (Zbb rfl rfl u_0 (fun hz => (Opd.gd hz u_1))) <| o_p rfl (Zc rfl rfl u_0) <| o_n) (by kernel_rfl) (fun a g hst hb => ?_)
 refine wp_ret ?_
 obtain rfl := Option.some.inj H0
 exact Zx rfl hst hb (Zl (s := 4)) (hst.at 0 rfl)
theorem Zk4 (a0 : Nat) {r : Bool} (h : Zic a0 = some r) : FnOk Tryd.prog 51 [(pFlt a0)] (Zba r) := by
 have H0 := h
 unfold Zic at H0
 clear h
 refine Zbq (N := 9) Tryd.func51 rfl rfl (Nat.le_of_ble_eq_true rfl) rfl rfl (fun a g0 hst hb => ?_)
 refine r_s (T := [⟨[], _, [], [], [2]⟩]) (F := [.old 0]) hst hb Za
   (o_p rfl (Zc rfl rfl c_b) <| o_n) (by kernel_rfl) (fun a g hst hb => ?_)
 obtain ⟨r1, h2, H0⟩ := Zk H0
 refine r_s (T := [⟨[.old 0], _, [], [], [3]⟩, ⟨[.op 0 0], _, [], [0], [4]⟩, ⟨[.old 0], _, [], [], [5]⟩, ⟨[.op 2 0], _, [], [0, 1, 2], [6]⟩, ⟨[.op 3 0], _, [], Lr 4, [7]⟩, ⟨[.op 1 0, .op 4 0], _, [], Lr 5, [8]⟩, ⟨[.op 5 0], _, [], Lr 6, [2]⟩]) (F := [.op 6 0]) hst hb Za
   (o_p rfl (Zd rfl rfl u_0) <| o_p rfl (Zl9 Zp8 rfl rfl u_0) <| o_p rfl (Zd rfl rfl u_0) <| o_p rfl (Zt Zl4 (Zf0 _ h2) rfl rfl (.cons u_0 .nil)) <| o_p rfl (Zl9 Zp8 rfl rfl u_0) <| o_p rfl (Z7 rfl rfl u_0 u_1) <| o_p rfl (Zc rfl rfl u_0) <| o_n) (by kernel_rfl) (fun a g hst hb => ?_)
 refine wp_ret ?_
 obtain rfl := Option.some.inj H0
 exact Zx rfl hst hb (Zl (s := 2)) (hst.at 0 rfl)
theorem Zl8 (a0 : Nat) (a1 : Nat) {r : Bool} (h : Zjo a0 a1 = some r) : FnOk Tryd.prog 65 [(pFlt a0), (pFlt a1)] (Zba r) := by
 have H0 := h
 unfold Zjo at H0
 clear h
 refine Zbq (N := 10) Tryd.func65 rfl rfl (Nat.le_of_ble_eq_true rfl) rfl rfl (fun a g0 hst hb => ?_)
 refine r_s (T := [⟨[], _, [], [], [4]⟩]) (F := [.old 0, .old 1]) hst hb Za
   (o_p rfl (Zc rfl rfl c_b) <| o_n) (by kernel_rfl) (fun a g hst hb => ?_)
 obtain ⟨r1, h2, H0⟩ := Zk H0; obtain ⟨r3, h4, H0⟩ := Zk H0
 refine r_s (T := [⟨[.old 0], _, [], [], [5]⟩, ⟨[.op 0 0], _, [], [0], [6]⟩, ⟨[.old 1], _, [], [], [7]⟩, ⟨[.op 2 0], _, [], [0, 1, 2], [8]⟩, ⟨[.op 1 0, .op 3 0], _, [], Lr 4, [9]⟩, ⟨[.op 4 0], _, [], Lr 5, [4]⟩]) (F := [.op 5 0]) hst hb Za
   (o_p rfl (Zd rfl rfl u_0) <| o_p rfl (Zt Zr6 (Zla _ h2) rfl rfl (.cons u_0 .nil)) <| o_p rfl (Zd rfl rfl u_0) <| o_p rfl (Zt Zr6 (Zla _ h4) rfl rfl (.cons u_0 .nil)) <| o_p rfl (Zcb rfl rfl u_0 u_1) <| o_p rfl (Zc rfl rfl u_0) <| o_n) (by kernel_rfl) (fun a g hst hb => ?_)
 refine wp_ret ?_
 obtain rfl := Option.some.inj H0
 exact Zx rfl hst hb (Zl (s := 4)) (hst.at 0 rfl)
theorem Zk3 (a0 : Zh) (a1 : Zh) {r : Bool} (h : Zib a0 a1 = some r) : FnOk Tryd.prog 77 [(Zr.pd a0), (Zr.pd a1)] (Zba r) := by
 have H0 := h
 unfold Zib at H0
 clear h
 refine Zbq (N := 21) Tryd.func77 rfl rfl (Nat.le_of_ble_eq_true rfl) rfl rfl (fun a g0 hst hb => ?_)
 refine r_s (T := [⟨[.old 0], _, [], [], [2]⟩, ⟨[.old 1], _, [], [], [3]⟩, ⟨[], _, [], [], [4]⟩]) (F := [.op 0 0, .op 1 0]) hst hb Za
   (o_p rfl (Zbs rfl rfl u_0) <| o_p rfl (Zbs rfl rfl u_0) <| o_p rfl (Zc rfl rfl c_b) <| o_n) (by kernel_rfl) (fun a g hst hb => ?_)
 refine wp_seq ?_
 obtain ⟨r1, h2, H0⟩ := Zk H0
 refine r_s (T := [⟨[.old 0], _, [], [], [5]⟩, ⟨[.op 0 0], _, [], [0], [6]⟩, ⟨[.old 1], _, [], [], [7]⟩, ⟨[.op 2 0], _, [], [2], [8]⟩, ⟨[.op 1 0, .op 3 0], _, [], Lr 4, [9]⟩, ⟨[.op 4 0], _, [], Lr 5, [10]⟩]) (F := [.old 0, .old 1, .op 5 0]) hst hb Za
   (o_p rfl (Ze Zee rfl rfl u_0) <| o_p rfl (Zg Zby rfl rfl u_0) <| o_p rfl (Ze Zee rfl rfl u_0) <| o_p rfl (Zg Zby rfl rfl u_0) <| o_p rfl (Zt Zoh (Zin _ _ h2) rfl rfl (.cons u_0 (.cons u_1 .nil))) <| o_p rfl (Zb4 rfl rfl u_0) <| o_n) (by kernel_rfl) (fun a g hst hb => ?_)
 refine wp_cond_split (hst.bool 2 rfl) (fun hc3 => ?_) (fun hc3 => ?_)
 · replace H0 := Zp hc3 H0
   obtain ⟨r4, h5, H0⟩ := Zk H0
   refine r_s (L := [(2, _), (3, _)]) (T := [⟨[.old 1], _, [], [], [11]⟩, ⟨[.op 0 0], _, [], [0], [12]⟩, ⟨[.old 0], _, [], [], [13]⟩, ⟨[.op 2 0], _, [], [2], [14]⟩, ⟨[.op 1 0, .op 3 0], _, [], Lr 4, [15]⟩, ⟨[.op 4 0], _, [], Lr 5, [4]⟩]) (F := [.op 5 0]) (hst.pick [0, 1] rfl) hb Za
     (o_p rfl (Ze Zee rfl rfl u_0) <| o_p rfl (Zg Zby rfl rfl u_0) <| o_p rfl (Ze Zee rfl rfl u_0) <| o_p rfl (Zg Zby rfl rfl u_0) <| o_p rfl (Zt Zvr (Zl8 _ _ h5) rfl rfl (.cons u_0 (.cons u_1 .nil))) <| o_p rfl (Zc rfl rfl u_0) <| o_n) (by kernel_rfl) (fun a g hst hb => ?_)
   refine wp_ret ?_
   refine Zm ?_
   obtain rfl := Option.some.inj H0
   exact Zx rfl hst hb (Zl (s := 4)) (hst.at 0 rfl)
 · replace H0 := Zo hc3 H0
   refine wp_skip ?_
   refine Zq ?_
   refine r_s (L := [(2, _), (3, _)]) (T := [⟨[.old 0], _, [], [], [16]⟩, ⟨[.op 0 0], _, [], [0], [17]⟩, ⟨[.old 1], _, [], [], [18]⟩, ⟨[.op 2 0], _, [], [2], [19]⟩, ⟨[.op 1 0, .op 3 0], _, [], Lr 4, [20]⟩, ⟨[.op 4 0], _, [], Lr 5, [4]⟩]) (F := [.op 5 0]) (hst.pick [0, 1] rfl) hb Za
     (o_p rfl (Ze Zc4 rfl rfl u_0) <| o_p rfl (Zg ty_9 rfl rfl u_0) <| o_p rfl (Ze Zc4 rfl rfl u_0) <| o_p rfl (Zg ty_9 rfl rfl u_0) <| o_p rfl (Znv rfl rfl u_0 u_1) <| o_p rfl (Zc rfl rfl u_0) <| o_n) (by kernel_rfl) (fun a g hst hb => ?_)
   refine wp_ret ?_
   obtain rfl := Option.some.inj H0
   exact Zx rfl hst hb (Zl (s := 4)) (hst.at 0 rfl)
theorem Zs8 (a0 : Int) (a1 : List Zh) {r : Int} (h : Zky a0 a1 = some r) : FnOk Tryd.prog 52 [(pInt .i64 a0), (Zr.sl.pd a1)] (pInt .i64 r) := by
 have H0 := h
 unfold Zky at H0
 clear h
 refine Zbq (N := 70) Tryd.func52 rfl rfl (Nat.le_of_ble_eq_true rfl) rfl rfl (fun a g0 hst hb => ?_)
 refine r_s (T := [⟨[], _, [], [], [4]⟩]) (F := [.old 0, .old 1]) hst hb Za
   (o_p rfl (Zc rfl rfl c_i) <| o_n) (by kernel_rfl) (fun a g hst hb => ?_)
 refine wp_seq ?_
 refine r_s (T := [⟨[.old 1], _, [], [], [7]⟩, ⟨[.op 0 0], _, [], [0], [8]⟩, ⟨[], _, [], [], [9]⟩]) (F := [.old 0, .old 1, .op 0 0, .op 1 0, .op 2 0]) hst hb Za
   (o_p rfl (Zd rfl rfl u_0) <| o_p rfl (Zcd Tryd.underlying23 rfl rfl u_0) <| o_p rfl (Zd rfl rfl c_i) <| o_n) (by kernel_rfl) (fun a g hst hb => ?_)
 obtain ⟨z19, hz1, H0⟩ := Zk H0
 refine Zbv (fun a w => ∃ (g : G), w = g.w ∧ St 70 [] a g ∧ Base g0 g ∧ (.inr ()) = z19) ?_ ?_
 · rintro a w ⟨g, rfl, hst, hb, rfl⟩
   refine Zq ?_
   refine r_s (T := [⟨[], _, [], [], [4]⟩]) (F := [.op 0 0]) hst hb Za
     (o_p rfl (Zc rfl rfl c_i) <| o_n) (by kernel_rfl) (fun a g hst hb => ?_)
   refine wp_ret ?_
   obtain rfl := Option.some.inj H0
   exact Zx rfl hst hb (Zl (s := 4)) (hst.at 0 rfl)
 · refine wp_block ?_
   refine wp_loop_ghost (fun n a w => ∃ (x1 : Int) (g : G), w = g.w ∧ St 70 [(0, (pInt .i64 a0)), (1, (Zr.sl.pd a1)), (7, (Zr.sl.pd a1)), (8, (pInt .i64 (a1.length : Int))), (9, (pInt .i64 x1))] a g ∧ Base g0 g ∧ Ze3 a0 a1 n x1 = some z19) (Int.toNat ((a1.length : Int) - (0 : Int)) + 1) ⟨(0 : Int), g, rfl, (hst.pick [0, 1, 2, 3, 4] rfl), hb, hz1⟩ (fun n a w hI => ?_)
   obtain ⟨x1, g, rfl, hst, hb, H1⟩ := hI
   cases n with
   | zero => exact absurd H1 (by simp [Ze3])
   | succ n =>
     rw [Ze3] at H1
     refine r_s (T := [⟨[.old 4, .old 3], _, [], [], [10]⟩]) (F := [.old 0, .old 1, .old 2, .old 3, .old 4, .op 0 0]) hst hb Za
       (o_p rfl (Zcb rfl rfl u_0 u_1) <| o_n) (by kernel_rfl) (fun a g hst hb => ?_)
     refine wp_seq ?_
     refine wp_cond_split (hst.bool 5 rfl) (fun hc2 => ?_) (fun hc2 => ?_)
     · replace H1 := Zp hc2 H1
       refine wp_skip ?_
       refine Zq ?_
       refine wp_seq ?_
       refine wp_block ?_
       obtain ⟨e3, h4, H1⟩ := Zk H1
       refine r_s (L := [(0, _), (1, _), (7, _), (8, _), (9, _)]) (T := [⟨[.old 4], _, [], [], [11]⟩, ⟨[.old 2, .old 4], _, [], [], [12]⟩, ⟨[.op 1 0], _, [], [1], [13]⟩, ⟨[], [(6, (pBox Zr 6 (default : Zh)))], [7], [], [6]⟩, ⟨[.op 0 0], _, [], Lr 4, [5]⟩, ⟨[.op 2 0, .op 3 0], _, [7], Lr 5, [6]⟩]) (F := [.old 0, .old 1, .op 4 0, .op 5 0, .old 2, .old 3, .old 4]) (hst.pick [0, 1, 2, 3, 4] rfl) hb Za
         (o_p rfl (Zd rfl rfl u_0) <| o_p rfl (Zbh Tryd.underlying23 Zdv rfl rfl u_0 u_1 h4) <| o_p rfl (Zg Zdh rfl rfl u_0) <| o_p rfl (Zbi (zs := [.float .f64 0, .string ByteArray.empty]) (by kernel_rfl) (fun g => Zgi g) rfl rfl) <| o_p rfl (Zc rfl rfl u_0) <| o_p rfl (Zci Zdh rfl rfl u_1 u_0) <| o_n) (by kernel_rfl) (fun a g hst hb => ?_)
       refine wp_block ?_
       refine r_s (T := [⟨[.old 3], _, [], [], [15]⟩, ⟨[.op 0 0], _, [], [0], [16]⟩, ⟨[.op 1 0], _, [], [0, 1], [17]⟩, ⟨[.op 2 0], _, [], [0, 1, 2], [18]⟩, ⟨[.op 3 0], _, [], Lr 4, [14]⟩]) (F := [.old 0, .old 1, .old 2, .old 3, .old 4, .old 5, .old 6, .op 4 0]) hst hb Za
         (o_p rfl (Ze Zc4 rfl rfl u_0) <| o_p rfl (Zg ty_9 rfl rfl u_0) <| o_p rfl (Ze8 Tryd.underlying9 rfl rfl u_0) <| o_p rfl (Zcj rfl rfl u_0 c_i) <| o_p rfl (Zc rfl rfl u_0) <| o_n) (by kernel_rfl) (fun a g hst hb => ?_)
       refine wp_cond_split (hst.bool 7 rfl) (fun hc5 => ?_) (fun hc5 => ?_)
       · replace H1 := Zp hc5 H1
         refine r_s (L := []) (T := [⟨[], _, [], [], [4]⟩]) (F := [.op 0 0]) (hst.pick [] rfl) hb Za
           (o_p rfl (Zc rfl rfl c_i) <| o_n) (by kernel_rfl) (fun a g hst hb => ?_)
         refine wp_ret ?_
         refine Zv ?_
         refine Zv ?_
         refine Zm ?_
         refine Zm ?_
         refine Zv ?_
         refine Zm ?_
         refine Zm ?_
         obtain rfl := Option.some.inj H1
         obtain rfl := Option.some.inj H0
         exact Zx rfl hst hb (Zl (s := 4)) (hst.at 0 rfl)
       · replace H1 := Zo hc5 H1
         obtain ⟨r6, h7, H1⟩ := Zk H1; obtain ⟨r8, h9, H1⟩ := Zk H1
         refine r_s (L := [(0, _), (1, _), (5, _), (6, _), (7, _), (8, _), (9, _)]) (T := ⟨[.old 0], _, [], [], [20]⟩ :: ⟨[.op 0 0], _, [], [0], [21]⟩ :: ⟨[.op 1 0], _, [], [0, 1], [22]⟩ :: ⟨[.op 2 0, .old 3], _, [], [0, 1, 2], [23]⟩ :: ⟨[.op 2 0, .op 3 0], _, [], Lr 4, [24]⟩ :: ⟨[.op 2 0, .op 4 0], _, [], Lr 5, [25]⟩ :: ⟨[.op 2 0, .op 5 0], _, [], Lr 6, [26]⟩ :: ⟨[.op 2 0, .op 6 0], _, [], Lr 7, [27]⟩ :: ⟨[.op 7 0], _, [], Lr 8, [28]⟩ :: ⟨[.op 8 0, .old 3], _, [], Lr 9, [29]⟩ :: ⟨[.op 8 0, .op 9 0], _, [], Lr 10, [30]⟩ :: ⟨[.op 8 0, .op 10 0], _, [], Lr 11, [31]⟩ :: ⟨[.op 8 0, .op 11 0], _, [], Lr 12, [32]⟩ :: ⟨[.op 8 0, .op 12 0], _, [], Lr 13, [33]⟩ :: ⟨[.op 13 0], _, [], Lr 14, [19]⟩ :: []) (F := [.old 0, .old 1, .old 2, .old 3, .old 4, .old 5, .old 6, .op 14 0]) (hst.pick [0, 1, 2, 3, 4, 5, 6] rfl) hb Za
           (o_p rfl (Zd rfl rfl u_0) <| o_p rfl (Z7 rfl rfl u_0 c_i) <| o_p rfl (Zd rfl rfl u_0) <| o_g (g_t rfl rfl rfl (fun hG => Ze Zee rfl rfl u_0)) <| o_g (g_t rfl rfl rfl (fun hG => Zg Zby rfl rfl (Opd.gd hG u_0))) <| o_g (g_t rfl rfl rfl (fun hG => Zt Zoh (Zin _ _ (Zbn h7 hG)) rfl rfl (.cons (Opd.gd hG u_0) (.cons c_f .nil)))) <| o_g (g_t rfl rfl rfl (fun hG => Zb4 rfl rfl (Opd.gd hG u_0))) <| o_p rfl (Zbb rfl rfl u_0 (fun hz => (Opd.gd hz u_1))) <| o_p rfl (Zd rfl rfl u_0) <| o_g (g_f rfl rfl rfl (fun hG => Ze Zee rfl rfl u_0)) <| o_g (g_f rfl rfl rfl (fun hG => Zg Zby rfl rfl (Opd.gd hG u_0))) <| o_g (g_f rfl rfl rfl (fun hG => Zt Zvt (Zk4 _ (Zbn h9 hG)) rfl rfl (.cons (Opd.gd hG u_0) .nil))) <| o_g (g_f rfl rfl rfl (fun hG => Zb4 rfl rfl (Opd.gd hG u_0))) <| o_p rfl (Zbj rfl rfl u_0 (fun hz => (Opd.gd (bNF hz) u_1))) <| o_p rfl (Zc rfl rfl u_0) <| o_n) (by kernel_rfl) (fun a g hst hb => ?_)
         refine wp_cond_split (hst.bool 7 rfl) (fun hc10 => ?_) (fun hc10 => ?_)
         · replace H1 := Zp hc10 H1
           refine r_s (L := []) (T := [⟨[], _, [], [], [4]⟩]) (F := [.op 0 0]) (hst.pick [] rfl) hb Za
             (o_p rfl (Zc rfl rfl c_i) <| o_n) (by kernel_rfl) (fun a g hst hb => ?_)
           refine wp_ret ?_
           refine Zv ?_
           refine Zv ?_
           refine Zm ?_
           refine Zm ?_
           refine Zv ?_
           refine Zm ?_
           refine Zm ?_
           obtain rfl := Option.some.inj H1
           obtain rfl := Option.some.inj H0
           exact Zx rfl hst hb (Zl (s := 4)) (hst.at 0 rfl)
         · replace H1 := Zo hc10 H1
           obtain ⟨e11, h12, H1⟩ := Zk H1
           refine r_s (L := [(0, _), (1, _), (5, _), (6, _), (7, _), (8, _), (9, _)]) (T := ⟨[.old 2], _, [], [], [35]⟩ :: ⟨[.op 0 0], _, [], [0], [36]⟩ :: ⟨[.op 1 0], _, [], [0, 1], [37]⟩ :: ⟨[.op 2 0, .old 0], _, [], [0, 1, 2], [38]⟩ :: ⟨[.op 2 0, .op 3 0], _, [], Lr 4, [39]⟩ :: ⟨[.op 2 0, .op 4 0], _, [], Lr 5, [40]⟩ :: ⟨[.op 5 0], _, [], Lr 6, [41]⟩ :: ⟨[.op 6 0, .old 1], _, [], Lr 7, [42]⟩ :: ⟨[.op 6 0, .old 2], _, [], Lr 7, [43]⟩ :: ⟨[.op 6 0, .op 8 0], _, [], [0, 1, 2, 3, 4, 5, 6, 8], [44]⟩ :: ⟨[.op 6 0, .op 7 0, .op 9 0], _, [], Lr 10, [45]⟩ :: ⟨[.op 6 0, .op 10 0], _, [], Lr 11, [46]⟩ :: ⟨[.op 6 0, .op 11 0], _, [], Lr 12, [47]⟩ :: ⟨[.op 6 0, .old 3], _, [], Lr 7, [48]⟩ :: ⟨[.op 6 0, .op 13 0], _, [], [0, 1, 2, 3, 4, 5, 6, 13], [49]⟩ :: ⟨[.op 6 0, .op 12 0, .op 14 0], _, [], Lr 15, [50]⟩ :: ⟨[.op 6 0, .op 15 0], _, [], Lr 16, [51]⟩ :: ⟨[.op 16 0], _, [], Lr 17, [34]⟩ :: []) (F := [.old 0, .old 1, .old 2, .old 3, .old 4, .old 5, .old 6, .op 17 0]) (hst.pick [0, 1, 2, 3, 4, 5, 6] rfl) hb Za
             (o_p rfl (Zd rfl rfl u_0) <| o_p rfl (Zcj rfl rfl u_0 c_i) <| o_p rfl (Zd rfl rfl u_0) <| o_g (g_t rfl rfl rfl (fun hG => Zd rfl rfl u_0)) <| o_g (g_t rfl rfl rfl (fun hG => Z7 rfl rfl (Opd.gd hG u_0) c_i)) <| o_p rfl (Zbb rfl rfl u_0 (fun hz => (Opd.gd hz u_1))) <| o_p rfl (Zd rfl rfl u_0) <| o_g (g_t rfl rfl rfl (fun hG => Zd rfl rfl u_0)) <| o_g (g_t rfl rfl rfl (fun hG => Zd rfl rfl u_0)) <| o_g (g_t rfl rfl rfl (fun hG => Zd5 rfl rfl (Opd.gd hG u_0) c_i rfl)) <| o_g (g_t rfl rfl rfl (fun hG => Zbh Tryd.underlying23 Zdv rfl rfl (Opd.gd hG u_0) (Opd.gd hG u_1) (Zbn h12 hG))) <| o_g (g_t rfl rfl rfl (fun hG => Ze Zc4 rfl rfl (Opd.gd hG u_0))) <| o_g (g_t rfl rfl rfl (fun hG => Zg ty_9 rfl rfl (Opd.gd hG u_0))) <| o_g (g_t rfl rfl rfl (fun hG => Ze Zc4 rfl rfl u_0)) <| o_g (g_t rfl rfl rfl (fun hG => Zg ty_9 rfl rfl (Opd.gd hG u_0))) <| o_g (g_t rfl rfl rfl (fun hG => Z2j rfl rfl (Opd.gd hG u_0) (Opd.gd hG u_1))) <| o_p rfl (Zbb rfl rfl u_0 (fun hz => (Opd.gd hz u_1))) <| o_p rfl (Zc rfl rfl u_0) <| o_n) (by kernel_rfl) (fun a g hst hb => ?_)
           refine wp_cond_split (hst.bool 7 rfl) (fun hc13 => ?_) (fun hc13 => ?_)
           · replace H1 := Zp hc13 H1
             refine r_s (L := []) (T := [⟨[], _, [], [], [4]⟩]) (F := [.op 0 0]) (hst.pick [] rfl) hb Za
               (o_p rfl (Zc rfl rfl c_i) <| o_n) (by kernel_rfl) (fun a g hst hb => ?_)
             refine wp_ret ?_
             refine Zv ?_
             refine Zv ?_
             refine Zm ?_
             refine Zm ?_
             refine Zv ?_
             refine Zm ?_
             refine Zm ?_
             obtain rfl := Option.some.inj H1
             obtain rfl := Option.some.inj H0
             exact Zx rfl hst hb (Zl (s := 4)) (hst.at 0 rfl)
           · replace H1 := Zo hc13 H1
             obtain ⟨e14, h15, H1⟩ := Zk H1; obtain ⟨r16, h17, H1⟩ := Zk H1
             refine r_s (L := [(0, _), (1, _), (5, _), (6, _), (7, _), (8, _), (9, _)]) (T := ⟨[.old 2], _, [], [], [53]⟩ :: ⟨[.op 0 0], _, [], [0], [54]⟩ :: ⟨[.op 1 0], _, [], [0, 1], [55]⟩ :: ⟨[.op 2 0, .old 0], _, [], [0, 1, 2], [56]⟩ :: ⟨[.op 2 0, .op 3 0], _, [], Lr 4, [57]⟩ :: ⟨[.op 2 0, .op 4 0], _, [], Lr 5, [58]⟩ :: ⟨[.op 5 0], _, [], Lr 6, [59]⟩ :: ⟨[.op 6 0, .old 1], _, [], Lr 7, [60]⟩ :: ⟨[.op 6 0, .old 2], _, [], Lr 7, [61]⟩ :: ⟨[.op 6 0, .op 8 0], _, [], [0, 1, 2, 3, 4, 5, 6, 8], [62]⟩ :: ⟨[.op 6 0, .op 7 0, .op 9 0], _, [], Lr 10, [63]⟩ :: ⟨[.op 6 0, .op 10 0], _, [], Lr 11, [64]⟩ :: ⟨[.op 6 0, .old 3], _, [], Lr 7, [65]⟩ :: ⟨[.op 6 0, .op 11 0, .op 12 0], _, [], Lr 13, [66]⟩ :: ⟨[.op 6 0, .op 13 0], _, [], Lr 14, [67]⟩ :: ⟨[.op 6 0, .op 14 0], _, [], Lr 15, [68]⟩ :: ⟨[.op 15 0], _, [], Lr 16, [52]⟩ :: []) (F := [.old 0, .old 1, .old 4, .old 5, .old 6, .op 16 0]) (hst.pick [0, 1, 2, 3, 4, 5, 6] rfl) hb Za
               (o_p rfl (Zd rfl rfl u_0) <| o_p rfl (Zcj rfl rfl u_0 c_i) <| o_p rfl (Zd rfl rfl u_0) <| o_g (g_t rfl rfl rfl (fun hG => Zd rfl rfl u_0)) <| o_g (g_t rfl rfl rfl (fun hG => Z7 rfl rfl (Opd.gd hG u_0) c_i)) <| o_p rfl (Zbb rfl rfl u_0 (fun hz => (Opd.gd hz u_1))) <| o_p rfl (Zd rfl rfl u_0) <| o_g (g_t rfl rfl rfl (fun hG => Zd rfl rfl u_0)) <| o_g (g_t rfl rfl rfl (fun hG => Zd rfl rfl u_0)) <| o_g (g_t rfl rfl rfl (fun hG => Zd5 rfl rfl (Opd.gd hG u_0) c_i rfl)) <| o_g (g_t rfl rfl rfl (fun hG => Zbh Tryd.underlying23 Zdv rfl rfl (Opd.gd hG u_0) (Opd.gd hG u_1) (Zbn h15 hG))) <| o_g (g_t rfl rfl rfl (fun hG => Zg Zdh rfl rfl (Opd.gd hG u_0))) <| o_g (g_t rfl rfl rfl (fun hG => Zg Zdh rfl rfl u_0)) <| o_g (g_t rfl rfl rfl (fun hG => Zt Zvn (Zk3 _ _ (Zbn h17 hG)) rfl rfl (.cons (Opd.gd hG u_0) (.cons (Opd.gd hG u_1) .nil)))) <| o_g (g_t rfl rfl rfl (fun hG => Zb4 rfl rfl (Opd.gd hG u_0))) <| o_p rfl (Zbb rfl rfl u_0 (fun hz => (Opd.gd hz u_1))) <| o_p rfl (Zc rfl rfl u_0) <| o_n) (by kernel_rfl) (fun a g hst hb => ?_)
             refine wp_cond_split (hst.bool 5 rfl) (fun hc18 => ?_) (fun hc18 => ?_)
             · replace H1 := Zp hc18 H1
               refine r_s (L := []) (T := [⟨[], _, [], [], [4]⟩]) (F := [.op 0 0]) (hst.pick [] rfl) hb Za
                 (o_p rfl (Zc rfl rfl c_i) <| o_n) (by kernel_rfl) (fun a g hst hb => ?_)
               refine wp_ret ?_
               refine Zv ?_
               refine Zv ?_
               refine Zm ?_
               refine Zm ?_
               refine Zv ?_
               refine Zm ?_
               refine Zm ?_
               obtain rfl := Option.some.inj H1
               obtain rfl := Option.some.inj H0
               exact Zx rfl hst hb (Zl (s := 4)) (hst.at 0 rfl)
             · replace H1 := Zo hc18 H1
               refine wp_skip ?_
               refine Z6 ?_
               refine Z6 ?_
               refine Zq ?_
               refine r_g (L := [(0, _), (1, _), (7, _), (8, _), (9, _)]) (T := [⟨[.old 4], _, [], [], [69]⟩, ⟨[.op 0 0], _, [], [0], [9]⟩]) (F := [.old 0, .old 1, .old 2, .old 3, .op 1 0]) (hst.pick [0, 1, 2, 3, 4] rfl) hb Za
                 (o_p rfl (Zcg rfl rfl u_0 c_i rfl) <| o_p rfl (Zd rfl rfl u_0) <| o_n) (by kernel_rfl) (fun a g hst hb => ?_)
               exact ⟨n, Nat.lt_succ_self _, (IntKind.i64.wrap (x1 + (1 : Int))), g, rfl, (hst.pick [0, 1, 2, 3, 4] rfl), hb, H1⟩
     · replace H1 := Zo hc2 H1
       refine wp_exit ?_
       refine Zcf ?_
       refine Zcf ?_
       refine Zc1 ?_
       exact ⟨g, rfl, (hst.pick [] rfl), hb, Option.some.inj H1⟩
theorem Zj6 (a0 : Zb) {r : Int} (h : Zdy a0 = some r) : FnOk Tryd.prog 23 [(Zf.pd a0)] (pInt .i64 r) := by
 have H0 := h
 unfold Zdy at H0
 clear h
 refine Zbq (N := 83) Tryd.func23 rfl rfl (Nat.le_of_ble_eq_true rfl) rfl rfl (fun a g0 hst hb => ?_)
 refine r_s (T := [⟨[.old 0], _, [], [], [1]⟩, ⟨[], _, [], [], [2]⟩]) (F := [.op 0 0]) hst hb Za
   (o_p rfl (Zbs rfl rfl u_0) <| o_p rfl (Zc rfl rfl c_i) <| o_n) (by kernel_rfl) (fun a g hst hb => ?_)
 obtain ⟨r1, h2, H0⟩ := Zk H0
 refine r_s (T := [⟨[.old 0], _, [], [], [4]⟩, ⟨[.op 0 0], _, [], [0], [5]⟩, ⟨[.op 1 0], _, [], [0, 1], [6]⟩, ⟨[], [(3, (pBox Zcs 3 (default : Zbw)))], [4], [], [3]⟩, ⟨[.op 2 0, .op 3 0], _, [4], Lr 4, [3]⟩]) (F := [.old 0, .op 4 0]) hst hb Za
   (o_p rfl (Ze Zcx rfl rfl u_0) <| o_p rfl (Zg ty_3 rfl rfl u_0) <| o_p rfl (Zt Z3e (Zrx _ h2) rfl rfl (.cons u_0 .nil)) <| o_p rfl (Zbi (zs := [.bool false, .bool false, .bool false, .bool false, .bool false]) (by kernel_rfl) (fun g => Znu g) rfl rfl) <| o_p rfl (Zci Zis rfl rfl u_1 u_0) <| o_n) (by kernel_rfl) (fun a g hst hb => ?_)
 refine wp_seq ?_
 refine wp_block ?_
 refine r_s (T := [⟨[.old 0], _, [], [], [8]⟩, ⟨[.op 0 0], _, [], [0], [9]⟩, ⟨[.op 1 0], _, [], [0, 1], [10]⟩, ⟨[.op 2 0], _, [], [0, 1, 2], [11]⟩, ⟨[.op 3 0, .old 0], _, [], Lr 4, [12]⟩, ⟨[.op 3 0, .op 4 0], _, [], Lr 5, [13]⟩, ⟨[.op 3 0, .op 5 0], _, [], Lr 6, [14]⟩, ⟨[.op 3 0, .op 6 0], _, [], Lr 7, [15]⟩, ⟨[.op 7 0], _, [], Lr 8, [7]⟩]) (F := [.old 0, .old 1, .op 8 0]) hst hb Za
   (o_p rfl (Ze Zcx rfl rfl u_0) <| o_p rfl (Zg ty_3 rfl rfl u_0) <| o_p rfl (Zu9 rfl rfl u_0 c_i) <| o_p rfl (Zd rfl rfl u_0) <| o_g (g_f rfl rfl rfl (fun hG => Ze Zcx rfl rfl u_0)) <| o_g (g_f rfl rfl rfl (fun hG => Zg ty_3 rfl rfl (Opd.gd hG u_0))) <| o_g (g_f rfl rfl rfl (fun hG => Zji rfl rfl (Opd.gd hG u_0) c_i)) <| o_p rfl (Zbj rfl rfl u_0 (fun hz => (Opd.gd (bNF hz) u_1))) <| o_p rfl (Zc rfl rfl u_0) <| o_n) (by kernel_rfl) (fun a g hst hb => ?_)
 refine wp_cond_split (hst.bool 2 rfl) (fun hc3 => ?_) (fun hc3 => ?_)
 · replace H0 := Zp hc3 H0
   refine r_s (L := []) (T := [⟨[], _, [], [], [2]⟩]) (F := [.op 0 0]) (hst.pick [] rfl) hb Za
     (o_p rfl (Zc rfl rfl c_i) <| o_n) (by kernel_rfl) (fun a g hst hb => ?_)
   refine wp_ret ?_
   refine Zv ?_
   refine Zm ?_
   obtain rfl := Option.some.inj H0
   exact Zx rfl hst hb (Zl (s := 2)) (hst.at 0 rfl)
 · replace H0 := Zo hc3 H0
   obtain ⟨r4, h5, H0⟩ := Zk H0
   refine r_s (L := [(1, _), (3, _)]) (T := [⟨[.old 0], _, [], [], [17]⟩, ⟨[.old 1], _, [], [], [18]⟩, ⟨[.op 0 0, .op 1 0], _, [], [0, 1], [19]⟩, ⟨[.op 2 0], _, [], [0, 1, 2], [20]⟩, ⟨[.op 3 0], _, [], Lr 4, [16]⟩]) (F := [.old 0, .old 1, .op 4 0]) (hst.pick [0, 1] rfl) hb Za
     (o_p rfl (Zg Z0 rfl rfl u_0) <| o_p rfl (Zg Zis rfl rfl u_0) <| o_p rfl (Zt Z31 (Ztz _ _ h5) rfl rfl (.cons u_0 (.cons u_1 .nil))) <| o_p rfl (Zb4 rfl rfl u_0) <| o_p rfl (Zc rfl rfl u_0) <| o_n) (by kernel_rfl) (fun a g hst hb => ?_)
   refine wp_cond_split (hst.bool 2 rfl) (fun hc6 => ?_) (fun hc6 => ?_)
   · replace H0 := Zp hc6 H0
     refine r_s (L := []) (T := [⟨[], _, [], [], [2]⟩]) (F := [.op 0 0]) (hst.pick [] rfl) hb Za
       (o_p rfl (Zc rfl rfl c_i) <| o_n) (by kernel_rfl) (fun a g hst hb => ?_)
     refine wp_ret ?_
     refine Zv ?_
     refine Zm ?_
     obtain rfl := Option.some.inj H0
     exact Zx rfl hst hb (Zl (s := 2)) (hst.at 0 rfl)
   · replace H0 := Zo hc6 H0
     refine r_s (L := [(1, _), (3, _)]) (T := [⟨[.old 0], _, [], [], [22]⟩, ⟨[.op 0 0], _, [], [0], [23]⟩, ⟨[.op 1 0], _, [], [0, 1], [24]⟩, ⟨[.op 2 0], _, [], [0, 1, 2], [25]⟩, ⟨[.op 3 0], _, [], Lr 4, [21]⟩]) (F := [.old 0, .old 1, .op 4 0]) (hst.pick [0, 1] rfl) hb Za
       (o_p rfl (Ze Zgp rfl rfl u_0) <| o_p rfl (Zg ty_9 rfl rfl u_0) <| o_p rfl (Ze8 Tryd.underlying9 rfl rfl u_0) <| o_p rfl (Zcj rfl rfl u_0 c_i) <| o_p rfl (Zc rfl rfl u_0) <| o_n) (by kernel_rfl) (fun a g hst hb => ?_)
     refine wp_cond_split (hst.bool 2 rfl) (fun hc7 => ?_) (fun hc7 => ?_)
     · replace H0 := Zp hc7 H0
       refine r_s (L := []) (T := [⟨[], _, [], [], [2]⟩]) (F := [.op 0 0]) (hst.pick [] rfl) hb Za
         (o_p rfl (Zc rfl rfl c_i) <| o_n) (by kernel_rfl) (fun a g hst hb => ?_)
       refine wp_ret ?_
       refine Zv ?_
       refine Zm ?_
       obtain rfl := Option.some.inj H0
       exact Zx rfl hst hb (Zl (s := 2)) (hst.at 0 rfl)
     · replace H0 := Zo hc7 H0
       refine r_s (L := [(1, _), (3, _)]) (T := ⟨[.old 1], _, [], [], [27]⟩ :: ⟨[.op 0 0], _, [], [0], [28]⟩ :: ⟨[.op 1 0], _, [], [0, 1], [29]⟩ :: ⟨[.op 2 0, .old 0], _, [], [0, 1, 2], [30]⟩ :: ⟨[.op 2 0, .op 3 0], _, [], Lr 4, [31]⟩ :: ⟨[.op 2 0, .op 4 0], _, [], Lr 5, [32]⟩ :: ⟨[.op 2 0, .op 5 0], _, [], Lr 6, [33]⟩ :: ⟨[.op 6 0, .old 0], _, [], Lr 7, [34]⟩ :: ⟨[.op 6 0, .op 7 0], _, [], Lr 8, [35]⟩ :: ⟨[.op 6 0, .op 8 0], _, [], Lr 9, [36]⟩ :: ⟨[.op 2 0, .op 6 0, .op 9 0], _, [], Lr 10, [37]⟩ :: ⟨[.op 2 0, .op 10 0], _, [], Lr 11, [38]⟩ :: ⟨[.op 11 0, .old 0], _, [], Lr 12, [39]⟩ :: ⟨[.op 11 0, .op 12 0], _, [], Lr 13, [40]⟩ :: ⟨[.op 11 0, .old 0], _, [], Lr 12, [41]⟩ :: ⟨[.op 11 0, .op 14 0], _, [], 0 :: 1 :: 2 :: 3 :: 4 :: 5 :: 6 :: 7 :: 8 :: 9 :: 10 :: 11 :: 14 :: [], [42]⟩ :: ⟨[.op 11 0, .op 13 0, .op 15 0], _, [], Lr 16, [43]⟩ :: ⟨[.op 2 0, .op 11 0, .op 16 0], _, [], Lr 17, [44]⟩ :: ⟨[.op 2 0, .op 17 0], _, [], Lr 18, [45]⟩ :: ⟨[.op 18 0, .old 0], _, [], Lr 19, [46]⟩ :: ⟨[.op 18 0, .op 19 0], _, [], Lr 20, [47]⟩ :: ⟨[.op 18 0, .old 0], _, [], Lr 19, [48]⟩ :: ⟨[.op 18 0, .op 21 0], _, [], 0 :: 1 :: 2 :: 3 :: 4 :: 5 :: 6 :: 7 :: 8 :: 9 :: 10 :: 11 :: 12 :: 13 :: 14 :: 15 :: 16 :: 17 :: 18 :: 21 :: [], [49]⟩ :: ⟨[.op 18 0, .op 20 0, .op 22 0], _, [], Lr 23, [50]⟩ :: ⟨[.op 2 0, .op 18 0, .op 23 0], _, [], Lr 24, [51]⟩ :: ⟨[.op 2 0, .op 24 0], _, [], Lr 25, [52]⟩ :: ⟨[.op 25 0], _, [], Lr 26, [26]⟩ :: []) (F := [.old 0, .old 1, .op 26 0]) (hst.pick [0, 1] rfl) hb Za
         (o_p rfl (Ze Zt8 rfl rfl u_0) <| o_p rfl (Zg ty_4 rfl rfl u_0) <| o_p rfl (Zd rfl rfl u_0) <| o_g (g_t rfl rfl rfl (fun hG => Ze Zgl rfl rfl u_0)) <| o_g (g_t rfl rfl rfl (fun hG => Zg ty_2 rfl rfl (Opd.gd hG u_0))) <| o_g (g_t rfl rfl rfl (fun hG => Zcb rfl rfl (Opd.gd hG u_0) c_i)) <| o_g (g_t rfl rfl rfl (fun hG => Zd rfl rfl (Opd.gd hG u_0))) <| o_g (g_fi rfl rfl rfl (fun hG => Ze Zgn rfl rfl u_0)) <| o_g (g_fi rfl rfl rfl (fun hG => Zg ty_2 rfl rfl (Opd.gd hG u_0))) <| o_g (g_fi rfl rfl rfl (fun hG => Zcj rfl rfl (Opd.gd hG u_0) c_i)) <| o_g (g_t rfl rfl rfl (fun hG => Zbj rfl rfl (Opd.gd hG u_0) (fun hz => (Opd.gd (bA hG (bNF hz)) u_1)))) <| o_g (g_t rfl rfl rfl (fun hG => Zd rfl rfl (Opd.gd hG u_0))) <| o_g (g_fi rfl rfl rfl (fun hG => Ze Zbx rfl rfl u_0)) <| o_g (g_fi rfl rfl rfl (fun hG => Zg ty_2 rfl rfl (Opd.gd hG u_0))) <| o_g (g_fi rfl rfl rfl (fun hG => Ze Zgl rfl rfl u_0)) <| o_g (g_fi rfl rfl rfl (fun hG => Zg ty_2 rfl rfl (Opd.gd hG u_0))) <| o_g (g_fi rfl rfl rfl (fun hG => Zcb rfl rfl (Opd.gd hG u_0) (Opd.gd hG u_1))) <| o_g (g_t rfl rfl rfl (fun hG => Zbj rfl rfl (Opd.gd hG u_0) (fun hz => (Opd.gd (bA hG (bNF hz)) u_1)))) <| o_g (g_t rfl rfl rfl (fun hG => Zd rfl rfl (Opd.gd hG u_0))) <| o_g (g_fi rfl rfl rfl (fun hG => Ze Zbx rfl rfl u_0)) <| o_g (g_fi rfl rfl rfl (fun hG => Zg ty_2 rfl rfl (Opd.gd hG u_0))) <| o_g (g_fi rfl rfl rfl (fun hG => Ze Zgn rfl rfl u_0)) <| o_g (g_fi rfl rfl rfl (fun hG => Zg ty_2 rfl rfl (Opd.gd hG u_0))) <| o_g (g_fi rfl rfl rfl (fun hG => Zcj rfl rfl (Opd.gd hG u_0) (Opd.gd hG u_1))) <| o_g (g_t rfl rfl rfl (fun hG => Zbj rfl rfl (Opd.gd hG u_0) (fun hz => (Opd.gd (bA hG (bNF hz)) u_1)))) <| o_p rfl (Zbb rfl rfl u_0 (fun hz => (Opd.gd hz u_1))) <| o_p rfl (Zc rfl rfl u_0) <| o_n) (by kernel_rfl) (fun a g hst hb => ?_)
       refine wp_cond_split (hst.bool 2 rfl) (fun hc8 => ?_) (fun hc8 => ?_)
       · replace H0 := Zp hc8 H0
         refine r_s (L := []) (T := [⟨[], _, [], [], [2]⟩]) (F := [.op 0 0]) (hst.pick [] rfl) hb Za
           (o_p rfl (Zc rfl rfl c_i) <| o_n) (by kernel_rfl) (fun a g hst hb => ?_)
         refine wp_ret ?_
         refine Zv ?_
         refine Zm ?_
         obtain rfl := Option.some.inj H0
         exact Zx rfl hst hb (Zl (s := 2)) (hst.at 0 rfl)
       · replace H0 := Zo hc8 H0
         obtain ⟨r9, h10, H0⟩ := Zk H0
         refine r_s (L := [(1, _), (3, _)]) (T := [⟨[.old 0], _, [], [], [54]⟩, ⟨[.op 0 0], _, [], [0], [55]⟩, ⟨[.op 1 0], _, [], [0, 1], [56]⟩, ⟨[.op 2 0], _, [], [0, 1, 2], [57]⟩, ⟨[.op 3 0], _, [], Lr 4, [53]⟩]) (F := [.old 0, .old 1, .op 4 0]) (hst.pick [0, 1] rfl) hb Za
           (o_p rfl (Ze Zcv rfl rfl u_0) <| o_p rfl (Zg Zby rfl rfl u_0) <| o_p rfl (Zt Zvt (Zk4 _ h10) rfl rfl (.cons u_0 .nil)) <| o_p rfl (Zb4 rfl rfl u_0) <| o_p rfl (Zc rfl rfl u_0) <| o_n) (by kernel_rfl) (fun a g hst hb => ?_)
         refine wp_cond_split (hst.bool 2 rfl) (fun hc11 => ?_) (fun hc11 => ?_)
         · replace H0 := Zp hc11 H0
           refine r_s (L := []) (T := [⟨[], _, [], [], [2]⟩]) (F := [.op 0 0]) (hst.pick [] rfl) hb Za
             (o_p rfl (Zc rfl rfl c_i) <| o_n) (by kernel_rfl) (fun a g hst hb => ?_)
           refine wp_ret ?_
           refine Zv ?_
           refine Zm ?_
           obtain rfl := Option.some.inj H0
           exact Zx rfl hst hb (Zl (s := 2)) (hst.at 0 rfl)
         · replace H0 := Zo hc11 H0
           refine r_s (L := [(1, _), (3, _)]) (T := [⟨[.old 1], _, [], [], [59]⟩, ⟨[.op 0 0], _, [], [0], [60]⟩, ⟨[.op 1 0], _, [], [0, 1], [61]⟩, ⟨[.op 2 0], _, [], [0, 1, 2], [58]⟩]) (F := [.old 0, .op 3 0]) (hst.pick [0, 1] rfl) hb Za
             (o_p rfl (Ze Zuw rfl rfl u_0) <| o_p rfl (Zg ty_4 rfl rfl u_0) <| o_p rfl (Zb4 rfl rfl u_0) <| o_p rfl (Zc rfl rfl u_0) <| o_n) (by kernel_rfl) (fun a g hst hb => ?_)
           refine wp_cond_split (hst.bool 1 rfl) (fun hc12 => ?_) (fun hc12 => ?_)
           · replace H0 := Zp hc12 H0
             refine r_s (L := []) (T := [⟨[], _, [], [], [2]⟩]) (F := [.op 0 0]) (hst.pick [] rfl) hb Za
               (o_p rfl (Zc rfl rfl c_i) <| o_n) (by kernel_rfl) (fun a g hst hb => ?_)
             refine wp_ret ?_
             refine Zv ?_
             refine Zm ?_
             obtain rfl := Option.some.inj H0
             exact Zx rfl hst hb (Zl (s := 2)) (hst.at 0 rfl)
           · replace H0 := Zo hc12 H0
             refine r_s (L := [(1, _)]) (T := [⟨[.old 0], _, [], [], [63]⟩, ⟨[.op 0 0], _, [], [0], [64]⟩, ⟨[.op 1 0], _, [], [0, 1], [65]⟩, ⟨[.op 2 0], _, [], [0, 1, 2], [66]⟩, ⟨[.op 3 0, .old 0], _, [], Lr 4, [67]⟩, ⟨[.op 3 0, .op 4 0], _, [], Lr 5, [68]⟩, ⟨[.op 3 0, .op 5 0], _, [], Lr 6, [69]⟩, ⟨[.op 3 0, .op 6 0], _, [], Lr 7, [70]⟩, ⟨[.op 7 0], _, [], Lr 8, [62]⟩]) (F := [.old 0, .op 8 0]) (hst.pick [0] rfl) hb Za
               (o_p rfl (Ze Zeo rfl rfl u_0) <| o_p rfl (Zg ty_3 rfl rfl u_0) <| o_p rfl (Zcb rfl rfl u_0 c_i) <| o_p rfl (Zd rfl rfl u_0) <| o_g (g_f rfl rfl rfl (fun hG => Ze Zeo rfl rfl u_0)) <| o_g (g_f rfl rfl rfl (fun hG => Zg ty_3 rfl rfl (Opd.gd hG u_0))) <| o_g (g_f rfl rfl rfl (fun hG => Zcj rfl rfl (Opd.gd hG u_0) c_i)) <| o_p rfl (Zbj rfl rfl u_0 (fun hz => (Opd.gd (bNF hz) u_1))) <| o_p rfl (Zc rfl rfl u_0) <| o_n) (by kernel_rfl) (fun a g hst hb => ?_)
             refine wp_cond_split (hst.bool 1 rfl) (fun hc13 => ?_) (fun hc13 => ?_)
             · replace H0 := Zp hc13 H0
               refine r_s (L := []) (T := [⟨[], _, [], [], [2]⟩]) (F := [.op 0 0]) (hst.pick [] rfl) hb Za
                 (o_p rfl (Zc rfl rfl c_i) <| o_n) (by kernel_rfl) (fun a g hst hb => ?_)
               refine wp_ret ?_
               refine Zv ?_
               refine Zm ?_
               obtain rfl := Option.some.inj H0
               exact Zx rfl hst hb (Zl (s := 2)) (hst.at 0 rfl)
             · replace H0 := Zo hc13 H0
               refine r_s (L := [(1, _)]) (T := [⟨[.old 0], _, [], [], [72]⟩, ⟨[.op 0 0], _, [], [0], [73]⟩, ⟨[.op 1 0], _, [], [0, 1], [74]⟩, ⟨[.old 0], _, [], [], [75]⟩, ⟨[.op 3 0], _, [], [3], [76]⟩, ⟨[.op 2 0, .op 4 0], _, [], Lr 5, [77]⟩, ⟨[.op 5 0], _, [], Lr 6, [71]⟩]) (F := [.old 0, .op 6 0]) (hst.pick [0] rfl) hb Za
                 (o_p rfl (Ze Zbm rfl rfl u_0) <| o_p rfl (Zg Zca rfl rfl u_0) <| o_p rfl (Zcd Tryd.underlying23 rfl rfl u_0) <| o_p rfl (Ze Zeo rfl rfl u_0) <| o_p rfl (Zg ty_3 rfl rfl u_0) <| o_p rfl (Zcj rfl rfl u_0 u_1) <| o_p rfl (Zc rfl rfl u_0) <| o_n) (by kernel_rfl) (fun a g hst hb => ?_)
               refine wp_cond_split (hst.bool 1 rfl) (fun hc14 => ?_) (fun hc14 => ?_)
               · replace H0 := Zp hc14 H0
                 refine r_s (L := []) (T := [⟨[], _, [], [], [2]⟩]) (F := [.op 0 0]) (hst.pick [] rfl) hb Za
                   (o_p rfl (Zc rfl rfl c_i) <| o_n) (by kernel_rfl) (fun a g hst hb => ?_)
                 refine wp_ret ?_
                 refine Zv ?_
                 refine Zm ?_
                 obtain rfl := Option.some.inj H0
                 exact Zx rfl hst hb (Zl (s := 2)) (hst.at 0 rfl)
               · replace H0 := Zo hc14 H0
                 refine wp_skip ?_
                 refine Z6 ?_
                 refine Zq ?_
                 obtain ⟨r15, h16, H0⟩ := Zk H0
                 refine r_s (L := [(1, _)]) (T := [⟨[.old 0], _, [], [], [78]⟩, ⟨[.op 0 0], _, [], [0], [79]⟩, ⟨[.old 0], _, [], [], [80]⟩, ⟨[.op 2 0], _, [], [2], [81]⟩, ⟨[.op 1 0, .op 3 0], _, [], Lr 4, [82]⟩, ⟨[.op 4 0], _, [], Lr 5, [2]⟩]) (F := [.op 5 0]) (hst.pick [0] rfl) hb Za
                   (o_p rfl (Ze Zcx rfl rfl u_0) <| o_p rfl (Zg ty_3 rfl rfl u_0) <| o_p rfl (Ze Zbm rfl rfl u_0) <| o_p rfl (Zg Zca rfl rfl u_0) <| o_p rfl (Zt Z24 (Zs8 _ _ h16) rfl rfl (.cons u_0 (.cons u_1 .nil))) <| o_p rfl (Zc rfl rfl u_0) <| o_n) (by kernel_rfl) (fun a g hst hb => ?_)
                 refine wp_ret ?_
                 obtain rfl := Option.some.inj H0
                 exact Zx rfl hst hb (Zl (s := 2)) (hst.at 0 rfl)
theorem Ztv (a0 : Int) {r : Nat} (h : Zpg a0 = some r) : FnOk Tryd.prog 32 [(pInt .i64 a0)] (pFlt r) := by
 have H0 := h
 unfold Zpg at H0
 clear h
 refine Zbq (N := 8) Tryd.func32 rfl rfl (Nat.le_of_ble_eq_true rfl) rfl rfl (fun a g0 hst hb => ?_)
 refine r_s (T := [⟨[], _, [], [], [2]⟩]) (F := [.old 0]) hst hb Za
   (o_p rfl (Zc rfl rfl c_f) <| o_n) (by kernel_rfl) (fun a g hst hb => ?_)
 refine r_s (T := [⟨[], _, [], [], [3]⟩]) (F := [.old 0]) hst hb Za
   (o_p rfl (Zc rfl rfl c_i) <| o_n) (by kernel_rfl) (fun a g hst hb => ?_)
 refine wp_seq ?_
 refine r_s (T := [⟨[.old 0], _, [], [], [4]⟩, ⟨[.op 0 0], _, [], [0], [5]⟩]) (F := [.op 1 0]) hst hb Za
   (o_p rfl (Zd rfl rfl u_0) <| o_p rfl (Zji rfl rfl u_0 c_i) <| o_n) (by kernel_rfl) (fun a g hst hb => ?_)
 refine Zbv (fun a w => ∃ (j2 : Int) (g : G), w = g.w ∧ St 8 [(3, (pInt .u64 j2))] a g ∧ Base g0 g ∧ Zkn j2 = some r) ?_ ?_
 · rintro a w ⟨j2, g, rfl, hst, hb, H0⟩
   unfold Zkn at H0
   refine Zq ?_
   refine r_s (T := [⟨[.old 0], _, [], [], [6]⟩, ⟨[.op 0 0], _, [], [0], [7]⟩, ⟨[.op 1 0], _, [], [0, 1], [2]⟩]) (F := [.op 2 0]) hst hb Za
     (o_p rfl (Zd rfl rfl u_0) <| o_p rfl (Zkl Zsb rfl rfl u_0) <| o_p rfl (Zc rfl rfl u_0) <| o_n) (by kernel_rfl) (fun a g hst hb => ?_)
   refine wp_ret ?_
   obtain rfl := Option.some.inj H0
   exact Zx rfl hst hb (Zl (s := 2)) (hst.at 0 rfl)
 · refine wp_cond_split (hst.bool 0 rfl) (fun hc1 => ?_) (fun hc1 => ?_)
   · replace H0 := Zp hc1 H0
     refine r_g (L := []) (T := [⟨[], _, [], [], [3]⟩]) (F := [.op 0 0]) (hst.pick [] rfl) hb Za
       (o_p rfl (Zc rfl rfl c_i) <| o_n) (by kernel_rfl) (fun a g hst hb => ?_)
     exact ⟨(9218868437227405312 : Int), g, rfl, (hst.pick [0] rfl), hb, H0⟩
   · replace H0 := Zo hc1 H0
     refine r_g (L := []) (T := [⟨[], _, [], [], [3]⟩]) (F := [.op 0 0]) (hst.pick [] rfl) hb Za
       (o_p rfl (Zc rfl rfl c_i) <| o_n) (by kernel_rfl) (fun a g hst hb => ?_)
     exact ⟨(18442240474082181120 : Int), g, rfl, (hst.pick [0] rfl), hb, H0⟩
end Go.CL
