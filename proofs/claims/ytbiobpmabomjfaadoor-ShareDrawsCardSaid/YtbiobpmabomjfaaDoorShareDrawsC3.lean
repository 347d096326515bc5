/- A part of the proof of ShareDraws. -/
import Derived.Test.YtbiobpmabomjfaaDoorShareDrawsC2
import Derived.Test.YtbiobpmabomjfaaDoorProg
set_option linter.unusedVariables false
set_option linter.unusedSimpArgs false
set_option maxRecDepth 100000
namespace Go.CL
open Go Go.RowKit
structure Zbv where
 text : Bool
 num : Bool
 bounds : Bool
 real : Bool
 list : Bool
 deriving Inhabited
structure Zm where
 Score : Nat
 Name : ByteArray
 deriving Inhabited
structure Ze where
 Kind : Int
 Num : Int
 Low : Int
 High : Int
 Real : Nat
 Cap : Int
 Text : ByteArray
 List : List Zm
 deriving Inhabited
structure Zcv where
 word : ByteArray
 on : Int
 has : ByteArray
 deriving Inhabited
structure Zr where
 Kind : Int
 Key : ByteArray
 N : Int
 X : Nat
 S : ByteArray
 Make : Ze
 Must : Bool
 deriving Inhabited
structure Zw where
 Code : Int
 Num : Int
 Rec : Ze
 deriving Inhabited
structure Zx where
 up : Int
 down : Int
 deriving Inhabited
structure Zs where
 r : Ze
 by_ : List Zx
 deriving Inhabited
structure Zbp where
 Worker : Int
 Act : Zr
 deriving Inhabited
structure Zi where
 R : Ze
 Up : List Int
 Down : List Int
 deriving Inhabited
def g_1 : List Zcv := [{ word := ⟨#[]⟩, on := (0), has := ⟨#[]⟩ },
 { word := ⟨#[110, 101, 119]⟩, on := (0), has := ⟨#[109]⟩ },
 { word := ⟨#[100, 114, 111, 112]⟩, on := (0), has := ⟨#[]⟩ },
 { word := ⟨#[105, 115]⟩, on := (0), has := ⟨#[]⟩ },
 { word := ⟨#[108, 111, 111, 107]⟩, on := (0), has := ⟨#[]⟩ },
 { word := ⟨#[112, 117, 116]⟩, on := (1), has := ⟨#[115]⟩ },
 { word := ⟨#[115, 119, 97, 112]⟩, on := (1), has := ⟨#[115]⟩ },
 { word := ⟨#[97, 100, 100]⟩, on := (2), has := ⟨#[110]⟩ },
 { word := ⟨#[112, 108, 117, 115]⟩, on := (3), has := ⟨#[110]⟩ },
 { word := ⟨#[114, 101, 97, 99, 104]⟩, on := (3), has := ⟨#[110]⟩ },
 { word := ⟨#[105, 110]⟩, on := (4), has := ⟨#[110]⟩ },
 { word := ⟨#[111, 117, 116]⟩, on := (4), has := ⟨#[110]⟩ },
 { word := ⟨#[101, 110, 111, 117, 103, 104]⟩, on := (4), has := ⟨#[110]⟩ },
 { word := ⟨#[114, 97, 105, 115, 101]⟩, on := (5), has := ⟨#[120]⟩ },
 { word := ⟨#[108, 111, 119, 101, 114]⟩, on := (6), has := ⟨#[120]⟩ },
 { word := ⟨#[115, 104, 105, 102, 116]⟩, on := (7), has := ⟨#[120]⟩ },
 { word := ⟨#[115, 99, 97, 108, 101]⟩, on := (7), has := ⟨#[120]⟩ },
 { word := ⟨#[102, 105, 120]⟩, on := (7), has := ⟨#[120]⟩ },
 { word := ⟨#[106, 111, 105, 110]⟩, on := (8), has := ⟨#[115]⟩ },
 { word := ⟨#[108, 101, 97, 118, 101]⟩, on := (8), has := ⟨#[115]⟩ },
 { word := ⟨#[104, 97, 115]⟩, on := (8), has := ⟨#[115]⟩ },
 { word := ⟨#[111, 102, 102, 101, 114]⟩, on := (9), has := ⟨#[120, 115]⟩ }]
def Zhq (j11 : Bool) : Option (Zbv) := (if j11 then (some ({ text := false, num := false, bounds := false, real := false, list := true } : Zbv)) else (some ({ text := false, num := false, bounds := false, real := false, list := false } : Zbv)))
def Zgh (a0 : Int) (j8 : Bool) : Option (Zbv) := (if j8 then (some ({ text := false, num := false, bounds := false, real := true, list := false } : Zbv)) else (if (a0 == (8 : Int)) then (Zhq (a0 == (8 : Int))) else (Zhq (a0 == (9 : Int)))))
def Zhv (a0 : Int) (j3 : Bool) : Option (Zbv) := (if j3 then (some ({ text := false, num := true, bounds := false, real := false, list := false } : Zbv)) else (if (a0 == (4 : Int)) then (some ({ text := false, num := true, bounds := true, real := false, list := false } : Zbv)) else (if (a0 == (5 : Int)) then (Zgh a0 (a0 == (5 : Int))) else (if (a0 == (6 : Int)) then (Zgh a0 (a0 == (6 : Int))) else (Zgh a0 (a0 == (7 : Int)))))))
def Zdp (a0 : Int) : Option (Zbv) := (if (a0 == (1 : Int)) then (some ({ text := true, num := false, bounds := false, real := false, list := false } : Zbv)) else (if (a0 == (2 : Int)) then (Zhv a0 (a0 == (2 : Int))) else (Zhv a0 (a0 == (3 : Int)))))
def Ziw : Option (Nat) := (some (Int.toNat (9221120237041090561 : Int)))
def Zee (a0 : Nat) : Option (Nat) := (if (fneq a0 a0) then ((Ziw).bind fun r2 => (some r2)) else (some a0))
def Zi1 (a0 : Nat) : Option (Int) := ((Zee a0).bind fun r1 => (if ((bAnd .u64 (r1 : Int) (9223372036854775808 : Int)) != (0 : Int)) then (some (bXor .u64 IntKind.u64.max (r1 : Int))) else (some (bOr .u64 (r1 : Int) (9223372036854775808 : Int)))))
def Zg1 (a0 : Nat) (a1 : Nat) : Option (Bool) := ((Zi1 a0).bind fun r1 => ((Zi1 a1).bind fun r3 => (some (r1 == r3))))
def Zkz (a0 : Ze) (a1 : Zbv) : Option (Bool) := ((gd ((((a1.text || (sEq a0.Text (⟨#[]⟩ : ByteArray))) && (a1.num || (a0.Num == (0 : Int)))) && (a1.bounds || ((a0.Low == (0 : Int)) && (a0.High == (0 : Int))))) && (!a1.real)) (Zg1 a0.Real (0 : Nat))).bind fun r1 => (some (((((a1.text || (sEq a0.Text (⟨#[]⟩ : ByteArray))) && (a1.num || (a0.Num == (0 : Int)))) && (a1.bounds || ((a0.Low == (0 : Int)) && (a0.High == (0 : Int))))) && (a1.real || r1)) && (a1.list || ((a0.Cap == (0 : Int)) && ((a0.List.length : Int) == (0 : Int)))))))
def Zhm (a0 : Nat) : Option (Bool) := ((Zee a0).bind fun r1 => (some ((a0 : Int) == (r1 : Int))))
def Ziv (a0 : Nat) (a1 : Nat) : Option (Bool) := ((Zi1 a0).bind fun r1 => ((Zi1 a1).bind fun r3 => (some (decide (r1 < r3)))))
def Zhk (a0 : Zm) (a1 : Zm) : Option (Bool) := ((Zg1 a0.Score a1.Score).bind fun r1 => (if (!r1) then ((Ziv a1.Score a0.Score).bind fun r4 => (some r4)) else (some (sLt a0.Name a1.Name))))
def Zeh (a0 : Int) (a1 : List Zm) : Nat → (Int) → Option ((Int) ⊕ (Unit))
 | 0, _ => none
 | n + 1, x1 => (if (decide (x1 < (a1.length : Int))) then ((idx a1 x1).bind fun e3 => (if (decide ((16 : Int) < (e3.Name.size : Int))) then (some (.inl (3 : Int))) else ((gd (a0 == (8 : Int)) (Zg1 e3.Score (0 : Nat))).bind fun r6 => ((gd (!((a0 == (8 : Int)) && (!r6))) (Zhm e3.Score)).bind fun r8 => (if (((a0 == (8 : Int)) && (!r6)) || (!r8)) then (some (.inl (4 : Int))) else ((gd ((decide ((0 : Int) < x1)) && (a0 == (8 : Int))) (idx a1 (IntKind.i64.wrap (x1 - (1 : Int))))).bind fun e11 => (if (((decide ((0 : Int) < x1)) && (a0 == (8 : Int))) && (!sLt e11.Name e3.Name)) then (some (.inl (4 : Int))) else ((gd ((decide ((0 : Int) < x1)) && (a0 == (9 : Int))) (idx a1 (IntKind.i64.wrap (x1 - (1 : Int))))).bind fun e14 => ((gd ((decide ((0 : Int) < x1)) && (a0 == (9 : Int))) (Zhk e14 e3)).bind fun r16 => (if (((decide ((0 : Int) < x1)) && (a0 == (9 : Int))) && (!r16)) then (some (.inl (4 : Int))) else ((Zeh a0 a1 n) (IntKind.i64.wrap (x1 + (1 : Int)))))))))))))) else (some (.inr ())))
def Zjv (a0 : Int) (a1 : List Zm) : Option (Int) := ((Zeh a0 a1 (Int.toNat ((a1.length : Int) - (0 : Int)) + 1) (0 : Int)).bind fun z19 => match z19 with | .inl r => some r | .inr () => (some (0 : Int)))
def Zdu (a0 : Ze) : Option (Int) := ((Zdp a0.Kind).bind fun r1 => (if ((decide (a0.Kind ≤ (0 : Int))) || (decide ((10 : Int) ≤ a0.Kind))) then (some (5 : Int)) else ((Zkz a0 r1).bind fun r4 => (if (!r4) then (some (4 : Int)) else (if (decide ((64 : Int) < (a0.Text.size : Int))) then (some (3 : Int)) else (if (r1.bounds && ((((decide (a0.Low < (-2305843009213693952 : Int))) || (decide ((2305843009213693952 : Int) < a0.High))) || (decide (a0.Num < a0.Low))) || (decide (a0.High < a0.Num)))) then (some (1 : Int)) else ((Zhm a0.Real).bind fun r9 => (if (!r9) then (some (4 : Int)) else (if (!r1.list) then (some (0 : Int)) else (if ((decide (a0.Cap < (1 : Int))) || (decide ((32 : Int) < a0.Cap))) then (some (1 : Int)) else (if (decide (a0.Cap < (a0.List.length : Int))) then (some (8 : Int)) else ((Zjv a0.Kind a0.List).bind fun r15 => (some r15)))))))))))))
def Zjr (j2 : Int) : Option (Nat) := (some (Int.toNat j2))
def Zkw (a0 : Int) : Option (Nat) := (if (decide ((0 : Int) ≤ a0)) then (Zjr (9218868437227405312 : Int)) else (Zjr (18442240474082181120 : Int)))
def Zf7 (a0 : Ze) (j6 : Bool) : Option (Ze × Bool) := (if j6 then (some (({ Kind := (2 : Int), Num := (0 : Int), Low := (0 : Int), High := (0 : Int), Real := (0 : Nat), Cap := (0 : Int), Text := ByteArray.empty, List := ([] : List Zm) } : Ze), true)) else (if (a0.Kind == (5 : Int)) then ((Zkw (-1 : Int)).bind fun r9 => (some (({ Kind := (5 : Int), Num := (0 : Int), Low := (0 : Int), High := (0 : Int), Real := r9, Cap := (0 : Int), Text := ByteArray.empty, List := ([] : List Zm) } : Ze), true))) else (if (a0.Kind == (6 : Int)) then ((Ziw).bind fun r12 => (some (({ Kind := (6 : Int), Num := (0 : Int), Low := (0 : Int), High := (0 : Int), Real := r12, Cap := (0 : Int), Text := ByteArray.empty, List := ([] : List Zm) } : Ze), true))) else (if (a0.Kind == (8 : Int)) then (some (({ Kind := (8 : Int), Num := (0 : Int), Low := (0 : Int), High := (0 : Int), Real := (0 : Nat), Cap := (32 : Int), Text := ByteArray.empty, List := ([] : List Zm) } : Ze), true)) else (if (a0.Kind == (9 : Int)) then (some (({ Kind := (9 : Int), Num := (0 : Int), Low := (0 : Int), High := (0 : Int), Real := (0 : Nat), Cap := a0.Cap, Text := ByteArray.empty, List := ([] : List Zm) } : Ze), true)) else (some (({ Kind := (0 : Int), Num := (0 : Int), Low := (0 : Int), High := (0 : Int), Real := (0 : Nat), Cap := (0 : Int), Text := ByteArray.empty, List := ([] : List Zm) } : Ze), false)))))))
def Zhy (a0 : Ze) : Option (Ze × Bool) := ((Zdu a0).bind fun r1 => (if (r1 != (0 : Int)) then (some (({ Kind := (0 : Int), Num := (0 : Int), Low := (0 : Int), High := (0 : Int), Real := (0 : Nat), Cap := (0 : Int), Text := ByteArray.empty, List := ([] : List Zm) } : Ze), false)) else (if (a0.Kind == (2 : Int)) then (Zf7 a0 (a0.Kind == (2 : Int))) else (if (a0.Kind == (3 : Int)) then (Zf7 a0 (a0.Kind == (3 : Int))) else (Zf7 a0 (a0.Kind == (4 : Int)))))))
def Zkt (a0 : Int) : Option (Zcv) := (if ((decide (a0 ≤ (0 : Int))) || (decide ((22 : Int) ≤ a0))) then (some ({ word := ByteArray.empty, on := (0 : Int), has := ByteArray.empty } : Zcv)) else ((idx g_1 a0).bind fun e2 => (some e2)))
def Znx (a0 : Int) : Option (Int) := ((Zkt a0).bind fun r1 => (some r1.on))
def Zda (a0 : Int) (a1 : Int) (j8 : Bool) : Option (Bool) := (if j8 then ((Znx a1).bind fun r10 => (some (r10 == a0))) else (some false))
def Zf9 (a0 : Int) (a1 : Int) : Option (Bool) := (if (a1 == (7 : Int)) then (Zda a0 a1 (a1 == (7 : Int))) else (if (a1 == (8 : Int)) then (Zda a0 a1 (a1 == (8 : Int))) else (if (a1 == (10 : Int)) then (Zda a0 a1 (a1 == (10 : Int))) else (if (a1 == (11 : Int)) then (Zda a0 a1 (a1 == (11 : Int))) else (if (a1 == (13 : Int)) then (Zda a0 a1 (a1 == (13 : Int))) else (if (a1 == (14 : Int)) then (Zda a0 a1 (a1 == (14 : Int))) else (if (a1 == (18 : Int)) then (Zda a0 a1 (a1 == (18 : Int))) else (Zda a0 a1 (a1 == (21 : Int))))))))))
def Zb1 (a0 : List Zm) : Option (List Zm) := if a0.length * 24 ≤ 140737488355328 then some a0 else none
def Zfj (a0 : Ze) : Option (Ze) := ((Zb1 a0.List).bind fun r1 => (some ({ a0 with List := r1 })))
def Zkn (a0 : Nat) (a1 : Nat) : Option (Nat) := ((Ziv a0 a1).bind fun r1 => (if r1 then ((Zee a1).bind fun r4 => (some r4)) else ((Zee a0).bind fun r6 => (some r6))))
def Zkm (a0 : Nat) (a1 : Nat) : Option (Nat) := ((Ziv a1 a0).bind fun r1 => (if r1 then ((Zee a1).bind fun r4 => (some r4)) else ((Zee a0).bind fun r6 => (some r6))))
def Zfx (a0 : Zcv) (a1 : Int) : Nat → (Int) → Option ((Bool) ⊕ (Unit))
 | 0, _ => none
 | n + 1, x1 => (if (decide (x1 < (a0.has.size : Int))) then ((sidx a0.has x1).bind fun b3 => (if (b3 == a1) then (some (.inl true)) else ((Zfx a0 a1 n) (IntKind.i64.wrap (x1 + (1 : Int)))))) else (some (.inr ())))
def Zcx (a0 : Zcv) (a1 : Int) : Option (Bool) := ((Zfx a0 a1 (Int.toNat ((a0.has.size : Int) - (0 : Int)) + 1) (0 : Int)).bind fun z6 => match z6 with | .inl r => some r | .inr () => (some false))
def Zbb (a0 : List Zm) (a1 : List Zm) (φ2 : Zm → Zm → Option Bool) : Nat → (Int) → Option ((Bool) ⊕ (Unit))
 | 0, _ => none
 | n + 1, x2 => (if (decide (x2 < (a0.length : Int))) then ((idx a0 x2).bind fun e4 => ((idx a1 x2).bind fun e6 => ((φ2 e4 e6).bind fun r8 => (if (!r8) then (some (.inl false)) else ((Zbb a0 a1 φ2 n) (IntKind.i64.wrap (x2 + (1 : Int)))))))) else (some (.inr ())))
def Zbz (a0 : List Zm) (a1 : List Zm) (φ2 : Zm → Zm → Option Bool) : Option (Bool) := (if ((a0.length : Int) != (a1.length : Int)) then (some false) else ((Zbb a0 a1 φ2 (Int.toNat ((a0.length : Int) - (0 : Int)) + 1) (0 : Int)).bind fun z11 => match z11 with | .inl r => some r | .inr () => (some true)))
def Zgx (a0 : Zm) (a1 : Zm) : Option (Bool) := ((gd (sEq a0.Name a1.Name) (Zg1 a0.Score a1.Score)).bind fun r1 => (some ((sEq a0.Name a1.Name) && r1)))
def Zkv (a0 : Ze) (a1 : Ze) : Option (Bool) := ((gd ((((a0.Kind == a1.Kind) && (a0.Num == a1.Num)) && (a0.Low == a1.Low)) && (a0.High == a1.High)) (Zg1 a0.Real a1.Real)).bind fun r1 => ((gd (((((((a0.Kind == a1.Kind) && (a0.Num == a1.Num)) && (a0.Low == a1.Low)) && (a0.High == a1.High)) && r1) && (a0.Cap == a1.Cap)) && (sEq a0.Text a1.Text)) (Zbz a0.List a1.List (fun y0 y1 => Zgx y0 y1))).bind fun r3 => (some ((((((((a0.Kind == a1.Kind) && (a0.Num == a1.Num)) && (a0.Low == a1.Low)) && (a0.High == a1.High)) && r1) && (a0.Cap == a1.Cap)) && (sEq a0.Text a1.Text)) && r3))))
def Zms (a0 : Zr) (a1 : Zcv) : Option (Bool) := ((Zcx a1 (110 : Int)).bind fun r1 => ((gd (r1 || (a0.N == (0 : Int))) (Zcx a1 (120 : Int))).bind fun r3 => ((gd ((r1 || (a0.N == (0 : Int))) && (!r3)) (Zg1 a0.X (0 : Nat))).bind fun r5 => ((gd ((r1 || (a0.N == (0 : Int))) && (r3 || r5)) (Zcx a1 (115 : Int))).bind fun r7 => ((gd (((r1 || (a0.N == (0 : Int))) && (r3 || r5)) && (r7 || (sEq a0.S (⟨#[]⟩ : ByteArray)))) (Zcx a1 (109 : Int))).bind fun r9 => ((gd ((((r1 || (a0.N == (0 : Int))) && (r3 || r5)) && (r7 || (sEq a0.S (⟨#[]⟩ : ByteArray)))) && (!r9)) (Zkv a0.Make ({ Kind := (0 : Int), Num := (0 : Int), Low := (0 : Int), High := (0 : Int), Real := (0 : Nat), Cap := (0 : Int), Text := ByteArray.empty, List := ([] : List Zm) } : Ze))).bind fun r11 => (some ((((r1 || (a0.N == (0 : Int))) && (r3 || r5)) && (r7 || (sEq a0.S (⟨#[]⟩ : ByteArray)))) && (r9 || r11)))))))))
def Zmp (a0 : Zcv) : Option (Int) := (if (a0.on == (1 : Int)) then (some (64 : Int)) else (some (16 : Int)))
def Zgn (a0 : Zr) : Option (Int) := ((Zkt a0.Kind).bind fun r1 => (if (sEq r1.word (⟨#[]⟩ : ByteArray)) then (some (5 : Int)) else (if ((sEq a0.Key (⟨#[]⟩ : ByteArray)) || (decide ((24 : Int) < (a0.Key.size : Int)))) then (some (1 : Int)) else ((Zms a0 r1).bind fun r5 => (if (!r5) then (some (4 : Int)) else ((Zmp r1).bind fun r8 => (if (decide (r8 < (a0.S.size : Int))) then (some (3 : Int)) else (if (((a0.Kind == (10 : Int)) || (a0.Kind == (11 : Int))) && ((decide (a0.N < (0 : Int))) || (decide ((2305843009213693952 : Int) < a0.N)))) then (some (1 : Int)) else ((Zhm a0.X).bind fun r12 => (if (!r12) then (some (4 : Int)) else (if (a0.Kind == (1 : Int)) then ((Zdu a0.Make).bind fun r16 => (some r16)) else (some (0 : Int)))))))))))))
def Zje (a0 : Ze) (a1 : Zr) (a2 : Zw) : Option (Int × Ze × Zw) := (some ((0 : Int), ({ a0 with Text := a1.S }), a2))
def Zjl (a0 : Ze) (a1 : Zr) (a2 : Zw) : Option (Int × Ze × Zw) := ((Zfj a0).bind fun r1 => (some ((0 : Int), ({ a0 with Text := a1.S }), ({ a2 with Rec := r1 }))))
def Zjn (a0 : Ze) (a1 : Zr) (a2 : Zw) : Option (Int × Ze × Zw) := (some ((0 : Int), ({ a0 with Num := (IntKind.i64.wrap (a0.Num + a1.N)) }), a2))
def Zna (a0 : Ze) (a1 : Zr) (a2 : Zw) : Option (Int × Ze × Zw) := (if (((decide ((0 : Int) < a1.N)) && (decide ((IntKind.i64.wrap ((9223372036854775807 : Int) - a1.N)) < a0.Num))) || ((decide (a1.N < (0 : Int))) && (decide (a0.Num < (IntKind.i64.wrap ((-9223372036854775808 : Int) - a1.N)))))) then (some ((9 : Int), a0, a2)) else (some ((0 : Int), ({ a0 with Num := (IntKind.i64.wrap (a0.Num + a1.N)) }), a2)))
def Zja (a0 : Ze) (a1 : Zr) (a2 : Zw) : Option (Int × Ze × Zw) := (if (decide (a0.Num < a1.N)) then (some ((11 : Int), a0, a2)) else (some ((0 : Int), a0, a2)))
def Zjg (a0 : Ze) (a1 : Zr) (a2 : Zw) : Option (Int × Ze × Zw) := (if (decide ((IntKind.i64.wrap (a0.High - a0.Num)) < a1.N)) then (some ((9 : Int), a0, a2)) else (some ((0 : Int), ({ a0 with Num := (IntKind.i64.wrap (a0.Num + a1.N)) }), a2)))
def Zjk (a0 : Ze) (a1 : Zr) (a2 : Zw) : Option (Int × Ze × Zw) := (if (decide ((IntKind.i64.wrap (a0.Num - a0.Low)) < a1.N)) then (some ((10 : Int), a0, a2)) else (some ((0 : Int), ({ a0 with Num := (IntKind.i64.wrap (a0.Num - a1.N)) }), a2)))
def Zet (ψ : Nat → Nat → Option Nat) (a0 : Ze) (a1 : Zr) (a2 : Zw) : Option (Int × Ze × Zw) := (ψ a0.Real a1.X).bind fun z => some ((0 : Int), { a0 with Real := z }, a2)
def Zky (a0 : Nat) (a1 : Nat) : Option (Nat) := ((Zee (fadd a0 a1)).bind fun r1 => (some r1))
def Zj2 (a0 : Nat) (a1 : Nat) : Option (Nat) := ((Zee (fmul a0 a1)).bind fun r1 => (some r1))
def Zhf (a0 : Nat) (a1 : Nat) : Option (Nat) := (some a1)
def Zcg (kk : (Int) → (Int) → Option (Int)) (j9 : Int) (j10 : Int) : Option (Int) := (kk j9 j10)
def Zbl (a0 : List Zm) (a1 : ByteArray) (φ2 : Zm → ByteArray → Option Int) : Nat → (Int) → (Int) → Option (Int)
 | 0, _, _ => none
 | n + 1, x1, x2 => (if (decide (x1 < x2)) then ((idx a0 (IntKind.i64.wrap (Int.fdiv (IntKind.u64.wrap (IntKind.i64.wrap (x1 + x2))) (2 ^ 1)))).bind fun e4 => ((φ2 e4 a1).bind fun r6 => (if (decide (r6 < (0 : Int))) then (Zcg (Zbl a0 a1 φ2 n) (IntKind.i64.wrap ((IntKind.i64.wrap (Int.fdiv (IntKind.u64.wrap (IntKind.i64.wrap (x1 + x2))) (2 ^ 1))) + (1 : Int))) x2) else (Zcg (Zbl a0 a1 φ2 n) x1 (IntKind.i64.wrap (Int.fdiv (IntKind.u64.wrap (IntKind.i64.wrap (x1 + x2))) (2 ^ 1))))))) else (some x1))
def Zdb (a0 : List Zm) (a1 : ByteArray) (φ2 : Zm → ByteArray → Option Int) : Option (Int × Bool) := ((Zbl a0 a1 φ2 (Int.toNat ((a0.length : Int) - (0 : Int)) + 1) (0 : Int) (a0.length : Int)).bind fun z12 => match z12 with | y11 => ((gd (decide (y11 < (a0.length : Int))) (idx a0 y11)).bind fun e13 => ((gd (decide (y11 < (a0.length : Int))) (φ2 e13 a1)).bind fun r15 => (some (y11, ((decide (y11 < (a0.length : Int))) && (r15 == (0 : Int))))))))
def Zjs (a0 : Zm) (a1 : ByteArray) : Option (Int) := (if (sLt a0.Name a1) then (some (-1 : Int)) else (if (!(sLt a0.Name a1 || sEq a0.Name a1)) then (some (1 : Int)) else (some (0 : Int))))
def Zj3 (a0 : List Zm) (a1 : ByteArray) : Option (Int × Bool) := ((Zdb a0 a1 (fun y0 y1 => Zjs y0 y1)).bind fun r1 => (some (r1.1, r1.2)))
def Zdy (a0 : List Zm) (a1 : Int) (a2 : List Zm) : Option (List Zm) := if 0 ≤ a1 ∧ a1 ≤ a0.length ∧ 0 < a2.length ∧ (a0.length + a2.length) * 24 ≤ 140737488355328 then some (a0.take a1.toNat ++ a2 ++ a0.drop a1.toNat) else none
def Znb (a0 : Ze) (a1 : Zr) (a2 : Zw) : Option (Int × Ze × Zw) := ((Zj3 a0.List a1.S).bind fun r1 => (if r1.2 then (some ((0 : Int), a0, a2)) else (if (decide (a0.Cap ≤ (a0.List.length : Int))) then (some ((8 : Int), a0, a2)) else ((Zb1 a0.List).bind fun r5 => ((Zdy r5 r1.1 ([({ Score := (0 : Nat), Name := a1.S } : Zm)] : List Zm)).bind fun r7 => (some ((0 : Int), ({ a0 with List := r7 }), a2)))))))
def Zer (a0 : List Zm) (a1 a2 : Int) : Option (List Zm) := if 0 < a0.length ∧ 0 ≤ a1 ∧ a1 ≤ a2 ∧ a2 ≤ a0.length ∧ a0.length ≤ 140737488355328 then some (a0.take a1.toNat ++ a0.drop a2.toNat) else none
def Zg5 (a2 : Zw) (j8 : Ze) : Option (Int × Ze × Zw) := (some ((0 : Int), j8, a2))
def Zjh (a0 : Ze) (a1 : Zr) (a2 : Zw) : Option (Int × Ze × Zw) := ((Zj3 a0.List a1.S).bind fun r1 => (if r1.2 then ((Zb1 a0.List).bind fun r4 => ((Zer r4 r1.1 (IntKind.i64.wrap (r1.1 + (1 : Int)))).bind fun r6 => (Zg5 a2 ({ a0 with List := r6 })))) else (Zg5 a2 a0)))
def Zjj (a0 : Ze) (a1 : Zr) (a2 : Zw) : Option (Int × Ze × Zw) := ((Zj3 a0.List a1.S).bind fun r1 => (if (!r1.2) then (some ((11 : Int), a0, a2)) else (some ((0 : Int), a0, a2))))
def Zhs (a0 : Ze) (a1 : Zr) : Nat → (Int) → Option (Int)
 | 0, _ => none
 | n + 1, x1 => ((gd (decide (x1 < (a0.List.length : Int))) (idx a0.List x1)).bind fun e2 => ((gd (decide (x1 < (a0.List.length : Int))) (Zhk e2 ({ Score := a1.X, Name := a1.S } : Zm))).bind fun r4 => (if ((decide (x1 < (a0.List.length : Int))) && r4) then ((Zhs a0 a1 n) (IntKind.i64.wrap (x1 + (1 : Int)))) else (some x1))))
def Zmr (a0 : Ze) (a1 : Zr) (a2 : Zw) : Option (Int × Ze × Zw) := ((Zhs a0 a1 (Int.toNat ((a0.List.length : Int) - (0 : Int)) + 1) (0 : Int)).bind fun z8 => match z8 with | y7 => ((gd (decide (y7 < (a0.List.length : Int))) (idx a0.List y7)).bind fun e9 => ((gd (decide (y7 < (a0.List.length : Int))) (Zhk ({ Score := a1.X, Name := a1.S } : Zm) e9)).bind fun r11 => (if ((decide (y7 < (a0.List.length : Int))) && (!r11)) then (some ((0 : Int), a0, a2)) else ((Zb1 a0.List).bind fun r14 => ((Zdy r14 y7 ([({ Score := a1.X, Name := a1.S } : Zm)] : List Zm)).bind fun r16 => ((cut r16 (0 : Int) (min (r16.length : Int) a0.Cap)).bind fun c18 => (some ((0 : Int), ({ a0 with List := c18 }), a2)))))))))
def Zcr (k : Int) (a0 : Ze) (a1 : Zr) (a2 : Zw) : Option (Int × Ze × Zw) := if k = 5 then Zje a0 a1 a2 else if k = 6 then Zjl a0 a1 a2 else if k = 7 then Zjn a0 a1 a2 else if k = 8 then Zna a0 a1 a2 else if k = 9 then Zja a0 a1 a2 else if k = 10 then Zjg a0 a1 a2 else if k = 11 then Zjk a0 a1 a2 else if k = 12 then Zja a0 a1 a2 else if k = 13 then Zet (fun x y => Zkn x y) a0 a1 a2 else if k = 14 then Zet (fun x y => Zkm x y) a0 a1 a2 else if k = 15 then Zet (fun x y => Zky x y) a0 a1 a2 else if k = 16 then Zet (fun x y => Zj2 x y) a0 a1 a2 else if k = 17 then Zet (fun x y => Zhf x y) a0 a1 a2 else if k = 18 then Znb a0 a1 a2 else if k = 19 then Zjh a0 a1 a2 else if k = 20 then Zjj a0 a1 a2 else if k = 21 then Zmr a0 a1 a2 else none
def Zf8 (a0 : Int) (a1 : Ze) (a2 : Bool) : Option (Ze × Bool × Zw × Ze) := (some (a1, a2, ({ Code := a0, Num := (0 : Int), Rec := (default : Ze) } : Zw), a1))
def Ziq (a1 : Bool) (a2 : Zr) (r3 : Ze) : Option (Ze × Bool × Zw) := (if ((a2.Kind == (1 : Int)) && a1) then ((Zf8 (7 : Int) r3 a1).bind fun r17 => (some (r17.1, r17.2.1, r17.2.2.1))) else (if (a2.Kind == (1 : Int)) then ((Zfj a2.Make).bind fun r20 => (some (r20, true, ({ Code := (0 : Int), Num := (0 : Int), Rec := (default : Ze) } : Zw)))) else (if (a2.Kind == (3 : Int)) then (some (r3, a1, ({ Code := (0 : Int), Num := r3.Kind, Rec := (default : Ze) } : Zw))) else (if (!a1) then ((Zf8 (6 : Int) r3 a1).bind fun r24 => (some (r24.1, r24.2.1, r24.2.2.1))) else (if (a2.Kind == (2 : Int)) then (some (({ Kind := (0 : Int), Num := (0 : Int), Low := (0 : Int), High := (0 : Int), Real := (0 : Nat), Cap := (0 : Int), Text := ByteArray.empty, List := ([] : List Zm) } : Ze), false, ({ Code := (0 : Int), Num := (0 : Int), Rec := (default : Ze) } : Zw))) else (if (a2.Kind == (4 : Int)) then ((Zfj r3).bind fun r28 => (some (r3, a1, ({ Code := (0 : Int), Num := (0 : Int), Rec := r28 } : Zw)))) else ((Znx a2.Kind).bind fun r30 => (if (r30 != r3.Kind) then ((Zf8 (5 : Int) r3 a1).bind fun r33 => (some (r33.1, r33.2.1, r33.2.2.1))) else ((Zfj r3).bind fun r35 => (if (5 ≤ a2.Kind ∧ a2.Kind ≤ 21) then ((Zcr a2.Kind r3 a2 (default : Zw)).bind fun r38 => (if (r38.1 != (0 : Int)) then (some (r35, a1, ({ Code := r38.1, Num := (0 : Int), Rec := (default : Ze) } : Zw))) else (some (r38.2.1, a1, r38.2.2)))) else none))))))))))
def Zis (a1 : Bool) (a2 : Zr) (j2 : Ze) : Option (Ze × Bool × Zw) := ((Zfj j2).bind fun r3 => ((Zgn a2).bind fun r5 => (if (r5 != (0 : Int)) then ((Zf8 r5 r3 a1).bind fun r8 => (some (r8.1, r8.2.1, r8.2.2.1))) else (if a1 then ((Zdu r3).bind fun r11 => (if (r11 != (0 : Int)) then ((Zf8 r11 r3 a1).bind fun r14 => (some (r14.1, r14.2.1, r14.2.2.1))) else (Ziq a1 a2 r3))) else (Ziq a1 a2 r3)))))
def Zkb (a0 : Ze) (a1 : Bool) (a2 : Zr) : Option (Ze × Bool × Zw) := (if (!a1) then (Zis a1 a2 ({ Kind := (0 : Int), Num := (0 : Int), Low := (0 : Int), High := (0 : Int), Real := (0 : Nat), Cap := (0 : Int), Text := ByteArray.empty, List := ([] : List Zm) } : Ze)) else (Zis a1 a2 a0))
def Zfd (x4 : Int) (kk : (Ze) → (Int) → Option (Ze)) (j32 : Ze) : Option (Ze) := (kk j32 (IntKind.i64.wrap (x4 + (1 : Int))))
def Zij (x21 : Ze) (x22 : Int) (kk : (Ze) → (Int) → Option (Ze)) (j27 : Zr) : Option (Ze) := ((Zkb x21 true j27).bind fun r28 => (kk r28.1 (IntKind.i64.wrap (x22 + (1 : Int)))))
def Zfa (e6 : Ze) : Nat → (Ze) → (Int) → Option (Ze)
 | 0, _, _ => none
 | n + 1, x21, x22 => (if (decide (x22 < (e6.List.length : Int))) then ((idx e6.List x22).bind fun e24 => (if (x21.Kind == (9 : Int)) then (Zij x21 x22 (Zfa e6 n) ({ ({ ({ Kind := (18 : Int), Key := (⟨#[107]⟩ : ByteArray), N := (0 : Int), X := (0 : Nat), S := e24.Name, Make := (default : Ze), Must := false } : Zr) with Kind := (21 : Int) }) with X := e24.Score })) else (Zij x21 x22 (Zfa e6 n) ({ Kind := (18 : Int), Key := (⟨#[107]⟩ : ByteArray), N := (0 : Int), X := (0 : Nat), S := e24.Name, Make := (default : Ze), Must := false } : Zr)))) else (some x21))
def Zii (x3 : Ze) (x4 : Int) (e6 : Ze) (kk : (Ze) → (Int) → Option (Ze)) (j19 : Bool) : Option (Ze) := (if j19 then ((Zfa e6 (Int.toNat ((e6.List.length : Int) - (0 : Int)) + 1) x3 (0 : Int)).bind fun z31 => match z31 with | y30 => (Zfd x4 kk y30)) else (Zfd x4 kk x3))
def Zhe (x3 : Ze) (x4 : Int) (e6 : Ze) (kk : (Ze) → (Int) → Option (Ze)) (j10 : Bool) : Option (Ze) := (if j10 then (Zfd x4 kk ({ x3 with Num := (IntKind.i64.wrap (x3.Num + e6.Num)) })) else (if (x3.Kind == (5 : Int)) then ((Zkn x3.Real e6.Real).bind fun r13 => (Zfd x4 kk ({ x3 with Real := r13 }))) else (if (x3.Kind == (6 : Int)) then ((Zkm x3.Real e6.Real).bind fun r16 => (Zfd x4 kk ({ x3 with Real := r16 }))) else (if (x3.Kind == (8 : Int)) then (Zii x3 x4 e6 kk (x3.Kind == (8 : Int))) else (Zii x3 x4 e6 kk (x3.Kind == (9 : Int)))))))
def Zd0 (a1 : List Ze) : Nat → (Ze) → (Int) → Option (Ze)
 | 0, _, _ => none
 | n + 1, x3, x4 => (if (decide (x4 < (a1.length : Int))) then ((idx a1 x4).bind fun e6 => (if (x3.Kind == (2 : Int)) then (Zhe x3 x4 e6 (Zd0 a1 n) (x3.Kind == (2 : Int))) else (if (x3.Kind == (3 : Int)) then (Zhe x3 x4 e6 (Zd0 a1 n) (x3.Kind == (3 : Int))) else (Zhe x3 x4 e6 (Zd0 a1 n) (x3.Kind == (4 : Int)))))) else (some x3))
def Zlq (a0 : Ze) (a1 : List Ze) : Option (Ze) := ((Zfj a0).bind fun r1 => ((Zd0 a1 (Int.toNat ((a1.length : Int) - (0 : Int)) + 1) r1 (0 : Int)).bind fun z34 => match z34 with | y33 => (some y33)))
def Zio (a0 : Ze) (j5 : Zr) : Option (Ze) := ((Zkb a0 true j5).bind fun r6 => (some r6.1))
def Zjt (a0 : Ze) (a1 : Zr) (j2 : Bool) : Option (Ze) := (if j2 then (Zio a0 ({ a1 with Kind := (7 : Int) })) else (if (a1.Kind == (11 : Int)) then (Zio a0 ({ ({ a1 with Kind := (7 : Int) }) with N := (IntKind.i64.wrap (0 - a1.N)) })) else (Zio a0 a1)))
def Zo8 (a0 : Ze) (a1 : Zr) : Option (Ze) := (if (a1.Kind == (8 : Int)) then (Zjt a0 a1 (a1.Kind == (8 : Int))) else (Zjt a0 a1 (a1.Kind == (10 : Int))))
def Zi3 (a0 : Ze) : Option (Zx × Bool) := (if (a0.Kind == (3 : Int)) then (some (({ up := (IntKind.u64.wrap ((9223372036854775807 : Int) - (IntKind.u64.wrap a0.Num))), down := (IntKind.u64.wrap ((IntKind.u64.wrap a0.Num) - (9223372036854775808 : Int))) } : Zx), true)) else (if (a0.Kind == (4 : Int)) then (some (({ up := (IntKind.u64.wrap (IntKind.i64.wrap (a0.High - a0.Num))), down := (IntKind.u64.wrap (IntKind.i64.wrap (a0.Num - a0.Low))) } : Zx), true)) else (if (a0.Kind == (8 : Int)) then (some (({ up := (IntKind.u64.wrap (IntKind.i64.wrap (a0.Cap - (a0.List.length : Int)))), down := (0 : Int) } : Zx), true)) else (some (({ up := (0 : Int), down := (0 : Int) } : Zx), false)))))
def Zhr (j4 : Int) : Option (Int) := (some j4)
def Zih (a0 : Int) (a1 : Int) (a2 : Int) : Option (Int) := (if (IntKind.u64.wrap a2) ≠ (0 : Int) then (if (IntKind.u64.wrap a2) ≠ (0 : Int) then (if (decide ((IntKind.u64.wrap a1) < (Int.tmod a0 (IntKind.u64.wrap a2)))) then (Zhr (IntKind.u64.wrap ((IntKind.u64.wrap (Int.tdiv a0 (IntKind.u64.wrap a2))) + (1 : Int)))) else (Zhr (IntKind.u64.wrap (Int.tdiv a0 (IntKind.u64.wrap a2))))) else none) else none)
def Zfq (a1 : Int) (r10 : Zx × Bool) : Nat → (Zs) → (Int) → Option (Zs)
 | 0, _, _ => none
 | n + 1, x12, x13 => (if (decide (x13 < a1)) then ((Zih r10.1.up x13 a1).bind fun r15 => ((Zih r10.1.down x13 a1).bind fun r17 => (if (x12.by_.length + ([({ up := r15, down := r17 } : Zx)] : List Zx).length) * 16 ≤ 140737488355328 then ((Zfq a1 r10 n) ({ x12 with by_ := (x12.by_ ++ ([({ up := r15, down := r17 } : Zx)] : List Zx)) } : Zs) (IntKind.i64.wrap (x13 + (1 : Int)))) else none))) else (some x12))
def Zie (a0 : Ze) (a1 : Int) : Option ((Option Zs) × Int) := (if ((decide (a1 < (1 : Int))) || (decide ((8 : Int) < a1))) then (some ((none : Option Zs), (1 : Int))) else ((Zdu a0).bind fun r2 => (if (r2 != (0 : Int)) then (some ((none : Option Zs), r2)) else ((Zhy a0).bind fun r5 => (if (!r5.2) then (some ((none : Option Zs), (5 : Int))) else ((Zfj a0).bind fun r8 => ((Zi3 a0).bind fun r10 => ((Zfq a1 r10 (Int.toNat (a1 - (0 : Int)) + 1) ({ r := r8, by_ := ([] : List Zx) } : Zs) (0 : Int)).bind fun z21 => match z21 with | y20 => (some ((some y20), (0 : Int)))))))))))
def Zch (a0 : Zs) (a1 : Int) : Option (Int × Int) := (if ((decide (a1 < (0 : Int))) || (decide ((a0.by_.length : Int) ≤ a1))) then (some ((0 : Int), (0 : Int))) else ((idx a0.by_ a1).bind fun e2 => ((idx a0.by_ a1).bind fun e4 => (some (e2.up, e4.down)))))
def Zc6 (a0 : Zs) (a1 : Zr) : Nat → (Zx) → (Int) → Option ((Zx) ⊕ (Zx))
 | 0, _, _ => none
 | n + 1, x6, x7 => (if (decide (x7 < (a0.r.List.length : Int))) then ((idx a0.r.List x7).bind fun e9 => (if (sEq e9.Name a1.S) then (some (.inl ({ up := (0 : Int), down := (0 : Int) } : Zx))) else ((Zc6 a0 a1 n) x6 (IntKind.i64.wrap (x7 + (1 : Int)))))) else (some (.inr x6)))
def Ze2 (a0 : Zs) (a1 : Zr) : Option (Zx) := (if (a1.Kind == (8 : Int)) then (if (decide (a1.N < (0 : Int))) then (some ({ up := (0 : Int), down := (IntKind.u64.wrap (0 - (IntKind.u64.wrap a1.N))) } : Zx)) else (some ({ up := (IntKind.u64.wrap a1.N), down := (0 : Int) } : Zx))) else (if (a1.Kind == (10 : Int)) then (some ({ up := (IntKind.u64.wrap a1.N), down := (0 : Int) } : Zx)) else (if (a1.Kind == (11 : Int)) then (some ({ up := (0 : Int), down := (IntKind.u64.wrap a1.N) } : Zx)) else (if (a1.Kind == (18 : Int)) then ((Zc6 a0 a1 (Int.toNat ((a0.r.List.length : Int) - (0 : Int)) + 1) (default : Zx) (0 : Int)).bind fun z13 => match z13 with | .inl r => some r | .inr y12 => (some ({ up := (1 : Int), down := (0 : Int) } : Zx))) else (some ({ up := (0 : Int), down := (0 : Int) } : Zx))))))
def Zc4 (a2 : List Zr) : Nat → (Zs) → (Zx) → (Int) → Option ((Int × Zs) ⊕ (Zs × Zx))
 | 0, _, _, _ => none
 | n + 1, x4, x5, x6 => (if (decide (x6 < (a2.length : Int))) then ((idx a2 x6).bind fun e8 => ((Zgn e8).bind fun r10 => (if (r10 != (0 : Int)) then (some (.inl (r10, x4))) else ((Zf9 x4.r.Kind e8.Kind).bind fun r13 => (if (!r13) then (some (.inl ((5 : Int), x4))) else ((Ze2 x4 e8).bind fun r16 => (if ((decide (x5.up < r16.up)) && (e8.Kind == (18 : Int))) then (some (.inl ((8 : Int), x4))) else (if (decide (x5.up < r16.up)) then (some (.inl ((9 : Int), x4))) else (if (decide (x5.down < r16.down)) then (some (.inl ((10 : Int), x4))) else ((Zc4 a2 n) x4 ({ ({ x5 with up := (IntKind.u64.wrap (x5.up - r16.up)) }) with down := (IntKind.u64.wrap (({ x5 with up := (IntKind.u64.wrap (x5.up - r16.up)) }).down - r16.down)) }) (IntKind.i64.wrap (x6 + (1 : Int))))))))))))) else (some (.inr (x4, x5))))
def Zgg (a0 : Zs) (a1 : Int) (a2 : List Zr) : Option (Int × Zs) := (if ((decide (a1 < (0 : Int))) || (decide ((a0.by_.length : Int) ≤ a1))) then (some ((1 : Int), a0)) else ((idx a0.by_ a1).bind fun e2 => ((Zc4 a2 (Int.toNat ((a2.length : Int) - (0 : Int)) + 1) a0 e2 (0 : Int)).bind fun z23 => match z23 with | .inl r => some r | .inr (y21, y22) => ((idx y21.by_ a1).bind fun e24 => (some ((0 : Int), ({ y21 with by_ := y21.by_.set (Int.toNat a1) y22 } : Zs)))))))
def Ze1 (a0 : Zs) (a1 : Int) (a2 : List Zr) : Option (Zs × Int) := (Zgg a0 a1 a2).bind fun r => some (r.2, r.1)
def Zgr : Option (Bool) := ((Zie ({ Kind := (4 : Int), Num := (5 : Int), Low := (0 : Int), High := (10 : Int), Real := (0 : Nat), Cap := (0 : Int), Text := ByteArray.empty, List := ([] : List Zm) } : Ze) (2 : Int)).bind fun r1 => (if ((r1.2 != (0 : Int)) || r1.1.isNone) then (some false) else ((r1.1).bind fun n4 => ((Zch n4 (0 : Int)).bind fun r6 => ((Zch n4 (1 : Int)).bind fun r8 => (if ((((r6.1 != (3 : Int)) || (r6.2 != (3 : Int))) || (r8.1 != (2 : Int))) || (r8.2 != (2 : Int))) then (some false) else ((Zhy ({ Kind := (4 : Int), Num := (5 : Int), Low := (0 : Int), High := (10 : Int), Real := (0 : Nat), Cap := (0 : Int), Text := ByteArray.empty, List := ([] : List Zm) } : Ze)).bind fun r11 => ((Ze1 n4 (1 : Int) ([({ Kind := (10 : Int), Key := (⟨#[97]⟩ : ByteArray), N := (3 : Int), X := (0 : Nat), S := ByteArray.empty, Make := (default : Ze), Must := false } : Zr)] : List Zr)).bind fun r13 => ((gd (r13.2 == (9 : Int)) (Ze1 r13.1 (0 : Int) ([({ Kind := (10 : Int), Key := (⟨#[97]⟩ : ByteArray), N := (3 : Int), X := (0 : Nat), S := ByteArray.empty, Make := (default : Ze), Must := false } : Zr)] : List Zr))).bind fun r15 => ((gd (((r13.2 == (9 : Int)) && (r15.2 == (0 : Int))) && r11.2) (Zo8 r11.1 ({ Kind := (10 : Int), Key := (⟨#[97]⟩ : ByteArray), N := (3 : Int), X := (0 : Nat), S := ByteArray.empty, Make := (default : Ze), Must := false } : Zr))).bind fun r17 => ((gd (((r13.2 == (9 : Int)) && (r15.2 == (0 : Int))) && r11.2) (Zlq ({ Kind := (4 : Int), Num := (5 : Int), Low := (0 : Int), High := (10 : Int), Real := (0 : Nat), Cap := (0 : Int), Text := ByteArray.empty, List := ([] : List Zm) } : Ze) ([r17] : List Ze))).bind fun r19 => ((gd ((((r13.2 == (9 : Int)) && (r15.2 == (0 : Int))) && r11.2) && (r19.Num == (8 : Int))) (Zf9 (4 : Int) (10 : Int))).bind fun r21 => (some (((((r13.2 == (9 : Int)) && (r15.2 == (0 : Int))) && r11.2) && (r19.Num == (8 : Int))) && r21))))))))))))))
def Zds (a0 : Ze) : Nat → (Int) → Option ((Int) ⊕ (Unit))
 | 0, _ => none
 | n + 1, x2 => (if (decide (x2 < (a0.List.length : Int))) then ((idx a0.List x2).bind fun e4 => (if (decide ((100 : Int) < (e4.Name.size : Int))) then (some (.inl (1 : Int))) else ((Zds a0 n) (IntKind.i64.wrap (x2 + (1 : Int)))))) else (some (.inr ())))
def Zfv (a0 : Ze) : Option (Int) := (if ((decide ((100 : Int) < (a0.List.length : Int))) || (decide ((1000 : Int) < (a0.Text.size : Int)))) then (some (1 : Int)) else ((Zds a0 (Int.toNat ((a0.List.length : Int) - (0 : Int)) + 1) (0 : Int)).bind fun z7 => match z7 with | .inl r => some r | .inr () => (some (0 : Int))))
def Zgl (a0 : Zr) : Option (Int) := ((gd (!((decide ((200 : Int) < (a0.Key.size : Int))) || (decide ((1000 : Int) < (a0.S.size : Int))))) (Zfv a0.Make)).bind fun r1 => (if (((decide ((200 : Int) < (a0.Key.size : Int))) || (decide ((1000 : Int) < (a0.S.size : Int)))) || (decide ((0 : Int) < r1))) then (some (1 : Int)) else (some (0 : Int))))
def Zde (a1 : List Zbp) : Nat → (Int) → Option ((Bool) ⊕ (Unit))
 | 0, _ => none
 | n + 1, x4 => (if (decide (x4 < (a1.length : Int))) then ((idx a1 x4).bind fun e6 => ((Zgl e6.Act).bind fun r8 => (if (decide ((0 : Int) < r8)) then (some (.inl true)) else ((Zde a1 n) (IntKind.i64.wrap (x4 + (1 : Int))))))) else (some (.inr ())))
def Zfs (a0 : Ze) (a1 : List Zbp) : Option (Bool) := ((Zfv a0).bind fun r1 => (if ((decide ((0 : Int) < r1)) || (decide ((40 : Int) < (a1.length : Int)))) then (some true) else ((Zde a1 (Int.toNat ((a1.length : Int) - (0 : Int)) + 1) (0 : Int)).bind fun z11 => match z11 with | .inl r => some r | .inr () => (some false))))
def Zej (a0 : Nat) : Option (Bool) := (some (fneq a0 a0))
def Zez (a0 : Nat) : Option (Bool) := (if (feql a0 (0 : Nat)) then ((Ieee.double.div (4607182418800017408 : Nat) a0).bind fun f2 => (some (flss f2 (0 : Nat)))) else (some (flss a0 (0 : Nat))))
def Zei (a0 : Nat) (a1 : Nat) : Option (Bool) := ((Zej a0).bind fun r1 => (if r1 then (some false) else ((Zej a1).bind fun r4 => (if r4 then (some true) else (if ((feql a0 (0 : Nat)) && (feql a1 (0 : Nat))) then ((Zez a0).bind fun r8 => ((gd r8 (Zez a1)).bind fun r10 => (some (r8 && (!r10))))) else (some (flss a0 a1)))))))
def Zdx (a0 : Nat) (a1 : Nat) : Option (Bool) := ((Zei a0 a1).bind fun r1 => ((gd (!r1) (Zei a1 a0)).bind fun r3 => (some ((!r1) && (!r3)))))
def Zfe (a0 : Nat) : Option (Bool) := ((Zdx a0 (0 : Nat)).bind fun r1 => (some r1))
def Zcn (a1 : ByteArray) : Nat → (Bool) → (Bool) → (Bool) → (Bool) → (Bool) → (Int) → Option (Bool × Bool × Bool × Bool × Bool)
 | 0, _, _, _, _, _, _ => none
 | n + 1, x1, x2, x3, x4, x5, x6 => (if (decide (x6 < (a1.size : Int))) then ((gd (!x1) (sidx a1 x6)).bind fun b8 => ((gd (!x2) (sidx a1 x6)).bind fun b10 => ((gd (!x3) (sidx a1 x6)).bind fun b12 => ((gd (!x4) (sidx a1 x6)).bind fun b14 => ((gd (!x5) (sidx a1 x6)).bind fun b16 => ((Zcn a1 n) (x1 || (b8 == (116 : Int))) (x2 || (b10 == (110 : Int))) (x3 || (b12 == (98 : Int))) (x4 || (b14 == (114 : Int))) (x5 || (b16 == (108 : Int))) (IntKind.i64.wrap (x6 + (1 : Int))))))))) else (some (x1, x2, x3, x4, x5)))
def Zge (a0 : Ze) (a1 : ByteArray) : Option (Bool) := ((Zcn a1 (Int.toNat ((a1.size : Int) - (0 : Int)) + 1) false false false false false (0 : Int)).bind fun z23 => match z23 with | (y18, y19, y20, y21, y22) => (if (((((!y18) && (!sEq a0.Text (⟨#[]⟩ : ByteArray))) || ((!y19) && (a0.Num != (0 : Int)))) || ((!y20) && (a0.Low != (0 : Int)))) || ((!y20) && (a0.High != (0 : Int)))) then (some false) else ((gd (!y21) (Zfe a0.Real)).bind fun r25 => (some ((y21 || r25) && (y22 || ((a0.Cap == (0 : Int)) && ((a0.List.length : Int) == (0 : Int)))))))))
def Zgo (a0 : Int) : Option (ByteArray) := (if ((decide (a0 < (1 : Int))) || (decide ((9 : Int) < a0))) then (some (⟨#[]⟩ : ByteArray)) else ((idx ([(⟨#[]⟩ : ByteArray), (⟨#[116]⟩ : ByteArray), (⟨#[110]⟩ : ByteArray), (⟨#[110]⟩ : ByteArray), (⟨#[110, 98]⟩ : ByteArray), (⟨#[114]⟩ : ByteArray), (⟨#[114]⟩ : ByteArray), (⟨#[114]⟩ : ByteArray), (⟨#[108]⟩ : ByteArray), (⟨#[108]⟩ : ByteArray)] : List ByteArray) a0).bind fun e2 => (some e2)))
def Zd8 (a0 : Nat) : Option (Bool) := ((Zej a0).bind fun r1 => (some ((!r1) || ((a0 : Int) == (9221120237041090561 : Int)))))
def Zfy (a0 : Zm) (a1 : Zm) : Option (Bool) := ((Zei a1.Score a0.Score).bind fun r1 => (if r1 then (some true) else ((Zdx a0.Score a1.Score).bind fun r4 => (some (r4 && (sLt a0.Name a1.Name))))))
def Zgb (a0 : Int) (a1 : List Zm) (a2 : Int) : Option (Int) := ((idx a1 a2).bind fun e1 => (if (decide ((16 : Int) < (e1.Name.size : Int))) then (some (3 : Int)) else ((gd (a0 == (8 : Int)) (Zfe e1.Score)).bind fun r4 => ((gd (!((a0 == (8 : Int)) && (!r4))) (Zd8 e1.Score)).bind fun r6 => (if (((a0 == (8 : Int)) && (!r4)) || (!r6)) then (some (4 : Int)) else ((gd ((decide ((0 : Int) < a2)) && (a0 == (8 : Int))) (idx a1 (IntKind.i64.wrap (a2 - (1 : Int))))).bind fun e9 => (if (((decide ((0 : Int) < a2)) && (a0 == (8 : Int))) && (!(sLt e9.Name e1.Name))) then (some (4 : Int)) else ((gd ((decide ((0 : Int) < a2)) && (a0 == (9 : Int))) (idx a1 (IntKind.i64.wrap (a2 - (1 : Int))))).bind fun e12 => ((gd ((decide ((0 : Int) < a2)) && (a0 == (9 : Int))) (Zfy e12 e1)).bind fun r14 => (if (((decide ((0 : Int) < a2)) && (a0 == (9 : Int))) && (!r14)) then (some (4 : Int)) else (some (0 : Int))))))))))))
def Zdf (a0 : Ze) : Nat → (Int) → Option ((Int) ⊕ (Unit))
 | 0, _ => none
 | n + 1, x15 => (if (decide (x15 < (a0.List.length : Int))) then ((Zgb a0.Kind a0.List x15).bind fun r17 => (if (r17 != (0 : Int)) then (some (.inl r17)) else ((Zdf a0 n) (IntKind.i64.wrap (x15 + (1 : Int)))))) else (some (.inr ())))
def Zc2 (a0 : Ze) : Option (Int) := (if ((decide (a0.Kind < (1 : Int))) || (decide ((9 : Int) < a0.Kind))) then (some (5 : Int)) else ((Zgo a0.Kind).bind fun r2 => ((Zge a0 r2).bind fun r4 => (if (!r4) then (some (4 : Int)) else (if ((a0.Kind == (1 : Int)) && (decide ((64 : Int) < (a0.Text.size : Int)))) then (some (3 : Int)) else (if ((a0.Kind == (4 : Int)) && ((((decide (a0.Low < (IntKind.i64.wrap (0 - (2305843009213693952 : Int))))) || (decide ((2305843009213693952 : Int) < a0.High))) || (decide (a0.Num < a0.Low))) || (decide (a0.High < a0.Num)))) then (some (1 : Int)) else ((Zd8 a0.Real).bind fun r9 => (if (!r9) then (some (4 : Int)) else (if (decide (a0.Kind < (8 : Int))) then (some (0 : Int)) else (if ((decide (a0.Cap < (1 : Int))) || (decide ((32 : Int) < a0.Cap))) then (some (1 : Int)) else (if (decide (a0.Cap < (a0.List.length : Int))) then (some (8 : Int)) else ((Zdf a0 (Int.toNat ((a0.List.length : Int) - (0 : Int)) + 1) (0 : Int)).bind fun z20 => match z20 with | .inl r => some r | .inr () => (some (0 : Int))))))))))))))
def Zfz (a0 : Ze) : Option (Ze × Bool) := ((Zc2 a0).bind fun r1 => (if (((r1 != (0 : Int)) || (a0.Kind == (1 : Int))) || (a0.Kind == (7 : Int))) then (some (({ Kind := (0 : Int), Num := (0 : Int), Low := (0 : Int), High := (0 : Int), Real := (0 : Nat), Cap := (0 : Int), Text := ByteArray.empty, List := ([] : List Zm) } : Ze), false)) else (if (a0.Kind == (5 : Int)) then ((Zkw (-1 : Int)).bind fun r5 => (some (({ Kind := (5 : Int), Num := (0 : Int), Low := (0 : Int), High := (0 : Int), Real := r5, Cap := (0 : Int), Text := ByteArray.empty, List := ([] : List Zm) } : Ze), true))) else (if (a0.Kind == (6 : Int)) then ((Ziw).bind fun r8 => (some (({ Kind := (6 : Int), Num := (0 : Int), Low := (0 : Int), High := (0 : Int), Real := r8, Cap := (0 : Int), Text := ByteArray.empty, List := ([] : List Zm) } : Ze), true))) else (if (a0.Kind == (8 : Int)) then (some (({ Kind := (8 : Int), Num := (0 : Int), Low := (0 : Int), High := (0 : Int), Real := (0 : Nat), Cap := (32 : Int), Text := ByteArray.empty, List := ([] : List Zm) } : Ze), true)) else (if (a0.Kind == (9 : Int)) then (some (({ Kind := (9 : Int), Num := (0 : Int), Low := (0 : Int), High := (0 : Int), Real := (0 : Nat), Cap := a0.Cap, Text := ByteArray.empty, List := ([] : List Zm) } : Ze), true)) else (some (({ Kind := (2 : Int), Num := (0 : Int), Low := (0 : Int), High := (0 : Int), Real := (0 : Nat), Cap := (0 : Int), Text := ByteArray.empty, List := ([] : List Zm) } : Ze), true))))))))
def Zek (a0 : Int) : Option (Int) := (if ((decide (a0 < (0 : Int))) || (decide ((21 : Int) < a0))) then (some (0 : Int)) else ((idx ([(0 : Int), (0 : Int), (0 : Int), (0 : Int), (0 : Int), (1 : Int), (1 : Int), (2 : Int), (3 : Int), (3 : Int), (4 : Int), (4 : Int), (4 : Int), (5 : Int), (6 : Int), (7 : Int), (7 : Int), (7 : Int), (8 : Int), (8 : Int), (8 : Int), (9 : Int)] : List Int) a0).bind fun e2 => (some e2)))
def Zel (a0 : Int) (a1 : Int) : Option (Bool) := (if ((((((((a1 != (7 : Int)) && (a1 != (8 : Int))) && (a1 != (10 : Int))) && (a1 != (11 : Int))) && (a1 != (13 : Int))) && (a1 != (14 : Int))) && (a1 != (18 : Int))) && (a1 != (21 : Int))) then (some false) else ((Zek a1).bind fun r2 => (some (r2 == a0))))
def Zdk (a0 : Ze) (a1 : Ze) : Nat → (Int) → Option ((Bool) ⊕ (Unit))
 | 0, _ => none
 | n + 1, x5 => (if (decide (x5 < (a0.List.length : Int))) then ((idx a0.List x5).bind fun e7 => ((idx a1.List x5).bind fun e9 => ((gd (!(!sEq e7.Name e9.Name)) (idx a0.List x5)).bind fun e11 => ((gd (!(!sEq e7.Name e9.Name)) (idx a1.List x5)).bind fun e13 => ((gd (!(!sEq e7.Name e9.Name)) (Zdx e11.Score e13.Score)).bind fun r15 => (if ((!sEq e7.Name e9.Name) || (!r15)) then (some (.inl false)) else ((Zdk a0 a1 n) (IntKind.i64.wrap (x5 + (1 : Int)))))))))) else (some (.inr ())))
def Zgd (a0 : Ze) (a1 : Ze) : Option (Bool) := (if ((((((a0.Kind != a1.Kind) || (a0.Num != a1.Num)) || (a0.Low != a1.Low)) || (a0.High != a1.High)) || (a0.Cap != a1.Cap)) || (!sEq a0.Text a1.Text)) then (some false) else ((Zdx a0.Real a1.Real).bind fun r2 => (if ((!r2) || ((a0.List.length : Int) != (a1.List.length : Int))) then (some false) else ((Zdk a0 a1 (Int.toNat ((a0.List.length : Int) - (0 : Int)) + 1) (0 : Int)).bind fun z18 => match z18 with | .inl r => some r | .inr () => (some true)))))
def Zic (a0 : Int) : Option (ByteArray) := (if ((decide (a0 < (0 : Int))) || (decide ((21 : Int) < a0))) then (some (⟨#[]⟩ : ByteArray)) else ((idx ([(⟨#[]⟩ : ByteArray), (⟨#[109]⟩ : ByteArray), (⟨#[]⟩ : ByteArray), (⟨#[]⟩ : ByteArray), (⟨#[]⟩ : ByteArray), (⟨#[115]⟩ : ByteArray), (⟨#[115]⟩ : ByteArray), (⟨#[110]⟩ : ByteArray), (⟨#[110]⟩ : ByteArray), (⟨#[110]⟩ : ByteArray), (⟨#[110]⟩ : ByteArray), (⟨#[110]⟩ : ByteArray), (⟨#[110]⟩ : ByteArray), (⟨#[120]⟩ : ByteArray), (⟨#[120]⟩ : ByteArray), (⟨#[120]⟩ : ByteArray), (⟨#[120]⟩ : ByteArray), (⟨#[120]⟩ : ByteArray), (⟨#[115]⟩ : ByteArray), (⟨#[115]⟩ : ByteArray), (⟨#[115]⟩ : ByteArray), (⟨#[120, 115]⟩ : ByteArray)] : List ByteArray) a0).bind fun e2 => (some e2)))
def Zfo (a1 : Int) (r1 : ByteArray) : Nat → (Int) → Option ((Bool) ⊕ (Unit))
 | 0, _ => none
 | n + 1, x3 => (if (decide (x3 < (r1.size : Int))) then ((sidx r1 x3).bind fun b5 => (if (b5 == a1) then (some (.inl true)) else ((Zfo a1 r1 n) (IntKind.i64.wrap (x3 + (1 : Int)))))) else (some (.inr ())))
def Zdh (a0 : Int) (a1 : Int) : Option (Bool) := ((Zic a0).bind fun r1 => ((Zfo a1 r1 (Int.toNat ((r1.size : Int) - (0 : Int)) + 1) (0 : Int)).bind fun z8 => match z8 with | .inl r => some r | .inr () => (some false)))
def Zd1 (a0 : Zr) : Option (Int) := (if ((decide (a0.Kind < (1 : Int))) || (decide ((21 : Int) < a0.Kind))) then (some (5 : Int)) else (if ((decide ((a0.Key.size : Int) < (1 : Int))) || (decide ((24 : Int) < (a0.Key.size : Int)))) then (some (1 : Int)) else ((Zdh a0.Kind (110 : Int)).bind fun r3 => ((gd (!((!r3) && (a0.N != (0 : Int)))) (Zdh a0.Kind (120 : Int))).bind fun r5 => ((gd ((!((!r3) && (a0.N != (0 : Int)))) && (!r5)) (Zdx a0.X (0 : Nat))).bind fun r7 => ((gd (!(((!r3) && (a0.N != (0 : Int))) || ((!r5) && (!r7)))) (Zdh a0.Kind (115 : Int))).bind fun r9 => (if ((((!r3) && (a0.N != (0 : Int))) || ((!r5) && (!r7))) || ((!r9) && (!sEq a0.S (⟨#[]⟩ : ByteArray)))) then (some (4 : Int)) else ((gd (a0.Kind != (1 : Int)) (Zgd a0.Make ({ Kind := (0 : Int), Num := (0 : Int), Low := (0 : Int), High := (0 : Int), Real := (0 : Nat), Cap := (0 : Int), Text := ByteArray.empty, List := ([] : List Zm) } : Ze))).bind fun r12 => (if ((a0.Kind != (1 : Int)) && (!r12)) then (some (4 : Int)) else ((Zek a0.Kind).bind fun r15 => ((gd (!((r15 == (1 : Int)) && (decide ((64 : Int) < (a0.S.size : Int))))) (Zek a0.Kind)).bind fun r17 => (if (((r15 == (1 : Int)) && (decide ((64 : Int) < (a0.S.size : Int)))) || ((r17 != (1 : Int)) && (decide ((16 : Int) < (a0.S.size : Int))))) then (some (3 : Int)) else (if (((a0.Kind == (10 : Int)) || (a0.Kind == (11 : Int))) && ((decide (a0.N < (0 : Int))) || (decide ((2305843009213693952 : Int) < a0.N)))) then (some (1 : Int)) else ((Zd8 a0.X).bind fun r21 => (if (!r21) then (some (4 : Int)) else (if (a0.Kind == (1 : Int)) then ((Zc2 a0.Make).bind fun r25 => (some r25)) else (some (0 : Int))))))))))))))))))
def Zga (a0 : Ze) : Option (Int × Int) := (if (a0.Kind == (3 : Int)) then (if (decide (a0.Num < (0 : Int))) then (some ((IntKind.u64.wrap ((IntKind.u64.wrap ((9223372036854775808 : Int) - (1 : Int))) + (IntKind.u64.wrap ((IntKind.u64.wrap (IntKind.i64.wrap (0 - (IntKind.i64.wrap (a0.Num + (1 : Int)))))) + (1 : Int))))), (IntKind.u64.wrap ((9223372036854775808 : Int) - (IntKind.u64.wrap ((IntKind.u64.wrap (IntKind.i64.wrap (0 - (IntKind.i64.wrap (a0.Num + (1 : Int)))))) + (1 : Int))))))) else (some ((IntKind.u64.wrap ((IntKind.u64.wrap ((9223372036854775808 : Int) - (1 : Int))) - (IntKind.u64.wrap a0.Num))), (IntKind.u64.wrap ((9223372036854775808 : Int) + (IntKind.u64.wrap a0.Num)))))) else (if (a0.Kind == (4 : Int)) then (some ((IntKind.u64.wrap (IntKind.i64.wrap (a0.High - a0.Num))), (IntKind.u64.wrap (IntKind.i64.wrap (a0.Num - a0.Low))))) else (if (a0.Kind == (8 : Int)) then (some ((IntKind.u64.wrap (IntKind.i64.wrap (a0.Cap - (a0.List.length : Int)))), (0 : Int))) else (some ((0 : Int), (0 : Int))))))
def Zeb (x1 : List Int) (x2 : Int) (kk : (List Int) → (Int) → Option (List Int)) (j7 : Int) : Option (List Int) := (if (x1.length + ([j7] : List Int).length) * 8 ≤ 140737488355328 then (kk (x1 ++ ([j7] : List Int)) (IntKind.i64.wrap (x2 + (1 : Int)))) else none)
def Zcq (a0 : Int) (a1 : Int) : Nat → (List Int) → (Int) → Option (List Int)
 | 0, _, _ => none
 | n + 1, x1, x2 => (if (decide (x2 < a1)) then (if (IntKind.u64.wrap a1) ≠ (0 : Int) then (if (IntKind.u64.wrap a1) ≠ (0 : Int) then (if (decide ((IntKind.u64.wrap x2) < (Int.tmod a0 (IntKind.u64.wrap a1)))) then (Zeb x1 x2 (Zcq a0 a1 n) (IntKind.u64.wrap ((IntKind.u64.wrap (Int.tdiv a0 (IntKind.u64.wrap a1))) + (1 : Int)))) else (Zeb x1 x2 (Zcq a0 a1 n) (IntKind.u64.wrap (Int.tdiv a0 (IntKind.u64.wrap a1))))) else none) else none) else (some x1))
def Ze0 (a0 : Int) (a1 : Int) : Option (List Int) := ((Zcq a0 a1 (Int.toNat (a1 - (0 : Int)) + 1) ([] : List Int) (0 : Int)).bind fun z10 => match z10 with | y9 => (some y9))
def Zfu (a0 : Ze) (a1 : Int) : Option ((Option Zi) × Int) := (if ((decide (a1 < (1 : Int))) || (decide ((8 : Int) < a1))) then (some ((none : Option Zi), (1 : Int))) else ((Zc2 a0).bind fun r2 => (if (r2 != (0 : Int)) then (some ((none : Option Zi), r2)) else ((Zfz a0).bind fun r5 => (if (!r5.2) then (some ((none : Option Zi), (5 : Int))) else ((Zga a0).bind fun r8 => ((Ze0 r8.1 a1).bind fun r10 => ((Ze0 r8.2 a1).bind fun r12 => (some ((some ({ R := a0, Up := r10, Down := r12 } : Zi)), (0 : Int)))))))))))
def Zdm (a0 : List Zx) : Option (List Zx) := if a0.length * 16 ≤ 140737488355328 then some a0 else none
def Zfr (a0 : Zs) : Option (Zs) := ((Zdm a0.by_).bind fun r1 => (some ({ r := a0.r, by_ := r1 } : Zs)))
def Zcd (a0 : Zi) (a1 : Zr) : Nat → (Int) → Option ((Int × Int) ⊕ (Unit))
 | 0, _ => none
 | n + 1, x5 => (if (decide (x5 < (a0.R.List.length : Int))) then ((idx a0.R.List x5).bind fun e7 => (if (sEq e7.Name a1.S) then (some (.inl ((0 : Int), (0 : Int)))) else ((Zcd a0 a1 n) (IntKind.i64.wrap (x5 + (1 : Int)))))) else (some (.inr ())))
def Zdv (a0 : Zi) (a1 : Zr) : Option (Int × Int) := (if ((a1.Kind == (8 : Int)) && (decide (a1.N < (0 : Int)))) then (some ((0 : Int), (IntKind.u64.wrap ((IntKind.u64.wrap (IntKind.i64.wrap (0 - (IntKind.i64.wrap (a1.N + (1 : Int)))))) + (1 : Int))))) else (if ((a1.Kind == (8 : Int)) || (a1.Kind == (10 : Int))) then (some ((IntKind.u64.wrap a1.N), (0 : Int))) else (if (a1.Kind == (11 : Int)) then (some ((0 : Int), (IntKind.u64.wrap a1.N))) else (if (a1.Kind == (18 : Int)) then ((Zcd a0 a1 (Int.toNat ((a0.R.List.length : Int) - (0 : Int)) + 1) (0 : Int)).bind fun z10 => match z10 with | .inl r => some r | .inr () => (some ((1 : Int), (0 : Int)))) else (some ((0 : Int), (0 : Int)))))))
def Zcc (a2 : List Zr) : Nat → (Zi) → (Int) → (Int) → (Int) → Option ((Int × Zi) ⊕ (Zi × Int × Int))
 | 0, _, _, _, _ => none
 | n + 1, x6, x7, x8, x9 => (if (decide (x9 < (a2.length : Int))) then ((idx a2 x9).bind fun e11 => ((Zd1 e11).bind fun r13 => (if (r13 != (0 : Int)) then (some (.inl (r13, x6))) else ((idx a2 x9).bind fun e16 => ((Zel x6.R.Kind e16.Kind).bind fun r18 => (if (!r18) then (some (.inl ((5 : Int), x6))) else ((idx a2 x9).bind fun e21 => ((Zdv x6 e21).bind fun r23 => ((gd (decide (x7 < r23.1)) (idx a2 x9)).bind fun e25 => (if ((decide (x7 < r23.1)) && (e25.Kind == (18 : Int))) then (some (.inl ((8 : Int), x6))) else (if (decide (x7 < r23.1)) then (some (.inl ((9 : Int), x6))) else (if (decide (x8 < r23.2)) then (some (.inl ((10 : Int), x6))) else ((Zcc a2 n) x6 (IntKind.u64.wrap (x7 - r23.1)) (IntKind.u64.wrap (x8 - r23.2)) (IntKind.i64.wrap (x9 + (1 : Int)))))))))))))))) else (some (.inr (x6, x7, x8))))
def Zeo (a0 : Zi) (a1 : Int) (a2 : List Zr) : Option (Int × Zi) := (if ((decide (a1 < (0 : Int))) || (decide ((a0.Up.length : Int) ≤ a1))) then (some ((1 : Int), a0)) else ((idx a0.Up a1).bind fun e2 => ((idx a0.Down a1).bind fun e4 => ((Zcc a2 (Int.toNat ((a2.length : Int) - (0 : Int)) + 1) a0 e2 e4 (0 : Int)).bind fun z33 => match z33 with | .inl r => some r | .inr (y30, y31, y32) => ((idx y30.Up a1).bind fun e34 => ((idx (({ y30 with Up := y30.Up.set (Int.toNat a1) y31 } : Zi).Down) a1).bind fun e36 => (some ((0 : Int), ({ ({ y30 with Up := y30.Up.set (Int.toNat a1) y31 } : Zi) with Down := (({ y30 with Up := y30.Up.set (Int.toNat a1) y31 } : Zi).Down).set (Int.toNat a1) y32 } : Zi)))))))))
def Ze4 (a0 : Zi) (a1 : Int) (a2 : List Zr) : Option (Zi × Int) := (Zeo a0 a1 a2).bind fun r => some (r.2, r.1)
def Zdi (x16 : Int) (kk : (Option Zs) → (Option Zi) → (List Zr) → (Int) → Option ((Bool) ⊕ (Unit))) (j50 : Option Zs) (j51 : Option Zi) (j52 : List Zr) : Option ((Bool) ⊕ (Unit)) := (kk j50 j51 j52 (IntKind.i64.wrap (x16 + (1 : Int))))
def Zdj (x38 : Int) (kk : (Int) → Option ((Bool) ⊕ (Unit))) : Option ((Bool) ⊕ (Unit)) := (kk (IntKind.i64.wrap (x38 + (1 : Int))))
def Zb2 (a1 : Int) (r28 : Zs × Int) (r32 : Zi × Int) : Nat → (Int) → Option ((Bool) ⊕ (Unit))
 | 0, _ => none
 | n + 1, x38 => (if (decide (x38 ≤ a1)) then ((Zch r28.1 x38).bind fun r40 => (if ((decide (x38 < (0 : Int))) || (x38 == a1)) then (if ((r40.1 != (0 : Int)) || (r40.2 != (0 : Int))) then (some (.inl false)) else (Zdj x38 (Zb2 a1 r28 r32 n))) else ((idx r32.1.Up x38).bind fun e44 => ((gd (!(r40.1 != e44)) (idx r32.1.Down x38)).bind fun e46 => (if ((r40.1 != e44) || (r40.2 != e46)) then (some (.inl false)) else (Zdj x38 (Zb2 a1 r28 r32 n))))))) else (some (.inr ())))
def Zb5 (a1 : Int) (a2 : List Zbp) : Nat → (Option Zs) → (Option Zi) → (List Zr) → (Int) → Option ((Bool) ⊕ (Unit))
 | 0, _, _, _, _ => none
 | n + 1, x13, x14, x15, x16 => (if (decide (x16 < (a2.length : Int))) then ((idx a2 x16).bind fun e18 => (if (x15.length + ([e18.Act] : List Zr).length) * 152 ≤ 140737488355328 then (if ((decide (((x15 ++ ([e18.Act] : List Zr)).length : Int) < (3 : Int))) && e18.Act.Must) then (Zdi x16 (Zb5 a1 a2 n) x13 x14 (x15 ++ ([e18.Act] : List Zr))) else ((x13).bind fun n22 => ((Zfr n22).bind fun r24 => ((Zch n22 e18.Worker).bind fun r26 => ((Ze1 n22 e18.Worker (x15 ++ ([e18.Act] : List Zr))).bind fun r28 => ((x14).bind fun n30 => ((Ze4 n30 e18.Worker (x15 ++ ([e18.Act] : List Zr))).bind fun r32 => (if (r28.2 != r32.2) then (some (.inl false)) else ((Zch r24 e18.Worker).bind fun r35 => (if ((r35.1 != r26.1) || (r35.2 != r26.2)) then (some (.inl false)) else ((Zb2 a1 r28 r32 (Int.toNat (a1 + 1 - (-1 : Int)) + 1) (-1 : Int)).bind fun z49 => match z49 with | .inl r => some (.inl r) | .inr () => (Zdi x16 (Zb5 a1 a2 n) (some r28.1) (some r32.1) ([] : List Zr))))))))))))) else none)) else (some (.inr ())))
def Zfg (a0 : Ze) (a1 : Int) (a2 : List Zbp) : Option (Bool) := ((Zgr).bind fun r1 => (if (!r1) then (some false) else ((Zfs a0 a2).bind fun r4 => (if r4 then (some true) else ((Zie a0 a1).bind fun r7 => ((Zfu a0 a1).bind fun r9 => (if ((r7.2 != r9.2) || (r7.1.isNone != (r9.2 != (0 : Int)))) then (some false) else (if (r9.2 != (0 : Int)) then (some true) else ((Zb5 a1 a2 (Int.toNat ((a2.length : Int) - (0 : Int)) + 1) r7.1 r9.1 ([] : List Zr) (0 : Int)).bind fun z53 => match z53 with | .inl r => some r | .inr () => (some true))))))))))
def Zll (x : Zm) : Prop := (x.Score < 2 ^ 64) ∧ (x.Name.size ≤ maxLen)
def Zgi (x : Ze) : Prop := ((IntKind.i64).min ≤ x.Kind ∧ x.Kind ≤ (IntKind.i64).max) ∧ ((IntKind.i64).min ≤ x.Num ∧ x.Num ≤ (IntKind.i64).max) ∧ ((IntKind.i64).min ≤ x.Low ∧ x.Low ≤ (IntKind.i64).max) ∧ ((IntKind.i64).min ≤ x.High ∧ x.High ≤ (IntKind.i64).max) ∧ (x.Real < 2 ^ 64) ∧ ((IntKind.i64).min ≤ x.Cap ∧ x.Cap ≤ (IntKind.i64).max) ∧ (x.Text.size ≤ maxLen) ∧ (x.List.length ≤ maxLen ∧ ∀ e0 ∈ x.List, (Zll e0))
def Zkg (x : Zr) : Prop := ((IntKind.i64).min ≤ x.Kind ∧ x.Kind ≤ (IntKind.i64).max) ∧ (x.Key.size ≤ maxLen) ∧ ((IntKind.i64).min ≤ x.N ∧ x.N ≤ (IntKind.i64).max) ∧ (x.X < 2 ^ 64) ∧ (x.S.size ≤ maxLen) ∧ (Zgi x.Make) ∧ True
def Ze8 (x : Zbp) : Prop := ((IntKind.i64).min ≤ x.Worker ∧ x.Worker ≤ (IntKind.i64).max) ∧ (Zkg x.Act)
end Go.CL
namespace Go.CL
open Go Go.RowKit Go.Proofs
theorem Za : Tryd.prog.follows .mixedOrders = true := by kernel_rfl
theorem Z2y {α : Type} {l : List α} (h : l.length = 1) : ∃ u0, l = [u0] := by
 match l, h with
 | [u0], _ => exact ⟨u0, rfl⟩
theorem Zir {α : Type} {l : List α} (h : l.length = 2) : ∃ u0 u1, l = [u0, u1] := by
 match l, h with
 | [u0, u1], _ => exact ⟨u0, u1, rfl⟩
theorem Zrs {α : Type} {l : List α} (h : l.length = 8) : ∃ u0 u1 u2 u3 u4 u5 u6 u7, l = [u0, u1, u2, u3, u4, u5, u6, u7] := by
 match l, h with
 | [u0, u1, u2, u3, u4, u5, u6, u7], _ => exact ⟨u0, u1, u2, u3, u4, u5, u6, u7, rfl⟩
def Zsn : List (Kd.FK Zbv) := [⟨_, Kd.bool, 0, fun x : Zbv => x.text⟩,
 ⟨_, Kd.bool, 1, fun x : Zbv => x.num⟩,
 ⟨_, Kd.bool, 2, fun x : Zbv => x.bounds⟩,
 ⟨_, Kd.bool, 3, fun x : Zbv => x.real⟩,
 ⟨_, Kd.bool, 4, fun x : Zbv => x.list⟩]
def Zcs : Kd Zbv := Kd.struct 5 Zsn (by rfl)
theorem Znv : ∀ g, Zcs.K g (default : Zbv) [.bool false, .bool false, .bool false, .bool false, .bool false] := fun g => ⟨rfl, (List.forall_mem_cons.2 ⟨(rfl), (List.forall_mem_cons.2 ⟨(rfl), (List.forall_mem_cons.2 ⟨(rfl), (List.forall_mem_cons.2 ⟨(rfl), (List.forall_mem_cons.2 ⟨(rfl), (fun _ h => by cases h)⟩)⟩)⟩)⟩)⟩)⟩
def Ztd : List (Kd.FK Zm) := [⟨_, Kd.flt, 0, fun x : Zm => x.Score⟩,
 ⟨_, Kd.str, 1, fun x : Zm => x.Name⟩]
def Zt : Kd Zm := Kd.struct 2 Ztd (by rfl)
theorem Zf3 : ∀ g, Zt.K g (default : Zm) [.float .f64 0, .string ByteArray.empty] := fun g => ⟨rfl, (List.forall_mem_cons.2 ⟨(rfl), (List.forall_mem_cons.2 ⟨(rfl), (fun _ h => by cases h)⟩)⟩)⟩
def Zrj : List (Kd.FK Ze) := [⟨_, (Kd.int .i64), 0, fun x : Ze => x.Kind⟩,
 ⟨_, (Kd.int .i64), 1, fun x : Ze => x.Num⟩,
 ⟨_, (Kd.int .i64), 2, fun x : Ze => x.Low⟩,
 ⟨_, (Kd.int .i64), 3, fun x : Ze => x.High⟩,
 ⟨_, Kd.flt, 4, fun x : Ze => x.Real⟩,
 ⟨_, (Kd.int .i64), 5, fun x : Ze => x.Cap⟩,
 ⟨_, Kd.str, 6, fun x : Ze => x.Text⟩,
 ⟨_, Zt.sl, 7, fun x : Ze => x.List⟩]
def Zg : Kd Ze := Kd.struct 8 Zrj (by rfl)
theorem Zb4 : ∀ g, Zg.K g (default : Ze) [.int .i64 0, .int .i64 0, .int .i64 0, .int .i64 0, .float .f64 0, .int .i64 0, .string ByteArray.empty, .slice none 0 0] := fun g => ⟨rfl, (List.forall_mem_cons.2 ⟨(rfl), (List.forall_mem_cons.2 ⟨(rfl), (List.forall_mem_cons.2 ⟨(rfl), (List.forall_mem_cons.2 ⟨(rfl), (List.forall_mem_cons.2 ⟨(rfl), (List.forall_mem_cons.2 ⟨(rfl), (List.forall_mem_cons.2 ⟨(rfl), (List.forall_mem_cons.2 ⟨(⟨none, 0, rfl, Nat.le_refl _, Nat.zero_le _, .inl rfl⟩), (fun _ h => by cases h)⟩)⟩)⟩)⟩)⟩)⟩)⟩)⟩)⟩
def Zta : List (Kd.FK Zcv) := [⟨_, Kd.str, 0, fun x : Zcv => x.word⟩,
 ⟨_, (Kd.int .i64), 1, fun x : Zcv => x.on⟩,
 ⟨_, Kd.str, 2, fun x : Zcv => x.has⟩]
def Zdo : Kd Zcv := Kd.struct 3 Zta (by rfl)
theorem Zox : ∀ g, Zdo.K g (default : Zcv) [.string ByteArray.empty, .int .i64 0, .string ByteArray.empty] := fun g => ⟨rfl, (List.forall_mem_cons.2 ⟨(rfl), (List.forall_mem_cons.2 ⟨(rfl), (List.forall_mem_cons.2 ⟨(rfl), (fun _ h => by cases h)⟩)⟩)⟩)⟩
def Zut : List (Kd.FK Zr) := [⟨_, (Kd.int .i64), 0, fun x : Zr => x.Kind⟩,
 ⟨_, Kd.str, 1, fun x : Zr => x.Key⟩,
 ⟨_, (Kd.int .i64), 2, fun x : Zr => x.N⟩,
 ⟨_, Kd.flt, 3, fun x : Zr => x.X⟩,
 ⟨_, Kd.str, 4, fun x : Zr => x.S⟩,
 ⟨_, Zg, 5, fun x : Zr => x.Make⟩,
 ⟨_, Kd.bool, 13, fun x : Zr => x.Must⟩]
def Zy : Kd Zr := Kd.struct 14 Zut (by rfl)
theorem Zkf : ∀ g, Zy.K g (default : Zr) [.int .i64 0, .string ByteArray.empty, .int .i64 0, .float .f64 0, .string ByteArray.empty, .int .i64 0, .int .i64 0, .int .i64 0, .int .i64 0, .float .f64 0, .int .i64 0, .string ByteArray.empty, .slice none 0 0, .bool false] := fun g => ⟨rfl, (List.forall_mem_cons.2 ⟨(rfl), (List.forall_mem_cons.2 ⟨(rfl), (List.forall_mem_cons.2 ⟨(rfl), (List.forall_mem_cons.2 ⟨(rfl), (List.forall_mem_cons.2 ⟨(rfl), (List.forall_mem_cons.2 ⟨(Zb4 _), (List.forall_mem_cons.2 ⟨(rfl), (fun _ h => by cases h)⟩)⟩)⟩)⟩)⟩)⟩)⟩)⟩
def Zrk : List (Kd.FK Zw) := [⟨_, (Kd.int .i64), 0, fun x : Zw => x.Code⟩,
 ⟨_, (Kd.int .i64), 1, fun x : Zw => x.Num⟩,
 ⟨_, Zg, 2, fun x : Zw => x.Rec⟩]
def Z5 : Kd Zw := Kd.struct 10 Zrk (by rfl)
theorem Ziu : ∀ g, Z5.K g (default : Zw) [.int .i64 0, .int .i64 0, .int .i64 0, .int .i64 0, .int .i64 0, .int .i64 0, .float .f64 0, .int .i64 0, .string ByteArray.empty, .slice none 0 0] := fun g => ⟨rfl, (List.forall_mem_cons.2 ⟨(rfl), (List.forall_mem_cons.2 ⟨(rfl), (List.forall_mem_cons.2 ⟨(Zb4 _), (fun _ h => by cases h)⟩)⟩)⟩)⟩
def Zrc : List (Kd.FK Zx) := [⟨_, (Kd.int .u64), 0, fun x : Zx => x.up⟩,
 ⟨_, (Kd.int .u64), 1, fun x : Zx => x.down⟩]
def Z1 : Kd Zx := Kd.struct 2 Zrc (by rfl)
theorem Zhp : ∀ g, Z1.K g (default : Zx) [.int .u64 0, .int .u64 0] := fun g => ⟨rfl, (List.forall_mem_cons.2 ⟨(rfl), (List.forall_mem_cons.2 ⟨(rfl), (fun _ h => by cases h)⟩)⟩)⟩
def Zpu : List (Kd.FK Zs) := [⟨_, Zg, 0, fun x : Zs => x.r⟩,
 ⟨_, Z1.sl, 8, fun x : Zs => x.by_⟩]
def Zdz : Kd Zs := Kd.struct 9 Zpu (by rfl)
def Zm3 : List (Kd.FK Zbp) := [⟨_, (Kd.int .i64), 0, fun x : Zbp => x.Worker⟩,
 ⟨_, Zy, 1, fun x : Zbp => x.Act⟩]
def Zbw : Kd Zbp := Kd.struct 15 Zm3 (by rfl)
theorem Zjb : ∀ g, Zbw.K g (default : Zbp) [.int .i64 0, .int .i64 0, .string ByteArray.empty, .int .i64 0, .float .f64 0, .string ByteArray.empty, .int .i64 0, .int .i64 0, .int .i64 0, .int .i64 0, .float .f64 0, .int .i64 0, .string ByteArray.empty, .slice none 0 0, .bool false] := fun g => ⟨rfl, (List.forall_mem_cons.2 ⟨(rfl), (List.forall_mem_cons.2 ⟨(Zkf _), (fun _ h => by cases h)⟩)⟩)⟩
def Zl5 : List (Kd.FK Zi) := [⟨_, Zg, 0, fun x : Zi => x.R⟩,
 ⟨_, (Kd.int .u64).sl, 8, fun x : Zi => x.Up⟩,
 ⟨_, (Kd.int .u64).sl, 9, fun x : Zi => x.Down⟩]
def Zev : Kd Zi := Kd.struct 10 Zl5 (by rfl)
def Zse : Zcv → List Value := fun x => [.string x.word, .int .i64 x.on, .string x.has]
theorem gm_1 : (1, g_1.flatMap Zse) ∈ GL := List.mem_of_getElem? (i := 0) rfl
theorem gk_1 : ∀ g, (Kd.arr 22 Zdo).K g g_1 (g_1.flatMap Zse) := fun g => Z3a (dk := Zdo) (enc := Zse) (fun g x => ⟨rfl, (List.forall_mem_cons.2 ⟨rfl, (List.forall_mem_cons.2 ⟨rfl, (List.forall_mem_cons.2 ⟨rfl, (fun _ h => by cases h)⟩)⟩)⟩)⟩) g g_1
theorem Zzb {N d : Nat} {o : Oper} {uses : Z3} {x0 : Operand} {v0 : Bool} (hop : o.op = .build 88 #[(0, x0)]) (hd : o.dst = some d) (h0 : Opd uses x0 (Kd.bool.pd v0)) : OB Tryd.prog N o uses [(d, Zcs.pd { text := v0, num := false, bounds := false, real := false, list := false })] [] := by
 refine Zcu hop hd fun a g hh => ?_
 obtain ⟨c0, k0, e0⟩ := h0 a g hh
 obtain rfl := k0
 refine ⟨.agg #[.bool v0, .bool false, .bool false, .bool false, .bool false], ?_, [.bool v0, .bool false, .bool false, .bool false, .bool false], ⟨rfl, (List.forall_mem_cons.2 ⟨rfl, (List.forall_mem_cons.2 ⟨(rfl), (List.forall_mem_cons.2 ⟨(rfl), (List.forall_mem_cons.2 ⟨(rfl), (List.forall_mem_cons.2 ⟨(rfl), (fun _ h => by cases h)⟩)⟩)⟩)⟩)⟩)⟩, rfl⟩
 simp only [List.map_toArray, List.map_cons, List.map_nil, e0]
 exact Zcj Tryd.underlying88 (zero := .agg #[.bool false, .bool false, .bool false, .bool false, .bool false]) (by kernel_rfl) (places := [(0, 1), (1, 1), (2, 1), (3, 1), (4, 1)]) (by kernel_rfl) (by kernel_rfl) g.w
theorem Zh3 : Ty Tryd.prog 88 Zcs := ⟨by kernel_rfl, by kernel_rfl⟩
theorem Zzs {N d : Nat} {o : Oper} {uses : Z3} {x1 : Operand} {v1 : Bool} (hop : o.op = .build 88 #[(1, x1)]) (hd : o.dst = some d) (h1 : Opd uses x1 (Kd.bool.pd v1)) : OB Tryd.prog N o uses [(d, Zcs.pd { text := false, num := v1, bounds := false, real := false, list := false })] [] := by
 refine Zcu hop hd fun a g hh => ?_
 obtain ⟨c1, k1, e1⟩ := h1 a g hh
 obtain rfl := k1
 refine ⟨.agg #[.bool false, .bool v1, .bool false, .bool false, .bool false], ?_, [.bool false, .bool v1, .bool false, .bool false, .bool false], ⟨rfl, (List.forall_mem_cons.2 ⟨(rfl), (List.forall_mem_cons.2 ⟨rfl, (List.forall_mem_cons.2 ⟨(rfl), (List.forall_mem_cons.2 ⟨(rfl), (List.forall_mem_cons.2 ⟨(rfl), (fun _ h => by cases h)⟩)⟩)⟩)⟩)⟩)⟩, rfl⟩
 simp only [List.map_toArray, List.map_cons, List.map_nil, e1]
 exact Zcj Tryd.underlying88 (zero := .agg #[.bool false, .bool false, .bool false, .bool false, .bool false]) (by kernel_rfl) (places := [(0, 1), (1, 1), (2, 1), (3, 1), (4, 1)]) (by kernel_rfl) (by kernel_rfl) g.w
theorem Zvn {N d : Nat} {o : Oper} {uses : Z3} {x1 : Operand} {x2 : Operand} {v1 : Bool} {v2 : Bool} (hop : o.op = .build 88 #[(1, x1), (2, x2)]) (hd : o.dst = some d) (h1 : Opd uses x1 (Kd.bool.pd v1)) (h2 : Opd uses x2 (Kd.bool.pd v2)) : OB Tryd.prog N o uses [(d, Zcs.pd { text := false, num := v1, bounds := v2, real := false, list := false })] [] := by
 refine Zcu hop hd fun a g hh => ?_
 obtain ⟨c1, k1, e1⟩ := h1 a g hh
 obtain rfl := k1
 obtain ⟨c2, k2, e2⟩ := h2 a g hh
 obtain rfl := k2
 refine ⟨.agg #[.bool false, .bool v1, .bool v2, .bool false, .bool false], ?_, [.bool false, .bool v1, .bool v2, .bool false, .bool false], ⟨rfl, (List.forall_mem_cons.2 ⟨(rfl), (List.forall_mem_cons.2 ⟨rfl, (List.forall_mem_cons.2 ⟨rfl, (List.forall_mem_cons.2 ⟨(rfl), (List.forall_mem_cons.2 ⟨(rfl), (fun _ h => by cases h)⟩)⟩)⟩)⟩)⟩)⟩, rfl⟩
 simp only [List.map_toArray, List.map_cons, List.map_nil, e1, e2]
 exact Zcj Tryd.underlying88 (zero := .agg #[.bool false, .bool false, .bool false, .bool false, .bool false]) (by kernel_rfl) (places := [(0, 1), (1, 1), (2, 1), (3, 1), (4, 1)]) (by kernel_rfl) (by kernel_rfl) g.w
theorem Zzy {N d : Nat} {o : Oper} {uses : Z3} {x3 : Operand} {v3 : Bool} (hop : o.op = .build 88 #[(3, x3)]) (hd : o.dst = some d) (h3 : Opd uses x3 (Kd.bool.pd v3)) : OB Tryd.prog N o uses [(d, Zcs.pd { text := false, num := false, bounds := false, real := v3, list := false })] [] := by
 refine Zcu hop hd fun a g hh => ?_
 obtain ⟨c3, k3, e3⟩ := h3 a g hh
 obtain rfl := k3
 refine ⟨.agg #[.bool false, .bool false, .bool false, .bool v3, .bool false], ?_, [.bool false, .bool false, .bool false, .bool v3, .bool false], ⟨rfl, (List.forall_mem_cons.2 ⟨(rfl), (List.forall_mem_cons.2 ⟨(rfl), (List.forall_mem_cons.2 ⟨(rfl), (List.forall_mem_cons.2 ⟨rfl, (List.forall_mem_cons.2 ⟨(rfl), (fun _ h => by cases h)⟩)⟩)⟩)⟩)⟩)⟩, rfl⟩
 simp only [List.map_toArray, List.map_cons, List.map_nil, e3]
 exact Zcj Tryd.underlying88 (zero := .agg #[.bool false, .bool false, .bool false, .bool false, .bool false]) (by kernel_rfl) (places := [(0, 1), (1, 1), (2, 1), (3, 1), (4, 1)]) (by kernel_rfl) (by kernel_rfl) g.w
theorem Zzc {N d : Nat} {o : Oper} {uses : Z3} {x4 : Operand} {v4 : Bool} (hop : o.op = .build 88 #[(4, x4)]) (hd : o.dst = some d) (h4 : Opd uses x4 (Kd.bool.pd v4)) : OB Tryd.prog N o uses [(d, Zcs.pd { text := false, num := false, bounds := false, real := false, list := v4 })] [] := by
 refine Zcu hop hd fun a g hh => ?_
 obtain ⟨c4, k4, e4⟩ := h4 a g hh
 obtain rfl := k4
 refine ⟨.agg #[.bool false, .bool false, .bool false, .bool false, .bool v4], ?_, [.bool false, .bool false, .bool false, .bool false, .bool v4], ⟨rfl, (List.forall_mem_cons.2 ⟨(rfl), (List.forall_mem_cons.2 ⟨(rfl), (List.forall_mem_cons.2 ⟨(rfl), (List.forall_mem_cons.2 ⟨(rfl), (List.forall_mem_cons.2 ⟨rfl, (fun _ h => by cases h)⟩)⟩)⟩)⟩)⟩)⟩, rfl⟩
 simp only [List.map_toArray, List.map_cons, List.map_nil, e4]
 exact Zcj Tryd.underlying88 (zero := .agg #[.bool false, .bool false, .bool false, .bool false, .bool false]) (by kernel_rfl) (places := [(0, 1), (1, 1), (2, 1), (3, 1), (4, 1)]) (by kernel_rfl) (by kernel_rfl) g.w
theorem Z05 {N d : Nat} {o : Oper} {uses : Z3}   (hop : o.op = .build 88 #[]) (hd : o.dst = some d)  : OB Tryd.prog N o uses [(d, Zcs.pd { text := false, num := false, bounds := false, real := false, list := false })] [] := by
 refine Zcu hop hd fun a g hh => ?_
 refine ⟨.agg #[.bool false, .bool false, .bool false, .bool false, .bool false], ?_, [.bool false, .bool false, .bool false, .bool false, .bool false], ⟨rfl, (List.forall_mem_cons.2 ⟨(rfl), (List.forall_mem_cons.2 ⟨(rfl), (List.forall_mem_cons.2 ⟨(rfl), (List.forall_mem_cons.2 ⟨(rfl), (List.forall_mem_cons.2 ⟨(rfl), (fun _ h => by cases h)⟩)⟩)⟩)⟩)⟩)⟩, rfl⟩
 simp only [List.map_toArray, List.map_cons, List.map_nil, List.map_nil]
 exact Zcj Tryd.underlying88 (zero := .agg #[.bool false, .bool false, .bool false, .bool false, .bool false]) (by kernel_rfl) (places := [(0, 1), (1, 1), (2, 1), (3, 1), (4, 1)]) (by kernel_rfl) (by kernel_rfl) g.w
theorem Zyc : Ext Tryd.prog 61 Extern.MathFloatBits.float64frombits := ⟨_, Tryd.func61, rfl, rfl, by kernel_rfl, by kernel_rfl⟩
theorem Zuu : Zl Tryd.prog 33 := by
 unfold Zl
 kernel_rfl
theorem Zlh : Zl Tryd.prog 66 := by
 unfold Zl
 kernel_rfl
theorem Zrn : Ext Tryd.prog 73 Extern.MathFloatBits.float64bits := ⟨_, Tryd.func73, rfl, rfl, by kernel_rfl, by kernel_rfl⟩
theorem Zr0 : Zl Tryd.prog 81 := by
 unfold Zl
 kernel_rfl
theorem Zzv : Fld Tryd.prog 88 0 Zcs Kd.bool (fun x : Zbv => x.text) := Fld.of ⟨_, Kd.bool, 0, fun x : Zbv => x.text⟩ (List.mem_of_getElem? (i := 0) rfl) 0 rfl (by kernel_rfl) (by decide)
theorem ty_4 : Ty Tryd.prog 4 Kd.bool := ⟨by kernel_rfl, by kernel_rfl⟩
theorem Zhb : Fld Tryd.prog 25 6 Zg Kd.str (fun x : Ze => x.Text) := Fld.of ⟨_, Kd.str, 6, fun x : Ze => x.Text⟩ (List.mem_of_getElem? (i := 6) rfl) 6 rfl (by kernel_rfl) (by decide)
theorem ty_9 : Ty Tryd.prog 9 Kd.str := ⟨by kernel_rfl, by kernel_rfl⟩
theorem Z0d : Fld Tryd.prog 88 1 Zcs Kd.bool (fun x : Zbv => x.num) := Fld.of ⟨_, Kd.bool, 1, fun x : Zbv => x.num⟩ (List.mem_of_getElem? (i := 1) rfl) 1 rfl (by kernel_rfl) (by decide)
theorem Zb8 : Fld Tryd.prog 25 1 Zg (Kd.int .i64) (fun x : Ze => x.Num) := Fld.of ⟨_, (Kd.int .i64), 1, fun x : Ze => x.Num⟩ (List.mem_of_getElem? (i := 1) rfl) 1 rfl (by kernel_rfl) (by decide)
theorem ty_2 : Ty Tryd.prog 2 (Kd.int .i64) := ⟨by kernel_rfl, by kernel_rfl⟩
theorem Zuf : Fld Tryd.prog 88 2 Zcs Kd.bool (fun x : Zbv => x.bounds) := Fld.of ⟨_, Kd.bool, 2, fun x : Zbv => x.bounds⟩ (List.mem_of_getElem? (i := 2) rfl) 2 rfl (by kernel_rfl) (by decide)
theorem Zf5 : Fld Tryd.prog 25 2 Zg (Kd.int .i64) (fun x : Ze => x.Low) := Fld.of ⟨_, (Kd.int .i64), 2, fun x : Ze => x.Low⟩ (List.mem_of_getElem? (i := 2) rfl) 2 rfl (by kernel_rfl) (by decide)
theorem Zf6 : Fld Tryd.prog 25 3 Zg (Kd.int .i64) (fun x : Ze => x.High) := Fld.of ⟨_, (Kd.int .i64), 3, fun x : Ze => x.High⟩ (List.mem_of_getElem? (i := 3) rfl) 3 rfl (by kernel_rfl) (by decide)
theorem Zzi : Fld Tryd.prog 88 3 Zcs Kd.bool (fun x : Zbv => x.real) := Fld.of ⟨_, Kd.bool, 3, fun x : Zbv => x.real⟩ (List.mem_of_getElem? (i := 3) rfl) 3 rfl (by kernel_rfl) (by decide)
theorem Ze3 : Fld Tryd.prog 25 4 Zg Kd.flt (fun x : Ze => x.Real) := Fld.of ⟨_, Kd.flt, 4, fun x : Ze => x.Real⟩ (List.mem_of_getElem? (i := 4) rfl) 4 rfl (by kernel_rfl) (by decide)
theorem Zc0 : Ty Tryd.prog 22 Kd.flt := ⟨by kernel_rfl, by kernel_rfl⟩
theorem Zoa : Zl Tryd.prog 76 := by
 unfold Zl
 kernel_rfl
theorem Zug : Fld Tryd.prog 88 4 Zcs Kd.bool (fun x : Zbv => x.list) := Fld.of ⟨_, Kd.bool, 4, fun x : Zbv => x.list⟩ (List.mem_of_getElem? (i := 4) rfl) 4 rfl (by kernel_rfl) (by decide)
theorem Zef : Fld Tryd.prog 25 5 Zg (Kd.int .i64) (fun x : Ze => x.Cap) := Fld.of ⟨_, (Kd.int .i64), 5, fun x : Ze => x.Cap⟩ (List.mem_of_getElem? (i := 5) rfl) 5 rfl (by kernel_rfl) (by decide)
theorem ty_3 : Ty Tryd.prog 3 (Kd.int .i64) := ⟨by kernel_rfl, by kernel_rfl⟩
theorem Zb3 : Fld Tryd.prog 25 7 Zg Zt.sl (fun x : Ze => x.List) := Fld.of ⟨_, Zt.sl, 7, fun x : Ze => x.List⟩ (List.mem_of_getElem? (i := 7) rfl) 7 rfl (by kernel_rfl) (by decide)
theorem Zcz : Ty Tryd.prog 23 Zt.sl := ⟨by kernel_rfl, by kernel_rfl⟩
theorem Zen : Fld Tryd.prog 75 0 Zt Kd.flt (fun x : Zm => x.Score) := Fld.of ⟨_, Kd.flt, 0, fun x : Zm => x.Score⟩ (List.mem_of_getElem? (i := 0) rfl) 0 rfl (by kernel_rfl) (by decide)
theorem Zuk : Zl Tryd.prog 65 := by
 unfold Zl
 kernel_rfl
theorem Zd3 : Fld Tryd.prog 75 1 Zt Kd.str (fun x : Zm => x.Name) := Fld.of ⟨_, Kd.str, 1, fun x : Zm => x.Name⟩ (List.mem_of_getElem? (i := 1) rfl) 1 rfl (by kernel_rfl) (by decide)
theorem Zff : (Tryd.prog.info? 75).map (·.size) = some Zt.sz := by kernel_rfl
theorem Zd4 : Ty Tryd.prog 75 Zt := ⟨by kernel_rfl, by kernel_rfl⟩
theorem Zuv : Zl Tryd.prog 51 := by
 unfold Zl
 kernel_rfl
theorem Zu0 : Zl Tryd.prog 77 := by
 unfold Zl
 kernel_rfl
theorem Zc9 : Fld Tryd.prog 25 0 Zg (Kd.int .i64) (fun x : Ze => x.Kind) := Fld.of ⟨_, (Kd.int .i64), 0, fun x : Ze => x.Kind⟩ (List.mem_of_getElem? (i := 0) rfl) 0 rfl (by kernel_rfl) (by decide)
theorem Z2t : Zl Tryd.prog 49 := by
 unfold Zl
 kernel_rfl
theorem Z8 : Ty Tryd.prog 25 Zg := ⟨by kernel_rfl, by kernel_rfl⟩
theorem Z1w : Zl Tryd.prog 50 := by
 unfold Zl
 kernel_rfl
theorem Z2c : Zl Tryd.prog 52 := by
 unfold Zl
 kernel_rfl
theorem Zrp : Zl Tryd.prog 23 := by
 unfold Zl
 kernel_rfl
theorem Zks {N d : Nat} {o : Oper} {uses : Z3}   (hop : o.op = .build 25 #[]) (hd : o.dst = some d)  : OB Tryd.prog N o uses [(d, Zg.pd { Kind := (0 : Int), Num := (0 : Int), Low := (0 : Int), High := (0 : Int), Real := (0 : Nat), Cap := (0 : Int), Text := ByteArray.empty, List := ([] : List Zm) })] [] := by
 refine Zcu hop hd fun a g hh => ?_
 refine ⟨.agg #[.int .i64 0, .int .i64 0, .int .i64 0, .int .i64 0, .float .f64 0, .int .i64 0, .string ByteArray.empty, .slice none 0 0], ?_, [.int .i64 0, .int .i64 0, .int .i64 0, .int .i64 0, .float .f64 0, .int .i64 0, .string ByteArray.empty, .slice none 0 0], ⟨rfl, (List.forall_mem_cons.2 ⟨(rfl), (List.forall_mem_cons.2 ⟨(rfl), (List.forall_mem_cons.2 ⟨(rfl), (List.forall_mem_cons.2 ⟨(rfl), (List.forall_mem_cons.2 ⟨(rfl), (List.forall_mem_cons.2 ⟨(rfl), (List.forall_mem_cons.2 ⟨(rfl), (List.forall_mem_cons.2 ⟨(⟨none, 0, rfl, Nat.le_refl _, Nat.zero_le _, .inl rfl⟩), (fun _ h => by cases h)⟩)⟩)⟩)⟩)⟩)⟩)⟩)⟩)⟩, rfl⟩
 simp only [List.map_toArray, List.map_cons, List.map_nil, List.map_nil]
 exact Zcj Tryd.underlying25 (zero := .agg #[.int .i64 0, .int .i64 0, .int .i64 0, .int .i64 0, .float .f64 0, .int .i64 0, .string ByteArray.empty, .slice none 0 0]) (by kernel_rfl) (places := [(0, 1), (1, 1), (2, 1), (3, 1), (4, 1), (5, 1), (6, 1), (7, 1)]) (by kernel_rfl) (by kernel_rfl) g.w
theorem Zty {N d : Nat} {o : Oper} {uses : Z3} {x0 : Operand} {v0 : Int} (hop : o.op = .build 25 #[(0, x0)]) (hd : o.dst = some d) (h0 : Opd uses x0 ((Kd.int .i64).pd v0)) : OB Tryd.prog N o uses [(d, Zg.pd { Kind := v0, Num := (0 : Int), Low := (0 : Int), High := (0 : Int), Real := (0 : Nat), Cap := (0 : Int), Text := ByteArray.empty, List := ([] : List Zm) })] [] := by
 refine Zcu hop hd fun a g hh => ?_
 obtain ⟨c0, k0, e0⟩ := h0 a g hh
 obtain rfl := k0
 refine ⟨.agg #[.int .i64 v0, .int .i64 0, .int .i64 0, .int .i64 0, .float .f64 0, .int .i64 0, .string ByteArray.empty, .slice none 0 0], ?_, [.int .i64 v0, .int .i64 0, .int .i64 0, .int .i64 0, .float .f64 0, .int .i64 0, .string ByteArray.empty, .slice none 0 0], ⟨rfl, (List.forall_mem_cons.2 ⟨rfl, (List.forall_mem_cons.2 ⟨(rfl), (List.forall_mem_cons.2 ⟨(rfl), (List.forall_mem_cons.2 ⟨(rfl), (List.forall_mem_cons.2 ⟨(rfl), (List.forall_mem_cons.2 ⟨(rfl), (List.forall_mem_cons.2 ⟨(rfl), (List.forall_mem_cons.2 ⟨(⟨none, 0, rfl, Nat.le_refl _, Nat.zero_le _, .inl rfl⟩), (fun _ h => by cases h)⟩)⟩)⟩)⟩)⟩)⟩)⟩)⟩)⟩, rfl⟩
 simp only [List.map_toArray, List.map_cons, List.map_nil, e0]
 exact Zcj Tryd.underlying25 (zero := .agg #[.int .i64 0, .int .i64 0, .int .i64 0, .int .i64 0, .float .f64 0, .int .i64 0, .string ByteArray.empty, .slice none 0 0]) (by kernel_rfl) (places := [(0, 1), (1, 1), (2, 1), (3, 1), (4, 1), (5, 1), (6, 1), (7, 1)]) (by kernel_rfl) (by kernel_rfl) g.w
theorem Zx3 : Zl Tryd.prog 32 := by
 unfold Zl
 kernel_rfl
theorem Zle {N d : Nat} {o : Oper} {uses : Z3} {x0 : Operand} {x4 : Operand} {v0 : Int} {v4 : Nat} (hop : o.op = .build 25 #[(0, x0), (4, x4)]) (hd : o.dst = some d) (h0 : Opd uses x0 ((Kd.int .i64).pd v0)) (h4 : Opd uses x4 (Kd.flt.pd v4)) : OB Tryd.prog N o uses [(d, Zg.pd { Kind := v0, Num := (0 : Int), Low := (0 : Int), High := (0 : Int), Real := v4, Cap := (0 : Int), Text := ByteArray.empty, List := ([] : List Zm) })] [] := by
 refine Zcu hop hd fun a g hh => ?_
 obtain ⟨c0, k0, e0⟩ := h0 a g hh
 obtain rfl := k0
 obtain ⟨c4, k4, e4⟩ := h4 a g hh
 obtain rfl := k4
 refine ⟨.agg #[.int .i64 v0, .int .i64 0, .int .i64 0, .int .i64 0, .float .f64 v4, .int .i64 0, .string ByteArray.empty, .slice none 0 0], ?_, [.int .i64 v0, .int .i64 0, .int .i64 0, .int .i64 0, .float .f64 v4, .int .i64 0, .string ByteArray.empty, .slice none 0 0], ⟨rfl, (List.forall_mem_cons.2 ⟨rfl, (List.forall_mem_cons.2 ⟨(rfl), (List.forall_mem_cons.2 ⟨(rfl), (List.forall_mem_cons.2 ⟨(rfl), (List.forall_mem_cons.2 ⟨rfl, (List.forall_mem_cons.2 ⟨(rfl), (List.forall_mem_cons.2 ⟨(rfl), (List.forall_mem_cons.2 ⟨(⟨none, 0, rfl, Nat.le_refl _, Nat.zero_le _, .inl rfl⟩), (fun _ h => by cases h)⟩)⟩)⟩)⟩)⟩)⟩)⟩)⟩)⟩, rfl⟩
 simp only [List.map_toArray, List.map_cons, List.map_nil, e0, e4]
 exact Zcj Tryd.underlying25 (zero := .agg #[.int .i64 0, .int .i64 0, .int .i64 0, .int .i64 0, .float .f64 0, .int .i64 0, .string ByteArray.empty, .slice none 0 0]) (by kernel_rfl) (places := [(0, 1), (1, 1), (2, 1), (3, 1), (4, 1), (5, 1), (6, 1), (7, 1)]) (by kernel_rfl) (by kernel_rfl) g.w
theorem Zli {N d : Nat} {o : Oper} {uses : Z3} {x0 : Operand} {x5 : Operand} {v0 : Int} {v5 : Int} (hop : o.op = .build 25 #[(0, x0), (5, x5)]) (hd : o.dst = some d) (h0 : Opd uses x0 ((Kd.int .i64).pd v0)) (h5 : Opd uses x5 ((Kd.int .i64).pd v5)) : OB Tryd.prog N o uses [(d, Zg.pd { Kind := v0, Num := (0 : Int), Low := (0 : Int), High := (0 : Int), Real := (0 : Nat), Cap := v5, Text := ByteArray.empty, List := ([] : List Zm) })] [] := by
 refine Zcu hop hd fun a g hh => ?_
 obtain ⟨c0, k0, e0⟩ := h0 a g hh
 obtain rfl := k0
 obtain ⟨c5, k5, e5⟩ := h5 a g hh
 obtain rfl := k5
 refine ⟨.agg #[.int .i64 v0, .int .i64 0, .int .i64 0, .int .i64 0, .float .f64 0, .int .i64 v5, .string ByteArray.empty, .slice none 0 0], ?_, [.int .i64 v0, .int .i64 0, .int .i64 0, .int .i64 0, .float .f64 0, .int .i64 v5, .string ByteArray.empty, .slice none 0 0], ⟨rfl, (List.forall_mem_cons.2 ⟨rfl, (List.forall_mem_cons.2 ⟨(rfl), (List.forall_mem_cons.2 ⟨(rfl), (List.forall_mem_cons.2 ⟨(rfl), (List.forall_mem_cons.2 ⟨(rfl), (List.forall_mem_cons.2 ⟨rfl, (List.forall_mem_cons.2 ⟨(rfl), (List.forall_mem_cons.2 ⟨(⟨none, 0, rfl, Nat.le_refl _, Nat.zero_le _, .inl rfl⟩), (fun _ h => by cases h)⟩)⟩)⟩)⟩)⟩)⟩)⟩)⟩)⟩, rfl⟩
 simp only [List.map_toArray, List.map_cons, List.map_nil, e0, e5]
 exact Zcj Tryd.underlying25 (zero := .agg #[.int .i64 0, .int .i64 0, .int .i64 0, .int .i64 0, .float .f64 0, .int .i64 0, .string ByteArray.empty, .slice none 0 0]) (by kernel_rfl) (places := [(0, 1), (1, 1), (2, 1), (3, 1), (4, 1), (5, 1), (6, 1), (7, 1)]) (by kernel_rfl) (by kernel_rfl) g.w
theorem Zzp {N d : Nat} {o : Oper} {uses : Z3}   (hop : o.op = .build 108 #[]) (hd : o.dst = some d)  : OB Tryd.prog N o uses [(d, Zdo.pd { word := ByteArray.empty, on := (0 : Int), has := ByteArray.empty })] [] := by
 refine Zcu hop hd fun a g hh => ?_
 refine ⟨.agg #[.string ByteArray.empty, .int .i64 0, .string ByteArray.empty], ?_, [.string ByteArray.empty, .int .i64 0, .string ByteArray.empty], ⟨rfl, (List.forall_mem_cons.2 ⟨(rfl), (List.forall_mem_cons.2 ⟨(rfl), (List.forall_mem_cons.2 ⟨(rfl), (fun _ h => by cases h)⟩)⟩)⟩)⟩, rfl⟩
 simp only [List.map_toArray, List.map_cons, List.map_nil, List.map_nil]
 exact Zcj Tryd.underlying108 (zero := .agg #[.string ByteArray.empty, .int .i64 0, .string ByteArray.empty]) (by kernel_rfl) (places := [(0, 1), (1, 1), (2, 1)]) (by kernel_rfl) (by kernel_rfl) g.w
theorem Zhu : Ty Tryd.prog 108 Zdo := ⟨by kernel_rfl, by kernel_rfl⟩
theorem Z0t : (Tryd.prog.info? 108).map (·.size) = some Zdo.sz := by kernel_rfl
theorem Zx7 : Zl Tryd.prog 62 := by
 unfold Zl
 kernel_rfl
theorem Zso : Fld Tryd.prog 108 1 Zdo (Kd.int .i64) (fun x : Zcv => x.on) := Fld.of ⟨_, (Kd.int .i64), 1, fun x : Zcv => x.on⟩ (List.mem_of_getElem? (i := 1) rfl) 1 rfl (by kernel_rfl) (by decide)
theorem Zx5 : Zl Tryd.prog 34 := by
 unfold Zl
 kernel_rfl
theorem Zdw : TE Tryd.prog 23 75 Zt 24 := TE.of Tryd.underlying23 (by kernel_rfl) (by decide) (by decide)
theorem Zrt : Zl Tryd.prog 64 := by
 unfold Zl
 kernel_rfl
theorem Zn5 {c : Option Nat} {N j s : Nat} {o : Oper} {uses : Z3} {x z : Operand} {v : Ze} {y0 y : List Zm} {v0 : Ze} {t : Nat} (hT : Ty Tryd.prog t Zt.sl) (hop : o.op = .store t x z) (hd : o.dst = none) (hs : Opd uses (.tmp s) (Zbn c Zg j v)) (hx : Opd uses x (Zeq Zg j v0 7 Zt.sl y0)) (hz : Opd uses z (Zt.sl.pd y)) : OB Tryd.prog N o uses [(s, Zbn c Zg j { v with List := y })] [j + 1] :=
 Zfp hT hop hd hs hx hz fun g cs ys hk hy => by
   have hc : cs.length = 8 := hk.1
   have hl : ys.length = 1 := Zt.sl.len hy
   exact ⟨by omega, (Zdd (by omega)).trans hc, (List.forall_mem_cons.2 ⟨(by show (Kd.int .i64).K g v.Kind (seg (Z2 cs 7 ys) 0 1); rw [Z0 (by omega) (by omega)]; exact hk.2 _ (List.mem_of_getElem? (i := 0) rfl)), (List.forall_mem_cons.2 ⟨(by show (Kd.int .i64).K g v.Num (seg (Z2 cs 7 ys) 1 1); rw [Z0 (by omega) (by omega)]; exact hk.2 _ (List.mem_of_getElem? (i := 1) rfl)), (List.forall_mem_cons.2 ⟨(by show (Kd.int .i64).K g v.Low (seg (Z2 cs 7 ys) 2 1); rw [Z0 (by omega) (by omega)]; exact hk.2 _ (List.mem_of_getElem? (i := 2) rfl)), (List.forall_mem_cons.2 ⟨(by show (Kd.int .i64).K g v.High (seg (Z2 cs 7 ys) 3 1); rw [Z0 (by omega) (by omega)]; exact hk.2 _ (List.mem_of_getElem? (i := 3) rfl)), (List.forall_mem_cons.2 ⟨(by show Kd.flt.K g v.Real (seg (Z2 cs 7 ys) 4 1); rw [Z0 (by omega) (by omega)]; exact hk.2 _ (List.mem_of_getElem? (i := 4) rfl)), (List.forall_mem_cons.2 ⟨(by show (Kd.int .i64).K g v.Cap (seg (Z2 cs 7 ys) 5 1); rw [Z0 (by omega) (by omega)]; exact hk.2 _ (List.mem_of_getElem? (i := 5) rfl)), (List.forall_mem_cons.2 ⟨(by show Kd.str.K g v.Text (seg (Z2 cs 7 ys) 6 1); rw [Z0 (by omega) (by omega)]; exact hk.2 _ (List.mem_of_getElem? (i := 6) rfl)), (List.forall_mem_cons.2 ⟨(by show Zt.sl.K g y (seg (Z2 cs 7 ys) 7 1); rw [Zdg (by omega) hl]; exact hy), (fun _ h => by cases h)⟩)⟩)⟩)⟩)⟩)⟩)⟩)⟩)⟩
theorem Zsb : Fld Tryd.prog 108 2 Zdo Kd.str (fun x : Zcv => x.has) := Fld.of ⟨_, Kd.str, 2, fun x : Zcv => x.has⟩ (List.mem_of_getElem? (i := 2) rfl) 2 rfl (by kernel_rfl) (by decide)
theorem Z0z : Zl Tryd.prog 111 := by
 unfold Zl
 kernel_rfl
theorem Z04 : Zl Tryd.prog 110 := by
 unfold Zl
 kernel_rfl
theorem Zpp : Zl Tryd.prog 104 := by
 unfold Zl
 kernel_rfl
theorem Zc3 : Fld Tryd.prog 37 2 Zy (Kd.int .i64) (fun x : Zr => x.N) := Fld.of ⟨_, (Kd.int .i64), 2, fun x : Zr => x.N⟩ (List.mem_of_getElem? (i := 2) rfl) 2 rfl (by kernel_rfl) (by decide)
theorem Zjq : Fld Tryd.prog 37 3 Zy Kd.flt (fun x : Zr => x.X) := Fld.of ⟨_, Kd.flt, 3, fun x : Zr => x.X⟩ (List.mem_of_getElem? (i := 3) rfl) 3 rfl (by kernel_rfl) (by decide)
theorem Zfc : Fld Tryd.prog 37 4 Zy Kd.str (fun x : Zr => x.S) := Fld.of ⟨_, Kd.str, 4, fun x : Zr => x.S⟩ (List.mem_of_getElem? (i := 4) rfl) 4 rfl (by kernel_rfl) (by decide)
theorem Zkk : Fld Tryd.prog 37 5 Zy Zg (fun x : Zr => x.Make) := Fld.of ⟨_, Zg, 5, fun x : Zr => x.Make⟩ (List.mem_of_getElem? (i := 5) rfl) 5 rfl (by kernel_rfl) (by decide)
theorem Z0g : Zl Tryd.prog 105 := by
 unfold Zl
 kernel_rfl
theorem Zce : Fld Tryd.prog 37 0 Zy (Kd.int .i64) (fun x : Zr => x.Kind) := Fld.of ⟨_, (Kd.int .i64), 0, fun x : Zr => x.Kind⟩ (List.mem_of_getElem? (i := 0) rfl) 0 rfl (by kernel_rfl) (by decide)
theorem Zxa : Fld Tryd.prog 108 0 Zdo Kd.str (fun x : Zcv => x.word) := Fld.of ⟨_, Kd.str, 0, fun x : Zcv => x.word⟩ (List.mem_of_getElem? (i := 0) rfl) 0 rfl (by kernel_rfl) (by decide)
theorem Zl4 : Fld Tryd.prog 37 1 Zy Kd.str (fun x : Zr => x.Key) := Fld.of ⟨_, Kd.str, 1, fun x : Zr => x.Key⟩ (List.mem_of_getElem? (i := 1) rfl) 1 rfl (by kernel_rfl) (by decide)
theorem Zgf : Ty Tryd.prog 37 Zy := ⟨by kernel_rfl, by kernel_rfl⟩
theorem Z26 : Zl Tryd.prog 78 := by
 unfold Zl
 kernel_rfl
theorem Z20 : Zl Tryd.prog 79 := by
 unfold Zl
 kernel_rfl
theorem Zt4 {c : Option Nat} {N j s : Nat} {o : Oper} {uses : Z3} {x z : Operand} {v : Ze} {y0 y : ByteArray} {v0 : Ze} {t : Nat} (hT : Ty Tryd.prog t Kd.str) (hop : o.op = .store t x z) (hd : o.dst = none) (hs : Opd uses (.tmp s) (Zbn c Zg j v)) (hx : Opd uses x (Zeq Zg j v0 6 Kd.str y0)) (hz : Opd uses z (Kd.str.pd y)) : OB Tryd.prog N o uses [(s, Zbn c Zg j { v with Text := y })] [j + 1] :=
 Zfp hT hop hd hs hx hz fun g cs ys hk hy => by
   have hc : cs.length = 8 := hk.1
   have hl : ys.length = 1 := Kd.str.len hy
   exact ⟨by omega, (Zdd (by omega)).trans hc, (List.forall_mem_cons.2 ⟨(by show (Kd.int .i64).K g v.Kind (seg (Z2 cs 6 ys) 0 1); rw [Z0 (by omega) (by omega)]; exact hk.2 _ (List.mem_of_getElem? (i := 0) rfl)), (List.forall_mem_cons.2 ⟨(by show (Kd.int .i64).K g v.Num (seg (Z2 cs 6 ys) 1 1); rw [Z0 (by omega) (by omega)]; exact hk.2 _ (List.mem_of_getElem? (i := 1) rfl)), (List.forall_mem_cons.2 ⟨(by show (Kd.int .i64).K g v.Low (seg (Z2 cs 6 ys) 2 1); rw [Z0 (by omega) (by omega)]; exact hk.2 _ (List.mem_of_getElem? (i := 2) rfl)), (List.forall_mem_cons.2 ⟨(by show (Kd.int .i64).K g v.High (seg (Z2 cs 6 ys) 3 1); rw [Z0 (by omega) (by omega)]; exact hk.2 _ (List.mem_of_getElem? (i := 3) rfl)), (List.forall_mem_cons.2 ⟨(by show Kd.flt.K g v.Real (seg (Z2 cs 6 ys) 4 1); rw [Z0 (by omega) (by omega)]; exact hk.2 _ (List.mem_of_getElem? (i := 4) rfl)), (List.forall_mem_cons.2 ⟨(by show (Kd.int .i64).K g v.Cap (seg (Z2 cs 6 ys) 5 1); rw [Z0 (by omega) (by omega)]; exact hk.2 _ (List.mem_of_getElem? (i := 5) rfl)), (List.forall_mem_cons.2 ⟨(by show Kd.str.K g y (seg (Z2 cs 6 ys) 6 1); rw [Zdg (by omega) hl]; exact hy), (List.forall_mem_cons.2 ⟨(by show Zt.sl.K g v.List (seg (Z2 cs 6 ys) 7 1); rw [Z0 (by omega) (by omega)]; exact hk.2 _ (List.mem_of_getElem? (i := 7) rfl)), (fun _ h => by cases h)⟩)⟩)⟩)⟩)⟩)⟩)⟩)⟩)⟩
theorem Zmt : Zl Tryd.prog 37 := by
 unfold Zl
 kernel_rfl
theorem Zzk : Fld Tryd.prog 79 2 Z5 Zg (fun x : Zw => x.Rec) := Fld.of ⟨_, Zg, 2, fun x : Zw => x.Rec⟩ (List.mem_of_getElem? (i := 2) rfl) 2 rfl (by kernel_rfl) (by decide)
theorem Zy5 {c : Option Nat} {N j s : Nat} {o : Oper} {uses : Z3} {x z : Operand} {v : Zw} {y0 y : Ze} {v0 : Zw} {t : Nat} (hT : Ty Tryd.prog t Zg) (hop : o.op = .store t x z) (hd : o.dst = none) (hs : Opd uses (.tmp s) (Zbn c Z5 j v)) (hx : Opd uses x (Zeq Z5 j v0 2 Zg y0)) (hz : Opd uses z (Zg.pd y)) : OB Tryd.prog N o uses [(s, Zbn c Z5 j { v with Rec := y })] [j + 1] :=
 Zfp hT hop hd hs hx hz fun g cs ys hk hy => by
   have hc : cs.length = 10 := hk.1
   have hl : ys.length = 8 := Zg.len hy
   exact ⟨by omega, (Zdd (by omega)).trans hc, (List.forall_mem_cons.2 ⟨(by show (Kd.int .i64).K g v.Code (seg (Z2 cs 2 ys) 0 1); rw [Z0 (by omega) (by omega)]; exact hk.2 _ (List.mem_of_getElem? (i := 0) rfl)), (List.forall_mem_cons.2 ⟨(by show (Kd.int .i64).K g v.Num (seg (Z2 cs 2 ys) 1 1); rw [Z0 (by omega) (by omega)]; exact hk.2 _ (List.mem_of_getElem? (i := 1) rfl)), (List.forall_mem_cons.2 ⟨(by show Zg.K g y (seg (Z2 cs 2 ys) 2 8); rw [Zdg (by omega) hl]; exact hy), (fun _ h => by cases h)⟩)⟩)⟩)⟩
theorem Zl9 {c : Option Nat} {N j s : Nat} {o : Oper} {uses : Z3} {x z : Operand} {v : Ze} {y0 y : Int} {v0 : Ze} {t : Nat} (hT : Ty Tryd.prog t (Kd.int .i64)) (hop : o.op = .store t x z) (hd : o.dst = none) (hs : Opd uses (.tmp s) (Zbn c Zg j v)) (hx : Opd uses x (Zeq Zg j v0 1 (Kd.int .i64) y0)) (hz : Opd uses z ((Kd.int .i64).pd y)) : OB Tryd.prog N o uses [(s, Zbn c Zg j { v with Num := y })] [j + 1] :=
 Zfp hT hop hd hs hx hz fun g cs ys hk hy => by
   have hc : cs.length = 8 := hk.1
   have hl : ys.length = 1 := (Kd.int .i64).len hy
   exact ⟨by omega, (Zdd (by omega)).trans hc, (List.forall_mem_cons.2 ⟨(by show (Kd.int .i64).K g v.Kind (seg (Z2 cs 1 ys) 0 1); rw [Z0 (by omega) (by omega)]; exact hk.2 _ (List.mem_of_getElem? (i := 0) rfl)), (List.forall_mem_cons.2 ⟨(by show (Kd.int .i64).K g y (seg (Z2 cs 1 ys) 1 1); rw [Zdg (by omega) hl]; exact hy), (List.forall_mem_cons.2 ⟨(by show (Kd.int .i64).K g v.Low (seg (Z2 cs 1 ys) 2 1); rw [Z0 (by omega) (by omega)]; exact hk.2 _ (List.mem_of_getElem? (i := 2) rfl)), (List.forall_mem_cons.2 ⟨(by show (Kd.int .i64).K g v.High (seg (Z2 cs 1 ys) 3 1); rw [Z0 (by omega) (by omega)]; exact hk.2 _ (List.mem_of_getElem? (i := 3) rfl)), (List.forall_mem_cons.2 ⟨(by show Kd.flt.K g v.Real (seg (Z2 cs 1 ys) 4 1); rw [Z0 (by omega) (by omega)]; exact hk.2 _ (List.mem_of_getElem? (i := 4) rfl)), (List.forall_mem_cons.2 ⟨(by show (Kd.int .i64).K g v.Cap (seg (Z2 cs 1 ys) 5 1); rw [Z0 (by omega) (by omega)]; exact hk.2 _ (List.mem_of_getElem? (i := 5) rfl)), (List.forall_mem_cons.2 ⟨(by show Kd.str.K g v.Text (seg (Z2 cs 1 ys) 6 1); rw [Z0 (by omega) (by omega)]; exact hk.2 _ (List.mem_of_getElem? (i := 6) rfl)), (List.forall_mem_cons.2 ⟨(by show Zt.sl.K g v.List (seg (Z2 cs 1 ys) 7 1); rw [Z0 (by omega) (by omega)]; exact hk.2 _ (List.mem_of_getElem? (i := 7) rfl)), (fun _ h => by cases h)⟩)⟩)⟩)⟩)⟩)⟩)⟩)⟩)⟩
theorem Zqd {c : Option Nat} {N j s : Nat} {o : Oper} {uses : Z3} {x z : Operand} {v : Ze} {y0 y : Nat} {v0 : Ze} {t : Nat} (hT : Ty Tryd.prog t Kd.flt) (hop : o.op = .store t x z) (hd : o.dst = none) (hs : Opd uses (.tmp s) (Zbn c Zg j v)) (hx : Opd uses x (Zeq Zg j v0 4 Kd.flt y0)) (hz : Opd uses z (Kd.flt.pd y)) : OB Tryd.prog N o uses [(s, Zbn c Zg j { v with Real := y })] [j + 1] :=
 Zfp hT hop hd hs hx hz fun g cs ys hk hy => by
   have hc : cs.length = 8 := hk.1
   have hl : ys.length = 1 := Kd.flt.len hy
   exact ⟨by omega, (Zdd (by omega)).trans hc, (List.forall_mem_cons.2 ⟨(by show (Kd.int .i64).K g v.Kind (seg (Z2 cs 4 ys) 0 1); rw [Z0 (by omega) (by omega)]; exact hk.2 _ (List.mem_of_getElem? (i := 0) rfl)), (List.forall_mem_cons.2 ⟨(by show (Kd.int .i64).K g v.Num (seg (Z2 cs 4 ys) 1 1); rw [Z0 (by omega) (by omega)]; exact hk.2 _ (List.mem_of_getElem? (i := 1) rfl)), (List.forall_mem_cons.2 ⟨(by show (Kd.int .i64).K g v.Low (seg (Z2 cs 4 ys) 2 1); rw [Z0 (by omega) (by omega)]; exact hk.2 _ (List.mem_of_getElem? (i := 2) rfl)), (List.forall_mem_cons.2 ⟨(by show (Kd.int .i64).K g v.High (seg (Z2 cs 4 ys) 3 1); rw [Z0 (by omega) (by omega)]; exact hk.2 _ (List.mem_of_getElem? (i := 3) rfl)), (List.forall_mem_cons.2 ⟨(by show Kd.flt.K g y (seg (Z2 cs 4 ys) 4 1); rw [Zdg (by omega) hl]; exact hy), (List.forall_mem_cons.2 ⟨(by show (Kd.int .i64).K g v.Cap (seg (Z2 cs 4 ys) 5 1); rw [Z0 (by omega) (by omega)]; exact hk.2 _ (List.mem_of_getElem? (i := 5) rfl)), (List.forall_mem_cons.2 ⟨(by show Kd.str.K g v.Text (seg (Z2 cs 4 ys) 6 1); rw [Z0 (by omega) (by omega)]; exact hk.2 _ (List.mem_of_getElem? (i := 6) rfl)), (List.forall_mem_cons.2 ⟨(by show Zt.sl.K g v.List (seg (Z2 cs 4 ys) 7 1); rw [Z0 (by omega) (by omega)]; exact hk.2 _ (List.mem_of_getElem? (i := 7) rfl)), (fun _ h => by cases h)⟩)⟩)⟩)⟩)⟩)⟩)⟩)⟩)⟩
theorem Znd : Zl Tryd.prog 106 := by
 unfold Zl
 kernel_rfl
theorem Z0l : Ty Tryd.prog 77 Kd.fnc := ⟨by kernel_rfl, by kernel_rfl⟩
theorem Z0q : Zl Tryd.prog 109 := by
 unfold Zl
 kernel_rfl
theorem Z0o : Zl Tryd.prog 108 := by
 unfold Zl
 kernel_rfl
theorem Z1i : Ext Tryd.prog 112 (Extern.SlicesOverlaps.overlaps #[23, 23] #[4]) := ⟨_, Tryd.func112, rfl, rfl, by kernel_rfl, by kernel_rfl⟩
theorem Zu4 : Zl Tryd.prog 95 := by
 unfold Zl
 kernel_rfl
theorem Zzx {N d : Nat} {o : Oper} {uses : Z3} {x1 : Operand} {v1 : ByteArray} (hop : o.op = .build 75 #[(1, x1)]) (hd : o.dst = some d) (h1 : Opd uses x1 (Kd.str.pd v1)) : OB Tryd.prog N o uses [(d, Zt.pd { Score := (0 : Nat), Name := v1 })] [] := by
 refine Zcu hop hd fun a g hh => ?_
 obtain ⟨c1, k1, e1⟩ := h1 a g hh
 obtain rfl := k1
 refine ⟨.agg #[.float .f64 0, .string v1], ?_, [.float .f64 0, .string v1], ⟨rfl, (List.forall_mem_cons.2 ⟨(rfl), (List.forall_mem_cons.2 ⟨rfl, (fun _ h => by cases h)⟩)⟩)⟩, rfl⟩
 simp only [List.map_toArray, List.map_cons, List.map_nil, e1]
 exact Zcj Tryd.underlying75 (zero := .agg #[.float .f64 0, .string ByteArray.empty]) (by kernel_rfl) (places := [(0, 1), (1, 1)]) (by kernel_rfl) (by kernel_rfl) g.w
theorem Zv0 : Zl Tryd.prog 107 := by
 unfold Zl
 kernel_rfl
theorem Z13 : Zl Tryd.prog 96 := by
 unfold Zl
 kernel_rfl
theorem Zvx {N d : Nat} {o : Oper} {uses : Z3} {x0 : Operand} {x1 : Operand} {v0 : Nat} {v1 : ByteArray} (hop : o.op = .build 75 #[(0, x0), (1, x1)]) (hd : o.dst = some d) (h0 : Opd uses x0 (Kd.flt.pd v0)) (h1 : Opd uses x1 (Kd.str.pd v1)) : OB Tryd.prog N o uses [(d, Zt.pd { Score := v0, Name := v1 })] [] := by
 refine Zcu hop hd fun a g hh => ?_
 obtain ⟨c0, k0, e0⟩ := h0 a g hh
 obtain rfl := k0
 obtain ⟨c1, k1, e1⟩ := h1 a g hh
 obtain rfl := k1
 refine ⟨.agg #[.float .f64 v0, .string v1], ?_, [.float .f64 v0, .string v1], ⟨rfl, (List.forall_mem_cons.2 ⟨rfl, (List.forall_mem_cons.2 ⟨rfl, (fun _ h => by cases h)⟩)⟩)⟩, rfl⟩
 simp only [List.map_toArray, List.map_cons, List.map_nil, e0, e1]
 exact Zcj Tryd.underlying75 (zero := .agg #[.float .f64 0, .string ByteArray.empty]) (by kernel_rfl) (places := [(0, 1), (1, 1)]) (by kernel_rfl) (by kernel_rfl) g.w
theorem Z2r : Zl Tryd.prog 82 := by
 unfold Zl
 kernel_rfl
theorem Z2d : Zl Tryd.prog 83 := by
 unfold Zl
 kernel_rfl
theorem Z18 : Zl Tryd.prog 84 := by
 unfold Zl
 kernel_rfl
theorem Z1u : Zl Tryd.prog 85 := by
 unfold Zl
 kernel_rfl
theorem Zx6 : Zl Tryd.prog 86 := by
 unfold Zl
 kernel_rfl
theorem Z2g : Zl Tryd.prog 87 := by
 unfold Zl
 kernel_rfl
theorem Z21 : Zl Tryd.prog 88 := by
 unfold Zl
 kernel_rfl
theorem Zx0 : Zl Tryd.prog 38 := by
 unfold Zl
 kernel_rfl
theorem Zx2 : Zl Tryd.prog 39 := by
 unfold Zl
 kernel_rfl
theorem Z24 : Zl Tryd.prog 90 := by
 unfold Zl
 kernel_rfl
theorem Z2a : Zl Tryd.prog 91 := by
 unfold Zl
 kernel_rfl
theorem Z1p : Zl Tryd.prog 92 := by
 unfold Zl
 kernel_rfl
theorem Z2s : Zl Tryd.prog 93 := by
 unfold Zl
 kernel_rfl
theorem Z16 : Zl Tryd.prog 94 := by
 unfold Zl
 kernel_rfl
theorem Z22 : Zl Tryd.prog 97 := by
 unfold Zl
 kernel_rfl
theorem Z29 : Zl Tryd.prog 98 := by
 unfold Zl
 kernel_rfl
theorem Zpc : Zl Tryd.prog 89 := by
 unfold Zl
 kernel_rfl
theorem Ztv {N d : Nat} {o : Oper} {uses : Z3} {x0 : Operand} {v0 : Int} (hop : o.op = .build 79 #[(0, x0)]) (hd : o.dst = some d) (h0 : Opd uses x0 ((Kd.int .i64).pd v0)) : OB Tryd.prog N o uses [(d, Z5.pd { Code := v0, Num := (0 : Int), Rec := (default : Ze) })] [] := by
 refine Zcu hop hd fun a g hh => ?_
 obtain ⟨c0, k0, e0⟩ := h0 a g hh
 obtain rfl := k0
 refine ⟨.agg #[.int .i64 v0, .int .i64 0, .int .i64 0, .int .i64 0, .int .i64 0, .int .i64 0, .float .f64 0, .int .i64 0, .string ByteArray.empty, .slice none 0 0], ?_, [.int .i64 v0, .int .i64 0, .int .i64 0, .int .i64 0, .int .i64 0, .int .i64 0, .float .f64 0, .int .i64 0, .string ByteArray.empty, .slice none 0 0], ⟨rfl, (List.forall_mem_cons.2 ⟨rfl, (List.forall_mem_cons.2 ⟨(rfl), (List.forall_mem_cons.2 ⟨(Zb4 _), (fun _ h => by cases h)⟩)⟩)⟩)⟩, rfl⟩
 simp only [List.map_toArray, List.map_cons, List.map_nil, e0]
 exact Zcj Tryd.underlying79 (zero := .agg #[.int .i64 0, .int .i64 0, .int .i64 0, .int .i64 0, .int .i64 0, .int .i64 0, .float .f64 0, .int .i64 0, .string ByteArray.empty, .slice none 0 0]) (by kernel_rfl) (places := [(0, 1), (1, 1), (2, 8)]) (by kernel_rfl) (by kernel_rfl) g.w
theorem Zec : Ty Tryd.prog 79 Z5 := ⟨by kernel_rfl, by kernel_rfl⟩
theorem Zyr : Zl Tryd.prog 58 := by
 unfold Zl
 kernel_rfl
theorem Zp5 : Zl Tryd.prog 67 := by
 unfold Zl
 kernel_rfl
theorem Zwj {N d : Nat} {o : Oper} {uses : Z3}   (hop : o.op = .build 79 #[]) (hd : o.dst = some d)  : OB Tryd.prog N o uses [(d, Z5.pd { Code := (0 : Int), Num := (0 : Int), Rec := (default : Ze) })] [] := by
 refine Zcu hop hd fun a g hh => ?_
 refine ⟨.agg #[.int .i64 0, .int .i64 0, .int .i64 0, .int .i64 0, .int .i64 0, .int .i64 0, .float .f64 0, .int .i64 0, .string ByteArray.empty, .slice none 0 0], ?_, [.int .i64 0, .int .i64 0, .int .i64 0, .int .i64 0, .int .i64 0, .int .i64 0, .float .f64 0, .int .i64 0, .string ByteArray.empty, .slice none 0 0], ⟨rfl, (List.forall_mem_cons.2 ⟨(rfl), (List.forall_mem_cons.2 ⟨(rfl), (List.forall_mem_cons.2 ⟨(Zb4 _), (fun _ h => by cases h)⟩)⟩)⟩)⟩, rfl⟩
 simp only [List.map_toArray, List.map_cons, List.map_nil, List.map_nil]
 exact Zcj Tryd.underlying79 (zero := .agg #[.int .i64 0, .int .i64 0, .int .i64 0, .int .i64 0, .int .i64 0, .int .i64 0, .float .f64 0, .int .i64 0, .string ByteArray.empty, .slice none 0 0]) (by kernel_rfl) (places := [(0, 1), (1, 1), (2, 8)]) (by kernel_rfl) (by kernel_rfl) g.w
theorem Zzd {N d : Nat} {o : Oper} {uses : Z3} {x1 : Operand} {v1 : Int} (hop : o.op = .build 79 #[(1, x1)]) (hd : o.dst = some d) (h1 : Opd uses x1 ((Kd.int .i64).pd v1)) : OB Tryd.prog N o uses [(d, Z5.pd { Code := (0 : Int), Num := v1, Rec := (default : Ze) })] [] := by
 refine Zcu hop hd fun a g hh => ?_
 obtain ⟨c1, k1, e1⟩ := h1 a g hh
 obtain rfl := k1
 refine ⟨.agg #[.int .i64 0, .int .i64 v1, .int .i64 0, .int .i64 0, .int .i64 0, .int .i64 0, .float .f64 0, .int .i64 0, .string ByteArray.empty, .slice none 0 0], ?_, [.int .i64 0, .int .i64 v1, .int .i64 0, .int .i64 0, .int .i64 0, .int .i64 0, .float .f64 0, .int .i64 0, .string ByteArray.empty, .slice none 0 0], ⟨rfl, (List.forall_mem_cons.2 ⟨(rfl), (List.forall_mem_cons.2 ⟨rfl, (List.forall_mem_cons.2 ⟨(Zb4 _), (fun _ h => by cases h)⟩)⟩)⟩)⟩, rfl⟩
 simp only [List.map_toArray, List.map_cons, List.map_nil, e1]
 exact Zcj Tryd.underlying79 (zero := .agg #[.int .i64 0, .int .i64 0, .int .i64 0, .int .i64 0, .int .i64 0, .int .i64 0, .float .f64 0, .int .i64 0, .string ByteArray.empty, .slice none 0 0]) (by kernel_rfl) (places := [(0, 1), (1, 1), (2, 8)]) (by kernel_rfl) (by kernel_rfl) g.w
theorem Zyw {N d : Nat} {o : Oper} {uses : Z3} {x2 : Operand} {v2 : Ze} (hop : o.op = .build 79 #[(2, x2)]) (hd : o.dst = some d) (h2 : Opd uses x2 (Zg.pd v2)) : OB Tryd.prog N o uses [(d, Z5.pd { Code := (0 : Int), Num := (0 : Int), Rec := v2 })] [] := by
 refine Zcu hop hd fun a g hh => ?_
 obtain ⟨c2, k2, e2⟩ := h2 a g hh
 obtain ⟨u2_0, u2_1, u2_2, u2_3, u2_4, u2_5, u2_6, u2_7, rfl⟩ := Zrs (Zg.len k2)
 refine ⟨.agg #[.int .i64 0, .int .i64 0, u2_0, u2_1, u2_2, u2_3, u2_4, u2_5, u2_6, u2_7], ?_, [.int .i64 0, .int .i64 0, u2_0, u2_1, u2_2, u2_3, u2_4, u2_5, u2_6, u2_7], ⟨rfl, (List.forall_mem_cons.2 ⟨(rfl), (List.forall_mem_cons.2 ⟨(rfl), (List.forall_mem_cons.2 ⟨k2, (fun _ h => by cases h)⟩)⟩)⟩)⟩, rfl⟩
 simp only [List.map_toArray, List.map_cons, List.map_nil, e2]
 exact Zcj Tryd.underlying79 (zero := .agg #[.int .i64 0, .int .i64 0, .int .i64 0, .int .i64 0, .int .i64 0, .int .i64 0, .float .f64 0, .int .i64 0, .string ByteArray.empty, .slice none 0 0]) (by kernel_rfl) (places := [(0, 1), (1, 1), (2, 8)]) (by kernel_rfl) (by kernel_rfl) g.w
theorem Z1s : Zl Tryd.prog 68 := by
 unfold Zl
 kernel_rfl
theorem Z2k : (Tryd.prog.info? 25).map (·.size) = some Zg.sz := by kernel_rfl
theorem Zte {N d : Nat} {o : Oper} {uses : Z3} {x0 : Operand} {x1 : Operand} {x4 : Operand} {v0 : Int} {v1 : ByteArray} {v4 : ByteArray} (hop : o.op = .build 37 #[(0, x0), (1, x1), (4, x4)]) (hd : o.dst = some d) (h0 : Opd uses x0 ((Kd.int .i64).pd v0)) (h1 : Opd uses x1 (Kd.str.pd v1)) (h4 : Opd uses x4 (Kd.str.pd v4)) : OB Tryd.prog N o uses [(d, Zy.pd { Kind := v0, Key := v1, N := (0 : Int), X := (0 : Nat), S := v4, Make := (default : Ze), Must := false })] [] := by
 refine Zcu hop hd fun a g hh => ?_
 obtain ⟨c0, k0, e0⟩ := h0 a g hh
 obtain rfl := k0
 obtain ⟨c1, k1, e1⟩ := h1 a g hh
 obtain rfl := k1
 obtain ⟨c4, k4, e4⟩ := h4 a g hh
 obtain rfl := k4
 refine ⟨.agg #[.int .i64 v0, .string v1, .int .i64 0, .float .f64 0, .string v4, .int .i64 0, .int .i64 0, .int .i64 0, .int .i64 0, .float .f64 0, .int .i64 0, .string ByteArray.empty, .slice none 0 0, .bool false], ?_, [.int .i64 v0, .string v1, .int .i64 0, .float .f64 0, .string v4, .int .i64 0, .int .i64 0, .int .i64 0, .int .i64 0, .float .f64 0, .int .i64 0, .string ByteArray.empty, .slice none 0 0, .bool false], ⟨rfl, (List.forall_mem_cons.2 ⟨rfl, (List.forall_mem_cons.2 ⟨rfl, (List.forall_mem_cons.2 ⟨(rfl), (List.forall_mem_cons.2 ⟨(rfl), (List.forall_mem_cons.2 ⟨rfl, (List.forall_mem_cons.2 ⟨(Zb4 _), (List.forall_mem_cons.2 ⟨(rfl), (fun _ h => by cases h)⟩)⟩)⟩)⟩)⟩)⟩)⟩)⟩, rfl⟩
 simp only [List.map_toArray, List.map_cons, List.map_nil, e0, e1, e4]
 exact Zcj Tryd.underlying37 (zero := .agg #[.int .i64 0, .string ByteArray.empty, .int .i64 0, .float .f64 0, .string ByteArray.empty, .int .i64 0, .int .i64 0, .int .i64 0, .int .i64 0, .float .f64 0, .int .i64 0, .string ByteArray.empty, .slice none 0 0, .bool false]) (by kernel_rfl) (places := [(0, 1), (1, 1), (2, 1), (3, 1), (4, 1), (5, 8), (13, 1)]) (by kernel_rfl) (by kernel_rfl) g.w
theorem Zqk {c : Option Nat} {N j s : Nat} {o : Oper} {uses : Z3} {x z : Operand} {v : Zr} {y0 y : Int} {v0 : Zr} {t : Nat} (hT : Ty Tryd.prog t (Kd.int .i64)) (hop : o.op = .store t x z) (hd : o.dst = none) (hs : Opd uses (.tmp s) (Zbn c Zy j v)) (hx : Opd uses x (Zeq Zy j v0 0 (Kd.int .i64) y0)) (hz : Opd uses z ((Kd.int .i64).pd y)) : OB Tryd.prog N o uses [(s, Zbn c Zy j { v with Kind := y })] [j + 1] :=
 Zfp hT hop hd hs hx hz fun g cs ys hk hy => by
   have hc : cs.length = 14 := hk.1
   have hl : ys.length = 1 := (Kd.int .i64).len hy
   exact ⟨by omega, (Zdd (by omega)).trans hc, (List.forall_mem_cons.2 ⟨(by show (Kd.int .i64).K g y (seg (Z2 cs 0 ys) 0 1); rw [Zdg (by omega) hl]; exact hy), (List.forall_mem_cons.2 ⟨(by show Kd.str.K g v.Key (seg (Z2 cs 0 ys) 1 1); rw [Z0 (by omega) (by omega)]; exact hk.2 _ (List.mem_of_getElem? (i := 1) rfl)), (List.forall_mem_cons.2 ⟨(by show (Kd.int .i64).K g v.N (seg (Z2 cs 0 ys) 2 1); rw [Z0 (by omega) (by omega)]; exact hk.2 _ (List.mem_of_getElem? (i := 2) rfl)), (List.forall_mem_cons.2 ⟨(by show Kd.flt.K g v.X (seg (Z2 cs 0 ys) 3 1); rw [Z0 (by omega) (by omega)]; exact hk.2 _ (List.mem_of_getElem? (i := 3) rfl)), (List.forall_mem_cons.2 ⟨(by show Kd.str.K g v.S (seg (Z2 cs 0 ys) 4 1); rw [Z0 (by omega) (by omega)]; exact hk.2 _ (List.mem_of_getElem? (i := 4) rfl)), (List.forall_mem_cons.2 ⟨(by show Zg.K g v.Make (seg (Z2 cs 0 ys) 5 8); rw [Z0 (by omega) (by omega)]; exact hk.2 _ (List.mem_of_getElem? (i := 5) rfl)), (List.forall_mem_cons.2 ⟨(by show Kd.bool.K g v.Must (seg (Z2 cs 0 ys) 13 1); rw [Z0 (by omega) (by omega)]; exact hk.2 _ (List.mem_of_getElem? (i := 6) rfl)), (fun _ h => by cases h)⟩)⟩)⟩)⟩)⟩)⟩)⟩)⟩
theorem Zz7 {c : Option Nat} {N j s : Nat} {o : Oper} {uses : Z3} {x z : Operand} {v : Zr} {y0 y : Nat} {v0 : Zr} {t : Nat} (hT : Ty Tryd.prog t Kd.flt) (hop : o.op = .store t x z) (hd : o.dst = none) (hs : Opd uses (.tmp s) (Zbn c Zy j v)) (hx : Opd uses x (Zeq Zy j v0 3 Kd.flt y0)) (hz : Opd uses z (Kd.flt.pd y)) : OB Tryd.prog N o uses [(s, Zbn c Zy j { v with X := y })] [j + 1] :=
 Zfp hT hop hd hs hx hz fun g cs ys hk hy => by
   have hc : cs.length = 14 := hk.1
   have hl : ys.length = 1 := Kd.flt.len hy
   exact ⟨by omega, (Zdd (by omega)).trans hc, (List.forall_mem_cons.2 ⟨(by show (Kd.int .i64).K g v.Kind (seg (Z2 cs 3 ys) 0 1); rw [Z0 (by omega) (by omega)]; exact hk.2 _ (List.mem_of_getElem? (i := 0) rfl)), (List.forall_mem_cons.2 ⟨(by show Kd.str.K g v.Key (seg (Z2 cs 3 ys) 1 1); rw [Z0 (by omega) (by omega)]; exact hk.2 _ (List.mem_of_getElem? (i := 1) rfl)), (List.forall_mem_cons.2 ⟨(by show (Kd.int .i64).K g v.N (seg (Z2 cs 3 ys) 2 1); rw [Z0 (by omega) (by omega)]; exact hk.2 _ (List.mem_of_getElem? (i := 2) rfl)), (List.forall_mem_cons.2 ⟨(by show Kd.flt.K g y (seg (Z2 cs 3 ys) 3 1); rw [Zdg (by omega) hl]; exact hy), (List.forall_mem_cons.2 ⟨(by show Kd.str.K g v.S (seg (Z2 cs 3 ys) 4 1); rw [Z0 (by omega) (by omega)]; exact hk.2 _ (List.mem_of_getElem? (i := 4) rfl)), (List.forall_mem_cons.2 ⟨(by show Zg.K g v.Make (seg (Z2 cs 3 ys) 5 8); rw [Z0 (by omega) (by omega)]; exact hk.2 _ (List.mem_of_getElem? (i := 5) rfl)), (List.forall_mem_cons.2 ⟨(by show Kd.bool.K g v.Must (seg (Z2 cs 3 ys) 13 1); rw [Z0 (by omega) (by omega)]; exact hk.2 _ (List.mem_of_getElem? (i := 6) rfl)), (fun _ h => by cases h)⟩)⟩)⟩)⟩)⟩)⟩)⟩)⟩
theorem Zxz : Zl Tryd.prog 40 := by
 unfold Zl
 kernel_rfl
theorem Zzm {c : Option Nat} {N j s : Nat} {o : Oper} {uses : Z3} {x z : Operand} {v : Zr} {y0 y : Int} {v0 : Zr} {t : Nat} (hT : Ty Tryd.prog t (Kd.int .i64)) (hop : o.op = .store t x z) (hd : o.dst = none) (hs : Opd uses (.tmp s) (Zbn c Zy j v)) (hx : Opd uses x (Zeq Zy j v0 2 (Kd.int .i64) y0)) (hz : Opd uses z ((Kd.int .i64).pd y)) : OB Tryd.prog N o uses [(s, Zbn c Zy j { v with N := y })] [j + 1] :=
 Zfp hT hop hd hs hx hz fun g cs ys hk hy => by
   have hc : cs.length = 14 := hk.1
   have hl : ys.length = 1 := (Kd.int .i64).len hy
   exact ⟨by omega, (Zdd (by omega)).trans hc, (List.forall_mem_cons.2 ⟨(by show (Kd.int .i64).K g v.Kind (seg (Z2 cs 2 ys) 0 1); rw [Z0 (by omega) (by omega)]; exact hk.2 _ (List.mem_of_getElem? (i := 0) rfl)), (List.forall_mem_cons.2 ⟨(by show Kd.str.K g v.Key (seg (Z2 cs 2 ys) 1 1); rw [Z0 (by omega) (by omega)]; exact hk.2 _ (List.mem_of_getElem? (i := 1) rfl)), (List.forall_mem_cons.2 ⟨(by show (Kd.int .i64).K g y (seg (Z2 cs 2 ys) 2 1); rw [Zdg (by omega) hl]; exact hy), (List.forall_mem_cons.2 ⟨(by show Kd.flt.K g v.X (seg (Z2 cs 2 ys) 3 1); rw [Z0 (by omega) (by omega)]; exact hk.2 _ (List.mem_of_getElem? (i := 3) rfl)), (List.forall_mem_cons.2 ⟨(by show Kd.str.K g v.S (seg (Z2 cs 2 ys) 4 1); rw [Z0 (by omega) (by omega)]; exact hk.2 _ (List.mem_of_getElem? (i := 4) rfl)), (List.forall_mem_cons.2 ⟨(by show Zg.K g v.Make (seg (Z2 cs 2 ys) 5 8); rw [Z0 (by omega) (by omega)]; exact hk.2 _ (List.mem_of_getElem? (i := 5) rfl)), (List.forall_mem_cons.2 ⟨(by show Kd.bool.K g v.Must (seg (Z2 cs 2 ys) 13 1); rw [Z0 (by omega) (by omega)]; exact hk.2 _ (List.mem_of_getElem? (i := 6) rfl)), (fun _ h => by cases h)⟩)⟩)⟩)⟩)⟩)⟩)⟩)⟩
theorem Znw {N d : Nat} {o : Oper} {uses : Z3} {x0 : Operand} {x1 : Operand} {v0 : Int} {v1 : Int} (hop : o.op = .build 96 #[(0, x0), (1, x1)]) (hd : o.dst = some d) (h0 : Opd uses x0 ((Kd.int .u64).pd v0)) (h1 : Opd uses x1 ((Kd.int .u64).pd v1)) : OB Tryd.prog N o uses [(d, Z1.pd { up := v0, down := v1 })] [] := by
 refine Zcu hop hd fun a g hh => ?_
 obtain ⟨c0, k0, e0⟩ := h0 a g hh
 obtain rfl := k0
 obtain ⟨c1, k1, e1⟩ := h1 a g hh
 obtain rfl := k1
 refine ⟨.agg #[.int .u64 v0, .int .u64 v1], ?_, [.int .u64 v0, .int .u64 v1], ⟨rfl, (List.forall_mem_cons.2 ⟨rfl, (List.forall_mem_cons.2 ⟨rfl, (fun _ h => by cases h)⟩)⟩)⟩, rfl⟩
 simp only [List.map_toArray, List.map_cons, List.map_nil, e0, e1]
 exact Zcj Tryd.underlying96 (zero := .agg #[.int .u64 0, .int .u64 0]) (by kernel_rfl) (places := [(0, 1), (1, 1)]) (by kernel_rfl) (by kernel_rfl) g.w
theorem Zd5 : Ty Tryd.prog 96 Z1 := ⟨by kernel_rfl, by kernel_rfl⟩
theorem Zoc {N d : Nat} {o : Oper} {uses : Z3} {x0 : Operand} {v0 : Int} (hop : o.op = .build 96 #[(0, x0)]) (hd : o.dst = some d) (h0 : Opd uses x0 ((Kd.int .u64).pd v0)) : OB Tryd.prog N o uses [(d, Z1.pd { up := v0, down := (0 : Int) })] [] := by
 refine Zcu hop hd fun a g hh => ?_
 obtain ⟨c0, k0, e0⟩ := h0 a g hh
 obtain rfl := k0
 refine ⟨.agg #[.int .u64 v0, .int .u64 0], ?_, [.int .u64 v0, .int .u64 0], ⟨rfl, (List.forall_mem_cons.2 ⟨rfl, (List.forall_mem_cons.2 ⟨(rfl), (fun _ h => by cases h)⟩)⟩)⟩, rfl⟩
 simp only [List.map_toArray, List.map_cons, List.map_nil, e0]
 exact Zcj Tryd.underlying96 (zero := .agg #[.int .u64 0, .int .u64 0]) (by kernel_rfl) (places := [(0, 1), (1, 1)]) (by kernel_rfl) (by kernel_rfl) g.w
theorem Zsr {N d : Nat} {o : Oper} {uses : Z3}   (hop : o.op = .build 96 #[]) (hd : o.dst = some d)  : OB Tryd.prog N o uses [(d, Z1.pd { up := (0 : Int), down := (0 : Int) })] [] := by
 refine Zcu hop hd fun a g hh => ?_
 refine ⟨.agg #[.int .u64 0, .int .u64 0], ?_, [.int .u64 0, .int .u64 0], ⟨rfl, (List.forall_mem_cons.2 ⟨(rfl), (List.forall_mem_cons.2 ⟨(rfl), (fun _ h => by cases h)⟩)⟩)⟩, rfl⟩
 simp only [List.map_toArray, List.map_cons, List.map_nil, List.map_nil]
 exact Zcj Tryd.underlying96 (zero := .agg #[.int .u64 0, .int .u64 0]) (by kernel_rfl) (places := [(0, 1), (1, 1)]) (by kernel_rfl) (by kernel_rfl) g.w
structure Zea where
 r : Ze
 by_ : SlV
def Zoi : List (Kd.FK Zea) := [⟨_, Zg, 0, fun x : Zea => x.r⟩,
 ⟨_, Kd.raw, 8, fun x : Zea => x.by_⟩]
def Zbj : Kd Zea := Kd.struct 9 Zoi (by rfl)
def Zbk (x : Zs) (s : SlV) : Zea := ⟨x.r, s⟩
theorem Zom {x : Zs} {g : G} {cs ys : List Value} {s0 s1 : SlV} (hk : Zbj.K g (Zbk x s0) cs) (hy : Kd.raw.K g s1 ys) : 8 + ys.length ≤ cs.length ∧ Zbj.K g (Zbk x s1) (Z2 cs 8 ys) := by
 have hc : cs.length = 9 := hk.1
 have hl : ys.length = 1 := Kd.raw.len hy
 exact ⟨by omega, (Zdd (by omega)).trans hc, (List.forall_mem_cons.2 ⟨(by show Zg.K g x.r (seg (Z2 cs 8 ys) 0 8); rw [Z0 (by omega) (by omega)]; exact hk.2 _ (List.mem_of_getElem? (i := 0) rfl)), (List.forall_mem_cons.2 ⟨(by show Kd.raw.K g s1 (seg (Z2 cs 8 ys) 8 1); rw [Zdg (by omega) hl]; exact hy), (fun _ h => by cases h)⟩)⟩)⟩
theorem Zsm : Fld Tryd.prog 94 0 Zbj Zg (fun x : Zea => x.r) := Fld.of ⟨_, Zg, 0, fun x : Zea => x.r⟩ (List.mem_of_getElem? (i := 0) rfl) 0 rfl (by kernel_rfl) (by decide)
theorem Zji : Fld Tryd.prog 94 1 Zbj Kd.raw (fun x : Zea => x.by_) := Fld.of ⟨_, Kd.raw, 8, fun x : Zea => x.by_⟩ (List.mem_of_getElem? (i := 1) rfl) 8 rfl (by kernel_rfl) (by decide)
theorem Zl6 : Ty Tryd.prog 92 Kd.raw := ⟨by kernel_rfl, by kernel_rfl⟩
theorem Zu7 : Ty Tryd.prog 92 Z1.sl := ⟨by kernel_rfl, by kernel_rfl⟩
abbrev Zb0 : Zs → List Zx := fun x => x.by_
theorem Zlc : Zrl Zbj Zbk Zb0 Z1 Zdz := fun g x s cs h hr => ⟨h.1, (List.forall_mem_cons.2 ⟨(h.2 _ (List.mem_of_getElem? (i := 0) rfl)), (List.forall_mem_cons.2 ⟨(Zs2 (h.2 _ (List.mem_of_getElem? (i := 1) rfl)) hr), (fun _ h => by cases h)⟩)⟩)⟩
abbrev Zby : Ob Zs := obS Zbj Zbk Zb0 Z1 96
theorem Zx9 : Zl Tryd.prog 10 := by
 unfold Zl
 kernel_rfl
theorem Zzn {N d : Nat} {o : Oper} {uses : Z3} {x0 : Operand} {v0 : Ze} (hop : o.op = .build 94 #[(0, x0)]) (hd : o.dst = some d) (h0 : Opd uses x0 (Zg.pd v0)) : OB Tryd.prog N o uses [(d, Zbj.pd { r := v0, by_ := ((none, 0, 0) : SlV) })] [] := by
 refine Zcu hop hd fun a g hh => ?_
 obtain ⟨c0, k0, e0⟩ := h0 a g hh
 obtain ⟨u0_0, u0_1, u0_2, u0_3, u0_4, u0_5, u0_6, u0_7, rfl⟩ := Zrs (Zg.len k0)
 refine ⟨.agg #[u0_0, u0_1, u0_2, u0_3, u0_4, u0_5, u0_6, u0_7, .slice none 0 0], ?_, [u0_0, u0_1, u0_2, u0_3, u0_4, u0_5, u0_6, u0_7, .slice none 0 0], ⟨rfl, (List.forall_mem_cons.2 ⟨k0, (List.forall_mem_cons.2 ⟨(rfl), (fun _ h => by cases h)⟩)⟩)⟩, rfl⟩
 simp only [List.map_toArray, List.map_cons, List.map_nil, e0]
 exact Zcj Tryd.underlying94 (zero := .agg #[.int .i64 0, .int .i64 0, .int .i64 0, .int .i64 0, .float .f64 0, .int .i64 0, .string ByteArray.empty, .slice none 0 0, .slice none 0 0]) (by kernel_rfl) (places := [(0, 8), (8, 1)]) (by kernel_rfl) (by kernel_rfl) g.w
theorem Z2v : Zl Tryd.prog 53 := by
 unfold Zl
 kernel_rfl
theorem Zig : Fld Tryd.prog 96 0 Z1 (Kd.int .u64) (fun x : Zx => x.up) := Fld.of ⟨_, (Kd.int .u64), 0, fun x : Zx => x.up⟩ (List.mem_of_getElem? (i := 0) rfl) 0 rfl (by kernel_rfl) (by decide)
theorem Ze5 : Ty Tryd.prog 62 (Kd.int .u64) := ⟨by kernel_rfl, by kernel_rfl⟩
theorem Zyj : Zl Tryd.prog 54 := by
 unfold Zl
 kernel_rfl
theorem Zjm : Fld Tryd.prog 96 1 Z1 (Kd.int .u64) (fun x : Zx => x.down) := Fld.of ⟨_, (Kd.int .u64), 1, fun x : Zx => x.down⟩ (List.mem_of_getElem? (i := 1) rfl) 1 rfl (by kernel_rfl) (by decide)
theorem Zrv : TE Tryd.prog 92 96 Z1 16 := TE.of Tryd.underlying92 (by kernel_rfl) (by decide) (by decide)
theorem Zqb : Fld Tryd.prog 94 1 Zdz Z1.sl (fun x : Zs => x.by_) := Fld.of ⟨_, Z1.sl, 8, fun x : Zs => x.by_⟩ (List.mem_of_getElem? (i := 1) rfl) 8 rfl (by kernel_rfl) (by decide)
theorem Zru : (Tryd.prog.info? 96).map (·.size) = some Z1.sz := by kernel_rfl
theorem Zt9 {N d : Nat} {o : Oper} {uses : Z3} {x1 : Operand} {v1 : Int} (hop : o.op = .build 96 #[(1, x1)]) (hd : o.dst = some d) (h1 : Opd uses x1 ((Kd.int .u64).pd v1)) : OB Tryd.prog N o uses [(d, Z1.pd { up := (0 : Int), down := v1 })] [] := by
 refine Zcu hop hd fun a g hh => ?_
 obtain ⟨c1, k1, e1⟩ := h1 a g hh
 obtain rfl := k1
 refine ⟨.agg #[.int .u64 0, .int .u64 v1], ?_, [.int .u64 0, .int .u64 v1], ⟨rfl, (List.forall_mem_cons.2 ⟨(rfl), (List.forall_mem_cons.2 ⟨rfl, (fun _ h => by cases h)⟩)⟩)⟩, rfl⟩
 simp only [List.map_toArray, List.map_cons, List.map_nil, e1]
 exact Zcj Tryd.underlying96 (zero := .agg #[.int .u64 0, .int .u64 0]) (by kernel_rfl) (places := [(0, 1), (1, 1)]) (by kernel_rfl) (by kernel_rfl) g.w
theorem Zz8 : Fld Tryd.prog 94 0 Zdz Zg (fun x : Zs => x.r) := Fld.of ⟨_, Zg, 0, fun x : Zs => x.r⟩ (List.mem_of_getElem? (i := 0) rfl) 0 rfl (by kernel_rfl) (by decide)
theorem Zl8 : ∀ (g g' : G) (x : Zx) (cs : List Value), Z1.K g x cs → Z1.K g' x cs := fun g g' x cs h => ⟨h.1, (List.forall_mem_cons.2 ⟨(h.2 _ (List.mem_of_getElem? (i := 0) rfl)), (List.forall_mem_cons.2 ⟨(h.2 _ (List.mem_of_getElem? (i := 1) rfl)), (fun _ h => by cases h)⟩)⟩)⟩
theorem Zpz : (Tryd.prog.info? 37).map (·.size) = some Zy.sz := by kernel_rfl
theorem Zyq : Zl Tryd.prog 12 := by
 unfold Zl
 kernel_rfl
theorem Z25 : Zl Tryd.prog 59 := by
 unfold Zl
 kernel_rfl
theorem Z0c {c : Option Nat} {N j s : Nat} {o : Oper} {uses : Z3} {x z : Operand} {v : Zx} {y0 y : Int} {v0 : Zx} {t : Nat} (hT : Ty Tryd.prog t (Kd.int .u64)) (hop : o.op = .store t x z) (hd : o.dst = none) (hs : Opd uses (.tmp s) (Zbn c Z1 j v)) (hx : Opd uses x (Zeq Z1 j v0 0 (Kd.int .u64) y0)) (hz : Opd uses z ((Kd.int .u64).pd y)) : OB Tryd.prog N o uses [(s, Zbn c Z1 j { v with up := y })] [j + 1] :=
 Zfp hT hop hd hs hx hz fun g cs ys hk hy => by
   have hc : cs.length = 2 := hk.1
   have hl : ys.length = 1 := (Kd.int .u64).len hy
   exact ⟨by omega, (Zdd (by omega)).trans hc, (List.forall_mem_cons.2 ⟨(by show (Kd.int .u64).K g y (seg (Z2 cs 0 ys) 0 1); rw [Zdg (by omega) hl]; exact hy), (List.forall_mem_cons.2 ⟨(by show (Kd.int .u64).K g v.down (seg (Z2 cs 0 ys) 1 1); rw [Z0 (by omega) (by omega)]; exact hk.2 _ (List.mem_of_getElem? (i := 1) rfl)), (fun _ h => by cases h)⟩)⟩)⟩
theorem Zzq {c : Option Nat} {N j s : Nat} {o : Oper} {uses : Z3} {x z : Operand} {v : Zx} {y0 y : Int} {v0 : Zx} {t : Nat} (hT : Ty Tryd.prog t (Kd.int .u64)) (hop : o.op = .store t x z) (hd : o.dst = none) (hs : Opd uses (.tmp s) (Zbn c Z1 j v)) (hx : Opd uses x (Zeq Z1 j v0 1 (Kd.int .u64) y0)) (hz : Opd uses z ((Kd.int .u64).pd y)) : OB Tryd.prog N o uses [(s, Zbn c Z1 j { v with down := y })] [j + 1] :=
 Zfp hT hop hd hs hx hz fun g cs ys hk hy => by
   have hc : cs.length = 2 := hk.1
   have hl : ys.length = 1 := (Kd.int .u64).len hy
   exact ⟨by omega, (Zdd (by omega)).trans hc, (List.forall_mem_cons.2 ⟨(by show (Kd.int .u64).K g v.up (seg (Z2 cs 1 ys) 0 1); rw [Z0 (by omega) (by omega)]; exact hk.2 _ (List.mem_of_getElem? (i := 0) rfl)), (List.forall_mem_cons.2 ⟨(by show (Kd.int .u64).K g y (seg (Z2 cs 1 ys) 1 1); rw [Zdg (by omega) hl]; exact hy), (fun _ h => by cases h)⟩)⟩)⟩
theorem Zts {N d : Nat} {o : Oper} {uses : Z3} {x0 : Operand} {x3 : Operand} {x1 : Operand} {v0 : Int} {v3 : Int} {v1 : Int} (hop : o.op = .build 25 #[(0, x0), (3, x3), (1, x1)]) (hd : o.dst = some d) (h0 : Opd uses x0 ((Kd.int .i64).pd v0)) (h3 : Opd uses x3 ((Kd.int .i64).pd v3)) (h1 : Opd uses x1 ((Kd.int .i64).pd v1)) : OB Tryd.prog N o uses [(d, Zg.pd { Kind := v0, Num := v1, Low := (0 : Int), High := v3, Real := (0 : Nat), Cap := (0 : Int), Text := ByteArray.empty, List := ([] : List Zm) })] [] := by
 refine Zcu hop hd fun a g hh => ?_
 obtain ⟨c0, k0, e0⟩ := h0 a g hh
 obtain rfl := k0
 obtain ⟨c1, k1, e1⟩ := h1 a g hh
 obtain rfl := k1
 obtain ⟨c3, k3, e3⟩ := h3 a g hh
 obtain rfl := k3
 refine ⟨.agg #[.int .i64 v0, .int .i64 v1, .int .i64 0, .int .i64 v3, .float .f64 0, .int .i64 0, .string ByteArray.empty, .slice none 0 0], ?_, [.int .i64 v0, .int .i64 v1, .int .i64 0, .int .i64 v3, .float .f64 0, .int .i64 0, .string ByteArray.empty, .slice none 0 0], ⟨rfl, (List.forall_mem_cons.2 ⟨rfl, (List.forall_mem_cons.2 ⟨rfl, (List.forall_mem_cons.2 ⟨(rfl), (List.forall_mem_cons.2 ⟨rfl, (List.forall_mem_cons.2 ⟨(rfl), (List.forall_mem_cons.2 ⟨(rfl), (List.forall_mem_cons.2 ⟨(rfl), (List.forall_mem_cons.2 ⟨(⟨none, 0, rfl, Nat.le_refl _, Nat.zero_le _, .inl rfl⟩), (fun _ h => by cases h)⟩)⟩)⟩)⟩)⟩)⟩)⟩)⟩)⟩, rfl⟩
 simp only [List.map_toArray, List.map_cons, List.map_nil, e0, e3, e1]
 exact Zcj Tryd.underlying25 (zero := .agg #[.int .i64 0, .int .i64 0, .int .i64 0, .int .i64 0, .float .f64 0, .int .i64 0, .string ByteArray.empty, .slice none 0 0]) (by kernel_rfl) (places := [(0, 1), (1, 1), (2, 1), (3, 1), (4, 1), (5, 1), (6, 1), (7, 1)]) (by kernel_rfl) (by kernel_rfl) g.w
theorem Zyd : Zl Tryd.prog 24 := by
 unfold Zl
 kernel_rfl
theorem Zpm : Zl Tryd.prog 27 := by
 unfold Zl
 kernel_rfl
theorem Ztk {N d : Nat} {o : Oper} {uses : Z3} {x0 : Operand} {x1 : Operand} {x2 : Operand} {v0 : Int} {v1 : ByteArray} {v2 : Int} (hop : o.op = .build 37 #[(0, x0), (1, x1), (2, x2)]) (hd : o.dst = some d) (h0 : Opd uses x0 ((Kd.int .i64).pd v0)) (h1 : Opd uses x1 (Kd.str.pd v1)) (h2 : Opd uses x2 ((Kd.int .i64).pd v2)) : OB Tryd.prog N o uses [(d, Zy.pd { Kind := v0, Key := v1, N := v2, X := (0 : Nat), S := ByteArray.empty, Make := (default : Ze), Must := false })] [] := by
 refine Zcu hop hd fun a g hh => ?_
 obtain ⟨c0, k0, e0⟩ := h0 a g hh
 obtain rfl := k0
 obtain ⟨c1, k1, e1⟩ := h1 a g hh
 obtain rfl := k1
 obtain ⟨c2, k2, e2⟩ := h2 a g hh
 obtain rfl := k2
 refine ⟨.agg #[.int .i64 v0, .string v1, .int .i64 v2, .float .f64 0, .string ByteArray.empty, .int .i64 0, .int .i64 0, .int .i64 0, .int .i64 0, .float .f64 0, .int .i64 0, .string ByteArray.empty, .slice none 0 0, .bool false], ?_, [.int .i64 v0, .string v1, .int .i64 v2, .float .f64 0, .string ByteArray.empty, .int .i64 0, .int .i64 0, .int .i64 0, .int .i64 0, .float .f64 0, .int .i64 0, .string ByteArray.empty, .slice none 0 0, .bool false], ⟨rfl, (List.forall_mem_cons.2 ⟨rfl, (List.forall_mem_cons.2 ⟨rfl, (List.forall_mem_cons.2 ⟨rfl, (List.forall_mem_cons.2 ⟨(rfl), (List.forall_mem_cons.2 ⟨(rfl), (List.forall_mem_cons.2 ⟨(Zb4 _), (List.forall_mem_cons.2 ⟨(rfl), (fun _ h => by cases h)⟩)⟩)⟩)⟩)⟩)⟩)⟩)⟩, rfl⟩
 simp only [List.map_toArray, List.map_cons, List.map_nil, e0, e1, e2]
 exact Zcj Tryd.underlying37 (zero := .agg #[.int .i64 0, .string ByteArray.empty, .int .i64 0, .float .f64 0, .string ByteArray.empty, .int .i64 0, .int .i64 0, .int .i64 0, .int .i64 0, .float .f64 0, .int .i64 0, .string ByteArray.empty, .slice none 0 0, .bool false]) (by kernel_rfl) (places := [(0, 1), (1, 1), (2, 1), (3, 1), (4, 1), (5, 8), (13, 1)]) (by kernel_rfl) (by kernel_rfl) g.w
theorem Zrq : TE Tryd.prog 60 37 Zy 152 := TE.of Tryd.underlying60 (by kernel_rfl) (by decide) (by decide)
theorem Zuo : Zl Tryd.prog 28 := by
 unfold Zl
 kernel_rfl
theorem Z2z : Zl Tryd.prog 16 := by
 unfold Zl
 kernel_rfl
theorem Z2b : TE Tryd.prog 33 25 Zg 88 := TE.of Tryd.underlying33 (by kernel_rfl) (by decide) (by decide)
theorem Z2x : Zl Tryd.prog 15 := by
 unfold Zl
 kernel_rfl
theorem Zyo : Zl Tryd.prog 30 := by
 unfold Zl
 kernel_rfl
theorem Zyk : (Tryd.prog.info? 39).map (·.size) = some Zbw.sz := by kernel_rfl
theorem Zrr : Ty Tryd.prog 39 Zbw := ⟨by kernel_rfl, by kernel_rfl⟩
theorem Zqo : Fld Tryd.prog 39 1 Zbw Zy (fun x : Zbp => x.Act) := Fld.of ⟨_, Zy, 1, fun x : Zbp => x.Act⟩ (List.mem_of_getElem? (i := 1) rfl) 1 rfl (by kernel_rfl) (by decide)
theorem Z10 : Zl Tryd.prog 31 := by
 unfold Zl
 kernel_rfl
theorem Zup : Zl Tryd.prog 72 := by
 unfold Zl
 kernel_rfl
theorem Zyh : Zl Tryd.prog 80 := by
 unfold Zl
 kernel_rfl
theorem Zuz : Zl Tryd.prog 63 := by
 unfold Zl
 kernel_rfl
theorem Zpi : Zl Tryd.prog 36 := by
 unfold Zl
 kernel_rfl
theorem Zyl : Zl Tryd.prog 71 := by
 unfold Zl
 kernel_rfl
theorem Zvi : TE Tryd.prog 122 9 Kd.str 16 := TE.of Tryd.underlying122 (by kernel_rfl) (by decide) (by decide)
theorem sz_9 : (Tryd.prog.info? 9).map (·.size) = some Kd.str.sz := by kernel_rfl
theorem Zu1 : Zl Tryd.prog 46 := by
 unfold Zl
 kernel_rfl
theorem Z1y : Zl Tryd.prog 74 := by
 unfold Zl
 kernel_rfl
theorem Z1v : Zl Tryd.prog 45 := by
 unfold Zl
 kernel_rfl
theorem Z1o : Zl Tryd.prog 44 := by
 unfold Zl
 kernel_rfl
theorem Z1x : Zl Tryd.prog 47 := by
 unfold Zl
 kernel_rfl
theorem Zva : Zl Tryd.prog 19 := by
 unfold Zl
 kernel_rfl
theorem Z1d : TE Tryd.prog 110 3 (Kd.int .i64) 8 := TE.of Tryd.underlying110 (by kernel_rfl) (by decide) (by decide)
theorem sz_3 : (Tryd.prog.info? 3).map (·.size) = some (Kd.int .i64).sz := by kernel_rfl
theorem Zuj : Zl Tryd.prog 35 := by
 unfold Zl
 kernel_rfl
theorem en_8 : Zl Tryd.prog 8 := by
 unfold Zl
 kernel_rfl
theorem en_9 : Zl Tryd.prog 9 := by
 unfold Zl
 kernel_rfl
theorem Z3d : Zl Tryd.prog 11 := by
 unfold Zl
 kernel_rfl
theorem Z2q : Zl Tryd.prog 13 := by
 unfold Zl
 kernel_rfl
theorem Z2h : Zl Tryd.prog 14 := by
 unfold Zl
 kernel_rfl
theorem Z23 : Zl Tryd.prog 75 := by
 unfold Zl
 kernel_rfl
theorem Zux : Zl Tryd.prog 48 := by
 unfold Zl
 kernel_rfl
theorem Z2i : Zl Tryd.prog 22 := by
 unfold Zl
 kernel_rfl
theorem Zn8 : Fld Tryd.prog 39 0 Zbw (Kd.int .i64) (fun x : Zbp => x.Worker) := Fld.of ⟨_, (Kd.int .i64), 0, fun x : Zbp => x.Worker⟩ (List.mem_of_getElem? (i := 0) rfl) 0 rfl (by kernel_rfl) (by decide)
theorem Zvh : TE Tryd.prog 67 62 (Kd.int .u64) 8 := TE.of Tryd.underlying67 (by kernel_rfl) (by decide) (by decide)
structure Zcb where
 R : Ze
 Up : SlV
 Down : SlV
def Zk7 : List (Kd.FK Zcb) := [⟨_, Zg, 0, fun x : Zcb => x.R⟩,
 ⟨_, Kd.raw, 8, fun x : Zcb => x.Up⟩,
 ⟨_, Kd.raw, 9, fun x : Zcb => x.Down⟩]
def Zbh : Kd Zcb := Kd.struct 10 Zk7 (by rfl)
def Zbo (x : Zi) (s : SlV × SlV) : Zcb := ⟨x.R, s.1, s.2⟩
abbrev Zbd : Zi → List Int := fun x => x.Up
abbrev Zbe : Zi → List Int := fun x => x.Down
theorem Zlv : Zr4 Zbh Zbo Zbd Zbe (Kd.int .u64) Zev := fun g x s cs h h1 h2 => ⟨h.1, (List.forall_mem_cons.2 ⟨(h.2 _ (List.mem_of_getElem? (i := 0) rfl)), (List.forall_mem_cons.2 ⟨(Zs2 (h.2 _ (List.mem_of_getElem? (i := 1) rfl)) h1), (List.forall_mem_cons.2 ⟨(Zs2 (h.2 _ (List.mem_of_getElem? (i := 2) rfl)) h2), (fun _ h => by cases h)⟩)⟩)⟩)⟩
abbrev Zb7 : Ob Zi := obS2 Zbh Zbo Zbd Zbe (Kd.int .u64) 62
theorem Zw5 : Fld Tryd.prog 69 0 Zbh Zg (fun x : Zcb => x.R) := Fld.of ⟨_, Zg, 0, fun x : Zcb => x.R⟩ (List.mem_of_getElem? (i := 0) rfl) 0 rfl (by kernel_rfl) (by decide)
theorem Zmf : Fld Tryd.prog 69 1 Zbh Kd.raw (fun x : Zcb => x.Up) := Fld.of ⟨_, Kd.raw, 8, fun x : Zcb => x.Up⟩ (List.mem_of_getElem? (i := 1) rfl) 8 rfl (by kernel_rfl) (by decide)
theorem Zo9 : Fld Tryd.prog 69 2 Zbh Kd.raw (fun x : Zcb => x.Down) := Fld.of ⟨_, Kd.raw, 9, fun x : Zcb => x.Down⟩ (List.mem_of_getElem? (i := 2) rfl) 9 rfl (by kernel_rfl) (by decide)
theorem Zkr : Ty Tryd.prog 67 Kd.raw := ⟨by kernel_rfl, by kernel_rfl⟩
theorem Zk6 {x : Zi} : ∀ (g : G) (cs : List Value) (s : SlV × SlV), Zbh.K g (Zbo x s) cs → seg cs 8 1 = [slv s.1] := fun g cs s h => h.2 _ (List.mem_of_getElem? (i := 1) rfl)
theorem Zk8 {x : Zi} : ∀ (g : G) (cs : List Value) (s : SlV × SlV), Zbh.K g (Zbo x s) cs → seg cs 9 1 = [slv s.2] := fun g cs s h => h.2 _ (List.mem_of_getElem? (i := 2) rfl)
theorem Z19 : Zl Tryd.prog 55 := by
 unfold Zl
 kernel_rfl
theorem Zyn : Zl Tryd.prog 56 := by
 unfold Zl
 kernel_rfl
theorem Ztj {N d : Nat} {o : Oper} {uses : Z3} {x0 : Operand} {x1 : Operand} {x2 : Operand} {v0 : Ze} {v1 : SlV} {v2 : SlV} (hop : o.op = .build 69 #[(0, x0), (1, x1), (2, x2)]) (hd : o.dst = some d) (h0 : Opd uses x0 (Zg.pd v0)) (h1 : Opd uses x1 (Kd.raw.pd v1)) (h2 : Opd uses x2 (Kd.raw.pd v2)) : OB Tryd.prog N o uses [(d, Zbh.pd { R := v0, Up := v1, Down := v2 })] [] := by
 refine Zcu hop hd fun a g hh => ?_
 obtain ⟨c0, k0, e0⟩ := h0 a g hh
 obtain ⟨u0_0, u0_1, u0_2, u0_3, u0_4, u0_5, u0_6, u0_7, rfl⟩ := Zrs (Zg.len k0)
 obtain ⟨c1, k1, e1⟩ := h1 a g hh
 obtain rfl := k1
 obtain ⟨c2, k2, e2⟩ := h2 a g hh
 obtain rfl := k2
 refine ⟨.agg #[u0_0, u0_1, u0_2, u0_3, u0_4, u0_5, u0_6, u0_7, slv v1, slv v2], ?_, [u0_0, u0_1, u0_2, u0_3, u0_4, u0_5, u0_6, u0_7, slv v1, slv v2], ⟨rfl, (List.forall_mem_cons.2 ⟨k0, (List.forall_mem_cons.2 ⟨rfl, (List.forall_mem_cons.2 ⟨rfl, (fun _ h => by cases h)⟩)⟩)⟩)⟩, rfl⟩
 simp only [List.map_toArray, List.map_cons, List.map_nil, e0, e1, e2]
 exact Zcj Tryd.underlying69 (zero := .agg #[.int .i64 0, .int .i64 0, .int .i64 0, .int .i64 0, .float .f64 0, .int .i64 0, .string ByteArray.empty, .slice none 0 0, .slice none 0 0, .slice none 0 0]) (by kernel_rfl) (places := [(0, 8), (8, 1), (9, 1)]) (by kernel_rfl) (by kernel_rfl) g.w
theorem Z2u : Zl Tryd.prog 57 := by
 unfold Zl
 kernel_rfl
theorem Zwl {N d : Nat} {o : Oper} {uses : Z3} {x0 : Operand} {x1 : Operand} {v0 : Ze} {v1 : List Zx} (hop : o.op = .build 94 #[(0, x0), (1, x1)]) (hd : o.dst = some d) (h0 : Opd uses x0 (Zg.pd v0)) (h1 : Opd uses x1 (Z1.sl.pd v1)) : OB Tryd.prog N o uses [(d, Zdz.pd { r := v0, by_ := v1 })] [] := by
 refine Zcu hop hd fun a g hh => ?_
 obtain ⟨c0, k0, e0⟩ := h0 a g hh
 obtain ⟨u0_0, u0_1, u0_2, u0_3, u0_4, u0_5, u0_6, u0_7, rfl⟩ := Zrs (Zg.len k0)
 obtain ⟨c1, k1, e1⟩ := h1 a g hh
 obtain ⟨A1, n1, rfl, l1⟩ := k1
 refine ⟨.agg #[u0_0, u0_1, u0_2, u0_3, u0_4, u0_5, u0_6, u0_7, .slice A1 v1.length n1], ?_, [u0_0, u0_1, u0_2, u0_3, u0_4, u0_5, u0_6, u0_7, .slice A1 v1.length n1], ⟨rfl, (List.forall_mem_cons.2 ⟨k0, (List.forall_mem_cons.2 ⟨⟨A1, n1, rfl, l1⟩, (fun _ h => by cases h)⟩)⟩)⟩, rfl⟩
 simp only [List.map_toArray, List.map_cons, List.map_nil, e0, e1]
 exact Zcj Tryd.underlying94 (zero := .agg #[.int .i64 0, .int .i64 0, .int .i64 0, .int .i64 0, .float .f64 0, .int .i64 0, .string ByteArray.empty, .slice none 0 0, .slice none 0 0]) (by kernel_rfl) (places := [(0, 8), (8, 1)]) (by kernel_rfl) (by kernel_rfl) g.w
theorem Ztt : Fld Tryd.prog 69 0 Zev Zg (fun x : Zi => x.R) := Fld.of ⟨_, Zg, 0, fun x : Zi => x.R⟩ (List.mem_of_getElem? (i := 0) rfl) 0 rfl (by kernel_rfl) (by decide)
theorem Zn7 : (Tryd.prog.info? 62).map (·.size) = some (Kd.int .u64).sz := by kernel_rfl
theorem Z2f : Zl Tryd.prog 60 := by
 unfold Zl
 kernel_rfl
theorem Z2p : Zl Tryd.prog 25 := by
 unfold Zl
 kernel_rfl
theorem Zy7 : Fld Tryd.prog 37 6 Zy Kd.bool (fun x : Zr => x.Must) := Fld.of ⟨_, Kd.bool, 13, fun x : Zr => x.Must⟩ (List.mem_of_getElem? (i := 6) rfl) 13 rfl (by kernel_rfl) (by decide)
theorem Z2l : Zl Tryd.prog 26 := by
 unfold Zl
 kernel_rfl
theorem Z1r : Zl Tryd.prog 29 := by
 unfold Zl
 kernel_rfl
theorem Zre (a0 : Int) {r : Zbv} (h : Zdp a0 = some r) : FnOk Tryd.prog 49 [(pInt .i64 a0)] (Zcs.pd r) := by
 have H0 := h
 unfold Zdp at H0
 clear h
 refine Zbt (N := 24) Tryd.func49 rfl rfl (Nat.le_of_ble_eq_true rfl) rfl rfl (fun a g0 hst hb => ?_)
 refine r_s (T := [⟨[], [(2, (pBox Zcs 2 (default : Zbv)))], [3], [], [2]⟩]) (F := [.old 0, .op 0 0]) hst hb Za
   (o_p rfl (Zbu (zs := [.bool false, .bool false, .bool false, .bool false, .bool false]) (by kernel_rfl) (fun g => Znv g) rfl rfl) <| o_n) (by kernel_rfl) (fun a g hst hb => ?_)
 refine wp_seq ?_
 refine r_s (T := [⟨[.old 0], _, [], [], [3]⟩]) (F := [.old 1, .op 0 0]) hst hb Za
   (o_p rfl (Zc rfl rfl u_0) <| o_n) (by kernel_rfl) (fun a g hst hb => ?_)
 refine wp_block ?_
 refine r_s (T := [⟨[.old 1], _, [], [], [5]⟩, ⟨[.op 0 0], _, [], [0], [4]⟩]) (F := [.old 0, .old 1, .op 1 0]) hst hb Za
   (o_p rfl (Z7 rfl rfl u_0 c_i) <| o_p rfl (Zb rfl rfl u_0) <| o_n) (by kernel_rfl) (fun a g hst hb => ?_)
 refine wp_cond_split (hst.bool 2 rfl) (fun hc1 => ?_) (fun hc1 => ?_)
 · replace H0 := Zp hc1 H0
   refine r_s (L := [(2, _)]) (T := [⟨[], _, [], [], [6]⟩, ⟨[.op 0 0, .old 0], _, [3], [0], [2]⟩]) (F := [.op 1 0]) (hst.pick [0] rfl) hb Za
     (o_p rfl (Zzb rfl rfl c_b) <| o_p rfl (Zba Zh3 rfl rfl u_1 u_0) <| o_n) (by kernel_rfl) (fun a g hst hb => ?_)
   refine wp_ret ?_
   refine Zo ?_
   refine Zk ?_
   obtain rfl := Option.some.inj H0
   obtain ⟨u0, hu0, hq0⟩ := Zbi (P := Tryd.prog) Zh3 (hst.at 0 rfl)
   exact Zz rfl hst hb hu0 hq0
 · replace H0 := Zq hc1 H0
   refine wp_seq ?_
   refine r_s (L := [(2, _), (3, _)]) (T := [⟨[.old 1], _, [], [], [8]⟩, ⟨[.op 0 0], _, [], [0], [7]⟩]) (F := [.old 0, .old 1, .op 1 0]) (hst.pick [0, 1] rfl) hb Za
     (o_p rfl (Z7 rfl rfl u_0 c_i) <| o_p rfl (Zb rfl rfl u_0) <| o_n) (by kernel_rfl) (fun a g hst hb => ?_)
   refine Zcl (fun a w => ∃ (j3 : Bool) (g : G), w = g.w ∧ St 24 [(2, (pBox Zcs 2 (default : Zbv))), (3, (pInt .i64 a0)), (7, (Z9 j3))] a g ∧ Base g0 g ∧ Zhv a0 j3 = some r) ?_ ?_
   · rintro a w ⟨j3, g, rfl, hst, hb, H0⟩
     unfold Zhv at H0
     refine Zn ?_
     refine wp_cond_split (hst.bool 2 rfl) (fun hc4 => ?_) (fun hc4 => ?_)
     · replace H0 := Zp hc4 H0
       refine r_s (L := [(2, _)]) (T := [⟨[], _, [], [], [10]⟩, ⟨[.op 0 0, .old 0], _, [3], [0], [2]⟩]) (F := [.op 1 0]) (hst.pick [0] rfl) hb Za
         (o_p rfl (Zzs rfl rfl c_b) <| o_p rfl (Zba Zh3 rfl rfl u_1 u_0) <| o_n) (by kernel_rfl) (fun a g hst hb => ?_)
       refine wp_ret ?_
       refine Zo ?_
       refine Zk ?_
       obtain rfl := Option.some.inj H0
       obtain ⟨u0, hu0, hq0⟩ := Zbi (P := Tryd.prog) Zh3 (hst.at 0 rfl)
       exact Zz rfl hst hb hu0 hq0
     · replace H0 := Zq hc4 H0
       refine r_s (L := [(2, _), (3, _)]) (T := [⟨[.old 1], _, [], [], [12]⟩, ⟨[.op 0 0], _, [], [0], [11]⟩]) (F := [.old 0, .old 1, .op 1 0]) (hst.pick [0, 1] rfl) hb Za
         (o_p rfl (Z7 rfl rfl u_0 c_i) <| o_p rfl (Zb rfl rfl u_0) <| o_n) (by kernel_rfl) (fun a g hst hb => ?_)
       refine wp_cond_split (hst.bool 2 rfl) (fun hc5 => ?_) (fun hc5 => ?_)
       · replace H0 := Zp hc5 H0
         refine r_s (L := [(2, _)]) (T := [⟨[], _, [], [], [13]⟩, ⟨[.op 0 0, .old 0], _, [3], [0], [2]⟩]) (F := [.op 1 0]) (hst.pick [0] rfl) hb Za
           (o_p rfl (Zvn rfl rfl c_b c_b) <| o_p rfl (Zba Zh3 rfl rfl u_1 u_0) <| o_n) (by kernel_rfl) (fun a g hst hb => ?_)
         refine wp_ret ?_
         refine Zo ?_
         refine Zk ?_
         obtain rfl := Option.some.inj H0
         obtain ⟨u0, hu0, hq0⟩ := Zbi (P := Tryd.prog) Zh3 (hst.at 0 rfl)
         exact Zz rfl hst hb hu0 hq0
       · replace H0 := Zq hc5 H0
         refine wp_seq ?_
         refine r_s (L := [(2, _), (3, _)]) (T := [⟨[.old 1], _, [], [], [15]⟩, ⟨[.op 0 0], _, [], [0], [14]⟩]) (F := [.old 0, .old 1, .op 1 0]) (hst.pick [0, 1] rfl) hb Za
           (o_p rfl (Z7 rfl rfl u_0 c_i) <| o_p rfl (Zb rfl rfl u_0) <| o_n) (by kernel_rfl) (fun a g hst hb => ?_)
         refine Zcl (fun a w => ∃ (j8 : Bool) (g : G), w = g.w ∧ St 24 [(2, (pBox Zcs 2 (default : Zbv))), (3, (pInt .i64 a0)), (14, (Z9 j8))] a g ∧ Base g0 g ∧ Zgh a0 j8 = some r) ?_ ?_
         · rintro a w ⟨j8, g, rfl, hst, hb, H0⟩
           unfold Zgh at H0
           refine Zn ?_
           refine wp_cond_split (hst.bool 2 rfl) (fun hc9 => ?_) (fun hc9 => ?_)
           · replace H0 := Zp hc9 H0
             refine r_s (L := [(2, _)]) (T := [⟨[], _, [], [], [18]⟩, ⟨[.op 0 0, .old 0], _, [3], [0], [2]⟩]) (F := [.op 1 0]) (hst.pick [0] rfl) hb Za
               (o_p rfl (Zzy rfl rfl c_b) <| o_p rfl (Zba Zh3 rfl rfl u_1 u_0) <| o_n) (by kernel_rfl) (fun a g hst hb => ?_)
             refine wp_ret ?_
             refine Zo ?_
             refine Zk ?_
             obtain rfl := Option.some.inj H0
             obtain ⟨u0, hu0, hq0⟩ := Zbi (P := Tryd.prog) Zh3 (hst.at 0 rfl)
             exact Zz rfl hst hb hu0 hq0
           · replace H0 := Zq hc9 H0
             refine wp_seq ?_
             refine r_s (L := [(2, _), (3, _)]) (T := [⟨[.old 1], _, [], [], [20]⟩, ⟨[.op 0 0], _, [], [0], [19]⟩]) (F := [.old 0, .old 1, .op 1 0]) (hst.pick [0, 1] rfl) hb Za
               (o_p rfl (Z7 rfl rfl u_0 c_i) <| o_p rfl (Zb rfl rfl u_0) <| o_n) (by kernel_rfl) (fun a g hst hb => ?_)
             refine Zcl (fun a w => ∃ (j11 : Bool) (g : G), w = g.w ∧ St 24 [(2, (pBox Zcs 2 (default : Zbv))), (19, (Z9 j11))] a g ∧ Base g0 g ∧ Zhq j11 = some r) ?_ ?_
             · rintro a w ⟨j11, g, rfl, hst, hb, H0⟩
               unfold Zhq at H0
               refine Zn ?_
               refine wp_cond_split (hst.bool 1 rfl) (fun hc12 => ?_) (fun hc12 => ?_)
               · replace H0 := Zp hc12 H0
                 refine r_s (L := [(2, _)]) (T := [⟨[], _, [], [], [22]⟩, ⟨[.op 0 0, .old 0], _, [3], [0], [2]⟩]) (F := [.op 1 0]) (hst.pick [0] rfl) hb Za
                   (o_p rfl (Zzc rfl rfl c_b) <| o_p rfl (Zba Zh3 rfl rfl u_1 u_0) <| o_n) (by kernel_rfl) (fun a g hst hb => ?_)
                 refine wp_ret ?_
                 refine Zo ?_
                 refine Zk ?_
                 obtain rfl := Option.some.inj H0
                 obtain ⟨u0, hu0, hq0⟩ := Zbi (P := Tryd.prog) Zh3 (hst.at 0 rfl)
                 exact Zz rfl hst hb hu0 hq0
               · replace H0 := Zq hc12 H0
                 refine wp_skip ?_
                 refine Zbg ?_
                 refine Zn ?_
                 refine r_s (L := [(2, _)]) (T := [⟨[], _, [], [], [23]⟩, ⟨[.op 0 0, .old 0], _, [3], [0], [2]⟩]) (F := [.op 1 0]) (hst.pick [0] rfl) hb Za
                   (o_p rfl (Z05 rfl rfl ) <| o_p rfl (Zba Zh3 rfl rfl u_1 u_0) <| o_n) (by kernel_rfl) (fun a g hst hb => ?_)
                 refine wp_ret ?_
                 obtain rfl := Option.some.inj H0
                 obtain ⟨u0, hu0, hq0⟩ := Zbi (P := Tryd.prog) Zh3 (hst.at 0 rfl)
                 exact Zz rfl hst hb hu0 hq0
             · refine wp_cond_split (hst.bool 2 rfl) (fun hc10 => ?_) (fun hc10 => ?_)
               · replace H0 := Zp hc10 H0
                 refine wp_skip ?_
                 exact ⟨(a0 == (8 : Int)), g, rfl, (hst.pick [0, 2] rfl), hb, H0⟩
               · replace H0 := Zq hc10 H0
                 refine r_g (L := [(2, _), (3, _)]) (T := [⟨[.old 1], _, [], [], [21]⟩, ⟨[.op 0 0], _, [], [0], [19]⟩]) (F := [.old 0, .op 1 0]) (hst.pick [0, 1] rfl) hb Za
                   (o_p rfl (Z7 rfl rfl u_0 c_i) <| o_p rfl (Zb rfl rfl u_0) <| o_n) (by kernel_rfl) (fun a g hst hb => ?_)
                 exact ⟨(a0 == (9 : Int)), g, rfl, (hst.pick [0, 1] rfl), hb, H0⟩
         · refine wp_cond_split (hst.bool 2 rfl) (fun hc6 => ?_) (fun hc6 => ?_)
           · replace H0 := Zp hc6 H0
             refine wp_skip ?_
             exact ⟨(a0 == (5 : Int)), g, rfl, (hst.pick [0, 1, 2] rfl), hb, H0⟩
           · replace H0 := Zq hc6 H0
             refine r_s (L := [(2, _), (3, _)]) (T := [⟨[.old 1], _, [], [], [16]⟩, ⟨[.op 0 0], _, [], [0], [14]⟩]) (F := [.old 0, .old 1, .op 1 0]) (hst.pick [0, 1] rfl) hb Za
               (o_p rfl (Z7 rfl rfl u_0 c_i) <| o_p rfl (Zb rfl rfl u_0) <| o_n) (by kernel_rfl) (fun a g hst hb => ?_)
             refine wp_cond_split (hst.bool 2 rfl) (fun hc7 => ?_) (fun hc7 => ?_)
             · replace H0 := Zp hc7 H0
               refine wp_skip ?_
               exact ⟨(a0 == (6 : Int)), g, rfl, (hst.pick [0, 1, 2] rfl), hb, H0⟩
             · replace H0 := Zq hc7 H0
               refine r_g (L := [(2, _), (3, _)]) (T := [⟨[.old 1], _, [], [], [17]⟩, ⟨[.op 0 0], _, [], [0], [14]⟩]) (F := [.old 0, .old 1, .op 1 0]) (hst.pick [0, 1] rfl) hb Za
                 (o_p rfl (Z7 rfl rfl u_0 c_i) <| o_p rfl (Zb rfl rfl u_0) <| o_n) (by kernel_rfl) (fun a g hst hb => ?_)
               exact ⟨(a0 == (7 : Int)), g, rfl, (hst.pick [0, 1, 2] rfl), hb, H0⟩
   · refine wp_cond_split (hst.bool 2 rfl) (fun hc2 => ?_) (fun hc2 => ?_)
     · replace H0 := Zp hc2 H0
       refine wp_skip ?_
       exact ⟨(a0 == (2 : Int)), g, rfl, (hst.pick [0, 1, 2] rfl), hb, H0⟩
     · replace H0 := Zq hc2 H0
       refine r_g (L := [(2, _), (3, _)]) (T := [⟨[.old 1], _, [], [], [9]⟩, ⟨[.op 0 0], _, [], [0], [7]⟩]) (F := [.old 0, .old 1, .op 1 0]) (hst.pick [0, 1] rfl) hb Za
         (o_p rfl (Z7 rfl rfl u_0 c_i) <| o_p rfl (Zb rfl rfl u_0) <| o_n) (by kernel_rfl) (fun a g hst hb => ?_)
       exact ⟨(a0 == (3 : Int)), g, rfl, (hst.pick [0, 1, 2] rfl), hb, H0⟩
theorem Zlm {r : Nat} (h : Ziw = some r) : FnOk Tryd.prog 33 [] (pFlt r) := by
 have H0 := h
 unfold Ziw at H0
 clear h
 refine Zbt (N := 2) Tryd.func33 rfl rfl (Nat.le_of_ble_eq_true rfl) rfl rfl (fun a g0 hst hb => ?_)
 refine r_s (T := [⟨[], _, [], [], [0]⟩]) (F := []) hst hb Za
   (o_p rfl (Zb rfl rfl c_f) <| o_n) (by kernel_rfl) (fun a g hst hb => ?_)
 refine r_s (T := [⟨[], _, [], [], [1]⟩, ⟨[.op 0 0], _, [], [0], [0]⟩]) (F := [.op 1 0]) hst hb Za
   (o_p rfl (Zos Zyc rfl rfl c_i) <| o_p rfl (Zb rfl rfl u_0) <| o_n) (by kernel_rfl) (fun a g hst hb => ?_)
 refine wp_ret ?_
 obtain rfl := Option.some.inj H0
 exact Zz rfl hst hb (Zh (s := 0)) (hst.at 0 rfl)
theorem Zfk (a0 : Nat) {r : Nat} (h : Zee a0 = some r) : FnOk Tryd.prog 66 [(pFlt a0)] (pFlt r) := by
 have H0 := h
 unfold Zee at H0
 clear h
 refine Zbt (N := 8) Tryd.func66 rfl rfl (Nat.le_of_ble_eq_true rfl) rfl rfl (fun a g0 hst hb => ?_)
 refine r_s (T := [⟨[], _, [], [], [2]⟩]) (F := [.old 0]) hst hb Za
   (o_p rfl (Zb rfl rfl c_f) <| o_n) (by kernel_rfl) (fun a g hst hb => ?_)
 refine wp_seq ?_
 refine r_s (T := [⟨[.old 0], _, [], [], [3]⟩, ⟨[.old 0], _, [], [], [4]⟩, ⟨[.op 0 0, .op 1 0], _, [], [0, 1], [5]⟩]) (F := [.old 0, .op 2 0]) hst hb Za
   (o_p rfl (Zc rfl rfl u_0) <| o_p rfl (Zc rfl rfl u_0) <| o_p rfl (Zue rfl rfl u_0 u_1) <| o_n) (by kernel_rfl) (fun a g hst hb => ?_)
 refine wp_cond_split (hst.bool 1 rfl) (fun hc1 => ?_) (fun hc1 => ?_)
 · replace H0 := Zp hc1 H0
   obtain ⟨r2, h3, H0⟩ := Zj H0
   refine r_s (L := []) (T := [⟨[], _, [], [], [6]⟩, ⟨[.op 0 0], _, [], [0], [2]⟩]) (F := [.op 1 0]) (hst.pick [] rfl) hb Za
     (o_p rfl (Zu Zuu (Zlm h3) rfl rfl .nil) <| o_p rfl (Zb rfl rfl u_0) <| o_n) (by kernel_rfl) (fun a g hst hb => ?_)
   refine wp_ret ?_
   refine Zk ?_
   obtain rfl := Option.some.inj H0
   exact Zz rfl hst hb (Zh (s := 2)) (hst.at 0 rfl)
 · replace H0 := Zq hc1 H0
   refine wp_skip ?_
   refine Zn ?_
   refine r_s (L := [(0, _)]) (T := [⟨[.old 0], _, [], [], [7]⟩, ⟨[.op 0 0], _, [], [0], [2]⟩]) (F := [.op 1 0]) (hst.pick [0] rfl) hb Za
     (o_p rfl (Zc rfl rfl u_0) <| o_p rfl (Zb rfl rfl u_0) <| o_n) (by kernel_rfl) (fun a g hst hb => ?_)
   refine wp_ret ?_
   obtain rfl := Option.some.inj H0
   exact Zz rfl hst hb (Zh (s := 2)) (hst.at 0 rfl)
theorem Zkd (a0 : Nat) {r : Int} (h : Zi1 a0 = some r) : FnOk Tryd.prog 81 [(pFlt a0)] (pInt .u64 r) := by
 have H0 := h
 unfold Zi1 at H0
 clear h
 refine Zbt (N := 14) Tryd.func81 rfl rfl (Nat.le_of_ble_eq_true rfl) rfl rfl (fun a g0 hst hb => ?_)
 refine r_s (T := [⟨[], _, [], [], [2]⟩]) (F := [.old 0]) hst hb Za
   (o_p rfl (Zb rfl rfl c_i) <| o_n) (by kernel_rfl) (fun a g hst hb => ?_)
 obtain ⟨r1, h2, H0⟩ := Zj H0
 refine r_s (T := [⟨[.old 0], _, [], [], [4]⟩, ⟨[.op 0 0], _, [], [0], [5]⟩, ⟨[.op 1 0], _, [], [0, 1], [6]⟩, ⟨[.op 2 0], _, [], [0, 1, 2], [3]⟩]) (F := [.op 3 0]) hst hb Za
   (o_p rfl (Zc rfl rfl u_0) <| o_p rfl (Zu Zlh (Zfk _ h2) rfl rfl (.cons u_0 .nil)) <| o_p rfl (Zn4 Zrn rfl rfl u_0) <| o_p rfl (Zb rfl rfl u_0) <| o_n) (by kernel_rfl) (fun a g hst hb => ?_)
 refine wp_seq ?_
 refine r_s (T := [⟨[.old 0], _, [], [], [7]⟩, ⟨[.op 0 0], _, [], [0], [8]⟩, ⟨[.op 1 0], _, [], [0, 1], [9]⟩]) (F := [.old 0, .op 2 0]) hst hb Za
   (o_p rfl (Zc rfl rfl u_0) <| o_p rfl (Z03 rfl rfl u_0 c_i) <| o_p rfl (Zcp rfl rfl u_0 c_i) <| o_n) (by kernel_rfl) (fun a g hst hb => ?_)
 refine wp_cond_split (hst.bool 1 rfl) (fun hc3 => ?_) (fun hc3 => ?_)
 · replace H0 := Zp hc3 H0
   refine r_s (L := [(3, _)]) (T := [⟨[.old 0], _, [], [], [10]⟩, ⟨[.op 0 0], _, [], [0], [11]⟩, ⟨[.op 1 0], _, [], [0, 1], [2]⟩]) (F := [.op 2 0]) (hst.pick [0] rfl) hb Za
     (o_p rfl (Zc rfl rfl u_0) <| o_p rfl (Zyz rfl rfl rfl u_0) <| o_p rfl (Zb rfl rfl u_0) <| o_n) (by kernel_rfl) (fun a g hst hb => ?_)
   refine wp_ret ?_
   refine Zk ?_
   obtain rfl := Option.some.inj H0
   exact Zz rfl hst hb (Zh (s := 2)) (hst.at 0 rfl)
 · replace H0 := Zq hc3 H0
   refine wp_skip ?_
   refine Zn ?_
   refine r_s (L := [(3, _)]) (T := [⟨[.old 0], _, [], [], [12]⟩, ⟨[.op 0 0], _, [], [0], [13]⟩, ⟨[.op 1 0], _, [], [0, 1], [2]⟩]) (F := [.op 2 0]) (hst.pick [0] rfl) hb Za
     (o_p rfl (Zc rfl rfl u_0) <| o_p rfl (Z1q rfl rfl u_0 c_i) <| o_p rfl (Zb rfl rfl u_0) <| o_n) (by kernel_rfl) (fun a g hst hb => ?_)
   refine wp_ret ?_
   obtain rfl := Option.some.inj H0
   exact Zz rfl hst hb (Zh (s := 2)) (hst.at 0 rfl)
theorem Zhx (a0 : Nat) (a1 : Nat) {r : Bool} (h : Zg1 a0 a1 = some r) : FnOk Tryd.prog 76 [(pFlt a0), (pFlt a1)] (Z9 r) := by
 have H0 := h
 unfold Zg1 at H0
 clear h
 refine Zbt (N := 10) Tryd.func76 rfl rfl (Nat.le_of_ble_eq_true rfl) rfl rfl (fun a g0 hst hb => ?_)
 refine r_s (T := [⟨[], _, [], [], [4]⟩]) (F := [.old 0, .old 1]) hst hb Za
   (o_p rfl (Zb rfl rfl c_b) <| o_n) (by kernel_rfl) (fun a g hst hb => ?_)
 obtain ⟨r1, h2, H0⟩ := Zj H0; obtain ⟨r3, h4, H0⟩ := Zj H0
 refine r_s (T := [⟨[.old 0], _, [], [], [5]⟩, ⟨[.op 0 0], _, [], [0], [6]⟩, ⟨[.old 1], _, [], [], [7]⟩, ⟨[.op 2 0], _, [], [0, 1, 2], [8]⟩, ⟨[.op 1 0, .op 3 0], _, [], Lr 4, [9]⟩, ⟨[.op 4 0], _, [], Lr 5, [4]⟩]) (F := [.op 5 0]) hst hb Za
   (o_p rfl (Zc rfl rfl u_0) <| o_p rfl (Zu Zr0 (Zkd _ h2) rfl rfl (.cons u_0 .nil)) <| o_p rfl (Zc rfl rfl u_0) <| o_p rfl (Zu Zr0 (Zkd _ h4) rfl rfl (.cons u_0 .nil)) <| o_p rfl (Z7 rfl rfl u_0 u_1) <| o_p rfl (Zb rfl rfl u_0) <| o_n) (by kernel_rfl) (fun a g hst hb => ?_)
 refine wp_ret ?_
 obtain rfl := Option.some.inj H0
 exact Zz rfl hst hb (Zh (s := 4)) (hst.at 0 rfl)
theorem Ztc (a0 : Ze) (a1 : Zbv) {r : Bool} (h : Zkz a0 a1 = some r) : FnOk Tryd.prog 50 [(Zg.pd a0), (Zcs.pd a1)] (Z9 r) := by
 have H0 := h
 unfold Zkz at H0
 clear h
 refine Zbt (N := 59) Tryd.func50 rfl rfl (Nat.le_of_ble_eq_true rfl) rfl rfl (fun a g0 hst hb => ?_)
 refine r_s (T := [⟨[.old 0], _, [], [], [2]⟩, ⟨[.old 1], _, [], [], [3]⟩, ⟨[], _, [], [], [4]⟩]) (F := [.op 0 0, .op 1 0]) hst hb Za
   (o_p rfl (Zbq rfl rfl u_0) <| o_p rfl (Zbq rfl rfl u_0) <| o_p rfl (Zb rfl rfl c_b) <| o_n) (by kernel_rfl) (fun a g hst hb => ?_)
 obtain ⟨r1, h2, H0⟩ := Zj H0
 refine r_s (T := ⟨[.old 1], _, [], [], [5]⟩ :: ⟨[.op 0 0], _, [], [0], [6]⟩ :: ⟨[.op 1 0], _, [], [0, 1], [7]⟩ :: ⟨[.op 2 0, .old 0], _, [], [0, 1, 2], [8]⟩ :: ⟨[.op 2 0, .op 3 0], _, [], Lr 4, [9]⟩ :: ⟨[.op 2 0, .op 4 0], _, [], Lr 5, [10]⟩ :: ⟨[.op 2 0, .op 5 0], _, [], Lr 6, [11]⟩ :: ⟨[.op 6 0], _, [], Lr 7, [12]⟩ :: ⟨[.op 7 0, .old 1], _, [], Lr 8, [13]⟩ :: ⟨[.op 7 0, .op 8 0], _, [], Lr 9, [14]⟩ :: ⟨[.op 7 0, .op 9 0], _, [], Lr 10, [15]⟩ :: ⟨[.op 10 0, .old 0], _, [], Lr 11, [16]⟩ :: ⟨[.op 10 0, .op 11 0], _, [], Lr 12, [17]⟩ :: ⟨[.op 10 0, .op 12 0], _, [], Lr 13, [18]⟩ :: ⟨[.op 7 0, .op 10 0, .op 13 0], _, [], Lr 14, [19]⟩ :: ⟨[.op 7 0, .op 14 0], _, [], Lr 15, [20]⟩ :: ⟨[.op 15 0], _, [], Lr 16, [21]⟩ :: ⟨[.op 16 0, .old 1], _, [], Lr 17, [22]⟩ :: ⟨[.op 16 0, .op 17 0], _, [], Lr 18, [23]⟩ :: ⟨[.op 16 0, .op 18 0], _, [], Lr 19, [24]⟩ :: ⟨[.op 19 0, .old 0], _, [], Lr 20, [25]⟩ :: ⟨[.op 19 0, .op 20 0], _, [], Lr 21, [26]⟩ :: ⟨[.op 19 0, .op 21 0], _, [], Lr 22, [27]⟩ :: ⟨[.op 19 0, .op 22 0], _, [], Lr 23, [28]⟩ :: ⟨[.op 23 0, .old 0], _, [], Lr 24, [29]⟩ :: ⟨[.op 23 0, .op 24 0], _, [], Lr 25, [30]⟩ :: ⟨[.op 23 0, .op 25 0], _, [], Lr 26, [31]⟩ :: ⟨[.op 19 0, .op 23 0, .op 26 0], _, [], Lr 27, [32]⟩ :: ⟨[.op 16 0, .op 19 0, .op 27 0], _, [], Lr 28, [33]⟩ :: ⟨[.op 16 0, .op 28 0], _, [], Lr 29, [34]⟩ :: ⟨[.op 29 0], _, [], Lr 30, [35]⟩ :: ⟨[.op 30 0, .old 1], _, [], Lr 31, [36]⟩ :: ⟨[.op 30 0, .op 31 0], _, [], Lr 32, [37]⟩ :: ⟨[.op 30 0, .op 32 0], _, [], Lr 33, [38]⟩ :: ⟨[.op 33 0, .old 0], _, [], Lr 34, [39]⟩ :: ⟨[.op 33 0, .op 34 0], _, [], Lr 35, [40]⟩ :: ⟨[.op 33 0, .op 35 0], _, [], Lr 36, [41]⟩ :: ⟨[.op 30 0, .op 33 0, .op 36 0], _, [], Lr 37, [42]⟩ :: ⟨[.op 30 0, .op 37 0], _, [], Lr 38, [43]⟩ :: ⟨[.op 38 0], _, [], Lr 39, [44]⟩ :: ⟨[.op 39 0, .old 1], _, [], Lr 40, [45]⟩ :: ⟨[.op 39 0, .op 40 0], _, [], Lr 41, [46]⟩ :: ⟨[.op 39 0, .op 41 0], _, [], Lr 42, [47]⟩ :: ⟨[.op 42 0, .old 0], _, [], Lr 43, [48]⟩ :: ⟨[.op 42 0, .op 43 0], _, [], Lr 44, [49]⟩ :: ⟨[.op 42 0, .op 44 0], _, [], Lr 45, [50]⟩ :: ⟨[.op 42 0, .op 45 0], _, [], Lr 46, [51]⟩ :: ⟨[.op 46 0, .old 0], _, [], Lr 47, [52]⟩ :: ⟨[.op 46 0, .op 47 0], _, [], Lr 48, [53]⟩ :: ⟨[.op 46 0, .op 48 0], _, [], Lr 49, [54]⟩ :: ⟨[.op 46 0, .op 49 0], _, [], Lr 50, [55]⟩ :: ⟨[.op 42 0, .op 46 0, .op 50 0], _, [], Lr 51, [56]⟩ :: ⟨[.op 39 0, .op 42 0, .op 51 0], _, [], Lr 52, [57]⟩ :: ⟨[.op 39 0, .op 52 0], _, [], Lr 53, [58]⟩ :: ⟨[.op 53 0], _, [], Lr 54, [4]⟩ :: []) (F := [.op 54 0]) hst hb Za
   (o_p rfl (Zd Zzv rfl rfl u_0) <| o_p rfl (Zf ty_4 rfl rfl u_0) <| o_p rfl (Zc rfl rfl u_0) <| o_g (g_f rfl rfl rfl (fun hG => Zd Zhb rfl rfl u_0)) <| o_g (g_f rfl rfl rfl (fun hG => Zf ty_9 rfl rfl (Opd.gd hG u_0))) <| o_g (g_f rfl rfl rfl (fun hG => Zjy rfl rfl (Opd.gd hG u_0) c_s)) <| o_p rfl (Zbf rfl rfl u_0 (fun hz => (Opd.gd (bNF hz) u_1))) <| o_p rfl (Zc rfl rfl u_0) <| o_g (g_t rfl rfl rfl (fun hG => Zd Z0d rfl rfl u_0)) <| o_g (g_t rfl rfl rfl (fun hG => Zf ty_4 rfl rfl (Opd.gd hG u_0))) <| o_g (g_t rfl rfl rfl (fun hG => Zc rfl rfl (Opd.gd hG u_0))) <| o_g (g_fi rfl rfl rfl (fun hG => Zd Zb8 rfl rfl u_0)) <| o_g (g_fi rfl rfl rfl (fun hG => Zf ty_2 rfl rfl (Opd.gd hG u_0))) <| o_g (g_fi rfl rfl rfl (fun hG => Z7 rfl rfl (Opd.gd hG u_0) c_i)) <| o_g (g_t rfl rfl rfl (fun hG => Zbf rfl rfl (Opd.gd hG u_0) (fun hz => (Opd.gd (bA hG (bNF hz)) u_1)))) <| o_p rfl (Zbc rfl rfl u_0 (fun hz => (Opd.gd hz u_1))) <| o_p rfl (Zc rfl rfl u_0) <| o_g (g_t rfl rfl rfl (fun hG => Zd Zuf rfl rfl u_0)) <| o_g (g_t rfl rfl rfl (fun hG => Zf ty_4 rfl rfl (Opd.gd hG u_0))) <| o_g (g_t rfl rfl rfl (fun hG => Zc rfl rfl (Opd.gd hG u_0))) <| o_g (g_fi rfl rfl rfl (fun hG => Zd Zf5 rfl rfl u_0)) <| o_g (g_fi rfl rfl rfl (fun hG => Zf ty_2 rfl rfl (Opd.gd hG u_0))) <| o_g (g_fi rfl rfl rfl (fun hG => Z7 rfl rfl (Opd.gd hG u_0) c_i)) <| o_g (g_fi rfl rfl rfl (fun hG => Zc rfl rfl (Opd.gd hG u_0))) <| o_g (g_ti rfl rfl rfl (fun hG => Zd Zf6 rfl rfl u_0)) <| o_g (g_ti rfl rfl rfl (fun hG => Zf ty_2 rfl rfl (Opd.gd hG u_0))) <| o_g (g_ti rfl rfl rfl (fun hG => Z7 rfl rfl (Opd.gd hG u_0) c_i)) <| o_g (g_fi rfl rfl rfl (fun hG => Zbc rfl rfl (Opd.gd hG u_0) (fun hz => (Opd.gd (bA hG hz) u_1)))) <| o_g (g_t rfl rfl rfl (fun hG => Zbf rfl rfl (Opd.gd hG u_0) (fun hz => (Opd.gd (bA hG (bNF hz)) u_1)))) <| o_p rfl (Zbc rfl rfl u_0 (fun hz => (Opd.gd hz u_1))) <| o_p rfl (Zc rfl rfl u_0) <| o_g (g_t rfl rfl rfl (fun hG => Zd Zzi rfl rfl u_0)) <| o_g (g_t rfl rfl rfl (fun hG => Zf ty_4 rfl rfl (Opd.gd hG u_0))) <| o_g (g_t rfl rfl rfl (fun hG => Zc rfl rfl (Opd.gd hG u_0))) <| o_g (g_fi rfl rfl rfl (fun hG => Zd Ze3 rfl rfl u_0)) <| o_g (g_fi rfl rfl rfl (fun hG => Zf Zc0 rfl rfl (Opd.gd hG u_0))) <| o_g (g_fi rfl rfl rfl (fun hG => Zu Zoa (Zhx _ _ (Zbs h2 hG)) rfl rfl (.cons (Opd.gd hG u_0) (.cons c_f .nil)))) <| o_g (g_t rfl rfl rfl (fun hG => Zbf rfl rfl (Opd.gd hG u_0) (fun hz => (Opd.gd (bA hG (bNF hz)) u_1)))) <| o_p rfl (Zbc rfl rfl u_0 (fun hz => (Opd.gd hz u_1))) <| o_p rfl (Zc rfl rfl u_0) <| o_g (g_t rfl rfl rfl (fun hG => Zd Zug rfl rfl u_0)) <| o_g (g_t rfl rfl rfl (fun hG => Zf ty_4 rfl rfl (Opd.gd hG u_0))) <| o_g (g_t rfl rfl rfl (fun hG => Zc rfl rfl (Opd.gd hG u_0))) <| o_g (g_fi rfl rfl rfl (fun hG => Zd Zef rfl rfl u_0)) <| o_g (g_fi rfl rfl rfl (fun hG => Zf ty_3 rfl rfl (Opd.gd hG u_0))) <| o_g (g_fi rfl rfl rfl (fun hG => Z7 rfl rfl (Opd.gd hG u_0) c_i)) <| o_g (g_fi rfl rfl rfl (fun hG => Zc rfl rfl (Opd.gd hG u_0))) <| o_g (g_ti rfl rfl rfl (fun hG => Zd Zb3 rfl rfl u_0)) <| o_g (g_ti rfl rfl rfl (fun hG => Zf Zcz rfl rfl (Opd.gd hG u_0))) <| o_g (g_ti rfl rfl rfl (fun hG => Zco Tryd.underlying23 rfl rfl (Opd.gd hG u_0))) <| o_g (g_ti rfl rfl rfl (fun hG => Z7 rfl rfl (Opd.gd hG u_0) c_i)) <| o_g (g_fi rfl rfl rfl (fun hG => Zbc rfl rfl (Opd.gd hG u_0) (fun hz => (Opd.gd (bA hG hz) u_1)))) <| o_g (g_t rfl rfl rfl (fun hG => Zbf rfl rfl (Opd.gd hG u_0) (fun hz => (Opd.gd (bA hG (bNF hz)) u_1)))) <| o_p rfl (Zbc rfl rfl u_0 (fun hz => (Opd.gd hz u_1))) <| o_p rfl (Zb rfl rfl u_0) <| o_n) (by kernel_rfl) (fun a g hst hb => ?_)
 refine wp_ret ?_
 obtain rfl := Option.some.inj H0
 exact Zz rfl hst hb (Zh (s := 4)) (hst.at 0 rfl)
theorem Zj6 (a0 : Nat) {r : Bool} (h : Zhm a0 = some r) : FnOk Tryd.prog 51 [(pFlt a0)] (Z9 r) := by
 have H0 := h
 unfold Zhm at H0
 clear h
 refine Zbt (N := 9) Tryd.func51 rfl rfl (Nat.le_of_ble_eq_true rfl) rfl rfl (fun a g0 hst hb => ?_)
 refine r_s (T := [⟨[], _, [], [], [2]⟩]) (F := [.old 0]) hst hb Za
   (o_p rfl (Zb rfl rfl c_b) <| o_n) (by kernel_rfl) (fun a g hst hb => ?_)
 obtain ⟨r1, h2, H0⟩ := Zj H0
 refine r_s (T := [⟨[.old 0], _, [], [], [3]⟩, ⟨[.op 0 0], _, [], [0], [4]⟩, ⟨[.old 0], _, [], [], [5]⟩, ⟨[.op 2 0], _, [], [0, 1, 2], [6]⟩, ⟨[.op 3 0], _, [], Lr 4, [7]⟩, ⟨[.op 1 0, .op 4 0], _, [], Lr 5, [8]⟩, ⟨[.op 5 0], _, [], Lr 6, [2]⟩]) (F := [.op 6 0]) hst hb Za
   (o_p rfl (Zc rfl rfl u_0) <| o_p rfl (Zn4 Zrn rfl rfl u_0) <| o_p rfl (Zc rfl rfl u_0) <| o_p rfl (Zu Zlh (Zfk _ h2) rfl rfl (.cons u_0 .nil)) <| o_p rfl (Zn4 Zrn rfl rfl u_0) <| o_p rfl (Z7 rfl rfl u_0 u_1) <| o_p rfl (Zb rfl rfl u_0) <| o_n) (by kernel_rfl) (fun a g hst hb => ?_)
 refine wp_ret ?_
 obtain rfl := Option.some.inj H0
 exact Zz rfl hst hb (Zh (s := 2)) (hst.at 0 rfl)
theorem Zlo (a0 : Nat) (a1 : Nat) {r : Bool} (h : Ziv a0 a1 = some r) : FnOk Tryd.prog 65 [(pFlt a0), (pFlt a1)] (Z9 r) := by
 have H0 := h
 unfold Ziv at H0
 clear h
 refine Zbt (N := 10) Tryd.func65 rfl rfl (Nat.le_of_ble_eq_true rfl) rfl rfl (fun a g0 hst hb => ?_)
 refine r_s (T := [⟨[], _, [], [], [4]⟩]) (F := [.old 0, .old 1]) hst hb Za
   (o_p rfl (Zb rfl rfl c_b) <| o_n) (by kernel_rfl) (fun a g hst hb => ?_)
 obtain ⟨r1, h2, H0⟩ := Zj H0; obtain ⟨r3, h4, H0⟩ := Zj H0
 refine r_s (T := [⟨[.old 0], _, [], [], [5]⟩, ⟨[.op 0 0], _, [], [0], [6]⟩, ⟨[.old 1], _, [], [], [7]⟩, ⟨[.op 2 0], _, [], [0, 1, 2], [8]⟩, ⟨[.op 1 0, .op 3 0], _, [], Lr 4, [9]⟩, ⟨[.op 4 0], _, [], Lr 5, [4]⟩]) (F := [.op 5 0]) hst hb Za
   (o_p rfl (Zc rfl rfl u_0) <| o_p rfl (Zu Zr0 (Zkd _ h2) rfl rfl (.cons u_0 .nil)) <| o_p rfl (Zc rfl rfl u_0) <| o_p rfl (Zu Zr0 (Zkd _ h4) rfl rfl (.cons u_0 .nil)) <| o_p rfl (Zb6 rfl rfl u_0 u_1) <| o_p rfl (Zb rfl rfl u_0) <| o_n) (by kernel_rfl) (fun a g hst hb => ?_)
 refine wp_ret ?_
 obtain rfl := Option.some.inj H0
 exact Zz rfl hst hb (Zh (s := 4)) (hst.at 0 rfl)
theorem Zj4 (a0 : Zm) (a1 : Zm) {r : Bool} (h : Zhk a0 a1 = some r) : FnOk Tryd.prog 77 [(Zt.pd a0), (Zt.pd a1)] (Z9 r) := by
 have H0 := h
 unfold Zhk at H0
 clear h
 refine Zbt (N := 21) Tryd.func77 rfl rfl (Nat.le_of_ble_eq_true rfl) rfl rfl (fun a g0 hst hb => ?_)
 refine r_s (T := [⟨[.old 0], _, [], [], [2]⟩, ⟨[.old 1], _, [], [], [3]⟩, ⟨[], _, [], [], [4]⟩]) (F := [.op 0 0, .op 1 0]) hst hb Za
   (o_p rfl (Zbq rfl rfl u_0) <| o_p rfl (Zbq rfl rfl u_0) <| o_p rfl (Zb rfl rfl c_b) <| o_n) (by kernel_rfl) (fun a g hst hb => ?_)
 refine wp_seq ?_
 obtain ⟨r1, h2, H0⟩ := Zj H0
 refine r_s (T := [⟨[.old 0], _, [], [], [5]⟩, ⟨[.op 0 0], _, [], [0], [6]⟩, ⟨[.old 1], _, [], [], [7]⟩, ⟨[.op 2 0], _, [], [2], [8]⟩, ⟨[.op 1 0, .op 3 0], _, [], Lr 4, [9]⟩, ⟨[.op 4 0], _, [], Lr 5, [10]⟩]) (F := [.old 0, .old 1, .op 5 0]) hst hb Za
   (o_p rfl (Zd Zen rfl rfl u_0) <| o_p rfl (Zf Zc0 rfl rfl u_0) <| o_p rfl (Zd Zen rfl rfl u_0) <| o_p rfl (Zf Zc0 rfl rfl u_0) <| o_p rfl (Zu Zoa (Zhx _ _ h2) rfl rfl (.cons u_0 (.cons u_1 .nil))) <| o_p rfl (Zcf rfl rfl u_0) <| o_n) (by kernel_rfl) (fun a g hst hb => ?_)
 refine wp_cond_split (hst.bool 2 rfl) (fun hc3 => ?_) (fun hc3 => ?_)
 · replace H0 := Zp hc3 H0
   obtain ⟨r4, h5, H0⟩ := Zj H0
   refine r_s (L := [(2, _), (3, _)]) (T := [⟨[.old 1], _, [], [], [11]⟩, ⟨[.op 0 0], _, [], [0], [12]⟩, ⟨[.old 0], _, [], [], [13]⟩, ⟨[.op 2 0], _, [], [2], [14]⟩, ⟨[.op 1 0, .op 3 0], _, [], Lr 4, [15]⟩, ⟨[.op 4 0], _, [], Lr 5, [4]⟩]) (F := [.op 5 0]) (hst.pick [0, 1] rfl) hb Za
     (o_p rfl (Zd Zen rfl rfl u_0) <| o_p rfl (Zf Zc0 rfl rfl u_0) <| o_p rfl (Zd Zen rfl rfl u_0) <| o_p rfl (Zf Zc0 rfl rfl u_0) <| o_p rfl (Zu Zuk (Zlo _ _ h5) rfl rfl (.cons u_0 (.cons u_1 .nil))) <| o_p rfl (Zb rfl rfl u_0) <| o_n) (by kernel_rfl) (fun a g hst hb => ?_)
   refine wp_ret ?_
   refine Zk ?_
   obtain rfl := Option.some.inj H0
   exact Zz rfl hst hb (Zh (s := 4)) (hst.at 0 rfl)
 · replace H0 := Zq hc3 H0
   refine wp_skip ?_
   refine Zn ?_
   refine r_s (L := [(2, _), (3, _)]) (T := [⟨[.old 0], _, [], [], [16]⟩, ⟨[.op 0 0], _, [], [0], [17]⟩, ⟨[.old 1], _, [], [], [18]⟩, ⟨[.op 2 0], _, [], [2], [19]⟩, ⟨[.op 1 0, .op 3 0], _, [], Lr 4, [20]⟩, ⟨[.op 4 0], _, [], Lr 5, [4]⟩]) (F := [.op 5 0]) (hst.pick [0, 1] rfl) hb Za
     (o_p rfl (Zd Zd3 rfl rfl u_0) <| o_p rfl (Zf ty_9 rfl rfl u_0) <| o_p rfl (Zd Zd3 rfl rfl u_0) <| o_p rfl (Zf ty_9 rfl rfl u_0) <| o_p rfl (Zpj rfl rfl u_0 u_1) <| o_p rfl (Zb rfl rfl u_0) <| o_n) (by kernel_rfl) (fun a g hst hb => ?_)
   refine wp_ret ?_
   obtain rfl := Option.some.inj H0
   exact Zz rfl hst hb (Zh (s := 4)) (hst.at 0 rfl)
theorem Zsy (a0 : Int) (a1 : List Zm) {r : Int} (h : Zjv a0 a1 = some r) : FnOk Tryd.prog 52 [(pInt .i64 a0), (Zt.sl.pd a1)] (pInt .i64 r) := by
 have H0 := h
 unfold Zjv at H0
 clear h
 refine Zbt (N := 70) Tryd.func52 rfl rfl (Nat.le_of_ble_eq_true rfl) rfl rfl (fun a g0 hst hb => ?_)
 refine r_s (T := [⟨[], _, [], [], [4]⟩]) (F := [.old 0, .old 1]) hst hb Za
   (o_p rfl (Zb rfl rfl c_i) <| o_n) (by kernel_rfl) (fun a g hst hb => ?_)
 refine wp_seq ?_
 refine r_s (T := [⟨[.old 1], _, [], [], [7]⟩, ⟨[.op 0 0], _, [], [0], [8]⟩, ⟨[], _, [], [], [9]⟩]) (F := [.old 0, .old 1, .op 0 0, .op 1 0, .op 2 0]) hst hb Za
   (o_p rfl (Zc rfl rfl u_0) <| o_p rfl (Zco Tryd.underlying23 rfl rfl u_0) <| o_p rfl (Zc rfl rfl c_i) <| o_n) (by kernel_rfl) (fun a g hst hb => ?_)
 obtain ⟨z19, hz1, H0⟩ := Zj H0
 refine Zcl (fun a w => ∃ (g : G), w = g.w ∧ St 70 [] a g ∧ Base g0 g ∧ (.inr ()) = z19) ?_ ?_
 · rintro a w ⟨g, rfl, hst, hb, rfl⟩
   refine Zn ?_
   refine r_s (T := [⟨[], _, [], [], [4]⟩]) (F := [.op 0 0]) hst hb Za
     (o_p rfl (Zb rfl rfl c_i) <| o_n) (by kernel_rfl) (fun a g hst hb => ?_)
   refine wp_ret ?_
   obtain rfl := Option.some.inj H0
   exact Zz rfl hst hb (Zh (s := 4)) (hst.at 0 rfl)
 · refine wp_block ?_
   refine wp_loop_ghost (fun n a w => ∃ (x1 : Int) (g : G), w = g.w ∧ St 70 [(0, (pInt .i64 a0)), (1, (Zt.sl.pd a1)), (7, (Zt.sl.pd a1)), (8, (pInt .i64 (a1.length : Int))), (9, (pInt .i64 x1))] a g ∧ Base g0 g ∧ Zeh a0 a1 n x1 = some z19) (Int.toNat ((a1.length : Int) - (0 : Int)) + 1) ⟨(0 : Int), g, rfl, (hst.pick [0, 1, 2, 3, 4] rfl), hb, hz1⟩ (fun n a w hI => ?_)
   obtain ⟨x1, g, rfl, hst, hb, H1⟩ := hI
   cases n with
   | zero => exact absurd H1 (by simp [Zeh])
   | succ n =>
     rw [Zeh] at H1
     refine r_s (T := [⟨[.old 4, .old 3], _, [], [], [10]⟩]) (F := [.old 0, .old 1, .old 2, .old 3, .old 4, .op 0 0]) hst hb Za
       (o_p rfl (Zb6 rfl rfl u_0 u_1) <| o_n) (by kernel_rfl) (fun a g hst hb => ?_)
     refine wp_seq ?_
     refine wp_cond_split (hst.bool 5 rfl) (fun hc2 => ?_) (fun hc2 => ?_)
     · replace H1 := Zp hc2 H1
       refine wp_skip ?_
       refine Zn ?_
       refine wp_seq ?_
       refine wp_block ?_
       obtain ⟨e3, h4, H1⟩ := Zj H1
       refine r_s (L := [(0, _), (1, _), (7, _), (8, _), (9, _)]) (T := [⟨[.old 4], _, [], [], [11]⟩, ⟨[.old 2, .old 4], _, [], [], [12]⟩, ⟨[.op 1 0], _, [], [1], [13]⟩, ⟨[], [(6, (pBox Zt 6 (default : Zm)))], [7], [], [6]⟩, ⟨[.op 0 0], _, [], Lr 4, [5]⟩, ⟨[.op 2 0, .op 3 0], _, [7], Lr 5, [6]⟩]) (F := [.old 0, .old 1, .op 4 0, .op 5 0, .old 2, .old 3, .old 4]) (hst.pick [0, 1, 2, 3, 4] rfl) hb Za
         (o_p rfl (Zc rfl rfl u_0) <| o_p rfl (Zbm Tryd.underlying23 Zff rfl rfl u_0 u_1 h4) <| o_p rfl (Zf Zd4 rfl rfl u_0) <| o_p rfl (Zbu (zs := [.float .f64 0, .string ByteArray.empty]) (by kernel_rfl) (fun g => Zf3 g) rfl rfl) <| o_p rfl (Zb rfl rfl u_0) <| o_p rfl (Zct Zd4 rfl rfl u_1 u_0) <| o_n) (by kernel_rfl) (fun a g hst hb => ?_)
       refine wp_block ?_
       refine r_s (T := [⟨[.old 3], _, [], [], [15]⟩, ⟨[.op 0 0], _, [], [0], [16]⟩, ⟨[.op 1 0], _, [], [0, 1], [17]⟩, ⟨[.op 2 0], _, [], [0, 1, 2], [18]⟩, ⟨[.op 3 0], _, [], Lr 4, [14]⟩]) (F := [.old 0, .old 1, .old 2, .old 3, .old 4, .old 5, .old 6, .op 4 0]) hst hb Za
         (o_p rfl (Zd Zd3 rfl rfl u_0) <| o_p rfl (Zf ty_9 rfl rfl u_0) <| o_p rfl (Zem Tryd.underlying9 rfl rfl u_0) <| o_p rfl (Zci rfl rfl u_0 c_i) <| o_p rfl (Zb rfl rfl u_0) <| o_n) (by kernel_rfl) (fun a g hst hb => ?_)
       refine wp_cond_split (hst.bool 7 rfl) (fun hc5 => ?_) (fun hc5 => ?_)
       · replace H1 := Zp hc5 H1
         refine r_s (L := []) (T := [⟨[], _, [], [], [4]⟩]) (F := [.op 0 0]) (hst.pick [] rfl) hb Za
           (o_p rfl (Zb rfl rfl c_i) <| o_n) (by kernel_rfl) (fun a g hst hb => ?_)
         refine wp_ret ?_
         refine Zo ?_
         refine Zo ?_
         refine Zk ?_
         refine Zk ?_
         refine Zo ?_
         refine Zk ?_
         refine Zk ?_
         obtain rfl := Option.some.inj H1
         obtain rfl := Option.some.inj H0
         exact Zz rfl hst hb (Zh (s := 4)) (hst.at 0 rfl)
       · replace H1 := Zq hc5 H1
         obtain ⟨r6, h7, H1⟩ := Zj H1; obtain ⟨r8, h9, H1⟩ := Zj H1
         refine r_s (L := [(0, _), (1, _), (5, _), (6, _), (7, _), (8, _), (9, _)]) (T := ⟨[.old 0], _, [], [], [20]⟩ :: ⟨[.op 0 0], _, [], [0], [21]⟩ :: ⟨[.op 1 0], _, [], [0, 1], [22]⟩ :: ⟨[.op 2 0, .old 3], _, [], [0, 1, 2], [23]⟩ :: ⟨[.op 2 0, .op 3 0], _, [], Lr 4, [24]⟩ :: ⟨[.op 2 0, .op 4 0], _, [], Lr 5, [25]⟩ :: ⟨[.op 2 0, .op 5 0], _, [], Lr 6, [26]⟩ :: ⟨[.op 2 0, .op 6 0], _, [], Lr 7, [27]⟩ :: ⟨[.op 7 0], _, [], Lr 8, [28]⟩ :: ⟨[.op 8 0, .old 3], _, [], Lr 9, [29]⟩ :: ⟨[.op 8 0, .op 9 0], _, [], Lr 10, [30]⟩ :: ⟨[.op 8 0, .op 10 0], _, [], Lr 11, [31]⟩ :: ⟨[.op 8 0, .op 11 0], _, [], Lr 12, [32]⟩ :: ⟨[.op 8 0, .op 12 0], _, [], Lr 13, [33]⟩ :: ⟨[.op 13 0], _, [], Lr 14, [19]⟩ :: []) (F := [.old 0, .old 1, .old 2, .old 3, .old 4, .old 5, .old 6, .op 14 0]) (hst.pick [0, 1, 2, 3, 4, 5, 6] rfl) hb Za
           (o_p rfl (Zc rfl rfl u_0) <| o_p rfl (Z7 rfl rfl u_0 c_i) <| o_p rfl (Zc rfl rfl u_0) <| o_g (g_t rfl rfl rfl (fun hG => Zd Zen rfl rfl u_0)) <| o_g (g_t rfl rfl rfl (fun hG => Zf Zc0 rfl rfl (Opd.gd hG u_0))) <| o_g (g_t rfl rfl rfl (fun hG => Zu Zoa (Zhx _ _ (Zbs h7 hG)) rfl rfl (.cons (Opd.gd hG u_0) (.cons c_f .nil)))) <| o_g (g_t rfl rfl rfl (fun hG => Zcf rfl rfl (Opd.gd hG u_0))) <| o_p rfl (Zbc rfl rfl u_0 (fun hz => (Opd.gd hz u_1))) <| o_p rfl (Zc rfl rfl u_0) <| o_g (g_f rfl rfl rfl (fun hG => Zd Zen rfl rfl u_0)) <| o_g (g_f rfl rfl rfl (fun hG => Zf Zc0 rfl rfl (Opd.gd hG u_0))) <| o_g (g_f rfl rfl rfl (fun hG => Zu Zuv (Zj6 _ (Zbs h9 hG)) rfl rfl (.cons (Opd.gd hG u_0) .nil))) <| o_g (g_f rfl rfl rfl (fun hG => Zcf rfl rfl (Opd.gd hG u_0))) <| o_p rfl (Zbf rfl rfl u_0 (fun hz => (Opd.gd (bNF hz) u_1))) <| o_p rfl (Zb rfl rfl u_0) <| o_n) (by kernel_rfl) (fun a g hst hb => ?_)
         refine wp_cond_split (hst.bool 7 rfl) (fun hc10 => ?_) (fun hc10 => ?_)
         · replace H1 := Zp hc10 H1
           refine r_s (L := []) (T := [⟨[], _, [], [], [4]⟩]) (F := [.op 0 0]) (hst.pick [] rfl) hb Za
             (o_p rfl (Zb rfl rfl c_i) <| o_n) (by kernel_rfl) (fun a g hst hb => ?_)
           refine wp_ret ?_
           refine Zo ?_
           refine Zo ?_
           refine Zk ?_
           refine Zk ?_
           refine Zo ?_
           refine Zk ?_
           refine Zk ?_
           obtain rfl := Option.some.inj H1
           obtain rfl := Option.some.inj H0
           exact Zz rfl hst hb (Zh (s := 4)) (hst.at 0 rfl)
         · replace H1 := Zq hc10 H1
           obtain ⟨e11, h12, H1⟩ := Zj H1
           refine r_s (L := [(0, _), (1, _), (5, _), (6, _), (7, _), (8, _), (9, _)]) (T := ⟨[.old 2], _, [], [], [35]⟩ :: ⟨[.op 0 0], _, [], [0], [36]⟩ :: ⟨[.op 1 0], _, [], [0, 1], [37]⟩ :: ⟨[.op 2 0, .old 0], _, [], [0, 1, 2], [38]⟩ :: ⟨[.op 2 0, .op 3 0], _, [], Lr 4, [39]⟩ :: ⟨[.op 2 0, .op 4 0], _, [], Lr 5, [40]⟩ :: ⟨[.op 5 0], _, [], Lr 6, [41]⟩ :: ⟨[.op 6 0, .old 1], _, [], Lr 7, [42]⟩ :: ⟨[.op 6 0, .old 2], _, [], Lr 7, [43]⟩ :: ⟨[.op 6 0, .op 8 0], _, [], [0, 1, 2, 3, 4, 5, 6, 8], [44]⟩ :: ⟨[.op 6 0, .op 7 0, .op 9 0], _, [], Lr 10, [45]⟩ :: ⟨[.op 6 0, .op 10 0], _, [], Lr 11, [46]⟩ :: ⟨[.op 6 0, .op 11 0], _, [], Lr 12, [47]⟩ :: ⟨[.op 6 0, .old 3], _, [], Lr 7, [48]⟩ :: ⟨[.op 6 0, .op 13 0], _, [], [0, 1, 2, 3, 4, 5, 6, 13], [49]⟩ :: ⟨[.op 6 0, .op 12 0, .op 14 0], _, [], Lr 15, [50]⟩ :: ⟨[.op 6 0, .op 15 0], _, [], Lr 16, [51]⟩ :: ⟨[.op 16 0], _, [], Lr 17, [34]⟩ :: []) (F := [.old 0, .old 1, .old 2, .old 3, .old 4, .old 5, .old 6, .op 17 0]) (hst.pick [0, 1, 2, 3, 4, 5, 6] rfl) hb Za
             (o_p rfl (Zc rfl rfl u_0) <| o_p rfl (Zci rfl rfl u_0 c_i) <| o_p rfl (Zc rfl rfl u_0) <| o_g (g_t rfl rfl rfl (fun hG => Zc rfl rfl u_0)) <| o_g (g_t rfl rfl rfl (fun hG => Z7 rfl rfl (Opd.gd hG u_0) c_i)) <| o_p rfl (Zbc rfl rfl u_0 (fun hz => (Opd.gd hz u_1))) <| o_p rfl (Zc rfl rfl u_0) <| o_g (g_t rfl rfl rfl (fun hG => Zc rfl rfl u_0)) <| o_g (g_t rfl rfl rfl (fun hG => Zc rfl rfl u_0)) <| o_g (g_t rfl rfl rfl (fun hG => Zdt rfl rfl (Opd.gd hG u_0) c_i rfl)) <| o_g (g_t rfl rfl rfl (fun hG => Zbm Tryd.underlying23 Zff rfl rfl (Opd.gd hG u_0) (Opd.gd hG u_1) (Zbs h12 hG))) <| o_g (g_t rfl rfl rfl (fun hG => Zd Zd3 rfl rfl (Opd.gd hG u_0))) <| o_g (g_t rfl rfl rfl (fun hG => Zf ty_9 rfl rfl (Opd.gd hG u_0))) <| o_g (g_t rfl rfl rfl (fun hG => Zd Zd3 rfl rfl u_0)) <| o_g (g_t rfl rfl rfl (fun hG => Zf ty_9 rfl rfl (Opd.gd hG u_0))) <| o_g (g_t rfl rfl rfl (fun hG => Z1g rfl rfl (Opd.gd hG u_0) (Opd.gd hG u_1))) <| o_p rfl (Zbc rfl rfl u_0 (fun hz => (Opd.gd hz u_1))) <| o_p rfl (Zb rfl rfl u_0) <| o_n) (by kernel_rfl) (fun a g hst hb => ?_)
           refine wp_cond_split (hst.bool 7 rfl) (fun hc13 => ?_) (fun hc13 => ?_)
           · replace H1 := Zp hc13 H1
             refine r_s (L := []) (T := [⟨[], _, [], [], [4]⟩]) (F := [.op 0 0]) (hst.pick [] rfl) hb Za
               (o_p rfl (Zb rfl rfl c_i) <| o_n) (by kernel_rfl) (fun a g hst hb => ?_)
             refine wp_ret ?_
             refine Zo ?_
             refine Zo ?_
             refine Zk ?_
             refine Zk ?_
             refine Zo ?_
             refine Zk ?_
             refine Zk ?_
             obtain rfl := Option.some.inj H1
             obtain rfl := Option.some.inj H0
             exact Zz rfl hst hb (Zh (s := 4)) (hst.at 0 rfl)
           · replace H1 := Zq hc13 H1
             obtain ⟨e14, h15, H1⟩ := Zj H1; obtain ⟨r16, h17, H1⟩ := Zj H1
             refine r_s (L := [(0, _), (1, _), (5, _), (6, _), (7, _), (8, _), (9, _)]) (T := ⟨[.old 2], _, [], [], [53]⟩ :: ⟨[.op 0 0], _, [], [0], [54]⟩ :: ⟨[.op 1 0], _, [], [0, 1], [55]⟩ :: ⟨[.op 2 0, .old 0], _, [], [0, 1, 2], [56]⟩ :: ⟨[.op 2 0, .op 3 0], _, [], Lr 4, [57]⟩ :: ⟨[.op 2 0, .op 4 0], _, [], Lr 5, [58]⟩ :: ⟨[.op 5 0], _, [], Lr 6, [59]⟩ :: ⟨[.op 6 0, .old 1], _, [], Lr 7, [60]⟩ :: ⟨[.op 6 0, .old 2], _, [], Lr 7, [61]⟩ :: ⟨[.op 6 0, .op 8 0], _, [], [0, 1, 2, 3, 4, 5, 6, 8], [62]⟩ :: ⟨[.op 6 0, .op 7 0, .op 9 0], _, [], Lr 10, [63]⟩ :: ⟨[.op 6 0, .op 10 0], _, [], Lr 11, [64]⟩ :: ⟨[.op 6 0, .old 3], _, [], Lr 7, [65]⟩ :: ⟨[.op 6 0, .op 11 0, .op 12 0], _, [], Lr 13, [66]⟩ :: ⟨[.op 6 0, .op 13 0], _, [], Lr 14, [67]⟩ :: ⟨[.op 6 0, .op 14 0], _, [], Lr 15, [68]⟩ :: ⟨[.op 15 0], _, [], Lr 16, [52]⟩ :: []) (F := [.old 0, .old 1, .old 4, .old 5, .old 6, .op 16 0]) (hst.pick [0, 1, 2, 3, 4, 5, 6] rfl) hb Za
               (o_p rfl (Zc rfl rfl u_0) <| o_p rfl (Zci rfl rfl u_0 c_i) <| o_p rfl (Zc rfl rfl u_0) <| o_g (g_t rfl rfl rfl (fun hG => Zc rfl rfl u_0)) <| o_g (g_t rfl rfl rfl (fun hG => Z7 rfl rfl (Opd.gd hG u_0) c_i)) <| o_p rfl (Zbc rfl rfl u_0 (fun hz => (Opd.gd hz u_1))) <| o_p rfl (Zc rfl rfl u_0) <| o_g (g_t rfl rfl rfl (fun hG => Zc rfl rfl u_0)) <| o_g (g_t rfl rfl rfl (fun hG => Zc rfl rfl u_0)) <| o_g (g_t rfl rfl rfl (fun hG => Zdt rfl rfl (Opd.gd hG u_0) c_i rfl)) <| o_g (g_t rfl rfl rfl (fun hG => Zbm Tryd.underlying23 Zff rfl rfl (Opd.gd hG u_0) (Opd.gd hG u_1) (Zbs h15 hG))) <| o_g (g_t rfl rfl rfl (fun hG => Zf Zd4 rfl rfl (Opd.gd hG u_0))) <| o_g (g_t rfl rfl rfl (fun hG => Zf Zd4 rfl rfl u_0)) <| o_g (g_t rfl rfl rfl (fun hG => Zu Zu0 (Zj4 _ _ (Zbs h17 hG)) rfl rfl (.cons (Opd.gd hG u_0) (.cons (Opd.gd hG u_1) .nil)))) <| o_g (g_t rfl rfl rfl (fun hG => Zcf rfl rfl (Opd.gd hG u_0))) <| o_p rfl (Zbc rfl rfl u_0 (fun hz => (Opd.gd hz u_1))) <| o_p rfl (Zb rfl rfl u_0) <| o_n) (by kernel_rfl) (fun a g hst hb => ?_)
             refine wp_cond_split (hst.bool 5 rfl) (fun hc18 => ?_) (fun hc18 => ?_)
             · replace H1 := Zp hc18 H1
               refine r_s (L := []) (T := [⟨[], _, [], [], [4]⟩]) (F := [.op 0 0]) (hst.pick [] rfl) hb Za
                 (o_p rfl (Zb rfl rfl c_i) <| o_n) (by kernel_rfl) (fun a g hst hb => ?_)
               refine wp_ret ?_
               refine Zo ?_
               refine Zo ?_
               refine Zk ?_
               refine Zk ?_
               refine Zo ?_
               refine Zk ?_
               refine Zk ?_
               obtain rfl := Option.some.inj H1
               obtain rfl := Option.some.inj H0
               exact Zz rfl hst hb (Zh (s := 4)) (hst.at 0 rfl)
             · replace H1 := Zq hc18 H1
               refine wp_skip ?_
               refine Zbg ?_
               refine Zbg ?_
               refine Zn ?_
               refine r_g (L := [(0, _), (1, _), (7, _), (8, _), (9, _)]) (T := [⟨[.old 4], _, [], [], [69]⟩, ⟨[.op 0 0], _, [], [0], [9]⟩]) (F := [.old 0, .old 1, .old 2, .old 3, .op 1 0]) (hst.pick [0, 1, 2, 3, 4] rfl) hb Za
                 (o_p rfl (Zck rfl rfl u_0 c_i rfl) <| o_p rfl (Zc rfl rfl u_0) <| o_n) (by kernel_rfl) (fun a g hst hb => ?_)
               exact ⟨n, Nat.lt_succ_self _, (IntKind.i64.wrap (x1 + (1 : Int))), g, rfl, (hst.pick [0, 1, 2, 3, 4] rfl), hb, H1⟩
     · replace H1 := Zq hc2 H1
       refine wp_exit ?_
       refine Zb9 ?_
       refine Zb9 ?_
       refine Zcy ?_
       exact ⟨g, rfl, (hst.pick [] rfl), hb, Option.some.inj H1⟩
theorem Zi6 (a0 : Ze) {r : Int} (h : Zdu a0 = some r) : FnOk Tryd.prog 23 [(Zg.pd a0)] (pInt .i64 r) := by
 have H0 := h
 unfold Zdu at H0
 clear h
 refine Zbt (N := 83) Tryd.func23 rfl rfl (Nat.le_of_ble_eq_true rfl) rfl rfl (fun a g0 hst hb => ?_)
 refine r_s (T := [⟨[.old 0], _, [], [], [1]⟩, ⟨[], _, [], [], [2]⟩]) (F := [.op 0 0]) hst hb Za
   (o_p rfl (Zbq rfl rfl u_0) <| o_p rfl (Zb rfl rfl c_i) <| o_n) (by kernel_rfl) (fun a g hst hb => ?_)
 obtain ⟨r1, h2, H0⟩ := Zj H0
 refine r_s (T := [⟨[.old 0], _, [], [], [4]⟩, ⟨[.op 0 0], _, [], [0], [5]⟩, ⟨[.op 1 0], _, [], [0, 1], [6]⟩, ⟨[], [(3, (pBox Zcs 3 (default : Zbv)))], [4], [], [3]⟩, ⟨[.op 2 0, .op 3 0], _, [4], Lr 4, [3]⟩]) (F := [.old 0, .op 4 0]) hst hb Za
   (o_p rfl (Zd Zc9 rfl rfl u_0) <| o_p rfl (Zf ty_3 rfl rfl u_0) <| o_p rfl (Zu Z2t (Zre _ h2) rfl rfl (.cons u_0 .nil)) <| o_p rfl (Zbu (zs := [.bool false, .bool false, .bool false, .bool false, .bool false]) (by kernel_rfl) (fun g => Znv g) rfl rfl) <| o_p rfl (Zct Zh3 rfl rfl u_1 u_0) <| o_n) (by kernel_rfl) (fun a g hst hb => ?_)
 refine wp_seq ?_
 refine wp_block ?_
 refine r_s (T := [⟨[.old 0], _, [], [], [8]⟩, ⟨[.op 0 0], _, [], [0], [9]⟩, ⟨[.op 1 0], _, [], [0, 1], [10]⟩, ⟨[.op 2 0], _, [], [0, 1, 2], [11]⟩, ⟨[.op 3 0, .old 0], _, [], Lr 4, [12]⟩, ⟨[.op 3 0, .op 4 0], _, [], Lr 5, [13]⟩, ⟨[.op 3 0, .op 5 0], _, [], Lr 6, [14]⟩, ⟨[.op 3 0, .op 6 0], _, [], Lr 7, [15]⟩, ⟨[.op 7 0], _, [], Lr 8, [7]⟩]) (F := [.old 0, .old 1, .op 8 0]) hst hb Za
   (o_p rfl (Zd Zc9 rfl rfl u_0) <| o_p rfl (Zf ty_3 rfl rfl u_0) <| o_p rfl (Zur rfl rfl u_0 c_i) <| o_p rfl (Zc rfl rfl u_0) <| o_g (g_f rfl rfl rfl (fun hG => Zd Zc9 rfl rfl u_0)) <| o_g (g_f rfl rfl rfl (fun hG => Zf ty_3 rfl rfl (Opd.gd hG u_0))) <| o_g (g_f rfl rfl rfl (fun hG => Zmx rfl rfl (Opd.gd hG u_0) c_i)) <| o_p rfl (Zbf rfl rfl u_0 (fun hz => (Opd.gd (bNF hz) u_1))) <| o_p rfl (Zb rfl rfl u_0) <| o_n) (by kernel_rfl) (fun a g hst hb => ?_)
 refine wp_cond_split (hst.bool 2 rfl) (fun hc3 => ?_) (fun hc3 => ?_)
 · replace H0 := Zp hc3 H0
   refine r_s (L := []) (T := [⟨[], _, [], [], [2]⟩]) (F := [.op 0 0]) (hst.pick [] rfl) hb Za
     (o_p rfl (Zb rfl rfl c_i) <| o_n) (by kernel_rfl) (fun a g hst hb => ?_)
   refine wp_ret ?_
   refine Zo ?_
   refine Zk ?_
   obtain rfl := Option.some.inj H0
   exact Zz rfl hst hb (Zh (s := 2)) (hst.at 0 rfl)
 · replace H0 := Zq hc3 H0
   obtain ⟨r4, h5, H0⟩ := Zj H0
   refine r_s (L := [(1, _), (3, _)]) (T := [⟨[.old 0], _, [], [], [17]⟩, ⟨[.old 1], _, [], [], [18]⟩, ⟨[.op 0 0, .op 1 0], _, [], [0, 1], [19]⟩, ⟨[.op 2 0], _, [], [0, 1, 2], [20]⟩, ⟨[.op 3 0], _, [], Lr 4, [16]⟩]) (F := [.old 0, .old 1, .op 4 0]) (hst.pick [0, 1] rfl) hb Za
     (o_p rfl (Zf Z8 rfl rfl u_0) <| o_p rfl (Zf Zh3 rfl rfl u_0) <| o_p rfl (Zu Z1w (Ztc _ _ h5) rfl rfl (.cons u_0 (.cons u_1 .nil))) <| o_p rfl (Zcf rfl rfl u_0) <| o_p rfl (Zb rfl rfl u_0) <| o_n) (by kernel_rfl) (fun a g hst hb => ?_)
   refine wp_cond_split (hst.bool 2 rfl) (fun hc6 => ?_) (fun hc6 => ?_)
   · replace H0 := Zp hc6 H0
     refine r_s (L := []) (T := [⟨[], _, [], [], [2]⟩]) (F := [.op 0 0]) (hst.pick [] rfl) hb Za
       (o_p rfl (Zb rfl rfl c_i) <| o_n) (by kernel_rfl) (fun a g hst hb => ?_)
     refine wp_ret ?_
     refine Zo ?_
     refine Zk ?_
     obtain rfl := Option.some.inj H0
     exact Zz rfl hst hb (Zh (s := 2)) (hst.at 0 rfl)
   · replace H0 := Zq hc6 H0
     refine r_s (L := [(1, _), (3, _)]) (T := [⟨[.old 0], _, [], [], [22]⟩, ⟨[.op 0 0], _, [], [0], [23]⟩, ⟨[.op 1 0], _, [], [0, 1], [24]⟩, ⟨[.op 2 0], _, [], [0, 1, 2], [25]⟩, ⟨[.op 3 0], _, [], Lr 4, [21]⟩]) (F := [.old 0, .old 1, .op 4 0]) (hst.pick [0, 1] rfl) hb Za
       (o_p rfl (Zd Zhb rfl rfl u_0) <| o_p rfl (Zf ty_9 rfl rfl u_0) <| o_p rfl (Zem Tryd.underlying9 rfl rfl u_0) <| o_p rfl (Zci rfl rfl u_0 c_i) <| o_p rfl (Zb rfl rfl u_0) <| o_n) (by kernel_rfl) (fun a g hst hb => ?_)
     refine wp_cond_split (hst.bool 2 rfl) (fun hc7 => ?_) (fun hc7 => ?_)
     · replace H0 := Zp hc7 H0
       refine r_s (L := []) (T := [⟨[], _, [], [], [2]⟩]) (F := [.op 0 0]) (hst.pick [] rfl) hb Za
         (o_p rfl (Zb rfl rfl c_i) <| o_n) (by kernel_rfl) (fun a g hst hb => ?_)
       refine wp_ret ?_
       refine Zo ?_
       refine Zk ?_
       obtain rfl := Option.some.inj H0
       exact Zz rfl hst hb (Zh (s := 2)) (hst.at 0 rfl)
     · replace H0 := Zq hc7 H0
       refine r_s (L := [(1, _), (3, _)]) (T := ⟨[.old 1], _, [], [], [27]⟩ :: ⟨[.op 0 0], _, [], [0], [28]⟩ :: ⟨[.op 1 0], _, [], [0, 1], [29]⟩ :: ⟨[.op 2 0, .old 0], _, [], [0, 1, 2], [30]⟩ :: ⟨[.op 2 0, .op 3 0], _, [], Lr 4, [31]⟩ :: ⟨[.op 2 0, .op 4 0], _, [], Lr 5, [32]⟩ :: ⟨[.op 2 0, .op 5 0], _, [], Lr 6, [33]⟩ :: ⟨[.op 6 0, .old 0], _, [], Lr 7, [34]⟩ :: ⟨[.op 6 0, .op 7 0], _, [], Lr 8, [35]⟩ :: ⟨[.op 6 0, .op 8 0], _, [], Lr 9, [36]⟩ :: ⟨[.op 2 0, .op 6 0, .op 9 0], _, [], Lr 10, [37]⟩ :: ⟨[.op 2 0, .op 10 0], _, [], Lr 11, [38]⟩ :: ⟨[.op 11 0, .old 0], _, [], Lr 12, [39]⟩ :: ⟨[.op 11 0, .op 12 0], _, [], Lr 13, [40]⟩ :: ⟨[.op 11 0, .old 0], _, [], Lr 12, [41]⟩ :: ⟨[.op 11 0, .op 14 0], _, [], 0 :: 1 :: 2 :: 3 :: 4 :: 5 :: 6 :: 7 :: 8 :: 9 :: 10 :: 11 :: 14 :: [], [42]⟩ :: ⟨[.op 11 0, .op 13 0, .op 15 0], _, [], Lr 16, [43]⟩ :: ⟨[.op 2 0, .op 11 0, .op 16 0], _, [], Lr 17, [44]⟩ :: ⟨[.op 2 0, .op 17 0], _, [], Lr 18, [45]⟩ :: ⟨[.op 18 0, .old 0], _, [], Lr 19, [46]⟩ :: ⟨[.op 18 0, .op 19 0], _, [], Lr 20, [47]⟩ :: ⟨[.op 18 0, .old 0], _, [], Lr 19, [48]⟩ :: ⟨[.op 18 0, .op 21 0], _, [], 0 :: 1 :: 2 :: 3 :: 4 :: 5 :: 6 :: 7 :: 8 :: 9 :: 10 :: 11 :: 12 :: 13 :: 14 :: 15 :: 16 :: 17 :: 18 :: 21 :: [], [49]⟩ :: ⟨[.op 18 0, .op 20 0, .op 22 0], _, [], Lr 23, [50]⟩ :: ⟨[.op 2 0, .op 18 0, .op 23 0], _, [], Lr 24, [51]⟩ :: ⟨[.op 2 0, .op 24 0], _, [], Lr 25, [52]⟩ :: ⟨[.op 25 0], _, [], Lr 26, [26]⟩ :: []) (F := [.old 0, .old 1, .op 26 0]) (hst.pick [0, 1] rfl) hb Za
         (o_p rfl (Zd Zuf rfl rfl u_0) <| o_p rfl (Zf ty_4 rfl rfl u_0) <| o_p rfl (Zc rfl rfl u_0) <| o_g (g_t rfl rfl rfl (fun hG => Zd Zf5 rfl rfl u_0)) <| o_g (g_t rfl rfl rfl (fun hG => Zf ty_2 rfl rfl (Opd.gd hG u_0))) <| o_g (g_t rfl rfl rfl (fun hG => Zb6 rfl rfl (Opd.gd hG u_0) c_i)) <| o_g (g_t rfl rfl rfl (fun hG => Zc rfl rfl (Opd.gd hG u_0))) <| o_g (g_fi rfl rfl rfl (fun hG => Zd Zf6 rfl rfl u_0)) <| o_g (g_fi rfl rfl rfl (fun hG => Zf ty_2 rfl rfl (Opd.gd hG u_0))) <| o_g (g_fi rfl rfl rfl (fun hG => Zci rfl rfl (Opd.gd hG u_0) c_i)) <| o_g (g_t rfl rfl rfl (fun hG => Zbf rfl rfl (Opd.gd hG u_0) (fun hz => (Opd.gd (bA hG (bNF hz)) u_1)))) <| o_g (g_t rfl rfl rfl (fun hG => Zc rfl rfl (Opd.gd hG u_0))) <| o_g (g_fi rfl rfl rfl (fun hG => Zd Zb8 rfl rfl u_0)) <| o_g (g_fi rfl rfl rfl (fun hG => Zf ty_2 rfl rfl (Opd.gd hG u_0))) <| o_g (g_fi rfl rfl rfl (fun hG => Zd Zf5 rfl rfl u_0)) <| o_g (g_fi rfl rfl rfl (fun hG => Zf ty_2 rfl rfl (Opd.gd hG u_0))) <| o_g (g_fi rfl rfl rfl (fun hG => Zb6 rfl rfl (Opd.gd hG u_0) (Opd.gd hG u_1))) <| o_g (g_t rfl rfl rfl (fun hG => Zbf rfl rfl (Opd.gd hG u_0) (fun hz => (Opd.gd (bA hG (bNF hz)) u_1)))) <| o_g (g_t rfl rfl rfl (fun hG => Zc rfl rfl (Opd.gd hG u_0))) <| o_g (g_fi rfl rfl rfl (fun hG => Zd Zb8 rfl rfl u_0)) <| o_g (g_fi rfl rfl rfl (fun hG => Zf ty_2 rfl rfl (Opd.gd hG u_0))) <| o_g (g_fi rfl rfl rfl (fun hG => Zd Zf6 rfl rfl u_0)) <| o_g (g_fi rfl rfl rfl (fun hG => Zf ty_2 rfl rfl (Opd.gd hG u_0))) <| o_g (g_fi rfl rfl rfl (fun hG => Zci rfl rfl (Opd.gd hG u_0) (Opd.gd hG u_1))) <| o_g (g_t rfl rfl rfl (fun hG => Zbf rfl rfl (Opd.gd hG u_0) (fun hz => (Opd.gd (bA hG (bNF hz)) u_1)))) <| o_p rfl (Zbc rfl rfl u_0 (fun hz => (Opd.gd hz u_1))) <| o_p rfl (Zb rfl rfl u_0) <| o_n) (by kernel_rfl) (fun a g hst hb => ?_)
       refine wp_cond_split (hst.bool 2 rfl) (fun hc8 => ?_) (fun hc8 => ?_)
       · replace H0 := Zp hc8 H0
         refine r_s (L := []) (T := [⟨[], _, [], [], [2]⟩]) (F := [.op 0 0]) (hst.pick [] rfl) hb Za
           (o_p rfl (Zb rfl rfl c_i) <| o_n) (by kernel_rfl) (fun a g hst hb => ?_)
         refine wp_ret ?_
         refine Zo ?_
         refine Zk ?_
         obtain rfl := Option.some.inj H0
         exact Zz rfl hst hb (Zh (s := 2)) (hst.at 0 rfl)
       · replace H0 := Zq hc8 H0
         obtain ⟨r9, h10, H0⟩ := Zj H0
         refine r_s (L := [(1, _), (3, _)]) (T := [⟨[.old 0], _, [], [], [54]⟩, ⟨[.op 0 0], _, [], [0], [55]⟩, ⟨[.op 1 0], _, [], [0, 1], [56]⟩, ⟨[.op 2 0], _, [], [0, 1, 2], [57]⟩, ⟨[.op 3 0], _, [], Lr 4, [53]⟩]) (F := [.old 0, .old 1, .op 4 0]) (hst.pick [0, 1] rfl) hb Za
           (o_p rfl (Zd Ze3 rfl rfl u_0) <| o_p rfl (Zf Zc0 rfl rfl u_0) <| o_p rfl (Zu Zuv (Zj6 _ h10) rfl rfl (.cons u_0 .nil)) <| o_p rfl (Zcf rfl rfl u_0) <| o_p rfl (Zb rfl rfl u_0) <| o_n) (by kernel_rfl) (fun a g hst hb => ?_)
         refine wp_cond_split (hst.bool 2 rfl) (fun hc11 => ?_) (fun hc11 => ?_)
         · replace H0 := Zp hc11 H0
           refine r_s (L := []) (T := [⟨[], _, [], [], [2]⟩]) (F := [.op 0 0]) (hst.pick [] rfl) hb Za
             (o_p rfl (Zb rfl rfl c_i) <| o_n) (by kernel_rfl) (fun a g hst hb => ?_)
           refine wp_ret ?_
           refine Zo ?_
           refine Zk ?_
           obtain rfl := Option.some.inj H0
           exact Zz rfl hst hb (Zh (s := 2)) (hst.at 0 rfl)
         · replace H0 := Zq hc11 H0
           refine r_s (L := [(1, _), (3, _)]) (T := [⟨[.old 1], _, [], [], [59]⟩, ⟨[.op 0 0], _, [], [0], [60]⟩, ⟨[.op 1 0], _, [], [0, 1], [61]⟩, ⟨[.op 2 0], _, [], [0, 1, 2], [58]⟩]) (F := [.old 0, .op 3 0]) (hst.pick [0, 1] rfl) hb Za
             (o_p rfl (Zd Zug rfl rfl u_0) <| o_p rfl (Zf ty_4 rfl rfl u_0) <| o_p rfl (Zcf rfl rfl u_0) <| o_p rfl (Zb rfl rfl u_0) <| o_n) (by kernel_rfl) (fun a g hst hb => ?_)
           refine wp_cond_split (hst.bool 1 rfl) (fun hc12 => ?_) (fun hc12 => ?_)
           · replace H0 := Zp hc12 H0
             refine r_s (L := []) (T := [⟨[], _, [], [], [2]⟩]) (F := [.op 0 0]) (hst.pick [] rfl) hb Za
               (o_p rfl (Zb rfl rfl c_i) <| o_n) (by kernel_rfl) (fun a g hst hb => ?_)
             refine wp_ret ?_
             refine Zo ?_
             refine Zk ?_
             obtain rfl := Option.some.inj H0
             exact Zz rfl hst hb (Zh (s := 2)) (hst.at 0 rfl)
           · replace H0 := Zq hc12 H0
             refine r_s (L := [(1, _)]) (T := [⟨[.old 0], _, [], [], [63]⟩, ⟨[.op 0 0], _, [], [0], [64]⟩, ⟨[.op 1 0], _, [], [0, 1], [65]⟩, ⟨[.op 2 0], _, [], [0, 1, 2], [66]⟩, ⟨[.op 3 0, .old 0], _, [], Lr 4, [67]⟩, ⟨[.op 3 0, .op 4 0], _, [], Lr 5, [68]⟩, ⟨[.op 3 0, .op 5 0], _, [], Lr 6, [69]⟩, ⟨[.op 3 0, .op 6 0], _, [], Lr 7, [70]⟩, ⟨[.op 7 0], _, [], Lr 8, [62]⟩]) (F := [.old 0, .op 8 0]) (hst.pick [0] rfl) hb Za
               (o_p rfl (Zd Zef rfl rfl u_0) <| o_p rfl (Zf ty_3 rfl rfl u_0) <| o_p rfl (Zb6 rfl rfl u_0 c_i) <| o_p rfl (Zc rfl rfl u_0) <| o_g (g_f rfl rfl rfl (fun hG => Zd Zef rfl rfl u_0)) <| o_g (g_f rfl rfl rfl (fun hG => Zf ty_3 rfl rfl (Opd.gd hG u_0))) <| o_g (g_f rfl rfl rfl (fun hG => Zci rfl rfl (Opd.gd hG u_0) c_i)) <| o_p rfl (Zbf rfl rfl u_0 (fun hz => (Opd.gd (bNF hz) u_1))) <| o_p rfl (Zb rfl rfl u_0) <| o_n) (by kernel_rfl) (fun a g hst hb => ?_)
             refine wp_cond_split (hst.bool 1 rfl) (fun hc13 => ?_) (fun hc13 => ?_)
             · replace H0 := Zp hc13 H0
               refine r_s (L := []) (T := [⟨[], _, [], [], [2]⟩]) (F := [.op 0 0]) (hst.pick [] rfl) hb Za
                 (o_p rfl (Zb rfl rfl c_i) <| o_n) (by kernel_rfl) (fun a g hst hb => ?_)
               refine wp_ret ?_
               refine Zo ?_
               refine Zk ?_
               obtain rfl := Option.some.inj H0
               exact Zz rfl hst hb (Zh (s := 2)) (hst.at 0 rfl)
             · replace H0 := Zq hc13 H0
               refine r_s (L := [(1, _)]) (T := [⟨[.old 0], _, [], [], [72]⟩, ⟨[.op 0 0], _, [], [0], [73]⟩, ⟨[.op 1 0], _, [], [0, 1], [74]⟩, ⟨[.old 0], _, [], [], [75]⟩, ⟨[.op 3 0], _, [], [3], [76]⟩, ⟨[.op 2 0, .op 4 0], _, [], Lr 5, [77]⟩, ⟨[.op 5 0], _, [], Lr 6, [71]⟩]) (F := [.old 0, .op 6 0]) (hst.pick [0] rfl) hb Za
                 (o_p rfl (Zd Zb3 rfl rfl u_0) <| o_p rfl (Zf Zcz rfl rfl u_0) <| o_p rfl (Zco Tryd.underlying23 rfl rfl u_0) <| o_p rfl (Zd Zef rfl rfl u_0) <| o_p rfl (Zf ty_3 rfl rfl u_0) <| o_p rfl (Zci rfl rfl u_0 u_1) <| o_p rfl (Zb rfl rfl u_0) <| o_n) (by kernel_rfl) (fun a g hst hb => ?_)
               refine wp_cond_split (hst.bool 1 rfl) (fun hc14 => ?_) (fun hc14 => ?_)
               · replace H0 := Zp hc14 H0
                 refine r_s (L := []) (T := [⟨[], _, [], [], [2]⟩]) (F := [.op 0 0]) (hst.pick [] rfl) hb Za
                   (o_p rfl (Zb rfl rfl c_i) <| o_n) (by kernel_rfl) (fun a g hst hb => ?_)
                 refine wp_ret ?_
                 refine Zo ?_
                 refine Zk ?_
                 obtain rfl := Option.some.inj H0
                 exact Zz rfl hst hb (Zh (s := 2)) (hst.at 0 rfl)
               · replace H0 := Zq hc14 H0
                 refine wp_skip ?_
                 refine Zbg ?_
                 refine Zn ?_
                 obtain ⟨r15, h16, H0⟩ := Zj H0
                 refine r_s (L := [(1, _)]) (T := [⟨[.old 0], _, [], [], [78]⟩, ⟨[.op 0 0], _, [], [0], [79]⟩, ⟨[.old 0], _, [], [], [80]⟩, ⟨[.op 2 0], _, [], [2], [81]⟩, ⟨[.op 1 0, .op 3 0], _, [], Lr 4, [82]⟩, ⟨[.op 4 0], _, [], Lr 5, [2]⟩]) (F := [.op 5 0]) (hst.pick [0] rfl) hb Za
                   (o_p rfl (Zd Zc9 rfl rfl u_0) <| o_p rfl (Zf ty_3 rfl rfl u_0) <| o_p rfl (Zd Zb3 rfl rfl u_0) <| o_p rfl (Zf Zcz rfl rfl u_0) <| o_p rfl (Zu Z2c (Zsy _ _ h16) rfl rfl (.cons u_0 (.cons u_1 .nil))) <| o_p rfl (Zb rfl rfl u_0) <| o_n) (by kernel_rfl) (fun a g hst hb => ?_)
                 refine wp_ret ?_
                 obtain rfl := Option.some.inj H0
                 exact Zz rfl hst hb (Zh (s := 2)) (hst.at 0 rfl)
theorem Zow (a0 : Int) {r : Nat} (h : Zkw a0 = some r) : FnOk Tryd.prog 32 [(pInt .i64 a0)] (pFlt r) := by
 have H0 := h
 unfold Zkw at H0
 clear h
 refine Zbt (N := 8) Tryd.func32 rfl rfl (Nat.le_of_ble_eq_true rfl) rfl rfl (fun a g0 hst hb => ?_)
 refine r_s (T := [⟨[], _, [], [], [2]⟩]) (F := [.old 0]) hst hb Za
   (o_p rfl (Zb rfl rfl c_f) <| o_n) (by kernel_rfl) (fun a g hst hb => ?_)
 refine r_s (T := [⟨[], _, [], [], [3]⟩]) (F := [.old 0]) hst hb Za
   (o_p rfl (Zb rfl rfl c_i) <| o_n) (by kernel_rfl) (fun a g hst hb => ?_)
 refine wp_seq ?_
 refine r_s (T := [⟨[.old 0], _, [], [], [4]⟩, ⟨[.op 0 0], _, [], [0], [5]⟩]) (F := [.op 1 0]) hst hb Za
   (o_p rfl (Zc rfl rfl u_0) <| o_p rfl (Zmx rfl rfl u_0 c_i) <| o_n) (by kernel_rfl) (fun a g hst hb => ?_)
 refine Zcl (fun a w => ∃ (j2 : Int) (g : G), w = g.w ∧ St 8 [(3, (pInt .u64 j2))] a g ∧ Base g0 g ∧ Zjr j2 = some r) ?_ ?_
 · rintro a w ⟨j2, g, rfl, hst, hb, H0⟩
   unfold Zjr at H0
   refine Zn ?_
   refine r_s (T := [⟨[.old 0], _, [], [], [6]⟩, ⟨[.op 0 0], _, [], [0], [7]⟩, ⟨[.op 1 0], _, [], [0, 1], [2]⟩]) (F := [.op 2 0]) hst hb Za
     (o_p rfl (Zc rfl rfl u_0) <| o_p rfl (Zos Zyc rfl rfl u_0) <| o_p rfl (Zb rfl rfl u_0) <| o_n) (by kernel_rfl) (fun a g hst hb => ?_)
   refine wp_ret ?_
   obtain rfl := Option.some.inj H0
   exact Zz rfl hst hb (Zh (s := 2)) (hst.at 0 rfl)
 · refine wp_cond_split (hst.bool 0 rfl) (fun hc1 => ?_) (fun hc1 => ?_)
   · replace H0 := Zp hc1 H0
     refine r_g (L := []) (T := [⟨[], _, [], [], [3]⟩]) (F := [.op 0 0]) (hst.pick [] rfl) hb Za
       (o_p rfl (Zb rfl rfl c_i) <| o_n) (by kernel_rfl) (fun a g hst hb => ?_)
     exact ⟨(9218868437227405312 : Int), g, rfl, (hst.pick [0] rfl), hb, H0⟩
   · replace H0 := Zq hc1 H0
     refine r_g (L := []) (T := [⟨[], _, [], [], [3]⟩]) (F := [.op 0 0]) (hst.pick [] rfl) hb Za
       (o_p rfl (Zb rfl rfl c_i) <| o_n) (by kernel_rfl) (fun a g hst hb => ?_)
     exact ⟨(18442240474082181120 : Int), g, rfl, (hst.pick [0] rfl), hb, H0⟩
theorem Zly (a0 : Ze) {r : Ze × Bool} (h : Zhy a0 = some r) : FnOk Tryd.prog 10 [(Zg.pd a0)] (pTup [(Zg.pd r.1), (Z9 r.2)]) := by
 have H0 := h
 unfold Zhy at H0
 clear h
 refine Zbt (N := 32) Tryd.func10 rfl rfl (Nat.le_of_ble_eq_true rfl) rfl rfl (fun a g0 hst hb => ?_)
 refine r_s (T := [⟨[.old 0], _, [], [], [1]⟩, ⟨[], [(2, (pBox Zg 2 (default : Ze)))], [3], [], [2]⟩, ⟨[], _, [], [], [3]⟩]) (F := [.op 0 0, .op 1 0]) hst hb Za
   (o_p rfl (Zbq rfl rfl u_0) <| o_p rfl (Zbu (zs := [.int .i64 0, .int .i64 0, .int .i64 0, .int .i64 0, .float .f64 0, .int .i64 0, .string ByteArray.empty, .slice none 0 0]) (by kernel_rfl) (fun g => Zb4 g) rfl rfl) <| o_p rfl (Zb rfl rfl c_b) <| o_n) (by kernel_rfl) (fun a g hst hb => ?_)
 refine wp_seq ?_
 obtain ⟨r1, h2, H0⟩ := Zj H0
 refine r_s (T := [⟨[.old 0], _, [], [], [4]⟩, ⟨[.op 0 0], _, [], [0], [5]⟩, ⟨[.op 1 0], _, [], [0, 1], [6]⟩]) (F := [.old 0, .old 1, .op 2 0]) hst hb Za
   (o_p rfl (Zf Z8 rfl rfl u_0) <| o_p rfl (Zu Zrp (Zi6 _ h2) rfl rfl (.cons u_0 .nil)) <| o_p rfl (Zcp rfl rfl u_0 c_i) <| o_n) (by kernel_rfl) (fun a g hst hb => ?_)
 refine wp_cond_split (hst.bool 2 rfl) (fun hc3 => ?_) (fun hc3 => ?_)
 · replace H0 := Zp hc3 H0
   refine r_s (L := [(2, _)]) (T := [⟨[], _, [], [], [7]⟩, ⟨[.op 0 0, .old 0], _, [3], [0], [2]⟩, ⟨[], _, [], [0, 1], [3]⟩]) (F := [.op 1 0, .op 2 0]) (hst.pick [1] rfl) hb Za
     (o_p rfl (Zks rfl rfl ) <| o_p rfl (Zba Z8 rfl rfl u_1 u_0) <| o_p rfl (Zb rfl rfl c_b) <| o_n) (by kernel_rfl) (fun a g hst hb => ?_)
   refine wp_ret ?_
   refine Zk ?_
   obtain rfl := Option.some.inj H0
   obtain ⟨u0, hu0, hq0⟩ := Zbi (P := Tryd.prog) Z8 (hst.at 0 rfl)
   exact Zdr rfl hst hb hu0 (Zh (s := 3)) (Zc1 hq0 (hst.at 1 rfl))
 · replace H0 := Zq hc3 H0
   refine wp_skip ?_
   refine Zn ?_
   refine wp_seq ?_
   refine r_s (L := [(1, _), (2, _)]) (T := [⟨[.old 0], _, [], [], [8]⟩, ⟨[.op 0 0], _, [], [0], [9]⟩]) (F := [.old 0, .old 1, .op 1 0]) (hst.pick [0, 1] rfl) hb Za
     (o_p rfl (Zd Zc9 rfl rfl u_0) <| o_p rfl (Zf ty_3 rfl rfl u_0) <| o_n) (by kernel_rfl) (fun a g hst hb => ?_)
   refine wp_block ?_
   refine wp_seq ?_
   refine r_s (T := [⟨[.old 2], _, [], [], [11]⟩, ⟨[.op 0 0], _, [], [0], [10]⟩]) (F := [.old 0, .old 1, .old 2, .op 1 0]) hst hb Za
     (o_p rfl (Z7 rfl rfl u_0 c_i) <| o_p rfl (Zb rfl rfl u_0) <| o_n) (by kernel_rfl) (fun a g hst hb => ?_)
   refine Zcl (fun a w => ∃ (j6 : Bool) (g : G), w = g.w ∧ St 32 [(1, (Zg.ptr a0)), (2, (pBox Zg 2 (default : Ze))), (9, (pInt .i64 a0.Kind)), (10, (Z9 j6))] a g ∧ Base g0 g ∧ Zf7 a0 j6 = some r) ?_ ?_
   · rintro a w ⟨j6, g, rfl, hst, hb, H0⟩
     unfold Zf7 at H0
     refine Zn ?_
     refine wp_cond_split (hst.bool 3 rfl) (fun hc7 => ?_) (fun hc7 => ?_)
     · replace H0 := Zp hc7 H0
       refine r_s (L := [(2, _)]) (T := [⟨[], _, [], [], [14]⟩, ⟨[.op 0 0, .old 0], _, [3], [0], [2]⟩, ⟨[], _, [], [0, 1], [3]⟩]) (F := [.op 1 0, .op 2 0]) (hst.pick [1] rfl) hb Za
         (o_p rfl (Zty rfl rfl c_i) <| o_p rfl (Zba Z8 rfl rfl u_1 u_0) <| o_p rfl (Zb rfl rfl c_b) <| o_n) (by kernel_rfl) (fun a g hst hb => ?_)
       refine wp_ret ?_
       refine Zo ?_
       refine Zk ?_
       obtain rfl := Option.some.inj H0
       obtain ⟨u0, hu0, hq0⟩ := Zbi (P := Tryd.prog) Z8 (hst.at 0 rfl)
       exact Zdr rfl hst hb hu0 (Zh (s := 3)) (Zc1 hq0 (hst.at 1 rfl))
     · replace H0 := Zq hc7 H0
       refine r_s (L := [(1, _), (2, _), (9, _)]) (T := [⟨[.old 2], _, [], [], [16]⟩, ⟨[.op 0 0], _, [], [0], [15]⟩]) (F := [.old 0, .old 1, .old 2, .op 1 0]) (hst.pick [0, 1, 2] rfl) hb Za
         (o_p rfl (Z7 rfl rfl u_0 c_i) <| o_p rfl (Zb rfl rfl u_0) <| o_n) (by kernel_rfl) (fun a g hst hb => ?_)
       refine wp_cond_split (hst.bool 3 rfl) (fun hc8 => ?_) (fun hc8 => ?_)
       · replace H0 := Zp hc8 H0
         obtain ⟨r9, h10, H0⟩ := Zj H0
         refine r_s (L := [(2, _)]) (T := [⟨[], _, [], [], [17]⟩, ⟨[.op 0 0], _, [], [0], [18]⟩, ⟨[.op 1 0, .old 0], _, [3], [0, 1], [2]⟩, ⟨[], _, [], [0, 1, 2], [3]⟩]) (F := [.op 2 0, .op 3 0]) (hst.pick [1] rfl) hb Za
           (o_p rfl (Zu Zx3 (Zow _ h10) rfl rfl (.cons c_i .nil)) <| o_p rfl (Zle rfl rfl c_i u_0) <| o_p rfl (Zba Z8 rfl rfl u_1 u_0) <| o_p rfl (Zb rfl rfl c_b) <| o_n) (by kernel_rfl) (fun a g hst hb => ?_)
         refine wp_ret ?_
         refine Zo ?_
         refine Zk ?_
         obtain rfl := Option.some.inj H0
         obtain ⟨u0, hu0, hq0⟩ := Zbi (P := Tryd.prog) Z8 (hst.at 0 rfl)
         exact Zdr rfl hst hb hu0 (Zh (s := 3)) (Zc1 hq0 (hst.at 1 rfl))
       · replace H0 := Zq hc8 H0
         refine r_s (L := [(1, _), (2, _), (9, _)]) (T := [⟨[.old 2], _, [], [], [20]⟩, ⟨[.op 0 0], _, [], [0], [19]⟩]) (F := [.old 0, .old 1, .old 2, .op 1 0]) (hst.pick [0, 1, 2] rfl) hb Za
           (o_p rfl (Z7 rfl rfl u_0 c_i) <| o_p rfl (Zb rfl rfl u_0) <| o_n) (by kernel_rfl) (fun a g hst hb => ?_)
         refine wp_cond_split (hst.bool 3 rfl) (fun hc11 => ?_) (fun hc11 => ?_)
         · replace H0 := Zp hc11 H0
           obtain ⟨r12, h13, H0⟩ := Zj H0
           refine r_s (L := [(2, _)]) (T := [⟨[], _, [], [], [21]⟩, ⟨[.op 0 0], _, [], [0], [22]⟩, ⟨[.op 1 0, .old 0], _, [3], [0, 1], [2]⟩, ⟨[], _, [], [0, 1, 2], [3]⟩]) (F := [.op 2 0, .op 3 0]) (hst.pick [1] rfl) hb Za
             (o_p rfl (Zu Zuu (Zlm h13) rfl rfl .nil) <| o_p rfl (Zle rfl rfl c_i u_0) <| o_p rfl (Zba Z8 rfl rfl u_1 u_0) <| o_p rfl (Zb rfl rfl c_b) <| o_n) (by kernel_rfl) (fun a g hst hb => ?_)
           refine wp_ret ?_
           refine Zo ?_
           refine Zk ?_
           obtain rfl := Option.some.inj H0
           obtain ⟨u0, hu0, hq0⟩ := Zbi (P := Tryd.prog) Z8 (hst.at 0 rfl)
           exact Zdr rfl hst hb hu0 (Zh (s := 3)) (Zc1 hq0 (hst.at 1 rfl))
         · replace H0 := Zq hc11 H0
           refine r_s (L := [(1, _), (2, _), (9, _)]) (T := [⟨[.old 2], _, [], [], [24]⟩, ⟨[.op 0 0], _, [], [0], [23]⟩]) (F := [.old 0, .old 1, .old 2, .op 1 0]) (hst.pick [0, 1, 2] rfl) hb Za
             (o_p rfl (Z7 rfl rfl u_0 c_i) <| o_p rfl (Zb rfl rfl u_0) <| o_n) (by kernel_rfl) (fun a g hst hb => ?_)
           refine wp_cond_split (hst.bool 3 rfl) (fun hc14 => ?_) (fun hc14 => ?_)
           · replace H0 := Zp hc14 H0
             refine r_s (L := [(2, _)]) (T := [⟨[], _, [], [], [25]⟩, ⟨[.op 0 0, .old 0], _, [3], [0], [2]⟩, ⟨[], _, [], [0, 1], [3]⟩]) (F := [.op 1 0, .op 2 0]) (hst.pick [1] rfl) hb Za
               (o_p rfl (Zli rfl rfl c_i c_i) <| o_p rfl (Zba Z8 rfl rfl u_1 u_0) <| o_p rfl (Zb rfl rfl c_b) <| o_n) (by kernel_rfl) (fun a g hst hb => ?_)
             refine wp_ret ?_
             refine Zo ?_
             refine Zk ?_
             obtain rfl := Option.some.inj H0
             obtain ⟨u0, hu0, hq0⟩ := Zbi (P := Tryd.prog) Z8 (hst.at 0 rfl)
             exact Zdr rfl hst hb hu0 (Zh (s := 3)) (Zc1 hq0 (hst.at 1 rfl))
           · replace H0 := Zq hc14 H0
             refine r_s (L := [(1, _), (2, _), (9, _)]) (T := [⟨[.old 2], _, [], [], [27]⟩, ⟨[.op 0 0], _, [], [0], [26]⟩]) (F := [.old 0, .old 1, .op 1 0]) (hst.pick [0, 1, 2] rfl) hb Za
               (o_p rfl (Z7 rfl rfl u_0 c_i) <| o_p rfl (Zb rfl rfl u_0) <| o_n) (by kernel_rfl) (fun a g hst hb => ?_)
             refine wp_cond_split (hst.bool 2 rfl) (fun hc15 => ?_) (fun hc15 => ?_)
             · replace H0 := Zp hc15 H0
               refine r_s (L := [(1, _), (2, _)]) (T := [⟨[.old 0], _, [], [], [28]⟩, ⟨[.op 0 0], _, [], [0], [29]⟩, ⟨[.op 1 0], _, [], [0, 1], [30]⟩, ⟨[.op 2 0, .old 1], _, [3], [0, 1, 2], [2]⟩, ⟨[], _, [], Lr 4, [3]⟩]) (F := [.op 3 0, .op 4 0]) (hst.pick [0, 1] rfl) hb Za
                 (o_p rfl (Zd Zef rfl rfl u_0) <| o_p rfl (Zf ty_3 rfl rfl u_0) <| o_p rfl (Zli rfl rfl c_i u_0) <| o_p rfl (Zba Z8 rfl rfl u_1 u_0) <| o_p rfl (Zb rfl rfl c_b) <| o_n) (by kernel_rfl) (fun a g hst hb => ?_)
               refine wp_ret ?_
               refine Zo ?_
               refine Zk ?_
               obtain rfl := Option.some.inj H0
               obtain ⟨u0, hu0, hq0⟩ := Zbi (P := Tryd.prog) Z8 (hst.at 0 rfl)
               exact Zdr rfl hst hb hu0 (Zh (s := 3)) (Zc1 hq0 (hst.at 1 rfl))
             · replace H0 := Zq hc15 H0
               refine wp_skip ?_
               refine Zbg ?_
               refine Zn ?_
               refine r_s (L := [(2, _)]) (T := [⟨[], _, [], [], [31]⟩, ⟨[.op 0 0, .old 0], _, [3], [0], [2]⟩, ⟨[], _, [], [0, 1], [3]⟩]) (F := [.op 1 0, .op 2 0]) (hst.pick [1] rfl) hb Za
                 (o_p rfl (Zks rfl rfl ) <| o_p rfl (Zba Z8 rfl rfl u_1 u_0) <| o_p rfl (Zb rfl rfl c_b) <| o_n) (by kernel_rfl) (fun a g hst hb => ?_)
               refine wp_ret ?_
               obtain rfl := Option.some.inj H0
               obtain ⟨u0, hu0, hq0⟩ := Zbi (P := Tryd.prog) Z8 (hst.at 0 rfl)
               exact Zdr rfl hst hb hu0 (Zh (s := 3)) (Zc1 hq0 (hst.at 1 rfl))
   · refine wp_cond_split (hst.bool 3 rfl) (fun hc4 => ?_) (fun hc4 => ?_)
     · replace H0 := Zp hc4 H0
       refine wp_skip ?_
       exact ⟨(a0.Kind == (2 : Int)), g, rfl, (hst.pick [0, 1, 2, 3] rfl), hb, H0⟩
     · replace H0 := Zq hc4 H0
       refine r_s (L := [(1, _), (2, _), (9, _)]) (T := [⟨[.old 2], _, [], [], [12]⟩, ⟨[.op 0 0], _, [], [0], [10]⟩]) (F := [.old 0, .old 1, .old 2, .op 1 0]) (hst.pick [0, 1, 2] rfl) hb Za
         (o_p rfl (Z7 rfl rfl u_0 c_i) <| o_p rfl (Zb rfl rfl u_0) <| o_n) (by kernel_rfl) (fun a g hst hb => ?_)
       refine wp_cond_split (hst.bool 3 rfl) (fun hc5 => ?_) (fun hc5 => ?_)
       · replace H0 := Zp hc5 H0
         refine wp_skip ?_
         exact ⟨(a0.Kind == (3 : Int)), g, rfl, (hst.pick [0, 1, 2, 3] rfl), hb, H0⟩
       · replace H0 := Zq hc5 H0
         refine r_g (L := [(1, _), (2, _), (9, _)]) (T := [⟨[.old 2], _, [], [], [13]⟩, ⟨[.op 0 0], _, [], [0], [10]⟩]) (F := [.old 0, .old 1, .old 2, .op 1 0]) (hst.pick [0, 1, 2] rfl) hb Za
           (o_p rfl (Z7 rfl rfl u_0 c_i) <| o_p rfl (Zb rfl rfl u_0) <| o_n) (by kernel_rfl) (fun a g hst hb => ?_)
         exact ⟨(a0.Kind == (4 : Int)), g, rfl, (hst.pick [0, 1, 2, 3] rfl), hb, H0⟩
theorem Zqz (a0 : Int) {r : Zcv} (h : Zkt a0 = some r) : FnOk Tryd.prog 62 [(pInt .i64 a0)] (Zdo.pd r) := by
 have H0 := h
 unfold Zkt at H0
 clear h
 refine Zbt (N := 13) Tryd.func62 rfl rfl (Nat.le_of_ble_eq_true rfl) rfl rfl (fun a g0 hst hb => ?_)
 refine r_s (T := [⟨[], [(2, (pBox Zdo 2 (default : Zcv)))], [3], [], [2]⟩]) (F := [.old 0, .op 0 0]) hst hb Za
   (o_p rfl (Zbu (zs := [.string ByteArray.empty, .int .i64 0, .string ByteArray.empty]) (by kernel_rfl) (fun g => Zox g) rfl rfl) <| o_n) (by kernel_rfl) (fun a g hst hb => ?_)
 refine wp_seq ?_
 refine r_s (T := [⟨[.old 0], _, [], [], [3]⟩, ⟨[.op 0 0], _, [], [0], [4]⟩, ⟨[.op 1 0], _, [], [0, 1], [5]⟩, ⟨[.op 2 0, .old 0], _, [], [0, 1, 2], [6]⟩, ⟨[.op 2 0, .op 3 0], _, [], Lr 4, [7]⟩, ⟨[.op 2 0, .op 4 0], _, [], Lr 5, [8]⟩]) (F := [.old 0, .old 1, .op 5 0]) hst hb Za
   (o_p rfl (Zc rfl rfl u_0) <| o_p rfl (Zur rfl rfl u_0 c_i) <| o_p rfl (Zc rfl rfl u_0) <| o_g (g_f rfl rfl rfl (fun hG => Zc rfl rfl u_0)) <| o_g (g_f rfl rfl rfl (fun hG => Zmx rfl rfl (Opd.gd hG u_0) c_i)) <| o_p rfl (Zbf rfl rfl u_0 (fun hz => (Opd.gd (bNF hz) u_1))) <| o_n) (by kernel_rfl) (fun a g hst hb => ?_)
 refine wp_cond_split (hst.bool 2 rfl) (fun hc1 => ?_) (fun hc1 => ?_)
 · replace H0 := Zp hc1 H0
   refine r_s (L := [(2, _)]) (T := [⟨[], _, [], [], [9]⟩, ⟨[.op 0 0, .old 0], _, [3], [0], [2]⟩]) (F := [.op 1 0]) (hst.pick [1] rfl) hb Za
     (o_p rfl (Zzp rfl rfl ) <| o_p rfl (Zba Zhu rfl rfl u_1 u_0) <| o_n) (by kernel_rfl) (fun a g hst hb => ?_)
   refine wp_ret ?_
   refine Zk ?_
   obtain rfl := Option.some.inj H0
   obtain ⟨u0, hu0, hq0⟩ := Zbi (P := Tryd.prog) Zhu (hst.at 0 rfl)
   exact Zz rfl hst hb hu0 hq0
 · replace H0 := Zq hc1 H0
   refine wp_skip ?_
   refine Zn ?_
   obtain ⟨e2, h3, H0⟩ := Zj H0
   refine r_s (L := [(0, _), (2, _)]) (T := [⟨[.old 0], _, [], [], [10]⟩, ⟨[.op 0 0], _, [], [0], [11]⟩, ⟨[.op 1 0], _, [], [0, 1], [12]⟩, ⟨[.op 2 0, .old 1], _, [3], [0, 1, 2], [2]⟩]) (F := [.op 3 0]) (hst.pick [0, 1] rfl) hb Za
     (o_p rfl (Zc rfl rfl u_0) <| o_p rfl (Ztn Tryd.underlying127 Z0t rfl rfl (Opd.glob gm_1 gk_1) u_0 h3) <| o_p rfl (Zf Zhu rfl rfl u_0) <| o_p rfl (Zba Zhu rfl rfl u_1 u_0) <| o_n) (by kernel_rfl) (fun a g hst hb => ?_)
   refine wp_ret ?_
   obtain rfl := Option.some.inj H0
   obtain ⟨u0, hu0, hq0⟩ := Zbi (P := Tryd.prog) Zhu (hst.at 0 rfl)
   exact Zz rfl hst hb hu0 hq0
end Go.CL
