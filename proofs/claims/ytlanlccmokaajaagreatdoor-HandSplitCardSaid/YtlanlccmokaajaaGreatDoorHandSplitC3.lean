/- A part of the proof of HandSplit. -/
import Derived.Test.YtlanlccmokaajaaGreatDoorHandSplitC2
import Derived.Test.YtlanlccmokaajaaGreatDoorProg
set_option linter.unusedVariables false
set_option linter.unusedSimpArgs false
set_option maxRecDepth 100000
namespace Go.CL
open Go Go.RowKit
structure Zi where
 Score:Nat
 Name:ByteArray
 deriving Inhabited
structure Zb where
 Kind:Int
 Num:Int
 Low:Int
 High:Int
 Real:Nat
 Cap:Int
 Text:ByteArray
 List:List Zi
 deriving Inhabited
structure Zm where
 Kind:Int
 Key:ByteArray
 N:Int
 X:Nat
 S:ByteArray
 Make:Zb
 Must:Bool
 deriving Inhabited
structure Zbk where
 Acts:List Zm
 deriving Inhabited
structure Zcd where
 text:Bool
 num:Bool
 bounds:Bool
 real:Bool
 list:Bool
 deriving Inhabited
structure Zdo where
 word:ByteArray
 on:Int
 has:ByteArray
 deriving Inhabited
inductive shelf_nodeT where
 | nil
 | node (key:ByteArray) (rec_:Zb) (left:shelf_nodeT) (right:shelf_nodeT) (size:Int)
 deriving Inhabited
structure shelf_node where
 key:ByteArray
 rec_:Zb
 left:shelf_nodeT
 right:shelf_nodeT
 size:Int
 deriving Inhabited
def shelf_nodeT.un:shelf_nodeT → Option shelf_node
 | .nil=>none
 | .node x0 x1 x2 x3 x4=>some ⟨x0,x1,x2,x3,x4⟩
def shelf_node.up (x:shelf_node):shelf_nodeT:=.node x.key x.rec_ x.left x.right x.size
def shelf_nodeT.isNil:shelf_nodeT → Bool
 | .nil=>true
 | .node ..=>false
def shelf_nodeT.hh:shelf_nodeT → Nat
 | .nil=>0
 | .node x0 x1 x2 x3 x4=>max x2.hh x3.hh + 1
structure Zk where
 top:shelf_nodeT
 room:Int
 deriving Inhabited
structure Zc where
 Code:Int
 Num:Int
 Rec:Zb
 deriving Inhabited
structure Zw where
 Code:Int
 At:Int
 Answers:List Zc
 deriving Inhabited
structure Z0 where
 d:Zbk
 split:List ByteArray
 now:Zk
 out:Zw
 over:Bool
 deriving Inhabited
structure Zbe where
 Key:ByteArray
 Rec:Zb
 deriving Inhabited
structure Zf where
 L:List Zbe
 Room:Int
 deriving Inhabited
def g_0:List Zdo:=[{ word:=⟨#[]⟩,on:=(0),has:=⟨#[]⟩ },
 { word:=⟨#[110,101,119]⟩,on:=(0),has:=⟨#[109]⟩ },
 { word:=⟨#[100,114,111,112]⟩,on:=(0),has:=⟨#[]⟩ },
 { word:=⟨#[105,115]⟩,on:=(0),has:=⟨#[]⟩ },
 { word:=⟨#[108,111,111,107]⟩,on:=(0),has:=⟨#[]⟩ },
 { word:=⟨#[112,117,116]⟩,on:=(1),has:=⟨#[115]⟩ },
 { word:=⟨#[115,119,97,112]⟩,on:=(1),has:=⟨#[115]⟩ },
 { word:=⟨#[97,100,100]⟩,on:=(2),has:=⟨#[110]⟩ },
 { word:=⟨#[112,108,117,115]⟩,on:=(3),has:=⟨#[110]⟩ },
 { word:=⟨#[114,101,97,99,104]⟩,on:=(3),has:=⟨#[110]⟩ },
 { word:=⟨#[105,110]⟩,on:=(4),has:=⟨#[110]⟩ },
 { word:=⟨#[111,117,116]⟩,on:=(4),has:=⟨#[110]⟩ },
 { word:=⟨#[101,110,111,117,103,104]⟩,on:=(4),has:=⟨#[110]⟩ },
 { word:=⟨#[114,97,105,115,101]⟩,on:=(5),has:=⟨#[120]⟩ },
 { word:=⟨#[108,111,119,101,114]⟩,on:=(6),has:=⟨#[120]⟩ },
 { word:=⟨#[115,104,105,102,116]⟩,on:=(7),has:=⟨#[120]⟩ },
 { word:=⟨#[115,99,97,108,101]⟩,on:=(7),has:=⟨#[120]⟩ },
 { word:=⟨#[102,105,120]⟩,on:=(7),has:=⟨#[120]⟩ },
 { word:=⟨#[106,111,105,110]⟩,on:=(8),has:=⟨#[115]⟩ },
 { word:=⟨#[108,101,97,118,101]⟩,on:=(8),has:=⟨#[115]⟩ },
 { word:=⟨#[104,97,115]⟩,on:=(8),has:=⟨#[115]⟩ },
 { word:=⟨#[111,102,102,101,114]⟩,on:=(9),has:=⟨#[120,115]⟩ }]
def Zbw (a0:List Zi):Option (List Zi):=if a0.length * 24 ≤ 140737488355328 then some a0 else none
def Zey (a0:Zb):Option (Zb):=((Zbw a0.List).bind fun r1=>(some ({ a0 with List:=r1 })))
def Zgh (a0:List Zm):Option (List Zm):=if a0.length * 152 ≤ 140737488355328 then some a0 else none
def Zmi (a0:Zbk):Option (Zbk):=if a0.Acts.length * 152 ≤ 140737488355328 ∧ (a0.Acts.all fun e=>decide (e.Make.List.length * 24 ≤ 140737488355328))=true then some a0 else none
def Zgw (a0:List ByteArray):Option (List ByteArray):=if a0.length * 16 ≤ 140737488355328 then some a0 else none
def Zlg (j11:Bool):Option (Zcd):=(if j11 then (some ({ text:=false,num:=false,bounds:=false,real:=false,list:=true }:Zcd)) else (some ({ text:=false,num:=false,bounds:=false,real:=false,list:=false }:Zcd)))
def Zju (a0:Int) (j8:Bool):Option (Zcd):=(if j8 then (some ({ text:=false,num:=false,bounds:=false,real:=true,list:=false }:Zcd)) else (if (a0 == (8:Int)) then (Zlg (a0 == (8:Int))) else (Zlg (a0 == (9:Int)))))
def Zlc (a0:Int) (j3:Bool):Option (Zcd):=(if j3 then (some ({ text:=false,num:=true,bounds:=false,real:=false,list:=false }:Zcd)) else (if (a0 == (4:Int)) then (some ({ text:=false,num:=true,bounds:=true,real:=false,list:=false }:Zcd)) else (if (a0 == (5:Int)) then (Zju a0 (a0 == (5:Int))) else (if (a0 == (6:Int)) then (Zju a0 (a0 == (6:Int))) else (Zju a0 (a0 == (7:Int)))))))
def Ze5 (a0:Int):Option (Zcd):=(if (a0 == (1:Int)) then (some ({ text:=true,num:=false,bounds:=false,real:=false,list:=false }:Zcd)) else (if (a0 == (2:Int)) then (Zlc a0 (a0 == (2:Int))) else (Zlc a0 (a0 == (3:Int)))))
def Zrp:Option (Nat):=(some (Int.toNat (9221120237041090561:Int)))
def Zgm (a0:Nat):Option (Nat):=(if (fneq a0 a0) then ((Zrp).bind fun r2=>(some r2)) else (some a0))
def Zm7 (a0:Nat):Option (Int):=((Zgm a0).bind fun r1=>(if ((bAnd .u64 (r1:Int) (9223372036854775808:Int)) != (0:Int)) then (some (bXor .u64 IntKind.u64.max (r1:Int))) else (some (bOr .u64 (r1:Int) (9223372036854775808:Int)))))
def Zki (a0:Nat) (a1:Nat):Option (Bool):=((Zm7 a0).bind fun r1=>((Zm7 a1).bind fun r3=>(some (r1 == r3))))
def Zpr (a0:Zb) (a1:Zcd):Option (Bool):=((gd ((((a1.text || (sEq a0.Text (⟨#[]⟩:ByteArray))) && (a1.num || (a0.Num == (0:Int)))) && (a1.bounds || ((a0.Low == (0:Int)) && (a0.High == (0:Int))))) && (!a1.real)) (Zki a0.Real (0:Nat))).bind fun r1=>(some (((((a1.text || (sEq a0.Text (⟨#[]⟩:ByteArray))) && (a1.num || (a0.Num == (0:Int)))) && (a1.bounds || ((a0.Low == (0:Int)) && (a0.High == (0:Int))))) && (a1.real || r1)) && (a1.list || ((a0.Cap == (0:Int)) && ((a0.List.length:Int) == (0:Int)))))))
def Zlb (a0:Nat):Option (Bool):=((Zgm a0).bind fun r1=>(some ((a0:Int) == (r1:Int))))
def Zm2 (a0:Nat) (a1:Nat):Option (Bool):=((Zm7 a0).bind fun r1=>((Zm7 a1).bind fun r3=>(some (decide (r1 < r3)))))
def Zk1 (a0:Zi) (a1:Zi):Option (Bool):=((Zki a0.Score a1.Score).bind fun r1=>(if (!r1) then ((Zm2 a1.Score a0.Score).bind fun r4=>(some r4)) else (some (sLt a0.Name a1.Name))))
def Zgu (a0:Int) (a1:List Zi):Nat → (Int) → Option ((Int) ⊕ (Unit))
 | 0,_=>none
 | n + 1,x1=>(if (decide (x1 < (a1.length:Int))) then ((idx a1 x1).bind fun e3=>(if (decide ((16:Int) < (e3.Name.size:Int))) then (some (.inl (3:Int))) else ((gd (a0 == (8:Int)) (Zki e3.Score (0:Nat))).bind fun r6=>((gd (!((a0 == (8:Int)) && (!r6))) (Zlb e3.Score)).bind fun r8=>(if (((a0 == (8:Int)) && (!r6)) || (!r8)) then (some (.inl (4:Int))) else ((gd ((decide ((0:Int) < x1)) && (a0 == (8:Int))) (idx a1 (IntKind.i64.wrap (x1 - (1:Int))))).bind fun e11=>(if (((decide ((0:Int) < x1)) && (a0 == (8:Int))) && (!sLt e11.Name e3.Name)) then (some (.inl (4:Int))) else ((gd ((decide ((0:Int) < x1)) && (a0 == (9:Int))) (idx a1 (IntKind.i64.wrap (x1 - (1:Int))))).bind fun e14=>((gd ((decide ((0:Int) < x1)) && (a0 == (9:Int))) (Zk1 e14 e3)).bind fun r16=>(if (((decide ((0:Int) < x1)) && (a0 == (9:Int))) && (!r16)) then (some (.inl (4:Int))) else ((Zgu a0 a1 n) (IntKind.i64.wrap (x1 + (1:Int)))))))))))))) else (some (.inr ())))
def Zoz (a0:Int) (a1:List Zi):Option (Int):=((Zgu a0 a1 (Int.toNat ((a1.length:Int) - (0:Int)) + 1) (0:Int)).bind fun z19=>match z19 with | .inl r=>some r | .inr ()=>(some (0:Int)))
def Zex (a0:Zb):Option (Int):=((Ze5 a0.Kind).bind fun r1=>(if ((decide (a0.Kind ≤ (0:Int))) || (decide ((10:Int) ≤ a0.Kind))) then (some (5:Int)) else ((Zpr a0 r1).bind fun r4=>(if (!r4) then (some (4:Int)) else (if (decide ((64:Int) < (a0.Text.size:Int))) then (some (3:Int)) else (if (r1.bounds && ((((decide (a0.Low < (-2305843009213693952:Int))) || (decide ((2305843009213693952:Int) < a0.High))) || (decide (a0.Num < a0.Low))) || (decide (a0.High < a0.Num)))) then (some (1:Int)) else ((Zlb a0.Real).bind fun r9=>(if (!r9) then (some (4:Int)) else (if (!r1.list) then (some (0:Int)) else (if ((decide (a0.Cap < (1:Int))) || (decide ((32:Int) < a0.Cap))) then (some (1:Int)) else (if (decide (a0.Cap < (a0.List.length:Int))) then (some (8:Int)) else ((Zoz a0.Kind a0.List).bind fun r15=>(some r15)))))))))))))
def Zpq (a0:Int):Option (Zdo):=(if ((decide (a0 ≤ (0:Int))) || (decide ((22:Int) ≤ a0))) then (some ({ word:=ByteArray.empty,on:=(0:Int),has:=ByteArray.empty }:Zdo)) else ((idx g_0 a0).bind fun e2=>(some e2)))
def Zbs (a0:List Zi) (a1:List Zi) (φ2:Zi → Zi → Option Bool):Nat → (Int) → Option ((Bool) ⊕ (Unit))
 | 0,_=>none
 | n + 1,x2=>(if (decide (x2 < (a0.length:Int))) then ((idx a0 x2).bind fun e4=>((idx a1 x2).bind fun e6=>((φ2 e4 e6).bind fun r8=>(if (!r8) then (some (.inl false)) else ((Zbs a0 a1 φ2 n) (IntKind.i64.wrap (x2 + (1:Int)))))))) else (some (.inr ())))
def Zci (a0:List Zi) (a1:List Zi) (φ2:Zi → Zi → Option Bool):Option (Bool):=(if ((a0.length:Int) != (a1.length:Int)) then (some false) else ((Zbs a0 a1 φ2 (Int.toNat ((a0.length:Int) - (0:Int)) + 1) (0:Int)).bind fun z11=>match z11 with | .inl r=>some r | .inr ()=>(some true)))
def Zkc (a0:Zi) (a1:Zi):Option (Bool):=((gd (sEq a0.Name a1.Name) (Zki a0.Score a1.Score)).bind fun r1=>(some ((sEq a0.Name a1.Name) && r1)))
def Zn5 (a0:Zb) (a1:Zb):Option (Bool):=((gd ((((a0.Kind == a1.Kind) && (a0.Num == a1.Num)) && (a0.Low == a1.Low)) && (a0.High == a1.High)) (Zki a0.Real a1.Real)).bind fun r1=>((gd (((((((a0.Kind == a1.Kind) && (a0.Num == a1.Num)) && (a0.Low == a1.Low)) && (a0.High == a1.High)) && r1) && (a0.Cap == a1.Cap)) && (sEq a0.Text a1.Text)) (Zci a0.List a1.List (fun y0 y1=>Zkc y0 y1))).bind fun r3=>(some ((((((((a0.Kind == a1.Kind) && (a0.Num == a1.Num)) && (a0.Low == a1.Low)) && (a0.High == a1.High)) && r1) && (a0.Cap == a1.Cap)) && (sEq a0.Text a1.Text)) && r3))))
def Zi4 (a0:Zdo) (a1:Int):Nat → (Int) → Option ((Bool) ⊕ (Unit))
 | 0,_=>none
 | n + 1,x1=>(if (decide (x1 < (a0.has.size:Int))) then ((sidx a0.has x1).bind fun b3=>(if (b3 == a1) then (some (.inl true)) else ((Zi4 a0 a1 n) (IntKind.i64.wrap (x1 + (1:Int)))))) else (some (.inr ())))
def Zdu (a0:Zdo) (a1:Int):Option (Bool):=((Zi4 a0 a1 (Int.toNat ((a0.has.size:Int) - (0:Int)) + 1) (0:Int)).bind fun z6=>match z6 with | .inl r=>some r | .inr ()=>(some false))
def Zr4 (a0:Zm) (a1:Zdo):Option (Bool):=((Zdu a1 (110:Int)).bind fun r1=>((gd (r1 || (a0.N == (0:Int))) (Zdu a1 (120:Int))).bind fun r3=>((gd ((r1 || (a0.N == (0:Int))) && (!r3)) (Zki a0.X (0:Nat))).bind fun r5=>((gd ((r1 || (a0.N == (0:Int))) && (r3 || r5)) (Zdu a1 (115:Int))).bind fun r7=>((gd (((r1 || (a0.N == (0:Int))) && (r3 || r5)) && (r7 || (sEq a0.S (⟨#[]⟩:ByteArray)))) (Zdu a1 (109:Int))).bind fun r9=>((gd ((((r1 || (a0.N == (0:Int))) && (r3 || r5)) && (r7 || (sEq a0.S (⟨#[]⟩:ByteArray)))) && (!r9)) (Zn5 a0.Make ({ Kind:=(0:Int),Num:=(0:Int),Low:=(0:Int),High:=(0:Int),Real:=(0:Nat),Cap:=(0:Int),Text:=ByteArray.empty,List:=([]:List Zi) }:Zb))).bind fun r11=>(some ((((r1 || (a0.N == (0:Int))) && (r3 || r5)) && (r7 || (sEq a0.S (⟨#[]⟩:ByteArray)))) && (r9 || r11)))))))))
def Zrk (a0:Zdo):Option (Int):=(if (a0.on == (1:Int)) then (some (64:Int)) else (some (16:Int)))
def Zf7 (a0:Zm):Option (Int):=((Zpq a0.Kind).bind fun r1=>(if (sEq r1.word (⟨#[]⟩:ByteArray)) then (some (5:Int)) else (if ((sEq a0.Key (⟨#[]⟩:ByteArray)) || (decide ((24:Int) < (a0.Key.size:Int)))) then (some (1:Int)) else ((Zr4 a0 r1).bind fun r5=>(if (!r5) then (some (4:Int)) else ((Zrk r1).bind fun r8=>(if (decide (r8 < (a0.S.size:Int))) then (some (3:Int)) else (if (((a0.Kind == (10:Int)) || (a0.Kind == (11:Int))) && ((decide (a0.N < (0:Int))) || (decide ((2305843009213693952:Int) < a0.N)))) then (some (1:Int)) else ((Zlb a0.X).bind fun r12=>(if (!r12) then (some (4:Int)) else (if (a0.Kind == (1:Int)) then ((Zex a0.Make).bind fun r16=>(some r16)) else (some (0:Int)))))))))))))
def Zef (a0:Zbk):Nat → (Int) → Option ((Int × Int) ⊕ (Unit))
 | 0,_=>none
 | n + 1,x2=>(if (decide (x2 < (a0.Acts.length:Int))) then ((idx a0.Acts x2).bind fun e4=>((Zf7 e4).bind fun r6=>(if (r6 != (0:Int)) then (some (.inl (r6,(IntKind.i64.wrap (x2 + (1:Int)))))) else ((Zef a0 n) (IntKind.i64.wrap (x2 + (1:Int))))))) else (some (.inr ())))
def Ze3 (a0:Zbk):Option (Int × Int):=(if (((a0.Acts.length:Int) == (0:Int)) || (decide ((12:Int) < (a0.Acts.length:Int)))) then (some ((1:Int),(0:Int))) else ((Zef a0 (Int.toNat ((a0.Acts.length:Int) - (0:Int)) + 1) (0:Int)).bind fun z9=>match z9 with | .inl r=>some r | .inr ()=>(some ((0:Int),(0:Int)))))
def Zop (j8:Z0):Option (Z0):=(some j8)
def Zm0 (a0:Zbk) (a1:Zk) (a2:List ByteArray):Option (Z0):=((Zmi a0).bind fun r1=>((Zgw a2).bind fun r3=>((Ze3 a0).bind fun r5=>(if (r5.1 != (0:Int)) then (Zop ({ ({ ({ d:=r1,split:=r3,now:=a1,out:=(default:Zw),over:=false }:Z0) with out:=({ Code:=r5.1,At:=r5.2,Answers:=([]:List Zc) }:Zw) }:Z0) with over:=true }:Z0)) else (Zop ({ d:=r1,split:=r3,now:=a1,out:=(default:Zw),over:=false }:Z0))))))
def Ze2 (a0:List Zc):Option (List Zc):=if a0.length * 104 ≤ 140737488355328 then some a0 else none
def Zot (a0:Zw):Option (Zw):=if a0.Answers.length * 104 ≤ 140737488355328 ∧ (a0.Answers.all fun e=>decide (e.Rec.List.length * 24 ≤ 140737488355328))=true then some a0 else none
def Zh4 (a0:Z0):Option (Zw × Bool):=(if (!a0.over) then (some (({ Code:=(0:Int),At:=(0:Int),Answers:=([]:List Zc) }:Zw),false)) else ((Zot a0.out).bind fun r2=>(some (r2,true))))
def Zlx (a0:Int):Option (Bool):=(some (((((a0 == (3:Int)) || (a0 == (4:Int))) || (a0 == (9:Int))) || (a0 == (12:Int))) || (a0 == (20:Int))))
def Zij (x1:Zb) (kk:(Zb) → (shelf_nodeT) → Option ((Zb × Bool) ⊕ (Zb))) (j10:shelf_nodeT):Option ((Zb × Bool) ⊕ (Zb)):=(kk x1 j10)
def Zeq (a1:ByteArray):Nat → (Zb) → (shelf_nodeT) → Option ((Zb × Bool) ⊕ (Zb))
 | 0,_,_=>none
 | n + 1,x1,x2=>(if (!x2.isNil) then ((x2.un).bind fun n4=>(if (sLt a1 n4.key) then (Zij x1 (Zeq a1 n) n4.left) else (if (!(sLt a1 n4.key || sEq a1 n4.key)) then (Zij x1 (Zeq a1 n) n4.right) else ((Zey n4.rec_).bind fun r8=>(some (.inl (r8,true))))))) else (some (.inr x1)))
def Zei (a0:Zk) (a1:ByteArray):Option (Zb × Bool):=((Zeq a1 (a0.top.hh + 1) (default:Zb) a0.top).bind fun z12=>match z12 with | .inl r=>some r | .inr y11=>(some (({ Kind:=(0:Int),Num:=(0:Int),Low:=(0:Int),High:=(0:Int),Real:=(0:Nat),Cap:=(0:Int),Text:=ByteArray.empty,List:=([]:List Zi) }:Zb),false)))
def Zct (a0:shelf_nodeT):Option (Int):=(if a0.isNil then (some (0:Int)) else ((a0.un).bind fun n2=>(some n2.size)))
def Zff (a0:Zk):Option (Int):=((Zct a0.top).bind fun r1=>(some r1))
def Zd9 (a0:ByteArray) (a1:Zb) (a2:shelf_nodeT) (a3:shelf_nodeT):Option (shelf_nodeT):=((Zct a2).bind fun r1=>((Zct a3).bind fun r3=>(some ({ key:=a0,rec_:=a1,left:=a2,right:=a3,size:=(IntKind.i64.wrap ((IntKind.i64.wrap (r1 + r3)) + (1:Int))) }:shelf_node).up)))
def Zjd (a0:shelf_nodeT) (a1:shelf_nodeT):Option (Bool):=((Zct a0).bind fun r1=>((Zct a1).bind fun r3=>(some (decide ((IntKind.i64.wrap ((3:Int) * (IntKind.i64.wrap (r3 + (1:Int))))) < (IntKind.i64.wrap (r1 + (1:Int))))))))
def Zi8 (a0:ByteArray) (a1:Zb) (a2:shelf_nodeT) (a3:shelf_nodeT):Option (shelf_nodeT):=((Zjd a3 a2).bind fun r1=>((gd r1 (a3.un)).bind fun n3=>((gd r1 (Zct n3.left)).bind fun r5=>((gd r1 (a3.un)).bind fun n7=>((gd r1 (Zct n7.right)).bind fun r9=>(if (r1 && (decide ((IntKind.i64.wrap (r5 + (1:Int))) < (IntKind.i64.wrap ((2:Int) * (IntKind.i64.wrap (r9 + (1:Int)))))))) then ((a3.un).bind fun n12=>((Zd9 a0 a1 a2 n12.left).bind fun r14=>((Zd9 n12.key n12.rec_ r14 n12.right).bind fun r16=>(some r16)))) else ((Zjd a3 a2).bind fun r18=>(if r18 then ((a3.un).bind fun n21=>((n21.left.un).bind fun n23=>((Zd9 a0 a1 a2 n23.left).bind fun r25=>((Zd9 n21.key n21.rec_ n23.right n21.right).bind fun r27=>((Zd9 n23.key n23.rec_ r25 r27).bind fun r29=>(some r29)))))) else ((Zjd a2 a3).bind fun r31=>((gd r31 (a2.un)).bind fun n33=>((gd r31 (Zct n33.right)).bind fun r35=>((gd r31 (a2.un)).bind fun n37=>((gd r31 (Zct n37.left)).bind fun r39=>(if (r31 && (decide ((IntKind.i64.wrap (r35 + (1:Int))) < (IntKind.i64.wrap ((2:Int) * (IntKind.i64.wrap (r39 + (1:Int)))))))) then ((a2.un).bind fun n42=>((Zd9 a0 a1 n42.right a3).bind fun r44=>((Zd9 n42.key n42.rec_ n42.left r44).bind fun r46=>(some r46)))) else ((Zjd a2 a3).bind fun r48=>(if r48 then ((a2.un).bind fun n51=>((n51.right.un).bind fun n53=>((Zd9 n51.key n51.rec_ n51.left n53.left).bind fun r55=>((Zd9 a0 a1 n53.right a3).bind fun r57=>((Zd9 n53.key n53.rec_ r55 r57).bind fun r59=>(some r59)))))) else ((Zd9 a0 a1 a2 a3).bind fun r61=>(some r61))))))))))))))))))
def Zjq (self:shelf_nodeT → ByteArray → Zb → Option (shelf_nodeT)) (a0:shelf_nodeT) (a1:ByteArray) (a2:Zb):Option (shelf_nodeT):=(if a0.isNil then ((Zd9 a1 a2 shelf_nodeT.nil shelf_nodeT.nil).bind fun r2=>(some r2)) else ((a0.un).bind fun n4=>(if (sLt a1 n4.key) then ((self n4.left a1 a2).bind fun r7=>((Zi8 n4.key n4.rec_ r7 n4.right).bind fun r9=>(some r9))) else (if (!(sLt a1 n4.key || sEq a1 n4.key)) then ((self n4.right a1 a2).bind fun r12=>((Zi8 n4.key n4.rec_ n4.left r12).bind fun r14=>(some r14))) else ((Zd9 a1 a2 n4.left n4.right).bind fun r16=>(some r16))))))
def Zf5:Nat → shelf_nodeT → ByteArray → Zb → Option (shelf_nodeT)
 | 0=>fun _ _ _=>none
 | n + 1=>Zjq (Zf5 n)
def Zoc (a0:shelf_nodeT) (a1:ByteArray) (a2:Zb):Option (shelf_nodeT):=Zf5 (a0.hh + 1) a0 a1 a2
def Zc9 (a0:Zk) (a1:ByteArray) (a2:Zb):Option (Zk × Int):=(if ((sEq a1 (⟨#[]⟩:ByteArray)) || (decide ((24:Int) < (a1.size:Int)))) then (some (a0,(1:Int))) else ((Zex a2).bind fun r2=>(if (r2 != (0:Int)) then (some (a0,r2)) else ((Zei a0 a1).bind fun r5=>((gd (!r5.2) (Zff a0)).bind fun r7=>(if ((!r5.2) && (decide (a0.room ≤ r7))) then (some (a0,(8:Int))) else ((Zey a2).bind fun r10=>((Zoc a0.top a1 r10).bind fun r12=>(some (({ top:=r12,room:=a0.room }:Zk),(0:Int)))))))))))
def Zcp (a0:List ByteArray) (a1:ByteArray):Nat → (Int) → Option ((Int) ⊕ (Unit))
 | 0,_=>none
 | n + 1,x1=>(if (decide (x1 < (a0.length:Int))) then ((idx a0 x1).bind fun e3=>(if (sEq a1 e3) then (some (.inl x1)) else ((Zcp a0 a1 n) (IntKind.i64.wrap (x1 + (1:Int)))))) else (some (.inr ())))
def Zgy (a0:List ByteArray) (a1:ByteArray):Option (Int):=((Zcp a0 a1 (Int.toNat ((a0.length:Int) - (0:Int)) + 1) (0:Int)).bind fun z6=>match z6 with | .inl r=>some r | .inr ()=>(some (-1:Int)))
def Zd2 (a0:List ByteArray) (a1:ByteArray):Option (Bool):=((Zgy a0 a1).bind fun r1=>(some (decide ((0:Int) ≤ r1))))
def Zf0:Nat → (shelf_nodeT) → Option (shelf_nodeT)
 | 0,_=>none
 | n + 1,x1=>((x1.un).bind fun n2=>(if (!n2.left.isNil) then ((Zf0 n) n2.left) else (some x1)))
def Zjn (a0:shelf_nodeT):Option (shelf_nodeT):=((Zf0 (a0.hh + 1) a0).bind fun z6=>match z6 with | y5=>(some y5))
def Zla (self:shelf_nodeT → ByteArray → Option (shelf_nodeT)) (a0:shelf_nodeT) (a1:ByteArray):Option (shelf_nodeT):=(if a0.isNil then (some shelf_nodeT.nil) else ((a0.un).bind fun n2=>(if (sLt a1 n2.key) then ((self n2.left a1).bind fun r5=>((Zi8 n2.key n2.rec_ r5 n2.right).bind fun r7=>(some r7))) else (if (!(sLt a1 n2.key || sEq a1 n2.key)) then ((self n2.right a1).bind fun r10=>((Zi8 n2.key n2.rec_ n2.left r10).bind fun r12=>(some r12))) else (if n2.left.isNil then (some n2.right) else (if n2.right.isNil then (some n2.left) else ((Zjn n2.right).bind fun r16=>((r16.un).bind fun n18=>((self n2.right n18.key).bind fun r20=>((Zi8 n18.key n18.rec_ n2.left r20).bind fun r22=>(some r22)))))))))))
def Zgz:Nat → shelf_nodeT → ByteArray → Option (shelf_nodeT)
 | 0=>fun _ _=>none
 | n + 1=>Zla (Zgz n)
def Zoe (a0:shelf_nodeT) (a1:ByteArray):Option (shelf_nodeT):=Zgz (a0.hh + 1) a0 a1
def Zeh (a0:Zk) (a1:ByteArray):Option (Zk × Bool):=((Zei a0 a1).bind fun r1=>(if (!r1.2) then (some (a0,false)) else ((Zoe a0.top a1).bind fun r4=>(some (({ top:=r4,room:=a0.room }:Zk),true)))))
def Zhx (x35:Int) (kk:(Zk) → (Int) → Option (Zk)) (j44:Zk):Option (Zk):=(kk j44 (IntKind.i64.wrap (x35 + (1:Int))))
def Zdx (a0:Z0) (y19:List ByteArray):Nat → (Zk) → (Int) → Option (Zk)
 | 0,_,_=>none
 | n + 1,x34,x35=>(if (decide (x35 < (y19.length:Int))) then ((idx y19 x35).bind fun e37=>((Zei a0.now e37).bind fun r39=>(if r39.2 then ((Zc9 x34 e37 r39.1).bind fun r42=>(Zhx x35 (Zdx a0 y19 n) r42.1)) else (Zhx x35 (Zdx a0 y19 n) x34)))) else (some x34))
def Zhz (x22:Int) (kk:(Zk) → (Int) → Option (Zk)) (j31:Zk):Option (Zk):=(kk j31 (IntKind.i64.wrap (x22 + (1:Int))))
def Zdw (a0:Z0) (y19:List ByteArray):Nat → (Zk) → (Int) → Option (Zk)
 | 0,_,_=>none
 | n + 1,x21,x22=>(if (decide (x22 < (y19.length:Int))) then ((idx y19 x22).bind fun e24=>((Zei a0.now e24).bind fun r26=>(if (!r26.2) then ((Zeh x21 e24).bind fun r29=>(Zhz x22 (Zdw a0 y19 n) r29.1)) else (Zhz x22 (Zdw a0 y19 n) x21)))) else (some x21))
def Zgr (x4:Int) (kk:(List Zm) → (List ByteArray) → (Int) → Option ((List Zm) × (List ByteArray))) (j16:List Zm) (j17:List ByteArray):Option ((List Zm) × (List ByteArray)):=(kk j16 j17 (IntKind.i64.wrap (x4 + (1:Int))))
def Zdi (a0:Z0):Nat → (List Zm) → (List ByteArray) → (Int) → Option ((List Zm) × (List ByteArray))
 | 0,_,_,_=>none
 | n + 1,x2,x3,x4=>(if (decide (x4 < (a0.d.Acts.length:Int))) then ((idx a0.d.Acts x4).bind fun e6=>((Zd2 a0.split e6.Key).bind fun r8=>(if r8 then (if (x2.length + ([e6]:List Zm).length) * 152 ≤ 140737488355328 then (Zgr x4 (Zdi a0 n) (x2 ++ ([e6]:List Zm)) x3) else none) else ((Zlx e6.Kind).bind fun r12=>(if (!r12) then (if (x3.length + ([e6.Key]:List ByteArray).length) * 16 ≤ 140737488355328 then (Zgr x4 (Zdi a0 n) x2 (x3 ++ ([e6.Key]:List ByteArray))) else none) else (Zgr x4 (Zdi a0 n) x2 x3)))))) else (some (x2,x3)))
def Zeu (a0:Z0) (a1:Zk):Option (Zk × (List Zm)):=(if ((!a0.over) || (a0.out.Code != (0:Int))) then (some (a1,([]:List Zm))) else ((Zdi a0 (Int.toNat ((a0.d.Acts.length:Int) - (0:Int)) + 1) ([]:List Zm) ([]:List ByteArray) (0:Int)).bind fun z20=>match z20 with | (y18,y19)=>((Zdw a0 y19 (Int.toNat ((y19.length:Int) - (0:Int)) + 1) a1 (0:Int)).bind fun z33=>match z33 with | y32=>((Zdx a0 y19 (Int.toNat ((y19.length:Int) - (0:Int)) + 1) y32 (0:Int)).bind fun z46=>match z46 with | y45=>((Zmi ({ Acts:=y18 }:Zbk)).bind fun r47=>(some (y45,r47.Acts)))))))
def Zjf (a0:Z0):Option (Bool):=(some a0.over)
def Ziz (x2:Zb) (kk:(Int) → (Zb) → (shelf_nodeT) → Option ((ByteArray × Zb × Bool) ⊕ (Zb))) (j13:Int) (j14:shelf_nodeT):Option ((ByteArray × Zb × Bool) ⊕ (Zb)):=(kk j13 x2 j14)
def Zea:Nat → (Int) → (Zb) → (shelf_nodeT) → Option ((ByteArray × Zb × Bool) ⊕ (Zb))
 | 0,_,_,_=>none
 | n + 1,x1,x2,x3=>(if (!x3.isNil) then ((x3.un).bind fun n5=>((Zct n5.left).bind fun r7=>(if (decide (x1 < r7)) then (Ziz x2 (Zea n) x1 n5.left) else (if (decide (r7 < x1)) then (Ziz x2 (Zea n) (IntKind.i64.wrap (x1 - (IntKind.i64.wrap (r7 + (1:Int))))) n5.right) else ((Zey n5.rec_).bind fun r11=>(some (.inl (n5.key,r11,true)))))))) else (some (.inr x2)))
def Zh2 (a0:Zk) (a1:Int):Option (ByteArray × Zb × Bool):=((Zea (a0.top.hh + 1) a1 (default:Zb) a0.top).bind fun z16=>match z16 with | .inl r=>some r | .inr y15=>(some ((⟨#[]⟩:ByteArray),({ Kind:=(0:Int),Num:=(0:Int),Low:=(0:Int),High:=(0:Int),Real:=(0:Nat),Cap:=(0:Int),Text:=ByteArray.empty,List:=([]:List Zi) }:Zb),false)))
def Zhq (a0:Zk) (a1:Zk) (r6:Int):Nat → (Int) → Option ((Bool) ⊕ (Unit))
 | 0,_=>none
 | n + 1,x8=>(if (decide (x8 < r6)) then ((Zh2 a0 x8).bind fun r10=>((Zh2 a1 x8).bind fun r12=>((gd (!(!sEq r10.1 r12.1)) (Zn5 r10.2.1 r12.2.1)).bind fun r14=>(if ((!sEq r10.1 r12.1) || (!r14)) then (some (.inl false)) else ((Zhq a0 a1 r6 n) (IntKind.i64.wrap (x8 + (1:Int)))))))) else (some (.inr ())))
def Zk6 (a0:Zk) (a1:Zk):Option (Bool):=((Zff a0).bind fun r1=>((Zff a1).bind fun r3=>(if (r1 != r3) then (some false) else ((Zff a0).bind fun r6=>((Zhq a0 a1 r6 (Int.toNat (r6 - (0:Int)) + 1) (0:Int)).bind fun z17=>match z17 with | .inl r=>some r | .inr ()=>(some true))))))
def Zmw (a0:Int):Option (Int):=((Zpq a0).bind fun r1=>(some r1.on))
def Zks (a0:Zb) (a1:Zm) (a2:Zc):Option (Int × Zb × Zc):=(some ((0:Int),({ a0 with Text:=a1.S }),a2))
def Zh0 (a0:Zb) (a1:Zm) (a2:Zc):Option (Int × Zb × Zc):=((Zey a0).bind fun r1=>(some ((0:Int),({ a0 with Text:=a1.S }),({ a2 with Rec:=r1 }))))
def Zkv (a0:Zb) (a1:Zm) (a2:Zc):Option (Int × Zb × Zc):=(some ((0:Int),({ a0 with Num:=(IntKind.i64.wrap (a0.Num + a1.N)) }),a2))
def Zly (a0:Zb) (a1:Zm) (a2:Zc):Option (Int × Zb × Zc):=(if (((decide ((0:Int) < a1.N)) && (decide ((IntKind.i64.wrap ((9223372036854775807:Int) - a1.N)) < a0.Num))) || ((decide (a1.N < (0:Int))) && (decide (a0.Num < (IntKind.i64.wrap ((-9223372036854775808:Int) - a1.N)))))) then (some ((9:Int),a0,a2)) else (some ((0:Int),({ a0 with Num:=(IntKind.i64.wrap (a0.Num + a1.N)) }),a2)))
def Zem (a0:Zb) (a1:Zm) (a2:Zc):Option (Int × Zb × Zc):=(if (decide (a0.Num < a1.N)) then (some ((11:Int),a0,a2)) else (some ((0:Int),a0,a2)))
def Zh1 (a0:Zb) (a1:Zm) (a2:Zc):Option (Int × Zb × Zc):=(if (decide ((IntKind.i64.wrap (a0.High - a0.Num)) < a1.N)) then (some ((9:Int),a0,a2)) else (some ((0:Int),({ a0 with Num:=(IntKind.i64.wrap (a0.Num + a1.N)) }),a2)))
def Zh7 (a0:Zb) (a1:Zm) (a2:Zc):Option (Int × Zb × Zc):=(if (decide ((IntKind.i64.wrap (a0.Num - a0.Low)) < a1.N)) then (some ((10:Int),a0,a2)) else (some ((0:Int),({ a0 with Num:=(IntKind.i64.wrap (a0.Num - a1.N)) }),a2)))
def Zfe (ψ:Nat → Nat → Option Nat) (a0:Zb) (a1:Zm) (a2:Zc):Option (Int × Zb × Zc):=(ψ a0.Real a1.X).bind fun z=>some ((0:Int),{ a0 with Real:=z },a2)
def Zmk (a0:Nat) (a1:Nat):Option (Nat):=((Zm2 a0 a1).bind fun r1=>(if r1 then ((Zgm a1).bind fun r4=>(some r4)) else ((Zgm a0).bind fun r6=>(some r6))))
def Zmo (a0:Nat) (a1:Nat):Option (Nat):=((Zm2 a1 a0).bind fun r1=>(if r1 then ((Zgm a1).bind fun r4=>(some r4)) else ((Zgm a0).bind fun r6=>(some r6))))
def Zjm (a0:Nat) (a1:Nat):Option (Nat):=((Zgm (fadd a0 a1)).bind fun r1=>(some r1))
def Zii (a0:Nat) (a1:Nat):Option (Nat):=((Zgm (fmul a0 a1)).bind fun r1=>(some r1))
def Zh5 (a0:Nat) (a1:Nat):Option (Nat):=(some a1)
def Zcl (kk:(Int) → (Int) → Option (Int)) (j9:Int) (j10:Int):Option (Int):=(kk j9 j10)
def Zbq (a0:List Zi) (a1:ByteArray) (φ2:Zi → ByteArray → Option Int):Nat → (Int) → (Int) → Option (Int)
 | 0,_,_=>none
 | n + 1,x1,x2=>(if (decide (x1 < x2)) then ((idx a0 (IntKind.i64.wrap (Int.fdiv (IntKind.u64.wrap (IntKind.i64.wrap (x1 + x2))) (2 ^ 1)))).bind fun e4=>((φ2 e4 a1).bind fun r6=>(if (decide (r6 < (0:Int))) then (Zcl (Zbq a0 a1 φ2 n) (IntKind.i64.wrap ((IntKind.i64.wrap (Int.fdiv (IntKind.u64.wrap (IntKind.i64.wrap (x1 + x2))) (2 ^ 1))) + (1:Int))) x2) else (Zcl (Zbq a0 a1 φ2 n) x1 (IntKind.i64.wrap (Int.fdiv (IntKind.u64.wrap (IntKind.i64.wrap (x1 + x2))) (2 ^ 1))))))) else (some x1))
def Zdb (a0:List Zi) (a1:ByteArray) (φ2:Zi → ByteArray → Option Int):Option (Int × Bool):=((Zbq a0 a1 φ2 (Int.toNat ((a0.length:Int) - (0:Int)) + 1) (0:Int) (a0.length:Int)).bind fun z12=>match z12 with | y11=>((gd (decide (y11 < (a0.length:Int))) (idx a0 y11)).bind fun e13=>((gd (decide (y11 < (a0.length:Int))) (φ2 e13 a1)).bind fun r15=>(some (y11,((decide (y11 < (a0.length:Int))) && (r15 == (0:Int))))))))
def Zkh (a0:Zi) (a1:ByteArray):Option (Int):=(if (sLt a0.Name a1) then (some (-1:Int)) else (if (!(sLt a0.Name a1 || sEq a0.Name a1)) then (some (1:Int)) else (some (0:Int))))
def Zmc (a0:List Zi) (a1:ByteArray):Option (Int × Bool):=((Zdb a0 a1 (fun y0 y1=>Zkh y0 y1)).bind fun r1=>(some (r1.1,r1.2)))
def Zcj (a0:List Zi) (a1:Int) (a2:List Zi):Option (List Zi):=if 0 ≤ a1 ∧ a1 ≤ a0.length ∧ 0 < a2.length ∧ (a0.length + a2.length) * 24 ≤ 140737488355328 then some (a0.take a1.toNat ++ a2 ++ a0.drop a1.toNat) else none
def Zl7 (a0:Zb) (a1:Zm) (a2:Zc):Option (Int × Zb × Zc):=((Zmc a0.List a1.S).bind fun r1=>(if r1.2 then (some ((0:Int),a0,a2)) else (if (decide (a0.Cap ≤ (a0.List.length:Int))) then (some ((8:Int),a0,a2)) else ((Zbw a0.List).bind fun r5=>((Zcj r5 r1.1 ([({ Score:=(0:Nat),Name:=a1.S }:Zi)]:List Zi)).bind fun r7=>(some ((0:Int),({ a0 with List:=r7 }),a2)))))))
def Zfr (a0:List Zi) (a1 a2:Int):Option (List Zi):=if 0 < a0.length ∧ 0 ≤ a1 ∧ a1 ≤ a2 ∧ a2 ≤ a0.length ∧ a0.length ≤ 140737488355328 then some (a0.take a1.toNat ++ a0.drop a2.toNat) else none
def Zkn (a2:Zc) (j8:Zb):Option (Int × Zb × Zc):=(some ((0:Int),j8,a2))
def Zkp (a0:Zb) (a1:Zm) (a2:Zc):Option (Int × Zb × Zc):=((Zmc a0.List a1.S).bind fun r1=>(if r1.2 then ((Zbw a0.List).bind fun r4=>((Zfr r4 r1.1 (IntKind.i64.wrap (r1.1 + (1:Int)))).bind fun r6=>(Zkn a2 ({ a0 with List:=r6 })))) else (Zkn a2 a0)))
def Zgg (a0:Zb) (a1:Zm) (a2:Zc):Option (Int × Zb × Zc):=((Zmc a0.List a1.S).bind fun r1=>(if (!r1.2) then (some ((11:Int),a0,a2)) else (some ((0:Int),a0,a2))))
def Zgx (a0:Zb) (a1:Zm):Nat → (Int) → Option (Int)
 | 0,_=>none
 | n + 1,x1=>((gd (decide (x1 < (a0.List.length:Int))) (idx a0.List x1)).bind fun e2=>((gd (decide (x1 < (a0.List.length:Int))) (Zk1 e2 ({ Score:=a1.X,Name:=a1.S }:Zi))).bind fun r4=>(if ((decide (x1 < (a0.List.length:Int))) && r4) then ((Zgx a0 a1 n) (IntKind.i64.wrap (x1 + (1:Int)))) else (some x1))))
def Zk9 (a0:Zb) (a1:Zm) (a2:Zc):Option (Int × Zb × Zc):=((Zgx a0 a1 (Int.toNat ((a0.List.length:Int) - (0:Int)) + 1) (0:Int)).bind fun z8=>match z8 with | y7=>((gd (decide (y7 < (a0.List.length:Int))) (idx a0.List y7)).bind fun e9=>((gd (decide (y7 < (a0.List.length:Int))) (Zk1 ({ Score:=a1.X,Name:=a1.S }:Zi) e9)).bind fun r11=>(if ((decide (y7 < (a0.List.length:Int))) && (!r11)) then (some ((0:Int),a0,a2)) else ((Zbw a0.List).bind fun r14=>((Zcj r14 y7 ([({ Score:=a1.X,Name:=a1.S }:Zi)]:List Zi)).bind fun r16=>((cut r16 (0:Int) (min (r16.length:Int) a0.Cap)).bind fun c18=>(some ((0:Int),({ a0 with List:=c18 }),a2)))))))))
def Zbl (k:Int) (a0:Zb) (a1:Zm) (a2:Zc):Option (Int × Zb × Zc):=if k=5 then Zks a0 a1 a2 else if k=6 then Zh0 a0 a1 a2 else if k=7 then Zkv a0 a1 a2 else if k=8 then Zly a0 a1 a2 else if k=9 then Zem a0 a1 a2 else if k=10 then Zh1 a0 a1 a2 else if k=11 then Zh7 a0 a1 a2 else if k=12 then Zem a0 a1 a2 else if k=13 then Zfe (fun x y=>Zmk x y) a0 a1 a2 else if k=14 then Zfe (fun x y=>Zmo x y) a0 a1 a2 else if k=15 then Zfe (fun x y=>Zjm x y) a0 a1 a2 else if k=16 then Zfe (fun x y=>Zii x y) a0 a1 a2 else if k=17 then Zfe (fun x y=>Zh5 x y) a0 a1 a2 else if k=18 then Zl7 a0 a1 a2 else if k=19 then Zkp a0 a1 a2 else if k=20 then Zgg a0 a1 a2 else if k=21 then Zk9 a0 a1 a2 else none
def Zhi (a0:Int) (a1:Zb) (a2:Bool):Option (Zb × Bool × Zc × Zb):=(some (a1,a2,({ Code:=a0,Num:=(0:Int),Rec:=(default:Zb) }:Zc),a1))
def Zht (a1:Bool) (a2:Zm) (r3:Zb):Option (Zb × Bool × Zc):=(if ((a2.Kind == (1:Int)) && a1) then ((Zhi (7:Int) r3 a1).bind fun r17=>(some (r17.1,r17.2.1,r17.2.2.1))) else (if (a2.Kind == (1:Int)) then ((Zey a2.Make).bind fun r20=>(some (r20,true,({ Code:=(0:Int),Num:=(0:Int),Rec:=(default:Zb) }:Zc)))) else (if (a2.Kind == (3:Int)) then (some (r3,a1,({ Code:=(0:Int),Num:=r3.Kind,Rec:=(default:Zb) }:Zc))) else (if (!a1) then ((Zhi (6:Int) r3 a1).bind fun r24=>(some (r24.1,r24.2.1,r24.2.2.1))) else (if (a2.Kind == (2:Int)) then (some (({ Kind:=(0:Int),Num:=(0:Int),Low:=(0:Int),High:=(0:Int),Real:=(0:Nat),Cap:=(0:Int),Text:=ByteArray.empty,List:=([]:List Zi) }:Zb),false,({ Code:=(0:Int),Num:=(0:Int),Rec:=(default:Zb) }:Zc))) else (if (a2.Kind == (4:Int)) then ((Zey r3).bind fun r28=>(some (r3,a1,({ Code:=(0:Int),Num:=(0:Int),Rec:=r28 }:Zc)))) else ((Zmw a2.Kind).bind fun r30=>(if (r30 != r3.Kind) then ((Zhi (5:Int) r3 a1).bind fun r33=>(some (r33.1,r33.2.1,r33.2.2.1))) else ((Zey r3).bind fun r35=>(if (5 ≤ a2.Kind ∧ a2.Kind ≤ 21) then ((Zbl a2.Kind r3 a2 (default:Zc)).bind fun r38=>(if (r38.1 != (0:Int)) then (some (r35,a1,({ Code:=r38.1,Num:=(0:Int),Rec:=(default:Zb) }:Zc))) else (some (r38.2.1,a1,r38.2.2)))) else none))))))))))
def Zhr (a1:Bool) (a2:Zm) (j2:Zb):Option (Zb × Bool × Zc):=((Zey j2).bind fun r3=>((Zf7 a2).bind fun r5=>(if (r5 != (0:Int)) then ((Zhi r5 r3 a1).bind fun r8=>(some (r8.1,r8.2.1,r8.2.2.1))) else (if a1 then ((Zex r3).bind fun r11=>(if (r11 != (0:Int)) then ((Zhi r11 r3 a1).bind fun r14=>(some (r14.1,r14.2.1,r14.2.2.1))) else (Zht a1 a2 r3))) else (Zht a1 a2 r3)))))
def Zih (a0:Zb) (a1:Bool) (a2:Zm):Option (Zb × Bool × Zc):=(if (!a1) then (Zhr a1 a2 ({ Kind:=(0:Int),Num:=(0:Int),Low:=(0:Int),High:=(0:Int),Real:=(0:Nat),Cap:=(0:Int),Text:=ByteArray.empty,List:=([]:List Zi) }:Zb)) else (Zhr a1 a2 a0))
def Zm3 (a0:Zk) (a1:Zm):Option (Zk × Zc):=((Zei a0 a1.Key).bind fun r1=>((Zih r1.1 r1.2 a1).bind fun r3=>((gd (!(r3.2.2.Code != (0:Int))) (Zlx a1.Kind)).bind fun r5=>(if ((r3.2.2.Code != (0:Int)) || r5) then (some (a0,r3.2.2)) else (if (!r3.2.1) then ((Zeh a0 a1.Key).bind fun r9=>(some (r9.1,r3.2.2))) else ((Zc9 a0 a1.Key r3.1).bind fun r11=>(if (r11.2 != (0:Int)) then (some (a0,({ Code:=r11.2,Num:=(0:Int),Rec:=(default:Zb) }:Zc))) else (some (r11.1,r3.2.2)))))))))
def Zhm (a0:Z0) (e2:Zm) (j9:Zc) (j10:Z0):Option (Bool × Z0):=(if (e2.Must && (j9.Code != (0:Int))) then (some (true,({ ({ j10 with out:=({ Code:=j9.Code,At:=(IntKind.i64.wrap ((a0.out.Answers.length:Int) + (1:Int))),Answers:=([]:List Zc) }:Zw) }:Z0) with over:=true }:Z0))) else (if (j10.out.Answers.length + ([j9]:List Zc).length) * 104 ≤ 140737488355328 then (some (true,({ ({ j10 with out:={ j10.out with Answers:=(j10.out.Answers ++ ([j9]:List Zc)) } }:Z0) with over:=((IntKind.i64.wrap ((a0.out.Answers.length:Int) + (1:Int))) == (((({ j10 with out:={ j10.out with Answers:=(j10.out.Answers ++ ([j9]:List Zc)) } }:Z0).d).Acts).length:Int)) }:Z0))) else none))
def Zji (a0:Z0):Option (Bool × Z0):=(if a0.over then (some (false,a0)) else ((idx a0.d.Acts (a0.out.Answers.length:Int)).bind fun e2=>((Zd2 a0.split e2.Key).bind fun r4=>(if (!r4) then ((Zm3 a0.now e2).bind fun r7=>(Zhm a0 e2 r7.2 ({ a0 with now:=r7.1 }:Z0))) else (Zhm a0 e2 (default:Zc) a0)))))
def Zg4 (a0:Z0):Option (Z0 × Bool):=(Zji a0).bind fun r=>some (r.2,r.1)
def Zo2 (a0:Int):Option (Zk × Int):=(if ((decide (a0 < (1:Int))) || (decide ((4096:Int) < a0))) then (some (({ top:=shelf_nodeT.nil,room:=(0:Int) }:Zk),(1:Int))) else (some (({ top:=shelf_nodeT.nil,room:=a0 }:Zk),(0:Int))))
def Zka:Option (Bool):=((Zo2 (2:Int)).bind fun r1=>((Zc9 r1.1 (⟨#[97]⟩:ByteArray) ({ Kind:=(2:Int),Num:=(3:Int),Low:=(0:Int),High:=(0:Int),Real:=(0:Nat),Cap:=(0:Int),Text:=ByteArray.empty,List:=([]:List Zi) }:Zb)).bind fun r3=>((Zm0 ({ Acts:=([({ Kind:=(7:Int),Key:=(⟨#[97]⟩:ByteArray),N:=(1:Int),X:=(0:Nat),S:=ByteArray.empty,Make:=(default:Zb),Must:=false }:Zm)]:List Zm) }:Zbk) r3.1 ([]:List ByteArray)).bind fun r5=>((Zm0 ({ Acts:=([({ Kind:=(7:Int),Key:=(⟨#[97]⟩:ByteArray),N:=(1:Int),X:=(0:Nat),S:=ByteArray.empty,Make:=(default:Zb),Must:=false }:Zm)]:List Zm) }:Zbk) r3.1 ([(⟨#[97]⟩:ByteArray)]:List ByteArray)).bind fun r7=>((gd (!(false || false)) (Zjf r5)).bind fun r9=>((gd (!((false || false) || r9)) (Zg4 r5)).bind fun r11=>((gd (!(((false || false) || r9) || (!r11.2))) (Zg4 (if (!((false || false) || r9))=true then r11.1 else r5))).bind fun r13=>((gd (!((((false || false) || r9) || (!r11.2)) || r13.2)) (Zjf (if (!(((false || false) || r9) || (!r11.2)))=true then r13.1 else (if (!((false || false) || r9))=true then r11.1 else r5)))).bind fun r15=>((gd (!(((((false || false) || r9) || (!r11.2)) || r13.2) || (!r15))) (Zg4 r7)).bind fun r17=>(if ((((((false || false) || r9) || (!r11.2)) || r13.2) || (!r15)) || (!r17.2)) then (some false) else ((Zeu (if (!(((false || false) || r9) || (!r11.2)))=true then r13.1 else (if (!((false || false) || r9))=true then r11.1 else r5)) r3.1).bind fun r20=>((Zeu (if (!(((((false || false) || r9) || (!r11.2)) || r13.2) || (!r15)))=true then r17.1 else r7) r3.1).bind fun r22=>((Zei r20.1 (⟨#[97]⟩:ByteArray)).bind fun r24=>((Zh4 (if (!(((((false || false) || r9) || (!r11.2)) || r13.2) || (!r15)))=true then r17.1 else r7)).bind fun r26=>((gd (((r20.2.length:Int) == (0:Int)) && (r24.1.Num == (4:Int))) (Zk6 r3.1 r22.1)).bind fun r28=>(some (((((((r20.2.length:Int) == (0:Int)) && (r24.1.Num == (4:Int))) && r28) && ((r22.2.length:Int) == (1:Int))) && r26.2) && ((r26.1.Answers.length:Int) == (1:Int)))))))))))))))))))
def Zfk (a0:Zb):Nat → (Int) → Option ((Int) ⊕ (Unit))
 | 0,_=>none
 | n + 1,x2=>(if (decide (x2 < (a0.List.length:Int))) then ((idx a0.List x2).bind fun e4=>(if (decide ((100:Int) < (e4.Name.size:Int))) then (some (.inl (1:Int))) else ((Zfk a0 n) (IntKind.i64.wrap (x2 + (1:Int)))))) else (some (.inr ())))
def Zj1 (a0:Zb):Option (Int):=(if ((decide ((100:Int) < (a0.List.length:Int))) || (decide ((1000:Int) < (a0.Text.size:Int)))) then (some (1:Int)) else ((Zfk a0 (Int.toNat ((a0.List.length:Int) - (0:Int)) + 1) (0:Int)).bind fun z7=>match z7 with | .inl r=>some r | .inr ()=>(some (0:Int))))
def Zet (a0:Nat):Option (Bool):=(some (fneq a0 a0))
def Zf8 (a0:Nat):Option (Bool):=((Zet a0).bind fun r1=>(some ((!r1) || ((a0:Int) == (9221120237041090561:Int)))))
def Zhk (a0:Nat):Option (Bool):=(if (feql a0 (0:Nat)) then ((Ieee.double.div (4607182418800017408:Nat) a0).bind fun f2=>(some (flss f2 (0:Nat)))) else (some (flss a0 (0:Nat))))
def Zfo (a0:Nat) (a1:Nat):Option (Bool):=((Zet a0).bind fun r1=>(if r1 then (some false) else ((Zet a1).bind fun r4=>(if r4 then (some true) else (if ((feql a0 (0:Nat)) && (feql a1 (0:Nat))) then ((Zhk a0).bind fun r8=>((gd r8 (Zhk a1)).bind fun r10=>(some (r8 && (!r10))))) else (some (flss a0 a1)))))))
def Zdy (a0:Nat) (a1:Nat):Option (Bool):=((Zfo a0 a1).bind fun r1=>((gd (!r1) (Zfo a1 a0)).bind fun r3=>(some ((!r1) && (!r3)))))
def Zia (a0:Nat):Option (Bool):=((Zdy a0 (0:Nat)).bind fun r1=>(some r1))
def Zc8 (a1:ByteArray):Nat → (Bool) → (Bool) → (Bool) → (Bool) → (Bool) → (Int) → Option (Bool × Bool × Bool × Bool × Bool)
 | 0,_,_,_,_,_,_=>none
 | n + 1,x1,x2,x3,x4,x5,x6=>(if (decide (x6 < (a1.size:Int))) then ((gd (!x1) (sidx a1 x6)).bind fun b8=>((gd (!x2) (sidx a1 x6)).bind fun b10=>((gd (!x3) (sidx a1 x6)).bind fun b12=>((gd (!x4) (sidx a1 x6)).bind fun b14=>((gd (!x5) (sidx a1 x6)).bind fun b16=>((Zc8 a1 n) (x1 || (b8 == (116:Int))) (x2 || (b10 == (110:Int))) (x3 || (b12 == (98:Int))) (x4 || (b14 == (114:Int))) (x5 || (b16 == (108:Int))) (IntKind.i64.wrap (x6 + (1:Int))))))))) else (some (x1,x2,x3,x4,x5)))
def Zf3 (a0:Zb) (a1:ByteArray):Option (Bool):=((Zc8 a1 (Int.toNat ((a1.size:Int) - (0:Int)) + 1) false false false false false (0:Int)).bind fun z23=>match z23 with | (y18,y19,y20,y21,y22)=>(if (((((!y18) && (!sEq a0.Text (⟨#[]⟩:ByteArray))) || ((!y19) && (a0.Num != (0:Int)))) || ((!y20) && (a0.Low != (0:Int)))) || ((!y20) && (a0.High != (0:Int)))) then (some false) else ((gd (!y21) (Zia a0.Real)).bind fun r25=>(some ((y21 || r25) && (y22 || ((a0.Cap == (0:Int)) && ((a0.List.length:Int) == (0:Int)))))))))
def Zjy (a0:Int):Option (ByteArray):=(if ((decide (a0 < (1:Int))) || (decide ((9:Int) < a0))) then (some (⟨#[]⟩:ByteArray)) else ((idx ([(⟨#[]⟩:ByteArray),(⟨#[116]⟩:ByteArray),(⟨#[110]⟩:ByteArray),(⟨#[110]⟩:ByteArray),(⟨#[110,98]⟩:ByteArray),(⟨#[114]⟩:ByteArray),(⟨#[114]⟩:ByteArray),(⟨#[114]⟩:ByteArray),(⟨#[108]⟩:ByteArray),(⟨#[108]⟩:ByteArray)]:List ByteArray) a0).bind fun e2=>(some e2)))
def Zgl (a0:Zi) (a1:Zi):Option (Bool):=((Zfo a1.Score a0.Score).bind fun r1=>(if r1 then (some true) else ((Zdy a0.Score a1.Score).bind fun r4=>(some (r4 && (sLt a0.Name a1.Name))))))
def Zjo (a0:Int) (a1:List Zi) (a2:Int):Option (Int):=((idx a1 a2).bind fun e1=>(if (decide ((16:Int) < (e1.Name.size:Int))) then (some (3:Int)) else ((gd (a0 == (8:Int)) (Zia e1.Score)).bind fun r4=>((gd (!((a0 == (8:Int)) && (!r4))) (Zf8 e1.Score)).bind fun r6=>(if (((a0 == (8:Int)) && (!r4)) || (!r6)) then (some (4:Int)) else ((gd ((decide ((0:Int) < a2)) && (a0 == (8:Int))) (idx a1 (IntKind.i64.wrap (a2 - (1:Int))))).bind fun e9=>(if (((decide ((0:Int) < a2)) && (a0 == (8:Int))) && (!(sLt e9.Name e1.Name))) then (some (4:Int)) else ((gd ((decide ((0:Int) < a2)) && (a0 == (9:Int))) (idx a1 (IntKind.i64.wrap (a2 - (1:Int))))).bind fun e12=>((gd ((decide ((0:Int) < a2)) && (a0 == (9:Int))) (Zgl e12 e1)).bind fun r14=>(if (((decide ((0:Int) < a2)) && (a0 == (9:Int))) && (!r14)) then (some (4:Int)) else (some (0:Int))))))))))))
def Zen (a0:Zb):Nat → (Int) → Option ((Int) ⊕ (Unit))
 | 0,_=>none
 | n + 1,x15=>(if (decide (x15 < (a0.List.length:Int))) then ((Zjo a0.Kind a0.List x15).bind fun r17=>(if (r17 != (0:Int)) then (some (.inl r17)) else ((Zen a0 n) (IntKind.i64.wrap (x15 + (1:Int)))))) else (some (.inr ())))
def Zc4 (a0:Zb):Option (Int):=(if ((decide (a0.Kind < (1:Int))) || (decide ((9:Int) < a0.Kind))) then (some (5:Int)) else ((Zjy a0.Kind).bind fun r2=>((Zf3 a0 r2).bind fun r4=>(if (!r4) then (some (4:Int)) else (if ((a0.Kind == (1:Int)) && (decide ((64:Int) < (a0.Text.size:Int)))) then (some (3:Int)) else (if ((a0.Kind == (4:Int)) && ((((decide (a0.Low < (IntKind.i64.wrap (0 - (2305843009213693952:Int))))) || (decide ((2305843009213693952:Int) < a0.High))) || (decide (a0.Num < a0.Low))) || (decide (a0.High < a0.Num)))) then (some (1:Int)) else ((Zf8 a0.Real).bind fun r9=>(if (!r9) then (some (4:Int)) else (if (decide (a0.Kind < (8:Int))) then (some (0:Int)) else (if ((decide (a0.Cap < (1:Int))) || (decide ((32:Int) < a0.Cap))) then (some (1:Int)) else (if (decide (a0.Cap < (a0.List.length:Int))) then (some (8:Int)) else ((Zen a0 (Int.toNat ((a0.List.length:Int) - (0:Int)) + 1) (0:Int)).bind fun z20=>match z20 with | .inl r=>some r | .inr ()=>(some (0:Int))))))))))))))
def Zdj (a0:Zf) (a1:ByteArray):Nat → (Int) → Option (Int)
 | 0,_=>none
 | n + 1,x1=>((gd (decide (x1 < (a0.L.length:Int))) (idx a0.L x1)).bind fun e2=>(if ((decide (x1 < (a0.L.length:Int))) && (sLt e2.Key a1)) then ((Zdj a0 a1 n) (IntKind.i64.wrap (x1 + (1:Int)))) else (some x1)))
def Zes (a0:Zf) (a1:ByteArray):Option (Int):=((Zdj a0 a1 (Int.toNat ((a0.L.length:Int) - (0:Int)) + 1) (0:Int)).bind fun z6=>match z6 with | y5=>(some y5))
def Zfd (a0:Zf) (a1:ByteArray) (a2:Zb) (c10:List Zbe) (j15:Int):Option (Zf × Int):=((cut a0.L j15 (a0.L.length:Int)).bind fun c16=>(if (((([]:List Zbe) ++ c10) ++ ([({ Key:=a1,Rec:=a2 }:Zbe)]:List Zbe)).length + c16.length) * 104 ≤ 140737488355328 then (some (({ L:=(((([]:List Zbe) ++ c10) ++ ([({ Key:=a1,Rec:=a2 }:Zbe)]:List Zbe)) ++ c16),Room:=a0.Room }:Zf),(0:Int))) else none))
def Zfc (a0:Zf) (a1:ByteArray) (a2:Zb):Option (Zf × Int):=(if ((decide ((a1.size:Int) < (1:Int))) || (decide ((24:Int) < (a1.size:Int)))) then (some (a0,(1:Int))) else ((Zc4 a2).bind fun r2=>(if (r2 != (0:Int)) then (some (a0,r2)) else ((Zes a0 a1).bind fun r5=>((gd (decide (r5 < (a0.L.length:Int))) (idx a0.L r5)).bind fun e7=>(if ((!((decide (r5 < (a0.L.length:Int))) && (sEq e7.Key a1))) && (decide (a0.Room ≤ (a0.L.length:Int)))) then (some (a0,(8:Int))) else ((cut a0.L (0:Int) r5).bind fun c10=>(if (([]:List Zbe).length + c10.length) * 104 ≤ 140737488355328 then (if ((([]:List Zbe) ++ c10).length + ([({ Key:=a1,Rec:=a2 }:Zbe)]:List Zbe).length) * 104 ≤ 140737488355328 then (if ((decide (r5 < (a0.L.length:Int))) && (sEq e7.Key a1)) then (Zfd a0 a1 a2 c10 (IntKind.i64.wrap (r5 + (1:Int)))) else (Zfd a0 a1 a2 c10 r5)) else none) else none))))))))
def Zd3 (a1:List Zbe):Nat → (Zk) → (Zk) → (Zf) → (Int) → Option ((Zk × (Option Zf)) ⊕ (Zk × Zk × Zf))
 | 0,_,_,_,_=>none
 | n + 1,x4,x5,x6,x7=>(if (decide (x7 < (a1.length:Int))) then ((idx a1 x7).bind fun e9=>((gd (!(decide ((100:Int) < (e9.Key.size:Int)))) (Zj1 e9.Rec)).bind fun r11=>(if ((decide ((100:Int) < (e9.Key.size:Int))) || (decide ((0:Int) < r11))) then (some (.inl (x5,(none:Option Zf)))) else ((Zc9 x5 e9.Key e9.Rec).bind fun r14=>((Zfc x6 e9.Key e9.Rec).bind fun r16=>((Zd3 a1 n) x4 r14.1 r16.1 (IntKind.i64.wrap (x7 + (1:Int))))))))) else (some (.inr (x4,x5,x6))))
def Zhl (a0:Int) (a1:List Zbe):Option (Zk × (Option Zf)):=((Zo2 a0).bind fun r1=>(if ((r1.2 != (0:Int)) || (decide ((60:Int) < (a1.length:Int)))) then (some (r1.1,(none:Option Zf))) else ((Zd3 a1 (Int.toNat ((a1.length:Int) - (0:Int)) + 1) (default:Zk) r1.1 ({ L:=([]:List Zbe),Room:=a0 }:Zf) (0:Int)).bind fun z21=>match z21 with | .inl r=>some r | .inr (y18,y19,y20)=>(some (y19,(some y20))))))
def Zel (a0:List ByteArray) (a1:ByteArray):Nat → (Int) → Option ((Bool) ⊕ (Unit))
 | 0,_=>none
 | n + 1,x1=>(if (decide (x1 < (a0.length:Int))) then ((idx a0 x1).bind fun e3=>(if (sEq e3 a1) then (some (.inl true)) else ((Zel a0 a1 n) (IntKind.i64.wrap (x1 + (1:Int)))))) else (some (.inr ())))
def Zkb (a0:List ByteArray) (a1:ByteArray):Option (Bool):=((Zel a0 a1 (Int.toNat ((a0.length:Int) - (0:Int)) + 1) (0:Int)).bind fun z6=>match z6 with | .inl r=>some r | .inr ()=>(some false))
def Zfl:Nat → (Z0) → (Int) → Option (Z0 × Int)
 | 0,_,_=>none
 | n + 1,x1,x2=>((gd (decide (x2 < (20:Int))) (Zg4 x1)).bind fun r3=>(if ((decide (x2 < (20:Int))) && r3.2) then ((Zfl n) (if (decide (x2 < (20:Int)))=true then r3.1 else x1) (IntKind.i64.wrap (x2 + (1:Int)))) else (some ((if (decide (x2 < (20:Int)))=true then r3.1 else x1),x2))))
def Zkl (a0:Z0):Option (Int × Z0):=((Zfl (Int.toNat ((20:Int) - (0:Int)) + 1) a0 (0:Int)).bind fun z8=>match z8 with | (y6,y7)=>(some (y7,y6)))
def Zlp (a0:Z0):Option (Z0 × Int):=(Zkl a0).bind fun r=>some (r.2,r.1)
def Ze0 (a0:Zb) (a1:Zb):Nat → (Int) → Option ((Bool) ⊕ (Unit))
 | 0,_=>none
 | n + 1,x5=>(if (decide (x5 < (a0.List.length:Int))) then ((idx a0.List x5).bind fun e7=>((idx a1.List x5).bind fun e9=>((gd (!(!sEq e7.Name e9.Name)) (idx a0.List x5)).bind fun e11=>((gd (!(!sEq e7.Name e9.Name)) (idx a1.List x5)).bind fun e13=>((gd (!(!sEq e7.Name e9.Name)) (Zdy e11.Score e13.Score)).bind fun r15=>(if ((!sEq e7.Name e9.Name) || (!r15)) then (some (.inl false)) else ((Ze0 a0 a1 n) (IntKind.i64.wrap (x5 + (1:Int)))))))))) else (some (.inr ())))
def Zdd (a0:Zb) (a1:Zb):Option (Bool):=(if ((((((a0.Kind != a1.Kind) || (a0.Num != a1.Num)) || (a0.Low != a1.Low)) || (a0.High != a1.High)) || (a0.Cap != a1.Cap)) || (!sEq a0.Text a1.Text)) then (some false) else ((Zdy a0.Real a1.Real).bind fun r2=>(if ((!r2) || ((a0.List.length:Int) != (a1.List.length:Int))) then (some false) else ((Ze0 a0 a1 (Int.toNat ((a0.List.length:Int) - (0:Int)) + 1) (0:Int)).bind fun z18=>match z18 with | .inl r=>some r | .inr ()=>(some true)))))
def Zl4 (a0:Int):Option (ByteArray):=(if ((decide (a0 < (0:Int))) || (decide ((21:Int) < a0))) then (some (⟨#[]⟩:ByteArray)) else ((idx ([(⟨#[]⟩:ByteArray),(⟨#[109]⟩:ByteArray),(⟨#[]⟩:ByteArray),(⟨#[]⟩:ByteArray),(⟨#[]⟩:ByteArray),(⟨#[115]⟩:ByteArray),(⟨#[115]⟩:ByteArray),(⟨#[110]⟩:ByteArray),(⟨#[110]⟩:ByteArray),(⟨#[110]⟩:ByteArray),(⟨#[110]⟩:ByteArray),(⟨#[110]⟩:ByteArray),(⟨#[110]⟩:ByteArray),(⟨#[120]⟩:ByteArray),(⟨#[120]⟩:ByteArray),(⟨#[120]⟩:ByteArray),(⟨#[120]⟩:ByteArray),(⟨#[120]⟩:ByteArray),(⟨#[115]⟩:ByteArray),(⟨#[115]⟩:ByteArray),(⟨#[115]⟩:ByteArray),(⟨#[120,115]⟩:ByteArray)]:List ByteArray) a0).bind fun e2=>(some e2)))
def Zik (a1:Int) (r1:ByteArray):Nat → (Int) → Option ((Bool) ⊕ (Unit))
 | 0,_=>none
 | n + 1,x3=>(if (decide (x3 < (r1.size:Int))) then ((sidx r1 x3).bind fun b5=>(if (b5 == a1) then (some (.inl true)) else ((Zik a1 r1 n) (IntKind.i64.wrap (x3 + (1:Int)))))) else (some (.inr ())))
def Zep (a0:Int) (a1:Int):Option (Bool):=((Zl4 a0).bind fun r1=>((Zik a1 r1 (Int.toNat ((r1.size:Int) - (0:Int)) + 1) (0:Int)).bind fun z8=>match z8 with | .inl r=>some r | .inr ()=>(some false)))
def Zfa (a0:Int):Option (Int):=(if ((decide (a0 < (0:Int))) || (decide ((21:Int) < a0))) then (some (0:Int)) else ((idx ([(0:Int),(0:Int),(0:Int),(0:Int),(0:Int),(1:Int),(1:Int),(2:Int),(3:Int),(3:Int),(4:Int),(4:Int),(4:Int),(5:Int),(6:Int),(7:Int),(7:Int),(7:Int),(8:Int),(8:Int),(8:Int),(9:Int)]:List Int) a0).bind fun e2=>(some e2)))
def Zc3 (a0:Zm):Option (Int):=(if ((decide (a0.Kind < (1:Int))) || (decide ((21:Int) < a0.Kind))) then (some (5:Int)) else (if ((decide ((a0.Key.size:Int) < (1:Int))) || (decide ((24:Int) < (a0.Key.size:Int)))) then (some (1:Int)) else ((Zep a0.Kind (110:Int)).bind fun r3=>((gd (!((!r3) && (a0.N != (0:Int)))) (Zep a0.Kind (120:Int))).bind fun r5=>((gd ((!((!r3) && (a0.N != (0:Int)))) && (!r5)) (Zdy a0.X (0:Nat))).bind fun r7=>((gd (!(((!r3) && (a0.N != (0:Int))) || ((!r5) && (!r7)))) (Zep a0.Kind (115:Int))).bind fun r9=>(if ((((!r3) && (a0.N != (0:Int))) || ((!r5) && (!r7))) || ((!r9) && (!sEq a0.S (⟨#[]⟩:ByteArray)))) then (some (4:Int)) else ((gd (a0.Kind != (1:Int)) (Zdd a0.Make ({ Kind:=(0:Int),Num:=(0:Int),Low:=(0:Int),High:=(0:Int),Real:=(0:Nat),Cap:=(0:Int),Text:=ByteArray.empty,List:=([]:List Zi) }:Zb))).bind fun r12=>(if ((a0.Kind != (1:Int)) && (!r12)) then (some (4:Int)) else ((Zfa a0.Kind).bind fun r15=>((gd (!((r15 == (1:Int)) && (decide ((64:Int) < (a0.S.size:Int))))) (Zfa a0.Kind)).bind fun r17=>(if (((r15 == (1:Int)) && (decide ((64:Int) < (a0.S.size:Int)))) || ((r17 != (1:Int)) && (decide ((16:Int) < (a0.S.size:Int))))) then (some (3:Int)) else (if (((a0.Kind == (10:Int)) || (a0.Kind == (11:Int))) && ((decide (a0.N < (0:Int))) || (decide ((2305843009213693952:Int) < a0.N)))) then (some (1:Int)) else ((Zf8 a0.X).bind fun r21=>(if (!r21) then (some (4:Int)) else (if (a0.Kind == (1:Int)) then ((Zc4 a0.Make).bind fun r25=>(some r25)) else (some (0:Int))))))))))))))))))
def Zc1 (a0:Zbk):Nat → (Int) → Option ((Int × Int) ⊕ (Unit))
 | 0,_=>none
 | n + 1,x2=>(if (decide (x2 < (a0.Acts.length:Int))) then ((idx a0.Acts x2).bind fun e4=>((Zc3 e4).bind fun r6=>(if (r6 != (0:Int)) then (some (.inl (r6,(IntKind.i64.wrap (x2 + (1:Int)))))) else ((Zc1 a0 n) (IntKind.i64.wrap (x2 + (1:Int))))))) else (some (.inr ())))
def Zfu (a0:Zbk):Option (Int × Int):=(if ((decide ((a0.Acts.length:Int) < (1:Int))) || (decide ((12:Int) < (a0.Acts.length:Int)))) then (some ((1:Int),(0:Int))) else ((Zc1 a0 (Int.toNat ((a0.Acts.length:Int) - (0:Int)) + 1) (0:Int)).bind fun z9=>match z9 with | .inl r=>some r | .inr ()=>(some ((0:Int),(0:Int)))))
def Zg1 (a0:Zf) (a1:ByteArray):Option (Zb × Bool):=((Zes a0 a1).bind fun r1=>((gd (decide (r1 < (a0.L.length:Int))) (idx a0.L r1)).bind fun e3=>(if ((decide (r1 < (a0.L.length:Int))) && (sEq e3.Key a1)) then ((idx a0.L r1).bind fun e6=>(some (e6.Rec,true))) else (some (({ Kind:=(0:Int),Num:=(0:Int),Low:=(0:Int),High:=(0:Int),Real:=(0:Nat),Cap:=(0:Int),Text:=ByteArray.empty,List:=([]:List Zi) }:Zb),false)))))
def Zfm (a0:Zb):Option (Zb):=(if (([]:List Zi).length + a0.List.length) * 24 ≤ 140737488355328 then (some ({ a0 with List:=(([]:List Zi) ++ a0.List) })) else none)
def Zjp (a0:Int) (a1:Int):Option (Bool):=(some ((((decide ((0:Int) < a0)) && (decide ((0:Int) < a1))) && (decide ((IntKind.i64.wrap (a0 + a1)) < (0:Int)))) || (((decide (a0 < (0:Int))) && (decide (a1 < (0:Int)))) && (decide ((0:Int) ≤ (IntKind.i64.wrap (a0 + a1)))))))
def Zj3 (a0:Nat) (a1:Nat):Option (Nat):=((Zfo a0 a1).bind fun r1=>(if r1 then (some a1) else (some a0)))
def Zkd (a0:Nat) (a1:Nat):Option (Nat):=((Zfo a1 a0).bind fun r1=>(if r1 then (some a1) else (some a0)))
def Zfi (a0:Int):Option (Nat):=(if (decide ((9223372036854775808:Int) ≤ a0)) then (some (Int.toNat (IntKind.u64.wrap (a0 - (9223372036854775808:Int))))) else (some (Int.toNat (IntKind.u64.wrap ((9223372036854775808:Int) + (IntKind.u64.wrap ((IntKind.u64.wrap ((9223372036854775808:Int) - (1:Int))) - a0)))))))
def Zfv (a0:Nat):Option (Int):=((Zet a0).bind fun r1=>(if r1 then (some (IntKind.u64.wrap ((9223372036854775808:Int) + (9221120237041090561:Int)))) else (if (decide ((9223372036854775808:Int) ≤ (a0:Int))) then (some (IntKind.u64.wrap ((IntKind.u64.wrap ((9223372036854775808:Int) - (1:Int))) - (IntKind.u64.wrap ((a0:Int) - (9223372036854775808:Int)))))) else (some (IntKind.u64.wrap ((9223372036854775808:Int) + (a0:Int)))))))
def Zfj (a0:List Zi) (a1:ByteArray):Nat → (Int) → Option ((Bool) ⊕ (Unit))
 | 0,_=>none
 | n + 1,x1=>(if (decide (x1 < (a0.length:Int))) then ((idx a0 x1).bind fun e3=>(if (sEq e3.Name a1) then (some (.inl true)) else ((Zfj a0 a1 n) (IntKind.i64.wrap (x1 + (1:Int)))))) else (some (.inr ())))
def Zgn (a0:List Zi) (a1:ByteArray):Option (Bool):=((Zfj a0 a1 (Int.toNat ((a0.length:Int) - (0:Int)) + 1) (0:Int)).bind fun z6=>match z6 with | .inl r=>some r | .inr ()=>(some false))
def Zgq (j30:List Zi):Option (List Zi):=(some j30)
def Zd8 (a0:List Zi) (x3:Int) (kk:(List Zi) → (Bool) → (Int) → Option ((List Zi) × Bool)) (j20:List Zi) (j21:Bool):Option ((List Zi) × Bool):=((idx a0 x3).bind fun e22=>(if (j20.length + ([e22]:List Zi).length) * 24 ≤ 140737488355328 then (kk (j20 ++ ([e22]:List Zi)) j21 (IntKind.i64.wrap (x3 + (1:Int)))) else none))
def Zcn (a0:List Zi) (a1:Zi) (a2:Bool):Nat → (List Zi) → (Bool) → (Int) → Option ((List Zi) × Bool)
 | 0,_,_,_=>none
 | n + 1,x1,x2,x3=>(if (decide (x3 < (a0.length:Int))) then ((gd (!a2) (idx a0 x3)).bind fun e5=>((gd (!a2) (Zgl e5 a1)).bind fun r7=>((gd ((!((!a2) && r7)) && a2) (idx a0 x3)).bind fun e9=>((idx a0 x3).bind fun e11=>((gd ((sEq e11.Name a1.Name) && (!a2)) (idx a0 x3)).bind fun e13=>((gd ((sEq e11.Name a1.Name) && (!a2)) (Zdy e13.Score a1.Score)).bind fun r15=>(if ((!x2) && (!(((!a2) && r7) || (a2 && (sLt e9.Name a1.Name))))) then (if (!((sEq e11.Name a1.Name) && (a2 || r15))) then (if (x1.length + ([a1]:List Zi).length) * 24 ≤ 140737488355328 then (Zd8 a0 x3 (Zcn a0 a1 a2 n) (x1 ++ ([a1]:List Zi)) true) else none) else (Zd8 a0 x3 (Zcn a0 a1 a2 n) x1 true)) else (Zd8 a0 x3 (Zcn a0 a1 a2 n) x1 x2)))))))) else (some (x1,x2)))
def Zf4 (a0:List Zi) (a1:Zi) (a2:Bool):Option (List Zi):=((Zcn a0 a1 a2 (Int.toNat ((a0.length:Int) - (0:Int)) + 1) ([]:List Zi) false (0:Int)).bind fun z27=>match z27 with | (y25,y26)=>(if (!y26) then (if (y25.length + ([a1]:List Zi).length) * 24 ≤ 140737488355328 then (Zgq (y25 ++ ([a1]:List Zi))) else none) else (Zgq y25)))
def Z6 (j65:Zb) (j66:Zc):Option (Zb × Zc):=(some (j65,j66))
def Zi1 (x43:Int) (kk:(List Zi) → (Int) → Option (List Zi)) (j51:List Zi):Option (List Zi):=(kk j51 (IntKind.i64.wrap (x43 + (1:Int))))
def Zdl (a0:Zb) (a1:Zm):Nat → (List Zi) → (Int) → Option (List Zi)
 | 0,_,_=>none
 | n + 1,x42,x43=>(if (decide (x43 < (a0.List.length:Int))) then ((idx a0.List x43).bind fun e45=>(if (!sEq e45.Name a1.S) then ((idx a0.List x43).bind fun e48=>(if (x42.length + ([e48]:List Zi).length) * 24 ≤ 140737488355328 then (Zi1 x43 (Zdl a0 a1 n) (x42 ++ ([e48]:List Zi))) else none)) else (Zi1 x43 (Zdl a0 a1 n) x42))) else (some x42))
def Ze6 (a0:Zb) (j64:List Zi):Option (Zb × Zc):=(Z6 ({ a0 with List:=j64 }) ({ Code:=(0:Int),Num:=(0:Int),Rec:=(default:Zb) }:Zc))
def Zck (a0:Zb) (a1:Zm) (j11:Bool):Option (Zb × Zc):=(if j11 then (if (decide (a0.Num < a1.N)) then (Z6 a0 ({ ({ Code:=(0:Int),Num:=(0:Int),Rec:=(default:Zb) }:Zc) with Code:=(11:Int) })) else (Z6 a0 ({ Code:=(0:Int),Num:=(0:Int),Rec:=(default:Zb) }:Zc))) else (if (a1.Kind == (10:Int)) then (if (decide (a0.High < (IntKind.i64.wrap (a0.Num + a1.N)))) then (Z6 a0 ({ ({ Code:=(0:Int),Num:=(0:Int),Rec:=(default:Zb) }:Zc) with Code:=(9:Int) })) else (Z6 ({ a0 with Num:=(IntKind.i64.wrap (a0.Num + a1.N)) }) ({ Code:=(0:Int),Num:=(0:Int),Rec:=(default:Zb) }:Zc))) else (if (a1.Kind == (11:Int)) then (if (decide ((IntKind.i64.wrap (a0.Num - a1.N)) < a0.Low)) then (Z6 a0 ({ ({ Code:=(0:Int),Num:=(0:Int),Rec:=(default:Zb) }:Zc) with Code:=(10:Int) })) else (Z6 ({ a0 with Num:=(IntKind.i64.wrap (a0.Num - a1.N)) }) ({ Code:=(0:Int),Num:=(0:Int),Rec:=(default:Zb) }:Zc))) else (if (a1.Kind == (13:Int)) then ((Zj3 a0.Real a1.X).bind fun r19=>(Z6 ({ a0 with Real:=r19 }) ({ Code:=(0:Int),Num:=(0:Int),Rec:=(default:Zb) }:Zc))) else (if (a1.Kind == (14:Int)) then ((Zkd a0.Real a1.X).bind fun r22=>(Z6 ({ a0 with Real:=r22 }) ({ Code:=(0:Int),Num:=(0:Int),Rec:=(default:Zb) }:Zc))) else (if (a1.Kind == (15:Int)) then ((Zfv (fadd a0.Real a1.X)).bind fun r25=>((Zfi r25).bind fun r27=>(Z6 ({ a0 with Real:=r27 }) ({ Code:=(0:Int),Num:=(0:Int),Rec:=(default:Zb) }:Zc)))) else (if (a1.Kind == (16:Int)) then ((Zfv (fmul a0.Real a1.X)).bind fun r30=>((Zfi r30).bind fun r32=>(Z6 ({ a0 with Real:=r32 }) ({ Code:=(0:Int),Num:=(0:Int),Rec:=(default:Zb) }:Zc)))) else (if (a1.Kind == (17:Int)) then (Z6 ({ a0 with Real:=a1.X }) ({ Code:=(0:Int),Num:=(0:Int),Rec:=(default:Zb) }:Zc)) else (if (a1.Kind == (18:Int)) then ((Zgn a0.List a1.S).bind fun r36=>(if ((!r36) && (decide (a0.Cap ≤ (a0.List.length:Int)))) then (Z6 a0 ({ ({ Code:=(0:Int),Num:=(0:Int),Rec:=(default:Zb) }:Zc) with Code:=(8:Int) })) else ((Zf4 a0.List ({ Score:=(0:Nat),Name:=a1.S }:Zi) true).bind fun r39=>(Z6 ({ a0 with List:=r39 }) ({ Code:=(0:Int),Num:=(0:Int),Rec:=(default:Zb) }:Zc))))) else (if (a1.Kind == (19:Int)) then ((Zdl a0 a1 (Int.toNat ((a0.List.length:Int) - (0:Int)) + 1) ([]:List Zi) (0:Int)).bind fun z53=>match z53 with | y52=>(Z6 ({ a0 with List:=y52 }) ({ Code:=(0:Int),Num:=(0:Int),Rec:=(default:Zb) }:Zc))) else (if (a1.Kind == (20:Int)) then ((Zgn a0.List a1.S).bind fun r55=>(if (!r55) then (Z6 a0 ({ ({ Code:=(0:Int),Num:=(0:Int),Rec:=(default:Zb) }:Zc) with Code:=(11:Int) })) else (Z6 a0 ({ Code:=(0:Int),Num:=(0:Int),Rec:=(default:Zb) }:Zc)))) else (if (a1.Kind == (21:Int)) then ((Zf4 a0.List ({ Score:=a1.X,Name:=a1.S }:Zi) false).bind fun r59=>(if (decide (a0.Cap < (r59.length:Int))) then ((cut r59 (0:Int) a0.Cap).bind fun c62=>(Ze6 a0 c62)) else (Ze6 a0 r59))) else (Z6 a0 ({ Code:=(0:Int),Num:=(0:Int),Rec:=(default:Zb) }:Zc))))))))))))))
def Zbx (a0:Zb) (a1:Zm):Option (Zb × Zc):=(if (a1.Kind == (5:Int)) then (Z6 ({ a0 with Text:=a1.S }) ({ Code:=(0:Int),Num:=(0:Int),Rec:=(default:Zb) }:Zc)) else (if (a1.Kind == (6:Int)) then ((Zfm a0).bind fun r3=>(Z6 ({ a0 with Text:=a1.S }) ({ ({ Code:=(0:Int),Num:=(0:Int),Rec:=(default:Zb) }:Zc) with Rec:=r3 }))) else (if (a1.Kind == (7:Int)) then (Z6 ({ a0 with Num:=(IntKind.i64.wrap (a0.Num + a1.N)) }) ({ Code:=(0:Int),Num:=(0:Int),Rec:=(default:Zb) }:Zc)) else (if (a1.Kind == (8:Int)) then ((Zjp a0.Num a1.N).bind fun r7=>(if r7 then (Z6 a0 ({ ({ Code:=(0:Int),Num:=(0:Int),Rec:=(default:Zb) }:Zc) with Code:=(9:Int) })) else (Z6 ({ a0 with Num:=(IntKind.i64.wrap (a0.Num + a1.N)) }) ({ Code:=(0:Int),Num:=(0:Int),Rec:=(default:Zb) }:Zc)))) else (if (a1.Kind == (9:Int)) then (Zck a0 a1 (a1.Kind == (9:Int))) else (Zck a0 a1 (a1.Kind == (12:Int))))))))
def Zgd (a1:Bool) (a2:Zm) (r3:Zb) (j18:Int):Option (Zb × Bool × Zc):=(if (j18 != (0:Int)) then (some (r3,a1,({ Code:=j18,Num:=(0:Int),Rec:=(default:Zb) }:Zc))) else (if (a2.Kind == (1:Int)) then ((Zfm a2.Make).bind fun r21=>(some (r21,true,({ Code:=(0:Int),Num:=(0:Int),Rec:=(default:Zb) }:Zc)))) else (if (a2.Kind == (2:Int)) then (some (({ Kind:=(0:Int),Num:=(0:Int),Low:=(0:Int),High:=(0:Int),Real:=(0:Nat),Cap:=(0:Int),Text:=ByteArray.empty,List:=([]:List Zi) }:Zb),false,({ Code:=(0:Int),Num:=(0:Int),Rec:=(default:Zb) }:Zc))) else (if (a2.Kind == (3:Int)) then (some (r3,a1,({ Code:=(0:Int),Num:=r3.Kind,Rec:=(default:Zb) }:Zc))) else (if (a2.Kind == (4:Int)) then ((Zfm r3).bind fun r26=>(some (r3,a1,({ Code:=(0:Int),Num:=(0:Int),Rec:=r26 }:Zc)))) else ((Zbx r3 a2).bind fun r28=>(some (r28.1,a1,r28.2))))))))
def Zgc (a1:Bool) (a2:Zm) (r3:Zb) (j14:Int):Option (Zb × Bool × Zc):=((Zfa a2.Kind).bind fun r15=>(if (((j14 == (0:Int)) && (r15 != (0:Int))) && (r15 != r3.Kind)) then (Zgd a1 a2 r3 (5:Int)) else (Zgd a1 a2 r3 j14)))
def Zga (a1:Bool) (a2:Zm) (r3:Zb) (j12:Int):Option (Zb × Bool × Zc):=(if ((((j12 == (0:Int)) && (!a1)) && (a2.Kind != (1:Int))) && (a2.Kind != (3:Int))) then (Zgc a1 a2 r3 (6:Int)) else (Zgc a1 a2 r3 j12))
def Zek (a1:Bool) (a2:Zm) (r3:Zb) (j10:Int):Option (Zb × Bool × Zc):=(if (((j10 == (0:Int)) && (a2.Kind == (1:Int))) && a1) then (Zga a1 a2 r3 (7:Int)) else (Zga a1 a2 r3 j10))
def Zgf (a1:Bool) (a2:Zm) (j2:Zb):Option (Zb × Bool × Zc):=((Zfm j2).bind fun r3=>((Zc3 a2).bind fun r5=>(if ((r5 == (0:Int)) && a1) then ((Zc4 r3).bind fun r8=>(Zek a1 a2 r3 r8)) else (Zek a1 a2 r3 r5))))
def Ziy (a0:Zb) (a1:Bool) (a2:Zm):Option (Zb × Bool × Zc):=(if (!a1) then (Zgf a1 a2 ({ Kind:=(0:Int),Num:=(0:Int),Low:=(0:Int),High:=(0:Int),Real:=(0:Nat),Cap:=(0:Int),Text:=ByteArray.empty,List:=([]:List Zi) }:Zb)) else (Zgf a1 a2 a0))
def Zg0 (a0:Zf) (a1:ByteArray):Option (Zf × Bool):=((Zes a0 a1).bind fun r1=>((gd (!(decide ((a0.L.length:Int) ≤ r1))) (idx a0.L r1)).bind fun e3=>(if ((decide ((a0.L.length:Int) ≤ r1)) || (!sEq e3.Key a1)) then (some (a0,false)) else ((cut a0.L (0:Int) r1).bind fun c6=>(if (([]:List Zbe).length + c6.length) * 104 ≤ 140737488355328 then ((cut a0.L (IntKind.i64.wrap (r1 + (1:Int))) (a0.L.length:Int)).bind fun c9=>(if ((([]:List Zbe) ++ c6).length + c9.length) * 104 ≤ 140737488355328 then (some (({ L:=((([]:List Zbe) ++ c6) ++ c9),Room:=a0.Room }:Zf),true)) else none)) else none)))))
def Ziq (a0:Zf) (a1:Zm):Option (Zf × Zc):=((Zg1 a0 a1.Key).bind fun r1=>((Ziy r1.1 r1.2 a1).bind fun r3=>(if (r3.2.2.Code != (0:Int)) then (some (a0,r3.2.2)) else (if ((a1.Kind == (1:Int)) && (decide (a0.Room ≤ (a0.L.length:Int)))) then (some (a0,({ Code:=(8:Int),Num:=(0:Int),Rec:=(default:Zb) }:Zc))) else (if (!r3.2.1) then ((Zg0 a0 a1.Key).bind fun r8=>(some (r8.1,r3.2.2))) else ((Zfc a0 a1.Key r3.1).bind fun r10=>(some (r10.1,r3.2.2))))))))
def Zeg (a0:Zf) (a1:Zbk):Nat → (Zf) → (Zw) → (Zf) → (List Zc) → (Int) → Option ((Zf × Zw) ⊕ (Zf × Zw × Zf × (List Zc)))
 | 0,_,_,_,_,_=>none
 | n + 1,x4,x5,x6,x7,x8=>(if (decide (x8 < (a1.Acts.length:Int))) then ((idx a1.Acts x8).bind fun e10=>((Ziq x6 e10).bind fun r12=>((gd (r12.2.Code != (0:Int)) (idx a1.Acts x8)).bind fun e14=>(if ((r12.2.Code != (0:Int)) && e14.Must) then (some (.inl (a0,({ Code:=r12.2.Code,At:=(IntKind.i64.wrap (x8 + (1:Int))),Answers:=([]:List Zc) }:Zw)))) else (if (x7.length + ([r12.2]:List Zc).length) * 104 ≤ 140737488355328 then ((Zeg a0 a1 n) x4 x5 r12.1 (x7 ++ ([r12.2]:List Zc)) (IntKind.i64.wrap (x8 + (1:Int)))) else none))))) else (some (.inr (x4,x5,x6,x7))))
def Zj7 (a0:Zf) (a1:Zbk):Option (Zf × Zw):=((Zfu a1).bind fun r1=>(if (r1.1 != (0:Int)) then (some (a0,({ Code:=r1.1,At:=r1.2,Answers:=([]:List Zc) }:Zw))) else ((Zeg a0 a1 (Int.toNat ((a1.Acts.length:Int) - (0:Int)) + 1) (default:Zf) (default:Zw) a0 ([]:List Zc) (0:Int)).bind fun z22=>match z22 with | .inl r=>some r | .inr (y18,y19,y20,y21)=>(some (y20,({ Code:=(0:Int),At:=(0:Int),Answers:=y21 }:Zw))))))
def Zjk (a0:Zc) (a1:Zc):Option (Bool):=((gd ((a0.Code == a1.Code) && (a0.Num == a1.Num)) (Zdd a0.Rec a1.Rec)).bind fun r1=>(some (((a0.Code == a1.Code) && (a0.Num == a1.Num)) && r1)))
def Zeo (a0:Zw) (a1:Zw):Nat → (Int) → Option ((Bool) ⊕ (Unit))
 | 0,_=>none
 | n + 1,x2=>(if (decide (x2 < (a0.Answers.length:Int))) then ((idx a0.Answers x2).bind fun e4=>((idx a1.Answers x2).bind fun e6=>((Zjk e4 e6).bind fun r8=>(if (!r8) then (some (.inl false)) else ((Zeo a0 a1 n) (IntKind.i64.wrap (x2 + (1:Int)))))))) else (some (.inr ())))
def Zhn (a0:Zw) (a1:Zw):Option (Bool):=(if (((a0.Code != a1.Code) || (a0.At != a1.At)) || ((a0.Answers.length:Int) != (a1.Answers.length:Int))) then (some false) else ((Zeo a0 a1 (Int.toNat ((a0.Answers.length:Int) - (0:Int)) + 1) (0:Int)).bind fun z11=>match z11 with | .inl r=>some r | .inr ()=>(some true)))
def Zk4 (a0:Zk):Option (Int):=(some a0.room)
def Zfx (a0:Zk) (a1:Zf):Nat → (Int) → Option ((Int) ⊕ (Unit))
 | 0,_=>none
 | n + 1,x6=>(if (decide (x6 < (a1.L.length:Int))) then ((idx a1.L x6).bind fun e8=>((Zh2 a0 x6).bind fun r10=>((gd (!((!r10.2.2) || (!sEq r10.1 e8.Key))) (Zdd r10.2.1 e8.Rec)).bind fun r12=>(if (((!r10.2.2) || (!sEq r10.1 e8.Key)) || (!r12)) then (some (.inl (0:Int))) else ((Zfx a0 a1 n) (IntKind.i64.wrap (x6 + (1:Int)))))))) else (some (.inr ())))
def Zjg (a0:Zk) (a1:Zf):Option (Int):=((Zff a0).bind fun r1=>((gd (!(r1 != (a1.L.length:Int))) (Zk4 a0)).bind fun r3=>(if ((r1 != (a1.L.length:Int)) || (r3 != a1.Room)) then (some (0:Int)) else ((Zfx a0 a1 (Int.toNat ((a1.L.length:Int) - (0:Int)) + 1) (0:Int)).bind fun z15=>match z15 with | .inl r=>some r | .inr ()=>(some (1:Int))))))
def Zjj (a0:Zm) (a1:Zm):Option (Bool):=(if (((((a0.Kind != a1.Kind) || (!sEq a0.Key a1.Key)) || (a0.N != a1.N)) || (!sEq a0.S a1.S)) || (a0.Must != a1.Must)) then (some false) else ((Zdy a0.X a1.X).bind fun r2=>((gd r2 (Zdd a0.Make a1.Make)).bind fun r4=>(some (r2 && r4)))))
def Zdr (y31:List Int) (j39:Zw):Nat → (List Zc) → (Int) → Option (List Zc)
 | 0,_,_=>none
 | n + 1,x65,x66=>(if (decide (x66 < (y31.length:Int))) then ((idx y31 x66).bind fun e68=>((idx j39.Answers x66).bind fun e70=>((idx x65 e68).bind fun e72=>((Zdr y31 j39 n) (x65.set (Int.toNat e68) e70) (IntKind.i64.wrap (x66 + (1:Int))))))) else (some x65))
def Zdq (y29:List Zm) (r42:Zk × (List Zm)):Nat → (Int) → Option ((Bool) ⊕ (Unit))
 | 0,_=>none
 | n + 1,x54=>(if (decide (x54 < (y29.length:Int))) then ((idx r42.2 x54).bind fun e56=>((idx y29 x54).bind fun e58=>((Zjj e56 e58).bind fun r60=>(if (!r60) then (some (.inl false)) else ((Zdq y29 r42 n) (IntKind.i64.wrap (x54 + (1:Int)))))))) else (some (.inr ())))
def Ze8 (a1:Zbk) (r4:Zk × (Option Zf)) (r11:Z0 × Int) (y29:List Zm) (y31:List Int) (j38:Zf) (j39:Zw):Option (Bool):=((Zh4 r11.1).bind fun r40=>((Zeu r11.1 r4.1).bind fun r42=>(if (j39.Code != (0:Int)) then ((idx y31 (IntKind.i64.wrap (j39.At - (1:Int)))).bind fun e45=>((gd (r40.2 && (r11.2 == (IntKind.i64.wrap (e45 + (1:Int))))) (Zhn r40.1 ({ Code:=j39.Code,At:=(IntKind.i64.wrap (e45 + (1:Int))),Answers:=([]:List Zc) }:Zw))).bind fun r47=>((gd ((r40.2 && (r11.2 == (IntKind.i64.wrap (e45 + (1:Int))))) && r47) (Zk6 r42.1 r4.1)).bind fun r49=>(some ((((r40.2 && (r11.2 == (IntKind.i64.wrap (e45 + (1:Int))))) && r47) && r49) && ((r42.2.length:Int) == (0:Int))))))) else ((gd (!((((!r40.2) || (r11.2 != (a1.Acts.length:Int))) || ((r40.1.Answers.length:Int) != r11.2)) || ((r42.2.length:Int) != (y29.length:Int)))) (Zjg r42.1 j38)).bind fun r51=>(if (((((!r40.2) || (r11.2 != (a1.Acts.length:Int))) || ((r40.1.Answers.length:Int) != r11.2)) || ((r42.2.length:Int) != (y29.length:Int))) || (r51 != (1:Int))) then (some false) else ((Zdq y29 r42 (Int.toNat ((y29.length:Int) - (0:Int)) + 1) (0:Int)).bind fun z63=>match z63 with | .inl r=>some r | .inr ()=>(if 0 ≤ r11.2 ∧ Int.toNat r11.2 * 104 ≤ 140737488355328 then ((Zdr y31 j39 (Int.toNat ((y31.length:Int) - (0:Int)) + 1) (List.replicate (Int.toNat r11.2) (default:Zc)) (0:Int)).bind fun z75=>match z75 with | y74=>((Zhn r40.1 ({ Code:=(0:Int),At:=(0:Int),Answers:=y74 }:Zw)).bind fun r76=>(some r76))) else none)))))))
def Zf9 (x16:Int) (kk:(List Zm) → (List Zm) → (List Int) → (Int) → Option ((List Zm) × (List Zm) × (List Int))) (j26:List Zm) (j27:List Zm) (j28:List Int):Option ((List Zm) × (List Zm) × (List Int)):=(kk j26 j27 j28 (IntKind.i64.wrap (x16 + (1:Int))))
def Zcx (a1:Zbk) (a2:List ByteArray):Nat → (List Zm) → (List Zm) → (List Int) → (Int) → Option ((List Zm) × (List Zm) × (List Int))
 | 0,_,_,_,_=>none
 | n + 1,x13,x14,x15,x16=>(if (decide (x16 < (a1.Acts.length:Int))) then ((idx a1.Acts x16).bind fun e18=>((Zkb a2 e18.Key).bind fun r20=>(if r20 then (if (x13.length + ([e18]:List Zm).length) * 152 ≤ 140737488355328 then (Zf9 x16 (Zcx a1 a2 n) (x13 ++ ([e18]:List Zm)) x14 x15) else none) else (if (x14.length + ([e18]:List Zm).length) * 152 ≤ 140737488355328 then (if (x15.length + ([x16]:List Int).length) * 8 ≤ 140737488355328 then (Zf9 x16 (Zcx a1 a2 n) x13 (x14 ++ ([e18]:List Zm)) (x15 ++ ([x16]:List Int))) else none) else none)))) else (some (x13,x14,x15)))
def Ziv (a0:List Zbe) (a1:Zbk) (a2:List ByteArray):Option (Bool):=((Zka).bind fun r1=>(if (!r1) then (some false) else ((Zhl (50:Int) a0).bind fun r4=>((Zfu a1).bind fun r6=>(if ((r4.2.isNone || (decide ((20:Int) < (a2.length:Int)))) || (r6.1 != (0:Int))) then (some true) else ((Zm0 a1 r4.1 a2).bind fun r9=>((Zlp r9).bind fun r11=>((Zcx a1 a2 (Int.toNat ((a1.Acts.length:Int) - (0:Int)) + 1) ([]:List Zm) ([]:List Zm) ([]:List Int) (0:Int)).bind fun z32=>match z32 with | (y29,y30,y31)=>((r4.2).bind fun n33=>(if (decide ((0:Int) < (y30.length:Int))) then ((Zj7 n33 ({ Acts:=y30 }:Zbk)).bind fun r36=>(Ze8 a1 r4 r11 y29 y31 r36.1 r36.2)) else (Ze8 a1 r4 r11 y29 y31 n33 ({ Code:=(0:Int),At:=(0:Int),Answers:=([]:List Zc) }:Zw))))))))))))
def Zqq (x:Zi):Prop:=(x.Score < 2 ^ 64) ∧ (x.Name.size ≤ maxLen)
def Zlf (x:Zb):Prop:=((IntKind.i64).min ≤ x.Kind ∧ x.Kind ≤ (IntKind.i64).max) ∧ ((IntKind.i64).min ≤ x.Num ∧ x.Num ≤ (IntKind.i64).max) ∧ ((IntKind.i64).min ≤ x.Low ∧ x.Low ≤ (IntKind.i64).max) ∧ ((IntKind.i64).min ≤ x.High ∧ x.High ≤ (IntKind.i64).max) ∧ (x.Real < 2 ^ 64) ∧ ((IntKind.i64).min ≤ x.Cap ∧ x.Cap ≤ (IntKind.i64).max) ∧ (x.Text.size ≤ maxLen) ∧ (x.List.length ≤ maxLen ∧ ∀ e0 ∈ x.List,(Zqq e0))
def Zmf (x:Zm):Prop:=((IntKind.i64).min ≤ x.Kind ∧ x.Kind ≤ (IntKind.i64).max) ∧ (x.Key.size ≤ maxLen) ∧ ((IntKind.i64).min ≤ x.N ∧ x.N ≤ (IntKind.i64).max) ∧ (x.X < 2 ^ 64) ∧ (x.S.size ≤ maxLen) ∧ (Zlf x.Make) ∧ True
def Zqt (x:Zbk):Prop:=(x.Acts.length ≤ maxLen ∧ ∀ e0 ∈ x.Acts,(Zmf e0))
def Zhw (x:Zbe):Prop:=(x.Key.size ≤ maxLen) ∧ (Zlf x.Rec)
end Go.CL
namespace Go.CL
open Go Go.RowKit Go.Proofs
theorem Za:Tryz.prog.follows .mixedOrders=true:=by kernel_rfl
theorem Z8v {α:Type} {l:List α} (h:l.length=1):∃ u0,l=[u0]:=by
 match l,h with
 | [u0],_=>exact ⟨u0,rfl⟩
theorem Zmn {α:Type} {l:List α} (h:l.length=2):∃ u0 u1,l=[u0,u1]:=by
 match l,h with
 | [u0,u1],_=>exact ⟨u0,u1,rfl⟩
theorem Z4v {α:Type} {l:List α} (h:l.length=8):∃ u0 u1 u2 u3 u4 u5 u6 u7,l=[u0,u1,u2,u3,u4,u5,u6,u7]:=by
 match l,h with
 | [u0,u1,u2,u3,u4,u5,u6,u7],_=>exact ⟨u0,u1,u2,u3,u4,u5,u6,u7,rfl⟩
def Z2l:List (Kd.FK Zi):=[⟨_,Kd.flt,0,fun x:Zi=>x.Score⟩,
 ⟨_,Kd.str,1,fun x:Zi=>x.Name⟩]
def Zz:Kd Zi:=Kd.struct 2 Z2l (by rfl)
theorem Zlj:∀ g,Zz.K g (default:Zi) [.float .f64 0,.string ByteArray.empty]:=fun g=>⟨rfl,(Qc.2 ⟨(rfl),(Qc.2 ⟨(rfl),(fun _ h=>by cases h)⟩)⟩)⟩
def Zyz:List (Kd.FK Zb):=[⟨_,(Kd.int .i64),0,fun x:Zb=>x.Kind⟩,
 ⟨_,(Kd.int .i64),1,fun x:Zb=>x.Num⟩,
 ⟨_,(Kd.int .i64),2,fun x:Zb=>x.Low⟩,
 ⟨_,(Kd.int .i64),3,fun x:Zb=>x.High⟩,
 ⟨_,Kd.flt,4,fun x:Zb=>x.Real⟩,
 ⟨_,(Kd.int .i64),5,fun x:Zb=>x.Cap⟩,
 ⟨_,Kd.str,6,fun x:Zb=>x.Text⟩,
 ⟨_,Zz.sl,7,fun x:Zb=>x.List⟩]
def Ze:Kd Zb:=Kd.struct 8 Zyz (by rfl)
theorem Zb0:∀ g,Ze.K g (default:Zb) [.int .i64 0,.int .i64 0,.int .i64 0,.int .i64 0,.float .f64 0,.int .i64 0,.string ByteArray.empty,.slice none 0 0]:=fun g=>⟨rfl,(Qc.2 ⟨(rfl),(Qc.2 ⟨(rfl),(Qc.2 ⟨(rfl),(Qc.2 ⟨(rfl),(Qc.2 ⟨(rfl),(Qc.2 ⟨(rfl),(Qc.2 ⟨(rfl),(Qc.2 ⟨(⟨none,0,rfl,Nat.le_refl _,Nat.zero_le _,.inl rfl⟩),(fun _ h=>by cases h)⟩)⟩)⟩)⟩)⟩)⟩)⟩)⟩)⟩
def Z4q:List (Kd.FK Zm):=[⟨_,(Kd.int .i64),0,fun x:Zm=>x.Kind⟩,
 ⟨_,Kd.str,1,fun x:Zm=>x.Key⟩,
 ⟨_,(Kd.int .i64),2,fun x:Zm=>x.N⟩,
 ⟨_,Kd.flt,3,fun x:Zm=>x.X⟩,
 ⟨_,Kd.str,4,fun x:Zm=>x.S⟩,
 ⟨_,Ze,5,fun x:Zm=>x.Make⟩,
 ⟨_,Kd.bool,13,fun x:Zm=>x.Must⟩]
def Zy:Kd Zm:=Kd.struct 14 Z4q (by rfl)
theorem Zpf:∀ g,Zy.K g (default:Zm) [.int .i64 0,.string ByteArray.empty,.int .i64 0,.float .f64 0,.string ByteArray.empty,.int .i64 0,.int .i64 0,.int .i64 0,.int .i64 0,.float .f64 0,.int .i64 0,.string ByteArray.empty,.slice none 0 0,.bool false]:=fun g=>⟨rfl,(Qc.2 ⟨(rfl),(Qc.2 ⟨(rfl),(Qc.2 ⟨(rfl),(Qc.2 ⟨(rfl),(Qc.2 ⟨(rfl),(Qc.2 ⟨(Zb0 _),(Qc.2 ⟨(rfl),(fun _ h=>by cases h)⟩)⟩)⟩)⟩)⟩)⟩)⟩)⟩
def Z2b:List (Kd.FK Zbk):=[⟨_,Zy.sl,0,fun x:Zbk=>x.Acts⟩]
def Zb5:Kd Zbk:=Kd.struct 1 Z2b (by rfl)
theorem Zu4:∀ g,Zb5.K g (default:Zbk) [.slice none 0 0]:=fun g=>⟨rfl,(Qc.2 ⟨(⟨none,0,rfl,Nat.le_refl _,Nat.zero_le _,.inl rfl⟩),(fun _ h=>by cases h)⟩)⟩
def Z09:List (Kd.FK Zcd):=[⟨_,Kd.bool,0,fun x:Zcd=>x.text⟩,
 ⟨_,Kd.bool,1,fun x:Zcd=>x.num⟩,
 ⟨_,Kd.bool,2,fun x:Zcd=>x.bounds⟩,
 ⟨_,Kd.bool,3,fun x:Zcd=>x.real⟩,
 ⟨_,Kd.bool,4,fun x:Zcd=>x.list⟩]
def Zdg:Kd Zcd:=Kd.struct 5 Z09 (by rfl)
theorem Zsp:∀ g,Zdg.K g (default:Zcd) [.bool false,.bool false,.bool false,.bool false,.bool false]:=fun g=>⟨rfl,(Qc.2 ⟨(rfl),(Qc.2 ⟨(rfl),(Qc.2 ⟨(rfl),(Qc.2 ⟨(rfl),(Qc.2 ⟨(rfl),(fun _ h=>by cases h)⟩)⟩)⟩)⟩)⟩)⟩
def Z2a:List (Kd.FK Zdo):=[⟨_,Kd.str,0,fun x:Zdo=>x.word⟩,
 ⟨_,(Kd.int .i64),1,fun x:Zdo=>x.on⟩,
 ⟨_,Kd.str,2,fun x:Zdo=>x.has⟩]
def Ze7:Kd Zdo:=Kd.struct 3 Z2a (by rfl)
theorem Zuw:∀ g,Ze7.K g (default:Zdo) [.string ByteArray.empty,.int .i64 0,.string ByteArray.empty]:=fun g=>⟨rfl,(Qc.2 ⟨(rfl),(Qc.2 ⟨(rfl),(Qc.2 ⟨(rfl),(fun _ h=>by cases h)⟩)⟩)⟩)⟩
def shelf_nodeT.V (g:G):shelf_nodeT → Value → Prop
 | .nil,v=>v=.pointer none
 | .node x0 x1 x2 x3 x4,v=>∃ b o cs,v=.pointer (some ⟨b,o,none⟩) ∧ CellsAt g b o cs ∧ cs.length=12 ∧ (∀ u ∈ cs,u.oneCell'=true) ∧ Kd.str.K g x0 (seg cs 0 1) ∧ Ze.K g x1 (seg cs 1 8) ∧ (∃ v,seg cs 9 1=[v] ∧ shelf_nodeT.V g x2 v) ∧ (∃ v,seg cs 10 1=[v] ∧ shelf_nodeT.V g x3 v) ∧ (Kd.int .i64).K g x4 (seg cs 11 1)
theorem shelf_nodeT.mono {g g':G} (h:g.le g') (t:shelf_nodeT):∀ v,shelf_nodeT.V g t v → shelf_nodeT.V g' t v:=by
 induction t with
 | nil=>exact fun v h=>h
 | node x0 x1 x2 x3 x4 ih2 ih3 =>
  rintro v ⟨b,o,cs,rfl,hc,hl,hz,h0,h1,⟨w2,e2,k2⟩,⟨w3,e3,k3⟩,h4⟩
  exact ⟨b,o,cs,rfl,hc.mono h,hl,hz,Kd.str.mono h h0,Ze.mono h h1,⟨w2,e2,ih2 w2 k2⟩,⟨w3,e3,ih3 w3 k3⟩,(Kd.int .i64).mono h h4⟩
theorem shelf_nodeT.ptr {g:G} {t:shelf_nodeT} {v:Value} (h:shelf_nodeT.V g t v):∃ p,v=.pointer p ∧ p.isNone=t.isNil:=by
 cases t with
 | nil=>exact ⟨_,h,rfl⟩
 | node =>
  obtain ⟨b,o,cs,e,_⟩:=h
  exact ⟨_,e,rfl⟩
def Zba:Kd shelf_nodeT where
 sz:=1
 ag:=false
 K:=fun g t cs=>∃ v,cs=[v] ∧ shelf_nodeT.V g t v
 len:=by rintro _ _ _ ⟨v,rfl,_⟩;rfl
 one:=by
  rintro _ _ _ ⟨v,rfl,h⟩ u hu
  obtain ⟨p,e,_⟩:=shelf_nodeT.ptr h
  rw [List.mem_singleton.1 hu,e];rfl
 mono:=fun h ⟨v,e,k⟩=>⟨v,e,shelf_nodeT.mono h _ _ k⟩
 nag:=fun _=>rfl
def Zy3:List (Kd.FK shelf_node):=[⟨_,Kd.str,0,fun x:shelf_node=>x.key⟩,
 ⟨_,Ze,1,fun x:shelf_node=>x.rec_⟩,
 ⟨_,Zba,9,fun x:shelf_node=>x.left⟩,
 ⟨_,Zba,10,fun x:shelf_node=>x.right⟩,
 ⟨_,(Kd.int .i64),11,fun x:shelf_node=>x.size⟩]
def Zhh:Kd shelf_node:=Kd.struct 12 Zy3 (by rfl)
theorem shelf_nodeT.V_iff {g:G} {t:shelf_nodeT} {v:Value}:(Zba.pd t).p g v ↔ shelf_nodeT.V g t v:=by
 constructor
 ·rintro ⟨_,⟨u,rfl,h⟩,rfl⟩;exact h
 ·exact fun h=>⟨_,⟨v,rfl,h⟩,rfl⟩
theorem Zmp (g:G):Zba.K g shelf_nodeT.nil [.pointer none]:=⟨_,rfl,rfl⟩
theorem Zez (g:G):(Zba.pd shelf_nodeT.nil).p g (.pointer none):=shelf_nodeT.V_iff.2 rfl
theorem Zfw (t:shelf_nodeT) (g:G) (v:Value) (h:(Zba.pd t).p g v):∃ p,v=.pointer p ∧ p.isNone=t.isNil:=shelf_nodeT.ptr (shelf_nodeT.V_iff.1 h)
theorem Zv {g:G} {t:shelf_nodeT} {x:shelf_node} {v:Value} (h:t.un=some x) (hv:(Zba.pd t).p g v):(Zhh.ptr x).p g v:=by
 cases t with
 | nil=>cases h
 | node x0 x1 x2 x3 x4 =>
  obtain rfl:=Option.some.inj h
  obtain ⟨b,o,cs,rfl,hc,hl,_,h0,h1,h2,h3,h4⟩:=shelf_nodeT.V_iff.1 hv
  exact ⟨b,o,cs,rfl,⟨hl,(Qc.2 ⟨h0,(Qc.2 ⟨h1,(Qc.2 ⟨h2,(Qc.2 ⟨h3,(Qc.2 ⟨h4,(fun _ h=>by cases h)⟩)⟩)⟩)⟩)⟩)⟩,hc⟩
theorem Zxa {g:G} {x:shelf_node} {v:Value} (h:(Zhh.ptr x).p g v):(Zba.pd x.up).p g v:=by
 obtain ⟨b,o,cs,rfl,hk,hc⟩:=h
 exact shelf_nodeT.V_iff.2 ⟨b,o,cs,rfl,hc,hk.1,Zhh.one hk,hk.2 _ (List.mem_of_getElem? (i:=0) rfl),hk.2 _ (List.mem_of_getElem? (i:=1) rfl),hk.2 _ (List.mem_of_getElem? (i:=2) rfl),hk.2 _ (List.mem_of_getElem? (i:=3) rfl),hk.2 _ (List.mem_of_getElem? (i:=4) rfl)⟩
def Zxk:List (Kd.FK Zk):=[⟨_,Zba,0,fun x:Zk=>x.top⟩,
 ⟨_,(Kd.int .i64),1,fun x:Zk=>x.room⟩]
def Zx:Kd Zk:=Kd.struct 2 Zxk (by rfl)
theorem Zd5:∀ g,Zx.K g (default:Zk) [.pointer none,.int .i64 0]:=fun g=>⟨rfl,(Qc.2 ⟨(Zmp _),(Qc.2 ⟨(rfl),(fun _ h=>by cases h)⟩)⟩)⟩
def Zy5:List (Kd.FK Zc):=[⟨_,(Kd.int .i64),0,fun x:Zc=>x.Code⟩,
 ⟨_,(Kd.int .i64),1,fun x:Zc=>x.Num⟩,
 ⟨_,Ze,2,fun x:Zc=>x.Rec⟩]
def Zj:Kd Zc:=Kd.struct 10 Zy5 (by rfl)
theorem Zd6:∀ g,Zj.K g (default:Zc) [.int .i64 0,.int .i64 0,.int .i64 0,.int .i64 0,.int .i64 0,.int .i64 0,.float .f64 0,.int .i64 0,.string ByteArray.empty,.slice none 0 0]:=fun g=>⟨rfl,(Qc.2 ⟨(rfl),(Qc.2 ⟨(rfl),(Qc.2 ⟨(Zb0 _),(fun _ h=>by cases h)⟩)⟩)⟩)⟩
def Zy1:List (Kd.FK Zw):=[⟨_,(Kd.int .i64),0,fun x:Zw=>x.Code⟩,
 ⟨_,(Kd.int .i64),1,fun x:Zw=>x.At⟩,
 ⟨_,Zj.sl,2,fun x:Zw=>x.Answers⟩]
def Zbp:Kd Zw:=Kd.struct 3 Zy1 (by rfl)
theorem Zjt:∀ g,Zbp.K g (default:Zw) [.int .i64 0,.int .i64 0,.slice none 0 0]:=fun g=>⟨rfl,(Qc.2 ⟨(rfl),(Qc.2 ⟨(rfl),(Qc.2 ⟨(⟨none,0,rfl,Nat.le_refl _,Nat.zero_le _,.inl rfl⟩),(fun _ h=>by cases h)⟩)⟩)⟩)⟩
def Zsj:List (Kd.FK Zbe):=[⟨_,Kd.str,0,fun x:Zbe=>x.Key⟩,
 ⟨_,Ze,1,fun x:Zbe=>x.Rec⟩]
def Zb1:Kd Zbe:=Kd.struct 9 Zsj (by rfl)
theorem Zn3:∀ g,Zb1.K g (default:Zbe) [.string ByteArray.empty,.int .i64 0,.int .i64 0,.int .i64 0,.int .i64 0,.float .f64 0,.int .i64 0,.string ByteArray.empty,.slice none 0 0]:=fun g=>⟨rfl,(Qc.2 ⟨(rfl),(Qc.2 ⟨(Zb0 _),(fun _ h=>by cases h)⟩)⟩)⟩
def Zrj:List (Kd.FK Zf):=[⟨_,Zb1.sl,0,fun x:Zf=>x.L⟩,
 ⟨_,(Kd.int .i64),1,fun x:Zf=>x.Room⟩]
def Z9:Kd Zf:=Kd.struct 2 Zrj (by rfl)
theorem Zfn:∀ g,Z9.K g (default:Zf) [.slice none 0 0,.int .i64 0]:=fun g=>⟨rfl,(Qc.2 ⟨(⟨none,0,rfl,Nat.le_refl _,Nat.zero_le _,.inl rfl⟩),(Qc.2 ⟨(rfl),(fun _ h=>by cases h)⟩)⟩)⟩
def Z1k:Zdo → List Value:=fun x=>[.string x.word,.int .i64 x.on,.string x.has]
theorem gm_0:(0,g_0.flatMap Z1k) ∈ GL:=List.mem_of_getElem? (i:=0) rfl
theorem gk_0:∀ g,(Kd.arr 22 Ze7).K g g_0 (g_0.flatMap Z1k):=fun g=>Zbdb (dk:=Ze7) (enc:=Z1k) (fun g x=>⟨rfl,(Qc.2 ⟨rfl,(Qc.2 ⟨rfl,(Qc.2 ⟨rfl,(fun _ h=>by cases h)⟩)⟩)⟩)⟩) g g_0
theorem Zdm:TE Tryz.prog 36 116 Zz 24:=TE.of Tryz.underlying36 (by kernel_rfl) (by decide) (by decide)
theorem Zcc:Fld Tryz.prog 38 7 Ze Zz.sl (fun x:Zb=>x.List):=Fld.of ⟨_,Zz.sl,7,fun x:Zb=>x.List⟩ (List.mem_of_getElem? (i:=7) rfl) 7 rfl (by kernel_rfl) (by decide)
theorem Zdc:Ty Tryz.prog 36 Zz.sl:=⟨by kernel_rfl,by kernel_rfl⟩
theorem Zzp:Zn Tryz.prog 81:=by
 unfold Zn
 kernel_rfl
theorem Zne {c:Option Nat} {N j s:Nat} {o:Oper} {uses:Zbj} {x z:Operand} {v:Zb} {y0 y:List Zi} {v0:Zb} {t:Nat} (hT:Ty Tryz.prog t Zz.sl) (hop:o.op=.store t x z) (hd:o.dst=none) (hs:Opd uses (.tmp s) (Zcb c Ze j v)) (hx:Opd uses x (Zi6 Ze j v0 7 Zz.sl y0)) (hz:Opd uses z (Zz.sl.pd y)):OB Tryz.prog N o uses [(s,Zcb c Ze j { v with List:=y })] [j + 1] :=
 Zl9 hT hop hd hs hx hz fun g cs ys hk hy=>by
  have hc:cs.length=8:=hk.1
  have hl:ys.length=1:=Zz.sl.len hy
  exact ⟨by omega,(Zdf (by omega)).trans hc,(Qc.2 ⟨(by show (Kd.int .i64).K g v.Kind (seg (Z8 cs 7 ys) 0 1);rw [Z7 (by omega) (by omega)];exact hk.2 _ (List.mem_of_getElem? (i:=0) rfl)),(Qc.2 ⟨(by show (Kd.int .i64).K g v.Num (seg (Z8 cs 7 ys) 1 1);rw [Z7 (by omega) (by omega)];exact hk.2 _ (List.mem_of_getElem? (i:=1) rfl)),(Qc.2 ⟨(by show (Kd.int .i64).K g v.Low (seg (Z8 cs 7 ys) 2 1);rw [Z7 (by omega) (by omega)];exact hk.2 _ (List.mem_of_getElem? (i:=2) rfl)),(Qc.2 ⟨(by show (Kd.int .i64).K g v.High (seg (Z8 cs 7 ys) 3 1);rw [Z7 (by omega) (by omega)];exact hk.2 _ (List.mem_of_getElem? (i:=3) rfl)),(Qc.2 ⟨(by show Kd.flt.K g v.Real (seg (Z8 cs 7 ys) 4 1);rw [Z7 (by omega) (by omega)];exact hk.2 _ (List.mem_of_getElem? (i:=4) rfl)),(Qc.2 ⟨(by show (Kd.int .i64).K g v.Cap (seg (Z8 cs 7 ys) 5 1);rw [Z7 (by omega) (by omega)];exact hk.2 _ (List.mem_of_getElem? (i:=5) rfl)),(Qc.2 ⟨(by show Kd.str.K g v.Text (seg (Z8 cs 7 ys) 6 1);rw [Z7 (by omega) (by omega)];exact hk.2 _ (List.mem_of_getElem? (i:=6) rfl)),(Qc.2 ⟨(by show Zz.sl.K g y (seg (Z8 cs 7 ys) 7 1);rw [Zdk (by omega) hl];exact hy),(fun _ h=>by cases h)⟩)⟩)⟩)⟩)⟩)⟩)⟩)⟩)⟩
theorem Zbb:Ty Tryz.prog 38 Ze:=⟨by kernel_rfl,by kernel_rfl⟩
theorem Zpi:TE Tryz.prog 23 40 Zy 152:=TE.of Tryz.underlying23 (by kernel_rfl) (by decide) (by decide)
structure Zme where
 Acts:SlV
def Zy9:List (Kd.FK Zme):=[⟨_,Kd.raw,0,fun x:Zme=>x.Acts⟩]
def Zgs:Kd Zme:=Kd.struct 1 Zy9 (by rfl)
def Zg3 (x:Zbk) (s:SlV):Zme:=⟨s⟩
theorem Zy2 {x:Zbk} {g:G} {cs ys:List Value} {s0 s1:SlV} (hk:Zgs.K g (Zg3 x s0) cs) (hy:Kd.raw.K g s1 ys):0 + ys.length ≤ cs.length ∧ Zgs.K g (Zg3 x s1) (Z8 cs 0 ys):=by
 have hc:cs.length=1:=hk.1
 have hl:ys.length=1:=Kd.raw.len hy
 exact ⟨by omega,(Zdf (by omega)).trans hc,(Qc.2 ⟨(by show Kd.raw.K g s1 (seg (Z8 cs 0 ys) 0 1);rw [Zdk (by omega) hl];exact hy),(fun _ h=>by cases h)⟩)⟩
theorem Zva:Fld Tryz.prog 25 0 Zgs Kd.raw (fun x:Zme=>x.Acts):=Fld.of ⟨_,Kd.raw,0,fun x:Zme=>x.Acts⟩ (List.mem_of_getElem? (i:=0) rfl) 0 rfl (by kernel_rfl) (by decide)
theorem Zwd:Ty Tryz.prog 23 Kd.raw:=⟨by kernel_rfl,by kernel_rfl⟩
theorem Zol:Ty Tryz.prog 25 Zb5:=⟨by kernel_rfl,by kernel_rfl⟩
theorem Zkk:Ty Tryz.prog 23 Zy.sl:=⟨by kernel_rfl,by kernel_rfl⟩
theorem Znr:(Tryz.prog.info? 40).map (·.size)=some Zy.sz:=by kernel_rfl
theorem Zh6:Fld Tryz.prog 25 0 Zb5 Zy.sl (fun x:Zbk=>x.Acts):=Fld.of ⟨_,Zy.sl,0,fun x:Zbk=>x.Acts⟩ (List.mem_of_getElem? (i:=0) rfl) 0 rfl (by kernel_rfl) (by decide)
theorem Zll:Fld Tryz.prog 40 5 Zy Ze (fun x:Zm=>x.Make):=Fld.of ⟨_,Ze,5,fun x:Zm=>x.Make⟩ (List.mem_of_getElem? (i:=5) rfl) 5 rfl (by kernel_rfl) (by decide)
theorem Zbd9:Zn Tryz.prog 56:=by
 unfold Zn
 kernel_rfl
theorem Zoq:Zn Tryz.prog 53:=by
 unfold Zn
 kernel_rfl
theorem Zz6:Z3x Zb5 Zgs Zg3:=fun g x cs h=>by
 obtain ⟨A,c,e,_⟩:=h.2 _ (List.mem_of_getElem? (i:=0) rfl)
 exact ⟨(A,x.Acts.length,c),h.1,(Qc.2 ⟨e,(fun _ h=>by cases h)⟩)⟩
theorem Z0i:Z4t Zb5 Zgs Zg3 (fun x:Zbk=>x.Acts) Zy:=fun g x s cs h hr=>⟨h.1,(Qc.2 ⟨(Z0u (h.2 _ (List.mem_of_getElem? (i:=0) rfl)) hr),(fun _ h=>by cases h)⟩)⟩
theorem Zbbo:Ty Tryz.prog 25 Zgs:=⟨by kernel_rfl,by kernel_rfl⟩
theorem Zy4 (u:Zm):∀ (g:G) (cs ys:List Value),Zy.K g u cs → Ze.K g u.Make ys → 0 + 5 + ys.length ≤ cs.length → Zy.K g u (Z8 cs (0 + 5) ys):=fun g cs ys hk hy _=>by
 have hc:cs.length=14:=hk.1
 have hl:ys.length=8:=Ze.len hy
 exact ⟨(Zdf (by omega)).trans hc,(Qc.2 ⟨(by show (Kd.int .i64).K g u.Kind (seg (Z8 cs (0 + 5) ys) 0 1);rw [Nat.zero_add,Z7 (by omega) (by omega)];exact hk.2 _ (List.mem_of_getElem? (i:=0) rfl)),(Qc.2 ⟨(by show Kd.str.K g u.Key (seg (Z8 cs (0 + 5) ys) 1 1);rw [Nat.zero_add,Z7 (by omega) (by omega)];exact hk.2 _ (List.mem_of_getElem? (i:=1) rfl)),(Qc.2 ⟨(by show (Kd.int .i64).K g u.N (seg (Z8 cs (0 + 5) ys) 2 1);rw [Nat.zero_add,Z7 (by omega) (by omega)];exact hk.2 _ (List.mem_of_getElem? (i:=2) rfl)),(Qc.2 ⟨(by show Kd.flt.K g u.X (seg (Z8 cs (0 + 5) ys) 3 1);rw [Nat.zero_add,Z7 (by omega) (by omega)];exact hk.2 _ (List.mem_of_getElem? (i:=3) rfl)),(Qc.2 ⟨(by show Kd.str.K g u.S (seg (Z8 cs (0 + 5) ys) 4 1);rw [Nat.zero_add,Z7 (by omega) (by omega)];exact hk.2 _ (List.mem_of_getElem? (i:=4) rfl)),(Qc.2 ⟨(by show Ze.K g u.Make (seg (Z8 cs (0 + 5) ys) 5 8);rw [Nat.zero_add,Zdk (by omega) hl];exact hy),(Qc.2 ⟨(by show Kd.bool.K g u.Must (seg (Z8 cs (0 + 5) ys) 13 1);rw [Nat.zero_add,Z7 (by omega) (by omega)];exact hk.2 _ (List.mem_of_getElem? (i:=6) rfl)),(fun _ h=>by cases h)⟩)⟩)⟩)⟩)⟩)⟩)⟩)⟩
theorem Zr0:TE Tryz.prog 26 9 Kd.str 16:=TE.of Tryz.underlying26 (by kernel_rfl) (by decide) (by decide)
theorem Z7w {N d:Nat} {o:Oper} {uses:Zbj} {x0:Operand} {v0:Bool} (hop:o.op=.build 135 #[(0,x0)]) (hd:o.dst=some d) (h0:Opd uses x0 (Kd.bool.pd v0)):OB Tryz.prog N o uses [(d,Zdg.pd { text:=v0,num:=false,bounds:=false,real:=false,list:=false })] []:=by
 refine Zda hop hd fun a g hh=>?_
 obtain ⟨c0,k0,e0⟩:=h0 a g hh
 obtain rfl:=k0
 refine ⟨.agg #[.bool v0,.bool false,.bool false,.bool false,.bool false],?_,[.bool v0,.bool false,.bool false,.bool false,.bool false],⟨rfl,(Qc.2 ⟨rfl,(Qc.2 ⟨(rfl),(Qc.2 ⟨(rfl),(Qc.2 ⟨(rfl),(Qc.2 ⟨(rfl),(fun _ h=>by cases h)⟩)⟩)⟩)⟩)⟩)⟩,rfl⟩
 simp only [List.map_toArray,List.map_cons,List.map_nil,e0]
 exact Zcu Tryz.underlying135 (zero:=.agg #[.bool false,.bool false,.bool false,.bool false,.bool false]) (by kernel_rfl) (places:=[(0,1),(1,1),(2,1),(3,1),(4,1)]) (by kernel_rfl) (by kernel_rfl) g.w
theorem Zj6:Ty Tryz.prog 135 Zdg:=⟨by kernel_rfl,by kernel_rfl⟩
theorem Z67 {N d:Nat} {o:Oper} {uses:Zbj} {x1:Operand} {v1:Bool} (hop:o.op=.build 135 #[(1,x1)]) (hd:o.dst=some d) (h1:Opd uses x1 (Kd.bool.pd v1)):OB Tryz.prog N o uses [(d,Zdg.pd { text:=false,num:=v1,bounds:=false,real:=false,list:=false })] []:=by
 refine Zda hop hd fun a g hh=>?_
 obtain ⟨c1,k1,e1⟩:=h1 a g hh
 obtain rfl:=k1
 refine ⟨.agg #[.bool false,.bool v1,.bool false,.bool false,.bool false],?_,[.bool false,.bool v1,.bool false,.bool false,.bool false],⟨rfl,(Qc.2 ⟨(rfl),(Qc.2 ⟨rfl,(Qc.2 ⟨(rfl),(Qc.2 ⟨(rfl),(Qc.2 ⟨(rfl),(fun _ h=>by cases h)⟩)⟩)⟩)⟩)⟩)⟩,rfl⟩
 simp only [List.map_toArray,List.map_cons,List.map_nil,e1]
 exact Zcu Tryz.underlying135 (zero:=.agg #[.bool false,.bool false,.bool false,.bool false,.bool false]) (by kernel_rfl) (places:=[(0,1),(1,1),(2,1),(3,1),(4,1)]) (by kernel_rfl) (by kernel_rfl) g.w
theorem Z3y {N d:Nat} {o:Oper} {uses:Zbj} {x1:Operand} {x2:Operand} {v1:Bool} {v2:Bool} (hop:o.op=.build 135 #[(1,x1),(2,x2)]) (hd:o.dst=some d) (h1:Opd uses x1 (Kd.bool.pd v1)) (h2:Opd uses x2 (Kd.bool.pd v2)):OB Tryz.prog N o uses [(d,Zdg.pd { text:=false,num:=v1,bounds:=v2,real:=false,list:=false })] []:=by
 refine Zda hop hd fun a g hh=>?_
 obtain ⟨c1,k1,e1⟩:=h1 a g hh
 obtain rfl:=k1
 obtain ⟨c2,k2,e2⟩:=h2 a g hh
 obtain rfl:=k2
 refine ⟨.agg #[.bool false,.bool v1,.bool v2,.bool false,.bool false],?_,[.bool false,.bool v1,.bool v2,.bool false,.bool false],⟨rfl,(Qc.2 ⟨(rfl),(Qc.2 ⟨rfl,(Qc.2 ⟨rfl,(Qc.2 ⟨(rfl),(Qc.2 ⟨(rfl),(fun _ h=>by cases h)⟩)⟩)⟩)⟩)⟩)⟩,rfl⟩
 simp only [List.map_toArray,List.map_cons,List.map_nil,e1,e2]
 exact Zcu Tryz.underlying135 (zero:=.agg #[.bool false,.bool false,.bool false,.bool false,.bool false]) (by kernel_rfl) (places:=[(0,1),(1,1),(2,1),(3,1),(4,1)]) (by kernel_rfl) (by kernel_rfl) g.w
theorem Z7l {N d:Nat} {o:Oper} {uses:Zbj} {x3:Operand} {v3:Bool} (hop:o.op=.build 135 #[(3,x3)]) (hd:o.dst=some d) (h3:Opd uses x3 (Kd.bool.pd v3)):OB Tryz.prog N o uses [(d,Zdg.pd { text:=false,num:=false,bounds:=false,real:=v3,list:=false })] []:=by
 refine Zda hop hd fun a g hh=>?_
 obtain ⟨c3,k3,e3⟩:=h3 a g hh
 obtain rfl:=k3
 refine ⟨.agg #[.bool false,.bool false,.bool false,.bool v3,.bool false],?_,[.bool false,.bool false,.bool false,.bool v3,.bool false],⟨rfl,(Qc.2 ⟨(rfl),(Qc.2 ⟨(rfl),(Qc.2 ⟨(rfl),(Qc.2 ⟨rfl,(Qc.2 ⟨(rfl),(fun _ h=>by cases h)⟩)⟩)⟩)⟩)⟩)⟩,rfl⟩
 simp only [List.map_toArray,List.map_cons,List.map_nil,e3]
 exact Zcu Tryz.underlying135 (zero:=.agg #[.bool false,.bool false,.bool false,.bool false,.bool false]) (by kernel_rfl) (places:=[(0,1),(1,1),(2,1),(3,1),(4,1)]) (by kernel_rfl) (by kernel_rfl) g.w
theorem Z7y {N d:Nat} {o:Oper} {uses:Zbj} {x4:Operand} {v4:Bool} (hop:o.op=.build 135 #[(4,x4)]) (hd:o.dst=some d) (h4:Opd uses x4 (Kd.bool.pd v4)):OB Tryz.prog N o uses [(d,Zdg.pd { text:=false,num:=false,bounds:=false,real:=false,list:=v4 })] []:=by
 refine Zda hop hd fun a g hh=>?_
 obtain ⟨c4,k4,e4⟩:=h4 a g hh
 obtain rfl:=k4
 refine ⟨.agg #[.bool false,.bool false,.bool false,.bool false,.bool v4],?_,[.bool false,.bool false,.bool false,.bool false,.bool v4],⟨rfl,(Qc.2 ⟨(rfl),(Qc.2 ⟨(rfl),(Qc.2 ⟨(rfl),(Qc.2 ⟨(rfl),(Qc.2 ⟨rfl,(fun _ h=>by cases h)⟩)⟩)⟩)⟩)⟩)⟩,rfl⟩
 simp only [List.map_toArray,List.map_cons,List.map_nil,e4]
 exact Zcu Tryz.underlying135 (zero:=.agg #[.bool false,.bool false,.bool false,.bool false,.bool false]) (by kernel_rfl) (places:=[(0,1),(1,1),(2,1),(3,1),(4,1)]) (by kernel_rfl) (by kernel_rfl) g.w
theorem Zbah {N d:Nat} {o:Oper} {uses:Zbj}   (hop:o.op=.build 135 #[]) (hd:o.dst=some d) :OB Tryz.prog N o uses [(d,Zdg.pd { text:=false,num:=false,bounds:=false,real:=false,list:=false })] []:=by
 refine Zda hop hd fun a g hh=>?_
 refine ⟨.agg #[.bool false,.bool false,.bool false,.bool false,.bool false],?_,[.bool false,.bool false,.bool false,.bool false,.bool false],⟨rfl,(Qc.2 ⟨(rfl),(Qc.2 ⟨(rfl),(Qc.2 ⟨(rfl),(Qc.2 ⟨(rfl),(Qc.2 ⟨(rfl),(fun _ h=>by cases h)⟩)⟩)⟩)⟩)⟩)⟩,rfl⟩
 simp only [List.map_toArray,List.map_cons,List.map_nil,List.map_nil]
 exact Zcu Tryz.underlying135 (zero:=.agg #[.bool false,.bool false,.bool false,.bool false,.bool false]) (by kernel_rfl) (places:=[(0,1),(1,1),(2,1),(3,1),(4,1)]) (by kernel_rfl) (by kernel_rfl) g.w
theorem Z1s:Ext Tryz.prog 134 Extern.MathFloatBits.float64frombits:=⟨_,Tryz.func134,rfl,rfl,by kernel_rfl,by kernel_rfl⟩
theorem Zbb6:Zn Tryz.prog 132:=by
 unfold Zn
 kernel_rfl
theorem Zoy:Zn Tryz.prog 100:=by
 unfold Zn
 kernel_rfl
theorem Zww:Ext Tryz.prog 97 Extern.MathFloatBits.float64bits:=⟨_,Tryz.func97,rfl,rfl,by kernel_rfl,by kernel_rfl⟩
theorem Zzj:Zn Tryz.prog 89:=by
 unfold Zn
 kernel_rfl
theorem Z7x:Fld Tryz.prog 135 0 Zdg Kd.bool (fun x:Zcd=>x.text):=Fld.of ⟨_,Kd.bool,0,fun x:Zcd=>x.text⟩ (List.mem_of_getElem? (i:=0) rfl) 0 rfl (by kernel_rfl) (by decide)
theorem ty_4:Ty Tryz.prog 4 Kd.bool:=⟨by kernel_rfl,by kernel_rfl⟩
theorem Zjh:Fld Tryz.prog 38 6 Ze Kd.str (fun x:Zb=>x.Text):=Fld.of ⟨_,Kd.str,6,fun x:Zb=>x.Text⟩ (List.mem_of_getElem? (i:=6) rfl) 6 rfl (by kernel_rfl) (by decide)
theorem ty_9:Ty Tryz.prog 9 Kd.str:=⟨by kernel_rfl,by kernel_rfl⟩
theorem Z7m:Fld Tryz.prog 135 1 Zdg Kd.bool (fun x:Zcd=>x.num):=Fld.of ⟨_,Kd.bool,1,fun x:Zcd=>x.num⟩ (List.mem_of_getElem? (i:=1) rfl) 1 rfl (by kernel_rfl) (by decide)
theorem Zc2:Fld Tryz.prog 38 1 Ze (Kd.int .i64) (fun x:Zb=>x.Num):=Fld.of ⟨_,(Kd.int .i64),1,fun x:Zb=>x.Num⟩ (List.mem_of_getElem? (i:=1) rfl) 1 rfl (by kernel_rfl) (by decide)
theorem ty_2:Ty Tryz.prog 2 (Kd.int .i64):=⟨by kernel_rfl,by kernel_rfl⟩
theorem Z0f:Fld Tryz.prog 135 2 Zdg Kd.bool (fun x:Zcd=>x.bounds):=Fld.of ⟨_,Kd.bool,2,fun x:Zcd=>x.bounds⟩ (List.mem_of_getElem? (i:=2) rfl) 2 rfl (by kernel_rfl) (by decide)
theorem Zjv:Fld Tryz.prog 38 2 Ze (Kd.int .i64) (fun x:Zb=>x.Low):=Fld.of ⟨_,(Kd.int .i64),2,fun x:Zb=>x.Low⟩ (List.mem_of_getElem? (i:=2) rfl) 2 rfl (by kernel_rfl) (by decide)
theorem Zjw:Fld Tryz.prog 38 3 Ze (Kd.int .i64) (fun x:Zb=>x.High):=Fld.of ⟨_,(Kd.int .i64),3,fun x:Zb=>x.High⟩ (List.mem_of_getElem? (i:=3) rfl) 3 rfl (by kernel_rfl) (by decide)
theorem Z61:Fld Tryz.prog 135 3 Zdg Kd.bool (fun x:Zcd=>x.real):=Fld.of ⟨_,Kd.bool,3,fun x:Zcd=>x.real⟩ (List.mem_of_getElem? (i:=3) rfl) 3 rfl (by kernel_rfl) (by decide)
theorem Zgi:Fld Tryz.prog 38 4 Ze Kd.flt (fun x:Zb=>x.Real):=Fld.of ⟨_,Kd.flt,4,fun x:Zb=>x.Real⟩ (List.mem_of_getElem? (i:=4) rfl) 4 rfl (by kernel_rfl) (by decide)
theorem Zc0:Ty Tryz.prog 35 Kd.flt:=⟨by kernel_rfl,by kernel_rfl⟩
theorem Ztx:Zn Tryz.prog 62:=by
 unfold Zn
 kernel_rfl
theorem Zz2:Fld Tryz.prog 135 4 Zdg Kd.bool (fun x:Zcd=>x.list):=Fld.of ⟨_,Kd.bool,4,fun x:Zcd=>x.list⟩ (List.mem_of_getElem? (i:=4) rfl) 4 rfl (by kernel_rfl) (by decide)
theorem Zg8:Fld Tryz.prog 38 5 Ze (Kd.int .i64) (fun x:Zb=>x.Cap):=Fld.of ⟨_,(Kd.int .i64),5,fun x:Zb=>x.Cap⟩ (List.mem_of_getElem? (i:=5) rfl) 5 rfl (by kernel_rfl) (by decide)
theorem ty_3:Ty Tryz.prog 3 (Kd.int .i64):=⟨by kernel_rfl,by kernel_rfl⟩
theorem Zfy:Fld Tryz.prog 116 0 Zz Kd.flt (fun x:Zi=>x.Score):=Fld.of ⟨_,Kd.flt,0,fun x:Zi=>x.Score⟩ (List.mem_of_getElem? (i:=0) rfl) 0 rfl (by kernel_rfl) (by decide)
theorem Z1a:Zn Tryz.prog 133:=by
 unfold Zn
 kernel_rfl
theorem Zd7:Fld Tryz.prog 116 1 Zz Kd.str (fun x:Zi=>x.Name):=Fld.of ⟨_,Kd.str,1,fun x:Zi=>x.Name⟩ (List.mem_of_getElem? (i:=1) rfl) 1 rfl (by kernel_rfl) (by decide)
theorem Zfb:(Tryz.prog.info? 116).map (·.size)=some Zz.sz:=by kernel_rfl
theorem Zed:Ty Tryz.prog 116 Zz:=⟨by kernel_rfl,by kernel_rfl⟩
theorem Z4i:Zn Tryz.prog 77:=by
 unfold Zn
 kernel_rfl
theorem Zz5:Zn Tryz.prog 101:=by
 unfold Zn
 kernel_rfl
theorem Zgb:Fld Tryz.prog 38 0 Ze (Kd.int .i64) (fun x:Zb=>x.Kind):=Fld.of ⟨_,(Kd.int .i64),0,fun x:Zb=>x.Kind⟩ (List.mem_of_getElem? (i:=0) rfl) 0 rfl (by kernel_rfl) (by decide)
theorem Zbds:Zn Tryz.prog 75:=by
 unfold Zn
 kernel_rfl
theorem Zbcz:Zn Tryz.prog 76:=by
 unfold Zn
 kernel_rfl
theorem Zbcx:Zn Tryz.prog 78:=by
 unfold Zn
 kernel_rfl
theorem Z9c {N d:Nat} {o:Oper} {uses:Zbj}   (hop:o.op=.build 145 #[]) (hd:o.dst=some d) :OB Tryz.prog N o uses [(d,Ze7.pd { word:=ByteArray.empty,on:=(0:Int),has:=ByteArray.empty })] []:=by
 refine Zda hop hd fun a g hh=>?_
 refine ⟨.agg #[.string ByteArray.empty,.int .i64 0,.string ByteArray.empty],?_,[.string ByteArray.empty,.int .i64 0,.string ByteArray.empty],⟨rfl,(Qc.2 ⟨(rfl),(Qc.2 ⟨(rfl),(Qc.2 ⟨(rfl),(fun _ h=>by cases h)⟩)⟩)⟩)⟩,rfl⟩
 simp only [List.map_toArray,List.map_cons,List.map_nil,List.map_nil]
 exact Zcu Tryz.underlying145 (zero:=.agg #[.string ByteArray.empty,.int .i64 0,.string ByteArray.empty]) (by kernel_rfl) (places:=[(0,1),(1,1),(2,1)]) (by kernel_rfl) (by kernel_rfl) g.w
theorem Zle:Ty Tryz.prog 145 Ze7:=⟨by kernel_rfl,by kernel_rfl⟩
theorem Zba5:(Tryz.prog.info? 145).map (·.size)=some Ze7.sz:=by kernel_rfl
theorem Zbd5:Zn Tryz.prog 64:=by
 unfold Zn
 kernel_rfl
theorem Zbdj:Zn Tryz.prog 63:=by
 unfold Zn
 kernel_rfl
theorem Z1m:Fld Tryz.prog 145 2 Ze7 Kd.str (fun x:Zdo=>x.has):=Fld.of ⟨_,Kd.str,2,fun x:Zdo=>x.has⟩ (List.mem_of_getElem? (i:=2) rfl) 2 rfl (by kernel_rfl) (by decide)
theorem Zvv:Zn Tryz.prog 105:=by
 unfold Zn
 kernel_rfl
theorem Zd4:Fld Tryz.prog 40 2 Zy (Kd.int .i64) (fun x:Zm=>x.N):=Fld.of ⟨_,(Kd.int .i64),2,fun x:Zm=>x.N⟩ (List.mem_of_getElem? (i:=2) rfl) 2 rfl (by kernel_rfl) (by decide)
theorem Ziu:Fld Tryz.prog 40 3 Zy Kd.flt (fun x:Zm=>x.X):=Fld.of ⟨_,Kd.flt,3,fun x:Zm=>x.X⟩ (List.mem_of_getElem? (i:=3) rfl) 3 rfl (by kernel_rfl) (by decide)
theorem Zfs:Fld Tryz.prog 40 4 Zy Kd.str (fun x:Zm=>x.S):=Fld.of ⟨_,Kd.str,4,fun x:Zm=>x.S⟩ (List.mem_of_getElem? (i:=4) rfl) 4 rfl (by kernel_rfl) (by decide)
theorem Zno {N d:Nat} {o:Oper} {uses:Zbj}   (hop:o.op=.build 38 #[]) (hd:o.dst=some d) :OB Tryz.prog N o uses [(d,Ze.pd { Kind:=(0:Int),Num:=(0:Int),Low:=(0:Int),High:=(0:Int),Real:=(0:Nat),Cap:=(0:Int),Text:=ByteArray.empty,List:=([]:List Zi) })] []:=by
 refine Zda hop hd fun a g hh=>?_
 refine ⟨.agg #[.int .i64 0,.int .i64 0,.int .i64 0,.int .i64 0,.float .f64 0,.int .i64 0,.string ByteArray.empty,.slice none 0 0],?_,[.int .i64 0,.int .i64 0,.int .i64 0,.int .i64 0,.float .f64 0,.int .i64 0,.string ByteArray.empty,.slice none 0 0],⟨rfl,(Qc.2 ⟨(rfl),(Qc.2 ⟨(rfl),(Qc.2 ⟨(rfl),(Qc.2 ⟨(rfl),(Qc.2 ⟨(rfl),(Qc.2 ⟨(rfl),(Qc.2 ⟨(rfl),(Qc.2 ⟨(⟨none,0,rfl,Nat.le_refl _,Nat.zero_le _,.inl rfl⟩),(fun _ h=>by cases h)⟩)⟩)⟩)⟩)⟩)⟩)⟩)⟩)⟩,rfl⟩
 simp only [List.map_toArray,List.map_cons,List.map_nil,List.map_nil]
 exact Zcu Tryz.underlying38 (zero:=.agg #[.int .i64 0,.int .i64 0,.int .i64 0,.int .i64 0,.float .f64 0,.int .i64 0,.string ByteArray.empty,.slice none 0 0]) (by kernel_rfl) (places:=[(0,1),(1,1),(2,1),(3,1),(4,1),(5,1),(6,1),(7,1)]) (by kernel_rfl) (by kernel_rfl) g.w
theorem Z8b:Zn Tryz.prog 42:=by
 unfold Zn
 kernel_rfl
theorem Z1o:Fld Tryz.prog 145 1 Ze7 (Kd.int .i64) (fun x:Zdo=>x.on):=Fld.of ⟨_,(Kd.int .i64),1,fun x:Zdo=>x.on⟩ (List.mem_of_getElem? (i:=1) rfl) 1 rfl (by kernel_rfl) (by decide)
theorem Zde:Fld Tryz.prog 40 0 Zy (Kd.int .i64) (fun x:Zm=>x.Kind):=Fld.of ⟨_,(Kd.int .i64),0,fun x:Zm=>x.Kind⟩ (List.mem_of_getElem? (i:=0) rfl) 0 rfl (by kernel_rfl) (by decide)
theorem Z8y:Zn Tryz.prog 85:=by
 unfold Zn
 kernel_rfl
theorem Z7i:Fld Tryz.prog 145 0 Ze7 Kd.str (fun x:Zdo=>x.word):=Fld.of ⟨_,Kd.str,0,fun x:Zdo=>x.word⟩ (List.mem_of_getElem? (i:=0) rfl) 0 rfl (by kernel_rfl) (by decide)
theorem Zhj:Fld Tryz.prog 40 1 Zy Kd.str (fun x:Zm=>x.Key):=Fld.of ⟨_,Kd.str,1,fun x:Zm=>x.Key⟩ (List.mem_of_getElem? (i:=1) rfl) 1 rfl (by kernel_rfl) (by decide)
theorem Zhb:Ty Tryz.prog 40 Zy:=⟨by kernel_rfl,by kernel_rfl⟩
theorem Zbd0:Zn Tryz.prog 86:=by
 unfold Zn
 kernel_rfl
theorem Zbcq:Zn Tryz.prog 87:=by
 unfold Zn
 kernel_rfl
theorem Z4d:Zn Tryz.prog 51:=by
 unfold Zn
 kernel_rfl
theorem Z8w:Zn Tryz.prog 57:=by
 unfold Zn
 kernel_rfl
theorem Z8x:Zn Tryz.prog 34:=by
 unfold Zn
 kernel_rfl
theorem Zbc6:Zn Tryz.prog 35:=by
 unfold Zn
 kernel_rfl
theorem Zbu:Ty Tryz.prog 30 Zx:=⟨by kernel_rfl,by kernel_rfl⟩
structure Zhg where
 Code:Int
 At:Int
 Answers:SlV
def Zwt:List (Kd.FK Zhg):=[⟨_,(Kd.int .i64),0,fun x:Zhg=>x.Code⟩,
 ⟨_,(Kd.int .i64),1,fun x:Zhg=>x.At⟩,
 ⟨_,Kd.raw,2,fun x:Zhg=>x.Answers⟩]
def Zb4:Kd Zhg:=Kd.struct 3 Zwt (by rfl)
def Zb8 (x:Zw) (s:SlV):Zhg:=⟨x.Code,x.At,s⟩
theorem Zv2:∀ g,Zb4.K g (Zb8 ((default:Zw)) (none,0,0)) [.int .i64 0,.int .i64 0,.slice none 0 0]:=fun g=>⟨rfl,(Qc.2 ⟨(rfl),(Qc.2 ⟨(rfl),(Qc.2 ⟨rfl,(fun _ h=>by cases h)⟩)⟩)⟩)⟩
theorem Zwk {x:Zw} {e j:Nat}:∀ (g:G) (s:SlV) (cs:List Value),Zb4.K g (Zb8 x s) cs → (hpL (pRow Zj e j x.Answers)).p g s → Zbp.K g x cs:=fun g s cs h hr=>⟨h.1,(Qc.2 ⟨(h.2 _ (List.mem_of_getElem? (i:=0) rfl)),(Qc.2 ⟨(h.2 _ (List.mem_of_getElem? (i:=1) rfl)),(Qc.2 ⟨(Z0u (h.2 _ (List.mem_of_getElem? (i:=2) rfl)) hr.1),(fun _ h=>by cases h)⟩)⟩)⟩)⟩
theorem Zwm {x:Zw} {g:G} {cs ys:List Value} {s0 s1:SlV} (hk:Zb4.K g (Zb8 x s0) cs) (hy:Kd.raw.K g s1 ys):2 + ys.length ≤ cs.length ∧ Zb4.K g (Zb8 x s1) (Z8 cs 2 ys):=by
 have hc:cs.length=3:=hk.1
 have hl:ys.length=1:=Kd.raw.len hy
 exact ⟨by omega,(Zdf (by omega)).trans hc,(Qc.2 ⟨(by show (Kd.int .i64).K g x.Code (seg (Z8 cs 2 ys) 0 1);rw [Z7 (by omega) (by omega)];exact hk.2 _ (List.mem_of_getElem? (i:=0) rfl)),(Qc.2 ⟨(by show (Kd.int .i64).K g x.At (seg (Z8 cs 2 ys) 1 1);rw [Z7 (by omega) (by omega)];exact hk.2 _ (List.mem_of_getElem? (i:=1) rfl)),(Qc.2 ⟨(by show Kd.raw.K g s1 (seg (Z8 cs 2 ys) 2 1);rw [Zdk (by omega) hl];exact hy),(fun _ h=>by cases h)⟩)⟩)⟩)⟩
theorem Zvi:Fld Tryz.prog 49 2 Zb4 Kd.raw (fun x:Zhg=>x.Answers):=Fld.of ⟨_,Kd.raw,2,fun x:Zhg=>x.Answers⟩ (List.mem_of_getElem? (i:=2) rfl) 2 rfl (by kernel_rfl) (by decide)
theorem Zp2:Ty Tryz.prog 47 Kd.raw:=⟨by kernel_rfl,by kernel_rfl⟩
structure Zj9 where
 d:Zbk
 split:List ByteArray
 now:Zk
 out:Zhg
 over:Bool
def Zy8:List (Kd.FK Zj9):=[⟨_,Zb5,0,fun x:Zj9=>x.d⟩,
 ⟨_,Kd.str.sl,1,fun x:Zj9=>x.split⟩,
 ⟨_,Zx,2,fun x:Zj9=>x.now⟩,
 ⟨_,Zb4,4,fun x:Zj9=>x.out⟩,
 ⟨_,Kd.bool,7,fun x:Zj9=>x.over⟩]
def Zbo:Kd Zj9:=Kd.struct 8 Zy8 (by rfl)
def Zb7 (x:Z0) (s:SlV):Zj9:=⟨x.d,x.split,x.now,Zb8 x.out s,x.over⟩
abbrev Zdp:Z0 → List Zc:=fun x=>x.out.Answers
abbrev Zcq:ObR Z0:=obR Zbo Zb7 Zdp Zj 68
theorem Z5s:Ty Tryz.prog 49 Zb4:=⟨by kernel_rfl,by kernel_rfl⟩
theorem Z1f {x:Z0} {g:G} {s:SlV} {cs:List Value} (h:Zbo.K g (Zb7 x s) cs):Zy.sl.K g x.d.Acts (seg cs 0 1):=by
 have h1:Zb5.K g x.d (seg cs 0 1):=h.2 _ (List.mem_of_getElem? (i:=0) rfl)
 have h2:Zy.sl.K g x.d.Acts (seg (seg cs 0 1) 0 1):=h1.2 _ (List.mem_of_getElem? (i:=0) rfl)
 rwa [Zlz (by decide)] at h2
theorem kp_1 {x:Z0} {g:G} {s:SlV} {cs:List Value} (h:Zbo.K g (Zb7 x s) cs):Kd.str.sl.K g x.split (seg cs 1 1):=h.2 _ (List.mem_of_getElem? (i:=1) rfl)
theorem kp_2 {x:Z0} {g:G} {s:SlV} {cs:List Value} (h:Zbo.K g (Zb7 x s) cs):Zx.K g x.now (seg cs 2 2):=h.2 _ (List.mem_of_getElem? (i:=2) rfl)
theorem Z6f {x:Z0} {g:G} {s:SlV} {cs:List Value} (h:Zbo.K g (Zb7 x s) cs):(Kd.int .i64).K g x.out.Code (seg cs 4 1):=by
 have h1:Zb4.K g (Zb8 x.out s) (seg cs 4 3):=h.2 _ (List.mem_of_getElem? (i:=3) rfl)
 have h2:(Kd.int .i64).K g x.out.Code (seg (seg cs 4 3) 0 1):=h1.2 _ (List.mem_of_getElem? (i:=0) rfl)
 rwa [Zlz (by decide)] at h2
theorem Zbaz {x:Z0} {g:G} {s:SlV} {cs:List Value} (h:Zbo.K g (Zb7 x s) cs):(Kd.int .i64).K g x.out.At (seg cs 5 1):=by
 have h1:Zb4.K g (Zb8 x.out s) (seg cs 4 3):=h.2 _ (List.mem_of_getElem? (i:=3) rfl)
 have h2:(Kd.int .i64).K g x.out.At (seg (seg cs 4 3) 1 1):=h1.2 _ (List.mem_of_getElem? (i:=1) rfl)
 rwa [Zlz (by decide)] at h2
theorem Z5r {x:Z0} {g:G} {s:SlV} {cs:List Value} (h:Zbo.K g (Zb7 x s) cs):Kd.raw.K g s (seg cs 6 1):=by
 have h1:Zb4.K g (Zb8 x.out s) (seg cs 4 3):=h.2 _ (List.mem_of_getElem? (i:=3) rfl)
 have h2:Kd.raw.K g s (seg (seg cs 4 3) 2 1):=h1.2 _ (List.mem_of_getElem? (i:=2) rfl)
 rwa [Zlz (by decide)] at h2
theorem kp_4 {x:Z0} {g:G} {s:SlV} {cs:List Value} (h:Zbo.K g (Zb7 x s) cs):Kd.bool.K g x.over (seg cs 7 1):=h.2 _ (List.mem_of_getElem? (i:=4) rfl)
theorem Zbce {jl:Nat} {x:Z0} {g:G} {s:SlV} {cs:List Value} (h:Zbo.K g (Zb7 x s) cs) (hr:(hpL (pRow Zj 68 jl (Zdp x))).p g s):Zbp.K g x.out (seg cs 4 3):=Zwk g s _ (h.2 _ (List.mem_of_getElem? (i:=3) rfl)) hr
theorem wp_2 {u:Zk} {ys:List Value} {x:Z0} {g:G} {s:SlV} {cs:List Value} (h:Zbo.K g (Zb7 x s) cs) (hy:Zx.K g u ys):2 + ys.length ≤ cs.length ∧ Zbo.K g (Zb7 { x with now:=u } s) (Z8 cs 2 ys):=by
 have hc:cs.length=8:=h.1
 have hl:ys.length=2:=Zx.len hy
 exact ⟨by omega,(Zdf (by omega)).trans hc,(Qc.2 ⟨(by show Zb5.K g x.d (seg (Z8 cs 2 ys) 0 1);rw [Z7 (by omega) (by omega)];exact h.2 _ (List.mem_of_getElem? (i:=0) rfl)),(Qc.2 ⟨(by show Kd.str.sl.K g x.split (seg (Z8 cs 2 ys) 1 1);rw [Z7 (by omega) (by omega)];exact h.2 _ (List.mem_of_getElem? (i:=1) rfl)),(Qc.2 ⟨(by show Zx.K g u (seg (Z8 cs 2 ys) 2 2);rw [Zdk (by omega) hl];exact hy),(Qc.2 ⟨(by show Zb4.K g (Zb8 x.out s) (seg (Z8 cs 2 ys) 4 3);rw [Z7 (by omega) (by omega)];exact h.2 _ (List.mem_of_getElem? (i:=3) rfl)),(Qc.2 ⟨(by show Kd.bool.K g x.over (seg (Z8 cs 2 ys) 7 1);rw [Z7 (by omega) (by omega)];exact h.2 _ (List.mem_of_getElem? (i:=4) rfl)),(fun _ h=>by cases h)⟩)⟩)⟩)⟩)⟩)⟩
theorem wp_4 {u:Bool} {ys:List Value} {x:Z0} {g:G} {s:SlV} {cs:List Value} (h:Zbo.K g (Zb7 x s) cs) (hy:Kd.bool.K g u ys):7 + ys.length ≤ cs.length ∧ Zbo.K g (Zb7 { x with over:=u } s) (Z8 cs 7 ys):=by
 have hc:cs.length=8:=h.1
 have hl:ys.length=1:=Kd.bool.len hy
 exact ⟨by omega,(Zdf (by omega)).trans hc,(Qc.2 ⟨(by show Zb5.K g x.d (seg (Z8 cs 7 ys) 0 1);rw [Z7 (by omega) (by omega)];exact h.2 _ (List.mem_of_getElem? (i:=0) rfl)),(Qc.2 ⟨(by show Kd.str.sl.K g x.split (seg (Z8 cs 7 ys) 1 1);rw [Z7 (by omega) (by omega)];exact h.2 _ (List.mem_of_getElem? (i:=1) rfl)),(Qc.2 ⟨(by show Zx.K g x.now (seg (Z8 cs 7 ys) 2 2);rw [Z7 (by omega) (by omega)];exact h.2 _ (List.mem_of_getElem? (i:=2) rfl)),(Qc.2 ⟨(by show Zb4.K g (Zb8 x.out s) (seg (Z8 cs 7 ys) 4 3);rw [Z7 (by omega) (by omega)];exact h.2 _ (List.mem_of_getElem? (i:=3) rfl)),(Qc.2 ⟨(by show Kd.bool.K g u (seg (Z8 cs 7 ys) 7 1);rw [Zdk (by omega) hl];exact hy),(fun _ h=>by cases h)⟩)⟩)⟩)⟩)⟩)⟩
theorem Z42 {u:Zw} {ys:List Value} {x:Z0} {g:G} {s:SlV} {cs:List Value} (h:Zbo.K g (Zb7 x s) cs) (hy:Zb4.K g (Zb8 u (none,0,0)) ys):4 + ys.length ≤ cs.length ∧ Zbo.K g (Zb7 { x with out:=u } (none,0,0)) (Z8 cs 4 ys):=by
 have hc:cs.length=8:=h.1
 have hl:ys.length=3:=Zb4.len hy
 exact ⟨by omega,(Zdf (by omega)).trans hc,(Qc.2 ⟨(by show Zb5.K g x.d (seg (Z8 cs 4 ys) 0 1);rw [Z7 (by omega) (by omega)];exact h.2 _ (List.mem_of_getElem? (i:=0) rfl)),(Qc.2 ⟨(by show Kd.str.sl.K g x.split (seg (Z8 cs 4 ys) 1 1);rw [Z7 (by omega) (by omega)];exact h.2 _ (List.mem_of_getElem? (i:=1) rfl)),(Qc.2 ⟨(by show Zx.K g x.now (seg (Z8 cs 4 ys) 2 2);rw [Z7 (by omega) (by omega)];exact h.2 _ (List.mem_of_getElem? (i:=2) rfl)),(Qc.2 ⟨(by show Zb4.K g (Zb8 u (none,0,0)) (seg (Z8 cs 4 ys) 4 3);rw [Zdk (by omega) hl];exact hy),(Qc.2 ⟨(by show Kd.bool.K g x.over (seg (Z8 cs 4 ys) 7 1);rw [Z7 (by omega) (by omega)];exact h.2 _ (List.mem_of_getElem? (i:=4) rfl)),(fun _ h=>by cases h)⟩)⟩)⟩)⟩)⟩)⟩
theorem Zbbm {l:List Zc} {s1:SlV} {ys:List Value} {x:Z0} {g:G} {s:SlV} {cs:List Value} (h:Zbo.K g (Zb7 x s) cs) (hy:Kd.raw.K g s1 ys):6 + ys.length ≤ cs.length ∧ Zbo.K g (Zb7 { x with out:={ x.out with Answers:=l } } s1) (Z8 cs 6 ys):=by
 have hc:cs.length=8:=h.1
 have hl:ys.length=1:=Kd.raw.len hy
 exact ⟨by omega,(Zdf (by omega)).trans hc,(Qc.2 ⟨(by show Zb5.K g x.d (seg (Z8 cs 6 ys) 0 1);rw [Z7 (by omega) (by omega)];exact h.2 _ (List.mem_of_getElem? (i:=0) rfl)),(Qc.2 ⟨(by show Kd.str.sl.K g x.split (seg (Z8 cs 6 ys) 1 1);rw [Z7 (by omega) (by omega)];exact h.2 _ (List.mem_of_getElem? (i:=1) rfl)),(Qc.2 ⟨(by show Zx.K g x.now (seg (Z8 cs 6 ys) 2 2);rw [Z7 (by omega) (by omega)];exact h.2 _ (List.mem_of_getElem? (i:=2) rfl)),(Qc.2 ⟨(show Zb4.K g _ (seg (Z8 cs 6 ys) 4 3) from ⟨by simp only [seg,List.length_take,List.length_drop,Zdf (show 6 + ys.length ≤ cs.length by omega)];omega,(Qc.2 ⟨(by show (Kd.int .i64).K g x.out.Code (seg (seg (Z8 cs 6 ys) 4 3) 0 1);rw [Zlz (by decide),Z7 (by omega) (by omega)];exact Z6f h),(Qc.2 ⟨(by show (Kd.int .i64).K g x.out.At (seg (seg (Z8 cs 6 ys) 4 3) 1 1);rw [Zlz (by decide),Z7 (by omega) (by omega)];exact Zbaz h),(Qc.2 ⟨(by show Kd.raw.K g s1 (seg (seg (Z8 cs 6 ys) 4 3) 2 1);rw [Zlz (by decide),Zdk (by omega) hl];exact hy),(fun _ h=>by cases h)⟩)⟩)⟩)⟩),(Qc.2 ⟨(by show Kd.bool.K g x.over (seg (Z8 cs 6 ys) 7 1);rw [Z7 (by omega) (by omega)];exact h.2 _ (List.mem_of_getElem? (i:=4) rfl)),(fun _ h=>by cases h)⟩)⟩)⟩)⟩)⟩)⟩
theorem Z0k {N d:Nat} {o:Oper} {uses:Zbj} {x0:Operand} {x1:Operand} {x2:Operand} {v0:Zbk} {v1:List ByteArray} {v2:Zk} (hop:o.op=.build 93 #[(0,x0),(1,x1),(2,x2)]) (hd:o.dst=some d) (h0:Opd uses x0 (Zb5.pd v0)) (h1:Opd uses x1 (Kd.str.sl.pd v1)) (h2:Opd uses x2 (Zx.pd v2)):OB Tryz.prog N o uses [(d,Zbo.pd { d:=v0,split:=v1,now:=v2,out:=(Zb8 ((default:Zw)) (none,0,0)),over:=false })] []:=by
 refine Zda hop hd fun a g hh=>?_
 obtain ⟨c0,k0,e0⟩:=h0 a g hh
 obtain ⟨u0_0,rfl⟩:=Z8v (Zb5.len k0)
 obtain ⟨c1,k1,e1⟩:=h1 a g hh
 obtain ⟨A1,n1,rfl,l1⟩:=k1
 obtain ⟨c2,k2,e2⟩:=h2 a g hh
 obtain ⟨u2_0,u2_1,rfl⟩:=Zmn (Zx.len k2)
 refine ⟨.agg #[u0_0,.slice A1 v1.length n1,u2_0,u2_1,.int .i64 0,.int .i64 0,.slice none 0 0,.bool false],?_,[u0_0,.slice A1 v1.length n1,u2_0,u2_1,.int .i64 0,.int .i64 0,.slice none 0 0,.bool false],⟨rfl,(Qc.2 ⟨k0,(Qc.2 ⟨⟨A1,n1,rfl,l1⟩,(Qc.2 ⟨k2,(Qc.2 ⟨(Zv2 _),(Qc.2 ⟨(rfl),(fun _ h=>by cases h)⟩)⟩)⟩)⟩)⟩)⟩,rfl⟩
 simp only [List.map_toArray,List.map_cons,List.map_nil,e0,e1,e2]
 exact Zcu Tryz.underlying93 (zero:=.agg #[.slice none 0 0,.slice none 0 0,.pointer none,.int .i64 0,.int .i64 0,.int .i64 0,.slice none 0 0,.bool false]) (by kernel_rfl) (places:=[(0,1),(1,1),(2,2),(4,3),(7,1)]) (by kernel_rfl) (by kernel_rfl) g.w
theorem Zbdi:Zn Tryz.prog 36:=by
 unfold Zn
 kernel_rfl
theorem Zwe {N d:Nat} {o:Oper} {uses:Zbj} {x0:Operand} {x1:Operand} {v0:Int} {v1:Int} (hop:o.op=.build 49 #[(0,x0),(1,x1)]) (hd:o.dst=some d) (h0:Opd uses x0 ((Kd.int .i64).pd v0)) (h1:Opd uses x1 ((Kd.int .i64).pd v1)):OB Tryz.prog N o uses [(d,Zb4.pd { Code:=v0,At:=v1,Answers:=((none,0,0):SlV) })] []:=by
 refine Zda hop hd fun a g hh=>?_
 obtain ⟨c0,k0,e0⟩:=h0 a g hh
 obtain rfl:=k0
 obtain ⟨c1,k1,e1⟩:=h1 a g hh
 obtain rfl:=k1
 refine ⟨.agg #[.int .i64 v0,.int .i64 v1,.slice none 0 0],?_,[.int .i64 v0,.int .i64 v1,.slice none 0 0],⟨rfl,(Qc.2 ⟨rfl,(Qc.2 ⟨rfl,(Qc.2 ⟨(rfl),(fun _ h=>by cases h)⟩)⟩)⟩)⟩,rfl⟩
 simp only [List.map_toArray,List.map_cons,List.map_nil,e0,e1]
 exact Zcu Tryz.underlying49 (zero:=.agg #[.int .i64 0,.int .i64 0,.slice none 0 0]) (by kernel_rfl) (places:=[(0,1),(1,1),(2,1)]) (by kernel_rfl) (by kernel_rfl) g.w
theorem Zoi:PF Tryz.prog 93 3 4:=by
 unfold PF
 kernel_rfl
theorem Zn9:PF Tryz.prog 93 4 7:=by
 unfold PF
 kernel_rfl
theorem Zqf:TE Tryz.prog 47 68 Zj 104:=TE.of Tryz.underlying47 (by kernel_rfl) (by decide) (by decide)
theorem Zi5:Ty Tryz.prog 49 Zbp:=⟨by kernel_rfl,by kernel_rfl⟩
theorem Zpd:Ty Tryz.prog 47 Zj.sl:=⟨by kernel_rfl,by kernel_rfl⟩
theorem Zub:(Tryz.prog.info? 68).map (·.size)=some Zj.sz:=by kernel_rfl
theorem Zli:Fld Tryz.prog 49 2 Zbp Zj.sl (fun x:Zw=>x.Answers):=Fld.of ⟨_,Zj.sl,2,fun x:Zw=>x.Answers⟩ (List.mem_of_getElem? (i:=2) rfl) 2 rfl (by kernel_rfl) (by decide)
theorem Zpl:Fld Tryz.prog 68 2 Zj Ze (fun x:Zc=>x.Rec):=Fld.of ⟨_,Ze,2,fun x:Zc=>x.Rec⟩ (List.mem_of_getElem? (i:=2) rfl) 2 rfl (by kernel_rfl) (by decide)
theorem Zbdg:Zn Tryz.prog 58:=by
 unfold Zn
 kernel_rfl
theorem Zw3:Z3x Zbp Zb4 Zb8:=fun g x cs h=>by
 obtain ⟨A,c,e,_⟩:=h.2 _ (List.mem_of_getElem? (i:=2) rfl)
 exact ⟨(A,x.Answers.length,c),h.1,(Qc.2 ⟨(h.2 _ (List.mem_of_getElem? (i:=0) rfl)),(Qc.2 ⟨(h.2 _ (List.mem_of_getElem? (i:=1) rfl)),(Qc.2 ⟨e,(fun _ h=>by cases h)⟩)⟩)⟩)⟩
theorem Zxm:Z4t Zbp Zb4 Zb8 (fun x:Zw=>x.Answers) Zj:=fun g x s cs h hr=>⟨h.1,(Qc.2 ⟨(h.2 _ (List.mem_of_getElem? (i:=0) rfl)),(Qc.2 ⟨(h.2 _ (List.mem_of_getElem? (i:=1) rfl)),(Qc.2 ⟨(Z0u (h.2 _ (List.mem_of_getElem? (i:=2) rfl)) hr),(fun _ h=>by cases h)⟩)⟩)⟩)⟩
theorem Zbbe:Ty Tryz.prog 49 Zb4:=⟨by kernel_rfl,by kernel_rfl⟩
theorem Zu7 (u:Zc):∀ (g:G) (cs ys:List Value),Zj.K g u cs → Ze.K g u.Rec ys → 0 + 2 + ys.length ≤ cs.length → Zj.K g u (Z8 cs (0 + 2) ys):=fun g cs ys hk hy _=>by
 have hc:cs.length=10:=hk.1
 have hl:ys.length=8:=Ze.len hy
 exact ⟨(Zdf (by omega)).trans hc,(Qc.2 ⟨(by show (Kd.int .i64).K g u.Code (seg (Z8 cs (0 + 2) ys) 0 1);rw [Nat.zero_add,Z7 (by omega) (by omega)];exact hk.2 _ (List.mem_of_getElem? (i:=0) rfl)),(Qc.2 ⟨(by show (Kd.int .i64).K g u.Num (seg (Z8 cs (0 + 2) ys) 1 1);rw [Nat.zero_add,Z7 (by omega) (by omega)];exact hk.2 _ (List.mem_of_getElem? (i:=1) rfl)),(Qc.2 ⟨(by show Ze.K g u.Rec (seg (Z8 cs (0 + 2) ys) 2 8);rw [Nat.zero_add,Zdk (by omega) hl];exact hy),(fun _ h=>by cases h)⟩)⟩)⟩)⟩
theorem Z5v {N d:Nat} {o:Oper} {uses:Zbj}   (hop:o.op=.build 49 #[]) (hd:o.dst=some d) :OB Tryz.prog N o uses [(d,Zbp.pd { Code:=(0:Int),At:=(0:Int),Answers:=([]:List Zc) })] []:=by
 refine Zda hop hd fun a g hh=>?_
 refine ⟨.agg #[.int .i64 0,.int .i64 0,.slice none 0 0],?_,[.int .i64 0,.int .i64 0,.slice none 0 0],⟨rfl,(Qc.2 ⟨(rfl),(Qc.2 ⟨(rfl),(Qc.2 ⟨(⟨none,0,rfl,Nat.le_refl _,Nat.zero_le _,.inl rfl⟩),(fun _ h=>by cases h)⟩)⟩)⟩)⟩,rfl⟩
 simp only [List.map_toArray,List.map_cons,List.map_nil,List.map_nil]
 exact Zcu Tryz.underlying49 (zero:=.agg #[.int .i64 0,.int .i64 0,.slice none 0 0]) (by kernel_rfl) (places:=[(0,1),(1,1),(2,1)]) (by kernel_rfl) (by kernel_rfl) g.w
theorem Zbdl:Zn Tryz.prog 37:=by
 unfold Zn
 kernel_rfl
theorem Zq5:Fld Tryz.prog 30 0 Zx Zba (fun x:Zk=>x.top):=Fld.of ⟨_,Zba,0,fun x:Zk=>x.top⟩ (List.mem_of_getElem? (i:=0) rfl) 0 rfl (by kernel_rfl) (by decide)
theorem Zdh:Ty Tryz.prog 28 Zba:=⟨by kernel_rfl,by kernel_rfl⟩
theorem Zfp:Fld Tryz.prog 114 0 Zhh Kd.str (fun x:shelf_node=>x.key):=Fld.of ⟨_,Kd.str,0,fun x:shelf_node=>x.key⟩ (List.mem_of_getElem? (i:=0) rfl) 0 rfl (by kernel_rfl) (by decide)
theorem Zer:Fld Tryz.prog 114 2 Zhh Zba (fun x:shelf_node=>x.left):=Fld.of ⟨_,Zba,9,fun x:shelf_node=>x.left⟩ (List.mem_of_getElem? (i:=2) rfl) 9 rfl (by kernel_rfl) (by decide)
theorem Zfq:Fld Tryz.prog 114 3 Zhh Zba (fun x:shelf_node=>x.right):=Fld.of ⟨_,Zba,10,fun x:shelf_node=>x.right⟩ (List.mem_of_getElem? (i:=3) rfl) 10 rfl (by kernel_rfl) (by decide)
theorem Zh9:Fld Tryz.prog 114 1 Zhh Ze (fun x:shelf_node=>x.rec_):=Fld.of ⟨_,Ze,1,fun x:shelf_node=>x.rec_⟩ (List.mem_of_getElem? (i:=1) rfl) 1 rfl (by kernel_rfl) (by decide)
theorem Z7t:Fld Tryz.prog 114 4 Zhh (Kd.int .i64) (fun x:shelf_node=>x.size):=Fld.of ⟨_,(Kd.int .i64),11,fun x:shelf_node=>x.size⟩ (List.mem_of_getElem? (i:=4) rfl) 11 rfl (by kernel_rfl) (by decide)
theorem Zok:Zn Tryz.prog 61:=by
 unfold Zn
 kernel_rfl
theorem Zvh {N d:Nat} {o:Oper} {uses:Zbj} {x0:Operand} {x1:Operand} {x2:Operand} {x3:Operand} {x4:Operand} {v0:ByteArray} {v1:Zb} {v2:shelf_nodeT} {v3:shelf_nodeT} {v4:Int} (hop:o.op=.build 114 #[(0,x0),(1,x1),(2,x2),(3,x3),(4,x4)]) (hd:o.dst=some d) (h0:Opd uses x0 (Kd.str.pd v0)) (h1:Opd uses x1 (Ze.pd v1)) (h2:Opd uses x2 (Zba.pd v2)) (h3:Opd uses x3 (Zba.pd v3)) (h4:Opd uses x4 ((Kd.int .i64).pd v4)):OB Tryz.prog N o uses [(d,Zhh.pd { key:=v0,rec_:=v1,left:=v2,right:=v3,size:=v4 })] []:=by
 refine Zda hop hd fun a g hh=>?_
 obtain ⟨c0,k0,e0⟩:=h0 a g hh
 obtain rfl:=k0
 obtain ⟨c1,k1,e1⟩:=h1 a g hh
 obtain ⟨u1_0,u1_1,u1_2,u1_3,u1_4,u1_5,u1_6,u1_7,rfl⟩:=Z4v (Ze.len k1)
 obtain ⟨c2,k2,e2⟩:=h2 a g hh
 obtain ⟨p2,rfl,l2⟩:=k2
 obtain ⟨q2,rfl,_⟩:=shelf_nodeT.ptr l2
 obtain ⟨c3,k3,e3⟩:=h3 a g hh
 obtain ⟨p3,rfl,l3⟩:=k3
 obtain ⟨q3,rfl,_⟩:=shelf_nodeT.ptr l3
 obtain ⟨c4,k4,e4⟩:=h4 a g hh
 obtain rfl:=k4
 refine ⟨.agg #[.string v0,u1_0,u1_1,u1_2,u1_3,u1_4,u1_5,u1_6,u1_7,.pointer q2,.pointer q3,.int .i64 v4],?_,[.string v0,u1_0,u1_1,u1_2,u1_3,u1_4,u1_5,u1_6,u1_7,.pointer q2,.pointer q3,.int .i64 v4],⟨rfl,(Qc.2 ⟨rfl,(Qc.2 ⟨k1,(Qc.2 ⟨⟨.pointer q2,rfl,l2⟩,(Qc.2 ⟨⟨.pointer q3,rfl,l3⟩,(Qc.2 ⟨rfl,(fun _ h=>by cases h)⟩)⟩)⟩)⟩)⟩)⟩,rfl⟩
 simp only [List.map_toArray,List.map_cons,List.map_nil,e0,e1,e2,e3,e4]
 exact Zcu Tryz.underlying114 (zero:=.agg #[.string ByteArray.empty,.int .i64 0,.int .i64 0,.int .i64 0,.int .i64 0,.float .f64 0,.int .i64 0,.string ByteArray.empty,.slice none 0 0,.pointer none,.pointer none,.int .i64 0]) (by kernel_rfl) (places:=[(0,1),(1,8),(9,1),(10,1),(11,1)]) (by kernel_rfl) (by kernel_rfl) g.w
theorem Zw0:Zn Tryz.prog 102:=by
 unfold Zn
 kernel_rfl
theorem Zmh:Zn Tryz.prog 79:=by
 unfold Zn
 kernel_rfl
theorem Z4h:Zn Tryz.prog 52:=by
 unfold Zn
 kernel_rfl
theorem Zwp:Zn Tryz.prog 80:=by
 unfold Zn
 kernel_rfl
theorem Zt1:Zn Tryz.prog 30:=by
 unfold Zn
 kernel_rfl
theorem Zwo:Zn Tryz.prog 40:=by
 unfold Zn
 kernel_rfl
theorem Zt6:Fld Tryz.prog 30 1 Zx (Kd.int .i64) (fun x:Zk=>x.room):=Fld.of ⟨_,(Kd.int .i64),1,fun x:Zk=>x.room⟩ (List.mem_of_getElem? (i:=1) rfl) 1 rfl (by kernel_rfl) (by decide)
theorem Zyd {N d:Nat} {o:Oper} {uses:Zbj} {x0:Operand} {x1:Operand} {v0:shelf_nodeT} {v1:Int} (hop:o.op=.build 30 #[(0,x0),(1,x1)]) (hd:o.dst=some d) (h0:Opd uses x0 (Zba.pd v0)) (h1:Opd uses x1 ((Kd.int .i64).pd v1)):OB Tryz.prog N o uses [(d,Zx.pd { top:=v0,room:=v1 })] []:=by
 refine Zda hop hd fun a g hh=>?_
 obtain ⟨c0,k0,e0⟩:=h0 a g hh
 obtain ⟨p0,rfl,l0⟩:=k0
 obtain ⟨q0,rfl,_⟩:=shelf_nodeT.ptr l0
 obtain ⟨c1,k1,e1⟩:=h1 a g hh
 obtain rfl:=k1
 refine ⟨.agg #[.pointer q0,.int .i64 v1],?_,[.pointer q0,.int .i64 v1],⟨rfl,(Qc.2 ⟨⟨.pointer q0,rfl,l0⟩,(Qc.2 ⟨rfl,(fun _ h=>by cases h)⟩)⟩)⟩,rfl⟩
 simp only [List.map_toArray,List.map_cons,List.map_nil,e0,e1]
 exact Zcu Tryz.underlying30 (zero:=.agg #[.pointer none,.int .i64 0]) (by kernel_rfl) (places:=[(0,1),(1,1)]) (by kernel_rfl) (by kernel_rfl) g.w
theorem sz_9:(Tryz.prog.info? 9).map (·.size)=some Kd.str.sz:=by kernel_rfl
theorem Zbdc:Zn Tryz.prog 59:=by
 unfold Zn
 kernel_rfl
theorem Zzl:Zn Tryz.prog 60:=by
 unfold Zn
 kernel_rfl
theorem Zbc2:Zn Tryz.prog 88:=by
 unfold Zn
 kernel_rfl
theorem Z9m:PF Tryz.prog 49 0 0:=by
 unfold PF
 kernel_rfl
theorem Zjb:Ty Tryz.prog 46 (Kd.int .i64):=⟨by kernel_rfl,by kernel_rfl⟩
theorem Zxj:PF Tryz.prog 93 0 0:=by
 unfold PF
 kernel_rfl
theorem Zxp:PF Tryz.prog 25 0 0:=by
 unfold PF
 kernel_rfl
theorem Z2m:PF Tryz.prog 93 1 1:=by
 unfold PF
 kernel_rfl
theorem Z74:Ty Tryz.prog 26 Kd.str.sl:=⟨by kernel_rfl,by kernel_rfl⟩
theorem Z8f:Zn Tryz.prog 38:=by
 unfold Zn
 kernel_rfl
theorem Z8q:Zn Tryz.prog 10:=by
 unfold Zn
 kernel_rfl
theorem Ztv:PF Tryz.prog 93 2 2:=by
 unfold PF
 kernel_rfl
theorem Z8p:Zn Tryz.prog 39:=by
 unfold Zn
 kernel_rfl
theorem Zzm:Zn Tryz.prog 29:=by
 unfold Zn
 kernel_rfl
theorem Zw7 {N d:Nat} {o:Oper} {uses:Zbj} {x0:Operand} {v0:List Zm} (hop:o.op=.build 25 #[(0,x0)]) (hd:o.dst=some d) (h0:Opd uses x0 (Zy.sl.pd v0)):OB Tryz.prog N o uses [(d,Zb5.pd { Acts:=v0 })] []:=by
 refine Zda hop hd fun a g hh=>?_
 obtain ⟨c0,k0,e0⟩:=h0 a g hh
 obtain ⟨A0,n0,rfl,l0⟩:=k0
 refine ⟨.agg #[.slice A0 v0.length n0],?_,[.slice A0 v0.length n0],⟨rfl,(Qc.2 ⟨⟨A0,n0,rfl,l0⟩,(fun _ h=>by cases h)⟩)⟩,rfl⟩
 simp only [List.map_toArray,List.map_cons,List.map_nil,e0]
 exact Zcu Tryz.underlying25 (zero:=.agg #[.slice none 0 0]) (by kernel_rfl) (places:=[(0,1)]) (by kernel_rfl) (by kernel_rfl) g.w
theorem Z3w:Zn Tryz.prog 41:=by
 unfold Zn
 kernel_rfl
theorem Ztt {c:Option Nat} {N j s:Nat} {o:Oper} {uses:Zbj} {x z:Operand} {v:Zb} {y0 y:ByteArray} {v0:Zb} {t:Nat} (hT:Ty Tryz.prog t Kd.str) (hop:o.op=.store t x z) (hd:o.dst=none) (hs:Opd uses (.tmp s) (Zcb c Ze j v)) (hx:Opd uses x (Zi6 Ze j v0 6 Kd.str y0)) (hz:Opd uses z (Kd.str.pd y)):OB Tryz.prog N o uses [(s,Zcb c Ze j { v with Text:=y })] [j + 1] :=
 Zl9 hT hop hd hs hx hz fun g cs ys hk hy=>by
  have hc:cs.length=8:=hk.1
  have hl:ys.length=1:=Kd.str.len hy
  exact ⟨by omega,(Zdf (by omega)).trans hc,(Qc.2 ⟨(by show (Kd.int .i64).K g v.Kind (seg (Z8 cs 6 ys) 0 1);rw [Z7 (by omega) (by omega)];exact hk.2 _ (List.mem_of_getElem? (i:=0) rfl)),(Qc.2 ⟨(by show (Kd.int .i64).K g v.Num (seg (Z8 cs 6 ys) 1 1);rw [Z7 (by omega) (by omega)];exact hk.2 _ (List.mem_of_getElem? (i:=1) rfl)),(Qc.2 ⟨(by show (Kd.int .i64).K g v.Low (seg (Z8 cs 6 ys) 2 1);rw [Z7 (by omega) (by omega)];exact hk.2 _ (List.mem_of_getElem? (i:=2) rfl)),(Qc.2 ⟨(by show (Kd.int .i64).K g v.High (seg (Z8 cs 6 ys) 3 1);rw [Z7 (by omega) (by omega)];exact hk.2 _ (List.mem_of_getElem? (i:=3) rfl)),(Qc.2 ⟨(by show Kd.flt.K g v.Real (seg (Z8 cs 6 ys) 4 1);rw [Z7 (by omega) (by omega)];exact hk.2 _ (List.mem_of_getElem? (i:=4) rfl)),(Qc.2 ⟨(by show (Kd.int .i64).K g v.Cap (seg (Z8 cs 6 ys) 5 1);rw [Z7 (by omega) (by omega)];exact hk.2 _ (List.mem_of_getElem? (i:=5) rfl)),(Qc.2 ⟨(by show Kd.str.K g y (seg (Z8 cs 6 ys) 6 1);rw [Zdk (by omega) hl];exact hy),(Qc.2 ⟨(by show Zz.sl.K g v.List (seg (Z8 cs 6 ys) 7 1);rw [Z7 (by omega) (by omega)];exact hk.2 _ (List.mem_of_getElem? (i:=7) rfl)),(fun _ h=>by cases h)⟩)⟩)⟩)⟩)⟩)⟩)⟩)⟩)⟩
theorem Z26 {c:Option Nat} {N j s:Nat} {o:Oper} {uses:Zbj} {x z:Operand} {v:Zc} {y0 y:Zb} {v0:Zc} {t:Nat} (hT:Ty Tryz.prog t Ze) (hop:o.op=.store t x z) (hd:o.dst=none) (hs:Opd uses (.tmp s) (Zcb c Zj j v)) (hx:Opd uses x (Zi6 Zj j v0 2 Ze y0)) (hz:Opd uses z (Ze.pd y)):OB Tryz.prog N o uses [(s,Zcb c Zj j { v with Rec:=y })] [j + 1] :=
 Zl9 hT hop hd hs hx hz fun g cs ys hk hy=>by
  have hc:cs.length=10:=hk.1
  have hl:ys.length=8:=Ze.len hy
  exact ⟨by omega,(Zdf (by omega)).trans hc,(Qc.2 ⟨(by show (Kd.int .i64).K g v.Code (seg (Z8 cs 2 ys) 0 1);rw [Z7 (by omega) (by omega)];exact hk.2 _ (List.mem_of_getElem? (i:=0) rfl)),(Qc.2 ⟨(by show (Kd.int .i64).K g v.Num (seg (Z8 cs 2 ys) 1 1);rw [Z7 (by omega) (by omega)];exact hk.2 _ (List.mem_of_getElem? (i:=1) rfl)),(Qc.2 ⟨(by show Ze.K g y (seg (Z8 cs 2 ys) 2 8);rw [Zdk (by omega) hl];exact hy),(fun _ h=>by cases h)⟩)⟩)⟩)⟩
theorem Zm6 {c:Option Nat} {N j s:Nat} {o:Oper} {uses:Zbj} {x z:Operand} {v:Zb} {y0 y:Int} {v0:Zb} {t:Nat} (hT:Ty Tryz.prog t (Kd.int .i64)) (hop:o.op=.store t x z) (hd:o.dst=none) (hs:Opd uses (.tmp s) (Zcb c Ze j v)) (hx:Opd uses x (Zi6 Ze j v0 1 (Kd.int .i64) y0)) (hz:Opd uses z ((Kd.int .i64).pd y)):OB Tryz.prog N o uses [(s,Zcb c Ze j { v with Num:=y })] [j + 1] :=
 Zl9 hT hop hd hs hx hz fun g cs ys hk hy=>by
  have hc:cs.length=8:=hk.1
  have hl:ys.length=1:=(Kd.int .i64).len hy
  exact ⟨by omega,(Zdf (by omega)).trans hc,(Qc.2 ⟨(by show (Kd.int .i64).K g v.Kind (seg (Z8 cs 1 ys) 0 1);rw [Z7 (by omega) (by omega)];exact hk.2 _ (List.mem_of_getElem? (i:=0) rfl)),(Qc.2 ⟨(by show (Kd.int .i64).K g y (seg (Z8 cs 1 ys) 1 1);rw [Zdk (by omega) hl];exact hy),(Qc.2 ⟨(by show (Kd.int .i64).K g v.Low (seg (Z8 cs 1 ys) 2 1);rw [Z7 (by omega) (by omega)];exact hk.2 _ (List.mem_of_getElem? (i:=2) rfl)),(Qc.2 ⟨(by show (Kd.int .i64).K g v.High (seg (Z8 cs 1 ys) 3 1);rw [Z7 (by omega) (by omega)];exact hk.2 _ (List.mem_of_getElem? (i:=3) rfl)),(Qc.2 ⟨(by show Kd.flt.K g v.Real (seg (Z8 cs 1 ys) 4 1);rw [Z7 (by omega) (by omega)];exact hk.2 _ (List.mem_of_getElem? (i:=4) rfl)),(Qc.2 ⟨(by show (Kd.int .i64).K g v.Cap (seg (Z8 cs 1 ys) 5 1);rw [Z7 (by omega) (by omega)];exact hk.2 _ (List.mem_of_getElem? (i:=5) rfl)),(Qc.2 ⟨(by show Kd.str.K g v.Text (seg (Z8 cs 1 ys) 6 1);rw [Z7 (by omega) (by omega)];exact hk.2 _ (List.mem_of_getElem? (i:=6) rfl)),(Qc.2 ⟨(by show Zz.sl.K g v.List (seg (Z8 cs 1 ys) 7 1);rw [Z7 (by omega) (by omega)];exact hk.2 _ (List.mem_of_getElem? (i:=7) rfl)),(fun _ h=>by cases h)⟩)⟩)⟩)⟩)⟩)⟩)⟩)⟩)⟩
theorem Zpo {c:Option Nat} {N j s:Nat} {o:Oper} {uses:Zbj} {x z:Operand} {v:Zb} {y0 y:Nat} {v0:Zb} {t:Nat} (hT:Ty Tryz.prog t Kd.flt) (hop:o.op=.store t x z) (hd:o.dst=none) (hs:Opd uses (.tmp s) (Zcb c Ze j v)) (hx:Opd uses x (Zi6 Ze j v0 4 Kd.flt y0)) (hz:Opd uses z (Kd.flt.pd y)):OB Tryz.prog N o uses [(s,Zcb c Ze j { v with Real:=y })] [j + 1] :=
 Zl9 hT hop hd hs hx hz fun g cs ys hk hy=>by
  have hc:cs.length=8:=hk.1
  have hl:ys.length=1:=Kd.flt.len hy
  exact ⟨by omega,(Zdf (by omega)).trans hc,(Qc.2 ⟨(by show (Kd.int .i64).K g v.Kind (seg (Z8 cs 4 ys) 0 1);rw [Z7 (by omega) (by omega)];exact hk.2 _ (List.mem_of_getElem? (i:=0) rfl)),(Qc.2 ⟨(by show (Kd.int .i64).K g v.Num (seg (Z8 cs 4 ys) 1 1);rw [Z7 (by omega) (by omega)];exact hk.2 _ (List.mem_of_getElem? (i:=1) rfl)),(Qc.2 ⟨(by show (Kd.int .i64).K g v.Low (seg (Z8 cs 4 ys) 2 1);rw [Z7 (by omega) (by omega)];exact hk.2 _ (List.mem_of_getElem? (i:=2) rfl)),(Qc.2 ⟨(by show (Kd.int .i64).K g v.High (seg (Z8 cs 4 ys) 3 1);rw [Z7 (by omega) (by omega)];exact hk.2 _ (List.mem_of_getElem? (i:=3) rfl)),(Qc.2 ⟨(by show Kd.flt.K g y (seg (Z8 cs 4 ys) 4 1);rw [Zdk (by omega) hl];exact hy),(Qc.2 ⟨(by show (Kd.int .i64).K g v.Cap (seg (Z8 cs 4 ys) 5 1);rw [Z7 (by omega) (by omega)];exact hk.2 _ (List.mem_of_getElem? (i:=5) rfl)),(Qc.2 ⟨(by show Kd.str.K g v.Text (seg (Z8 cs 4 ys) 6 1);rw [Z7 (by omega) (by omega)];exact hk.2 _ (List.mem_of_getElem? (i:=6) rfl)),(Qc.2 ⟨(by show Zz.sl.K g v.List (seg (Z8 cs 4 ys) 7 1);rw [Z7 (by omega) (by omega)];exact hk.2 _ (List.mem_of_getElem? (i:=7) rfl)),(fun _ h=>by cases h)⟩)⟩)⟩)⟩)⟩)⟩)⟩)⟩)⟩
theorem Ztn:Zn Tryz.prog 135:=by
 unfold Zn
 kernel_rfl
theorem Z9j:Ty Tryz.prog 167 Kd.fnc:=⟨by kernel_rfl,by kernel_rfl⟩
theorem Zbbs:Zn Tryz.prog 138:=by
 unfold Zn
 kernel_rfl
theorem Zbau:Zn Tryz.prog 137:=by
 unfold Zn
 kernel_rfl
theorem Zbbv:Ext Tryz.prog 139 (Extern.SlicesOverlaps.overlaps #[36,36] #[4]):=⟨_,Tryz.func139,rfl,rfl,by kernel_rfl,by kernel_rfl⟩
theorem Z0r:Zn Tryz.prog 128:=by
 unfold Zn
 kernel_rfl
theorem Z0g {N d:Nat} {o:Oper} {uses:Zbj} {x1:Operand} {v1:ByteArray} (hop:o.op=.build 116 #[(1,x1)]) (hd:o.dst=some d) (h1:Opd uses x1 (Kd.str.pd v1)):OB Tryz.prog N o uses [(d,Zz.pd { Score:=(0:Nat),Name:=v1 })] []:=by
 refine Zda hop hd fun a g hh=>?_
 obtain ⟨c1,k1,e1⟩:=h1 a g hh
 obtain rfl:=k1
 refine ⟨.agg #[.float .f64 0,.string v1],?_,[.float .f64 0,.string v1],⟨rfl,(Qc.2 ⟨(rfl),(Qc.2 ⟨rfl,(fun _ h=>by cases h)⟩)⟩)⟩,rfl⟩
 simp only [List.map_toArray,List.map_cons,List.map_nil,e1]
 exact Zcu Tryz.underlying116 (zero:=.agg #[.float .f64 0,.string ByteArray.empty]) (by kernel_rfl) (places:=[(0,1),(1,1)]) (by kernel_rfl) (by kernel_rfl) g.w
theorem Z40:Zn Tryz.prog 136:=by
 unfold Zn
 kernel_rfl
theorem Zbbx:Zn Tryz.prog 129:=by
 unfold Zn
 kernel_rfl
theorem Zvw {N d:Nat} {o:Oper} {uses:Zbj} {x0:Operand} {x1:Operand} {v0:Nat} {v1:ByteArray} (hop:o.op=.build 116 #[(0,x0),(1,x1)]) (hd:o.dst=some d) (h0:Opd uses x0 (Kd.flt.pd v0)) (h1:Opd uses x1 (Kd.str.pd v1)):OB Tryz.prog N o uses [(d,Zz.pd { Score:=v0,Name:=v1 })] []:=by
 refine Zda hop hd fun a g hh=>?_
 obtain ⟨c0,k0,e0⟩:=h0 a g hh
 obtain rfl:=k0
 obtain ⟨c1,k1,e1⟩:=h1 a g hh
 obtain rfl:=k1
 refine ⟨.agg #[.float .f64 v0,.string v1],?_,[.float .f64 v0,.string v1],⟨rfl,(Qc.2 ⟨rfl,(Qc.2 ⟨rfl,(fun _ h=>by cases h)⟩)⟩)⟩,rfl⟩
 simp only [List.map_toArray,List.map_cons,List.map_nil,e0,e1]
 exact Zcu Tryz.underlying116 (zero:=.agg #[.float .f64 0,.string ByteArray.empty]) (by kernel_rfl) (places:=[(0,1),(1,1)]) (by kernel_rfl) (by kernel_rfl) g.w
theorem Zbbu:Zn Tryz.prog 113:=by
 unfold Zn
 kernel_rfl
theorem Zba9:Zn Tryz.prog 114:=by
 unfold Zn
 kernel_rfl
theorem Zbbf:Zn Tryz.prog 115:=by
 unfold Zn
 kernel_rfl
theorem Zbb4:Zn Tryz.prog 116:=by
 unfold Zn
 kernel_rfl
theorem Z6d:Zn Tryz.prog 117:=by
 unfold Zn
 kernel_rfl
theorem Zbcc:Zn Tryz.prog 118:=by
 unfold Zn
 kernel_rfl
theorem Zbbz:Zn Tryz.prog 119:=by
 unfold Zn
 kernel_rfl
theorem Zbas:Zn Tryz.prog 121:=by
 unfold Zn
 kernel_rfl
theorem Zbbg:Zn Tryz.prog 122:=by
 unfold Zn
 kernel_rfl
theorem Zbci:Zn Tryz.prog 123:=by
 unfold Zn
 kernel_rfl
theorem Zbb5:Zn Tryz.prog 124:=by
 unfold Zn
 kernel_rfl
theorem Zba4:Zn Tryz.prog 125:=by
 unfold Zn
 kernel_rfl
theorem Zbb8:Zn Tryz.prog 126:=by
 unfold Zn
 kernel_rfl
theorem Zbb7:Zn Tryz.prog 127:=by
 unfold Zn
 kernel_rfl
theorem Zbbj:Zn Tryz.prog 130:=by
 unfold Zn
 kernel_rfl
theorem Zbby:Zn Tryz.prog 131:=by
 unfold Zn
 kernel_rfl
theorem Zsw:Zn Tryz.prog 120:=by
 unfold Zn
 kernel_rfl
theorem Zrf {N d:Nat} {o:Oper} {uses:Zbj} {x0:Operand} {v0:Int} (hop:o.op=.build 68 #[(0,x0)]) (hd:o.dst=some d) (h0:Opd uses x0 ((Kd.int .i64).pd v0)):OB Tryz.prog N o uses [(d,Zj.pd { Code:=v0,Num:=(0:Int),Rec:=(default:Zb) })] []:=by
 refine Zda hop hd fun a g hh=>?_
 obtain ⟨c0,k0,e0⟩:=h0 a g hh
 obtain rfl:=k0
 refine ⟨.agg #[.int .i64 v0,.int .i64 0,.int .i64 0,.int .i64 0,.int .i64 0,.int .i64 0,.float .f64 0,.int .i64 0,.string ByteArray.empty,.slice none 0 0],?_,[.int .i64 v0,.int .i64 0,.int .i64 0,.int .i64 0,.int .i64 0,.int .i64 0,.float .f64 0,.int .i64 0,.string ByteArray.empty,.slice none 0 0],⟨rfl,(Qc.2 ⟨rfl,(Qc.2 ⟨(rfl),(Qc.2 ⟨(Zb0 _),(fun _ h=>by cases h)⟩)⟩)⟩)⟩,rfl⟩
 simp only [List.map_toArray,List.map_cons,List.map_nil,e0]
 exact Zcu Tryz.underlying68 (zero:=.agg #[.int .i64 0,.int .i64 0,.int .i64 0,.int .i64 0,.int .i64 0,.int .i64 0,.float .f64 0,.int .i64 0,.string ByteArray.empty,.slice none 0 0]) (by kernel_rfl) (places:=[(0,1),(1,1),(2,8)]) (by kernel_rfl) (by kernel_rfl) g.w
theorem Zb2:Ty Tryz.prog 68 Zj:=⟨by kernel_rfl,by kernel_rfl⟩
theorem Zwl:Zn Tryz.prog 92:=by
 unfold Zn
 kernel_rfl
theorem Zq4 {N d:Nat} {o:Oper} {uses:Zbj}   (hop:o.op=.build 68 #[]) (hd:o.dst=some d) :OB Tryz.prog N o uses [(d,Zj.pd { Code:=(0:Int),Num:=(0:Int),Rec:=(default:Zb) })] []:=by
 refine Zda hop hd fun a g hh=>?_
 refine ⟨.agg #[.int .i64 0,.int .i64 0,.int .i64 0,.int .i64 0,.int .i64 0,.int .i64 0,.float .f64 0,.int .i64 0,.string ByteArray.empty,.slice none 0 0],?_,[.int .i64 0,.int .i64 0,.int .i64 0,.int .i64 0,.int .i64 0,.int .i64 0,.float .f64 0,.int .i64 0,.string ByteArray.empty,.slice none 0 0],⟨rfl,(Qc.2 ⟨(rfl),(Qc.2 ⟨(rfl),(Qc.2 ⟨(Zb0 _),(fun _ h=>by cases h)⟩)⟩)⟩)⟩,rfl⟩
 simp only [List.map_toArray,List.map_cons,List.map_nil,List.map_nil]
 exact Zcu Tryz.underlying68 (zero:=.agg #[.int .i64 0,.int .i64 0,.int .i64 0,.int .i64 0,.int .i64 0,.int .i64 0,.float .f64 0,.int .i64 0,.string ByteArray.empty,.slice none 0 0]) (by kernel_rfl) (places:=[(0,1),(1,1),(2,8)]) (by kernel_rfl) (by kernel_rfl) g.w
theorem Z23 {N d:Nat} {o:Oper} {uses:Zbj} {x1:Operand} {v1:Int} (hop:o.op=.build 68 #[(1,x1)]) (hd:o.dst=some d) (h1:Opd uses x1 ((Kd.int .i64).pd v1)):OB Tryz.prog N o uses [(d,Zj.pd { Code:=(0:Int),Num:=v1,Rec:=(default:Zb) })] []:=by
 refine Zda hop hd fun a g hh=>?_
 obtain ⟨c1,k1,e1⟩:=h1 a g hh
 obtain rfl:=k1
 refine ⟨.agg #[.int .i64 0,.int .i64 v1,.int .i64 0,.int .i64 0,.int .i64 0,.int .i64 0,.float .f64 0,.int .i64 0,.string ByteArray.empty,.slice none 0 0],?_,[.int .i64 0,.int .i64 v1,.int .i64 0,.int .i64 0,.int .i64 0,.int .i64 0,.float .f64 0,.int .i64 0,.string ByteArray.empty,.slice none 0 0],⟨rfl,(Qc.2 ⟨(rfl),(Qc.2 ⟨rfl,(Qc.2 ⟨(Zb0 _),(fun _ h=>by cases h)⟩)⟩)⟩)⟩,rfl⟩
 simp only [List.map_toArray,List.map_cons,List.map_nil,e1]
 exact Zcu Tryz.underlying68 (zero:=.agg #[.int .i64 0,.int .i64 0,.int .i64 0,.int .i64 0,.int .i64 0,.int .i64 0,.float .f64 0,.int .i64 0,.string ByteArray.empty,.slice none 0 0]) (by kernel_rfl) (places:=[(0,1),(1,1),(2,8)]) (by kernel_rfl) (by kernel_rfl) g.w
theorem Z3k {N d:Nat} {o:Oper} {uses:Zbj} {x2:Operand} {v2:Zb} (hop:o.op=.build 68 #[(2,x2)]) (hd:o.dst=some d) (h2:Opd uses x2 (Ze.pd v2)):OB Tryz.prog N o uses [(d,Zj.pd { Code:=(0:Int),Num:=(0:Int),Rec:=v2 })] []:=by
 refine Zda hop hd fun a g hh=>?_
 obtain ⟨c2,k2,e2⟩:=h2 a g hh
 obtain ⟨u2_0,u2_1,u2_2,u2_3,u2_4,u2_5,u2_6,u2_7,rfl⟩:=Z4v (Ze.len k2)
 refine ⟨.agg #[.int .i64 0,.int .i64 0,u2_0,u2_1,u2_2,u2_3,u2_4,u2_5,u2_6,u2_7],?_,[.int .i64 0,.int .i64 0,u2_0,u2_1,u2_2,u2_3,u2_4,u2_5,u2_6,u2_7],⟨rfl,(Qc.2 ⟨(rfl),(Qc.2 ⟨(rfl),(Qc.2 ⟨k2,(fun _ h=>by cases h)⟩)⟩)⟩)⟩,rfl⟩
 simp only [List.map_toArray,List.map_cons,List.map_nil,e2]
 exact Zcu Tryz.underlying68 (zero:=.agg #[.int .i64 0,.int .i64 0,.int .i64 0,.int .i64 0,.int .i64 0,.int .i64 0,.float .f64 0,.int .i64 0,.string ByteArray.empty,.slice none 0 0]) (by kernel_rfl) (places:=[(0,1),(1,1),(2,8)]) (by kernel_rfl) (by kernel_rfl) g.w
theorem Zbcv:Zn Tryz.prog 93:=by
 unfold Zn
 kernel_rfl
theorem Zbc7:Zn Tryz.prog 94:=by
 unfold Zn
 kernel_rfl
theorem Zbc0:Zn Tryz.prog 68:=by
 unfold Zn
 kernel_rfl
theorem Zio:Fld Tryz.prog 68 0 Zj (Kd.int .i64) (fun x:Zc=>x.Code):=Fld.of ⟨_,(Kd.int .i64),0,fun x:Zc=>x.Code⟩ (List.mem_of_getElem? (i:=0) rfl) 0 rfl (by kernel_rfl) (by decide)
theorem Zxe:PF Tryz.prog 49 2 2:=by
 unfold PF
 kernel_rfl
theorem Zbdz:Zn Tryz.prog 44:=by
 unfold Zn
 kernel_rfl
theorem Zuc:Fld Tryz.prog 40 6 Zy Kd.bool (fun x:Zm=>x.Must):=Fld.of ⟨_,Kd.bool,13,fun x:Zm=>x.Must⟩ (List.mem_of_getElem? (i:=6) rfl) 13 rfl (by kernel_rfl) (by decide)
theorem Zbbi {N d:Nat} {o:Oper} {uses:Zbj}   (hop:o.op=.build 30 #[]) (hd:o.dst=some d) :OB Tryz.prog N o uses [(d,Zx.pd { top:=shelf_nodeT.nil,room:=(0:Int) })] []:=by
 refine Zda hop hd fun a g hh=>?_
 refine ⟨.agg #[.pointer none,.int .i64 0],?_,[.pointer none,.int .i64 0],⟨rfl,(Qc.2 ⟨(Zmp _),(Qc.2 ⟨(rfl),(fun _ h=>by cases h)⟩)⟩)⟩,rfl⟩
 simp only [List.map_toArray,List.map_cons,List.map_nil,List.map_nil]
 exact Zcu Tryz.underlying30 (zero:=.agg #[.pointer none,.int .i64 0]) (by kernel_rfl) (places:=[(0,1),(1,1)]) (by kernel_rfl) (by kernel_rfl) g.w
theorem Z9e {N d:Nat} {o:Oper} {uses:Zbj} {x1:Operand} {v1:Int} (hop:o.op=.build 30 #[(1,x1)]) (hd:o.dst=some d) (h1:Opd uses x1 ((Kd.int .i64).pd v1)):OB Tryz.prog N o uses [(d,Zx.pd { top:=shelf_nodeT.nil,room:=v1 })] []:=by
 refine Zda hop hd fun a g hh=>?_
 obtain ⟨c1,k1,e1⟩:=h1 a g hh
 obtain rfl:=k1
 refine ⟨.agg #[.pointer none,.int .i64 v1],?_,[.pointer none,.int .i64 v1],⟨rfl,(Qc.2 ⟨(Zmp _),(Qc.2 ⟨rfl,(fun _ h=>by cases h)⟩)⟩)⟩,rfl⟩
 simp only [List.map_toArray,List.map_cons,List.map_nil,e1]
 exact Zcu Tryz.underlying30 (zero:=.agg #[.pointer none,.int .i64 0]) (by kernel_rfl) (places:=[(0,1),(1,1)]) (by kernel_rfl) (by kernel_rfl) g.w
theorem Z8s:Zn Tryz.prog 28:=by
 unfold Zn
 kernel_rfl
theorem Z41 {N d:Nat} {o:Oper} {uses:Zbj} {x0:Operand} {x1:Operand} {v0:Int} {v1:Int} (hop:o.op=.build 38 #[(0,x0),(1,x1)]) (hd:o.dst=some d) (h0:Opd uses x0 ((Kd.int .i64).pd v0)) (h1:Opd uses x1 ((Kd.int .i64).pd v1)):OB Tryz.prog N o uses [(d,Ze.pd { Kind:=v0,Num:=v1,Low:=(0:Int),High:=(0:Int),Real:=(0:Nat),Cap:=(0:Int),Text:=ByteArray.empty,List:=([]:List Zi) })] []:=by
 refine Zda hop hd fun a g hh=>?_
 obtain ⟨c0,k0,e0⟩:=h0 a g hh
 obtain rfl:=k0
 obtain ⟨c1,k1,e1⟩:=h1 a g hh
 obtain rfl:=k1
 refine ⟨.agg #[.int .i64 v0,.int .i64 v1,.int .i64 0,.int .i64 0,.float .f64 0,.int .i64 0,.string ByteArray.empty,.slice none 0 0],?_,[.int .i64 v0,.int .i64 v1,.int .i64 0,.int .i64 0,.float .f64 0,.int .i64 0,.string ByteArray.empty,.slice none 0 0],⟨rfl,(Qc.2 ⟨rfl,(Qc.2 ⟨rfl,(Qc.2 ⟨(rfl),(Qc.2 ⟨(rfl),(Qc.2 ⟨(rfl),(Qc.2 ⟨(rfl),(Qc.2 ⟨(rfl),(Qc.2 ⟨(⟨none,0,rfl,Nat.le_refl _,Nat.zero_le _,.inl rfl⟩),(fun _ h=>by cases h)⟩)⟩)⟩)⟩)⟩)⟩)⟩)⟩)⟩,rfl⟩
 simp only [List.map_toArray,List.map_cons,List.map_nil,e0,e1]
 exact Zcu Tryz.underlying38 (zero:=.agg #[.int .i64 0,.int .i64 0,.int .i64 0,.int .i64 0,.float .f64 0,.int .i64 0,.string ByteArray.empty,.slice none 0 0]) (by kernel_rfl) (places:=[(0,1),(1,1),(2,1),(3,1),(4,1),(5,1),(6,1),(7,1)]) (by kernel_rfl) (by kernel_rfl) g.w
theorem Z2h {N d:Nat} {o:Oper} {uses:Zbj} {x0:Operand} {x1:Operand} {x2:Operand} {v0:Int} {v1:ByteArray} {v2:Int} (hop:o.op=.build 40 #[(0,x0),(1,x1),(2,x2)]) (hd:o.dst=some d) (h0:Opd uses x0 ((Kd.int .i64).pd v0)) (h1:Opd uses x1 (Kd.str.pd v1)) (h2:Opd uses x2 ((Kd.int .i64).pd v2)):OB Tryz.prog N o uses [(d,Zy.pd { Kind:=v0,Key:=v1,N:=v2,X:=(0:Nat),S:=ByteArray.empty,Make:=(default:Zb),Must:=false })] []:=by
 refine Zda hop hd fun a g hh=>?_
 obtain ⟨c0,k0,e0⟩:=h0 a g hh
 obtain rfl:=k0
 obtain ⟨c1,k1,e1⟩:=h1 a g hh
 obtain rfl:=k1
 obtain ⟨c2,k2,e2⟩:=h2 a g hh
 obtain rfl:=k2
 refine ⟨.agg #[.int .i64 v0,.string v1,.int .i64 v2,.float .f64 0,.string ByteArray.empty,.int .i64 0,.int .i64 0,.int .i64 0,.int .i64 0,.float .f64 0,.int .i64 0,.string ByteArray.empty,.slice none 0 0,.bool false],?_,[.int .i64 v0,.string v1,.int .i64 v2,.float .f64 0,.string ByteArray.empty,.int .i64 0,.int .i64 0,.int .i64 0,.int .i64 0,.float .f64 0,.int .i64 0,.string ByteArray.empty,.slice none 0 0,.bool false],⟨rfl,(Qc.2 ⟨rfl,(Qc.2 ⟨rfl,(Qc.2 ⟨rfl,(Qc.2 ⟨(rfl),(Qc.2 ⟨(rfl),(Qc.2 ⟨(Zb0 _),(Qc.2 ⟨(rfl),(fun _ h=>by cases h)⟩)⟩)⟩)⟩)⟩)⟩)⟩)⟩,rfl⟩
 simp only [List.map_toArray,List.map_cons,List.map_nil,e0,e1,e2]
 exact Zcu Tryz.underlying40 (zero:=.agg #[.int .i64 0,.string ByteArray.empty,.int .i64 0,.float .f64 0,.string ByteArray.empty,.int .i64 0,.int .i64 0,.int .i64 0,.int .i64 0,.float .f64 0,.int .i64 0,.string ByteArray.empty,.slice none 0 0,.bool false]) (by kernel_rfl) (places:=[(0,1),(1,1),(2,1),(3,1),(4,1),(5,8),(13,1)]) (by kernel_rfl) (by kernel_rfl) g.w
theorem Z4u:Zn Tryz.prog 12:=by
 unfold Zn
 kernel_rfl
theorem Z8d:Zn Tryz.prog 16:=by
 unfold Zn
 kernel_rfl
theorem Zzo:Zn Tryz.prog 19:=by
 unfold Zn
 kernel_rfl
theorem Z3o:Zn Tryz.prog 15:=by
 unfold Zn
 kernel_rfl
theorem Z8i:Zn Tryz.prog 14:=by
 unfold Zn
 kernel_rfl
theorem Z8l:Zn Tryz.prog 17:=by
 unfold Zn
 kernel_rfl
theorem Zzg:Zn Tryz.prog 96:=by
 unfold Zn
 kernel_rfl
theorem Z76:Zn Tryz.prog 98:=by
 unfold Zn
 kernel_rfl
theorem Zwj:Zn Tryz.prog 72:=by
 unfold Zn
 kernel_rfl
theorem Zru:Zn Tryz.prog 49:=by
 unfold Zn
 kernel_rfl
theorem Z5k:Zn Tryz.prog 103:=by
 unfold Zn
 kernel_rfl
theorem Z30:Zn Tryz.prog 71:=by
 unfold Zn
 kernel_rfl
theorem Z5a:Zn Tryz.prog 104:=by
 unfold Zn
 kernel_rfl
theorem Zbdy:Zn Tryz.prog 83:=by
 unfold Zn
 kernel_rfl
theorem Zbdv:Zn Tryz.prog 82:=by
 unfold Zn
 kernel_rfl
theorem Zbd7:Zn Tryz.prog 84:=by
 unfold Zn
 kernel_rfl
theorem Zg5:Fld Tryz.prog 57 0 Z9 Zb1.sl (fun x:Zf=>x.L):=Fld.of ⟨_,Zb1.sl,0,fun x:Zf=>x.L⟩ (List.mem_of_getElem? (i:=0) rfl) 0 rfl (by kernel_rfl) (by decide)
theorem Zj2:Ty Tryz.prog 22 Zb1.sl:=⟨by kernel_rfl,by kernel_rfl⟩
theorem Znf:(Tryz.prog.info? 85).map (·.size)=some Zb1.sz:=by kernel_rfl
theorem Znd:Fld Tryz.prog 85 0 Zb1 Kd.str (fun x:Zbe=>x.Key):=Fld.of ⟨_,Kd.str,0,fun x:Zbe=>x.Key⟩ (List.mem_of_getElem? (i:=0) rfl) 0 rfl (by kernel_rfl) (by decide)
theorem Zco:Ty Tryz.prog 57 Z9:=⟨by kernel_rfl,by kernel_rfl⟩
theorem Z3s:Zn Tryz.prog 54:=by
 unfold Zn
 kernel_rfl
theorem Z4a:Zn Tryz.prog 55:=by
 unfold Zn
 kernel_rfl
theorem Zq7:Fld Tryz.prog 57 1 Z9 (Kd.int .i64) (fun x:Zf=>x.Room):=Fld.of ⟨_,(Kd.int .i64),1,fun x:Zf=>x.Room⟩ (List.mem_of_getElem? (i:=1) rfl) 1 rfl (by kernel_rfl) (by decide)
theorem Zqh:TE Tryz.prog 22 85 Zb1 104:=TE.of Tryz.underlying22 (by kernel_rfl) (by decide) (by decide)
theorem Z6m {N d:Nat} {o:Oper} {uses:Zbj} {x0:Operand} {x1:Operand} {v0:ByteArray} {v1:Zb} (hop:o.op=.build 85 #[(0,x0),(1,x1)]) (hd:o.dst=some d) (h0:Opd uses x0 (Kd.str.pd v0)) (h1:Opd uses x1 (Ze.pd v1)):OB Tryz.prog N o uses [(d,Zb1.pd { Key:=v0,Rec:=v1 })] []:=by
 refine Zda hop hd fun a g hh=>?_
 obtain ⟨c0,k0,e0⟩:=h0 a g hh
 obtain rfl:=k0
 obtain ⟨c1,k1,e1⟩:=h1 a g hh
 obtain ⟨u1_0,u1_1,u1_2,u1_3,u1_4,u1_5,u1_6,u1_7,rfl⟩:=Z4v (Ze.len k1)
 refine ⟨.agg #[.string v0,u1_0,u1_1,u1_2,u1_3,u1_4,u1_5,u1_6,u1_7],?_,[.string v0,u1_0,u1_1,u1_2,u1_3,u1_4,u1_5,u1_6,u1_7],⟨rfl,(Qc.2 ⟨rfl,(Qc.2 ⟨k1,(fun _ h=>by cases h)⟩)⟩)⟩,rfl⟩
 simp only [List.map_toArray,List.map_cons,List.map_nil,e0,e1]
 exact Zcu Tryz.underlying85 (zero:=.agg #[.string ByteArray.empty,.int .i64 0,.int .i64 0,.int .i64 0,.int .i64 0,.float .f64 0,.int .i64 0,.string ByteArray.empty,.slice none 0 0]) (by kernel_rfl) (places:=[(0,1),(1,8)]) (by kernel_rfl) (by kernel_rfl) g.w
theorem Zx6 {N d:Nat} {o:Oper} {uses:Zbj} {x0:Operand} {x1:Operand} {v0:List Zbe} {v1:Int} (hop:o.op=.build 57 #[(0,x0),(1,x1)]) (hd:o.dst=some d) (h0:Opd uses x0 (Zb1.sl.pd v0)) (h1:Opd uses x1 ((Kd.int .i64).pd v1)):OB Tryz.prog N o uses [(d,Z9.pd { L:=v0,Room:=v1 })] []:=by
 refine Zda hop hd fun a g hh=>?_
 obtain ⟨c0,k0,e0⟩:=h0 a g hh
 obtain ⟨A0,n0,rfl,l0⟩:=k0
 obtain ⟨c1,k1,e1⟩:=h1 a g hh
 obtain rfl:=k1
 refine ⟨.agg #[.slice A0 v0.length n0,.int .i64 v1],?_,[.slice A0 v0.length n0,.int .i64 v1],⟨rfl,(Qc.2 ⟨⟨A0,n0,rfl,l0⟩,(Qc.2 ⟨rfl,(fun _ h=>by cases h)⟩)⟩)⟩,rfl⟩
 simp only [List.map_toArray,List.map_cons,List.map_nil,e0,e1]
 exact Zcu Tryz.underlying57 (zero:=.agg #[.slice none 0 0,.int .i64 0]) (by kernel_rfl) (places:=[(0,1),(1,1)]) (by kernel_rfl) (by kernel_rfl) g.w
theorem Z93 {N d:Nat} {o:Oper} {uses:Zbj} {x1:Operand} {v1:Int} (hop:o.op=.build 57 #[(1,x1)]) (hd:o.dst=some d) (h1:Opd uses x1 ((Kd.int .i64).pd v1)):OB Tryz.prog N o uses [(d,Z9.pd { L:=([]:List Zbe),Room:=v1 })] []:=by
 refine Zda hop hd fun a g hh=>?_
 obtain ⟨c1,k1,e1⟩:=h1 a g hh
 obtain rfl:=k1
 refine ⟨.agg #[.slice none 0 0,.int .i64 v1],?_,[.slice none 0 0,.int .i64 v1],⟨rfl,(Qc.2 ⟨(⟨none,0,rfl,Nat.le_refl _,Nat.zero_le _,.inl rfl⟩),(Qc.2 ⟨rfl,(fun _ h=>by cases h)⟩)⟩)⟩,rfl⟩
 simp only [List.map_toArray,List.map_cons,List.map_nil,e1]
 exact Zcu Tryz.underlying57 (zero:=.agg #[.slice none 0 0,.int .i64 0]) (by kernel_rfl) (places:=[(0,1),(1,1)]) (by kernel_rfl) (by kernel_rfl) g.w
theorem Zzs:Ty Tryz.prog 85 Zb1:=⟨by kernel_rfl,by kernel_rfl⟩
theorem Zq3:Fld Tryz.prog 85 1 Zb1 Ze (fun x:Zbe=>x.Rec):=Fld.of ⟨_,Ze,1,fun x:Zbe=>x.Rec⟩ (List.mem_of_getElem? (i:=1) rfl) 1 rfl (by kernel_rfl) (by decide)
theorem Zbc9:Zn Tryz.prog 31:=by
 unfold Zn
 kernel_rfl
theorem Z8u:Zn Tryz.prog 32:=by
 unfold Zn
 kernel_rfl
theorem en_7:Zn Tryz.prog 7:=by
 unfold Zn
 kernel_rfl
theorem en_8:Zn Tryz.prog 8:=by
 unfold Zn
 kernel_rfl
theorem Zbdf:Zn Tryz.prog 11:=by
 unfold Zn
 kernel_rfl
theorem Zbeb:Zn Tryz.prog 13:=by
 unfold Zn
 kernel_rfl
theorem Zud:Fld Tryz.prog 49 0 Zbp (Kd.int .i64) (fun x:Zw=>x.Code):=Fld.of ⟨_,(Kd.int .i64),0,fun x:Zw=>x.Code⟩ (List.mem_of_getElem? (i:=0) rfl) 0 rfl (by kernel_rfl) (by decide)
theorem Zbdk:Zn Tryz.prog 95:=by
 unfold Zn
 kernel_rfl
theorem Z33:TE Tryz.prog 65 3 (Kd.int .i64) 8:=TE.of Tryz.underlying65 (by kernel_rfl) (by decide) (by decide)
theorem sz_3:(Tryz.prog.info? 3).map (·.size)=some (Kd.int .i64).sz:=by kernel_rfl
theorem Z37:Zn Tryz.prog 69:=by
 unfold Zn
 kernel_rfl
theorem Zzh:Zn Tryz.prog 47:=by
 unfold Zn
 kernel_rfl
theorem Z4r:Zn Tryz.prog 70:=by
 unfold Zn
 kernel_rfl
theorem Z73:Zn Tryz.prog 48:=by
 unfold Zn
 kernel_rfl
theorem Zzu:Zn Tryz.prog 90:=by
 unfold Zn
 kernel_rfl
theorem Zbck:Zn Tryz.prog 106:=by
 unfold Zn
 kernel_rfl
theorem Zpk {c:Option Nat} {N j s:Nat} {o:Oper} {uses:Zbj} {x z:Operand} {v:Zc} {y0 y:Int} {v0:Zc} {t:Nat} (hT:Ty Tryz.prog t (Kd.int .i64)) (hop:o.op=.store t x z) (hd:o.dst=none) (hs:Opd uses (.tmp s) (Zcb c Zj j v)) (hx:Opd uses x (Zi6 Zj j v0 0 (Kd.int .i64) y0)) (hz:Opd uses z ((Kd.int .i64).pd y)):OB Tryz.prog N o uses [(s,Zcb c Zj j { v with Code:=y })] [j + 1] :=
 Zl9 hT hop hd hs hx hz fun g cs ys hk hy=>by
  have hc:cs.length=10:=hk.1
  have hl:ys.length=1:=(Kd.int .i64).len hy
  exact ⟨by omega,(Zdf (by omega)).trans hc,(Qc.2 ⟨(by show (Kd.int .i64).K g y (seg (Z8 cs 0 ys) 0 1);rw [Zdk (by omega) hl];exact hy),(Qc.2 ⟨(by show (Kd.int .i64).K g v.Num (seg (Z8 cs 0 ys) 1 1);rw [Z7 (by omega) (by omega)];exact hk.2 _ (List.mem_of_getElem? (i:=1) rfl)),(Qc.2 ⟨(by show Ze.K g v.Rec (seg (Z8 cs 0 ys) 2 8);rw [Z7 (by omega) (by omega)];exact hk.2 _ (List.mem_of_getElem? (i:=2) rfl)),(fun _ h=>by cases h)⟩)⟩)⟩)⟩
theorem Zba7:Zn Tryz.prog 107:=by
 unfold Zn
 kernel_rfl
theorem Zbba:Zn Tryz.prog 108:=by
 unfold Zn
 kernel_rfl
theorem Z53:Zn Tryz.prog 110:=by
 unfold Zn
 kernel_rfl
theorem Z55:Zn Tryz.prog 109:=by
 unfold Zn
 kernel_rfl
theorem Z6g:Zn Tryz.prog 111:=by
 unfold Zn
 kernel_rfl
theorem Z6k:Zn Tryz.prog 112:=by
 unfold Zn
 kernel_rfl
theorem Zbd4:Zn Tryz.prog 91:=by
 unfold Zn
 kernel_rfl
theorem Zbcp:Zn Tryz.prog 65:=by
 unfold Zn
 kernel_rfl
theorem Zbc4:Zn Tryz.prog 66:=by
 unfold Zn
 kernel_rfl
theorem Zbd6:Zn Tryz.prog 67:=by
 unfold Zn
 kernel_rfl
theorem Z8h:Zn Tryz.prog 22:=by
 unfold Zn
 kernel_rfl
theorem Ztp {N d:Nat} {o:Oper} {uses:Zbj} {x0:Operand} {x1:Operand} {v0:Int} {v1:Int} (hop:o.op=.build 49 #[(0,x0),(1,x1)]) (hd:o.dst=some d) (h0:Opd uses x0 ((Kd.int .i64).pd v0)) (h1:Opd uses x1 ((Kd.int .i64).pd v1)):OB Tryz.prog N o uses [(d,Zbp.pd { Code:=v0,At:=v1,Answers:=([]:List Zc) })] []:=by
 refine Zda hop hd fun a g hh=>?_
 obtain ⟨c0,k0,e0⟩:=h0 a g hh
 obtain rfl:=k0
 obtain ⟨c1,k1,e1⟩:=h1 a g hh
 obtain rfl:=k1
 refine ⟨.agg #[.int .i64 v0,.int .i64 v1,.slice none 0 0],?_,[.int .i64 v0,.int .i64 v1,.slice none 0 0],⟨rfl,(Qc.2 ⟨rfl,(Qc.2 ⟨rfl,(Qc.2 ⟨(⟨none,0,rfl,Nat.le_refl _,Nat.zero_le _,.inl rfl⟩),(fun _ h=>by cases h)⟩)⟩)⟩)⟩,rfl⟩
 simp only [List.map_toArray,List.map_cons,List.map_nil,e0,e1]
 exact Zcu Tryz.underlying49 (zero:=.agg #[.int .i64 0,.int .i64 0,.slice none 0 0]) (by kernel_rfl) (places:=[(0,1),(1,1),(2,1)]) (by kernel_rfl) (by kernel_rfl) g.w
theorem Zbdp:Zn Tryz.prog 43:=by
 unfold Zn
 kernel_rfl
theorem Z2x {N d:Nat} {o:Oper} {uses:Zbj} {x2:Operand} {v2:List Zc} (hop:o.op=.build 49 #[(2,x2)]) (hd:o.dst=some d) (h2:Opd uses x2 (Zj.sl.pd v2)):OB Tryz.prog N o uses [(d,Zbp.pd { Code:=(0:Int),At:=(0:Int),Answers:=v2 })] []:=by
 refine Zda hop hd fun a g hh=>?_
 obtain ⟨c2,k2,e2⟩:=h2 a g hh
 obtain ⟨A2,n2,rfl,l2⟩:=k2
 refine ⟨.agg #[.int .i64 0,.int .i64 0,.slice A2 v2.length n2],?_,[.int .i64 0,.int .i64 0,.slice A2 v2.length n2],⟨rfl,(Qc.2 ⟨(rfl),(Qc.2 ⟨(rfl),(Qc.2 ⟨⟨A2,n2,rfl,l2⟩,(fun _ h=>by cases h)⟩)⟩)⟩)⟩,rfl⟩
 simp only [List.map_toArray,List.map_cons,List.map_nil,e2]
 exact Zcu Tryz.underlying49 (zero:=.agg #[.int .i64 0,.int .i64 0,.slice none 0 0]) (by kernel_rfl) (places:=[(0,1),(1,1),(2,1)]) (by kernel_rfl) (by kernel_rfl) g.w
theorem Z2p:Fld Tryz.prog 68 1 Zj (Kd.int .i64) (fun x:Zc=>x.Num):=Fld.of ⟨_,(Kd.int .i64),1,fun x:Zc=>x.Num⟩ (List.mem_of_getElem? (i:=1) rfl) 1 rfl (by kernel_rfl) (by decide)
theorem Zxh:Fld Tryz.prog 49 1 Zbp (Kd.int .i64) (fun x:Zw=>x.At):=Fld.of ⟨_,(Kd.int .i64),1,fun x:Zw=>x.At⟩ (List.mem_of_getElem? (i:=1) rfl) 1 rfl (by kernel_rfl) (by decide)
theorem Zbdx:Zn Tryz.prog 45:=by
 unfold Zn
 kernel_rfl
theorem Zbdu:Zn Tryz.prog 46:=by
 unfold Zn
 kernel_rfl
theorem Zbde:Zn Tryz.prog 18:=by
 unfold Zn
 kernel_rfl
theorem Z75:Zn Tryz.prog 20:=by
 unfold Zn
 kernel_rfl
theorem Zbdw:Zn Tryz.prog 21:=by
 unfold Zn
 kernel_rfl
theorem Zbdn:Zn Tryz.prog 23:=by
 unfold Zn
 kernel_rfl
theorem Zmx (a0:(List Zi)) {r:(List Zi)} (h:Zbw a0=some r):FnOk Tryz.prog 81 [(Zz.sl.pd a0)] (Zz.sl.pd r):=by
 unfold Zbw at h
 obtain ⟨hsz,H0⟩:=Zev h
 obtain rfl:=Option.some.inj H0
 refine Zbt (N:=8) Tryz.func81 rfl rfl (Qe rfl) rfl rfl (fun a g0 hst hb=>?_)
 refine wp_seq ?_
 refine Zmu Za (N:=8) (L:=[(0,(Zz.sl.pd a0))]) (T:=[⟨[],[(2,(Zz.sl.pd []))],[],[],[2]⟩]) (F:=[.o 0]) (by kernel_rfl)
  (Ze1 (OT.plain rfl (Zch rfl rfl (Opd.c (fun g=>Zhe g)))) Zky) hst hb (fun a g hst hb=>?_)
 refine Zq ?_
 refine wp_seq ?_
 refine wp_seq ?_
 refine Zmu Za (N:=8) (L:=[(0,(Zz.sl.pd a0))]) (T:=[⟨[.o 0],[(3,(Zz.sl.pd a0))],[],[],[3]⟩,⟨[.p 0 0],[(4,Z35 a0)],[],[0],[4]⟩]) (F:=[.o 0,.p 1 0]) (by kernel_rfl)
  (Ze1 (OT.plain rfl (Z1 rfl rfl Opd.t0)) (Ze1 (OT.plain rfl (Zq1 Tryz.underlying36 rfl rfl Opd.t0)) Zky)) hst hb (fun a g hst hb=>?_)
 refine Zq ?_
 obtain ⟨c,hc,hc'⟩:=hst.at 1 rfl
 refine wp_cond_split hc (fun ht=>?_) (fun hf=>?_)
 ·obtain rfl:=hc' ht
  refine wp_seq ?_
  refine Zmu Za (N:=8) (L:=[]) (T:=[⟨[],[(2,(Zz.sl.pd []))],[],[],[2]⟩]) (F:=[.p 0 0]) (by kernel_rfl)
   (Ze1 (OT.plain rfl (Zch rfl rfl (Opd.c (fun g=>Zhe g)))) Zky) (hst.pick [] rfl) hb (fun a g hst hb=>?_)
  refine Zq ?_
  refine wp_ret ?_
  refine Zp ?_
  exact Z4 rfl hst hb (Zg (s:=2)) (hst.at 0 rfl)
 ·refine wp_skip ?_
  refine Zq ?_
  refine wp_seq ?_
  have hsz':(([]:(List Zi)).length + a0.length) * 24 ≤ 140737488355328:=by simpa using hsz
  refine Zmu Za (N:=8) (L:=[(0,(Zz.sl.pd a0))]) (T:=[⟨[],[(5,(pRow Zz 116 5 []))],[6],[],[5]⟩,⟨[.o 0],[(6,(Zz.sl.pd a0))],[],[],[6]⟩,⟨[.p 0 0,.p 1 0],[(7,(pRow Zz 116 5 ([] ++ a0)))],[6],[0,1],[5,7]⟩,⟨[.p 2 0],[(2,(pRow Zz 116 5 ([] ++ a0)))],[],[0,1,2],[2]⟩]) (F:=[.p 3 0]) (by kernel_rfl)
   (Ze1 (OT.plain rfl (Zkw 5 Zdm (xs:=[]) .nil (by decide) rfl rfl)) (Ze1 (OT.plain rfl (Z1 rfl rfl Opd.t0)) (Ze1 (OT.plain rfl (Zej Zdm rfl rfl Opd.t0 (Opd.tl Opd.t0) hsz')) (Ze1 (OT.plain rfl (Zch rfl rfl Opd.t0)) Zky)))) (hst.pick [0] rfl) hb (fun a g hst hb=>?_)
  refine Zq ?_
  refine wp_ret ?_
  exact Z4 rfl hst hb (Zg (s:=2)) (Zd0 (hst.at 0 rfl))
theorem Zf6 (a0:(List Zi)) {r:(List Zi)} (h:Zbw a0=some r):Zq9 Tryz.prog 81 [(Zz.sl.pd a0)] Zz 116 r:=by
 unfold Zbw at h
 obtain ⟨hsz,H0⟩:=Zev h
 obtain rfl:=Option.some.inj H0
 refine Zr7 (N:=8) Tryz.func81 rfl rfl (Qe rfl) rfl (fun a g0 h0 hst hb=>?_)
 refine r_s (T:=[⟨[],[(2,(Zz.sl.pd []))],[],[],[2]⟩]) (F:=[.o 0]) hst hb Za
  (o_p rfl (Zch rfl rfl (Opd.c (fun g=>Zhe g)))<|o_n) (fun a g hst hb=>?_)
 refine wp_seq ?_
 refine r_s (T:=[⟨[.o 0],_,[],[],[3]⟩,⟨[.p 0 0],_,[],[0],[4]⟩]) (F:=[.o 0,.p 1 0]) hst hb Za
  (Qm rfl u_0<|o_p rfl (Zq1 Tryz.underlying36 rfl rfl u_0)<|o_n) (fun a g hst hb=>?_)
 obtain ⟨c,hc,hc'⟩:=hst.at 1 rfl
 refine wp_cond_split hc (fun ht=>?_) (fun hf=>?_)
 ·obtain rfl:=hc' ht
  refine r_s (L:=[]) (T:=[⟨[],[(2,(pEq (.slice none 0 0)))],[],[],[2]⟩]) (F:=[.p 0 0]) (hst.pick [] rfl) hb Za
   (o_p rfl (Zch rfl rfl (Opd.c (fun g=>rfl)))<|o_n) (fun a g hst hb=>?_)
  refine wp_ret ?_
  refine Zp ?_
  exact Zqr rfl hst hb (Zg (s:=2)) ⟨none,hst.at 0 rfl⟩
 ·refine wp_skip ?_
  refine Zq ?_
  refine r_s (L:=[(0,_)]) (T:=[⟨[],[(5,(pOwn Zz 116 5 (some 0) (([]:(List Zi)).map some)))],[6],[],[5]⟩,⟨[.o 0],_,[],[],[6]⟩,⟨[.p 0 0,.p 1 0],_,[6],[0,1],[5,7]⟩,⟨[.p 2 0],_,[],[0,1,2],[2]⟩]) (F:=[.p 3 0]) (hst.pick [0] rfl) hb Za
   (o_p rfl (Zs0 (ty:=0) Zdm rfl rfl)<|Qm rfl u_0<|o_p rfl (Zpe Zdm rfl rfl u_0 u_1 (by simpa using hsz))<|Qa rfl u_0<|o_n) (fun a g hst hb=>?_)
  refine wp_ret ?_
  exact Zvr rfl h0 hst hb (Zg (s:=2)) (hst.at 0 rfl)
theorem Zgv (a0:Zb) {r:Zb} (h:Zey a0=some r):FnOk Tryz.prog 53 [(Ze.pd a0)] (Ze.pd r):=by
 have H0:=h
 unfold Zey at H0
 clear h
 refine Zbt (N:=8) Tryz.func53 rfl rfl (Qe rfl) rfl rfl (fun a g0 hst hb=>?_)
 refine r_s (T:=[⟨[.o 0],_,[2],[],[1]⟩,⟨[],[(2,(pBox Ze 2 (default:Zb)))],[3],[],[2]⟩]) (F:=[.p 0 0,.p 1 0]) hst hb Za
  (o_p rfl (Zkr rfl rfl u_0)<|o_p rfl (Zbh (zs:=[.int .i64 0,.int .i64 0,.int .i64 0,.int .i64 0,.float .f64 0,.int .i64 0,.string ByteArray.empty,.slice none 0 0]) (by kernel_rfl) (fun g=>Zb0 g) rfl rfl)<|o_n) (fun a g hst hb=>?_)
 obtain ⟨r1,h2,H0⟩:=Zd H0
 refine r_s (T:=[⟨[.o 0],_,[],[],[3]⟩,⟨[.p 0 0],_,[],[0],[4]⟩,⟨[.p 1 0],_,[],[0,1],[5]⟩,⟨[.o 0],_,[],[0,1,2],[6]⟩,⟨[.p 2 0,.p 3 0,.o 0],_,[2],Lr 4,[1,3,6]⟩]) (F:=[.p 4 0,.o 1]) hst hb Za
  (o_p rfl (Zr Zcc (off:=7) (by kernel_rfl) rfl rfl u_0)<|QP rfl Zdc u_0<|o_p rfl (Zl Zzp (Zmx _ h2) rfl rfl (.cons u_0 .nil))<|o_p rfl (Zr Zcc (off:=7) (by kernel_rfl) rfl rfl u_0)<|o_p rfl (Zne Zdc rfl rfl u_2 u_1 u_0)<|o_n) (fun a g hst hb=>?_)
 refine r_s (T:=[⟨[.o 0],_,[],[],[7]⟩,⟨[.p 0 0,.o 1],_,[3],[0],[2]⟩]) (F:=[.p 1 0]) hst hb Za
  (QM rfl Zbb u_0<|o_p rfl (Z3 Zbb rfl rfl u_1 u_0)<|o_n) (fun a g hst hb=>?_)
 refine wp_ret ?_
 obtain rfl:=Option.some.inj H0
 obtain ⟨u0,hu0,hq0⟩:=Zbf (P:=Tryz.prog) Zbb (hst.at 0 rfl)
 exact Z4 rfl hst hb hu0 hq0
theorem Zmr (a0:(List Zm)) {r:(List Zm)} (h:Zgh a0=some r):Zq9 Tryz.prog 56 [(Zy.sl.pd a0)] Zy 40 r:=by
 unfold Zgh at h
 obtain ⟨hsz,H0⟩:=Zev h
 obtain rfl:=Option.some.inj H0
 refine Zr7 (N:=8) Tryz.func56 rfl rfl (Qe rfl) rfl (fun a g0 h0 hst hb=>?_)
 refine r_s (T:=[⟨[],[(2,(Zy.sl.pd []))],[],[],[2]⟩]) (F:=[.o 0]) hst hb Za
  (o_p rfl (Zch rfl rfl (Opd.c (fun g=>Zhe g)))<|o_n) (fun a g hst hb=>?_)
 refine wp_seq ?_
 refine r_s (T:=[⟨[.o 0],_,[],[],[3]⟩,⟨[.p 0 0],_,[],[0],[4]⟩]) (F:=[.o 0,.p 1 0]) hst hb Za
  (Qm rfl u_0<|o_p rfl (Zq1 Tryz.underlying23 rfl rfl u_0)<|o_n) (fun a g hst hb=>?_)
 obtain ⟨c,hc,hc'⟩:=hst.at 1 rfl
 refine wp_cond_split hc (fun ht=>?_) (fun hf=>?_)
 ·obtain rfl:=hc' ht
  refine r_s (L:=[]) (T:=[⟨[],[(2,(pEq (.slice none 0 0)))],[],[],[2]⟩]) (F:=[.p 0 0]) (hst.pick [] rfl) hb Za
   (o_p rfl (Zch rfl rfl (Opd.c (fun g=>rfl)))<|o_n) (fun a g hst hb=>?_)
  refine wp_ret ?_
  refine Zp ?_
  exact Zqr rfl hst hb (Zg (s:=2)) ⟨none,hst.at 0 rfl⟩
 ·refine wp_skip ?_
  refine Zq ?_
  refine r_s (L:=[(0,_)]) (T:=[⟨[],[(5,(pOwn Zy 40 5 (some 0) (([]:(List Zm)).map some)))],[6],[],[5]⟩,⟨[.o 0],_,[],[],[6]⟩,⟨[.p 0 0,.p 1 0],_,[6],[0,1],[5,7]⟩,⟨[.p 2 0],_,[],[0,1,2],[2]⟩]) (F:=[.p 3 0]) (hst.pick [0] rfl) hb Za
   (o_p rfl (Zs0 (ty:=0) Zpi rfl rfl)<|Qm rfl u_0<|o_p rfl (Zpe Zpi rfl rfl u_0 u_1 (by simpa using hsz))<|Qa rfl u_0<|o_n) (fun a g hst hb=>?_)
  refine wp_ret ?_
  exact Zvr rfl h0 hst hb (Zg (s:=2)) (hst.at 0 rfl)
theorem Zr8 (a0:Zbk) {r:Zbk} (h:Zmi a0=some r):FnOk Tryz.prog 34 [(Zb5.pd a0)] (Zb5.pd r):=by
 unfold Zmi at h
 obtain ⟨⟨hsz,hall⟩,H0⟩:=Zev h
 obtain rfl:=Option.some.inj H0
 have hcl:Zgh a0.Acts=some a0.Acts:=by unfold Zgh;rw [if_pos hsz]
 have hrc:∀ e ∈ a0.Acts,Zey e.Make=some e.Make:=fun e he=>by
  have:=List.all_eq_true.1 hall e he
  unfold Zey Zbw
  rw [if_pos (of_decide_eq_true this)]
  rfl
 have hmx:a0.Acts.length ≤ 140737488355328:=Nat.le_trans (Nat.le_mul_of_pos_right _ (by decide)) hsz
 refine Zbt (N:=28) Tryz.func34 rfl rfl (Qe rfl) rfl rfl (fun a g0 hst hb=>?_)
 refine r_s (T:=[⟨[.o 0],[(1,(pBox Zb5 1 a0))],[2],[],[1]⟩,⟨[],[(2,(pBox Zb5 2 (default:Zbk)))],[3],[],[2]⟩]) (F:=[.p 0 0,.p 1 0]) hst hb Za
  (o_p rfl (Zkr (j:=1) rfl rfl u_0)<|o_p rfl (Zbh (zs:=[.slice none 0 0]) (by kernel_rfl) (fun g=>Zu4 g) rfl rfl)<|o_n) (fun a g hst hb=>?_)
 refine r_s (T:=[⟨[.o 0],_,[],[],[4]⟩,⟨[.p 0 0],_,[],[0],[5]⟩,⟨[.p 1 0],[(6,(pArr Zy 40 6 a0.Acts))],[7],[0,1],[6]⟩,⟨[.o 0],_,[],[0,1,2],[7]⟩,⟨[.o 0,.p 3 0,.p 2 0],[(1,(pBxO Zgs Zg3 (fun x:Zbk=>x.Acts) Zy 40 1 6 a0))],[2],[0,1,2,3],[1,4,7]⟩]) (F:=[.p 4 0,.o 1]) hst hb Za
  (o_p rfl (Zr Zh6 (off:=0) (by kernel_rfl) rfl rfl u_0)<|QP rfl Zkk u_0<|o_p rfl (Zl5 (j:=6) Zbd9 (Zmr _ hcl) rfl rfl (.cons u_0 .nil))<|o_p rfl (Zr Zh6 (off:=0) (by kernel_rfl) rfl rfl u_0)<|o_p rfl (Zym Zz6 Zwd rfl rfl (by decide) u_0 u_1 u_2 (fun g cs s0 s1 ys h k=>Zy2 h k))<|o_n) (fun a g hst hb=>?_)
 refine wp_seq ?_
 refine r_s (T:=[⟨[.o 0],_,[],[],[8]⟩,⟨[.p 0 0],_,[],[0],[9]⟩,⟨[.p 1 0],_,[],[0,1],[10]⟩,⟨[],_,[],[],[11]⟩]) (F:=[.o 0,.o 1,.p 2 0,.p 3 0]) hst hb Za
  (o_p rfl (Znb Zva (off:=0) (by kernel_rfl) (fun _=>rfl) rfl rfl u_0)<|o_p rfl (Zob Zwd rfl rfl u_0)<|o_p rfl (Z2q Tryz.underlying23 rfl rfl u_0)<|Qm rfl c_i<|o_n) (fun a g hst hb=>?_)
 refine Zb3 (fun a w=>∃ (g:G),w=g.w ∧ St 28 [(1,(pBxO Zgs Zg3 (fun x:Zbk=>x.Acts) Zy 40 1 6 a0)),(2,(pBox Zb5 2 (default:Zbk)))] a g ∧ Base g0 g) ?_ ?_
 ·rintro a w ⟨g,rfl,hst,hb⟩
  refine Zq ?_
  refine r_s (T:=[⟨[.o 0],[(27,(Zb5.pd a0))],[7],[],[27,1]⟩,⟨[.o 1,.p 0 0],_,[3],[0],[2]⟩]) (F:=[.p 1 0]) hst hb Za
   (o_p rfl (Zuz Z0i rfl Zbbo rfl rfl u_0)<|o_p rfl (Z3 Zol rfl rfl u_0 u_1)<|o_n) (fun a g hst hb=>?_)
  refine wp_ret ?_
  obtain ⟨u0,hu0,hq0⟩:=Zbf (P:=Tryz.prog) Zol (hst.at 0 rfl)
  exact Z4 rfl hst hb hu0 hq0
 ·refine wp_block ?_
  refine wp_loop_ghost (fun n a w=>∃ (i:Nat) (g:G),w=g.w ∧ St 28 [(1,(pBxO Zgs Zg3 (fun x:Zbk=>x.Acts) Zy 40 1 6 a0)),(2,(pBox Zb5 2 (default:Zbk))),(10,(pInt .i64 (a0.Acts.length:Int))),(11,(pInt .i64 (i:Int)))] a g ∧ Base g0 g ∧ i ≤ a0.Acts.length ∧ n=a0.Acts.length - i) a0.Acts.length ⟨0,g,rfl,hst,hb,Nat.zero_le _,rfl⟩ (fun n a w hI=>?_)
  obtain ⟨i,g,rfl,hst,hb,hi,rfl⟩:=hI
  refine r_s (T:=[⟨[.o 3,.o 2],_,[],[],[12]⟩]) (F:=[.o 0,.o 1,.o 2,.o 3,.p 0 0]) hst hb Za
   (o_p rfl (Zca rfl rfl u_0 u_1)<|o_n) (fun a g hst hb=>?_)
  refine wp_seq ?_
  refine wp_cond_split (hst.bool 4 rfl) (fun hc=>?_) (fun hc=>?_)
  ·have hlt:i < a0.Acts.length:=by have:=of_decide_eq_true hc;omega
   have hx:idx a0.Acts (i:Int)=some a0.Acts[i]:=Z2y (List.getElem?_eq_getElem hlt)
   refine wp_skip ?_
   refine Zq ?_
   refine wp_seq ?_
   refine wp_block ?_
   refine r_s (L:=[(1,_),(2,_),(10,_),(11,_)]) (T:=[⟨[.o 3],_,[],[],[13]⟩,⟨[.p 0 0],_,[],[0],[3]⟩]) (F:=[.o 0,.o 1,.p 1 0,.o 2,.o 3]) (hst.pick [0,1,2,3] rfl) hb Za
    (Qm rfl u_0<|Qa rfl u_0<|o_n) (fun a g hst hb=>?_)
   refine r_g (T:=[⟨[.o 0],_,[],[],[14]⟩,⟨[.p 0 0],_,[],[0],[15]⟩,⟨[.o 2],_,[],[],[16]⟩,⟨[.o 0],_,[],[],[17]⟩,⟨[.p 3 0],_,[],[3],[18]⟩,⟨[.o 2],_,[],[],[19]⟩,⟨[.p 4 0,.p 5 0],_,[],[3,4,5],[20]⟩,⟨[.p 6 0],_,[],[3,4,5,6],[21]⟩,⟨[.p 7 0],_,[],[3,4,5,6,7],[22]⟩,⟨[.p 8 0],_,[],[3,4,5,6,7,8],[23]⟩,⟨[.p 1 0,.p 2 0],_,[],[0,1,2,3,4,5,6,7,8,9],[24]⟩,⟨[.p 10 0],_,[],[0,1,2,3,4,5,6,7,8,9,10],[25]⟩,⟨[.o 0,.p 11 0,.p 9 0],[(1,(pBxO Zgs Zg3 (fun x:Zbk=>x.Acts) Zy 40 1 6 a0))],[7],[0,1,2,3,4,5,6,7,8,9,10,11],[1,14,15,17,18,20,21,24,25]⟩]) (F:=[.p 12 0,.o 1,.o 3,.o 4]) hst hb Za
    (o_p rfl (Znb Zva (off:=0) (by kernel_rfl) (fun _=>rfl) rfl rfl u_0)<|o_p rfl (Zob Zwd rfl rfl u_0)<|Qm rfl u_0<|o_p rfl (Znb Zva (off:=0) (by kernel_rfl) (fun _=>rfl) rfl rfl u_0)<|o_p rfl (Zob Zwd rfl rfl u_0)<|Qm rfl u_0<|o_p rfl (Zo1 Tryz.underlying23 Znr rfl rfl u_0 u_1 hx)<|o_p rfl (Zpj Zll (off2:=5) (by kernel_rfl) (by decide) rfl rfl u_0)<|o_p rfl (Zyx Zbb rfl rfl u_0)<|o_p rfl (Zl Zoq (Zgv _ (hrc _ (List.getElem_mem hlt))) rfl rfl (.cons u_0 .nil))<|o_p rfl (Zo1 Tryz.underlying23 Znr rfl rfl u_0 u_1 hx)<|o_p rfl (Zpj Zll (off2:=5) (by kernel_rfl) (by decide) rfl rfl u_0)<|o_p rfl (Zux (u:=a0.Acts[i]) (u':=a0.Acts[i]) (x':=a0) Zbb rfl rfl (by decide) u_0 u_1 u_2 (Zxc hx) (by decide) (by rw [Int.toNat_natCast];exact (List.set_getElem_self hlt).symm) (fun _=>rfl) (Zy4 _))<|o_n) (fun a g hst hb=>?_)
   refine Zbc ?_
   refine Zq ?_
   refine r_g (T:=[⟨[.o 3],_,[],[],[26]⟩,⟨[.p 0 0],_,[],[0],[11]⟩]) (F:=[.o 0,.o 1,.o 2,.p 1 0]) hst hb Za
    (o_p rfl (Zbz rfl rfl u_0 c_i (Zyh hlt (by omega)))<|Qm rfl u_0<|o_n) (fun a g hst hb=>?_)
   exact ⟨a0.Acts.length - (i + 1),by omega,i + 1,g,rfl,hst,hb,by omega,rfl⟩
  ·refine wp_exit ?_
   refine Zby ?_
   refine Zby ?_
   refine Zce ?_
   exact ⟨g,rfl,hst.pick [0,1] rfl,hb⟩
theorem Znx (a0:(List ByteArray)) {r:(List ByteArray)} (h:Zgw a0=some r):FnOk Tryz.prog 35 [(Kd.str.sl.pd a0)] (Kd.str.sl.pd r):=by
 unfold Zgw at h
 obtain ⟨hsz,H0⟩:=Zev h
 obtain rfl:=Option.some.inj H0
 refine Zbt (N:=8) Tryz.func35 rfl rfl (Qe rfl) rfl rfl (fun a g0 hst hb=>?_)
 refine wp_seq ?_
 refine Zmu Za (N:=8) (L:=[(0,(Kd.str.sl.pd a0))]) (T:=[⟨[],[(2,(Kd.str.sl.pd []))],[],[],[2]⟩]) (F:=[.o 0]) (by kernel_rfl)
  (Ze1 (OT.plain rfl (Zch rfl rfl (Opd.c (fun g=>Zhe g)))) Zky) hst hb (fun a g hst hb=>?_)
 refine Zq ?_
 refine wp_seq ?_
 refine wp_seq ?_
 refine Zmu Za (N:=8) (L:=[(0,(Kd.str.sl.pd a0))]) (T:=[⟨[.o 0],[(3,(Kd.str.sl.pd a0))],[],[],[3]⟩,⟨[.p 0 0],[(4,Z35 a0)],[],[0],[4]⟩]) (F:=[.o 0,.p 1 0]) (by kernel_rfl)
  (Ze1 (OT.plain rfl (Z1 rfl rfl Opd.t0)) (Ze1 (OT.plain rfl (Zq1 Tryz.underlying26 rfl rfl Opd.t0)) Zky)) hst hb (fun a g hst hb=>?_)
 refine Zq ?_
 obtain ⟨c,hc,hc'⟩:=hst.at 1 rfl
 refine wp_cond_split hc (fun ht=>?_) (fun hf=>?_)
 ·obtain rfl:=hc' ht
  refine wp_seq ?_
  refine Zmu Za (N:=8) (L:=[]) (T:=[⟨[],[(2,(Kd.str.sl.pd []))],[],[],[2]⟩]) (F:=[.p 0 0]) (by kernel_rfl)
   (Ze1 (OT.plain rfl (Zch rfl rfl (Opd.c (fun g=>Zhe g)))) Zky) (hst.pick [] rfl) hb (fun a g hst hb=>?_)
  refine Zq ?_
  refine wp_ret ?_
  refine Zp ?_
  exact Z4 rfl hst hb (Zg (s:=2)) (hst.at 0 rfl)
 ·refine wp_skip ?_
  refine Zq ?_
  refine wp_seq ?_
  have hsz':(([]:(List ByteArray)).length + a0.length) * 16 ≤ 140737488355328:=by simpa using hsz
  refine Zmu Za (N:=8) (L:=[(0,(Kd.str.sl.pd a0))]) (T:=[⟨[],[(5,(pRow Kd.str 9 5 []))],[6],[],[5]⟩,⟨[.o 0],[(6,(Kd.str.sl.pd a0))],[],[],[6]⟩,⟨[.p 0 0,.p 1 0],[(7,(pRow Kd.str 9 5 ([] ++ a0)))],[6],[0,1],[5,7]⟩,⟨[.p 2 0],[(2,(pRow Kd.str 9 5 ([] ++ a0)))],[],[0,1,2],[2]⟩]) (F:=[.p 3 0]) (by kernel_rfl)
   (Ze1 (OT.plain rfl (Zkw 5 Zr0 (xs:=[]) .nil (by decide) rfl rfl)) (Ze1 (OT.plain rfl (Z1 rfl rfl Opd.t0)) (Ze1 (OT.plain rfl (Zej Zr0 rfl rfl Opd.t0 (Opd.tl Opd.t0) hsz')) (Ze1 (OT.plain rfl (Zch rfl rfl Opd.t0)) Zky)))) (hst.pick [0] rfl) hb (fun a g hst hb=>?_)
  refine Zq ?_
  refine wp_ret ?_
  exact Z4 rfl hst hb (Zg (s:=2)) (Zd0 (hst.at 0 rfl))
theorem Zze (a0:Int) {r:Zcd} (h:Ze5 a0=some r):FnOk Tryz.prog 75 [(pInt .i64 a0)] (Zdg.pd r):=by
 have H0:=h
 unfold Ze5 at H0
 clear h
 refine Zbt (N:=24) Tryz.func75 rfl rfl (Qe rfl) rfl rfl (fun a g0 hst hb=>?_)
 refine r_s (T:=[⟨[],[(2,(pBox Zdg 2 (default:Zcd)))],[3],[],[2]⟩]) (F:=[.o 0,.p 0 0]) hst hb Za
  (o_p rfl (Zbh (zs:=[.bool false,.bool false,.bool false,.bool false,.bool false]) (by kernel_rfl) (fun g=>Zsp g) rfl rfl)<|o_n) (fun a g hst hb=>?_)
 refine wp_seq ?_
 refine r_s (T:=[⟨[.o 0],_,[],[],[3]⟩]) (F:=[.o 1,.p 0 0]) hst hb Za
  (Qm rfl u_0<|o_n) (fun a g hst hb=>?_)
 refine wp_block ?_
 refine r_s (T:=[⟨[.o 1],_,[],[],[5]⟩,⟨[.p 0 0],_,[],[0],[4]⟩]) (F:=[.o 0,.o 1,.p 1 0]) hst hb Za
  (o_p rfl (Zbr rfl rfl u_0 c_i)<|Qa rfl u_0<|o_n) (fun a g hst hb=>?_)
 refine wp_cond_split (hst.bool 2 rfl) (fun hc1=>?_) (fun hc1=>?_)
 ·replace H0:=Zu hc1 H0
  refine r_s (L:=[(2,_)]) (T:=[⟨[],_,[],[],[6]⟩,⟨[.p 0 0,.o 0],_,[3],[0],[2]⟩]) (F:=[.p 1 0]) (hst.pick [0] rfl) hb Za
   (o_p rfl (Z7w rfl rfl c_b)<|o_p rfl (Z3 Zj6 rfl rfl u_1 u_0)<|o_n) (fun a g hst hb=>?_)
  refine wp_ret ?_
  refine Z5 ?_
  refine Zp ?_
  obtain rfl:=Option.some.inj H0
  obtain ⟨u0,hu0,hq0⟩:=Zbf (P:=Tryz.prog) Zj6 (hst.at 0 rfl)
  exact Z4 rfl hst hb hu0 hq0
 ·replace H0:=Zt hc1 H0
  refine wp_seq ?_
  refine r_s (L:=[(2,_),(3,_)]) (T:=[⟨[.o 1],_,[],[],[8]⟩,⟨[.p 0 0],_,[],[0],[7]⟩]) (F:=[.o 0,.o 1,.p 1 0]) (hst.pick [0,1] rfl) hb Za
   (o_p rfl (Zbr rfl rfl u_0 c_i)<|Qa rfl u_0<|o_n) (fun a g hst hb=>?_)
  refine Zb3 (fun a w=>∃ (j3:Bool) (g:G),w=g.w ∧ St 24 [(2,(pBox Zdg 2 (default:Zcd))),(3,(pInt .i64 a0)),(7,(Zbd j3))] a g ∧ Base g0 g ∧ Zlc a0 j3=some r) ?_ ?_
  ·rintro a w ⟨j3,g,rfl,hst,hb,H0⟩
   unfold Zlc at H0
   refine Zq ?_
   refine wp_cond_split (hst.bool 2 rfl) (fun hc4=>?_) (fun hc4=>?_)
   ·replace H0:=Zu hc4 H0
    refine r_s (L:=[(2,_)]) (T:=[⟨[],_,[],[],[10]⟩,⟨[.p 0 0,.o 0],_,[3],[0],[2]⟩]) (F:=[.p 1 0]) (hst.pick [0] rfl) hb Za
     (o_p rfl (Z67 rfl rfl c_b)<|o_p rfl (Z3 Zj6 rfl rfl u_1 u_0)<|o_n) (fun a g hst hb=>?_)
    refine wp_ret ?_
    refine Z5 ?_
    refine Zp ?_
    obtain rfl:=Option.some.inj H0
    obtain ⟨u0,hu0,hq0⟩:=Zbf (P:=Tryz.prog) Zj6 (hst.at 0 rfl)
    exact Z4 rfl hst hb hu0 hq0
   ·replace H0:=Zt hc4 H0
    refine r_s (L:=[(2,_),(3,_)]) (T:=[⟨[.o 1],_,[],[],[12]⟩,⟨[.p 0 0],_,[],[0],[11]⟩]) (F:=[.o 0,.o 1,.p 1 0]) (hst.pick [0,1] rfl) hb Za
     (o_p rfl (Zbr rfl rfl u_0 c_i)<|Qa rfl u_0<|o_n) (fun a g hst hb=>?_)
    refine wp_cond_split (hst.bool 2 rfl) (fun hc5=>?_) (fun hc5=>?_)
    ·replace H0:=Zu hc5 H0
     refine r_s (L:=[(2,_)]) (T:=[⟨[],_,[],[],[13]⟩,⟨[.p 0 0,.o 0],_,[3],[0],[2]⟩]) (F:=[.p 1 0]) (hst.pick [0] rfl) hb Za
      (o_p rfl (Z3y rfl rfl c_b c_b)<|o_p rfl (Z3 Zj6 rfl rfl u_1 u_0)<|o_n) (fun a g hst hb=>?_)
     refine wp_ret ?_
     refine Z5 ?_
     refine Zp ?_
     obtain rfl:=Option.some.inj H0
     obtain ⟨u0,hu0,hq0⟩:=Zbf (P:=Tryz.prog) Zj6 (hst.at 0 rfl)
     exact Z4 rfl hst hb hu0 hq0
    ·replace H0:=Zt hc5 H0
     refine wp_seq ?_
     refine r_s (L:=[(2,_),(3,_)]) (T:=[⟨[.o 1],_,[],[],[15]⟩,⟨[.p 0 0],_,[],[0],[14]⟩]) (F:=[.o 0,.o 1,.p 1 0]) (hst.pick [0,1] rfl) hb Za
      (o_p rfl (Zbr rfl rfl u_0 c_i)<|Qa rfl u_0<|o_n) (fun a g hst hb=>?_)
     refine Zb3 (fun a w=>∃ (j8:Bool) (g:G),w=g.w ∧ St 24 [(2,(pBox Zdg 2 (default:Zcd))),(3,(pInt .i64 a0)),(14,(Zbd j8))] a g ∧ Base g0 g ∧ Zju a0 j8=some r) ?_ ?_
     ·rintro a w ⟨j8,g,rfl,hst,hb,H0⟩
      unfold Zju at H0
      refine Zq ?_
      refine wp_cond_split (hst.bool 2 rfl) (fun hc9=>?_) (fun hc9=>?_)
      ·replace H0:=Zu hc9 H0
       refine r_s (L:=[(2,_)]) (T:=[⟨[],_,[],[],[18]⟩,⟨[.p 0 0,.o 0],_,[3],[0],[2]⟩]) (F:=[.p 1 0]) (hst.pick [0] rfl) hb Za
        (o_p rfl (Z7l rfl rfl c_b)<|o_p rfl (Z3 Zj6 rfl rfl u_1 u_0)<|o_n) (fun a g hst hb=>?_)
       refine wp_ret ?_
       refine Z5 ?_
       refine Zp ?_
       obtain rfl:=Option.some.inj H0
       obtain ⟨u0,hu0,hq0⟩:=Zbf (P:=Tryz.prog) Zj6 (hst.at 0 rfl)
       exact Z4 rfl hst hb hu0 hq0
      ·replace H0:=Zt hc9 H0
       refine wp_seq ?_
       refine r_s (L:=[(2,_),(3,_)]) (T:=[⟨[.o 1],_,[],[],[20]⟩,⟨[.p 0 0],_,[],[0],[19]⟩]) (F:=[.o 0,.o 1,.p 1 0]) (hst.pick [0,1] rfl) hb Za
        (o_p rfl (Zbr rfl rfl u_0 c_i)<|Qa rfl u_0<|o_n) (fun a g hst hb=>?_)
       refine Zb3 (fun a w=>∃ (j11:Bool) (g:G),w=g.w ∧ St 24 [(2,(pBox Zdg 2 (default:Zcd))),(19,(Zbd j11))] a g ∧ Base g0 g ∧ Zlg j11=some r) ?_ ?_
       ·rintro a w ⟨j11,g,rfl,hst,hb,H0⟩
        unfold Zlg at H0
        refine Zq ?_
        refine wp_cond_split (hst.bool 1 rfl) (fun hc12=>?_) (fun hc12=>?_)
        ·replace H0:=Zu hc12 H0
         refine r_s (L:=[(2,_)]) (T:=[⟨[],_,[],[],[22]⟩,⟨[.p 0 0,.o 0],_,[3],[0],[2]⟩]) (F:=[.p 1 0]) (hst.pick [0] rfl) hb Za
          (o_p rfl (Z7y rfl rfl c_b)<|o_p rfl (Z3 Zj6 rfl rfl u_1 u_0)<|o_n) (fun a g hst hb=>?_)
         refine wp_ret ?_
         refine Z5 ?_
         refine Zp ?_
         obtain rfl:=Option.some.inj H0
         obtain ⟨u0,hu0,hq0⟩:=Zbf (P:=Tryz.prog) Zj6 (hst.at 0 rfl)
         exact Z4 rfl hst hb hu0 hq0
        ·replace H0:=Zt hc12 H0
         refine wp_skip ?_
         refine Zbc ?_
         refine Zq ?_
         refine r_s (L:=[(2,_)]) (T:=[⟨[],_,[],[],[23]⟩,⟨[.p 0 0,.o 0],_,[3],[0],[2]⟩]) (F:=[.p 1 0]) (hst.pick [0] rfl) hb Za
          (o_p rfl (Zbah rfl rfl )<|o_p rfl (Z3 Zj6 rfl rfl u_1 u_0)<|o_n) (fun a g hst hb=>?_)
         refine wp_ret ?_
         obtain rfl:=Option.some.inj H0
         obtain ⟨u0,hu0,hq0⟩:=Zbf (P:=Tryz.prog) Zj6 (hst.at 0 rfl)
         exact Z4 rfl hst hb hu0 hq0
       ·refine wp_cond_split (hst.bool 2 rfl) (fun hc10=>?_) (fun hc10=>?_)
        ·replace H0:=Zu hc10 H0
         refine wp_skip ?_
         exact ⟨(a0 == (8:Int)),g,rfl,(hst.pick [0,2] rfl),hb,H0⟩
        ·replace H0:=Zt hc10 H0
         refine r_g (L:=[(2,_),(3,_)]) (T:=[⟨[.o 1],_,[],[],[21]⟩,⟨[.p 0 0],_,[],[0],[19]⟩]) (F:=[.o 0,.p 1 0]) (hst.pick [0,1] rfl) hb Za
          (o_p rfl (Zbr rfl rfl u_0 c_i)<|Qa rfl u_0<|o_n) (fun a g hst hb=>?_)
         exact ⟨(a0 == (9:Int)),g,rfl,(hst.pick [0,1] rfl),hb,H0⟩
     ·refine wp_cond_split (hst.bool 2 rfl) (fun hc6=>?_) (fun hc6=>?_)
      ·replace H0:=Zu hc6 H0
       refine wp_skip ?_
       exact ⟨(a0 == (5:Int)),g,rfl,(hst.pick [0,1,2] rfl),hb,H0⟩
      ·replace H0:=Zt hc6 H0
       refine r_s (L:=[(2,_),(3,_)]) (T:=[⟨[.o 1],_,[],[],[16]⟩,⟨[.p 0 0],_,[],[0],[14]⟩]) (F:=[.o 0,.o 1,.p 1 0]) (hst.pick [0,1] rfl) hb Za
        (o_p rfl (Zbr rfl rfl u_0 c_i)<|Qa rfl u_0<|o_n) (fun a g hst hb=>?_)
       refine wp_cond_split (hst.bool 2 rfl) (fun hc7=>?_) (fun hc7=>?_)
       ·replace H0:=Zu hc7 H0
        refine wp_skip ?_
        exact ⟨(a0 == (6:Int)),g,rfl,(hst.pick [0,1,2] rfl),hb,H0⟩
       ·replace H0:=Zt hc7 H0
        refine r_g (L:=[(2,_),(3,_)]) (T:=[⟨[.o 1],_,[],[],[17]⟩,⟨[.p 0 0],_,[],[0],[14]⟩]) (F:=[.o 0,.o 1,.p 1 0]) (hst.pick [0,1] rfl) hb Za
         (o_p rfl (Zbr rfl rfl u_0 c_i)<|Qa rfl u_0<|o_n) (fun a g hst hb=>?_)
        exact ⟨(a0 == (7:Int)),g,rfl,(hst.pick [0,1,2] rfl),hb,H0⟩
  ·refine wp_cond_split (hst.bool 2 rfl) (fun hc2=>?_) (fun hc2=>?_)
   ·replace H0:=Zu hc2 H0
    refine wp_skip ?_
    exact ⟨(a0 == (2:Int)),g,rfl,(hst.pick [0,1,2] rfl),hb,H0⟩
   ·replace H0:=Zt hc2 H0
    refine r_g (L:=[(2,_),(3,_)]) (T:=[⟨[.o 1],_,[],[],[9]⟩,⟨[.p 0 0],_,[],[0],[7]⟩]) (F:=[.o 0,.o 1,.p 1 0]) (hst.pick [0,1] rfl) hb Za
     (o_p rfl (Zbr rfl rfl u_0 c_i)<|Qa rfl u_0<|o_n) (fun a g hst hb=>?_)
    exact ⟨(a0 == (3:Int)),g,rfl,(hst.pick [0,1,2] rfl),hb,H0⟩
theorem Z2c {r:Nat} (h:Zrp=some r):FnOk Tryz.prog 132 [] (pFlt r):=by
 have H0:=h
 unfold Zrp at H0
 clear h
 refine Zbt (N:=2) Tryz.func132 rfl rfl (Qe rfl) rfl rfl (fun a g0 hst hb=>?_)
 refine r_s (T:=[⟨[],_,[],[],[0]⟩]) (F:=[]) hst hb Za
  (Qa rfl c_f<|o_n) (fun a g hst hb=>?_)
 refine r_s (T:=[⟨[],_,[],[],[1]⟩,⟨[.p 0 0],_,[],[0],[0]⟩]) (F:=[.p 1 0]) hst hb Za
  (o_p rfl (Zqu Z1s rfl rfl c_i)<|Qa rfl u_0<|o_n) (fun a g hst hb=>?_)
 refine wp_ret ?_
 obtain rfl:=Option.some.inj H0
 exact Z4 rfl hst hb (Zg (s:=0)) (hst.at 0 rfl)
theorem Zim (a0:Nat) {r:Nat} (h:Zgm a0=some r):FnOk Tryz.prog 100 [(pFlt a0)] (pFlt r):=by
 have H0:=h
 unfold Zgm at H0
 clear h
 refine Zbt (N:=8) Tryz.func100 rfl rfl (Qe rfl) rfl rfl (fun a g0 hst hb=>?_)
 refine r_s (T:=[⟨[],_,[],[],[2]⟩]) (F:=[.o 0]) hst hb Za
  (Qa rfl c_f<|o_n) (fun a g hst hb=>?_)
 refine wp_seq ?_
 refine r_s (T:=[⟨[.o 0],_,[],[],[3]⟩,⟨[.o 0],_,[],[],[4]⟩,⟨[.p 0 0,.p 1 0],_,[],[0,1],[5]⟩]) (F:=[.o 0,.p 2 0]) hst hb Za
  (Qm rfl u_0<|Qm rfl u_0<|o_p rfl (Z3g rfl rfl u_0 u_1)<|o_n) (fun a g hst hb=>?_)
 refine wp_cond_split (hst.bool 1 rfl) (fun hc1=>?_) (fun hc1=>?_)
 ·replace H0:=Zu hc1 H0
  obtain ⟨r2,h3,H0⟩:=Zd H0
  refine r_s (L:=[]) (T:=[⟨[],_,[],[],[6]⟩,⟨[.p 0 0],_,[],[0],[2]⟩]) (F:=[.p 1 0]) (hst.pick [] rfl) hb Za
   (o_p rfl (Zl Zbb6 (Z2c h3) rfl rfl .nil)<|Qa rfl u_0<|o_n) (fun a g hst hb=>?_)
  refine wp_ret ?_
  refine Zp ?_
  obtain rfl:=Option.some.inj H0
  exact Z4 rfl hst hb (Zg (s:=2)) (hst.at 0 rfl)
 ·replace H0:=Zt hc1 H0
  refine wp_skip ?_
  refine Zq ?_
  refine r_s (L:=[(0,_)]) (T:=[⟨[.o 0],_,[],[],[7]⟩,⟨[.p 0 0],_,[],[0],[2]⟩]) (F:=[.p 1 0]) (hst.pick [0] rfl) hb Za
   (Qm rfl u_0<|Qa rfl u_0<|o_n) (fun a g hst hb=>?_)
  refine wp_ret ?_
  obtain rfl:=Option.some.inj H0
  exact Z4 rfl hst hb (Zg (s:=2)) (hst.at 0 rfl)
theorem Zpg (a0:Nat) {r:Int} (h:Zm7 a0=some r):FnOk Tryz.prog 89 [(pFlt a0)] (pInt .u64 r):=by
 have H0:=h
 unfold Zm7 at H0
 clear h
 refine Zbt (N:=14) Tryz.func89 rfl rfl (Qe rfl) rfl rfl (fun a g0 hst hb=>?_)
 refine r_s (T:=[⟨[],_,[],[],[2]⟩]) (F:=[.o 0]) hst hb Za
  (Qa rfl c_i<|o_n) (fun a g hst hb=>?_)
 obtain ⟨r1,h2,H0⟩:=Zd H0
 refine r_s (T:=[⟨[.o 0],_,[],[],[4]⟩,⟨[.p 0 0],_,[],[0],[5]⟩,⟨[.p 1 0],_,[],[0,1],[6]⟩,⟨[.p 2 0],_,[],[0,1,2],[3]⟩]) (F:=[.p 3 0]) hst hb Za
  (Qm rfl u_0<|o_p rfl (Zl Zoy (Zim _ h2) rfl rfl (.cons u_0 .nil))<|o_p rfl (Zq8 Zww rfl rfl u_0)<|Qa rfl u_0<|o_n) (fun a g hst hb=>?_)
 refine wp_seq ?_
 refine r_s (T:=[⟨[.o 0],_,[],[],[7]⟩,⟨[.p 0 0],_,[],[0],[8]⟩,⟨[.p 1 0],_,[],[0,1],[9]⟩]) (F:=[.o 0,.p 2 0]) hst hb Za
  (Qm rfl u_0<|o_p rfl (Zbb1 rfl rfl u_0 c_i)<|o_p rfl (Zcz rfl rfl u_0 c_i)<|o_n) (fun a g hst hb=>?_)
 refine wp_cond_split (hst.bool 1 rfl) (fun hc3=>?_) (fun hc3=>?_)
 ·replace H0:=Zu hc3 H0
  refine r_s (L:=[(3,_)]) (T:=[⟨[.o 0],_,[],[],[10]⟩,⟨[.p 0 0],_,[],[0],[11]⟩,⟨[.p 1 0],_,[],[0,1],[2]⟩]) (F:=[.p 2 0]) (hst.pick [0] rfl) hb Za
   (Qm rfl u_0<|o_p rfl (Z9v rfl rfl rfl u_0)<|Qa rfl u_0<|o_n) (fun a g hst hb=>?_)
  refine wp_ret ?_
  refine Zp ?_
  obtain rfl:=Option.some.inj H0
  exact Z4 rfl hst hb (Zg (s:=2)) (hst.at 0 rfl)
 ·replace H0:=Zt hc3 H0
  refine wp_skip ?_
  refine Zq ?_
  refine r_s (L:=[(3,_)]) (T:=[⟨[.o 0],_,[],[],[12]⟩,⟨[.p 0 0],_,[],[0],[13]⟩,⟨[.p 1 0],_,[],[0,1],[2]⟩]) (F:=[.p 2 0]) (hst.pick [0] rfl) hb Za
   (Qm rfl u_0<|o_p rfl (Zbdr rfl rfl u_0 c_i)<|Qa rfl u_0<|o_n) (fun a g hst hb=>?_)
  refine wp_ret ?_
  obtain rfl:=Option.some.inj H0
  exact Z4 rfl hst hb (Zg (s:=2)) (hst.at 0 rfl)
theorem Zlk (a0:Nat) (a1:Nat) {r:Bool} (h:Zki a0 a1=some r):FnOk Tryz.prog 62 [(pFlt a0),(pFlt a1)] (Zbd r):=by
 have H0:=h
 unfold Zki at H0
 clear h
 refine Zbt (N:=10) Tryz.func62 rfl rfl (Qe rfl) rfl rfl (fun a g0 hst hb=>?_)
 refine r_s (T:=[⟨[],_,[],[],[4]⟩]) (F:=[.o 0,.o 1]) hst hb Za
  (Qa rfl c_b<|o_n) (fun a g hst hb=>?_)
 obtain ⟨r1,h2,H0⟩:=Zd H0;obtain ⟨r3,h4,H0⟩:=Zd H0
 refine r_s (T:=[⟨[.o 0],_,[],[],[5]⟩,⟨[.p 0 0],_,[],[0],[6]⟩,⟨[.o 1],_,[],[],[7]⟩,⟨[.p 2 0],_,[],[0,1,2],[8]⟩,⟨[.p 1 0,.p 3 0],_,[],Lr 4,[9]⟩,⟨[.p 4 0],_,[],Lr 5,[4]⟩]) (F:=[.p 5 0]) hst hb Za
  (Qm rfl u_0<|o_p rfl (Zl Zzj (Zpg _ h2) rfl rfl (.cons u_0 .nil))<|Qm rfl u_0<|o_p rfl (Zl Zzj (Zpg _ h4) rfl rfl (.cons u_0 .nil))<|o_p rfl (Zbr rfl rfl u_0 u_1)<|Qa rfl u_0<|o_n) (fun a g hst hb=>?_)
 refine wp_ret ?_
 obtain rfl:=Option.some.inj H0
 exact Z4 rfl hst hb (Zg (s:=4)) (hst.at 0 rfl)
theorem Z11 (a0:Zb) (a1:Zcd) {r:Bool} (h:Zpr a0 a1=some r):FnOk Tryz.prog 76 [(Ze.pd a0),(Zdg.pd a1)] (Zbd r):=by
 have H0:=h
 unfold Zpr at H0
 clear h
 refine Zbt (N:=59) Tryz.func76 rfl rfl (Qe rfl) rfl rfl (fun a g0 hst hb=>?_)
 refine r_s (T:=[⟨[.o 0],_,[],[],[2]⟩,⟨[.o 1],_,[],[],[3]⟩,⟨[],_,[],[],[4]⟩]) (F:=[.p 0 0,.p 1 0]) hst hb Za
  (Qb rfl u_0<|Qb rfl u_0<|Qa rfl c_b<|o_n) (fun a g hst hb=>?_)
 obtain ⟨r1,h2,H0⟩:=Zd H0
 refine r_s (T:=⟨[.o 1],_,[],[],[5]⟩ :: ⟨[.p 0 0],_,[],[0],[6]⟩ :: ⟨[.p 1 0],_,[],[0,1],[7]⟩ :: ⟨[.p 2 0,.o 0],_,[],[0,1,2],[8]⟩ :: ⟨[.p 2 0,.p 3 0],_,[],Lr 4,[9]⟩ :: ⟨[.p 2 0,.p 4 0],_,[],Lr 5,[10]⟩ :: ⟨[.p 2 0,.p 5 0],_,[],Lr 6,[11]⟩ :: ⟨[.p 6 0],_,[],Lr 7,[12]⟩ :: ⟨[.p 7 0,.o 1],_,[],Lr 8,[13]⟩ :: ⟨[.p 7 0,.p 8 0],_,[],Lr 9,[14]⟩ :: ⟨[.p 7 0,.p 9 0],_,[],Lr 10,[15]⟩ :: ⟨[.p 10 0,.o 0],_,[],Lr 11,[16]⟩ :: ⟨[.p 10 0,.p 11 0],_,[],Lr 12,[17]⟩ :: ⟨[.p 10 0,.p 12 0],_,[],Lr 13,[18]⟩ :: ⟨[.p 7 0,.p 10 0,.p 13 0],_,[],Lr 14,[19]⟩ :: ⟨[.p 7 0,.p 14 0],_,[],Lr 15,[20]⟩ :: ⟨[.p 15 0],_,[],Lr 16,[21]⟩ :: ⟨[.p 16 0,.o 1],_,[],Lr 17,[22]⟩ :: ⟨[.p 16 0,.p 17 0],_,[],Lr 18,[23]⟩ :: ⟨[.p 16 0,.p 18 0],_,[],Lr 19,[24]⟩ :: ⟨[.p 19 0,.o 0],_,[],Lr 20,[25]⟩ :: ⟨[.p 19 0,.p 20 0],_,[],Lr 21,[26]⟩ :: ⟨[.p 19 0,.p 21 0],_,[],Lr 22,[27]⟩ :: ⟨[.p 19 0,.p 22 0],_,[],Lr 23,[28]⟩ :: ⟨[.p 23 0,.o 0],_,[],Lr 24,[29]⟩ :: ⟨[.p 23 0,.p 24 0],_,[],Lr 25,[30]⟩ :: ⟨[.p 23 0,.p 25 0],_,[],Lr 26,[31]⟩ :: ⟨[.p 19 0,.p 23 0,.p 26 0],_,[],Lr 27,[32]⟩ :: ⟨[.p 16 0,.p 19 0,.p 27 0],_,[],Lr 28,[33]⟩ :: ⟨[.p 16 0,.p 28 0],_,[],Lr 29,[34]⟩ :: ⟨[.p 29 0],_,[],Lr 30,[35]⟩ :: ⟨[.p 30 0,.o 1],_,[],Lr 31,[36]⟩ :: ⟨[.p 30 0,.p 31 0],_,[],Lr 32,[37]⟩ :: ⟨[.p 30 0,.p 32 0],_,[],Lr 33,[38]⟩ :: ⟨[.p 33 0,.o 0],_,[],Lr 34,[39]⟩ :: ⟨[.p 33 0,.p 34 0],_,[],Lr 35,[40]⟩ :: ⟨[.p 33 0,.p 35 0],_,[],Lr 36,[41]⟩ :: ⟨[.p 30 0,.p 33 0,.p 36 0],_,[],Lr 37,[42]⟩ :: ⟨[.p 30 0,.p 37 0],_,[],Lr 38,[43]⟩ :: ⟨[.p 38 0],_,[],Lr 39,[44]⟩ :: ⟨[.p 39 0,.o 1],_,[],Lr 40,[45]⟩ :: ⟨[.p 39 0,.p 40 0],_,[],Lr 41,[46]⟩ :: ⟨[.p 39 0,.p 41 0],_,[],Lr 42,[47]⟩ :: ⟨[.p 42 0,.o 0],_,[],Lr 43,[48]⟩ :: ⟨[.p 42 0,.p 43 0],_,[],Lr 44,[49]⟩ :: ⟨[.p 42 0,.p 44 0],_,[],Lr 45,[50]⟩ :: ⟨[.p 42 0,.p 45 0],_,[],Lr 46,[51]⟩ :: ⟨[.p 46 0,.o 0],_,[],Lr 47,[52]⟩ :: ⟨[.p 46 0,.p 47 0],_,[],Lr 48,[53]⟩ :: ⟨[.p 46 0,.p 48 0],_,[],Lr 49,[54]⟩ :: ⟨[.p 46 0,.p 49 0],_,[],Lr 50,[55]⟩ :: ⟨[.p 42 0,.p 46 0,.p 50 0],_,[],Lr 51,[56]⟩ :: ⟨[.p 39 0,.p 42 0,.p 51 0],_,[],Lr 52,[57]⟩ :: ⟨[.p 39 0,.p 52 0],_,[],Lr 53,[58]⟩ :: ⟨[.p 53 0],_,[],Lr 54,[4]⟩ :: []) (F:=[.p 54 0]) hst hb Za
  (Qf rfl Z7x u_0<|Ql rfl ty_4 u_0<|Qm rfl u_0<|o_g (Qg_f rfl (fun hG=>Zh Zjh rfl rfl u_0))<|o_g (Qg_f rfl (fun hG=>Zs ty_9 rfl rfl (Opd.gd hG u_0)))<|o_g (Qg_f rfl (fun hG=>Zkq rfl rfl (Opd.gd hG u_0) c_s))<|o_p rfl (Zbm rfl rfl u_0 (fun hz=>(Opd.gd (bNF hz) u_1)))<|Qm rfl u_0<|o_g (Qg_t rfl (fun hG=>Zh Z7m rfl rfl u_0))<|o_g (Qg_t rfl (fun hG=>Zs ty_4 rfl rfl (Opd.gd hG u_0)))<|o_g (Qg_t rfl (fun hG=>Z1 rfl rfl (Opd.gd hG u_0)))<|o_g (Qg_fi rfl (fun hG=>Zh Zc2 rfl rfl u_0))<|o_g (Qg_fi rfl (fun hG=>Zs ty_2 rfl rfl (Opd.gd hG u_0)))<|o_g (Qg_fi rfl (fun hG=>Zbr rfl rfl (Opd.gd hG u_0) c_i))<|o_g (Qg_t rfl (fun hG=>Zbm rfl rfl (Opd.gd hG u_0) (fun hz=>(Opd.gd (bA hG (bNF hz)) u_1))))<|o_p rfl (Zbg rfl rfl u_0 (fun hz=>(Opd.gd hz u_1)))<|Qm rfl u_0<|o_g (Qg_t rfl (fun hG=>Zh Z0f rfl rfl u_0))<|o_g (Qg_t rfl (fun hG=>Zs ty_4 rfl rfl (Opd.gd hG u_0)))<|o_g (Qg_t rfl (fun hG=>Z1 rfl rfl (Opd.gd hG u_0)))<|o_g (Qg_fi rfl (fun hG=>Zh Zjv rfl rfl u_0))<|o_g (Qg_fi rfl (fun hG=>Zs ty_2 rfl rfl (Opd.gd hG u_0)))<|o_g (Qg_fi rfl (fun hG=>Zbr rfl rfl (Opd.gd hG u_0) c_i))<|o_g (Qg_fi rfl (fun hG=>Z1 rfl rfl (Opd.gd hG u_0)))<|o_g (Qg_ti rfl (fun hG=>Zh Zjw rfl rfl u_0))<|o_g (Qg_ti rfl (fun hG=>Zs ty_2 rfl rfl (Opd.gd hG u_0)))<|o_g (Qg_ti rfl (fun hG=>Zbr rfl rfl (Opd.gd hG u_0) c_i))<|o_g (Qg_fi rfl (fun hG=>Zbg rfl rfl (Opd.gd hG u_0) (fun hz=>(Opd.gd (bA hG hz) u_1))))<|o_g (Qg_t rfl (fun hG=>Zbm rfl rfl (Opd.gd hG u_0) (fun hz=>(Opd.gd (bA hG (bNF hz)) u_1))))<|o_p rfl (Zbg rfl rfl u_0 (fun hz=>(Opd.gd hz u_1)))<|Qm rfl u_0<|o_g (Qg_t rfl (fun hG=>Zh Z61 rfl rfl u_0))<|o_g (Qg_t rfl (fun hG=>Zs ty_4 rfl rfl (Opd.gd hG u_0)))<|o_g (Qg_t rfl (fun hG=>Z1 rfl rfl (Opd.gd hG u_0)))<|o_g (Qg_fi rfl (fun hG=>Zh Zgi rfl rfl u_0))<|o_g (Qg_fi rfl (fun hG=>Zs Zc0 rfl rfl (Opd.gd hG u_0)))<|o_g (Qg_fi rfl (fun hG=>Zl Ztx (Zlk _ _ (Zbn h2 hG)) rfl rfl (.cons (Opd.gd hG u_0) (.cons c_f .nil))))<|o_g (Qg_t rfl (fun hG=>Zbm rfl rfl (Opd.gd hG u_0) (fun hz=>(Opd.gd (bA hG (bNF hz)) u_1))))<|o_p rfl (Zbg rfl rfl u_0 (fun hz=>(Opd.gd hz u_1)))<|Qm rfl u_0<|o_g (Qg_t rfl (fun hG=>Zh Zz2 rfl rfl u_0))<|o_g (Qg_t rfl (fun hG=>Zs ty_4 rfl rfl (Opd.gd hG u_0)))<|o_g (Qg_t rfl (fun hG=>Z1 rfl rfl (Opd.gd hG u_0)))<|o_g (Qg_fi rfl (fun hG=>Zh Zg8 rfl rfl u_0))<|o_g (Qg_fi rfl (fun hG=>Zs ty_3 rfl rfl (Opd.gd hG u_0)))<|o_g (Qg_fi rfl (fun hG=>Zbr rfl rfl (Opd.gd hG u_0) c_i))<|o_g (Qg_fi rfl (fun hG=>Z1 rfl rfl (Opd.gd hG u_0)))<|o_g (Qg_ti rfl (fun hG=>Zh Zcc rfl rfl u_0))<|o_g (Qg_ti rfl (fun hG=>Zs Zdc rfl rfl (Opd.gd hG u_0)))<|o_g (Qg_ti rfl (fun hG=>Zbv Tryz.underlying36 rfl rfl (Opd.gd hG u_0)))<|o_g (Qg_ti rfl (fun hG=>Zbr rfl rfl (Opd.gd hG u_0) c_i))<|o_g (Qg_fi rfl (fun hG=>Zbg rfl rfl (Opd.gd hG u_0) (fun hz=>(Opd.gd (bA hG hz) u_1))))<|o_g (Qg_t rfl (fun hG=>Zbm rfl rfl (Opd.gd hG u_0) (fun hz=>(Opd.gd (bA hG (bNF hz)) u_1))))<|o_p rfl (Zbg rfl rfl u_0 (fun hz=>(Opd.gd hz u_1)))<|Qa rfl u_0<|o_n) (fun a g hst hb=>?_)
 refine wp_ret ?_
 obtain rfl:=Option.some.inj H0
 exact Z4 rfl hst hb (Zg (s:=4)) (hst.at 0 rfl)
theorem Zo8 (a0:Nat) {r:Bool} (h:Zlb a0=some r):FnOk Tryz.prog 77 [(pFlt a0)] (Zbd r):=by
 have H0:=h
 unfold Zlb at H0
 clear h
 refine Zbt (N:=9) Tryz.func77 rfl rfl (Qe rfl) rfl rfl (fun a g0 hst hb=>?_)
 refine r_s (T:=[⟨[],_,[],[],[2]⟩]) (F:=[.o 0]) hst hb Za
  (Qa rfl c_b<|o_n) (fun a g hst hb=>?_)
 obtain ⟨r1,h2,H0⟩:=Zd H0
 refine r_s (T:=[⟨[.o 0],_,[],[],[3]⟩,⟨[.p 0 0],_,[],[0],[4]⟩,⟨[.o 0],_,[],[],[5]⟩,⟨[.p 2 0],_,[],[0,1,2],[6]⟩,⟨[.p 3 0],_,[],Lr 4,[7]⟩,⟨[.p 1 0,.p 4 0],_,[],Lr 5,[8]⟩,⟨[.p 5 0],_,[],Lr 6,[2]⟩]) (F:=[.p 6 0]) hst hb Za
  (Qm rfl u_0<|o_p rfl (Zq8 Zww rfl rfl u_0)<|Qm rfl u_0<|o_p rfl (Zl Zoy (Zim _ h2) rfl rfl (.cons u_0 .nil))<|o_p rfl (Zq8 Zww rfl rfl u_0)<|o_p rfl (Zbr rfl rfl u_0 u_1)<|Qa rfl u_0<|o_n) (fun a g hst hb=>?_)
 refine wp_ret ?_
 obtain rfl:=Option.some.inj H0
 exact Z4 rfl hst hb (Zg (s:=2)) (hst.at 0 rfl)
theorem Zqv (a0:Nat) (a1:Nat) {r:Bool} (h:Zm2 a0 a1=some r):FnOk Tryz.prog 133 [(pFlt a0),(pFlt a1)] (Zbd r):=by
 have H0:=h
 unfold Zm2 at H0
 clear h
 refine Zbt (N:=10) Tryz.func133 rfl rfl (Qe rfl) rfl rfl (fun a g0 hst hb=>?_)
 refine r_s (T:=[⟨[],_,[],[],[4]⟩]) (F:=[.o 0,.o 1]) hst hb Za
  (Qa rfl c_b<|o_n) (fun a g hst hb=>?_)
 obtain ⟨r1,h2,H0⟩:=Zd H0;obtain ⟨r3,h4,H0⟩:=Zd H0
 refine r_s (T:=[⟨[.o 0],_,[],[],[5]⟩,⟨[.p 0 0],_,[],[0],[6]⟩,⟨[.o 1],_,[],[],[7]⟩,⟨[.p 2 0],_,[],[0,1,2],[8]⟩,⟨[.p 1 0,.p 3 0],_,[],Lr 4,[9]⟩,⟨[.p 4 0],_,[],Lr 5,[4]⟩]) (F:=[.p 5 0]) hst hb Za
  (Qm rfl u_0<|o_p rfl (Zl Zzj (Zpg _ h2) rfl rfl (.cons u_0 .nil))<|Qm rfl u_0<|o_p rfl (Zl Zzj (Zpg _ h4) rfl rfl (.cons u_0 .nil))<|o_p rfl (Zca rfl rfl u_0 u_1)<|Qa rfl u_0<|o_n) (fun a g hst hb=>?_)
 refine wp_ret ?_
 obtain rfl:=Option.some.inj H0
 exact Z4 rfl hst hb (Zg (s:=4)) (hst.at 0 rfl)
theorem Zo9 (a0:Zi) (a1:Zi) {r:Bool} (h:Zk1 a0 a1=some r):FnOk Tryz.prog 101 [(Zz.pd a0),(Zz.pd a1)] (Zbd r):=by
 have H0:=h
 unfold Zk1 at H0
 clear h
 refine Zbt (N:=21) Tryz.func101 rfl rfl (Qe rfl) rfl rfl (fun a g0 hst hb=>?_)
 refine r_s (T:=[⟨[.o 0],_,[],[],[2]⟩,⟨[.o 1],_,[],[],[3]⟩,⟨[],_,[],[],[4]⟩]) (F:=[.p 0 0,.p 1 0]) hst hb Za
  (Qb rfl u_0<|Qb rfl u_0<|Qa rfl c_b<|o_n) (fun a g hst hb=>?_)
 refine wp_seq ?_
 obtain ⟨r1,h2,H0⟩:=Zd H0
 refine r_s (T:=[⟨[.o 0],_,[],[],[5]⟩,⟨[.p 0 0],_,[],[0],[6]⟩,⟨[.o 1],_,[],[],[7]⟩,⟨[.p 2 0],_,[],[2],[8]⟩,⟨[.p 1 0,.p 3 0],_,[],Lr 4,[9]⟩,⟨[.p 4 0],_,[],Lr 5,[10]⟩]) (F:=[.o 0,.o 1,.p 5 0]) hst hb Za
  (Qf rfl Zfy u_0<|Ql rfl Zc0 u_0<|Qf rfl Zfy u_0<|Ql rfl Zc0 u_0<|o_p rfl (Zl Ztx (Zlk _ _ h2) rfl rfl (.cons u_0 (.cons u_1 .nil)))<|Qn rfl u_0<|o_n) (fun a g hst hb=>?_)
 refine wp_cond_split (hst.bool 2 rfl) (fun hc3=>?_) (fun hc3=>?_)
 ·replace H0:=Zu hc3 H0
  obtain ⟨r4,h5,H0⟩:=Zd H0
  refine r_s (L:=[(2,_),(3,_)]) (T:=[⟨[.o 1],_,[],[],[11]⟩,⟨[.p 0 0],_,[],[0],[12]⟩,⟨[.o 0],_,[],[],[13]⟩,⟨[.p 2 0],_,[],[2],[14]⟩,⟨[.p 1 0,.p 3 0],_,[],Lr 4,[15]⟩,⟨[.p 4 0],_,[],Lr 5,[4]⟩]) (F:=[.p 5 0]) (hst.pick [0,1] rfl) hb Za
   (Qf rfl Zfy u_0<|Ql rfl Zc0 u_0<|Qf rfl Zfy u_0<|Ql rfl Zc0 u_0<|o_p rfl (Zl Z1a (Zqv _ _ h5) rfl rfl (.cons u_0 (.cons u_1 .nil)))<|Qa rfl u_0<|o_n) (fun a g hst hb=>?_)
  refine wp_ret ?_
  refine Zp ?_
  obtain rfl:=Option.some.inj H0
  exact Z4 rfl hst hb (Zg (s:=4)) (hst.at 0 rfl)
 ·replace H0:=Zt hc3 H0
  refine wp_skip ?_
  refine Zq ?_
  refine r_s (L:=[(2,_),(3,_)]) (T:=[⟨[.o 0],_,[],[],[16]⟩,⟨[.p 0 0],_,[],[0],[17]⟩,⟨[.o 1],_,[],[],[18]⟩,⟨[.p 2 0],_,[],[2],[19]⟩,⟨[.p 1 0,.p 3 0],_,[],Lr 4,[20]⟩,⟨[.p 4 0],_,[],Lr 5,[4]⟩]) (F:=[.p 5 0]) (hst.pick [0,1] rfl) hb Za
   (Qf rfl Zd7 u_0<|Ql rfl ty_9 u_0<|Qf rfl Zd7 u_0<|Ql rfl ty_9 u_0<|o_p rfl (Zni rfl rfl u_0 u_1)<|Qa rfl u_0<|o_n) (fun a g hst hb=>?_)
  refine wp_ret ?_
  obtain rfl:=Option.some.inj H0
  exact Z4 rfl hst hb (Zg (s:=4)) (hst.at 0 rfl)
theorem Z1d (a0:Int) (a1:List Zi) {r:Int} (h:Zoz a0 a1=some r):FnOk Tryz.prog 78 [(pInt .i64 a0),(Zz.sl.pd a1)] (pInt .i64 r):=by
 have H0:=h
 unfold Zoz at H0
 clear h
 refine Zbt (N:=70) Tryz.func78 rfl rfl (Qe rfl) rfl rfl (fun a g0 hst hb=>?_)
 refine r_s (T:=[⟨[],_,[],[],[4]⟩]) (F:=[.o 0,.o 1]) hst hb Za
  (Qa rfl c_i<|o_n) (fun a g hst hb=>?_)
 refine wp_seq ?_
 refine r_s (T:=[⟨[.o 1],_,[],[],[7]⟩,⟨[.p 0 0],_,[],[0],[8]⟩,⟨[],_,[],[],[9]⟩]) (F:=[.o 0,.o 1,.p 0 0,.p 1 0,.p 2 0]) hst hb Za
  (Qm rfl u_0<|o_p rfl (Zbv Tryz.underlying36 rfl rfl u_0)<|Qm rfl c_i<|o_n) (fun a g hst hb=>?_)
 obtain ⟨z19,hz1,H0⟩:=Zd H0
 refine Zb3 (fun a w=>∃ (g:G),w=g.w ∧ St 70 [] a g ∧ Base g0 g ∧ (.inr ())=z19) ?_ ?_
 ·rintro a w ⟨g,rfl,hst,hb,rfl⟩
  refine Zq ?_
  refine r_s (T:=[⟨[],_,[],[],[4]⟩]) (F:=[.p 0 0]) hst hb Za
   (Qa rfl c_i<|o_n) (fun a g hst hb=>?_)
  refine wp_ret ?_
  obtain rfl:=Option.some.inj H0
  exact Z4 rfl hst hb (Zg (s:=4)) (hst.at 0 rfl)
 ·refine wp_block ?_
  refine wp_loop_ghost (fun n a w=>∃ (x1:Int) (g:G),w=g.w ∧ St 70 [(0,(pInt .i64 a0)),(1,(Zz.sl.pd a1)),(7,(Zz.sl.pd a1)),(8,(pInt .i64 (a1.length:Int))),(9,(pInt .i64 x1))] a g ∧ Base g0 g ∧ Zgu a0 a1 n x1=some z19) (Int.toNat ((a1.length:Int) - (0:Int)) + 1) ⟨(0:Int),g,rfl,(hst.pick [0,1,2,3,4] rfl),hb,hz1⟩ (fun n a w hI=>?_)
  obtain ⟨x1,g,rfl,hst,hb,H1⟩:=hI
  cases n with
  | zero=>exact absurd H1 (by simp [Zgu])
  | succ n =>
   rw [Zgu] at H1
   refine r_s (T:=[⟨[.o 4,.o 3],_,[],[],[10]⟩]) (F:=[.o 0,.o 1,.o 2,.o 3,.o 4,.p 0 0]) hst hb Za
    (o_p rfl (Zca rfl rfl u_0 u_1)<|o_n) (fun a g hst hb=>?_)
   refine wp_seq ?_
   refine wp_cond_split (hst.bool 5 rfl) (fun hc2=>?_) (fun hc2=>?_)
   ·replace H1:=Zu hc2 H1
    refine wp_skip ?_
    refine Zq ?_
    refine wp_seq ?_
    refine wp_block ?_
    obtain ⟨e3,h4,H1⟩:=Zd H1
    refine r_s (L:=[(0,_),(1,_),(7,_),(8,_),(9,_)]) (T:=[⟨[.o 4],_,[],[],[11]⟩,⟨[.o 2,.o 4],_,[],[],[12]⟩,⟨[.p 1 0],_,[],[1],[13]⟩,⟨[],[(6,(pBox Zz 6 (default:Zi)))],[7],[],[6]⟩,⟨[.p 0 0],_,[],Lr 4,[5]⟩,⟨[.p 2 0,.p 3 0],_,[7],Lr 5,[6]⟩]) (F:=[.o 0,.o 1,.p 4 0,.p 5 0,.o 2,.o 3,.o 4]) (hst.pick [0,1,2,3,4] rfl) hb Za
     (Qm rfl u_0<|o_p rfl (Zbi Tryz.underlying36 Zfb rfl rfl u_0 u_1 h4)<|Ql rfl Zed u_0<|o_p rfl (Zbh (zs:=[.float .f64 0,.string ByteArray.empty]) (by kernel_rfl) (fun g=>Zlj g) rfl rfl)<|Qa rfl u_0<|o_p rfl (Zb6 Zed rfl rfl u_1 u_0)<|o_n) (fun a g hst hb=>?_)
    refine wp_block ?_
    refine r_s (T:=[⟨[.o 3],_,[],[],[15]⟩,⟨[.p 0 0],_,[],[0],[16]⟩,⟨[.p 1 0],_,[],[0,1],[17]⟩,⟨[.p 2 0],_,[],[0,1,2],[18]⟩,⟨[.p 3 0],_,[],Lr 4,[14]⟩]) (F:=[.o 0,.o 1,.o 2,.o 3,.o 4,.o 5,.o 6,.p 4 0]) hst hb Za
     (Qf rfl Zd7 u_0<|Ql rfl ty_9 u_0<|o_p rfl (Zge Tryz.underlying9 rfl rfl u_0)<|o_p rfl (Zcv rfl rfl u_0 c_i)<|Qa rfl u_0<|o_n) (fun a g hst hb=>?_)
    refine wp_cond_split (hst.bool 7 rfl) (fun hc5=>?_) (fun hc5=>?_)
    ·replace H1:=Zu hc5 H1
     refine r_s (L:=[]) (T:=[⟨[],_,[],[],[4]⟩]) (F:=[.p 0 0]) (hst.pick [] rfl) hb Za
      (Qa rfl c_i<|o_n) (fun a g hst hb=>?_)
     refine wp_ret ?_
     refine Z5 ?_
     refine Z5 ?_
     refine Zp ?_
     refine Zp ?_
     refine Z5 ?_
     refine Zp ?_
     refine Zp ?_
     obtain rfl:=Option.some.inj H1
     obtain rfl:=Option.some.inj H0
     exact Z4 rfl hst hb (Zg (s:=4)) (hst.at 0 rfl)
    ·replace H1:=Zt hc5 H1
     obtain ⟨r6,h7,H1⟩:=Zd H1;obtain ⟨r8,h9,H1⟩:=Zd H1
     refine r_s (L:=[(0,_),(1,_),(5,_),(6,_),(7,_),(8,_),(9,_)]) (T:=⟨[.o 0],_,[],[],[20]⟩ :: ⟨[.p 0 0],_,[],[0],[21]⟩ :: ⟨[.p 1 0],_,[],[0,1],[22]⟩ :: ⟨[.p 2 0,.o 3],_,[],[0,1,2],[23]⟩ :: ⟨[.p 2 0,.p 3 0],_,[],Lr 4,[24]⟩ :: ⟨[.p 2 0,.p 4 0],_,[],Lr 5,[25]⟩ :: ⟨[.p 2 0,.p 5 0],_,[],Lr 6,[26]⟩ :: ⟨[.p 2 0,.p 6 0],_,[],Lr 7,[27]⟩ :: ⟨[.p 7 0],_,[],Lr 8,[28]⟩ :: ⟨[.p 8 0,.o 3],_,[],Lr 9,[29]⟩ :: ⟨[.p 8 0,.p 9 0],_,[],Lr 10,[30]⟩ :: ⟨[.p 8 0,.p 10 0],_,[],Lr 11,[31]⟩ :: ⟨[.p 8 0,.p 11 0],_,[],Lr 12,[32]⟩ :: ⟨[.p 8 0,.p 12 0],_,[],Lr 13,[33]⟩ :: ⟨[.p 13 0],_,[],Lr 14,[19]⟩ :: []) (F:=[.o 0,.o 1,.o 2,.o 3,.o 4,.o 5,.o 6,.p 14 0]) (hst.pick [0,1,2,3,4,5,6] rfl) hb Za
      (Qm rfl u_0<|o_p rfl (Zbr rfl rfl u_0 c_i)<|Qm rfl u_0<|o_g (Qg_t rfl (fun hG=>Zh Zfy rfl rfl u_0))<|o_g (Qg_t rfl (fun hG=>Zs Zc0 rfl rfl (Opd.gd hG u_0)))<|o_g (Qg_t rfl (fun hG=>Zl Ztx (Zlk _ _ (Zbn h7 hG)) rfl rfl (.cons (Opd.gd hG u_0) (.cons c_f .nil))))<|o_g (Qg_t rfl (fun hG=>Zfh rfl rfl (Opd.gd hG u_0)))<|o_p rfl (Zbg rfl rfl u_0 (fun hz=>(Opd.gd hz u_1)))<|Qm rfl u_0<|o_g (Qg_f rfl (fun hG=>Zh Zfy rfl rfl u_0))<|o_g (Qg_f rfl (fun hG=>Zs Zc0 rfl rfl (Opd.gd hG u_0)))<|o_g (Qg_f rfl (fun hG=>Zl Z4i (Zo8 _ (Zbn h9 hG)) rfl rfl (.cons (Opd.gd hG u_0) .nil)))<|o_g (Qg_f rfl (fun hG=>Zfh rfl rfl (Opd.gd hG u_0)))<|o_p rfl (Zbm rfl rfl u_0 (fun hz=>(Opd.gd (bNF hz) u_1)))<|Qa rfl u_0<|o_n) (fun a g hst hb=>?_)
     refine wp_cond_split (hst.bool 7 rfl) (fun hc10=>?_) (fun hc10=>?_)
     ·replace H1:=Zu hc10 H1
      refine r_s (L:=[]) (T:=[⟨[],_,[],[],[4]⟩]) (F:=[.p 0 0]) (hst.pick [] rfl) hb Za
       (Qa rfl c_i<|o_n) (fun a g hst hb=>?_)
      refine wp_ret ?_
      refine Z5 ?_
      refine Z5 ?_
      refine Zp ?_
      refine Zp ?_
      refine Z5 ?_
      refine Zp ?_
      refine Zp ?_
      obtain rfl:=Option.some.inj H1
      obtain rfl:=Option.some.inj H0
      exact Z4 rfl hst hb (Zg (s:=4)) (hst.at 0 rfl)
     ·replace H1:=Zt hc10 H1
      obtain ⟨e11,h12,H1⟩:=Zd H1
      refine r_s (L:=[(0,_),(1,_),(5,_),(6,_),(7,_),(8,_),(9,_)]) (T:=⟨[.o 2],_,[],[],[35]⟩ :: ⟨[.p 0 0],_,[],[0],[36]⟩ :: ⟨[.p 1 0],_,[],[0,1],[37]⟩ :: ⟨[.p 2 0,.o 0],_,[],[0,1,2],[38]⟩ :: ⟨[.p 2 0,.p 3 0],_,[],Lr 4,[39]⟩ :: ⟨[.p 2 0,.p 4 0],_,[],Lr 5,[40]⟩ :: ⟨[.p 5 0],_,[],Lr 6,[41]⟩ :: ⟨[.p 6 0,.o 1],_,[],Lr 7,[42]⟩ :: ⟨[.p 6 0,.o 2],_,[],Lr 7,[43]⟩ :: ⟨[.p 6 0,.p 8 0],_,[],[0,1,2,3,4,5,6,8],[44]⟩ :: ⟨[.p 6 0,.p 7 0,.p 9 0],_,[],Lr 10,[45]⟩ :: ⟨[.p 6 0,.p 10 0],_,[],Lr 11,[46]⟩ :: ⟨[.p 6 0,.p 11 0],_,[],Lr 12,[47]⟩ :: ⟨[.p 6 0,.o 3],_,[],Lr 7,[48]⟩ :: ⟨[.p 6 0,.p 13 0],_,[],[0,1,2,3,4,5,6,13],[49]⟩ :: ⟨[.p 6 0,.p 12 0,.p 14 0],_,[],Lr 15,[50]⟩ :: ⟨[.p 6 0,.p 15 0],_,[],Lr 16,[51]⟩ :: ⟨[.p 16 0],_,[],Lr 17,[34]⟩ :: []) (F:=[.o 0,.o 1,.o 2,.o 3,.o 4,.o 5,.o 6,.p 17 0]) (hst.pick [0,1,2,3,4,5,6] rfl) hb Za
       (Qm rfl u_0<|o_p rfl (Zcv rfl rfl u_0 c_i)<|Qm rfl u_0<|o_g (Qg_t rfl (fun hG=>Z1 rfl rfl u_0))<|o_g (Qg_t rfl (fun hG=>Zbr rfl rfl (Opd.gd hG u_0) c_i))<|o_p rfl (Zbg rfl rfl u_0 (fun hz=>(Opd.gd hz u_1)))<|Qm rfl u_0<|o_g (Qg_t rfl (fun hG=>Z1 rfl rfl u_0))<|o_g (Qg_t rfl (fun hG=>Z1 rfl rfl u_0))<|o_g (Qg_t rfl (fun hG=>Zg7 rfl rfl (Opd.gd hG u_0) c_i rfl))<|o_g (Qg_t rfl (fun hG=>Zbi Tryz.underlying36 Zfb rfl rfl (Opd.gd hG u_0) (Opd.gd hG u_1) (Zbn h12 hG)))<|o_g (Qg_t rfl (fun hG=>Zh Zd7 rfl rfl (Opd.gd hG u_0)))<|o_g (Qg_t rfl (fun hG=>Zs ty_9 rfl rfl (Opd.gd hG u_0)))<|o_g (Qg_t rfl (fun hG=>Zh Zd7 rfl rfl u_0))<|o_g (Qg_t rfl (fun hG=>Zs ty_9 rfl rfl (Opd.gd hG u_0)))<|o_g (Qg_t rfl (fun hG=>Zbb3 rfl rfl (Opd.gd hG u_0) (Opd.gd hG u_1)))<|o_p rfl (Zbg rfl rfl u_0 (fun hz=>(Opd.gd hz u_1)))<|Qa rfl u_0<|o_n) (fun a g hst hb=>?_)
      refine wp_cond_split (hst.bool 7 rfl) (fun hc13=>?_) (fun hc13=>?_)
      ·replace H1:=Zu hc13 H1
       refine r_s (L:=[]) (T:=[⟨[],_,[],[],[4]⟩]) (F:=[.p 0 0]) (hst.pick [] rfl) hb Za
        (Qa rfl c_i<|o_n) (fun a g hst hb=>?_)
       refine wp_ret ?_
       refine Z5 ?_
       refine Z5 ?_
       refine Zp ?_
       refine Zp ?_
       refine Z5 ?_
       refine Zp ?_
       refine Zp ?_
       obtain rfl:=Option.some.inj H1
       obtain rfl:=Option.some.inj H0
       exact Z4 rfl hst hb (Zg (s:=4)) (hst.at 0 rfl)
      ·replace H1:=Zt hc13 H1
       obtain ⟨e14,h15,H1⟩:=Zd H1;obtain ⟨r16,h17,H1⟩:=Zd H1
       refine r_s (L:=[(0,_),(1,_),(5,_),(6,_),(7,_),(8,_),(9,_)]) (T:=⟨[.o 2],_,[],[],[53]⟩ :: ⟨[.p 0 0],_,[],[0],[54]⟩ :: ⟨[.p 1 0],_,[],[0,1],[55]⟩ :: ⟨[.p 2 0,.o 0],_,[],[0,1,2],[56]⟩ :: ⟨[.p 2 0,.p 3 0],_,[],Lr 4,[57]⟩ :: ⟨[.p 2 0,.p 4 0],_,[],Lr 5,[58]⟩ :: ⟨[.p 5 0],_,[],Lr 6,[59]⟩ :: ⟨[.p 6 0,.o 1],_,[],Lr 7,[60]⟩ :: ⟨[.p 6 0,.o 2],_,[],Lr 7,[61]⟩ :: ⟨[.p 6 0,.p 8 0],_,[],[0,1,2,3,4,5,6,8],[62]⟩ :: ⟨[.p 6 0,.p 7 0,.p 9 0],_,[],Lr 10,[63]⟩ :: ⟨[.p 6 0,.p 10 0],_,[],Lr 11,[64]⟩ :: ⟨[.p 6 0,.o 3],_,[],Lr 7,[65]⟩ :: ⟨[.p 6 0,.p 11 0,.p 12 0],_,[],Lr 13,[66]⟩ :: ⟨[.p 6 0,.p 13 0],_,[],Lr 14,[67]⟩ :: ⟨[.p 6 0,.p 14 0],_,[],Lr 15,[68]⟩ :: ⟨[.p 15 0],_,[],Lr 16,[52]⟩ :: []) (F:=[.o 0,.o 1,.o 4,.o 5,.o 6,.p 16 0]) (hst.pick [0,1,2,3,4,5,6] rfl) hb Za
        (Qm rfl u_0<|o_p rfl (Zcv rfl rfl u_0 c_i)<|Qm rfl u_0<|o_g (Qg_t rfl (fun hG=>Z1 rfl rfl u_0))<|o_g (Qg_t rfl (fun hG=>Zbr rfl rfl (Opd.gd hG u_0) c_i))<|o_p rfl (Zbg rfl rfl u_0 (fun hz=>(Opd.gd hz u_1)))<|Qm rfl u_0<|o_g (Qg_t rfl (fun hG=>Z1 rfl rfl u_0))<|o_g (Qg_t rfl (fun hG=>Z1 rfl rfl u_0))<|o_g (Qg_t rfl (fun hG=>Zg7 rfl rfl (Opd.gd hG u_0) c_i rfl))<|o_g (Qg_t rfl (fun hG=>Zbi Tryz.underlying36 Zfb rfl rfl (Opd.gd hG u_0) (Opd.gd hG u_1) (Zbn h15 hG)))<|o_g (Qg_t rfl (fun hG=>Zs Zed rfl rfl (Opd.gd hG u_0)))<|o_g (Qg_t rfl (fun hG=>Zs Zed rfl rfl u_0))<|o_g (Qg_t rfl (fun hG=>Zl Zz5 (Zo9 _ _ (Zbn h17 hG)) rfl rfl (.cons (Opd.gd hG u_0) (.cons (Opd.gd hG u_1) .nil))))<|o_g (Qg_t rfl (fun hG=>Zfh rfl rfl (Opd.gd hG u_0)))<|o_p rfl (Zbg rfl rfl u_0 (fun hz=>(Opd.gd hz u_1)))<|Qa rfl u_0<|o_n) (fun a g hst hb=>?_)
       refine wp_cond_split (hst.bool 5 rfl) (fun hc18=>?_) (fun hc18=>?_)
       ·replace H1:=Zu hc18 H1
        refine r_s (L:=[]) (T:=[⟨[],_,[],[],[4]⟩]) (F:=[.p 0 0]) (hst.pick [] rfl) hb Za
         (Qa rfl c_i<|o_n) (fun a g hst hb=>?_)
        refine wp_ret ?_
        refine Z5 ?_
        refine Z5 ?_
        refine Zp ?_
        refine Zp ?_
        refine Z5 ?_
        refine Zp ?_
        refine Zp ?_
        obtain rfl:=Option.some.inj H1
        obtain rfl:=Option.some.inj H0
        exact Z4 rfl hst hb (Zg (s:=4)) (hst.at 0 rfl)
       ·replace H1:=Zt hc18 H1
        refine wp_skip ?_
        refine Zbc ?_
        refine Zbc ?_
        refine Zq ?_
        refine r_g (L:=[(0,_),(1,_),(7,_),(8,_),(9,_)]) (T:=[⟨[.o 4],_,[],[],[69]⟩,⟨[.p 0 0],_,[],[0],[9]⟩]) (F:=[.o 0,.o 1,.o 2,.o 3,.p 1 0]) (hst.pick [0,1,2,3,4] rfl) hb Za
         (o_p rfl (Zbz rfl rfl u_0 c_i rfl)<|Qm rfl u_0<|o_n) (fun a g hst hb=>?_)
        exact ⟨n,Nat.lt_succ_self _,(IntKind.i64.wrap (x1 + (1:Int))),g,rfl,(hst.pick [0,1,2,3,4] rfl),hb,H1⟩
   ·replace H1:=Zt hc2 H1
    refine wp_exit ?_
    refine Zby ?_
    refine Zby ?_
    refine Zce ?_
    exact ⟨g,rfl,(hst.pick [] rfl),hb,Option.some.inj H1⟩
end Go.CL
