/- A part of the proof of HandApart. -/
import Derived.Test.YtlanlccmokaajaaGreatDoorHandApartC2
import Derived.Test.YtlanlccmokaajaaGreatDoorProg
set_option linter.unusedVariables false
set_option linter.unusedSimpArgs false
set_option maxRecDepth 100000
namespace Go.CL
open Go Go.RowKit
structure Zh where
 Score:Nat
 Name:ByteArray
 deriving Inhabited
structure Zb where
 Kind:Int
 Num:Int
 Low:Int
 High:Int
 Real:Nat
 Cap:Int
 Text:ByteArray
 List:List Zh
 deriving Inhabited
structure Zn where
 Kind:Int
 Key:ByteArray
 N:Int
 X:Nat
 S:ByteArray
 Make:Zb
 Must:Bool
 deriving Inhabited
structure Z9 where
 Acts:List Zn
 deriving Inhabited
structure Zcj where
 text:Bool
 num:Bool
 bounds:Bool
 real:Bool
 list:Bool
 deriving Inhabited
structure Zdv where
 word:ByteArray
 on:Int
 has:ByteArray
 deriving Inhabited
inductive shelf_nodeT where
 | nil
 | node (key:ByteArray) (rec_:Zb) (left:shelf_nodeT) (right:shelf_nodeT) (size:Int)
 deriving Inhabited
structure shelf_node where
 key:ByteArray
 rec_:Zb
 left:shelf_nodeT
 right:shelf_nodeT
 size:Int
 deriving Inhabited
def shelf_nodeT.un:shelf_nodeT → Option shelf_node
 | .nil=>none
 | .node x0 x1 x2 x3 x4=>some ⟨x0,x1,x2,x3,x4⟩
def shelf_node.up (x:shelf_node):shelf_nodeT:=.node x.key x.rec_ x.left x.right x.size
def shelf_nodeT.isNil:shelf_nodeT → Bool
 | .nil=>true
 | .node ..=>false
def shelf_nodeT.hh:shelf_nodeT → Nat
 | .nil=>0
 | .node x0 x1 x2 x3 x4=>max x2.hh x3.hh + 1
structure Zk where
 top:shelf_nodeT
 room:Int
 deriving Inhabited
structure Zd where
 Code:Int
 Num:Int
 Rec:Zb
 deriving Inhabited
structure Zs where
 Code:Int
 At:Int
 Answers:List Zd
 deriving Inhabited
structure Zw where
 d:Z9
 split:List ByteArray
 now:Zk
 out:Zs
 over:Bool
 deriving Inhabited
structure Zbg where
 Key:ByteArray
 Rec:Zb
 deriving Inhabited
structure Zf where
 L:List Zbg
 Room:Int
 deriving Inhabited
def g_0:List Zdv:=[{ word:=⟨#[]⟩,on:=(0),has:=⟨#[]⟩ },
 { word:=⟨#[110,101,119]⟩,on:=(0),has:=⟨#[109]⟩ },
 { word:=⟨#[100,114,111,112]⟩,on:=(0),has:=⟨#[]⟩ },
 { word:=⟨#[105,115]⟩,on:=(0),has:=⟨#[]⟩ },
 { word:=⟨#[108,111,111,107]⟩,on:=(0),has:=⟨#[]⟩ },
 { word:=⟨#[112,117,116]⟩,on:=(1),has:=⟨#[115]⟩ },
 { word:=⟨#[115,119,97,112]⟩,on:=(1),has:=⟨#[115]⟩ },
 { word:=⟨#[97,100,100]⟩,on:=(2),has:=⟨#[110]⟩ },
 { word:=⟨#[112,108,117,115]⟩,on:=(3),has:=⟨#[110]⟩ },
 { word:=⟨#[114,101,97,99,104]⟩,on:=(3),has:=⟨#[110]⟩ },
 { word:=⟨#[105,110]⟩,on:=(4),has:=⟨#[110]⟩ },
 { word:=⟨#[111,117,116]⟩,on:=(4),has:=⟨#[110]⟩ },
 { word:=⟨#[101,110,111,117,103,104]⟩,on:=(4),has:=⟨#[110]⟩ },
 { word:=⟨#[114,97,105,115,101]⟩,on:=(5),has:=⟨#[120]⟩ },
 { word:=⟨#[108,111,119,101,114]⟩,on:=(6),has:=⟨#[120]⟩ },
 { word:=⟨#[115,104,105,102,116]⟩,on:=(7),has:=⟨#[120]⟩ },
 { word:=⟨#[115,99,97,108,101]⟩,on:=(7),has:=⟨#[120]⟩ },
 { word:=⟨#[102,105,120]⟩,on:=(7),has:=⟨#[120]⟩ },
 { word:=⟨#[106,111,105,110]⟩,on:=(8),has:=⟨#[115]⟩ },
 { word:=⟨#[108,101,97,118,101]⟩,on:=(8),has:=⟨#[115]⟩ },
 { word:=⟨#[104,97,115]⟩,on:=(8),has:=⟨#[115]⟩ },
 { word:=⟨#[111,102,102,101,114]⟩,on:=(9),has:=⟨#[120,115]⟩ }]
def Zbz (a0:List Zh):Option (List Zh):=if a0.length * 24 ≤ 140737488355328 then some a0 else none
def Ze4 (a0:Zb):Option (Zb):=((Zbz a0.List).bind fun r1=>(some ({ a0 with List:=r1 })))
def Zgr (a0:List Zn):Option (List Zn):=if a0.length * 152 ≤ 140737488355328 then some a0 else none
def Zm3 (a0:Z9):Option (Z9):=if a0.Acts.length * 152 ≤ 140737488355328 ∧ (a0.Acts.all fun e=>decide (e.Make.List.length * 24 ≤ 140737488355328))=true then some a0 else none
def Zg9 (a0:List ByteArray):Option (List ByteArray):=if a0.length * 16 ≤ 140737488355328 then some a0 else none
def Zly (j11:Bool):Option (Zcj):=(if j11 then (some ({ text:=false,num:=false,bounds:=false,real:=false,list:=true }:Zcj)) else (some ({ text:=false,num:=false,bounds:=false,real:=false,list:=false }:Zcj)))
def Zke (a0:Int) (j8:Bool):Option (Zcj):=(if j8 then (some ({ text:=false,num:=false,bounds:=false,real:=true,list:=false }:Zcj)) else (if (a0 == (8:Int)) then (Zly (a0 == (8:Int))) else (Zly (a0 == (9:Int)))))
def Zlw (a0:Int) (j3:Bool):Option (Zcj):=(if j3 then (some ({ text:=false,num:=true,bounds:=false,real:=false,list:=false }:Zcj)) else (if (a0 == (4:Int)) then (some ({ text:=false,num:=true,bounds:=true,real:=false,list:=false }:Zcj)) else (if (a0 == (5:Int)) then (Zke a0 (a0 == (5:Int))) else (if (a0 == (6:Int)) then (Zke a0 (a0 == (6:Int))) else (Zke a0 (a0 == (7:Int)))))))
def Ze7 (a0:Int):Option (Zcj):=(if (a0 == (1:Int)) then (some ({ text:=true,num:=false,bounds:=false,real:=false,list:=false }:Zcj)) else (if (a0 == (2:Int)) then (Zlw a0 (a0 == (2:Int))) else (Zlw a0 (a0 == (3:Int)))))
def Zsq:Option (Nat):=(some (Int.toNat (9221120237041090561:Int)))
def Zgv (a0:Nat):Option (Nat):=(if (fneq a0 a0) then ((Zsq).bind fun r2=>(some r2)) else (some a0))
def Znu (a0:Nat):Option (Int):=((Zgv a0).bind fun r1=>(if ((bAnd .u64 (r1:Int) (9223372036854775808:Int)) != (0:Int)) then (some (bXor .u64 IntKind.u64.max (r1:Int))) else (some (bOr .u64 (r1:Int) (9223372036854775808:Int)))))
def Zk6 (a0:Nat) (a1:Nat):Option (Bool):=((Znu a0).bind fun r1=>((Znu a1).bind fun r3=>(some (r1 == r3))))
def Zqs (a0:Zb) (a1:Zcj):Option (Bool):=((gd ((((a1.text || (sEq a0.Text (⟨#[]⟩:ByteArray))) && (a1.num || (a0.Num == (0:Int)))) && (a1.bounds || ((a0.Low == (0:Int)) && (a0.High == (0:Int))))) && (!a1.real)) (Zk6 a0.Real (0:Nat))).bind fun r1=>(some (((((a1.text || (sEq a0.Text (⟨#[]⟩:ByteArray))) && (a1.num || (a0.Num == (0:Int)))) && (a1.bounds || ((a0.Low == (0:Int)) && (a0.High == (0:Int))))) && (a1.real || r1)) && (a1.list || ((a0.Cap == (0:Int)) && ((a0.List.length:Int) == (0:Int)))))))
def Zln (a0:Nat):Option (Bool):=((Zgv a0).bind fun r1=>(some ((a0:Int) == (r1:Int))))
def Znk (a0:Nat) (a1:Nat):Option (Bool):=((Znu a0).bind fun r1=>((Znu a1).bind fun r3=>(some (decide (r1 < r3)))))
def Zlr (a0:Zh) (a1:Zh):Option (Bool):=((Zk6 a0.Score a1.Score).bind fun r1=>(if (!r1) then ((Znk a1.Score a0.Score).bind fun r4=>(some r4)) else (some (sLt a0.Name a1.Name))))
def Zg5 (a0:Int) (a1:List Zh):Nat → (Int) → Option ((Int) ⊕ (Unit))
 | 0,_=>none
 | n + 1,x1=>(if (decide (x1 < (a1.length:Int))) then ((idx a1 x1).bind fun e3=>(if (decide ((16:Int) < (e3.Name.size:Int))) then (some (.inl (3:Int))) else ((gd (a0 == (8:Int)) (Zk6 e3.Score (0:Nat))).bind fun r6=>((gd (!((a0 == (8:Int)) && (!r6))) (Zln e3.Score)).bind fun r8=>(if (((a0 == (8:Int)) && (!r6)) || (!r8)) then (some (.inl (4:Int))) else ((gd ((decide ((0:Int) < x1)) && (a0 == (8:Int))) (idx a1 (IntKind.i64.wrap (x1 - (1:Int))))).bind fun e11=>(if (((decide ((0:Int) < x1)) && (a0 == (8:Int))) && (!sLt e11.Name e3.Name)) then (some (.inl (4:Int))) else ((gd ((decide ((0:Int) < x1)) && (a0 == (9:Int))) (idx a1 (IntKind.i64.wrap (x1 - (1:Int))))).bind fun e14=>((gd ((decide ((0:Int) < x1)) && (a0 == (9:Int))) (Zlr e14 e3)).bind fun r16=>(if (((decide ((0:Int) < x1)) && (a0 == (9:Int))) && (!r16)) then (some (.inl (4:Int))) else ((Zg5 a0 a1 n) (IntKind.i64.wrap (x1 + (1:Int)))))))))))))) else (some (.inr ())))
def Zpc (a0:Int) (a1:List Zh):Option (Int):=((Zg5 a0 a1 (Int.toNat ((a1.length:Int) - (0:Int)) + 1) (0:Int)).bind fun z19=>match z19 with | .inl r=>some r | .inr ()=>(some (0:Int)))
def Ze6 (a0:Zb):Option (Int):=((Ze7 a0.Kind).bind fun r1=>(if ((decide (a0.Kind ≤ (0:Int))) || (decide ((10:Int) ≤ a0.Kind))) then (some (5:Int)) else ((Zqs a0 r1).bind fun r4=>(if (!r4) then (some (4:Int)) else (if (decide ((64:Int) < (a0.Text.size:Int))) then (some (3:Int)) else (if (r1.bounds && ((((decide (a0.Low < (-2305843009213693952:Int))) || (decide ((2305843009213693952:Int) < a0.High))) || (decide (a0.Num < a0.Low))) || (decide (a0.High < a0.Num)))) then (some (1:Int)) else ((Zln a0.Real).bind fun r9=>(if (!r9) then (some (4:Int)) else (if (!r1.list) then (some (0:Int)) else (if ((decide (a0.Cap < (1:Int))) || (decide ((32:Int) < a0.Cap))) then (some (1:Int)) else (if (decide (a0.Cap < (a0.List.length:Int))) then (some (8:Int)) else ((Zpc a0.Kind a0.List).bind fun r15=>(some r15)))))))))))))
def Zqq (a0:Int):Option (Zdv):=(if ((decide (a0 ≤ (0:Int))) || (decide ((22:Int) ≤ a0))) then (some ({ word:=ByteArray.empty,on:=(0:Int),has:=ByteArray.empty }:Zdv)) else ((idx g_0 a0).bind fun e2=>(some e2)))
def Zbw (a0:List Zh) (a1:List Zh) (φ2:Zh → Zh → Option Bool):Nat → (Int) → Option ((Bool) ⊕ (Unit))
 | 0,_=>none
 | n + 1,x2=>(if (decide (x2 < (a0.length:Int))) then ((idx a0 x2).bind fun e4=>((idx a1 x2).bind fun e6=>((φ2 e4 e6).bind fun r8=>(if (!r8) then (some (.inl false)) else ((Zbw a0 a1 φ2 n) (IntKind.i64.wrap (x2 + (1:Int)))))))) else (some (.inr ())))
def Zcn (a0:List Zh) (a1:List Zh) (φ2:Zh → Zh → Option Bool):Option (Bool):=(if ((a0.length:Int) != (a1.length:Int)) then (some false) else ((Zbw a0 a1 φ2 (Int.toNat ((a0.length:Int) - (0:Int)) + 1) (0:Int)).bind fun z11=>match z11 with | .inl r=>some r | .inr ()=>(some true)))
def Zku (a0:Zh) (a1:Zh):Option (Bool):=((gd (sEq a0.Name a1.Name) (Zk6 a0.Score a1.Score)).bind fun r1=>(some ((sEq a0.Name a1.Name) && r1)))
def Zos (a0:Zb) (a1:Zb):Option (Bool):=((gd ((((a0.Kind == a1.Kind) && (a0.Num == a1.Num)) && (a0.Low == a1.Low)) && (a0.High == a1.High)) (Zk6 a0.Real a1.Real)).bind fun r1=>((gd (((((((a0.Kind == a1.Kind) && (a0.Num == a1.Num)) && (a0.Low == a1.Low)) && (a0.High == a1.High)) && r1) && (a0.Cap == a1.Cap)) && (sEq a0.Text a1.Text)) (Zcn a0.List a1.List (fun y0 y1=>Zku y0 y1))).bind fun r3=>(some ((((((((a0.Kind == a1.Kind) && (a0.Num == a1.Num)) && (a0.Low == a1.Low)) && (a0.High == a1.High)) && r1) && (a0.Cap == a1.Cap)) && (sEq a0.Text a1.Text)) && r3))))
def Zjm (a0:Zdv) (a1:Int):Nat → (Int) → Option ((Bool) ⊕ (Unit))
 | 0,_=>none
 | n + 1,x1=>(if (decide (x1 < (a0.has.size:Int))) then ((sidx a0.has x1).bind fun b3=>(if (b3 == a1) then (some (.inl true)) else ((Zjm a0 a1 n) (IntKind.i64.wrap (x1 + (1:Int)))))) else (some (.inr ())))
def Zdy (a0:Zdv) (a1:Int):Option (Bool):=((Zjm a0 a1 (Int.toNat ((a0.has.size:Int) - (0:Int)) + 1) (0:Int)).bind fun z6=>match z6 with | .inl r=>some r | .inr ()=>(some false))
def Zsw (a0:Zn) (a1:Zdv):Option (Bool):=((Zdy a1 (110:Int)).bind fun r1=>((gd (r1 || (a0.N == (0:Int))) (Zdy a1 (120:Int))).bind fun r3=>((gd ((r1 || (a0.N == (0:Int))) && (!r3)) (Zk6 a0.X (0:Nat))).bind fun r5=>((gd ((r1 || (a0.N == (0:Int))) && (r3 || r5)) (Zdy a1 (115:Int))).bind fun r7=>((gd (((r1 || (a0.N == (0:Int))) && (r3 || r5)) && (r7 || (sEq a0.S (⟨#[]⟩:ByteArray)))) (Zdy a1 (109:Int))).bind fun r9=>((gd ((((r1 || (a0.N == (0:Int))) && (r3 || r5)) && (r7 || (sEq a0.S (⟨#[]⟩:ByteArray)))) && (!r9)) (Zos a0.Make ({ Kind:=(0:Int),Num:=(0:Int),Low:=(0:Int),High:=(0:Int),Real:=(0:Nat),Cap:=(0:Int),Text:=ByteArray.empty,List:=([]:List Zh) }:Zb))).bind fun r11=>(some ((((r1 || (a0.N == (0:Int))) && (r3 || r5)) && (r7 || (sEq a0.S (⟨#[]⟩:ByteArray)))) && (r9 || r11)))))))))
def Zsm (a0:Zdv):Option (Int):=(if (a0.on == (1:Int)) then (some (64:Int)) else (some (16:Int)))
def Zf1 (a0:Zn):Option (Int):=((Zqq a0.Kind).bind fun r1=>(if (sEq r1.word (⟨#[]⟩:ByteArray)) then (some (5:Int)) else (if ((sEq a0.Key (⟨#[]⟩:ByteArray)) || (decide ((24:Int) < (a0.Key.size:Int)))) then (some (1:Int)) else ((Zsw a0 r1).bind fun r5=>(if (!r5) then (some (4:Int)) else ((Zsm r1).bind fun r8=>(if (decide (r8 < (a0.S.size:Int))) then (some (3:Int)) else (if (((a0.Kind == (10:Int)) || (a0.Kind == (11:Int))) && ((decide (a0.N < (0:Int))) || (decide ((2305843009213693952:Int) < a0.N)))) then (some (1:Int)) else ((Zln a0.X).bind fun r12=>(if (!r12) then (some (4:Int)) else (if (a0.Kind == (1:Int)) then ((Ze6 a0.Make).bind fun r16=>(some r16)) else (some (0:Int)))))))))))))
def Zgk (a0:Z9):Nat → (Int) → Option ((Int × Int) ⊕ (Unit))
 | 0,_=>none
 | n + 1,x2=>(if (decide (x2 < (a0.Acts.length:Int))) then ((idx a0.Acts x2).bind fun e4=>((Zf1 e4).bind fun r6=>(if (r6 != (0:Int)) then (some (.inl (r6,(IntKind.i64.wrap (x2 + (1:Int)))))) else ((Zgk a0 n) (IntKind.i64.wrap (x2 + (1:Int))))))) else (some (.inr ())))
def Zgq (a0:Z9):Option (Int × Int):=(if (((a0.Acts.length:Int) == (0:Int)) || (decide ((12:Int) < (a0.Acts.length:Int)))) then (some ((1:Int),(0:Int))) else ((Zgk a0 (Int.toNat ((a0.Acts.length:Int) - (0:Int)) + 1) (0:Int)).bind fun z9=>match z9 with | .inl r=>some r | .inr ()=>(some ((0:Int),(0:Int)))))
def Zo1 (j8:Zw):Option (Zw):=(some j8)
def Zme (a0:Z9) (a1:Zk) (a2:List ByteArray):Option (Zw):=((Zm3 a0).bind fun r1=>((Zg9 a2).bind fun r3=>((Zgq a0).bind fun r5=>(if (r5.1 != (0:Int)) then (Zo1 ({ ({ ({ d:=r1,split:=r3,now:=a1,out:=(default:Zs),over:=false }:Zw) with out:=({ Code:=r5.1,At:=r5.2,Answers:=([]:List Zd) }:Zs) }:Zw) with over:=true }:Zw)) else (Zo1 ({ d:=r1,split:=r3,now:=a1,out:=(default:Zs),over:=false }:Zw))))))
def Zfc (a0:List Zd):Option (List Zd):=if a0.length * 104 ≤ 140737488355328 then some a0 else none
def Zpm (a0:Zs):Option (Zs):=if a0.Answers.length * 104 ≤ 140737488355328 ∧ (a0.Answers.all fun e=>decide (e.Rec.List.length * 24 ≤ 140737488355328))=true then some a0 else none
def Zha (a0:Zw):Option (Zs × Bool):=(if (!a0.over) then (some (({ Code:=(0:Int),At:=(0:Int),Answers:=([]:List Zd) }:Zs),false)) else ((Zpm a0.out).bind fun r2=>(some (r2,true))))
def Zjy (a0:Int):Option (Bool):=(some (((((a0 == (3:Int)) || (a0 == (4:Int))) || (a0 == (9:Int))) || (a0 == (12:Int))) || (a0 == (20:Int))))
def Zi2 (x1:Zb) (kk:(Zb) → (shelf_nodeT) → Option ((Zb × Bool) ⊕ (Zb))) (j10:shelf_nodeT):Option ((Zb × Bool) ⊕ (Zb)):=(kk x1 j10)
def Zel (a1:ByteArray):Nat → (Zb) → (shelf_nodeT) → Option ((Zb × Bool) ⊕ (Zb))
 | 0,_,_=>none
 | n + 1,x1,x2=>(if (!x2.isNil) then ((x2.un).bind fun n4=>(if (sLt a1 n4.key) then (Zi2 x1 (Zel a1 n) n4.left) else (if (!(sLt a1 n4.key || sEq a1 n4.key)) then (Zi2 x1 (Zel a1 n) n4.right) else ((Ze4 n4.rec_).bind fun r8=>(some (.inl (r8,true))))))) else (some (.inr x1)))
def Zem (a0:Zk) (a1:ByteArray):Option (Zb × Bool):=((Zel a1 (a0.top.hh + 1) (default:Zb) a0.top).bind fun z12=>match z12 with | .inl r=>some r | .inr y11=>(some (({ Kind:=(0:Int),Num:=(0:Int),Low:=(0:Int),High:=(0:Int),Real:=(0:Nat),Cap:=(0:Int),Text:=ByteArray.empty,List:=([]:List Zh) }:Zb),false)))
def Zcy (a0:shelf_nodeT):Option (Int):=(if a0.isNil then (some (0:Int)) else ((a0.un).bind fun n2=>(some n2.size)))
def Zf8 (a0:Zk):Option (Int):=((Zcy a0.top).bind fun r1=>(some r1))
def Zd8 (a0:ByteArray) (a1:Zb) (a2:shelf_nodeT) (a3:shelf_nodeT):Option (shelf_nodeT):=((Zcy a2).bind fun r1=>((Zcy a3).bind fun r3=>(some ({ key:=a0,rec_:=a1,left:=a2,right:=a3,size:=(IntKind.i64.wrap ((IntKind.i64.wrap (r1 + r3)) + (1:Int))) }:shelf_node).up)))
def Zjz (a0:shelf_nodeT) (a1:shelf_nodeT):Option (Bool):=((Zcy a0).bind fun r1=>((Zcy a1).bind fun r3=>(some (decide ((IntKind.i64.wrap ((3:Int) * (IntKind.i64.wrap (r3 + (1:Int))))) < (IntKind.i64.wrap (r1 + (1:Int))))))))
def Zjs (a0:ByteArray) (a1:Zb) (a2:shelf_nodeT) (a3:shelf_nodeT):Option (shelf_nodeT):=((Zjz a3 a2).bind fun r1=>((gd r1 (a3.un)).bind fun n3=>((gd r1 (Zcy n3.left)).bind fun r5=>((gd r1 (a3.un)).bind fun n7=>((gd r1 (Zcy n7.right)).bind fun r9=>(if (r1 && (decide ((IntKind.i64.wrap (r5 + (1:Int))) < (IntKind.i64.wrap ((2:Int) * (IntKind.i64.wrap (r9 + (1:Int)))))))) then ((a3.un).bind fun n12=>((Zd8 a0 a1 a2 n12.left).bind fun r14=>((Zd8 n12.key n12.rec_ r14 n12.right).bind fun r16=>(some r16)))) else ((Zjz a3 a2).bind fun r18=>(if r18 then ((a3.un).bind fun n21=>((n21.left.un).bind fun n23=>((Zd8 a0 a1 a2 n23.left).bind fun r25=>((Zd8 n21.key n21.rec_ n23.right n21.right).bind fun r27=>((Zd8 n23.key n23.rec_ r25 r27).bind fun r29=>(some r29)))))) else ((Zjz a2 a3).bind fun r31=>((gd r31 (a2.un)).bind fun n33=>((gd r31 (Zcy n33.right)).bind fun r35=>((gd r31 (a2.un)).bind fun n37=>((gd r31 (Zcy n37.left)).bind fun r39=>(if (r31 && (decide ((IntKind.i64.wrap (r35 + (1:Int))) < (IntKind.i64.wrap ((2:Int) * (IntKind.i64.wrap (r39 + (1:Int)))))))) then ((a2.un).bind fun n42=>((Zd8 a0 a1 n42.right a3).bind fun r44=>((Zd8 n42.key n42.rec_ n42.left r44).bind fun r46=>(some r46)))) else ((Zjz a2 a3).bind fun r48=>(if r48 then ((a2.un).bind fun n51=>((n51.right.un).bind fun n53=>((Zd8 n51.key n51.rec_ n51.left n53.left).bind fun r55=>((Zd8 a0 a1 n53.right a3).bind fun r57=>((Zd8 n53.key n53.rec_ r55 r57).bind fun r59=>(some r59)))))) else ((Zd8 a0 a1 a2 a3).bind fun r61=>(some r61))))))))))))))))))
def Zj8 (self:shelf_nodeT → ByteArray → Zb → Option (shelf_nodeT)) (a0:shelf_nodeT) (a1:ByteArray) (a2:Zb):Option (shelf_nodeT):=(if a0.isNil then ((Zd8 a1 a2 shelf_nodeT.nil shelf_nodeT.nil).bind fun r2=>(some r2)) else ((a0.un).bind fun n4=>(if (sLt a1 n4.key) then ((self n4.left a1 a2).bind fun r7=>((Zjs n4.key n4.rec_ r7 n4.right).bind fun r9=>(some r9))) else (if (!(sLt a1 n4.key || sEq a1 n4.key)) then ((self n4.right a1 a2).bind fun r12=>((Zjs n4.key n4.rec_ n4.left r12).bind fun r14=>(some r14))) else ((Zd8 a1 a2 n4.left n4.right).bind fun r16=>(some r16))))))
def Zgh:Nat → shelf_nodeT → ByteArray → Zb → Option (shelf_nodeT)
 | 0=>fun _ _ _=>none
 | n + 1=>Zj8 (Zgh n)
def Zo0 (a0:shelf_nodeT) (a1:ByteArray) (a2:Zb):Option (shelf_nodeT):=Zgh (a0.hh + 1) a0 a1 a2
def Zdc (a0:Zk) (a1:ByteArray) (a2:Zb):Option (Zk × Int):=(if ((sEq a1 (⟨#[]⟩:ByteArray)) || (decide ((24:Int) < (a1.size:Int)))) then (some (a0,(1:Int))) else ((Ze6 a2).bind fun r2=>(if (r2 != (0:Int)) then (some (a0,r2)) else ((Zem a0 a1).bind fun r5=>((gd (!r5.2) (Zf8 a0)).bind fun r7=>(if ((!r5.2) && (decide (a0.room ≤ r7))) then (some (a0,(8:Int))) else ((Ze4 a2).bind fun r10=>((Zo0 a0.top a1 r10).bind fun r12=>(some (({ top:=r12,room:=a0.room }:Zk),(0:Int)))))))))))
def Zcv (a0:List ByteArray) (a1:ByteArray):Nat → (Int) → Option ((Int) ⊕ (Unit))
 | 0,_=>none
 | n + 1,x1=>(if (decide (x1 < (a0.length:Int))) then ((idx a0 x1).bind fun e3=>(if (sEq a1 e3) then (some (.inl x1)) else ((Zcv a0 a1 n) (IntKind.i64.wrap (x1 + (1:Int)))))) else (some (.inr ())))
def Zg8 (a0:List ByteArray) (a1:ByteArray):Option (Int):=((Zcv a0 a1 (Int.toNat ((a0.length:Int) - (0:Int)) + 1) (0:Int)).bind fun z6=>match z6 with | .inl r=>some r | .inr ()=>(some (-1:Int)))
def Zdi (a0:List ByteArray) (a1:ByteArray):Option (Bool):=((Zg8 a0 a1).bind fun r1=>(some (decide ((0:Int) ≤ r1))))
def Zf5:Nat → (shelf_nodeT) → Option (shelf_nodeT)
 | 0,_=>none
 | n + 1,x1=>((x1.un).bind fun n2=>(if (!n2.left.isNil) then ((Zf5 n) n2.left) else (some x1)))
def Zj3 (a0:shelf_nodeT):Option (shelf_nodeT):=((Zf5 (a0.hh + 1) a0).bind fun z6=>match z6 with | y5=>(some y5))
def Zlq (self:shelf_nodeT → ByteArray → Option (shelf_nodeT)) (a0:shelf_nodeT) (a1:ByteArray):Option (shelf_nodeT):=(if a0.isNil then (some shelf_nodeT.nil) else ((a0.un).bind fun n2=>(if (sLt a1 n2.key) then ((self n2.left a1).bind fun r5=>((Zjs n2.key n2.rec_ r5 n2.right).bind fun r7=>(some r7))) else (if (!(sLt a1 n2.key || sEq a1 n2.key)) then ((self n2.right a1).bind fun r10=>((Zjs n2.key n2.rec_ n2.left r10).bind fun r12=>(some r12))) else (if n2.left.isNil then (some n2.right) else (if n2.right.isNil then (some n2.left) else ((Zj3 n2.right).bind fun r16=>((r16.un).bind fun n18=>((self n2.right n18.key).bind fun r20=>((Zjs n18.key n18.rec_ n2.left r20).bind fun r22=>(some r22)))))))))))
def Zhc:Nat → shelf_nodeT → ByteArray → Option (shelf_nodeT)
 | 0=>fun _ _=>none
 | n + 1=>Zlq (Zhc n)
def Zor (a0:shelf_nodeT) (a1:ByteArray):Option (shelf_nodeT):=Zhc (a0.hh + 1) a0 a1
def Zen (a0:Zk) (a1:ByteArray):Option (Zk × Bool):=((Zem a0 a1).bind fun r1=>(if (!r1.2) then (some (a0,false)) else ((Zor a0.top a1).bind fun r4=>(some (({ top:=r4,room:=a0.room }:Zk),true)))))
def Zil (x35:Int) (kk:(Zk) → (Int) → Option (Zk)) (j44:Zk):Option (Zk):=(kk j44 (IntKind.i64.wrap (x35 + (1:Int))))
def Zdz (a0:Zw) (y19:List ByteArray):Nat → (Zk) → (Int) → Option (Zk)
 | 0,_,_=>none
 | n + 1,x34,x35=>(if (decide (x35 < (y19.length:Int))) then ((idx y19 x35).bind fun e37=>((Zem a0.now e37).bind fun r39=>(if r39.2 then ((Zdc x34 e37 r39.1).bind fun r42=>(Zil x35 (Zdz a0 y19 n) r42.1)) else (Zil x35 (Zdz a0 y19 n) x34)))) else (some x34))
def Zij (x22:Int) (kk:(Zk) → (Int) → Option (Zk)) (j31:Zk):Option (Zk):=(kk j31 (IntKind.i64.wrap (x22 + (1:Int))))
def Zd0 (a0:Zw) (y19:List ByteArray):Nat → (Zk) → (Int) → Option (Zk)
 | 0,_,_=>none
 | n + 1,x21,x22=>(if (decide (x22 < (y19.length:Int))) then ((idx y19 x22).bind fun e24=>((Zem a0.now e24).bind fun r26=>(if (!r26.2) then ((Zen x21 e24).bind fun r29=>(Zij x22 (Zd0 a0 y19 n) r29.1)) else (Zij x22 (Zd0 a0 y19 n) x21)))) else (some x21))
def Zgy (x4:Int) (kk:(List Zn) → (List ByteArray) → (Int) → Option ((List Zn) × (List ByteArray))) (j16:List Zn) (j17:List ByteArray):Option ((List Zn) × (List ByteArray)):=(kk j16 j17 (IntKind.i64.wrap (x4 + (1:Int))))
def Zdl (a0:Zw):Nat → (List Zn) → (List ByteArray) → (Int) → Option ((List Zn) × (List ByteArray))
 | 0,_,_,_=>none
 | n + 1,x2,x3,x4=>(if (decide (x4 < (a0.d.Acts.length:Int))) then ((idx a0.d.Acts x4).bind fun e6=>((Zdi a0.split e6.Key).bind fun r8=>(if r8 then (if (x2.length + ([e6]:List Zn).length) * 152 ≤ 140737488355328 then (Zgy x4 (Zdl a0 n) (x2 ++ ([e6]:List Zn)) x3) else none) else ((Zjy e6.Kind).bind fun r12=>(if (!r12) then (if (x3.length + ([e6.Key]:List ByteArray).length) * 16 ≤ 140737488355328 then (Zgy x4 (Zdl a0 n) x2 (x3 ++ ([e6.Key]:List ByteArray))) else none) else (Zgy x4 (Zdl a0 n) x2 x3)))))) else (some (x2,x3)))
def Zde (a0:Zw) (a1:Zk):Option (Zk × (List Zn)):=(if ((!a0.over) || (a0.out.Code != (0:Int))) then (some (a1,([]:List Zn))) else ((Zdl a0 (Int.toNat ((a0.d.Acts.length:Int) - (0:Int)) + 1) ([]:List Zn) ([]:List ByteArray) (0:Int)).bind fun z20=>match z20 with | (y18,y19)=>((Zd0 a0 y19 (Int.toNat ((y19.length:Int) - (0:Int)) + 1) a1 (0:Int)).bind fun z33=>match z33 with | y32=>((Zdz a0 y19 (Int.toNat ((y19.length:Int) - (0:Int)) + 1) y32 (0:Int)).bind fun z46=>match z46 with | y45=>((Zm3 ({ Acts:=y18 }:Z9)).bind fun r47=>(some (y45,r47.Acts)))))))
def Zj0 (a0:Zw):Option (Bool):=(some a0.over)
def Zjn (x2:Zb) (kk:(Int) → (Zb) → (shelf_nodeT) → Option ((ByteArray × Zb × Bool) ⊕ (Zb))) (j13:Int) (j14:shelf_nodeT):Option ((ByteArray × Zb × Bool) ⊕ (Zb)):=(kk j13 x2 j14)
def Zd9:Nat → (Int) → (Zb) → (shelf_nodeT) → Option ((ByteArray × Zb × Bool) ⊕ (Zb))
 | 0,_,_,_=>none
 | n + 1,x1,x2,x3=>(if (!x3.isNil) then ((x3.un).bind fun n5=>((Zcy n5.left).bind fun r7=>(if (decide (x1 < r7)) then (Zjn x2 (Zd9 n) x1 n5.left) else (if (decide (r7 < x1)) then (Zjn x2 (Zd9 n) (IntKind.i64.wrap (x1 - (IntKind.i64.wrap (r7 + (1:Int))))) n5.right) else ((Ze4 n5.rec_).bind fun r11=>(some (.inl (n5.key,r11,true)))))))) else (some (.inr x2)))
def Zio (a0:Zk) (a1:Int):Option (ByteArray × Zb × Bool):=((Zd9 (a0.top.hh + 1) a1 (default:Zb) a0.top).bind fun z16=>match z16 with | .inl r=>some r | .inr y15=>(some ((⟨#[]⟩:ByteArray),({ Kind:=(0:Int),Num:=(0:Int),Low:=(0:Int),High:=(0:Int),Real:=(0:Nat),Cap:=(0:Int),Text:=ByteArray.empty,List:=([]:List Zh) }:Zb),false)))
def Zl0 (a0:Zk) (a1:Zk) (r6:Int):Nat → (Int) → Option ((Bool) ⊕ (Unit))
 | 0,_=>none
 | n + 1,x8=>(if (decide (x8 < r6)) then ((Zio a0 x8).bind fun r10=>((Zio a1 x8).bind fun r12=>((gd (!(!sEq r10.1 r12.1)) (Zos r10.2.1 r12.2.1)).bind fun r14=>(if ((!sEq r10.1 r12.1) || (!r14)) then (some (.inl false)) else ((Zl0 a0 a1 r6 n) (IntKind.i64.wrap (x8 + (1:Int)))))))) else (some (.inr ())))
def Zs8 (a0:Zk) (a1:Zk):Option (Bool):=((Zf8 a0).bind fun r1=>((Zf8 a1).bind fun r3=>(if (r1 != r3) then (some false) else ((Zf8 a0).bind fun r6=>((Zl0 a0 a1 r6 (Int.toNat (r6 - (0:Int)) + 1) (0:Int)).bind fun z17=>match z17 with | .inl r=>some r | .inr ()=>(some true))))))
def Zik (a0:Int):Option (Int):=((Zqq a0).bind fun r1=>(some r1.on))
def Zit (a0:Zb) (a1:Zn) (a2:Zd):Option (Int × Zb × Zd):=(some ((0:Int),({ a0 with Text:=a1.S }),a2))
def Zgs (a0:Zb) (a1:Zn) (a2:Zd):Option (Int × Zb × Zd):=((Ze4 a0).bind fun r1=>(some ((0:Int),({ a0 with Text:=a1.S }),({ a2 with Rec:=r1 }))))
def Zim (a0:Zb) (a1:Zn) (a2:Zd):Option (Int × Zb × Zd):=(some ((0:Int),({ a0 with Num:=(IntKind.i64.wrap (a0.Num + a1.N)) }),a2))
def Zlj (a0:Zb) (a1:Zn) (a2:Zd):Option (Int × Zb × Zd):=(if (((decide ((0:Int) < a1.N)) && (decide ((IntKind.i64.wrap ((9223372036854775807:Int) - a1.N)) < a0.Num))) || ((decide (a1.N < (0:Int))) && (decide (a0.Num < (IntKind.i64.wrap ((-9223372036854775808:Int) - a1.N)))))) then (some ((9:Int),a0,a2)) else (some ((0:Int),({ a0 with Num:=(IntKind.i64.wrap (a0.Num + a1.N)) }),a2)))
def Zd3 (a0:Zb) (a1:Zn) (a2:Zd):Option (Int × Zb × Zd):=(if (decide (a0.Num < a1.N)) then (some ((11:Int),a0,a2)) else (some ((0:Int),a0,a2)))
def Zhn (a0:Zb) (a1:Zn) (a2:Zd):Option (Int × Zb × Zd):=(if (decide ((IntKind.i64.wrap (a0.High - a0.Num)) < a1.N)) then (some ((9:Int),a0,a2)) else (some ((0:Int),({ a0 with Num:=(IntKind.i64.wrap (a0.Num + a1.N)) }),a2)))
def Zhh (a0:Zb) (a1:Zn) (a2:Zd):Option (Int × Zb × Zd):=(if (decide ((IntKind.i64.wrap (a0.Num - a0.Low)) < a1.N)) then (some ((10:Int),a0,a2)) else (some ((0:Int),({ a0 with Num:=(IntKind.i64.wrap (a0.Num - a1.N)) }),a2)))
def Zc9 (ψ:Nat → Nat → Option Nat) (a0:Zb) (a1:Zn) (a2:Zd):Option (Int × Zb × Zd):=(ψ a0.Real a1.X).bind fun z=>some ((0:Int),{ a0 with Real:=z },a2)
def Zl3 (a0:Nat) (a1:Nat):Option (Nat):=((Znk a0 a1).bind fun r1=>(if r1 then ((Zgv a1).bind fun r4=>(some r4)) else ((Zgv a0).bind fun r6=>(some r6))))
def Zl2 (a0:Nat) (a1:Nat):Option (Nat):=((Znk a1 a0).bind fun r1=>(if r1 then ((Zgv a1).bind fun r4=>(some r4)) else ((Zgv a0).bind fun r6=>(some r6))))
def Zje (a0:Nat) (a1:Nat):Option (Nat):=((Zgv (fadd a0 a1)).bind fun r1=>(some r1))
def Zic (a0:Nat) (a1:Nat):Option (Nat):=((Zgv (fmul a0 a1)).bind fun r1=>(some r1))
def Zhg (a0:Nat) (a1:Nat):Option (Nat):=(some a1)
def Zcq (kk:(Int) → (Int) → Option (Int)) (j9:Int) (j10:Int):Option (Int):=(kk j9 j10)
def Zbu (a0:List Zh) (a1:ByteArray) (φ2:Zh → ByteArray → Option Int):Nat → (Int) → (Int) → Option (Int)
 | 0,_,_=>none
 | n + 1,x1,x2=>(if (decide (x1 < x2)) then ((idx a0 (IntKind.i64.wrap (Int.fdiv (IntKind.u64.wrap (IntKind.i64.wrap (x1 + x2))) (2 ^ 1)))).bind fun e4=>((φ2 e4 a1).bind fun r6=>(if (decide (r6 < (0:Int))) then (Zcq (Zbu a0 a1 φ2 n) (IntKind.i64.wrap ((IntKind.i64.wrap (Int.fdiv (IntKind.u64.wrap (IntKind.i64.wrap (x1 + x2))) (2 ^ 1))) + (1:Int))) x2) else (Zcq (Zbu a0 a1 φ2 n) x1 (IntKind.i64.wrap (Int.fdiv (IntKind.u64.wrap (IntKind.i64.wrap (x1 + x2))) (2 ^ 1))))))) else (some x1))
def Zda (a0:List Zh) (a1:ByteArray) (φ2:Zh → ByteArray → Option Int):Option (Int × Bool):=((Zbu a0 a1 φ2 (Int.toNat ((a0.length:Int) - (0:Int)) + 1) (0:Int) (a0.length:Int)).bind fun z12=>match z12 with | y11=>((gd (decide (y11 < (a0.length:Int))) (idx a0 y11)).bind fun e13=>((gd (decide (y11 < (a0.length:Int))) (φ2 e13 a1)).bind fun r15=>(some (y11,((decide (y11 < (a0.length:Int))) && (r15 == (0:Int))))))))
def Zk4 (a0:Zh) (a1:ByteArray):Option (Int):=(if (sLt a0.Name a1) then (some (-1:Int)) else (if (!(sLt a0.Name a1 || sEq a0.Name a1)) then (some (1:Int)) else (some (0:Int))))
def Zmk (a0:List Zh) (a1:ByteArray):Option (Int × Bool):=((Zda a0 a1 (fun y0 y1=>Zk4 y0 y1)).bind fun r1=>(some (r1.1,r1.2)))
def Zcp (a0:List Zh) (a1:Int) (a2:List Zh):Option (List Zh):=if 0 ≤ a1 ∧ a1 ≤ a0.length ∧ 0 < a2.length ∧ (a0.length + a2.length) * 24 ≤ 140737488355328 then some (a0.take a1.toNat ++ a2 ++ a0.drop a1.toNat) else none
def Zkr (a0:Zb) (a1:Zn) (a2:Zd):Option (Int × Zb × Zd):=((Zmk a0.List a1.S).bind fun r1=>(if r1.2 then (some ((0:Int),a0,a2)) else (if (decide (a0.Cap ≤ (a0.List.length:Int))) then (some ((8:Int),a0,a2)) else ((Zbz a0.List).bind fun r5=>((Zcp r5 r1.1 ([({ Score:=(0:Nat),Name:=a1.S }:Zh)]:List Zh)).bind fun r7=>(some ((0:Int),({ a0 with List:=r7 }),a2)))))))
def Zfw (a0:List Zh) (a1 a2:Int):Option (List Zh):=if 0 < a0.length ∧ 0 ≤ a1 ∧ a1 ≤ a2 ∧ a2 ≤ a0.length ∧ a0.length ≤ 140737488355328 then some (a0.take a1.toNat ++ a0.drop a2.toNat) else none
def Zjh (a2:Zd) (j8:Zb):Option (Int × Zb × Zd):=(some ((0:Int),j8,a2))
def Zin (a0:Zb) (a1:Zn) (a2:Zd):Option (Int × Zb × Zd):=((Zmk a0.List a1.S).bind fun r1=>(if r1.2 then ((Zbz a0.List).bind fun r4=>((Zfw r4 r1.1 (IntKind.i64.wrap (r1.1 + (1:Int)))).bind fun r6=>(Zjh a2 ({ a0 with List:=r6 })))) else (Zjh a2 a0)))
def Zfh (a0:Zb) (a1:Zn) (a2:Zd):Option (Int × Zb × Zd):=((Zmk a0.List a1.S).bind fun r1=>(if (!r1.2) then (some ((11:Int),a0,a2)) else (some ((0:Int),a0,a2))))
def Zg7 (a0:Zb) (a1:Zn):Nat → (Int) → Option (Int)
 | 0,_=>none
 | n + 1,x1=>((gd (decide (x1 < (a0.List.length:Int))) (idx a0.List x1)).bind fun e2=>((gd (decide (x1 < (a0.List.length:Int))) (Zlr e2 ({ Score:=a1.X,Name:=a1.S }:Zh))).bind fun r4=>(if ((decide (x1 < (a0.List.length:Int))) && r4) then ((Zg7 a0 a1 n) (IntKind.i64.wrap (x1 + (1:Int)))) else (some x1))))
def Zjt (a0:Zb) (a1:Zn) (a2:Zd):Option (Int × Zb × Zd):=((Zg7 a0 a1 (Int.toNat ((a0.List.length:Int) - (0:Int)) + 1) (0:Int)).bind fun z8=>match z8 with | y7=>((gd (decide (y7 < (a0.List.length:Int))) (idx a0.List y7)).bind fun e9=>((gd (decide (y7 < (a0.List.length:Int))) (Zlr ({ Score:=a1.X,Name:=a1.S }:Zh) e9)).bind fun r11=>(if ((decide (y7 < (a0.List.length:Int))) && (!r11)) then (some ((0:Int),a0,a2)) else ((Zbz a0.List).bind fun r14=>((Zcp r14 y7 ([({ Score:=a1.X,Name:=a1.S }:Zh)]:List Zh)).bind fun r16=>((cut r16 (0:Int) (min (r16.length:Int) a0.Cap)).bind fun c18=>(some ((0:Int),({ a0 with List:=c18 }),a2)))))))))
def Zbb (k:Int) (a0:Zb) (a1:Zn) (a2:Zd):Option (Int × Zb × Zd):=if k=5 then Zit a0 a1 a2 else if k=6 then Zgs a0 a1 a2 else if k=7 then Zim a0 a1 a2 else if k=8 then Zlj a0 a1 a2 else if k=9 then Zd3 a0 a1 a2 else if k=10 then Zhn a0 a1 a2 else if k=11 then Zhh a0 a1 a2 else if k=12 then Zd3 a0 a1 a2 else if k=13 then Zc9 (fun x y=>Zl3 x y) a0 a1 a2 else if k=14 then Zc9 (fun x y=>Zl2 x y) a0 a1 a2 else if k=15 then Zc9 (fun x y=>Zje x y) a0 a1 a2 else if k=16 then Zc9 (fun x y=>Zic x y) a0 a1 a2 else if k=17 then Zc9 (fun x y=>Zhg x y) a0 a1 a2 else if k=18 then Zkr a0 a1 a2 else if k=19 then Zin a0 a1 a2 else if k=20 then Zfh a0 a1 a2 else if k=21 then Zjt a0 a1 a2 else none
def Zg2 (a0:Int) (a1:Zb) (a2:Bool):Option (Zb × Bool × Zd × Zb):=(some (a1,a2,({ Code:=a0,Num:=(0:Int),Rec:=(default:Zb) }:Zd),a1))
def Zgj (a1:Bool) (a2:Zn) (r3:Zb):Option (Zb × Bool × Zd):=(if ((a2.Kind == (1:Int)) && a1) then ((Zg2 (7:Int) r3 a1).bind fun r17=>(some (r17.1,r17.2.1,r17.2.2.1))) else (if (a2.Kind == (1:Int)) then ((Ze4 a2.Make).bind fun r20=>(some (r20,true,({ Code:=(0:Int),Num:=(0:Int),Rec:=(default:Zb) }:Zd)))) else (if (a2.Kind == (3:Int)) then (some (r3,a1,({ Code:=(0:Int),Num:=r3.Kind,Rec:=(default:Zb) }:Zd))) else (if (!a1) then ((Zg2 (6:Int) r3 a1).bind fun r24=>(some (r24.1,r24.2.1,r24.2.2.1))) else (if (a2.Kind == (2:Int)) then (some (({ Kind:=(0:Int),Num:=(0:Int),Low:=(0:Int),High:=(0:Int),Real:=(0:Nat),Cap:=(0:Int),Text:=ByteArray.empty,List:=([]:List Zh) }:Zb),false,({ Code:=(0:Int),Num:=(0:Int),Rec:=(default:Zb) }:Zd))) else (if (a2.Kind == (4:Int)) then ((Ze4 r3).bind fun r28=>(some (r3,a1,({ Code:=(0:Int),Num:=(0:Int),Rec:=r28 }:Zd)))) else ((Zik a2.Kind).bind fun r30=>(if (r30 != r3.Kind) then ((Zg2 (5:Int) r3 a1).bind fun r33=>(some (r33.1,r33.2.1,r33.2.2.1))) else ((Ze4 r3).bind fun r35=>(if (5 ≤ a2.Kind ∧ a2.Kind ≤ 21) then ((Zbb a2.Kind r3 a2 (default:Zd)).bind fun r38=>(if (r38.1 != (0:Int)) then (some (r35,a1,({ Code:=r38.1,Num:=(0:Int),Rec:=(default:Zb) }:Zd))) else (some (r38.2.1,a1,r38.2.2)))) else none))))))))))
def Zfd (a1:Bool) (a2:Zn) (j2:Zb):Option (Zb × Bool × Zd):=((Ze4 j2).bind fun r3=>((Zf1 a2).bind fun r5=>(if (r5 != (0:Int)) then ((Zg2 r5 r3 a1).bind fun r8=>(some (r8.1,r8.2.1,r8.2.2.1))) else (if a1 then ((Ze6 r3).bind fun r11=>(if (r11 != (0:Int)) then ((Zg2 r11 r3 a1).bind fun r14=>(some (r14.1,r14.2.1,r14.2.2.1))) else (Zgj a1 a2 r3))) else (Zgj a1 a2 r3)))))
def Zc0 (a0:Zb) (a1:Bool) (a2:Zn):Option (Zb × Bool × Zd):=(if (!a1) then (Zfd a1 a2 ({ Kind:=(0:Int),Num:=(0:Int),Low:=(0:Int),High:=(0:Int),Real:=(0:Nat),Cap:=(0:Int),Text:=ByteArray.empty,List:=([]:List Zh) }:Zb)) else (Zfd a1 a2 a0))
def Znm (a0:Zk) (a1:Zn):Option (Zk × Zd):=((Zem a0 a1.Key).bind fun r1=>((Zc0 r1.1 r1.2 a1).bind fun r3=>((gd (!(r3.2.2.Code != (0:Int))) (Zjy a1.Kind)).bind fun r5=>(if ((r3.2.2.Code != (0:Int)) || r5) then (some (a0,r3.2.2)) else (if (!r3.2.1) then ((Zen a0 a1.Key).bind fun r9=>(some (r9.1,r3.2.2))) else ((Zdc a0 a1.Key r3.1).bind fun r11=>(if (r11.2 != (0:Int)) then (some (a0,({ Code:=r11.2,Num:=(0:Int),Rec:=(default:Zb) }:Zd))) else (some (r11.1,r3.2.2)))))))))
def Zh9 (a0:Zw) (e2:Zn) (j9:Zd) (j10:Zw):Option (Bool × Zw):=(if (e2.Must && (j9.Code != (0:Int))) then (some (true,({ ({ j10 with out:=({ Code:=j9.Code,At:=(IntKind.i64.wrap ((a0.out.Answers.length:Int) + (1:Int))),Answers:=([]:List Zd) }:Zs) }:Zw) with over:=true }:Zw))) else (if (j10.out.Answers.length + ([j9]:List Zd).length) * 104 ≤ 140737488355328 then (some (true,({ ({ j10 with out:={ j10.out with Answers:=(j10.out.Answers ++ ([j9]:List Zd)) } }:Zw) with over:=((IntKind.i64.wrap ((a0.out.Answers.length:Int) + (1:Int))) == (((({ j10 with out:={ j10.out with Answers:=(j10.out.Answers ++ ([j9]:List Zd)) } }:Zw).d).Acts).length:Int)) }:Zw))) else none))
def Zj7 (a0:Zw):Option (Bool × Zw):=(if a0.over then (some (false,a0)) else ((idx a0.d.Acts (a0.out.Answers.length:Int)).bind fun e2=>((Zdi a0.split e2.Key).bind fun r4=>(if (!r4) then ((Znm a0.now e2).bind fun r7=>(Zh9 a0 e2 r7.2 ({ a0 with now:=r7.1 }:Zw))) else (Zh9 a0 e2 (default:Zd) a0)))))
def Zfg (a0:Zw):Option (Zw × Bool):=(Zj7 a0).bind fun r=>some (r.2,r.1)
def Zpl (a0:Int):Option (Zk × Int):=(if ((decide (a0 < (1:Int))) || (decide ((4096:Int) < a0))) then (some (({ top:=shelf_nodeT.nil,room:=(0:Int) }:Zk),(1:Int))) else (some (({ top:=shelf_nodeT.nil,room:=a0 }:Zk),(0:Int))))
def Zkp:Option (Bool):=((Zpl (2:Int)).bind fun r1=>((Zdc r1.1 (⟨#[97]⟩:ByteArray) ({ Kind:=(2:Int),Num:=(3:Int),Low:=(0:Int),High:=(0:Int),Real:=(0:Nat),Cap:=(0:Int),Text:=ByteArray.empty,List:=([]:List Zh) }:Zb)).bind fun r3=>((Zme ({ Acts:=([({ Kind:=(7:Int),Key:=(⟨#[97]⟩:ByteArray),N:=(1:Int),X:=(0:Nat),S:=ByteArray.empty,Make:=(default:Zb),Must:=false }:Zn)]:List Zn) }:Z9) r3.1 ([]:List ByteArray)).bind fun r5=>((Zme ({ Acts:=([({ Kind:=(7:Int),Key:=(⟨#[97]⟩:ByteArray),N:=(1:Int),X:=(0:Nat),S:=ByteArray.empty,Make:=(default:Zb),Must:=false }:Zn)]:List Zn) }:Z9) r3.1 ([(⟨#[97]⟩:ByteArray)]:List ByteArray)).bind fun r7=>((gd (!(false || false)) (Zj0 r5)).bind fun r9=>((gd (!((false || false) || r9)) (Zfg r5)).bind fun r11=>((gd (!(((false || false) || r9) || (!r11.2))) (Zfg (if (!((false || false) || r9))=true then r11.1 else r5))).bind fun r13=>((gd (!((((false || false) || r9) || (!r11.2)) || r13.2)) (Zj0 (if (!(((false || false) || r9) || (!r11.2)))=true then r13.1 else (if (!((false || false) || r9))=true then r11.1 else r5)))).bind fun r15=>((gd (!(((((false || false) || r9) || (!r11.2)) || r13.2) || (!r15))) (Zfg r7)).bind fun r17=>(if ((((((false || false) || r9) || (!r11.2)) || r13.2) || (!r15)) || (!r17.2)) then (some false) else ((Zde (if (!(((false || false) || r9) || (!r11.2)))=true then r13.1 else (if (!((false || false) || r9))=true then r11.1 else r5)) r3.1).bind fun r20=>((Zde (if (!(((((false || false) || r9) || (!r11.2)) || r13.2) || (!r15)))=true then r17.1 else r7) r3.1).bind fun r22=>((Zem r20.1 (⟨#[97]⟩:ByteArray)).bind fun r24=>((Zha (if (!(((((false || false) || r9) || (!r11.2)) || r13.2) || (!r15)))=true then r17.1 else r7)).bind fun r26=>((gd (((r20.2.length:Int) == (0:Int)) && (r24.1.Num == (4:Int))) (Zs8 r3.1 r22.1)).bind fun r28=>(some (((((((r20.2.length:Int) == (0:Int)) && (r24.1.Num == (4:Int))) && r28) && ((r22.2.length:Int) == (1:Int))) && r26.2) && ((r26.1.Answers.length:Int) == (1:Int)))))))))))))))))))
def Zfl (a0:Zb):Nat → (Int) → Option ((Int) ⊕ (Unit))
 | 0,_=>none
 | n + 1,x2=>(if (decide (x2 < (a0.List.length:Int))) then ((idx a0.List x2).bind fun e4=>(if (decide ((100:Int) < (e4.Name.size:Int))) then (some (.inl (1:Int))) else ((Zfl a0 n) (IntKind.i64.wrap (x2 + (1:Int)))))) else (some (.inr ())))
def Zja (a0:Zb):Option (Int):=(if ((decide ((100:Int) < (a0.List.length:Int))) || (decide ((1000:Int) < (a0.Text.size:Int)))) then (some (1:Int)) else ((Zfl a0 (Int.toNat ((a0.List.length:Int) - (0:Int)) + 1) (0:Int)).bind fun z7=>match z7 with | .inl r=>some r | .inr ()=>(some (0:Int))))
def Zew (a0:Nat):Option (Bool):=(some (fneq a0 a0))
def Zge (a0:Nat):Option (Bool):=((Zew a0).bind fun r1=>(some ((!r1) || ((a0:Int) == (9221120237041090561:Int)))))
def Zh5 (a0:Nat):Option (Bool):=(if (feql a0 (0:Nat)) then ((Ieee.double.div (4607182418800017408:Nat) a0).bind fun f2=>(some (flss f2 (0:Nat)))) else (some (flss a0 (0:Nat))))
def Zft (a0:Nat) (a1:Nat):Option (Bool):=((Zew a0).bind fun r1=>(if r1 then (some false) else ((Zew a1).bind fun r4=>(if r4 then (some true) else (if ((feql a0 (0:Nat)) && (feql a1 (0:Nat))) then ((Zh5 a0).bind fun r8=>((gd r8 (Zh5 a1)).bind fun r10=>(some (r8 && (!r10))))) else (some (flss a0 a1)))))))
def Zd5 (a0:Nat) (a1:Nat):Option (Bool):=((Zft a0 a1).bind fun r1=>((gd (!r1) (Zft a1 a0)).bind fun r3=>(some ((!r1) && (!r3)))))
def Ziq (a0:Nat):Option (Bool):=((Zd5 a0 (0:Nat)).bind fun r1=>(some r1))
def Zc7 (a1:ByteArray):Nat → (Bool) → (Bool) → (Bool) → (Bool) → (Bool) → (Int) → Option (Bool × Bool × Bool × Bool × Bool)
 | 0,_,_,_,_,_,_=>none
 | n + 1,x1,x2,x3,x4,x5,x6=>(if (decide (x6 < (a1.size:Int))) then ((gd (!x1) (sidx a1 x6)).bind fun b8=>((gd (!x2) (sidx a1 x6)).bind fun b10=>((gd (!x3) (sidx a1 x6)).bind fun b12=>((gd (!x4) (sidx a1 x6)).bind fun b14=>((gd (!x5) (sidx a1 x6)).bind fun b16=>((Zc7 a1 n) (x1 || (b8 == (116:Int))) (x2 || (b10 == (110:Int))) (x3 || (b12 == (98:Int))) (x4 || (b14 == (114:Int))) (x5 || (b16 == (108:Int))) (IntKind.i64.wrap (x6 + (1:Int))))))))) else (some (x1,x2,x3,x4,x5)))
def Zj4 (a0:Zb) (a1:ByteArray):Option (Bool):=((Zc7 a1 (Int.toNat ((a1.size:Int) - (0:Int)) + 1) false false false false false (0:Int)).bind fun z23=>match z23 with | (y18,y19,y20,y21,y22)=>(if (((((!y18) && (!sEq a0.Text (⟨#[]⟩:ByteArray))) || ((!y19) && (a0.Num != (0:Int)))) || ((!y20) && (a0.Low != (0:Int)))) || ((!y20) && (a0.High != (0:Int)))) then (some false) else ((gd (!y21) (Ziq a0.Real)).bind fun r25=>(some ((y21 || r25) && (y22 || ((a0.Cap == (0:Int)) && ((a0.List.length:Int) == (0:Int)))))))))
def Zks (a0:Int):Option (ByteArray):=(if ((decide (a0 < (1:Int))) || (decide ((9:Int) < a0))) then (some (⟨#[]⟩:ByteArray)) else ((idx ([(⟨#[]⟩:ByteArray),(⟨#[116]⟩:ByteArray),(⟨#[110]⟩:ByteArray),(⟨#[110]⟩:ByteArray),(⟨#[110,98]⟩:ByteArray),(⟨#[114]⟩:ByteArray),(⟨#[114]⟩:ByteArray),(⟨#[114]⟩:ByteArray),(⟨#[108]⟩:ByteArray),(⟨#[108]⟩:ByteArray)]:List ByteArray) a0).bind fun e2=>(some e2)))
def Zgu (a0:Zh) (a1:Zh):Option (Bool):=((Zft a1.Score a0.Score).bind fun r1=>(if r1 then (some true) else ((Zd5 a0.Score a1.Score).bind fun r4=>(some (r4 && (sLt a0.Name a1.Name))))))
def Zj6 (a0:Int) (a1:List Zh) (a2:Int):Option (Int):=((idx a1 a2).bind fun e1=>(if (decide ((16:Int) < (e1.Name.size:Int))) then (some (3:Int)) else ((gd (a0 == (8:Int)) (Ziq e1.Score)).bind fun r4=>((gd (!((a0 == (8:Int)) && (!r4))) (Zge e1.Score)).bind fun r6=>(if (((a0 == (8:Int)) && (!r4)) || (!r6)) then (some (4:Int)) else ((gd ((decide ((0:Int) < a2)) && (a0 == (8:Int))) (idx a1 (IntKind.i64.wrap (a2 - (1:Int))))).bind fun e9=>(if (((decide ((0:Int) < a2)) && (a0 == (8:Int))) && (!(sLt e9.Name e1.Name))) then (some (4:Int)) else ((gd ((decide ((0:Int) < a2)) && (a0 == (9:Int))) (idx a1 (IntKind.i64.wrap (a2 - (1:Int))))).bind fun e12=>((gd ((decide ((0:Int) < a2)) && (a0 == (9:Int))) (Zgu e12 e1)).bind fun r14=>(if (((decide ((0:Int) < a2)) && (a0 == (9:Int))) && (!r14)) then (some (4:Int)) else (some (0:Int))))))))))))
def Zek (a0:Zb):Nat → (Int) → Option ((Int) ⊕ (Unit))
 | 0,_=>none
 | n + 1,x15=>(if (decide (x15 < (a0.List.length:Int))) then ((Zj6 a0.Kind a0.List x15).bind fun r17=>(if (r17 != (0:Int)) then (some (.inl r17)) else ((Zek a0 n) (IntKind.i64.wrap (x15 + (1:Int)))))) else (some (.inr ())))
def Zd2 (a0:Zb):Option (Int):=(if ((decide (a0.Kind < (1:Int))) || (decide ((9:Int) < a0.Kind))) then (some (5:Int)) else ((Zks a0.Kind).bind fun r2=>((Zj4 a0 r2).bind fun r4=>(if (!r4) then (some (4:Int)) else (if ((a0.Kind == (1:Int)) && (decide ((64:Int) < (a0.Text.size:Int)))) then (some (3:Int)) else (if ((a0.Kind == (4:Int)) && ((((decide (a0.Low < (IntKind.i64.wrap (0 - (2305843009213693952:Int))))) || (decide ((2305843009213693952:Int) < a0.High))) || (decide (a0.Num < a0.Low))) || (decide (a0.High < a0.Num)))) then (some (1:Int)) else ((Zge a0.Real).bind fun r9=>(if (!r9) then (some (4:Int)) else (if (decide (a0.Kind < (8:Int))) then (some (0:Int)) else (if ((decide (a0.Cap < (1:Int))) || (decide ((32:Int) < a0.Cap))) then (some (1:Int)) else (if (decide (a0.Cap < (a0.List.length:Int))) then (some (8:Int)) else ((Zek a0 (Int.toNat ((a0.List.length:Int) - (0:Int)) + 1) (0:Int)).bind fun z20=>match z20 with | .inl r=>some r | .inr ()=>(some (0:Int))))))))))))))
def Zdo (a0:Zf) (a1:ByteArray):Nat → (Int) → Option (Int)
 | 0,_=>none
 | n + 1,x1=>((gd (decide (x1 < (a0.L.length:Int))) (idx a0.L x1)).bind fun e2=>(if ((decide (x1 < (a0.L.length:Int))) && (sLt e2.Key a1)) then ((Zdo a0 a1 n) (IntKind.i64.wrap (x1 + (1:Int)))) else (some x1)))
def Zez (a0:Zf) (a1:ByteArray):Option (Int):=((Zdo a0 a1 (Int.toNat ((a0.L.length:Int) - (0:Int)) + 1) (0:Int)).bind fun z6=>match z6 with | y5=>(some y5))
def Zfj (a0:Zf) (a1:ByteArray) (a2:Zb) (c10:List Zbg) (j15:Int):Option (Zf × Int):=((cut a0.L j15 (a0.L.length:Int)).bind fun c16=>(if (((([]:List Zbg) ++ c10) ++ ([({ Key:=a1,Rec:=a2 }:Zbg)]:List Zbg)).length + c16.length) * 104 ≤ 140737488355328 then (some (({ L:=(((([]:List Zbg) ++ c10) ++ ([({ Key:=a1,Rec:=a2 }:Zbg)]:List Zbg)) ++ c16),Room:=a0.Room }:Zf),(0:Int))) else none))
def Zff (a0:Zf) (a1:ByteArray) (a2:Zb):Option (Zf × Int):=(if ((decide ((a1.size:Int) < (1:Int))) || (decide ((24:Int) < (a1.size:Int)))) then (some (a0,(1:Int))) else ((Zd2 a2).bind fun r2=>(if (r2 != (0:Int)) then (some (a0,r2)) else ((Zez a0 a1).bind fun r5=>((gd (decide (r5 < (a0.L.length:Int))) (idx a0.L r5)).bind fun e7=>(if ((!((decide (r5 < (a0.L.length:Int))) && (sEq e7.Key a1))) && (decide (a0.Room ≤ (a0.L.length:Int)))) then (some (a0,(8:Int))) else ((cut a0.L (0:Int) r5).bind fun c10=>(if (([]:List Zbg).length + c10.length) * 104 ≤ 140737488355328 then (if ((([]:List Zbg) ++ c10).length + ([({ Key:=a1,Rec:=a2 }:Zbg)]:List Zbg).length) * 104 ≤ 140737488355328 then (if ((decide (r5 < (a0.L.length:Int))) && (sEq e7.Key a1)) then (Zfj a0 a1 a2 c10 (IntKind.i64.wrap (r5 + (1:Int)))) else (Zfj a0 a1 a2 c10 r5)) else none) else none))))))))
def Zd4 (a1:List Zbg):Nat → (Zk) → (Zk) → (Zf) → (Int) → Option ((Zk × (Option Zf)) ⊕ (Zk × Zk × Zf))
 | 0,_,_,_,_=>none
 | n + 1,x4,x5,x6,x7=>(if (decide (x7 < (a1.length:Int))) then ((idx a1 x7).bind fun e9=>((gd (!(decide ((100:Int) < (e9.Key.size:Int)))) (Zja e9.Rec)).bind fun r11=>(if ((decide ((100:Int) < (e9.Key.size:Int))) || (decide ((0:Int) < r11))) then (some (.inl (x5,(none:Option Zf)))) else ((Zdc x5 e9.Key e9.Rec).bind fun r14=>((Zff x6 e9.Key e9.Rec).bind fun r16=>((Zd4 a1 n) x4 r14.1 r16.1 (IntKind.i64.wrap (x7 + (1:Int))))))))) else (some (.inr (x4,x5,x6))))
def Zh7 (a0:Int) (a1:List Zbg):Option (Zk × (Option Zf)):=((Zpl a0).bind fun r1=>(if ((r1.2 != (0:Int)) || (decide ((60:Int) < (a1.length:Int)))) then (some (r1.1,(none:Option Zf))) else ((Zd4 a1 (Int.toNat ((a1.length:Int) - (0:Int)) + 1) (default:Zk) r1.1 ({ L:=([]:List Zbg),Room:=a0 }:Zf) (0:Int)).bind fun z21=>match z21 with | .inl r=>some r | .inr (y18,y19,y20)=>(some (y19,(some y20))))))
def Zkl (a0:Zn):Option (Int):=((gd (!((decide ((200:Int) < (a0.Key.size:Int))) || (decide ((1000:Int) < (a0.S.size:Int))))) (Zja a0.Make)).bind fun r1=>(if (((decide ((200:Int) < (a0.Key.size:Int))) || (decide ((1000:Int) < (a0.S.size:Int)))) || (decide ((0:Int) < r1))) then (some (1:Int)) else (some (0:Int))))
def Zeh (a0:Z9):Nat → (Int) → Option ((Int) ⊕ (Unit))
 | 0,_=>none
 | n + 1,x2=>(if (decide (x2 < (a0.Acts.length:Int))) then ((idx a0.Acts x2).bind fun e4=>((Zkl e4).bind fun r6=>(if (decide ((0:Int) < r6)) then (some (.inl (1:Int))) else ((Zeh a0 n) (IntKind.i64.wrap (x2 + (1:Int))))))) else (some (.inr ())))
def Zkk (a0:Z9):Option (Int):=(if (decide ((40:Int) < (a0.Acts.length:Int))) then (some (1:Int)) else ((Zeh a0 (Int.toNat ((a0.Acts.length:Int) - (0:Int)) + 1) (0:Int)).bind fun z9=>match z9 with | .inl r=>some r | .inr ()=>(some (0:Int))))
def Zfn:Nat → (Zw) → (Int) → Option (Zw × Int)
 | 0,_,_=>none
 | n + 1,x1,x2=>((gd (decide (x2 < (20:Int))) (Zfg x1)).bind fun r3=>(if ((decide (x2 < (20:Int))) && r3.2) then ((Zfn n) (if (decide (x2 < (20:Int)))=true then r3.1 else x1) (IntKind.i64.wrap (x2 + (1:Int)))) else (some ((if (decide (x2 < (20:Int)))=true then r3.1 else x1),x2))))
def Zla (a0:Zw):Option (Int × Zw):=((Zfn (Int.toNat ((20:Int) - (0:Int)) + 1) a0 (0:Int)).bind fun z8=>match z8 with | (y6,y7)=>(some (y7,y6)))
def Zkj (a0:Zw):Option (Zw × Int):=(Zla a0).bind fun r=>some (r.2,r.1)
def Ze5 (a0:Zb) (a1:Zb):Nat → (Int) → Option ((Bool) ⊕ (Unit))
 | 0,_=>none
 | n + 1,x5=>(if (decide (x5 < (a0.List.length:Int))) then ((idx a0.List x5).bind fun e7=>((idx a1.List x5).bind fun e9=>((gd (!(!sEq e7.Name e9.Name)) (idx a0.List x5)).bind fun e11=>((gd (!(!sEq e7.Name e9.Name)) (idx a1.List x5)).bind fun e13=>((gd (!(!sEq e7.Name e9.Name)) (Zd5 e11.Score e13.Score)).bind fun r15=>(if ((!sEq e7.Name e9.Name) || (!r15)) then (some (.inl false)) else ((Ze5 a0 a1 n) (IntKind.i64.wrap (x5 + (1:Int)))))))))) else (some (.inr ())))
def Zhe (a0:Zb) (a1:Zb):Option (Bool):=(if ((((((a0.Kind != a1.Kind) || (a0.Num != a1.Num)) || (a0.Low != a1.Low)) || (a0.High != a1.High)) || (a0.Cap != a1.Cap)) || (!sEq a0.Text a1.Text)) then (some false) else ((Zd5 a0.Real a1.Real).bind fun r2=>(if ((!r2) || ((a0.List.length:Int) != (a1.List.length:Int))) then (some false) else ((Ze5 a0 a1 (Int.toNat ((a0.List.length:Int) - (0:Int)) + 1) (0:Int)).bind fun z18=>match z18 with | .inl r=>some r | .inr ()=>(some true)))))
def Zmf (a0:Int):Option (ByteArray):=(if ((decide (a0 < (0:Int))) || (decide ((21:Int) < a0))) then (some (⟨#[]⟩:ByteArray)) else ((idx ([(⟨#[]⟩:ByteArray),(⟨#[109]⟩:ByteArray),(⟨#[]⟩:ByteArray),(⟨#[]⟩:ByteArray),(⟨#[]⟩:ByteArray),(⟨#[115]⟩:ByteArray),(⟨#[115]⟩:ByteArray),(⟨#[110]⟩:ByteArray),(⟨#[110]⟩:ByteArray),(⟨#[110]⟩:ByteArray),(⟨#[110]⟩:ByteArray),(⟨#[110]⟩:ByteArray),(⟨#[110]⟩:ByteArray),(⟨#[120]⟩:ByteArray),(⟨#[120]⟩:ByteArray),(⟨#[120]⟩:ByteArray),(⟨#[120]⟩:ByteArray),(⟨#[120]⟩:ByteArray),(⟨#[115]⟩:ByteArray),(⟨#[115]⟩:ByteArray),(⟨#[115]⟩:ByteArray),(⟨#[120,115]⟩:ByteArray)]:List ByteArray) a0).bind fun e2=>(some e2)))
def Zi1 (a1:Int) (r1:ByteArray):Nat → (Int) → Option ((Bool) ⊕ (Unit))
 | 0,_=>none
 | n + 1,x3=>(if (decide (x3 < (r1.size:Int))) then ((sidx r1 x3).bind fun b5=>(if (b5 == a1) then (some (.inl true)) else ((Zi1 a1 r1 n) (IntKind.i64.wrap (x3 + (1:Int)))))) else (some (.inr ())))
def Zev (a0:Int) (a1:Int):Option (Bool):=((Zmf a0).bind fun r1=>((Zi1 a1 r1 (Int.toNat ((r1.size:Int) - (0:Int)) + 1) (0:Int)).bind fun z8=>match z8 with | .inl r=>some r | .inr ()=>(some false)))
def Zfi (a0:Int):Option (Int):=(if ((decide (a0 < (0:Int))) || (decide ((21:Int) < a0))) then (some (0:Int)) else ((idx ([(0:Int),(0:Int),(0:Int),(0:Int),(0:Int),(1:Int),(1:Int),(2:Int),(3:Int),(3:Int),(4:Int),(4:Int),(4:Int),(5:Int),(6:Int),(7:Int),(7:Int),(7:Int),(8:Int),(8:Int),(8:Int),(9:Int)]:List Int) a0).bind fun e2=>(some e2)))
def Zfb (a0:Zn):Option (Int):=(if ((decide (a0.Kind < (1:Int))) || (decide ((21:Int) < a0.Kind))) then (some (5:Int)) else (if ((decide ((a0.Key.size:Int) < (1:Int))) || (decide ((24:Int) < (a0.Key.size:Int)))) then (some (1:Int)) else ((Zev a0.Kind (110:Int)).bind fun r3=>((gd (!((!r3) && (a0.N != (0:Int)))) (Zev a0.Kind (120:Int))).bind fun r5=>((gd ((!((!r3) && (a0.N != (0:Int)))) && (!r5)) (Zd5 a0.X (0:Nat))).bind fun r7=>((gd (!(((!r3) && (a0.N != (0:Int))) || ((!r5) && (!r7)))) (Zev a0.Kind (115:Int))).bind fun r9=>(if ((((!r3) && (a0.N != (0:Int))) || ((!r5) && (!r7))) || ((!r9) && (!sEq a0.S (⟨#[]⟩:ByteArray)))) then (some (4:Int)) else ((gd (a0.Kind != (1:Int)) (Zhe a0.Make ({ Kind:=(0:Int),Num:=(0:Int),Low:=(0:Int),High:=(0:Int),Real:=(0:Nat),Cap:=(0:Int),Text:=ByteArray.empty,List:=([]:List Zh) }:Zb))).bind fun r12=>(if ((a0.Kind != (1:Int)) && (!r12)) then (some (4:Int)) else ((Zfi a0.Kind).bind fun r15=>((gd (!((r15 == (1:Int)) && (decide ((64:Int) < (a0.S.size:Int))))) (Zfi a0.Kind)).bind fun r17=>(if (((r15 == (1:Int)) && (decide ((64:Int) < (a0.S.size:Int)))) || ((r17 != (1:Int)) && (decide ((16:Int) < (a0.S.size:Int))))) then (some (3:Int)) else (if (((a0.Kind == (10:Int)) || (a0.Kind == (11:Int))) && ((decide (a0.N < (0:Int))) || (decide ((2305843009213693952:Int) < a0.N)))) then (some (1:Int)) else ((Zge a0.X).bind fun r21=>(if (!r21) then (some (4:Int)) else (if (a0.Kind == (1:Int)) then ((Zd2 a0.Make).bind fun r25=>(some r25)) else (some (0:Int))))))))))))))))))
def Zet (a0:Z9):Nat → (Int) → Option ((Int × Int) ⊕ (Unit))
 | 0,_=>none
 | n + 1,x2=>(if (decide (x2 < (a0.Acts.length:Int))) then ((idx a0.Acts x2).bind fun e4=>((Zfb e4).bind fun r6=>(if (r6 != (0:Int)) then (some (.inl (r6,(IntKind.i64.wrap (x2 + (1:Int)))))) else ((Zet a0 n) (IntKind.i64.wrap (x2 + (1:Int))))))) else (some (.inr ())))
def Zjp (a0:Z9):Option (Int × Int):=(if ((decide ((a0.Acts.length:Int) < (1:Int))) || (decide ((12:Int) < (a0.Acts.length:Int)))) then (some ((1:Int),(0:Int))) else ((Zet a0 (Int.toNat ((a0.Acts.length:Int) - (0:Int)) + 1) (0:Int)).bind fun z9=>match z9 with | .inl r=>some r | .inr ()=>(some ((0:Int),(0:Int)))))
def Zhi (a0:Zf) (a1:ByteArray):Option (Zb × Bool):=((Zez a0 a1).bind fun r1=>((gd (decide (r1 < (a0.L.length:Int))) (idx a0.L r1)).bind fun e3=>(if ((decide (r1 < (a0.L.length:Int))) && (sEq e3.Key a1)) then ((idx a0.L r1).bind fun e6=>(some (e6.Rec,true))) else (some (({ Kind:=(0:Int),Num:=(0:Int),Low:=(0:Int),High:=(0:Int),Real:=(0:Nat),Cap:=(0:Int),Text:=ByteArray.empty,List:=([]:List Zh) }:Zb),false)))))
def Zfm (a0:Zb):Option (Zb):=(if (([]:List Zh).length + a0.List.length) * 24 ≤ 140737488355328 then (some ({ a0 with List:=(([]:List Zh) ++ a0.List) })) else none)
def Zhd (a0:Int) (a1:Int):Option (Bool):=(some ((((decide ((0:Int) < a0)) && (decide ((0:Int) < a1))) && (decide ((IntKind.i64.wrap (a0 + a1)) < (0:Int)))) || (((decide (a0 < (0:Int))) && (decide (a1 < (0:Int)))) && (decide ((0:Int) ≤ (IntKind.i64.wrap (a0 + a1)))))))
def Zh3 (a0:Nat) (a1:Nat):Option (Nat):=((Zft a0 a1).bind fun r1=>(if r1 then (some a1) else (some a0)))
def Zh0 (a0:Nat) (a1:Nat):Option (Nat):=((Zft a1 a0).bind fun r1=>(if r1 then (some a1) else (some a0)))
def Zfo (a0:Int):Option (Nat):=(if (decide ((9223372036854775808:Int) ≤ a0)) then (some (Int.toNat (IntKind.u64.wrap (a0 - (9223372036854775808:Int))))) else (some (Int.toNat (IntKind.u64.wrap ((9223372036854775808:Int) + (IntKind.u64.wrap ((IntKind.u64.wrap ((9223372036854775808:Int) - (1:Int))) - a0)))))))
def Zf0 (a0:Nat):Option (Int):=((Zew a0).bind fun r1=>(if r1 then (some (IntKind.u64.wrap ((9223372036854775808:Int) + (9221120237041090561:Int)))) else (if (decide ((9223372036854775808:Int) ≤ (a0:Int))) then (some (IntKind.u64.wrap ((IntKind.u64.wrap ((9223372036854775808:Int) - (1:Int))) - (IntKind.u64.wrap ((a0:Int) - (9223372036854775808:Int)))))) else (some (IntKind.u64.wrap ((9223372036854775808:Int) + (a0:Int)))))))
def Zfp (a0:List Zh) (a1:ByteArray):Nat → (Int) → Option ((Bool) ⊕ (Unit))
 | 0,_=>none
 | n + 1,x1=>(if (decide (x1 < (a0.length:Int))) then ((idx a0 x1).bind fun e3=>(if (sEq e3.Name a1) then (some (.inl true)) else ((Zfp a0 a1 n) (IntKind.i64.wrap (x1 + (1:Int)))))) else (some (.inr ())))
def Zf7 (a0:List Zh) (a1:ByteArray):Option (Bool):=((Zfp a0 a1 (Int.toNat ((a0.length:Int) - (0:Int)) + 1) (0:Int)).bind fun z6=>match z6 with | .inl r=>some r | .inr ()=>(some false))
def Zgx (j30:List Zh):Option (List Zh):=(some j30)
def Zd7 (a0:List Zh) (x3:Int) (kk:(List Zh) → (Bool) → (Int) → Option ((List Zh) × Bool)) (j20:List Zh) (j21:Bool):Option ((List Zh) × Bool):=((idx a0 x3).bind fun e22=>(if (j20.length + ([e22]:List Zh).length) * 24 ≤ 140737488355328 then (kk (j20 ++ ([e22]:List Zh)) j21 (IntKind.i64.wrap (x3 + (1:Int)))) else none))
def Zcr (a0:List Zh) (a1:Zh) (a2:Bool):Nat → (List Zh) → (Bool) → (Int) → Option ((List Zh) × Bool)
 | 0,_,_,_=>none
 | n + 1,x1,x2,x3=>(if (decide (x3 < (a0.length:Int))) then ((gd (!a2) (idx a0 x3)).bind fun e5=>((gd (!a2) (Zgu e5 a1)).bind fun r7=>((gd ((!((!a2) && r7)) && a2) (idx a0 x3)).bind fun e9=>((idx a0 x3).bind fun e11=>((gd ((sEq e11.Name a1.Name) && (!a2)) (idx a0 x3)).bind fun e13=>((gd ((sEq e11.Name a1.Name) && (!a2)) (Zd5 e13.Score a1.Score)).bind fun r15=>(if ((!x2) && (!(((!a2) && r7) || (a2 && (sLt e9.Name a1.Name))))) then (if (!((sEq e11.Name a1.Name) && (a2 || r15))) then (if (x1.length + ([a1]:List Zh).length) * 24 ≤ 140737488355328 then (Zd7 a0 x3 (Zcr a0 a1 a2 n) (x1 ++ ([a1]:List Zh)) true) else none) else (Zd7 a0 x3 (Zcr a0 a1 a2 n) x1 true)) else (Zd7 a0 x3 (Zcr a0 a1 a2 n) x1 x2)))))))) else (some (x1,x2)))
def Zey (a0:List Zh) (a1:Zh) (a2:Bool):Option (List Zh):=((Zcr a0 a1 a2 (Int.toNat ((a0.length:Int) - (0:Int)) + 1) ([]:List Zh) false (0:Int)).bind fun z27=>match z27 with | (y25,y26)=>(if (!y26) then (if (y25.length + ([a1]:List Zh).length) * 24 ≤ 140737488355328 then (Zgx (y25 ++ ([a1]:List Zh))) else none) else (Zgx y25)))
def Z1 (j65:Zb) (j66:Zd):Option (Zb × Zd):=(some (j65,j66))
def Zjl (x43:Int) (kk:(List Zh) → (Int) → Option (List Zh)) (j51:List Zh):Option (List Zh):=(kk j51 (IntKind.i64.wrap (x43 + (1:Int))))
def Zdf (a0:Zb) (a1:Zn):Nat → (List Zh) → (Int) → Option (List Zh)
 | 0,_,_=>none
 | n + 1,x42,x43=>(if (decide (x43 < (a0.List.length:Int))) then ((idx a0.List x43).bind fun e45=>(if (!sEq e45.Name a1.S) then ((idx a0.List x43).bind fun e48=>(if (x42.length + ([e48]:List Zh).length) * 24 ≤ 140737488355328 then (Zjl x43 (Zdf a0 a1 n) (x42 ++ ([e48]:List Zh))) else none)) else (Zjl x43 (Zdf a0 a1 n) x42))) else (some x42))
def Zdq (a0:Zb) (j64:List Zh):Option (Zb × Zd):=(Z1 ({ a0 with List:=j64 }) ({ Code:=(0:Int),Num:=(0:Int),Rec:=(default:Zb) }:Zd))
def Zb1 (a0:Zb) (a1:Zn) (j11:Bool):Option (Zb × Zd):=(if j11 then (if (decide (a0.Num < a1.N)) then (Z1 a0 ({ ({ Code:=(0:Int),Num:=(0:Int),Rec:=(default:Zb) }:Zd) with Code:=(11:Int) })) else (Z1 a0 ({ Code:=(0:Int),Num:=(0:Int),Rec:=(default:Zb) }:Zd))) else (if (a1.Kind == (10:Int)) then (if (decide (a0.High < (IntKind.i64.wrap (a0.Num + a1.N)))) then (Z1 a0 ({ ({ Code:=(0:Int),Num:=(0:Int),Rec:=(default:Zb) }:Zd) with Code:=(9:Int) })) else (Z1 ({ a0 with Num:=(IntKind.i64.wrap (a0.Num + a1.N)) }) ({ Code:=(0:Int),Num:=(0:Int),Rec:=(default:Zb) }:Zd))) else (if (a1.Kind == (11:Int)) then (if (decide ((IntKind.i64.wrap (a0.Num - a1.N)) < a0.Low)) then (Z1 a0 ({ ({ Code:=(0:Int),Num:=(0:Int),Rec:=(default:Zb) }:Zd) with Code:=(10:Int) })) else (Z1 ({ a0 with Num:=(IntKind.i64.wrap (a0.Num - a1.N)) }) ({ Code:=(0:Int),Num:=(0:Int),Rec:=(default:Zb) }:Zd))) else (if (a1.Kind == (13:Int)) then ((Zh3 a0.Real a1.X).bind fun r19=>(Z1 ({ a0 with Real:=r19 }) ({ Code:=(0:Int),Num:=(0:Int),Rec:=(default:Zb) }:Zd))) else (if (a1.Kind == (14:Int)) then ((Zh0 a0.Real a1.X).bind fun r22=>(Z1 ({ a0 with Real:=r22 }) ({ Code:=(0:Int),Num:=(0:Int),Rec:=(default:Zb) }:Zd))) else (if (a1.Kind == (15:Int)) then ((Zf0 (fadd a0.Real a1.X)).bind fun r25=>((Zfo r25).bind fun r27=>(Z1 ({ a0 with Real:=r27 }) ({ Code:=(0:Int),Num:=(0:Int),Rec:=(default:Zb) }:Zd)))) else (if (a1.Kind == (16:Int)) then ((Zf0 (fmul a0.Real a1.X)).bind fun r30=>((Zfo r30).bind fun r32=>(Z1 ({ a0 with Real:=r32 }) ({ Code:=(0:Int),Num:=(0:Int),Rec:=(default:Zb) }:Zd)))) else (if (a1.Kind == (17:Int)) then (Z1 ({ a0 with Real:=a1.X }) ({ Code:=(0:Int),Num:=(0:Int),Rec:=(default:Zb) }:Zd)) else (if (a1.Kind == (18:Int)) then ((Zf7 a0.List a1.S).bind fun r36=>(if ((!r36) && (decide (a0.Cap ≤ (a0.List.length:Int)))) then (Z1 a0 ({ ({ Code:=(0:Int),Num:=(0:Int),Rec:=(default:Zb) }:Zd) with Code:=(8:Int) })) else ((Zey a0.List ({ Score:=(0:Nat),Name:=a1.S }:Zh) true).bind fun r39=>(Z1 ({ a0 with List:=r39 }) ({ Code:=(0:Int),Num:=(0:Int),Rec:=(default:Zb) }:Zd))))) else (if (a1.Kind == (19:Int)) then ((Zdf a0 a1 (Int.toNat ((a0.List.length:Int) - (0:Int)) + 1) ([]:List Zh) (0:Int)).bind fun z53=>match z53 with | y52=>(Z1 ({ a0 with List:=y52 }) ({ Code:=(0:Int),Num:=(0:Int),Rec:=(default:Zb) }:Zd))) else (if (a1.Kind == (20:Int)) then ((Zf7 a0.List a1.S).bind fun r55=>(if (!r55) then (Z1 a0 ({ ({ Code:=(0:Int),Num:=(0:Int),Rec:=(default:Zb) }:Zd) with Code:=(11:Int) })) else (Z1 a0 ({ Code:=(0:Int),Num:=(0:Int),Rec:=(default:Zb) }:Zd)))) else (if (a1.Kind == (21:Int)) then ((Zey a0.List ({ Score:=a1.X,Name:=a1.S }:Zh) false).bind fun r59=>(if (decide (a0.Cap < (r59.length:Int))) then ((cut r59 (0:Int) a0.Cap).bind fun c62=>(Zdq a0 c62)) else (Zdq a0 r59))) else (Z1 a0 ({ Code:=(0:Int),Num:=(0:Int),Rec:=(default:Zb) }:Zd))))))))))))))
def Zbj (a0:Zb) (a1:Zn):Option (Zb × Zd):=(if (a1.Kind == (5:Int)) then (Z1 ({ a0 with Text:=a1.S }) ({ Code:=(0:Int),Num:=(0:Int),Rec:=(default:Zb) }:Zd)) else (if (a1.Kind == (6:Int)) then ((Zfm a0).bind fun r3=>(Z1 ({ a0 with Text:=a1.S }) ({ ({ Code:=(0:Int),Num:=(0:Int),Rec:=(default:Zb) }:Zd) with Rec:=r3 }))) else (if (a1.Kind == (7:Int)) then (Z1 ({ a0 with Num:=(IntKind.i64.wrap (a0.Num + a1.N)) }) ({ Code:=(0:Int),Num:=(0:Int),Rec:=(default:Zb) }:Zd)) else (if (a1.Kind == (8:Int)) then ((Zhd a0.Num a1.N).bind fun r7=>(if r7 then (Z1 a0 ({ ({ Code:=(0:Int),Num:=(0:Int),Rec:=(default:Zb) }:Zd) with Code:=(9:Int) })) else (Z1 ({ a0 with Num:=(IntKind.i64.wrap (a0.Num + a1.N)) }) ({ Code:=(0:Int),Num:=(0:Int),Rec:=(default:Zb) }:Zd)))) else (if (a1.Kind == (9:Int)) then (Zb1 a0 a1 (a1.Kind == (9:Int))) else (Zb1 a0 a1 (a1.Kind == (12:Int))))))))
def Zgo (a1:Bool) (a2:Zn) (r3:Zb) (j18:Int):Option (Zb × Bool × Zd):=(if (j18 != (0:Int)) then (some (r3,a1,({ Code:=j18,Num:=(0:Int),Rec:=(default:Zb) }:Zd))) else (if (a2.Kind == (1:Int)) then ((Zfm a2.Make).bind fun r21=>(some (r21,true,({ Code:=(0:Int),Num:=(0:Int),Rec:=(default:Zb) }:Zd)))) else (if (a2.Kind == (2:Int)) then (some (({ Kind:=(0:Int),Num:=(0:Int),Low:=(0:Int),High:=(0:Int),Real:=(0:Nat),Cap:=(0:Int),Text:=ByteArray.empty,List:=([]:List Zh) }:Zb),false,({ Code:=(0:Int),Num:=(0:Int),Rec:=(default:Zb) }:Zd))) else (if (a2.Kind == (3:Int)) then (some (r3,a1,({ Code:=(0:Int),Num:=r3.Kind,Rec:=(default:Zb) }:Zd))) else (if (a2.Kind == (4:Int)) then ((Zfm r3).bind fun r26=>(some (r3,a1,({ Code:=(0:Int),Num:=(0:Int),Rec:=r26 }:Zd)))) else ((Zbj r3 a2).bind fun r28=>(some (r28.1,a1,r28.2))))))))
def Zgt (a1:Bool) (a2:Zn) (r3:Zb) (j14:Int):Option (Zb × Bool × Zd):=((Zfi a2.Kind).bind fun r15=>(if (((j14 == (0:Int)) && (r15 != (0:Int))) && (r15 != r3.Kind)) then (Zgo a1 a2 r3 (5:Int)) else (Zgo a1 a2 r3 j14)))
def Zgn (a1:Bool) (a2:Zn) (r3:Zb) (j12:Int):Option (Zb × Bool × Zd):=(if ((((j12 == (0:Int)) && (!a1)) && (a2.Kind != (1:Int))) && (a2.Kind != (3:Int))) then (Zgt a1 a2 r3 (6:Int)) else (Zgt a1 a2 r3 j12))
def Zeu (a1:Bool) (a2:Zn) (r3:Zb) (j10:Int):Option (Zb × Bool × Zd):=(if (((j10 == (0:Int)) && (a2.Kind == (1:Int))) && a1) then (Zgn a1 a2 r3 (7:Int)) else (Zgn a1 a2 r3 j10))
def Zgp (a1:Bool) (a2:Zn) (j2:Zb):Option (Zb × Bool × Zd):=((Zfm j2).bind fun r3=>((Zfb a2).bind fun r5=>(if ((r5 == (0:Int)) && a1) then ((Zd2 r3).bind fun r8=>(Zeu a1 a2 r3 r8)) else (Zeu a1 a2 r3 r5))))
def Zjo (a0:Zb) (a1:Bool) (a2:Zn):Option (Zb × Bool × Zd):=(if (!a1) then (Zgp a1 a2 ({ Kind:=(0:Int),Num:=(0:Int),Low:=(0:Int),High:=(0:Int),Real:=(0:Nat),Cap:=(0:Int),Text:=ByteArray.empty,List:=([]:List Zh) }:Zb)) else (Zgp a1 a2 a0))
def Zhp (a0:Zf) (a1:ByteArray):Option (Zf × Bool):=((Zez a0 a1).bind fun r1=>((gd (!(decide ((a0.L.length:Int) ≤ r1))) (idx a0.L r1)).bind fun e3=>(if ((decide ((a0.L.length:Int) ≤ r1)) || (!sEq e3.Key a1)) then (some (a0,false)) else ((cut a0.L (0:Int) r1).bind fun c6=>(if (([]:List Zbg).length + c6.length) * 104 ≤ 140737488355328 then ((cut a0.L (IntKind.i64.wrap (r1 + (1:Int))) (a0.L.length:Int)).bind fun c9=>(if ((([]:List Zbg) ++ c6).length + c9.length) * 104 ≤ 140737488355328 then (some (({ L:=((([]:List Zbg) ++ c6) ++ c9),Room:=a0.Room }:Zf),true)) else none)) else none)))))
def Zi8 (a0:Zf) (a1:Zn):Option (Zf × Zd):=((Zhi a0 a1.Key).bind fun r1=>((Zjo r1.1 r1.2 a1).bind fun r3=>(if (r3.2.2.Code != (0:Int)) then (some (a0,r3.2.2)) else (if ((a1.Kind == (1:Int)) && (decide (a0.Room ≤ (a0.L.length:Int)))) then (some (a0,({ Code:=(8:Int),Num:=(0:Int),Rec:=(default:Zb) }:Zd))) else (if (!r3.2.1) then ((Zhp a0 a1.Key).bind fun r8=>(some (r8.1,r3.2.2))) else ((Zff a0 a1.Key r3.1).bind fun r10=>(some (r10.1,r3.2.2))))))))
def Zes (a0:Zf) (a1:Z9):Nat → (Zf) → (Zs) → (Zf) → (List Zd) → (Int) → Option ((Zf × Zs) ⊕ (Zf × Zs × Zf × (List Zd)))
 | 0,_,_,_,_,_=>none
 | n + 1,x4,x5,x6,x7,x8=>(if (decide (x8 < (a1.Acts.length:Int))) then ((idx a1.Acts x8).bind fun e10=>((Zi8 x6 e10).bind fun r12=>((gd (r12.2.Code != (0:Int)) (idx a1.Acts x8)).bind fun e14=>(if ((r12.2.Code != (0:Int)) && e14.Must) then (some (.inl (a0,({ Code:=r12.2.Code,At:=(IntKind.i64.wrap (x8 + (1:Int))),Answers:=([]:List Zd) }:Zs)))) else (if (x7.length + ([r12.2]:List Zd).length) * 104 ≤ 140737488355328 then ((Zes a0 a1 n) x4 x5 r12.1 (x7 ++ ([r12.2]:List Zd)) (IntKind.i64.wrap (x8 + (1:Int)))) else none))))) else (some (.inr (x4,x5,x6,x7))))
def Zh2 (a0:Zf) (a1:Z9):Option (Zf × Zs):=((Zjp a1).bind fun r1=>(if (r1.1 != (0:Int)) then (some (a0,({ Code:=r1.1,At:=r1.2,Answers:=([]:List Zd) }:Zs))) else ((Zes a0 a1 (Int.toNat ((a1.Acts.length:Int) - (0:Int)) + 1) (default:Zf) (default:Zs) a0 ([]:List Zd) (0:Int)).bind fun z22=>match z22 with | .inl r=>some r | .inr (y18,y19,y20,y21)=>(some (y20,({ Code:=(0:Int),At:=(0:Int),Answers:=y21 }:Zs))))))
def Zj5 (a0:Zd) (a1:Zd):Option (Bool):=((gd ((a0.Code == a1.Code) && (a0.Num == a1.Num)) (Zhe a0.Rec a1.Rec)).bind fun r1=>(some (((a0.Code == a1.Code) && (a0.Num == a1.Num)) && r1)))
def Zer (a0:Zs) (a1:Zs):Nat → (Int) → Option ((Bool) ⊕ (Unit))
 | 0,_=>none
 | n + 1,x2=>(if (decide (x2 < (a0.Answers.length:Int))) then ((idx a0.Answers x2).bind fun e4=>((idx a1.Answers x2).bind fun e6=>((Zj5 e4 e6).bind fun r8=>(if (!r8) then (some (.inl false)) else ((Zer a0 a1 n) (IntKind.i64.wrap (x2 + (1:Int)))))))) else (some (.inr ())))
def Zjg (a0:Zs) (a1:Zs):Option (Bool):=(if (((a0.Code != a1.Code) || (a0.At != a1.At)) || ((a0.Answers.length:Int) != (a1.Answers.length:Int))) then (some false) else ((Zer a0 a1 (Int.toNat ((a0.Answers.length:Int) - (0:Int)) + 1) (0:Int)).bind fun z11=>match z11 with | .inl r=>some r | .inr ()=>(some true)))
def Zlo (a0:Zk):Option (Int):=(some a0.room)
def Zfz (a0:Zk) (a1:Zf):Nat → (Int) → Option ((Int) ⊕ (Unit))
 | 0,_=>none
 | n + 1,x6=>(if (decide (x6 < (a1.L.length:Int))) then ((idx a1.L x6).bind fun e8=>((Zio a0 x6).bind fun r10=>((gd (!((!r10.2.2) || (!sEq r10.1 e8.Key))) (Zhe r10.2.1 e8.Rec)).bind fun r12=>(if (((!r10.2.2) || (!sEq r10.1 e8.Key)) || (!r12)) then (some (.inl (0:Int))) else ((Zfz a0 a1 n) (IntKind.i64.wrap (x6 + (1:Int)))))))) else (some (.inr ())))
def Zir (a0:Zk) (a1:Zf):Option (Int):=((Zf8 a0).bind fun r1=>((gd (!(r1 != (a1.L.length:Int))) (Zlo a0)).bind fun r3=>(if ((r1 != (a1.L.length:Int)) || (r3 != a1.Room)) then (some (0:Int)) else ((Zfz a0 a1 (Int.toNat ((a1.L.length:Int) - (0:Int)) + 1) (0:Int)).bind fun z15=>match z15 with | .inl r=>some r | .inr ()=>(some (1:Int))))))
def Zep (a0:List Z9):Nat → (Int) → Option ((Int) ⊕ (Unit))
 | 0,_=>none
 | n + 1,x2=>(if (decide (x2 < (a0.length:Int))) then ((idx a0 x2).bind fun e4=>((Zkk e4).bind fun r6=>(if (decide ((0:Int) < r6)) then (some (.inl (1:Int))) else ((Zep a0 n) (IntKind.i64.wrap (x2 + (1:Int))))))) else (some (.inr ())))
def Zk0 (a0:List Z9):Option (Int):=(if (decide ((40:Int) < (a0.length:Int))) then (some (1:Int)) else ((Zep a0 (Int.toNat ((a0.length:Int) - (0:Int)) + 1) (0:Int)).bind fun z9=>match z9 with | .inl r=>some r | .inr ()=>(some (0:Int))))
def Zcf (a0:List Zn) (φ1:Zn → Option Bool):Nat → (Int) → Option ((Int) ⊕ (Unit))
 | 0,_=>none
 | n + 1,x1=>(if (decide (x1 < (a0.length:Int))) then ((idx a0 x1).bind fun e3=>((φ1 e3).bind fun r5=>(if r5 then (some (.inl x1)) else ((Zcf a0 φ1 n) (IntKind.i64.wrap (x1 + (1:Int))))))) else (some (.inr ())))
def Zfu (a0:List Zn) (φ1:Zn → Option Bool):Option (Int):=((Zcf a0 φ1 (Int.toNat ((a0.length:Int) - (0:Int)) + 1) (0:Int)).bind fun z8=>match z8 with | .inl r=>some r | .inr ()=>(some (-1:Int)))
def Ze0 (a0:List Zn) (φ1:Zn → Option Bool):Option (Bool):=((Zfu a0 φ1).bind fun r1=>(some (decide ((0:Int) ≤ r1))))
def Zjb (a0:Zn):Option (Bool):=(some ((a0.Kind == (1:Int)) || (a0.Kind == (2:Int))))
def Zl6 (a0:Z9):Option (Bool):=((Ze0 a0.Acts (fun y0=>Zjb y0)).bind fun r1=>(some r1))
def Zht (a1:Z9) (a2:List ByteArray) (e3:Zn):Nat → (Int) → Option ((Bool) ⊕ (Unit))
 | 0,_=>none
 | n + 1,x5=>(if (decide (x5 < (a1.Acts.length:Int))) then ((idx a1.Acts x5).bind fun e7=>((gd (sEq e3.Key e7.Key) (Zjy e3.Kind)).bind fun r9=>((gd ((sEq e3.Key e7.Key) && r9) (Zjy e7.Kind)).bind fun r11=>((gd ((sEq e3.Key e7.Key) && (!(r9 && r11))) (Zdi a2 e3.Key)).bind fun r13=>(if (((sEq e3.Key e7.Key) && (!(r9 && r11))) && (!r13)) then (some (.inl true)) else ((Zht a1 a2 e3 n) (IntKind.i64.wrap (x5 + (1:Int))))))))) else (some (.inr ())))
def Zhw (a0:Z9) (a1:Z9) (a2:List ByteArray):Nat → (Int) → Option ((Bool) ⊕ (Unit))
 | 0,_=>none
 | n + 1,x1=>(if (decide (x1 < (a0.Acts.length:Int))) then ((idx a0.Acts x1).bind fun e3=>((Zht a1 a2 e3 (Int.toNat ((a1.Acts.length:Int) - (0:Int)) + 1) (0:Int)).bind fun z16=>match z16 with | .inl r=>some (.inl r) | .inr ()=>((Zhw a0 a1 a2 n) (IntKind.i64.wrap (x1 + (1:Int)))))) else (some (.inr ())))
def Zpn (a0:Z9) (a1:Z9) (a2:List ByteArray):Option (Bool):=((Zhw a0 a1 a2 (Int.toNat ((a0.Acts.length:Int) - (0:Int)) + 1) (0:Int)).bind fun z17=>match z17 with | .inl r=>some r | .inr ()=>((Zl6 a0).bind fun r18=>((gd r18 (Zl6 a1)).bind fun r20=>(some (r18 && r20)))))
def Zej (a1:List Z9):Nat → (Zf) → (List Zs) → (Int) → Option (Zf × (List Zs))
 | 0,_,_,_=>none
 | n + 1,x1,x2,x3=>(if (decide (x3 < (a1.length:Int))) then ((idx a1 x3).bind fun e5=>((Zh2 x1 e5).bind fun r7=>(if (x2.length + ([r7.2]:List Zs).length) * 40 ≤ 140737488355328 then ((Zej a1 n) r7.1 (x2 ++ ([r7.2]:List Zs)) (IntKind.i64.wrap (x3 + (1:Int)))) else none))) else (some (x1,x2)))
def Zki (a0:Zf) (a1:List Z9):Option (Zf × (List Zs)):=((Zej a1 (Int.toNat ((a1.length:Int) - (0:Int)) + 1) a0 ([]:List Zs) (0:Int)).bind fun z12=>match z12 with | (y10,y11)=>(some (y10,y11)))
def Zei (a0:List Zs) (a1:List Zs):Nat → (Int) → Option ((Bool) ⊕ (Unit))
 | 0,_=>none
 | n + 1,x2=>(if (decide (x2 < (a0.length:Int))) then ((idx a0 x2).bind fun e4=>((idx a1 x2).bind fun e6=>((Zjg e4 e6).bind fun r8=>(if (!r8) then (some (.inl false)) else ((Zei a0 a1 n) (IntKind.i64.wrap (x2 + (1:Int)))))))) else (some (.inr ())))
def Zji (a0:List Zs) (a1:List Zs):Option (Bool):=(if ((a0.length:Int) != (a1.length:Int)) then (some false) else ((Zei a0 a1 (Int.toNat ((a0.length:Int) - (0:Int)) + 1) (0:Int)).bind fun z11=>match z11 with | .inl r=>some r | .inr ()=>(some true)))
def Zgi (x25:Int) (kk:(Zw) → (Zw) → (Int) → Option (Zw × Zw)) (j34:Zw) (j35:Zw):Option (Zw × Zw):=(kk j34 j35 (IntKind.i64.wrap (x25 + (1:Int))))
def Zc2 (a2:List Bool):Nat → (Zw) → (Zw) → (Int) → Option (Zw × Zw)
 | 0,_,_,_=>none
 | n + 1,x23,x24,x25=>(if (decide (x25 < (a2.length:Int))) then ((idx a2 x25).bind fun e27=>(if e27 then ((Zfg x23).bind fun r30=>(Zgi x25 (Zc2 a2 n) r30.1 x24)) else ((Zfg x24).bind fun r32=>(Zgi x25 (Zc2 a2 n) x23 r32.1)))) else (some (x23,x24)))
def Zi5 (a0:List Zbg) (a1:List Z9) (a2:List Bool):Option (Bool):=((Zkp).bind fun r1=>(if (!r1) then (some false) else ((Zh7 (6:Int) a0).bind fun r4=>((gd (!r4.2.isNone) (Zk0 a1)).bind fun r6=>((gd (!((r4.2.isNone || (decide ((0:Int) < r6))) || (decide ((60:Int) < (a2.length:Int))))) (idx a1 (0:Int))).bind fun e8=>((gd (!((r4.2.isNone || (decide ((0:Int) < r6))) || (decide ((60:Int) < (a2.length:Int))))) (idx a1 (1:Int))).bind fun e10=>((gd (!((r4.2.isNone || (decide ((0:Int) < r6))) || (decide ((60:Int) < (a2.length:Int))))) (Zpn e8 e10 ([]:List ByteArray))).bind fun r12=>(if (((r4.2.isNone || (decide ((0:Int) < r6))) || (decide ((60:Int) < (a2.length:Int)))) || r12) then (some true) else ((idx a1 (0:Int)).bind fun e15=>((Zme e15 r4.1 ([]:List ByteArray)).bind fun r17=>((idx a1 (1:Int)).bind fun e19=>((Zme e19 r4.1 ([]:List ByteArray)).bind fun r21=>((Zc2 a2 (Int.toNat ((a2.length:Int) - (0:Int)) + 1) r17 r21 (0:Int)).bind fun z38=>match z38 with | (y36,y37)=>((Zkj y36).bind fun r39=>((Zkj y37).bind fun r41=>((Zde r39.1 r4.1).bind fun r43=>((Zde r41.1 r43.1).bind fun r45=>((Zde r41.1 r4.1).bind fun r47=>((Zde r39.1 r47.1).bind fun r49=>((r4.2).bind fun n51=>((Zki n51 a1).bind fun r53=>((Zha r39.1).bind fun r55=>((Zha r41.1).bind fun r57=>((Zji ([r55.1,r57.1]:List Zs) r53.2).bind fun r59=>((gd r59 (Zir r45.1 r53.1)).bind fun r61=>((gd (r59 && (r61 == (1:Int))) (Zir r49.1 r53.1)).bind fun r63=>(some ((r59 && (r61 == (1:Int))) && (r63 == (1:Int))))))))))))))))))))))))))))))
def Zrn (x:Zh):Prop:=(x.Score < 2 ^ 64) ∧ (x.Name.size ≤ maxLen)
def Zlx (x:Zb):Prop:=((IntKind.i64).min ≤ x.Kind ∧ x.Kind ≤ (IntKind.i64).max) ∧ ((IntKind.i64).min ≤ x.Num ∧ x.Num ≤ (IntKind.i64).max) ∧ ((IntKind.i64).min ≤ x.Low ∧ x.Low ≤ (IntKind.i64).max) ∧ ((IntKind.i64).min ≤ x.High ∧ x.High ≤ (IntKind.i64).max) ∧ (x.Real < 2 ^ 64) ∧ ((IntKind.i64).min ≤ x.Cap ∧ x.Cap ≤ (IntKind.i64).max) ∧ (x.Text.size ≤ maxLen) ∧ (x.List.length ≤ maxLen ∧ ∀ e0 ∈ x.List,(Zrn e0))
def Zm8 (x:Zn):Prop:=((IntKind.i64).min ≤ x.Kind ∧ x.Kind ≤ (IntKind.i64).max) ∧ (x.Key.size ≤ maxLen) ∧ ((IntKind.i64).min ≤ x.N ∧ x.N ≤ (IntKind.i64).max) ∧ (x.X < 2 ^ 64) ∧ (x.S.size ≤ maxLen) ∧ (Zlx x.Make) ∧ True
def Zl7 (x:Z9):Prop:=(x.Acts.length ≤ maxLen ∧ ∀ e0 ∈ x.Acts,(Zm8 e0))
def Zif (x:Zbg):Prop:=(x.Key.size ≤ maxLen) ∧ (Zlx x.Rec)
end Go.CL
namespace Go.CL
open Go Go.RowKit Go.Proofs
theorem Za:Tryz.prog.follows .mixedOrders=true:=by kernel_rfl
theorem Z96 {α:Type} {l:List α} (h:l.length=1):∃ u0,l=[u0]:=by
 match l,h with
 | [u0],_=>exact ⟨u0,rfl⟩
theorem Zmy {α:Type} {l:List α} (h:l.length=2):∃ u0 u1,l=[u0,u1]:=by
 match l,h with
 | [u0,u1],_=>exact ⟨u0,u1,rfl⟩
theorem Z42 {α:Type} {l:List α} (h:l.length=8):∃ u0 u1 u2 u3 u4 u5 u6 u7,l=[u0,u1,u2,u3,u4,u5,u6,u7]:=by
 match l,h with
 | [u0,u1,u2,u3,u4,u5,u6,u7],_=>exact ⟨u0,u1,u2,u3,u4,u5,u6,u7,rfl⟩
def Z3d:List (Kd.FK Zh):=[⟨_,Kd.flt,0,fun x:Zh=>x.Score⟩,
 ⟨_,Kd.str,1,fun x:Zh=>x.Name⟩]
def Z2:Kd Zh:=Kd.struct 2 Z3d (by rfl)
theorem Zl5:∀ g,Z2.K g (default:Zh) [.float .f64 0,.string ByteArray.empty]:=fun g=>⟨rfl,(Qc.2 ⟨(rfl),(Qc.2 ⟨(rfl),(fun _ h=>by cases h)⟩)⟩)⟩
def Zz3:List (Kd.FK Zb):=[⟨_,(Kd.int .i64),0,fun x:Zb=>x.Kind⟩,
 ⟨_,(Kd.int .i64),1,fun x:Zb=>x.Num⟩,
 ⟨_,(Kd.int .i64),2,fun x:Zb=>x.Low⟩,
 ⟨_,(Kd.int .i64),3,fun x:Zb=>x.High⟩,
 ⟨_,Kd.flt,4,fun x:Zb=>x.Real⟩,
 ⟨_,(Kd.int .i64),5,fun x:Zb=>x.Cap⟩,
 ⟨_,Kd.str,6,fun x:Zb=>x.Text⟩,
 ⟨_,Z2.sl,7,fun x:Zb=>x.List⟩]
def Ze:Kd Zb:=Kd.struct 8 Zz3 (by rfl)
theorem Zb2:∀ g,Ze.K g (default:Zb) [.int .i64 0,.int .i64 0,.int .i64 0,.int .i64 0,.float .f64 0,.int .i64 0,.string ByteArray.empty,.slice none 0 0]:=fun g=>⟨rfl,(Qc.2 ⟨(rfl),(Qc.2 ⟨(rfl),(Qc.2 ⟨(rfl),(Qc.2 ⟨(rfl),(Qc.2 ⟨(rfl),(Qc.2 ⟨(rfl),(Qc.2 ⟨(rfl),(Qc.2 ⟨(⟨none,0,rfl,Nat.le_refl _,Nat.zero_le _,.inl rfl⟩),(fun _ h=>by cases h)⟩)⟩)⟩)⟩)⟩)⟩)⟩)⟩)⟩
def Z55:List (Kd.FK Zn):=[⟨_,(Kd.int .i64),0,fun x:Zn=>x.Kind⟩,
 ⟨_,Kd.str,1,fun x:Zn=>x.Key⟩,
 ⟨_,(Kd.int .i64),2,fun x:Zn=>x.N⟩,
 ⟨_,Kd.flt,3,fun x:Zn=>x.X⟩,
 ⟨_,Kd.str,4,fun x:Zn=>x.S⟩,
 ⟨_,Ze,5,fun x:Zn=>x.Make⟩,
 ⟨_,Kd.bool,13,fun x:Zn=>x.Must⟩]
def Z0:Kd Zn:=Kd.struct 14 Z55 (by rfl)
theorem Zmt:∀ g,Z0.K g (default:Zn) [.int .i64 0,.string ByteArray.empty,.int .i64 0,.float .f64 0,.string ByteArray.empty,.int .i64 0,.int .i64 0,.int .i64 0,.int .i64 0,.float .f64 0,.int .i64 0,.string ByteArray.empty,.slice none 0 0,.bool false]:=fun g=>⟨rfl,(Qc.2 ⟨(rfl),(Qc.2 ⟨(rfl),(Qc.2 ⟨(rfl),(Qc.2 ⟨(rfl),(Qc.2 ⟨(rfl),(Qc.2 ⟨(Zb2 _),(Qc.2 ⟨(rfl),(fun _ h=>by cases h)⟩)⟩)⟩)⟩)⟩)⟩)⟩)⟩
def Z28:List (Kd.FK Z9):=[⟨_,Z0.sl,0,fun x:Z9=>x.Acts⟩]
def Zbq:Kd Z9:=Kd.struct 1 Z28 (by rfl)
theorem Zrh:∀ g,Zbq.K g (default:Z9) [.slice none 0 0]:=fun g=>⟨rfl,(Qc.2 ⟨(⟨none,0,rfl,Nat.le_refl _,Nat.zero_le _,.inl rfl⟩),(fun _ h=>by cases h)⟩)⟩
def Z2c:List (Kd.FK Zcj):=[⟨_,Kd.bool,0,fun x:Zcj=>x.text⟩,
 ⟨_,Kd.bool,1,fun x:Zcj=>x.num⟩,
 ⟨_,Kd.bool,2,fun x:Zcj=>x.bounds⟩,
 ⟨_,Kd.bool,3,fun x:Zcj=>x.real⟩,
 ⟨_,Kd.bool,4,fun x:Zcj=>x.list⟩]
def Zdj:Kd Zcj:=Kd.struct 5 Z2c (by rfl)
theorem Zt1:∀ g,Zdj.K g (default:Zcj) [.bool false,.bool false,.bool false,.bool false,.bool false]:=fun g=>⟨rfl,(Qc.2 ⟨(rfl),(Qc.2 ⟨(rfl),(Qc.2 ⟨(rfl),(Qc.2 ⟨(rfl),(Qc.2 ⟨(rfl),(fun _ h=>by cases h)⟩)⟩)⟩)⟩)⟩)⟩
def Z3l:List (Kd.FK Zdv):=[⟨_,Kd.str,0,fun x:Zdv=>x.word⟩,
 ⟨_,(Kd.int .i64),1,fun x:Zdv=>x.on⟩,
 ⟨_,Kd.str,2,fun x:Zdv=>x.has⟩]
def Ze9:Kd Zdv:=Kd.struct 3 Z3l (by rfl)
theorem Zv6:∀ g,Ze9.K g (default:Zdv) [.string ByteArray.empty,.int .i64 0,.string ByteArray.empty]:=fun g=>⟨rfl,(Qc.2 ⟨(rfl),(Qc.2 ⟨(rfl),(Qc.2 ⟨(rfl),(fun _ h=>by cases h)⟩)⟩)⟩)⟩
def shelf_nodeT.V (g:G):shelf_nodeT → Value → Prop
 | .nil,v=>v=.pointer none
 | .node x0 x1 x2 x3 x4,v=>∃ b o cs,v=.pointer (some ⟨b,o,none⟩) ∧ CellsAt g b o cs ∧ cs.length=12 ∧ (∀ u ∈ cs,u.oneCell'=true) ∧ Kd.str.K g x0 (seg cs 0 1) ∧ Ze.K g x1 (seg cs 1 8) ∧ (∃ v,seg cs 9 1=[v] ∧ shelf_nodeT.V g x2 v) ∧ (∃ v,seg cs 10 1=[v] ∧ shelf_nodeT.V g x3 v) ∧ (Kd.int .i64).K g x4 (seg cs 11 1)
theorem shelf_nodeT.mono {g g':G} (h:g.le g') (t:shelf_nodeT):∀ v,shelf_nodeT.V g t v → shelf_nodeT.V g' t v:=by
 induction t with
 | nil=>exact fun v h=>h
 | node x0 x1 x2 x3 x4 ih2 ih3 =>
  rintro v ⟨b,o,cs,rfl,hc,hl,hz,h0,h1,⟨w2,e2,k2⟩,⟨w3,e3,k3⟩,h4⟩
  exact ⟨b,o,cs,rfl,hc.mono h,hl,hz,Kd.str.mono h h0,Ze.mono h h1,⟨w2,e2,ih2 w2 k2⟩,⟨w3,e3,ih3 w3 k3⟩,(Kd.int .i64).mono h h4⟩
theorem shelf_nodeT.ptr {g:G} {t:shelf_nodeT} {v:Value} (h:shelf_nodeT.V g t v):∃ p,v=.pointer p ∧ p.isNone=t.isNil:=by
 cases t with
 | nil=>exact ⟨_,h,rfl⟩
 | node =>
  obtain ⟨b,o,cs,e,_⟩:=h
  exact ⟨_,e,rfl⟩
def Zbd:Kd shelf_nodeT where
 sz:=1
 ag:=false
 K:=fun g t cs=>∃ v,cs=[v] ∧ shelf_nodeT.V g t v
 len:=by rintro _ _ _ ⟨v,rfl,_⟩;rfl
 one:=by
  rintro _ _ _ ⟨v,rfl,h⟩ u hu
  obtain ⟨p,e,_⟩:=shelf_nodeT.ptr h
  rw [List.mem_singleton.1 hu,e];rfl
 mono:=fun h ⟨v,e,k⟩=>⟨v,e,shelf_nodeT.mono h _ _ k⟩
 nag:=fun _=>rfl
def Zz8:List (Kd.FK shelf_node):=[⟨_,Kd.str,0,fun x:shelf_node=>x.key⟩,
 ⟨_,Ze,1,fun x:shelf_node=>x.rec_⟩,
 ⟨_,Zbd,9,fun x:shelf_node=>x.left⟩,
 ⟨_,Zbd,10,fun x:shelf_node=>x.right⟩,
 ⟨_,(Kd.int .i64),11,fun x:shelf_node=>x.size⟩]
def Zhz:Kd shelf_node:=Kd.struct 12 Zz8 (by rfl)
theorem shelf_nodeT.V_iff {g:G} {t:shelf_nodeT} {v:Value}:(Zbd.pd t).p g v ↔ shelf_nodeT.V g t v:=by
 constructor
 ·rintro ⟨_,⟨u,rfl,h⟩,rfl⟩;exact h
 ·exact fun h=>⟨_,⟨v,rfl,h⟩,rfl⟩
theorem Zm9 (g:G):Zbd.K g shelf_nodeT.nil [.pointer none]:=⟨_,rfl,rfl⟩
theorem Ze3 (g:G):(Zbd.pd shelf_nodeT.nil).p g (.pointer none):=shelf_nodeT.V_iff.2 rfl
theorem Zf2 (t:shelf_nodeT) (g:G) (v:Value) (h:(Zbd.pd t).p g v):∃ p,v=.pointer p ∧ p.isNone=t.isNil:=shelf_nodeT.ptr (shelf_nodeT.V_iff.1 h)
theorem Zx {g:G} {t:shelf_nodeT} {x:shelf_node} {v:Value} (h:t.un=some x) (hv:(Zbd.pd t).p g v):(Zhz.ptr x).p g v:=by
 cases t with
 | nil=>cases h
 | node x0 x1 x2 x3 x4 =>
  obtain rfl:=Option.some.inj h
  obtain ⟨b,o,cs,rfl,hc,hl,_,h0,h1,h2,h3,h4⟩:=shelf_nodeT.V_iff.1 hv
  exact ⟨b,o,cs,rfl,⟨hl,(Qc.2 ⟨h0,(Qc.2 ⟨h1,(Qc.2 ⟨h2,(Qc.2 ⟨h3,(Qc.2 ⟨h4,(fun _ h=>by cases h)⟩)⟩)⟩)⟩)⟩)⟩,hc⟩
theorem Zyl {g:G} {x:shelf_node} {v:Value} (h:(Zhz.ptr x).p g v):(Zbd.pd x.up).p g v:=by
 obtain ⟨b,o,cs,rfl,hk,hc⟩:=h
 exact shelf_nodeT.V_iff.2 ⟨b,o,cs,rfl,hc,hk.1,Zhz.one hk,hk.2 _ (List.mem_of_getElem? (i:=0) rfl),hk.2 _ (List.mem_of_getElem? (i:=1) rfl),hk.2 _ (List.mem_of_getElem? (i:=2) rfl),hk.2 _ (List.mem_of_getElem? (i:=3) rfl),hk.2 _ (List.mem_of_getElem? (i:=4) rfl)⟩
def Zyd:List (Kd.FK Zk):=[⟨_,Zbd,0,fun x:Zk=>x.top⟩,
 ⟨_,(Kd.int .i64),1,fun x:Zk=>x.room⟩]
def Zy:Kd Zk:=Kd.struct 2 Zyd (by rfl)
theorem Zdx:∀ g,Zy.K g (default:Zk) [.pointer none,.int .i64 0]:=fun g=>⟨rfl,(Qc.2 ⟨(Zm9 _),(Qc.2 ⟨(rfl),(fun _ h=>by cases h)⟩)⟩)⟩
def Zz9:List (Kd.FK Zd):=[⟨_,(Kd.int .i64),0,fun x:Zd=>x.Code⟩,
 ⟨_,(Kd.int .i64),1,fun x:Zd=>x.Num⟩,
 ⟨_,Ze,2,fun x:Zd=>x.Rec⟩]
def Zj:Kd Zd:=Kd.struct 10 Zz9 (by rfl)
theorem Zed:∀ g,Zj.K g (default:Zd) [.int .i64 0,.int .i64 0,.int .i64 0,.int .i64 0,.int .i64 0,.int .i64 0,.float .f64 0,.int .i64 0,.string ByteArray.empty,.slice none 0 0]:=fun g=>⟨rfl,(Qc.2 ⟨(rfl),(Qc.2 ⟨(rfl),(Qc.2 ⟨(Zb2 _),(fun _ h=>by cases h)⟩)⟩)⟩)⟩
def Zz7:List (Kd.FK Zs):=[⟨_,(Kd.int .i64),0,fun x:Zs=>x.Code⟩,
 ⟨_,(Kd.int .i64),1,fun x:Zs=>x.At⟩,
 ⟨_,Zj.sl,2,fun x:Zs=>x.Answers⟩]
def Zbo:Kd Zs:=Kd.struct 3 Zz7 (by rfl)
theorem Zjd:∀ g,Zbo.K g (default:Zs) [.int .i64 0,.int .i64 0,.slice none 0 0]:=fun g=>⟨rfl,(Qc.2 ⟨(rfl),(Qc.2 ⟨(rfl),(Qc.2 ⟨(⟨none,0,rfl,Nat.le_refl _,Nat.zero_le _,.inl rfl⟩),(fun _ h=>by cases h)⟩)⟩)⟩)⟩
def Ztg:List (Kd.FK Zbg):=[⟨_,Kd.str,0,fun x:Zbg=>x.Key⟩,
 ⟨_,Ze,1,fun x:Zbg=>x.Rec⟩]
def Zb6:Kd Zbg:=Kd.struct 9 Ztg (by rfl)
theorem Zom:∀ g,Zb6.K g (default:Zbg) [.string ByteArray.empty,.int .i64 0,.int .i64 0,.int .i64 0,.int .i64 0,.float .f64 0,.int .i64 0,.string ByteArray.empty,.slice none 0 0]:=fun g=>⟨rfl,(Qc.2 ⟨(rfl),(Qc.2 ⟨(Zb2 _),(fun _ h=>by cases h)⟩)⟩)⟩
def Zsu:List (Kd.FK Zf):=[⟨_,Zb6.sl,0,fun x:Zf=>x.L⟩,
 ⟨_,(Kd.int .i64),1,fun x:Zf=>x.Room⟩]
def Z7:Kd Zf:=Kd.struct 2 Zsu (by rfl)
theorem Zeg:∀ g,Z7.K g (default:Zf) [.slice none 0 0,.int .i64 0]:=fun g=>⟨rfl,(Qc.2 ⟨(⟨none,0,rfl,Nat.le_refl _,Nat.zero_le _,.inl rfl⟩),(Qc.2 ⟨(rfl),(fun _ h=>by cases h)⟩)⟩)⟩
def Z1p:Zdv → List Value:=fun x=>[.string x.word,.int .i64 x.on,.string x.has]
theorem gm_0:(0,g_0.flatMap Z1p) ∈ GL:=List.mem_of_getElem? (i:=0) rfl
theorem gk_0:∀ g,(Kd.arr 22 Ze9).K g g_0 (g_0.flatMap Z1p):=fun g=>Zbfc (dk:=Ze9) (enc:=Z1p) (fun g x=>⟨rfl,(Qc.2 ⟨rfl,(Qc.2 ⟨rfl,(Qc.2 ⟨rfl,(fun _ h=>by cases h)⟩)⟩)⟩)⟩) g g_0
theorem Zdr:TE Tryz.prog 36 116 Z2 24:=TE.of Tryz.underlying36 (by kernel_rfl) (by decide) (by decide)
theorem Zci:Fld Tryz.prog 38 7 Ze Z2.sl (fun x:Zb=>x.List):=Fld.of ⟨_,Z2.sl,7,fun x:Zb=>x.List⟩ (List.mem_of_getElem? (i:=7) rfl) 7 rfl (by kernel_rfl) (by decide)
theorem Zdb:Ty Tryz.prog 36 Z2.sl:=⟨by kernel_rfl,by kernel_rfl⟩
theorem Z0r:Zm Tryz.prog 81:=by
 unfold Zm
 kernel_rfl
theorem Znv {c:Option Nat} {N j s:Nat} {o:Oper} {uses:Zbm} {x z:Operand} {v:Zb} {y0 y:List Zh} {v0:Zb} {t:Nat} (hT:Ty Tryz.prog t Z2.sl) (hop:o.op=.store t x z) (hd:o.dst=none) (hs:Opd uses (.tmp s) (Zch c Ze j v)) (hx:Opd uses x (Zju Ze j v0 7 Z2.sl y0)) (hz:Opd uses z (Z2.sl.pd y)):OB Tryz.prog N o uses [(s,Zch c Ze j { v with List:=y })] [j + 1] :=
 Zmm hT hop hd hs hx hz fun g cs ys hk hy=>by
  have hc:cs.length=8:=hk.1
  have hl:ys.length=1:=Z2.sl.len hy
  exact ⟨by omega,(Zdg (by omega)).trans hc,(Qc.2 ⟨(by show (Kd.int .i64).K g v.Kind (seg (Zba cs 7 ys) 0 1);rw [Z8 (by omega) (by omega)];exact hk.2 _ (List.mem_of_getElem? (i:=0) rfl)),(Qc.2 ⟨(by show (Kd.int .i64).K g v.Num (seg (Zba cs 7 ys) 1 1);rw [Z8 (by omega) (by omega)];exact hk.2 _ (List.mem_of_getElem? (i:=1) rfl)),(Qc.2 ⟨(by show (Kd.int .i64).K g v.Low (seg (Zba cs 7 ys) 2 1);rw [Z8 (by omega) (by omega)];exact hk.2 _ (List.mem_of_getElem? (i:=2) rfl)),(Qc.2 ⟨(by show (Kd.int .i64).K g v.High (seg (Zba cs 7 ys) 3 1);rw [Z8 (by omega) (by omega)];exact hk.2 _ (List.mem_of_getElem? (i:=3) rfl)),(Qc.2 ⟨(by show Kd.flt.K g v.Real (seg (Zba cs 7 ys) 4 1);rw [Z8 (by omega) (by omega)];exact hk.2 _ (List.mem_of_getElem? (i:=4) rfl)),(Qc.2 ⟨(by show (Kd.int .i64).K g v.Cap (seg (Zba cs 7 ys) 5 1);rw [Z8 (by omega) (by omega)];exact hk.2 _ (List.mem_of_getElem? (i:=5) rfl)),(Qc.2 ⟨(by show Kd.str.K g v.Text (seg (Zba cs 7 ys) 6 1);rw [Z8 (by omega) (by omega)];exact hk.2 _ (List.mem_of_getElem? (i:=6) rfl)),(Qc.2 ⟨(by show Z2.sl.K g y (seg (Zba cs 7 ys) 7 1);rw [Zdm (by omega) hl];exact hy),(fun _ h=>by cases h)⟩)⟩)⟩)⟩)⟩)⟩)⟩)⟩)⟩
theorem Zbe:Ty Tryz.prog 38 Ze:=⟨by kernel_rfl,by kernel_rfl⟩
theorem Zw7:TE Tryz.prog 23 40 Z0 152:=TE.of Tryz.underlying23 (by kernel_rfl) (by decide) (by decide)
structure Zmu where
 Acts:SlV
def Zz6:List (Kd.FK Zmu):=[⟨_,Kd.raw,0,fun x:Zmu=>x.Acts⟩]
def Zg3:Kd Zmu:=Kd.struct 1 Zz6 (by rfl)
def Zhm (x:Z9) (s:SlV):Zmu:=⟨s⟩
theorem Zz5 {x:Z9} {g:G} {cs ys:List Value} {s0 s1:SlV} (hk:Zg3.K g (Zhm x s0) cs) (hy:Kd.raw.K g s1 ys):0 + ys.length ≤ cs.length ∧ Zg3.K g (Zhm x s1) (Zba cs 0 ys):=by
 have hc:cs.length=1:=hk.1
 have hl:ys.length=1:=Kd.raw.len hy
 exact ⟨by omega,(Zdg (by omega)).trans hc,(Qc.2 ⟨(by show Kd.raw.K g s1 (seg (Zba cs 0 ys) 0 1);rw [Zdm (by omega) hl];exact hy),(fun _ h=>by cases h)⟩)⟩
theorem Zv9:Fld Tryz.prog 25 0 Zg3 Kd.raw (fun x:Zmu=>x.Acts):=Fld.of ⟨_,Kd.raw,0,fun x:Zmu=>x.Acts⟩ (List.mem_of_getElem? (i:=0) rfl) 0 rfl (by kernel_rfl) (by decide)
theorem Zw3:Ty Tryz.prog 23 Kd.raw:=⟨by kernel_rfl,by kernel_rfl⟩
theorem Zka:Ty Tryz.prog 25 Zbq:=⟨by kernel_rfl,by kernel_rfl⟩
theorem Zjw:Ty Tryz.prog 23 Z0.sl:=⟨by kernel_rfl,by kernel_rfl⟩
theorem Znj:(Tryz.prog.info? 40).map (·.size)=some Z0.sz:=by kernel_rfl
theorem Zgz:Fld Tryz.prog 25 0 Zbq Z0.sl (fun x:Z9=>x.Acts):=Fld.of ⟨_,Z0.sl,0,fun x:Z9=>x.Acts⟩ (List.mem_of_getElem? (i:=0) rfl) 0 rfl (by kernel_rfl) (by decide)
theorem Zm2:Fld Tryz.prog 40 5 Z0 Ze (fun x:Zn=>x.Make):=Fld.of ⟨_,Ze,5,fun x:Zn=>x.Make⟩ (List.mem_of_getElem? (i:=5) rfl) 5 rfl (by kernel_rfl) (by decide)
theorem Zbej:Zm Tryz.prog 56:=by
 unfold Zm
 kernel_rfl
theorem Zo2:Zm Tryz.prog 53:=by
 unfold Zm
 kernel_rfl
theorem Z06:Z43 Zbq Zg3 Zhm:=fun g x cs h=>by
 obtain ⟨A,c,e,_⟩:=h.2 _ (List.mem_of_getElem? (i:=0) rfl)
 exact ⟨(A,x.Acts.length,c),h.1,(Qc.2 ⟨e,(fun _ h=>by cases h)⟩)⟩
theorem Z2y:Z40 Zbq Zg3 Zhm (fun x:Z9=>x.Acts) Z0:=fun g x s cs h hr=>⟨h.1,(Qc.2 ⟨(Z2s (h.2 _ (List.mem_of_getElem? (i:=0) rfl)) hr),(fun _ h=>by cases h)⟩)⟩
theorem Zbb3:Ty Tryz.prog 25 Zg3:=⟨by kernel_rfl,by kernel_rfl⟩
theorem Z0j (u:Zn):∀ (g:G) (cs ys:List Value),Z0.K g u cs → Ze.K g u.Make ys → 0 + 5 + ys.length ≤ cs.length → Z0.K g u (Zba cs (0 + 5) ys):=fun g cs ys hk hy _=>by
 have hc:cs.length=14:=hk.1
 have hl:ys.length=8:=Ze.len hy
 exact ⟨(Zdg (by omega)).trans hc,(Qc.2 ⟨(by show (Kd.int .i64).K g u.Kind (seg (Zba cs (0 + 5) ys) 0 1);rw [Nat.zero_add,Z8 (by omega) (by omega)];exact hk.2 _ (List.mem_of_getElem? (i:=0) rfl)),(Qc.2 ⟨(by show Kd.str.K g u.Key (seg (Zba cs (0 + 5) ys) 1 1);rw [Nat.zero_add,Z8 (by omega) (by omega)];exact hk.2 _ (List.mem_of_getElem? (i:=1) rfl)),(Qc.2 ⟨(by show (Kd.int .i64).K g u.N (seg (Zba cs (0 + 5) ys) 2 1);rw [Nat.zero_add,Z8 (by omega) (by omega)];exact hk.2 _ (List.mem_of_getElem? (i:=2) rfl)),(Qc.2 ⟨(by show Kd.flt.K g u.X (seg (Zba cs (0 + 5) ys) 3 1);rw [Nat.zero_add,Z8 (by omega) (by omega)];exact hk.2 _ (List.mem_of_getElem? (i:=3) rfl)),(Qc.2 ⟨(by show Kd.str.K g u.S (seg (Zba cs (0 + 5) ys) 4 1);rw [Nat.zero_add,Z8 (by omega) (by omega)];exact hk.2 _ (List.mem_of_getElem? (i:=4) rfl)),(Qc.2 ⟨(by show Ze.K g u.Make (seg (Zba cs (0 + 5) ys) 5 8);rw [Nat.zero_add,Zdm (by omega) hl];exact hy),(Qc.2 ⟨(by show Kd.bool.K g u.Must (seg (Zba cs (0 + 5) ys) 13 1);rw [Nat.zero_add,Z8 (by omega) (by omega)];exact hk.2 _ (List.mem_of_getElem? (i:=6) rfl)),(fun _ h=>by cases h)⟩)⟩)⟩)⟩)⟩)⟩)⟩)⟩
theorem Zsy:TE Tryz.prog 26 9 Kd.str 16:=TE.of Tryz.underlying26 (by kernel_rfl) (by decide) (by decide)
theorem Z8s {N d:Nat} {o:Oper} {uses:Zbm} {x0:Operand} {v0:Bool} (hop:o.op=.build 135 #[(0,x0)]) (hd:o.dst=some d) (h0:Opd uses x0 (Kd.bool.pd v0)):OB Tryz.prog N o uses [(d,Zdj.pd { text:=v0,num:=false,bounds:=false,real:=false,list:=false })] []:=by
 refine Zdd hop hd fun a g hh=>?_
 obtain ⟨c0,k0,e0⟩:=h0 a g hh
 obtain rfl:=k0
 refine ⟨.agg #[.bool v0,.bool false,.bool false,.bool false,.bool false],?_,[.bool v0,.bool false,.bool false,.bool false,.bool false],⟨rfl,(Qc.2 ⟨rfl,(Qc.2 ⟨(rfl),(Qc.2 ⟨(rfl),(Qc.2 ⟨(rfl),(Qc.2 ⟨(rfl),(fun _ h=>by cases h)⟩)⟩)⟩)⟩)⟩)⟩,rfl⟩
 simp only [List.map_toArray,List.map_cons,List.map_nil,e0]
 exact Zcz Tryz.underlying135 (zero:=.agg #[.bool false,.bool false,.bool false,.bool false,.bool false]) (by kernel_rfl) (places:=[(0,1),(1,1),(2,1),(3,1),(4,1)]) (by kernel_rfl) (by kernel_rfl) g.w
theorem Zkv:Ty Tryz.prog 135 Zdj:=⟨by kernel_rfl,by kernel_rfl⟩
theorem Z8q {N d:Nat} {o:Oper} {uses:Zbm} {x1:Operand} {v1:Bool} (hop:o.op=.build 135 #[(1,x1)]) (hd:o.dst=some d) (h1:Opd uses x1 (Kd.bool.pd v1)):OB Tryz.prog N o uses [(d,Zdj.pd { text:=false,num:=v1,bounds:=false,real:=false,list:=false })] []:=by
 refine Zdd hop hd fun a g hh=>?_
 obtain ⟨c1,k1,e1⟩:=h1 a g hh
 obtain rfl:=k1
 refine ⟨.agg #[.bool false,.bool v1,.bool false,.bool false,.bool false],?_,[.bool false,.bool v1,.bool false,.bool false,.bool false],⟨rfl,(Qc.2 ⟨(rfl),(Qc.2 ⟨rfl,(Qc.2 ⟨(rfl),(Qc.2 ⟨(rfl),(Qc.2 ⟨(rfl),(fun _ h=>by cases h)⟩)⟩)⟩)⟩)⟩)⟩,rfl⟩
 simp only [List.map_toArray,List.map_cons,List.map_nil,e1]
 exact Zcz Tryz.underlying135 (zero:=.agg #[.bool false,.bool false,.bool false,.bool false,.bool false]) (by kernel_rfl) (places:=[(0,1),(1,1),(2,1),(3,1),(4,1)]) (by kernel_rfl) (by kernel_rfl) g.w
theorem Z5j {N d:Nat} {o:Oper} {uses:Zbm} {x1:Operand} {x2:Operand} {v1:Bool} {v2:Bool} (hop:o.op=.build 135 #[(1,x1),(2,x2)]) (hd:o.dst=some d) (h1:Opd uses x1 (Kd.bool.pd v1)) (h2:Opd uses x2 (Kd.bool.pd v2)):OB Tryz.prog N o uses [(d,Zdj.pd { text:=false,num:=v1,bounds:=v2,real:=false,list:=false })] []:=by
 refine Zdd hop hd fun a g hh=>?_
 obtain ⟨c1,k1,e1⟩:=h1 a g hh
 obtain rfl:=k1
 obtain ⟨c2,k2,e2⟩:=h2 a g hh
 obtain rfl:=k2
 refine ⟨.agg #[.bool false,.bool v1,.bool v2,.bool false,.bool false],?_,[.bool false,.bool v1,.bool v2,.bool false,.bool false],⟨rfl,(Qc.2 ⟨(rfl),(Qc.2 ⟨rfl,(Qc.2 ⟨rfl,(Qc.2 ⟨(rfl),(Qc.2 ⟨(rfl),(fun _ h=>by cases h)⟩)⟩)⟩)⟩)⟩)⟩,rfl⟩
 simp only [List.map_toArray,List.map_cons,List.map_nil,e1,e2]
 exact Zcz Tryz.underlying135 (zero:=.agg #[.bool false,.bool false,.bool false,.bool false,.bool false]) (by kernel_rfl) (places:=[(0,1),(1,1),(2,1),(3,1),(4,1)]) (by kernel_rfl) (by kernel_rfl) g.w
theorem Z89 {N d:Nat} {o:Oper} {uses:Zbm} {x3:Operand} {v3:Bool} (hop:o.op=.build 135 #[(3,x3)]) (hd:o.dst=some d) (h3:Opd uses x3 (Kd.bool.pd v3)):OB Tryz.prog N o uses [(d,Zdj.pd { text:=false,num:=false,bounds:=false,real:=v3,list:=false })] []:=by
 refine Zdd hop hd fun a g hh=>?_
 obtain ⟨c3,k3,e3⟩:=h3 a g hh
 obtain rfl:=k3
 refine ⟨.agg #[.bool false,.bool false,.bool false,.bool v3,.bool false],?_,[.bool false,.bool false,.bool false,.bool v3,.bool false],⟨rfl,(Qc.2 ⟨(rfl),(Qc.2 ⟨(rfl),(Qc.2 ⟨(rfl),(Qc.2 ⟨rfl,(Qc.2 ⟨(rfl),(fun _ h=>by cases h)⟩)⟩)⟩)⟩)⟩)⟩,rfl⟩
 simp only [List.map_toArray,List.map_cons,List.map_nil,e3]
 exact Zcz Tryz.underlying135 (zero:=.agg #[.bool false,.bool false,.bool false,.bool false,.bool false]) (by kernel_rfl) (places:=[(0,1),(1,1),(2,1),(3,1),(4,1)]) (by kernel_rfl) (by kernel_rfl) g.w
theorem Z73 {N d:Nat} {o:Oper} {uses:Zbm} {x4:Operand} {v4:Bool} (hop:o.op=.build 135 #[(4,x4)]) (hd:o.dst=some d) (h4:Opd uses x4 (Kd.bool.pd v4)):OB Tryz.prog N o uses [(d,Zdj.pd { text:=false,num:=false,bounds:=false,real:=false,list:=v4 })] []:=by
 refine Zdd hop hd fun a g hh=>?_
 obtain ⟨c4,k4,e4⟩:=h4 a g hh
 obtain rfl:=k4
 refine ⟨.agg #[.bool false,.bool false,.bool false,.bool false,.bool v4],?_,[.bool false,.bool false,.bool false,.bool false,.bool v4],⟨rfl,(Qc.2 ⟨(rfl),(Qc.2 ⟨(rfl),(Qc.2 ⟨(rfl),(Qc.2 ⟨(rfl),(Qc.2 ⟨rfl,(fun _ h=>by cases h)⟩)⟩)⟩)⟩)⟩)⟩,rfl⟩
 simp only [List.map_toArray,List.map_cons,List.map_nil,e4]
 exact Zcz Tryz.underlying135 (zero:=.agg #[.bool false,.bool false,.bool false,.bool false,.bool false]) (by kernel_rfl) (places:=[(0,1),(1,1),(2,1),(3,1),(4,1)]) (by kernel_rfl) (by kernel_rfl) g.w
theorem Zbas {N d:Nat} {o:Oper} {uses:Zbm}   (hop:o.op=.build 135 #[]) (hd:o.dst=some d) :OB Tryz.prog N o uses [(d,Zdj.pd { text:=false,num:=false,bounds:=false,real:=false,list:=false })] []:=by
 refine Zdd hop hd fun a g hh=>?_
 refine ⟨.agg #[.bool false,.bool false,.bool false,.bool false,.bool false],?_,[.bool false,.bool false,.bool false,.bool false,.bool false],⟨rfl,(Qc.2 ⟨(rfl),(Qc.2 ⟨(rfl),(Qc.2 ⟨(rfl),(Qc.2 ⟨(rfl),(Qc.2 ⟨(rfl),(fun _ h=>by cases h)⟩)⟩)⟩)⟩)⟩)⟩,rfl⟩
 simp only [List.map_toArray,List.map_cons,List.map_nil,List.map_nil]
 exact Zcz Tryz.underlying135 (zero:=.agg #[.bool false,.bool false,.bool false,.bool false,.bool false]) (by kernel_rfl) (places:=[(0,1),(1,1),(2,1),(3,1),(4,1)]) (by kernel_rfl) (by kernel_rfl) g.w
theorem Z1s:Ext Tryz.prog 134 Extern.MathFloatBits.float64frombits:=⟨_,Tryz.func134,rfl,rfl,by kernel_rfl,by kernel_rfl⟩
theorem Zbdg:Zm Tryz.prog 132:=by
 unfold Zm
 kernel_rfl
theorem Zpf:Zm Tryz.prog 100:=by
 unfold Zm
 kernel_rfl
theorem Zxz:Ext Tryz.prog 97 Extern.MathFloatBits.float64bits:=⟨_,Tryz.func97,rfl,rfl,by kernel_rfl,by kernel_rfl⟩
theorem Z0w:Zm Tryz.prog 89:=by
 unfold Zm
 kernel_rfl
theorem Z77:Fld Tryz.prog 135 0 Zdj Kd.bool (fun x:Zcj=>x.text):=Fld.of ⟨_,Kd.bool,0,fun x:Zcj=>x.text⟩ (List.mem_of_getElem? (i:=0) rfl) 0 rfl (by kernel_rfl) (by decide)
theorem ty_4:Ty Tryz.prog 4 Kd.bool:=⟨by kernel_rfl,by kernel_rfl⟩
theorem Zj2:Fld Tryz.prog 38 6 Ze Kd.str (fun x:Zb=>x.Text):=Fld.of ⟨_,Kd.str,6,fun x:Zb=>x.Text⟩ (List.mem_of_getElem? (i:=6) rfl) 6 rfl (by kernel_rfl) (by decide)
theorem ty_9:Ty Tryz.prog 9 Kd.str:=⟨by kernel_rfl,by kernel_rfl⟩
theorem Z79:Fld Tryz.prog 135 1 Zdj Kd.bool (fun x:Zcj=>x.num):=Fld.of ⟨_,Kd.bool,1,fun x:Zcj=>x.num⟩ (List.mem_of_getElem? (i:=1) rfl) 1 rfl (by kernel_rfl) (by decide)
theorem Zc3:Fld Tryz.prog 38 1 Ze (Kd.int .i64) (fun x:Zb=>x.Num):=Fld.of ⟨_,(Kd.int .i64),1,fun x:Zb=>x.Num⟩ (List.mem_of_getElem? (i:=1) rfl) 1 rfl (by kernel_rfl) (by decide)
theorem ty_2:Ty Tryz.prog 2 (Kd.int .i64):=⟨by kernel_rfl,by kernel_rfl⟩
theorem Z04:Fld Tryz.prog 135 2 Zdj Kd.bool (fun x:Zcj=>x.bounds):=Fld.of ⟨_,Kd.bool,2,fun x:Zcj=>x.bounds⟩ (List.mem_of_getElem? (i:=2) rfl) 2 rfl (by kernel_rfl) (by decide)
theorem Zkf:Fld Tryz.prog 38 2 Ze (Kd.int .i64) (fun x:Zb=>x.Low):=Fld.of ⟨_,(Kd.int .i64),2,fun x:Zb=>x.Low⟩ (List.mem_of_getElem? (i:=2) rfl) 2 rfl (by kernel_rfl) (by decide)
theorem Zkd:Fld Tryz.prog 38 3 Ze (Kd.int .i64) (fun x:Zb=>x.High):=Fld.of ⟨_,(Kd.int .i64),3,fun x:Zb=>x.High⟩ (List.mem_of_getElem? (i:=3) rfl) 3 rfl (by kernel_rfl) (by decide)
theorem Z8u:Fld Tryz.prog 135 3 Zdj Kd.bool (fun x:Zcj=>x.real):=Fld.of ⟨_,Kd.bool,3,fun x:Zcj=>x.real⟩ (List.mem_of_getElem? (i:=3) rfl) 3 rfl (by kernel_rfl) (by decide)
theorem Zgl:Fld Tryz.prog 38 4 Ze Kd.flt (fun x:Zb=>x.Real):=Fld.of ⟨_,Kd.flt,4,fun x:Zb=>x.Real⟩ (List.mem_of_getElem? (i:=4) rfl) 4 rfl (by kernel_rfl) (by decide)
theorem Zc6:Ty Tryz.prog 35 Kd.flt:=⟨by kernel_rfl,by kernel_rfl⟩
theorem Zux:Zm Tryz.prog 62:=by
 unfold Zm
 kernel_rfl
theorem Z18:Fld Tryz.prog 135 4 Zdj Kd.bool (fun x:Zcj=>x.list):=Fld.of ⟨_,Kd.bool,4,fun x:Zcj=>x.list⟩ (List.mem_of_getElem? (i:=4) rfl) 4 rfl (by kernel_rfl) (by decide)
theorem Zhf:Fld Tryz.prog 38 5 Ze (Kd.int .i64) (fun x:Zb=>x.Cap):=Fld.of ⟨_,(Kd.int .i64),5,fun x:Zb=>x.Cap⟩ (List.mem_of_getElem? (i:=5) rfl) 5 rfl (by kernel_rfl) (by decide)
theorem ty_3:Ty Tryz.prog 3 (Kd.int .i64):=⟨by kernel_rfl,by kernel_rfl⟩
theorem Zf3:Fld Tryz.prog 116 0 Z2 Kd.flt (fun x:Zh=>x.Score):=Fld.of ⟨_,Kd.flt,0,fun x:Zh=>x.Score⟩ (List.mem_of_getElem? (i:=0) rfl) 0 rfl (by kernel_rfl) (by decide)
theorem Z22:Zm Tryz.prog 133:=by
 unfold Zm
 kernel_rfl
theorem Zd6:Fld Tryz.prog 116 1 Z2 Kd.str (fun x:Zh=>x.Name):=Fld.of ⟨_,Kd.str,1,fun x:Zh=>x.Name⟩ (List.mem_of_getElem? (i:=1) rfl) 1 rfl (by kernel_rfl) (by decide)
theorem Zfe:(Tryz.prog.info? 116).map (·.size)=some Z2.sz:=by kernel_rfl
theorem Zeb:Ty Tryz.prog 116 Z2:=⟨by kernel_rfl,by kernel_rfl⟩
theorem Z5y:Zm Tryz.prog 77:=by
 unfold Zm
 kernel_rfl
theorem Z2r:Zm Tryz.prog 101:=by
 unfold Zm
 kernel_rfl
theorem Zgm:Fld Tryz.prog 38 0 Ze (Kd.int .i64) (fun x:Zb=>x.Kind):=Fld.of ⟨_,(Kd.int .i64),0,fun x:Zb=>x.Kind⟩ (List.mem_of_getElem? (i:=0) rfl) 0 rfl (by kernel_rfl) (by decide)
theorem Zbfd:Zm Tryz.prog 75:=by
 unfold Zm
 kernel_rfl
theorem Zbeg:Zm Tryz.prog 76:=by
 unfold Zm
 kernel_rfl
theorem Zbei:Zm Tryz.prog 78:=by
 unfold Zm
 kernel_rfl
theorem Zbam {N d:Nat} {o:Oper} {uses:Zbm}   (hop:o.op=.build 145 #[]) (hd:o.dst=some d) :OB Tryz.prog N o uses [(d,Ze9.pd { word:=ByteArray.empty,on:=(0:Int),has:=ByteArray.empty })] []:=by
 refine Zdd hop hd fun a g hh=>?_
 refine ⟨.agg #[.string ByteArray.empty,.int .i64 0,.string ByteArray.empty],?_,[.string ByteArray.empty,.int .i64 0,.string ByteArray.empty],⟨rfl,(Qc.2 ⟨(rfl),(Qc.2 ⟨(rfl),(Qc.2 ⟨(rfl),(fun _ h=>by cases h)⟩)⟩)⟩)⟩,rfl⟩
 simp only [List.map_toArray,List.map_cons,List.map_nil,List.map_nil]
 exact Zcz Tryz.underlying145 (zero:=.agg #[.string ByteArray.empty,.int .i64 0,.string ByteArray.empty]) (by kernel_rfl) (places:=[(0,1),(1,1),(2,1)]) (by kernel_rfl) (by kernel_rfl) g.w
theorem Zlv:Ty Tryz.prog 145 Ze9:=⟨by kernel_rfl,by kernel_rfl⟩
theorem Zbcn:(Tryz.prog.info? 145).map (·.size)=some Ze9.sz:=by kernel_rfl
theorem Zbd3:Zm Tryz.prog 64:=by
 unfold Zm
 kernel_rfl
theorem Zbe0:Zm Tryz.prog 63:=by
 unfold Zm
 kernel_rfl
theorem Z15:Fld Tryz.prog 145 2 Ze9 Kd.str (fun x:Zdv=>x.has):=Fld.of ⟨_,Kd.str,2,fun x:Zdv=>x.has⟩ (List.mem_of_getElem? (i:=2) rfl) 2 rfl (by kernel_rfl) (by decide)
theorem Zx3:Zm Tryz.prog 105:=by
 unfold Zm
 kernel_rfl
theorem Zec:Fld Tryz.prog 40 2 Z0 (Kd.int .i64) (fun x:Zn=>x.N):=Fld.of ⟨_,(Kd.int .i64),2,fun x:Zn=>x.N⟩ (List.mem_of_getElem? (i:=2) rfl) 2 rfl (by kernel_rfl) (by decide)
theorem Zkc:Fld Tryz.prog 40 3 Z0 Kd.flt (fun x:Zn=>x.X):=Fld.of ⟨_,Kd.flt,3,fun x:Zn=>x.X⟩ (List.mem_of_getElem? (i:=3) rfl) 3 rfl (by kernel_rfl) (by decide)
theorem Zgc:Fld Tryz.prog 40 4 Z0 Kd.str (fun x:Zn=>x.S):=Fld.of ⟨_,Kd.str,4,fun x:Zn=>x.S⟩ (List.mem_of_getElem? (i:=4) rfl) 4 rfl (by kernel_rfl) (by decide)
theorem Zob {N d:Nat} {o:Oper} {uses:Zbm}   (hop:o.op=.build 38 #[]) (hd:o.dst=some d) :OB Tryz.prog N o uses [(d,Ze.pd { Kind:=(0:Int),Num:=(0:Int),Low:=(0:Int),High:=(0:Int),Real:=(0:Nat),Cap:=(0:Int),Text:=ByteArray.empty,List:=([]:List Zh) })] []:=by
 refine Zdd hop hd fun a g hh=>?_
 refine ⟨.agg #[.int .i64 0,.int .i64 0,.int .i64 0,.int .i64 0,.float .f64 0,.int .i64 0,.string ByteArray.empty,.slice none 0 0],?_,[.int .i64 0,.int .i64 0,.int .i64 0,.int .i64 0,.float .f64 0,.int .i64 0,.string ByteArray.empty,.slice none 0 0],⟨rfl,(Qc.2 ⟨(rfl),(Qc.2 ⟨(rfl),(Qc.2 ⟨(rfl),(Qc.2 ⟨(rfl),(Qc.2 ⟨(rfl),(Qc.2 ⟨(rfl),(Qc.2 ⟨(rfl),(Qc.2 ⟨(⟨none,0,rfl,Nat.le_refl _,Nat.zero_le _,.inl rfl⟩),(fun _ h=>by cases h)⟩)⟩)⟩)⟩)⟩)⟩)⟩)⟩)⟩,rfl⟩
 simp only [List.map_toArray,List.map_cons,List.map_nil,List.map_nil]
 exact Zcz Tryz.underlying38 (zero:=.agg #[.int .i64 0,.int .i64 0,.int .i64 0,.int .i64 0,.float .f64 0,.int .i64 0,.string ByteArray.empty,.slice none 0 0]) (by kernel_rfl) (places:=[(0,1),(1,1),(2,1),(3,1),(4,1),(5,1),(6,1),(7,1)]) (by kernel_rfl) (by kernel_rfl) g.w
theorem Z91:Zm Tryz.prog 42:=by
 unfold Zm
 kernel_rfl
theorem Z1b:Fld Tryz.prog 145 1 Ze9 (Kd.int .i64) (fun x:Zdv=>x.on):=Fld.of ⟨_,(Kd.int .i64),1,fun x:Zdv=>x.on⟩ (List.mem_of_getElem? (i:=1) rfl) 1 rfl (by kernel_rfl) (by decide)
theorem Zc4:Fld Tryz.prog 40 0 Z0 (Kd.int .i64) (fun x:Zn=>x.Kind):=Fld.of ⟨_,(Kd.int .i64),0,fun x:Zn=>x.Kind⟩ (List.mem_of_getElem? (i:=0) rfl) 0 rfl (by kernel_rfl) (by decide)
theorem Z9d:Zm Tryz.prog 85:=by
 unfold Zm
 kernel_rfl
theorem Z9c:Fld Tryz.prog 145 0 Ze9 Kd.str (fun x:Zdv=>x.word):=Fld.of ⟨_,Kd.str,0,fun x:Zdv=>x.word⟩ (List.mem_of_getElem? (i:=0) rfl) 0 rfl (by kernel_rfl) (by decide)
theorem Zhk:Fld Tryz.prog 40 1 Z0 Kd.str (fun x:Zn=>x.Key):=Fld.of ⟨_,Kd.str,1,fun x:Zn=>x.Key⟩ (List.mem_of_getElem? (i:=1) rfl) 1 rfl (by kernel_rfl) (by decide)
theorem Zgw:Ty Tryz.prog 40 Z0:=⟨by kernel_rfl,by kernel_rfl⟩
theorem Zbev:Zm Tryz.prog 86:=by
 unfold Zm
 kernel_rfl
theorem Zbeb:Zm Tryz.prog 87:=by
 unfold Zm
 kernel_rfl
theorem Z5q:Zm Tryz.prog 51:=by
 unfold Zm
 kernel_rfl
theorem Z9k:Zm Tryz.prog 57:=by
 unfold Zm
 kernel_rfl
theorem Z92:Zm Tryz.prog 34:=by
 unfold Zm
 kernel_rfl
theorem Zbfn:Zm Tryz.prog 35:=by
 unfold Zm
 kernel_rfl
theorem Zbv:Ty Tryz.prog 30 Zy:=⟨by kernel_rfl,by kernel_rfl⟩
structure Zhy where
 Code:Int
 At:Int
 Answers:SlV
def Zx0:List (Kd.FK Zhy):=[⟨_,(Kd.int .i64),0,fun x:Zhy=>x.Code⟩,
 ⟨_,(Kd.int .i64),1,fun x:Zhy=>x.At⟩,
 ⟨_,Kd.raw,2,fun x:Zhy=>x.Answers⟩]
def Zb7:Kd Zhy:=Kd.struct 3 Zx0 (by rfl)
def Zcd (x:Zs) (s:SlV):Zhy:=⟨x.Code,x.At,s⟩
theorem Zxo:∀ g,Zb7.K g (Zcd ((default:Zs)) (none,0,0)) [.int .i64 0,.int .i64 0,.slice none 0 0]:=fun g=>⟨rfl,(Qc.2 ⟨(rfl),(Qc.2 ⟨(rfl),(Qc.2 ⟨rfl,(fun _ h=>by cases h)⟩)⟩)⟩)⟩
theorem Zxy {x:Zs} {e j:Nat}:∀ (g:G) (s:SlV) (cs:List Value),Zb7.K g (Zcd x s) cs → (hpL (pRow Zj e j x.Answers)).p g s → Zbo.K g x cs:=fun g s cs h hr=>⟨h.1,(Qc.2 ⟨(h.2 _ (List.mem_of_getElem? (i:=0) rfl)),(Qc.2 ⟨(h.2 _ (List.mem_of_getElem? (i:=1) rfl)),(Qc.2 ⟨(Z2s (h.2 _ (List.mem_of_getElem? (i:=2) rfl)) hr.1),(fun _ h=>by cases h)⟩)⟩)⟩)⟩
theorem Zxr {x:Zs} {g:G} {cs ys:List Value} {s0 s1:SlV} (hk:Zb7.K g (Zcd x s0) cs) (hy:Kd.raw.K g s1 ys):2 + ys.length ≤ cs.length ∧ Zb7.K g (Zcd x s1) (Zba cs 2 ys):=by
 have hc:cs.length=3:=hk.1
 have hl:ys.length=1:=Kd.raw.len hy
 exact ⟨by omega,(Zdg (by omega)).trans hc,(Qc.2 ⟨(by show (Kd.int .i64).K g x.Code (seg (Zba cs 2 ys) 0 1);rw [Z8 (by omega) (by omega)];exact hk.2 _ (List.mem_of_getElem? (i:=0) rfl)),(Qc.2 ⟨(by show (Kd.int .i64).K g x.At (seg (Zba cs 2 ys) 1 1);rw [Z8 (by omega) (by omega)];exact hk.2 _ (List.mem_of_getElem? (i:=1) rfl)),(Qc.2 ⟨(by show Kd.raw.K g s1 (seg (Zba cs 2 ys) 2 1);rw [Zdm (by omega) hl];exact hy),(fun _ h=>by cases h)⟩)⟩)⟩)⟩
theorem Zwq:Fld Tryz.prog 49 2 Zb7 Kd.raw (fun x:Zhy=>x.Answers):=Fld.of ⟨_,Kd.raw,2,fun x:Zhy=>x.Answers⟩ (List.mem_of_getElem? (i:=2) rfl) 2 rfl (by kernel_rfl) (by decide)
theorem Zql:Ty Tryz.prog 47 Kd.raw:=⟨by kernel_rfl,by kernel_rfl⟩
structure Zkt where
 d:Z9
 split:List ByteArray
 now:Zk
 out:Zhy
 over:Bool
def Zz4:List (Kd.FK Zkt):=[⟨_,Zbq,0,fun x:Zkt=>x.d⟩,
 ⟨_,Kd.str.sl,1,fun x:Zkt=>x.split⟩,
 ⟨_,Zy,2,fun x:Zkt=>x.now⟩,
 ⟨_,Zb7,4,fun x:Zkt=>x.out⟩,
 ⟨_,Kd.bool,7,fun x:Zkt=>x.over⟩]
def Zbr:Kd Zkt:=Kd.struct 8 Zz4 (by rfl)
def Zce (x:Zw) (s:SlV):Zkt:=⟨x.d,x.split,x.now,Zcd x.out s,x.over⟩
abbrev Zdt:Zw → List Zd:=fun x=>x.out.Answers
abbrev Zb4:ObR Zw:=obR Zbr Zce Zdt Zj 68
theorem Z7r:Ty Tryz.prog 49 Zb7:=⟨by kernel_rfl,by kernel_rfl⟩
theorem Z23 {x:Zw} {g:G} {s:SlV} {cs:List Value} (h:Zbr.K g (Zce x s) cs):Z0.sl.K g x.d.Acts (seg cs 0 1):=by
 have h1:Zbq.K g x.d (seg cs 0 1):=h.2 _ (List.mem_of_getElem? (i:=0) rfl)
 have h2:Z0.sl.K g x.d.Acts (seg (seg cs 0 1) 0 1):=h1.2 _ (List.mem_of_getElem? (i:=0) rfl)
 rwa [Zmp (by decide)] at h2
theorem kp_1 {x:Zw} {g:G} {s:SlV} {cs:List Value} (h:Zbr.K g (Zce x s) cs):Kd.str.sl.K g x.split (seg cs 1 1):=h.2 _ (List.mem_of_getElem? (i:=1) rfl)
theorem kp_2 {x:Zw} {g:G} {s:SlV} {cs:List Value} (h:Zbr.K g (Zce x s) cs):Zy.K g x.now (seg cs 2 2):=h.2 _ (List.mem_of_getElem? (i:=2) rfl)
theorem Z6a {x:Zw} {g:G} {s:SlV} {cs:List Value} (h:Zbr.K g (Zce x s) cs):(Kd.int .i64).K g x.out.Code (seg cs 4 1):=by
 have h1:Zb7.K g (Zcd x.out s) (seg cs 4 3):=h.2 _ (List.mem_of_getElem? (i:=3) rfl)
 have h2:(Kd.int .i64).K g x.out.Code (seg (seg cs 4 3) 0 1):=h1.2 _ (List.mem_of_getElem? (i:=0) rfl)
 rwa [Zmp (by decide)] at h2
theorem Zbcq {x:Zw} {g:G} {s:SlV} {cs:List Value} (h:Zbr.K g (Zce x s) cs):(Kd.int .i64).K g x.out.At (seg cs 5 1):=by
 have h1:Zb7.K g (Zcd x.out s) (seg cs 4 3):=h.2 _ (List.mem_of_getElem? (i:=3) rfl)
 have h2:(Kd.int .i64).K g x.out.At (seg (seg cs 4 3) 1 1):=h1.2 _ (List.mem_of_getElem? (i:=1) rfl)
 rwa [Zmp (by decide)] at h2
theorem Z62 {x:Zw} {g:G} {s:SlV} {cs:List Value} (h:Zbr.K g (Zce x s) cs):Kd.raw.K g s (seg cs 6 1):=by
 have h1:Zb7.K g (Zcd x.out s) (seg cs 4 3):=h.2 _ (List.mem_of_getElem? (i:=3) rfl)
 have h2:Kd.raw.K g s (seg (seg cs 4 3) 2 1):=h1.2 _ (List.mem_of_getElem? (i:=2) rfl)
 rwa [Zmp (by decide)] at h2
theorem kp_4 {x:Zw} {g:G} {s:SlV} {cs:List Value} (h:Zbr.K g (Zce x s) cs):Kd.bool.K g x.over (seg cs 7 1):=h.2 _ (List.mem_of_getElem? (i:=4) rfl)
theorem Zbdu {jl:Nat} {x:Zw} {g:G} {s:SlV} {cs:List Value} (h:Zbr.K g (Zce x s) cs) (hr:(hpL (pRow Zj 68 jl (Zdt x))).p g s):Zbo.K g x.out (seg cs 4 3):=Zxy g s _ (h.2 _ (List.mem_of_getElem? (i:=3) rfl)) hr
theorem wp_2 {u:Zk} {ys:List Value} {x:Zw} {g:G} {s:SlV} {cs:List Value} (h:Zbr.K g (Zce x s) cs) (hy:Zy.K g u ys):2 + ys.length ≤ cs.length ∧ Zbr.K g (Zce { x with now:=u } s) (Zba cs 2 ys):=by
 have hc:cs.length=8:=h.1
 have hl:ys.length=2:=Zy.len hy
 exact ⟨by omega,(Zdg (by omega)).trans hc,(Qc.2 ⟨(by show Zbq.K g x.d (seg (Zba cs 2 ys) 0 1);rw [Z8 (by omega) (by omega)];exact h.2 _ (List.mem_of_getElem? (i:=0) rfl)),(Qc.2 ⟨(by show Kd.str.sl.K g x.split (seg (Zba cs 2 ys) 1 1);rw [Z8 (by omega) (by omega)];exact h.2 _ (List.mem_of_getElem? (i:=1) rfl)),(Qc.2 ⟨(by show Zy.K g u (seg (Zba cs 2 ys) 2 2);rw [Zdm (by omega) hl];exact hy),(Qc.2 ⟨(by show Zb7.K g (Zcd x.out s) (seg (Zba cs 2 ys) 4 3);rw [Z8 (by omega) (by omega)];exact h.2 _ (List.mem_of_getElem? (i:=3) rfl)),(Qc.2 ⟨(by show Kd.bool.K g x.over (seg (Zba cs 2 ys) 7 1);rw [Z8 (by omega) (by omega)];exact h.2 _ (List.mem_of_getElem? (i:=4) rfl)),(fun _ h=>by cases h)⟩)⟩)⟩)⟩)⟩)⟩
theorem wp_4 {u:Bool} {ys:List Value} {x:Zw} {g:G} {s:SlV} {cs:List Value} (h:Zbr.K g (Zce x s) cs) (hy:Kd.bool.K g u ys):7 + ys.length ≤ cs.length ∧ Zbr.K g (Zce { x with over:=u } s) (Zba cs 7 ys):=by
 have hc:cs.length=8:=h.1
 have hl:ys.length=1:=Kd.bool.len hy
 exact ⟨by omega,(Zdg (by omega)).trans hc,(Qc.2 ⟨(by show Zbq.K g x.d (seg (Zba cs 7 ys) 0 1);rw [Z8 (by omega) (by omega)];exact h.2 _ (List.mem_of_getElem? (i:=0) rfl)),(Qc.2 ⟨(by show Kd.str.sl.K g x.split (seg (Zba cs 7 ys) 1 1);rw [Z8 (by omega) (by omega)];exact h.2 _ (List.mem_of_getElem? (i:=1) rfl)),(Qc.2 ⟨(by show Zy.K g x.now (seg (Zba cs 7 ys) 2 2);rw [Z8 (by omega) (by omega)];exact h.2 _ (List.mem_of_getElem? (i:=2) rfl)),(Qc.2 ⟨(by show Zb7.K g (Zcd x.out s) (seg (Zba cs 7 ys) 4 3);rw [Z8 (by omega) (by omega)];exact h.2 _ (List.mem_of_getElem? (i:=3) rfl)),(Qc.2 ⟨(by show Kd.bool.K g u (seg (Zba cs 7 ys) 7 1);rw [Zdm (by omega) hl];exact hy),(fun _ h=>by cases h)⟩)⟩)⟩)⟩)⟩)⟩
theorem Z6e {u:Zs} {ys:List Value} {x:Zw} {g:G} {s:SlV} {cs:List Value} (h:Zbr.K g (Zce x s) cs) (hy:Zb7.K g (Zcd u (none,0,0)) ys):4 + ys.length ≤ cs.length ∧ Zbr.K g (Zce { x with out:=u } (none,0,0)) (Zba cs 4 ys):=by
 have hc:cs.length=8:=h.1
 have hl:ys.length=3:=Zb7.len hy
 exact ⟨by omega,(Zdg (by omega)).trans hc,(Qc.2 ⟨(by show Zbq.K g x.d (seg (Zba cs 4 ys) 0 1);rw [Z8 (by omega) (by omega)];exact h.2 _ (List.mem_of_getElem? (i:=0) rfl)),(Qc.2 ⟨(by show Kd.str.sl.K g x.split (seg (Zba cs 4 ys) 1 1);rw [Z8 (by omega) (by omega)];exact h.2 _ (List.mem_of_getElem? (i:=1) rfl)),(Qc.2 ⟨(by show Zy.K g x.now (seg (Zba cs 4 ys) 2 2);rw [Z8 (by omega) (by omega)];exact h.2 _ (List.mem_of_getElem? (i:=2) rfl)),(Qc.2 ⟨(by show Zb7.K g (Zcd u (none,0,0)) (seg (Zba cs 4 ys) 4 3);rw [Zdm (by omega) hl];exact hy),(Qc.2 ⟨(by show Kd.bool.K g x.over (seg (Zba cs 4 ys) 7 1);rw [Z8 (by omega) (by omega)];exact h.2 _ (List.mem_of_getElem? (i:=4) rfl)),(fun _ h=>by cases h)⟩)⟩)⟩)⟩)⟩)⟩
theorem Zbdy {l:List Zd} {s1:SlV} {ys:List Value} {x:Zw} {g:G} {s:SlV} {cs:List Value} (h:Zbr.K g (Zce x s) cs) (hy:Kd.raw.K g s1 ys):6 + ys.length ≤ cs.length ∧ Zbr.K g (Zce { x with out:={ x.out with Answers:=l } } s1) (Zba cs 6 ys):=by
 have hc:cs.length=8:=h.1
 have hl:ys.length=1:=Kd.raw.len hy
 exact ⟨by omega,(Zdg (by omega)).trans hc,(Qc.2 ⟨(by show Zbq.K g x.d (seg (Zba cs 6 ys) 0 1);rw [Z8 (by omega) (by omega)];exact h.2 _ (List.mem_of_getElem? (i:=0) rfl)),(Qc.2 ⟨(by show Kd.str.sl.K g x.split (seg (Zba cs 6 ys) 1 1);rw [Z8 (by omega) (by omega)];exact h.2 _ (List.mem_of_getElem? (i:=1) rfl)),(Qc.2 ⟨(by show Zy.K g x.now (seg (Zba cs 6 ys) 2 2);rw [Z8 (by omega) (by omega)];exact h.2 _ (List.mem_of_getElem? (i:=2) rfl)),(Qc.2 ⟨(show Zb7.K g _ (seg (Zba cs 6 ys) 4 3) from ⟨by simp only [seg,List.length_take,List.length_drop,Zdg (show 6 + ys.length ≤ cs.length by omega)];omega,(Qc.2 ⟨(by show (Kd.int .i64).K g x.out.Code (seg (seg (Zba cs 6 ys) 4 3) 0 1);rw [Zmp (by decide),Z8 (by omega) (by omega)];exact Z6a h),(Qc.2 ⟨(by show (Kd.int .i64).K g x.out.At (seg (seg (Zba cs 6 ys) 4 3) 1 1);rw [Zmp (by decide),Z8 (by omega) (by omega)];exact Zbcq h),(Qc.2 ⟨(by show Kd.raw.K g s1 (seg (seg (Zba cs 6 ys) 4 3) 2 1);rw [Zmp (by decide),Zdm (by omega) hl];exact hy),(fun _ h=>by cases h)⟩)⟩)⟩)⟩),(Qc.2 ⟨(by show Kd.bool.K g x.over (seg (Zba cs 6 ys) 7 1);rw [Z8 (by omega) (by omega)];exact h.2 _ (List.mem_of_getElem? (i:=4) rfl)),(fun _ h=>by cases h)⟩)⟩)⟩)⟩)⟩)⟩
theorem Z11 {N d:Nat} {o:Oper} {uses:Zbm} {x0:Operand} {x1:Operand} {x2:Operand} {v0:Z9} {v1:List ByteArray} {v2:Zk} (hop:o.op=.build 93 #[(0,x0),(1,x1),(2,x2)]) (hd:o.dst=some d) (h0:Opd uses x0 (Zbq.pd v0)) (h1:Opd uses x1 (Kd.str.sl.pd v1)) (h2:Opd uses x2 (Zy.pd v2)):OB Tryz.prog N o uses [(d,Zbr.pd { d:=v0,split:=v1,now:=v2,out:=(Zcd ((default:Zs)) (none,0,0)),over:=false })] []:=by
 refine Zdd hop hd fun a g hh=>?_
 obtain ⟨c0,k0,e0⟩:=h0 a g hh
 obtain ⟨u0_0,rfl⟩:=Z96 (Zbq.len k0)
 obtain ⟨c1,k1,e1⟩:=h1 a g hh
 obtain ⟨A1,n1,rfl,l1⟩:=k1
 obtain ⟨c2,k2,e2⟩:=h2 a g hh
 obtain ⟨u2_0,u2_1,rfl⟩:=Zmy (Zy.len k2)
 refine ⟨.agg #[u0_0,.slice A1 v1.length n1,u2_0,u2_1,.int .i64 0,.int .i64 0,.slice none 0 0,.bool false],?_,[u0_0,.slice A1 v1.length n1,u2_0,u2_1,.int .i64 0,.int .i64 0,.slice none 0 0,.bool false],⟨rfl,(Qc.2 ⟨k0,(Qc.2 ⟨⟨A1,n1,rfl,l1⟩,(Qc.2 ⟨k2,(Qc.2 ⟨(Zxo _),(Qc.2 ⟨(rfl),(fun _ h=>by cases h)⟩)⟩)⟩)⟩)⟩)⟩,rfl⟩
 simp only [List.map_toArray,List.map_cons,List.map_nil,e0,e1,e2]
 exact Zcz Tryz.underlying93 (zero:=.agg #[.slice none 0 0,.slice none 0 0,.pointer none,.int .i64 0,.int .i64 0,.int .i64 0,.slice none 0 0,.bool false]) (by kernel_rfl) (places:=[(0,1),(1,1),(2,2),(4,3),(7,1)]) (by kernel_rfl) (by kernel_rfl) g.w
theorem Zbeq:Zm Tryz.prog 36:=by
 unfold Zm
 kernel_rfl
theorem Zw6 {N d:Nat} {o:Oper} {uses:Zbm} {x0:Operand} {x1:Operand} {v0:Int} {v1:Int} (hop:o.op=.build 49 #[(0,x0),(1,x1)]) (hd:o.dst=some d) (h0:Opd uses x0 ((Kd.int .i64).pd v0)) (h1:Opd uses x1 ((Kd.int .i64).pd v1)):OB Tryz.prog N o uses [(d,Zb7.pd { Code:=v0,At:=v1,Answers:=((none,0,0):SlV) })] []:=by
 refine Zdd hop hd fun a g hh=>?_
 obtain ⟨c0,k0,e0⟩:=h0 a g hh
 obtain rfl:=k0
 obtain ⟨c1,k1,e1⟩:=h1 a g hh
 obtain rfl:=k1
 refine ⟨.agg #[.int .i64 v0,.int .i64 v1,.slice none 0 0],?_,[.int .i64 v0,.int .i64 v1,.slice none 0 0],⟨rfl,(Qc.2 ⟨rfl,(Qc.2 ⟨rfl,(Qc.2 ⟨(rfl),(fun _ h=>by cases h)⟩)⟩)⟩)⟩,rfl⟩
 simp only [List.map_toArray,List.map_cons,List.map_nil,e0,e1]
 exact Zcz Tryz.underlying49 (zero:=.agg #[.int .i64 0,.int .i64 0,.slice none 0 0]) (by kernel_rfl) (places:=[(0,1),(1,1),(2,1)]) (by kernel_rfl) (by kernel_rfl) g.w
theorem Zov:PF Tryz.prog 93 3 4:=by
 unfold PF
 kernel_rfl
theorem Zoz:PF Tryz.prog 93 4 7:=by
 unfold PF
 kernel_rfl
theorem Zs7:TE Tryz.prog 47 68 Zj 104:=TE.of Tryz.underlying47 (by kernel_rfl) (by decide) (by decide)
theorem Zh4:Ty Tryz.prog 49 Zbo:=⟨by kernel_rfl,by kernel_rfl⟩
theorem Zs9:Ty Tryz.prog 47 Zj.sl:=⟨by kernel_rfl,by kernel_rfl⟩
theorem Z0u:(Tryz.prog.info? 68).map (·.size)=some Zj.sz:=by kernel_rfl
theorem Zn0:Fld Tryz.prog 49 2 Zbo Zj.sl (fun x:Zs=>x.Answers):=Fld.of ⟨_,Zj.sl,2,fun x:Zs=>x.Answers⟩ (List.mem_of_getElem? (i:=2) rfl) 2 rfl (by kernel_rfl) (by decide)
theorem Zp8:Fld Tryz.prog 68 2 Zj Ze (fun x:Zd=>x.Rec):=Fld.of ⟨_,Ze,2,fun x:Zd=>x.Rec⟩ (List.mem_of_getElem? (i:=2) rfl) 2 rfl (by kernel_rfl) (by decide)
theorem Zbfk:Zm Tryz.prog 58:=by
 unfold Zm
 kernel_rfl
theorem Zx6:Z43 Zbo Zb7 Zcd:=fun g x cs h=>by
 obtain ⟨A,c,e,_⟩:=h.2 _ (List.mem_of_getElem? (i:=2) rfl)
 exact ⟨(A,x.Answers.length,c),h.1,(Qc.2 ⟨(h.2 _ (List.mem_of_getElem? (i:=0) rfl)),(Qc.2 ⟨(h.2 _ (List.mem_of_getElem? (i:=1) rfl)),(Qc.2 ⟨e,(fun _ h=>by cases h)⟩)⟩)⟩)⟩
theorem Zym:Z40 Zbo Zb7 Zcd (fun x:Zs=>x.Answers) Zj:=fun g x s cs h hr=>⟨h.1,(Qc.2 ⟨(h.2 _ (List.mem_of_getElem? (i:=0) rfl)),(Qc.2 ⟨(h.2 _ (List.mem_of_getElem? (i:=1) rfl)),(Qc.2 ⟨(Z2s (h.2 _ (List.mem_of_getElem? (i:=2) rfl)) hr),(fun _ h=>by cases h)⟩)⟩)⟩)⟩
theorem Zbc1:Ty Tryz.prog 49 Zb7:=⟨by kernel_rfl,by kernel_rfl⟩
theorem Zws (u:Zd):∀ (g:G) (cs ys:List Value),Zj.K g u cs → Ze.K g u.Rec ys → 0 + 2 + ys.length ≤ cs.length → Zj.K g u (Zba cs (0 + 2) ys):=fun g cs ys hk hy _=>by
 have hc:cs.length=10:=hk.1
 have hl:ys.length=8:=Ze.len hy
 exact ⟨(Zdg (by omega)).trans hc,(Qc.2 ⟨(by show (Kd.int .i64).K g u.Code (seg (Zba cs (0 + 2) ys) 0 1);rw [Nat.zero_add,Z8 (by omega) (by omega)];exact hk.2 _ (List.mem_of_getElem? (i:=0) rfl)),(Qc.2 ⟨(by show (Kd.int .i64).K g u.Num (seg (Zba cs (0 + 2) ys) 1 1);rw [Nat.zero_add,Z8 (by omega) (by omega)];exact hk.2 _ (List.mem_of_getElem? (i:=1) rfl)),(Qc.2 ⟨(by show Ze.K g u.Rec (seg (Zba cs (0 + 2) ys) 2 8);rw [Nat.zero_add,Zdm (by omega) hl];exact hy),(fun _ h=>by cases h)⟩)⟩)⟩)⟩
theorem Z7e {N d:Nat} {o:Oper} {uses:Zbm}   (hop:o.op=.build 49 #[]) (hd:o.dst=some d) :OB Tryz.prog N o uses [(d,Zbo.pd { Code:=(0:Int),At:=(0:Int),Answers:=([]:List Zd) })] []:=by
 refine Zdd hop hd fun a g hh=>?_
 refine ⟨.agg #[.int .i64 0,.int .i64 0,.slice none 0 0],?_,[.int .i64 0,.int .i64 0,.slice none 0 0],⟨rfl,(Qc.2 ⟨(rfl),(Qc.2 ⟨(rfl),(Qc.2 ⟨(⟨none,0,rfl,Nat.le_refl _,Nat.zero_le _,.inl rfl⟩),(fun _ h=>by cases h)⟩)⟩)⟩)⟩,rfl⟩
 simp only [List.map_toArray,List.map_cons,List.map_nil,List.map_nil]
 exact Zcz Tryz.underlying49 (zero:=.agg #[.int .i64 0,.int .i64 0,.slice none 0 0]) (by kernel_rfl) (places:=[(0,1),(1,1),(2,1)]) (by kernel_rfl) (by kernel_rfl) g.w
theorem Zbfe:Zm Tryz.prog 37:=by
 unfold Zm
 kernel_rfl
theorem Zr3:Fld Tryz.prog 30 0 Zy Zbd (fun x:Zk=>x.top):=Fld.of ⟨_,Zbd,0,fun x:Zk=>x.top⟩ (List.mem_of_getElem? (i:=0) rfl) 0 rfl (by kernel_rfl) (by decide)
theorem Zdk:Ty Tryz.prog 28 Zbd:=⟨by kernel_rfl,by kernel_rfl⟩
theorem Zfr:Fld Tryz.prog 114 0 Zhz Kd.str (fun x:shelf_node=>x.key):=Fld.of ⟨_,Kd.str,0,fun x:shelf_node=>x.key⟩ (List.mem_of_getElem? (i:=0) rfl) 0 rfl (by kernel_rfl) (by decide)
theorem Zex:Fld Tryz.prog 114 2 Zhz Zbd (fun x:shelf_node=>x.left):=Fld.of ⟨_,Zbd,9,fun x:shelf_node=>x.left⟩ (List.mem_of_getElem? (i:=2) rfl) 9 rfl (by kernel_rfl) (by decide)
theorem Zfs:Fld Tryz.prog 114 3 Zhz Zbd (fun x:shelf_node=>x.right):=Fld.of ⟨_,Zbd,10,fun x:shelf_node=>x.right⟩ (List.mem_of_getElem? (i:=3) rfl) 10 rfl (by kernel_rfl) (by decide)
theorem Ziu:Fld Tryz.prog 114 1 Zhz Ze (fun x:shelf_node=>x.rec_):=Fld.of ⟨_,Ze,1,fun x:shelf_node=>x.rec_⟩ (List.mem_of_getElem? (i:=1) rfl) 1 rfl (by kernel_rfl) (by decide)
theorem Z87:Fld Tryz.prog 114 4 Zhz (Kd.int .i64) (fun x:shelf_node=>x.size):=Fld.of ⟨_,(Kd.int .i64),11,fun x:shelf_node=>x.size⟩ (List.mem_of_getElem? (i:=4) rfl) 11 rfl (by kernel_rfl) (by decide)
theorem Zo5:Zm Tryz.prog 61:=by
 unfold Zm
 kernel_rfl
theorem Zwn {N d:Nat} {o:Oper} {uses:Zbm} {x0:Operand} {x1:Operand} {x2:Operand} {x3:Operand} {x4:Operand} {v0:ByteArray} {v1:Zb} {v2:shelf_nodeT} {v3:shelf_nodeT} {v4:Int} (hop:o.op=.build 114 #[(0,x0),(1,x1),(2,x2),(3,x3),(4,x4)]) (hd:o.dst=some d) (h0:Opd uses x0 (Kd.str.pd v0)) (h1:Opd uses x1 (Ze.pd v1)) (h2:Opd uses x2 (Zbd.pd v2)) (h3:Opd uses x3 (Zbd.pd v3)) (h4:Opd uses x4 ((Kd.int .i64).pd v4)):OB Tryz.prog N o uses [(d,Zhz.pd { key:=v0,rec_:=v1,left:=v2,right:=v3,size:=v4 })] []:=by
 refine Zdd hop hd fun a g hh=>?_
 obtain ⟨c0,k0,e0⟩:=h0 a g hh
 obtain rfl:=k0
 obtain ⟨c1,k1,e1⟩:=h1 a g hh
 obtain ⟨u1_0,u1_1,u1_2,u1_3,u1_4,u1_5,u1_6,u1_7,rfl⟩:=Z42 (Ze.len k1)
 obtain ⟨c2,k2,e2⟩:=h2 a g hh
 obtain ⟨p2,rfl,l2⟩:=k2
 obtain ⟨q2,rfl,_⟩:=shelf_nodeT.ptr l2
 obtain ⟨c3,k3,e3⟩:=h3 a g hh
 obtain ⟨p3,rfl,l3⟩:=k3
 obtain ⟨q3,rfl,_⟩:=shelf_nodeT.ptr l3
 obtain ⟨c4,k4,e4⟩:=h4 a g hh
 obtain rfl:=k4
 refine ⟨.agg #[.string v0,u1_0,u1_1,u1_2,u1_3,u1_4,u1_5,u1_6,u1_7,.pointer q2,.pointer q3,.int .i64 v4],?_,[.string v0,u1_0,u1_1,u1_2,u1_3,u1_4,u1_5,u1_6,u1_7,.pointer q2,.pointer q3,.int .i64 v4],⟨rfl,(Qc.2 ⟨rfl,(Qc.2 ⟨k1,(Qc.2 ⟨⟨.pointer q2,rfl,l2⟩,(Qc.2 ⟨⟨.pointer q3,rfl,l3⟩,(Qc.2 ⟨rfl,(fun _ h=>by cases h)⟩)⟩)⟩)⟩)⟩)⟩,rfl⟩
 simp only [List.map_toArray,List.map_cons,List.map_nil,e0,e1,e2,e3,e4]
 exact Zcz Tryz.underlying114 (zero:=.agg #[.string ByteArray.empty,.int .i64 0,.int .i64 0,.int .i64 0,.int .i64 0,.float .f64 0,.int .i64 0,.string ByteArray.empty,.slice none 0 0,.pointer none,.pointer none,.int .i64 0]) (by kernel_rfl) (places:=[(0,1),(1,8),(9,1),(10,1),(11,1)]) (by kernel_rfl) (by kernel_rfl) g.w
theorem Zxe:Zm Tryz.prog 102:=by
 unfold Zm
 kernel_rfl
theorem Zm7:Zm Tryz.prog 79:=by
 unfold Zm
 kernel_rfl
theorem Z5u:Zm Tryz.prog 52:=by
 unfold Zm
 kernel_rfl
theorem Zxm:Zm Tryz.prog 80:=by
 unfold Zm
 kernel_rfl
theorem Zva:Zm Tryz.prog 30:=by
 unfold Zm
 kernel_rfl
theorem Zxw:Zm Tryz.prog 40:=by
 unfold Zm
 kernel_rfl
theorem Zu9:Fld Tryz.prog 30 1 Zy (Kd.int .i64) (fun x:Zk=>x.room):=Fld.of ⟨_,(Kd.int .i64),1,fun x:Zk=>x.room⟩ (List.mem_of_getElem? (i:=1) rfl) 1 rfl (by kernel_rfl) (by decide)
theorem Zzq {N d:Nat} {o:Oper} {uses:Zbm} {x0:Operand} {x1:Operand} {v0:shelf_nodeT} {v1:Int} (hop:o.op=.build 30 #[(0,x0),(1,x1)]) (hd:o.dst=some d) (h0:Opd uses x0 (Zbd.pd v0)) (h1:Opd uses x1 ((Kd.int .i64).pd v1)):OB Tryz.prog N o uses [(d,Zy.pd { top:=v0,room:=v1 })] []:=by
 refine Zdd hop hd fun a g hh=>?_
 obtain ⟨c0,k0,e0⟩:=h0 a g hh
 obtain ⟨p0,rfl,l0⟩:=k0
 obtain ⟨q0,rfl,_⟩:=shelf_nodeT.ptr l0
 obtain ⟨c1,k1,e1⟩:=h1 a g hh
 obtain rfl:=k1
 refine ⟨.agg #[.pointer q0,.int .i64 v1],?_,[.pointer q0,.int .i64 v1],⟨rfl,(Qc.2 ⟨⟨.pointer q0,rfl,l0⟩,(Qc.2 ⟨rfl,(fun _ h=>by cases h)⟩)⟩)⟩,rfl⟩
 simp only [List.map_toArray,List.map_cons,List.map_nil,e0,e1]
 exact Zcz Tryz.underlying30 (zero:=.agg #[.pointer none,.int .i64 0]) (by kernel_rfl) (places:=[(0,1),(1,1)]) (by kernel_rfl) (by kernel_rfl) g.w
theorem sz_9:(Tryz.prog.info? 9).map (·.size)=some Kd.str.sz:=by kernel_rfl
theorem Zbfb:Zm Tryz.prog 59:=by
 unfold Zm
 kernel_rfl
theorem Z0p:Zm Tryz.prog 60:=by
 unfold Zm
 kernel_rfl
theorem Zbe3:Zm Tryz.prog 88:=by
 unfold Zm
 kernel_rfl
theorem Zbbq:PF Tryz.prog 49 0 0:=by
 unfold PF
 kernel_rfl
theorem Zkm:Ty Tryz.prog 46 (Kd.int .i64):=⟨by kernel_rfl,by kernel_rfl⟩
theorem Zyt:PF Tryz.prog 93 0 0:=by
 unfold PF
 kernel_rfl
theorem Zyk:PF Tryz.prog 25 0 0:=by
 unfold PF
 kernel_rfl
theorem Z4m:PF Tryz.prog 93 1 1:=by
 unfold PF
 kernel_rfl
theorem Z9q:Ty Tryz.prog 26 Kd.str.sl:=⟨by kernel_rfl,by kernel_rfl⟩
theorem Z53:Zm Tryz.prog 38:=by
 unfold Zm
 kernel_rfl
theorem Z00:Zm Tryz.prog 10:=by
 unfold Zm
 kernel_rfl
theorem Zuu:PF Tryz.prog 93 2 2:=by
 unfold PF
 kernel_rfl
theorem Z93:Zm Tryz.prog 39:=by
 unfold Zm
 kernel_rfl
theorem Z0l:Zm Tryz.prog 29:=by
 unfold Zm
 kernel_rfl
theorem Z3w {N d:Nat} {o:Oper} {uses:Zbm} {x0:Operand} {v0:List Zn} (hop:o.op=.build 25 #[(0,x0)]) (hd:o.dst=some d) (h0:Opd uses x0 (Z0.sl.pd v0)):OB Tryz.prog N o uses [(d,Zbq.pd { Acts:=v0 })] []:=by
 refine Zdd hop hd fun a g hh=>?_
 obtain ⟨c0,k0,e0⟩:=h0 a g hh
 obtain ⟨A0,n0,rfl,l0⟩:=k0
 refine ⟨.agg #[.slice A0 v0.length n0],?_,[.slice A0 v0.length n0],⟨rfl,(Qc.2 ⟨⟨A0,n0,rfl,l0⟩,(fun _ h=>by cases h)⟩)⟩,rfl⟩
 simp only [List.map_toArray,List.map_cons,List.map_nil,e0]
 exact Zcz Tryz.underlying25 (zero:=.agg #[.slice none 0 0]) (by kernel_rfl) (places:=[(0,1)]) (by kernel_rfl) (by kernel_rfl) g.w
theorem Z5c:Zm Tryz.prog 41:=by
 unfold Zm
 kernel_rfl
theorem Zuw {c:Option Nat} {N j s:Nat} {o:Oper} {uses:Zbm} {x z:Operand} {v:Zb} {y0 y:ByteArray} {v0:Zb} {t:Nat} (hT:Ty Tryz.prog t Kd.str) (hop:o.op=.store t x z) (hd:o.dst=none) (hs:Opd uses (.tmp s) (Zch c Ze j v)) (hx:Opd uses x (Zju Ze j v0 6 Kd.str y0)) (hz:Opd uses z (Kd.str.pd y)):OB Tryz.prog N o uses [(s,Zch c Ze j { v with Text:=y })] [j + 1] :=
 Zmm hT hop hd hs hx hz fun g cs ys hk hy=>by
  have hc:cs.length=8:=hk.1
  have hl:ys.length=1:=Kd.str.len hy
  exact ⟨by omega,(Zdg (by omega)).trans hc,(Qc.2 ⟨(by show (Kd.int .i64).K g v.Kind (seg (Zba cs 6 ys) 0 1);rw [Z8 (by omega) (by omega)];exact hk.2 _ (List.mem_of_getElem? (i:=0) rfl)),(Qc.2 ⟨(by show (Kd.int .i64).K g v.Num (seg (Zba cs 6 ys) 1 1);rw [Z8 (by omega) (by omega)];exact hk.2 _ (List.mem_of_getElem? (i:=1) rfl)),(Qc.2 ⟨(by show (Kd.int .i64).K g v.Low (seg (Zba cs 6 ys) 2 1);rw [Z8 (by omega) (by omega)];exact hk.2 _ (List.mem_of_getElem? (i:=2) rfl)),(Qc.2 ⟨(by show (Kd.int .i64).K g v.High (seg (Zba cs 6 ys) 3 1);rw [Z8 (by omega) (by omega)];exact hk.2 _ (List.mem_of_getElem? (i:=3) rfl)),(Qc.2 ⟨(by show Kd.flt.K g v.Real (seg (Zba cs 6 ys) 4 1);rw [Z8 (by omega) (by omega)];exact hk.2 _ (List.mem_of_getElem? (i:=4) rfl)),(Qc.2 ⟨(by show (Kd.int .i64).K g v.Cap (seg (Zba cs 6 ys) 5 1);rw [Z8 (by omega) (by omega)];exact hk.2 _ (List.mem_of_getElem? (i:=5) rfl)),(Qc.2 ⟨(by show Kd.str.K g y (seg (Zba cs 6 ys) 6 1);rw [Zdm (by omega) hl];exact hy),(Qc.2 ⟨(by show Z2.sl.K g v.List (seg (Zba cs 6 ys) 7 1);rw [Z8 (by omega) (by omega)];exact hk.2 _ (List.mem_of_getElem? (i:=7) rfl)),(fun _ h=>by cases h)⟩)⟩)⟩)⟩)⟩)⟩)⟩)⟩)⟩
theorem Z38 {c:Option Nat} {N j s:Nat} {o:Oper} {uses:Zbm} {x z:Operand} {v:Zd} {y0 y:Zb} {v0:Zd} {t:Nat} (hT:Ty Tryz.prog t Ze) (hop:o.op=.store t x z) (hd:o.dst=none) (hs:Opd uses (.tmp s) (Zch c Zj j v)) (hx:Opd uses x (Zju Zj j v0 2 Ze y0)) (hz:Opd uses z (Ze.pd y)):OB Tryz.prog N o uses [(s,Zch c Zj j { v with Rec:=y })] [j + 1] :=
 Zmm hT hop hd hs hx hz fun g cs ys hk hy=>by
  have hc:cs.length=10:=hk.1
  have hl:ys.length=8:=Ze.len hy
  exact ⟨by omega,(Zdg (by omega)).trans hc,(Qc.2 ⟨(by show (Kd.int .i64).K g v.Code (seg (Zba cs 2 ys) 0 1);rw [Z8 (by omega) (by omega)];exact hk.2 _ (List.mem_of_getElem? (i:=0) rfl)),(Qc.2 ⟨(by show (Kd.int .i64).K g v.Num (seg (Zba cs 2 ys) 1 1);rw [Z8 (by omega) (by omega)];exact hk.2 _ (List.mem_of_getElem? (i:=1) rfl)),(Qc.2 ⟨(by show Ze.K g y (seg (Zba cs 2 ys) 2 8);rw [Zdm (by omega) hl];exact hy),(fun _ h=>by cases h)⟩)⟩)⟩)⟩
theorem Znw {c:Option Nat} {N j s:Nat} {o:Oper} {uses:Zbm} {x z:Operand} {v:Zb} {y0 y:Int} {v0:Zb} {t:Nat} (hT:Ty Tryz.prog t (Kd.int .i64)) (hop:o.op=.store t x z) (hd:o.dst=none) (hs:Opd uses (.tmp s) (Zch c Ze j v)) (hx:Opd uses x (Zju Ze j v0 1 (Kd.int .i64) y0)) (hz:Opd uses z ((Kd.int .i64).pd y)):OB Tryz.prog N o uses [(s,Zch c Ze j { v with Num:=y })] [j + 1] :=
 Zmm hT hop hd hs hx hz fun g cs ys hk hy=>by
  have hc:cs.length=8:=hk.1
  have hl:ys.length=1:=(Kd.int .i64).len hy
  exact ⟨by omega,(Zdg (by omega)).trans hc,(Qc.2 ⟨(by show (Kd.int .i64).K g v.Kind (seg (Zba cs 1 ys) 0 1);rw [Z8 (by omega) (by omega)];exact hk.2 _ (List.mem_of_getElem? (i:=0) rfl)),(Qc.2 ⟨(by show (Kd.int .i64).K g y (seg (Zba cs 1 ys) 1 1);rw [Zdm (by omega) hl];exact hy),(Qc.2 ⟨(by show (Kd.int .i64).K g v.Low (seg (Zba cs 1 ys) 2 1);rw [Z8 (by omega) (by omega)];exact hk.2 _ (List.mem_of_getElem? (i:=2) rfl)),(Qc.2 ⟨(by show (Kd.int .i64).K g v.High (seg (Zba cs 1 ys) 3 1);rw [Z8 (by omega) (by omega)];exact hk.2 _ (List.mem_of_getElem? (i:=3) rfl)),(Qc.2 ⟨(by show Kd.flt.K g v.Real (seg (Zba cs 1 ys) 4 1);rw [Z8 (by omega) (by omega)];exact hk.2 _ (List.mem_of_getElem? (i:=4) rfl)),(Qc.2 ⟨(by show (Kd.int .i64).K g v.Cap (seg (Zba cs 1 ys) 5 1);rw [Z8 (by omega) (by omega)];exact hk.2 _ (List.mem_of_getElem? (i:=5) rfl)),(Qc.2 ⟨(by show Kd.str.K g v.Text (seg (Zba cs 1 ys) 6 1);rw [Z8 (by omega) (by omega)];exact hk.2 _ (List.mem_of_getElem? (i:=6) rfl)),(Qc.2 ⟨(by show Z2.sl.K g v.List (seg (Zba cs 1 ys) 7 1);rw [Z8 (by omega) (by omega)];exact hk.2 _ (List.mem_of_getElem? (i:=7) rfl)),(fun _ h=>by cases h)⟩)⟩)⟩)⟩)⟩)⟩)⟩)⟩)⟩
theorem Zp9 {c:Option Nat} {N j s:Nat} {o:Oper} {uses:Zbm} {x z:Operand} {v:Zb} {y0 y:Nat} {v0:Zb} {t:Nat} (hT:Ty Tryz.prog t Kd.flt) (hop:o.op=.store t x z) (hd:o.dst=none) (hs:Opd uses (.tmp s) (Zch c Ze j v)) (hx:Opd uses x (Zju Ze j v0 4 Kd.flt y0)) (hz:Opd uses z (Kd.flt.pd y)):OB Tryz.prog N o uses [(s,Zch c Ze j { v with Real:=y })] [j + 1] :=
 Zmm hT hop hd hs hx hz fun g cs ys hk hy=>by
  have hc:cs.length=8:=hk.1
  have hl:ys.length=1:=Kd.flt.len hy
  exact ⟨by omega,(Zdg (by omega)).trans hc,(Qc.2 ⟨(by show (Kd.int .i64).K g v.Kind (seg (Zba cs 4 ys) 0 1);rw [Z8 (by omega) (by omega)];exact hk.2 _ (List.mem_of_getElem? (i:=0) rfl)),(Qc.2 ⟨(by show (Kd.int .i64).K g v.Num (seg (Zba cs 4 ys) 1 1);rw [Z8 (by omega) (by omega)];exact hk.2 _ (List.mem_of_getElem? (i:=1) rfl)),(Qc.2 ⟨(by show (Kd.int .i64).K g v.Low (seg (Zba cs 4 ys) 2 1);rw [Z8 (by omega) (by omega)];exact hk.2 _ (List.mem_of_getElem? (i:=2) rfl)),(Qc.2 ⟨(by show (Kd.int .i64).K g v.High (seg (Zba cs 4 ys) 3 1);rw [Z8 (by omega) (by omega)];exact hk.2 _ (List.mem_of_getElem? (i:=3) rfl)),(Qc.2 ⟨(by show Kd.flt.K g y (seg (Zba cs 4 ys) 4 1);rw [Zdm (by omega) hl];exact hy),(Qc.2 ⟨(by show (Kd.int .i64).K g v.Cap (seg (Zba cs 4 ys) 5 1);rw [Z8 (by omega) (by omega)];exact hk.2 _ (List.mem_of_getElem? (i:=5) rfl)),(Qc.2 ⟨(by show Kd.str.K g v.Text (seg (Zba cs 4 ys) 6 1);rw [Z8 (by omega) (by omega)];exact hk.2 _ (List.mem_of_getElem? (i:=6) rfl)),(Qc.2 ⟨(by show Z2.sl.K g v.List (seg (Zba cs 4 ys) 7 1);rw [Z8 (by omega) (by omega)];exact hk.2 _ (List.mem_of_getElem? (i:=7) rfl)),(fun _ h=>by cases h)⟩)⟩)⟩)⟩)⟩)⟩)⟩)⟩)⟩
theorem Zuc:Zm Tryz.prog 135:=by
 unfold Zm
 kernel_rfl
theorem Zbbs:Ty Tryz.prog 167 Kd.fnc:=⟨by kernel_rfl,by kernel_rfl⟩
theorem Zbc6:Zm Tryz.prog 138:=by
 unfold Zm
 kernel_rfl
theorem Zbco:Zm Tryz.prog 137:=by
 unfold Zm
 kernel_rfl
theorem Zbcd:Ext Tryz.prog 139 (Extern.SlicesOverlaps.overlaps #[36,36] #[4]):=⟨_,Tryz.func139,rfl,rfl,by kernel_rfl,by kernel_rfl⟩
theorem Z13:Zm Tryz.prog 128:=by
 unfold Zm
 kernel_rfl
theorem Z1e {N d:Nat} {o:Oper} {uses:Zbm} {x1:Operand} {v1:ByteArray} (hop:o.op=.build 116 #[(1,x1)]) (hd:o.dst=some d) (h1:Opd uses x1 (Kd.str.pd v1)):OB Tryz.prog N o uses [(d,Z2.pd { Score:=(0:Nat),Name:=v1 })] []:=by
 refine Zdd hop hd fun a g hh=>?_
 obtain ⟨c1,k1,e1⟩:=h1 a g hh
 obtain rfl:=k1
 refine ⟨.agg #[.float .f64 0,.string v1],?_,[.float .f64 0,.string v1],⟨rfl,(Qc.2 ⟨(rfl),(Qc.2 ⟨rfl,(fun _ h=>by cases h)⟩)⟩)⟩,rfl⟩
 simp only [List.map_toArray,List.map_cons,List.map_nil,e1]
 exact Zcz Tryz.underlying116 (zero:=.agg #[.float .f64 0,.string ByteArray.empty]) (by kernel_rfl) (places:=[(0,1),(1,1)]) (by kernel_rfl) (by kernel_rfl) g.w
theorem Z6n:Zm Tryz.prog 136:=by
 unfold Zm
 kernel_rfl
theorem Zbch:Zm Tryz.prog 129:=by
 unfold Zm
 kernel_rfl
theorem Zxc {N d:Nat} {o:Oper} {uses:Zbm} {x0:Operand} {x1:Operand} {v0:Nat} {v1:ByteArray} (hop:o.op=.build 116 #[(0,x0),(1,x1)]) (hd:o.dst=some d) (h0:Opd uses x0 (Kd.flt.pd v0)) (h1:Opd uses x1 (Kd.str.pd v1)):OB Tryz.prog N o uses [(d,Z2.pd { Score:=v0,Name:=v1 })] []:=by
 refine Zdd hop hd fun a g hh=>?_
 obtain ⟨c0,k0,e0⟩:=h0 a g hh
 obtain rfl:=k0
 obtain ⟨c1,k1,e1⟩:=h1 a g hh
 obtain rfl:=k1
 refine ⟨.agg #[.float .f64 v0,.string v1],?_,[.float .f64 v0,.string v1],⟨rfl,(Qc.2 ⟨rfl,(Qc.2 ⟨rfl,(fun _ h=>by cases h)⟩)⟩)⟩,rfl⟩
 simp only [List.map_toArray,List.map_cons,List.map_nil,e0,e1]
 exact Zcz Tryz.underlying116 (zero:=.agg #[.float .f64 0,.string ByteArray.empty]) (by kernel_rfl) (places:=[(0,1),(1,1)]) (by kernel_rfl) (by kernel_rfl) g.w
theorem Zbdo:Zm Tryz.prog 113:=by
 unfold Zm
 kernel_rfl
theorem Zbcu:Zm Tryz.prog 114:=by
 unfold Zm
 kernel_rfl
theorem Zbdl:Zm Tryz.prog 115:=by
 unfold Zm
 kernel_rfl
theorem Zbdn:Zm Tryz.prog 116:=by
 unfold Zm
 kernel_rfl
theorem Z6y:Zm Tryz.prog 117:=by
 unfold Zm
 kernel_rfl
theorem Zbcf:Zm Tryz.prog 118:=by
 unfold Zm
 kernel_rfl
theorem Zbcp:Zm Tryz.prog 119:=by
 unfold Zm
 kernel_rfl
theorem Zbdb:Zm Tryz.prog 121:=by
 unfold Zm
 kernel_rfl
theorem Zbb9:Zm Tryz.prog 122:=by
 unfold Zm
 kernel_rfl
theorem Zbct:Zm Tryz.prog 123:=by
 unfold Zm
 kernel_rfl
theorem Zbb5:Zm Tryz.prog 124:=by
 unfold Zm
 kernel_rfl
theorem Zbds:Zm Tryz.prog 125:=by
 unfold Zm
 kernel_rfl
theorem Zbdf:Zm Tryz.prog 126:=by
 unfold Zm
 kernel_rfl
theorem Zbdq:Zm Tryz.prog 127:=by
 unfold Zm
 kernel_rfl
theorem Zbce:Zm Tryz.prog 130:=by
 unfold Zm
 kernel_rfl
theorem Zbc2:Zm Tryz.prog 131:=by
 unfold Zm
 kernel_rfl
theorem Zt0:Zm Tryz.prog 120:=by
 unfold Zm
 kernel_rfl
theorem Zrz {N d:Nat} {o:Oper} {uses:Zbm} {x0:Operand} {v0:Int} (hop:o.op=.build 68 #[(0,x0)]) (hd:o.dst=some d) (h0:Opd uses x0 ((Kd.int .i64).pd v0)):OB Tryz.prog N o uses [(d,Zj.pd { Code:=v0,Num:=(0:Int),Rec:=(default:Zb) })] []:=by
 refine Zdd hop hd fun a g hh=>?_
 obtain ⟨c0,k0,e0⟩:=h0 a g hh
 obtain rfl:=k0
 refine ⟨.agg #[.int .i64 v0,.int .i64 0,.int .i64 0,.int .i64 0,.int .i64 0,.int .i64 0,.float .f64 0,.int .i64 0,.string ByteArray.empty,.slice none 0 0],?_,[.int .i64 v0,.int .i64 0,.int .i64 0,.int .i64 0,.int .i64 0,.int .i64 0,.float .f64 0,.int .i64 0,.string ByteArray.empty,.slice none 0 0],⟨rfl,(Qc.2 ⟨rfl,(Qc.2 ⟨(rfl),(Qc.2 ⟨(Zb2 _),(fun _ h=>by cases h)⟩)⟩)⟩)⟩,rfl⟩
 simp only [List.map_toArray,List.map_cons,List.map_nil,e0]
 exact Zcz Tryz.underlying68 (zero:=.agg #[.int .i64 0,.int .i64 0,.int .i64 0,.int .i64 0,.int .i64 0,.int .i64 0,.float .f64 0,.int .i64 0,.string ByteArray.empty,.slice none 0 0]) (by kernel_rfl) (places:=[(0,1),(1,1),(2,8)]) (by kernel_rfl) (by kernel_rfl) g.w
theorem Zb8:Ty Tryz.prog 68 Zj:=⟨by kernel_rfl,by kernel_rfl⟩
theorem Zw0:Zm Tryz.prog 92:=by
 unfold Zm
 kernel_rfl
theorem Zrx {N d:Nat} {o:Oper} {uses:Zbm}   (hop:o.op=.build 68 #[]) (hd:o.dst=some d) :OB Tryz.prog N o uses [(d,Zj.pd { Code:=(0:Int),Num:=(0:Int),Rec:=(default:Zb) })] []:=by
 refine Zdd hop hd fun a g hh=>?_
 refine ⟨.agg #[.int .i64 0,.int .i64 0,.int .i64 0,.int .i64 0,.int .i64 0,.int .i64 0,.float .f64 0,.int .i64 0,.string ByteArray.empty,.slice none 0 0],?_,[.int .i64 0,.int .i64 0,.int .i64 0,.int .i64 0,.int .i64 0,.int .i64 0,.float .f64 0,.int .i64 0,.string ByteArray.empty,.slice none 0 0],⟨rfl,(Qc.2 ⟨(rfl),(Qc.2 ⟨(rfl),(Qc.2 ⟨(Zb2 _),(fun _ h=>by cases h)⟩)⟩)⟩)⟩,rfl⟩
 simp only [List.map_toArray,List.map_cons,List.map_nil,List.map_nil]
 exact Zcz Tryz.underlying68 (zero:=.agg #[.int .i64 0,.int .i64 0,.int .i64 0,.int .i64 0,.int .i64 0,.int .i64 0,.float .f64 0,.int .i64 0,.string ByteArray.empty,.slice none 0 0]) (by kernel_rfl) (places:=[(0,1),(1,1),(2,8)]) (by kernel_rfl) (by kernel_rfl) g.w
theorem Z4u {N d:Nat} {o:Oper} {uses:Zbm} {x1:Operand} {v1:Int} (hop:o.op=.build 68 #[(1,x1)]) (hd:o.dst=some d) (h1:Opd uses x1 ((Kd.int .i64).pd v1)):OB Tryz.prog N o uses [(d,Zj.pd { Code:=(0:Int),Num:=v1,Rec:=(default:Zb) })] []:=by
 refine Zdd hop hd fun a g hh=>?_
 obtain ⟨c1,k1,e1⟩:=h1 a g hh
 obtain rfl:=k1
 refine ⟨.agg #[.int .i64 0,.int .i64 v1,.int .i64 0,.int .i64 0,.int .i64 0,.int .i64 0,.float .f64 0,.int .i64 0,.string ByteArray.empty,.slice none 0 0],?_,[.int .i64 0,.int .i64 v1,.int .i64 0,.int .i64 0,.int .i64 0,.int .i64 0,.float .f64 0,.int .i64 0,.string ByteArray.empty,.slice none 0 0],⟨rfl,(Qc.2 ⟨(rfl),(Qc.2 ⟨rfl,(Qc.2 ⟨(Zb2 _),(fun _ h=>by cases h)⟩)⟩)⟩)⟩,rfl⟩
 simp only [List.map_toArray,List.map_cons,List.map_nil,e1]
 exact Zcz Tryz.underlying68 (zero:=.agg #[.int .i64 0,.int .i64 0,.int .i64 0,.int .i64 0,.int .i64 0,.int .i64 0,.float .f64 0,.int .i64 0,.string ByteArray.empty,.slice none 0 0]) (by kernel_rfl) (places:=[(0,1),(1,1),(2,8)]) (by kernel_rfl) (by kernel_rfl) g.w
theorem Z4c {N d:Nat} {o:Oper} {uses:Zbm} {x2:Operand} {v2:Zb} (hop:o.op=.build 68 #[(2,x2)]) (hd:o.dst=some d) (h2:Opd uses x2 (Ze.pd v2)):OB Tryz.prog N o uses [(d,Zj.pd { Code:=(0:Int),Num:=(0:Int),Rec:=v2 })] []:=by
 refine Zdd hop hd fun a g hh=>?_
 obtain ⟨c2,k2,e2⟩:=h2 a g hh
 obtain ⟨u2_0,u2_1,u2_2,u2_3,u2_4,u2_5,u2_6,u2_7,rfl⟩:=Z42 (Ze.len k2)
 refine ⟨.agg #[.int .i64 0,.int .i64 0,u2_0,u2_1,u2_2,u2_3,u2_4,u2_5,u2_6,u2_7],?_,[.int .i64 0,.int .i64 0,u2_0,u2_1,u2_2,u2_3,u2_4,u2_5,u2_6,u2_7],⟨rfl,(Qc.2 ⟨(rfl),(Qc.2 ⟨(rfl),(Qc.2 ⟨k2,(fun _ h=>by cases h)⟩)⟩)⟩)⟩,rfl⟩
 simp only [List.map_toArray,List.map_cons,List.map_nil,e2]
 exact Zcz Tryz.underlying68 (zero:=.agg #[.int .i64 0,.int .i64 0,.int .i64 0,.int .i64 0,.int .i64 0,.int .i64 0,.float .f64 0,.int .i64 0,.string ByteArray.empty,.slice none 0 0]) (by kernel_rfl) (places:=[(0,1),(1,1),(2,8)]) (by kernel_rfl) (by kernel_rfl) g.w
theorem Zbfs:Zm Tryz.prog 93:=by
 unfold Zm
 kernel_rfl
theorem Zbek:Zm Tryz.prog 94:=by
 unfold Zm
 kernel_rfl
theorem Zbd7:Zm Tryz.prog 68:=by
 unfold Zm
 kernel_rfl
theorem Zi6:Fld Tryz.prog 68 0 Zj (Kd.int .i64) (fun x:Zd=>x.Code):=Fld.of ⟨_,(Kd.int .i64),0,fun x:Zd=>x.Code⟩ (List.mem_of_getElem? (i:=0) rfl) 0 rfl (by kernel_rfl) (by decide)
theorem Zyn:PF Tryz.prog 49 2 2:=by
 unfold PF
 kernel_rfl
theorem Zbf1:Zm Tryz.prog 44:=by
 unfold Zm
 kernel_rfl
theorem Z4k:Fld Tryz.prog 40 6 Z0 Kd.bool (fun x:Zn=>x.Must):=Fld.of ⟨_,Kd.bool,13,fun x:Zn=>x.Must⟩ (List.mem_of_getElem? (i:=6) rfl) 13 rfl (by kernel_rfl) (by decide)
theorem Zbb6 {N d:Nat} {o:Oper} {uses:Zbm}   (hop:o.op=.build 30 #[]) (hd:o.dst=some d) :OB Tryz.prog N o uses [(d,Zy.pd { top:=shelf_nodeT.nil,room:=(0:Int) })] []:=by
 refine Zdd hop hd fun a g hh=>?_
 refine ⟨.agg #[.pointer none,.int .i64 0],?_,[.pointer none,.int .i64 0],⟨rfl,(Qc.2 ⟨(Zm9 _),(Qc.2 ⟨(rfl),(fun _ h=>by cases h)⟩)⟩)⟩,rfl⟩
 simp only [List.map_toArray,List.map_cons,List.map_nil,List.map_nil]
 exact Zcz Tryz.underlying30 (zero:=.agg #[.pointer none,.int .i64 0]) (by kernel_rfl) (places:=[(0,1),(1,1)]) (by kernel_rfl) (by kernel_rfl) g.w
theorem Zbah {N d:Nat} {o:Oper} {uses:Zbm} {x1:Operand} {v1:Int} (hop:o.op=.build 30 #[(1,x1)]) (hd:o.dst=some d) (h1:Opd uses x1 ((Kd.int .i64).pd v1)):OB Tryz.prog N o uses [(d,Zy.pd { top:=shelf_nodeT.nil,room:=v1 })] []:=by
 refine Zdd hop hd fun a g hh=>?_
 obtain ⟨c1,k1,e1⟩:=h1 a g hh
 obtain rfl:=k1
 refine ⟨.agg #[.pointer none,.int .i64 v1],?_,[.pointer none,.int .i64 v1],⟨rfl,(Qc.2 ⟨(Zm9 _),(Qc.2 ⟨rfl,(fun _ h=>by cases h)⟩)⟩)⟩,rfl⟩
 simp only [List.map_toArray,List.map_cons,List.map_nil,e1]
 exact Zcz Tryz.underlying30 (zero:=.agg #[.pointer none,.int .i64 0]) (by kernel_rfl) (places:=[(0,1),(1,1)]) (by kernel_rfl) (by kernel_rfl) g.w
theorem Z9m:Zm Tryz.prog 28:=by
 unfold Zm
 kernel_rfl
theorem Z6u {N d:Nat} {o:Oper} {uses:Zbm} {x0:Operand} {x1:Operand} {v0:Int} {v1:Int} (hop:o.op=.build 38 #[(0,x0),(1,x1)]) (hd:o.dst=some d) (h0:Opd uses x0 ((Kd.int .i64).pd v0)) (h1:Opd uses x1 ((Kd.int .i64).pd v1)):OB Tryz.prog N o uses [(d,Ze.pd { Kind:=v0,Num:=v1,Low:=(0:Int),High:=(0:Int),Real:=(0:Nat),Cap:=(0:Int),Text:=ByteArray.empty,List:=([]:List Zh) })] []:=by
 refine Zdd hop hd fun a g hh=>?_
 obtain ⟨c0,k0,e0⟩:=h0 a g hh
 obtain rfl:=k0
 obtain ⟨c1,k1,e1⟩:=h1 a g hh
 obtain rfl:=k1
 refine ⟨.agg #[.int .i64 v0,.int .i64 v1,.int .i64 0,.int .i64 0,.float .f64 0,.int .i64 0,.string ByteArray.empty,.slice none 0 0],?_,[.int .i64 v0,.int .i64 v1,.int .i64 0,.int .i64 0,.float .f64 0,.int .i64 0,.string ByteArray.empty,.slice none 0 0],⟨rfl,(Qc.2 ⟨rfl,(Qc.2 ⟨rfl,(Qc.2 ⟨(rfl),(Qc.2 ⟨(rfl),(Qc.2 ⟨(rfl),(Qc.2 ⟨(rfl),(Qc.2 ⟨(rfl),(Qc.2 ⟨(⟨none,0,rfl,Nat.le_refl _,Nat.zero_le _,.inl rfl⟩),(fun _ h=>by cases h)⟩)⟩)⟩)⟩)⟩)⟩)⟩)⟩)⟩,rfl⟩
 simp only [List.map_toArray,List.map_cons,List.map_nil,e0,e1]
 exact Zcz Tryz.underlying38 (zero:=.agg #[.int .i64 0,.int .i64 0,.int .i64 0,.int .i64 0,.float .f64 0,.int .i64 0,.string ByteArray.empty,.slice none 0 0]) (by kernel_rfl) (places:=[(0,1),(1,1),(2,1),(3,1),(4,1),(5,1),(6,1),(7,1)]) (by kernel_rfl) (by kernel_rfl) g.w
theorem Z3u {N d:Nat} {o:Oper} {uses:Zbm} {x0:Operand} {x1:Operand} {x2:Operand} {v0:Int} {v1:ByteArray} {v2:Int} (hop:o.op=.build 40 #[(0,x0),(1,x1),(2,x2)]) (hd:o.dst=some d) (h0:Opd uses x0 ((Kd.int .i64).pd v0)) (h1:Opd uses x1 (Kd.str.pd v1)) (h2:Opd uses x2 ((Kd.int .i64).pd v2)):OB Tryz.prog N o uses [(d,Z0.pd { Kind:=v0,Key:=v1,N:=v2,X:=(0:Nat),S:=ByteArray.empty,Make:=(default:Zb),Must:=false })] []:=by
 refine Zdd hop hd fun a g hh=>?_
 obtain ⟨c0,k0,e0⟩:=h0 a g hh
 obtain rfl:=k0
 obtain ⟨c1,k1,e1⟩:=h1 a g hh
 obtain rfl:=k1
 obtain ⟨c2,k2,e2⟩:=h2 a g hh
 obtain rfl:=k2
 refine ⟨.agg #[.int .i64 v0,.string v1,.int .i64 v2,.float .f64 0,.string ByteArray.empty,.int .i64 0,.int .i64 0,.int .i64 0,.int .i64 0,.float .f64 0,.int .i64 0,.string ByteArray.empty,.slice none 0 0,.bool false],?_,[.int .i64 v0,.string v1,.int .i64 v2,.float .f64 0,.string ByteArray.empty,.int .i64 0,.int .i64 0,.int .i64 0,.int .i64 0,.float .f64 0,.int .i64 0,.string ByteArray.empty,.slice none 0 0,.bool false],⟨rfl,(Qc.2 ⟨rfl,(Qc.2 ⟨rfl,(Qc.2 ⟨rfl,(Qc.2 ⟨(rfl),(Qc.2 ⟨(rfl),(Qc.2 ⟨(Zb2 _),(Qc.2 ⟨(rfl),(fun _ h=>by cases h)⟩)⟩)⟩)⟩)⟩)⟩)⟩)⟩,rfl⟩
 simp only [List.map_toArray,List.map_cons,List.map_nil,e0,e1,e2]
 exact Zcz Tryz.underlying40 (zero:=.agg #[.int .i64 0,.string ByteArray.empty,.int .i64 0,.float .f64 0,.string ByteArray.empty,.int .i64 0,.int .i64 0,.int .i64 0,.int .i64 0,.float .f64 0,.int .i64 0,.string ByteArray.empty,.slice none 0 0,.bool false]) (by kernel_rfl) (places:=[(0,1),(1,1),(2,1),(3,1),(4,1),(5,8),(13,1)]) (by kernel_rfl) (by kernel_rfl) g.w
theorem Z0t:Zm Tryz.prog 12:=by
 unfold Zm
 kernel_rfl
theorem Z9j:Zm Tryz.prog 16:=by
 unfold Zm
 kernel_rfl
theorem Zu4:Zm Tryz.prog 19:=by
 unfold Zm
 kernel_rfl
theorem Zu0:Zm Tryz.prog 15:=by
 unfold Zm
 kernel_rfl
theorem Z44:Zm Tryz.prog 14:=by
 unfold Zm
 kernel_rfl
theorem Zbew:Zm Tryz.prog 17:=by
 unfold Zm
 kernel_rfl
theorem Z0z:Zm Tryz.prog 96:=by
 unfold Zm
 kernel_rfl
theorem Z9w:Zm Tryz.prog 98:=by
 unfold Zm
 kernel_rfl
theorem Zxd:Zm Tryz.prog 72:=by
 unfold Zm
 kernel_rfl
theorem Zvc:Zm Tryz.prog 49:=by
 unfold Zm
 kernel_rfl
theorem Z64:Zm Tryz.prog 103:=by
 unfold Zm
 kernel_rfl
theorem Z4z:Zm Tryz.prog 71:=by
 unfold Zm
 kernel_rfl
theorem Z7z:Zm Tryz.prog 104:=by
 unfold Zm
 kernel_rfl
theorem Zbfr:Zm Tryz.prog 83:=by
 unfold Zm
 kernel_rfl
theorem Zbfg:Zm Tryz.prog 82:=by
 unfold Zm
 kernel_rfl
theorem Zbee:Zm Tryz.prog 84:=by
 unfold Zm
 kernel_rfl
theorem Zhq:Fld Tryz.prog 57 0 Z7 Zb6.sl (fun x:Zf=>x.L):=Fld.of ⟨_,Zb6.sl,0,fun x:Zf=>x.L⟩ (List.mem_of_getElem? (i:=0) rfl) 0 rfl (by kernel_rfl) (by decide)
theorem Zkz:Ty Tryz.prog 22 Zb6.sl:=⟨by kernel_rfl,by kernel_rfl⟩
theorem Zoa:(Tryz.prog.info? 85).map (·.size)=some Zb6.sz:=by kernel_rfl
theorem Znz:Fld Tryz.prog 85 0 Zb6 Kd.str (fun x:Zbg=>x.Key):=Fld.of ⟨_,Kd.str,0,fun x:Zbg=>x.Key⟩ (List.mem_of_getElem? (i:=0) rfl) 0 rfl (by kernel_rfl) (by decide)
theorem Zco:Ty Tryz.prog 57 Z7:=⟨by kernel_rfl,by kernel_rfl⟩
theorem Z51:Zm Tryz.prog 54:=by
 unfold Zm
 kernel_rfl
theorem Z5h:Zm Tryz.prog 55:=by
 unfold Zm
 kernel_rfl
theorem Zr7:Fld Tryz.prog 57 1 Z7 (Kd.int .i64) (fun x:Zf=>x.Room):=Fld.of ⟨_,(Kd.int .i64),1,fun x:Zf=>x.Room⟩ (List.mem_of_getElem? (i:=1) rfl) 1 rfl (by kernel_rfl) (by decide)
theorem Zrc:TE Tryz.prog 22 85 Zb6 104:=TE.of Tryz.underlying22 (by kernel_rfl) (by decide) (by decide)
theorem Z6q {N d:Nat} {o:Oper} {uses:Zbm} {x0:Operand} {x1:Operand} {v0:ByteArray} {v1:Zb} (hop:o.op=.build 85 #[(0,x0),(1,x1)]) (hd:o.dst=some d) (h0:Opd uses x0 (Kd.str.pd v0)) (h1:Opd uses x1 (Ze.pd v1)):OB Tryz.prog N o uses [(d,Zb6.pd { Key:=v0,Rec:=v1 })] []:=by
 refine Zdd hop hd fun a g hh=>?_
 obtain ⟨c0,k0,e0⟩:=h0 a g hh
 obtain rfl:=k0
 obtain ⟨c1,k1,e1⟩:=h1 a g hh
 obtain ⟨u1_0,u1_1,u1_2,u1_3,u1_4,u1_5,u1_6,u1_7,rfl⟩:=Z42 (Ze.len k1)
 refine ⟨.agg #[.string v0,u1_0,u1_1,u1_2,u1_3,u1_4,u1_5,u1_6,u1_7],?_,[.string v0,u1_0,u1_1,u1_2,u1_3,u1_4,u1_5,u1_6,u1_7],⟨rfl,(Qc.2 ⟨rfl,(Qc.2 ⟨k1,(fun _ h=>by cases h)⟩)⟩)⟩,rfl⟩
 simp only [List.map_toArray,List.map_cons,List.map_nil,e0,e1]
 exact Zcz Tryz.underlying85 (zero:=.agg #[.string ByteArray.empty,.int .i64 0,.int .i64 0,.int .i64 0,.int .i64 0,.float .f64 0,.int .i64 0,.string ByteArray.empty,.slice none 0 0]) (by kernel_rfl) (places:=[(0,1),(1,8)]) (by kernel_rfl) (by kernel_rfl) g.w
theorem Zzc {N d:Nat} {o:Oper} {uses:Zbm} {x0:Operand} {x1:Operand} {v0:List Zbg} {v1:Int} (hop:o.op=.build 57 #[(0,x0),(1,x1)]) (hd:o.dst=some d) (h0:Opd uses x0 (Zb6.sl.pd v0)) (h1:Opd uses x1 ((Kd.int .i64).pd v1)):OB Tryz.prog N o uses [(d,Z7.pd { L:=v0,Room:=v1 })] []:=by
 refine Zdd hop hd fun a g hh=>?_
 obtain ⟨c0,k0,e0⟩:=h0 a g hh
 obtain ⟨A0,n0,rfl,l0⟩:=k0
 obtain ⟨c1,k1,e1⟩:=h1 a g hh
 obtain rfl:=k1
 refine ⟨.agg #[.slice A0 v0.length n0,.int .i64 v1],?_,[.slice A0 v0.length n0,.int .i64 v1],⟨rfl,(Qc.2 ⟨⟨A0,n0,rfl,l0⟩,(Qc.2 ⟨rfl,(fun _ h=>by cases h)⟩)⟩)⟩,rfl⟩
 simp only [List.map_toArray,List.map_cons,List.map_nil,e0,e1]
 exact Zcz Tryz.underlying57 (zero:=.agg #[.slice none 0 0,.int .i64 0]) (by kernel_rfl) (places:=[(0,1),(1,1)]) (by kernel_rfl) (by kernel_rfl) g.w
theorem Zba1 {N d:Nat} {o:Oper} {uses:Zbm} {x1:Operand} {v1:Int} (hop:o.op=.build 57 #[(1,x1)]) (hd:o.dst=some d) (h1:Opd uses x1 ((Kd.int .i64).pd v1)):OB Tryz.prog N o uses [(d,Z7.pd { L:=([]:List Zbg),Room:=v1 })] []:=by
 refine Zdd hop hd fun a g hh=>?_
 obtain ⟨c1,k1,e1⟩:=h1 a g hh
 obtain rfl:=k1
 refine ⟨.agg #[.slice none 0 0,.int .i64 v1],?_,[.slice none 0 0,.int .i64 v1],⟨rfl,(Qc.2 ⟨(⟨none,0,rfl,Nat.le_refl _,Nat.zero_le _,.inl rfl⟩),(Qc.2 ⟨rfl,(fun _ h=>by cases h)⟩)⟩)⟩,rfl⟩
 simp only [List.map_toArray,List.map_cons,List.map_nil,e1]
 exact Zcz Tryz.underlying57 (zero:=.agg #[.slice none 0 0,.int .i64 0]) (by kernel_rfl) (places:=[(0,1),(1,1)]) (by kernel_rfl) (by kernel_rfl) g.w
theorem Z0k:Ty Tryz.prog 85 Zb6:=⟨by kernel_rfl,by kernel_rfl⟩
theorem Zr6:Fld Tryz.prog 85 1 Zb6 Ze (fun x:Zbg=>x.Rec):=Fld.of ⟨_,Ze,1,fun x:Zbg=>x.Rec⟩ (List.mem_of_getElem? (i:=1) rfl) 1 rfl (by kernel_rfl) (by decide)
theorem Z9n:Zm Tryz.prog 31:=by
 unfold Zm
 kernel_rfl
theorem Zbac:Zm Tryz.prog 32:=by
 unfold Zm
 kernel_rfl
theorem Zbec:Zm Tryz.prog 33:=by
 unfold Zm
 kernel_rfl
theorem en_7:Zm Tryz.prog 7:=by
 unfold Zm
 kernel_rfl
theorem en_8:Zm Tryz.prog 8:=by
 unfold Zm
 kernel_rfl
theorem en_9:Zm Tryz.prog 9:=by
 unfold Zm
 kernel_rfl
theorem Zbab:Zm Tryz.prog 13:=by
 unfold Zm
 kernel_rfl
theorem Z31:Fld Tryz.prog 49 0 Zbo (Kd.int .i64) (fun x:Zs=>x.Code):=Fld.of ⟨_,(Kd.int .i64),0,fun x:Zs=>x.Code⟩ (List.mem_of_getElem? (i:=0) rfl) 0 rfl (by kernel_rfl) (by decide)
theorem Zbfi:Zm Tryz.prog 95:=by
 unfold Zm
 kernel_rfl
theorem Zbfy:TE Tryz.prog 65 3 (Kd.int .i64) 8:=TE.of Tryz.underlying65 (by kernel_rfl) (by decide) (by decide)
theorem sz_3:(Tryz.prog.info? 3).map (·.size)=some (Kd.int .i64).sz:=by kernel_rfl
theorem Z41:Zm Tryz.prog 69:=by
 unfold Zm
 kernel_rfl
theorem Z5r:Zm Tryz.prog 47:=by
 unfold Zm
 kernel_rfl
theorem Z5m:Zm Tryz.prog 70:=by
 unfold Zm
 kernel_rfl
theorem Z9t:Zm Tryz.prog 48:=by
 unfold Zm
 kernel_rfl
theorem Z0n:Zm Tryz.prog 90:=by
 unfold Zm
 kernel_rfl
theorem Zbcl:Zm Tryz.prog 106:=by
 unfold Zm
 kernel_rfl
theorem Zqc {c:Option Nat} {N j s:Nat} {o:Oper} {uses:Zbm} {x z:Operand} {v:Zd} {y0 y:Int} {v0:Zd} {t:Nat} (hT:Ty Tryz.prog t (Kd.int .i64)) (hop:o.op=.store t x z) (hd:o.dst=none) (hs:Opd uses (.tmp s) (Zch c Zj j v)) (hx:Opd uses x (Zju Zj j v0 0 (Kd.int .i64) y0)) (hz:Opd uses z ((Kd.int .i64).pd y)):OB Tryz.prog N o uses [(s,Zch c Zj j { v with Code:=y })] [j + 1] :=
 Zmm hT hop hd hs hx hz fun g cs ys hk hy=>by
  have hc:cs.length=10:=hk.1
  have hl:ys.length=1:=(Kd.int .i64).len hy
  exact ⟨by omega,(Zdg (by omega)).trans hc,(Qc.2 ⟨(by show (Kd.int .i64).K g y (seg (Zba cs 0 ys) 0 1);rw [Zdm (by omega) hl];exact hy),(Qc.2 ⟨(by show (Kd.int .i64).K g v.Num (seg (Zba cs 0 ys) 1 1);rw [Z8 (by omega) (by omega)];exact hk.2 _ (List.mem_of_getElem? (i:=1) rfl)),(Qc.2 ⟨(by show Ze.K g v.Rec (seg (Zba cs 0 ys) 2 8);rw [Z8 (by omega) (by omega)];exact hk.2 _ (List.mem_of_getElem? (i:=2) rfl)),(fun _ h=>by cases h)⟩)⟩)⟩)⟩
theorem Zbdk:Zm Tryz.prog 107:=by
 unfold Zm
 kernel_rfl
theorem Zbdp:Zm Tryz.prog 108:=by
 unfold Zm
 kernel_rfl
theorem Z7u:Zm Tryz.prog 110:=by
 unfold Zm
 kernel_rfl
theorem Z70:Zm Tryz.prog 109:=by
 unfold Zm
 kernel_rfl
theorem Z6j:Zm Tryz.prog 111:=by
 unfold Zm
 kernel_rfl
theorem Z60:Zm Tryz.prog 112:=by
 unfold Zm
 kernel_rfl
theorem Zbfx:Zm Tryz.prog 91:=by
 unfold Zm
 kernel_rfl
theorem Zbel:Zm Tryz.prog 65:=by
 unfold Zm
 kernel_rfl
theorem Zbfh:Zm Tryz.prog 66:=by
 unfold Zm
 kernel_rfl
theorem Zbes:Zm Tryz.prog 67:=by
 unfold Zm
 kernel_rfl
theorem Zbfp:Zm Tryz.prog 22:=by
 unfold Zm
 kernel_rfl
theorem Zy8 {N d:Nat} {o:Oper} {uses:Zbm} {x0:Operand} {x1:Operand} {v0:Int} {v1:Int} (hop:o.op=.build 49 #[(0,x0),(1,x1)]) (hd:o.dst=some d) (h0:Opd uses x0 ((Kd.int .i64).pd v0)) (h1:Opd uses x1 ((Kd.int .i64).pd v1)):OB Tryz.prog N o uses [(d,Zbo.pd { Code:=v0,At:=v1,Answers:=([]:List Zd) })] []:=by
 refine Zdd hop hd fun a g hh=>?_
 obtain ⟨c0,k0,e0⟩:=h0 a g hh
 obtain rfl:=k0
 obtain ⟨c1,k1,e1⟩:=h1 a g hh
 obtain rfl:=k1
 refine ⟨.agg #[.int .i64 v0,.int .i64 v1,.slice none 0 0],?_,[.int .i64 v0,.int .i64 v1,.slice none 0 0],⟨rfl,(Qc.2 ⟨rfl,(Qc.2 ⟨rfl,(Qc.2 ⟨(⟨none,0,rfl,Nat.le_refl _,Nat.zero_le _,.inl rfl⟩),(fun _ h=>by cases h)⟩)⟩)⟩)⟩,rfl⟩
 simp only [List.map_toArray,List.map_cons,List.map_nil,e0,e1]
 exact Zcz Tryz.underlying49 (zero:=.agg #[.int .i64 0,.int .i64 0,.slice none 0 0]) (by kernel_rfl) (places:=[(0,1),(1,1),(2,1)]) (by kernel_rfl) (by kernel_rfl) g.w
theorem Zbe4:Zm Tryz.prog 43:=by
 unfold Zm
 kernel_rfl
theorem Zba5 {N d:Nat} {o:Oper} {uses:Zbm} {x2:Operand} {v2:List Zd} (hop:o.op=.build 49 #[(2,x2)]) (hd:o.dst=some d) (h2:Opd uses x2 (Zj.sl.pd v2)):OB Tryz.prog N o uses [(d,Zbo.pd { Code:=(0:Int),At:=(0:Int),Answers:=v2 })] []:=by
 refine Zdd hop hd fun a g hh=>?_
 obtain ⟨c2,k2,e2⟩:=h2 a g hh
 obtain ⟨A2,n2,rfl,l2⟩:=k2
 refine ⟨.agg #[.int .i64 0,.int .i64 0,.slice A2 v2.length n2],?_,[.int .i64 0,.int .i64 0,.slice A2 v2.length n2],⟨rfl,(Qc.2 ⟨(rfl),(Qc.2 ⟨(rfl),(Qc.2 ⟨⟨A2,n2,rfl,l2⟩,(fun _ h=>by cases h)⟩)⟩)⟩)⟩,rfl⟩
 simp only [List.map_toArray,List.map_cons,List.map_nil,e2]
 exact Zcz Tryz.underlying49 (zero:=.agg #[.int .i64 0,.int .i64 0,.slice none 0 0]) (by kernel_rfl) (places:=[(0,1),(1,1),(2,1)]) (by kernel_rfl) (by kernel_rfl) g.w
theorem Z34:Fld Tryz.prog 68 1 Zj (Kd.int .i64) (fun x:Zd=>x.Num):=Fld.of ⟨_,(Kd.int .i64),1,fun x:Zd=>x.Num⟩ (List.mem_of_getElem? (i:=1) rfl) 1 rfl (by kernel_rfl) (by decide)
theorem Z4r:Fld Tryz.prog 49 1 Zbo (Kd.int .i64) (fun x:Zs=>x.At):=Fld.of ⟨_,(Kd.int .i64),1,fun x:Zs=>x.At⟩ (List.mem_of_getElem? (i:=1) rfl) 1 rfl (by kernel_rfl) (by decide)
theorem Zbfz:Zm Tryz.prog 45:=by
 unfold Zm
 kernel_rfl
theorem Zben:Zm Tryz.prog 46:=by
 unfold Zm
 kernel_rfl
theorem Zbfw:Zm Tryz.prog 18:=by
 unfold Zm
 kernel_rfl
theorem Zbff:Zm Tryz.prog 20:=by
 unfold Zm
 kernel_rfl
theorem Z9r:Zm Tryz.prog 21:=by
 unfold Zm
 kernel_rfl
theorem Zq5:(Tryz.prog.info? 25).map (·.size)=some Zbq.sz:=by kernel_rfl
theorem Zbet:Zm Tryz.prog 99:=by
 unfold Zm
 kernel_rfl
theorem Zbeh:Zm Tryz.prog 74:=by
 unfold Zm
 kernel_rfl
theorem Zber:Zm Tryz.prog 73:=by
 unfold Zm
 kernel_rfl
theorem Zbaa:Zm Tryz.prog 50:=by
 unfold Zm
 kernel_rfl
theorem Z0o:TE Tryz.prog 74 49 Zbo 40:=TE.of Tryz.underlying74 (by kernel_rfl) (by decide) (by decide)
theorem Z9v:(Tryz.prog.info? 49).map (·.size)=some Zbo.sz:=by kernel_rfl
theorem Zbfu:Zm Tryz.prog 24:=by
 unfold Zm
 kernel_rfl
theorem Zbeu:Zm Tryz.prog 25:=by
 unfold Zm
 kernel_rfl
theorem sz_4:(Tryz.prog.info? 4).map (·.size)=some Kd.bool.sz:=by kernel_rfl
theorem Zbep:Zm Tryz.prog 26:=by
 unfold Zm
 kernel_rfl
theorem Zbe8:Zm Tryz.prog 27:=by
 unfold Zm
 kernel_rfl
theorem Znh (a0:(List Zh)) {r:(List Zh)} (h:Zbz a0=some r):FnOk Tryz.prog 81 [(Z2.sl.pd a0)] (Z2.sl.pd r):=by
 unfold Zbz at h
 obtain ⟨hsz,H0⟩:=Zfv h
 obtain rfl:=Option.some.inj H0
 refine Zbs (N:=8) Tryz.func81 rfl rfl (Qe rfl) rfl rfl (fun a g0 hst hb=>?_)
 refine wp_seq ?_
 refine Znf Za (N:=8) (L:=[(0,(Z2.sl.pd a0))]) (T:=[⟨[],[(2,(Z2.sl.pd []))],[],[],[2]⟩]) (F:=[.o 0]) (by kernel_rfl)
  (Ze8 (OT.plain rfl (Zcu rfl rfl (Opd.c (fun g=>Zf4 g)))) Zll) hst hb (fun a g hst hb=>?_)
 refine Zp ?_
 refine wp_seq ?_
 refine wp_seq ?_
 refine Znf Za (N:=8) (L:=[(0,(Z2.sl.pd a0))]) (T:=[⟨[.o 0],[(3,(Z2.sl.pd a0))],[],[],[3]⟩,⟨[.p 0 0],[(4,Z5s a0)],[],[0],[4]⟩]) (F:=[.o 0,.p 1 0]) (by kernel_rfl)
  (Ze8 (OT.plain rfl (Z6 rfl rfl Opd.t0)) (Ze8 (OT.plain rfl (Zrq Tryz.underlying36 rfl rfl Opd.t0)) Zll)) hst hb (fun a g hst hb=>?_)
 refine Zp ?_
 obtain ⟨c,hc,hc'⟩:=hst.at 1 rfl
 refine wp_cond_split hc (fun ht=>?_) (fun hf=>?_)
 ·obtain rfl:=hc' ht
  refine wp_seq ?_
  refine Znf Za (N:=8) (L:=[]) (T:=[⟨[],[(2,(Z2.sl.pd []))],[],[],[2]⟩]) (F:=[.p 0 0]) (by kernel_rfl)
   (Ze8 (OT.plain rfl (Zcu rfl rfl (Opd.c (fun g=>Zf4 g)))) Zll) (hst.pick [] rfl) hb (fun a g hst hb=>?_)
  refine Zp ?_
  refine wp_ret ?_
  refine Zo ?_
  exact Z4 rfl hst hb (Zg (s:=2)) (hst.at 0 rfl)
 ·refine wp_skip ?_
  refine Zp ?_
  refine wp_seq ?_
  have hsz':(([]:(List Zh)).length + a0.length) * 24 ≤ 140737488355328:=by simpa using hsz
  refine Znf Za (N:=8) (L:=[(0,(Z2.sl.pd a0))]) (T:=[⟨[],[(5,(pRow Z2 116 5 []))],[6],[],[5]⟩,⟨[.o 0],[(6,(Z2.sl.pd a0))],[],[],[6]⟩,⟨[.p 0 0,.p 1 0],[(7,(pRow Z2 116 5 ([] ++ a0)))],[6],[0,1],[5,7]⟩,⟨[.p 2 0],[(2,(pRow Z2 116 5 ([] ++ a0)))],[],[0,1,2],[2]⟩]) (F:=[.p 3 0]) (by kernel_rfl)
   (Ze8 (OT.plain rfl (Zkx 5 Zdr (xs:=[]) .nil (by decide) rfl rfl)) (Ze8 (OT.plain rfl (Z6 rfl rfl Opd.t0)) (Ze8 (OT.plain rfl (Zfq Zdr rfl rfl Opd.t0 (Opd.tl Opd.t0) hsz')) (Ze8 (OT.plain rfl (Zcu rfl rfl Opd.t0)) Zll)))) (hst.pick [0] rfl) hb (fun a g hst hb=>?_)
  refine Zp ?_
  refine wp_ret ?_
  exact Z4 rfl hst hb (Zg (s:=2)) (Zgd (hst.at 0 rfl))
theorem Zgf (a0:(List Zh)) {r:(List Zh)} (h:Zbz a0=some r):Zrt Tryz.prog 81 [(Z2.sl.pd a0)] Z2 116 r:=by
 unfold Zbz at h
 obtain ⟨hsz,H0⟩:=Zfv h
 obtain rfl:=Option.some.inj H0
 refine Zso (N:=8) Tryz.func81 rfl rfl (Qe rfl) rfl (fun a g0 h0 hst hb=>?_)
 refine r_s (T:=[⟨[],[(2,(Z2.sl.pd []))],[],[],[2]⟩]) (F:=[.o 0]) hst hb Za
  (o_p rfl (Zcu rfl rfl (Opd.c (fun g=>Zf4 g)))<|o_n) (fun a g hst hb=>?_)
 refine wp_seq ?_
 refine r_s (T:=[⟨[.o 0],_,[],[],[3]⟩,⟨[.p 0 0],_,[],[0],[4]⟩]) (F:=[.o 0,.p 1 0]) hst hb Za
  (Qm rfl u_0<|o_p rfl (Zrq Tryz.underlying36 rfl rfl u_0)<|o_n) (fun a g hst hb=>?_)
 obtain ⟨c,hc,hc'⟩:=hst.at 1 rfl
 refine wp_cond_split hc (fun ht=>?_) (fun hf=>?_)
 ·obtain rfl:=hc' ht
  refine r_s (L:=[]) (T:=[⟨[],[(2,(pEq (.slice none 0 0)))],[],[],[2]⟩]) (F:=[.p 0 0]) (hst.pick [] rfl) hb Za
   (o_p rfl (Zcu rfl rfl (Opd.c (fun g=>rfl)))<|o_n) (fun a g hst hb=>?_)
  refine wp_ret ?_
  refine Zo ?_
  exact Zrj rfl hst hb (Zg (s:=2)) ⟨none,hst.at 0 rfl⟩
 ·refine wp_skip ?_
  refine Zp ?_
  refine r_s (L:=[(0,_)]) (T:=[⟨[],[(5,(pOwn Z2 116 5 (some 0) (([]:(List Zh)).map some)))],[6],[],[5]⟩,⟨[.o 0],_,[],[],[6]⟩,⟨[.p 0 0,.p 1 0],_,[6],[0,1],[5,7]⟩,⟨[.p 2 0],_,[],[0,1,2],[2]⟩]) (F:=[.p 3 0]) (hst.pick [0] rfl) hb Za
   (o_p rfl (Ztz (ty:=0) Zdr rfl rfl)<|Qm rfl u_0<|o_p rfl (Zp4 Zdr rfl rfl u_0 u_1 (by simpa using hsz))<|Qa rfl u_0<|o_n) (fun a g hst hb=>?_)
  refine wp_ret ?_
  exact Zwb rfl h0 hst hb (Zg (s:=2)) (hst.at 0 rfl)
theorem Zg4 (a0:Zb) {r:Zb} (h:Ze4 a0=some r):FnOk Tryz.prog 53 [(Ze.pd a0)] (Ze.pd r):=by
 have H0:=h
 unfold Ze4 at H0
 clear h
 refine Zbs (N:=8) Tryz.func53 rfl rfl (Qe rfl) rfl rfl (fun a g0 hst hb=>?_)
 refine r_s (T:=[⟨[.o 0],_,[2],[],[1]⟩,⟨[],[(2,(pBox Ze 2 (default:Zb)))],[3],[],[2]⟩]) (F:=[.p 0 0,.p 1 0]) hst hb Za
  (o_p rfl (Zkb rfl rfl u_0)<|o_p rfl (Zbi (zs:=[.int .i64 0,.int .i64 0,.int .i64 0,.int .i64 0,.float .f64 0,.int .i64 0,.string ByteArray.empty,.slice none 0 0]) (by kernel_rfl) (fun g=>Zb2 g) rfl rfl)<|o_n) (fun a g hst hb=>?_)
 obtain ⟨r1,h2,H0⟩:=Zc H0
 refine r_s (T:=[⟨[.o 0],_,[],[],[3]⟩,⟨[.p 0 0],_,[],[0],[4]⟩,⟨[.p 1 0],_,[],[0,1],[5]⟩,⟨[.o 0],_,[],[0,1,2],[6]⟩,⟨[.p 2 0,.p 3 0,.o 0],_,[2],Lr 4,[1,3,6]⟩]) (F:=[.p 4 0,.o 1]) hst hb Za
  (o_p rfl (Zr Zci (off:=7) (by kernel_rfl) rfl rfl u_0)<|QP rfl Zdb u_0<|o_p rfl (Zl Z0r (Znh _ h2) rfl rfl (.cons u_0 .nil))<|o_p rfl (Zr Zci (off:=7) (by kernel_rfl) rfl rfl u_0)<|o_p rfl (Znv Zdb rfl rfl u_2 u_1 u_0)<|o_n) (fun a g hst hb=>?_)
 refine r_s (T:=[⟨[.o 0],_,[],[],[7]⟩,⟨[.p 0 0,.o 1],_,[3],[0],[2]⟩]) (F:=[.p 1 0]) hst hb Za
  (QM rfl Zbe u_0<|o_p rfl (Z3 Zbe rfl rfl u_1 u_0)<|o_n) (fun a g hst hb=>?_)
 refine wp_ret ?_
 obtain rfl:=Option.some.inj H0
 obtain ⟨u0,hu0,hq0⟩:=Zbh (P:=Tryz.prog) Zbe (hst.at 0 rfl)
 exact Z4 rfl hst hb hu0 hq0
theorem Znc (a0:(List Zn)) {r:(List Zn)} (h:Zgr a0=some r):Zrt Tryz.prog 56 [(Z0.sl.pd a0)] Z0 40 r:=by
 unfold Zgr at h
 obtain ⟨hsz,H0⟩:=Zfv h
 obtain rfl:=Option.some.inj H0
 refine Zso (N:=8) Tryz.func56 rfl rfl (Qe rfl) rfl (fun a g0 h0 hst hb=>?_)
 refine r_s (T:=[⟨[],[(2,(Z0.sl.pd []))],[],[],[2]⟩]) (F:=[.o 0]) hst hb Za
  (o_p rfl (Zcu rfl rfl (Opd.c (fun g=>Zf4 g)))<|o_n) (fun a g hst hb=>?_)
 refine wp_seq ?_
 refine r_s (T:=[⟨[.o 0],_,[],[],[3]⟩,⟨[.p 0 0],_,[],[0],[4]⟩]) (F:=[.o 0,.p 1 0]) hst hb Za
  (Qm rfl u_0<|o_p rfl (Zrq Tryz.underlying23 rfl rfl u_0)<|o_n) (fun a g hst hb=>?_)
 obtain ⟨c,hc,hc'⟩:=hst.at 1 rfl
 refine wp_cond_split hc (fun ht=>?_) (fun hf=>?_)
 ·obtain rfl:=hc' ht
  refine r_s (L:=[]) (T:=[⟨[],[(2,(pEq (.slice none 0 0)))],[],[],[2]⟩]) (F:=[.p 0 0]) (hst.pick [] rfl) hb Za
   (o_p rfl (Zcu rfl rfl (Opd.c (fun g=>rfl)))<|o_n) (fun a g hst hb=>?_)
  refine wp_ret ?_
  refine Zo ?_
  exact Zrj rfl hst hb (Zg (s:=2)) ⟨none,hst.at 0 rfl⟩
 ·refine wp_skip ?_
  refine Zp ?_
  refine r_s (L:=[(0,_)]) (T:=[⟨[],[(5,(pOwn Z0 40 5 (some 0) (([]:(List Zn)).map some)))],[6],[],[5]⟩,⟨[.o 0],_,[],[],[6]⟩,⟨[.p 0 0,.p 1 0],_,[6],[0,1],[5,7]⟩,⟨[.p 2 0],_,[],[0,1,2],[2]⟩]) (F:=[.p 3 0]) (hst.pick [0] rfl) hb Za
   (o_p rfl (Ztz (ty:=0) Zw7 rfl rfl)<|Qm rfl u_0<|o_p rfl (Zp4 Zw7 rfl rfl u_0 u_1 (by simpa using hsz))<|Qa rfl u_0<|o_n) (fun a g hst hb=>?_)
  refine wp_ret ?_
  exact Zwb rfl h0 hst hb (Zg (s:=2)) (hst.at 0 rfl)
theorem Ztc (a0:Z9) {r:Z9} (h:Zm3 a0=some r):FnOk Tryz.prog 34 [(Zbq.pd a0)] (Zbq.pd r):=by
 unfold Zm3 at h
 obtain ⟨⟨hsz,hall⟩,H0⟩:=Zfv h
 obtain rfl:=Option.some.inj H0
 have hcl:Zgr a0.Acts=some a0.Acts:=by unfold Zgr;rw [if_pos hsz]
 have hrc:∀ e ∈ a0.Acts,Ze4 e.Make=some e.Make:=fun e he=>by
  have:=List.all_eq_true.1 hall e he
  unfold Ze4 Zbz
  rw [if_pos (of_decide_eq_true this)]
  rfl
 have hmx:a0.Acts.length ≤ 140737488355328:=Nat.le_trans (Nat.le_mul_of_pos_right _ (by decide)) hsz
 refine Zbs (N:=28) Tryz.func34 rfl rfl (Qe rfl) rfl rfl (fun a g0 hst hb=>?_)
 refine r_s (T:=[⟨[.o 0],[(1,(pBox Zbq 1 a0))],[2],[],[1]⟩,⟨[],[(2,(pBox Zbq 2 (default:Z9)))],[3],[],[2]⟩]) (F:=[.p 0 0,.p 1 0]) hst hb Za
  (o_p rfl (Zkb (j:=1) rfl rfl u_0)<|o_p rfl (Zbi (zs:=[.slice none 0 0]) (by kernel_rfl) (fun g=>Zrh g) rfl rfl)<|o_n) (fun a g hst hb=>?_)
 refine r_s (T:=[⟨[.o 0],_,[],[],[4]⟩,⟨[.p 0 0],_,[],[0],[5]⟩,⟨[.p 1 0],[(6,(pArr Z0 40 6 a0.Acts))],[7],[0,1],[6]⟩,⟨[.o 0],_,[],[0,1,2],[7]⟩,⟨[.o 0,.p 3 0,.p 2 0],[(1,(pBxO Zg3 Zhm (fun x:Z9=>x.Acts) Z0 40 1 6 a0))],[2],[0,1,2,3],[1,4,7]⟩]) (F:=[.p 4 0,.o 1]) hst hb Za
  (o_p rfl (Zr Zgz (off:=0) (by kernel_rfl) rfl rfl u_0)<|QP rfl Zjw u_0<|o_p rfl (Zmg (j:=6) Zbej (Znc _ hcl) rfl rfl (.cons u_0 .nil))<|o_p rfl (Zr Zgz (off:=0) (by kernel_rfl) rfl rfl u_0)<|o_p rfl (Zy7 Z06 Zw3 rfl rfl (by decide) u_0 u_1 u_2 (fun g cs s0 s1 ys h k=>Zz5 h k))<|o_n) (fun a g hst hb=>?_)
 refine wp_seq ?_
 refine r_s (T:=[⟨[.o 0],_,[],[],[8]⟩,⟨[.p 0 0],_,[],[0],[9]⟩,⟨[.p 1 0],_,[],[0,1],[10]⟩,⟨[],_,[],[],[11]⟩]) (F:=[.o 0,.o 1,.p 2 0,.p 3 0]) hst hb Za
  (o_p rfl (Znq Zv9 (off:=0) (by kernel_rfl) (fun _=>rfl) rfl rfl u_0)<|o_p rfl (Zon Zw3 rfl rfl u_0)<|o_p rfl (Z4d Tryz.underlying23 rfl rfl u_0)<|Qm rfl c_i<|o_n) (fun a g hst hb=>?_)
 refine Zb3 (fun a w=>∃ (g:G),w=g.w ∧ St 28 [(1,(pBxO Zg3 Zhm (fun x:Z9=>x.Acts) Z0 40 1 6 a0)),(2,(pBox Zbq 2 (default:Z9)))] a g ∧ Base g0 g) ?_ ?_
 ·rintro a w ⟨g,rfl,hst,hb⟩
  refine Zp ?_
  refine r_s (T:=[⟨[.o 0],[(27,(Zbq.pd a0))],[7],[],[27,1]⟩,⟨[.o 1,.p 0 0],_,[3],[0],[2]⟩]) (F:=[.p 1 0]) hst hb Za
   (o_p rfl (Zvy Z2y rfl Zbb3 rfl rfl u_0)<|o_p rfl (Z3 Zka rfl rfl u_0 u_1)<|o_n) (fun a g hst hb=>?_)
  refine wp_ret ?_
  obtain ⟨u0,hu0,hq0⟩:=Zbh (P:=Tryz.prog) Zka (hst.at 0 rfl)
  exact Z4 rfl hst hb hu0 hq0
 ·refine wp_block ?_
  refine wp_loop_ghost (fun n a w=>∃ (i:Nat) (g:G),w=g.w ∧ St 28 [(1,(pBxO Zg3 Zhm (fun x:Z9=>x.Acts) Z0 40 1 6 a0)),(2,(pBox Zbq 2 (default:Z9))),(10,(pInt .i64 (a0.Acts.length:Int))),(11,(pInt .i64 (i:Int)))] a g ∧ Base g0 g ∧ i ≤ a0.Acts.length ∧ n=a0.Acts.length - i) a0.Acts.length ⟨0,g,rfl,hst,hb,Nat.zero_le _,rfl⟩ (fun n a w hI=>?_)
  obtain ⟨i,g,rfl,hst,hb,hi,rfl⟩:=hI
  refine r_s (T:=[⟨[.o 3,.o 2],_,[],[],[12]⟩]) (F:=[.o 0,.o 1,.o 2,.o 3,.p 0 0]) hst hb Za
   (o_p rfl (Zca rfl rfl u_0 u_1)<|o_n) (fun a g hst hb=>?_)
  refine wp_seq ?_
  refine wp_cond_split (hst.bool 4 rfl) (fun hc=>?_) (fun hc=>?_)
  ·have hlt:i < a0.Acts.length:=by have:=of_decide_eq_true hc;omega
   have hx:idx a0.Acts (i:Int)=some a0.Acts[i]:=Z4o (List.getElem?_eq_getElem hlt)
   refine wp_skip ?_
   refine Zp ?_
   refine wp_seq ?_
   refine wp_block ?_
   refine r_s (L:=[(1,_),(2,_),(10,_),(11,_)]) (T:=[⟨[.o 3],_,[],[],[13]⟩,⟨[.p 0 0],_,[],[0],[3]⟩]) (F:=[.o 0,.o 1,.p 1 0,.o 2,.o 3]) (hst.pick [0,1,2,3] rfl) hb Za
    (Qm rfl u_0<|Qa rfl u_0<|o_n) (fun a g hst hb=>?_)
   refine r_g (T:=[⟨[.o 0],_,[],[],[14]⟩,⟨[.p 0 0],_,[],[0],[15]⟩,⟨[.o 2],_,[],[],[16]⟩,⟨[.o 0],_,[],[],[17]⟩,⟨[.p 3 0],_,[],[3],[18]⟩,⟨[.o 2],_,[],[],[19]⟩,⟨[.p 4 0,.p 5 0],_,[],[3,4,5],[20]⟩,⟨[.p 6 0],_,[],[3,4,5,6],[21]⟩,⟨[.p 7 0],_,[],[3,4,5,6,7],[22]⟩,⟨[.p 8 0],_,[],[3,4,5,6,7,8],[23]⟩,⟨[.p 1 0,.p 2 0],_,[],[0,1,2,3,4,5,6,7,8,9],[24]⟩,⟨[.p 10 0],_,[],[0,1,2,3,4,5,6,7,8,9,10],[25]⟩,⟨[.o 0,.p 11 0,.p 9 0],[(1,(pBxO Zg3 Zhm (fun x:Z9=>x.Acts) Z0 40 1 6 a0))],[7],[0,1,2,3,4,5,6,7,8,9,10,11],[1,14,15,17,18,20,21,24,25]⟩]) (F:=[.p 12 0,.o 1,.o 3,.o 4]) hst hb Za
    (o_p rfl (Znq Zv9 (off:=0) (by kernel_rfl) (fun _=>rfl) rfl rfl u_0)<|o_p rfl (Zon Zw3 rfl rfl u_0)<|Qm rfl u_0<|o_p rfl (Znq Zv9 (off:=0) (by kernel_rfl) (fun _=>rfl) rfl rfl u_0)<|o_p rfl (Zon Zw3 rfl rfl u_0)<|Qm rfl u_0<|o_p rfl (Zre Tryz.underlying23 Znj rfl rfl u_0 u_1 hx)<|o_p rfl (Zp5 Zm2 (off2:=5) (by kernel_rfl) (by decide) rfl rfl u_0)<|o_p rfl (Zzw Zbe rfl rfl u_0)<|o_p rfl (Zl Zo2 (Zg4 _ (hrc _ (List.getElem_mem hlt))) rfl rfl (.cons u_0 .nil))<|o_p rfl (Zre Tryz.underlying23 Znj rfl rfl u_0 u_1 hx)<|o_p rfl (Zp5 Zm2 (off2:=5) (by kernel_rfl) (by decide) rfl rfl u_0)<|o_p rfl (Zv7 (u:=a0.Acts[i]) (u':=a0.Acts[i]) (x':=a0) Zbe rfl rfl (by decide) u_0 u_1 u_2 (Z4a hx) (by decide) (by rw [Int.toNat_natCast];exact (List.set_getElem_self hlt).symm) (fun _=>rfl) (Z0j _))<|o_n) (fun a g hst hb=>?_)
   refine Zbc ?_
   refine Zp ?_
   refine r_g (T:=[⟨[.o 3],_,[],[],[26]⟩,⟨[.p 0 0],_,[],[0],[11]⟩]) (F:=[.o 0,.o 1,.o 2,.p 1 0]) hst hb Za
    (o_p rfl (Zb0 rfl rfl u_0 c_i (Zzy hlt (by omega)))<|Qm rfl u_0<|o_n) (fun a g hst hb=>?_)
   exact ⟨a0.Acts.length - (i + 1),by omega,i + 1,g,rfl,hst,hb,by omega,rfl⟩
  ·refine wp_exit ?_
   refine Zby ?_
   refine Zby ?_
   refine Zcb ?_
   exact ⟨g,rfl,hst.pick [0,1] rfl,hb⟩
theorem Zog (a0:(List ByteArray)) {r:(List ByteArray)} (h:Zg9 a0=some r):FnOk Tryz.prog 35 [(Kd.str.sl.pd a0)] (Kd.str.sl.pd r):=by
 unfold Zg9 at h
 obtain ⟨hsz,H0⟩:=Zfv h
 obtain rfl:=Option.some.inj H0
 refine Zbs (N:=8) Tryz.func35 rfl rfl (Qe rfl) rfl rfl (fun a g0 hst hb=>?_)
 refine wp_seq ?_
 refine Znf Za (N:=8) (L:=[(0,(Kd.str.sl.pd a0))]) (T:=[⟨[],[(2,(Kd.str.sl.pd []))],[],[],[2]⟩]) (F:=[.o 0]) (by kernel_rfl)
  (Ze8 (OT.plain rfl (Zcu rfl rfl (Opd.c (fun g=>Zf4 g)))) Zll) hst hb (fun a g hst hb=>?_)
 refine Zp ?_
 refine wp_seq ?_
 refine wp_seq ?_
 refine Znf Za (N:=8) (L:=[(0,(Kd.str.sl.pd a0))]) (T:=[⟨[.o 0],[(3,(Kd.str.sl.pd a0))],[],[],[3]⟩,⟨[.p 0 0],[(4,Z5s a0)],[],[0],[4]⟩]) (F:=[.o 0,.p 1 0]) (by kernel_rfl)
  (Ze8 (OT.plain rfl (Z6 rfl rfl Opd.t0)) (Ze8 (OT.plain rfl (Zrq Tryz.underlying26 rfl rfl Opd.t0)) Zll)) hst hb (fun a g hst hb=>?_)
 refine Zp ?_
 obtain ⟨c,hc,hc'⟩:=hst.at 1 rfl
 refine wp_cond_split hc (fun ht=>?_) (fun hf=>?_)
 ·obtain rfl:=hc' ht
  refine wp_seq ?_
  refine Znf Za (N:=8) (L:=[]) (T:=[⟨[],[(2,(Kd.str.sl.pd []))],[],[],[2]⟩]) (F:=[.p 0 0]) (by kernel_rfl)
   (Ze8 (OT.plain rfl (Zcu rfl rfl (Opd.c (fun g=>Zf4 g)))) Zll) (hst.pick [] rfl) hb (fun a g hst hb=>?_)
  refine Zp ?_
  refine wp_ret ?_
  refine Zo ?_
  exact Z4 rfl hst hb (Zg (s:=2)) (hst.at 0 rfl)
 ·refine wp_skip ?_
  refine Zp ?_
  refine wp_seq ?_
  have hsz':(([]:(List ByteArray)).length + a0.length) * 16 ≤ 140737488355328:=by simpa using hsz
  refine Znf Za (N:=8) (L:=[(0,(Kd.str.sl.pd a0))]) (T:=[⟨[],[(5,(pRow Kd.str 9 5 []))],[6],[],[5]⟩,⟨[.o 0],[(6,(Kd.str.sl.pd a0))],[],[],[6]⟩,⟨[.p 0 0,.p 1 0],[(7,(pRow Kd.str 9 5 ([] ++ a0)))],[6],[0,1],[5,7]⟩,⟨[.p 2 0],[(2,(pRow Kd.str 9 5 ([] ++ a0)))],[],[0,1,2],[2]⟩]) (F:=[.p 3 0]) (by kernel_rfl)
   (Ze8 (OT.plain rfl (Zkx 5 Zsy (xs:=[]) .nil (by decide) rfl rfl)) (Ze8 (OT.plain rfl (Z6 rfl rfl Opd.t0)) (Ze8 (OT.plain rfl (Zfq Zsy rfl rfl Opd.t0 (Opd.tl Opd.t0) hsz')) (Ze8 (OT.plain rfl (Zcu rfl rfl Opd.t0)) Zll)))) (hst.pick [0] rfl) hb (fun a g hst hb=>?_)
  refine Zp ?_
  refine wp_ret ?_
  exact Z4 rfl hst hb (Zg (s:=2)) (Zgd (hst.at 0 rfl))
theorem Z0g (a0:Int) {r:Zcj} (h:Ze7 a0=some r):FnOk Tryz.prog 75 [(pInt .i64 a0)] (Zdj.pd r):=by
 have H0:=h
 unfold Ze7 at H0
 clear h
 refine Zbs (N:=24) Tryz.func75 rfl rfl (Qe rfl) rfl rfl (fun a g0 hst hb=>?_)
 refine r_s (T:=[⟨[],[(2,(pBox Zdj 2 (default:Zcj)))],[3],[],[2]⟩]) (F:=[.o 0,.p 0 0]) hst hb Za
  (o_p rfl (Zbi (zs:=[.bool false,.bool false,.bool false,.bool false,.bool false]) (by kernel_rfl) (fun g=>Zt1 g) rfl rfl)<|o_n) (fun a g hst hb=>?_)
 refine wp_seq ?_
 refine r_s (T:=[⟨[.o 0],_,[],[],[3]⟩]) (F:=[.o 1,.p 0 0]) hst hb Za
  (Qm rfl u_0<|o_n) (fun a g hst hb=>?_)
 refine wp_block ?_
 refine r_s (T:=[⟨[.o 1],_,[],[],[5]⟩,⟨[.p 0 0],_,[],[0],[4]⟩]) (F:=[.o 0,.o 1,.p 1 0]) hst hb Za
  (o_p rfl (Zbt rfl rfl u_0 c_i)<|Qa rfl u_0<|o_n) (fun a g hst hb=>?_)
 refine wp_cond_split (hst.bool 2 rfl) (fun hc1=>?_) (fun hc1=>?_)
 ·replace H0:=Zu hc1 H0
  refine r_s (L:=[(2,_)]) (T:=[⟨[],_,[],[],[6]⟩,⟨[.p 0 0,.o 0],_,[3],[0],[2]⟩]) (F:=[.p 1 0]) (hst.pick [0] rfl) hb Za
   (o_p rfl (Z8s rfl rfl c_b)<|o_p rfl (Z3 Zkv rfl rfl u_1 u_0)<|o_n) (fun a g hst hb=>?_)
  refine wp_ret ?_
  refine Z5 ?_
  refine Zo ?_
  obtain rfl:=Option.some.inj H0
  obtain ⟨u0,hu0,hq0⟩:=Zbh (P:=Tryz.prog) Zkv (hst.at 0 rfl)
  exact Z4 rfl hst hb hu0 hq0
 ·replace H0:=Zt hc1 H0
  refine wp_seq ?_
  refine r_s (L:=[(2,_),(3,_)]) (T:=[⟨[.o 1],_,[],[],[8]⟩,⟨[.p 0 0],_,[],[0],[7]⟩]) (F:=[.o 0,.o 1,.p 1 0]) (hst.pick [0,1] rfl) hb Za
   (o_p rfl (Zbt rfl rfl u_0 c_i)<|Qa rfl u_0<|o_n) (fun a g hst hb=>?_)
  refine Zb3 (fun a w=>∃ (j3:Bool) (g:G),w=g.w ∧ St 24 [(2,(pBox Zdj 2 (default:Zcj))),(3,(pInt .i64 a0)),(7,(Zbf j3))] a g ∧ Base g0 g ∧ Zlw a0 j3=some r) ?_ ?_
  ·rintro a w ⟨j3,g,rfl,hst,hb,H0⟩
   unfold Zlw at H0
   refine Zp ?_
   refine wp_cond_split (hst.bool 2 rfl) (fun hc4=>?_) (fun hc4=>?_)
   ·replace H0:=Zu hc4 H0
    refine r_s (L:=[(2,_)]) (T:=[⟨[],_,[],[],[10]⟩,⟨[.p 0 0,.o 0],_,[3],[0],[2]⟩]) (F:=[.p 1 0]) (hst.pick [0] rfl) hb Za
     (o_p rfl (Z8q rfl rfl c_b)<|o_p rfl (Z3 Zkv rfl rfl u_1 u_0)<|o_n) (fun a g hst hb=>?_)
    refine wp_ret ?_
    refine Z5 ?_
    refine Zo ?_
    obtain rfl:=Option.some.inj H0
    obtain ⟨u0,hu0,hq0⟩:=Zbh (P:=Tryz.prog) Zkv (hst.at 0 rfl)
    exact Z4 rfl hst hb hu0 hq0
   ·replace H0:=Zt hc4 H0
    refine r_s (L:=[(2,_),(3,_)]) (T:=[⟨[.o 1],_,[],[],[12]⟩,⟨[.p 0 0],_,[],[0],[11]⟩]) (F:=[.o 0,.o 1,.p 1 0]) (hst.pick [0,1] rfl) hb Za
     (o_p rfl (Zbt rfl rfl u_0 c_i)<|Qa rfl u_0<|o_n) (fun a g hst hb=>?_)
    refine wp_cond_split (hst.bool 2 rfl) (fun hc5=>?_) (fun hc5=>?_)
    ·replace H0:=Zu hc5 H0
     refine r_s (L:=[(2,_)]) (T:=[⟨[],_,[],[],[13]⟩,⟨[.p 0 0,.o 0],_,[3],[0],[2]⟩]) (F:=[.p 1 0]) (hst.pick [0] rfl) hb Za
      (o_p rfl (Z5j rfl rfl c_b c_b)<|o_p rfl (Z3 Zkv rfl rfl u_1 u_0)<|o_n) (fun a g hst hb=>?_)
     refine wp_ret ?_
     refine Z5 ?_
     refine Zo ?_
     obtain rfl:=Option.some.inj H0
     obtain ⟨u0,hu0,hq0⟩:=Zbh (P:=Tryz.prog) Zkv (hst.at 0 rfl)
     exact Z4 rfl hst hb hu0 hq0
    ·replace H0:=Zt hc5 H0
     refine wp_seq ?_
     refine r_s (L:=[(2,_),(3,_)]) (T:=[⟨[.o 1],_,[],[],[15]⟩,⟨[.p 0 0],_,[],[0],[14]⟩]) (F:=[.o 0,.o 1,.p 1 0]) (hst.pick [0,1] rfl) hb Za
      (o_p rfl (Zbt rfl rfl u_0 c_i)<|Qa rfl u_0<|o_n) (fun a g hst hb=>?_)
     refine Zb3 (fun a w=>∃ (j8:Bool) (g:G),w=g.w ∧ St 24 [(2,(pBox Zdj 2 (default:Zcj))),(3,(pInt .i64 a0)),(14,(Zbf j8))] a g ∧ Base g0 g ∧ Zke a0 j8=some r) ?_ ?_
     ·rintro a w ⟨j8,g,rfl,hst,hb,H0⟩
      unfold Zke at H0
      refine Zp ?_
      refine wp_cond_split (hst.bool 2 rfl) (fun hc9=>?_) (fun hc9=>?_)
      ·replace H0:=Zu hc9 H0
       refine r_s (L:=[(2,_)]) (T:=[⟨[],_,[],[],[18]⟩,⟨[.p 0 0,.o 0],_,[3],[0],[2]⟩]) (F:=[.p 1 0]) (hst.pick [0] rfl) hb Za
        (o_p rfl (Z89 rfl rfl c_b)<|o_p rfl (Z3 Zkv rfl rfl u_1 u_0)<|o_n) (fun a g hst hb=>?_)
       refine wp_ret ?_
       refine Z5 ?_
       refine Zo ?_
       obtain rfl:=Option.some.inj H0
       obtain ⟨u0,hu0,hq0⟩:=Zbh (P:=Tryz.prog) Zkv (hst.at 0 rfl)
       exact Z4 rfl hst hb hu0 hq0
      ·replace H0:=Zt hc9 H0
       refine wp_seq ?_
       refine r_s (L:=[(2,_),(3,_)]) (T:=[⟨[.o 1],_,[],[],[20]⟩,⟨[.p 0 0],_,[],[0],[19]⟩]) (F:=[.o 0,.o 1,.p 1 0]) (hst.pick [0,1] rfl) hb Za
        (o_p rfl (Zbt rfl rfl u_0 c_i)<|Qa rfl u_0<|o_n) (fun a g hst hb=>?_)
       refine Zb3 (fun a w=>∃ (j11:Bool) (g:G),w=g.w ∧ St 24 [(2,(pBox Zdj 2 (default:Zcj))),(19,(Zbf j11))] a g ∧ Base g0 g ∧ Zly j11=some r) ?_ ?_
       ·rintro a w ⟨j11,g,rfl,hst,hb,H0⟩
        unfold Zly at H0
        refine Zp ?_
        refine wp_cond_split (hst.bool 1 rfl) (fun hc12=>?_) (fun hc12=>?_)
        ·replace H0:=Zu hc12 H0
         refine r_s (L:=[(2,_)]) (T:=[⟨[],_,[],[],[22]⟩,⟨[.p 0 0,.o 0],_,[3],[0],[2]⟩]) (F:=[.p 1 0]) (hst.pick [0] rfl) hb Za
          (o_p rfl (Z73 rfl rfl c_b)<|o_p rfl (Z3 Zkv rfl rfl u_1 u_0)<|o_n) (fun a g hst hb=>?_)
         refine wp_ret ?_
         refine Z5 ?_
         refine Zo ?_
         obtain rfl:=Option.some.inj H0
         obtain ⟨u0,hu0,hq0⟩:=Zbh (P:=Tryz.prog) Zkv (hst.at 0 rfl)
         exact Z4 rfl hst hb hu0 hq0
        ·replace H0:=Zt hc12 H0
         refine wp_skip ?_
         refine Zbc ?_
         refine Zp ?_
         refine r_s (L:=[(2,_)]) (T:=[⟨[],_,[],[],[23]⟩,⟨[.p 0 0,.o 0],_,[3],[0],[2]⟩]) (F:=[.p 1 0]) (hst.pick [0] rfl) hb Za
          (o_p rfl (Zbas rfl rfl )<|o_p rfl (Z3 Zkv rfl rfl u_1 u_0)<|o_n) (fun a g hst hb=>?_)
         refine wp_ret ?_
         obtain rfl:=Option.some.inj H0
         obtain ⟨u0,hu0,hq0⟩:=Zbh (P:=Tryz.prog) Zkv (hst.at 0 rfl)
         exact Z4 rfl hst hb hu0 hq0
       ·refine wp_cond_split (hst.bool 2 rfl) (fun hc10=>?_) (fun hc10=>?_)
        ·replace H0:=Zu hc10 H0
         refine wp_skip ?_
         exact ⟨(a0 == (8:Int)),g,rfl,(hst.pick [0,2] rfl),hb,H0⟩
        ·replace H0:=Zt hc10 H0
         refine r_g (L:=[(2,_),(3,_)]) (T:=[⟨[.o 1],_,[],[],[21]⟩,⟨[.p 0 0],_,[],[0],[19]⟩]) (F:=[.o 0,.p 1 0]) (hst.pick [0,1] rfl) hb Za
          (o_p rfl (Zbt rfl rfl u_0 c_i)<|Qa rfl u_0<|o_n) (fun a g hst hb=>?_)
         exact ⟨(a0 == (9:Int)),g,rfl,(hst.pick [0,1] rfl),hb,H0⟩
     ·refine wp_cond_split (hst.bool 2 rfl) (fun hc6=>?_) (fun hc6=>?_)
      ·replace H0:=Zu hc6 H0
       refine wp_skip ?_
       exact ⟨(a0 == (5:Int)),g,rfl,(hst.pick [0,1,2] rfl),hb,H0⟩
      ·replace H0:=Zt hc6 H0
       refine r_s (L:=[(2,_),(3,_)]) (T:=[⟨[.o 1],_,[],[],[16]⟩,⟨[.p 0 0],_,[],[0],[14]⟩]) (F:=[.o 0,.o 1,.p 1 0]) (hst.pick [0,1] rfl) hb Za
        (o_p rfl (Zbt rfl rfl u_0 c_i)<|Qa rfl u_0<|o_n) (fun a g hst hb=>?_)
       refine wp_cond_split (hst.bool 2 rfl) (fun hc7=>?_) (fun hc7=>?_)
       ·replace H0:=Zu hc7 H0
        refine wp_skip ?_
        exact ⟨(a0 == (6:Int)),g,rfl,(hst.pick [0,1,2] rfl),hb,H0⟩
       ·replace H0:=Zt hc7 H0
        refine r_g (L:=[(2,_),(3,_)]) (T:=[⟨[.o 1],_,[],[],[17]⟩,⟨[.p 0 0],_,[],[0],[14]⟩]) (F:=[.o 0,.o 1,.p 1 0]) (hst.pick [0,1] rfl) hb Za
         (o_p rfl (Zbt rfl rfl u_0 c_i)<|Qa rfl u_0<|o_n) (fun a g hst hb=>?_)
        exact ⟨(a0 == (7:Int)),g,rfl,(hst.pick [0,1,2] rfl),hb,H0⟩
  ·refine wp_cond_split (hst.bool 2 rfl) (fun hc2=>?_) (fun hc2=>?_)
   ·replace H0:=Zu hc2 H0
    refine wp_skip ?_
    exact ⟨(a0 == (2:Int)),g,rfl,(hst.pick [0,1,2] rfl),hb,H0⟩
   ·replace H0:=Zt hc2 H0
    refine r_g (L:=[(2,_),(3,_)]) (T:=[⟨[.o 1],_,[],[],[9]⟩,⟨[.p 0 0],_,[],[0],[7]⟩]) (F:=[.o 0,.o 1,.p 1 0]) (hst.pick [0,1] rfl) hb Za
     (o_p rfl (Zbt rfl rfl u_0 c_i)<|Qa rfl u_0<|o_n) (fun a g hst hb=>?_)
    exact ⟨(a0 == (3:Int)),g,rfl,(hst.pick [0,1,2] rfl),hb,H0⟩
theorem Z3n {r:Nat} (h:Zsq=some r):FnOk Tryz.prog 132 [] (pFlt r):=by
 have H0:=h
 unfold Zsq at H0
 clear h
 refine Zbs (N:=2) Tryz.func132 rfl rfl (Qe rfl) rfl rfl (fun a g0 hst hb=>?_)
 refine r_s (T:=[⟨[],_,[],[],[0]⟩]) (F:=[]) hst hb Za
  (Qa rfl c_f<|o_n) (fun a g hst hb=>?_)
 refine r_s (T:=[⟨[],_,[],[],[1]⟩,⟨[.p 0 0],_,[],[0],[0]⟩]) (F:=[.p 1 0]) hst hb Za
  (o_p rfl (Zrm Z1s rfl rfl c_i)<|Qa rfl u_0<|o_n) (fun a g hst hb=>?_)
 refine wp_ret ?_
 obtain rfl:=Option.some.inj H0
 exact Z4 rfl hst hb (Zg (s:=0)) (hst.at 0 rfl)
theorem Zi0 (a0:Nat) {r:Nat} (h:Zgv a0=some r):FnOk Tryz.prog 100 [(pFlt a0)] (pFlt r):=by
 have H0:=h
 unfold Zgv at H0
 clear h
 refine Zbs (N:=8) Tryz.func100 rfl rfl (Qe rfl) rfl rfl (fun a g0 hst hb=>?_)
 refine r_s (T:=[⟨[],_,[],[],[2]⟩]) (F:=[.o 0]) hst hb Za
  (Qa rfl c_f<|o_n) (fun a g hst hb=>?_)
 refine wp_seq ?_
 refine r_s (T:=[⟨[.o 0],_,[],[],[3]⟩,⟨[.o 0],_,[],[],[4]⟩,⟨[.p 0 0,.p 1 0],_,[],[0,1],[5]⟩]) (F:=[.o 0,.p 2 0]) hst hb Za
  (Qm rfl u_0<|Qm rfl u_0<|o_p rfl (Z4p rfl rfl u_0 u_1)<|o_n) (fun a g hst hb=>?_)
 refine wp_cond_split (hst.bool 1 rfl) (fun hc1=>?_) (fun hc1=>?_)
 ·replace H0:=Zu hc1 H0
  obtain ⟨r2,h3,H0⟩:=Zc H0
  refine r_s (L:=[]) (T:=[⟨[],_,[],[],[6]⟩,⟨[.p 0 0],_,[],[0],[2]⟩]) (F:=[.p 1 0]) (hst.pick [] rfl) hb Za
   (o_p rfl (Zl Zbdg (Z3n h3) rfl rfl .nil)<|Qa rfl u_0<|o_n) (fun a g hst hb=>?_)
  refine wp_ret ?_
  refine Zo ?_
  obtain rfl:=Option.some.inj H0
  exact Z4 rfl hst hb (Zg (s:=2)) (hst.at 0 rfl)
 ·replace H0:=Zt hc1 H0
  refine wp_skip ?_
  refine Zp ?_
  refine r_s (L:=[(0,_)]) (T:=[⟨[.o 0],_,[],[],[7]⟩,⟨[.p 0 0],_,[],[0],[2]⟩]) (F:=[.p 1 0]) (hst.pick [0] rfl) hb Za
   (Qm rfl u_0<|Qa rfl u_0<|o_n) (fun a g hst hb=>?_)
  refine wp_ret ?_
  obtain rfl:=Option.some.inj H0
  exact Z4 rfl hst hb (Zg (s:=2)) (hst.at 0 rfl)
theorem Zp1 (a0:Nat) {r:Int} (h:Znu a0=some r):FnOk Tryz.prog 89 [(pFlt a0)] (pInt .u64 r):=by
 have H0:=h
 unfold Znu at H0
 clear h
 refine Zbs (N:=14) Tryz.func89 rfl rfl (Qe rfl) rfl rfl (fun a g0 hst hb=>?_)
 refine r_s (T:=[⟨[],_,[],[],[2]⟩]) (F:=[.o 0]) hst hb Za
  (Qa rfl c_i<|o_n) (fun a g hst hb=>?_)
 obtain ⟨r1,h2,H0⟩:=Zc H0
 refine r_s (T:=[⟨[.o 0],_,[],[],[4]⟩,⟨[.p 0 0],_,[],[0],[5]⟩,⟨[.p 1 0],_,[],[0,1],[6]⟩,⟨[.p 2 0],_,[],[0,1,2],[3]⟩]) (F:=[.p 3 0]) hst hb Za
  (Qm rfl u_0<|o_p rfl (Zl Zpf (Zi0 _ h2) rfl rfl (.cons u_0 .nil))<|o_p rfl (Zru Zxz rfl rfl u_0)<|Qa rfl u_0<|o_n) (fun a g hst hb=>?_)
 refine wp_seq ?_
 refine r_s (T:=[⟨[.o 0],_,[],[],[7]⟩,⟨[.p 0 0],_,[],[0],[8]⟩,⟨[.p 1 0],_,[],[0,1],[9]⟩]) (F:=[.o 0,.p 2 0]) hst hb Za
  (Qm rfl u_0<|o_p rfl (Zbc4 rfl rfl u_0 c_i)<|o_p rfl (Zdn rfl rfl u_0 c_i)<|o_n) (fun a g hst hb=>?_)
 refine wp_cond_split (hst.bool 1 rfl) (fun hc3=>?_) (fun hc3=>?_)
 ·replace H0:=Zu hc3 H0
  refine r_s (L:=[(3,_)]) (T:=[⟨[.o 0],_,[],[],[10]⟩,⟨[.p 0 0],_,[],[0],[11]⟩,⟨[.p 1 0],_,[],[0,1],[2]⟩]) (F:=[.p 2 0]) (hst.pick [0] rfl) hb Za
   (Qm rfl u_0<|o_p rfl (Zbal rfl rfl rfl u_0)<|Qa rfl u_0<|o_n) (fun a g hst hb=>?_)
  refine wp_ret ?_
  refine Zo ?_
  obtain rfl:=Option.some.inj H0
  exact Z4 rfl hst hb (Zg (s:=2)) (hst.at 0 rfl)
 ·replace H0:=Zt hc3 H0
  refine wp_skip ?_
  refine Zp ?_
  refine r_s (L:=[(3,_)]) (T:=[⟨[.o 0],_,[],[],[12]⟩,⟨[.p 0 0],_,[],[0],[13]⟩,⟨[.p 1 0],_,[],[0,1],[2]⟩]) (F:=[.p 2 0]) (hst.pick [0] rfl) hb Za
   (Qm rfl u_0<|o_p rfl (Zbd9 rfl rfl u_0 c_i)<|Qa rfl u_0<|o_n) (fun a g hst hb=>?_)
  refine wp_ret ?_
  obtain rfl:=Option.some.inj H0
  exact Z4 rfl hst hb (Zg (s:=2)) (hst.at 0 rfl)
theorem Zl1 (a0:Nat) (a1:Nat) {r:Bool} (h:Zk6 a0 a1=some r):FnOk Tryz.prog 62 [(pFlt a0),(pFlt a1)] (Zbf r):=by
 have H0:=h
 unfold Zk6 at H0
 clear h
 refine Zbs (N:=10) Tryz.func62 rfl rfl (Qe rfl) rfl rfl (fun a g0 hst hb=>?_)
 refine r_s (T:=[⟨[],_,[],[],[4]⟩]) (F:=[.o 0,.o 1]) hst hb Za
  (Qa rfl c_b<|o_n) (fun a g hst hb=>?_)
 obtain ⟨r1,h2,H0⟩:=Zc H0;obtain ⟨r3,h4,H0⟩:=Zc H0
 refine r_s (T:=[⟨[.o 0],_,[],[],[5]⟩,⟨[.p 0 0],_,[],[0],[6]⟩,⟨[.o 1],_,[],[],[7]⟩,⟨[.p 2 0],_,[],[0,1,2],[8]⟩,⟨[.p 1 0,.p 3 0],_,[],Lr 4,[9]⟩,⟨[.p 4 0],_,[],Lr 5,[4]⟩]) (F:=[.p 5 0]) hst hb Za
  (Qm rfl u_0<|o_p rfl (Zl Z0w (Zp1 _ h2) rfl rfl (.cons u_0 .nil))<|Qm rfl u_0<|o_p rfl (Zl Z0w (Zp1 _ h4) rfl rfl (.cons u_0 .nil))<|o_p rfl (Zbt rfl rfl u_0 u_1)<|Qa rfl u_0<|o_n) (fun a g hst hb=>?_)
 refine wp_ret ?_
 obtain rfl:=Option.some.inj H0
 exact Z4 rfl hst hb (Zg (s:=4)) (hst.at 0 rfl)
theorem Z3h (a0:Zb) (a1:Zcj) {r:Bool} (h:Zqs a0 a1=some r):FnOk Tryz.prog 76 [(Ze.pd a0),(Zdj.pd a1)] (Zbf r):=by
 have H0:=h
 unfold Zqs at H0
 clear h
 refine Zbs (N:=59) Tryz.func76 rfl rfl (Qe rfl) rfl rfl (fun a g0 hst hb=>?_)
 refine r_s (T:=[⟨[.o 0],_,[],[],[2]⟩,⟨[.o 1],_,[],[],[3]⟩,⟨[],_,[],[],[4]⟩]) (F:=[.p 0 0,.p 1 0]) hst hb Za
  (Qb rfl u_0<|Qb rfl u_0<|Qa rfl c_b<|o_n) (fun a g hst hb=>?_)
 obtain ⟨r1,h2,H0⟩:=Zc H0
 refine r_s (T:=⟨[.o 1],_,[],[],[5]⟩ :: ⟨[.p 0 0],_,[],[0],[6]⟩ :: ⟨[.p 1 0],_,[],[0,1],[7]⟩ :: ⟨[.p 2 0,.o 0],_,[],[0,1,2],[8]⟩ :: ⟨[.p 2 0,.p 3 0],_,[],Lr 4,[9]⟩ :: ⟨[.p 2 0,.p 4 0],_,[],Lr 5,[10]⟩ :: ⟨[.p 2 0,.p 5 0],_,[],Lr 6,[11]⟩ :: ⟨[.p 6 0],_,[],Lr 7,[12]⟩ :: ⟨[.p 7 0,.o 1],_,[],Lr 8,[13]⟩ :: ⟨[.p 7 0,.p 8 0],_,[],Lr 9,[14]⟩ :: ⟨[.p 7 0,.p 9 0],_,[],Lr 10,[15]⟩ :: ⟨[.p 10 0,.o 0],_,[],Lr 11,[16]⟩ :: ⟨[.p 10 0,.p 11 0],_,[],Lr 12,[17]⟩ :: ⟨[.p 10 0,.p 12 0],_,[],Lr 13,[18]⟩ :: ⟨[.p 7 0,.p 10 0,.p 13 0],_,[],Lr 14,[19]⟩ :: ⟨[.p 7 0,.p 14 0],_,[],Lr 15,[20]⟩ :: ⟨[.p 15 0],_,[],Lr 16,[21]⟩ :: ⟨[.p 16 0,.o 1],_,[],Lr 17,[22]⟩ :: ⟨[.p 16 0,.p 17 0],_,[],Lr 18,[23]⟩ :: ⟨[.p 16 0,.p 18 0],_,[],Lr 19,[24]⟩ :: ⟨[.p 19 0,.o 0],_,[],Lr 20,[25]⟩ :: ⟨[.p 19 0,.p 20 0],_,[],Lr 21,[26]⟩ :: ⟨[.p 19 0,.p 21 0],_,[],Lr 22,[27]⟩ :: ⟨[.p 19 0,.p 22 0],_,[],Lr 23,[28]⟩ :: ⟨[.p 23 0,.o 0],_,[],Lr 24,[29]⟩ :: ⟨[.p 23 0,.p 24 0],_,[],Lr 25,[30]⟩ :: ⟨[.p 23 0,.p 25 0],_,[],Lr 26,[31]⟩ :: ⟨[.p 19 0,.p 23 0,.p 26 0],_,[],Lr 27,[32]⟩ :: ⟨[.p 16 0,.p 19 0,.p 27 0],_,[],Lr 28,[33]⟩ :: ⟨[.p 16 0,.p 28 0],_,[],Lr 29,[34]⟩ :: ⟨[.p 29 0],_,[],Lr 30,[35]⟩ :: ⟨[.p 30 0,.o 1],_,[],Lr 31,[36]⟩ :: ⟨[.p 30 0,.p 31 0],_,[],Lr 32,[37]⟩ :: ⟨[.p 30 0,.p 32 0],_,[],Lr 33,[38]⟩ :: ⟨[.p 33 0,.o 0],_,[],Lr 34,[39]⟩ :: ⟨[.p 33 0,.p 34 0],_,[],Lr 35,[40]⟩ :: ⟨[.p 33 0,.p 35 0],_,[],Lr 36,[41]⟩ :: ⟨[.p 30 0,.p 33 0,.p 36 0],_,[],Lr 37,[42]⟩ :: ⟨[.p 30 0,.p 37 0],_,[],Lr 38,[43]⟩ :: ⟨[.p 38 0],_,[],Lr 39,[44]⟩ :: ⟨[.p 39 0,.o 1],_,[],Lr 40,[45]⟩ :: ⟨[.p 39 0,.p 40 0],_,[],Lr 41,[46]⟩ :: ⟨[.p 39 0,.p 41 0],_,[],Lr 42,[47]⟩ :: ⟨[.p 42 0,.o 0],_,[],Lr 43,[48]⟩ :: ⟨[.p 42 0,.p 43 0],_,[],Lr 44,[49]⟩ :: ⟨[.p 42 0,.p 44 0],_,[],Lr 45,[50]⟩ :: ⟨[.p 42 0,.p 45 0],_,[],Lr 46,[51]⟩ :: ⟨[.p 46 0,.o 0],_,[],Lr 47,[52]⟩ :: ⟨[.p 46 0,.p 47 0],_,[],Lr 48,[53]⟩ :: ⟨[.p 46 0,.p 48 0],_,[],Lr 49,[54]⟩ :: ⟨[.p 46 0,.p 49 0],_,[],Lr 50,[55]⟩ :: ⟨[.p 42 0,.p 46 0,.p 50 0],_,[],Lr 51,[56]⟩ :: ⟨[.p 39 0,.p 42 0,.p 51 0],_,[],Lr 52,[57]⟩ :: ⟨[.p 39 0,.p 52 0],_,[],Lr 53,[58]⟩ :: ⟨[.p 53 0],_,[],Lr 54,[4]⟩ :: []) (F:=[.p 54 0]) hst hb Za
  (Qf rfl Z77 u_0<|Ql rfl ty_4 u_0<|Qm rfl u_0<|o_g (Qg_f rfl (fun hG=>Zi Zj2 rfl rfl u_0))<|o_g (Qg_f rfl (fun hG=>Zv ty_9 rfl rfl (Opd.gd hG u_0)))<|o_g (Qg_f rfl (fun hG=>Zlf rfl rfl (Opd.gd hG u_0) c_s))<|o_p rfl (Zbp rfl rfl u_0 (fun hz=>(Opd.gd (bNF hz) u_1)))<|Qm rfl u_0<|o_g (Qg_t rfl (fun hG=>Zi Z79 rfl rfl u_0))<|o_g (Qg_t rfl (fun hG=>Zv ty_4 rfl rfl (Opd.gd hG u_0)))<|o_g (Qg_t rfl (fun hG=>Z6 rfl rfl (Opd.gd hG u_0)))<|o_g (Qg_fi rfl (fun hG=>Zi Zc3 rfl rfl u_0))<|o_g (Qg_fi rfl (fun hG=>Zv ty_2 rfl rfl (Opd.gd hG u_0)))<|o_g (Qg_fi rfl (fun hG=>Zbt rfl rfl (Opd.gd hG u_0) c_i))<|o_g (Qg_t rfl (fun hG=>Zbp rfl rfl (Opd.gd hG u_0) (fun hz=>(Opd.gd (bA hG (bNF hz)) u_1))))<|o_p rfl (Zbk rfl rfl u_0 (fun hz=>(Opd.gd hz u_1)))<|Qm rfl u_0<|o_g (Qg_t rfl (fun hG=>Zi Z04 rfl rfl u_0))<|o_g (Qg_t rfl (fun hG=>Zv ty_4 rfl rfl (Opd.gd hG u_0)))<|o_g (Qg_t rfl (fun hG=>Z6 rfl rfl (Opd.gd hG u_0)))<|o_g (Qg_fi rfl (fun hG=>Zi Zkf rfl rfl u_0))<|o_g (Qg_fi rfl (fun hG=>Zv ty_2 rfl rfl (Opd.gd hG u_0)))<|o_g (Qg_fi rfl (fun hG=>Zbt rfl rfl (Opd.gd hG u_0) c_i))<|o_g (Qg_fi rfl (fun hG=>Z6 rfl rfl (Opd.gd hG u_0)))<|o_g (Qg_ti rfl (fun hG=>Zi Zkd rfl rfl u_0))<|o_g (Qg_ti rfl (fun hG=>Zv ty_2 rfl rfl (Opd.gd hG u_0)))<|o_g (Qg_ti rfl (fun hG=>Zbt rfl rfl (Opd.gd hG u_0) c_i))<|o_g (Qg_fi rfl (fun hG=>Zbk rfl rfl (Opd.gd hG u_0) (fun hz=>(Opd.gd (bA hG hz) u_1))))<|o_g (Qg_t rfl (fun hG=>Zbp rfl rfl (Opd.gd hG u_0) (fun hz=>(Opd.gd (bA hG (bNF hz)) u_1))))<|o_p rfl (Zbk rfl rfl u_0 (fun hz=>(Opd.gd hz u_1)))<|Qm rfl u_0<|o_g (Qg_t rfl (fun hG=>Zi Z8u rfl rfl u_0))<|o_g (Qg_t rfl (fun hG=>Zv ty_4 rfl rfl (Opd.gd hG u_0)))<|o_g (Qg_t rfl (fun hG=>Z6 rfl rfl (Opd.gd hG u_0)))<|o_g (Qg_fi rfl (fun hG=>Zi Zgl rfl rfl u_0))<|o_g (Qg_fi rfl (fun hG=>Zv Zc6 rfl rfl (Opd.gd hG u_0)))<|o_g (Qg_fi rfl (fun hG=>Zl Zux (Zl1 _ _ (Zbn h2 hG)) rfl rfl (.cons (Opd.gd hG u_0) (.cons c_f .nil))))<|o_g (Qg_t rfl (fun hG=>Zbp rfl rfl (Opd.gd hG u_0) (fun hz=>(Opd.gd (bA hG (bNF hz)) u_1))))<|o_p rfl (Zbk rfl rfl u_0 (fun hz=>(Opd.gd hz u_1)))<|Qm rfl u_0<|o_g (Qg_t rfl (fun hG=>Zi Z18 rfl rfl u_0))<|o_g (Qg_t rfl (fun hG=>Zv ty_4 rfl rfl (Opd.gd hG u_0)))<|o_g (Qg_t rfl (fun hG=>Z6 rfl rfl (Opd.gd hG u_0)))<|o_g (Qg_fi rfl (fun hG=>Zi Zhf rfl rfl u_0))<|o_g (Qg_fi rfl (fun hG=>Zv ty_3 rfl rfl (Opd.gd hG u_0)))<|o_g (Qg_fi rfl (fun hG=>Zbt rfl rfl (Opd.gd hG u_0) c_i))<|o_g (Qg_fi rfl (fun hG=>Z6 rfl rfl (Opd.gd hG u_0)))<|o_g (Qg_ti rfl (fun hG=>Zi Zci rfl rfl u_0))<|o_g (Qg_ti rfl (fun hG=>Zv Zdb rfl rfl (Opd.gd hG u_0)))<|o_g (Qg_ti rfl (fun hG=>Zbx Tryz.underlying36 rfl rfl (Opd.gd hG u_0)))<|o_g (Qg_ti rfl (fun hG=>Zbt rfl rfl (Opd.gd hG u_0) c_i))<|o_g (Qg_fi rfl (fun hG=>Zbk rfl rfl (Opd.gd hG u_0) (fun hz=>(Opd.gd (bA hG hz) u_1))))<|o_g (Qg_t rfl (fun hG=>Zbp rfl rfl (Opd.gd hG u_0) (fun hz=>(Opd.gd (bA hG (bNF hz)) u_1))))<|o_p rfl (Zbk rfl rfl u_0 (fun hz=>(Opd.gd hz u_1)))<|Qa rfl u_0<|o_n) (fun a g hst hb=>?_)
 refine wp_ret ?_
 obtain rfl:=Option.some.inj H0
 exact Z4 rfl hst hb (Zg (s:=4)) (hst.at 0 rfl)
theorem Zpy (a0:Nat) {r:Bool} (h:Zln a0=some r):FnOk Tryz.prog 77 [(pFlt a0)] (Zbf r):=by
 have H0:=h
 unfold Zln at H0
 clear h
 refine Zbs (N:=9) Tryz.func77 rfl rfl (Qe rfl) rfl rfl (fun a g0 hst hb=>?_)
 refine r_s (T:=[⟨[],_,[],[],[2]⟩]) (F:=[.o 0]) hst hb Za
  (Qa rfl c_b<|o_n) (fun a g hst hb=>?_)
 obtain ⟨r1,h2,H0⟩:=Zc H0
 refine r_s (T:=[⟨[.o 0],_,[],[],[3]⟩,⟨[.p 0 0],_,[],[0],[4]⟩,⟨[.o 0],_,[],[],[5]⟩,⟨[.p 2 0],_,[],[0,1,2],[6]⟩,⟨[.p 3 0],_,[],Lr 4,[7]⟩,⟨[.p 1 0,.p 4 0],_,[],Lr 5,[8]⟩,⟨[.p 5 0],_,[],Lr 6,[2]⟩]) (F:=[.p 6 0]) hst hb Za
  (Qm rfl u_0<|o_p rfl (Zru Zxz rfl rfl u_0)<|Qm rfl u_0<|o_p rfl (Zl Zpf (Zi0 _ h2) rfl rfl (.cons u_0 .nil))<|o_p rfl (Zru Zxz rfl rfl u_0)<|o_p rfl (Zbt rfl rfl u_0 u_1)<|Qa rfl u_0<|o_n) (fun a g hst hb=>?_)
 refine wp_ret ?_
 obtain rfl:=Option.some.inj H0
 exact Z4 rfl hst hb (Zg (s:=2)) (hst.at 0 rfl)
theorem Zrk (a0:Nat) (a1:Nat) {r:Bool} (h:Znk a0 a1=some r):FnOk Tryz.prog 133 [(pFlt a0),(pFlt a1)] (Zbf r):=by
 have H0:=h
 unfold Znk at H0
 clear h
 refine Zbs (N:=10) Tryz.func133 rfl rfl (Qe rfl) rfl rfl (fun a g0 hst hb=>?_)
 refine r_s (T:=[⟨[],_,[],[],[4]⟩]) (F:=[.o 0,.o 1]) hst hb Za
  (Qa rfl c_b<|o_n) (fun a g hst hb=>?_)
 obtain ⟨r1,h2,H0⟩:=Zc H0;obtain ⟨r3,h4,H0⟩:=Zc H0
 refine r_s (T:=[⟨[.o 0],_,[],[],[5]⟩,⟨[.p 0 0],_,[],[0],[6]⟩,⟨[.o 1],_,[],[],[7]⟩,⟨[.p 2 0],_,[],[0,1,2],[8]⟩,⟨[.p 1 0,.p 3 0],_,[],Lr 4,[9]⟩,⟨[.p 4 0],_,[],Lr 5,[4]⟩]) (F:=[.p 5 0]) hst hb Za
  (Qm rfl u_0<|o_p rfl (Zl Z0w (Zp1 _ h2) rfl rfl (.cons u_0 .nil))<|Qm rfl u_0<|o_p rfl (Zl Z0w (Zp1 _ h4) rfl rfl (.cons u_0 .nil))<|o_p rfl (Zca rfl rfl u_0 u_1)<|Qa rfl u_0<|o_n) (fun a g hst hb=>?_)
 refine wp_ret ?_
 obtain rfl:=Option.some.inj H0
 exact Z4 rfl hst hb (Zg (s:=4)) (hst.at 0 rfl)
theorem Zpw (a0:Zh) (a1:Zh) {r:Bool} (h:Zlr a0 a1=some r):FnOk Tryz.prog 101 [(Z2.pd a0),(Z2.pd a1)] (Zbf r):=by
 have H0:=h
 unfold Zlr at H0
 clear h
 refine Zbs (N:=21) Tryz.func101 rfl rfl (Qe rfl) rfl rfl (fun a g0 hst hb=>?_)
 refine r_s (T:=[⟨[.o 0],_,[],[],[2]⟩,⟨[.o 1],_,[],[],[3]⟩,⟨[],_,[],[],[4]⟩]) (F:=[.p 0 0,.p 1 0]) hst hb Za
  (Qb rfl u_0<|Qb rfl u_0<|Qa rfl c_b<|o_n) (fun a g hst hb=>?_)
 refine wp_seq ?_
 obtain ⟨r1,h2,H0⟩:=Zc H0
 refine r_s (T:=[⟨[.o 0],_,[],[],[5]⟩,⟨[.p 0 0],_,[],[0],[6]⟩,⟨[.o 1],_,[],[],[7]⟩,⟨[.p 2 0],_,[],[2],[8]⟩,⟨[.p 1 0,.p 3 0],_,[],Lr 4,[9]⟩,⟨[.p 4 0],_,[],Lr 5,[10]⟩]) (F:=[.o 0,.o 1,.p 5 0]) hst hb Za
  (Qf rfl Zf3 u_0<|Ql rfl Zc6 u_0<|Qf rfl Zf3 u_0<|Ql rfl Zc6 u_0<|o_p rfl (Zl Zux (Zl1 _ _ h2) rfl rfl (.cons u_0 (.cons u_1 .nil)))<|Qn rfl u_0<|o_n) (fun a g hst hb=>?_)
 refine wp_cond_split (hst.bool 2 rfl) (fun hc3=>?_) (fun hc3=>?_)
 ·replace H0:=Zu hc3 H0
  obtain ⟨r4,h5,H0⟩:=Zc H0
  refine r_s (L:=[(2,_),(3,_)]) (T:=[⟨[.o 1],_,[],[],[11]⟩,⟨[.p 0 0],_,[],[0],[12]⟩,⟨[.o 0],_,[],[],[13]⟩,⟨[.p 2 0],_,[],[2],[14]⟩,⟨[.p 1 0,.p 3 0],_,[],Lr 4,[15]⟩,⟨[.p 4 0],_,[],Lr 5,[4]⟩]) (F:=[.p 5 0]) (hst.pick [0,1] rfl) hb Za
   (Qf rfl Zf3 u_0<|Ql rfl Zc6 u_0<|Qf rfl Zf3 u_0<|Ql rfl Zc6 u_0<|o_p rfl (Zl Z22 (Zrk _ _ h5) rfl rfl (.cons u_0 (.cons u_1 .nil)))<|Qa rfl u_0<|o_n) (fun a g hst hb=>?_)
  refine wp_ret ?_
  refine Zo ?_
  obtain rfl:=Option.some.inj H0
  exact Z4 rfl hst hb (Zg (s:=4)) (hst.at 0 rfl)
 ·replace H0:=Zt hc3 H0
  refine wp_skip ?_
  refine Zp ?_
  refine r_s (L:=[(2,_),(3,_)]) (T:=[⟨[.o 0],_,[],[],[16]⟩,⟨[.p 0 0],_,[],[0],[17]⟩,⟨[.o 1],_,[],[],[18]⟩,⟨[.p 2 0],_,[],[2],[19]⟩,⟨[.p 1 0,.p 3 0],_,[],Lr 4,[20]⟩,⟨[.p 4 0],_,[],Lr 5,[4]⟩]) (F:=[.p 5 0]) (hst.pick [0,1] rfl) hb Za
   (Qf rfl Zd6 u_0<|Ql rfl ty_9 u_0<|Qf rfl Zd6 u_0<|Ql rfl ty_9 u_0<|o_p rfl (Zn7 rfl rfl u_0 u_1)<|Qa rfl u_0<|o_n) (fun a g hst hb=>?_)
  refine wp_ret ?_
  obtain rfl:=Option.some.inj H0
  exact Z4 rfl hst hb (Zg (s:=4)) (hst.at 0 rfl)
theorem Z2p (a0:Int) (a1:List Zh) {r:Int} (h:Zpc a0 a1=some r):FnOk Tryz.prog 78 [(pInt .i64 a0),(Z2.sl.pd a1)] (pInt .i64 r):=by
 have H0:=h
 unfold Zpc at H0
 clear h
 refine Zbs (N:=70) Tryz.func78 rfl rfl (Qe rfl) rfl rfl (fun a g0 hst hb=>?_)
 refine r_s (T:=[⟨[],_,[],[],[4]⟩]) (F:=[.o 0,.o 1]) hst hb Za
  (Qa rfl c_i<|o_n) (fun a g hst hb=>?_)
 refine wp_seq ?_
 refine r_s (T:=[⟨[.o 1],_,[],[],[7]⟩,⟨[.p 0 0],_,[],[0],[8]⟩,⟨[],_,[],[],[9]⟩]) (F:=[.o 0,.o 1,.p 0 0,.p 1 0,.p 2 0]) hst hb Za
  (Qm rfl u_0<|o_p rfl (Zbx Tryz.underlying36 rfl rfl u_0)<|Qm rfl c_i<|o_n) (fun a g hst hb=>?_)
 obtain ⟨z19,hz1,H0⟩:=Zc H0
 refine Zb3 (fun a w=>∃ (g:G),w=g.w ∧ St 70 [] a g ∧ Base g0 g ∧ (.inr ())=z19) ?_ ?_
 ·rintro a w ⟨g,rfl,hst,hb,rfl⟩
  refine Zp ?_
  refine r_s (T:=[⟨[],_,[],[],[4]⟩]) (F:=[.p 0 0]) hst hb Za
   (Qa rfl c_i<|o_n) (fun a g hst hb=>?_)
  refine wp_ret ?_
  obtain rfl:=Option.some.inj H0
  exact Z4 rfl hst hb (Zg (s:=4)) (hst.at 0 rfl)
 ·refine wp_block ?_
  refine wp_loop_ghost (fun n a w=>∃ (x1:Int) (g:G),w=g.w ∧ St 70 [(0,(pInt .i64 a0)),(1,(Z2.sl.pd a1)),(7,(Z2.sl.pd a1)),(8,(pInt .i64 (a1.length:Int))),(9,(pInt .i64 x1))] a g ∧ Base g0 g ∧ Zg5 a0 a1 n x1=some z19) (Int.toNat ((a1.length:Int) - (0:Int)) + 1) ⟨(0:Int),g,rfl,(hst.pick [0,1,2,3,4] rfl),hb,hz1⟩ (fun n a w hI=>?_)
  obtain ⟨x1,g,rfl,hst,hb,H1⟩:=hI
  cases n with
  | zero=>exact absurd H1 (by simp [Zg5])
  | succ n =>
   rw [Zg5] at H1
   refine r_s (T:=[⟨[.o 4,.o 3],_,[],[],[10]⟩]) (F:=[.o 0,.o 1,.o 2,.o 3,.o 4,.p 0 0]) hst hb Za
    (o_p rfl (Zca rfl rfl u_0 u_1)<|o_n) (fun a g hst hb=>?_)
   refine wp_seq ?_
   refine wp_cond_split (hst.bool 5 rfl) (fun hc2=>?_) (fun hc2=>?_)
   ·replace H1:=Zu hc2 H1
    refine wp_skip ?_
    refine Zp ?_
    refine wp_seq ?_
    refine wp_block ?_
    obtain ⟨e3,h4,H1⟩:=Zc H1
    refine r_s (L:=[(0,_),(1,_),(7,_),(8,_),(9,_)]) (T:=[⟨[.o 4],_,[],[],[11]⟩,⟨[.o 2,.o 4],_,[],[],[12]⟩,⟨[.p 1 0],_,[],[1],[13]⟩,⟨[],[(6,(pBox Z2 6 (default:Zh)))],[7],[],[6]⟩,⟨[.p 0 0],_,[],Lr 4,[5]⟩,⟨[.p 2 0,.p 3 0],_,[7],Lr 5,[6]⟩]) (F:=[.o 0,.o 1,.p 4 0,.p 5 0,.o 2,.o 3,.o 4]) (hst.pick [0,1,2,3,4] rfl) hb Za
     (Qm rfl u_0<|o_p rfl (Zbl Tryz.underlying36 Zfe rfl rfl u_0 u_1 h4)<|Ql rfl Zeb u_0<|o_p rfl (Zbi (zs:=[.float .f64 0,.string ByteArray.empty]) (by kernel_rfl) (fun g=>Zl5 g) rfl rfl)<|Qa rfl u_0<|o_p rfl (Zb5 Zeb rfl rfl u_1 u_0)<|o_n) (fun a g hst hb=>?_)
    refine wp_block ?_
    refine r_s (T:=[⟨[.o 3],_,[],[],[15]⟩,⟨[.p 0 0],_,[],[0],[16]⟩,⟨[.p 1 0],_,[],[0,1],[17]⟩,⟨[.p 2 0],_,[],[0,1,2],[18]⟩,⟨[.p 3 0],_,[],Lr 4,[14]⟩]) (F:=[.o 0,.o 1,.o 2,.o 3,.o 4,.o 5,.o 6,.p 4 0]) hst hb Za
     (Qf rfl Zd6 u_0<|Ql rfl ty_9 u_0<|o_p rfl (Zfy Tryz.underlying9 rfl rfl u_0)<|o_p rfl (Zct rfl rfl u_0 c_i)<|Qa rfl u_0<|o_n) (fun a g hst hb=>?_)
    refine wp_cond_split (hst.bool 7 rfl) (fun hc5=>?_) (fun hc5=>?_)
    ·replace H1:=Zu hc5 H1
     refine r_s (L:=[]) (T:=[⟨[],_,[],[],[4]⟩]) (F:=[.p 0 0]) (hst.pick [] rfl) hb Za
      (Qa rfl c_i<|o_n) (fun a g hst hb=>?_)
     refine wp_ret ?_
     refine Z5 ?_
     refine Z5 ?_
     refine Zo ?_
     refine Zo ?_
     refine Z5 ?_
     refine Zo ?_
     refine Zo ?_
     obtain rfl:=Option.some.inj H1
     obtain rfl:=Option.some.inj H0
     exact Z4 rfl hst hb (Zg (s:=4)) (hst.at 0 rfl)
    ·replace H1:=Zt hc5 H1
     obtain ⟨r6,h7,H1⟩:=Zc H1;obtain ⟨r8,h9,H1⟩:=Zc H1
     refine r_s (L:=[(0,_),(1,_),(5,_),(6,_),(7,_),(8,_),(9,_)]) (T:=⟨[.o 0],_,[],[],[20]⟩ :: ⟨[.p 0 0],_,[],[0],[21]⟩ :: ⟨[.p 1 0],_,[],[0,1],[22]⟩ :: ⟨[.p 2 0,.o 3],_,[],[0,1,2],[23]⟩ :: ⟨[.p 2 0,.p 3 0],_,[],Lr 4,[24]⟩ :: ⟨[.p 2 0,.p 4 0],_,[],Lr 5,[25]⟩ :: ⟨[.p 2 0,.p 5 0],_,[],Lr 6,[26]⟩ :: ⟨[.p 2 0,.p 6 0],_,[],Lr 7,[27]⟩ :: ⟨[.p 7 0],_,[],Lr 8,[28]⟩ :: ⟨[.p 8 0,.o 3],_,[],Lr 9,[29]⟩ :: ⟨[.p 8 0,.p 9 0],_,[],Lr 10,[30]⟩ :: ⟨[.p 8 0,.p 10 0],_,[],Lr 11,[31]⟩ :: ⟨[.p 8 0,.p 11 0],_,[],Lr 12,[32]⟩ :: ⟨[.p 8 0,.p 12 0],_,[],Lr 13,[33]⟩ :: ⟨[.p 13 0],_,[],Lr 14,[19]⟩ :: []) (F:=[.o 0,.o 1,.o 2,.o 3,.o 4,.o 5,.o 6,.p 14 0]) (hst.pick [0,1,2,3,4,5,6] rfl) hb Za
      (Qm rfl u_0<|o_p rfl (Zbt rfl rfl u_0 c_i)<|Qm rfl u_0<|o_g (Qg_t rfl (fun hG=>Zi Zf3 rfl rfl u_0))<|o_g (Qg_t rfl (fun hG=>Zv Zc6 rfl rfl (Opd.gd hG u_0)))<|o_g (Qg_t rfl (fun hG=>Zl Zux (Zl1 _ _ (Zbn h7 hG)) rfl rfl (.cons (Opd.gd hG u_0) (.cons c_f .nil))))<|o_g (Qg_t rfl (fun hG=>Ze1 rfl rfl (Opd.gd hG u_0)))<|o_p rfl (Zbk rfl rfl u_0 (fun hz=>(Opd.gd hz u_1)))<|Qm rfl u_0<|o_g (Qg_f rfl (fun hG=>Zi Zf3 rfl rfl u_0))<|o_g (Qg_f rfl (fun hG=>Zv Zc6 rfl rfl (Opd.gd hG u_0)))<|o_g (Qg_f rfl (fun hG=>Zl Z5y (Zpy _ (Zbn h9 hG)) rfl rfl (.cons (Opd.gd hG u_0) .nil)))<|o_g (Qg_f rfl (fun hG=>Ze1 rfl rfl (Opd.gd hG u_0)))<|o_p rfl (Zbp rfl rfl u_0 (fun hz=>(Opd.gd (bNF hz) u_1)))<|Qa rfl u_0<|o_n) (fun a g hst hb=>?_)
     refine wp_cond_split (hst.bool 7 rfl) (fun hc10=>?_) (fun hc10=>?_)
     ·replace H1:=Zu hc10 H1
      refine r_s (L:=[]) (T:=[⟨[],_,[],[],[4]⟩]) (F:=[.p 0 0]) (hst.pick [] rfl) hb Za
       (Qa rfl c_i<|o_n) (fun a g hst hb=>?_)
      refine wp_ret ?_
      refine Z5 ?_
      refine Z5 ?_
      refine Zo ?_
      refine Zo ?_
      refine Z5 ?_
      refine Zo ?_
      refine Zo ?_
      obtain rfl:=Option.some.inj H1
      obtain rfl:=Option.some.inj H0
      exact Z4 rfl hst hb (Zg (s:=4)) (hst.at 0 rfl)
     ·replace H1:=Zt hc10 H1
      obtain ⟨e11,h12,H1⟩:=Zc H1
      refine r_s (L:=[(0,_),(1,_),(5,_),(6,_),(7,_),(8,_),(9,_)]) (T:=⟨[.o 2],_,[],[],[35]⟩ :: ⟨[.p 0 0],_,[],[0],[36]⟩ :: ⟨[.p 1 0],_,[],[0,1],[37]⟩ :: ⟨[.p 2 0,.o 0],_,[],[0,1,2],[38]⟩ :: ⟨[.p 2 0,.p 3 0],_,[],Lr 4,[39]⟩ :: ⟨[.p 2 0,.p 4 0],_,[],Lr 5,[40]⟩ :: ⟨[.p 5 0],_,[],Lr 6,[41]⟩ :: ⟨[.p 6 0,.o 1],_,[],Lr 7,[42]⟩ :: ⟨[.p 6 0,.o 2],_,[],Lr 7,[43]⟩ :: ⟨[.p 6 0,.p 8 0],_,[],[0,1,2,3,4,5,6,8],[44]⟩ :: ⟨[.p 6 0,.p 7 0,.p 9 0],_,[],Lr 10,[45]⟩ :: ⟨[.p 6 0,.p 10 0],_,[],Lr 11,[46]⟩ :: ⟨[.p 6 0,.p 11 0],_,[],Lr 12,[47]⟩ :: ⟨[.p 6 0,.o 3],_,[],Lr 7,[48]⟩ :: ⟨[.p 6 0,.p 13 0],_,[],[0,1,2,3,4,5,6,13],[49]⟩ :: ⟨[.p 6 0,.p 12 0,.p 14 0],_,[],Lr 15,[50]⟩ :: ⟨[.p 6 0,.p 15 0],_,[],Lr 16,[51]⟩ :: ⟨[.p 16 0],_,[],Lr 17,[34]⟩ :: []) (F:=[.o 0,.o 1,.o 2,.o 3,.o 4,.o 5,.o 6,.p 17 0]) (hst.pick [0,1,2,3,4,5,6] rfl) hb Za
       (Qm rfl u_0<|o_p rfl (Zct rfl rfl u_0 c_i)<|Qm rfl u_0<|o_g (Qg_t rfl (fun hG=>Z6 rfl rfl u_0))<|o_g (Qg_t rfl (fun hG=>Zbt rfl rfl (Opd.gd hG u_0) c_i))<|o_p rfl (Zbk rfl rfl u_0 (fun hz=>(Opd.gd hz u_1)))<|Qm rfl u_0<|o_g (Qg_t rfl (fun hG=>Z6 rfl rfl u_0))<|o_g (Qg_t rfl (fun hG=>Z6 rfl rfl u_0))<|o_g (Qg_t rfl (fun hG=>Zh1 rfl rfl (Opd.gd hG u_0) c_i rfl))<|o_g (Qg_t rfl (fun hG=>Zbl Tryz.underlying36 Zfe rfl rfl (Opd.gd hG u_0) (Opd.gd hG u_1) (Zbn h12 hG)))<|o_g (Qg_t rfl (fun hG=>Zi Zd6 rfl rfl (Opd.gd hG u_0)))<|o_g (Qg_t rfl (fun hG=>Zv ty_9 rfl rfl (Opd.gd hG u_0)))<|o_g (Qg_t rfl (fun hG=>Zi Zd6 rfl rfl u_0))<|o_g (Qg_t rfl (fun hG=>Zv ty_9 rfl rfl (Opd.gd hG u_0)))<|o_g (Qg_t rfl (fun hG=>Zbdh rfl rfl (Opd.gd hG u_0) (Opd.gd hG u_1)))<|o_p rfl (Zbk rfl rfl u_0 (fun hz=>(Opd.gd hz u_1)))<|Qa rfl u_0<|o_n) (fun a g hst hb=>?_)
      refine wp_cond_split (hst.bool 7 rfl) (fun hc13=>?_) (fun hc13=>?_)
      ·replace H1:=Zu hc13 H1
       refine r_s (L:=[]) (T:=[⟨[],_,[],[],[4]⟩]) (F:=[.p 0 0]) (hst.pick [] rfl) hb Za
        (Qa rfl c_i<|o_n) (fun a g hst hb=>?_)
       refine wp_ret ?_
       refine Z5 ?_
       refine Z5 ?_
       refine Zo ?_
       refine Zo ?_
       refine Z5 ?_
       refine Zo ?_
       refine Zo ?_
       obtain rfl:=Option.some.inj H1
       obtain rfl:=Option.some.inj H0
       exact Z4 rfl hst hb (Zg (s:=4)) (hst.at 0 rfl)
      ·replace H1:=Zt hc13 H1
       obtain ⟨e14,h15,H1⟩:=Zc H1;obtain ⟨r16,h17,H1⟩:=Zc H1
       refine r_s (L:=[(0,_),(1,_),(5,_),(6,_),(7,_),(8,_),(9,_)]) (T:=⟨[.o 2],_,[],[],[53]⟩ :: ⟨[.p 0 0],_,[],[0],[54]⟩ :: ⟨[.p 1 0],_,[],[0,1],[55]⟩ :: ⟨[.p 2 0,.o 0],_,[],[0,1,2],[56]⟩ :: ⟨[.p 2 0,.p 3 0],_,[],Lr 4,[57]⟩ :: ⟨[.p 2 0,.p 4 0],_,[],Lr 5,[58]⟩ :: ⟨[.p 5 0],_,[],Lr 6,[59]⟩ :: ⟨[.p 6 0,.o 1],_,[],Lr 7,[60]⟩ :: ⟨[.p 6 0,.o 2],_,[],Lr 7,[61]⟩ :: ⟨[.p 6 0,.p 8 0],_,[],[0,1,2,3,4,5,6,8],[62]⟩ :: ⟨[.p 6 0,.p 7 0,.p 9 0],_,[],Lr 10,[63]⟩ :: ⟨[.p 6 0,.p 10 0],_,[],Lr 11,[64]⟩ :: ⟨[.p 6 0,.o 3],_,[],Lr 7,[65]⟩ :: ⟨[.p 6 0,.p 11 0,.p 12 0],_,[],Lr 13,[66]⟩ :: ⟨[.p 6 0,.p 13 0],_,[],Lr 14,[67]⟩ :: ⟨[.p 6 0,.p 14 0],_,[],Lr 15,[68]⟩ :: ⟨[.p 15 0],_,[],Lr 16,[52]⟩ :: []) (F:=[.o 0,.o 1,.o 4,.o 5,.o 6,.p 16 0]) (hst.pick [0,1,2,3,4,5,6] rfl) hb Za
        (Qm rfl u_0<|o_p rfl (Zct rfl rfl u_0 c_i)<|Qm rfl u_0<|o_g (Qg_t rfl (fun hG=>Z6 rfl rfl u_0))<|o_g (Qg_t rfl (fun hG=>Zbt rfl rfl (Opd.gd hG u_0) c_i))<|o_p rfl (Zbk rfl rfl u_0 (fun hz=>(Opd.gd hz u_1)))<|Qm rfl u_0<|o_g (Qg_t rfl (fun hG=>Z6 rfl rfl u_0))<|o_g (Qg_t rfl (fun hG=>Z6 rfl rfl u_0))<|o_g (Qg_t rfl (fun hG=>Zh1 rfl rfl (Opd.gd hG u_0) c_i rfl))<|o_g (Qg_t rfl (fun hG=>Zbl Tryz.underlying36 Zfe rfl rfl (Opd.gd hG u_0) (Opd.gd hG u_1) (Zbn h15 hG)))<|o_g (Qg_t rfl (fun hG=>Zv Zeb rfl rfl (Opd.gd hG u_0)))<|o_g (Qg_t rfl (fun hG=>Zv Zeb rfl rfl u_0))<|o_g (Qg_t rfl (fun hG=>Zl Z2r (Zpw _ _ (Zbn h17 hG)) rfl rfl (.cons (Opd.gd hG u_0) (.cons (Opd.gd hG u_1) .nil))))<|o_g (Qg_t rfl (fun hG=>Ze1 rfl rfl (Opd.gd hG u_0)))<|o_p rfl (Zbk rfl rfl u_0 (fun hz=>(Opd.gd hz u_1)))<|Qa rfl u_0<|o_n) (fun a g hst hb=>?_)
       refine wp_cond_split (hst.bool 5 rfl) (fun hc18=>?_) (fun hc18=>?_)
       ·replace H1:=Zu hc18 H1
        refine r_s (L:=[]) (T:=[⟨[],_,[],[],[4]⟩]) (F:=[.p 0 0]) (hst.pick [] rfl) hb Za
         (Qa rfl c_i<|o_n) (fun a g hst hb=>?_)
        refine wp_ret ?_
        refine Z5 ?_
        refine Z5 ?_
        refine Zo ?_
        refine Zo ?_
        refine Z5 ?_
        refine Zo ?_
        refine Zo ?_
        obtain rfl:=Option.some.inj H1
        obtain rfl:=Option.some.inj H0
        exact Z4 rfl hst hb (Zg (s:=4)) (hst.at 0 rfl)
       ·replace H1:=Zt hc18 H1
        refine wp_skip ?_
        refine Zbc ?_
        refine Zbc ?_
        refine Zp ?_
        refine r_g (L:=[(0,_),(1,_),(7,_),(8,_),(9,_)]) (T:=[⟨[.o 4],_,[],[],[69]⟩,⟨[.p 0 0],_,[],[0],[9]⟩]) (F:=[.o 0,.o 1,.o 2,.o 3,.p 1 0]) (hst.pick [0,1,2,3,4] rfl) hb Za
         (o_p rfl (Zb0 rfl rfl u_0 c_i rfl)<|Qm rfl u_0<|o_n) (fun a g hst hb=>?_)
        exact ⟨n,Nat.lt_succ_self _,(IntKind.i64.wrap (x1 + (1:Int))),g,rfl,(hst.pick [0,1,2,3,4] rfl),hb,H1⟩
   ·replace H1:=Zt hc2 H1
    refine wp_exit ?_
    refine Zby ?_
    refine Zby ?_
    refine Zcb ?_
    exact ⟨g,rfl,(hst.pick [] rfl),hb,Option.some.inj H1⟩
end Go.CL
