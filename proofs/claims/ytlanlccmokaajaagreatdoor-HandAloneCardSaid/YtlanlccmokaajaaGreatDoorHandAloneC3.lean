/- A part of the proof of HandAlone. -/
import Derived.Test.YtlanlccmokaajaaGreatDoorHandAloneC2
import Derived.Test.YtlanlccmokaajaaGreatDoorProg
set_option linter.unusedVariables false
set_option linter.unusedSimpArgs false
set_option maxRecDepth 100000
namespace Go.CL
open Go Go.RowKit
structure Zl where
 Score:Nat
 Name:ByteArray
 deriving Inhabited
structure Ze where
 Kind:Int
 Num:Int
 Low:Int
 High:Int
 Real:Nat
 Cap:Int
 Text:ByteArray
 List:List Zl
 deriving Inhabited
structure Zu where
 Kind:Int
 Key:ByteArray
 N:Int
 X:Nat
 S:ByteArray
 Make:Ze
 Must:Bool
 deriving Inhabited
structure Zbm where
 Acts:List Zu
 deriving Inhabited
structure Zcg where
 text:Bool
 num:Bool
 bounds:Bool
 real:Bool
 list:Bool
 deriving Inhabited
structure Zdn where
 word:ByteArray
 on:Int
 has:ByteArray
 deriving Inhabited
inductive shelf_nodeT where
 | nil
 | node (key:ByteArray) (rec_:Ze) (left:shelf_nodeT) (right:shelf_nodeT) (size:Int)
 deriving Inhabited
structure shelf_node where
 key:ByteArray
 rec_:Ze
 left:shelf_nodeT
 right:shelf_nodeT
 size:Int
 deriving Inhabited
def shelf_nodeT.un:shelf_nodeT → Option shelf_node
 | .nil=>none
 | .node x0 x1 x2 x3 x4=>some ⟨x0,x1,x2,x3,x4⟩
def shelf_node.up (x:shelf_node):shelf_nodeT:=.node x.key x.rec_ x.left x.right x.size
def shelf_nodeT.isNil:shelf_nodeT → Bool
 | .nil=>true
 | .node ..=>false
def shelf_nodeT.hh:shelf_nodeT → Nat
 | .nil=>0
 | .node x0 x1 x2 x3 x4=>max x2.hh x3.hh + 1
structure Zn where
 top:shelf_nodeT
 room:Int
 deriving Inhabited
structure Zg where
 Code:Int
 Num:Int
 Rec:Ze
 deriving Inhabited
structure Z1 where
 Code:Int
 At:Int
 Answers:List Zg
 deriving Inhabited
structure Z3 where
 d:Zbm
 split:List ByteArray
 now:Zn
 out:Z1
 over:Bool
 deriving Inhabited
structure Zbd where
 Key:ByteArray
 Rec:Ze
 deriving Inhabited
structure Zj where
 L:List Zbd
 Room:Int
 deriving Inhabited
def g_0:List Zdn:=[{ word:=⟨#[]⟩,on:=(0),has:=⟨#[]⟩ },
 { word:=⟨#[110,101,119]⟩,on:=(0),has:=⟨#[109]⟩ },
 { word:=⟨#[100,114,111,112]⟩,on:=(0),has:=⟨#[]⟩ },
 { word:=⟨#[105,115]⟩,on:=(0),has:=⟨#[]⟩ },
 { word:=⟨#[108,111,111,107]⟩,on:=(0),has:=⟨#[]⟩ },
 { word:=⟨#[112,117,116]⟩,on:=(1),has:=⟨#[115]⟩ },
 { word:=⟨#[115,119,97,112]⟩,on:=(1),has:=⟨#[115]⟩ },
 { word:=⟨#[97,100,100]⟩,on:=(2),has:=⟨#[110]⟩ },
 { word:=⟨#[112,108,117,115]⟩,on:=(3),has:=⟨#[110]⟩ },
 { word:=⟨#[114,101,97,99,104]⟩,on:=(3),has:=⟨#[110]⟩ },
 { word:=⟨#[105,110]⟩,on:=(4),has:=⟨#[110]⟩ },
 { word:=⟨#[111,117,116]⟩,on:=(4),has:=⟨#[110]⟩ },
 { word:=⟨#[101,110,111,117,103,104]⟩,on:=(4),has:=⟨#[110]⟩ },
 { word:=⟨#[114,97,105,115,101]⟩,on:=(5),has:=⟨#[120]⟩ },
 { word:=⟨#[108,111,119,101,114]⟩,on:=(6),has:=⟨#[120]⟩ },
 { word:=⟨#[115,104,105,102,116]⟩,on:=(7),has:=⟨#[120]⟩ },
 { word:=⟨#[115,99,97,108,101]⟩,on:=(7),has:=⟨#[120]⟩ },
 { word:=⟨#[102,105,120]⟩,on:=(7),has:=⟨#[120]⟩ },
 { word:=⟨#[106,111,105,110]⟩,on:=(8),has:=⟨#[115]⟩ },
 { word:=⟨#[108,101,97,118,101]⟩,on:=(8),has:=⟨#[115]⟩ },
 { word:=⟨#[104,97,115]⟩,on:=(8),has:=⟨#[115]⟩ },
 { word:=⟨#[111,102,102,101,114]⟩,on:=(9),has:=⟨#[120,115]⟩ }]
def Zby (a0:List Zl):Option (List Zl):=if a0.length * 24 ≤ 140737488355328 then some a0 else none
def Zev (a0:Ze):Option (Ze):=((Zby a0.List).bind fun r1=>(some ({ a0 with List:=r1 })))
def Zf9 (a0:List Zu):Option (List Zu):=if a0.length * 152 ≤ 140737488355328 then some a0 else none
def Zl8 (a0:Zbm):Option (Zbm):=if a0.Acts.length * 152 ≤ 140737488355328 ∧ (a0.Acts.all fun e=>decide (e.Make.List.length * 24 ≤ 140737488355328))=true then some a0 else none
def Zgs (a0:List ByteArray):Option (List ByteArray):=if a0.length * 16 ≤ 140737488355328 then some a0 else none
def Zk8 (j11:Bool):Option (Zcg):=(if j11 then (some ({ text:=false,num:=false,bounds:=false,real:=false,list:=true }:Zcg)) else (some ({ text:=false,num:=false,bounds:=false,real:=false,list:=false }:Zcg)))
def Zjm (a0:Int) (j8:Bool):Option (Zcg):=(if j8 then (some ({ text:=false,num:=false,bounds:=false,real:=true,list:=false }:Zcg)) else (if (a0 == (8:Int)) then (Zk8 (a0 == (8:Int))) else (Zk8 (a0 == (9:Int)))))
def Zk7 (a0:Int) (j3:Bool):Option (Zcg):=(if j3 then (some ({ text:=false,num:=true,bounds:=false,real:=false,list:=false }:Zcg)) else (if (a0 == (4:Int)) then (some ({ text:=false,num:=true,bounds:=true,real:=false,list:=false }:Zcg)) else (if (a0 == (5:Int)) then (Zjm a0 (a0 == (5:Int))) else (if (a0 == (6:Int)) then (Zjm a0 (a0 == (6:Int))) else (Zjm a0 (a0 == (7:Int)))))))
def Zey (a0:Int):Option (Zcg):=(if (a0 == (1:Int)) then (some ({ text:=true,num:=false,bounds:=false,real:=false,list:=false }:Zcg)) else (if (a0 == (2:Int)) then (Zk7 a0 (a0 == (2:Int))) else (Zk7 a0 (a0 == (3:Int)))))
def Zrq:Option (Nat):=(some (Int.toNat (9221120237041090561:Int)))
def Zgk (a0:Nat):Option (Nat):=(if (fneq a0 a0) then ((Zrq).bind fun r2=>(some r2)) else (some a0))
def Zmt (a0:Nat):Option (Int):=((Zgk a0).bind fun r1=>(if ((bAnd .u64 (r1:Int) (9223372036854775808:Int)) != (0:Int)) then (some (bXor .u64 IntKind.u64.max (r1:Int))) else (some (bOr .u64 (r1:Int) (9223372036854775808:Int)))))
def Zkb (a0:Nat) (a1:Nat):Option (Bool):=((Zmt a0).bind fun r1=>((Zmt a1).bind fun r3=>(some (r1 == r3))))
def Zpc (a0:Ze) (a1:Zcg):Option (Bool):=((gd ((((a1.text || (sEq a0.Text (⟨#[]⟩:ByteArray))) && (a1.num || (a0.Num == (0:Int)))) && (a1.bounds || ((a0.Low == (0:Int)) && (a0.High == (0:Int))))) && (!a1.real)) (Zkb a0.Real (0:Nat))).bind fun r1=>(some (((((a1.text || (sEq a0.Text (⟨#[]⟩:ByteArray))) && (a1.num || (a0.Num == (0:Int)))) && (a1.bounds || ((a0.Low == (0:Int)) && (a0.High == (0:Int))))) && (a1.real || r1)) && (a1.list || ((a0.Cap == (0:Int)) && ((a0.List.length:Int) == (0:Int)))))))
def Zk1 (a0:Nat):Option (Bool):=((Zgk a0).bind fun r1=>(some ((a0:Int) == (r1:Int))))
def Zmp (a0:Nat) (a1:Nat):Option (Bool):=((Zmt a0).bind fun r1=>((Zmt a1).bind fun r3=>(some (decide (r1 < r3)))))
def Zk0 (a0:Zl) (a1:Zl):Option (Bool):=((Zkb a0.Score a1.Score).bind fun r1=>(if (!r1) then ((Zmp a1.Score a0.Score).bind fun r4=>(some r4)) else (some (sLt a0.Name a1.Name))))
def Zgq (a0:Int) (a1:List Zl):Nat → (Int) → Option ((Int) ⊕ (Unit))
 | 0,_=>none
 | n + 1,x1=>(if (decide (x1 < (a1.length:Int))) then ((idx a1 x1).bind fun e3=>(if (decide ((16:Int) < (e3.Name.size:Int))) then (some (.inl (3:Int))) else ((gd (a0 == (8:Int)) (Zkb e3.Score (0:Nat))).bind fun r6=>((gd (!((a0 == (8:Int)) && (!r6))) (Zk1 e3.Score)).bind fun r8=>(if (((a0 == (8:Int)) && (!r6)) || (!r8)) then (some (.inl (4:Int))) else ((gd ((decide ((0:Int) < x1)) && (a0 == (8:Int))) (idx a1 (IntKind.i64.wrap (x1 - (1:Int))))).bind fun e11=>(if (((decide ((0:Int) < x1)) && (a0 == (8:Int))) && (!sLt e11.Name e3.Name)) then (some (.inl (4:Int))) else ((gd ((decide ((0:Int) < x1)) && (a0 == (9:Int))) (idx a1 (IntKind.i64.wrap (x1 - (1:Int))))).bind fun e14=>((gd ((decide ((0:Int) < x1)) && (a0 == (9:Int))) (Zk0 e14 e3)).bind fun r16=>(if (((decide ((0:Int) < x1)) && (a0 == (9:Int))) && (!r16)) then (some (.inl (4:Int))) else ((Zgq a0 a1 n) (IntKind.i64.wrap (x1 + (1:Int)))))))))))))) else (some (.inr ())))
def Zog (a0:Int) (a1:List Zl):Option (Int):=((Zgq a0 a1 (Int.toNat ((a1.length:Int) - (0:Int)) + 1) (0:Int)).bind fun z19=>match z19 with | .inl r=>some r | .inr ()=>(some (0:Int)))
def Zet (a0:Ze):Option (Int):=((Zey a0.Kind).bind fun r1=>(if ((decide (a0.Kind ≤ (0:Int))) || (decide ((10:Int) ≤ a0.Kind))) then (some (5:Int)) else ((Zpc a0 r1).bind fun r4=>(if (!r4) then (some (4:Int)) else (if (decide ((64:Int) < (a0.Text.size:Int))) then (some (3:Int)) else (if (r1.bounds && ((((decide (a0.Low < (-2305843009213693952:Int))) || (decide ((2305843009213693952:Int) < a0.High))) || (decide (a0.Num < a0.Low))) || (decide (a0.High < a0.Num)))) then (some (1:Int)) else ((Zk1 a0.Real).bind fun r9=>(if (!r9) then (some (4:Int)) else (if (!r1.list) then (some (0:Int)) else (if ((decide (a0.Cap < (1:Int))) || (decide ((32:Int) < a0.Cap))) then (some (1:Int)) else (if (decide (a0.Cap < (a0.List.length:Int))) then (some (8:Int)) else ((Zog a0.Kind a0.List).bind fun r15=>(some r15)))))))))))))
def Zpp (a0:Int):Option (Zdn):=(if ((decide (a0 ≤ (0:Int))) || (decide ((22:Int) ≤ a0))) then (some ({ word:=ByteArray.empty,on:=(0:Int),has:=ByteArray.empty }:Zdn)) else ((idx g_0 a0).bind fun e2=>(some e2)))
def Zbv (a0:List Zl) (a1:List Zl) (φ2:Zl → Zl → Option Bool):Nat → (Int) → Option ((Bool) ⊕ (Unit))
 | 0,_=>none
 | n + 1,x2=>(if (decide (x2 < (a0.length:Int))) then ((idx a0 x2).bind fun e4=>((idx a1 x2).bind fun e6=>((φ2 e4 e6).bind fun r8=>(if (!r8) then (some (.inl false)) else ((Zbv a0 a1 φ2 n) (IntKind.i64.wrap (x2 + (1:Int)))))))) else (some (.inr ())))
def Zcl (a0:List Zl) (a1:List Zl) (φ2:Zl → Zl → Option Bool):Option (Bool):=(if ((a0.length:Int) != (a1.length:Int)) then (some false) else ((Zbv a0 a1 φ2 (Int.toNat ((a0.length:Int) - (0:Int)) + 1) (0:Int)).bind fun z11=>match z11 with | .inl r=>some r | .inr ()=>(some true)))
def Zju (a0:Zl) (a1:Zl):Option (Bool):=((gd (sEq a0.Name a1.Name) (Zkb a0.Score a1.Score)).bind fun r1=>(some ((sEq a0.Name a1.Name) && r1)))
def Zn6 (a0:Ze) (a1:Ze):Option (Bool):=((gd ((((a0.Kind == a1.Kind) && (a0.Num == a1.Num)) && (a0.Low == a1.Low)) && (a0.High == a1.High)) (Zkb a0.Real a1.Real)).bind fun r1=>((gd (((((((a0.Kind == a1.Kind) && (a0.Num == a1.Num)) && (a0.Low == a1.Low)) && (a0.High == a1.High)) && r1) && (a0.Cap == a1.Cap)) && (sEq a0.Text a1.Text)) (Zcl a0.List a1.List (fun y0 y1=>Zju y0 y1))).bind fun r3=>(some ((((((((a0.Kind == a1.Kind) && (a0.Num == a1.Num)) && (a0.Low == a1.Low)) && (a0.High == a1.High)) && r1) && (a0.Cap == a1.Cap)) && (sEq a0.Text a1.Text)) && r3))))
def Ziz (a0:Zdn) (a1:Int):Nat → (Int) → Option ((Bool) ⊕ (Unit))
 | 0,_=>none
 | n + 1,x1=>(if (decide (x1 < (a0.has.size:Int))) then ((sidx a0.has x1).bind fun b3=>(if (b3 == a1) then (some (.inl true)) else ((Ziz a0 a1 n) (IntKind.i64.wrap (x1 + (1:Int)))))) else (some (.inr ())))
def Zdr (a0:Zdn) (a1:Int):Option (Bool):=((Ziz a0 a1 (Int.toNat ((a0.has.size:Int) - (0:Int)) + 1) (0:Int)).bind fun z6=>match z6 with | .inl r=>some r | .inr ()=>(some false))
def Zro (a0:Zu) (a1:Zdn):Option (Bool):=((Zdr a1 (110:Int)).bind fun r1=>((gd (r1 || (a0.N == (0:Int))) (Zdr a1 (120:Int))).bind fun r3=>((gd ((r1 || (a0.N == (0:Int))) && (!r3)) (Zkb a0.X (0:Nat))).bind fun r5=>((gd ((r1 || (a0.N == (0:Int))) && (r3 || r5)) (Zdr a1 (115:Int))).bind fun r7=>((gd (((r1 || (a0.N == (0:Int))) && (r3 || r5)) && (r7 || (sEq a0.S (⟨#[]⟩:ByteArray)))) (Zdr a1 (109:Int))).bind fun r9=>((gd ((((r1 || (a0.N == (0:Int))) && (r3 || r5)) && (r7 || (sEq a0.S (⟨#[]⟩:ByteArray)))) && (!r9)) (Zn6 a0.Make ({ Kind:=(0:Int),Num:=(0:Int),Low:=(0:Int),High:=(0:Int),Real:=(0:Nat),Cap:=(0:Int),Text:=ByteArray.empty,List:=([]:List Zl) }:Ze))).bind fun r11=>(some ((((r1 || (a0.N == (0:Int))) && (r3 || r5)) && (r7 || (sEq a0.S (⟨#[]⟩:ByteArray)))) && (r9 || r11)))))))))
def Zre (a0:Zdn):Option (Int):=(if (a0.on == (1:Int)) then (some (64:Int)) else (some (16:Int)))
def Zgy (a0:Zu):Option (Int):=((Zpp a0.Kind).bind fun r1=>(if (sEq r1.word (⟨#[]⟩:ByteArray)) then (some (5:Int)) else (if ((sEq a0.Key (⟨#[]⟩:ByteArray)) || (decide ((24:Int) < (a0.Key.size:Int)))) then (some (1:Int)) else ((Zro a0 r1).bind fun r5=>(if (!r5) then (some (4:Int)) else ((Zre r1).bind fun r8=>(if (decide (r8 < (a0.S.size:Int))) then (some (3:Int)) else (if (((a0.Kind == (10:Int)) || (a0.Kind == (11:Int))) && ((decide (a0.N < (0:Int))) || (decide ((2305843009213693952:Int) < a0.N)))) then (some (1:Int)) else ((Zk1 a0.X).bind fun r12=>(if (!r12) then (some (4:Int)) else (if (a0.Kind == (1:Int)) then ((Zet a0.Make).bind fun r16=>(some r16)) else (some (0:Int)))))))))))))
def Zf5 (a0:Zbm):Nat → (Int) → Option ((Int × Int) ⊕ (Unit))
 | 0,_=>none
 | n + 1,x2=>(if (decide (x2 < (a0.Acts.length:Int))) then ((idx a0.Acts x2).bind fun e4=>((Zgy e4).bind fun r6=>(if (r6 != (0:Int)) then (some (.inl (r6,(IntKind.i64.wrap (x2 + (1:Int)))))) else ((Zf5 a0 n) (IntKind.i64.wrap (x2 + (1:Int))))))) else (some (.inr ())))
def Zga (a0:Zbm):Option (Int × Int):=(if (((a0.Acts.length:Int) == (0:Int)) || (decide ((12:Int) < (a0.Acts.length:Int)))) then (some ((1:Int),(0:Int))) else ((Zf5 a0 (Int.toNat ((a0.Acts.length:Int) - (0:Int)) + 1) (0:Int)).bind fun z9=>match z9 with | .inl r=>some r | .inr ()=>(some ((0:Int),(0:Int)))))
def Zob (j8:Z3):Option (Z3):=(some j8)
def Zmr (a0:Zbm) (a1:Zn) (a2:List ByteArray):Option (Z3):=((Zl8 a0).bind fun r1=>((Zgs a2).bind fun r3=>((Zga a0).bind fun r5=>(if (r5.1 != (0:Int)) then (Zob ({ ({ ({ d:=r1,split:=r3,now:=a1,out:=(default:Z1),over:=false }:Z3) with out:=({ Code:=r5.1,At:=r5.2,Answers:=([]:List Zg) }:Z1) }:Z3) with over:=true }:Z3)) else (Zob ({ d:=r1,split:=r3,now:=a1,out:=(default:Z1),over:=false }:Z3))))))
def Ze1 (a0:List Zg):Option (List Zg):=if a0.length * 104 ≤ 140737488355328 then some a0 else none
def Zoo (a0:Z1):Option (Z1):=if a0.Answers.length * 104 ≤ 140737488355328 ∧ (a0.Answers.all fun e=>decide (e.Rec.List.length * 24 ≤ 140737488355328))=true then some a0 else none
def Zfj (a0:Z3):Option (Z1 × Bool):=(if (!a0.over) then (some (({ Code:=(0:Int),At:=(0:Int),Answers:=([]:List Zg) }:Z1),false)) else ((Zoo a0.out).bind fun r2=>(some (r2,true))))
def Zl1 (a0:Int):Option (Bool):=(some (((((a0 == (3:Int)) || (a0 == (4:Int))) || (a0 == (9:Int))) || (a0 == (12:Int))) || (a0 == (20:Int))))
def Zib (x1:Ze) (kk:(Ze) → (shelf_nodeT) → Option ((Ze × Bool) ⊕ (Ze))) (j10:shelf_nodeT):Option ((Ze × Bool) ⊕ (Ze)):=(kk x1 j10)
def Zeo (a1:ByteArray):Nat → (Ze) → (shelf_nodeT) → Option ((Ze × Bool) ⊕ (Ze))
 | 0,_,_=>none
 | n + 1,x1,x2=>(if (!x2.isNil) then ((x2.un).bind fun n4=>(if (sLt a1 n4.key) then (Zib x1 (Zeo a1 n) n4.left) else (if (!(sLt a1 n4.key || sEq a1 n4.key)) then (Zib x1 (Zeo a1 n) n4.right) else ((Zev n4.rec_).bind fun r8=>(some (.inl (r8,true))))))) else (some (.inr x1)))
def Zei (a0:Zn) (a1:ByteArray):Option (Ze × Bool):=((Zeo a1 (a0.top.hh + 1) (default:Ze) a0.top).bind fun z12=>match z12 with | .inl r=>some r | .inr y11=>(some (({ Kind:=(0:Int),Num:=(0:Int),Low:=(0:Int),High:=(0:Int),Real:=(0:Nat),Cap:=(0:Int),Text:=ByteArray.empty,List:=([]:List Zl) }:Ze),false)))
def Zcx (a0:shelf_nodeT):Option (Int):=(if a0.isNil then (some (0:Int)) else ((a0.un).bind fun n2=>(some n2.size)))
def Zfb (a0:Zn):Option (Int):=((Zcx a0.top).bind fun r1=>(some r1))
def Zd6 (a0:ByteArray) (a1:Ze) (a2:shelf_nodeT) (a3:shelf_nodeT):Option (shelf_nodeT):=((Zcx a2).bind fun r1=>((Zcx a3).bind fun r3=>(some ({ key:=a0,rec_:=a1,left:=a2,right:=a3,size:=(IntKind.i64.wrap ((IntKind.i64.wrap (r1 + r3)) + (1:Int))) }:shelf_node).up)))
def Zi6 (a0:shelf_nodeT) (a1:shelf_nodeT):Option (Bool):=((Zcx a0).bind fun r1=>((Zcx a1).bind fun r3=>(some (decide ((IntKind.i64.wrap ((3:Int) * (IntKind.i64.wrap (r3 + (1:Int))))) < (IntKind.i64.wrap (r1 + (1:Int))))))))
def Zi4 (a0:ByteArray) (a1:Ze) (a2:shelf_nodeT) (a3:shelf_nodeT):Option (shelf_nodeT):=((Zi6 a3 a2).bind fun r1=>((gd r1 (a3.un)).bind fun n3=>((gd r1 (Zcx n3.left)).bind fun r5=>((gd r1 (a3.un)).bind fun n7=>((gd r1 (Zcx n7.right)).bind fun r9=>(if (r1 && (decide ((IntKind.i64.wrap (r5 + (1:Int))) < (IntKind.i64.wrap ((2:Int) * (IntKind.i64.wrap (r9 + (1:Int)))))))) then ((a3.un).bind fun n12=>((Zd6 a0 a1 a2 n12.left).bind fun r14=>((Zd6 n12.key n12.rec_ r14 n12.right).bind fun r16=>(some r16)))) else ((Zi6 a3 a2).bind fun r18=>(if r18 then ((a3.un).bind fun n21=>((n21.left.un).bind fun n23=>((Zd6 a0 a1 a2 n23.left).bind fun r25=>((Zd6 n21.key n21.rec_ n23.right n21.right).bind fun r27=>((Zd6 n23.key n23.rec_ r25 r27).bind fun r29=>(some r29)))))) else ((Zi6 a2 a3).bind fun r31=>((gd r31 (a2.un)).bind fun n33=>((gd r31 (Zcx n33.right)).bind fun r35=>((gd r31 (a2.un)).bind fun n37=>((gd r31 (Zcx n37.left)).bind fun r39=>(if (r31 && (decide ((IntKind.i64.wrap (r35 + (1:Int))) < (IntKind.i64.wrap ((2:Int) * (IntKind.i64.wrap (r39 + (1:Int)))))))) then ((a2.un).bind fun n42=>((Zd6 a0 a1 n42.right a3).bind fun r44=>((Zd6 n42.key n42.rec_ n42.left r44).bind fun r46=>(some r46)))) else ((Zi6 a2 a3).bind fun r48=>(if r48 then ((a2.un).bind fun n51=>((n51.right.un).bind fun n53=>((Zd6 n51.key n51.rec_ n51.left n53.left).bind fun r55=>((Zd6 a0 a1 n53.right a3).bind fun r57=>((Zd6 n53.key n53.rec_ r55 r57).bind fun r59=>(some r59)))))) else ((Zd6 a0 a1 a2 a3).bind fun r61=>(some r61))))))))))))))))))
def Zjg (self:shelf_nodeT → ByteArray → Ze → Option (shelf_nodeT)) (a0:shelf_nodeT) (a1:ByteArray) (a2:Ze):Option (shelf_nodeT):=(if a0.isNil then ((Zd6 a1 a2 shelf_nodeT.nil shelf_nodeT.nil).bind fun r2=>(some r2)) else ((a0.un).bind fun n4=>(if (sLt a1 n4.key) then ((self n4.left a1 a2).bind fun r7=>((Zi4 n4.key n4.rec_ r7 n4.right).bind fun r9=>(some r9))) else (if (!(sLt a1 n4.key || sEq a1 n4.key)) then ((self n4.right a1 a2).bind fun r12=>((Zi4 n4.key n4.rec_ n4.left r12).bind fun r14=>(some r14))) else ((Zd6 a1 a2 n4.left n4.right).bind fun r16=>(some r16))))))
def Zf1:Nat → shelf_nodeT → ByteArray → Ze → Option (shelf_nodeT)
 | 0=>fun _ _ _=>none
 | n + 1=>Zjg (Zf1 n)
def Zn3 (a0:shelf_nodeT) (a1:ByteArray) (a2:Ze):Option (shelf_nodeT):=Zf1 (a0.hh + 1) a0 a1 a2
def Zc8 (a0:Zn) (a1:ByteArray) (a2:Ze):Option (Zn × Int):=(if ((sEq a1 (⟨#[]⟩:ByteArray)) || (decide ((24:Int) < (a1.size:Int)))) then (some (a0,(1:Int))) else ((Zet a2).bind fun r2=>(if (r2 != (0:Int)) then (some (a0,r2)) else ((Zei a0 a1).bind fun r5=>((gd (!r5.2) (Zfb a0)).bind fun r7=>(if ((!r5.2) && (decide (a0.room ≤ r7))) then (some (a0,(8:Int))) else ((Zev a2).bind fun r10=>((Zn3 a0.top a1 r10).bind fun r12=>(some (({ top:=r12,room:=a0.room }:Zn),(0:Int)))))))))))
def Zct (a0:List ByteArray) (a1:ByteArray):Nat → (Int) → Option ((Int) ⊕ (Unit))
 | 0,_=>none
 | n + 1,x1=>(if (decide (x1 < (a0.length:Int))) then ((idx a0 x1).bind fun e3=>(if (sEq a1 e3) then (some (.inl x1)) else ((Zct a0 a1 n) (IntKind.i64.wrap (x1 + (1:Int)))))) else (some (.inr ())))
def Zgt (a0:List ByteArray) (a1:ByteArray):Option (Int):=((Zct a0 a1 (Int.toNat ((a0.length:Int) - (0:Int)) + 1) (0:Int)).bind fun z6=>match z6 with | .inl r=>some r | .inr ()=>(some (-1:Int)))
def Zd0 (a0:List ByteArray) (a1:ByteArray):Option (Bool):=((Zgt a0 a1).bind fun r1=>(some (decide ((0:Int) ≤ r1))))
def Zfw:Nat → (shelf_nodeT) → Option (shelf_nodeT)
 | 0,_=>none
 | n + 1,x1=>((x1.un).bind fun n2=>(if (!n2.left.isNil) then ((Zfw n) n2.left) else (some x1)))
def Zje (a0:shelf_nodeT):Option (shelf_nodeT):=((Zfw (a0.hh + 1) a0).bind fun z6=>match z6 with | y5=>(some y5))
def Zky (self:shelf_nodeT → ByteArray → Option (shelf_nodeT)) (a0:shelf_nodeT) (a1:ByteArray):Option (shelf_nodeT):=(if a0.isNil then (some shelf_nodeT.nil) else ((a0.un).bind fun n2=>(if (sLt a1 n2.key) then ((self n2.left a1).bind fun r5=>((Zi4 n2.key n2.rec_ r5 n2.right).bind fun r7=>(some r7))) else (if (!(sLt a1 n2.key || sEq a1 n2.key)) then ((self n2.right a1).bind fun r10=>((Zi4 n2.key n2.rec_ n2.left r10).bind fun r12=>(some r12))) else (if n2.left.isNil then (some n2.right) else (if n2.right.isNil then (some n2.left) else ((Zje n2.right).bind fun r16=>((r16.un).bind fun n18=>((self n2.right n18.key).bind fun r20=>((Zi4 n18.key n18.rec_ n2.left r20).bind fun r22=>(some r22)))))))))))
def Zgx:Nat → shelf_nodeT → ByteArray → Option (shelf_nodeT)
 | 0=>fun _ _=>none
 | n + 1=>Zky (Zgx n)
def Znt (a0:shelf_nodeT) (a1:ByteArray):Option (shelf_nodeT):=Zgx (a0.hh + 1) a0 a1
def Zef (a0:Zn) (a1:ByteArray):Option (Zn × Bool):=((Zei a0 a1).bind fun r1=>(if (!r1.2) then (some (a0,false)) else ((Znt a0.top a1).bind fun r4=>(some (({ top:=r4,room:=a0.room }:Zn),true)))))
def Zho (x35:Int) (kk:(Zn) → (Int) → Option (Zn)) (j44:Zn):Option (Zn):=(kk j44 (IntKind.i64.wrap (x35 + (1:Int))))
def Zdt (a0:Z3) (y19:List ByteArray):Nat → (Zn) → (Int) → Option (Zn)
 | 0,_,_=>none
 | n + 1,x34,x35=>(if (decide (x35 < (y19.length:Int))) then ((idx y19 x35).bind fun e37=>((Zei a0.now e37).bind fun r39=>(if r39.2 then ((Zc8 x34 e37 r39.1).bind fun r42=>(Zho x35 (Zdt a0 y19 n) r42.1)) else (Zho x35 (Zdt a0 y19 n) x34)))) else (some x34))
def Zhm (x22:Int) (kk:(Zn) → (Int) → Option (Zn)) (j31:Zn):Option (Zn):=(kk j31 (IntKind.i64.wrap (x22 + (1:Int))))
def Zdv (a0:Z3) (y19:List ByteArray):Nat → (Zn) → (Int) → Option (Zn)
 | 0,_,_=>none
 | n + 1,x21,x22=>(if (decide (x22 < (y19.length:Int))) then ((idx y19 x22).bind fun e24=>((Zei a0.now e24).bind fun r26=>(if (!r26.2) then ((Zef x21 e24).bind fun r29=>(Zhm x22 (Zdv a0 y19 n) r29.1)) else (Zhm x22 (Zdv a0 y19 n) x21)))) else (some x21))
def Zgn (x4:Int) (kk:(List Zu) → (List ByteArray) → (Int) → Option ((List Zu) × (List ByteArray))) (j16:List Zu) (j17:List ByteArray):Option ((List Zu) × (List ByteArray)):=(kk j16 j17 (IntKind.i64.wrap (x4 + (1:Int))))
def Zde (a0:Z3):Nat → (List Zu) → (List ByteArray) → (Int) → Option ((List Zu) × (List ByteArray))
 | 0,_,_,_=>none
 | n + 1,x2,x3,x4=>(if (decide (x4 < (a0.d.Acts.length:Int))) then ((idx a0.d.Acts x4).bind fun e6=>((Zd0 a0.split e6.Key).bind fun r8=>(if r8 then (if (x2.length + ([e6]:List Zu).length) * 152 ≤ 140737488355328 then (Zgn x4 (Zde a0 n) (x2 ++ ([e6]:List Zu)) x3) else none) else ((Zl1 e6.Kind).bind fun r12=>(if (!r12) then (if (x3.length + ([e6.Key]:List ByteArray).length) * 16 ≤ 140737488355328 then (Zgn x4 (Zde a0 n) x2 (x3 ++ ([e6.Key]:List ByteArray))) else none) else (Zgn x4 (Zde a0 n) x2 x3)))))) else (some (x2,x3)))
def Zd2 (a0:Z3) (a1:Zn):Option (Zn × (List Zu)):=(if ((!a0.over) || (a0.out.Code != (0:Int))) then (some (a1,([]:List Zu))) else ((Zde a0 (Int.toNat ((a0.d.Acts.length:Int) - (0:Int)) + 1) ([]:List Zu) ([]:List ByteArray) (0:Int)).bind fun z20=>match z20 with | (y18,y19)=>((Zdv a0 y19 (Int.toNat ((y19.length:Int) - (0:Int)) + 1) a1 (0:Int)).bind fun z33=>match z33 with | y32=>((Zdt a0 y19 (Int.toNat ((y19.length:Int) - (0:Int)) + 1) y32 (0:Int)).bind fun z46=>match z46 with | y45=>((Zl8 ({ Acts:=y18 }:Zbm)).bind fun r47=>(some (y45,r47.Acts)))))))
def Zfn (a0:Z3):Option (Bool):=(some a0.over)
def Zio (x2:Ze) (kk:(Int) → (Ze) → (shelf_nodeT) → Option ((ByteArray × Ze × Bool) ⊕ (Ze))) (j13:Int) (j14:shelf_nodeT):Option ((ByteArray × Ze × Bool) ⊕ (Ze)):=(kk j13 x2 j14)
def Zd8:Nat → (Int) → (Ze) → (shelf_nodeT) → Option ((ByteArray × Ze × Bool) ⊕ (Ze))
 | 0,_,_,_=>none
 | n + 1,x1,x2,x3=>(if (!x3.isNil) then ((x3.un).bind fun n5=>((Zcx n5.left).bind fun r7=>(if (decide (x1 < r7)) then (Zio x2 (Zd8 n) x1 n5.left) else (if (decide (r7 < x1)) then (Zio x2 (Zd8 n) (IntKind.i64.wrap (x1 - (IntKind.i64.wrap (r7 + (1:Int))))) n5.right) else ((Zev n5.rec_).bind fun r11=>(some (.inl (n5.key,r11,true)))))))) else (some (.inr x2)))
def Zhy (a0:Zn) (a1:Int):Option (ByteArray × Ze × Bool):=((Zd8 (a0.top.hh + 1) a1 (default:Ze) a0.top).bind fun z16=>match z16 with | .inl r=>some r | .inr y15=>(some ((⟨#[]⟩:ByteArray),({ Kind:=(0:Int),Num:=(0:Int),Low:=(0:Int),High:=(0:Int),Real:=(0:Nat),Cap:=(0:Int),Text:=ByteArray.empty,List:=([]:List Zl) }:Ze),false)))
def Zhj (a0:Zn) (a1:Zn) (r6:Int):Nat → (Int) → Option ((Bool) ⊕ (Unit))
 | 0,_=>none
 | n + 1,x8=>(if (decide (x8 < r6)) then ((Zhy a0 x8).bind fun r10=>((Zhy a1 x8).bind fun r12=>((gd (!(!sEq r10.1 r12.1)) (Zn6 r10.2.1 r12.2.1)).bind fun r14=>(if ((!sEq r10.1 r12.1) || (!r14)) then (some (.inl false)) else ((Zhj a0 a1 r6 n) (IntKind.i64.wrap (x8 + (1:Int)))))))) else (some (.inr ())))
def Zk5 (a0:Zn) (a1:Zn):Option (Bool):=((Zfb a0).bind fun r1=>((Zfb a1).bind fun r3=>(if (r1 != r3) then (some false) else ((Zfb a0).bind fun r6=>((Zhj a0 a1 r6 (Int.toNat (r6 - (0:Int)) + 1) (0:Int)).bind fun z17=>match z17 with | .inl r=>some r | .inr ()=>(some true))))))
def Zml (a0:Int):Option (Int):=((Zpp a0).bind fun r1=>(some r1.on))
def Zko (a0:Ze) (a1:Zu) (a2:Zg):Option (Int × Ze × Zg):=(some ((0:Int),({ a0 with Text:=a1.S }),a2))
def Zhx (a0:Ze) (a1:Zu) (a2:Zg):Option (Int × Ze × Zg):=((Zev a0).bind fun r1=>(some ((0:Int),({ a0 with Text:=a1.S }),({ a2 with Rec:=r1 }))))
def Zkk (a0:Ze) (a1:Zu) (a2:Zg):Option (Int × Ze × Zg):=(some ((0:Int),({ a0 with Num:=(IntKind.i64.wrap (a0.Num + a1.N)) }),a2))
def Zlp (a0:Ze) (a1:Zu) (a2:Zg):Option (Int × Ze × Zg):=(if (((decide ((0:Int) < a1.N)) && (decide ((IntKind.i64.wrap ((9223372036854775807:Int) - a1.N)) < a0.Num))) || ((decide (a1.N < (0:Int))) && (decide (a0.Num < (IntKind.i64.wrap ((-9223372036854775808:Int) - a1.N)))))) then (some ((9:Int),a0,a2)) else (some ((0:Int),({ a0 with Num:=(IntKind.i64.wrap (a0.Num + a1.N)) }),a2)))
def Zem (a0:Ze) (a1:Zu) (a2:Zg):Option (Int × Ze × Zg):=(if (decide (a0.Num < a1.N)) then (some ((11:Int),a0,a2)) else (some ((0:Int),a0,a2)))
def Zhs (a0:Ze) (a1:Zu) (a2:Zg):Option (Int × Ze × Zg):=(if (decide ((IntKind.i64.wrap (a0.High - a0.Num)) < a1.N)) then (some ((9:Int),a0,a2)) else (some ((0:Int),({ a0 with Num:=(IntKind.i64.wrap (a0.Num + a1.N)) }),a2)))
def Zhw (a0:Ze) (a1:Zu) (a2:Zg):Option (Int × Ze × Zg):=(if (decide ((IntKind.i64.wrap (a0.Num - a0.Low)) < a1.N)) then (some ((10:Int),a0,a2)) else (some ((0:Int),({ a0 with Num:=(IntKind.i64.wrap (a0.Num - a1.N)) }),a2)))
def Zfa (ψ:Nat → Nat → Option Nat) (a0:Ze) (a1:Zu) (a2:Zg):Option (Int × Ze × Zg):=(ψ a0.Real a1.X).bind fun z=>some ((0:Int),{ a0 with Real:=z },a2)
def Zl7 (a0:Nat) (a1:Nat):Option (Nat):=((Zmp a0 a1).bind fun r1=>(if r1 then ((Zgk a1).bind fun r4=>(some r4)) else ((Zgk a0).bind fun r6=>(some r6))))
def Zl4 (a0:Nat) (a1:Nat):Option (Nat):=((Zmp a1 a0).bind fun r1=>(if r1 then ((Zgk a1).bind fun r4=>(some r4)) else ((Zgk a0).bind fun r6=>(some r6))))
def Zja (a0:Nat) (a1:Nat):Option (Nat):=((Zgk (fadd a0 a1)).bind fun r1=>(some r1))
def Zh9 (a0:Nat) (a1:Nat):Option (Nat):=((Zgk (fmul a0 a1)).bind fun r1=>(some r1))
def Zhv (a0:Nat) (a1:Nat):Option (Nat):=(some a1)
def Zco (kk:(Int) → (Int) → Option (Int)) (j9:Int) (j10:Int):Option (Int):=(kk j9 j10)
def Zbt (a0:List Zl) (a1:ByteArray) (φ2:Zl → ByteArray → Option Int):Nat → (Int) → (Int) → Option (Int)
 | 0,_,_=>none
 | n + 1,x1,x2=>(if (decide (x1 < x2)) then ((idx a0 (IntKind.i64.wrap (Int.fdiv (IntKind.u64.wrap (IntKind.i64.wrap (x1 + x2))) (2 ^ 1)))).bind fun e4=>((φ2 e4 a1).bind fun r6=>(if (decide (r6 < (0:Int))) then (Zco (Zbt a0 a1 φ2 n) (IntKind.i64.wrap ((IntKind.i64.wrap (Int.fdiv (IntKind.u64.wrap (IntKind.i64.wrap (x1 + x2))) (2 ^ 1))) + (1:Int))) x2) else (Zco (Zbt a0 a1 φ2 n) x1 (IntKind.i64.wrap (Int.fdiv (IntKind.u64.wrap (IntKind.i64.wrap (x1 + x2))) (2 ^ 1))))))) else (some x1))
def Zc5 (a0:List Zl) (a1:ByteArray) (φ2:Zl → ByteArray → Option Int):Option (Int × Bool):=((Zbt a0 a1 φ2 (Int.toNat ((a0.length:Int) - (0:Int)) + 1) (0:Int) (a0.length:Int)).bind fun z12=>match z12 with | y11=>((gd (decide (y11 < (a0.length:Int))) (idx a0 y11)).bind fun e13=>((gd (decide (y11 < (a0.length:Int))) (φ2 e13 a1)).bind fun r15=>(some (y11,((decide (y11 < (a0.length:Int))) && (r15 == (0:Int))))))))
def Zkd (a0:Zl) (a1:ByteArray):Option (Int):=(if (sLt a0.Name a1) then (some (-1:Int)) else (if (!(sLt a0.Name a1 || sEq a0.Name a1)) then (some (1:Int)) else (some (0:Int))))
def Zlu (a0:List Zl) (a1:ByteArray):Option (Int × Bool):=((Zc5 a0 a1 (fun y0 y1=>Zkd y0 y1)).bind fun r1=>(some (r1.1,r1.2)))
def Zcm (a0:List Zl) (a1:Int) (a2:List Zl):Option (List Zl):=if 0 ≤ a1 ∧ a1 ≤ a0.length ∧ 0 < a2.length ∧ (a0.length + a2.length) * 24 ≤ 140737488355328 then some (a0.take a1.toNat ++ a2 ++ a0.drop a1.toNat) else none
def Zlo (a0:Ze) (a1:Zu) (a2:Zg):Option (Int × Ze × Zg):=((Zlu a0.List a1.S).bind fun r1=>(if r1.2 then (some ((0:Int),a0,a2)) else (if (decide (a0.Cap ≤ (a0.List.length:Int))) then (some ((8:Int),a0,a2)) else ((Zby a0.List).bind fun r5=>((Zcm r5 r1.1 ([({ Score:=(0:Nat),Name:=a1.S }:Zl)]:List Zl)).bind fun r7=>(some ((0:Int),({ a0 with List:=r7 }),a2)))))))
def Zfl (a0:List Zl) (a1 a2:Int):Option (List Zl):=if 0 < a0.length ∧ 0 ≤ a1 ∧ a1 ≤ a2 ∧ a2 ≤ a0.length ∧ a0.length ≤ 140737488355328 then some (a0.take a1.toNat ++ a0.drop a2.toNat) else none
def Zkg (a2:Zg) (j8:Ze):Option (Int × Ze × Zg):=(some ((0:Int),j8,a2))
def Zkl (a0:Ze) (a1:Zu) (a2:Zg):Option (Int × Ze × Zg):=((Zlu a0.List a1.S).bind fun r1=>(if r1.2 then ((Zby a0.List).bind fun r4=>((Zfl r4 r1.1 (IntKind.i64.wrap (r1.1 + (1:Int)))).bind fun r6=>(Zkg a2 ({ a0 with List:=r6 })))) else (Zkg a2 a0)))
def Zf6 (a0:Ze) (a1:Zu) (a2:Zg):Option (Int × Ze × Zg):=((Zlu a0.List a1.S).bind fun r1=>(if (!r1.2) then (some ((11:Int),a0,a2)) else (some ((0:Int),a0,a2))))
def Zgu (a0:Ze) (a1:Zu):Nat → (Int) → Option (Int)
 | 0,_=>none
 | n + 1,x1=>((gd (decide (x1 < (a0.List.length:Int))) (idx a0.List x1)).bind fun e2=>((gd (decide (x1 < (a0.List.length:Int))) (Zk0 e2 ({ Score:=a1.X,Name:=a1.S }:Zl))).bind fun r4=>(if ((decide (x1 < (a0.List.length:Int))) && r4) then ((Zgu a0 a1 n) (IntKind.i64.wrap (x1 + (1:Int)))) else (some x1))))
def Zk3 (a0:Ze) (a1:Zu) (a2:Zg):Option (Int × Ze × Zg):=((Zgu a0 a1 (Int.toNat ((a0.List.length:Int) - (0:Int)) + 1) (0:Int)).bind fun z8=>match z8 with | y7=>((gd (decide (y7 < (a0.List.length:Int))) (idx a0.List y7)).bind fun e9=>((gd (decide (y7 < (a0.List.length:Int))) (Zk0 ({ Score:=a1.X,Name:=a1.S }:Zl) e9)).bind fun r11=>(if ((decide (y7 < (a0.List.length:Int))) && (!r11)) then (some ((0:Int),a0,a2)) else ((Zby a0.List).bind fun r14=>((Zcm r14 y7 ([({ Score:=a1.X,Name:=a1.S }:Zl)]:List Zl)).bind fun r16=>((cut r16 (0:Int) (min (r16.length:Int) a0.Cap)).bind fun c18=>(some ((0:Int),({ a0 with List:=c18 }),a2)))))))))
def Zbk (k:Int) (a0:Ze) (a1:Zu) (a2:Zg):Option (Int × Ze × Zg):=if k=5 then Zko a0 a1 a2 else if k=6 then Zhx a0 a1 a2 else if k=7 then Zkk a0 a1 a2 else if k=8 then Zlp a0 a1 a2 else if k=9 then Zem a0 a1 a2 else if k=10 then Zhs a0 a1 a2 else if k=11 then Zhw a0 a1 a2 else if k=12 then Zem a0 a1 a2 else if k=13 then Zfa (fun x y=>Zl7 x y) a0 a1 a2 else if k=14 then Zfa (fun x y=>Zl4 x y) a0 a1 a2 else if k=15 then Zfa (fun x y=>Zja x y) a0 a1 a2 else if k=16 then Zfa (fun x y=>Zh9 x y) a0 a1 a2 else if k=17 then Zfa (fun x y=>Zhv x y) a0 a1 a2 else if k=18 then Zlo a0 a1 a2 else if k=19 then Zkl a0 a1 a2 else if k=20 then Zf6 a0 a1 a2 else if k=21 then Zk3 a0 a1 a2 else none
def Zhb (a0:Int) (a1:Ze) (a2:Bool):Option (Ze × Bool × Zg × Ze):=(some (a1,a2,({ Code:=a0,Num:=(0:Int),Rec:=(default:Ze) }:Zg),a1))
def Zhh (a1:Bool) (a2:Zu) (r3:Ze):Option (Ze × Bool × Zg):=(if ((a2.Kind == (1:Int)) && a1) then ((Zhb (7:Int) r3 a1).bind fun r17=>(some (r17.1,r17.2.1,r17.2.2.1))) else (if (a2.Kind == (1:Int)) then ((Zev a2.Make).bind fun r20=>(some (r20,true,({ Code:=(0:Int),Num:=(0:Int),Rec:=(default:Ze) }:Zg)))) else (if (a2.Kind == (3:Int)) then (some (r3,a1,({ Code:=(0:Int),Num:=r3.Kind,Rec:=(default:Ze) }:Zg))) else (if (!a1) then ((Zhb (6:Int) r3 a1).bind fun r24=>(some (r24.1,r24.2.1,r24.2.2.1))) else (if (a2.Kind == (2:Int)) then (some (({ Kind:=(0:Int),Num:=(0:Int),Low:=(0:Int),High:=(0:Int),Real:=(0:Nat),Cap:=(0:Int),Text:=ByteArray.empty,List:=([]:List Zl) }:Ze),false,({ Code:=(0:Int),Num:=(0:Int),Rec:=(default:Ze) }:Zg))) else (if (a2.Kind == (4:Int)) then ((Zev r3).bind fun r28=>(some (r3,a1,({ Code:=(0:Int),Num:=(0:Int),Rec:=r28 }:Zg)))) else ((Zml a2.Kind).bind fun r30=>(if (r30 != r3.Kind) then ((Zhb (5:Int) r3 a1).bind fun r33=>(some (r33.1,r33.2.1,r33.2.2.1))) else ((Zev r3).bind fun r35=>(if (5 ≤ a2.Kind ∧ a2.Kind ≤ 21) then ((Zbk a2.Kind r3 a2 (default:Zg)).bind fun r38=>(if (r38.1 != (0:Int)) then (some (r35,a1,({ Code:=r38.1,Num:=(0:Int),Rec:=(default:Ze) }:Zg))) else (some (r38.2.1,a1,r38.2.2)))) else none))))))))))
def Zhk (a1:Bool) (a2:Zu) (j2:Ze):Option (Ze × Bool × Zg):=((Zev j2).bind fun r3=>((Zgy a2).bind fun r5=>(if (r5 != (0:Int)) then ((Zhb r5 r3 a1).bind fun r8=>(some (r8.1,r8.2.1,r8.2.2.1))) else (if a1 then ((Zet r3).bind fun r11=>(if (r11 != (0:Int)) then ((Zhb r11 r3 a1).bind fun r14=>(some (r14.1,r14.2.1,r14.2.2.1))) else (Zhh a1 a2 r3))) else (Zhh a1 a2 r3)))))
def Zh3 (a0:Ze) (a1:Bool) (a2:Zu):Option (Ze × Bool × Zg):=(if (!a1) then (Zhk a1 a2 ({ Kind:=(0:Int),Num:=(0:Int),Low:=(0:Int),High:=(0:Int),Real:=(0:Nat),Cap:=(0:Int),Text:=ByteArray.empty,List:=([]:List Zl) }:Ze)) else (Zhk a1 a2 a0))
def Zms (a0:Zn) (a1:Zu):Option (Zn × Zg):=((Zei a0 a1.Key).bind fun r1=>((Zh3 r1.1 r1.2 a1).bind fun r3=>((gd (!(r3.2.2.Code != (0:Int))) (Zl1 a1.Kind)).bind fun r5=>(if ((r3.2.2.Code != (0:Int)) || r5) then (some (a0,r3.2.2)) else (if (!r3.2.1) then ((Zef a0 a1.Key).bind fun r9=>(some (r9.1,r3.2.2))) else ((Zc8 a0 a1.Key r3.1).bind fun r11=>(if (r11.2 != (0:Int)) then (some (a0,({ Code:=r11.2,Num:=(0:Int),Rec:=(default:Ze) }:Zg))) else (some (r11.1,r3.2.2)))))))))
def Zhd (a0:Z3) (e2:Zu) (j9:Zg) (j10:Z3):Option (Bool × Z3):=(if (e2.Must && (j9.Code != (0:Int))) then (some (true,({ ({ j10 with out:=({ Code:=j9.Code,At:=(IntKind.i64.wrap ((a0.out.Answers.length:Int) + (1:Int))),Answers:=([]:List Zg) }:Z1) }:Z3) with over:=true }:Z3))) else (if (j10.out.Answers.length + ([j9]:List Zg).length) * 104 ≤ 140737488355328 then (some (true,({ ({ j10 with out:={ j10.out with Answers:=(j10.out.Answers ++ ([j9]:List Zg)) } }:Z3) with over:=((IntKind.i64.wrap ((a0.out.Answers.length:Int) + (1:Int))) == (((({ j10 with out:={ j10.out with Answers:=(j10.out.Answers ++ ([j9]:List Zg)) } }:Z3).d).Acts).length:Int)) }:Z3))) else none))
def Zji (a0:Z3):Option (Bool × Z3):=(if a0.over then (some (false,a0)) else ((idx a0.d.Acts (a0.out.Answers.length:Int)).bind fun e2=>((Zd0 a0.split e2.Key).bind fun r4=>(if (!r4) then ((Zms a0.now e2).bind fun r7=>(Zhd a0 e2 r7.2 ({ a0 with now:=r7.1 }:Z3))) else (Zhd a0 e2 (default:Zg) a0)))))
def Zfm (a0:Z3):Option (Z3 × Bool):=(Zji a0).bind fun r=>some (r.2,r.1)
def Zor (a0:Int):Option (Zn × Int):=(if ((decide (a0 < (1:Int))) || (decide ((4096:Int) < a0))) then (some (({ top:=shelf_nodeT.nil,room:=(0:Int) }:Zn),(1:Int))) else (some (({ top:=shelf_nodeT.nil,room:=a0 }:Zn),(0:Int))))
def Zj5:Option (Bool):=((Zor (2:Int)).bind fun r1=>((Zc8 r1.1 (⟨#[97]⟩:ByteArray) ({ Kind:=(2:Int),Num:=(3:Int),Low:=(0:Int),High:=(0:Int),Real:=(0:Nat),Cap:=(0:Int),Text:=ByteArray.empty,List:=([]:List Zl) }:Ze)).bind fun r3=>((Zmr ({ Acts:=([({ Kind:=(7:Int),Key:=(⟨#[97]⟩:ByteArray),N:=(1:Int),X:=(0:Nat),S:=ByteArray.empty,Make:=(default:Ze),Must:=false }:Zu)]:List Zu) }:Zbm) r3.1 ([]:List ByteArray)).bind fun r5=>((Zmr ({ Acts:=([({ Kind:=(7:Int),Key:=(⟨#[97]⟩:ByteArray),N:=(1:Int),X:=(0:Nat),S:=ByteArray.empty,Make:=(default:Ze),Must:=false }:Zu)]:List Zu) }:Zbm) r3.1 ([(⟨#[97]⟩:ByteArray)]:List ByteArray)).bind fun r7=>((gd (!(false || false)) (Zfn r5)).bind fun r9=>((gd (!((false || false) || r9)) (Zfm r5)).bind fun r11=>((gd (!(((false || false) || r9) || (!r11.2))) (Zfm (if (!((false || false) || r9))=true then r11.1 else r5))).bind fun r13=>((gd (!((((false || false) || r9) || (!r11.2)) || r13.2)) (Zfn (if (!(((false || false) || r9) || (!r11.2)))=true then r13.1 else (if (!((false || false) || r9))=true then r11.1 else r5)))).bind fun r15=>((gd (!(((((false || false) || r9) || (!r11.2)) || r13.2) || (!r15))) (Zfm r7)).bind fun r17=>(if ((((((false || false) || r9) || (!r11.2)) || r13.2) || (!r15)) || (!r17.2)) then (some false) else ((Zd2 (if (!(((false || false) || r9) || (!r11.2)))=true then r13.1 else (if (!((false || false) || r9))=true then r11.1 else r5)) r3.1).bind fun r20=>((Zd2 (if (!(((((false || false) || r9) || (!r11.2)) || r13.2) || (!r15)))=true then r17.1 else r7) r3.1).bind fun r22=>((Zei r20.1 (⟨#[97]⟩:ByteArray)).bind fun r24=>((Zfj (if (!(((((false || false) || r9) || (!r11.2)) || r13.2) || (!r15)))=true then r17.1 else r7)).bind fun r26=>((gd (((r20.2.length:Int) == (0:Int)) && (r24.1.Num == (4:Int))) (Zk5 r3.1 r22.1)).bind fun r28=>(some (((((((r20.2.length:Int) == (0:Int)) && (r24.1.Num == (4:Int))) && r28) && ((r22.2.length:Int) == (1:Int))) && r26.2) && ((r26.1.Answers.length:Int) == (1:Int)))))))))))))))))))
def Zfc (a0:Ze):Nat → (Int) → Option ((Int) ⊕ (Unit))
 | 0,_=>none
 | n + 1,x2=>(if (decide (x2 < (a0.List.length:Int))) then ((idx a0.List x2).bind fun e4=>(if (decide ((100:Int) < (e4.Name.size:Int))) then (some (.inl (1:Int))) else ((Zfc a0 n) (IntKind.i64.wrap (x2 + (1:Int)))))) else (some (.inr ())))
def Zie (a0:Ze):Option (Int):=(if ((decide ((100:Int) < (a0.List.length:Int))) || (decide ((1000:Int) < (a0.Text.size:Int)))) then (some (1:Int)) else ((Zfc a0 (Int.toNat ((a0.List.length:Int) - (0:Int)) + 1) (0:Int)).bind fun z7=>match z7 with | .inl r=>some r | .inr ()=>(some (0:Int))))
def Zer (a0:Nat):Option (Bool):=(some (fneq a0 a0))
def Zf4 (a0:Nat):Option (Bool):=((Zer a0).bind fun r1=>(some ((!r1) || ((a0:Int) == (9221120237041090561:Int)))))
def Zhf (a0:Nat):Option (Bool):=(if (feql a0 (0:Nat)) then ((Ieee.double.div (4607182418800017408:Nat) a0).bind fun f2=>(some (flss f2 (0:Nat)))) else (some (flss a0 (0:Nat))))
def Zfk (a0:Nat) (a1:Nat):Option (Bool):=((Zer a0).bind fun r1=>(if r1 then (some false) else ((Zer a1).bind fun r4=>(if r4 then (some true) else (if ((feql a0 (0:Nat)) && (feql a1 (0:Nat))) then ((Zhf a0).bind fun r8=>((gd r8 (Zhf a1)).bind fun r10=>(some (r8 && (!r10))))) else (some (flss a0 a1)))))))
def Zd3 (a0:Nat) (a1:Nat):Option (Bool):=((Zfk a0 a1).bind fun r1=>((gd (!r1) (Zfk a1 a0)).bind fun r3=>(some ((!r1) && (!r3)))))
def Zhu (a0:Nat):Option (Bool):=((Zd3 a0 (0:Nat)).bind fun r1=>(some r1))
def Zc4 (a1:ByteArray):Nat → (Bool) → (Bool) → (Bool) → (Bool) → (Bool) → (Int) → Option (Bool × Bool × Bool × Bool × Bool)
 | 0,_,_,_,_,_,_=>none
 | n + 1,x1,x2,x3,x4,x5,x6=>(if (decide (x6 < (a1.size:Int))) then ((gd (!x1) (sidx a1 x6)).bind fun b8=>((gd (!x2) (sidx a1 x6)).bind fun b10=>((gd (!x3) (sidx a1 x6)).bind fun b12=>((gd (!x4) (sidx a1 x6)).bind fun b14=>((gd (!x5) (sidx a1 x6)).bind fun b16=>((Zc4 a1 n) (x1 || (b8 == (116:Int))) (x2 || (b10 == (110:Int))) (x3 || (b12 == (98:Int))) (x4 || (b14 == (114:Int))) (x5 || (b16 == (108:Int))) (IntKind.i64.wrap (x6 + (1:Int))))))))) else (some (x1,x2,x3,x4,x5)))
def Zjh (a0:Ze) (a1:ByteArray):Option (Bool):=((Zc4 a1 (Int.toNat ((a1.size:Int) - (0:Int)) + 1) false false false false false (0:Int)).bind fun z23=>match z23 with | (y18,y19,y20,y21,y22)=>(if (((((!y18) && (!sEq a0.Text (⟨#[]⟩:ByteArray))) || ((!y19) && (a0.Num != (0:Int)))) || ((!y20) && (a0.Low != (0:Int)))) || ((!y20) && (a0.High != (0:Int)))) then (some false) else ((gd (!y21) (Zhu a0.Real)).bind fun r25=>(some ((y21 || r25) && (y22 || ((a0.Cap == (0:Int)) && ((a0.List.length:Int) == (0:Int)))))))))
def Zjq (a0:Int):Option (ByteArray):=(if ((decide (a0 < (1:Int))) || (decide ((9:Int) < a0))) then (some (⟨#[]⟩:ByteArray)) else ((idx ([(⟨#[]⟩:ByteArray),(⟨#[116]⟩:ByteArray),(⟨#[110]⟩:ByteArray),(⟨#[110]⟩:ByteArray),(⟨#[110,98]⟩:ByteArray),(⟨#[114]⟩:ByteArray),(⟨#[114]⟩:ByteArray),(⟨#[114]⟩:ByteArray),(⟨#[108]⟩:ByteArray),(⟨#[108]⟩:ByteArray)]:List ByteArray) a0).bind fun e2=>(some e2)))
def Zgf (a0:Zl) (a1:Zl):Option (Bool):=((Zfk a1.Score a0.Score).bind fun r1=>(if r1 then (some true) else ((Zd3 a0.Score a1.Score).bind fun r4=>(some (r4 && (sLt a0.Name a1.Name))))))
def Zjd (a0:Int) (a1:List Zl) (a2:Int):Option (Int):=((idx a1 a2).bind fun e1=>(if (decide ((16:Int) < (e1.Name.size:Int))) then (some (3:Int)) else ((gd (a0 == (8:Int)) (Zhu e1.Score)).bind fun r4=>((gd (!((a0 == (8:Int)) && (!r4))) (Zf4 e1.Score)).bind fun r6=>(if (((a0 == (8:Int)) && (!r4)) || (!r6)) then (some (4:Int)) else ((gd ((decide ((0:Int) < a2)) && (a0 == (8:Int))) (idx a1 (IntKind.i64.wrap (a2 - (1:Int))))).bind fun e9=>(if (((decide ((0:Int) < a2)) && (a0 == (8:Int))) && (!(sLt e9.Name e1.Name))) then (some (4:Int)) else ((gd ((decide ((0:Int) < a2)) && (a0 == (9:Int))) (idx a1 (IntKind.i64.wrap (a2 - (1:Int))))).bind fun e12=>((gd ((decide ((0:Int) < a2)) && (a0 == (9:Int))) (Zgf e12 e1)).bind fun r14=>(if (((decide ((0:Int) < a2)) && (a0 == (9:Int))) && (!r14)) then (some (4:Int)) else (some (0:Int))))))))))))
def Zeh (a0:Ze):Nat → (Int) → Option ((Int) ⊕ (Unit))
 | 0,_=>none
 | n + 1,x15=>(if (decide (x15 < (a0.List.length:Int))) then ((Zjd a0.Kind a0.List x15).bind fun r17=>(if (r17 != (0:Int)) then (some (.inl r17)) else ((Zeh a0 n) (IntKind.i64.wrap (x15 + (1:Int)))))) else (some (.inr ())))
def Zdy (a0:Ze):Option (Int):=(if ((decide (a0.Kind < (1:Int))) || (decide ((9:Int) < a0.Kind))) then (some (5:Int)) else ((Zjq a0.Kind).bind fun r2=>((Zjh a0 r2).bind fun r4=>(if (!r4) then (some (4:Int)) else (if ((a0.Kind == (1:Int)) && (decide ((64:Int) < (a0.Text.size:Int)))) then (some (3:Int)) else (if ((a0.Kind == (4:Int)) && ((((decide (a0.Low < (IntKind.i64.wrap (0 - (2305843009213693952:Int))))) || (decide ((2305843009213693952:Int) < a0.High))) || (decide (a0.Num < a0.Low))) || (decide (a0.High < a0.Num)))) then (some (1:Int)) else ((Zf4 a0.Real).bind fun r9=>(if (!r9) then (some (4:Int)) else (if (decide (a0.Kind < (8:Int))) then (some (0:Int)) else (if ((decide (a0.Cap < (1:Int))) || (decide ((32:Int) < a0.Cap))) then (some (1:Int)) else (if (decide (a0.Cap < (a0.List.length:Int))) then (some (8:Int)) else ((Zeh a0 (Int.toNat ((a0.List.length:Int) - (0:Int)) + 1) (0:Int)).bind fun z20=>match z20 with | .inl r=>some r | .inr ()=>(some (0:Int))))))))))))))
def Zdf (a0:Zj) (a1:ByteArray):Nat → (Int) → Option (Int)
 | 0,_=>none
 | n + 1,x1=>((gd (decide (x1 < (a0.L.length:Int))) (idx a0.L x1)).bind fun e2=>(if ((decide (x1 < (a0.L.length:Int))) && (sLt e2.Key a1)) then ((Zdf a0 a1 n) (IntKind.i64.wrap (x1 + (1:Int)))) else (some x1)))
def Zeq (a0:Zj) (a1:ByteArray):Option (Int):=((Zdf a0 a1 (Int.toNat ((a0.L.length:Int) - (0:Int)) + 1) (0:Int)).bind fun z6=>match z6 with | y5=>(some y5))
def Ze7 (a0:Zj) (a1:ByteArray) (a2:Ze) (c10:List Zbd) (j15:Int):Option (Zj × Int):=((cut a0.L j15 (a0.L.length:Int)).bind fun c16=>(if (((([]:List Zbd) ++ c10) ++ ([({ Key:=a1,Rec:=a2 }:Zbd)]:List Zbd)).length + c16.length) * 104 ≤ 140737488355328 then (some (({ L:=(((([]:List Zbd) ++ c10) ++ ([({ Key:=a1,Rec:=a2 }:Zbd)]:List Zbd)) ++ c16),Room:=a0.Room }:Zj),(0:Int))) else none))
def Ze8 (a0:Zj) (a1:ByteArray) (a2:Ze):Option (Zj × Int):=(if ((decide ((a1.size:Int) < (1:Int))) || (decide ((24:Int) < (a1.size:Int)))) then (some (a0,(1:Int))) else ((Zdy a2).bind fun r2=>(if (r2 != (0:Int)) then (some (a0,r2)) else ((Zeq a0 a1).bind fun r5=>((gd (decide (r5 < (a0.L.length:Int))) (idx a0.L r5)).bind fun e7=>(if ((!((decide (r5 < (a0.L.length:Int))) && (sEq e7.Key a1))) && (decide (a0.Room ≤ (a0.L.length:Int)))) then (some (a0,(8:Int))) else ((cut a0.L (0:Int) r5).bind fun c10=>(if (([]:List Zbd).length + c10.length) * 104 ≤ 140737488355328 then (if ((([]:List Zbd) ++ c10).length + ([({ Key:=a1,Rec:=a2 }:Zbd)]:List Zbd).length) * 104 ≤ 140737488355328 then (if ((decide (r5 < (a0.L.length:Int))) && (sEq e7.Key a1)) then (Ze7 a0 a1 a2 c10 (IntKind.i64.wrap (r5 + (1:Int)))) else (Ze7 a0 a1 a2 c10 r5)) else none) else none))))))))
def Zd1 (a1:List Zbd):Nat → (Zn) → (Zn) → (Zj) → (Int) → Option ((Zn × (Option Zj)) ⊕ (Zn × Zn × Zj))
 | 0,_,_,_,_=>none
 | n + 1,x4,x5,x6,x7=>(if (decide (x7 < (a1.length:Int))) then ((idx a1 x7).bind fun e9=>((gd (!(decide ((100:Int) < (e9.Key.size:Int)))) (Zie e9.Rec)).bind fun r11=>(if ((decide ((100:Int) < (e9.Key.size:Int))) || (decide ((0:Int) < r11))) then (some (.inl (x5,(none:Option Zj)))) else ((Zc8 x5 e9.Key e9.Rec).bind fun r14=>((Ze8 x6 e9.Key e9.Rec).bind fun r16=>((Zd1 a1 n) x4 r14.1 r16.1 (IntKind.i64.wrap (x7 + (1:Int))))))))) else (some (.inr (x4,x5,x6))))
def Zhg (a0:Int) (a1:List Zbd):Option (Zn × (Option Zj)):=((Zor a0).bind fun r1=>(if ((r1.2 != (0:Int)) || (decide ((60:Int) < (a1.length:Int)))) then (some (r1.1,(none:Option Zj))) else ((Zd1 a1 (Int.toNat ((a1.length:Int) - (0:Int)) + 1) (default:Zn) r1.1 ({ L:=([]:List Zbd),Room:=a0 }:Zj) (0:Int)).bind fun z21=>match z21 with | .inl r=>some r | .inr (y18,y19,y20)=>(some (y19,(some y20))))))
def Zj7 (a0:Zu):Option (Int):=((gd (!((decide ((200:Int) < (a0.Key.size:Int))) || (decide ((1000:Int) < (a0.S.size:Int))))) (Zie a0.Make)).bind fun r1=>(if (((decide ((200:Int) < (a0.Key.size:Int))) || (decide ((1000:Int) < (a0.S.size:Int)))) || (decide ((0:Int) < r1))) then (some (1:Int)) else (some (0:Int))))
def Zek (a0:Zbm):Nat → (Int) → Option ((Int) ⊕ (Unit))
 | 0,_=>none
 | n + 1,x2=>(if (decide (x2 < (a0.Acts.length:Int))) then ((idx a0.Acts x2).bind fun e4=>((Zj7 e4).bind fun r6=>(if (decide ((0:Int) < r6)) then (some (.inl (1:Int))) else ((Zek a0 n) (IntKind.i64.wrap (x2 + (1:Int))))))) else (some (.inr ())))
def Zjs (a0:Zbm):Option (Int):=(if (decide ((40:Int) < (a0.Acts.length:Int))) then (some (1:Int)) else ((Zek a0 (Int.toNat ((a0.Acts.length:Int) - (0:Int)) + 1) (0:Int)).bind fun z9=>match z9 with | .inl r=>some r | .inr ()=>(some (0:Int))))
def Zew (a0:Ze) (a1:Ze):Nat → (Int) → Option ((Bool) ⊕ (Unit))
 | 0,_=>none
 | n + 1,x5=>(if (decide (x5 < (a0.List.length:Int))) then ((idx a0.List x5).bind fun e7=>((idx a1.List x5).bind fun e9=>((gd (!(!sEq e7.Name e9.Name)) (idx a0.List x5)).bind fun e11=>((gd (!(!sEq e7.Name e9.Name)) (idx a1.List x5)).bind fun e13=>((gd (!(!sEq e7.Name e9.Name)) (Zd3 e11.Score e13.Score)).bind fun r15=>(if ((!sEq e7.Name e9.Name) || (!r15)) then (some (.inl false)) else ((Zew a0 a1 n) (IntKind.i64.wrap (x5 + (1:Int)))))))))) else (some (.inr ())))
def Zgw (a0:Ze) (a1:Ze):Option (Bool):=(if ((((((a0.Kind != a1.Kind) || (a0.Num != a1.Num)) || (a0.Low != a1.Low)) || (a0.High != a1.High)) || (a0.Cap != a1.Cap)) || (!sEq a0.Text a1.Text)) then (some false) else ((Zd3 a0.Real a1.Real).bind fun r2=>(if ((!r2) || ((a0.List.length:Int) != (a1.List.length:Int))) then (some false) else ((Zew a0 a1 (Int.toNat ((a0.List.length:Int) - (0:Int)) + 1) (0:Int)).bind fun z18=>match z18 with | .inl r=>some r | .inr ()=>(some true)))))
def Zlz (a0:Int):Option (ByteArray):=(if ((decide (a0 < (0:Int))) || (decide ((21:Int) < a0))) then (some (⟨#[]⟩:ByteArray)) else ((idx ([(⟨#[]⟩:ByteArray),(⟨#[109]⟩:ByteArray),(⟨#[]⟩:ByteArray),(⟨#[]⟩:ByteArray),(⟨#[]⟩:ByteArray),(⟨#[115]⟩:ByteArray),(⟨#[115]⟩:ByteArray),(⟨#[110]⟩:ByteArray),(⟨#[110]⟩:ByteArray),(⟨#[110]⟩:ByteArray),(⟨#[110]⟩:ByteArray),(⟨#[110]⟩:ByteArray),(⟨#[110]⟩:ByteArray),(⟨#[120]⟩:ByteArray),(⟨#[120]⟩:ByteArray),(⟨#[120]⟩:ByteArray),(⟨#[120]⟩:ByteArray),(⟨#[120]⟩:ByteArray),(⟨#[115]⟩:ByteArray),(⟨#[115]⟩:ByteArray),(⟨#[115]⟩:ByteArray),(⟨#[120,115]⟩:ByteArray)]:List ByteArray) a0).bind fun e2=>(some e2)))
def Zh8 (a1:Int) (r1:ByteArray):Nat → (Int) → Option ((Bool) ⊕ (Unit))
 | 0,_=>none
 | n + 1,x3=>(if (decide (x3 < (r1.size:Int))) then ((sidx r1 x3).bind fun b5=>(if (b5 == a1) then (some (.inl true)) else ((Zh8 a1 r1 n) (IntKind.i64.wrap (x3 + (1:Int)))))) else (some (.inr ())))
def Zee (a0:Int) (a1:Int):Option (Bool):=((Zlz a0).bind fun r1=>((Zh8 a1 r1 (Int.toNat ((r1.size:Int) - (0:Int)) + 1) (0:Int)).bind fun z8=>match z8 with | .inl r=>some r | .inr ()=>(some false)))
def Ze5 (a0:Int):Option (Int):=(if ((decide (a0 < (0:Int))) || (decide ((21:Int) < a0))) then (some (0:Int)) else ((idx ([(0:Int),(0:Int),(0:Int),(0:Int),(0:Int),(1:Int),(1:Int),(2:Int),(3:Int),(3:Int),(4:Int),(4:Int),(4:Int),(5:Int),(6:Int),(7:Int),(7:Int),(7:Int),(8:Int),(8:Int),(8:Int),(9:Int)]:List Int) a0).bind fun e2=>(some e2)))
def Ze2 (a0:Zu):Option (Int):=(if ((decide (a0.Kind < (1:Int))) || (decide ((21:Int) < a0.Kind))) then (some (5:Int)) else (if ((decide ((a0.Key.size:Int) < (1:Int))) || (decide ((24:Int) < (a0.Key.size:Int)))) then (some (1:Int)) else ((Zee a0.Kind (110:Int)).bind fun r3=>((gd (!((!r3) && (a0.N != (0:Int)))) (Zee a0.Kind (120:Int))).bind fun r5=>((gd ((!((!r3) && (a0.N != (0:Int)))) && (!r5)) (Zd3 a0.X (0:Nat))).bind fun r7=>((gd (!(((!r3) && (a0.N != (0:Int))) || ((!r5) && (!r7)))) (Zee a0.Kind (115:Int))).bind fun r9=>(if ((((!r3) && (a0.N != (0:Int))) || ((!r5) && (!r7))) || ((!r9) && (!sEq a0.S (⟨#[]⟩:ByteArray)))) then (some (4:Int)) else ((gd (a0.Kind != (1:Int)) (Zgw a0.Make ({ Kind:=(0:Int),Num:=(0:Int),Low:=(0:Int),High:=(0:Int),Real:=(0:Nat),Cap:=(0:Int),Text:=ByteArray.empty,List:=([]:List Zl) }:Ze))).bind fun r12=>(if ((a0.Kind != (1:Int)) && (!r12)) then (some (4:Int)) else ((Ze5 a0.Kind).bind fun r15=>((gd (!((r15 == (1:Int)) && (decide ((64:Int) < (a0.S.size:Int))))) (Ze5 a0.Kind)).bind fun r17=>(if (((r15 == (1:Int)) && (decide ((64:Int) < (a0.S.size:Int)))) || ((r17 != (1:Int)) && (decide ((16:Int) < (a0.S.size:Int))))) then (some (3:Int)) else (if (((a0.Kind == (10:Int)) || (a0.Kind == (11:Int))) && ((decide (a0.N < (0:Int))) || (decide ((2305843009213693952:Int) < a0.N)))) then (some (1:Int)) else ((Zf4 a0.X).bind fun r21=>(if (!r21) then (some (4:Int)) else (if (a0.Kind == (1:Int)) then ((Zdy a0.Make).bind fun r25=>(some r25)) else (some (0:Int))))))))))))))))))
def Zej (a0:Zbm):Nat → (Int) → Option ((Int × Int) ⊕ (Unit))
 | 0,_=>none
 | n + 1,x2=>(if (decide (x2 < (a0.Acts.length:Int))) then ((idx a0.Acts x2).bind fun e4=>((Ze2 e4).bind fun r6=>(if (r6 != (0:Int)) then (some (.inl (r6,(IntKind.i64.wrap (x2 + (1:Int)))))) else ((Zej a0 n) (IntKind.i64.wrap (x2 + (1:Int))))))) else (some (.inr ())))
def Zip (a0:Zbm):Option (Int × Int):=(if ((decide ((a0.Acts.length:Int) < (1:Int))) || (decide ((12:Int) < (a0.Acts.length:Int)))) then (some ((1:Int),(0:Int))) else ((Zej a0 (Int.toNat ((a0.Acts.length:Int) - (0:Int)) + 1) (0:Int)).bind fun z9=>match z9 with | .inl r=>some r | .inr ()=>(some ((0:Int),(0:Int)))))
def Zg4 (a0:Zj) (a1:ByteArray):Option (Ze × Bool):=((Zeq a0 a1).bind fun r1=>((gd (decide (r1 < (a0.L.length:Int))) (idx a0.L r1)).bind fun e3=>(if ((decide (r1 < (a0.L.length:Int))) && (sEq e3.Key a1)) then ((idx a0.L r1).bind fun e6=>(some (e6.Rec,true))) else (some (({ Kind:=(0:Int),Num:=(0:Int),Low:=(0:Int),High:=(0:Int),Real:=(0:Nat),Cap:=(0:Int),Text:=ByteArray.empty,List:=([]:List Zl) }:Ze),false)))))
def Zfd (a0:Ze):Option (Ze):=(if (([]:List Zl).length + a0.List.length) * 24 ≤ 140737488355328 then (some ({ a0 with List:=(([]:List Zl) ++ a0.List) })) else none)
def Zjc (a0:Int) (a1:Int):Option (Bool):=(some ((((decide ((0:Int) < a0)) && (decide ((0:Int) < a1))) && (decide ((IntKind.i64.wrap (a0 + a1)) < (0:Int)))) || (((decide (a0 < (0:Int))) && (decide (a1 < (0:Int)))) && (decide ((0:Int) ≤ (IntKind.i64.wrap (a0 + a1)))))))
def Zj1 (a0:Nat) (a1:Nat):Option (Nat):=((Zfk a0 a1).bind fun r1=>(if r1 then (some a1) else (some a0)))
def Zj8 (a0:Nat) (a1:Nat):Option (Nat):=((Zfk a1 a0).bind fun r1=>(if r1 then (some a1) else (some a0)))
def Zfe (a0:Int):Option (Nat):=(if (decide ((9223372036854775808:Int) ≤ a0)) then (some (Int.toNat (IntKind.u64.wrap (a0 - (9223372036854775808:Int))))) else (some (Int.toNat (IntKind.u64.wrap ((9223372036854775808:Int) + (IntKind.u64.wrap ((IntKind.u64.wrap ((9223372036854775808:Int) - (1:Int))) - a0)))))))
def Zfu (a0:Nat):Option (Int):=((Zer a0).bind fun r1=>(if r1 then (some (IntKind.u64.wrap ((9223372036854775808:Int) + (9221120237041090561:Int)))) else (if (decide ((9223372036854775808:Int) ≤ (a0:Int))) then (some (IntKind.u64.wrap ((IntKind.u64.wrap ((9223372036854775808:Int) - (1:Int))) - (IntKind.u64.wrap ((a0:Int) - (9223372036854775808:Int)))))) else (some (IntKind.u64.wrap ((9223372036854775808:Int) + (a0:Int)))))))
def Zff (a0:List Zl) (a1:ByteArray):Nat → (Int) → Option ((Bool) ⊕ (Unit))
 | 0,_=>none
 | n + 1,x1=>(if (decide (x1 < (a0.length:Int))) then ((idx a0 x1).bind fun e3=>(if (sEq e3.Name a1) then (some (.inl true)) else ((Zff a0 a1 n) (IntKind.i64.wrap (x1 + (1:Int)))))) else (some (.inr ())))
def Zgg (a0:List Zl) (a1:ByteArray):Option (Bool):=((Zff a0 a1 (Int.toNat ((a0.length:Int) - (0:Int)) + 1) (0:Int)).bind fun z6=>match z6 with | .inl r=>some r | .inr ()=>(some false))
def Zgm (j30:List Zl):Option (List Zl):=(some j30)
def Zd5 (a0:List Zl) (x3:Int) (kk:(List Zl) → (Bool) → (Int) → Option ((List Zl) × Bool)) (j20:List Zl) (j21:Bool):Option ((List Zl) × Bool):=((idx a0 x3).bind fun e22=>(if (j20.length + ([e22]:List Zl).length) * 24 ≤ 140737488355328 then (kk (j20 ++ ([e22]:List Zl)) j21 (IntKind.i64.wrap (x3 + (1:Int)))) else none))
def Zcr (a0:List Zl) (a1:Zl) (a2:Bool):Nat → (List Zl) → (Bool) → (Int) → Option ((List Zl) × Bool)
 | 0,_,_,_=>none
 | n + 1,x1,x2,x3=>(if (decide (x3 < (a0.length:Int))) then ((gd (!a2) (idx a0 x3)).bind fun e5=>((gd (!a2) (Zgf e5 a1)).bind fun r7=>((gd ((!((!a2) && r7)) && a2) (idx a0 x3)).bind fun e9=>((idx a0 x3).bind fun e11=>((gd ((sEq e11.Name a1.Name) && (!a2)) (idx a0 x3)).bind fun e13=>((gd ((sEq e11.Name a1.Name) && (!a2)) (Zd3 e13.Score a1.Score)).bind fun r15=>(if ((!x2) && (!(((!a2) && r7) || (a2 && (sLt e9.Name a1.Name))))) then (if (!((sEq e11.Name a1.Name) && (a2 || r15))) then (if (x1.length + ([a1]:List Zl).length) * 24 ≤ 140737488355328 then (Zd5 a0 x3 (Zcr a0 a1 a2 n) (x1 ++ ([a1]:List Zl)) true) else none) else (Zd5 a0 x3 (Zcr a0 a1 a2 n) x1 true)) else (Zd5 a0 x3 (Zcr a0 a1 a2 n) x1 x2)))))))) else (some (x1,x2)))
def Zf3 (a0:List Zl) (a1:Zl) (a2:Bool):Option (List Zl):=((Zcr a0 a1 a2 (Int.toNat ((a0.length:Int) - (0:Int)) + 1) ([]:List Zl) false (0:Int)).bind fun z27=>match z27 with | (y25,y26)=>(if (!y26) then (if (y25.length + ([a1]:List Zl).length) * 24 ≤ 140737488355328 then (Zgm (y25 ++ ([a1]:List Zl))) else none) else (Zgm y25)))
def Z7 (j65:Ze) (j66:Zg):Option (Ze × Zg):=(some (j65,j66))
def Ziu (x43:Int) (kk:(List Zl) → (Int) → Option (List Zl)) (j51:List Zl):Option (List Zl):=(kk j51 (IntKind.i64.wrap (x43 + (1:Int))))
def Zdj (a0:Ze) (a1:Zu):Nat → (List Zl) → (Int) → Option (List Zl)
 | 0,_,_=>none
 | n + 1,x42,x43=>(if (decide (x43 < (a0.List.length:Int))) then ((idx a0.List x43).bind fun e45=>(if (!sEq e45.Name a1.S) then ((idx a0.List x43).bind fun e48=>(if (x42.length + ([e48]:List Zl).length) * 24 ≤ 140737488355328 then (Ziu x43 (Zdj a0 a1 n) (x42 ++ ([e48]:List Zl))) else none)) else (Ziu x43 (Zdj a0 a1 n) x42))) else (some x42))
def Zez (a0:Ze) (j64:List Zl):Option (Ze × Zg):=(Z7 ({ a0 with List:=j64 }) ({ Code:=(0:Int),Num:=(0:Int),Rec:=(default:Ze) }:Zg))
def Zcp (a0:Ze) (a1:Zu) (j11:Bool):Option (Ze × Zg):=(if j11 then (if (decide (a0.Num < a1.N)) then (Z7 a0 ({ ({ Code:=(0:Int),Num:=(0:Int),Rec:=(default:Ze) }:Zg) with Code:=(11:Int) })) else (Z7 a0 ({ Code:=(0:Int),Num:=(0:Int),Rec:=(default:Ze) }:Zg))) else (if (a1.Kind == (10:Int)) then (if (decide (a0.High < (IntKind.i64.wrap (a0.Num + a1.N)))) then (Z7 a0 ({ ({ Code:=(0:Int),Num:=(0:Int),Rec:=(default:Ze) }:Zg) with Code:=(9:Int) })) else (Z7 ({ a0 with Num:=(IntKind.i64.wrap (a0.Num + a1.N)) }) ({ Code:=(0:Int),Num:=(0:Int),Rec:=(default:Ze) }:Zg))) else (if (a1.Kind == (11:Int)) then (if (decide ((IntKind.i64.wrap (a0.Num - a1.N)) < a0.Low)) then (Z7 a0 ({ ({ Code:=(0:Int),Num:=(0:Int),Rec:=(default:Ze) }:Zg) with Code:=(10:Int) })) else (Z7 ({ a0 with Num:=(IntKind.i64.wrap (a0.Num - a1.N)) }) ({ Code:=(0:Int),Num:=(0:Int),Rec:=(default:Ze) }:Zg))) else (if (a1.Kind == (13:Int)) then ((Zj1 a0.Real a1.X).bind fun r19=>(Z7 ({ a0 with Real:=r19 }) ({ Code:=(0:Int),Num:=(0:Int),Rec:=(default:Ze) }:Zg))) else (if (a1.Kind == (14:Int)) then ((Zj8 a0.Real a1.X).bind fun r22=>(Z7 ({ a0 with Real:=r22 }) ({ Code:=(0:Int),Num:=(0:Int),Rec:=(default:Ze) }:Zg))) else (if (a1.Kind == (15:Int)) then ((Zfu (fadd a0.Real a1.X)).bind fun r25=>((Zfe r25).bind fun r27=>(Z7 ({ a0 with Real:=r27 }) ({ Code:=(0:Int),Num:=(0:Int),Rec:=(default:Ze) }:Zg)))) else (if (a1.Kind == (16:Int)) then ((Zfu (fmul a0.Real a1.X)).bind fun r30=>((Zfe r30).bind fun r32=>(Z7 ({ a0 with Real:=r32 }) ({ Code:=(0:Int),Num:=(0:Int),Rec:=(default:Ze) }:Zg)))) else (if (a1.Kind == (17:Int)) then (Z7 ({ a0 with Real:=a1.X }) ({ Code:=(0:Int),Num:=(0:Int),Rec:=(default:Ze) }:Zg)) else (if (a1.Kind == (18:Int)) then ((Zgg a0.List a1.S).bind fun r36=>(if ((!r36) && (decide (a0.Cap ≤ (a0.List.length:Int)))) then (Z7 a0 ({ ({ Code:=(0:Int),Num:=(0:Int),Rec:=(default:Ze) }:Zg) with Code:=(8:Int) })) else ((Zf3 a0.List ({ Score:=(0:Nat),Name:=a1.S }:Zl) true).bind fun r39=>(Z7 ({ a0 with List:=r39 }) ({ Code:=(0:Int),Num:=(0:Int),Rec:=(default:Ze) }:Zg))))) else (if (a1.Kind == (19:Int)) then ((Zdj a0 a1 (Int.toNat ((a0.List.length:Int) - (0:Int)) + 1) ([]:List Zl) (0:Int)).bind fun z53=>match z53 with | y52=>(Z7 ({ a0 with List:=y52 }) ({ Code:=(0:Int),Num:=(0:Int),Rec:=(default:Ze) }:Zg))) else (if (a1.Kind == (20:Int)) then ((Zgg a0.List a1.S).bind fun r55=>(if (!r55) then (Z7 a0 ({ ({ Code:=(0:Int),Num:=(0:Int),Rec:=(default:Ze) }:Zg) with Code:=(11:Int) })) else (Z7 a0 ({ Code:=(0:Int),Num:=(0:Int),Rec:=(default:Ze) }:Zg)))) else (if (a1.Kind == (21:Int)) then ((Zf3 a0.List ({ Score:=a1.X,Name:=a1.S }:Zl) false).bind fun r59=>(if (decide (a0.Cap < (r59.length:Int))) then ((cut r59 (0:Int) a0.Cap).bind fun c62=>(Zez a0 c62)) else (Zez a0 r59))) else (Z7 a0 ({ Code:=(0:Int),Num:=(0:Int),Rec:=(default:Ze) }:Zg))))))))))))))
def Zbz (a0:Ze) (a1:Zu):Option (Ze × Zg):=(if (a1.Kind == (5:Int)) then (Z7 ({ a0 with Text:=a1.S }) ({ Code:=(0:Int),Num:=(0:Int),Rec:=(default:Ze) }:Zg)) else (if (a1.Kind == (6:Int)) then ((Zfd a0).bind fun r3=>(Z7 ({ a0 with Text:=a1.S }) ({ ({ Code:=(0:Int),Num:=(0:Int),Rec:=(default:Ze) }:Zg) with Rec:=r3 }))) else (if (a1.Kind == (7:Int)) then (Z7 ({ a0 with Num:=(IntKind.i64.wrap (a0.Num + a1.N)) }) ({ Code:=(0:Int),Num:=(0:Int),Rec:=(default:Ze) }:Zg)) else (if (a1.Kind == (8:Int)) then ((Zjc a0.Num a1.N).bind fun r7=>(if r7 then (Z7 a0 ({ ({ Code:=(0:Int),Num:=(0:Int),Rec:=(default:Ze) }:Zg) with Code:=(9:Int) })) else (Z7 ({ a0 with Num:=(IntKind.i64.wrap (a0.Num + a1.N)) }) ({ Code:=(0:Int),Num:=(0:Int),Rec:=(default:Ze) }:Zg)))) else (if (a1.Kind == (9:Int)) then (Zcp a0 a1 (a1.Kind == (9:Int))) else (Zcp a0 a1 (a1.Kind == (12:Int))))))))
def Zgd (a1:Bool) (a2:Zu) (r3:Ze) (j18:Int):Option (Ze × Bool × Zg):=(if (j18 != (0:Int)) then (some (r3,a1,({ Code:=j18,Num:=(0:Int),Rec:=(default:Ze) }:Zg))) else (if (a2.Kind == (1:Int)) then ((Zfd a2.Make).bind fun r21=>(some (r21,true,({ Code:=(0:Int),Num:=(0:Int),Rec:=(default:Ze) }:Zg)))) else (if (a2.Kind == (2:Int)) then (some (({ Kind:=(0:Int),Num:=(0:Int),Low:=(0:Int),High:=(0:Int),Real:=(0:Nat),Cap:=(0:Int),Text:=ByteArray.empty,List:=([]:List Zl) }:Ze),false,({ Code:=(0:Int),Num:=(0:Int),Rec:=(default:Ze) }:Zg))) else (if (a2.Kind == (3:Int)) then (some (r3,a1,({ Code:=(0:Int),Num:=r3.Kind,Rec:=(default:Ze) }:Zg))) else (if (a2.Kind == (4:Int)) then ((Zfd r3).bind fun r26=>(some (r3,a1,({ Code:=(0:Int),Num:=(0:Int),Rec:=r26 }:Zg)))) else ((Zbz r3 a2).bind fun r28=>(some (r28.1,a1,r28.2))))))))
def Zgb (a1:Bool) (a2:Zu) (r3:Ze) (j14:Int):Option (Ze × Bool × Zg):=((Ze5 a2.Kind).bind fun r15=>(if (((j14 == (0:Int)) && (r15 != (0:Int))) && (r15 != r3.Kind)) then (Zgd a1 a2 r3 (5:Int)) else (Zgd a1 a2 r3 j14)))
def Zf8 (a1:Bool) (a2:Zu) (r3:Ze) (j12:Int):Option (Ze × Bool × Zg):=(if ((((j12 == (0:Int)) && (!a1)) && (a2.Kind != (1:Int))) && (a2.Kind != (3:Int))) then (Zgb a1 a2 r3 (6:Int)) else (Zgb a1 a2 r3 j12))
def Zel (a1:Bool) (a2:Zu) (r3:Ze) (j10:Int):Option (Ze × Bool × Zg):=(if (((j10 == (0:Int)) && (a2.Kind == (1:Int))) && a1) then (Zf8 a1 a2 r3 (7:Int)) else (Zf8 a1 a2 r3 j10))
def Zf7 (a1:Bool) (a2:Zu) (j2:Ze):Option (Ze × Bool × Zg):=((Zfd j2).bind fun r3=>((Ze2 a2).bind fun r5=>(if ((r5 == (0:Int)) && a1) then ((Zdy r3).bind fun r8=>(Zel a1 a2 r3 r8)) else (Zel a1 a2 r3 r5))))
def Ziy (a0:Ze) (a1:Bool) (a2:Zu):Option (Ze × Bool × Zg):=(if (!a1) then (Zf7 a1 a2 ({ Kind:=(0:Int),Num:=(0:Int),Low:=(0:Int),High:=(0:Int),Real:=(0:Nat),Cap:=(0:Int),Text:=ByteArray.empty,List:=([]:List Zl) }:Ze)) else (Zf7 a1 a2 a0))
def Zg0 (a0:Zj) (a1:ByteArray):Option (Zj × Bool):=((Zeq a0 a1).bind fun r1=>((gd (!(decide ((a0.L.length:Int) ≤ r1))) (idx a0.L r1)).bind fun e3=>(if ((decide ((a0.L.length:Int) ≤ r1)) || (!sEq e3.Key a1)) then (some (a0,false)) else ((cut a0.L (0:Int) r1).bind fun c6=>(if (([]:List Zbd).length + c6.length) * 104 ≤ 140737488355328 then ((cut a0.L (IntKind.i64.wrap (r1 + (1:Int))) (a0.L.length:Int)).bind fun c9=>(if ((([]:List Zbd) ++ c6).length + c9.length) * 104 ≤ 140737488355328 then (some (({ L:=((([]:List Zbd) ++ c6) ++ c9),Room:=a0.Room }:Zj),true)) else none)) else none)))))
def Zik (a0:Zj) (a1:Zu):Option (Zj × Zg):=((Zg4 a0 a1.Key).bind fun r1=>((Ziy r1.1 r1.2 a1).bind fun r3=>(if (r3.2.2.Code != (0:Int)) then (some (a0,r3.2.2)) else (if ((a1.Kind == (1:Int)) && (decide (a0.Room ≤ (a0.L.length:Int)))) then (some (a0,({ Code:=(8:Int),Num:=(0:Int),Rec:=(default:Ze) }:Zg))) else (if (!r3.2.1) then ((Zg0 a0 a1.Key).bind fun r8=>(some (r8.1,r3.2.2))) else ((Ze8 a0 a1.Key r3.1).bind fun r10=>(some (r10.1,r3.2.2))))))))
def Zeg (a0:Zj) (a1:Zbm):Nat → (Zj) → (Z1) → (Zj) → (List Zg) → (Int) → Option ((Zj × Z1) ⊕ (Zj × Z1 × Zj × (List Zg)))
 | 0,_,_,_,_,_=>none
 | n + 1,x4,x5,x6,x7,x8=>(if (decide (x8 < (a1.Acts.length:Int))) then ((idx a1.Acts x8).bind fun e10=>((Zik x6 e10).bind fun r12=>((gd (r12.2.Code != (0:Int)) (idx a1.Acts x8)).bind fun e14=>(if ((r12.2.Code != (0:Int)) && e14.Must) then (some (.inl (a0,({ Code:=r12.2.Code,At:=(IntKind.i64.wrap (x8 + (1:Int))),Answers:=([]:List Zg) }:Z1)))) else (if (x7.length + ([r12.2]:List Zg).length) * 104 ≤ 140737488355328 then ((Zeg a0 a1 n) x4 x5 r12.1 (x7 ++ ([r12.2]:List Zg)) (IntKind.i64.wrap (x8 + (1:Int)))) else none))))) else (some (.inr (x4,x5,x6,x7))))
def Zjr (a0:Zj) (a1:Zbm):Option (Zj × Z1):=((Zip a1).bind fun r1=>(if (r1.1 != (0:Int)) then (some (a0,({ Code:=r1.1,At:=r1.2,Answers:=([]:List Zg) }:Z1))) else ((Zeg a0 a1 (Int.toNat ((a1.Acts.length:Int) - (0:Int)) + 1) (default:Zj) (default:Z1) a0 ([]:List Zg) (0:Int)).bind fun z22=>match z22 with | .inl r=>some r | .inr (y18,y19,y20,y21)=>(some (y20,({ Code:=(0:Int),At:=(0:Int),Answers:=y21 }:Z1))))))
def Zjf (a0:Zg) (a1:Zg):Option (Bool):=((gd ((a0.Code == a1.Code) && (a0.Num == a1.Num)) (Zgw a0.Rec a1.Rec)).bind fun r1=>(some (((a0.Code == a1.Code) && (a0.Num == a1.Num)) && r1)))
def Zen (a0:Z1) (a1:Z1):Nat → (Int) → Option ((Bool) ⊕ (Unit))
 | 0,_=>none
 | n + 1,x2=>(if (decide (x2 < (a0.Answers.length:Int))) then ((idx a0.Answers x2).bind fun e4=>((idx a1.Answers x2).bind fun e6=>((Zjf e4 e6).bind fun r8=>(if (!r8) then (some (.inl false)) else ((Zen a0 a1 n) (IntKind.i64.wrap (x2 + (1:Int)))))))) else (some (.inr ())))
def Ziv (a0:Z1) (a1:Z1):Option (Bool):=(if (((a0.Code != a1.Code) || (a0.At != a1.At)) || ((a0.Answers.length:Int) != (a1.Answers.length:Int))) then (some false) else ((Zen a0 a1 (Int.toNat ((a0.Answers.length:Int) - (0:Int)) + 1) (0:Int)).bind fun z11=>match z11 with | .inl r=>some r | .inr ()=>(some true)))
def Zk6 (a0:Zn):Option (Int):=(some a0.room)
def Zfs (a0:Zn) (a1:Zj):Nat → (Int) → Option ((Int) ⊕ (Unit))
 | 0,_=>none
 | n + 1,x6=>(if (decide (x6 < (a1.L.length:Int))) then ((idx a1.L x6).bind fun e8=>((Zhy a0 x6).bind fun r10=>((gd (!((!r10.2.2) || (!sEq r10.1 e8.Key))) (Zgw r10.2.1 e8.Rec)).bind fun r12=>(if (((!r10.2.2) || (!sEq r10.1 e8.Key)) || (!r12)) then (some (.inl (0:Int))) else ((Zfs a0 a1 n) (IntKind.i64.wrap (x6 + (1:Int)))))))) else (some (.inr ())))
def Zi8 (a0:Zn) (a1:Zj):Option (Int):=((Zfb a0).bind fun r1=>((gd (!(r1 != (a1.L.length:Int))) (Zk6 a0)).bind fun r3=>(if ((r1 != (a1.L.length:Int)) || (r3 != a1.Room)) then (some (0:Int)) else ((Zfs a0 a1 (Int.toNat ((a1.L.length:Int) - (0:Int)) + 1) (0:Int)).bind fun z15=>match z15 with | .inl r=>some r | .inr ()=>(some (1:Int))))))
def Zdm (r4:Zn × (Option Zj)):Nat → (Z3) → (Int) → Option ((Bool) ⊕ (Z3))
 | 0,_,_=>none
 | n + 1,x15,x16=>(if (decide (x16 < (20:Int))) then ((Zfn x15).bind fun r18=>(if r18 then (some (.inr x15)) else ((Zd2 x15 r4.1).bind fun r21=>((Zfj x15).bind fun r23=>((gd (!r23.2) (Zk5 r21.1 r4.1)).bind fun r25=>((gd (!((r23.2 || (!r25)) || (decide ((0:Int) < (r21.2.length:Int))))) (Zfm x15)).bind fun r27=>(if (((r23.2 || (!r25)) || (decide ((0:Int) < (r21.2.length:Int)))) || (!r27.2)) then (some (.inl false)) else ((Zdm r4 n) (if (!((r23.2 || (!r25)) || (decide ((0:Int) < (r21.2.length:Int)))))=true then r27.1 else x15) (IntKind.i64.wrap (x16 + (1:Int))))))))))) else (some (.inr x15)))
def Zij (a0:Int) (a1:List Zbd) (a2:Zbm):Option (Bool):=((Zj5).bind fun r1=>(if (!r1) then (some false) else ((Zhg a0 a1).bind fun r4=>((gd (!r4.2.isNone) (Zjs a2)).bind fun r6=>(if (r4.2.isNone || (decide ((0:Int) < r6))) then (some true) else ((Zmr a2 r4.1 ([]:List ByteArray)).bind fun r9=>((r4.2).bind fun n11=>((Zjr n11 a2).bind fun r13=>((Zdm r4 (Int.toNat ((20:Int) - (0:Int)) + 1) r9 (0:Int)).bind fun z31=>match z31 with | .inl r=>some r | .inr y30=>((Zd2 y30 r4.1).bind fun r32=>((Zfj y30).bind fun r34=>((Zfn y30).bind fun r36=>((gd r36 (Zfm y30)).bind fun r38=>((gd ((r36 && (!r38.2)) && r34.2) (Ziv r34.1 r13.2)).bind fun r40=>((gd ((((r36 && (!r38.2)) && r34.2) && r40) && ((r32.2.length:Int) == (0:Int))) (Zi8 r32.1 r13.1)).bind fun r42=>(some (((((r36 && (!r38.2)) && r34.2) && r40) && ((r32.2.length:Int) == (0:Int))) && (r42 == (1:Int)))))))))))))))))))
def Zqd (x:Zl):Prop:=(x.Score < 2 ^ 64) ∧ (x.Name.size ≤ maxLen)
def Zld (x:Ze):Prop:=((IntKind.i64).min ≤ x.Kind ∧ x.Kind ≤ (IntKind.i64).max) ∧ ((IntKind.i64).min ≤ x.Num ∧ x.Num ≤ (IntKind.i64).max) ∧ ((IntKind.i64).min ≤ x.Low ∧ x.Low ≤ (IntKind.i64).max) ∧ ((IntKind.i64).min ≤ x.High ∧ x.High ≤ (IntKind.i64).max) ∧ (x.Real < 2 ^ 64) ∧ ((IntKind.i64).min ≤ x.Cap ∧ x.Cap ≤ (IntKind.i64).max) ∧ (x.Text.size ≤ maxLen) ∧ (x.List.length ≤ maxLen ∧ ∀ e0 ∈ x.List,(Zqd e0))
def Zmc (x:Zu):Prop:=((IntKind.i64).min ≤ x.Kind ∧ x.Kind ≤ (IntKind.i64).max) ∧ (x.Key.size ≤ maxLen) ∧ ((IntKind.i64).min ≤ x.N ∧ x.N ≤ (IntKind.i64).max) ∧ (x.X < 2 ^ 64) ∧ (x.S.size ≤ maxLen) ∧ (Zld x.Make) ∧ True
def Zqf (x:Zbm):Prop:=(x.Acts.length ≤ maxLen ∧ ∀ e0 ∈ x.Acts,(Zmc e0))
def Zhq (x:Zbd):Prop:=(x.Key.size ≤ maxLen) ∧ (Zld x.Rec)
end Go.CL
namespace Go.CL
open Go Go.RowKit Go.Proofs
theorem Zb:Tryz.prog.follows .mixedOrders=true:=by kernel_rfl
theorem Z7m {α:Type} {l:List α} (h:l.length=1):∃ u0,l=[u0]:=by
 match l,h with
 | [u0],_=>exact ⟨u0,rfl⟩
theorem Zl5 {α:Type} {l:List α} (h:l.length=2):∃ u0 u1,l=[u0,u1]:=by
 match l,h with
 | [u0,u1],_=>exact ⟨u0,u1,rfl⟩
theorem Z24 {α:Type} {l:List α} (h:l.length=8):∃ u0 u1 u2 u3 u4 u5 u6 u7,l=[u0,u1,u2,u3,u4,u5,u6,u7]:=by
 match l,h with
 | [u0,u1,u2,u3,u4,u5,u6,u7],_=>exact ⟨u0,u1,u2,u3,u4,u5,u6,u7,rfl⟩
def Z0w:List (Kd.FK Zl):=[⟨_,Kd.flt,0,fun x:Zl=>x.Score⟩,
 ⟨_,Kd.str,1,fun x:Zl=>x.Name⟩]
def Zz:Kd Zl:=Kd.struct 2 Z0w (by rfl)
theorem Zlh:∀ g,Zz.K g (default:Zl) [.float .f64 0,.string ByteArray.empty]:=fun g=>⟨rfl,(List.forall_mem_cons.2 ⟨(rfl),(List.forall_mem_cons.2 ⟨(rfl),(fun _ h=>by cases h)⟩)⟩)⟩
def Zyh:List (Kd.FK Ze):=[⟨_,(Kd.int .i64),0,fun x:Ze=>x.Kind⟩,
 ⟨_,(Kd.int .i64),1,fun x:Ze=>x.Num⟩,
 ⟨_,(Kd.int .i64),2,fun x:Ze=>x.Low⟩,
 ⟨_,(Kd.int .i64),3,fun x:Ze=>x.High⟩,
 ⟨_,Kd.flt,4,fun x:Ze=>x.Real⟩,
 ⟨_,(Kd.int .i64),5,fun x:Ze=>x.Cap⟩,
 ⟨_,Kd.str,6,fun x:Ze=>x.Text⟩,
 ⟨_,Zz.sl,7,fun x:Ze=>x.List⟩]
def Zi:Kd Ze:=Kd.struct 8 Zyh (by rfl)
theorem Zb4:∀ g,Zi.K g (default:Ze) [.int .i64 0,.int .i64 0,.int .i64 0,.int .i64 0,.float .f64 0,.int .i64 0,.string ByteArray.empty,.slice none 0 0]:=fun g=>⟨rfl,(List.forall_mem_cons.2 ⟨(rfl),(List.forall_mem_cons.2 ⟨(rfl),(List.forall_mem_cons.2 ⟨(rfl),(List.forall_mem_cons.2 ⟨(rfl),(List.forall_mem_cons.2 ⟨(rfl),(List.forall_mem_cons.2 ⟨(rfl),(List.forall_mem_cons.2 ⟨(rfl),(List.forall_mem_cons.2 ⟨(⟨none,0,rfl,Nat.le_refl _,Nat.zero_le _,.inl rfl⟩),(fun _ h=>by cases h)⟩)⟩)⟩)⟩)⟩)⟩)⟩)⟩)⟩
def Z25:List (Kd.FK Zu):=[⟨_,(Kd.int .i64),0,fun x:Zu=>x.Kind⟩,
 ⟨_,Kd.str,1,fun x:Zu=>x.Key⟩,
 ⟨_,(Kd.int .i64),2,fun x:Zu=>x.N⟩,
 ⟨_,Kd.flt,3,fun x:Zu=>x.X⟩,
 ⟨_,Kd.str,4,fun x:Zu=>x.S⟩,
 ⟨_,Zi,5,fun x:Zu=>x.Make⟩,
 ⟨_,Kd.bool,13,fun x:Zu=>x.Must⟩]
def Z4:Kd Zu:=Kd.struct 14 Z25 (by rfl)
theorem Zo1:∀ g,Z4.K g (default:Zu) [.int .i64 0,.string ByteArray.empty,.int .i64 0,.float .f64 0,.string ByteArray.empty,.int .i64 0,.int .i64 0,.int .i64 0,.int .i64 0,.float .f64 0,.int .i64 0,.string ByteArray.empty,.slice none 0 0,.bool false]:=fun g=>⟨rfl,(List.forall_mem_cons.2 ⟨(rfl),(List.forall_mem_cons.2 ⟨(rfl),(List.forall_mem_cons.2 ⟨(rfl),(List.forall_mem_cons.2 ⟨(rfl),(List.forall_mem_cons.2 ⟨(rfl),(List.forall_mem_cons.2 ⟨(Zb4 _),(List.forall_mem_cons.2 ⟨(rfl),(fun _ h=>by cases h)⟩)⟩)⟩)⟩)⟩)⟩)⟩)⟩
def Z02:List (Kd.FK Zbm):=[⟨_,Z4.sl,0,fun x:Zbm=>x.Acts⟩]
def Zch:Kd Zbm:=Kd.struct 1 Z02 (by rfl)
theorem Zt7:∀ g,Zch.K g (default:Zbm) [.slice none 0 0]:=fun g=>⟨rfl,(List.forall_mem_cons.2 ⟨(⟨none,0,rfl,Nat.le_refl _,Nat.zero_le _,.inl rfl⟩),(fun _ h=>by cases h)⟩)⟩
def Z0u:List (Kd.FK Zcg):=[⟨_,Kd.bool,0,fun x:Zcg=>x.text⟩,
 ⟨_,Kd.bool,1,fun x:Zcg=>x.num⟩,
 ⟨_,Kd.bool,2,fun x:Zcg=>x.bounds⟩,
 ⟨_,Kd.bool,3,fun x:Zcg=>x.real⟩,
 ⟨_,Kd.bool,4,fun x:Zcg=>x.list⟩]
def Zdb:Kd Zcg:=Kd.struct 5 Z0u (by rfl)
theorem Zsf:∀ g,Zdb.K g (default:Zcg) [.bool false,.bool false,.bool false,.bool false,.bool false]:=fun g=>⟨rfl,(List.forall_mem_cons.2 ⟨(rfl),(List.forall_mem_cons.2 ⟨(rfl),(List.forall_mem_cons.2 ⟨(rfl),(List.forall_mem_cons.2 ⟨(rfl),(List.forall_mem_cons.2 ⟨(rfl),(fun _ h=>by cases h)⟩)⟩)⟩)⟩)⟩)⟩
def Z1g:List (Kd.FK Zdn):=[⟨_,Kd.str,0,fun x:Zdn=>x.word⟩,
 ⟨_,(Kd.int .i64),1,fun x:Zdn=>x.on⟩,
 ⟨_,Kd.str,2,fun x:Zdn=>x.has⟩]
def Ze0:Kd Zdn:=Kd.struct 3 Z1g (by rfl)
theorem Zt4:∀ g,Ze0.K g (default:Zdn) [.string ByteArray.empty,.int .i64 0,.string ByteArray.empty]:=fun g=>⟨rfl,(List.forall_mem_cons.2 ⟨(rfl),(List.forall_mem_cons.2 ⟨(rfl),(List.forall_mem_cons.2 ⟨(rfl),(fun _ h=>by cases h)⟩)⟩)⟩)⟩
def shelf_nodeT.V (g:G):shelf_nodeT → Value → Prop
 | .nil,v=>v=.pointer none
 | .node x0 x1 x2 x3 x4,v=>∃ b o cs,v=.pointer (some ⟨b,o,none⟩) ∧ CellsAt g b o cs ∧ cs.length=12 ∧ (∀ u ∈ cs,u.oneCell'=true) ∧ Kd.str.K g x0 (seg cs 0 1) ∧ Zi.K g x1 (seg cs 1 8) ∧ (∃ v,seg cs 9 1=[v] ∧ shelf_nodeT.V g x2 v) ∧ (∃ v,seg cs 10 1=[v] ∧ shelf_nodeT.V g x3 v) ∧ (Kd.int .i64).K g x4 (seg cs 11 1)
theorem shelf_nodeT.mono {g g':G} (h:g.le g') (t:shelf_nodeT):∀ v,shelf_nodeT.V g t v → shelf_nodeT.V g' t v:=by
 induction t with
 | nil=>exact fun v h=>h
 | node x0 x1 x2 x3 x4 ih2 ih3 =>
  rintro v ⟨b,o,cs,rfl,hc,hl,hz,h0,h1,⟨w2,e2,k2⟩,⟨w3,e3,k3⟩,h4⟩
  exact ⟨b,o,cs,rfl,hc.mono h,hl,hz,Kd.str.mono h h0,Zi.mono h h1,⟨w2,e2,ih2 w2 k2⟩,⟨w3,e3,ih3 w3 k3⟩,(Kd.int .i64).mono h h4⟩
theorem shelf_nodeT.ptr {g:G} {t:shelf_nodeT} {v:Value} (h:shelf_nodeT.V g t v):∃ p,v=.pointer p ∧ p.isNone=t.isNil:=by
 cases t with
 | nil=>exact ⟨_,h,rfl⟩
 | node =>
  obtain ⟨b,o,cs,e,_⟩:=h
  exact ⟨_,e,rfl⟩
def Zba:Kd shelf_nodeT where
 sz:=1
 ag:=false
 K:=fun g t cs=>∃ v,cs=[v] ∧ shelf_nodeT.V g t v
 len:=by rintro _ _ _ ⟨v,rfl,_⟩;rfl
 one:=by
  rintro _ _ _ ⟨v,rfl,h⟩ u hu
  obtain ⟨p,e,_⟩:=shelf_nodeT.ptr h
  rw [List.mem_singleton.1 hu,e];rfl
 mono:=fun h ⟨v,e,k⟩=>⟨v,e,shelf_nodeT.mono h _ _ k⟩
 nag:=fun _=>rfl
def Zx5:List (Kd.FK shelf_node):=[⟨_,Kd.str,0,fun x:shelf_node=>x.key⟩,
 ⟨_,Zi,1,fun x:shelf_node=>x.rec_⟩,
 ⟨_,Zba,9,fun x:shelf_node=>x.left⟩,
 ⟨_,Zba,10,fun x:shelf_node=>x.right⟩,
 ⟨_,(Kd.int .i64),11,fun x:shelf_node=>x.size⟩]
def Zg8:Kd shelf_node:=Kd.struct 12 Zx5 (by rfl)
theorem shelf_nodeT.V_iff {g:G} {t:shelf_nodeT} {v:Value}:(Zba.pd t).p g v ↔ shelf_nodeT.V g t v:=by
 constructor
 ·rintro ⟨_,⟨u,rfl,h⟩,rfl⟩;exact h
 ·exact fun h=>⟨_,⟨v,rfl,h⟩,rfl⟩
theorem Zmj (g:G):Zba.K g shelf_nodeT.nil [.pointer none]:=⟨_,rfl,rfl⟩
theorem Zeu (g:G):(Zba.pd shelf_nodeT.nil).p g (.pointer none):=shelf_nodeT.V_iff.2 rfl
theorem Zft (t:shelf_nodeT) (g:G) (v:Value) (h:(Zba.pd t).p g v):∃ p,v=.pointer p ∧ p.isNone=t.isNil:=shelf_nodeT.ptr (shelf_nodeT.V_iff.1 h)
theorem Zx {g:G} {t:shelf_nodeT} {x:shelf_node} {v:Value} (h:t.un=some x) (hv:(Zba.pd t).p g v):(Zg8.ptr x).p g v:=by
 cases t with
 | nil=>cases h
 | node x0 x1 x2 x3 x4 =>
  obtain rfl:=Option.some.inj h
  obtain ⟨b,o,cs,rfl,hc,hl,_,h0,h1,h2,h3,h4⟩:=shelf_nodeT.V_iff.1 hv
  exact ⟨b,o,cs,rfl,⟨hl,(List.forall_mem_cons.2 ⟨h0,(List.forall_mem_cons.2 ⟨h1,(List.forall_mem_cons.2 ⟨h2,(List.forall_mem_cons.2 ⟨h3,(List.forall_mem_cons.2 ⟨h4,(fun _ h=>by cases h)⟩)⟩)⟩)⟩)⟩)⟩,hc⟩
theorem Zwq {g:G} {x:shelf_node} {v:Value} (h:(Zg8.ptr x).p g v):(Zba.pd x.up).p g v:=by
 obtain ⟨b,o,cs,rfl,hk,hc⟩:=h
 exact shelf_nodeT.V_iff.2 ⟨b,o,cs,rfl,hc,hk.1,Zg8.one hk,hk.2 _ (List.mem_of_getElem? (i:=0) rfl),hk.2 _ (List.mem_of_getElem? (i:=1) rfl),hk.2 _ (List.mem_of_getElem? (i:=2) rfl),hk.2 _ (List.mem_of_getElem? (i:=3) rfl),hk.2 _ (List.mem_of_getElem? (i:=4) rfl)⟩
def Zwh:List (Kd.FK Zn):=[⟨_,Zba,0,fun x:Zn=>x.top⟩,
 ⟨_,(Kd.int .i64),1,fun x:Zn=>x.room⟩]
def Zy:Kd Zn:=Kd.struct 2 Zwh (by rfl)
theorem Zdp:∀ g,Zy.K g (default:Zn) [.pointer none,.int .i64 0]:=fun g=>⟨rfl,(List.forall_mem_cons.2 ⟨(Zmj _),(List.forall_mem_cons.2 ⟨(rfl),(fun _ h=>by cases h)⟩)⟩)⟩
def Zx9:List (Kd.FK Zg):=[⟨_,(Kd.int .i64),0,fun x:Zg=>x.Code⟩,
 ⟨_,(Kd.int .i64),1,fun x:Zg=>x.Num⟩,
 ⟨_,Zi,2,fun x:Zg=>x.Rec⟩]
def Zm:Kd Zg:=Kd.struct 10 Zx9 (by rfl)
theorem Zeb:∀ g,Zm.K g (default:Zg) [.int .i64 0,.int .i64 0,.int .i64 0,.int .i64 0,.int .i64 0,.int .i64 0,.float .f64 0,.int .i64 0,.string ByteArray.empty,.slice none 0 0]:=fun g=>⟨rfl,(List.forall_mem_cons.2 ⟨(rfl),(List.forall_mem_cons.2 ⟨(rfl),(List.forall_mem_cons.2 ⟨(Zb4 _),(fun _ h=>by cases h)⟩)⟩)⟩)⟩
def Zx2:List (Kd.FK Z1):=[⟨_,(Kd.int .i64),0,fun x:Z1=>x.Code⟩,
 ⟨_,(Kd.int .i64),1,fun x:Z1=>x.At⟩,
 ⟨_,Zm.sl,2,fun x:Z1=>x.Answers⟩]
def Zbx:Kd Z1:=Kd.struct 3 Zx2 (by rfl)
theorem Zin:∀ g,Zbx.K g (default:Z1) [.int .i64 0,.int .i64 0,.slice none 0 0]:=fun g=>⟨rfl,(List.forall_mem_cons.2 ⟨(rfl),(List.forall_mem_cons.2 ⟨(rfl),(List.forall_mem_cons.2 ⟨(⟨none,0,rfl,Nat.le_refl _,Nat.zero_le _,.inl rfl⟩),(fun _ h=>by cases h)⟩)⟩)⟩)⟩
def Zr3:List (Kd.FK Zbd):=[⟨_,Kd.str,0,fun x:Zbd=>x.Key⟩,
 ⟨_,Zi,1,fun x:Zbd=>x.Rec⟩]
def Zb6:Kd Zbd:=Kd.struct 9 Zr3 (by rfl)
theorem Znq:∀ g,Zb6.K g (default:Zbd) [.string ByteArray.empty,.int .i64 0,.int .i64 0,.int .i64 0,.int .i64 0,.float .f64 0,.int .i64 0,.string ByteArray.empty,.slice none 0 0]:=fun g=>⟨rfl,(List.forall_mem_cons.2 ⟨(rfl),(List.forall_mem_cons.2 ⟨(Zb4 _),(fun _ h=>by cases h)⟩)⟩)⟩
def Zq5:List (Kd.FK Zj):=[⟨_,Zb6.sl,0,fun x:Zj=>x.L⟩,
 ⟨_,(Kd.int .i64),1,fun x:Zj=>x.Room⟩]
def Zbb:Kd Zj:=Kd.struct 2 Zq5 (by rfl)
theorem Zfi:∀ g,Zbb.K g (default:Zj) [.slice none 0 0,.int .i64 0]:=fun g=>⟨rfl,(List.forall_mem_cons.2 ⟨(⟨none,0,rfl,Nat.le_refl _,Nat.zero_le _,.inl rfl⟩),(List.forall_mem_cons.2 ⟨(rfl),(fun _ h=>by cases h)⟩)⟩)⟩
def Zzk:Zdn → List Value:=fun x=>[.string x.word,.int .i64 x.on,.string x.has]
theorem gm_0:(0,g_0.flatMap Zzk) ∈ GL:=List.mem_of_getElem? (i:=0) rfl
theorem gk_0:∀ g,(Kd.arr 22 Ze0).K g g_0 (g_0.flatMap Zzk):=fun g=>Zbbi (dk:=Ze0) (enc:=Zzk) (fun g x=>⟨rfl,(List.forall_mem_cons.2 ⟨rfl,(List.forall_mem_cons.2 ⟨rfl,(List.forall_mem_cons.2 ⟨rfl,(fun _ h=>by cases h)⟩)⟩)⟩)⟩) g g_0
theorem Zdl:TE Tryz.prog 36 116 Zz 24:=TE.of Tryz.underlying36 (by kernel_rfl) (by decide) (by decide)
theorem Zce:Fld Tryz.prog 38 7 Zi Zz.sl (fun x:Ze=>x.List):=Fld.of ⟨_,Zz.sl,7,fun x:Ze=>x.List⟩ (List.mem_of_getElem? (i:=7) rfl) 7 rfl (by kernel_rfl) (by decide)
theorem Zc7:Ty Tryz.prog 36 Zz.sl:=⟨by kernel_rfl,by kernel_rfl⟩
theorem Zyl:Zp Tryz.prog 81:=by
 unfold Zp
 kernel_rfl
theorem Zmz {c:Option Nat} {N j s:Nat} {o:Oper} {uses:Zbj} {x z:Operand} {v:Ze} {y0 y:List Zl} {v0:Ze} {t:Nat} (hT:Ty Tryz.prog t Zz.sl) (hop:o.op=.store t x z) (hd:o.dst=none) (hs:Opd uses (.tmp s) (Zcf c Zi j v)) (hx:Opd uses x (Zjk Zi j v0 7 Zz.sl y0)) (hz:Opd uses z (Zz.sl.pd y)):OB Tryz.prog N o uses [(s,Zcf c Zi j { v with List:=y })] [j + 1] :=
 Zls hT hop hd hs hx hz fun g cs ys hk hy=>by
  have hc:cs.length=8:=hk.1
  have hl:ys.length=1:=Zz.sl.len hy
  exact ⟨by omega,(Zc9 (by omega)).trans hc,(List.forall_mem_cons.2 ⟨(by show (Kd.int .i64).K g v.Kind (seg (Z9 cs 7 ys) 0 1);rw [Z8 (by omega) (by omega)];exact hk.2 _ (List.mem_of_getElem? (i:=0) rfl)),(List.forall_mem_cons.2 ⟨(by show (Kd.int .i64).K g v.Num (seg (Z9 cs 7 ys) 1 1);rw [Z8 (by omega) (by omega)];exact hk.2 _ (List.mem_of_getElem? (i:=1) rfl)),(List.forall_mem_cons.2 ⟨(by show (Kd.int .i64).K g v.Low (seg (Z9 cs 7 ys) 2 1);rw [Z8 (by omega) (by omega)];exact hk.2 _ (List.mem_of_getElem? (i:=2) rfl)),(List.forall_mem_cons.2 ⟨(by show (Kd.int .i64).K g v.High (seg (Z9 cs 7 ys) 3 1);rw [Z8 (by omega) (by omega)];exact hk.2 _ (List.mem_of_getElem? (i:=3) rfl)),(List.forall_mem_cons.2 ⟨(by show Kd.flt.K g v.Real (seg (Z9 cs 7 ys) 4 1);rw [Z8 (by omega) (by omega)];exact hk.2 _ (List.mem_of_getElem? (i:=4) rfl)),(List.forall_mem_cons.2 ⟨(by show (Kd.int .i64).K g v.Cap (seg (Z9 cs 7 ys) 5 1);rw [Z8 (by omega) (by omega)];exact hk.2 _ (List.mem_of_getElem? (i:=5) rfl)),(List.forall_mem_cons.2 ⟨(by show Kd.str.K g v.Text (seg (Z9 cs 7 ys) 6 1);rw [Z8 (by omega) (by omega)];exact hk.2 _ (List.mem_of_getElem? (i:=6) rfl)),(List.forall_mem_cons.2 ⟨(by show Zz.sl.K g y (seg (Z9 cs 7 ys) 7 1);rw [Zdg (by omega) hl];exact hy),(fun _ h=>by cases h)⟩)⟩)⟩)⟩)⟩)⟩)⟩)⟩)⟩
theorem Zbc:Ty Tryz.prog 38 Zi:=⟨by kernel_rfl,by kernel_rfl⟩
theorem Zvs:TE Tryz.prog 23 40 Z4 152:=TE.of Tryz.underlying23 (by kernel_rfl) (by decide) (by decide)
structure Zma where
 Acts:SlV
def Zya:List (Kd.FK Zma):=[⟨_,Kd.raw,0,fun x:Zma=>x.Acts⟩]
def Zgo:Kd Zma:=Kd.struct 1 Zya (by rfl)
def Zg2 (x:Zbm) (s:SlV):Zma:=⟨s⟩
theorem Zx6 {x:Zbm} {g:G} {cs ys:List Value} {s0 s1:SlV} (hk:Zgo.K g (Zg2 x s0) cs) (hy:Kd.raw.K g s1 ys):0 + ys.length ≤ cs.length ∧ Zgo.K g (Zg2 x s1) (Z9 cs 0 ys):=by
 have hc:cs.length=1:=hk.1
 have hl:ys.length=1:=Kd.raw.len hy
 exact ⟨by omega,(Zc9 (by omega)).trans hc,(List.forall_mem_cons.2 ⟨(by show Kd.raw.K g s1 (seg (Z9 cs 0 ys) 0 1);rw [Zdg (by omega) hl];exact hy),(fun _ h=>by cases h)⟩)⟩
theorem Zup:Fld Tryz.prog 25 0 Zgo Kd.raw (fun x:Zma=>x.Acts):=Fld.of ⟨_,Kd.raw,0,fun x:Zma=>x.Acts⟩ (List.mem_of_getElem? (i:=0) rfl) 0 rfl (by kernel_rfl) (by decide)
theorem Zu7:Ty Tryz.prog 23 Kd.raw:=⟨by kernel_rfl,by kernel_rfl⟩
theorem Znl:Ty Tryz.prog 25 Zch:=⟨by kernel_rfl,by kernel_rfl⟩
theorem Zkf:Ty Tryz.prog 23 Z4.sl:=⟨by kernel_rfl,by kernel_rfl⟩
theorem Zo0:(Tryz.prog.info? 40).map (·.size)=some Z4.sz:=by kernel_rfl
theorem Zhr:Fld Tryz.prog 25 0 Zch Z4.sl (fun x:Zbm=>x.Acts):=Fld.of ⟨_,Z4.sl,0,fun x:Zbm=>x.Acts⟩ (List.mem_of_getElem? (i:=0) rfl) 0 rfl (by kernel_rfl) (by decide)
theorem Zmd:Fld Tryz.prog 40 5 Z4 Zi (fun x:Zu=>x.Make):=Fld.of ⟨_,Zi,5,fun x:Zu=>x.Make⟩ (List.mem_of_getElem? (i:=5) rfl) 5 rfl (by kernel_rfl) (by decide)
theorem Zbc4:Zp Tryz.prog 56:=by
 unfold Zp
 kernel_rfl
theorem Zn8:Zp Tryz.prog 53:=by
 unfold Zp
 kernel_rfl
theorem Zy7:Z3r Zch Zgo Zg2:=fun g x cs h=>by
 obtain ⟨A,c,e,_⟩:=h.2 _ (List.mem_of_getElem? (i:=0) rfl)
 exact ⟨(A,x.Acts.length,c),h.1,(List.forall_mem_cons.2 ⟨e,(fun _ h=>by cases h)⟩)⟩
theorem Zy6:Z3f Zch Zgo Zg2 (fun x:Zbm=>x.Acts) Z4:=fun g x s cs h hr=>⟨h.1,(List.forall_mem_cons.2 ⟨(Zzl (h.2 _ (List.mem_of_getElem? (i:=0) rfl)) hr),(fun _ h=>by cases h)⟩)⟩
theorem Zbal:Ty Tryz.prog 25 Zgo:=⟨by kernel_rfl,by kernel_rfl⟩
theorem Zx7 (u:Zu):∀ (g:G) (cs ys:List Value),Z4.K g u cs → Zi.K g u.Make ys → 0 + 5 + ys.length ≤ cs.length → Z4.K g u (Z9 cs (0 + 5) ys):=fun g cs ys hk hy _=>by
 have hc:cs.length=14:=hk.1
 have hl:ys.length=8:=Zi.len hy
 exact ⟨(Zc9 (by omega)).trans hc,(List.forall_mem_cons.2 ⟨(by show (Kd.int .i64).K g u.Kind (seg (Z9 cs (0 + 5) ys) 0 1);rw [Nat.zero_add,Z8 (by omega) (by omega)];exact hk.2 _ (List.mem_of_getElem? (i:=0) rfl)),(List.forall_mem_cons.2 ⟨(by show Kd.str.K g u.Key (seg (Z9 cs (0 + 5) ys) 1 1);rw [Nat.zero_add,Z8 (by omega) (by omega)];exact hk.2 _ (List.mem_of_getElem? (i:=1) rfl)),(List.forall_mem_cons.2 ⟨(by show (Kd.int .i64).K g u.N (seg (Z9 cs (0 + 5) ys) 2 1);rw [Nat.zero_add,Z8 (by omega) (by omega)];exact hk.2 _ (List.mem_of_getElem? (i:=2) rfl)),(List.forall_mem_cons.2 ⟨(by show Kd.flt.K g u.X (seg (Z9 cs (0 + 5) ys) 3 1);rw [Nat.zero_add,Z8 (by omega) (by omega)];exact hk.2 _ (List.mem_of_getElem? (i:=3) rfl)),(List.forall_mem_cons.2 ⟨(by show Kd.str.K g u.S (seg (Z9 cs (0 + 5) ys) 4 1);rw [Nat.zero_add,Z8 (by omega) (by omega)];exact hk.2 _ (List.mem_of_getElem? (i:=4) rfl)),(List.forall_mem_cons.2 ⟨(by show Zi.K g u.Make (seg (Z9 cs (0 + 5) ys) 5 8);rw [Nat.zero_add,Zdg (by omega) hl];exact hy),(List.forall_mem_cons.2 ⟨(by show Kd.bool.K g u.Must (seg (Z9 cs (0 + 5) ys) 13 1);rw [Nat.zero_add,Z8 (by omega) (by omega)];exact hk.2 _ (List.mem_of_getElem? (i:=6) rfl)),(fun _ h=>by cases h)⟩)⟩)⟩)⟩)⟩)⟩)⟩)⟩
theorem Zq7:TE Tryz.prog 26 9 Kd.str 16:=TE.of Tryz.underlying26 (by kernel_rfl) (by decide) (by decide)
theorem Z5z {N d:Nat} {o:Oper} {uses:Zbj} {x0:Operand} {v0:Bool} (hop:o.op=.build 135 #[(0,x0)]) (hd:o.dst=some d) (h0:Opd uses x0 (Kd.bool.pd v0)):OB Tryz.prog N o uses [(d,Zdb.pd { text:=v0,num:=false,bounds:=false,real:=false,list:=false })] []:=by
 refine Zc6 hop hd fun a g hh=>?_
 obtain ⟨c0,k0,e0⟩:=h0 a g hh
 obtain rfl:=k0
 refine ⟨.agg #[.bool v0,.bool false,.bool false,.bool false,.bool false],?_,[.bool v0,.bool false,.bool false,.bool false,.bool false],⟨rfl,(List.forall_mem_cons.2 ⟨rfl,(List.forall_mem_cons.2 ⟨(rfl),(List.forall_mem_cons.2 ⟨(rfl),(List.forall_mem_cons.2 ⟨(rfl),(List.forall_mem_cons.2 ⟨(rfl),(fun _ h=>by cases h)⟩)⟩)⟩)⟩)⟩)⟩,rfl⟩
 simp only [List.map_toArray,List.map_cons,List.map_nil,e0]
 exact Zcy Tryz.underlying135 (zero:=.agg #[.bool false,.bool false,.bool false,.bool false,.bool false]) (by kernel_rfl) (places:=[(0,1),(1,1),(2,1),(3,1),(4,1)]) (by kernel_rfl) (by kernel_rfl) g.w
theorem Zj2:Ty Tryz.prog 135 Zdb:=⟨by kernel_rfl,by kernel_rfl⟩
theorem Z50 {N d:Nat} {o:Oper} {uses:Zbj} {x1:Operand} {v1:Bool} (hop:o.op=.build 135 #[(1,x1)]) (hd:o.dst=some d) (h1:Opd uses x1 (Kd.bool.pd v1)):OB Tryz.prog N o uses [(d,Zdb.pd { text:=false,num:=v1,bounds:=false,real:=false,list:=false })] []:=by
 refine Zc6 hop hd fun a g hh=>?_
 obtain ⟨c1,k1,e1⟩:=h1 a g hh
 obtain rfl:=k1
 refine ⟨.agg #[.bool false,.bool v1,.bool false,.bool false,.bool false],?_,[.bool false,.bool v1,.bool false,.bool false,.bool false],⟨rfl,(List.forall_mem_cons.2 ⟨(rfl),(List.forall_mem_cons.2 ⟨rfl,(List.forall_mem_cons.2 ⟨(rfl),(List.forall_mem_cons.2 ⟨(rfl),(List.forall_mem_cons.2 ⟨(rfl),(fun _ h=>by cases h)⟩)⟩)⟩)⟩)⟩)⟩,rfl⟩
 simp only [List.map_toArray,List.map_cons,List.map_nil,e1]
 exact Zcy Tryz.underlying135 (zero:=.agg #[.bool false,.bool false,.bool false,.bool false,.bool false]) (by kernel_rfl) (places:=[(0,1),(1,1),(2,1),(3,1),(4,1)]) (by kernel_rfl) (by kernel_rfl) g.w
theorem Z2u {N d:Nat} {o:Oper} {uses:Zbj} {x1:Operand} {x2:Operand} {v1:Bool} {v2:Bool} (hop:o.op=.build 135 #[(1,x1),(2,x2)]) (hd:o.dst=some d) (h1:Opd uses x1 (Kd.bool.pd v1)) (h2:Opd uses x2 (Kd.bool.pd v2)):OB Tryz.prog N o uses [(d,Zdb.pd { text:=false,num:=v1,bounds:=v2,real:=false,list:=false })] []:=by
 refine Zc6 hop hd fun a g hh=>?_
 obtain ⟨c1,k1,e1⟩:=h1 a g hh
 obtain rfl:=k1
 obtain ⟨c2,k2,e2⟩:=h2 a g hh
 obtain rfl:=k2
 refine ⟨.agg #[.bool false,.bool v1,.bool v2,.bool false,.bool false],?_,[.bool false,.bool v1,.bool v2,.bool false,.bool false],⟨rfl,(List.forall_mem_cons.2 ⟨(rfl),(List.forall_mem_cons.2 ⟨rfl,(List.forall_mem_cons.2 ⟨rfl,(List.forall_mem_cons.2 ⟨(rfl),(List.forall_mem_cons.2 ⟨(rfl),(fun _ h=>by cases h)⟩)⟩)⟩)⟩)⟩)⟩,rfl⟩
 simp only [List.map_toArray,List.map_cons,List.map_nil,e1,e2]
 exact Zcy Tryz.underlying135 (zero:=.agg #[.bool false,.bool false,.bool false,.bool false,.bool false]) (by kernel_rfl) (places:=[(0,1),(1,1),(2,1),(3,1),(4,1)]) (by kernel_rfl) (by kernel_rfl) g.w
theorem Z6m {N d:Nat} {o:Oper} {uses:Zbj} {x3:Operand} {v3:Bool} (hop:o.op=.build 135 #[(3,x3)]) (hd:o.dst=some d) (h3:Opd uses x3 (Kd.bool.pd v3)):OB Tryz.prog N o uses [(d,Zdb.pd { text:=false,num:=false,bounds:=false,real:=v3,list:=false })] []:=by
 refine Zc6 hop hd fun a g hh=>?_
 obtain ⟨c3,k3,e3⟩:=h3 a g hh
 obtain rfl:=k3
 refine ⟨.agg #[.bool false,.bool false,.bool false,.bool v3,.bool false],?_,[.bool false,.bool false,.bool false,.bool v3,.bool false],⟨rfl,(List.forall_mem_cons.2 ⟨(rfl),(List.forall_mem_cons.2 ⟨(rfl),(List.forall_mem_cons.2 ⟨(rfl),(List.forall_mem_cons.2 ⟨rfl,(List.forall_mem_cons.2 ⟨(rfl),(fun _ h=>by cases h)⟩)⟩)⟩)⟩)⟩)⟩,rfl⟩
 simp only [List.map_toArray,List.map_cons,List.map_nil,e3]
 exact Zcy Tryz.underlying135 (zero:=.agg #[.bool false,.bool false,.bool false,.bool false,.bool false]) (by kernel_rfl) (places:=[(0,1),(1,1),(2,1),(3,1),(4,1)]) (by kernel_rfl) (by kernel_rfl) g.w
theorem Z6p {N d:Nat} {o:Oper} {uses:Zbj} {x4:Operand} {v4:Bool} (hop:o.op=.build 135 #[(4,x4)]) (hd:o.dst=some d) (h4:Opd uses x4 (Kd.bool.pd v4)):OB Tryz.prog N o uses [(d,Zdb.pd { text:=false,num:=false,bounds:=false,real:=false,list:=v4 })] []:=by
 refine Zc6 hop hd fun a g hh=>?_
 obtain ⟨c4,k4,e4⟩:=h4 a g hh
 obtain rfl:=k4
 refine ⟨.agg #[.bool false,.bool false,.bool false,.bool false,.bool v4],?_,[.bool false,.bool false,.bool false,.bool false,.bool v4],⟨rfl,(List.forall_mem_cons.2 ⟨(rfl),(List.forall_mem_cons.2 ⟨(rfl),(List.forall_mem_cons.2 ⟨(rfl),(List.forall_mem_cons.2 ⟨(rfl),(List.forall_mem_cons.2 ⟨rfl,(fun _ h=>by cases h)⟩)⟩)⟩)⟩)⟩)⟩,rfl⟩
 simp only [List.map_toArray,List.map_cons,List.map_nil,e4]
 exact Zcy Tryz.underlying135 (zero:=.agg #[.bool false,.bool false,.bool false,.bool false,.bool false]) (by kernel_rfl) (places:=[(0,1),(1,1),(2,1),(3,1),(4,1)]) (by kernel_rfl) (by kernel_rfl) g.w
theorem Z77 {N d:Nat} {o:Oper} {uses:Zbj}   (hop:o.op=.build 135 #[]) (hd:o.dst=some d) :OB Tryz.prog N o uses [(d,Zdb.pd { text:=false,num:=false,bounds:=false,real:=false,list:=false })] []:=by
 refine Zc6 hop hd fun a g hh=>?_
 refine ⟨.agg #[.bool false,.bool false,.bool false,.bool false,.bool false],?_,[.bool false,.bool false,.bool false,.bool false,.bool false],⟨rfl,(List.forall_mem_cons.2 ⟨(rfl),(List.forall_mem_cons.2 ⟨(rfl),(List.forall_mem_cons.2 ⟨(rfl),(List.forall_mem_cons.2 ⟨(rfl),(List.forall_mem_cons.2 ⟨(rfl),(fun _ h=>by cases h)⟩)⟩)⟩)⟩)⟩)⟩,rfl⟩
 simp only [List.map_toArray,List.map_cons,List.map_nil,List.map_nil]
 exact Zcy Tryz.underlying135 (zero:=.agg #[.bool false,.bool false,.bool false,.bool false,.bool false]) (by kernel_rfl) (places:=[(0,1),(1,1),(2,1),(3,1),(4,1)]) (by kernel_rfl) (by kernel_rfl) g.w
theorem Zz9:Ext Tryz.prog 134 Extern.MathFloatBits.float64frombits:=⟨_,Tryz.func134,rfl,rfl,by kernel_rfl,by kernel_rfl⟩
theorem Z94:Zp Tryz.prog 132:=by
 unfold Zp
 kernel_rfl
theorem Zod:Zp Tryz.prog 100:=by
 unfold Zp
 kernel_rfl
theorem Zvg:Ext Tryz.prog 97 Extern.MathFloatBits.float64bits:=⟨_,Tryz.func97,rfl,rfl,by kernel_rfl,by kernel_rfl⟩
theorem Zyn:Zp Tryz.prog 89:=by
 unfold Zp
 kernel_rfl
theorem Z63:Fld Tryz.prog 135 0 Zdb Kd.bool (fun x:Zcg=>x.text):=Fld.of ⟨_,Kd.bool,0,fun x:Zcg=>x.text⟩ (List.mem_of_getElem? (i:=0) rfl) 0 rfl (by kernel_rfl) (by decide)
theorem ty_4:Ty Tryz.prog 4 Kd.bool:=⟨by kernel_rfl,by kernel_rfl⟩
theorem Zi9:Fld Tryz.prog 38 6 Zi Kd.str (fun x:Ze=>x.Text):=Fld.of ⟨_,Kd.str,6,fun x:Ze=>x.Text⟩ (List.mem_of_getElem? (i:=6) rfl) 6 rfl (by kernel_rfl) (by decide)
theorem ty_9:Ty Tryz.prog 9 Kd.str:=⟨by kernel_rfl,by kernel_rfl⟩
theorem Z62:Fld Tryz.prog 135 1 Zdb Kd.bool (fun x:Zcg=>x.num):=Fld.of ⟨_,Kd.bool,1,fun x:Zcg=>x.num⟩ (List.mem_of_getElem? (i:=1) rfl) 1 rfl (by kernel_rfl) (by decide)
theorem Zc1:Fld Tryz.prog 38 1 Zi (Kd.int .i64) (fun x:Ze=>x.Num):=Fld.of ⟨_,(Kd.int .i64),1,fun x:Ze=>x.Num⟩ (List.mem_of_getElem? (i:=1) rfl) 1 rfl (by kernel_rfl) (by decide)
theorem ty_2:Ty Tryz.prog 2 (Kd.int .i64):=⟨by kernel_rfl,by kernel_rfl⟩
theorem Zzd:Fld Tryz.prog 135 2 Zdb Kd.bool (fun x:Zcg=>x.bounds):=Fld.of ⟨_,Kd.bool,2,fun x:Zcg=>x.bounds⟩ (List.mem_of_getElem? (i:=2) rfl) 2 rfl (by kernel_rfl) (by decide)
theorem Zjp:Fld Tryz.prog 38 2 Zi (Kd.int .i64) (fun x:Ze=>x.Low):=Fld.of ⟨_,(Kd.int .i64),2,fun x:Ze=>x.Low⟩ (List.mem_of_getElem? (i:=2) rfl) 2 rfl (by kernel_rfl) (by decide)
theorem Zjo:Fld Tryz.prog 38 3 Zi (Kd.int .i64) (fun x:Ze=>x.High):=Fld.of ⟨_,(Kd.int .i64),3,fun x:Ze=>x.High⟩ (List.mem_of_getElem? (i:=3) rfl) 3 rfl (by kernel_rfl) (by decide)
theorem Z6i:Fld Tryz.prog 135 3 Zdb Kd.bool (fun x:Zcg=>x.real):=Fld.of ⟨_,Kd.bool,3,fun x:Zcg=>x.real⟩ (List.mem_of_getElem? (i:=3) rfl) 3 rfl (by kernel_rfl) (by decide)
theorem Zgc:Fld Tryz.prog 38 4 Zi Kd.flt (fun x:Ze=>x.Real):=Fld.of ⟨_,Kd.flt,4,fun x:Ze=>x.Real⟩ (List.mem_of_getElem? (i:=4) rfl) 4 rfl (by kernel_rfl) (by decide)
theorem Zc3:Ty Tryz.prog 35 Kd.flt:=⟨by kernel_rfl,by kernel_rfl⟩
theorem Ztk:Zp Tryz.prog 62:=by
 unfold Zp
 kernel_rfl
theorem Z0v:Fld Tryz.prog 135 4 Zdb Kd.bool (fun x:Zcg=>x.list):=Fld.of ⟨_,Kd.bool,4,fun x:Zcg=>x.list⟩ (List.mem_of_getElem? (i:=4) rfl) 4 rfl (by kernel_rfl) (by decide)
theorem Zgz:Fld Tryz.prog 38 5 Zi (Kd.int .i64) (fun x:Ze=>x.Cap):=Fld.of ⟨_,(Kd.int .i64),5,fun x:Ze=>x.Cap⟩ (List.mem_of_getElem? (i:=5) rfl) 5 rfl (by kernel_rfl) (by decide)
theorem ty_3:Ty Tryz.prog 3 (Kd.int .i64):=⟨by kernel_rfl,by kernel_rfl⟩
theorem Zfv:Fld Tryz.prog 116 0 Zz Kd.flt (fun x:Zl=>x.Score):=Fld.of ⟨_,Kd.flt,0,fun x:Zl=>x.Score⟩ (List.mem_of_getElem? (i:=0) rfl) 0 rfl (by kernel_rfl) (by decide)
theorem Zzf:Zp Tryz.prog 133:=by
 unfold Zp
 kernel_rfl
theorem Zd4:Fld Tryz.prog 116 1 Zz Kd.str (fun x:Zl=>x.Name):=Fld.of ⟨_,Kd.str,1,fun x:Zl=>x.Name⟩ (List.mem_of_getElem? (i:=1) rfl) 1 rfl (by kernel_rfl) (by decide)
theorem Ze4:(Tryz.prog.info? 116).map (·.size)=some Zz.sz:=by kernel_rfl
theorem Zea:Ty Tryz.prog 116 Zz:=⟨by kernel_rfl,by kernel_rfl⟩
theorem Z23:Zp Tryz.prog 77:=by
 unfold Zp
 kernel_rfl
theorem Zy4:Zp Tryz.prog 101:=by
 unfold Zp
 kernel_rfl
theorem Zge:Fld Tryz.prog 38 0 Zi (Kd.int .i64) (fun x:Ze=>x.Kind):=Fld.of ⟨_,(Kd.int .i64),0,fun x:Ze=>x.Kind⟩ (List.mem_of_getElem? (i:=0) rfl) 0 rfl (by kernel_rfl) (by decide)
theorem Zbcj:Zp Tryz.prog 75:=by
 unfold Zp
 kernel_rfl
theorem Zbcr:Zp Tryz.prog 76:=by
 unfold Zp
 kernel_rfl
theorem Zbc3:Zp Tryz.prog 78:=by
 unfold Zp
 kernel_rfl
theorem Z8a {N d:Nat} {o:Oper} {uses:Zbj}   (hop:o.op=.build 145 #[]) (hd:o.dst=some d) :OB Tryz.prog N o uses [(d,Ze0.pd { word:=ByteArray.empty,on:=(0:Int),has:=ByteArray.empty })] []:=by
 refine Zc6 hop hd fun a g hh=>?_
 refine ⟨.agg #[.string ByteArray.empty,.int .i64 0,.string ByteArray.empty],?_,[.string ByteArray.empty,.int .i64 0,.string ByteArray.empty],⟨rfl,(List.forall_mem_cons.2 ⟨(rfl),(List.forall_mem_cons.2 ⟨(rfl),(List.forall_mem_cons.2 ⟨(rfl),(fun _ h=>by cases h)⟩)⟩)⟩)⟩,rfl⟩
 simp only [List.map_toArray,List.map_cons,List.map_nil,List.map_nil]
 exact Zcy Tryz.underlying145 (zero:=.agg #[.string ByteArray.empty,.int .i64 0,.string ByteArray.empty]) (by kernel_rfl) (places:=[(0,1),(1,1),(2,1)]) (by kernel_rfl) (by kernel_rfl) g.w
theorem Zlc:Ty Tryz.prog 145 Ze0:=⟨by kernel_rfl,by kernel_rfl⟩
theorem Zbat:(Tryz.prog.info? 145).map (·.size)=some Ze0.sz:=by kernel_rfl
theorem Zbcf:Zp Tryz.prog 64:=by
 unfold Zp
 kernel_rfl
theorem Zbcc:Zp Tryz.prog 63:=by
 unfold Zp
 kernel_rfl
theorem Z0o:Fld Tryz.prog 145 2 Ze0 Kd.str (fun x:Zdn=>x.has):=Fld.of ⟨_,Kd.str,2,fun x:Zdn=>x.has⟩ (List.mem_of_getElem? (i:=2) rfl) 2 rfl (by kernel_rfl) (by decide)
theorem Zvo:Zp Tryz.prog 105:=by
 unfold Zp
 kernel_rfl
theorem Zed:Fld Tryz.prog 40 2 Z4 (Kd.int .i64) (fun x:Zu=>x.N):=Fld.of ⟨_,(Kd.int .i64),2,fun x:Zu=>x.N⟩ (List.mem_of_getElem? (i:=2) rfl) 2 rfl (by kernel_rfl) (by decide)
theorem Zjn:Fld Tryz.prog 40 3 Z4 Kd.flt (fun x:Zu=>x.X):=Fld.of ⟨_,Kd.flt,3,fun x:Zu=>x.X⟩ (List.mem_of_getElem? (i:=3) rfl) 3 rfl (by kernel_rfl) (by decide)
theorem Zf0:Fld Tryz.prog 40 4 Z4 Kd.str (fun x:Zu=>x.S):=Fld.of ⟨_,Kd.str,4,fun x:Zu=>x.S⟩ (List.mem_of_getElem? (i:=4) rfl) 4 rfl (by kernel_rfl) (by decide)
theorem Znc {N d:Nat} {o:Oper} {uses:Zbj}   (hop:o.op=.build 38 #[]) (hd:o.dst=some d) :OB Tryz.prog N o uses [(d,Zi.pd { Kind:=(0:Int),Num:=(0:Int),Low:=(0:Int),High:=(0:Int),Real:=(0:Nat),Cap:=(0:Int),Text:=ByteArray.empty,List:=([]:List Zl) })] []:=by
 refine Zc6 hop hd fun a g hh=>?_
 refine ⟨.agg #[.int .i64 0,.int .i64 0,.int .i64 0,.int .i64 0,.float .f64 0,.int .i64 0,.string ByteArray.empty,.slice none 0 0],?_,[.int .i64 0,.int .i64 0,.int .i64 0,.int .i64 0,.float .f64 0,.int .i64 0,.string ByteArray.empty,.slice none 0 0],⟨rfl,(List.forall_mem_cons.2 ⟨(rfl),(List.forall_mem_cons.2 ⟨(rfl),(List.forall_mem_cons.2 ⟨(rfl),(List.forall_mem_cons.2 ⟨(rfl),(List.forall_mem_cons.2 ⟨(rfl),(List.forall_mem_cons.2 ⟨(rfl),(List.forall_mem_cons.2 ⟨(rfl),(List.forall_mem_cons.2 ⟨(⟨none,0,rfl,Nat.le_refl _,Nat.zero_le _,.inl rfl⟩),(fun _ h=>by cases h)⟩)⟩)⟩)⟩)⟩)⟩)⟩)⟩)⟩,rfl⟩
 simp only [List.map_toArray,List.map_cons,List.map_nil,List.map_nil]
 exact Zcy Tryz.underlying38 (zero:=.agg #[.int .i64 0,.int .i64 0,.int .i64 0,.int .i64 0,.float .f64 0,.int .i64 0,.string ByteArray.empty,.slice none 0 0]) (by kernel_rfl) (places:=[(0,1),(1,1),(2,1),(3,1),(4,1),(5,1),(6,1),(7,1)]) (by kernel_rfl) (by kernel_rfl) g.w
theorem Z7w:Zp Tryz.prog 42:=by
 unfold Zp
 kernel_rfl
theorem Zzv:Fld Tryz.prog 145 1 Ze0 (Kd.int .i64) (fun x:Zdn=>x.on):=Fld.of ⟨_,(Kd.int .i64),1,fun x:Zdn=>x.on⟩ (List.mem_of_getElem? (i:=1) rfl) 1 rfl (by kernel_rfl) (by decide)
theorem Zdh:Fld Tryz.prog 40 0 Z4 (Kd.int .i64) (fun x:Zu=>x.Kind):=Fld.of ⟨_,(Kd.int .i64),0,fun x:Zu=>x.Kind⟩ (List.mem_of_getElem? (i:=0) rfl) 0 rfl (by kernel_rfl) (by decide)
theorem Z7l:Zp Tryz.prog 85:=by
 unfold Zp
 kernel_rfl
theorem Z6f:Fld Tryz.prog 145 0 Ze0 Kd.str (fun x:Zdn=>x.word):=Fld.of ⟨_,Kd.str,0,fun x:Zdn=>x.word⟩ (List.mem_of_getElem? (i:=0) rfl) 0 rfl (by kernel_rfl) (by decide)
theorem Zic:Fld Tryz.prog 40 1 Z4 Kd.str (fun x:Zu=>x.Key):=Fld.of ⟨_,Kd.str,1,fun x:Zu=>x.Key⟩ (List.mem_of_getElem? (i:=1) rfl) 1 rfl (by kernel_rfl) (by decide)
theorem Zh1:Ty Tryz.prog 40 Z4:=⟨by kernel_rfl,by kernel_rfl⟩
theorem Zbb4:Zp Tryz.prog 86:=by
 unfold Zp
 kernel_rfl
theorem Zbb9:Zp Tryz.prog 87:=by
 unfold Zp
 kernel_rfl
theorem Z2s:Zp Tryz.prog 51:=by
 unfold Zp
 kernel_rfl
theorem Z7e:Zp Tryz.prog 57:=by
 unfold Zp
 kernel_rfl
theorem Z65:Zp Tryz.prog 34:=by
 unfold Zp
 kernel_rfl
theorem Zbbw:Zp Tryz.prog 35:=by
 unfold Zp
 kernel_rfl
theorem Zbw:Ty Tryz.prog 30 Zy:=⟨by kernel_rfl,by kernel_rfl⟩
structure Zhc where
 Code:Int
 At:Int
 Answers:SlV
def Zve:List (Kd.FK Zhc):=[⟨_,(Kd.int .i64),0,fun x:Zhc=>x.Code⟩,
 ⟨_,(Kd.int .i64),1,fun x:Zhc=>x.At⟩,
 ⟨_,Kd.raw,2,fun x:Zhc=>x.Answers⟩]
def Zb8:Kd Zhc:=Kd.struct 3 Zve (by rfl)
def Zcb (x:Z1) (s:SlV):Zhc:=⟨x.Code,x.At,s⟩
theorem Zu4:∀ g,Zb8.K g (Zcb ((default:Z1)) (none,0,0)) [.int .i64 0,.int .i64 0,.slice none 0 0]:=fun g=>⟨rfl,(List.forall_mem_cons.2 ⟨(rfl),(List.forall_mem_cons.2 ⟨(rfl),(List.forall_mem_cons.2 ⟨rfl,(fun _ h=>by cases h)⟩)⟩)⟩)⟩
theorem Zu5 {x:Z1} {e j:Nat}:∀ (g:G) (s:SlV) (cs:List Value),Zb8.K g (Zcb x s) cs → (hpL (pRow Zm e j x.Answers)).p g s → Zbx.K g x cs:=fun g s cs h hr=>⟨h.1,(List.forall_mem_cons.2 ⟨(h.2 _ (List.mem_of_getElem? (i:=0) rfl)),(List.forall_mem_cons.2 ⟨(h.2 _ (List.mem_of_getElem? (i:=1) rfl)),(List.forall_mem_cons.2 ⟨(Zzl (h.2 _ (List.mem_of_getElem? (i:=2) rfl)) hr.1),(fun _ h=>by cases h)⟩)⟩)⟩)⟩
theorem Zv2 {x:Z1} {g:G} {cs ys:List Value} {s0 s1:SlV} (hk:Zb8.K g (Zcb x s0) cs) (hy:Kd.raw.K g s1 ys):2 + ys.length ≤ cs.length ∧ Zb8.K g (Zcb x s1) (Z9 cs 2 ys):=by
 have hc:cs.length=3:=hk.1
 have hl:ys.length=1:=Kd.raw.len hy
 exact ⟨by omega,(Zc9 (by omega)).trans hc,(List.forall_mem_cons.2 ⟨(by show (Kd.int .i64).K g x.Code (seg (Z9 cs 2 ys) 0 1);rw [Z8 (by omega) (by omega)];exact hk.2 _ (List.mem_of_getElem? (i:=0) rfl)),(List.forall_mem_cons.2 ⟨(by show (Kd.int .i64).K g x.At (seg (Z9 cs 2 ys) 1 1);rw [Z8 (by omega) (by omega)];exact hk.2 _ (List.mem_of_getElem? (i:=1) rfl)),(List.forall_mem_cons.2 ⟨(by show Kd.raw.K g s1 (seg (Z9 cs 2 ys) 2 1);rw [Zdg (by omega) hl];exact hy),(fun _ h=>by cases h)⟩)⟩)⟩)⟩
theorem Zu0:Fld Tryz.prog 49 2 Zb8 Kd.raw (fun x:Zhc=>x.Answers):=Fld.of ⟨_,Kd.raw,2,fun x:Zhc=>x.Answers⟩ (List.mem_of_getElem? (i:=2) rfl) 2 rfl (by kernel_rfl) (by decide)
theorem Zpj:Ty Tryz.prog 47 Kd.raw:=⟨by kernel_rfl,by kernel_rfl⟩
structure Zjx where
 d:Zbm
 split:List ByteArray
 now:Zn
 out:Zhc
 over:Bool
def Zyc:List (Kd.FK Zjx):=[⟨_,Zch,0,fun x:Zjx=>x.d⟩,
 ⟨_,Kd.str.sl,1,fun x:Zjx=>x.split⟩,
 ⟨_,Zy,2,fun x:Zjx=>x.now⟩,
 ⟨_,Zb8,4,fun x:Zjx=>x.out⟩,
 ⟨_,Kd.bool,7,fun x:Zjx=>x.over⟩]
def Zbp:Kd Zjx:=Kd.struct 8 Zyc (by rfl)
def Zcc (x:Z3) (s:SlV):Zjx:=⟨x.d,x.split,x.now,Zcb x.out s,x.over⟩
abbrev Zdo:Z3 → List Zg:=fun x=>x.out.Answers
abbrev Zcs:ObR Z3:=obR Zbp Zcc Zdo Zm 68
theorem Z5o:Ty Tryz.prog 49 Zb8:=⟨by kernel_rfl,by kernel_rfl⟩
theorem Zy8 {x:Z3} {g:G} {s:SlV} {cs:List Value} (h:Zbp.K g (Zcc x s) cs):Z4.sl.K g x.d.Acts (seg cs 0 1):=by
 have h1:Zch.K g x.d (seg cs 0 1):=h.2 _ (List.mem_of_getElem? (i:=0) rfl)
 have h2:Z4.sl.K g x.d.Acts (seg (seg cs 0 1) 0 1):=h1.2 _ (List.mem_of_getElem? (i:=0) rfl)
 rwa [Zlr (by decide)] at h2
theorem kp_1 {x:Z3} {g:G} {s:SlV} {cs:List Value} (h:Zbp.K g (Zcc x s) cs):Kd.str.sl.K g x.split (seg cs 1 1):=h.2 _ (List.mem_of_getElem? (i:=1) rfl)
theorem kp_2 {x:Z3} {g:G} {s:SlV} {cs:List Value} (h:Zbp.K g (Zcc x s) cs):Zy.K g x.now (seg cs 2 2):=h.2 _ (List.mem_of_getElem? (i:=2) rfl)
theorem Z5r {x:Z3} {g:G} {s:SlV} {cs:List Value} (h:Zbp.K g (Zcc x s) cs):(Kd.int .i64).K g x.out.Code (seg cs 4 1):=by
 have h1:Zb8.K g (Zcb x.out s) (seg cs 4 3):=h.2 _ (List.mem_of_getElem? (i:=3) rfl)
 have h2:(Kd.int .i64).K g x.out.Code (seg (seg cs 4 3) 0 1):=h1.2 _ (List.mem_of_getElem? (i:=0) rfl)
 rwa [Zlr (by decide)] at h2
theorem Z9n {x:Z3} {g:G} {s:SlV} {cs:List Value} (h:Zbp.K g (Zcc x s) cs):(Kd.int .i64).K g x.out.At (seg cs 5 1):=by
 have h1:Zb8.K g (Zcb x.out s) (seg cs 4 3):=h.2 _ (List.mem_of_getElem? (i:=3) rfl)
 have h2:(Kd.int .i64).K g x.out.At (seg (seg cs 4 3) 1 1):=h1.2 _ (List.mem_of_getElem? (i:=1) rfl)
 rwa [Zlr (by decide)] at h2
theorem Z46 {x:Z3} {g:G} {s:SlV} {cs:List Value} (h:Zbp.K g (Zcc x s) cs):Kd.raw.K g s (seg cs 6 1):=by
 have h1:Zb8.K g (Zcb x.out s) (seg cs 4 3):=h.2 _ (List.mem_of_getElem? (i:=3) rfl)
 have h2:Kd.raw.K g s (seg (seg cs 4 3) 2 1):=h1.2 _ (List.mem_of_getElem? (i:=2) rfl)
 rwa [Zlr (by decide)] at h2
theorem kp_4 {x:Z3} {g:G} {s:SlV} {cs:List Value} (h:Zbp.K g (Zcc x s) cs):Kd.bool.K g x.over (seg cs 7 1):=h.2 _ (List.mem_of_getElem? (i:=4) rfl)
theorem Zbau {jl:Nat} {x:Z3} {g:G} {s:SlV} {cs:List Value} (h:Zbp.K g (Zcc x s) cs) (hr:(hpL (pRow Zm 68 jl (Zdo x))).p g s):Zbx.K g x.out (seg cs 4 3):=Zu5 g s _ (h.2 _ (List.mem_of_getElem? (i:=3) rfl)) hr
theorem wp_2 {u:Zn} {ys:List Value} {x:Z3} {g:G} {s:SlV} {cs:List Value} (h:Zbp.K g (Zcc x s) cs) (hy:Zy.K g u ys):2 + ys.length ≤ cs.length ∧ Zbp.K g (Zcc { x with now:=u } s) (Z9 cs 2 ys):=by
 have hc:cs.length=8:=h.1
 have hl:ys.length=2:=Zy.len hy
 exact ⟨by omega,(Zc9 (by omega)).trans hc,(List.forall_mem_cons.2 ⟨(by show Zch.K g x.d (seg (Z9 cs 2 ys) 0 1);rw [Z8 (by omega) (by omega)];exact h.2 _ (List.mem_of_getElem? (i:=0) rfl)),(List.forall_mem_cons.2 ⟨(by show Kd.str.sl.K g x.split (seg (Z9 cs 2 ys) 1 1);rw [Z8 (by omega) (by omega)];exact h.2 _ (List.mem_of_getElem? (i:=1) rfl)),(List.forall_mem_cons.2 ⟨(by show Zy.K g u (seg (Z9 cs 2 ys) 2 2);rw [Zdg (by omega) hl];exact hy),(List.forall_mem_cons.2 ⟨(by show Zb8.K g (Zcb x.out s) (seg (Z9 cs 2 ys) 4 3);rw [Z8 (by omega) (by omega)];exact h.2 _ (List.mem_of_getElem? (i:=3) rfl)),(List.forall_mem_cons.2 ⟨(by show Kd.bool.K g x.over (seg (Z9 cs 2 ys) 7 1);rw [Z8 (by omega) (by omega)];exact h.2 _ (List.mem_of_getElem? (i:=4) rfl)),(fun _ h=>by cases h)⟩)⟩)⟩)⟩)⟩)⟩
theorem wp_4 {u:Bool} {ys:List Value} {x:Z3} {g:G} {s:SlV} {cs:List Value} (h:Zbp.K g (Zcc x s) cs) (hy:Kd.bool.K g u ys):7 + ys.length ≤ cs.length ∧ Zbp.K g (Zcc { x with over:=u } s) (Z9 cs 7 ys):=by
 have hc:cs.length=8:=h.1
 have hl:ys.length=1:=Kd.bool.len hy
 exact ⟨by omega,(Zc9 (by omega)).trans hc,(List.forall_mem_cons.2 ⟨(by show Zch.K g x.d (seg (Z9 cs 7 ys) 0 1);rw [Z8 (by omega) (by omega)];exact h.2 _ (List.mem_of_getElem? (i:=0) rfl)),(List.forall_mem_cons.2 ⟨(by show Kd.str.sl.K g x.split (seg (Z9 cs 7 ys) 1 1);rw [Z8 (by omega) (by omega)];exact h.2 _ (List.mem_of_getElem? (i:=1) rfl)),(List.forall_mem_cons.2 ⟨(by show Zy.K g x.now (seg (Z9 cs 7 ys) 2 2);rw [Z8 (by omega) (by omega)];exact h.2 _ (List.mem_of_getElem? (i:=2) rfl)),(List.forall_mem_cons.2 ⟨(by show Zb8.K g (Zcb x.out s) (seg (Z9 cs 7 ys) 4 3);rw [Z8 (by omega) (by omega)];exact h.2 _ (List.mem_of_getElem? (i:=3) rfl)),(List.forall_mem_cons.2 ⟨(by show Kd.bool.K g u (seg (Z9 cs 7 ys) 7 1);rw [Zdg (by omega) hl];exact hy),(fun _ h=>by cases h)⟩)⟩)⟩)⟩)⟩)⟩
theorem Z4q {u:Z1} {ys:List Value} {x:Z3} {g:G} {s:SlV} {cs:List Value} (h:Zbp.K g (Zcc x s) cs) (hy:Zb8.K g (Zcb u (none,0,0)) ys):4 + ys.length ≤ cs.length ∧ Zbp.K g (Zcc { x with out:=u } (none,0,0)) (Z9 cs 4 ys):=by
 have hc:cs.length=8:=h.1
 have hl:ys.length=3:=Zb8.len hy
 exact ⟨by omega,(Zc9 (by omega)).trans hc,(List.forall_mem_cons.2 ⟨(by show Zch.K g x.d (seg (Z9 cs 4 ys) 0 1);rw [Z8 (by omega) (by omega)];exact h.2 _ (List.mem_of_getElem? (i:=0) rfl)),(List.forall_mem_cons.2 ⟨(by show Kd.str.sl.K g x.split (seg (Z9 cs 4 ys) 1 1);rw [Z8 (by omega) (by omega)];exact h.2 _ (List.mem_of_getElem? (i:=1) rfl)),(List.forall_mem_cons.2 ⟨(by show Zy.K g x.now (seg (Z9 cs 4 ys) 2 2);rw [Z8 (by omega) (by omega)];exact h.2 _ (List.mem_of_getElem? (i:=2) rfl)),(List.forall_mem_cons.2 ⟨(by show Zb8.K g (Zcb u (none,0,0)) (seg (Z9 cs 4 ys) 4 3);rw [Zdg (by omega) hl];exact hy),(List.forall_mem_cons.2 ⟨(by show Kd.bool.K g x.over (seg (Z9 cs 4 ys) 7 1);rw [Z8 (by omega) (by omega)];exact h.2 _ (List.mem_of_getElem? (i:=4) rfl)),(fun _ h=>by cases h)⟩)⟩)⟩)⟩)⟩)⟩
theorem Zbah {l:List Zg} {s1:SlV} {ys:List Value} {x:Z3} {g:G} {s:SlV} {cs:List Value} (h:Zbp.K g (Zcc x s) cs) (hy:Kd.raw.K g s1 ys):6 + ys.length ≤ cs.length ∧ Zbp.K g (Zcc { x with out:={ x.out with Answers:=l } } s1) (Z9 cs 6 ys):=by
 have hc:cs.length=8:=h.1
 have hl:ys.length=1:=Kd.raw.len hy
 exact ⟨by omega,(Zc9 (by omega)).trans hc,(List.forall_mem_cons.2 ⟨(by show Zch.K g x.d (seg (Z9 cs 6 ys) 0 1);rw [Z8 (by omega) (by omega)];exact h.2 _ (List.mem_of_getElem? (i:=0) rfl)),(List.forall_mem_cons.2 ⟨(by show Kd.str.sl.K g x.split (seg (Z9 cs 6 ys) 1 1);rw [Z8 (by omega) (by omega)];exact h.2 _ (List.mem_of_getElem? (i:=1) rfl)),(List.forall_mem_cons.2 ⟨(by show Zy.K g x.now (seg (Z9 cs 6 ys) 2 2);rw [Z8 (by omega) (by omega)];exact h.2 _ (List.mem_of_getElem? (i:=2) rfl)),(List.forall_mem_cons.2 ⟨(show Zb8.K g _ (seg (Z9 cs 6 ys) 4 3) from ⟨by simp only [seg,List.length_take,List.length_drop,Zc9 (show 6 + ys.length ≤ cs.length by omega)];omega,(List.forall_mem_cons.2 ⟨(by show (Kd.int .i64).K g x.out.Code (seg (seg (Z9 cs 6 ys) 4 3) 0 1);rw [Zlr (by decide),Z8 (by omega) (by omega)];exact Z5r h),(List.forall_mem_cons.2 ⟨(by show (Kd.int .i64).K g x.out.At (seg (seg (Z9 cs 6 ys) 4 3) 1 1);rw [Zlr (by decide),Z8 (by omega) (by omega)];exact Z9n h),(List.forall_mem_cons.2 ⟨(by show Kd.raw.K g s1 (seg (seg (Z9 cs 6 ys) 4 3) 2 1);rw [Zlr (by decide),Zdg (by omega) hl];exact hy),(fun _ h=>by cases h)⟩)⟩)⟩)⟩),(List.forall_mem_cons.2 ⟨(by show Kd.bool.K g x.over (seg (Z9 cs 6 ys) 7 1);rw [Z8 (by omega) (by omega)];exact h.2 _ (List.mem_of_getElem? (i:=4) rfl)),(fun _ h=>by cases h)⟩)⟩)⟩)⟩)⟩)⟩
theorem Z0m {N d:Nat} {o:Oper} {uses:Zbj} {x0:Operand} {x1:Operand} {x2:Operand} {v0:Zbm} {v1:List ByteArray} {v2:Zn} (hop:o.op=.build 93 #[(0,x0),(1,x1),(2,x2)]) (hd:o.dst=some d) (h0:Opd uses x0 (Zch.pd v0)) (h1:Opd uses x1 (Kd.str.sl.pd v1)) (h2:Opd uses x2 (Zy.pd v2)):OB Tryz.prog N o uses [(d,Zbp.pd { d:=v0,split:=v1,now:=v2,out:=(Zcb ((default:Z1)) (none,0,0)),over:=false })] []:=by
 refine Zc6 hop hd fun a g hh=>?_
 obtain ⟨c0,k0,e0⟩:=h0 a g hh
 obtain ⟨u0_0,rfl⟩:=Z7m (Zch.len k0)
 obtain ⟨c1,k1,e1⟩:=h1 a g hh
 obtain ⟨A1,n1,rfl,l1⟩:=k1
 obtain ⟨c2,k2,e2⟩:=h2 a g hh
 obtain ⟨u2_0,u2_1,rfl⟩:=Zl5 (Zy.len k2)
 refine ⟨.agg #[u0_0,.slice A1 v1.length n1,u2_0,u2_1,.int .i64 0,.int .i64 0,.slice none 0 0,.bool false],?_,[u0_0,.slice A1 v1.length n1,u2_0,u2_1,.int .i64 0,.int .i64 0,.slice none 0 0,.bool false],⟨rfl,(List.forall_mem_cons.2 ⟨k0,(List.forall_mem_cons.2 ⟨⟨A1,n1,rfl,l1⟩,(List.forall_mem_cons.2 ⟨k2,(List.forall_mem_cons.2 ⟨(Zu4 _),(List.forall_mem_cons.2 ⟨(rfl),(fun _ h=>by cases h)⟩)⟩)⟩)⟩)⟩)⟩,rfl⟩
 simp only [List.map_toArray,List.map_cons,List.map_nil,e0,e1,e2]
 exact Zcy Tryz.underlying93 (zero:=.agg #[.slice none 0 0,.slice none 0 0,.pointer none,.int .i64 0,.int .i64 0,.int .i64 0,.slice none 0 0,.bool false]) (by kernel_rfl) (places:=[(0,1),(1,1),(2,2),(4,3),(7,1)]) (by kernel_rfl) (by kernel_rfl) g.w
theorem Zbb1:Zp Tryz.prog 36:=by
 unfold Zp
 kernel_rfl
theorem Zv7 {N d:Nat} {o:Oper} {uses:Zbj} {x0:Operand} {x1:Operand} {v0:Int} {v1:Int} (hop:o.op=.build 49 #[(0,x0),(1,x1)]) (hd:o.dst=some d) (h0:Opd uses x0 ((Kd.int .i64).pd v0)) (h1:Opd uses x1 ((Kd.int .i64).pd v1)):OB Tryz.prog N o uses [(d,Zb8.pd { Code:=v0,At:=v1,Answers:=((none,0,0):SlV) })] []:=by
 refine Zc6 hop hd fun a g hh=>?_
 obtain ⟨c0,k0,e0⟩:=h0 a g hh
 obtain rfl:=k0
 obtain ⟨c1,k1,e1⟩:=h1 a g hh
 obtain rfl:=k1
 refine ⟨.agg #[.int .i64 v0,.int .i64 v1,.slice none 0 0],?_,[.int .i64 v0,.int .i64 v1,.slice none 0 0],⟨rfl,(List.forall_mem_cons.2 ⟨rfl,(List.forall_mem_cons.2 ⟨rfl,(List.forall_mem_cons.2 ⟨(rfl),(fun _ h=>by cases h)⟩)⟩)⟩)⟩,rfl⟩
 simp only [List.map_toArray,List.map_cons,List.map_nil,e0,e1]
 exact Zcy Tryz.underlying49 (zero:=.agg #[.int .i64 0,.int .i64 0,.slice none 0 0]) (by kernel_rfl) (places:=[(0,1),(1,1),(2,1)]) (by kernel_rfl) (by kernel_rfl) g.w
theorem Znz:PF Tryz.prog 93 3 4:=by
 unfold PF
 kernel_rfl
theorem Zn2:PF Tryz.prog 93 4 7:=by
 unfold PF
 kernel_rfl
theorem Zq6:TE Tryz.prog 47 68 Zm 104:=TE.of Tryz.underlying47 (by kernel_rfl) (by decide) (by decide)
theorem Zi1:Ty Tryz.prog 49 Zbx:=⟨by kernel_rfl,by kernel_rfl⟩
theorem Zq2:Ty Tryz.prog 47 Zm.sl:=⟨by kernel_rfl,by kernel_rfl⟩
theorem Zyx:(Tryz.prog.info? 68).map (·.size)=some Zm.sz:=by kernel_rfl
theorem Zm3:Fld Tryz.prog 49 2 Zbx Zm.sl (fun x:Z1=>x.Answers):=Fld.of ⟨_,Zm.sl,2,fun x:Z1=>x.Answers⟩ (List.mem_of_getElem? (i:=2) rfl) 2 rfl (by kernel_rfl) (by decide)
theorem Zo9:Fld Tryz.prog 68 2 Zm Zi (fun x:Zg=>x.Rec):=Fld.of ⟨_,Zi,2,fun x:Zg=>x.Rec⟩ (List.mem_of_getElem? (i:=2) rfl) 2 rfl (by kernel_rfl) (by decide)
theorem Zbbr:Zp Tryz.prog 58:=by
 unfold Zp
 kernel_rfl
theorem Zwd:Z3r Zbx Zb8 Zcb:=fun g x cs h=>by
 obtain ⟨A,c,e,_⟩:=h.2 _ (List.mem_of_getElem? (i:=2) rfl)
 exact ⟨(A,x.Answers.length,c),h.1,(List.forall_mem_cons.2 ⟨(h.2 _ (List.mem_of_getElem? (i:=0) rfl)),(List.forall_mem_cons.2 ⟨(h.2 _ (List.mem_of_getElem? (i:=1) rfl)),(List.forall_mem_cons.2 ⟨e,(fun _ h=>by cases h)⟩)⟩)⟩)⟩
theorem Zwn:Z3f Zbx Zb8 Zcb (fun x:Z1=>x.Answers) Zm:=fun g x s cs h hr=>⟨h.1,(List.forall_mem_cons.2 ⟨(h.2 _ (List.mem_of_getElem? (i:=0) rfl)),(List.forall_mem_cons.2 ⟨(h.2 _ (List.mem_of_getElem? (i:=1) rfl)),(List.forall_mem_cons.2 ⟨(Zzl (h.2 _ (List.mem_of_getElem? (i:=2) rfl)) hr),(fun _ h=>by cases h)⟩)⟩)⟩)⟩
theorem Zbai:Ty Tryz.prog 49 Zb8:=⟨by kernel_rfl,by kernel_rfl⟩
theorem Zut (u:Zg):∀ (g:G) (cs ys:List Value),Zm.K g u cs → Zi.K g u.Rec ys → 0 + 2 + ys.length ≤ cs.length → Zm.K g u (Z9 cs (0 + 2) ys):=fun g cs ys hk hy _=>by
 have hc:cs.length=10:=hk.1
 have hl:ys.length=8:=Zi.len hy
 exact ⟨(Zc9 (by omega)).trans hc,(List.forall_mem_cons.2 ⟨(by show (Kd.int .i64).K g u.Code (seg (Z9 cs (0 + 2) ys) 0 1);rw [Nat.zero_add,Z8 (by omega) (by omega)];exact hk.2 _ (List.mem_of_getElem? (i:=0) rfl)),(List.forall_mem_cons.2 ⟨(by show (Kd.int .i64).K g u.Num (seg (Z9 cs (0 + 2) ys) 1 1);rw [Nat.zero_add,Z8 (by omega) (by omega)];exact hk.2 _ (List.mem_of_getElem? (i:=1) rfl)),(List.forall_mem_cons.2 ⟨(by show Zi.K g u.Rec (seg (Z9 cs (0 + 2) ys) 2 8);rw [Nat.zero_add,Zdg (by omega) hl];exact hy),(fun _ h=>by cases h)⟩)⟩)⟩)⟩
theorem Z9k {N d:Nat} {o:Oper} {uses:Zbj}   (hop:o.op=.build 49 #[]) (hd:o.dst=some d) :OB Tryz.prog N o uses [(d,Zbx.pd { Code:=(0:Int),At:=(0:Int),Answers:=([]:List Zg) })] []:=by
 refine Zc6 hop hd fun a g hh=>?_
 refine ⟨.agg #[.int .i64 0,.int .i64 0,.slice none 0 0],?_,[.int .i64 0,.int .i64 0,.slice none 0 0],⟨rfl,(List.forall_mem_cons.2 ⟨(rfl),(List.forall_mem_cons.2 ⟨(rfl),(List.forall_mem_cons.2 ⟨(⟨none,0,rfl,Nat.le_refl _,Nat.zero_le _,.inl rfl⟩),(fun _ h=>by cases h)⟩)⟩)⟩)⟩,rfl⟩
 simp only [List.map_toArray,List.map_cons,List.map_nil,List.map_nil]
 exact Zcy Tryz.underlying49 (zero:=.agg #[.int .i64 0,.int .i64 0,.slice none 0 0]) (by kernel_rfl) (places:=[(0,1),(1,1),(2,1)]) (by kernel_rfl) (by kernel_rfl) g.w
theorem Zbbv:Zp Tryz.prog 37:=by
 unfold Zp
 kernel_rfl
theorem Zqw:Fld Tryz.prog 30 0 Zy Zba (fun x:Zn=>x.top):=Fld.of ⟨_,Zba,0,fun x:Zn=>x.top⟩ (List.mem_of_getElem? (i:=0) rfl) 0 rfl (by kernel_rfl) (by decide)
theorem Zdc:Ty Tryz.prog 28 Zba:=⟨by kernel_rfl,by kernel_rfl⟩
theorem Zfh:Fld Tryz.prog 114 0 Zg8 Kd.str (fun x:shelf_node=>x.key):=Fld.of ⟨_,Kd.str,0,fun x:shelf_node=>x.key⟩ (List.mem_of_getElem? (i:=0) rfl) 0 rfl (by kernel_rfl) (by decide)
theorem Zep:Fld Tryz.prog 114 2 Zg8 Zba (fun x:shelf_node=>x.left):=Fld.of ⟨_,Zba,9,fun x:shelf_node=>x.left⟩ (List.mem_of_getElem? (i:=2) rfl) 9 rfl (by kernel_rfl) (by decide)
theorem Zfg:Fld Tryz.prog 114 3 Zg8 Zba (fun x:shelf_node=>x.right):=Fld.of ⟨_,Zba,10,fun x:shelf_node=>x.right⟩ (List.mem_of_getElem? (i:=3) rfl) 10 rfl (by kernel_rfl) (by decide)
theorem Zht:Fld Tryz.prog 114 1 Zg8 Zi (fun x:shelf_node=>x.rec_):=Fld.of ⟨_,Zi,1,fun x:shelf_node=>x.rec_⟩ (List.mem_of_getElem? (i:=1) rfl) 1 rfl (by kernel_rfl) (by decide)
theorem Z6b:Fld Tryz.prog 114 4 Zg8 (Kd.int .i64) (fun x:shelf_node=>x.size):=Fld.of ⟨_,(Kd.int .i64),11,fun x:shelf_node=>x.size⟩ (List.mem_of_getElem? (i:=4) rfl) 11 rfl (by kernel_rfl) (by decide)
theorem Zn9:Zp Tryz.prog 61:=by
 unfold Zp
 kernel_rfl
theorem Zuh {N d:Nat} {o:Oper} {uses:Zbj} {x0:Operand} {x1:Operand} {x2:Operand} {x3:Operand} {x4:Operand} {v0:ByteArray} {v1:Ze} {v2:shelf_nodeT} {v3:shelf_nodeT} {v4:Int} (hop:o.op=.build 114 #[(0,x0),(1,x1),(2,x2),(3,x3),(4,x4)]) (hd:o.dst=some d) (h0:Opd uses x0 (Kd.str.pd v0)) (h1:Opd uses x1 (Zi.pd v1)) (h2:Opd uses x2 (Zba.pd v2)) (h3:Opd uses x3 (Zba.pd v3)) (h4:Opd uses x4 ((Kd.int .i64).pd v4)):OB Tryz.prog N o uses [(d,Zg8.pd { key:=v0,rec_:=v1,left:=v2,right:=v3,size:=v4 })] []:=by
 refine Zc6 hop hd fun a g hh=>?_
 obtain ⟨c0,k0,e0⟩:=h0 a g hh
 obtain rfl:=k0
 obtain ⟨c1,k1,e1⟩:=h1 a g hh
 obtain ⟨u1_0,u1_1,u1_2,u1_3,u1_4,u1_5,u1_6,u1_7,rfl⟩:=Z24 (Zi.len k1)
 obtain ⟨c2,k2,e2⟩:=h2 a g hh
 obtain ⟨p2,rfl,l2⟩:=k2
 obtain ⟨q2,rfl,_⟩:=shelf_nodeT.ptr l2
 obtain ⟨c3,k3,e3⟩:=h3 a g hh
 obtain ⟨p3,rfl,l3⟩:=k3
 obtain ⟨q3,rfl,_⟩:=shelf_nodeT.ptr l3
 obtain ⟨c4,k4,e4⟩:=h4 a g hh
 obtain rfl:=k4
 refine ⟨.agg #[.string v0,u1_0,u1_1,u1_2,u1_3,u1_4,u1_5,u1_6,u1_7,.pointer q2,.pointer q3,.int .i64 v4],?_,[.string v0,u1_0,u1_1,u1_2,u1_3,u1_4,u1_5,u1_6,u1_7,.pointer q2,.pointer q3,.int .i64 v4],⟨rfl,(List.forall_mem_cons.2 ⟨rfl,(List.forall_mem_cons.2 ⟨k1,(List.forall_mem_cons.2 ⟨⟨.pointer q2,rfl,l2⟩,(List.forall_mem_cons.2 ⟨⟨.pointer q3,rfl,l3⟩,(List.forall_mem_cons.2 ⟨rfl,(fun _ h=>by cases h)⟩)⟩)⟩)⟩)⟩)⟩,rfl⟩
 simp only [List.map_toArray,List.map_cons,List.map_nil,e0,e1,e2,e3,e4]
 exact Zcy Tryz.underlying114 (zero:=.agg #[.string ByteArray.empty,.int .i64 0,.int .i64 0,.int .i64 0,.int .i64 0,.float .f64 0,.int .i64 0,.string ByteArray.empty,.slice none 0 0,.pointer none,.pointer none,.int .i64 0]) (by kernel_rfl) (places:=[(0,1),(1,8),(9,1),(10,1),(11,1)]) (by kernel_rfl) (by kernel_rfl) g.w
theorem Zu3:Zp Tryz.prog 102:=by
 unfold Zp
 kernel_rfl
theorem Zl9:Zp Tryz.prog 79:=by
 unfold Zp
 kernel_rfl
theorem Z3c:Zp Tryz.prog 52:=by
 unfold Zp
 kernel_rfl
theorem Zv0:Zp Tryz.prog 80:=by
 unfold Zp
 kernel_rfl
theorem Zs9:Zp Tryz.prog 30:=by
 unfold Zp
 kernel_rfl
theorem Zvv:Zp Tryz.prog 40:=by
 unfold Zp
 kernel_rfl
theorem Zto:Fld Tryz.prog 30 1 Zy (Kd.int .i64) (fun x:Zn=>x.room):=Fld.of ⟨_,(Kd.int .i64),1,fun x:Zn=>x.room⟩ (List.mem_of_getElem? (i:=1) rfl) 1 rfl (by kernel_rfl) (by decide)
theorem Zw6 {N d:Nat} {o:Oper} {uses:Zbj} {x0:Operand} {x1:Operand} {v0:shelf_nodeT} {v1:Int} (hop:o.op=.build 30 #[(0,x0),(1,x1)]) (hd:o.dst=some d) (h0:Opd uses x0 (Zba.pd v0)) (h1:Opd uses x1 ((Kd.int .i64).pd v1)):OB Tryz.prog N o uses [(d,Zy.pd { top:=v0,room:=v1 })] []:=by
 refine Zc6 hop hd fun a g hh=>?_
 obtain ⟨c0,k0,e0⟩:=h0 a g hh
 obtain ⟨p0,rfl,l0⟩:=k0
 obtain ⟨q0,rfl,_⟩:=shelf_nodeT.ptr l0
 obtain ⟨c1,k1,e1⟩:=h1 a g hh
 obtain rfl:=k1
 refine ⟨.agg #[.pointer q0,.int .i64 v1],?_,[.pointer q0,.int .i64 v1],⟨rfl,(List.forall_mem_cons.2 ⟨⟨.pointer q0,rfl,l0⟩,(List.forall_mem_cons.2 ⟨rfl,(fun _ h=>by cases h)⟩)⟩)⟩,rfl⟩
 simp only [List.map_toArray,List.map_cons,List.map_nil,e0,e1]
 exact Zcy Tryz.underlying30 (zero:=.agg #[.pointer none,.int .i64 0]) (by kernel_rfl) (places:=[(0,1),(1,1)]) (by kernel_rfl) (by kernel_rfl) g.w
theorem sz_9:(Tryz.prog.info? 9).map (·.size)=some Kd.str.sz:=by kernel_rfl
theorem Zbbx:Zp Tryz.prog 59:=by
 unfold Zp
 kernel_rfl
theorem Zyi:Zp Tryz.prog 60:=by
 unfold Zp
 kernel_rfl
theorem Zbcw:Zp Tryz.prog 88:=by
 unfold Zp
 kernel_rfl
theorem Z8c:PF Tryz.prog 49 0 0:=by
 unfold PF
 kernel_rfl
theorem Zj6:Ty Tryz.prog 46 (Kd.int .i64):=⟨by kernel_rfl,by kernel_rfl⟩
theorem Zwb:PF Tryz.prog 93 0 0:=by
 unfold PF
 kernel_rfl
theorem Zw2:PF Tryz.prog 25 0 0:=by
 unfold PF
 kernel_rfl
theorem Z1n:PF Tryz.prog 93 1 1:=by
 unfold PF
 kernel_rfl
theorem Z7b:Ty Tryz.prog 26 Kd.str.sl:=⟨by kernel_rfl,by kernel_rfl⟩
theorem Z7q:Zp Tryz.prog 38:=by
 unfold Zp
 kernel_rfl
theorem Z68:Zp Tryz.prog 10:=by
 unfold Zp
 kernel_rfl
theorem Ztd:PF Tryz.prog 93 2 2:=by
 unfold PF
 kernel_rfl
theorem Z7k:Zp Tryz.prog 39:=by
 unfold Zp
 kernel_rfl
theorem Zyt:Zp Tryz.prog 29:=by
 unfold Zp
 kernel_rfl
theorem Z1u {N d:Nat} {o:Oper} {uses:Zbj} {x0:Operand} {v0:List Zu} (hop:o.op=.build 25 #[(0,x0)]) (hd:o.dst=some d) (h0:Opd uses x0 (Z4.sl.pd v0)):OB Tryz.prog N o uses [(d,Zch.pd { Acts:=v0 })] []:=by
 refine Zc6 hop hd fun a g hh=>?_
 obtain ⟨c0,k0,e0⟩:=h0 a g hh
 obtain ⟨A0,n0,rfl,l0⟩:=k0
 refine ⟨.agg #[.slice A0 v0.length n0],?_,[.slice A0 v0.length n0],⟨rfl,(List.forall_mem_cons.2 ⟨⟨A0,n0,rfl,l0⟩,(fun _ h=>by cases h)⟩)⟩,rfl⟩
 simp only [List.map_toArray,List.map_cons,List.map_nil,e0]
 exact Zcy Tryz.underlying25 (zero:=.agg #[.slice none 0 0]) (by kernel_rfl) (places:=[(0,1)]) (by kernel_rfl) (by kernel_rfl) g.w
theorem Z27:Zp Tryz.prog 41:=by
 unfold Zp
 kernel_rfl
theorem Ztf {c:Option Nat} {N j s:Nat} {o:Oper} {uses:Zbj} {x z:Operand} {v:Ze} {y0 y:ByteArray} {v0:Ze} {t:Nat} (hT:Ty Tryz.prog t Kd.str) (hop:o.op=.store t x z) (hd:o.dst=none) (hs:Opd uses (.tmp s) (Zcf c Zi j v)) (hx:Opd uses x (Zjk Zi j v0 6 Kd.str y0)) (hz:Opd uses z (Kd.str.pd y)):OB Tryz.prog N o uses [(s,Zcf c Zi j { v with Text:=y })] [j + 1] :=
 Zls hT hop hd hs hx hz fun g cs ys hk hy=>by
  have hc:cs.length=8:=hk.1
  have hl:ys.length=1:=Kd.str.len hy
  exact ⟨by omega,(Zc9 (by omega)).trans hc,(List.forall_mem_cons.2 ⟨(by show (Kd.int .i64).K g v.Kind (seg (Z9 cs 6 ys) 0 1);rw [Z8 (by omega) (by omega)];exact hk.2 _ (List.mem_of_getElem? (i:=0) rfl)),(List.forall_mem_cons.2 ⟨(by show (Kd.int .i64).K g v.Num (seg (Z9 cs 6 ys) 1 1);rw [Z8 (by omega) (by omega)];exact hk.2 _ (List.mem_of_getElem? (i:=1) rfl)),(List.forall_mem_cons.2 ⟨(by show (Kd.int .i64).K g v.Low (seg (Z9 cs 6 ys) 2 1);rw [Z8 (by omega) (by omega)];exact hk.2 _ (List.mem_of_getElem? (i:=2) rfl)),(List.forall_mem_cons.2 ⟨(by show (Kd.int .i64).K g v.High (seg (Z9 cs 6 ys) 3 1);rw [Z8 (by omega) (by omega)];exact hk.2 _ (List.mem_of_getElem? (i:=3) rfl)),(List.forall_mem_cons.2 ⟨(by show Kd.flt.K g v.Real (seg (Z9 cs 6 ys) 4 1);rw [Z8 (by omega) (by omega)];exact hk.2 _ (List.mem_of_getElem? (i:=4) rfl)),(List.forall_mem_cons.2 ⟨(by show (Kd.int .i64).K g v.Cap (seg (Z9 cs 6 ys) 5 1);rw [Z8 (by omega) (by omega)];exact hk.2 _ (List.mem_of_getElem? (i:=5) rfl)),(List.forall_mem_cons.2 ⟨(by show Kd.str.K g y (seg (Z9 cs 6 ys) 6 1);rw [Zdg (by omega) hl];exact hy),(List.forall_mem_cons.2 ⟨(by show Zz.sl.K g v.List (seg (Z9 cs 6 ys) 7 1);rw [Z8 (by omega) (by omega)];exact hk.2 _ (List.mem_of_getElem? (i:=7) rfl)),(fun _ h=>by cases h)⟩)⟩)⟩)⟩)⟩)⟩)⟩)⟩)⟩
theorem Z12 {c:Option Nat} {N j s:Nat} {o:Oper} {uses:Zbj} {x z:Operand} {v:Zg} {y0 y:Ze} {v0:Zg} {t:Nat} (hT:Ty Tryz.prog t Zi) (hop:o.op=.store t x z) (hd:o.dst=none) (hs:Opd uses (.tmp s) (Zcf c Zm j v)) (hx:Opd uses x (Zjk Zm j v0 2 Zi y0)) (hz:Opd uses z (Zi.pd y)):OB Tryz.prog N o uses [(s,Zcf c Zm j { v with Rec:=y })] [j + 1] :=
 Zls hT hop hd hs hx hz fun g cs ys hk hy=>by
  have hc:cs.length=10:=hk.1
  have hl:ys.length=8:=Zi.len hy
  exact ⟨by omega,(Zc9 (by omega)).trans hc,(List.forall_mem_cons.2 ⟨(by show (Kd.int .i64).K g v.Code (seg (Z9 cs 2 ys) 0 1);rw [Z8 (by omega) (by omega)];exact hk.2 _ (List.mem_of_getElem? (i:=0) rfl)),(List.forall_mem_cons.2 ⟨(by show (Kd.int .i64).K g v.Num (seg (Z9 cs 2 ys) 1 1);rw [Z8 (by omega) (by omega)];exact hk.2 _ (List.mem_of_getElem? (i:=1) rfl)),(List.forall_mem_cons.2 ⟨(by show Zi.K g y (seg (Z9 cs 2 ys) 2 8);rw [Zdg (by omega) hl];exact hy),(fun _ h=>by cases h)⟩)⟩)⟩)⟩
theorem Zmu {c:Option Nat} {N j s:Nat} {o:Oper} {uses:Zbj} {x z:Operand} {v:Ze} {y0 y:Int} {v0:Ze} {t:Nat} (hT:Ty Tryz.prog t (Kd.int .i64)) (hop:o.op=.store t x z) (hd:o.dst=none) (hs:Opd uses (.tmp s) (Zcf c Zi j v)) (hx:Opd uses x (Zjk Zi j v0 1 (Kd.int .i64) y0)) (hz:Opd uses z ((Kd.int .i64).pd y)):OB Tryz.prog N o uses [(s,Zcf c Zi j { v with Num:=y })] [j + 1] :=
 Zls hT hop hd hs hx hz fun g cs ys hk hy=>by
  have hc:cs.length=8:=hk.1
  have hl:ys.length=1:=(Kd.int .i64).len hy
  exact ⟨by omega,(Zc9 (by omega)).trans hc,(List.forall_mem_cons.2 ⟨(by show (Kd.int .i64).K g v.Kind (seg (Z9 cs 1 ys) 0 1);rw [Z8 (by omega) (by omega)];exact hk.2 _ (List.mem_of_getElem? (i:=0) rfl)),(List.forall_mem_cons.2 ⟨(by show (Kd.int .i64).K g y (seg (Z9 cs 1 ys) 1 1);rw [Zdg (by omega) hl];exact hy),(List.forall_mem_cons.2 ⟨(by show (Kd.int .i64).K g v.Low (seg (Z9 cs 1 ys) 2 1);rw [Z8 (by omega) (by omega)];exact hk.2 _ (List.mem_of_getElem? (i:=2) rfl)),(List.forall_mem_cons.2 ⟨(by show (Kd.int .i64).K g v.High (seg (Z9 cs 1 ys) 3 1);rw [Z8 (by omega) (by omega)];exact hk.2 _ (List.mem_of_getElem? (i:=3) rfl)),(List.forall_mem_cons.2 ⟨(by show Kd.flt.K g v.Real (seg (Z9 cs 1 ys) 4 1);rw [Z8 (by omega) (by omega)];exact hk.2 _ (List.mem_of_getElem? (i:=4) rfl)),(List.forall_mem_cons.2 ⟨(by show (Kd.int .i64).K g v.Cap (seg (Z9 cs 1 ys) 5 1);rw [Z8 (by omega) (by omega)];exact hk.2 _ (List.mem_of_getElem? (i:=5) rfl)),(List.forall_mem_cons.2 ⟨(by show Kd.str.K g v.Text (seg (Z9 cs 1 ys) 6 1);rw [Z8 (by omega) (by omega)];exact hk.2 _ (List.mem_of_getElem? (i:=6) rfl)),(List.forall_mem_cons.2 ⟨(by show Zz.sl.K g v.List (seg (Z9 cs 1 ys) 7 1);rw [Z8 (by omega) (by omega)];exact hk.2 _ (List.mem_of_getElem? (i:=7) rfl)),(fun _ h=>by cases h)⟩)⟩)⟩)⟩)⟩)⟩)⟩)⟩)⟩
theorem Zo5 {c:Option Nat} {N j s:Nat} {o:Oper} {uses:Zbj} {x z:Operand} {v:Ze} {y0 y:Nat} {v0:Ze} {t:Nat} (hT:Ty Tryz.prog t Kd.flt) (hop:o.op=.store t x z) (hd:o.dst=none) (hs:Opd uses (.tmp s) (Zcf c Zi j v)) (hx:Opd uses x (Zjk Zi j v0 4 Kd.flt y0)) (hz:Opd uses z (Kd.flt.pd y)):OB Tryz.prog N o uses [(s,Zcf c Zi j { v with Real:=y })] [j + 1] :=
 Zls hT hop hd hs hx hz fun g cs ys hk hy=>by
  have hc:cs.length=8:=hk.1
  have hl:ys.length=1:=Kd.flt.len hy
  exact ⟨by omega,(Zc9 (by omega)).trans hc,(List.forall_mem_cons.2 ⟨(by show (Kd.int .i64).K g v.Kind (seg (Z9 cs 4 ys) 0 1);rw [Z8 (by omega) (by omega)];exact hk.2 _ (List.mem_of_getElem? (i:=0) rfl)),(List.forall_mem_cons.2 ⟨(by show (Kd.int .i64).K g v.Num (seg (Z9 cs 4 ys) 1 1);rw [Z8 (by omega) (by omega)];exact hk.2 _ (List.mem_of_getElem? (i:=1) rfl)),(List.forall_mem_cons.2 ⟨(by show (Kd.int .i64).K g v.Low (seg (Z9 cs 4 ys) 2 1);rw [Z8 (by omega) (by omega)];exact hk.2 _ (List.mem_of_getElem? (i:=2) rfl)),(List.forall_mem_cons.2 ⟨(by show (Kd.int .i64).K g v.High (seg (Z9 cs 4 ys) 3 1);rw [Z8 (by omega) (by omega)];exact hk.2 _ (List.mem_of_getElem? (i:=3) rfl)),(List.forall_mem_cons.2 ⟨(by show Kd.flt.K g y (seg (Z9 cs 4 ys) 4 1);rw [Zdg (by omega) hl];exact hy),(List.forall_mem_cons.2 ⟨(by show (Kd.int .i64).K g v.Cap (seg (Z9 cs 4 ys) 5 1);rw [Z8 (by omega) (by omega)];exact hk.2 _ (List.mem_of_getElem? (i:=5) rfl)),(List.forall_mem_cons.2 ⟨(by show Kd.str.K g v.Text (seg (Z9 cs 4 ys) 6 1);rw [Z8 (by omega) (by omega)];exact hk.2 _ (List.mem_of_getElem? (i:=6) rfl)),(List.forall_mem_cons.2 ⟨(by show Zz.sl.K g v.List (seg (Z9 cs 4 ys) 7 1);rw [Z8 (by omega) (by omega)];exact hk.2 _ (List.mem_of_getElem? (i:=7) rfl)),(fun _ h=>by cases h)⟩)⟩)⟩)⟩)⟩)⟩)⟩)⟩)⟩
theorem Zsq:Zp Tryz.prog 135:=by
 unfold Zp
 kernel_rfl
theorem Z9d:Ty Tryz.prog 167 Kd.fnc:=⟨by kernel_rfl,by kernel_rfl⟩
theorem Zba8:Zp Tryz.prog 138:=by
 unfold Zp
 kernel_rfl
theorem Z9r:Zp Tryz.prog 137:=by
 unfold Zp
 kernel_rfl
theorem Zban:Ext Tryz.prog 139 (Extern.SlicesOverlaps.overlaps #[36,36] #[4]):=⟨_,Tryz.func139,rfl,rfl,by kernel_rfl,by kernel_rfl⟩
theorem Z0e:Zp Tryz.prog 128:=by
 unfold Zp
 kernel_rfl
theorem Zzr {N d:Nat} {o:Oper} {uses:Zbj} {x1:Operand} {v1:ByteArray} (hop:o.op=.build 116 #[(1,x1)]) (hd:o.dst=some d) (h1:Opd uses x1 (Kd.str.pd v1)):OB Tryz.prog N o uses [(d,Zz.pd { Score:=(0:Nat),Name:=v1 })] []:=by
 refine Zc6 hop hd fun a g hh=>?_
 obtain ⟨c1,k1,e1⟩:=h1 a g hh
 obtain rfl:=k1
 refine ⟨.agg #[.float .f64 0,.string v1],?_,[.float .f64 0,.string v1],⟨rfl,(List.forall_mem_cons.2 ⟨(rfl),(List.forall_mem_cons.2 ⟨rfl,(fun _ h=>by cases h)⟩)⟩)⟩,rfl⟩
 simp only [List.map_toArray,List.map_cons,List.map_nil,e1]
 exact Zcy Tryz.underlying116 (zero:=.agg #[.float .f64 0,.string ByteArray.empty]) (by kernel_rfl) (places:=[(0,1),(1,1)]) (by kernel_rfl) (by kernel_rfl) g.w
theorem Z4n:Zp Tryz.prog 136:=by
 unfold Zp
 kernel_rfl
theorem Z9l:Zp Tryz.prog 129:=by
 unfold Zp
 kernel_rfl
theorem Zv9 {N d:Nat} {o:Oper} {uses:Zbj} {x0:Operand} {x1:Operand} {v0:Nat} {v1:ByteArray} (hop:o.op=.build 116 #[(0,x0),(1,x1)]) (hd:o.dst=some d) (h0:Opd uses x0 (Kd.flt.pd v0)) (h1:Opd uses x1 (Kd.str.pd v1)):OB Tryz.prog N o uses [(d,Zz.pd { Score:=v0,Name:=v1 })] []:=by
 refine Zc6 hop hd fun a g hh=>?_
 obtain ⟨c0,k0,e0⟩:=h0 a g hh
 obtain rfl:=k0
 obtain ⟨c1,k1,e1⟩:=h1 a g hh
 obtain rfl:=k1
 refine ⟨.agg #[.float .f64 v0,.string v1],?_,[.float .f64 v0,.string v1],⟨rfl,(List.forall_mem_cons.2 ⟨rfl,(List.forall_mem_cons.2 ⟨rfl,(fun _ h=>by cases h)⟩)⟩)⟩,rfl⟩
 simp only [List.map_toArray,List.map_cons,List.map_nil,e0,e1]
 exact Zcy Tryz.underlying116 (zero:=.agg #[.float .f64 0,.string ByteArray.empty]) (by kernel_rfl) (places:=[(0,1),(1,1)]) (by kernel_rfl) (by kernel_rfl) g.w
theorem Zbaa:Zp Tryz.prog 113:=by
 unfold Zp
 kernel_rfl
theorem Zbam:Zp Tryz.prog 114:=by
 unfold Zp
 kernel_rfl
theorem Zbac:Zp Tryz.prog 115:=by
 unfold Zp
 kernel_rfl
theorem Z9j:Zp Tryz.prog 116:=by
 unfold Zp
 kernel_rfl
theorem Z4l:Zp Tryz.prog 117:=by
 unfold Zp
 kernel_rfl
theorem Zbaq:Zp Tryz.prog 118:=by
 unfold Zp
 kernel_rfl
theorem Z97:Zp Tryz.prog 119:=by
 unfold Zp
 kernel_rfl
theorem Zba0:Zp Tryz.prog 121:=by
 unfold Zp
 kernel_rfl
theorem Zbax:Zp Tryz.prog 122:=by
 unfold Zp
 kernel_rfl
theorem Z9z:Zp Tryz.prog 123:=by
 unfold Zp
 kernel_rfl
theorem Z90:Zp Tryz.prog 124:=by
 unfold Zp
 kernel_rfl
theorem Zbas:Zp Tryz.prog 125:=by
 unfold Zp
 kernel_rfl
theorem Z9w:Zp Tryz.prog 126:=by
 unfold Zp
 kernel_rfl
theorem Zbbg:Zp Tryz.prog 127:=by
 unfold Zp
 kernel_rfl
theorem Z9y:Zp Tryz.prog 130:=by
 unfold Zp
 kernel_rfl
theorem Zbap:Zp Tryz.prog 131:=by
 unfold Zp
 kernel_rfl
theorem Zsd:Zp Tryz.prog 120:=by
 unfold Zp
 kernel_rfl
theorem Zqn {N d:Nat} {o:Oper} {uses:Zbj} {x0:Operand} {v0:Int} (hop:o.op=.build 68 #[(0,x0)]) (hd:o.dst=some d) (h0:Opd uses x0 ((Kd.int .i64).pd v0)):OB Tryz.prog N o uses [(d,Zm.pd { Code:=v0,Num:=(0:Int),Rec:=(default:Ze) })] []:=by
 refine Zc6 hop hd fun a g hh=>?_
 obtain ⟨c0,k0,e0⟩:=h0 a g hh
 obtain rfl:=k0
 refine ⟨.agg #[.int .i64 v0,.int .i64 0,.int .i64 0,.int .i64 0,.int .i64 0,.int .i64 0,.float .f64 0,.int .i64 0,.string ByteArray.empty,.slice none 0 0],?_,[.int .i64 v0,.int .i64 0,.int .i64 0,.int .i64 0,.int .i64 0,.int .i64 0,.float .f64 0,.int .i64 0,.string ByteArray.empty,.slice none 0 0],⟨rfl,(List.forall_mem_cons.2 ⟨rfl,(List.forall_mem_cons.2 ⟨(rfl),(List.forall_mem_cons.2 ⟨(Zb4 _),(fun _ h=>by cases h)⟩)⟩)⟩)⟩,rfl⟩
 simp only [List.map_toArray,List.map_cons,List.map_nil,e0]
 exact Zcy Tryz.underlying68 (zero:=.agg #[.int .i64 0,.int .i64 0,.int .i64 0,.int .i64 0,.int .i64 0,.int .i64 0,.float .f64 0,.int .i64 0,.string ByteArray.empty,.slice none 0 0]) (by kernel_rfl) (places:=[(0,1),(1,1),(2,8)]) (by kernel_rfl) (by kernel_rfl) g.w
theorem Zb9:Ty Tryz.prog 68 Zm:=⟨by kernel_rfl,by kernel_rfl⟩
theorem Zvb:Zp Tryz.prog 92:=by
 unfold Zp
 kernel_rfl
theorem Zqq {N d:Nat} {o:Oper} {uses:Zbj}   (hop:o.op=.build 68 #[]) (hd:o.dst=some d) :OB Tryz.prog N o uses [(d,Zm.pd { Code:=(0:Int),Num:=(0:Int),Rec:=(default:Ze) })] []:=by
 refine Zc6 hop hd fun a g hh=>?_
 refine ⟨.agg #[.int .i64 0,.int .i64 0,.int .i64 0,.int .i64 0,.int .i64 0,.int .i64 0,.float .f64 0,.int .i64 0,.string ByteArray.empty,.slice none 0 0],?_,[.int .i64 0,.int .i64 0,.int .i64 0,.int .i64 0,.int .i64 0,.int .i64 0,.float .f64 0,.int .i64 0,.string ByteArray.empty,.slice none 0 0],⟨rfl,(List.forall_mem_cons.2 ⟨(rfl),(List.forall_mem_cons.2 ⟨(rfl),(List.forall_mem_cons.2 ⟨(Zb4 _),(fun _ h=>by cases h)⟩)⟩)⟩)⟩,rfl⟩
 simp only [List.map_toArray,List.map_cons,List.map_nil,List.map_nil]
 exact Zcy Tryz.underlying68 (zero:=.agg #[.int .i64 0,.int .i64 0,.int .i64 0,.int .i64 0,.int .i64 0,.int .i64 0,.float .f64 0,.int .i64 0,.string ByteArray.empty,.slice none 0 0]) (by kernel_rfl) (places:=[(0,1),(1,1),(2,8)]) (by kernel_rfl) (by kernel_rfl) g.w
theorem Z2b {N d:Nat} {o:Oper} {uses:Zbj} {x1:Operand} {v1:Int} (hop:o.op=.build 68 #[(1,x1)]) (hd:o.dst=some d) (h1:Opd uses x1 ((Kd.int .i64).pd v1)):OB Tryz.prog N o uses [(d,Zm.pd { Code:=(0:Int),Num:=v1,Rec:=(default:Ze) })] []:=by
 refine Zc6 hop hd fun a g hh=>?_
 obtain ⟨c1,k1,e1⟩:=h1 a g hh
 obtain rfl:=k1
 refine ⟨.agg #[.int .i64 0,.int .i64 v1,.int .i64 0,.int .i64 0,.int .i64 0,.int .i64 0,.float .f64 0,.int .i64 0,.string ByteArray.empty,.slice none 0 0],?_,[.int .i64 0,.int .i64 v1,.int .i64 0,.int .i64 0,.int .i64 0,.int .i64 0,.float .f64 0,.int .i64 0,.string ByteArray.empty,.slice none 0 0],⟨rfl,(List.forall_mem_cons.2 ⟨(rfl),(List.forall_mem_cons.2 ⟨rfl,(List.forall_mem_cons.2 ⟨(Zb4 _),(fun _ h=>by cases h)⟩)⟩)⟩)⟩,rfl⟩
 simp only [List.map_toArray,List.map_cons,List.map_nil,e1]
 exact Zcy Tryz.underlying68 (zero:=.agg #[.int .i64 0,.int .i64 0,.int .i64 0,.int .i64 0,.int .i64 0,.int .i64 0,.float .f64 0,.int .i64 0,.string ByteArray.empty,.slice none 0 0]) (by kernel_rfl) (places:=[(0,1),(1,1),(2,8)]) (by kernel_rfl) (by kernel_rfl) g.w
theorem Z2i {N d:Nat} {o:Oper} {uses:Zbj} {x2:Operand} {v2:Ze} (hop:o.op=.build 68 #[(2,x2)]) (hd:o.dst=some d) (h2:Opd uses x2 (Zi.pd v2)):OB Tryz.prog N o uses [(d,Zm.pd { Code:=(0:Int),Num:=(0:Int),Rec:=v2 })] []:=by
 refine Zc6 hop hd fun a g hh=>?_
 obtain ⟨c2,k2,e2⟩:=h2 a g hh
 obtain ⟨u2_0,u2_1,u2_2,u2_3,u2_4,u2_5,u2_6,u2_7,rfl⟩:=Z24 (Zi.len k2)
 refine ⟨.agg #[.int .i64 0,.int .i64 0,u2_0,u2_1,u2_2,u2_3,u2_4,u2_5,u2_6,u2_7],?_,[.int .i64 0,.int .i64 0,u2_0,u2_1,u2_2,u2_3,u2_4,u2_5,u2_6,u2_7],⟨rfl,(List.forall_mem_cons.2 ⟨(rfl),(List.forall_mem_cons.2 ⟨(rfl),(List.forall_mem_cons.2 ⟨k2,(fun _ h=>by cases h)⟩)⟩)⟩)⟩,rfl⟩
 simp only [List.map_toArray,List.map_cons,List.map_nil,e2]
 exact Zcy Tryz.underlying68 (zero:=.agg #[.int .i64 0,.int .i64 0,.int .i64 0,.int .i64 0,.int .i64 0,.int .i64 0,.float .f64 0,.int .i64 0,.string ByteArray.empty,.slice none 0 0]) (by kernel_rfl) (places:=[(0,1),(1,1),(2,8)]) (by kernel_rfl) (by kernel_rfl) g.w
theorem Zbck:Zp Tryz.prog 93:=by
 unfold Zp
 kernel_rfl
theorem Zbcs:Zp Tryz.prog 94:=by
 unfold Zp
 kernel_rfl
theorem Zbb0:Zp Tryz.prog 68:=by
 unfold Zp
 kernel_rfl
theorem Zif:Fld Tryz.prog 68 0 Zm (Kd.int .i64) (fun x:Zg=>x.Code):=Fld.of ⟨_,(Kd.int .i64),0,fun x:Zg=>x.Code⟩ (List.mem_of_getElem? (i:=0) rfl) 0 rfl (by kernel_rfl) (by decide)
theorem Zwt:PF Tryz.prog 49 2 2:=by
 unfold PF
 kernel_rfl
theorem Zbb7:Zp Tryz.prog 44:=by
 unfold Zp
 kernel_rfl
theorem Z1q:Fld Tryz.prog 40 6 Z4 Kd.bool (fun x:Zu=>x.Must):=Fld.of ⟨_,Kd.bool,13,fun x:Zu=>x.Must⟩ (List.mem_of_getElem? (i:=6) rfl) 13 rfl (by kernel_rfl) (by decide)
theorem Z9s {N d:Nat} {o:Oper} {uses:Zbj}   (hop:o.op=.build 30 #[]) (hd:o.dst=some d) :OB Tryz.prog N o uses [(d,Zy.pd { top:=shelf_nodeT.nil,room:=(0:Int) })] []:=by
 refine Zc6 hop hd fun a g hh=>?_
 refine ⟨.agg #[.pointer none,.int .i64 0],?_,[.pointer none,.int .i64 0],⟨rfl,(List.forall_mem_cons.2 ⟨(Zmj _),(List.forall_mem_cons.2 ⟨(rfl),(fun _ h=>by cases h)⟩)⟩)⟩,rfl⟩
 simp only [List.map_toArray,List.map_cons,List.map_nil,List.map_nil]
 exact Zcy Tryz.underlying30 (zero:=.agg #[.pointer none,.int .i64 0]) (by kernel_rfl) (places:=[(0,1),(1,1)]) (by kernel_rfl) (by kernel_rfl) g.w
theorem Z71 {N d:Nat} {o:Oper} {uses:Zbj} {x1:Operand} {v1:Int} (hop:o.op=.build 30 #[(1,x1)]) (hd:o.dst=some d) (h1:Opd uses x1 ((Kd.int .i64).pd v1)):OB Tryz.prog N o uses [(d,Zy.pd { top:=shelf_nodeT.nil,room:=v1 })] []:=by
 refine Zc6 hop hd fun a g hh=>?_
 obtain ⟨c1,k1,e1⟩:=h1 a g hh
 obtain rfl:=k1
 refine ⟨.agg #[.pointer none,.int .i64 v1],?_,[.pointer none,.int .i64 v1],⟨rfl,(List.forall_mem_cons.2 ⟨(Zmj _),(List.forall_mem_cons.2 ⟨rfl,(fun _ h=>by cases h)⟩)⟩)⟩,rfl⟩
 simp only [List.map_toArray,List.map_cons,List.map_nil,e1]
 exact Zcy Tryz.underlying30 (zero:=.agg #[.pointer none,.int .i64 0]) (by kernel_rfl) (places:=[(0,1),(1,1)]) (by kernel_rfl) (by kernel_rfl) g.w
theorem Z7c:Zp Tryz.prog 28:=by
 unfold Zp
 kernel_rfl
theorem Z4m {N d:Nat} {o:Oper} {uses:Zbj} {x0:Operand} {x1:Operand} {v0:Int} {v1:Int} (hop:o.op=.build 38 #[(0,x0),(1,x1)]) (hd:o.dst=some d) (h0:Opd uses x0 ((Kd.int .i64).pd v0)) (h1:Opd uses x1 ((Kd.int .i64).pd v1)):OB Tryz.prog N o uses [(d,Zi.pd { Kind:=v0,Num:=v1,Low:=(0:Int),High:=(0:Int),Real:=(0:Nat),Cap:=(0:Int),Text:=ByteArray.empty,List:=([]:List Zl) })] []:=by
 refine Zc6 hop hd fun a g hh=>?_
 obtain ⟨c0,k0,e0⟩:=h0 a g hh
 obtain rfl:=k0
 obtain ⟨c1,k1,e1⟩:=h1 a g hh
 obtain rfl:=k1
 refine ⟨.agg #[.int .i64 v0,.int .i64 v1,.int .i64 0,.int .i64 0,.float .f64 0,.int .i64 0,.string ByteArray.empty,.slice none 0 0],?_,[.int .i64 v0,.int .i64 v1,.int .i64 0,.int .i64 0,.float .f64 0,.int .i64 0,.string ByteArray.empty,.slice none 0 0],⟨rfl,(List.forall_mem_cons.2 ⟨rfl,(List.forall_mem_cons.2 ⟨rfl,(List.forall_mem_cons.2 ⟨(rfl),(List.forall_mem_cons.2 ⟨(rfl),(List.forall_mem_cons.2 ⟨(rfl),(List.forall_mem_cons.2 ⟨(rfl),(List.forall_mem_cons.2 ⟨(rfl),(List.forall_mem_cons.2 ⟨(⟨none,0,rfl,Nat.le_refl _,Nat.zero_le _,.inl rfl⟩),(fun _ h=>by cases h)⟩)⟩)⟩)⟩)⟩)⟩)⟩)⟩)⟩,rfl⟩
 simp only [List.map_toArray,List.map_cons,List.map_nil,e0,e1]
 exact Zcy Tryz.underlying38 (zero:=.agg #[.int .i64 0,.int .i64 0,.int .i64 0,.int .i64 0,.float .f64 0,.int .i64 0,.string ByteArray.empty,.slice none 0 0]) (by kernel_rfl) (places:=[(0,1),(1,1),(2,1),(3,1),(4,1),(5,1),(6,1),(7,1)]) (by kernel_rfl) (by kernel_rfl) g.w
theorem Z01 {N d:Nat} {o:Oper} {uses:Zbj} {x0:Operand} {x1:Operand} {x2:Operand} {v0:Int} {v1:ByteArray} {v2:Int} (hop:o.op=.build 40 #[(0,x0),(1,x1),(2,x2)]) (hd:o.dst=some d) (h0:Opd uses x0 ((Kd.int .i64).pd v0)) (h1:Opd uses x1 (Kd.str.pd v1)) (h2:Opd uses x2 ((Kd.int .i64).pd v2)):OB Tryz.prog N o uses [(d,Z4.pd { Kind:=v0,Key:=v1,N:=v2,X:=(0:Nat),S:=ByteArray.empty,Make:=(default:Ze),Must:=false })] []:=by
 refine Zc6 hop hd fun a g hh=>?_
 obtain ⟨c0,k0,e0⟩:=h0 a g hh
 obtain rfl:=k0
 obtain ⟨c1,k1,e1⟩:=h1 a g hh
 obtain rfl:=k1
 obtain ⟨c2,k2,e2⟩:=h2 a g hh
 obtain rfl:=k2
 refine ⟨.agg #[.int .i64 v0,.string v1,.int .i64 v2,.float .f64 0,.string ByteArray.empty,.int .i64 0,.int .i64 0,.int .i64 0,.int .i64 0,.float .f64 0,.int .i64 0,.string ByteArray.empty,.slice none 0 0,.bool false],?_,[.int .i64 v0,.string v1,.int .i64 v2,.float .f64 0,.string ByteArray.empty,.int .i64 0,.int .i64 0,.int .i64 0,.int .i64 0,.float .f64 0,.int .i64 0,.string ByteArray.empty,.slice none 0 0,.bool false],⟨rfl,(List.forall_mem_cons.2 ⟨rfl,(List.forall_mem_cons.2 ⟨rfl,(List.forall_mem_cons.2 ⟨rfl,(List.forall_mem_cons.2 ⟨(rfl),(List.forall_mem_cons.2 ⟨(rfl),(List.forall_mem_cons.2 ⟨(Zb4 _),(List.forall_mem_cons.2 ⟨(rfl),(fun _ h=>by cases h)⟩)⟩)⟩)⟩)⟩)⟩)⟩)⟩,rfl⟩
 simp only [List.map_toArray,List.map_cons,List.map_nil,e0,e1,e2]
 exact Zcy Tryz.underlying40 (zero:=.agg #[.int .i64 0,.string ByteArray.empty,.int .i64 0,.float .f64 0,.string ByteArray.empty,.int .i64 0,.int .i64 0,.int .i64 0,.int .i64 0,.float .f64 0,.int .i64 0,.string ByteArray.empty,.slice none 0 0,.bool false]) (by kernel_rfl) (places:=[(0,1),(1,1),(2,1),(3,1),(4,1),(5,8),(13,1)]) (by kernel_rfl) (by kernel_rfl) g.w
theorem Z26:Zp Tryz.prog 12:=by
 unfold Zp
 kernel_rfl
theorem Zyr:Zp Tryz.prog 16:=by
 unfold Zp
 kernel_rfl
theorem Zv5:Zp Tryz.prog 19:=by
 unfold Zp
 kernel_rfl
theorem Zym:Zp Tryz.prog 15:=by
 unfold Zp
 kernel_rfl
theorem Z3o:Zp Tryz.prog 14:=by
 unfold Zp
 kernel_rfl
theorem Z7a:Zp Tryz.prog 17:=by
 unfold Zp
 kernel_rfl
theorem Zyu:Zp Tryz.prog 96:=by
 unfold Zp
 kernel_rfl
theorem Z7d:Zp Tryz.prog 98:=by
 unfold Zp
 kernel_rfl
theorem Zv1:Zp Tryz.prog 72:=by
 unfold Zp
 kernel_rfl
theorem Ztm:Zp Tryz.prog 49:=by
 unfold Zp
 kernel_rfl
theorem Z30:Zp Tryz.prog 103:=by
 unfold Zp
 kernel_rfl
theorem Z3w:Zp Tryz.prog 71:=by
 unfold Zp
 kernel_rfl
theorem Z32:Zp Tryz.prog 104:=by
 unfold Zp
 kernel_rfl
theorem Zbbs:Zp Tryz.prog 83:=by
 unfold Zp
 kernel_rfl
theorem Zbcv:Zp Tryz.prog 82:=by
 unfold Zp
 kernel_rfl
theorem Zbbn:Zp Tryz.prog 84:=by
 unfold Zp
 kernel_rfl
theorem Zg5:Fld Tryz.prog 57 0 Zbb Zb6.sl (fun x:Zj=>x.L):=Fld.of ⟨_,Zb6.sl,0,fun x:Zj=>x.L⟩ (List.mem_of_getElem? (i:=0) rfl) 0 rfl (by kernel_rfl) (by decide)
theorem Zj9:Ty Tryz.prog 22 Zb6.sl:=⟨by kernel_rfl,by kernel_rfl⟩
theorem Zm7:(Tryz.prog.info? 85).map (·.size)=some Zb6.sz:=by kernel_rfl
theorem Zm5:Fld Tryz.prog 85 0 Zb6 Kd.str (fun x:Zbd=>x.Key):=Fld.of ⟨_,Kd.str,0,fun x:Zbd=>x.Key⟩ (List.mem_of_getElem? (i:=0) rfl) 0 rfl (by kernel_rfl) (by decide)
theorem Zcv:Ty Tryz.prog 57 Zbb:=⟨by kernel_rfl,by kernel_rfl⟩
theorem Z3d:Zp Tryz.prog 54:=by
 unfold Zp
 kernel_rfl
theorem Z2y:Zp Tryz.prog 55:=by
 unfold Zp
 kernel_rfl
theorem Zqy:Fld Tryz.prog 57 1 Zbb (Kd.int .i64) (fun x:Zj=>x.Room):=Fld.of ⟨_,(Kd.int .i64),1,fun x:Zj=>x.Room⟩ (List.mem_of_getElem? (i:=1) rfl) 1 rfl (by kernel_rfl) (by decide)
theorem Zp7:TE Tryz.prog 22 85 Zb6 104:=TE.of Tryz.underlying22 (by kernel_rfl) (by decide) (by decide)
theorem Z4y {N d:Nat} {o:Oper} {uses:Zbj} {x0:Operand} {x1:Operand} {v0:ByteArray} {v1:Ze} (hop:o.op=.build 85 #[(0,x0),(1,x1)]) (hd:o.dst=some d) (h0:Opd uses x0 (Kd.str.pd v0)) (h1:Opd uses x1 (Zi.pd v1)):OB Tryz.prog N o uses [(d,Zb6.pd { Key:=v0,Rec:=v1 })] []:=by
 refine Zc6 hop hd fun a g hh=>?_
 obtain ⟨c0,k0,e0⟩:=h0 a g hh
 obtain rfl:=k0
 obtain ⟨c1,k1,e1⟩:=h1 a g hh
 obtain ⟨u1_0,u1_1,u1_2,u1_3,u1_4,u1_5,u1_6,u1_7,rfl⟩:=Z24 (Zi.len k1)
 refine ⟨.agg #[.string v0,u1_0,u1_1,u1_2,u1_3,u1_4,u1_5,u1_6,u1_7],?_,[.string v0,u1_0,u1_1,u1_2,u1_3,u1_4,u1_5,u1_6,u1_7],⟨rfl,(List.forall_mem_cons.2 ⟨rfl,(List.forall_mem_cons.2 ⟨k1,(fun _ h=>by cases h)⟩)⟩)⟩,rfl⟩
 simp only [List.map_toArray,List.map_cons,List.map_nil,e0,e1]
 exact Zcy Tryz.underlying85 (zero:=.agg #[.string ByteArray.empty,.int .i64 0,.int .i64 0,.int .i64 0,.int .i64 0,.float .f64 0,.int .i64 0,.string ByteArray.empty,.slice none 0 0]) (by kernel_rfl) (places:=[(0,1),(1,8)]) (by kernel_rfl) (by kernel_rfl) g.w
theorem Zxe {N d:Nat} {o:Oper} {uses:Zbj} {x0:Operand} {x1:Operand} {v0:List Zbd} {v1:Int} (hop:o.op=.build 57 #[(0,x0),(1,x1)]) (hd:o.dst=some d) (h0:Opd uses x0 (Zb6.sl.pd v0)) (h1:Opd uses x1 ((Kd.int .i64).pd v1)):OB Tryz.prog N o uses [(d,Zbb.pd { L:=v0,Room:=v1 })] []:=by
 refine Zc6 hop hd fun a g hh=>?_
 obtain ⟨c0,k0,e0⟩:=h0 a g hh
 obtain ⟨A0,n0,rfl,l0⟩:=k0
 obtain ⟨c1,k1,e1⟩:=h1 a g hh
 obtain rfl:=k1
 refine ⟨.agg #[.slice A0 v0.length n0,.int .i64 v1],?_,[.slice A0 v0.length n0,.int .i64 v1],⟨rfl,(List.forall_mem_cons.2 ⟨⟨A0,n0,rfl,l0⟩,(List.forall_mem_cons.2 ⟨rfl,(fun _ h=>by cases h)⟩)⟩)⟩,rfl⟩
 simp only [List.map_toArray,List.map_cons,List.map_nil,e0,e1]
 exact Zcy Tryz.underlying57 (zero:=.agg #[.slice none 0 0,.int .i64 0]) (by kernel_rfl) (places:=[(0,1),(1,1)]) (by kernel_rfl) (by kernel_rfl) g.w
theorem Z86 {N d:Nat} {o:Oper} {uses:Zbj} {x1:Operand} {v1:Int} (hop:o.op=.build 57 #[(1,x1)]) (hd:o.dst=some d) (h1:Opd uses x1 ((Kd.int .i64).pd v1)):OB Tryz.prog N o uses [(d,Zbb.pd { L:=([]:List Zbd),Room:=v1 })] []:=by
 refine Zc6 hop hd fun a g hh=>?_
 obtain ⟨c1,k1,e1⟩:=h1 a g hh
 obtain rfl:=k1
 refine ⟨.agg #[.slice none 0 0,.int .i64 v1],?_,[.slice none 0 0,.int .i64 v1],⟨rfl,(List.forall_mem_cons.2 ⟨(⟨none,0,rfl,Nat.le_refl _,Nat.zero_le _,.inl rfl⟩),(List.forall_mem_cons.2 ⟨rfl,(fun _ h=>by cases h)⟩)⟩)⟩,rfl⟩
 simp only [List.map_toArray,List.map_cons,List.map_nil,e1]
 exact Zcy Tryz.underlying57 (zero:=.agg #[.slice none 0 0,.int .i64 0]) (by kernel_rfl) (places:=[(0,1),(1,1)]) (by kernel_rfl) (by kernel_rfl) g.w
theorem Zyw:Ty Tryz.prog 85 Zb6:=⟨by kernel_rfl,by kernel_rfl⟩
theorem Zqh:Fld Tryz.prog 85 1 Zb6 Zi (fun x:Zbd=>x.Rec):=Fld.of ⟨_,Zi,1,fun x:Zbd=>x.Rec⟩ (List.mem_of_getElem? (i:=1) rfl) 1 rfl (by kernel_rfl) (by decide)
theorem Z7f:Zp Tryz.prog 31:=by
 unfold Zp
 kernel_rfl
theorem Z67:Zp Tryz.prog 32:=by
 unfold Zp
 kernel_rfl
theorem Zbbo:Zp Tryz.prog 33:=by
 unfold Zp
 kernel_rfl
theorem en_7:Zp Tryz.prog 7:=by
 unfold Zp
 kernel_rfl
theorem en_8:Zp Tryz.prog 8:=by
 unfold Zp
 kernel_rfl
theorem en_9:Zp Tryz.prog 9:=by
 unfold Zp
 kernel_rfl
theorem Z16:Fld Tryz.prog 49 0 Zbx (Kd.int .i64) (fun x:Z1=>x.Code):=Fld.of ⟨_,(Kd.int .i64),0,fun x:Z1=>x.Code⟩ (List.mem_of_getElem? (i:=0) rfl) 0 rfl (by kernel_rfl) (by decide)
theorem Zbc1:Zp Tryz.prog 95:=by
 unfold Zp
 kernel_rfl
theorem Zbco:TE Tryz.prog 65 3 (Kd.int .i64) 8:=TE.of Tryz.underlying65 (by kernel_rfl) (by decide) (by decide)
theorem sz_3:(Tryz.prog.info? 3).map (·.size)=some (Kd.int .i64).sz:=by kernel_rfl
theorem Z20:Zp Tryz.prog 69:=by
 unfold Zp
 kernel_rfl
theorem Z2w:Zp Tryz.prog 47:=by
 unfold Zp
 kernel_rfl
theorem Z3x:Zp Tryz.prog 70:=by
 unfold Zp
 kernel_rfl
theorem Z66:Zp Tryz.prog 48:=by
 unfold Zp
 kernel_rfl
theorem Zyq:Zp Tryz.prog 90:=by
 unfold Zp
 kernel_rfl
theorem Zba1:Zp Tryz.prog 106:=by
 unfold Zp
 kernel_rfl
theorem Zo6 {c:Option Nat} {N j s:Nat} {o:Oper} {uses:Zbj} {x z:Operand} {v:Zg} {y0 y:Int} {v0:Zg} {t:Nat} (hT:Ty Tryz.prog t (Kd.int .i64)) (hop:o.op=.store t x z) (hd:o.dst=none) (hs:Opd uses (.tmp s) (Zcf c Zm j v)) (hx:Opd uses x (Zjk Zm j v0 0 (Kd.int .i64) y0)) (hz:Opd uses z ((Kd.int .i64).pd y)):OB Tryz.prog N o uses [(s,Zcf c Zm j { v with Code:=y })] [j + 1] :=
 Zls hT hop hd hs hx hz fun g cs ys hk hy=>by
  have hc:cs.length=10:=hk.1
  have hl:ys.length=1:=(Kd.int .i64).len hy
  exact ⟨by omega,(Zc9 (by omega)).trans hc,(List.forall_mem_cons.2 ⟨(by show (Kd.int .i64).K g y (seg (Z9 cs 0 ys) 0 1);rw [Zdg (by omega) hl];exact hy),(List.forall_mem_cons.2 ⟨(by show (Kd.int .i64).K g v.Num (seg (Z9 cs 0 ys) 1 1);rw [Z8 (by omega) (by omega)];exact hk.2 _ (List.mem_of_getElem? (i:=1) rfl)),(List.forall_mem_cons.2 ⟨(by show Zi.K g v.Rec (seg (Z9 cs 0 ys) 2 8);rw [Z8 (by omega) (by omega)];exact hk.2 _ (List.mem_of_getElem? (i:=2) rfl)),(fun _ h=>by cases h)⟩)⟩)⟩)⟩
theorem Zba5:Zp Tryz.prog 107:=by
 unfold Zp
 kernel_rfl
theorem Z9p:Zp Tryz.prog 108:=by
 unfold Zp
 kernel_rfl
theorem Z5h:Zp Tryz.prog 110:=by
 unfold Zp
 kernel_rfl
theorem Z5e:Zp Tryz.prog 109:=by
 unfold Zp
 kernel_rfl
theorem Z4j:Zp Tryz.prog 111:=by
 unfold Zp
 kernel_rfl
theorem Z47:Zp Tryz.prog 112:=by
 unfold Zp
 kernel_rfl
theorem Zbbq:Zp Tryz.prog 91:=by
 unfold Zp
 kernel_rfl
theorem Zbcl:Zp Tryz.prog 65:=by
 unfold Zp
 kernel_rfl
theorem Zbcx:Zp Tryz.prog 66:=by
 unfold Zp
 kernel_rfl
theorem Zbby:Zp Tryz.prog 67:=by
 unfold Zp
 kernel_rfl
theorem Zbb6:Zp Tryz.prog 22:=by
 unfold Zp
 kernel_rfl
theorem Zxu {N d:Nat} {o:Oper} {uses:Zbj} {x0:Operand} {x1:Operand} {v0:Int} {v1:Int} (hop:o.op=.build 49 #[(0,x0),(1,x1)]) (hd:o.dst=some d) (h0:Opd uses x0 ((Kd.int .i64).pd v0)) (h1:Opd uses x1 ((Kd.int .i64).pd v1)):OB Tryz.prog N o uses [(d,Zbx.pd { Code:=v0,At:=v1,Answers:=([]:List Zg) })] []:=by
 refine Zc6 hop hd fun a g hh=>?_
 obtain ⟨c0,k0,e0⟩:=h0 a g hh
 obtain rfl:=k0
 obtain ⟨c1,k1,e1⟩:=h1 a g hh
 obtain rfl:=k1
 refine ⟨.agg #[.int .i64 v0,.int .i64 v1,.slice none 0 0],?_,[.int .i64 v0,.int .i64 v1,.slice none 0 0],⟨rfl,(List.forall_mem_cons.2 ⟨rfl,(List.forall_mem_cons.2 ⟨rfl,(List.forall_mem_cons.2 ⟨(⟨none,0,rfl,Nat.le_refl _,Nat.zero_le _,.inl rfl⟩),(fun _ h=>by cases h)⟩)⟩)⟩)⟩,rfl⟩
 simp only [List.map_toArray,List.map_cons,List.map_nil,e0,e1]
 exact Zcy Tryz.underlying49 (zero:=.agg #[.int .i64 0,.int .i64 0,.slice none 0 0]) (by kernel_rfl) (places:=[(0,1),(1,1),(2,1)]) (by kernel_rfl) (by kernel_rfl) g.w
theorem Zbct:Zp Tryz.prog 43:=by
 unfold Zp
 kernel_rfl
theorem Z8f {N d:Nat} {o:Oper} {uses:Zbj} {x2:Operand} {v2:List Zg} (hop:o.op=.build 49 #[(2,x2)]) (hd:o.dst=some d) (h2:Opd uses x2 (Zm.sl.pd v2)):OB Tryz.prog N o uses [(d,Zbx.pd { Code:=(0:Int),At:=(0:Int),Answers:=v2 })] []:=by
 refine Zc6 hop hd fun a g hh=>?_
 obtain ⟨c2,k2,e2⟩:=h2 a g hh
 obtain ⟨A2,n2,rfl,l2⟩:=k2
 refine ⟨.agg #[.int .i64 0,.int .i64 0,.slice A2 v2.length n2],?_,[.int .i64 0,.int .i64 0,.slice A2 v2.length n2],⟨rfl,(List.forall_mem_cons.2 ⟨(rfl),(List.forall_mem_cons.2 ⟨(rfl),(List.forall_mem_cons.2 ⟨⟨A2,n2,rfl,l2⟩,(fun _ h=>by cases h)⟩)⟩)⟩)⟩,rfl⟩
 simp only [List.map_toArray,List.map_cons,List.map_nil,e2]
 exact Zcy Tryz.underlying49 (zero:=.agg #[.int .i64 0,.int .i64 0,.slice none 0 0]) (by kernel_rfl) (places:=[(0,1),(1,1),(2,1)]) (by kernel_rfl) (by kernel_rfl) g.w
theorem Z2q:Fld Tryz.prog 68 1 Zm (Kd.int .i64) (fun x:Zg=>x.Num):=Fld.of ⟨_,(Kd.int .i64),1,fun x:Zg=>x.Num⟩ (List.mem_of_getElem? (i:=1) rfl) 1 rfl (by kernel_rfl) (by decide)
theorem Z1y:Fld Tryz.prog 49 1 Zbx (Kd.int .i64) (fun x:Z1=>x.At):=Fld.of ⟨_,(Kd.int .i64),1,fun x:Z1=>x.At⟩ (List.mem_of_getElem? (i:=1) rfl) 1 rfl (by kernel_rfl) (by decide)
theorem Zbbp:Zp Tryz.prog 45:=by
 unfold Zp
 kernel_rfl
theorem Zbb8:Zp Tryz.prog 46:=by
 unfold Zp
 kernel_rfl
theorem Zbbj:Zp Tryz.prog 18:=by
 unfold Zp
 kernel_rfl
theorem Zbc2:Zp Tryz.prog 20:=by
 unfold Zp
 kernel_rfl
theorem Zbcu:Zp Tryz.prog 21:=by
 unfold Zp
 kernel_rfl
theorem Zmm (a0:(List Zl)) {r:(List Zl)} (h:Zby a0=some r):FnOk Tryz.prog 81 [(Zz.sl.pd a0)] (Zz.sl.pd r):=by
 unfold Zby at h
 obtain ⟨hsz,H0⟩:=Zfz h
 obtain rfl:=Option.some.inj H0
 refine Zbu (N:=8) Tryz.func81 rfl rfl (Nat.le_of_ble_eq_true rfl) rfl rfl (fun a g0 hst hb=>?_)
 refine wp_seq ?_
 refine Zmk Zb (N:=8) (L:=[(0,(Zz.sl.pd a0))]) (T:=[⟨[],[(2,(Zz.sl.pd []))],[],[],[2]⟩]) (F:=[.old 0]) (by kernel_rfl)
  (Zex (OT.plain rfl (Zc rfl rfl (Opd.c (fun g=>Zgv g)))) Zkr) hst hb (fun a g hst hb=>?_)
 refine Zs ?_
 refine wp_seq ?_
 refine wp_seq ?_
 refine Zmk Zb (N:=8) (L:=[(0,(Zz.sl.pd a0))]) (T:=[⟨[.old 0],[(3,(Zz.sl.pd a0))],[],[],[3]⟩,⟨[.op 0 0],[(4,Z29 a0)],[],[0],[4]⟩]) (F:=[.old 0,.op 1 0]) (by kernel_rfl)
  (Zex (OT.plain rfl (Za rfl rfl Opd.t0)) (Zex (OT.plain rfl (Zqk Tryz.underlying36 rfl rfl Opd.t0)) Zkr)) hst hb (fun a g hst hb=>?_)
 refine Zs ?_
 obtain ⟨c,hc,hc'⟩:=hst.at 1 rfl
 refine wp_cond_split hc (fun ht=>?_) (fun hf=>?_)
 ·obtain rfl:=hc' ht
  refine wp_seq ?_
  refine Zmk Zb (N:=8) (L:=[]) (T:=[⟨[],[(2,(Zz.sl.pd []))],[],[],[2]⟩]) (F:=[.op 0 0]) (by kernel_rfl)
   (Zex (OT.plain rfl (Zc rfl rfl (Opd.c (fun g=>Zgv g)))) Zkr) (hst.pick [] rfl) hb (fun a g hst hb=>?_)
  refine Zs ?_
  refine wp_ret ?_
  refine Zr ?_
  exact Z5 rfl hst hb (Zk (s:=2)) (hst.at 0 rfl)
 ·refine wp_skip ?_
  refine Zs ?_
  refine wp_seq ?_
  have hsz':(([]:(List Zl)).length + a0.length) * 24 ≤ 140737488355328:=by simpa using hsz
  refine Zmk Zb (N:=8) (L:=[(0,(Zz.sl.pd a0))]) (T:=[⟨[],[(5,(pRow Zz 116 5 []))],[6],[],[5]⟩,⟨[.old 0],[(6,(Zz.sl.pd a0))],[],[],[6]⟩,⟨[.op 0 0,.op 1 0],[(7,(pRow Zz 116 5 ([] ++ a0)))],[6],[0,1],[5,7]⟩,⟨[.op 2 0],[(2,(pRow Zz 116 5 ([] ++ a0)))],[],[0,1,2],[2]⟩]) (F:=[.op 3 0]) (by kernel_rfl)
   (Zex (OT.plain rfl (Zku 5 Zdl (xs:=[]) .nil (by decide) rfl rfl)) (Zex (OT.plain rfl (Za rfl rfl Opd.t0)) (Zex (OT.plain rfl (Zfr Zdl rfl rfl Opd.t0 (Opd.tl Opd.t0) hsz')) (Zex (OT.plain rfl (Zc rfl rfl Opd.t0)) Zkr)))) (hst.pick [0] rfl) hb (fun a g hst hb=>?_)
  refine Zs ?_
  refine wp_ret ?_
  exact Z5 rfl hst hb (Zk (s:=2)) (Zgi (hst.at 0 rfl))
theorem Zf2 (a0:(List Zl)) {r:(List Zl)} (h:Zby a0=some r):Zqm Tryz.prog 81 [(Zz.sl.pd a0)] Zz 116 r:=by
 unfold Zby at h
 obtain ⟨hsz,H0⟩:=Zfz h
 obtain rfl:=Option.some.inj H0
 refine Zrl (N:=8) Tryz.func81 rfl rfl (Nat.le_of_ble_eq_true rfl) rfl (fun a g0 h0 hst hb=>?_)
 refine r_s (T:=[⟨[],[(2,(Zz.sl.pd []))],[],[],[2]⟩]) (F:=[.old 0]) hst hb Zb
  (o_p rfl (Zc rfl rfl (Opd.c (fun g=>Zgv g)))<|o_n) (by kernel_rfl) (fun a g hst hb=>?_)
 refine wp_seq ?_
 refine r_s (T:=[⟨[.old 0],_,[],[],[3]⟩,⟨[.op 0 0],_,[],[0],[4]⟩]) (F:=[.old 0,.op 1 0]) hst hb Zb
  (o_p rfl (Za rfl rfl u_0)<|o_p rfl (Zqk Tryz.underlying36 rfl rfl u_0)<|o_n) (by kernel_rfl) (fun a g hst hb=>?_)
 obtain ⟨c,hc,hc'⟩:=hst.at 1 rfl
 refine wp_cond_split hc (fun ht=>?_) (fun hf=>?_)
 ·obtain rfl:=hc' ht
  refine r_s (L:=[]) (T:=[⟨[],[(2,(pEq (.slice none 0 0)))],[],[],[2]⟩]) (F:=[.op 0 0]) (hst.pick [] rfl) hb Zb
   (o_p rfl (Zc rfl rfl (Opd.c (fun g=>rfl)))<|o_n) (by kernel_rfl) (fun a g hst hb=>?_)
  refine wp_ret ?_
  refine Zr ?_
  exact Zqb rfl hst hb (Zk (s:=2)) ⟨none,hst.at 0 rfl⟩
 ·refine wp_skip ?_
  refine Zs ?_
  refine r_s (L:=[(0,_)]) (T:=[⟨[],[(5,(pOwn Zz 116 5 (some 0) (([]:(List Zl)).map some)))],[6],[],[5]⟩,⟨[.old 0],_,[],[],[6]⟩,⟨[.op 0 0,.op 1 0],_,[6],[0,1],[5,7]⟩,⟨[.op 2 0],_,[],[0,1,2],[2]⟩]) (F:=[.op 3 0]) (hst.pick [0] rfl) hb Zb
   (o_p rfl (Zs3 (ty:=0) Zdl rfl rfl)<|o_p rfl (Za rfl rfl u_0)<|o_p rfl (Zoz Zdl rfl rfl u_0 u_1 (by simpa using hsz))<|o_p rfl (Zc rfl rfl u_0)<|o_n) (by kernel_rfl) (fun a g hst hb=>?_)
  refine wp_ret ?_
  exact Zux rfl h0 hst hb (Zk (s:=2)) (hst.at 0 rfl)
theorem Zgr (a0:Ze) {r:Ze} (h:Zev a0=some r):FnOk Tryz.prog 53 [(Zi.pd a0)] (Zi.pd r):=by
 have H0:=h
 unfold Zev at H0
 clear h
 refine Zbu (N:=8) Tryz.func53 rfl rfl (Nat.le_of_ble_eq_true rfl) rfl rfl (fun a g0 hst hb=>?_)
 refine r_s (T:=[⟨[.old 0],_,[2],[],[1]⟩,⟨[],[(2,(pBox Zi 2 (default:Ze)))],[3],[],[2]⟩]) (F:=[.op 0 0,.op 1 0]) hst hb Zb
  (o_p rfl (Zkm rfl rfl u_0)<|o_p rfl (Zbh (zs:=[.int .i64 0,.int .i64 0,.int .i64 0,.int .i64 0,.float .f64 0,.int .i64 0,.string ByteArray.empty,.slice none 0 0]) (by kernel_rfl) (fun g=>Zb4 g) rfl rfl)<|o_n) (by kernel_rfl) (fun a g hst hb=>?_)
 obtain ⟨r1,h2,H0⟩:=Zh H0
 refine r_s (T:=[⟨[.old 0],_,[],[],[3]⟩,⟨[.op 0 0],_,[],[0],[4]⟩,⟨[.op 1 0],_,[],[0,1],[5]⟩,⟨[.old 0],_,[],[0,1,2],[6]⟩,⟨[.op 2 0,.op 3 0,.old 0],_,[2],Lr 4,[1,3,6]⟩]) (F:=[.op 4 0,.old 1]) hst hb Zb
  (o_p rfl (Zt Zce (off:=7) (by kernel_rfl) rfl rfl u_0)<|o_p rfl (Zbr Zc7 rfl rfl u_0)<|o_p rfl (Zo Zyl (Zmm _ h2) rfl rfl (.cons u_0 .nil))<|o_p rfl (Zt Zce (off:=7) (by kernel_rfl) rfl rfl u_0)<|o_p rfl (Zmz Zc7 rfl rfl u_2 u_1 u_0)<|o_n) (by kernel_rfl) (fun a g hst hb=>?_)
 refine r_s (T:=[⟨[.old 0],_,[],[],[7]⟩,⟨[.op 0 0,.old 1],_,[3],[0],[2]⟩]) (F:=[.op 1 0]) hst hb Zb
  (o_p rfl (Zb0 Zbc rfl rfl u_0)<|o_p rfl (Z2 Zbc rfl rfl u_1 u_0)<|o_n) (by kernel_rfl) (fun a g hst hb=>?_)
 refine wp_ret ?_
 obtain rfl:=Option.some.inj H0
 obtain ⟨u0,hu0,hq0⟩:=Zbf (P:=Tryz.prog) Zbc (hst.at 0 rfl)
 exact Z5 rfl hst hb hu0 hq0
theorem Zmh (a0:(List Zu)) {r:(List Zu)} (h:Zf9 a0=some r):Zqm Tryz.prog 56 [(Z4.sl.pd a0)] Z4 40 r:=by
 unfold Zf9 at h
 obtain ⟨hsz,H0⟩:=Zfz h
 obtain rfl:=Option.some.inj H0
 refine Zrl (N:=8) Tryz.func56 rfl rfl (Nat.le_of_ble_eq_true rfl) rfl (fun a g0 h0 hst hb=>?_)
 refine r_s (T:=[⟨[],[(2,(Z4.sl.pd []))],[],[],[2]⟩]) (F:=[.old 0]) hst hb Zb
  (o_p rfl (Zc rfl rfl (Opd.c (fun g=>Zgv g)))<|o_n) (by kernel_rfl) (fun a g hst hb=>?_)
 refine wp_seq ?_
 refine r_s (T:=[⟨[.old 0],_,[],[],[3]⟩,⟨[.op 0 0],_,[],[0],[4]⟩]) (F:=[.old 0,.op 1 0]) hst hb Zb
  (o_p rfl (Za rfl rfl u_0)<|o_p rfl (Zqk Tryz.underlying23 rfl rfl u_0)<|o_n) (by kernel_rfl) (fun a g hst hb=>?_)
 obtain ⟨c,hc,hc'⟩:=hst.at 1 rfl
 refine wp_cond_split hc (fun ht=>?_) (fun hf=>?_)
 ·obtain rfl:=hc' ht
  refine r_s (L:=[]) (T:=[⟨[],[(2,(pEq (.slice none 0 0)))],[],[],[2]⟩]) (F:=[.op 0 0]) (hst.pick [] rfl) hb Zb
   (o_p rfl (Zc rfl rfl (Opd.c (fun g=>rfl)))<|o_n) (by kernel_rfl) (fun a g hst hb=>?_)
  refine wp_ret ?_
  refine Zr ?_
  exact Zqb rfl hst hb (Zk (s:=2)) ⟨none,hst.at 0 rfl⟩
 ·refine wp_skip ?_
  refine Zs ?_
  refine r_s (L:=[(0,_)]) (T:=[⟨[],[(5,(pOwn Z4 40 5 (some 0) (([]:(List Zu)).map some)))],[6],[],[5]⟩,⟨[.old 0],_,[],[],[6]⟩,⟨[.op 0 0,.op 1 0],_,[6],[0,1],[5,7]⟩,⟨[.op 2 0],_,[],[0,1,2],[2]⟩]) (F:=[.op 3 0]) (hst.pick [0] rfl) hb Zb
   (o_p rfl (Zs3 (ty:=0) Zvs rfl rfl)<|o_p rfl (Za rfl rfl u_0)<|o_p rfl (Zoz Zvs rfl rfl u_0 u_1 (by simpa using hsz))<|o_p rfl (Zc rfl rfl u_0)<|o_n) (by kernel_rfl) (fun a g hst hb=>?_)
  refine wp_ret ?_
  exact Zux rfl h0 hst hb (Zk (s:=2)) (hst.at 0 rfl)
theorem Zrw (a0:Zbm) {r:Zbm} (h:Zl8 a0=some r):FnOk Tryz.prog 34 [(Zch.pd a0)] (Zch.pd r):=by
 unfold Zl8 at h
 obtain ⟨⟨hsz,hall⟩,H0⟩:=Zfz h
 obtain rfl:=Option.some.inj H0
 have hcl:Zf9 a0.Acts=some a0.Acts:=by unfold Zf9;rw [if_pos hsz]
 have hrc:∀ e ∈ a0.Acts,Zev e.Make=some e.Make:=fun e he=>by
  have:=List.all_eq_true.1 hall e he
  unfold Zev Zby
  rw [if_pos (of_decide_eq_true this)]
  rfl
 have hmx:a0.Acts.length ≤ 140737488355328:=Nat.le_trans (Nat.le_mul_of_pos_right _ (by decide)) hsz
 refine Zbu (N:=28) Tryz.func34 rfl rfl (Nat.le_of_ble_eq_true rfl) rfl rfl (fun a g0 hst hb=>?_)
 refine r_s (T:=[⟨[.old 0],[(1,(pBox Zch 1 a0))],[2],[],[1]⟩,⟨[],[(2,(pBox Zch 2 (default:Zbm)))],[3],[],[2]⟩]) (F:=[.op 0 0,.op 1 0]) hst hb Zb
  (o_p rfl (Zkm (j:=1) rfl rfl u_0)<|o_p rfl (Zbh (zs:=[.slice none 0 0]) (by kernel_rfl) (fun g=>Zt7 g) rfl rfl)<|o_n) (by kernel_rfl) (fun a g hst hb=>?_)
 refine r_s (T:=[⟨[.old 0],_,[],[],[4]⟩,⟨[.op 0 0],_,[],[0],[5]⟩,⟨[.op 1 0],[(6,(pArr Z4 40 6 a0.Acts))],[7],[0,1],[6]⟩,⟨[.old 0],_,[],[0,1,2],[7]⟩,⟨[.old 0,.op 3 0,.op 2 0],[(1,(pBxO Zgo Zg2 (fun x:Zbm=>x.Acts) Z4 40 1 6 a0))],[2],[0,1,2,3],[1,4,7]⟩]) (F:=[.op 4 0,.old 1]) hst hb Zb
  (o_p rfl (Zt Zhr (off:=0) (by kernel_rfl) rfl rfl u_0)<|o_p rfl (Zbr Zkf rfl rfl u_0)<|o_p rfl (Zl2 (j:=6) Zbc4 (Zmh _ hcl) rfl rfl (.cons u_0 .nil))<|o_p rfl (Zt Zhr (off:=0) (by kernel_rfl) rfl rfl u_0)<|o_p rfl (Zx0 Zy7 Zu7 rfl rfl (by decide) u_0 u_1 u_2 (fun g cs s0 s1 ys h k=>Zx6 h k))<|o_n) (by kernel_rfl) (fun a g hst hb=>?_)
 refine wp_seq ?_
 refine r_s (T:=[⟨[.old 0],_,[],[],[8]⟩,⟨[.op 0 0],_,[],[0],[9]⟩,⟨[.op 1 0],_,[],[0,1],[10]⟩,⟨[],_,[],[],[11]⟩]) (F:=[.old 0,.old 1,.op 2 0,.op 3 0]) hst hb Zb
  (o_p rfl (Zm1 Zup (off:=0) (by kernel_rfl) (fun _=>rfl) rfl rfl u_0)<|o_p rfl (Zny Zu7 rfl rfl u_0)<|o_p rfl (Z2o Tryz.underlying23 rfl rfl u_0)<|o_p rfl (Za rfl rfl c_i)<|o_n) (by kernel_rfl) (fun a g hst hb=>?_)
 refine Zca (fun a w=>∃ (g:G),w=g.w ∧ St 28 [(1,(pBxO Zgo Zg2 (fun x:Zbm=>x.Acts) Z4 40 1 6 a0)),(2,(pBox Zch 2 (default:Zbm)))] a g ∧ Base g0 g) ?_ ?_
 ·rintro a w ⟨g,rfl,hst,hb⟩
  refine Zs ?_
  refine r_s (T:=[⟨[.old 0],[(27,(Zch.pd a0))],[7],[],[27,1]⟩,⟨[.old 1,.op 0 0],_,[3],[0],[2]⟩]) (F:=[.op 1 0]) hst hb Zb
   (o_p rfl (Zuc Zy6 rfl Zbal rfl rfl u_0)<|o_p rfl (Z2 Znl rfl rfl u_0 u_1)<|o_n) (by kernel_rfl) (fun a g hst hb=>?_)
  refine wp_ret ?_
  obtain ⟨u0,hu0,hq0⟩:=Zbf (P:=Tryz.prog) Znl (hst.at 0 rfl)
  exact Z5 rfl hst hb hu0 hq0
 ·refine wp_block ?_
  refine wp_loop_ghost (fun n a w=>∃ (i:Nat) (g:G),w=g.w ∧ St 28 [(1,(pBxO Zgo Zg2 (fun x:Zbm=>x.Acts) Z4 40 1 6 a0)),(2,(pBox Zch 2 (default:Zbm))),(10,(pInt .i64 (a0.Acts.length:Int))),(11,(pInt .i64 (i:Int)))] a g ∧ Base g0 g ∧ i ≤ a0.Acts.length ∧ n=a0.Acts.length - i) a0.Acts.length ⟨0,g,rfl,hst,hb,Nat.zero_le _,rfl⟩ (fun n a w hI=>?_)
  obtain ⟨i,g,rfl,hst,hb,hi,rfl⟩:=hI
  refine r_s (T:=[⟨[.old 3,.old 2],_,[],[],[12]⟩]) (F:=[.old 0,.old 1,.old 2,.old 3,.op 0 0]) hst hb Zb
   (o_p rfl (Zci rfl rfl u_0 u_1)<|o_n) (by kernel_rfl) (fun a g hst hb=>?_)
  refine wp_seq ?_
  refine wp_cond_split (hst.bool 4 rfl) (fun hc=>?_) (fun hc=>?_)
  ·have hlt:i < a0.Acts.length:=by have:=of_decide_eq_true hc;omega
   have hx:idx a0.Acts (i:Int)=some a0.Acts[i]:=Z1r (List.getElem?_eq_getElem hlt)
   refine wp_skip ?_
   refine Zs ?_
   refine wp_seq ?_
   refine wp_block ?_
   refine r_s (L:=[(1,_),(2,_),(10,_),(11,_)]) (T:=[⟨[.old 3],_,[],[],[13]⟩,⟨[.op 0 0],_,[],[0],[3]⟩]) (F:=[.old 0,.old 1,.op 1 0,.old 2,.old 3]) (hst.pick [0,1,2,3] rfl) hb Zb
    (o_p rfl (Za rfl rfl u_0)<|o_p rfl (Zc rfl rfl u_0)<|o_n) (by kernel_rfl) (fun a g hst hb=>?_)
   refine r_g (T:=[⟨[.old 0],_,[],[],[14]⟩,⟨[.op 0 0],_,[],[0],[15]⟩,⟨[.old 2],_,[],[],[16]⟩,⟨[.old 0],_,[],[],[17]⟩,⟨[.op 3 0],_,[],[3],[18]⟩,⟨[.old 2],_,[],[],[19]⟩,⟨[.op 4 0,.op 5 0],_,[],[3,4,5],[20]⟩,⟨[.op 6 0],_,[],[3,4,5,6],[21]⟩,⟨[.op 7 0],_,[],[3,4,5,6,7],[22]⟩,⟨[.op 8 0],_,[],[3,4,5,6,7,8],[23]⟩,⟨[.op 1 0,.op 2 0],_,[],[0,1,2,3,4,5,6,7,8,9],[24]⟩,⟨[.op 10 0],_,[],[0,1,2,3,4,5,6,7,8,9,10],[25]⟩,⟨[.old 0,.op 11 0,.op 9 0],[(1,(pBxO Zgo Zg2 (fun x:Zbm=>x.Acts) Z4 40 1 6 a0))],[7],[0,1,2,3,4,5,6,7,8,9,10,11],[1,14,15,17,18,20,21,24,25]⟩]) (F:=[.op 12 0,.old 1,.old 3,.old 4]) hst hb Zb
    (o_p rfl (Zm1 Zup (off:=0) (by kernel_rfl) (fun _=>rfl) rfl rfl u_0)<|o_p rfl (Zny Zu7 rfl rfl u_0)<|o_p rfl (Za rfl rfl u_0)<|o_p rfl (Zm1 Zup (off:=0) (by kernel_rfl) (fun _=>rfl) rfl rfl u_0)<|o_p rfl (Zny Zu7 rfl rfl u_0)<|o_p rfl (Za rfl rfl u_0)<|o_p rfl (Zp3 Tryz.underlying23 Zo0 rfl rfl u_0 u_1 hx)<|o_p rfl (Zo3 Zmd (off2:=5) (by kernel_rfl) (by decide) rfl rfl u_0)<|o_p rfl (Zx1 Zbc rfl rfl u_0)<|o_p rfl (Zo Zn8 (Zgr _ (hrc _ (List.getElem_mem hlt))) rfl rfl (.cons u_0 .nil))<|o_p rfl (Zp3 Tryz.underlying23 Zo0 rfl rfl u_0 u_1 hx)<|o_p rfl (Zo3 Zmd (off2:=5) (by kernel_rfl) (by decide) rfl rfl u_0)<|o_p rfl (Zt9 (u:=a0.Acts[i]) (u':=a0.Acts[i]) (x':=a0) Zbc rfl rfl (by decide) u_0 u_1 u_2 (Z18 hx) (by decide) (by rw [Int.toNat_natCast];exact (List.set_getElem_self hlt).symm) (fun _=>rfl) (Zx7 _))<|o_n) (by kernel_rfl) (fun a g hst hb=>?_)
   refine Zbe ?_
   refine Zs ?_
   refine r_g (T:=[⟨[.old 3],_,[],[],[26]⟩,⟨[.op 0 0],_,[],[0],[11]⟩]) (F:=[.old 0,.old 1,.old 2,.op 1 0]) hst hb Zb
    (o_p rfl (Zb7 rfl rfl u_0 c_i (Zxr hlt (by omega)))<|o_p rfl (Za rfl rfl u_0)<|o_n) (by kernel_rfl) (fun a g hst hb=>?_)
   exact ⟨a0.Acts.length - (i + 1),by omega,i + 1,g,rfl,hst,hb,by omega,rfl⟩
  ·refine wp_exit ?_
   refine Zb3 ?_
   refine Zb3 ?_
   refine Zcn ?_
   exact ⟨g,rfl,hst.pick [0,1] rfl,hb⟩
theorem Znm (a0:(List ByteArray)) {r:(List ByteArray)} (h:Zgs a0=some r):FnOk Tryz.prog 35 [(Kd.str.sl.pd a0)] (Kd.str.sl.pd r):=by
 unfold Zgs at h
 obtain ⟨hsz,H0⟩:=Zfz h
 obtain rfl:=Option.some.inj H0
 refine Zbu (N:=8) Tryz.func35 rfl rfl (Nat.le_of_ble_eq_true rfl) rfl rfl (fun a g0 hst hb=>?_)
 refine wp_seq ?_
 refine Zmk Zb (N:=8) (L:=[(0,(Kd.str.sl.pd a0))]) (T:=[⟨[],[(2,(Kd.str.sl.pd []))],[],[],[2]⟩]) (F:=[.old 0]) (by kernel_rfl)
  (Zex (OT.plain rfl (Zc rfl rfl (Opd.c (fun g=>Zgv g)))) Zkr) hst hb (fun a g hst hb=>?_)
 refine Zs ?_
 refine wp_seq ?_
 refine wp_seq ?_
 refine Zmk Zb (N:=8) (L:=[(0,(Kd.str.sl.pd a0))]) (T:=[⟨[.old 0],[(3,(Kd.str.sl.pd a0))],[],[],[3]⟩,⟨[.op 0 0],[(4,Z29 a0)],[],[0],[4]⟩]) (F:=[.old 0,.op 1 0]) (by kernel_rfl)
  (Zex (OT.plain rfl (Za rfl rfl Opd.t0)) (Zex (OT.plain rfl (Zqk Tryz.underlying26 rfl rfl Opd.t0)) Zkr)) hst hb (fun a g hst hb=>?_)
 refine Zs ?_
 obtain ⟨c,hc,hc'⟩:=hst.at 1 rfl
 refine wp_cond_split hc (fun ht=>?_) (fun hf=>?_)
 ·obtain rfl:=hc' ht
  refine wp_seq ?_
  refine Zmk Zb (N:=8) (L:=[]) (T:=[⟨[],[(2,(Kd.str.sl.pd []))],[],[],[2]⟩]) (F:=[.op 0 0]) (by kernel_rfl)
   (Zex (OT.plain rfl (Zc rfl rfl (Opd.c (fun g=>Zgv g)))) Zkr) (hst.pick [] rfl) hb (fun a g hst hb=>?_)
  refine Zs ?_
  refine wp_ret ?_
  refine Zr ?_
  exact Z5 rfl hst hb (Zk (s:=2)) (hst.at 0 rfl)
 ·refine wp_skip ?_
  refine Zs ?_
  refine wp_seq ?_
  have hsz':(([]:(List ByteArray)).length + a0.length) * 16 ≤ 140737488355328:=by simpa using hsz
  refine Zmk Zb (N:=8) (L:=[(0,(Kd.str.sl.pd a0))]) (T:=[⟨[],[(5,(pRow Kd.str 9 5 []))],[6],[],[5]⟩,⟨[.old 0],[(6,(Kd.str.sl.pd a0))],[],[],[6]⟩,⟨[.op 0 0,.op 1 0],[(7,(pRow Kd.str 9 5 ([] ++ a0)))],[6],[0,1],[5,7]⟩,⟨[.op 2 0],[(2,(pRow Kd.str 9 5 ([] ++ a0)))],[],[0,1,2],[2]⟩]) (F:=[.op 3 0]) (by kernel_rfl)
   (Zex (OT.plain rfl (Zku 5 Zq7 (xs:=[]) .nil (by decide) rfl rfl)) (Zex (OT.plain rfl (Za rfl rfl Opd.t0)) (Zex (OT.plain rfl (Zfr Zq7 rfl rfl Opd.t0 (Opd.tl Opd.t0) hsz')) (Zex (OT.plain rfl (Zc rfl rfl Opd.t0)) Zkr)))) (hst.pick [0] rfl) hb (fun a g hst hb=>?_)
  refine Zs ?_
  refine wp_ret ?_
  exact Z5 rfl hst hb (Zk (s:=2)) (Zgi (hst.at 0 rfl))
theorem Zx3 (a0:Int) {r:Zcg} (h:Zey a0=some r):FnOk Tryz.prog 75 [(pInt .i64 a0)] (Zdb.pd r):=by
 have H0:=h
 unfold Zey at H0
 clear h
 refine Zbu (N:=24) Tryz.func75 rfl rfl (Nat.le_of_ble_eq_true rfl) rfl rfl (fun a g0 hst hb=>?_)
 refine r_s (T:=[⟨[],[(2,(pBox Zdb 2 (default:Zcg)))],[3],[],[2]⟩]) (F:=[.old 0,.op 0 0]) hst hb Zb
  (o_p rfl (Zbh (zs:=[.bool false,.bool false,.bool false,.bool false,.bool false]) (by kernel_rfl) (fun g=>Zsf g) rfl rfl)<|o_n) (by kernel_rfl) (fun a g hst hb=>?_)
 refine wp_seq ?_
 refine r_s (T:=[⟨[.old 0],_,[],[],[3]⟩]) (F:=[.old 1,.op 0 0]) hst hb Zb
  (o_p rfl (Za rfl rfl u_0)<|o_n) (by kernel_rfl) (fun a g hst hb=>?_)
 refine wp_block ?_
 refine r_s (T:=[⟨[.old 1],_,[],[],[5]⟩,⟨[.op 0 0],_,[],[0],[4]⟩]) (F:=[.old 0,.old 1,.op 1 0]) hst hb Zb
  (o_p rfl (Zbs rfl rfl u_0 c_i)<|o_p rfl (Zc rfl rfl u_0)<|o_n) (by kernel_rfl) (fun a g hst hb=>?_)
 refine wp_cond_split (hst.bool 2 rfl) (fun hc1=>?_) (fun hc1=>?_)
 ·replace H0:=Zv hc1 H0
  refine r_s (L:=[(2,_)]) (T:=[⟨[],_,[],[],[6]⟩,⟨[.op 0 0,.old 0],_,[3],[0],[2]⟩]) (F:=[.op 1 0]) (hst.pick [0] rfl) hb Zb
   (o_p rfl (Z5z rfl rfl c_b)<|o_p rfl (Z2 Zj2 rfl rfl u_1 u_0)<|o_n) (by kernel_rfl) (fun a g hst hb=>?_)
  refine wp_ret ?_
  refine Z6 ?_
  refine Zr ?_
  obtain rfl:=Option.some.inj H0
  obtain ⟨u0,hu0,hq0⟩:=Zbf (P:=Tryz.prog) Zj2 (hst.at 0 rfl)
  exact Z5 rfl hst hb hu0 hq0
 ·replace H0:=Zw hc1 H0
  refine wp_seq ?_
  refine r_s (L:=[(2,_),(3,_)]) (T:=[⟨[.old 1],_,[],[],[8]⟩,⟨[.op 0 0],_,[],[0],[7]⟩]) (F:=[.old 0,.old 1,.op 1 0]) (hst.pick [0,1] rfl) hb Zb
   (o_p rfl (Zbs rfl rfl u_0 c_i)<|o_p rfl (Zc rfl rfl u_0)<|o_n) (by kernel_rfl) (fun a g hst hb=>?_)
  refine Zca (fun a w=>∃ (j3:Bool) (g:G),w=g.w ∧ St 24 [(2,(pBox Zdb 2 (default:Zcg))),(3,(pInt .i64 a0)),(7,(Zbg j3))] a g ∧ Base g0 g ∧ Zk7 a0 j3=some r) ?_ ?_
  ·rintro a w ⟨j3,g,rfl,hst,hb,H0⟩
   unfold Zk7 at H0
   refine Zs ?_
   refine wp_cond_split (hst.bool 2 rfl) (fun hc4=>?_) (fun hc4=>?_)
   ·replace H0:=Zv hc4 H0
    refine r_s (L:=[(2,_)]) (T:=[⟨[],_,[],[],[10]⟩,⟨[.op 0 0,.old 0],_,[3],[0],[2]⟩]) (F:=[.op 1 0]) (hst.pick [0] rfl) hb Zb
     (o_p rfl (Z50 rfl rfl c_b)<|o_p rfl (Z2 Zj2 rfl rfl u_1 u_0)<|o_n) (by kernel_rfl) (fun a g hst hb=>?_)
    refine wp_ret ?_
    refine Z6 ?_
    refine Zr ?_
    obtain rfl:=Option.some.inj H0
    obtain ⟨u0,hu0,hq0⟩:=Zbf (P:=Tryz.prog) Zj2 (hst.at 0 rfl)
    exact Z5 rfl hst hb hu0 hq0
   ·replace H0:=Zw hc4 H0
    refine r_s (L:=[(2,_),(3,_)]) (T:=[⟨[.old 1],_,[],[],[12]⟩,⟨[.op 0 0],_,[],[0],[11]⟩]) (F:=[.old 0,.old 1,.op 1 0]) (hst.pick [0,1] rfl) hb Zb
     (o_p rfl (Zbs rfl rfl u_0 c_i)<|o_p rfl (Zc rfl rfl u_0)<|o_n) (by kernel_rfl) (fun a g hst hb=>?_)
    refine wp_cond_split (hst.bool 2 rfl) (fun hc5=>?_) (fun hc5=>?_)
    ·replace H0:=Zv hc5 H0
     refine r_s (L:=[(2,_)]) (T:=[⟨[],_,[],[],[13]⟩,⟨[.op 0 0,.old 0],_,[3],[0],[2]⟩]) (F:=[.op 1 0]) (hst.pick [0] rfl) hb Zb
      (o_p rfl (Z2u rfl rfl c_b c_b)<|o_p rfl (Z2 Zj2 rfl rfl u_1 u_0)<|o_n) (by kernel_rfl) (fun a g hst hb=>?_)
     refine wp_ret ?_
     refine Z6 ?_
     refine Zr ?_
     obtain rfl:=Option.some.inj H0
     obtain ⟨u0,hu0,hq0⟩:=Zbf (P:=Tryz.prog) Zj2 (hst.at 0 rfl)
     exact Z5 rfl hst hb hu0 hq0
    ·replace H0:=Zw hc5 H0
     refine wp_seq ?_
     refine r_s (L:=[(2,_),(3,_)]) (T:=[⟨[.old 1],_,[],[],[15]⟩,⟨[.op 0 0],_,[],[0],[14]⟩]) (F:=[.old 0,.old 1,.op 1 0]) (hst.pick [0,1] rfl) hb Zb
      (o_p rfl (Zbs rfl rfl u_0 c_i)<|o_p rfl (Zc rfl rfl u_0)<|o_n) (by kernel_rfl) (fun a g hst hb=>?_)
     refine Zca (fun a w=>∃ (j8:Bool) (g:G),w=g.w ∧ St 24 [(2,(pBox Zdb 2 (default:Zcg))),(3,(pInt .i64 a0)),(14,(Zbg j8))] a g ∧ Base g0 g ∧ Zjm a0 j8=some r) ?_ ?_
     ·rintro a w ⟨j8,g,rfl,hst,hb,H0⟩
      unfold Zjm at H0
      refine Zs ?_
      refine wp_cond_split (hst.bool 2 rfl) (fun hc9=>?_) (fun hc9=>?_)
      ·replace H0:=Zv hc9 H0
       refine r_s (L:=[(2,_)]) (T:=[⟨[],_,[],[],[18]⟩,⟨[.op 0 0,.old 0],_,[3],[0],[2]⟩]) (F:=[.op 1 0]) (hst.pick [0] rfl) hb Zb
        (o_p rfl (Z6m rfl rfl c_b)<|o_p rfl (Z2 Zj2 rfl rfl u_1 u_0)<|o_n) (by kernel_rfl) (fun a g hst hb=>?_)
       refine wp_ret ?_
       refine Z6 ?_
       refine Zr ?_
       obtain rfl:=Option.some.inj H0
       obtain ⟨u0,hu0,hq0⟩:=Zbf (P:=Tryz.prog) Zj2 (hst.at 0 rfl)
       exact Z5 rfl hst hb hu0 hq0
      ·replace H0:=Zw hc9 H0
       refine wp_seq ?_
       refine r_s (L:=[(2,_),(3,_)]) (T:=[⟨[.old 1],_,[],[],[20]⟩,⟨[.op 0 0],_,[],[0],[19]⟩]) (F:=[.old 0,.old 1,.op 1 0]) (hst.pick [0,1] rfl) hb Zb
        (o_p rfl (Zbs rfl rfl u_0 c_i)<|o_p rfl (Zc rfl rfl u_0)<|o_n) (by kernel_rfl) (fun a g hst hb=>?_)
       refine Zca (fun a w=>∃ (j11:Bool) (g:G),w=g.w ∧ St 24 [(2,(pBox Zdb 2 (default:Zcg))),(19,(Zbg j11))] a g ∧ Base g0 g ∧ Zk8 j11=some r) ?_ ?_
       ·rintro a w ⟨j11,g,rfl,hst,hb,H0⟩
        unfold Zk8 at H0
        refine Zs ?_
        refine wp_cond_split (hst.bool 1 rfl) (fun hc12=>?_) (fun hc12=>?_)
        ·replace H0:=Zv hc12 H0
         refine r_s (L:=[(2,_)]) (T:=[⟨[],_,[],[],[22]⟩,⟨[.op 0 0,.old 0],_,[3],[0],[2]⟩]) (F:=[.op 1 0]) (hst.pick [0] rfl) hb Zb
          (o_p rfl (Z6p rfl rfl c_b)<|o_p rfl (Z2 Zj2 rfl rfl u_1 u_0)<|o_n) (by kernel_rfl) (fun a g hst hb=>?_)
         refine wp_ret ?_
         refine Z6 ?_
         refine Zr ?_
         obtain rfl:=Option.some.inj H0
         obtain ⟨u0,hu0,hq0⟩:=Zbf (P:=Tryz.prog) Zj2 (hst.at 0 rfl)
         exact Z5 rfl hst hb hu0 hq0
        ·replace H0:=Zw hc12 H0
         refine wp_skip ?_
         refine Zbe ?_
         refine Zs ?_
         refine r_s (L:=[(2,_)]) (T:=[⟨[],_,[],[],[23]⟩,⟨[.op 0 0,.old 0],_,[3],[0],[2]⟩]) (F:=[.op 1 0]) (hst.pick [0] rfl) hb Zb
          (o_p rfl (Z77 rfl rfl )<|o_p rfl (Z2 Zj2 rfl rfl u_1 u_0)<|o_n) (by kernel_rfl) (fun a g hst hb=>?_)
         refine wp_ret ?_
         obtain rfl:=Option.some.inj H0
         obtain ⟨u0,hu0,hq0⟩:=Zbf (P:=Tryz.prog) Zj2 (hst.at 0 rfl)
         exact Z5 rfl hst hb hu0 hq0
       ·refine wp_cond_split (hst.bool 2 rfl) (fun hc10=>?_) (fun hc10=>?_)
        ·replace H0:=Zv hc10 H0
         refine wp_skip ?_
         exact ⟨(a0 == (8:Int)),g,rfl,(hst.pick [0,2] rfl),hb,H0⟩
        ·replace H0:=Zw hc10 H0
         refine r_g (L:=[(2,_),(3,_)]) (T:=[⟨[.old 1],_,[],[],[21]⟩,⟨[.op 0 0],_,[],[0],[19]⟩]) (F:=[.old 0,.op 1 0]) (hst.pick [0,1] rfl) hb Zb
          (o_p rfl (Zbs rfl rfl u_0 c_i)<|o_p rfl (Zc rfl rfl u_0)<|o_n) (by kernel_rfl) (fun a g hst hb=>?_)
         exact ⟨(a0 == (9:Int)),g,rfl,(hst.pick [0,1] rfl),hb,H0⟩
     ·refine wp_cond_split (hst.bool 2 rfl) (fun hc6=>?_) (fun hc6=>?_)
      ·replace H0:=Zv hc6 H0
       refine wp_skip ?_
       exact ⟨(a0 == (5:Int)),g,rfl,(hst.pick [0,1,2] rfl),hb,H0⟩
      ·replace H0:=Zw hc6 H0
       refine r_s (L:=[(2,_),(3,_)]) (T:=[⟨[.old 1],_,[],[],[16]⟩,⟨[.op 0 0],_,[],[0],[14]⟩]) (F:=[.old 0,.old 1,.op 1 0]) (hst.pick [0,1] rfl) hb Zb
        (o_p rfl (Zbs rfl rfl u_0 c_i)<|o_p rfl (Zc rfl rfl u_0)<|o_n) (by kernel_rfl) (fun a g hst hb=>?_)
       refine wp_cond_split (hst.bool 2 rfl) (fun hc7=>?_) (fun hc7=>?_)
       ·replace H0:=Zv hc7 H0
        refine wp_skip ?_
        exact ⟨(a0 == (6:Int)),g,rfl,(hst.pick [0,1,2] rfl),hb,H0⟩
       ·replace H0:=Zw hc7 H0
        refine r_g (L:=[(2,_),(3,_)]) (T:=[⟨[.old 1],_,[],[],[17]⟩,⟨[.op 0 0],_,[],[0],[14]⟩]) (F:=[.old 0,.old 1,.op 1 0]) (hst.pick [0,1] rfl) hb Zb
         (o_p rfl (Zbs rfl rfl u_0 c_i)<|o_p rfl (Zc rfl rfl u_0)<|o_n) (by kernel_rfl) (fun a g hst hb=>?_)
        exact ⟨(a0 == (7:Int)),g,rfl,(hst.pick [0,1,2] rfl),hb,H0⟩
  ·refine wp_cond_split (hst.bool 2 rfl) (fun hc2=>?_) (fun hc2=>?_)
   ·replace H0:=Zv hc2 H0
    refine wp_skip ?_
    exact ⟨(a0 == (2:Int)),g,rfl,(hst.pick [0,1,2] rfl),hb,H0⟩
   ·replace H0:=Zw hc2 H0
    refine r_g (L:=[(2,_),(3,_)]) (T:=[⟨[.old 1],_,[],[],[9]⟩,⟨[.op 0 0],_,[],[0],[7]⟩]) (F:=[.old 0,.old 1,.op 1 0]) (hst.pick [0,1] rfl) hb Zb
     (o_p rfl (Zbs rfl rfl u_0 c_i)<|o_p rfl (Zc rfl rfl u_0)<|o_n) (by kernel_rfl) (fun a g hst hb=>?_)
    exact ⟨(a0 == (3:Int)),g,rfl,(hst.pick [0,1,2] rfl),hb,H0⟩
theorem Z0x {r:Nat} (h:Zrq=some r):FnOk Tryz.prog 132 [] (pFlt r):=by
 have H0:=h
 unfold Zrq at H0
 clear h
 refine Zbu (N:=2) Tryz.func132 rfl rfl (Nat.le_of_ble_eq_true rfl) rfl rfl (fun a g0 hst hb=>?_)
 refine r_s (T:=[⟨[],_,[],[],[0]⟩]) (F:=[]) hst hb Zb
  (o_p rfl (Zc rfl rfl c_f)<|o_n) (by kernel_rfl) (fun a g hst hb=>?_)
 refine r_s (T:=[⟨[],_,[],[],[1]⟩,⟨[.op 0 0],_,[],[0],[0]⟩]) (F:=[.op 1 0]) hst hb Zb
  (o_p rfl (Zqe Zz9 rfl rfl c_i)<|o_p rfl (Zc rfl rfl u_0)<|o_n) (by kernel_rfl) (fun a g hst hb=>?_)
 refine wp_ret ?_
 obtain rfl:=Option.some.inj H0
 exact Z5 rfl hst hb (Zk (s:=0)) (hst.at 0 rfl)
theorem Zh7 (a0:Nat) {r:Nat} (h:Zgk a0=some r):FnOk Tryz.prog 100 [(pFlt a0)] (pFlt r):=by
 have H0:=h
 unfold Zgk at H0
 clear h
 refine Zbu (N:=8) Tryz.func100 rfl rfl (Nat.le_of_ble_eq_true rfl) rfl rfl (fun a g0 hst hb=>?_)
 refine r_s (T:=[⟨[],_,[],[],[2]⟩]) (F:=[.old 0]) hst hb Zb
  (o_p rfl (Zc rfl rfl c_f)<|o_n) (by kernel_rfl) (fun a g hst hb=>?_)
 refine wp_seq ?_
 refine r_s (T:=[⟨[.old 0],_,[],[],[3]⟩,⟨[.old 0],_,[],[],[4]⟩,⟨[.op 0 0,.op 1 0],_,[],[0,1],[5]⟩]) (F:=[.old 0,.op 2 0]) hst hb Zb
  (o_p rfl (Za rfl rfl u_0)<|o_p rfl (Za rfl rfl u_0)<|o_p rfl (Z2d rfl rfl u_0 u_1)<|o_n) (by kernel_rfl) (fun a g hst hb=>?_)
 refine wp_cond_split (hst.bool 1 rfl) (fun hc1=>?_) (fun hc1=>?_)
 ·replace H0:=Zv hc1 H0
  obtain ⟨r2,h3,H0⟩:=Zh H0
  refine r_s (L:=[]) (T:=[⟨[],_,[],[],[6]⟩,⟨[.op 0 0],_,[],[0],[2]⟩]) (F:=[.op 1 0]) (hst.pick [] rfl) hb Zb
   (o_p rfl (Zo Z94 (Z0x h3) rfl rfl .nil)<|o_p rfl (Zc rfl rfl u_0)<|o_n) (by kernel_rfl) (fun a g hst hb=>?_)
  refine wp_ret ?_
  refine Zr ?_
  obtain rfl:=Option.some.inj H0
  exact Z5 rfl hst hb (Zk (s:=2)) (hst.at 0 rfl)
 ·replace H0:=Zw hc1 H0
  refine wp_skip ?_
  refine Zs ?_
  refine r_s (L:=[(0,_)]) (T:=[⟨[.old 0],_,[],[],[7]⟩,⟨[.op 0 0],_,[],[0],[2]⟩]) (F:=[.op 1 0]) (hst.pick [0] rfl) hb Zb
   (o_p rfl (Za rfl rfl u_0)<|o_p rfl (Zc rfl rfl u_0)<|o_n) (by kernel_rfl) (fun a g hst hb=>?_)
  refine wp_ret ?_
  obtain rfl:=Option.some.inj H0
  exact Z5 rfl hst hb (Zk (s:=2)) (hst.at 0 rfl)
theorem Zox (a0:Nat) {r:Int} (h:Zmt a0=some r):FnOk Tryz.prog 89 [(pFlt a0)] (pInt .u64 r):=by
 have H0:=h
 unfold Zmt at H0
 clear h
 refine Zbu (N:=14) Tryz.func89 rfl rfl (Nat.le_of_ble_eq_true rfl) rfl rfl (fun a g0 hst hb=>?_)
 refine r_s (T:=[⟨[],_,[],[],[2]⟩]) (F:=[.old 0]) hst hb Zb
  (o_p rfl (Zc rfl rfl c_i)<|o_n) (by kernel_rfl) (fun a g hst hb=>?_)
 obtain ⟨r1,h2,H0⟩:=Zh H0
 refine r_s (T:=[⟨[.old 0],_,[],[],[4]⟩,⟨[.op 0 0],_,[],[0],[5]⟩,⟨[.op 1 0],_,[],[0,1],[6]⟩,⟨[.op 2 0],_,[],[0,1,2],[3]⟩]) (F:=[.op 3 0]) hst hb Zb
  (o_p rfl (Za rfl rfl u_0)<|o_p rfl (Zo Zod (Zh7 _ h2) rfl rfl (.cons u_0 .nil))<|o_p rfl (Zqi Zvg rfl rfl u_0)<|o_p rfl (Zc rfl rfl u_0)<|o_n) (by kernel_rfl) (fun a g hst hb=>?_)
 refine wp_seq ?_
 refine r_s (T:=[⟨[.old 0],_,[],[],[7]⟩,⟨[.op 0 0],_,[],[0],[8]⟩,⟨[.op 1 0],_,[],[0,1],[9]⟩]) (F:=[.old 0,.op 2 0]) hst hb Zb
  (o_p rfl (Za rfl rfl u_0)<|o_p rfl (Zba3 rfl rfl u_0 c_i)<|o_p rfl (Zdk rfl rfl u_0 c_i)<|o_n) (by kernel_rfl) (fun a g hst hb=>?_)
 refine wp_cond_split (hst.bool 1 rfl) (fun hc3=>?_) (fun hc3=>?_)
 ·replace H0:=Zv hc3 H0
  refine r_s (L:=[(3,_)]) (T:=[⟨[.old 0],_,[],[],[10]⟩,⟨[.op 0 0],_,[],[0],[11]⟩,⟨[.op 1 0],_,[],[0,1],[2]⟩]) (F:=[.op 2 0]) (hst.pick [0] rfl) hb Zb
   (o_p rfl (Za rfl rfl u_0)<|o_p rfl (Z9f rfl rfl rfl u_0)<|o_p rfl (Zc rfl rfl u_0)<|o_n) (by kernel_rfl) (fun a g hst hb=>?_)
  refine wp_ret ?_
  refine Zr ?_
  obtain rfl:=Option.some.inj H0
  exact Z5 rfl hst hb (Zk (s:=2)) (hst.at 0 rfl)
 ·replace H0:=Zw hc3 H0
  refine wp_skip ?_
  refine Zs ?_
  refine r_s (L:=[(3,_)]) (T:=[⟨[.old 0],_,[],[],[12]⟩,⟨[.op 0 0],_,[],[0],[13]⟩,⟨[.op 1 0],_,[],[0,1],[2]⟩]) (F:=[.op 2 0]) (hst.pick [0] rfl) hb Zb
   (o_p rfl (Za rfl rfl u_0)<|o_p rfl (Zbb5 rfl rfl u_0 c_i)<|o_p rfl (Zc rfl rfl u_0)<|o_n) (by kernel_rfl) (fun a g hst hb=>?_)
  refine wp_ret ?_
  obtain rfl:=Option.some.inj H0
  exact Z5 rfl hst hb (Zk (s:=2)) (hst.at 0 rfl)
theorem Zlg (a0:Nat) (a1:Nat) {r:Bool} (h:Zkb a0 a1=some r):FnOk Tryz.prog 62 [(pFlt a0),(pFlt a1)] (Zbg r):=by
 have H0:=h
 unfold Zkb at H0
 clear h
 refine Zbu (N:=10) Tryz.func62 rfl rfl (Nat.le_of_ble_eq_true rfl) rfl rfl (fun a g0 hst hb=>?_)
 refine r_s (T:=[⟨[],_,[],[],[4]⟩]) (F:=[.old 0,.old 1]) hst hb Zb
  (o_p rfl (Zc rfl rfl c_b)<|o_n) (by kernel_rfl) (fun a g hst hb=>?_)
 obtain ⟨r1,h2,H0⟩:=Zh H0;obtain ⟨r3,h4,H0⟩:=Zh H0
 refine r_s (T:=[⟨[.old 0],_,[],[],[5]⟩,⟨[.op 0 0],_,[],[0],[6]⟩,⟨[.old 1],_,[],[],[7]⟩,⟨[.op 2 0],_,[],[0,1,2],[8]⟩,⟨[.op 1 0,.op 3 0],_,[],Lr 4,[9]⟩,⟨[.op 4 0],_,[],Lr 5,[4]⟩]) (F:=[.op 5 0]) hst hb Zb
  (o_p rfl (Za rfl rfl u_0)<|o_p rfl (Zo Zyn (Zox _ h2) rfl rfl (.cons u_0 .nil))<|o_p rfl (Za rfl rfl u_0)<|o_p rfl (Zo Zyn (Zox _ h4) rfl rfl (.cons u_0 .nil))<|o_p rfl (Zbs rfl rfl u_0 u_1)<|o_p rfl (Zc rfl rfl u_0)<|o_n) (by kernel_rfl) (fun a g hst hb=>?_)
 refine wp_ret ?_
 obtain rfl:=Option.some.inj H0
 exact Z5 rfl hst hb (Zk (s:=4)) (hst.at 0 rfl)
theorem Z06 (a0:Ze) (a1:Zcg) {r:Bool} (h:Zpc a0 a1=some r):FnOk Tryz.prog 76 [(Zi.pd a0),(Zdb.pd a1)] (Zbg r):=by
 have H0:=h
 unfold Zpc at H0
 clear h
 refine Zbu (N:=59) Tryz.func76 rfl rfl (Nat.le_of_ble_eq_true rfl) rfl rfl (fun a g0 hst hb=>?_)
 refine r_s (T:=[⟨[.old 0],_,[],[],[2]⟩,⟨[.old 1],_,[],[],[3]⟩,⟨[],_,[],[],[4]⟩]) (F:=[.op 0 0,.op 1 0]) hst hb Zb
  (o_p rfl (Zbq rfl rfl u_0)<|o_p rfl (Zbq rfl rfl u_0)<|o_p rfl (Zc rfl rfl c_b)<|o_n) (by kernel_rfl) (fun a g hst hb=>?_)
 obtain ⟨r1,h2,H0⟩:=Zh H0
 refine r_s (T:=⟨[.old 1],_,[],[],[5]⟩ :: ⟨[.op 0 0],_,[],[0],[6]⟩ :: ⟨[.op 1 0],_,[],[0,1],[7]⟩ :: ⟨[.op 2 0,.old 0],_,[],[0,1,2],[8]⟩ :: ⟨[.op 2 0,.op 3 0],_,[],Lr 4,[9]⟩ :: ⟨[.op 2 0,.op 4 0],_,[],Lr 5,[10]⟩ :: ⟨[.op 2 0,.op 5 0],_,[],Lr 6,[11]⟩ :: ⟨[.op 6 0],_,[],Lr 7,[12]⟩ :: ⟨[.op 7 0,.old 1],_,[],Lr 8,[13]⟩ :: ⟨[.op 7 0,.op 8 0],_,[],Lr 9,[14]⟩ :: ⟨[.op 7 0,.op 9 0],_,[],Lr 10,[15]⟩ :: ⟨[.op 10 0,.old 0],_,[],Lr 11,[16]⟩ :: ⟨[.op 10 0,.op 11 0],_,[],Lr 12,[17]⟩ :: ⟨[.op 10 0,.op 12 0],_,[],Lr 13,[18]⟩ :: ⟨[.op 7 0,.op 10 0,.op 13 0],_,[],Lr 14,[19]⟩ :: ⟨[.op 7 0,.op 14 0],_,[],Lr 15,[20]⟩ :: ⟨[.op 15 0],_,[],Lr 16,[21]⟩ :: ⟨[.op 16 0,.old 1],_,[],Lr 17,[22]⟩ :: ⟨[.op 16 0,.op 17 0],_,[],Lr 18,[23]⟩ :: ⟨[.op 16 0,.op 18 0],_,[],Lr 19,[24]⟩ :: ⟨[.op 19 0,.old 0],_,[],Lr 20,[25]⟩ :: ⟨[.op 19 0,.op 20 0],_,[],Lr 21,[26]⟩ :: ⟨[.op 19 0,.op 21 0],_,[],Lr 22,[27]⟩ :: ⟨[.op 19 0,.op 22 0],_,[],Lr 23,[28]⟩ :: ⟨[.op 23 0,.old 0],_,[],Lr 24,[29]⟩ :: ⟨[.op 23 0,.op 24 0],_,[],Lr 25,[30]⟩ :: ⟨[.op 23 0,.op 25 0],_,[],Lr 26,[31]⟩ :: ⟨[.op 19 0,.op 23 0,.op 26 0],_,[],Lr 27,[32]⟩ :: ⟨[.op 16 0,.op 19 0,.op 27 0],_,[],Lr 28,[33]⟩ :: ⟨[.op 16 0,.op 28 0],_,[],Lr 29,[34]⟩ :: ⟨[.op 29 0],_,[],Lr 30,[35]⟩ :: ⟨[.op 30 0,.old 1],_,[],Lr 31,[36]⟩ :: ⟨[.op 30 0,.op 31 0],_,[],Lr 32,[37]⟩ :: ⟨[.op 30 0,.op 32 0],_,[],Lr 33,[38]⟩ :: ⟨[.op 33 0,.old 0],_,[],Lr 34,[39]⟩ :: ⟨[.op 33 0,.op 34 0],_,[],Lr 35,[40]⟩ :: ⟨[.op 33 0,.op 35 0],_,[],Lr 36,[41]⟩ :: ⟨[.op 30 0,.op 33 0,.op 36 0],_,[],Lr 37,[42]⟩ :: ⟨[.op 30 0,.op 37 0],_,[],Lr 38,[43]⟩ :: ⟨[.op 38 0],_,[],Lr 39,[44]⟩ :: ⟨[.op 39 0,.old 1],_,[],Lr 40,[45]⟩ :: ⟨[.op 39 0,.op 40 0],_,[],Lr 41,[46]⟩ :: ⟨[.op 39 0,.op 41 0],_,[],Lr 42,[47]⟩ :: ⟨[.op 42 0,.old 0],_,[],Lr 43,[48]⟩ :: ⟨[.op 42 0,.op 43 0],_,[],Lr 44,[49]⟩ :: ⟨[.op 42 0,.op 44 0],_,[],Lr 45,[50]⟩ :: ⟨[.op 42 0,.op 45 0],_,[],Lr 46,[51]⟩ :: ⟨[.op 46 0,.old 0],_,[],Lr 47,[52]⟩ :: ⟨[.op 46 0,.op 47 0],_,[],Lr 48,[53]⟩ :: ⟨[.op 46 0,.op 48 0],_,[],Lr 49,[54]⟩ :: ⟨[.op 46 0,.op 49 0],_,[],Lr 50,[55]⟩ :: ⟨[.op 42 0,.op 46 0,.op 50 0],_,[],Lr 51,[56]⟩ :: ⟨[.op 39 0,.op 42 0,.op 51 0],_,[],Lr 52,[57]⟩ :: ⟨[.op 39 0,.op 52 0],_,[],Lr 53,[58]⟩ :: ⟨[.op 53 0],_,[],Lr 54,[4]⟩ :: []) (F:=[.op 54 0]) hst hb Zb
  (o_p rfl (Zd Z63 rfl rfl u_0)<|o_p rfl (Zf ty_4 rfl rfl u_0)<|o_p rfl (Za rfl rfl u_0)<|o_g (g_f rfl rfl rfl (fun hG=>Zd Zi9 rfl rfl u_0))<|o_g (g_f rfl rfl rfl (fun hG=>Zf ty_9 rfl rfl (Opd.gd hG u_0)))<|o_g (g_f rfl rfl rfl (fun hG=>Zla rfl rfl (Opd.gd hG u_0) c_s))<|o_p rfl (Zbo rfl rfl u_0 (fun hz=>(Opd.gd (bNF hz) u_1)))<|o_p rfl (Za rfl rfl u_0)<|o_g (g_t rfl rfl rfl (fun hG=>Zd Z62 rfl rfl u_0))<|o_g (g_t rfl rfl rfl (fun hG=>Zf ty_4 rfl rfl (Opd.gd hG u_0)))<|o_g (g_t rfl rfl rfl (fun hG=>Za rfl rfl (Opd.gd hG u_0)))<|o_g (g_fi rfl rfl rfl (fun hG=>Zd Zc1 rfl rfl u_0))<|o_g (g_fi rfl rfl rfl (fun hG=>Zf ty_2 rfl rfl (Opd.gd hG u_0)))<|o_g (g_fi rfl rfl rfl (fun hG=>Zbs rfl rfl (Opd.gd hG u_0) c_i))<|o_g (g_t rfl rfl rfl (fun hG=>Zbo rfl rfl (Opd.gd hG u_0) (fun hz=>(Opd.gd (bA hG (bNF hz)) u_1))))<|o_p rfl (Zbi rfl rfl u_0 (fun hz=>(Opd.gd hz u_1)))<|o_p rfl (Za rfl rfl u_0)<|o_g (g_t rfl rfl rfl (fun hG=>Zd Zzd rfl rfl u_0))<|o_g (g_t rfl rfl rfl (fun hG=>Zf ty_4 rfl rfl (Opd.gd hG u_0)))<|o_g (g_t rfl rfl rfl (fun hG=>Za rfl rfl (Opd.gd hG u_0)))<|o_g (g_fi rfl rfl rfl (fun hG=>Zd Zjp rfl rfl u_0))<|o_g (g_fi rfl rfl rfl (fun hG=>Zf ty_2 rfl rfl (Opd.gd hG u_0)))<|o_g (g_fi rfl rfl rfl (fun hG=>Zbs rfl rfl (Opd.gd hG u_0) c_i))<|o_g (g_fi rfl rfl rfl (fun hG=>Za rfl rfl (Opd.gd hG u_0)))<|o_g (g_ti rfl rfl rfl (fun hG=>Zd Zjo rfl rfl u_0))<|o_g (g_ti rfl rfl rfl (fun hG=>Zf ty_2 rfl rfl (Opd.gd hG u_0)))<|o_g (g_ti rfl rfl rfl (fun hG=>Zbs rfl rfl (Opd.gd hG u_0) c_i))<|o_g (g_fi rfl rfl rfl (fun hG=>Zbi rfl rfl (Opd.gd hG u_0) (fun hz=>(Opd.gd (bA hG hz) u_1))))<|o_g (g_t rfl rfl rfl (fun hG=>Zbo rfl rfl (Opd.gd hG u_0) (fun hz=>(Opd.gd (bA hG (bNF hz)) u_1))))<|o_p rfl (Zbi rfl rfl u_0 (fun hz=>(Opd.gd hz u_1)))<|o_p rfl (Za rfl rfl u_0)<|o_g (g_t rfl rfl rfl (fun hG=>Zd Z6i rfl rfl u_0))<|o_g (g_t rfl rfl rfl (fun hG=>Zf ty_4 rfl rfl (Opd.gd hG u_0)))<|o_g (g_t rfl rfl rfl (fun hG=>Za rfl rfl (Opd.gd hG u_0)))<|o_g (g_fi rfl rfl rfl (fun hG=>Zd Zgc rfl rfl u_0))<|o_g (g_fi rfl rfl rfl (fun hG=>Zf Zc3 rfl rfl (Opd.gd hG u_0)))<|o_g (g_fi rfl rfl rfl (fun hG=>Zo Ztk (Zlg _ _ (Zbn h2 hG)) rfl rfl (.cons (Opd.gd hG u_0) (.cons c_f .nil))))<|o_g (g_t rfl rfl rfl (fun hG=>Zbo rfl rfl (Opd.gd hG u_0) (fun hz=>(Opd.gd (bA hG (bNF hz)) u_1))))<|o_p rfl (Zbi rfl rfl u_0 (fun hz=>(Opd.gd hz u_1)))<|o_p rfl (Za rfl rfl u_0)<|o_g (g_t rfl rfl rfl (fun hG=>Zd Z0v rfl rfl u_0))<|o_g (g_t rfl rfl rfl (fun hG=>Zf ty_4 rfl rfl (Opd.gd hG u_0)))<|o_g (g_t rfl rfl rfl (fun hG=>Za rfl rfl (Opd.gd hG u_0)))<|o_g (g_fi rfl rfl rfl (fun hG=>Zd Zgz rfl rfl u_0))<|o_g (g_fi rfl rfl rfl (fun hG=>Zf ty_3 rfl rfl (Opd.gd hG u_0)))<|o_g (g_fi rfl rfl rfl (fun hG=>Zbs rfl rfl (Opd.gd hG u_0) c_i))<|o_g (g_fi rfl rfl rfl (fun hG=>Za rfl rfl (Opd.gd hG u_0)))<|o_g (g_ti rfl rfl rfl (fun hG=>Zd Zce rfl rfl u_0))<|o_g (g_ti rfl rfl rfl (fun hG=>Zf Zc7 rfl rfl (Opd.gd hG u_0)))<|o_g (g_ti rfl rfl rfl (fun hG=>Zb1 Tryz.underlying36 rfl rfl (Opd.gd hG u_0)))<|o_g (g_ti rfl rfl rfl (fun hG=>Zbs rfl rfl (Opd.gd hG u_0) c_i))<|o_g (g_fi rfl rfl rfl (fun hG=>Zbi rfl rfl (Opd.gd hG u_0) (fun hz=>(Opd.gd (bA hG hz) u_1))))<|o_g (g_t rfl rfl rfl (fun hG=>Zbo rfl rfl (Opd.gd hG u_0) (fun hz=>(Opd.gd (bA hG (bNF hz)) u_1))))<|o_p rfl (Zbi rfl rfl u_0 (fun hz=>(Opd.gd hz u_1)))<|o_p rfl (Zc rfl rfl u_0)<|o_n) (by kernel_rfl) (fun a g hst hb=>?_)
 refine wp_ret ?_
 obtain rfl:=Option.some.inj H0
 exact Z5 rfl hst hb (Zk (s:=4)) (hst.at 0 rfl)
theorem Zou (a0:Nat) {r:Bool} (h:Zk1 a0=some r):FnOk Tryz.prog 77 [(pFlt a0)] (Zbg r):=by
 have H0:=h
 unfold Zk1 at H0
 clear h
 refine Zbu (N:=9) Tryz.func77 rfl rfl (Nat.le_of_ble_eq_true rfl) rfl rfl (fun a g0 hst hb=>?_)
 refine r_s (T:=[⟨[],_,[],[],[2]⟩]) (F:=[.old 0]) hst hb Zb
  (o_p rfl (Zc rfl rfl c_b)<|o_n) (by kernel_rfl) (fun a g hst hb=>?_)
 obtain ⟨r1,h2,H0⟩:=Zh H0
 refine r_s (T:=[⟨[.old 0],_,[],[],[3]⟩,⟨[.op 0 0],_,[],[0],[4]⟩,⟨[.old 0],_,[],[],[5]⟩,⟨[.op 2 0],_,[],[0,1,2],[6]⟩,⟨[.op 3 0],_,[],Lr 4,[7]⟩,⟨[.op 1 0,.op 4 0],_,[],Lr 5,[8]⟩,⟨[.op 5 0],_,[],Lr 6,[2]⟩]) (F:=[.op 6 0]) hst hb Zb
  (o_p rfl (Za rfl rfl u_0)<|o_p rfl (Zqi Zvg rfl rfl u_0)<|o_p rfl (Za rfl rfl u_0)<|o_p rfl (Zo Zod (Zh7 _ h2) rfl rfl (.cons u_0 .nil))<|o_p rfl (Zqi Zvg rfl rfl u_0)<|o_p rfl (Zbs rfl rfl u_0 u_1)<|o_p rfl (Zc rfl rfl u_0)<|o_n) (by kernel_rfl) (fun a g hst hb=>?_)
 refine wp_ret ?_
 obtain rfl:=Option.some.inj H0
 exact Z5 rfl hst hb (Zk (s:=2)) (hst.at 0 rfl)
theorem Zqc (a0:Nat) (a1:Nat) {r:Bool} (h:Zmp a0 a1=some r):FnOk Tryz.prog 133 [(pFlt a0),(pFlt a1)] (Zbg r):=by
 have H0:=h
 unfold Zmp at H0
 clear h
 refine Zbu (N:=10) Tryz.func133 rfl rfl (Nat.le_of_ble_eq_true rfl) rfl rfl (fun a g0 hst hb=>?_)
 refine r_s (T:=[⟨[],_,[],[],[4]⟩]) (F:=[.old 0,.old 1]) hst hb Zb
  (o_p rfl (Zc rfl rfl c_b)<|o_n) (by kernel_rfl) (fun a g hst hb=>?_)
 obtain ⟨r1,h2,H0⟩:=Zh H0;obtain ⟨r3,h4,H0⟩:=Zh H0
 refine r_s (T:=[⟨[.old 0],_,[],[],[5]⟩,⟨[.op 0 0],_,[],[0],[6]⟩,⟨[.old 1],_,[],[],[7]⟩,⟨[.op 2 0],_,[],[0,1,2],[8]⟩,⟨[.op 1 0,.op 3 0],_,[],Lr 4,[9]⟩,⟨[.op 4 0],_,[],Lr 5,[4]⟩]) (F:=[.op 5 0]) hst hb Zb
  (o_p rfl (Za rfl rfl u_0)<|o_p rfl (Zo Zyn (Zox _ h2) rfl rfl (.cons u_0 .nil))<|o_p rfl (Za rfl rfl u_0)<|o_p rfl (Zo Zyn (Zox _ h4) rfl rfl (.cons u_0 .nil))<|o_p rfl (Zci rfl rfl u_0 u_1)<|o_p rfl (Zc rfl rfl u_0)<|o_n) (by kernel_rfl) (fun a g hst hb=>?_)
 refine wp_ret ?_
 obtain rfl:=Option.some.inj H0
 exact Z5 rfl hst hb (Zk (s:=4)) (hst.at 0 rfl)
theorem Zov (a0:Zl) (a1:Zl) {r:Bool} (h:Zk0 a0 a1=some r):FnOk Tryz.prog 101 [(Zz.pd a0),(Zz.pd a1)] (Zbg r):=by
 have H0:=h
 unfold Zk0 at H0
 clear h
 refine Zbu (N:=21) Tryz.func101 rfl rfl (Nat.le_of_ble_eq_true rfl) rfl rfl (fun a g0 hst hb=>?_)
 refine r_s (T:=[⟨[.old 0],_,[],[],[2]⟩,⟨[.old 1],_,[],[],[3]⟩,⟨[],_,[],[],[4]⟩]) (F:=[.op 0 0,.op 1 0]) hst hb Zb
  (o_p rfl (Zbq rfl rfl u_0)<|o_p rfl (Zbq rfl rfl u_0)<|o_p rfl (Zc rfl rfl c_b)<|o_n) (by kernel_rfl) (fun a g hst hb=>?_)
 refine wp_seq ?_
 obtain ⟨r1,h2,H0⟩:=Zh H0
 refine r_s (T:=[⟨[.old 0],_,[],[],[5]⟩,⟨[.op 0 0],_,[],[0],[6]⟩,⟨[.old 1],_,[],[],[7]⟩,⟨[.op 2 0],_,[],[2],[8]⟩,⟨[.op 1 0,.op 3 0],_,[],Lr 4,[9]⟩,⟨[.op 4 0],_,[],Lr 5,[10]⟩]) (F:=[.old 0,.old 1,.op 5 0]) hst hb Zb
  (o_p rfl (Zd Zfv rfl rfl u_0)<|o_p rfl (Zf Zc3 rfl rfl u_0)<|o_p rfl (Zd Zfv rfl rfl u_0)<|o_p rfl (Zf Zc3 rfl rfl u_0)<|o_p rfl (Zo Ztk (Zlg _ _ h2) rfl rfl (.cons u_0 (.cons u_1 .nil)))<|o_p rfl (Zb2 rfl rfl u_0)<|o_n) (by kernel_rfl) (fun a g hst hb=>?_)
 refine wp_cond_split (hst.bool 2 rfl) (fun hc3=>?_) (fun hc3=>?_)
 ·replace H0:=Zv hc3 H0
  obtain ⟨r4,h5,H0⟩:=Zh H0
  refine r_s (L:=[(2,_),(3,_)]) (T:=[⟨[.old 1],_,[],[],[11]⟩,⟨[.op 0 0],_,[],[0],[12]⟩,⟨[.old 0],_,[],[],[13]⟩,⟨[.op 2 0],_,[],[2],[14]⟩,⟨[.op 1 0,.op 3 0],_,[],Lr 4,[15]⟩,⟨[.op 4 0],_,[],Lr 5,[4]⟩]) (F:=[.op 5 0]) (hst.pick [0,1] rfl) hb Zb
   (o_p rfl (Zd Zfv rfl rfl u_0)<|o_p rfl (Zf Zc3 rfl rfl u_0)<|o_p rfl (Zd Zfv rfl rfl u_0)<|o_p rfl (Zf Zc3 rfl rfl u_0)<|o_p rfl (Zo Zzf (Zqc _ _ h5) rfl rfl (.cons u_0 (.cons u_1 .nil)))<|o_p rfl (Zc rfl rfl u_0)<|o_n) (by kernel_rfl) (fun a g hst hb=>?_)
  refine wp_ret ?_
  refine Zr ?_
  obtain rfl:=Option.some.inj H0
  exact Z5 rfl hst hb (Zk (s:=4)) (hst.at 0 rfl)
 ·replace H0:=Zw hc3 H0
  refine wp_skip ?_
  refine Zs ?_
  refine r_s (L:=[(2,_),(3,_)]) (T:=[⟨[.old 0],_,[],[],[16]⟩,⟨[.op 0 0],_,[],[0],[17]⟩,⟨[.old 1],_,[],[],[18]⟩,⟨[.op 2 0],_,[],[2],[19]⟩,⟨[.op 1 0,.op 3 0],_,[],Lr 4,[20]⟩,⟨[.op 4 0],_,[],Lr 5,[4]⟩]) (F:=[.op 5 0]) (hst.pick [0,1] rfl) hb Zb
   (o_p rfl (Zd Zd4 rfl rfl u_0)<|o_p rfl (Zf ty_9 rfl rfl u_0)<|o_p rfl (Zd Zd4 rfl rfl u_0)<|o_p rfl (Zf ty_9 rfl rfl u_0)<|o_p rfl (Zm9 rfl rfl u_0 u_1)<|o_p rfl (Zc rfl rfl u_0)<|o_n) (by kernel_rfl) (fun a g hst hb=>?_)
  refine wp_ret ?_
  obtain rfl:=Option.some.inj H0
  exact Z5 rfl hst hb (Zk (s:=4)) (hst.at 0 rfl)
theorem Zzo (a0:Int) (a1:List Zl) {r:Int} (h:Zog a0 a1=some r):FnOk Tryz.prog 78 [(pInt .i64 a0),(Zz.sl.pd a1)] (pInt .i64 r):=by
 have H0:=h
 unfold Zog at H0
 clear h
 refine Zbu (N:=70) Tryz.func78 rfl rfl (Nat.le_of_ble_eq_true rfl) rfl rfl (fun a g0 hst hb=>?_)
 refine r_s (T:=[⟨[],_,[],[],[4]⟩]) (F:=[.old 0,.old 1]) hst hb Zb
  (o_p rfl (Zc rfl rfl c_i)<|o_n) (by kernel_rfl) (fun a g hst hb=>?_)
 refine wp_seq ?_
 refine r_s (T:=[⟨[.old 1],_,[],[],[7]⟩,⟨[.op 0 0],_,[],[0],[8]⟩,⟨[],_,[],[],[9]⟩]) (F:=[.old 0,.old 1,.op 0 0,.op 1 0,.op 2 0]) hst hb Zb
  (o_p rfl (Za rfl rfl u_0)<|o_p rfl (Zb1 Tryz.underlying36 rfl rfl u_0)<|o_p rfl (Za rfl rfl c_i)<|o_n) (by kernel_rfl) (fun a g hst hb=>?_)
 obtain ⟨z19,hz1,H0⟩:=Zh H0
 refine Zca (fun a w=>∃ (g:G),w=g.w ∧ St 70 [] a g ∧ Base g0 g ∧ (.inr ())=z19) ?_ ?_
 ·rintro a w ⟨g,rfl,hst,hb,rfl⟩
  refine Zs ?_
  refine r_s (T:=[⟨[],_,[],[],[4]⟩]) (F:=[.op 0 0]) hst hb Zb
   (o_p rfl (Zc rfl rfl c_i)<|o_n) (by kernel_rfl) (fun a g hst hb=>?_)
  refine wp_ret ?_
  obtain rfl:=Option.some.inj H0
  exact Z5 rfl hst hb (Zk (s:=4)) (hst.at 0 rfl)
 ·refine wp_block ?_
  refine wp_loop_ghost (fun n a w=>∃ (x1:Int) (g:G),w=g.w ∧ St 70 [(0,(pInt .i64 a0)),(1,(Zz.sl.pd a1)),(7,(Zz.sl.pd a1)),(8,(pInt .i64 (a1.length:Int))),(9,(pInt .i64 x1))] a g ∧ Base g0 g ∧ Zgq a0 a1 n x1=some z19) (Int.toNat ((a1.length:Int) - (0:Int)) + 1) ⟨(0:Int),g,rfl,(hst.pick [0,1,2,3,4] rfl),hb,hz1⟩ (fun n a w hI=>?_)
  obtain ⟨x1,g,rfl,hst,hb,H1⟩:=hI
  cases n with
  | zero=>exact absurd H1 (by simp [Zgq])
  | succ n =>
   rw [Zgq] at H1
   refine r_s (T:=[⟨[.old 4,.old 3],_,[],[],[10]⟩]) (F:=[.old 0,.old 1,.old 2,.old 3,.old 4,.op 0 0]) hst hb Zb
    (o_p rfl (Zci rfl rfl u_0 u_1)<|o_n) (by kernel_rfl) (fun a g hst hb=>?_)
   refine wp_seq ?_
   refine wp_cond_split (hst.bool 5 rfl) (fun hc2=>?_) (fun hc2=>?_)
   ·replace H1:=Zv hc2 H1
    refine wp_skip ?_
    refine Zs ?_
    refine wp_seq ?_
    refine wp_block ?_
    obtain ⟨e3,h4,H1⟩:=Zh H1
    refine r_s (L:=[(0,_),(1,_),(7,_),(8,_),(9,_)]) (T:=[⟨[.old 4],_,[],[],[11]⟩,⟨[.old 2,.old 4],_,[],[],[12]⟩,⟨[.op 1 0],_,[],[1],[13]⟩,⟨[],[(6,(pBox Zz 6 (default:Zl)))],[7],[],[6]⟩,⟨[.op 0 0],_,[],Lr 4,[5]⟩,⟨[.op 2 0,.op 3 0],_,[7],Lr 5,[6]⟩]) (F:=[.old 0,.old 1,.op 4 0,.op 5 0,.old 2,.old 3,.old 4]) (hst.pick [0,1,2,3,4] rfl) hb Zb
     (o_p rfl (Za rfl rfl u_0)<|o_p rfl (Zbl Tryz.underlying36 Ze4 rfl rfl u_0 u_1 h4)<|o_p rfl (Zf Zea rfl rfl u_0)<|o_p rfl (Zbh (zs:=[.float .f64 0,.string ByteArray.empty]) (by kernel_rfl) (fun g=>Zlh g) rfl rfl)<|o_p rfl (Zc rfl rfl u_0)<|o_p rfl (Zb5 Zea rfl rfl u_1 u_0)<|o_n) (by kernel_rfl) (fun a g hst hb=>?_)
    refine wp_block ?_
    refine r_s (T:=[⟨[.old 3],_,[],[],[15]⟩,⟨[.op 0 0],_,[],[0],[16]⟩,⟨[.op 1 0],_,[],[0,1],[17]⟩,⟨[.op 2 0],_,[],[0,1,2],[18]⟩,⟨[.op 3 0],_,[],Lr 4,[14]⟩]) (F:=[.old 0,.old 1,.old 2,.old 3,.old 4,.old 5,.old 6,.op 4 0]) hst hb Zb
     (o_p rfl (Zd Zd4 rfl rfl u_0)<|o_p rfl (Zf ty_9 rfl rfl u_0)<|o_p rfl (Zfp Tryz.underlying9 rfl rfl u_0)<|o_p rfl (Zcu rfl rfl u_0 c_i)<|o_p rfl (Zc rfl rfl u_0)<|o_n) (by kernel_rfl) (fun a g hst hb=>?_)
    refine wp_cond_split (hst.bool 7 rfl) (fun hc5=>?_) (fun hc5=>?_)
    ·replace H1:=Zv hc5 H1
     refine r_s (L:=[]) (T:=[⟨[],_,[],[],[4]⟩]) (F:=[.op 0 0]) (hst.pick [] rfl) hb Zb
      (o_p rfl (Zc rfl rfl c_i)<|o_n) (by kernel_rfl) (fun a g hst hb=>?_)
     refine wp_ret ?_
     refine Z6 ?_
     refine Z6 ?_
     refine Zr ?_
     refine Zr ?_
     refine Z6 ?_
     refine Zr ?_
     refine Zr ?_
     obtain rfl:=Option.some.inj H1
     obtain rfl:=Option.some.inj H0
     exact Z5 rfl hst hb (Zk (s:=4)) (hst.at 0 rfl)
    ·replace H1:=Zw hc5 H1
     obtain ⟨r6,h7,H1⟩:=Zh H1;obtain ⟨r8,h9,H1⟩:=Zh H1
     refine r_s (L:=[(0,_),(1,_),(5,_),(6,_),(7,_),(8,_),(9,_)]) (T:=⟨[.old 0],_,[],[],[20]⟩ :: ⟨[.op 0 0],_,[],[0],[21]⟩ :: ⟨[.op 1 0],_,[],[0,1],[22]⟩ :: ⟨[.op 2 0,.old 3],_,[],[0,1,2],[23]⟩ :: ⟨[.op 2 0,.op 3 0],_,[],Lr 4,[24]⟩ :: ⟨[.op 2 0,.op 4 0],_,[],Lr 5,[25]⟩ :: ⟨[.op 2 0,.op 5 0],_,[],Lr 6,[26]⟩ :: ⟨[.op 2 0,.op 6 0],_,[],Lr 7,[27]⟩ :: ⟨[.op 7 0],_,[],Lr 8,[28]⟩ :: ⟨[.op 8 0,.old 3],_,[],Lr 9,[29]⟩ :: ⟨[.op 8 0,.op 9 0],_,[],Lr 10,[30]⟩ :: ⟨[.op 8 0,.op 10 0],_,[],Lr 11,[31]⟩ :: ⟨[.op 8 0,.op 11 0],_,[],Lr 12,[32]⟩ :: ⟨[.op 8 0,.op 12 0],_,[],Lr 13,[33]⟩ :: ⟨[.op 13 0],_,[],Lr 14,[19]⟩ :: []) (F:=[.old 0,.old 1,.old 2,.old 3,.old 4,.old 5,.old 6,.op 14 0]) (hst.pick [0,1,2,3,4,5,6] rfl) hb Zb
      (o_p rfl (Za rfl rfl u_0)<|o_p rfl (Zbs rfl rfl u_0 c_i)<|o_p rfl (Za rfl rfl u_0)<|o_g (g_t rfl rfl rfl (fun hG=>Zd Zfv rfl rfl u_0))<|o_g (g_t rfl rfl rfl (fun hG=>Zf Zc3 rfl rfl (Opd.gd hG u_0)))<|o_g (g_t rfl rfl rfl (fun hG=>Zo Ztk (Zlg _ _ (Zbn h7 hG)) rfl rfl (.cons (Opd.gd hG u_0) (.cons c_f .nil))))<|o_g (g_t rfl rfl rfl (fun hG=>Zb2 rfl rfl (Opd.gd hG u_0)))<|o_p rfl (Zbi rfl rfl u_0 (fun hz=>(Opd.gd hz u_1)))<|o_p rfl (Za rfl rfl u_0)<|o_g (g_f rfl rfl rfl (fun hG=>Zd Zfv rfl rfl u_0))<|o_g (g_f rfl rfl rfl (fun hG=>Zf Zc3 rfl rfl (Opd.gd hG u_0)))<|o_g (g_f rfl rfl rfl (fun hG=>Zo Z23 (Zou _ (Zbn h9 hG)) rfl rfl (.cons (Opd.gd hG u_0) .nil)))<|o_g (g_f rfl rfl rfl (fun hG=>Zb2 rfl rfl (Opd.gd hG u_0)))<|o_p rfl (Zbo rfl rfl u_0 (fun hz=>(Opd.gd (bNF hz) u_1)))<|o_p rfl (Zc rfl rfl u_0)<|o_n) (by kernel_rfl) (fun a g hst hb=>?_)
     refine wp_cond_split (hst.bool 7 rfl) (fun hc10=>?_) (fun hc10=>?_)
     ·replace H1:=Zv hc10 H1
      refine r_s (L:=[]) (T:=[⟨[],_,[],[],[4]⟩]) (F:=[.op 0 0]) (hst.pick [] rfl) hb Zb
       (o_p rfl (Zc rfl rfl c_i)<|o_n) (by kernel_rfl) (fun a g hst hb=>?_)
      refine wp_ret ?_
      refine Z6 ?_
      refine Z6 ?_
      refine Zr ?_
      refine Zr ?_
      refine Z6 ?_
      refine Zr ?_
      refine Zr ?_
      obtain rfl:=Option.some.inj H1
      obtain rfl:=Option.some.inj H0
      exact Z5 rfl hst hb (Zk (s:=4)) (hst.at 0 rfl)
     ·replace H1:=Zw hc10 H1
      obtain ⟨e11,h12,H1⟩:=Zh H1
      refine r_s (L:=[(0,_),(1,_),(5,_),(6,_),(7,_),(8,_),(9,_)]) (T:=⟨[.old 2],_,[],[],[35]⟩ :: ⟨[.op 0 0],_,[],[0],[36]⟩ :: ⟨[.op 1 0],_,[],[0,1],[37]⟩ :: ⟨[.op 2 0,.old 0],_,[],[0,1,2],[38]⟩ :: ⟨[.op 2 0,.op 3 0],_,[],Lr 4,[39]⟩ :: ⟨[.op 2 0,.op 4 0],_,[],Lr 5,[40]⟩ :: ⟨[.op 5 0],_,[],Lr 6,[41]⟩ :: ⟨[.op 6 0,.old 1],_,[],Lr 7,[42]⟩ :: ⟨[.op 6 0,.old 2],_,[],Lr 7,[43]⟩ :: ⟨[.op 6 0,.op 8 0],_,[],[0,1,2,3,4,5,6,8],[44]⟩ :: ⟨[.op 6 0,.op 7 0,.op 9 0],_,[],Lr 10,[45]⟩ :: ⟨[.op 6 0,.op 10 0],_,[],Lr 11,[46]⟩ :: ⟨[.op 6 0,.op 11 0],_,[],Lr 12,[47]⟩ :: ⟨[.op 6 0,.old 3],_,[],Lr 7,[48]⟩ :: ⟨[.op 6 0,.op 13 0],_,[],[0,1,2,3,4,5,6,13],[49]⟩ :: ⟨[.op 6 0,.op 12 0,.op 14 0],_,[],Lr 15,[50]⟩ :: ⟨[.op 6 0,.op 15 0],_,[],Lr 16,[51]⟩ :: ⟨[.op 16 0],_,[],Lr 17,[34]⟩ :: []) (F:=[.old 0,.old 1,.old 2,.old 3,.old 4,.old 5,.old 6,.op 17 0]) (hst.pick [0,1,2,3,4,5,6] rfl) hb Zb
       (o_p rfl (Za rfl rfl u_0)<|o_p rfl (Zcu rfl rfl u_0 c_i)<|o_p rfl (Za rfl rfl u_0)<|o_g (g_t rfl rfl rfl (fun hG=>Za rfl rfl u_0))<|o_g (g_t rfl rfl rfl (fun hG=>Zbs rfl rfl (Opd.gd hG u_0) c_i))<|o_p rfl (Zbi rfl rfl u_0 (fun hz=>(Opd.gd hz u_1)))<|o_p rfl (Za rfl rfl u_0)<|o_g (g_t rfl rfl rfl (fun hG=>Za rfl rfl u_0))<|o_g (g_t rfl rfl rfl (fun hG=>Za rfl rfl u_0))<|o_g (g_t rfl rfl rfl (fun hG=>Zg7 rfl rfl (Opd.gd hG u_0) c_i rfl))<|o_g (g_t rfl rfl rfl (fun hG=>Zbl Tryz.underlying36 Ze4 rfl rfl (Opd.gd hG u_0) (Opd.gd hG u_1) (Zbn h12 hG)))<|o_g (g_t rfl rfl rfl (fun hG=>Zd Zd4 rfl rfl (Opd.gd hG u_0)))<|o_g (g_t rfl rfl rfl (fun hG=>Zf ty_9 rfl rfl (Opd.gd hG u_0)))<|o_g (g_t rfl rfl rfl (fun hG=>Zd Zd4 rfl rfl u_0))<|o_g (g_t rfl rfl rfl (fun hG=>Zf ty_9 rfl rfl (Opd.gd hG u_0)))<|o_g (g_t rfl rfl rfl (fun hG=>Z92 rfl rfl (Opd.gd hG u_0) (Opd.gd hG u_1)))<|o_p rfl (Zbi rfl rfl u_0 (fun hz=>(Opd.gd hz u_1)))<|o_p rfl (Zc rfl rfl u_0)<|o_n) (by kernel_rfl) (fun a g hst hb=>?_)
      refine wp_cond_split (hst.bool 7 rfl) (fun hc13=>?_) (fun hc13=>?_)
      ·replace H1:=Zv hc13 H1
       refine r_s (L:=[]) (T:=[⟨[],_,[],[],[4]⟩]) (F:=[.op 0 0]) (hst.pick [] rfl) hb Zb
        (o_p rfl (Zc rfl rfl c_i)<|o_n) (by kernel_rfl) (fun a g hst hb=>?_)
       refine wp_ret ?_
       refine Z6 ?_
       refine Z6 ?_
       refine Zr ?_
       refine Zr ?_
       refine Z6 ?_
       refine Zr ?_
       refine Zr ?_
       obtain rfl:=Option.some.inj H1
       obtain rfl:=Option.some.inj H0
       exact Z5 rfl hst hb (Zk (s:=4)) (hst.at 0 rfl)
      ·replace H1:=Zw hc13 H1
       obtain ⟨e14,h15,H1⟩:=Zh H1;obtain ⟨r16,h17,H1⟩:=Zh H1
       refine r_s (L:=[(0,_),(1,_),(5,_),(6,_),(7,_),(8,_),(9,_)]) (T:=⟨[.old 2],_,[],[],[53]⟩ :: ⟨[.op 0 0],_,[],[0],[54]⟩ :: ⟨[.op 1 0],_,[],[0,1],[55]⟩ :: ⟨[.op 2 0,.old 0],_,[],[0,1,2],[56]⟩ :: ⟨[.op 2 0,.op 3 0],_,[],Lr 4,[57]⟩ :: ⟨[.op 2 0,.op 4 0],_,[],Lr 5,[58]⟩ :: ⟨[.op 5 0],_,[],Lr 6,[59]⟩ :: ⟨[.op 6 0,.old 1],_,[],Lr 7,[60]⟩ :: ⟨[.op 6 0,.old 2],_,[],Lr 7,[61]⟩ :: ⟨[.op 6 0,.op 8 0],_,[],[0,1,2,3,4,5,6,8],[62]⟩ :: ⟨[.op 6 0,.op 7 0,.op 9 0],_,[],Lr 10,[63]⟩ :: ⟨[.op 6 0,.op 10 0],_,[],Lr 11,[64]⟩ :: ⟨[.op 6 0,.old 3],_,[],Lr 7,[65]⟩ :: ⟨[.op 6 0,.op 11 0,.op 12 0],_,[],Lr 13,[66]⟩ :: ⟨[.op 6 0,.op 13 0],_,[],Lr 14,[67]⟩ :: ⟨[.op 6 0,.op 14 0],_,[],Lr 15,[68]⟩ :: ⟨[.op 15 0],_,[],Lr 16,[52]⟩ :: []) (F:=[.old 0,.old 1,.old 4,.old 5,.old 6,.op 16 0]) (hst.pick [0,1,2,3,4,5,6] rfl) hb Zb
        (o_p rfl (Za rfl rfl u_0)<|o_p rfl (Zcu rfl rfl u_0 c_i)<|o_p rfl (Za rfl rfl u_0)<|o_g (g_t rfl rfl rfl (fun hG=>Za rfl rfl u_0))<|o_g (g_t rfl rfl rfl (fun hG=>Zbs rfl rfl (Opd.gd hG u_0) c_i))<|o_p rfl (Zbi rfl rfl u_0 (fun hz=>(Opd.gd hz u_1)))<|o_p rfl (Za rfl rfl u_0)<|o_g (g_t rfl rfl rfl (fun hG=>Za rfl rfl u_0))<|o_g (g_t rfl rfl rfl (fun hG=>Za rfl rfl u_0))<|o_g (g_t rfl rfl rfl (fun hG=>Zg7 rfl rfl (Opd.gd hG u_0) c_i rfl))<|o_g (g_t rfl rfl rfl (fun hG=>Zbl Tryz.underlying36 Ze4 rfl rfl (Opd.gd hG u_0) (Opd.gd hG u_1) (Zbn h15 hG)))<|o_g (g_t rfl rfl rfl (fun hG=>Zf Zea rfl rfl (Opd.gd hG u_0)))<|o_g (g_t rfl rfl rfl (fun hG=>Zf Zea rfl rfl u_0))<|o_g (g_t rfl rfl rfl (fun hG=>Zo Zy4 (Zov _ _ (Zbn h17 hG)) rfl rfl (.cons (Opd.gd hG u_0) (.cons (Opd.gd hG u_1) .nil))))<|o_g (g_t rfl rfl rfl (fun hG=>Zb2 rfl rfl (Opd.gd hG u_0)))<|o_p rfl (Zbi rfl rfl u_0 (fun hz=>(Opd.gd hz u_1)))<|o_p rfl (Zc rfl rfl u_0)<|o_n) (by kernel_rfl) (fun a g hst hb=>?_)
       refine wp_cond_split (hst.bool 5 rfl) (fun hc18=>?_) (fun hc18=>?_)
       ·replace H1:=Zv hc18 H1
        refine r_s (L:=[]) (T:=[⟨[],_,[],[],[4]⟩]) (F:=[.op 0 0]) (hst.pick [] rfl) hb Zb
         (o_p rfl (Zc rfl rfl c_i)<|o_n) (by kernel_rfl) (fun a g hst hb=>?_)
        refine wp_ret ?_
        refine Z6 ?_
        refine Z6 ?_
        refine Zr ?_
        refine Zr ?_
        refine Z6 ?_
        refine Zr ?_
        refine Zr ?_
        obtain rfl:=Option.some.inj H1
        obtain rfl:=Option.some.inj H0
        exact Z5 rfl hst hb (Zk (s:=4)) (hst.at 0 rfl)
       ·replace H1:=Zw hc18 H1
        refine wp_skip ?_
        refine Zbe ?_
        refine Zbe ?_
        refine Zs ?_
        refine r_g (L:=[(0,_),(1,_),(7,_),(8,_),(9,_)]) (T:=[⟨[.old 4],_,[],[],[69]⟩,⟨[.op 0 0],_,[],[0],[9]⟩]) (F:=[.old 0,.old 1,.old 2,.old 3,.op 1 0]) (hst.pick [0,1,2,3,4] rfl) hb Zb
         (o_p rfl (Zb7 rfl rfl u_0 c_i rfl)<|o_p rfl (Za rfl rfl u_0)<|o_n) (by kernel_rfl) (fun a g hst hb=>?_)
        exact ⟨n,Nat.lt_succ_self _,(IntKind.i64.wrap (x1 + (1:Int))),g,rfl,(hst.pick [0,1,2,3,4] rfl),hb,H1⟩
   ·replace H1:=Zw hc2 H1
    refine wp_exit ?_
    refine Zb3 ?_
    refine Zb3 ?_
    refine Zcn ?_
    exact ⟨g,rfl,(hst.pick [] rfl),hb,Option.some.inj H1⟩
end Go.CL
