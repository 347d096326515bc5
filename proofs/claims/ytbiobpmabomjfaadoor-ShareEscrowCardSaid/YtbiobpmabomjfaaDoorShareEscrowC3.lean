/- A part of the proof of ShareEscrow. -/
import Derived.Test.YtbiobpmabomjfaaDoorShareEscrowC2
import Derived.Test.YtbiobpmabomjfaaDoorProg
set_option linter.unusedVariables false
set_option linter.unusedSimpArgs false
set_option maxRecDepth 100000
namespace Go.CL
open Go Go.RowKit Go.Proofs
theorem Zb:Tryd.prog.follows .mixedOrders=true:=by kernel_rfl
theorem Z75 {α:Type} {l:List α} (h:l.length=1):∃ u0,l=[u0]:=by
 match l,h with
 | [u0],_=>exact ⟨u0,rfl⟩
theorem Zkc {α:Type} {l:List α} (h:l.length=2):∃ u0 u1,l=[u0,u1]:=by
 match l,h with
 | [u0,u1],_=>exact ⟨u0,u1,rfl⟩
theorem Z3k {α:Type} {l:List α} (h:l.length=8):∃ u0 u1 u2 u3 u4 u5 u6 u7,l=[u0,u1,u2,u3,u4,u5,u6,u7]:=by
 match l,h with
 | [u0,u1,u2,u3,u4,u5,u6,u7],_=>exact ⟨u0,u1,u2,u3,u4,u5,u6,u7,rfl⟩
def Zvy:List (Kd.FK Zby):=[⟨_,Kd.bool,0,fun x:Zby=>x.text⟩,
 ⟨_,Kd.bool,1,fun x:Zby=>x.num⟩,
 ⟨_,Kd.bool,2,fun x:Zby=>x.bounds⟩,
 ⟨_,Kd.bool,3,fun x:Zby=>x.real⟩,
 ⟨_,Kd.bool,4,fun x:Zby=>x.list⟩]
def Zcr:Kd Zby:=Kd.struct 5 Zvy (by rfl)
theorem Zp2:∀ g,Zcr.K g (default:Zby) [.bool false,.bool false,.bool false,.bool false,.bool false]:=fun g=>⟨rfl,(Qc.2 ⟨(rfl),(Qc.2 ⟨(rfl),(Qc.2 ⟨(rfl),(Qc.2 ⟨(rfl),(Qc.2 ⟨(rfl),(fun _ h=>by cases h)⟩)⟩)⟩)⟩)⟩)⟩
def Zwm:List (Kd.FK Zd):=[⟨_,Kd.flt,0,fun x:Zd=>x.Score⟩,
 ⟨_,Kd.str,1,fun x:Zd=>x.Name⟩]
def Zp:Kd Zd:=Kd.struct 2 Zwm (by rfl)
theorem Zg6:∀ g,Zp.K g (default:Zd) [.float .f64 0,.string ByteArray.empty]:=fun g=>⟨rfl,(Qc.2 ⟨(rfl),(Qc.2 ⟨(rfl),(fun _ h=>by cases h)⟩)⟩)⟩
def Zub:List (Kd.FK Za):=[⟨_,(Kd.int .i64),0,fun x:Za=>x.Kind⟩,
 ⟨_,(Kd.int .i64),1,fun x:Za=>x.Num⟩,
 ⟨_,(Kd.int .i64),2,fun x:Za=>x.Low⟩,
 ⟨_,(Kd.int .i64),3,fun x:Za=>x.High⟩,
 ⟨_,Kd.flt,4,fun x:Za=>x.Real⟩,
 ⟨_,(Kd.int .i64),5,fun x:Za=>x.Cap⟩,
 ⟨_,Kd.str,6,fun x:Za=>x.Text⟩,
 ⟨_,Zp.sl,7,fun x:Za=>x.List⟩]
def Zc:Kd Za:=Kd.struct 8 Zub (by rfl)
theorem Zbr:∀ g,Zc.K g (default:Za) [.int .i64 0,.int .i64 0,.int .i64 0,.int .i64 0,.float .f64 0,.int .i64 0,.string ByteArray.empty,.slice none 0 0]:=fun g=>⟨rfl,(Qc.2 ⟨(rfl),(Qc.2 ⟨(rfl),(Qc.2 ⟨(rfl),(Qc.2 ⟨(rfl),(Qc.2 ⟨(rfl),(Qc.2 ⟨(rfl),(Qc.2 ⟨(rfl),(Qc.2 ⟨(⟨none,0,rfl,Nat.le_refl _,Nat.zero_le _,.inl rfl⟩),(fun _ h=>by cases h)⟩)⟩)⟩)⟩)⟩)⟩)⟩)⟩)⟩
def Zw1:List (Kd.FK Zcy):=[⟨_,Kd.str,0,fun x:Zcy=>x.word⟩,
 ⟨_,(Kd.int .i64),1,fun x:Zcy=>x.on⟩,
 ⟨_,Kd.str,2,fun x:Zcy=>x.has⟩]
def Zdv:Kd Zcy:=Kd.struct 3 Zw1 (by rfl)
theorem Zq7:∀ g,Zdv.K g (default:Zcy) [.string ByteArray.empty,.int .i64 0,.string ByteArray.empty]:=fun g=>⟨rfl,(Qc.2 ⟨(rfl),(Qc.2 ⟨(rfl),(Qc.2 ⟨(rfl),(fun _ h=>by cases h)⟩)⟩)⟩)⟩
def Zyq:List (Kd.FK Zi):=[⟨_,(Kd.int .i64),0,fun x:Zi=>x.Kind⟩,
 ⟨_,Kd.str,1,fun x:Zi=>x.Key⟩,
 ⟨_,(Kd.int .i64),2,fun x:Zi=>x.N⟩,
 ⟨_,Kd.flt,3,fun x:Zi=>x.X⟩,
 ⟨_,Kd.str,4,fun x:Zi=>x.S⟩,
 ⟨_,Zc,5,fun x:Zi=>x.Make⟩,
 ⟨_,Kd.bool,13,fun x:Zi=>x.Must⟩]
def Z1:Kd Zi:=Kd.struct 14 Zyq (by rfl)
theorem Zl0:∀ g,Z1.K g (default:Zi) [.int .i64 0,.string ByteArray.empty,.int .i64 0,.float .f64 0,.string ByteArray.empty,.int .i64 0,.int .i64 0,.int .i64 0,.int .i64 0,.float .f64 0,.int .i64 0,.string ByteArray.empty,.slice none 0 0,.bool false]:=fun g=>⟨rfl,(Qc.2 ⟨(rfl),(Qc.2 ⟨(rfl),(Qc.2 ⟨(rfl),(Qc.2 ⟨(rfl),(Qc.2 ⟨(rfl),(Qc.2 ⟨(Zbr _),(Qc.2 ⟨(rfl),(fun _ h=>by cases h)⟩)⟩)⟩)⟩)⟩)⟩)⟩)⟩
def Zuf:List (Kd.FK Ze):=[⟨_,(Kd.int .i64),0,fun x:Ze=>x.Code⟩,
 ⟨_,(Kd.int .i64),1,fun x:Ze=>x.Num⟩,
 ⟨_,Zc,2,fun x:Ze=>x.Rec⟩]
def Zt:Kd Ze:=Kd.struct 10 Zuf (by rfl)
theorem Zfd:∀ g,Zt.K g (default:Ze) [.int .i64 0,.int .i64 0,.int .i64 0,.int .i64 0,.int .i64 0,.int .i64 0,.float .f64 0,.int .i64 0,.string ByteArray.empty,.slice none 0 0]:=fun g=>⟨rfl,(Qc.2 ⟨(rfl),(Qc.2 ⟨(rfl),(Qc.2 ⟨(Zbr _),(fun _ h=>by cases h)⟩)⟩)⟩)⟩
def Zt7:List (Kd.FK Zw):=[⟨_,(Kd.int .u64),0,fun x:Zw=>x.up⟩,
 ⟨_,(Kd.int .u64),1,fun x:Zw=>x.down⟩]
def Zbb:Kd Zw:=Kd.struct 2 Zt7 (by rfl)
theorem Zi3:∀ g,Zbb.K g (default:Zw) [.int .u64 0,.int .u64 0]:=fun g=>⟨rfl,(Qc.2 ⟨(rfl),(Qc.2 ⟨(rfl),(fun _ h=>by cases h)⟩)⟩)⟩
def Zsb:List (Kd.FK Zx):=[⟨_,Zc,0,fun x:Zx=>x.r⟩,
 ⟨_,Zbb.sl,8,fun x:Zx=>x.by_⟩]
def Zf3:Kd Zx:=Kd.struct 9 Zsb (by rfl)
def Zo3:List (Kd.FK Zu):=[⟨_,(Kd.int .i64),0,fun x:Zu=>x.Worker⟩,
 ⟨_,Z1,1,fun x:Zu=>x.Act⟩]
def Z9:Kd Zu:=Kd.struct 15 Zo3 (by rfl)
theorem Zja:∀ g,Z9.K g (default:Zu) [.int .i64 0,.int .i64 0,.string ByteArray.empty,.int .i64 0,.float .f64 0,.string ByteArray.empty,.int .i64 0,.int .i64 0,.int .i64 0,.int .i64 0,.float .f64 0,.int .i64 0,.string ByteArray.empty,.slice none 0 0,.bool false]:=fun g=>⟨rfl,(Qc.2 ⟨(rfl),(Qc.2 ⟨(Zl0 _),(fun _ h=>by cases h)⟩)⟩)⟩
def Zvc:Zcy → List Value:=fun x=>[.string x.word,.int .i64 x.on,.string x.has]
theorem gm_1:(1,g_1.flatMap Zvc) ∈ GL:=List.mem_of_getElem? (i:=0) rfl
theorem gk_1:∀ g,(Kd.arr 22 Zdv).K g g_1 (g_1.flatMap Zvc):=fun g=>Z7s (dk:=Zdv) (enc:=Zvc) (fun g x=>⟨rfl,(Qc.2 ⟨rfl,(Qc.2 ⟨rfl,(Qc.2 ⟨rfl,(fun _ h=>by cases h)⟩)⟩)⟩)⟩) g g_1
theorem Z32 {N d:Nat} {o:Oper} {uses:Z7} {x0:Operand} {v0:Bool} (hop:o.op=.build 88 #[(0,x0)]) (hd:o.dst=some d) (h0:Opd uses x0 (Kd.bool.pd v0)):OB Tryd.prog N o uses [(d,Zcr.pd { text:=v0,num:=false,bounds:=false,real:=false,list:=false })] []:=by
 refine Zc1 hop hd fun a g hh=>?_
 obtain ⟨c0,k0,e0⟩:=h0 a g hh
 obtain rfl:=k0
 refine ⟨.agg #[.bool v0,.bool false,.bool false,.bool false,.bool false],?_,[.bool v0,.bool false,.bool false,.bool false,.bool false],⟨rfl,(Qc.2 ⟨rfl,(Qc.2 ⟨(rfl),(Qc.2 ⟨(rfl),(Qc.2 ⟨(rfl),(Qc.2 ⟨(rfl),(fun _ h=>by cases h)⟩)⟩)⟩)⟩)⟩)⟩,rfl⟩
 simp only [List.map_toArray,List.map_cons,List.map_nil,e0]
 exact Zco Tryd.underlying88 (zero:=.agg #[.bool false,.bool false,.bool false,.bool false,.bool false]) (by kernel_rfl) (places:=[(0,1),(1,1),(2,1),(3,1),(4,1)]) (by kernel_rfl) (by kernel_rfl) g.w
theorem Zjc:Ty Tryd.prog 88 Zcr:=⟨by kernel_rfl,by kernel_rfl⟩
theorem Z5k {N d:Nat} {o:Oper} {uses:Z7} {x1:Operand} {v1:Bool} (hop:o.op=.build 88 #[(1,x1)]) (hd:o.dst=some d) (h1:Opd uses x1 (Kd.bool.pd v1)):OB Tryd.prog N o uses [(d,Zcr.pd { text:=false,num:=v1,bounds:=false,real:=false,list:=false })] []:=by
 refine Zc1 hop hd fun a g hh=>?_
 obtain ⟨c1,k1,e1⟩:=h1 a g hh
 obtain rfl:=k1
 refine ⟨.agg #[.bool false,.bool v1,.bool false,.bool false,.bool false],?_,[.bool false,.bool v1,.bool false,.bool false,.bool false],⟨rfl,(Qc.2 ⟨(rfl),(Qc.2 ⟨rfl,(Qc.2 ⟨(rfl),(Qc.2 ⟨(rfl),(Qc.2 ⟨(rfl),(fun _ h=>by cases h)⟩)⟩)⟩)⟩)⟩)⟩,rfl⟩
 simp only [List.map_toArray,List.map_cons,List.map_nil,e1]
 exact Zco Tryd.underlying88 (zero:=.agg #[.bool false,.bool false,.bool false,.bool false,.bool false]) (by kernel_rfl) (places:=[(0,1),(1,1),(2,1),(3,1),(4,1)]) (by kernel_rfl) (by kernel_rfl) g.w
theorem Z0w {N d:Nat} {o:Oper} {uses:Z7} {x1:Operand} {x2:Operand} {v1:Bool} {v2:Bool} (hop:o.op=.build 88 #[(1,x1),(2,x2)]) (hd:o.dst=some d) (h1:Opd uses x1 (Kd.bool.pd v1)) (h2:Opd uses x2 (Kd.bool.pd v2)):OB Tryd.prog N o uses [(d,Zcr.pd { text:=false,num:=v1,bounds:=v2,real:=false,list:=false })] []:=by
 refine Zc1 hop hd fun a g hh=>?_
 obtain ⟨c1,k1,e1⟩:=h1 a g hh
 obtain rfl:=k1
 obtain ⟨c2,k2,e2⟩:=h2 a g hh
 obtain rfl:=k2
 refine ⟨.agg #[.bool false,.bool v1,.bool v2,.bool false,.bool false],?_,[.bool false,.bool v1,.bool v2,.bool false,.bool false],⟨rfl,(Qc.2 ⟨(rfl),(Qc.2 ⟨rfl,(Qc.2 ⟨rfl,(Qc.2 ⟨(rfl),(Qc.2 ⟨(rfl),(fun _ h=>by cases h)⟩)⟩)⟩)⟩)⟩)⟩,rfl⟩
 simp only [List.map_toArray,List.map_cons,List.map_nil,e1,e2]
 exact Zco Tryd.underlying88 (zero:=.agg #[.bool false,.bool false,.bool false,.bool false,.bool false]) (by kernel_rfl) (places:=[(0,1),(1,1),(2,1),(3,1),(4,1)]) (by kernel_rfl) (by kernel_rfl) g.w
theorem Z4k {N d:Nat} {o:Oper} {uses:Z7} {x3:Operand} {v3:Bool} (hop:o.op=.build 88 #[(3,x3)]) (hd:o.dst=some d) (h3:Opd uses x3 (Kd.bool.pd v3)):OB Tryd.prog N o uses [(d,Zcr.pd { text:=false,num:=false,bounds:=false,real:=v3,list:=false })] []:=by
 refine Zc1 hop hd fun a g hh=>?_
 obtain ⟨c3,k3,e3⟩:=h3 a g hh
 obtain rfl:=k3
 refine ⟨.agg #[.bool false,.bool false,.bool false,.bool v3,.bool false],?_,[.bool false,.bool false,.bool false,.bool v3,.bool false],⟨rfl,(Qc.2 ⟨(rfl),(Qc.2 ⟨(rfl),(Qc.2 ⟨(rfl),(Qc.2 ⟨rfl,(Qc.2 ⟨(rfl),(fun _ h=>by cases h)⟩)⟩)⟩)⟩)⟩)⟩,rfl⟩
 simp only [List.map_toArray,List.map_cons,List.map_nil,e3]
 exact Zco Tryd.underlying88 (zero:=.agg #[.bool false,.bool false,.bool false,.bool false,.bool false]) (by kernel_rfl) (places:=[(0,1),(1,1),(2,1),(3,1),(4,1)]) (by kernel_rfl) (by kernel_rfl) g.w
theorem Z5m {N d:Nat} {o:Oper} {uses:Z7} {x4:Operand} {v4:Bool} (hop:o.op=.build 88 #[(4,x4)]) (hd:o.dst=some d) (h4:Opd uses x4 (Kd.bool.pd v4)):OB Tryd.prog N o uses [(d,Zcr.pd { text:=false,num:=false,bounds:=false,real:=false,list:=v4 })] []:=by
 refine Zc1 hop hd fun a g hh=>?_
 obtain ⟨c4,k4,e4⟩:=h4 a g hh
 obtain rfl:=k4
 refine ⟨.agg #[.bool false,.bool false,.bool false,.bool false,.bool v4],?_,[.bool false,.bool false,.bool false,.bool false,.bool v4],⟨rfl,(Qc.2 ⟨(rfl),(Qc.2 ⟨(rfl),(Qc.2 ⟨(rfl),(Qc.2 ⟨(rfl),(Qc.2 ⟨rfl,(fun _ h=>by cases h)⟩)⟩)⟩)⟩)⟩)⟩,rfl⟩
 simp only [List.map_toArray,List.map_cons,List.map_nil,e4]
 exact Zco Tryd.underlying88 (zero:=.agg #[.bool false,.bool false,.bool false,.bool false,.bool false]) (by kernel_rfl) (places:=[(0,1),(1,1),(2,1),(3,1),(4,1)]) (by kernel_rfl) (by kernel_rfl) g.w
theorem Z56 {N d:Nat} {o:Oper} {uses:Z7}   (hop:o.op=.build 88 #[]) (hd:o.dst=some d) :OB Tryd.prog N o uses [(d,Zcr.pd { text:=false,num:=false,bounds:=false,real:=false,list:=false })] []:=by
 refine Zc1 hop hd fun a g hh=>?_
 refine ⟨.agg #[.bool false,.bool false,.bool false,.bool false,.bool false],?_,[.bool false,.bool false,.bool false,.bool false,.bool false],⟨rfl,(Qc.2 ⟨(rfl),(Qc.2 ⟨(rfl),(Qc.2 ⟨(rfl),(Qc.2 ⟨(rfl),(Qc.2 ⟨(rfl),(fun _ h=>by cases h)⟩)⟩)⟩)⟩)⟩)⟩,rfl⟩
 simp only [List.map_toArray,List.map_cons,List.map_nil,List.map_nil]
 exact Zco Tryd.underlying88 (zero:=.agg #[.bool false,.bool false,.bool false,.bool false,.bool false]) (by kernel_rfl) (places:=[(0,1),(1,1),(2,1),(3,1),(4,1)]) (by kernel_rfl) (by kernel_rfl) g.w
theorem Zuu:Ext Tryd.prog 61 Extern.MathFloatBits.float64frombits:=⟨_,Tryd.func61,rfl,rfl,by kernel_rfl,by kernel_rfl⟩
theorem Z3o:Zl Tryd.prog 33:=by
 unfold Zl
 kernel_rfl
theorem Zmz:Zl Tryd.prog 66:=by
 unfold Zl
 kernel_rfl
theorem Zsa:Ext Tryd.prog 73 Extern.MathFloatBits.float64bits:=⟨_,Tryd.func73,rfl,rfl,by kernel_rfl,by kernel_rfl⟩
theorem Zup:Zl Tryd.prog 81:=by
 unfold Zl
 kernel_rfl
theorem Z4i:Fld Tryd.prog 88 0 Zcr Kd.bool (fun x:Zby=>x.text):=Fld.of ⟨_,Kd.bool,0,fun x:Zby=>x.text⟩ (List.mem_of_getElem? (i:=0) rfl) 0 rfl (by kernel_rfl) (by decide)
theorem ty_4:Ty Tryd.prog 4 Kd.bool:=⟨by kernel_rfl,by kernel_rfl⟩
theorem Zhc:Fld Tryd.prog 25 6 Zc Kd.str (fun x:Za=>x.Text):=Fld.of ⟨_,Kd.str,6,fun x:Za=>x.Text⟩ (List.mem_of_getElem? (i:=6) rfl) 6 rfl (by kernel_rfl) (by decide)
theorem ty_9:Ty Tryd.prog 9 Kd.str:=⟨by kernel_rfl,by kernel_rfl⟩
theorem Z30:Fld Tryd.prog 88 1 Zcr Kd.bool (fun x:Zby=>x.num):=Fld.of ⟨_,Kd.bool,1,fun x:Zby=>x.num⟩ (List.mem_of_getElem? (i:=1) rfl) 1 rfl (by kernel_rfl) (by decide)
theorem Zb2:Fld Tryd.prog 25 1 Zc (Kd.int .i64) (fun x:Za=>x.Num):=Fld.of ⟨_,(Kd.int .i64),1,fun x:Za=>x.Num⟩ (List.mem_of_getElem? (i:=1) rfl) 1 rfl (by kernel_rfl) (by decide)
theorem ty_2:Ty Tryd.prog 2 (Kd.int .i64):=⟨by kernel_rfl,by kernel_rfl⟩
theorem Zxo:Fld Tryd.prog 88 2 Zcr Kd.bool (fun x:Zby=>x.bounds):=Fld.of ⟨_,Kd.bool,2,fun x:Zby=>x.bounds⟩ (List.mem_of_getElem? (i:=2) rfl) 2 rfl (by kernel_rfl) (by decide)
theorem Zha:Fld Tryd.prog 25 2 Zc (Kd.int .i64) (fun x:Za=>x.Low):=Fld.of ⟨_,(Kd.int .i64),2,fun x:Za=>x.Low⟩ (List.mem_of_getElem? (i:=2) rfl) 2 rfl (by kernel_rfl) (by decide)
theorem Zg9:Fld Tryd.prog 25 3 Zc (Kd.int .i64) (fun x:Za=>x.High):=Fld.of ⟨_,(Kd.int .i64),3,fun x:Za=>x.High⟩ (List.mem_of_getElem? (i:=3) rfl) 3 rfl (by kernel_rfl) (by decide)
theorem Z33:Fld Tryd.prog 88 3 Zcr Kd.bool (fun x:Zby=>x.real):=Fld.of ⟨_,Kd.bool,3,fun x:Zby=>x.real⟩ (List.mem_of_getElem? (i:=3) rfl) 3 rfl (by kernel_rfl) (by decide)
theorem Zdi:Fld Tryd.prog 25 4 Zc Kd.flt (fun x:Za=>x.Real):=Fld.of ⟨_,Kd.flt,4,fun x:Za=>x.Real⟩ (List.mem_of_getElem? (i:=4) rfl) 4 rfl (by kernel_rfl) (by decide)
theorem Zb8:Ty Tryd.prog 22 Kd.flt:=⟨by kernel_rfl,by kernel_rfl⟩
theorem Zp8:Zl Tryd.prog 76:=by
 unfold Zl
 kernel_rfl
theorem Zxu:Fld Tryd.prog 88 4 Zcr Kd.bool (fun x:Zby=>x.list):=Fld.of ⟨_,Kd.bool,4,fun x:Zby=>x.list⟩ (List.mem_of_getElem? (i:=4) rfl) 4 rfl (by kernel_rfl) (by decide)
theorem Zet:Fld Tryd.prog 25 5 Zc (Kd.int .i64) (fun x:Za=>x.Cap):=Fld.of ⟨_,(Kd.int .i64),5,fun x:Za=>x.Cap⟩ (List.mem_of_getElem? (i:=5) rfl) 5 rfl (by kernel_rfl) (by decide)
theorem ty_3:Ty Tryd.prog 3 (Kd.int .i64):=⟨by kernel_rfl,by kernel_rfl⟩
theorem Zbw:Fld Tryd.prog 25 7 Zc Zp.sl (fun x:Za=>x.List):=Fld.of ⟨_,Zp.sl,7,fun x:Za=>x.List⟩ (List.mem_of_getElem? (i:=7) rfl) 7 rfl (by kernel_rfl) (by decide)
theorem Zcg:Ty Tryd.prog 23 Zp.sl:=⟨by kernel_rfl,by kernel_rfl⟩
theorem Zev:Fld Tryd.prog 75 0 Zp Kd.flt (fun x:Zd=>x.Score):=Fld.of ⟨_,Kd.flt,0,fun x:Zd=>x.Score⟩ (List.mem_of_getElem? (i:=0) rfl) 0 rfl (by kernel_rfl) (by decide)
theorem Zyp:Zl Tryd.prog 65:=by
 unfold Zl
 kernel_rfl
theorem Zdh:Fld Tryd.prog 75 1 Zp Kd.str (fun x:Zd=>x.Name):=Fld.of ⟨_,Kd.str,1,fun x:Zd=>x.Name⟩ (List.mem_of_getElem? (i:=1) rfl) 1 rfl (by kernel_rfl) (by decide)
theorem Zee:(Tryd.prog.info? 75).map (·.size)=some Zp.sz:=by kernel_rfl
theorem Zdt:Ty Tryd.prog 75 Zp:=⟨by kernel_rfl,by kernel_rfl⟩
theorem Zza:Zl Tryd.prog 51:=by
 unfold Zl
 kernel_rfl
theorem Zzg:Zl Tryd.prog 77:=by
 unfold Zl
 kernel_rfl
theorem Zde:Fld Tryd.prog 25 0 Zc (Kd.int .i64) (fun x:Za=>x.Kind):=Fld.of ⟨_,(Kd.int .i64),0,fun x:Za=>x.Kind⟩ (List.mem_of_getElem? (i:=0) rfl) 0 rfl (by kernel_rfl) (by decide)
theorem Z70:Zl Tryd.prog 49:=by
 unfold Zl
 kernel_rfl
theorem Z0:Ty Tryd.prog 25 Zc:=⟨by kernel_rfl,by kernel_rfl⟩
theorem Z76:Zl Tryd.prog 50:=by
 unfold Zl
 kernel_rfl
theorem Z7h:Zl Tryd.prog 52:=by
 unfold Zl
 kernel_rfl
theorem Zur:Zl Tryd.prog 23:=by
 unfold Zl
 kernel_rfl
theorem Zlk {N d:Nat} {o:Oper} {uses:Z7}   (hop:o.op=.build 25 #[]) (hd:o.dst=some d) :OB Tryd.prog N o uses [(d,Zc.pd { Kind:=(0:Int),Num:=(0:Int),Low:=(0:Int),High:=(0:Int),Real:=(0:Nat),Cap:=(0:Int),Text:=ByteArray.empty,List:=([]:List Zd) })] []:=by
 refine Zc1 hop hd fun a g hh=>?_
 refine ⟨.agg #[.int .i64 0,.int .i64 0,.int .i64 0,.int .i64 0,.float .f64 0,.int .i64 0,.string ByteArray.empty,.slice none 0 0],?_,[.int .i64 0,.int .i64 0,.int .i64 0,.int .i64 0,.float .f64 0,.int .i64 0,.string ByteArray.empty,.slice none 0 0],⟨rfl,(Qc.2 ⟨(rfl),(Qc.2 ⟨(rfl),(Qc.2 ⟨(rfl),(Qc.2 ⟨(rfl),(Qc.2 ⟨(rfl),(Qc.2 ⟨(rfl),(Qc.2 ⟨(rfl),(Qc.2 ⟨(⟨none,0,rfl,Nat.le_refl _,Nat.zero_le _,.inl rfl⟩),(fun _ h=>by cases h)⟩)⟩)⟩)⟩)⟩)⟩)⟩)⟩)⟩,rfl⟩
 simp only [List.map_toArray,List.map_cons,List.map_nil,List.map_nil]
 exact Zco Tryd.underlying25 (zero:=.agg #[.int .i64 0,.int .i64 0,.int .i64 0,.int .i64 0,.float .f64 0,.int .i64 0,.string ByteArray.empty,.slice none 0 0]) (by kernel_rfl) (places:=[(0,1),(1,1),(2,1),(3,1),(4,1),(5,1),(6,1),(7,1)]) (by kernel_rfl) (by kernel_rfl) g.w
theorem Z5c {N d:Nat} {o:Oper} {uses:Z7} {x0:Operand} {v0:Int} (hop:o.op=.build 25 #[(0,x0)]) (hd:o.dst=some d) (h0:Opd uses x0 ((Kd.int .i64).pd v0)):OB Tryd.prog N o uses [(d,Zc.pd { Kind:=v0,Num:=(0:Int),Low:=(0:Int),High:=(0:Int),Real:=(0:Nat),Cap:=(0:Int),Text:=ByteArray.empty,List:=([]:List Zd) })] []:=by
 refine Zc1 hop hd fun a g hh=>?_
 obtain ⟨c0,k0,e0⟩:=h0 a g hh
 obtain rfl:=k0
 refine ⟨.agg #[.int .i64 v0,.int .i64 0,.int .i64 0,.int .i64 0,.float .f64 0,.int .i64 0,.string ByteArray.empty,.slice none 0 0],?_,[.int .i64 v0,.int .i64 0,.int .i64 0,.int .i64 0,.float .f64 0,.int .i64 0,.string ByteArray.empty,.slice none 0 0],⟨rfl,(Qc.2 ⟨rfl,(Qc.2 ⟨(rfl),(Qc.2 ⟨(rfl),(Qc.2 ⟨(rfl),(Qc.2 ⟨(rfl),(Qc.2 ⟨(rfl),(Qc.2 ⟨(rfl),(Qc.2 ⟨(⟨none,0,rfl,Nat.le_refl _,Nat.zero_le _,.inl rfl⟩),(fun _ h=>by cases h)⟩)⟩)⟩)⟩)⟩)⟩)⟩)⟩)⟩,rfl⟩
 simp only [List.map_toArray,List.map_cons,List.map_nil,e0]
 exact Zco Tryd.underlying25 (zero:=.agg #[.int .i64 0,.int .i64 0,.int .i64 0,.int .i64 0,.float .f64 0,.int .i64 0,.string ByteArray.empty,.slice none 0 0]) (by kernel_rfl) (places:=[(0,1),(1,1),(2,1),(3,1),(4,1),(5,1),(6,1),(7,1)]) (by kernel_rfl) (by kernel_rfl) g.w
theorem Z7m:Zl Tryd.prog 32:=by
 unfold Zl
 kernel_rfl
theorem Ztd {N d:Nat} {o:Oper} {uses:Z7} {x0:Operand} {x4:Operand} {v0:Int} {v4:Nat} (hop:o.op=.build 25 #[(0,x0),(4,x4)]) (hd:o.dst=some d) (h0:Opd uses x0 ((Kd.int .i64).pd v0)) (h4:Opd uses x4 (Kd.flt.pd v4)):OB Tryd.prog N o uses [(d,Zc.pd { Kind:=v0,Num:=(0:Int),Low:=(0:Int),High:=(0:Int),Real:=v4,Cap:=(0:Int),Text:=ByteArray.empty,List:=([]:List Zd) })] []:=by
 refine Zc1 hop hd fun a g hh=>?_
 obtain ⟨c0,k0,e0⟩:=h0 a g hh
 obtain rfl:=k0
 obtain ⟨c4,k4,e4⟩:=h4 a g hh
 obtain rfl:=k4
 refine ⟨.agg #[.int .i64 v0,.int .i64 0,.int .i64 0,.int .i64 0,.float .f64 v4,.int .i64 0,.string ByteArray.empty,.slice none 0 0],?_,[.int .i64 v0,.int .i64 0,.int .i64 0,.int .i64 0,.float .f64 v4,.int .i64 0,.string ByteArray.empty,.slice none 0 0],⟨rfl,(Qc.2 ⟨rfl,(Qc.2 ⟨(rfl),(Qc.2 ⟨(rfl),(Qc.2 ⟨(rfl),(Qc.2 ⟨rfl,(Qc.2 ⟨(rfl),(Qc.2 ⟨(rfl),(Qc.2 ⟨(⟨none,0,rfl,Nat.le_refl _,Nat.zero_le _,.inl rfl⟩),(fun _ h=>by cases h)⟩)⟩)⟩)⟩)⟩)⟩)⟩)⟩)⟩,rfl⟩
 simp only [List.map_toArray,List.map_cons,List.map_nil,e0,e4]
 exact Zco Tryd.underlying25 (zero:=.agg #[.int .i64 0,.int .i64 0,.int .i64 0,.int .i64 0,.float .f64 0,.int .i64 0,.string ByteArray.empty,.slice none 0 0]) (by kernel_rfl) (places:=[(0,1),(1,1),(2,1),(3,1),(4,1),(5,1),(6,1),(7,1)]) (by kernel_rfl) (by kernel_rfl) g.w
theorem Ztt {N d:Nat} {o:Oper} {uses:Z7} {x0:Operand} {x5:Operand} {v0:Int} {v5:Int} (hop:o.op=.build 25 #[(0,x0),(5,x5)]) (hd:o.dst=some d) (h0:Opd uses x0 ((Kd.int .i64).pd v0)) (h5:Opd uses x5 ((Kd.int .i64).pd v5)):OB Tryd.prog N o uses [(d,Zc.pd { Kind:=v0,Num:=(0:Int),Low:=(0:Int),High:=(0:Int),Real:=(0:Nat),Cap:=v5,Text:=ByteArray.empty,List:=([]:List Zd) })] []:=by
 refine Zc1 hop hd fun a g hh=>?_
 obtain ⟨c0,k0,e0⟩:=h0 a g hh
 obtain rfl:=k0
 obtain ⟨c5,k5,e5⟩:=h5 a g hh
 obtain rfl:=k5
 refine ⟨.agg #[.int .i64 v0,.int .i64 0,.int .i64 0,.int .i64 0,.float .f64 0,.int .i64 v5,.string ByteArray.empty,.slice none 0 0],?_,[.int .i64 v0,.int .i64 0,.int .i64 0,.int .i64 0,.float .f64 0,.int .i64 v5,.string ByteArray.empty,.slice none 0 0],⟨rfl,(Qc.2 ⟨rfl,(Qc.2 ⟨(rfl),(Qc.2 ⟨(rfl),(Qc.2 ⟨(rfl),(Qc.2 ⟨(rfl),(Qc.2 ⟨rfl,(Qc.2 ⟨(rfl),(Qc.2 ⟨(⟨none,0,rfl,Nat.le_refl _,Nat.zero_le _,.inl rfl⟩),(fun _ h=>by cases h)⟩)⟩)⟩)⟩)⟩)⟩)⟩)⟩)⟩,rfl⟩
 simp only [List.map_toArray,List.map_cons,List.map_nil,e0,e5]
 exact Zco Tryd.underlying25 (zero:=.agg #[.int .i64 0,.int .i64 0,.int .i64 0,.int .i64 0,.float .f64 0,.int .i64 0,.string ByteArray.empty,.slice none 0 0]) (by kernel_rfl) (places:=[(0,1),(1,1),(2,1),(3,1),(4,1),(5,1),(6,1),(7,1)]) (by kernel_rfl) (by kernel_rfl) g.w
theorem Z5h {N d:Nat} {o:Oper} {uses:Z7}   (hop:o.op=.build 108 #[]) (hd:o.dst=some d) :OB Tryd.prog N o uses [(d,Zdv.pd { word:=ByteArray.empty,on:=(0:Int),has:=ByteArray.empty })] []:=by
 refine Zc1 hop hd fun a g hh=>?_
 refine ⟨.agg #[.string ByteArray.empty,.int .i64 0,.string ByteArray.empty],?_,[.string ByteArray.empty,.int .i64 0,.string ByteArray.empty],⟨rfl,(Qc.2 ⟨(rfl),(Qc.2 ⟨(rfl),(Qc.2 ⟨(rfl),(fun _ h=>by cases h)⟩)⟩)⟩)⟩,rfl⟩
 simp only [List.map_toArray,List.map_cons,List.map_nil,List.map_nil]
 exact Zco Tryd.underlying108 (zero:=.agg #[.string ByteArray.empty,.int .i64 0,.string ByteArray.empty]) (by kernel_rfl) (places:=[(0,1),(1,1),(2,1)]) (by kernel_rfl) (by kernel_rfl) g.w
theorem Zi2:Ty Tryd.prog 108 Zdv:=⟨by kernel_rfl,by kernel_rfl⟩
theorem Z6d:(Tryd.prog.info? 108).map (·.size)=some Zdv.sz:=by kernel_rfl
theorem Z2s:Zl Tryd.prog 62:=by
 unfold Zl
 kernel_rfl
theorem Zvq:Fld Tryd.prog 108 1 Zdv (Kd.int .i64) (fun x:Zcy=>x.on):=Fld.of ⟨_,(Kd.int .i64),1,fun x:Zcy=>x.on⟩ (List.mem_of_getElem? (i:=1) rfl) 1 rfl (by kernel_rfl) (by decide)
theorem Z21:Zl Tryd.prog 34:=by
 unfold Zl
 kernel_rfl
theorem Zcx:TE Tryd.prog 23 75 Zp 24:=TE.of Tryd.underlying23 (by kernel_rfl) (by decide) (by decide)
theorem Zun:Zl Tryd.prog 64:=by
 unfold Zl
 kernel_rfl
theorem Zkl {c:Option Nat} {N j s:Nat} {o:Oper} {uses:Z7} {x z:Operand} {v:Za} {y0 y:List Zd} {v0:Za} {t:Nat} (hT:Ty Tryd.prog t Zp.sl) (hop:o.op=.store t x z) (hd:o.dst=none) (hs:Opd uses (.tmp s) (Zbp c Zc j v)) (hx:Opd uses x (Ze0 Zc j v0 7 Zp.sl y0)) (hz:Opd uses z (Zp.sl.pd y)):OB Tryd.prog N o uses [(s,Zbp c Zc j { v with List:=y })] [j + 1] :=
 Zfu hT hop hd hs hx hz fun g cs ys hk hy=>by
  have hc:cs.length=8:=hk.1
  have hl:ys.length=1:=Zp.sl.len hy
  exact ⟨by omega,(Zc9 (by omega)).trans hc,(Qc.2 ⟨(by show (Kd.int .i64).K g v.Kind (seg (Z3 cs 7 ys) 0 1);rw [Z2 (by omega) (by omega)];exact hk.2 _ (List.mem_of_getElem? (i:=0) rfl)),(Qc.2 ⟨(by show (Kd.int .i64).K g v.Num (seg (Z3 cs 7 ys) 1 1);rw [Z2 (by omega) (by omega)];exact hk.2 _ (List.mem_of_getElem? (i:=1) rfl)),(Qc.2 ⟨(by show (Kd.int .i64).K g v.Low (seg (Z3 cs 7 ys) 2 1);rw [Z2 (by omega) (by omega)];exact hk.2 _ (List.mem_of_getElem? (i:=2) rfl)),(Qc.2 ⟨(by show (Kd.int .i64).K g v.High (seg (Z3 cs 7 ys) 3 1);rw [Z2 (by omega) (by omega)];exact hk.2 _ (List.mem_of_getElem? (i:=3) rfl)),(Qc.2 ⟨(by show Kd.flt.K g v.Real (seg (Z3 cs 7 ys) 4 1);rw [Z2 (by omega) (by omega)];exact hk.2 _ (List.mem_of_getElem? (i:=4) rfl)),(Qc.2 ⟨(by show (Kd.int .i64).K g v.Cap (seg (Z3 cs 7 ys) 5 1);rw [Z2 (by omega) (by omega)];exact hk.2 _ (List.mem_of_getElem? (i:=5) rfl)),(Qc.2 ⟨(by show Kd.str.K g v.Text (seg (Z3 cs 7 ys) 6 1);rw [Z2 (by omega) (by omega)];exact hk.2 _ (List.mem_of_getElem? (i:=6) rfl)),(Qc.2 ⟨(by show Zp.sl.K g y (seg (Z3 cs 7 ys) 7 1);rw [Zda (by omega) hl];exact hy),(fun _ h=>by cases h)⟩)⟩)⟩)⟩)⟩)⟩)⟩)⟩)⟩
theorem Zu8:Fld Tryd.prog 108 2 Zdv Kd.str (fun x:Zcy=>x.has):=Fld.of ⟨_,Kd.str,2,fun x:Zcy=>x.has⟩ (List.mem_of_getElem? (i:=2) rfl) 2 rfl (by kernel_rfl) (by decide)
theorem Z59:Zl Tryd.prog 111:=by
 unfold Zl
 kernel_rfl
theorem Z6b:Zl Tryd.prog 110:=by
 unfold Zl
 kernel_rfl
theorem Zru:Zl Tryd.prog 104:=by
 unfold Zl
 kernel_rfl
theorem Zcq:Fld Tryd.prog 37 2 Z1 (Kd.int .i64) (fun x:Zi=>x.N):=Fld.of ⟨_,(Kd.int .i64),2,fun x:Zi=>x.N⟩ (List.mem_of_getElem? (i:=2) rfl) 2 rfl (by kernel_rfl) (by decide)
theorem Zg8:Fld Tryd.prog 37 3 Z1 Kd.flt (fun x:Zi=>x.X):=Fld.of ⟨_,Kd.flt,3,fun x:Zi=>x.X⟩ (List.mem_of_getElem? (i:=3) rfl) 3 rfl (by kernel_rfl) (by decide)
theorem Zea:Fld Tryd.prog 37 4 Z1 Kd.str (fun x:Zi=>x.S):=Fld.of ⟨_,Kd.str,4,fun x:Zi=>x.S⟩ (List.mem_of_getElem? (i:=4) rfl) 4 rfl (by kernel_rfl) (by decide)
theorem Zk3:Fld Tryd.prog 37 5 Z1 Zc (fun x:Zi=>x.Make):=Fld.of ⟨_,Zc,5,fun x:Zi=>x.Make⟩ (List.mem_of_getElem? (i:=5) rfl) 5 rfl (by kernel_rfl) (by decide)
theorem Z6f:Zl Tryd.prog 105:=by
 unfold Zl
 kernel_rfl
theorem Zch:Fld Tryd.prog 37 0 Z1 (Kd.int .i64) (fun x:Zi=>x.Kind):=Fld.of ⟨_,(Kd.int .i64),0,fun x:Zi=>x.Kind⟩ (List.mem_of_getElem? (i:=0) rfl) 0 rfl (by kernel_rfl) (by decide)
theorem Z2l:Fld Tryd.prog 108 0 Zdv Kd.str (fun x:Zcy=>x.word):=Fld.of ⟨_,Kd.str,0,fun x:Zcy=>x.word⟩ (List.mem_of_getElem? (i:=0) rfl) 0 rfl (by kernel_rfl) (by decide)
theorem Znr:Fld Tryd.prog 37 1 Z1 Kd.str (fun x:Zi=>x.Key):=Fld.of ⟨_,Kd.str,1,fun x:Zi=>x.Key⟩ (List.mem_of_getElem? (i:=1) rfl) 1 rfl (by kernel_rfl) (by decide)
theorem Zgr:Ty Tryd.prog 37 Z1:=⟨by kernel_rfl,by kernel_rfl⟩
theorem Z8p:Zl Tryd.prog 78:=by
 unfold Zl
 kernel_rfl
theorem Z7q:Zl Tryd.prog 79:=by
 unfold Zl
 kernel_rfl
theorem Zqh {c:Option Nat} {N j s:Nat} {o:Oper} {uses:Z7} {x z:Operand} {v:Za} {y0 y:ByteArray} {v0:Za} {t:Nat} (hT:Ty Tryd.prog t Kd.str) (hop:o.op=.store t x z) (hd:o.dst=none) (hs:Opd uses (.tmp s) (Zbp c Zc j v)) (hx:Opd uses x (Ze0 Zc j v0 6 Kd.str y0)) (hz:Opd uses z (Kd.str.pd y)):OB Tryd.prog N o uses [(s,Zbp c Zc j { v with Text:=y })] [j + 1] :=
 Zfu hT hop hd hs hx hz fun g cs ys hk hy=>by
  have hc:cs.length=8:=hk.1
  have hl:ys.length=1:=Kd.str.len hy
  exact ⟨by omega,(Zc9 (by omega)).trans hc,(Qc.2 ⟨(by show (Kd.int .i64).K g v.Kind (seg (Z3 cs 6 ys) 0 1);rw [Z2 (by omega) (by omega)];exact hk.2 _ (List.mem_of_getElem? (i:=0) rfl)),(Qc.2 ⟨(by show (Kd.int .i64).K g v.Num (seg (Z3 cs 6 ys) 1 1);rw [Z2 (by omega) (by omega)];exact hk.2 _ (List.mem_of_getElem? (i:=1) rfl)),(Qc.2 ⟨(by show (Kd.int .i64).K g v.Low (seg (Z3 cs 6 ys) 2 1);rw [Z2 (by omega) (by omega)];exact hk.2 _ (List.mem_of_getElem? (i:=2) rfl)),(Qc.2 ⟨(by show (Kd.int .i64).K g v.High (seg (Z3 cs 6 ys) 3 1);rw [Z2 (by omega) (by omega)];exact hk.2 _ (List.mem_of_getElem? (i:=3) rfl)),(Qc.2 ⟨(by show Kd.flt.K g v.Real (seg (Z3 cs 6 ys) 4 1);rw [Z2 (by omega) (by omega)];exact hk.2 _ (List.mem_of_getElem? (i:=4) rfl)),(Qc.2 ⟨(by show (Kd.int .i64).K g v.Cap (seg (Z3 cs 6 ys) 5 1);rw [Z2 (by omega) (by omega)];exact hk.2 _ (List.mem_of_getElem? (i:=5) rfl)),(Qc.2 ⟨(by show Kd.str.K g y (seg (Z3 cs 6 ys) 6 1);rw [Zda (by omega) hl];exact hy),(Qc.2 ⟨(by show Zp.sl.K g v.List (seg (Z3 cs 6 ys) 7 1);rw [Z2 (by omega) (by omega)];exact hk.2 _ (List.mem_of_getElem? (i:=7) rfl)),(fun _ h=>by cases h)⟩)⟩)⟩)⟩)⟩)⟩)⟩)⟩)⟩
theorem Zol:Zl Tryd.prog 37:=by
 unfold Zl
 kernel_rfl
theorem Zw9:Fld Tryd.prog 79 2 Zt Zc (fun x:Ze=>x.Rec):=Fld.of ⟨_,Zc,2,fun x:Ze=>x.Rec⟩ (List.mem_of_getElem? (i:=2) rfl) 2 rfl (by kernel_rfl) (by decide)
theorem Zxf {c:Option Nat} {N j s:Nat} {o:Oper} {uses:Z7} {x z:Operand} {v:Ze} {y0 y:Za} {v0:Ze} {t:Nat} (hT:Ty Tryd.prog t Zc) (hop:o.op=.store t x z) (hd:o.dst=none) (hs:Opd uses (.tmp s) (Zbp c Zt j v)) (hx:Opd uses x (Ze0 Zt j v0 2 Zc y0)) (hz:Opd uses z (Zc.pd y)):OB Tryd.prog N o uses [(s,Zbp c Zt j { v with Rec:=y })] [j + 1] :=
 Zfu hT hop hd hs hx hz fun g cs ys hk hy=>by
  have hc:cs.length=10:=hk.1
  have hl:ys.length=8:=Zc.len hy
  exact ⟨by omega,(Zc9 (by omega)).trans hc,(Qc.2 ⟨(by show (Kd.int .i64).K g v.Code (seg (Z3 cs 2 ys) 0 1);rw [Z2 (by omega) (by omega)];exact hk.2 _ (List.mem_of_getElem? (i:=0) rfl)),(Qc.2 ⟨(by show (Kd.int .i64).K g v.Num (seg (Z3 cs 2 ys) 1 1);rw [Z2 (by omega) (by omega)];exact hk.2 _ (List.mem_of_getElem? (i:=1) rfl)),(Qc.2 ⟨(by show Zc.K g y (seg (Z3 cs 2 ys) 2 8);rw [Zda (by omega) hl];exact hy),(fun _ h=>by cases h)⟩)⟩)⟩)⟩
theorem Zjx {c:Option Nat} {N j s:Nat} {o:Oper} {uses:Z7} {x z:Operand} {v:Za} {y0 y:Int} {v0:Za} {t:Nat} (hT:Ty Tryd.prog t (Kd.int .i64)) (hop:o.op=.store t x z) (hd:o.dst=none) (hs:Opd uses (.tmp s) (Zbp c Zc j v)) (hx:Opd uses x (Ze0 Zc j v0 1 (Kd.int .i64) y0)) (hz:Opd uses z ((Kd.int .i64).pd y)):OB Tryd.prog N o uses [(s,Zbp c Zc j { v with Num:=y })] [j + 1] :=
 Zfu hT hop hd hs hx hz fun g cs ys hk hy=>by
  have hc:cs.length=8:=hk.1
  have hl:ys.length=1:=(Kd.int .i64).len hy
  exact ⟨by omega,(Zc9 (by omega)).trans hc,(Qc.2 ⟨(by show (Kd.int .i64).K g v.Kind (seg (Z3 cs 1 ys) 0 1);rw [Z2 (by omega) (by omega)];exact hk.2 _ (List.mem_of_getElem? (i:=0) rfl)),(Qc.2 ⟨(by show (Kd.int .i64).K g y (seg (Z3 cs 1 ys) 1 1);rw [Zda (by omega) hl];exact hy),(Qc.2 ⟨(by show (Kd.int .i64).K g v.Low (seg (Z3 cs 1 ys) 2 1);rw [Z2 (by omega) (by omega)];exact hk.2 _ (List.mem_of_getElem? (i:=2) rfl)),(Qc.2 ⟨(by show (Kd.int .i64).K g v.High (seg (Z3 cs 1 ys) 3 1);rw [Z2 (by omega) (by omega)];exact hk.2 _ (List.mem_of_getElem? (i:=3) rfl)),(Qc.2 ⟨(by show Kd.flt.K g v.Real (seg (Z3 cs 1 ys) 4 1);rw [Z2 (by omega) (by omega)];exact hk.2 _ (List.mem_of_getElem? (i:=4) rfl)),(Qc.2 ⟨(by show (Kd.int .i64).K g v.Cap (seg (Z3 cs 1 ys) 5 1);rw [Z2 (by omega) (by omega)];exact hk.2 _ (List.mem_of_getElem? (i:=5) rfl)),(Qc.2 ⟨(by show Kd.str.K g v.Text (seg (Z3 cs 1 ys) 6 1);rw [Z2 (by omega) (by omega)];exact hk.2 _ (List.mem_of_getElem? (i:=6) rfl)),(Qc.2 ⟨(by show Zp.sl.K g v.List (seg (Z3 cs 1 ys) 7 1);rw [Z2 (by omega) (by omega)];exact hk.2 _ (List.mem_of_getElem? (i:=7) rfl)),(fun _ h=>by cases h)⟩)⟩)⟩)⟩)⟩)⟩)⟩)⟩)⟩
theorem Zkm {c:Option Nat} {N j s:Nat} {o:Oper} {uses:Z7} {x z:Operand} {v:Za} {y0 y:Nat} {v0:Za} {t:Nat} (hT:Ty Tryd.prog t Kd.flt) (hop:o.op=.store t x z) (hd:o.dst=none) (hs:Opd uses (.tmp s) (Zbp c Zc j v)) (hx:Opd uses x (Ze0 Zc j v0 4 Kd.flt y0)) (hz:Opd uses z (Kd.flt.pd y)):OB Tryd.prog N o uses [(s,Zbp c Zc j { v with Real:=y })] [j + 1] :=
 Zfu hT hop hd hs hx hz fun g cs ys hk hy=>by
  have hc:cs.length=8:=hk.1
  have hl:ys.length=1:=Kd.flt.len hy
  exact ⟨by omega,(Zc9 (by omega)).trans hc,(Qc.2 ⟨(by show (Kd.int .i64).K g v.Kind (seg (Z3 cs 4 ys) 0 1);rw [Z2 (by omega) (by omega)];exact hk.2 _ (List.mem_of_getElem? (i:=0) rfl)),(Qc.2 ⟨(by show (Kd.int .i64).K g v.Num (seg (Z3 cs 4 ys) 1 1);rw [Z2 (by omega) (by omega)];exact hk.2 _ (List.mem_of_getElem? (i:=1) rfl)),(Qc.2 ⟨(by show (Kd.int .i64).K g v.Low (seg (Z3 cs 4 ys) 2 1);rw [Z2 (by omega) (by omega)];exact hk.2 _ (List.mem_of_getElem? (i:=2) rfl)),(Qc.2 ⟨(by show (Kd.int .i64).K g v.High (seg (Z3 cs 4 ys) 3 1);rw [Z2 (by omega) (by omega)];exact hk.2 _ (List.mem_of_getElem? (i:=3) rfl)),(Qc.2 ⟨(by show Kd.flt.K g y (seg (Z3 cs 4 ys) 4 1);rw [Zda (by omega) hl];exact hy),(Qc.2 ⟨(by show (Kd.int .i64).K g v.Cap (seg (Z3 cs 4 ys) 5 1);rw [Z2 (by omega) (by omega)];exact hk.2 _ (List.mem_of_getElem? (i:=5) rfl)),(Qc.2 ⟨(by show Kd.str.K g v.Text (seg (Z3 cs 4 ys) 6 1);rw [Z2 (by omega) (by omega)];exact hk.2 _ (List.mem_of_getElem? (i:=6) rfl)),(Qc.2 ⟨(by show Zp.sl.K g v.List (seg (Z3 cs 4 ys) 7 1);rw [Z2 (by omega) (by omega)];exact hk.2 _ (List.mem_of_getElem? (i:=7) rfl)),(fun _ h=>by cases h)⟩)⟩)⟩)⟩)⟩)⟩)⟩)⟩)⟩
theorem Zo7:Zl Tryd.prog 106:=by
 unfold Zl
 kernel_rfl
theorem Z51:Ty Tryd.prog 77 Kd.fnc:=⟨by kernel_rfl,by kernel_rfl⟩
theorem Z62:Zl Tryd.prog 109:=by
 unfold Zl
 kernel_rfl
theorem Z6t:Zl Tryd.prog 108:=by
 unfold Zl
 kernel_rfl
theorem Z6x:Ext Tryd.prog 112 (Extern.SlicesOverlaps.overlaps #[23,23] #[4]):=⟨_,Tryd.func112,rfl,rfl,by kernel_rfl,by kernel_rfl⟩
theorem Zy3:Zl Tryd.prog 95:=by
 unfold Zl
 kernel_rfl
theorem Zxd {N d:Nat} {o:Oper} {uses:Z7} {x1:Operand} {v1:ByteArray} (hop:o.op=.build 75 #[(1,x1)]) (hd:o.dst=some d) (h1:Opd uses x1 (Kd.str.pd v1)):OB Tryd.prog N o uses [(d,Zp.pd { Score:=(0:Nat),Name:=v1 })] []:=by
 refine Zc1 hop hd fun a g hh=>?_
 obtain ⟨c1,k1,e1⟩:=h1 a g hh
 obtain rfl:=k1
 refine ⟨.agg #[.float .f64 0,.string v1],?_,[.float .f64 0,.string v1],⟨rfl,(Qc.2 ⟨(rfl),(Qc.2 ⟨rfl,(fun _ h=>by cases h)⟩)⟩)⟩,rfl⟩
 simp only [List.map_toArray,List.map_cons,List.map_nil,e1]
 exact Zco Tryd.underlying75 (zero:=.agg #[.float .f64 0,.string ByteArray.empty]) (by kernel_rfl) (places:=[(0,1),(1,1)]) (by kernel_rfl) (by kernel_rfl) g.w
theorem Z0b:Zl Tryd.prog 107:=by
 unfold Zl
 kernel_rfl
theorem Z7p:Zl Tryd.prog 96:=by
 unfold Zl
 kernel_rfl
theorem Zt4 {N d:Nat} {o:Oper} {uses:Z7} {x0:Operand} {x1:Operand} {v0:Nat} {v1:ByteArray} (hop:o.op=.build 75 #[(0,x0),(1,x1)]) (hd:o.dst=some d) (h0:Opd uses x0 (Kd.flt.pd v0)) (h1:Opd uses x1 (Kd.str.pd v1)):OB Tryd.prog N o uses [(d,Zp.pd { Score:=v0,Name:=v1 })] []:=by
 refine Zc1 hop hd fun a g hh=>?_
 obtain ⟨c0,k0,e0⟩:=h0 a g hh
 obtain rfl:=k0
 obtain ⟨c1,k1,e1⟩:=h1 a g hh
 obtain rfl:=k1
 refine ⟨.agg #[.float .f64 v0,.string v1],?_,[.float .f64 v0,.string v1],⟨rfl,(Qc.2 ⟨rfl,(Qc.2 ⟨rfl,(fun _ h=>by cases h)⟩)⟩)⟩,rfl⟩
 simp only [List.map_toArray,List.map_cons,List.map_nil,e0,e1]
 exact Zco Tryd.underlying75 (zero:=.agg #[.float .f64 0,.string ByteArray.empty]) (by kernel_rfl) (places:=[(0,1),(1,1)]) (by kernel_rfl) (by kernel_rfl) g.w
theorem Z8v:Zl Tryd.prog 82:=by
 unfold Zl
 kernel_rfl
theorem Z7t:Zl Tryd.prog 83:=by
 unfold Zl
 kernel_rfl
theorem Z8n:Zl Tryd.prog 84:=by
 unfold Zl
 kernel_rfl
theorem Z8d:Zl Tryd.prog 85:=by
 unfold Zl
 kernel_rfl
theorem Z3i:Zl Tryd.prog 86:=by
 unfold Zl
 kernel_rfl
theorem Z8e:Zl Tryd.prog 87:=by
 unfold Zl
 kernel_rfl
theorem Z8o:Zl Tryd.prog 88:=by
 unfold Zl
 kernel_rfl
theorem Z2z:Zl Tryd.prog 38:=by
 unfold Zl
 kernel_rfl
theorem Z3d:Zl Tryd.prog 39:=by
 unfold Zl
 kernel_rfl
theorem Z7z:Zl Tryd.prog 90:=by
 unfold Zl
 kernel_rfl
theorem Z73:Zl Tryd.prog 91:=by
 unfold Zl
 kernel_rfl
theorem Z7w:Zl Tryd.prog 92:=by
 unfold Zl
 kernel_rfl
theorem Z7o:Zl Tryd.prog 93:=by
 unfold Zl
 kernel_rfl
theorem Z7l:Zl Tryd.prog 94:=by
 unfold Zl
 kernel_rfl
theorem Z7v:Zl Tryd.prog 97:=by
 unfold Zl
 kernel_rfl
theorem Z8b:Zl Tryd.prog 98:=by
 unfold Zl
 kernel_rfl
theorem Zr2:Zl Tryd.prog 89:=by
 unfold Zl
 kernel_rfl
theorem Zta {N d:Nat} {o:Oper} {uses:Z7} {x0:Operand} {v0:Int} (hop:o.op=.build 79 #[(0,x0)]) (hd:o.dst=some d) (h0:Opd uses x0 ((Kd.int .i64).pd v0)):OB Tryd.prog N o uses [(d,Zt.pd { Code:=v0,Num:=(0:Int),Rec:=(default:Za) })] []:=by
 refine Zc1 hop hd fun a g hh=>?_
 obtain ⟨c0,k0,e0⟩:=h0 a g hh
 obtain rfl:=k0
 refine ⟨.agg #[.int .i64 v0,.int .i64 0,.int .i64 0,.int .i64 0,.int .i64 0,.int .i64 0,.float .f64 0,.int .i64 0,.string ByteArray.empty,.slice none 0 0],?_,[.int .i64 v0,.int .i64 0,.int .i64 0,.int .i64 0,.int .i64 0,.int .i64 0,.float .f64 0,.int .i64 0,.string ByteArray.empty,.slice none 0 0],⟨rfl,(Qc.2 ⟨rfl,(Qc.2 ⟨(rfl),(Qc.2 ⟨(Zbr _),(fun _ h=>by cases h)⟩)⟩)⟩)⟩,rfl⟩
 simp only [List.map_toArray,List.map_cons,List.map_nil,e0]
 exact Zco Tryd.underlying79 (zero:=.agg #[.int .i64 0,.int .i64 0,.int .i64 0,.int .i64 0,.int .i64 0,.int .i64 0,.float .f64 0,.int .i64 0,.string ByteArray.empty,.slice none 0 0]) (by kernel_rfl) (places:=[(0,1),(1,1),(2,8)]) (by kernel_rfl) (by kernel_rfl) g.w
theorem Zcs:Ty Tryd.prog 79 Zt:=⟨by kernel_rfl,by kernel_rfl⟩
theorem Z2y:Zl Tryd.prog 58:=by
 unfold Zl
 kernel_rfl
theorem Zr3:Zl Tryd.prog 67:=by
 unfold Zl
 kernel_rfl
theorem Zph {N d:Nat} {o:Oper} {uses:Z7}   (hop:o.op=.build 79 #[]) (hd:o.dst=some d) :OB Tryd.prog N o uses [(d,Zt.pd { Code:=(0:Int),Num:=(0:Int),Rec:=(default:Za) })] []:=by
 refine Zc1 hop hd fun a g hh=>?_
 refine ⟨.agg #[.int .i64 0,.int .i64 0,.int .i64 0,.int .i64 0,.int .i64 0,.int .i64 0,.float .f64 0,.int .i64 0,.string ByteArray.empty,.slice none 0 0],?_,[.int .i64 0,.int .i64 0,.int .i64 0,.int .i64 0,.int .i64 0,.int .i64 0,.float .f64 0,.int .i64 0,.string ByteArray.empty,.slice none 0 0],⟨rfl,(Qc.2 ⟨(rfl),(Qc.2 ⟨(rfl),(Qc.2 ⟨(Zbr _),(fun _ h=>by cases h)⟩)⟩)⟩)⟩,rfl⟩
 simp only [List.map_toArray,List.map_cons,List.map_nil,List.map_nil]
 exact Zco Tryd.underlying79 (zero:=.agg #[.int .i64 0,.int .i64 0,.int .i64 0,.int .i64 0,.int .i64 0,.int .i64 0,.float .f64 0,.int .i64 0,.string ByteArray.empty,.slice none 0 0]) (by kernel_rfl) (places:=[(0,1),(1,1),(2,8)]) (by kernel_rfl) (by kernel_rfl) g.w
theorem Zx6 {N d:Nat} {o:Oper} {uses:Z7} {x1:Operand} {v1:Int} (hop:o.op=.build 79 #[(1,x1)]) (hd:o.dst=some d) (h1:Opd uses x1 ((Kd.int .i64).pd v1)):OB Tryd.prog N o uses [(d,Zt.pd { Code:=(0:Int),Num:=v1,Rec:=(default:Za) })] []:=by
 refine Zc1 hop hd fun a g hh=>?_
 obtain ⟨c1,k1,e1⟩:=h1 a g hh
 obtain rfl:=k1
 refine ⟨.agg #[.int .i64 0,.int .i64 v1,.int .i64 0,.int .i64 0,.int .i64 0,.int .i64 0,.float .f64 0,.int .i64 0,.string ByteArray.empty,.slice none 0 0],?_,[.int .i64 0,.int .i64 v1,.int .i64 0,.int .i64 0,.int .i64 0,.int .i64 0,.float .f64 0,.int .i64 0,.string ByteArray.empty,.slice none 0 0],⟨rfl,(Qc.2 ⟨(rfl),(Qc.2 ⟨rfl,(Qc.2 ⟨(Zbr _),(fun _ h=>by cases h)⟩)⟩)⟩)⟩,rfl⟩
 simp only [List.map_toArray,List.map_cons,List.map_nil,e1]
 exact Zco Tryd.underlying79 (zero:=.agg #[.int .i64 0,.int .i64 0,.int .i64 0,.int .i64 0,.int .i64 0,.int .i64 0,.float .f64 0,.int .i64 0,.string ByteArray.empty,.slice none 0 0]) (by kernel_rfl) (places:=[(0,1),(1,1),(2,8)]) (by kernel_rfl) (by kernel_rfl) g.w
theorem Zx2 {N d:Nat} {o:Oper} {uses:Z7} {x2:Operand} {v2:Za} (hop:o.op=.build 79 #[(2,x2)]) (hd:o.dst=some d) (h2:Opd uses x2 (Zc.pd v2)):OB Tryd.prog N o uses [(d,Zt.pd { Code:=(0:Int),Num:=(0:Int),Rec:=v2 })] []:=by
 refine Zc1 hop hd fun a g hh=>?_
 obtain ⟨c2,k2,e2⟩:=h2 a g hh
 obtain ⟨u2_0,u2_1,u2_2,u2_3,u2_4,u2_5,u2_6,u2_7,rfl⟩:=Z3k (Zc.len k2)
 refine ⟨.agg #[.int .i64 0,.int .i64 0,u2_0,u2_1,u2_2,u2_3,u2_4,u2_5,u2_6,u2_7],?_,[.int .i64 0,.int .i64 0,u2_0,u2_1,u2_2,u2_3,u2_4,u2_5,u2_6,u2_7],⟨rfl,(Qc.2 ⟨(rfl),(Qc.2 ⟨(rfl),(Qc.2 ⟨k2,(fun _ h=>by cases h)⟩)⟩)⟩)⟩,rfl⟩
 simp only [List.map_toArray,List.map_cons,List.map_nil,e2]
 exact Zco Tryd.underlying79 (zero:=.agg #[.int .i64 0,.int .i64 0,.int .i64 0,.int .i64 0,.int .i64 0,.int .i64 0,.float .f64 0,.int .i64 0,.string ByteArray.empty,.slice none 0 0]) (by kernel_rfl) (places:=[(0,1),(1,1),(2,8)]) (by kernel_rfl) (by kernel_rfl) g.w
theorem Z8j:Zl Tryd.prog 68:=by
 unfold Zl
 kernel_rfl
theorem Zuh:(Tryd.prog.info? 25).map (·.size)=some Zc.sz:=by kernel_rfl
theorem Zwx {N d:Nat} {o:Oper} {uses:Z7} {x0:Operand} {x1:Operand} {x4:Operand} {v0:Int} {v1:ByteArray} {v4:ByteArray} (hop:o.op=.build 37 #[(0,x0),(1,x1),(4,x4)]) (hd:o.dst=some d) (h0:Opd uses x0 ((Kd.int .i64).pd v0)) (h1:Opd uses x1 (Kd.str.pd v1)) (h4:Opd uses x4 (Kd.str.pd v4)):OB Tryd.prog N o uses [(d,Z1.pd { Kind:=v0,Key:=v1,N:=(0:Int),X:=(0:Nat),S:=v4,Make:=(default:Za),Must:=false })] []:=by
 refine Zc1 hop hd fun a g hh=>?_
 obtain ⟨c0,k0,e0⟩:=h0 a g hh
 obtain rfl:=k0
 obtain ⟨c1,k1,e1⟩:=h1 a g hh
 obtain rfl:=k1
 obtain ⟨c4,k4,e4⟩:=h4 a g hh
 obtain rfl:=k4
 refine ⟨.agg #[.int .i64 v0,.string v1,.int .i64 0,.float .f64 0,.string v4,.int .i64 0,.int .i64 0,.int .i64 0,.int .i64 0,.float .f64 0,.int .i64 0,.string ByteArray.empty,.slice none 0 0,.bool false],?_,[.int .i64 v0,.string v1,.int .i64 0,.float .f64 0,.string v4,.int .i64 0,.int .i64 0,.int .i64 0,.int .i64 0,.float .f64 0,.int .i64 0,.string ByteArray.empty,.slice none 0 0,.bool false],⟨rfl,(Qc.2 ⟨rfl,(Qc.2 ⟨rfl,(Qc.2 ⟨(rfl),(Qc.2 ⟨(rfl),(Qc.2 ⟨rfl,(Qc.2 ⟨(Zbr _),(Qc.2 ⟨(rfl),(fun _ h=>by cases h)⟩)⟩)⟩)⟩)⟩)⟩)⟩)⟩,rfl⟩
 simp only [List.map_toArray,List.map_cons,List.map_nil,e0,e1,e4]
 exact Zco Tryd.underlying37 (zero:=.agg #[.int .i64 0,.string ByteArray.empty,.int .i64 0,.float .f64 0,.string ByteArray.empty,.int .i64 0,.int .i64 0,.int .i64 0,.int .i64 0,.float .f64 0,.int .i64 0,.string ByteArray.empty,.slice none 0 0,.bool false]) (by kernel_rfl) (places:=[(0,1),(1,1),(2,1),(3,1),(4,1),(5,8),(13,1)]) (by kernel_rfl) (by kernel_rfl) g.w
theorem Zsw {c:Option Nat} {N j s:Nat} {o:Oper} {uses:Z7} {x z:Operand} {v:Zi} {y0 y:Int} {v0:Zi} {t:Nat} (hT:Ty Tryd.prog t (Kd.int .i64)) (hop:o.op=.store t x z) (hd:o.dst=none) (hs:Opd uses (.tmp s) (Zbp c Z1 j v)) (hx:Opd uses x (Ze0 Z1 j v0 0 (Kd.int .i64) y0)) (hz:Opd uses z ((Kd.int .i64).pd y)):OB Tryd.prog N o uses [(s,Zbp c Z1 j { v with Kind:=y })] [j + 1] :=
 Zfu hT hop hd hs hx hz fun g cs ys hk hy=>by
  have hc:cs.length=14:=hk.1
  have hl:ys.length=1:=(Kd.int .i64).len hy
  exact ⟨by omega,(Zc9 (by omega)).trans hc,(Qc.2 ⟨(by show (Kd.int .i64).K g y (seg (Z3 cs 0 ys) 0 1);rw [Zda (by omega) hl];exact hy),(Qc.2 ⟨(by show Kd.str.K g v.Key (seg (Z3 cs 0 ys) 1 1);rw [Z2 (by omega) (by omega)];exact hk.2 _ (List.mem_of_getElem? (i:=1) rfl)),(Qc.2 ⟨(by show (Kd.int .i64).K g v.N (seg (Z3 cs 0 ys) 2 1);rw [Z2 (by omega) (by omega)];exact hk.2 _ (List.mem_of_getElem? (i:=2) rfl)),(Qc.2 ⟨(by show Kd.flt.K g v.X (seg (Z3 cs 0 ys) 3 1);rw [Z2 (by omega) (by omega)];exact hk.2 _ (List.mem_of_getElem? (i:=3) rfl)),(Qc.2 ⟨(by show Kd.str.K g v.S (seg (Z3 cs 0 ys) 4 1);rw [Z2 (by omega) (by omega)];exact hk.2 _ (List.mem_of_getElem? (i:=4) rfl)),(Qc.2 ⟨(by show Zc.K g v.Make (seg (Z3 cs 0 ys) 5 8);rw [Z2 (by omega) (by omega)];exact hk.2 _ (List.mem_of_getElem? (i:=5) rfl)),(Qc.2 ⟨(by show Kd.bool.K g v.Must (seg (Z3 cs 0 ys) 13 1);rw [Z2 (by omega) (by omega)];exact hk.2 _ (List.mem_of_getElem? (i:=6) rfl)),(fun _ h=>by cases h)⟩)⟩)⟩)⟩)⟩)⟩)⟩)⟩
theorem Z5u {c:Option Nat} {N j s:Nat} {o:Oper} {uses:Z7} {x z:Operand} {v:Zi} {y0 y:Nat} {v0:Zi} {t:Nat} (hT:Ty Tryd.prog t Kd.flt) (hop:o.op=.store t x z) (hd:o.dst=none) (hs:Opd uses (.tmp s) (Zbp c Z1 j v)) (hx:Opd uses x (Ze0 Z1 j v0 3 Kd.flt y0)) (hz:Opd uses z (Kd.flt.pd y)):OB Tryd.prog N o uses [(s,Zbp c Z1 j { v with X:=y })] [j + 1] :=
 Zfu hT hop hd hs hx hz fun g cs ys hk hy=>by
  have hc:cs.length=14:=hk.1
  have hl:ys.length=1:=Kd.flt.len hy
  exact ⟨by omega,(Zc9 (by omega)).trans hc,(Qc.2 ⟨(by show (Kd.int .i64).K g v.Kind (seg (Z3 cs 3 ys) 0 1);rw [Z2 (by omega) (by omega)];exact hk.2 _ (List.mem_of_getElem? (i:=0) rfl)),(Qc.2 ⟨(by show Kd.str.K g v.Key (seg (Z3 cs 3 ys) 1 1);rw [Z2 (by omega) (by omega)];exact hk.2 _ (List.mem_of_getElem? (i:=1) rfl)),(Qc.2 ⟨(by show (Kd.int .i64).K g v.N (seg (Z3 cs 3 ys) 2 1);rw [Z2 (by omega) (by omega)];exact hk.2 _ (List.mem_of_getElem? (i:=2) rfl)),(Qc.2 ⟨(by show Kd.flt.K g y (seg (Z3 cs 3 ys) 3 1);rw [Zda (by omega) hl];exact hy),(Qc.2 ⟨(by show Kd.str.K g v.S (seg (Z3 cs 3 ys) 4 1);rw [Z2 (by omega) (by omega)];exact hk.2 _ (List.mem_of_getElem? (i:=4) rfl)),(Qc.2 ⟨(by show Zc.K g v.Make (seg (Z3 cs 3 ys) 5 8);rw [Z2 (by omega) (by omega)];exact hk.2 _ (List.mem_of_getElem? (i:=5) rfl)),(Qc.2 ⟨(by show Kd.bool.K g v.Must (seg (Z3 cs 3 ys) 13 1);rw [Z2 (by omega) (by omega)];exact hk.2 _ (List.mem_of_getElem? (i:=6) rfl)),(fun _ h=>by cases h)⟩)⟩)⟩)⟩)⟩)⟩)⟩)⟩
theorem Z2v:Zl Tryd.prog 40:=by
 unfold Zl
 kernel_rfl
theorem Z4g {c:Option Nat} {N j s:Nat} {o:Oper} {uses:Z7} {x z:Operand} {v:Zi} {y0 y:Int} {v0:Zi} {t:Nat} (hT:Ty Tryd.prog t (Kd.int .i64)) (hop:o.op=.store t x z) (hd:o.dst=none) (hs:Opd uses (.tmp s) (Zbp c Z1 j v)) (hx:Opd uses x (Ze0 Z1 j v0 2 (Kd.int .i64) y0)) (hz:Opd uses z ((Kd.int .i64).pd y)):OB Tryd.prog N o uses [(s,Zbp c Z1 j { v with N:=y })] [j + 1] :=
 Zfu hT hop hd hs hx hz fun g cs ys hk hy=>by
  have hc:cs.length=14:=hk.1
  have hl:ys.length=1:=(Kd.int .i64).len hy
  exact ⟨by omega,(Zc9 (by omega)).trans hc,(Qc.2 ⟨(by show (Kd.int .i64).K g v.Kind (seg (Z3 cs 2 ys) 0 1);rw [Z2 (by omega) (by omega)];exact hk.2 _ (List.mem_of_getElem? (i:=0) rfl)),(Qc.2 ⟨(by show Kd.str.K g v.Key (seg (Z3 cs 2 ys) 1 1);rw [Z2 (by omega) (by omega)];exact hk.2 _ (List.mem_of_getElem? (i:=1) rfl)),(Qc.2 ⟨(by show (Kd.int .i64).K g y (seg (Z3 cs 2 ys) 2 1);rw [Zda (by omega) hl];exact hy),(Qc.2 ⟨(by show Kd.flt.K g v.X (seg (Z3 cs 2 ys) 3 1);rw [Z2 (by omega) (by omega)];exact hk.2 _ (List.mem_of_getElem? (i:=3) rfl)),(Qc.2 ⟨(by show Kd.str.K g v.S (seg (Z3 cs 2 ys) 4 1);rw [Z2 (by omega) (by omega)];exact hk.2 _ (List.mem_of_getElem? (i:=4) rfl)),(Qc.2 ⟨(by show Zc.K g v.Make (seg (Z3 cs 2 ys) 5 8);rw [Z2 (by omega) (by omega)];exact hk.2 _ (List.mem_of_getElem? (i:=5) rfl)),(Qc.2 ⟨(by show Kd.bool.K g v.Must (seg (Z3 cs 2 ys) 13 1);rw [Z2 (by omega) (by omega)];exact hk.2 _ (List.mem_of_getElem? (i:=6) rfl)),(fun _ h=>by cases h)⟩)⟩)⟩)⟩)⟩)⟩)⟩)⟩
theorem Zpx {N d:Nat} {o:Oper} {uses:Z7} {x0:Operand} {x1:Operand} {v0:Int} {v1:Int} (hop:o.op=.build 96 #[(0,x0),(1,x1)]) (hd:o.dst=some d) (h0:Opd uses x0 ((Kd.int .u64).pd v0)) (h1:Opd uses x1 ((Kd.int .u64).pd v1)):OB Tryd.prog N o uses [(d,Zbb.pd { up:=v0,down:=v1 })] []:=by
 refine Zc1 hop hd fun a g hh=>?_
 obtain ⟨c0,k0,e0⟩:=h0 a g hh
 obtain rfl:=k0
 obtain ⟨c1,k1,e1⟩:=h1 a g hh
 obtain rfl:=k1
 refine ⟨.agg #[.int .u64 v0,.int .u64 v1],?_,[.int .u64 v0,.int .u64 v1],⟨rfl,(Qc.2 ⟨rfl,(Qc.2 ⟨rfl,(fun _ h=>by cases h)⟩)⟩)⟩,rfl⟩
 simp only [List.map_toArray,List.map_cons,List.map_nil,e0,e1]
 exact Zco Tryd.underlying96 (zero:=.agg #[.int .u64 0,.int .u64 0]) (by kernel_rfl) (places:=[(0,1),(1,1)]) (by kernel_rfl) (by kernel_rfl) g.w
theorem Zei:Ty Tryd.prog 96 Zbb:=⟨by kernel_rfl,by kernel_rfl⟩
theorem Zqk {N d:Nat} {o:Oper} {uses:Z7} {x0:Operand} {v0:Int} (hop:o.op=.build 96 #[(0,x0)]) (hd:o.dst=some d) (h0:Opd uses x0 ((Kd.int .u64).pd v0)):OB Tryd.prog N o uses [(d,Zbb.pd { up:=v0,down:=(0:Int) })] []:=by
 refine Zc1 hop hd fun a g hh=>?_
 obtain ⟨c0,k0,e0⟩:=h0 a g hh
 obtain rfl:=k0
 refine ⟨.agg #[.int .u64 v0,.int .u64 0],?_,[.int .u64 v0,.int .u64 0],⟨rfl,(Qc.2 ⟨rfl,(Qc.2 ⟨(rfl),(fun _ h=>by cases h)⟩)⟩)⟩,rfl⟩
 simp only [List.map_toArray,List.map_cons,List.map_nil,e0]
 exact Zco Tryd.underlying96 (zero:=.agg #[.int .u64 0,.int .u64 0]) (by kernel_rfl) (places:=[(0,1),(1,1)]) (by kernel_rfl) (by kernel_rfl) g.w
theorem Zwa {N d:Nat} {o:Oper} {uses:Z7}   (hop:o.op=.build 96 #[]) (hd:o.dst=some d) :OB Tryd.prog N o uses [(d,Zbb.pd { up:=(0:Int),down:=(0:Int) })] []:=by
 refine Zc1 hop hd fun a g hh=>?_
 refine ⟨.agg #[.int .u64 0,.int .u64 0],?_,[.int .u64 0,.int .u64 0],⟨rfl,(Qc.2 ⟨(rfl),(Qc.2 ⟨(rfl),(fun _ h=>by cases h)⟩)⟩)⟩,rfl⟩
 simp only [List.map_toArray,List.map_cons,List.map_nil,List.map_nil]
 exact Zco Tryd.underlying96 (zero:=.agg #[.int .u64 0,.int .u64 0]) (by kernel_rfl) (places:=[(0,1),(1,1)]) (by kernel_rfl) (by kernel_rfl) g.w
structure Zeu where
 r:Za
 by_:SlV
def Zqp:List (Kd.FK Zeu):=[⟨_,Zc,0,fun x:Zeu=>x.r⟩,
 ⟨_,Kd.raw,8,fun x:Zeu=>x.by_⟩]
def Zbs:Kd Zeu:=Kd.struct 9 Zqp (by rfl)
def Zbu (x:Zx) (s:SlV):Zeu:=⟨x.r,s⟩
theorem Zql {x:Zx} {g:G} {cs ys:List Value} {s0 s1:SlV} (hk:Zbs.K g (Zbu x s0) cs) (hy:Kd.raw.K g s1 ys):8 + ys.length ≤ cs.length ∧ Zbs.K g (Zbu x s1) (Z3 cs 8 ys):=by
 have hc:cs.length=9:=hk.1
 have hl:ys.length=1:=Kd.raw.len hy
 exact ⟨by omega,(Zc9 (by omega)).trans hc,(Qc.2 ⟨(by show Zc.K g x.r (seg (Z3 cs 8 ys) 0 8);rw [Z2 (by omega) (by omega)];exact hk.2 _ (List.mem_of_getElem? (i:=0) rfl)),(Qc.2 ⟨(by show Kd.raw.K g s1 (seg (Z3 cs 8 ys) 8 1);rw [Zda (by omega) hl];exact hy),(fun _ h=>by cases h)⟩)⟩)⟩
theorem Z14:Fld Tryd.prog 94 0 Zbs Zc (fun x:Zeu=>x.r):=Fld.of ⟨_,Zc,0,fun x:Zeu=>x.r⟩ (List.mem_of_getElem? (i:=0) rfl) 0 rfl (by kernel_rfl) (by decide)
theorem Zmf:Fld Tryd.prog 94 1 Zbs Kd.raw (fun x:Zeu=>x.by_):=Fld.of ⟨_,Kd.raw,8,fun x:Zeu=>x.by_⟩ (List.mem_of_getElem? (i:=1) rfl) 8 rfl (by kernel_rfl) (by decide)
theorem Zpm:Ty Tryd.prog 92 Kd.raw:=⟨by kernel_rfl,by kernel_rfl⟩
theorem Zy6:Ty Tryd.prog 92 Zbb.sl:=⟨by kernel_rfl,by kernel_rfl⟩
abbrev Zcd:Zx → List Zw:=fun x=>x.by_
theorem Zm8:Zuv Zbs Zbu Zcd Zbb Zf3:=fun g x s cs h hr=>⟨h.1,(Qc.2 ⟨(h.2 _ (List.mem_of_getElem? (i:=0) rfl)),(Qc.2 ⟨(Z6s (h.2 _ (List.mem_of_getElem? (i:=1) rfl)) hr),(fun _ h=>by cases h)⟩)⟩)⟩
abbrev Zcz:Ob Zx:=obS Zbs Zbu Zcd Zbb 96
theorem Zyo:Zl Tryd.prog 10:=by
 unfold Zl
 kernel_rfl
theorem Z31 {N d:Nat} {o:Oper} {uses:Z7} {x0:Operand} {v0:Za} (hop:o.op=.build 94 #[(0,x0)]) (hd:o.dst=some d) (h0:Opd uses x0 (Zc.pd v0)):OB Tryd.prog N o uses [(d,Zbs.pd { r:=v0,by_:=((none,0,0):SlV) })] []:=by
 refine Zc1 hop hd fun a g hh=>?_
 obtain ⟨c0,k0,e0⟩:=h0 a g hh
 obtain ⟨u0_0,u0_1,u0_2,u0_3,u0_4,u0_5,u0_6,u0_7,rfl⟩:=Z3k (Zc.len k0)
 refine ⟨.agg #[u0_0,u0_1,u0_2,u0_3,u0_4,u0_5,u0_6,u0_7,.slice none 0 0],?_,[u0_0,u0_1,u0_2,u0_3,u0_4,u0_5,u0_6,u0_7,.slice none 0 0],⟨rfl,(Qc.2 ⟨k0,(Qc.2 ⟨(rfl),(fun _ h=>by cases h)⟩)⟩)⟩,rfl⟩
 simp only [List.map_toArray,List.map_cons,List.map_nil,e0]
 exact Zco Tryd.underlying94 (zero:=.agg #[.int .i64 0,.int .i64 0,.int .i64 0,.int .i64 0,.float .f64 0,.int .i64 0,.string ByteArray.empty,.slice none 0 0,.slice none 0 0]) (by kernel_rfl) (places:=[(0,8),(8,1)]) (by kernel_rfl) (by kernel_rfl) g.w
theorem Z7u:Zl Tryd.prog 53:=by
 unfold Zl
 kernel_rfl
theorem Zj1:Fld Tryd.prog 96 0 Zbb (Kd.int .u64) (fun x:Zw=>x.up):=Fld.of ⟨_,(Kd.int .u64),0,fun x:Zw=>x.up⟩ (List.mem_of_getElem? (i:=0) rfl) 0 rfl (by kernel_rfl) (by decide)
theorem Zib:Ty Tryd.prog 62 (Kd.int .u64):=⟨by kernel_rfl,by kernel_rfl⟩
theorem Z27:Zl Tryd.prog 54:=by
 unfold Zl
 kernel_rfl
theorem Zla:Fld Tryd.prog 96 1 Zbb (Kd.int .u64) (fun x:Zw=>x.down):=Fld.of ⟨_,(Kd.int .u64),1,fun x:Zw=>x.down⟩ (List.mem_of_getElem? (i:=1) rfl) 1 rfl (by kernel_rfl) (by decide)
theorem Z28:TE Tryd.prog 92 96 Zbb 16:=TE.of Tryd.underlying92 (by kernel_rfl) (by decide) (by decide)
theorem Zsu:Fld Tryd.prog 94 1 Zf3 Zbb.sl (fun x:Zx=>x.by_):=Fld.of ⟨_,Zbb.sl,8,fun x:Zx=>x.by_⟩ (List.mem_of_getElem? (i:=1) rfl) 8 rfl (by kernel_rfl) (by decide)
theorem Zum:(Tryd.prog.info? 96).map (·.size)=some Zbb.sz:=by kernel_rfl
theorem Zxg {N d:Nat} {o:Oper} {uses:Z7} {x1:Operand} {v1:Int} (hop:o.op=.build 96 #[(1,x1)]) (hd:o.dst=some d) (h1:Opd uses x1 ((Kd.int .u64).pd v1)):OB Tryd.prog N o uses [(d,Zbb.pd { up:=(0:Int),down:=v1 })] []:=by
 refine Zc1 hop hd fun a g hh=>?_
 obtain ⟨c1,k1,e1⟩:=h1 a g hh
 obtain rfl:=k1
 refine ⟨.agg #[.int .u64 0,.int .u64 v1],?_,[.int .u64 0,.int .u64 v1],⟨rfl,(Qc.2 ⟨(rfl),(Qc.2 ⟨rfl,(fun _ h=>by cases h)⟩)⟩)⟩,rfl⟩
 simp only [List.map_toArray,List.map_cons,List.map_nil,e1]
 exact Zco Tryd.underlying96 (zero:=.agg #[.int .u64 0,.int .u64 0]) (by kernel_rfl) (places:=[(0,1),(1,1)]) (by kernel_rfl) (by kernel_rfl) g.w
theorem Z4n:Fld Tryd.prog 94 0 Zf3 Zc (fun x:Zx=>x.r):=Fld.of ⟨_,Zc,0,fun x:Zx=>x.r⟩ (List.mem_of_getElem? (i:=0) rfl) 0 rfl (by kernel_rfl) (by decide)
theorem Zs2:∀ (g g':G) (x:Zw) (cs:List Value),Zbb.K g x cs → Zbb.K g' x cs:=fun g g' x cs h=>⟨h.1,(Qc.2 ⟨(h.2 _ (List.mem_of_getElem? (i:=0) rfl)),(Qc.2 ⟨(h.2 _ (List.mem_of_getElem? (i:=1) rfl)),(fun _ h=>by cases h)⟩)⟩)⟩
theorem Z8r:(Tryd.prog.info? 37).map (·.size)=some Z1.sz:=by kernel_rfl
theorem Z3c:Zl Tryd.prog 12:=by
 unfold Zl
 kernel_rfl
theorem Z7j:Zl Tryd.prog 59:=by
 unfold Zl
 kernel_rfl
theorem Z5n {c:Option Nat} {N j s:Nat} {o:Oper} {uses:Z7} {x z:Operand} {v:Zw} {y0 y:Int} {v0:Zw} {t:Nat} (hT:Ty Tryd.prog t (Kd.int .u64)) (hop:o.op=.store t x z) (hd:o.dst=none) (hs:Opd uses (.tmp s) (Zbp c Zbb j v)) (hx:Opd uses x (Ze0 Zbb j v0 0 (Kd.int .u64) y0)) (hz:Opd uses z ((Kd.int .u64).pd y)):OB Tryd.prog N o uses [(s,Zbp c Zbb j { v with up:=y })] [j + 1] :=
 Zfu hT hop hd hs hx hz fun g cs ys hk hy=>by
  have hc:cs.length=2:=hk.1
  have hl:ys.length=1:=(Kd.int .u64).len hy
  exact ⟨by omega,(Zc9 (by omega)).trans hc,(Qc.2 ⟨(by show (Kd.int .u64).K g y (seg (Z3 cs 0 ys) 0 1);rw [Zda (by omega) hl];exact hy),(Qc.2 ⟨(by show (Kd.int .u64).K g v.down (seg (Z3 cs 0 ys) 1 1);rw [Z2 (by omega) (by omega)];exact hk.2 _ (List.mem_of_getElem? (i:=1) rfl)),(fun _ h=>by cases h)⟩)⟩)⟩
theorem Z4v {c:Option Nat} {N j s:Nat} {o:Oper} {uses:Z7} {x z:Operand} {v:Zw} {y0 y:Int} {v0:Zw} {t:Nat} (hT:Ty Tryd.prog t (Kd.int .u64)) (hop:o.op=.store t x z) (hd:o.dst=none) (hs:Opd uses (.tmp s) (Zbp c Zbb j v)) (hx:Opd uses x (Ze0 Zbb j v0 1 (Kd.int .u64) y0)) (hz:Opd uses z ((Kd.int .u64).pd y)):OB Tryd.prog N o uses [(s,Zbp c Zbb j { v with down:=y })] [j + 1] :=
 Zfu hT hop hd hs hx hz fun g cs ys hk hy=>by
  have hc:cs.length=2:=hk.1
  have hl:ys.length=1:=(Kd.int .u64).len hy
  exact ⟨by omega,(Zc9 (by omega)).trans hc,(Qc.2 ⟨(by show (Kd.int .u64).K g v.up (seg (Z3 cs 1 ys) 0 1);rw [Z2 (by omega) (by omega)];exact hk.2 _ (List.mem_of_getElem? (i:=0) rfl)),(Qc.2 ⟨(by show (Kd.int .u64).K g y (seg (Z3 cs 1 ys) 1 1);rw [Zda (by omega) hl];exact hy),(fun _ h=>by cases h)⟩)⟩)⟩
theorem Zw2 {N d:Nat} {o:Oper} {uses:Z7} {x0:Operand} {x3:Operand} {x1:Operand} {v0:Int} {v3:Int} {v1:Int} (hop:o.op=.build 25 #[(0,x0),(3,x3),(1,x1)]) (hd:o.dst=some d) (h0:Opd uses x0 ((Kd.int .i64).pd v0)) (h3:Opd uses x3 ((Kd.int .i64).pd v3)) (h1:Opd uses x1 ((Kd.int .i64).pd v1)):OB Tryd.prog N o uses [(d,Zc.pd { Kind:=v0,Num:=v1,Low:=(0:Int),High:=v3,Real:=(0:Nat),Cap:=(0:Int),Text:=ByteArray.empty,List:=([]:List Zd) })] []:=by
 refine Zc1 hop hd fun a g hh=>?_
 obtain ⟨c0,k0,e0⟩:=h0 a g hh
 obtain rfl:=k0
 obtain ⟨c1,k1,e1⟩:=h1 a g hh
 obtain rfl:=k1
 obtain ⟨c3,k3,e3⟩:=h3 a g hh
 obtain rfl:=k3
 refine ⟨.agg #[.int .i64 v0,.int .i64 v1,.int .i64 0,.int .i64 v3,.float .f64 0,.int .i64 0,.string ByteArray.empty,.slice none 0 0],?_,[.int .i64 v0,.int .i64 v1,.int .i64 0,.int .i64 v3,.float .f64 0,.int .i64 0,.string ByteArray.empty,.slice none 0 0],⟨rfl,(Qc.2 ⟨rfl,(Qc.2 ⟨rfl,(Qc.2 ⟨(rfl),(Qc.2 ⟨rfl,(Qc.2 ⟨(rfl),(Qc.2 ⟨(rfl),(Qc.2 ⟨(rfl),(Qc.2 ⟨(⟨none,0,rfl,Nat.le_refl _,Nat.zero_le _,.inl rfl⟩),(fun _ h=>by cases h)⟩)⟩)⟩)⟩)⟩)⟩)⟩)⟩)⟩,rfl⟩
 simp only [List.map_toArray,List.map_cons,List.map_nil,e0,e3,e1]
 exact Zco Tryd.underlying25 (zero:=.agg #[.int .i64 0,.int .i64 0,.int .i64 0,.int .i64 0,.float .f64 0,.int .i64 0,.string ByteArray.empty,.slice none 0 0]) (by kernel_rfl) (places:=[(0,1),(1,1),(2,1),(3,1),(4,1),(5,1),(6,1),(7,1)]) (by kernel_rfl) (by kernel_rfl) g.w
theorem Z3y:Zl Tryd.prog 24:=by
 unfold Zl
 kernel_rfl
theorem Z3r:Zl Tryd.prog 27:=by
 unfold Zl
 kernel_rfl
theorem Zwo {N d:Nat} {o:Oper} {uses:Z7} {x0:Operand} {x1:Operand} {x2:Operand} {v0:Int} {v1:ByteArray} {v2:Int} (hop:o.op=.build 37 #[(0,x0),(1,x1),(2,x2)]) (hd:o.dst=some d) (h0:Opd uses x0 ((Kd.int .i64).pd v0)) (h1:Opd uses x1 (Kd.str.pd v1)) (h2:Opd uses x2 ((Kd.int .i64).pd v2)):OB Tryd.prog N o uses [(d,Z1.pd { Kind:=v0,Key:=v1,N:=v2,X:=(0:Nat),S:=ByteArray.empty,Make:=(default:Za),Must:=false })] []:=by
 refine Zc1 hop hd fun a g hh=>?_
 obtain ⟨c0,k0,e0⟩:=h0 a g hh
 obtain rfl:=k0
 obtain ⟨c1,k1,e1⟩:=h1 a g hh
 obtain rfl:=k1
 obtain ⟨c2,k2,e2⟩:=h2 a g hh
 obtain rfl:=k2
 refine ⟨.agg #[.int .i64 v0,.string v1,.int .i64 v2,.float .f64 0,.string ByteArray.empty,.int .i64 0,.int .i64 0,.int .i64 0,.int .i64 0,.float .f64 0,.int .i64 0,.string ByteArray.empty,.slice none 0 0,.bool false],?_,[.int .i64 v0,.string v1,.int .i64 v2,.float .f64 0,.string ByteArray.empty,.int .i64 0,.int .i64 0,.int .i64 0,.int .i64 0,.float .f64 0,.int .i64 0,.string ByteArray.empty,.slice none 0 0,.bool false],⟨rfl,(Qc.2 ⟨rfl,(Qc.2 ⟨rfl,(Qc.2 ⟨rfl,(Qc.2 ⟨(rfl),(Qc.2 ⟨(rfl),(Qc.2 ⟨(Zbr _),(Qc.2 ⟨(rfl),(fun _ h=>by cases h)⟩)⟩)⟩)⟩)⟩)⟩)⟩)⟩,rfl⟩
 simp only [List.map_toArray,List.map_cons,List.map_nil,e0,e1,e2]
 exact Zco Tryd.underlying37 (zero:=.agg #[.int .i64 0,.string ByteArray.empty,.int .i64 0,.float .f64 0,.string ByteArray.empty,.int .i64 0,.int .i64 0,.int .i64 0,.int .i64 0,.float .f64 0,.int .i64 0,.string ByteArray.empty,.slice none 0 0,.bool false]) (by kernel_rfl) (places:=[(0,1),(1,1),(2,1),(3,1),(4,1),(5,8),(13,1)]) (by kernel_rfl) (by kernel_rfl) g.w
theorem Zyk:TE Tryd.prog 60 37 Z1 152:=TE.of Tryd.underlying60 (by kernel_rfl) (by decide) (by decide)
theorem Zy0:Zl Tryd.prog 28:=by
 unfold Zl
 kernel_rfl
theorem Z23:Zl Tryd.prog 16:=by
 unfold Zl
 kernel_rfl
theorem Z3a:TE Tryd.prog 33 25 Zc 88:=TE.of Tryd.underlying33 (by kernel_rfl) (by decide) (by decide)
theorem Z3p:Zl Tryd.prog 15:=by
 unfold Zl
 kernel_rfl
theorem Z3w:Zl Tryd.prog 30:=by
 unfold Zl
 kernel_rfl
theorem Zr5:(Tryd.prog.info? 39).map (·.size)=some Z9.sz:=by kernel_rfl
theorem Zoe:Ty Tryd.prog 39 Z9:=⟨by kernel_rfl,by kernel_rfl⟩
theorem Zp5:Fld Tryd.prog 39 1 Z9 Z1 (fun x:Zu=>x.Act):=Fld.of ⟨_,Z1,1,fun x:Zu=>x.Act⟩ (List.mem_of_getElem? (i:=1) rfl) 1 rfl (by kernel_rfl) (by decide)
theorem Z8s:Zl Tryd.prog 31:=by
 unfold Zl
 kernel_rfl
theorem Zui:Zl Tryd.prog 72:=by
 unfold Zl
 kernel_rfl
theorem Z3h:Zl Tryd.prog 80:=by
 unfold Zl
 kernel_rfl
theorem Zsd:Zl Tryd.prog 63:=by
 unfold Zl
 kernel_rfl
theorem Zqd:Zl Tryd.prog 36:=by
 unfold Zl
 kernel_rfl
theorem Z22:Zl Tryd.prog 71:=by
 unfold Zl
 kernel_rfl
theorem Zzq:TE Tryd.prog 122 9 Kd.str 16:=TE.of Tryd.underlying122 (by kernel_rfl) (by decide) (by decide)
theorem sz_9:(Tryd.prog.info? 9).map (·.size)=some Kd.str.sz:=by kernel_rfl
theorem Zyt:Zl Tryd.prog 46:=by
 unfold Zl
 kernel_rfl
theorem Z2w:Zl Tryd.prog 74:=by
 unfold Zl
 kernel_rfl
theorem Z7g:Zl Tryd.prog 45:=by
 unfold Zl
 kernel_rfl
theorem Z8g:Zl Tryd.prog 44:=by
 unfold Zl
 kernel_rfl
theorem Z8h:Zl Tryd.prog 47:=by
 unfold Zl
 kernel_rfl
theorem Zy8:Zl Tryd.prog 19:=by
 unfold Zl
 kernel_rfl
theorem Z6i:TE Tryd.prog 110 3 (Kd.int .i64) 8:=TE.of Tryd.underlying110 (by kernel_rfl) (by decide) (by decide)
theorem sz_3:(Tryd.prog.info? 3).map (·.size)=some (Kd.int .i64).sz:=by kernel_rfl
theorem Zx9:Zl Tryd.prog 35:=by
 unfold Zl
 kernel_rfl
theorem en_8:Zl Tryd.prog 8:=by
 unfold Zl
 kernel_rfl
theorem en_9:Zl Tryd.prog 9:=by
 unfold Zl
 kernel_rfl
theorem Zzc:Zl Tryd.prog 14:=by
 unfold Zl
 kernel_rfl
theorem Z8u:Zl Tryd.prog 75:=by
 unfold Zl
 kernel_rfl
theorem Zyc:Zl Tryd.prog 48:=by
 unfold Zl
 kernel_rfl
theorem Zul:Zl Tryd.prog 69:=by
 unfold Zl
 kernel_rfl
theorem Z79:Zl Tryd.prog 99:=by
 unfold Zl
 kernel_rfl
theorem Zk9:Fld Tryd.prog 79 0 Zt (Kd.int .i64) (fun x:Ze=>x.Code):=Fld.of ⟨_,(Kd.int .i64),0,fun x:Ze=>x.Code⟩ (List.mem_of_getElem? (i:=0) rfl) 0 rfl (by kernel_rfl) (by decide)
theorem Zl9 {c:Option Nat} {N j s:Nat} {o:Oper} {uses:Z7} {x z:Operand} {v:Ze} {y0 y:Int} {v0:Ze} {t:Nat} (hT:Ty Tryd.prog t (Kd.int .i64)) (hop:o.op=.store t x z) (hd:o.dst=none) (hs:Opd uses (.tmp s) (Zbp c Zt j v)) (hx:Opd uses x (Ze0 Zt j v0 0 (Kd.int .i64) y0)) (hz:Opd uses z ((Kd.int .i64).pd y)):OB Tryd.prog N o uses [(s,Zbp c Zt j { v with Code:=y })] [j + 1] :=
 Zfu hT hop hd hs hx hz fun g cs ys hk hy=>by
  have hc:cs.length=10:=hk.1
  have hl:ys.length=1:=(Kd.int .i64).len hy
  exact ⟨by omega,(Zc9 (by omega)).trans hc,(Qc.2 ⟨(by show (Kd.int .i64).K g y (seg (Z3 cs 0 ys) 0 1);rw [Zda (by omega) hl];exact hy),(Qc.2 ⟨(by show (Kd.int .i64).K g v.Num (seg (Z3 cs 0 ys) 1 1);rw [Z2 (by omega) (by omega)];exact hk.2 _ (List.mem_of_getElem? (i:=1) rfl)),(Qc.2 ⟨(by show Zc.K g v.Rec (seg (Z3 cs 0 ys) 2 8);rw [Z2 (by omega) (by omega)];exact hk.2 _ (List.mem_of_getElem? (i:=2) rfl)),(fun _ h=>by cases h)⟩)⟩)⟩)⟩
theorem Zom:Ty Tryd.prog 51 (Kd.int .i64):=⟨by kernel_rfl,by kernel_rfl⟩
theorem Z8a:Zl Tryd.prog 42:=by
 unfold Zl
 kernel_rfl
theorem Z8t:Zl Tryd.prog 43:=by
 unfold Zl
 kernel_rfl
theorem Zzn:Zl Tryd.prog 101:=by
 unfold Zl
 kernel_rfl
theorem Z0s:Zl Tryd.prog 100:=by
 unfold Zl
 kernel_rfl
theorem Z0t:Zl Tryd.prog 102:=by
 unfold Zl
 kernel_rfl
theorem Zzj:Zl Tryd.prog 103:=by
 unfold Zl
 kernel_rfl
theorem Z7f:Zl Tryd.prog 22:=by
 unfold Zl
 kernel_rfl
theorem Z7n:Zl Tryd.prog 70:=by
 unfold Zl
 kernel_rfl
theorem Z78:Zl Tryd.prog 41:=by
 unfold Zl
 kernel_rfl
theorem Z2q:TE Tryd.prog 40 39 Z9 160:=TE.of Tryd.underlying40 (by kernel_rfl) (by decide) (by decide)
theorem Znt:Fld Tryd.prog 39 0 Z9 (Kd.int .i64) (fun x:Zu=>x.Worker):=Fld.of ⟨_,(Kd.int .i64),0,fun x:Zu=>x.Worker⟩ (List.mem_of_getElem? (i:=0) rfl) 0 rfl (by kernel_rfl) (by decide)
theorem Z74:Zl Tryd.prog 20:=by
 unfold Zl
 kernel_rfl
theorem Zzf:Zl Tryd.prog 21:=by
 unfold Zl
 kernel_rfl
theorem Zt9 (a0:Int) {r:Zby} (h:Zdx a0=some r):FnOk Tryd.prog 49 [(pInt .i64 a0)] (Zcr.pd r):=by
 have H0:=h
 unfold Zdx at H0
 clear h
 refine Zbt (N:=24) Tryd.func49 rfl rfl (Qe rfl) rfl rfl (fun a g0 hst hb=>?_)
 refine r_s (T:=[⟨[],[(2,(pBox Zcr 2 (default:Zby)))],[3],[],[2]⟩]) (F:=[.o 0,.p 0 0]) hst hb Zb
  (o_p rfl (Zbm (zs:=[.bool false,.bool false,.bool false,.bool false,.bool false]) (by kernel_rfl) (fun g=>Zp2 g) rfl rfl)<|o_n) (fun a g hst hb=>?_)
 refine wp_seq ?_
 refine r_s (T:=[⟨[.o 0],_,[],[],[3]⟩]) (F:=[.o 1,.p 0 0]) hst hb Zb
  (Qm rfl u_0<|o_n) (fun a g hst hb=>?_)
 refine wp_block ?_
 refine r_s (T:=[⟨[.o 1],_,[],[],[5]⟩,⟨[.p 0 0],_,[],[0],[4]⟩]) (F:=[.o 0,.o 1,.p 1 0]) hst hb Zb
  (o_p rfl (Z8 rfl rfl u_0 c_i)<|Qa rfl u_0<|o_n) (fun a g hst hb=>?_)
 refine wp_cond_split (hst.bool 2 rfl) (fun hc1=>?_) (fun hc1=>?_)
 ·replace H0:=Zn hc1 H0
  refine r_s (L:=[(2,_)]) (T:=[⟨[],_,[],[],[6]⟩,⟨[.p 0 0,.o 0],_,[3],[0],[2]⟩]) (F:=[.p 1 0]) (hst.pick [0] rfl) hb Zb
   (o_p rfl (Z32 rfl rfl c_b)<|o_p rfl (Z6 Zjc rfl rfl u_1 u_0)<|o_n) (fun a g hst hb=>?_)
  refine wp_ret ?_
  refine Zv ?_
  refine Zk ?_
  obtain rfl:=Option.some.inj H0
  obtain ⟨u0,hu0,hq0⟩:=Zbh (P:=Tryd.prog) Zjc (hst.at 0 rfl)
  exact Zz rfl hst hb hu0 hq0
 ·replace H0:=Zo hc1 H0
  refine wp_seq ?_
  refine r_s (L:=[(2,_),(3,_)]) (T:=[⟨[.o 1],_,[],[],[8]⟩,⟨[.p 0 0],_,[],[0],[7]⟩]) (F:=[.o 0,.o 1,.p 1 0]) (hst.pick [0,1] rfl) hb Zb
   (o_p rfl (Z8 rfl rfl u_0 c_i)<|Qa rfl u_0<|o_n) (fun a g hst hb=>?_)
  refine Zbz (fun a w=>∃ (j3:Bool) (g:G),w=g.w ∧ St 24 [(2,(pBox Zcr 2 (default:Zby))),(3,(pInt .i64 a0)),(7,(Zba j3))] a g ∧ Base g0 g ∧ Zi6 a0 j3=some r) ?_ ?_
  ·rintro a w ⟨j3,g,rfl,hst,hb,H0⟩
   unfold Zi6 at H0
   refine Zm ?_
   refine wp_cond_split (hst.bool 2 rfl) (fun hc4=>?_) (fun hc4=>?_)
   ·replace H0:=Zn hc4 H0
    refine r_s (L:=[(2,_)]) (T:=[⟨[],_,[],[],[10]⟩,⟨[.p 0 0,.o 0],_,[3],[0],[2]⟩]) (F:=[.p 1 0]) (hst.pick [0] rfl) hb Zb
     (o_p rfl (Z5k rfl rfl c_b)<|o_p rfl (Z6 Zjc rfl rfl u_1 u_0)<|o_n) (fun a g hst hb=>?_)
    refine wp_ret ?_
    refine Zv ?_
    refine Zk ?_
    obtain rfl:=Option.some.inj H0
    obtain ⟨u0,hu0,hq0⟩:=Zbh (P:=Tryd.prog) Zjc (hst.at 0 rfl)
    exact Zz rfl hst hb hu0 hq0
   ·replace H0:=Zo hc4 H0
    refine r_s (L:=[(2,_),(3,_)]) (T:=[⟨[.o 1],_,[],[],[12]⟩,⟨[.p 0 0],_,[],[0],[11]⟩]) (F:=[.o 0,.o 1,.p 1 0]) (hst.pick [0,1] rfl) hb Zb
     (o_p rfl (Z8 rfl rfl u_0 c_i)<|Qa rfl u_0<|o_n) (fun a g hst hb=>?_)
    refine wp_cond_split (hst.bool 2 rfl) (fun hc5=>?_) (fun hc5=>?_)
    ·replace H0:=Zn hc5 H0
     refine r_s (L:=[(2,_)]) (T:=[⟨[],_,[],[],[13]⟩,⟨[.p 0 0,.o 0],_,[3],[0],[2]⟩]) (F:=[.p 1 0]) (hst.pick [0] rfl) hb Zb
      (o_p rfl (Z0w rfl rfl c_b c_b)<|o_p rfl (Z6 Zjc rfl rfl u_1 u_0)<|o_n) (fun a g hst hb=>?_)
     refine wp_ret ?_
     refine Zv ?_
     refine Zk ?_
     obtain rfl:=Option.some.inj H0
     obtain ⟨u0,hu0,hq0⟩:=Zbh (P:=Tryd.prog) Zjc (hst.at 0 rfl)
     exact Zz rfl hst hb hu0 hq0
    ·replace H0:=Zo hc5 H0
     refine wp_seq ?_
     refine r_s (L:=[(2,_),(3,_)]) (T:=[⟨[.o 1],_,[],[],[15]⟩,⟨[.p 0 0],_,[],[0],[14]⟩]) (F:=[.o 0,.o 1,.p 1 0]) (hst.pick [0,1] rfl) hb Zb
      (o_p rfl (Z8 rfl rfl u_0 c_i)<|Qa rfl u_0<|o_n) (fun a g hst hb=>?_)
     refine Zbz (fun a w=>∃ (j8:Bool) (g:G),w=g.w ∧ St 24 [(2,(pBox Zcr 2 (default:Zby))),(3,(pInt .i64 a0)),(14,(Zba j8))] a g ∧ Base g0 g ∧ Zhm a0 j8=some r) ?_ ?_
     ·rintro a w ⟨j8,g,rfl,hst,hb,H0⟩
      unfold Zhm at H0
      refine Zm ?_
      refine wp_cond_split (hst.bool 2 rfl) (fun hc9=>?_) (fun hc9=>?_)
      ·replace H0:=Zn hc9 H0
       refine r_s (L:=[(2,_)]) (T:=[⟨[],_,[],[],[18]⟩,⟨[.p 0 0,.o 0],_,[3],[0],[2]⟩]) (F:=[.p 1 0]) (hst.pick [0] rfl) hb Zb
        (o_p rfl (Z4k rfl rfl c_b)<|o_p rfl (Z6 Zjc rfl rfl u_1 u_0)<|o_n) (fun a g hst hb=>?_)
       refine wp_ret ?_
       refine Zv ?_
       refine Zk ?_
       obtain rfl:=Option.some.inj H0
       obtain ⟨u0,hu0,hq0⟩:=Zbh (P:=Tryd.prog) Zjc (hst.at 0 rfl)
       exact Zz rfl hst hb hu0 hq0
      ·replace H0:=Zo hc9 H0
       refine wp_seq ?_
       refine r_s (L:=[(2,_),(3,_)]) (T:=[⟨[.o 1],_,[],[],[20]⟩,⟨[.p 0 0],_,[],[0],[19]⟩]) (F:=[.o 0,.o 1,.p 1 0]) (hst.pick [0,1] rfl) hb Zb
        (o_p rfl (Z8 rfl rfl u_0 c_i)<|Qa rfl u_0<|o_n) (fun a g hst hb=>?_)
       refine Zbz (fun a w=>∃ (j11:Bool) (g:G),w=g.w ∧ St 24 [(2,(pBox Zcr 2 (default:Zby))),(19,(Zba j11))] a g ∧ Base g0 g ∧ Zi1 j11=some r) ?_ ?_
       ·rintro a w ⟨j11,g,rfl,hst,hb,H0⟩
        unfold Zi1 at H0
        refine Zm ?_
        refine wp_cond_split (hst.bool 1 rfl) (fun hc12=>?_) (fun hc12=>?_)
        ·replace H0:=Zn hc12 H0
         refine r_s (L:=[(2,_)]) (T:=[⟨[],_,[],[],[22]⟩,⟨[.p 0 0,.o 0],_,[3],[0],[2]⟩]) (F:=[.p 1 0]) (hst.pick [0] rfl) hb Zb
          (o_p rfl (Z5m rfl rfl c_b)<|o_p rfl (Z6 Zjc rfl rfl u_1 u_0)<|o_n) (fun a g hst hb=>?_)
         refine wp_ret ?_
         refine Zv ?_
         refine Zk ?_
         obtain rfl:=Option.some.inj H0
         obtain ⟨u0,hu0,hq0⟩:=Zbh (P:=Tryd.prog) Zjc (hst.at 0 rfl)
         exact Zz rfl hst hb hu0 hq0
        ·replace H0:=Zo hc12 H0
         refine wp_skip ?_
         refine Z4 ?_
         refine Zm ?_
         refine r_s (L:=[(2,_)]) (T:=[⟨[],_,[],[],[23]⟩,⟨[.p 0 0,.o 0],_,[3],[0],[2]⟩]) (F:=[.p 1 0]) (hst.pick [0] rfl) hb Zb
          (o_p rfl (Z56 rfl rfl )<|o_p rfl (Z6 Zjc rfl rfl u_1 u_0)<|o_n) (fun a g hst hb=>?_)
         refine wp_ret ?_
         obtain rfl:=Option.some.inj H0
         obtain ⟨u0,hu0,hq0⟩:=Zbh (P:=Tryd.prog) Zjc (hst.at 0 rfl)
         exact Zz rfl hst hb hu0 hq0
       ·refine wp_cond_split (hst.bool 2 rfl) (fun hc10=>?_) (fun hc10=>?_)
        ·replace H0:=Zn hc10 H0
         refine wp_skip ?_
         exact ⟨(a0 == (8:Int)),g,rfl,(hst.pick [0,2] rfl),hb,H0⟩
        ·replace H0:=Zo hc10 H0
         refine r_g (L:=[(2,_),(3,_)]) (T:=[⟨[.o 1],_,[],[],[21]⟩,⟨[.p 0 0],_,[],[0],[19]⟩]) (F:=[.o 0,.p 1 0]) (hst.pick [0,1] rfl) hb Zb
          (o_p rfl (Z8 rfl rfl u_0 c_i)<|Qa rfl u_0<|o_n) (fun a g hst hb=>?_)
         exact ⟨(a0 == (9:Int)),g,rfl,(hst.pick [0,1] rfl),hb,H0⟩
     ·refine wp_cond_split (hst.bool 2 rfl) (fun hc6=>?_) (fun hc6=>?_)
      ·replace H0:=Zn hc6 H0
       refine wp_skip ?_
       exact ⟨(a0 == (5:Int)),g,rfl,(hst.pick [0,1,2] rfl),hb,H0⟩
      ·replace H0:=Zo hc6 H0
       refine r_s (L:=[(2,_),(3,_)]) (T:=[⟨[.o 1],_,[],[],[16]⟩,⟨[.p 0 0],_,[],[0],[14]⟩]) (F:=[.o 0,.o 1,.p 1 0]) (hst.pick [0,1] rfl) hb Zb
        (o_p rfl (Z8 rfl rfl u_0 c_i)<|Qa rfl u_0<|o_n) (fun a g hst hb=>?_)
       refine wp_cond_split (hst.bool 2 rfl) (fun hc7=>?_) (fun hc7=>?_)
       ·replace H0:=Zn hc7 H0
        refine wp_skip ?_
        exact ⟨(a0 == (6:Int)),g,rfl,(hst.pick [0,1,2] rfl),hb,H0⟩
       ·replace H0:=Zo hc7 H0
        refine r_g (L:=[(2,_),(3,_)]) (T:=[⟨[.o 1],_,[],[],[17]⟩,⟨[.p 0 0],_,[],[0],[14]⟩]) (F:=[.o 0,.o 1,.p 1 0]) (hst.pick [0,1] rfl) hb Zb
         (o_p rfl (Z8 rfl rfl u_0 c_i)<|Qa rfl u_0<|o_n) (fun a g hst hb=>?_)
        exact ⟨(a0 == (7:Int)),g,rfl,(hst.pick [0,1,2] rfl),hb,H0⟩
  ·refine wp_cond_split (hst.bool 2 rfl) (fun hc2=>?_) (fun hc2=>?_)
   ·replace H0:=Zn hc2 H0
    refine wp_skip ?_
    exact ⟨(a0 == (2:Int)),g,rfl,(hst.pick [0,1,2] rfl),hb,H0⟩
   ·replace H0:=Zo hc2 H0
    refine r_g (L:=[(2,_),(3,_)]) (T:=[⟨[.o 1],_,[],[],[9]⟩,⟨[.p 0 0],_,[],[0],[7]⟩]) (F:=[.o 0,.o 1,.p 1 0]) (hst.pick [0,1] rfl) hb Zb
     (o_p rfl (Z8 rfl rfl u_0 c_i)<|Qa rfl u_0<|o_n) (fun a g hst hb=>?_)
    exact ⟨(a0 == (3:Int)),g,rfl,(hst.pick [0,1,2] rfl),hb,H0⟩
theorem Zq5 {r:Nat} (h:Zke=some r):FnOk Tryd.prog 33 [] (pFlt r):=by
 have H0:=h
 unfold Zke at H0
 clear h
 refine Zbt (N:=2) Tryd.func33 rfl rfl (Qe rfl) rfl rfl (fun a g0 hst hb=>?_)
 refine r_s (T:=[⟨[],_,[],[],[0]⟩]) (F:=[]) hst hb Zb
  (Qa rfl c_f<|o_n) (fun a g hst hb=>?_)
 refine r_s (T:=[⟨[],_,[],[],[1]⟩,⟨[.p 0 0],_,[],[0],[0]⟩]) (F:=[.p 1 0]) hst hb Zb
  (o_p rfl (Zlf Zuu rfl rfl c_i)<|Qa rfl u_0<|o_n) (fun a g hst hb=>?_)
 refine wp_ret ?_
 obtain rfl:=Option.some.inj H0
 exact Zz rfl hst hb (Zg (s:=0)) (hst.at 0 rfl)
theorem Zgj (a0:Nat) {r:Nat} (h:Ze2 a0=some r):FnOk Tryd.prog 66 [(pFlt a0)] (pFlt r):=by
 have H0:=h
 unfold Ze2 at H0
 clear h
 refine Zbt (N:=8) Tryd.func66 rfl rfl (Qe rfl) rfl rfl (fun a g0 hst hb=>?_)
 refine r_s (T:=[⟨[],_,[],[],[2]⟩]) (F:=[.o 0]) hst hb Zb
  (Qa rfl c_f<|o_n) (fun a g hst hb=>?_)
 refine wp_seq ?_
 refine r_s (T:=[⟨[.o 0],_,[],[],[3]⟩,⟨[.o 0],_,[],[],[4]⟩,⟨[.p 0 0,.p 1 0],_,[],[0,1],[5]⟩]) (F:=[.o 0,.p 2 0]) hst hb Zb
  (Qm rfl u_0<|Qm rfl u_0<|o_p rfl (Zx7 rfl rfl u_0 u_1)<|o_n) (fun a g hst hb=>?_)
 refine wp_cond_split (hst.bool 1 rfl) (fun hc1=>?_) (fun hc1=>?_)
 ·replace H0:=Zn hc1 H0
  obtain ⟨r2,h3,H0⟩:=Zf H0
  refine r_s (L:=[]) (T:=[⟨[],_,[],[],[6]⟩,⟨[.p 0 0],_,[],[0],[2]⟩]) (F:=[.p 1 0]) (hst.pick [] rfl) hb Zb
   (o_p rfl (Zr Z3o (Zq5 h3) rfl rfl .nil)<|Qa rfl u_0<|o_n) (fun a g hst hb=>?_)
  refine wp_ret ?_
  refine Zk ?_
  obtain rfl:=Option.some.inj H0
  exact Zz rfl hst hb (Zg (s:=2)) (hst.at 0 rfl)
 ·replace H0:=Zo hc1 H0
  refine wp_skip ?_
  refine Zm ?_
  refine r_s (L:=[(0,_)]) (T:=[⟨[.o 0],_,[],[],[7]⟩,⟨[.p 0 0],_,[],[0],[2]⟩]) (F:=[.p 1 0]) (hst.pick [0] rfl) hb Zb
   (Qm rfl u_0<|Qa rfl u_0<|o_n) (fun a g hst hb=>?_)
  refine wp_ret ?_
  obtain rfl:=Option.some.inj H0
  exact Zz rfl hst hb (Zg (s:=2)) (hst.at 0 rfl)
theorem Zl2 (a0:Nat) {r:Int} (h:Zkk a0=some r):FnOk Tryd.prog 81 [(pFlt a0)] (pInt .u64 r):=by
 have H0:=h
 unfold Zkk at H0
 clear h
 refine Zbt (N:=14) Tryd.func81 rfl rfl (Qe rfl) rfl rfl (fun a g0 hst hb=>?_)
 refine r_s (T:=[⟨[],_,[],[],[2]⟩]) (F:=[.o 0]) hst hb Zb
  (Qa rfl c_i<|o_n) (fun a g hst hb=>?_)
 obtain ⟨r1,h2,H0⟩:=Zf H0
 refine r_s (T:=[⟨[.o 0],_,[],[],[4]⟩,⟨[.p 0 0],_,[],[0],[5]⟩,⟨[.p 1 0],_,[],[0,1],[6]⟩,⟨[.p 2 0],_,[],[0,1,2],[3]⟩]) (F:=[.p 3 0]) hst hb Zb
  (Qm rfl u_0<|o_p rfl (Zr Zmz (Zgj _ h2) rfl rfl (.cons u_0 .nil))<|o_p rfl (Znw Zsa rfl rfl u_0)<|Qa rfl u_0<|o_n) (fun a g hst hb=>?_)
 refine wp_seq ?_
 refine r_s (T:=[⟨[.o 0],_,[],[],[7]⟩,⟨[.p 0 0],_,[],[0],[8]⟩,⟨[.p 1 0],_,[],[0,1],[9]⟩]) (F:=[.o 0,.p 2 0]) hst hb Zb
  (Qm rfl u_0<|o_p rfl (Z58 rfl rfl u_0 c_i)<|o_p rfl (Zdq rfl rfl u_0 c_i)<|o_n) (fun a g hst hb=>?_)
 refine wp_cond_split (hst.bool 1 rfl) (fun hc3=>?_) (fun hc3=>?_)
 ·replace H0:=Zn hc3 H0
  refine r_s (L:=[(3,_)]) (T:=[⟨[.o 0],_,[],[],[10]⟩,⟨[.p 0 0],_,[],[0],[11]⟩,⟨[.p 1 0],_,[],[0,1],[2]⟩]) (F:=[.p 2 0]) (hst.pick [0] rfl) hb Zb
   (Qm rfl u_0<|o_p rfl (Z4y rfl rfl rfl u_0)<|Qa rfl u_0<|o_n) (fun a g hst hb=>?_)
  refine wp_ret ?_
  refine Zk ?_
  obtain rfl:=Option.some.inj H0
  exact Zz rfl hst hb (Zg (s:=2)) (hst.at 0 rfl)
 ·replace H0:=Zo hc3 H0
  refine wp_skip ?_
  refine Zm ?_
  refine r_s (L:=[(3,_)]) (T:=[⟨[.o 0],_,[],[],[12]⟩,⟨[.p 0 0],_,[],[0],[13]⟩,⟨[.p 1 0],_,[],[0,1],[2]⟩]) (F:=[.p 2 0]) (hst.pick [0] rfl) hb Zb
   (Qm rfl u_0<|o_p rfl (Z7x rfl rfl u_0 c_i)<|Qa rfl u_0<|o_n) (fun a g hst hb=>?_)
  refine wp_ret ?_
  obtain rfl:=Option.some.inj H0
  exact Zz rfl hst hb (Zg (s:=2)) (hst.at 0 rfl)
theorem Zi7 (a0:Nat) (a1:Nat) {r:Bool} (h:Zh4 a0 a1=some r):FnOk Tryd.prog 76 [(pFlt a0),(pFlt a1)] (Zba r):=by
 have H0:=h
 unfold Zh4 at H0
 clear h
 refine Zbt (N:=10) Tryd.func76 rfl rfl (Qe rfl) rfl rfl (fun a g0 hst hb=>?_)
 refine r_s (T:=[⟨[],_,[],[],[4]⟩]) (F:=[.o 0,.o 1]) hst hb Zb
  (Qa rfl c_b<|o_n) (fun a g hst hb=>?_)
 obtain ⟨r1,h2,H0⟩:=Zf H0;obtain ⟨r3,h4,H0⟩:=Zf H0
 refine r_s (T:=[⟨[.o 0],_,[],[],[5]⟩,⟨[.p 0 0],_,[],[0],[6]⟩,⟨[.o 1],_,[],[],[7]⟩,⟨[.p 2 0],_,[],[0,1,2],[8]⟩,⟨[.p 1 0,.p 3 0],_,[],Lr 4,[9]⟩,⟨[.p 4 0],_,[],Lr 5,[4]⟩]) (F:=[.p 5 0]) hst hb Zb
  (Qm rfl u_0<|o_p rfl (Zr Zup (Zl2 _ h2) rfl rfl (.cons u_0 .nil))<|Qm rfl u_0<|o_p rfl (Zr Zup (Zl2 _ h4) rfl rfl (.cons u_0 .nil))<|o_p rfl (Z8 rfl rfl u_0 u_1)<|Qa rfl u_0<|o_n) (fun a g hst hb=>?_)
 refine wp_ret ?_
 obtain rfl:=Option.some.inj H0
 exact Zz rfl hst hb (Zg (s:=4)) (hst.at 0 rfl)
theorem Zwv (a0:Za) (a1:Zby) {r:Bool} (h:Zmq a0 a1=some r):FnOk Tryd.prog 50 [(Zc.pd a0),(Zcr.pd a1)] (Zba r):=by
 have H0:=h
 unfold Zmq at H0
 clear h
 refine Zbt (N:=59) Tryd.func50 rfl rfl (Qe rfl) rfl rfl (fun a g0 hst hb=>?_)
 refine r_s (T:=[⟨[.o 0],_,[],[],[2]⟩,⟨[.o 1],_,[],[],[3]⟩,⟨[],_,[],[],[4]⟩]) (F:=[.p 0 0,.p 1 0]) hst hb Zb
  (Qb rfl u_0<|Qb rfl u_0<|Qa rfl c_b<|o_n) (fun a g hst hb=>?_)
 obtain ⟨r1,h2,H0⟩:=Zf H0
 refine r_s (T:=⟨[.o 1],_,[],[],[5]⟩ :: ⟨[.p 0 0],_,[],[0],[6]⟩ :: ⟨[.p 1 0],_,[],[0,1],[7]⟩ :: ⟨[.p 2 0,.o 0],_,[],[0,1,2],[8]⟩ :: ⟨[.p 2 0,.p 3 0],_,[],Lr 4,[9]⟩ :: ⟨[.p 2 0,.p 4 0],_,[],Lr 5,[10]⟩ :: ⟨[.p 2 0,.p 5 0],_,[],Lr 6,[11]⟩ :: ⟨[.p 6 0],_,[],Lr 7,[12]⟩ :: ⟨[.p 7 0,.o 1],_,[],Lr 8,[13]⟩ :: ⟨[.p 7 0,.p 8 0],_,[],Lr 9,[14]⟩ :: ⟨[.p 7 0,.p 9 0],_,[],Lr 10,[15]⟩ :: ⟨[.p 10 0,.o 0],_,[],Lr 11,[16]⟩ :: ⟨[.p 10 0,.p 11 0],_,[],Lr 12,[17]⟩ :: ⟨[.p 10 0,.p 12 0],_,[],Lr 13,[18]⟩ :: ⟨[.p 7 0,.p 10 0,.p 13 0],_,[],Lr 14,[19]⟩ :: ⟨[.p 7 0,.p 14 0],_,[],Lr 15,[20]⟩ :: ⟨[.p 15 0],_,[],Lr 16,[21]⟩ :: ⟨[.p 16 0,.o 1],_,[],Lr 17,[22]⟩ :: ⟨[.p 16 0,.p 17 0],_,[],Lr 18,[23]⟩ :: ⟨[.p 16 0,.p 18 0],_,[],Lr 19,[24]⟩ :: ⟨[.p 19 0,.o 0],_,[],Lr 20,[25]⟩ :: ⟨[.p 19 0,.p 20 0],_,[],Lr 21,[26]⟩ :: ⟨[.p 19 0,.p 21 0],_,[],Lr 22,[27]⟩ :: ⟨[.p 19 0,.p 22 0],_,[],Lr 23,[28]⟩ :: ⟨[.p 23 0,.o 0],_,[],Lr 24,[29]⟩ :: ⟨[.p 23 0,.p 24 0],_,[],Lr 25,[30]⟩ :: ⟨[.p 23 0,.p 25 0],_,[],Lr 26,[31]⟩ :: ⟨[.p 19 0,.p 23 0,.p 26 0],_,[],Lr 27,[32]⟩ :: ⟨[.p 16 0,.p 19 0,.p 27 0],_,[],Lr 28,[33]⟩ :: ⟨[.p 16 0,.p 28 0],_,[],Lr 29,[34]⟩ :: ⟨[.p 29 0],_,[],Lr 30,[35]⟩ :: ⟨[.p 30 0,.o 1],_,[],Lr 31,[36]⟩ :: ⟨[.p 30 0,.p 31 0],_,[],Lr 32,[37]⟩ :: ⟨[.p 30 0,.p 32 0],_,[],Lr 33,[38]⟩ :: ⟨[.p 33 0,.o 0],_,[],Lr 34,[39]⟩ :: ⟨[.p 33 0,.p 34 0],_,[],Lr 35,[40]⟩ :: ⟨[.p 33 0,.p 35 0],_,[],Lr 36,[41]⟩ :: ⟨[.p 30 0,.p 33 0,.p 36 0],_,[],Lr 37,[42]⟩ :: ⟨[.p 30 0,.p 37 0],_,[],Lr 38,[43]⟩ :: ⟨[.p 38 0],_,[],Lr 39,[44]⟩ :: ⟨[.p 39 0,.o 1],_,[],Lr 40,[45]⟩ :: ⟨[.p 39 0,.p 40 0],_,[],Lr 41,[46]⟩ :: ⟨[.p 39 0,.p 41 0],_,[],Lr 42,[47]⟩ :: ⟨[.p 42 0,.o 0],_,[],Lr 43,[48]⟩ :: ⟨[.p 42 0,.p 43 0],_,[],Lr 44,[49]⟩ :: ⟨[.p 42 0,.p 44 0],_,[],Lr 45,[50]⟩ :: ⟨[.p 42 0,.p 45 0],_,[],Lr 46,[51]⟩ :: ⟨[.p 46 0,.o 0],_,[],Lr 47,[52]⟩ :: ⟨[.p 46 0,.p 47 0],_,[],Lr 48,[53]⟩ :: ⟨[.p 46 0,.p 48 0],_,[],Lr 49,[54]⟩ :: ⟨[.p 46 0,.p 49 0],_,[],Lr 50,[55]⟩ :: ⟨[.p 42 0,.p 46 0,.p 50 0],_,[],Lr 51,[56]⟩ :: ⟨[.p 39 0,.p 42 0,.p 51 0],_,[],Lr 52,[57]⟩ :: ⟨[.p 39 0,.p 52 0],_,[],Lr 53,[58]⟩ :: ⟨[.p 53 0],_,[],Lr 54,[4]⟩ :: []) (F:=[.p 54 0]) hst hb Zb
  (Qf rfl Z4i u_0<|Ql rfl ty_4 u_0<|Qm rfl u_0<|o_g (Qg_f rfl (fun hG=>Zj Zhc rfl rfl u_0))<|o_g (Qg_f rfl (fun hG=>Zs ty_9 rfl rfl (Opd.gd hG u_0)))<|o_g (Qg_f rfl (fun hG=>Zkr rfl rfl (Opd.gd hG u_0) c_s))<|o_p rfl (Zbl rfl rfl u_0 (fun hz=>(Opd.gd (bNF hz) u_1)))<|Qm rfl u_0<|o_g (Qg_t rfl (fun hG=>Zj Z30 rfl rfl u_0))<|o_g (Qg_t rfl (fun hG=>Zs ty_4 rfl rfl (Opd.gd hG u_0)))<|o_g (Qg_t rfl (fun hG=>Zy rfl rfl (Opd.gd hG u_0)))<|o_g (Qg_fi rfl (fun hG=>Zj Zb2 rfl rfl u_0))<|o_g (Qg_fi rfl (fun hG=>Zs ty_2 rfl rfl (Opd.gd hG u_0)))<|o_g (Qg_fi rfl (fun hG=>Z8 rfl rfl (Opd.gd hG u_0) c_i))<|o_g (Qg_t rfl (fun hG=>Zbl rfl rfl (Opd.gd hG u_0) (fun hz=>(Opd.gd (bA hG (bNF hz)) u_1))))<|o_p rfl (Zbe rfl rfl u_0 (fun hz=>(Opd.gd hz u_1)))<|Qm rfl u_0<|o_g (Qg_t rfl (fun hG=>Zj Zxo rfl rfl u_0))<|o_g (Qg_t rfl (fun hG=>Zs ty_4 rfl rfl (Opd.gd hG u_0)))<|o_g (Qg_t rfl (fun hG=>Zy rfl rfl (Opd.gd hG u_0)))<|o_g (Qg_fi rfl (fun hG=>Zj Zha rfl rfl u_0))<|o_g (Qg_fi rfl (fun hG=>Zs ty_2 rfl rfl (Opd.gd hG u_0)))<|o_g (Qg_fi rfl (fun hG=>Z8 rfl rfl (Opd.gd hG u_0) c_i))<|o_g (Qg_fi rfl (fun hG=>Zy rfl rfl (Opd.gd hG u_0)))<|o_g (Qg_ti rfl (fun hG=>Zj Zg9 rfl rfl u_0))<|o_g (Qg_ti rfl (fun hG=>Zs ty_2 rfl rfl (Opd.gd hG u_0)))<|o_g (Qg_ti rfl (fun hG=>Z8 rfl rfl (Opd.gd hG u_0) c_i))<|o_g (Qg_fi rfl (fun hG=>Zbe rfl rfl (Opd.gd hG u_0) (fun hz=>(Opd.gd (bA hG hz) u_1))))<|o_g (Qg_t rfl (fun hG=>Zbl rfl rfl (Opd.gd hG u_0) (fun hz=>(Opd.gd (bA hG (bNF hz)) u_1))))<|o_p rfl (Zbe rfl rfl u_0 (fun hz=>(Opd.gd hz u_1)))<|Qm rfl u_0<|o_g (Qg_t rfl (fun hG=>Zj Z33 rfl rfl u_0))<|o_g (Qg_t rfl (fun hG=>Zs ty_4 rfl rfl (Opd.gd hG u_0)))<|o_g (Qg_t rfl (fun hG=>Zy rfl rfl (Opd.gd hG u_0)))<|o_g (Qg_fi rfl (fun hG=>Zj Zdi rfl rfl u_0))<|o_g (Qg_fi rfl (fun hG=>Zs Zb8 rfl rfl (Opd.gd hG u_0)))<|o_g (Qg_fi rfl (fun hG=>Zr Zp8 (Zi7 _ _ (Zbq h2 hG)) rfl rfl (.cons (Opd.gd hG u_0) (.cons c_f .nil))))<|o_g (Qg_t rfl (fun hG=>Zbl rfl rfl (Opd.gd hG u_0) (fun hz=>(Opd.gd (bA hG (bNF hz)) u_1))))<|o_p rfl (Zbe rfl rfl u_0 (fun hz=>(Opd.gd hz u_1)))<|Qm rfl u_0<|o_g (Qg_t rfl (fun hG=>Zj Zxu rfl rfl u_0))<|o_g (Qg_t rfl (fun hG=>Zs ty_4 rfl rfl (Opd.gd hG u_0)))<|o_g (Qg_t rfl (fun hG=>Zy rfl rfl (Opd.gd hG u_0)))<|o_g (Qg_fi rfl (fun hG=>Zj Zet rfl rfl u_0))<|o_g (Qg_fi rfl (fun hG=>Zs ty_3 rfl rfl (Opd.gd hG u_0)))<|o_g (Qg_fi rfl (fun hG=>Z8 rfl rfl (Opd.gd hG u_0) c_i))<|o_g (Qg_fi rfl (fun hG=>Zy rfl rfl (Opd.gd hG u_0)))<|o_g (Qg_ti rfl (fun hG=>Zj Zbw rfl rfl u_0))<|o_g (Qg_ti rfl (fun hG=>Zs Zcg rfl rfl (Opd.gd hG u_0)))<|o_g (Qg_ti rfl (fun hG=>Zcc Tryd.underlying23 rfl rfl (Opd.gd hG u_0)))<|o_g (Qg_ti rfl (fun hG=>Z8 rfl rfl (Opd.gd hG u_0) c_i))<|o_g (Qg_fi rfl (fun hG=>Zbe rfl rfl (Opd.gd hG u_0) (fun hz=>(Opd.gd (bA hG hz) u_1))))<|o_g (Qg_t rfl (fun hG=>Zbl rfl rfl (Opd.gd hG u_0) (fun hz=>(Opd.gd (bA hG (bNF hz)) u_1))))<|o_p rfl (Zbe rfl rfl u_0 (fun hz=>(Opd.gd hz u_1)))<|Qa rfl u_0<|o_n) (fun a g hst hb=>?_)
 refine wp_ret ?_
 obtain rfl:=Option.some.inj H0
 exact Zz rfl hst hb (Zg (s:=4)) (hst.at 0 rfl)
theorem Zlw (a0:Nat) {r:Bool} (h:Ziv a0=some r):FnOk Tryd.prog 51 [(pFlt a0)] (Zba r):=by
 have H0:=h
 unfold Ziv at H0
 clear h
 refine Zbt (N:=9) Tryd.func51 rfl rfl (Qe rfl) rfl rfl (fun a g0 hst hb=>?_)
 refine r_s (T:=[⟨[],_,[],[],[2]⟩]) (F:=[.o 0]) hst hb Zb
  (Qa rfl c_b<|o_n) (fun a g hst hb=>?_)
 obtain ⟨r1,h2,H0⟩:=Zf H0
 refine r_s (T:=[⟨[.o 0],_,[],[],[3]⟩,⟨[.p 0 0],_,[],[0],[4]⟩,⟨[.o 0],_,[],[],[5]⟩,⟨[.p 2 0],_,[],[0,1,2],[6]⟩,⟨[.p 3 0],_,[],Lr 4,[7]⟩,⟨[.p 1 0,.p 4 0],_,[],Lr 5,[8]⟩,⟨[.p 5 0],_,[],Lr 6,[2]⟩]) (F:=[.p 6 0]) hst hb Zb
  (Qm rfl u_0<|o_p rfl (Znw Zsa rfl rfl u_0)<|Qm rfl u_0<|o_p rfl (Zr Zmz (Zgj _ h2) rfl rfl (.cons u_0 .nil))<|o_p rfl (Znw Zsa rfl rfl u_0)<|o_p rfl (Z8 rfl rfl u_0 u_1)<|Qa rfl u_0<|o_n) (fun a g hst hb=>?_)
 refine wp_ret ?_
 obtain rfl:=Option.some.inj H0
 exact Zz rfl hst hb (Zg (s:=2)) (hst.at 0 rfl)
theorem Znc (a0:Nat) (a1:Nat) {r:Bool} (h:Zkf a0 a1=some r):FnOk Tryd.prog 65 [(pFlt a0),(pFlt a1)] (Zba r):=by
 have H0:=h
 unfold Zkf at H0
 clear h
 refine Zbt (N:=10) Tryd.func65 rfl rfl (Qe rfl) rfl rfl (fun a g0 hst hb=>?_)
 refine r_s (T:=[⟨[],_,[],[],[4]⟩]) (F:=[.o 0,.o 1]) hst hb Zb
  (Qa rfl c_b<|o_n) (fun a g hst hb=>?_)
 obtain ⟨r1,h2,H0⟩:=Zf H0;obtain ⟨r3,h4,H0⟩:=Zf H0
 refine r_s (T:=[⟨[.o 0],_,[],[],[5]⟩,⟨[.p 0 0],_,[],[0],[6]⟩,⟨[.o 1],_,[],[],[7]⟩,⟨[.p 2 0],_,[],[0,1,2],[8]⟩,⟨[.p 1 0,.p 3 0],_,[],Lr 4,[9]⟩,⟨[.p 4 0],_,[],Lr 5,[4]⟩]) (F:=[.p 5 0]) hst hb Zb
  (Qm rfl u_0<|o_p rfl (Zr Zup (Zl2 _ h2) rfl rfl (.cons u_0 .nil))<|Qm rfl u_0<|o_p rfl (Zr Zup (Zl2 _ h4) rfl rfl (.cons u_0 .nil))<|o_p rfl (Zb6 rfl rfl u_0 u_1)<|Qa rfl u_0<|o_n) (fun a g hst hb=>?_)
 refine wp_ret ?_
 obtain rfl:=Option.some.inj H0
 exact Zz rfl hst hb (Zg (s:=4)) (hst.at 0 rfl)
theorem Zly (a0:Zd) (a1:Zd) {r:Bool} (h:Ziq a0 a1=some r):FnOk Tryd.prog 77 [(Zp.pd a0),(Zp.pd a1)] (Zba r):=by
 have H0:=h
 unfold Ziq at H0
 clear h
 refine Zbt (N:=21) Tryd.func77 rfl rfl (Qe rfl) rfl rfl (fun a g0 hst hb=>?_)
 refine r_s (T:=[⟨[.o 0],_,[],[],[2]⟩,⟨[.o 1],_,[],[],[3]⟩,⟨[],_,[],[],[4]⟩]) (F:=[.p 0 0,.p 1 0]) hst hb Zb
  (Qb rfl u_0<|Qb rfl u_0<|Qa rfl c_b<|o_n) (fun a g hst hb=>?_)
 refine wp_seq ?_
 obtain ⟨r1,h2,H0⟩:=Zf H0
 refine r_s (T:=[⟨[.o 0],_,[],[],[5]⟩,⟨[.p 0 0],_,[],[0],[6]⟩,⟨[.o 1],_,[],[],[7]⟩,⟨[.p 2 0],_,[],[2],[8]⟩,⟨[.p 1 0,.p 3 0],_,[],Lr 4,[9]⟩,⟨[.p 4 0],_,[],Lr 5,[10]⟩]) (F:=[.o 0,.o 1,.p 5 0]) hst hb Zb
  (Qf rfl Zev u_0<|Ql rfl Zb8 u_0<|Qf rfl Zev u_0<|Ql rfl Zb8 u_0<|o_p rfl (Zr Zp8 (Zi7 _ _ h2) rfl rfl (.cons u_0 (.cons u_1 .nil)))<|Qn rfl u_0<|o_n) (fun a g hst hb=>?_)
 refine wp_cond_split (hst.bool 2 rfl) (fun hc3=>?_) (fun hc3=>?_)
 ·replace H0:=Zn hc3 H0
  obtain ⟨r4,h5,H0⟩:=Zf H0
  refine r_s (L:=[(2,_),(3,_)]) (T:=[⟨[.o 1],_,[],[],[11]⟩,⟨[.p 0 0],_,[],[0],[12]⟩,⟨[.o 0],_,[],[],[13]⟩,⟨[.p 2 0],_,[],[2],[14]⟩,⟨[.p 1 0,.p 3 0],_,[],Lr 4,[15]⟩,⟨[.p 4 0],_,[],Lr 5,[4]⟩]) (F:=[.p 5 0]) (hst.pick [0,1] rfl) hb Zb
   (Qf rfl Zev u_0<|Ql rfl Zb8 u_0<|Qf rfl Zev u_0<|Ql rfl Zb8 u_0<|o_p rfl (Zr Zyp (Znc _ _ h5) rfl rfl (.cons u_0 (.cons u_1 .nil)))<|Qa rfl u_0<|o_n) (fun a g hst hb=>?_)
  refine wp_ret ?_
  refine Zk ?_
  obtain rfl:=Option.some.inj H0
  exact Zz rfl hst hb (Zg (s:=4)) (hst.at 0 rfl)
 ·replace H0:=Zo hc3 H0
  refine wp_skip ?_
  refine Zm ?_
  refine r_s (L:=[(2,_),(3,_)]) (T:=[⟨[.o 0],_,[],[],[16]⟩,⟨[.p 0 0],_,[],[0],[17]⟩,⟨[.o 1],_,[],[],[18]⟩,⟨[.p 2 0],_,[],[2],[19]⟩,⟨[.p 1 0,.p 3 0],_,[],Lr 4,[20]⟩,⟨[.p 4 0],_,[],Lr 5,[4]⟩]) (F:=[.p 5 0]) (hst.pick [0,1] rfl) hb Zb
   (Qf rfl Zdh u_0<|Ql rfl ty_9 u_0<|Qf rfl Zdh u_0<|Ql rfl ty_9 u_0<|o_p rfl (Zpq rfl rfl u_0 u_1)<|Qa rfl u_0<|o_n) (fun a g hst hb=>?_)
  refine wp_ret ?_
  obtain rfl:=Option.some.inj H0
  exact Zz rfl hst hb (Zg (s:=4)) (hst.at 0 rfl)
theorem Zvi (a0:Int) (a1:List Zd) {r:Int} (h:Zlo a0 a1=some r):FnOk Tryd.prog 52 [(pInt .i64 a0),(Zp.sl.pd a1)] (pInt .i64 r):=by
 have H0:=h
 unfold Zlo at H0
 clear h
 refine Zbt (N:=70) Tryd.func52 rfl rfl (Qe rfl) rfl rfl (fun a g0 hst hb=>?_)
 refine r_s (T:=[⟨[],_,[],[],[4]⟩]) (F:=[.o 0,.o 1]) hst hb Zb
  (Qa rfl c_i<|o_n) (fun a g hst hb=>?_)
 refine wp_seq ?_
 refine r_s (T:=[⟨[.o 1],_,[],[],[7]⟩,⟨[.p 0 0],_,[],[0],[8]⟩,⟨[],_,[],[],[9]⟩]) (F:=[.o 0,.o 1,.p 0 0,.p 1 0,.p 2 0]) hst hb Zb
  (Qm rfl u_0<|o_p rfl (Zcc Tryd.underlying23 rfl rfl u_0)<|Qm rfl c_i<|o_n) (fun a g hst hb=>?_)
 obtain ⟨z19,hz1,H0⟩:=Zf H0
 refine Zbz (fun a w=>∃ (g:G),w=g.w ∧ St 70 [] a g ∧ Base g0 g ∧ (.inr ())=z19) ?_ ?_
 ·rintro a w ⟨g,rfl,hst,hb,rfl⟩
  refine Zm ?_
  refine r_s (T:=[⟨[],_,[],[],[4]⟩]) (F:=[.p 0 0]) hst hb Zb
   (Qa rfl c_i<|o_n) (fun a g hst hb=>?_)
  refine wp_ret ?_
  obtain rfl:=Option.some.inj H0
  exact Zz rfl hst hb (Zg (s:=4)) (hst.at 0 rfl)
 ·refine wp_block ?_
  refine wp_loop_ghost (fun n a w=>∃ (x1:Int) (g:G),w=g.w ∧ St 70 [(0,(pInt .i64 a0)),(1,(Zp.sl.pd a1)),(7,(Zp.sl.pd a1)),(8,(pInt .i64 (a1.length:Int))),(9,(pInt .i64 x1))] a g ∧ Base g0 g ∧ Ze7 a0 a1 n x1=some z19) (Int.toNat ((a1.length:Int) - (0:Int)) + 1) ⟨(0:Int),g,rfl,(hst.pick [0,1,2,3,4] rfl),hb,hz1⟩ (fun n a w hI=>?_)
  obtain ⟨x1,g,rfl,hst,hb,H1⟩:=hI
  cases n with
  | zero=>exact absurd H1 (by simp [Ze7])
  | succ n =>
   rw [Ze7] at H1
   refine r_s (T:=[⟨[.o 4,.o 3],_,[],[],[10]⟩]) (F:=[.o 0,.o 1,.o 2,.o 3,.o 4,.p 0 0]) hst hb Zb
    (o_p rfl (Zb6 rfl rfl u_0 u_1)<|o_n) (fun a g hst hb=>?_)
   refine wp_seq ?_
   refine wp_cond_split (hst.bool 5 rfl) (fun hc2=>?_) (fun hc2=>?_)
   ·replace H1:=Zn hc2 H1
    refine wp_skip ?_
    refine Zm ?_
    refine wp_seq ?_
    refine wp_block ?_
    obtain ⟨e3,h4,H1⟩:=Zf H1
    refine r_s (L:=[(0,_),(1,_),(7,_),(8,_),(9,_)]) (T:=[⟨[.o 4],_,[],[],[11]⟩,⟨[.o 2,.o 4],_,[],[],[12]⟩,⟨[.p 1 0],_,[],[1],[13]⟩,⟨[],[(6,(pBox Zp 6 (default:Zd)))],[7],[],[6]⟩,⟨[.p 0 0],_,[],Lr 4,[5]⟩,⟨[.p 2 0,.p 3 0],_,[7],Lr 5,[6]⟩]) (F:=[.o 0,.o 1,.p 4 0,.p 5 0,.o 2,.o 3,.o 4]) (hst.pick [0,1,2,3,4] rfl) hb Zb
     (Qm rfl u_0<|o_p rfl (Zbk Tryd.underlying23 Zee rfl rfl u_0 u_1 h4)<|Ql rfl Zdt u_0<|o_p rfl (Zbm (zs:=[.float .f64 0,.string ByteArray.empty]) (by kernel_rfl) (fun g=>Zg6 g) rfl rfl)<|Qa rfl u_0<|o_p rfl (Zb9 Zdt rfl rfl u_1 u_0)<|o_n) (fun a g hst hb=>?_)
    refine wp_block ?_
    refine r_s (T:=[⟨[.o 3],_,[],[],[15]⟩,⟨[.p 0 0],_,[],[0],[16]⟩,⟨[.p 1 0],_,[],[0,1],[17]⟩,⟨[.p 2 0],_,[],[0,1,2],[18]⟩,⟨[.p 3 0],_,[],Lr 4,[14]⟩]) (F:=[.o 0,.o 1,.o 2,.o 3,.o 4,.o 5,.o 6,.p 4 0]) hst hb Zb
     (Qf rfl Zdh u_0<|Ql rfl ty_9 u_0<|o_p rfl (Zff Tryd.underlying9 rfl rfl u_0)<|o_p rfl (Zcf rfl rfl u_0 c_i)<|Qa rfl u_0<|o_n) (fun a g hst hb=>?_)
    refine wp_cond_split (hst.bool 7 rfl) (fun hc5=>?_) (fun hc5=>?_)
    ·replace H1:=Zn hc5 H1
     refine r_s (L:=[]) (T:=[⟨[],_,[],[],[4]⟩]) (F:=[.p 0 0]) (hst.pick [] rfl) hb Zb
      (Qa rfl c_i<|o_n) (fun a g hst hb=>?_)
     refine wp_ret ?_
     refine Zv ?_
     refine Zv ?_
     refine Zk ?_
     refine Zk ?_
     refine Zv ?_
     refine Zk ?_
     refine Zk ?_
     obtain rfl:=Option.some.inj H1
     obtain rfl:=Option.some.inj H0
     exact Zz rfl hst hb (Zg (s:=4)) (hst.at 0 rfl)
    ·replace H1:=Zo hc5 H1
     obtain ⟨r6,h7,H1⟩:=Zf H1;obtain ⟨r8,h9,H1⟩:=Zf H1
     refine r_s (L:=[(0,_),(1,_),(5,_),(6,_),(7,_),(8,_),(9,_)]) (T:=⟨[.o 0],_,[],[],[20]⟩ :: ⟨[.p 0 0],_,[],[0],[21]⟩ :: ⟨[.p 1 0],_,[],[0,1],[22]⟩ :: ⟨[.p 2 0,.o 3],_,[],[0,1,2],[23]⟩ :: ⟨[.p 2 0,.p 3 0],_,[],Lr 4,[24]⟩ :: ⟨[.p 2 0,.p 4 0],_,[],Lr 5,[25]⟩ :: ⟨[.p 2 0,.p 5 0],_,[],Lr 6,[26]⟩ :: ⟨[.p 2 0,.p 6 0],_,[],Lr 7,[27]⟩ :: ⟨[.p 7 0],_,[],Lr 8,[28]⟩ :: ⟨[.p 8 0,.o 3],_,[],Lr 9,[29]⟩ :: ⟨[.p 8 0,.p 9 0],_,[],Lr 10,[30]⟩ :: ⟨[.p 8 0,.p 10 0],_,[],Lr 11,[31]⟩ :: ⟨[.p 8 0,.p 11 0],_,[],Lr 12,[32]⟩ :: ⟨[.p 8 0,.p 12 0],_,[],Lr 13,[33]⟩ :: ⟨[.p 13 0],_,[],Lr 14,[19]⟩ :: []) (F:=[.o 0,.o 1,.o 2,.o 3,.o 4,.o 5,.o 6,.p 14 0]) (hst.pick [0,1,2,3,4,5,6] rfl) hb Zb
      (Qm rfl u_0<|o_p rfl (Z8 rfl rfl u_0 c_i)<|Qm rfl u_0<|o_g (Qg_t rfl (fun hG=>Zj Zev rfl rfl u_0))<|o_g (Qg_t rfl (fun hG=>Zs Zb8 rfl rfl (Opd.gd hG u_0)))<|o_g (Qg_t rfl (fun hG=>Zr Zp8 (Zi7 _ _ (Zbq h7 hG)) rfl rfl (.cons (Opd.gd hG u_0) (.cons c_f .nil))))<|o_g (Qg_t rfl (fun hG=>Zem rfl rfl (Opd.gd hG u_0)))<|o_p rfl (Zbe rfl rfl u_0 (fun hz=>(Opd.gd hz u_1)))<|Qm rfl u_0<|o_g (Qg_f rfl (fun hG=>Zj Zev rfl rfl u_0))<|o_g (Qg_f rfl (fun hG=>Zs Zb8 rfl rfl (Opd.gd hG u_0)))<|o_g (Qg_f rfl (fun hG=>Zr Zza (Zlw _ (Zbq h9 hG)) rfl rfl (.cons (Opd.gd hG u_0) .nil)))<|o_g (Qg_f rfl (fun hG=>Zem rfl rfl (Opd.gd hG u_0)))<|o_p rfl (Zbl rfl rfl u_0 (fun hz=>(Opd.gd (bNF hz) u_1)))<|Qa rfl u_0<|o_n) (fun a g hst hb=>?_)
     refine wp_cond_split (hst.bool 7 rfl) (fun hc10=>?_) (fun hc10=>?_)
     ·replace H1:=Zn hc10 H1
      refine r_s (L:=[]) (T:=[⟨[],_,[],[],[4]⟩]) (F:=[.p 0 0]) (hst.pick [] rfl) hb Zb
       (Qa rfl c_i<|o_n) (fun a g hst hb=>?_)
      refine wp_ret ?_
      refine Zv ?_
      refine Zv ?_
      refine Zk ?_
      refine Zk ?_
      refine Zv ?_
      refine Zk ?_
      refine Zk ?_
      obtain rfl:=Option.some.inj H1
      obtain rfl:=Option.some.inj H0
      exact Zz rfl hst hb (Zg (s:=4)) (hst.at 0 rfl)
     ·replace H1:=Zo hc10 H1
      obtain ⟨e11,h12,H1⟩:=Zf H1
      refine r_s (L:=[(0,_),(1,_),(5,_),(6,_),(7,_),(8,_),(9,_)]) (T:=⟨[.o 2],_,[],[],[35]⟩ :: ⟨[.p 0 0],_,[],[0],[36]⟩ :: ⟨[.p 1 0],_,[],[0,1],[37]⟩ :: ⟨[.p 2 0,.o 0],_,[],[0,1,2],[38]⟩ :: ⟨[.p 2 0,.p 3 0],_,[],Lr 4,[39]⟩ :: ⟨[.p 2 0,.p 4 0],_,[],Lr 5,[40]⟩ :: ⟨[.p 5 0],_,[],Lr 6,[41]⟩ :: ⟨[.p 6 0,.o 1],_,[],Lr 7,[42]⟩ :: ⟨[.p 6 0,.o 2],_,[],Lr 7,[43]⟩ :: ⟨[.p 6 0,.p 8 0],_,[],[0,1,2,3,4,5,6,8],[44]⟩ :: ⟨[.p 6 0,.p 7 0,.p 9 0],_,[],Lr 10,[45]⟩ :: ⟨[.p 6 0,.p 10 0],_,[],Lr 11,[46]⟩ :: ⟨[.p 6 0,.p 11 0],_,[],Lr 12,[47]⟩ :: ⟨[.p 6 0,.o 3],_,[],Lr 7,[48]⟩ :: ⟨[.p 6 0,.p 13 0],_,[],[0,1,2,3,4,5,6,13],[49]⟩ :: ⟨[.p 6 0,.p 12 0,.p 14 0],_,[],Lr 15,[50]⟩ :: ⟨[.p 6 0,.p 15 0],_,[],Lr 16,[51]⟩ :: ⟨[.p 16 0],_,[],Lr 17,[34]⟩ :: []) (F:=[.o 0,.o 1,.o 2,.o 3,.o 4,.o 5,.o 6,.p 17 0]) (hst.pick [0,1,2,3,4,5,6] rfl) hb Zb
       (Qm rfl u_0<|o_p rfl (Zcf rfl rfl u_0 c_i)<|Qm rfl u_0<|o_g (Qg_t rfl (fun hG=>Zy rfl rfl u_0))<|o_g (Qg_t rfl (fun hG=>Z8 rfl rfl (Opd.gd hG u_0) c_i))<|o_p rfl (Zbe rfl rfl u_0 (fun hz=>(Opd.gd hz u_1)))<|Qm rfl u_0<|o_g (Qg_t rfl (fun hG=>Zy rfl rfl u_0))<|o_g (Qg_t rfl (fun hG=>Zy rfl rfl u_0))<|o_g (Qg_t rfl (fun hG=>Zd7 rfl rfl (Opd.gd hG u_0) c_i rfl))<|o_g (Qg_t rfl (fun hG=>Zbk Tryd.underlying23 Zee rfl rfl (Opd.gd hG u_0) (Opd.gd hG u_1) (Zbq h12 hG)))<|o_g (Qg_t rfl (fun hG=>Zj Zdh rfl rfl (Opd.gd hG u_0)))<|o_g (Qg_t rfl (fun hG=>Zs ty_9 rfl rfl (Opd.gd hG u_0)))<|o_g (Qg_t rfl (fun hG=>Zj Zdh rfl rfl u_0))<|o_g (Qg_t rfl (fun hG=>Zs ty_9 rfl rfl (Opd.gd hG u_0)))<|o_g (Qg_t rfl (fun hG=>Z6l rfl rfl (Opd.gd hG u_0) (Opd.gd hG u_1)))<|o_p rfl (Zbe rfl rfl u_0 (fun hz=>(Opd.gd hz u_1)))<|Qa rfl u_0<|o_n) (fun a g hst hb=>?_)
      refine wp_cond_split (hst.bool 7 rfl) (fun hc13=>?_) (fun hc13=>?_)
      ·replace H1:=Zn hc13 H1
       refine r_s (L:=[]) (T:=[⟨[],_,[],[],[4]⟩]) (F:=[.p 0 0]) (hst.pick [] rfl) hb Zb
        (Qa rfl c_i<|o_n) (fun a g hst hb=>?_)
       refine wp_ret ?_
       refine Zv ?_
       refine Zv ?_
       refine Zk ?_
       refine Zk ?_
       refine Zv ?_
       refine Zk ?_
       refine Zk ?_
       obtain rfl:=Option.some.inj H1
       obtain rfl:=Option.some.inj H0
       exact Zz rfl hst hb (Zg (s:=4)) (hst.at 0 rfl)
      ·replace H1:=Zo hc13 H1
       obtain ⟨e14,h15,H1⟩:=Zf H1;obtain ⟨r16,h17,H1⟩:=Zf H1
       refine r_s (L:=[(0,_),(1,_),(5,_),(6,_),(7,_),(8,_),(9,_)]) (T:=⟨[.o 2],_,[],[],[53]⟩ :: ⟨[.p 0 0],_,[],[0],[54]⟩ :: ⟨[.p 1 0],_,[],[0,1],[55]⟩ :: ⟨[.p 2 0,.o 0],_,[],[0,1,2],[56]⟩ :: ⟨[.p 2 0,.p 3 0],_,[],Lr 4,[57]⟩ :: ⟨[.p 2 0,.p 4 0],_,[],Lr 5,[58]⟩ :: ⟨[.p 5 0],_,[],Lr 6,[59]⟩ :: ⟨[.p 6 0,.o 1],_,[],Lr 7,[60]⟩ :: ⟨[.p 6 0,.o 2],_,[],Lr 7,[61]⟩ :: ⟨[.p 6 0,.p 8 0],_,[],[0,1,2,3,4,5,6,8],[62]⟩ :: ⟨[.p 6 0,.p 7 0,.p 9 0],_,[],Lr 10,[63]⟩ :: ⟨[.p 6 0,.p 10 0],_,[],Lr 11,[64]⟩ :: ⟨[.p 6 0,.o 3],_,[],Lr 7,[65]⟩ :: ⟨[.p 6 0,.p 11 0,.p 12 0],_,[],Lr 13,[66]⟩ :: ⟨[.p 6 0,.p 13 0],_,[],Lr 14,[67]⟩ :: ⟨[.p 6 0,.p 14 0],_,[],Lr 15,[68]⟩ :: ⟨[.p 15 0],_,[],Lr 16,[52]⟩ :: []) (F:=[.o 0,.o 1,.o 4,.o 5,.o 6,.p 16 0]) (hst.pick [0,1,2,3,4,5,6] rfl) hb Zb
        (Qm rfl u_0<|o_p rfl (Zcf rfl rfl u_0 c_i)<|Qm rfl u_0<|o_g (Qg_t rfl (fun hG=>Zy rfl rfl u_0))<|o_g (Qg_t rfl (fun hG=>Z8 rfl rfl (Opd.gd hG u_0) c_i))<|o_p rfl (Zbe rfl rfl u_0 (fun hz=>(Opd.gd hz u_1)))<|Qm rfl u_0<|o_g (Qg_t rfl (fun hG=>Zy rfl rfl u_0))<|o_g (Qg_t rfl (fun hG=>Zy rfl rfl u_0))<|o_g (Qg_t rfl (fun hG=>Zd7 rfl rfl (Opd.gd hG u_0) c_i rfl))<|o_g (Qg_t rfl (fun hG=>Zbk Tryd.underlying23 Zee rfl rfl (Opd.gd hG u_0) (Opd.gd hG u_1) (Zbq h15 hG)))<|o_g (Qg_t rfl (fun hG=>Zs Zdt rfl rfl (Opd.gd hG u_0)))<|o_g (Qg_t rfl (fun hG=>Zs Zdt rfl rfl u_0))<|o_g (Qg_t rfl (fun hG=>Zr Zzg (Zly _ _ (Zbq h17 hG)) rfl rfl (.cons (Opd.gd hG u_0) (.cons (Opd.gd hG u_1) .nil))))<|o_g (Qg_t rfl (fun hG=>Zem rfl rfl (Opd.gd hG u_0)))<|o_p rfl (Zbe rfl rfl u_0 (fun hz=>(Opd.gd hz u_1)))<|Qa rfl u_0<|o_n) (fun a g hst hb=>?_)
       refine wp_cond_split (hst.bool 5 rfl) (fun hc18=>?_) (fun hc18=>?_)
       ·replace H1:=Zn hc18 H1
        refine r_s (L:=[]) (T:=[⟨[],_,[],[],[4]⟩]) (F:=[.p 0 0]) (hst.pick [] rfl) hb Zb
         (Qa rfl c_i<|o_n) (fun a g hst hb=>?_)
        refine wp_ret ?_
        refine Zv ?_
        refine Zv ?_
        refine Zk ?_
        refine Zk ?_
        refine Zv ?_
        refine Zk ?_
        refine Zk ?_
        obtain rfl:=Option.some.inj H1
        obtain rfl:=Option.some.inj H0
        exact Zz rfl hst hb (Zg (s:=4)) (hst.at 0 rfl)
       ·replace H1:=Zo hc18 H1
        refine wp_skip ?_
        refine Z4 ?_
        refine Z4 ?_
        refine Zm ?_
        refine r_g (L:=[(0,_),(1,_),(7,_),(8,_),(9,_)]) (T:=[⟨[.o 4],_,[],[],[69]⟩,⟨[.p 0 0],_,[],[0],[9]⟩]) (F:=[.o 0,.o 1,.o 2,.o 3,.p 1 0]) (hst.pick [0,1,2,3,4] rfl) hb Zb
         (o_p rfl (Zca rfl rfl u_0 c_i rfl)<|Qm rfl u_0<|o_n) (fun a g hst hb=>?_)
        exact ⟨n,Nat.lt_succ_self _,(IntKind.i64.wrap (x1 + (1:Int))),g,rfl,(hst.pick [0,1,2,3,4] rfl),hb,H1⟩
   ·replace H1:=Zo hc2 H1
    refine wp_exit ?_
    refine Zb7 ?_
    refine Zb7 ?_
    refine Zct ?_
    exact ⟨g,rfl,(hst.pick [] rfl),hb,Option.some.inj H1⟩
theorem Zkx (a0:Za) {r:Int} (h:Zd0 a0=some r):FnOk Tryd.prog 23 [(Zc.pd a0)] (pInt .i64 r):=by
 have H0:=h
 unfold Zd0 at H0
 clear h
 refine Zbt (N:=83) Tryd.func23 rfl rfl (Qe rfl) rfl rfl (fun a g0 hst hb=>?_)
 refine r_s (T:=[⟨[.o 0],_,[],[],[1]⟩,⟨[],_,[],[],[2]⟩]) (F:=[.p 0 0]) hst hb Zb
  (Qb rfl u_0<|Qa rfl c_i<|o_n) (fun a g hst hb=>?_)
 obtain ⟨r1,h2,H0⟩:=Zf H0
 refine r_s (T:=[⟨[.o 0],_,[],[],[4]⟩,⟨[.p 0 0],_,[],[0],[5]⟩,⟨[.p 1 0],_,[],[0,1],[6]⟩,⟨[],[(3,(pBox Zcr 3 (default:Zby)))],[4],[],[3]⟩,⟨[.p 2 0,.p 3 0],_,[4],Lr 4,[3]⟩]) (F:=[.o 0,.p 4 0]) hst hb Zb
  (Qf rfl Zde u_0<|Ql rfl ty_3 u_0<|o_p rfl (Zr Z70 (Zt9 _ h2) rfl rfl (.cons u_0 .nil))<|o_p rfl (Zbm (zs:=[.bool false,.bool false,.bool false,.bool false,.bool false]) (by kernel_rfl) (fun g=>Zp2 g) rfl rfl)<|o_p rfl (Zb9 Zjc rfl rfl u_1 u_0)<|o_n) (fun a g hst hb=>?_)
 refine wp_seq ?_
 refine wp_block ?_
 refine r_s (T:=[⟨[.o 0],_,[],[],[8]⟩,⟨[.p 0 0],_,[],[0],[9]⟩,⟨[.p 1 0],_,[],[0,1],[10]⟩,⟨[.p 2 0],_,[],[0,1,2],[11]⟩,⟨[.p 3 0,.o 0],_,[],Lr 4,[12]⟩,⟨[.p 3 0,.p 4 0],_,[],Lr 5,[13]⟩,⟨[.p 3 0,.p 5 0],_,[],Lr 6,[14]⟩,⟨[.p 3 0,.p 6 0],_,[],Lr 7,[15]⟩,⟨[.p 7 0],_,[],Lr 8,[7]⟩]) (F:=[.o 0,.o 1,.p 8 0]) hst hb Zb
  (Qf rfl Zde u_0<|Ql rfl ty_3 u_0<|o_p rfl (Z2t rfl rfl u_0 c_i)<|Qm rfl u_0<|o_g (Qg_f rfl (fun hG=>Zj Zde rfl rfl u_0))<|o_g (Qg_f rfl (fun hG=>Zs ty_3 rfl rfl (Opd.gd hG u_0)))<|o_g (Qg_f rfl (fun hG=>Zkz rfl rfl (Opd.gd hG u_0) c_i))<|o_p rfl (Zbl rfl rfl u_0 (fun hz=>(Opd.gd (bNF hz) u_1)))<|Qa rfl u_0<|o_n) (fun a g hst hb=>?_)
 refine wp_cond_split (hst.bool 2 rfl) (fun hc3=>?_) (fun hc3=>?_)
 ·replace H0:=Zn hc3 H0
  refine r_s (L:=[]) (T:=[⟨[],_,[],[],[2]⟩]) (F:=[.p 0 0]) (hst.pick [] rfl) hb Zb
   (Qa rfl c_i<|o_n) (fun a g hst hb=>?_)
  refine wp_ret ?_
  refine Zv ?_
  refine Zk ?_
  obtain rfl:=Option.some.inj H0
  exact Zz rfl hst hb (Zg (s:=2)) (hst.at 0 rfl)
 ·replace H0:=Zo hc3 H0
  obtain ⟨r4,h5,H0⟩:=Zf H0
  refine r_s (L:=[(1,_),(3,_)]) (T:=[⟨[.o 0],_,[],[],[17]⟩,⟨[.o 1],_,[],[],[18]⟩,⟨[.p 0 0,.p 1 0],_,[],[0,1],[19]⟩,⟨[.p 2 0],_,[],[0,1,2],[20]⟩,⟨[.p 3 0],_,[],Lr 4,[16]⟩]) (F:=[.o 0,.o 1,.p 4 0]) (hst.pick [0,1] rfl) hb Zb
   (Ql rfl Z0 u_0<|Ql rfl Zjc u_0<|o_p rfl (Zr Z76 (Zwv _ _ h5) rfl rfl (.cons u_0 (.cons u_1 .nil)))<|Qn rfl u_0<|Qa rfl u_0<|o_n) (fun a g hst hb=>?_)
  refine wp_cond_split (hst.bool 2 rfl) (fun hc6=>?_) (fun hc6=>?_)
  ·replace H0:=Zn hc6 H0
   refine r_s (L:=[]) (T:=[⟨[],_,[],[],[2]⟩]) (F:=[.p 0 0]) (hst.pick [] rfl) hb Zb
    (Qa rfl c_i<|o_n) (fun a g hst hb=>?_)
   refine wp_ret ?_
   refine Zv ?_
   refine Zk ?_
   obtain rfl:=Option.some.inj H0
   exact Zz rfl hst hb (Zg (s:=2)) (hst.at 0 rfl)
  ·replace H0:=Zo hc6 H0
   refine r_s (L:=[(1,_),(3,_)]) (T:=[⟨[.o 0],_,[],[],[22]⟩,⟨[.p 0 0],_,[],[0],[23]⟩,⟨[.p 1 0],_,[],[0,1],[24]⟩,⟨[.p 2 0],_,[],[0,1,2],[25]⟩,⟨[.p 3 0],_,[],Lr 4,[21]⟩]) (F:=[.o 0,.o 1,.p 4 0]) (hst.pick [0,1] rfl) hb Zb
    (Qf rfl Zhc u_0<|Ql rfl ty_9 u_0<|o_p rfl (Zff Tryd.underlying9 rfl rfl u_0)<|o_p rfl (Zcf rfl rfl u_0 c_i)<|Qa rfl u_0<|o_n) (fun a g hst hb=>?_)
   refine wp_cond_split (hst.bool 2 rfl) (fun hc7=>?_) (fun hc7=>?_)
   ·replace H0:=Zn hc7 H0
    refine r_s (L:=[]) (T:=[⟨[],_,[],[],[2]⟩]) (F:=[.p 0 0]) (hst.pick [] rfl) hb Zb
     (Qa rfl c_i<|o_n) (fun a g hst hb=>?_)
    refine wp_ret ?_
    refine Zv ?_
    refine Zk ?_
    obtain rfl:=Option.some.inj H0
    exact Zz rfl hst hb (Zg (s:=2)) (hst.at 0 rfl)
   ·replace H0:=Zo hc7 H0
    refine r_s (L:=[(1,_),(3,_)]) (T:=⟨[.o 1],_,[],[],[27]⟩ :: ⟨[.p 0 0],_,[],[0],[28]⟩ :: ⟨[.p 1 0],_,[],[0,1],[29]⟩ :: ⟨[.p 2 0,.o 0],_,[],[0,1,2],[30]⟩ :: ⟨[.p 2 0,.p 3 0],_,[],Lr 4,[31]⟩ :: ⟨[.p 2 0,.p 4 0],_,[],Lr 5,[32]⟩ :: ⟨[.p 2 0,.p 5 0],_,[],Lr 6,[33]⟩ :: ⟨[.p 6 0,.o 0],_,[],Lr 7,[34]⟩ :: ⟨[.p 6 0,.p 7 0],_,[],Lr 8,[35]⟩ :: ⟨[.p 6 0,.p 8 0],_,[],Lr 9,[36]⟩ :: ⟨[.p 2 0,.p 6 0,.p 9 0],_,[],Lr 10,[37]⟩ :: ⟨[.p 2 0,.p 10 0],_,[],Lr 11,[38]⟩ :: ⟨[.p 11 0,.o 0],_,[],Lr 12,[39]⟩ :: ⟨[.p 11 0,.p 12 0],_,[],Lr 13,[40]⟩ :: ⟨[.p 11 0,.o 0],_,[],Lr 12,[41]⟩ :: ⟨[.p 11 0,.p 14 0],_,[],0 :: 1 :: 2 :: 3 :: 4 :: 5 :: 6 :: 7 :: 8 :: 9 :: 10 :: 11 :: 14 :: [],[42]⟩ :: ⟨[.p 11 0,.p 13 0,.p 15 0],_,[],Lr 16,[43]⟩ :: ⟨[.p 2 0,.p 11 0,.p 16 0],_,[],Lr 17,[44]⟩ :: ⟨[.p 2 0,.p 17 0],_,[],Lr 18,[45]⟩ :: ⟨[.p 18 0,.o 0],_,[],Lr 19,[46]⟩ :: ⟨[.p 18 0,.p 19 0],_,[],Lr 20,[47]⟩ :: ⟨[.p 18 0,.o 0],_,[],Lr 19,[48]⟩ :: ⟨[.p 18 0,.p 21 0],_,[],0 :: 1 :: 2 :: 3 :: 4 :: 5 :: 6 :: 7 :: 8 :: 9 :: 10 :: 11 :: 12 :: 13 :: 14 :: 15 :: 16 :: 17 :: 18 :: 21 :: [],[49]⟩ :: ⟨[.p 18 0,.p 20 0,.p 22 0],_,[],Lr 23,[50]⟩ :: ⟨[.p 2 0,.p 18 0,.p 23 0],_,[],Lr 24,[51]⟩ :: ⟨[.p 2 0,.p 24 0],_,[],Lr 25,[52]⟩ :: ⟨[.p 25 0],_,[],Lr 26,[26]⟩ :: []) (F:=[.o 0,.o 1,.p 26 0]) (hst.pick [0,1] rfl) hb Zb
     (Qf rfl Zxo u_0<|Ql rfl ty_4 u_0<|Qm rfl u_0<|o_g (Qg_t rfl (fun hG=>Zj Zha rfl rfl u_0))<|o_g (Qg_t rfl (fun hG=>Zs ty_2 rfl rfl (Opd.gd hG u_0)))<|o_g (Qg_t rfl (fun hG=>Zb6 rfl rfl (Opd.gd hG u_0) c_i))<|o_g (Qg_t rfl (fun hG=>Zy rfl rfl (Opd.gd hG u_0)))<|o_g (Qg_fi rfl (fun hG=>Zj Zg9 rfl rfl u_0))<|o_g (Qg_fi rfl (fun hG=>Zs ty_2 rfl rfl (Opd.gd hG u_0)))<|o_g (Qg_fi rfl (fun hG=>Zcf rfl rfl (Opd.gd hG u_0) c_i))<|o_g (Qg_t rfl (fun hG=>Zbl rfl rfl (Opd.gd hG u_0) (fun hz=>(Opd.gd (bA hG (bNF hz)) u_1))))<|o_g (Qg_t rfl (fun hG=>Zy rfl rfl (Opd.gd hG u_0)))<|o_g (Qg_fi rfl (fun hG=>Zj Zb2 rfl rfl u_0))<|o_g (Qg_fi rfl (fun hG=>Zs ty_2 rfl rfl (Opd.gd hG u_0)))<|o_g (Qg_fi rfl (fun hG=>Zj Zha rfl rfl u_0))<|o_g (Qg_fi rfl (fun hG=>Zs ty_2 rfl rfl (Opd.gd hG u_0)))<|o_g (Qg_fi rfl (fun hG=>Zb6 rfl rfl (Opd.gd hG u_0) (Opd.gd hG u_1)))<|o_g (Qg_t rfl (fun hG=>Zbl rfl rfl (Opd.gd hG u_0) (fun hz=>(Opd.gd (bA hG (bNF hz)) u_1))))<|o_g (Qg_t rfl (fun hG=>Zy rfl rfl (Opd.gd hG u_0)))<|o_g (Qg_fi rfl (fun hG=>Zj Zb2 rfl rfl u_0))<|o_g (Qg_fi rfl (fun hG=>Zs ty_2 rfl rfl (Opd.gd hG u_0)))<|o_g (Qg_fi rfl (fun hG=>Zj Zg9 rfl rfl u_0))<|o_g (Qg_fi rfl (fun hG=>Zs ty_2 rfl rfl (Opd.gd hG u_0)))<|o_g (Qg_fi rfl (fun hG=>Zcf rfl rfl (Opd.gd hG u_0) (Opd.gd hG u_1)))<|o_g (Qg_t rfl (fun hG=>Zbl rfl rfl (Opd.gd hG u_0) (fun hz=>(Opd.gd (bA hG (bNF hz)) u_1))))<|o_p rfl (Zbe rfl rfl u_0 (fun hz=>(Opd.gd hz u_1)))<|Qa rfl u_0<|o_n) (fun a g hst hb=>?_)
    refine wp_cond_split (hst.bool 2 rfl) (fun hc8=>?_) (fun hc8=>?_)
    ·replace H0:=Zn hc8 H0
     refine r_s (L:=[]) (T:=[⟨[],_,[],[],[2]⟩]) (F:=[.p 0 0]) (hst.pick [] rfl) hb Zb
      (Qa rfl c_i<|o_n) (fun a g hst hb=>?_)
     refine wp_ret ?_
     refine Zv ?_
     refine Zk ?_
     obtain rfl:=Option.some.inj H0
     exact Zz rfl hst hb (Zg (s:=2)) (hst.at 0 rfl)
    ·replace H0:=Zo hc8 H0
     obtain ⟨r9,h10,H0⟩:=Zf H0
     refine r_s (L:=[(1,_),(3,_)]) (T:=[⟨[.o 0],_,[],[],[54]⟩,⟨[.p 0 0],_,[],[0],[55]⟩,⟨[.p 1 0],_,[],[0,1],[56]⟩,⟨[.p 2 0],_,[],[0,1,2],[57]⟩,⟨[.p 3 0],_,[],Lr 4,[53]⟩]) (F:=[.o 0,.o 1,.p 4 0]) (hst.pick [0,1] rfl) hb Zb
      (Qf rfl Zdi u_0<|Ql rfl Zb8 u_0<|o_p rfl (Zr Zza (Zlw _ h10) rfl rfl (.cons u_0 .nil))<|Qn rfl u_0<|Qa rfl u_0<|o_n) (fun a g hst hb=>?_)
     refine wp_cond_split (hst.bool 2 rfl) (fun hc11=>?_) (fun hc11=>?_)
     ·replace H0:=Zn hc11 H0
      refine r_s (L:=[]) (T:=[⟨[],_,[],[],[2]⟩]) (F:=[.p 0 0]) (hst.pick [] rfl) hb Zb
       (Qa rfl c_i<|o_n) (fun a g hst hb=>?_)
      refine wp_ret ?_
      refine Zv ?_
      refine Zk ?_
      obtain rfl:=Option.some.inj H0
      exact Zz rfl hst hb (Zg (s:=2)) (hst.at 0 rfl)
     ·replace H0:=Zo hc11 H0
      refine r_s (L:=[(1,_),(3,_)]) (T:=[⟨[.o 1],_,[],[],[59]⟩,⟨[.p 0 0],_,[],[0],[60]⟩,⟨[.p 1 0],_,[],[0,1],[61]⟩,⟨[.p 2 0],_,[],[0,1,2],[58]⟩]) (F:=[.o 0,.p 3 0]) (hst.pick [0,1] rfl) hb Zb
       (Qf rfl Zxu u_0<|Ql rfl ty_4 u_0<|Qn rfl u_0<|Qa rfl u_0<|o_n) (fun a g hst hb=>?_)
      refine wp_cond_split (hst.bool 1 rfl) (fun hc12=>?_) (fun hc12=>?_)
      ·replace H0:=Zn hc12 H0
       refine r_s (L:=[]) (T:=[⟨[],_,[],[],[2]⟩]) (F:=[.p 0 0]) (hst.pick [] rfl) hb Zb
        (Qa rfl c_i<|o_n) (fun a g hst hb=>?_)
       refine wp_ret ?_
       refine Zv ?_
       refine Zk ?_
       obtain rfl:=Option.some.inj H0
       exact Zz rfl hst hb (Zg (s:=2)) (hst.at 0 rfl)
      ·replace H0:=Zo hc12 H0
       refine r_s (L:=[(1,_)]) (T:=[⟨[.o 0],_,[],[],[63]⟩,⟨[.p 0 0],_,[],[0],[64]⟩,⟨[.p 1 0],_,[],[0,1],[65]⟩,⟨[.p 2 0],_,[],[0,1,2],[66]⟩,⟨[.p 3 0,.o 0],_,[],Lr 4,[67]⟩,⟨[.p 3 0,.p 4 0],_,[],Lr 5,[68]⟩,⟨[.p 3 0,.p 5 0],_,[],Lr 6,[69]⟩,⟨[.p 3 0,.p 6 0],_,[],Lr 7,[70]⟩,⟨[.p 7 0],_,[],Lr 8,[62]⟩]) (F:=[.o 0,.p 8 0]) (hst.pick [0] rfl) hb Zb
        (Qf rfl Zet u_0<|Ql rfl ty_3 u_0<|o_p rfl (Zb6 rfl rfl u_0 c_i)<|Qm rfl u_0<|o_g (Qg_f rfl (fun hG=>Zj Zet rfl rfl u_0))<|o_g (Qg_f rfl (fun hG=>Zs ty_3 rfl rfl (Opd.gd hG u_0)))<|o_g (Qg_f rfl (fun hG=>Zcf rfl rfl (Opd.gd hG u_0) c_i))<|o_p rfl (Zbl rfl rfl u_0 (fun hz=>(Opd.gd (bNF hz) u_1)))<|Qa rfl u_0<|o_n) (fun a g hst hb=>?_)
       refine wp_cond_split (hst.bool 1 rfl) (fun hc13=>?_) (fun hc13=>?_)
       ·replace H0:=Zn hc13 H0
        refine r_s (L:=[]) (T:=[⟨[],_,[],[],[2]⟩]) (F:=[.p 0 0]) (hst.pick [] rfl) hb Zb
         (Qa rfl c_i<|o_n) (fun a g hst hb=>?_)
        refine wp_ret ?_
        refine Zv ?_
        refine Zk ?_
        obtain rfl:=Option.some.inj H0
        exact Zz rfl hst hb (Zg (s:=2)) (hst.at 0 rfl)
       ·replace H0:=Zo hc13 H0
        refine r_s (L:=[(1,_)]) (T:=[⟨[.o 0],_,[],[],[72]⟩,⟨[.p 0 0],_,[],[0],[73]⟩,⟨[.p 1 0],_,[],[0,1],[74]⟩,⟨[.o 0],_,[],[],[75]⟩,⟨[.p 3 0],_,[],[3],[76]⟩,⟨[.p 2 0,.p 4 0],_,[],Lr 5,[77]⟩,⟨[.p 5 0],_,[],Lr 6,[71]⟩]) (F:=[.o 0,.p 6 0]) (hst.pick [0] rfl) hb Zb
         (Qf rfl Zbw u_0<|Ql rfl Zcg u_0<|o_p rfl (Zcc Tryd.underlying23 rfl rfl u_0)<|Qf rfl Zet u_0<|Ql rfl ty_3 u_0<|o_p rfl (Zcf rfl rfl u_0 u_1)<|Qa rfl u_0<|o_n) (fun a g hst hb=>?_)
        refine wp_cond_split (hst.bool 1 rfl) (fun hc14=>?_) (fun hc14=>?_)
        ·replace H0:=Zn hc14 H0
         refine r_s (L:=[]) (T:=[⟨[],_,[],[],[2]⟩]) (F:=[.p 0 0]) (hst.pick [] rfl) hb Zb
          (Qa rfl c_i<|o_n) (fun a g hst hb=>?_)
         refine wp_ret ?_
         refine Zv ?_
         refine Zk ?_
         obtain rfl:=Option.some.inj H0
         exact Zz rfl hst hb (Zg (s:=2)) (hst.at 0 rfl)
        ·replace H0:=Zo hc14 H0
         refine wp_skip ?_
         refine Z4 ?_
         refine Zm ?_
         obtain ⟨r15,h16,H0⟩:=Zf H0
         refine r_s (L:=[(1,_)]) (T:=[⟨[.o 0],_,[],[],[78]⟩,⟨[.p 0 0],_,[],[0],[79]⟩,⟨[.o 0],_,[],[],[80]⟩,⟨[.p 2 0],_,[],[2],[81]⟩,⟨[.p 1 0,.p 3 0],_,[],Lr 4,[82]⟩,⟨[.p 4 0],_,[],Lr 5,[2]⟩]) (F:=[.p 5 0]) (hst.pick [0] rfl) hb Zb
          (Qf rfl Zde u_0<|Ql rfl ty_3 u_0<|Qf rfl Zbw u_0<|Ql rfl Zcg u_0<|o_p rfl (Zr Z7h (Zvi _ _ h16) rfl rfl (.cons u_0 (.cons u_1 .nil)))<|Qa rfl u_0<|o_n) (fun a g hst hb=>?_)
         refine wp_ret ?_
         obtain rfl:=Option.some.inj H0
         exact Zz rfl hst hb (Zg (s:=2)) (hst.at 0 rfl)
theorem Zwp (a0:Int) {r:Nat} (h:Zn3 a0=some r):FnOk Tryd.prog 32 [(pInt .i64 a0)] (pFlt r):=by
 have H0:=h
 unfold Zn3 at H0
 clear h
 refine Zbt (N:=8) Tryd.func32 rfl rfl (Qe rfl) rfl rfl (fun a g0 hst hb=>?_)
 refine r_s (T:=[⟨[],_,[],[],[2]⟩]) (F:=[.o 0]) hst hb Zb
  (Qa rfl c_f<|o_n) (fun a g hst hb=>?_)
 refine r_s (T:=[⟨[],_,[],[],[3]⟩]) (F:=[.o 0]) hst hb Zb
  (Qa rfl c_i<|o_n) (fun a g hst hb=>?_)
 refine wp_seq ?_
 refine r_s (T:=[⟨[.o 0],_,[],[],[4]⟩,⟨[.p 0 0],_,[],[0],[5]⟩]) (F:=[.p 1 0]) hst hb Zb
  (Qm rfl u_0<|o_p rfl (Zkz rfl rfl u_0 c_i)<|o_n) (fun a g hst hb=>?_)
 refine Zbz (fun a w=>∃ (j2:Int) (g:G),w=g.w ∧ St 8 [(3,(pInt .u64 j2))] a g ∧ Base g0 g ∧ Zlg j2=some r) ?_ ?_
 ·rintro a w ⟨j2,g,rfl,hst,hb,H0⟩
  unfold Zlg at H0
  refine Zm ?_
  refine r_s (T:=[⟨[.o 0],_,[],[],[6]⟩,⟨[.p 0 0],_,[],[0],[7]⟩,⟨[.p 1 0],_,[],[0,1],[2]⟩]) (F:=[.p 2 0]) hst hb Zb
   (Qm rfl u_0<|o_p rfl (Zlf Zuu rfl rfl u_0)<|Qa rfl u_0<|o_n) (fun a g hst hb=>?_)
  refine wp_ret ?_
  obtain rfl:=Option.some.inj H0
  exact Zz rfl hst hb (Zg (s:=2)) (hst.at 0 rfl)
 ·refine wp_cond_split (hst.bool 0 rfl) (fun hc1=>?_) (fun hc1=>?_)
  ·replace H0:=Zn hc1 H0
   refine r_g (L:=[]) (T:=[⟨[],_,[],[],[3]⟩]) (F:=[.p 0 0]) (hst.pick [] rfl) hb Zb
    (Qa rfl c_i<|o_n) (fun a g hst hb=>?_)
   exact ⟨(9218868437227405312:Int),g,rfl,(hst.pick [0] rfl),hb,H0⟩
  ·replace H0:=Zo hc1 H0
   refine r_g (L:=[]) (T:=[⟨[],_,[],[],[3]⟩]) (F:=[.p 0 0]) (hst.pick [] rfl) hb Zb
    (Qa rfl c_i<|o_n) (fun a g hst hb=>?_)
   exact ⟨(18442240474082181120:Int),g,rfl,(hst.pick [0] rfl),hb,H0⟩
theorem Zk5 (a0:Za) {r:Za × Bool} (h:Zfa a0=some r):FnOk Tryd.prog 10 [(Zc.pd a0)] (pTup [(Zc.pd r.1),(Zba r.2)]):=by
 have H0:=h
 unfold Zfa at H0
 clear h
 refine Zbt (N:=32) Tryd.func10 rfl rfl (Qe rfl) rfl rfl (fun a g0 hst hb=>?_)
 refine r_s (T:=[⟨[.o 0],_,[],[],[1]⟩,⟨[],[(2,(pBox Zc 2 (default:Za)))],[3],[],[2]⟩,⟨[],_,[],[],[3]⟩]) (F:=[.p 0 0,.p 1 0]) hst hb Zb
  (Qb rfl u_0<|o_p rfl (Zbm (zs:=[.int .i64 0,.int .i64 0,.int .i64 0,.int .i64 0,.float .f64 0,.int .i64 0,.string ByteArray.empty,.slice none 0 0]) (by kernel_rfl) (fun g=>Zbr g) rfl rfl)<|Qa rfl c_b<|o_n) (fun a g hst hb=>?_)
 refine wp_seq ?_
 obtain ⟨r1,h2,H0⟩:=Zf H0
 refine r_s (T:=[⟨[.o 0],_,[],[],[4]⟩,⟨[.p 0 0],_,[],[0],[5]⟩,⟨[.p 1 0],_,[],[0,1],[6]⟩]) (F:=[.o 0,.o 1,.p 2 0]) hst hb Zb
  (Ql rfl Z0 u_0<|o_p rfl (Zr Zur (Zkx _ h2) rfl rfl (.cons u_0 .nil))<|o_p rfl (Zdq rfl rfl u_0 c_i)<|o_n) (fun a g hst hb=>?_)
 refine wp_cond_split (hst.bool 2 rfl) (fun hc3=>?_) (fun hc3=>?_)
 ·replace H0:=Zn hc3 H0
  refine r_s (L:=[(2,_)]) (T:=[⟨[],_,[],[],[7]⟩,⟨[.p 0 0,.o 0],_,[3],[0],[2]⟩,⟨[],_,[],[0,1],[3]⟩]) (F:=[.p 1 0,.p 2 0]) (hst.pick [1] rfl) hb Zb
   (o_p rfl (Zlk rfl rfl )<|o_p rfl (Z6 Z0 rfl rfl u_1 u_0)<|Qa rfl c_b<|o_n) (fun a g hst hb=>?_)
  refine wp_ret ?_
  refine Zk ?_
  obtain rfl:=Option.some.inj H0
  obtain ⟨u0,hu0,hq0⟩:=Zbh (P:=Tryd.prog) Z0 (hst.at 0 rfl)
  exact Zgx rfl hst hb hu0 (Zg (s:=3)) (Zfb hq0 (hst.at 1 rfl))
 ·replace H0:=Zo hc3 H0
  refine wp_skip ?_
  refine Zm ?_
  refine wp_seq ?_
  refine r_s (L:=[(1,_),(2,_)]) (T:=[⟨[.o 0],_,[],[],[8]⟩,⟨[.p 0 0],_,[],[0],[9]⟩]) (F:=[.o 0,.o 1,.p 1 0]) (hst.pick [0,1] rfl) hb Zb
   (Qf rfl Zde u_0<|Ql rfl ty_3 u_0<|o_n) (fun a g hst hb=>?_)
  refine wp_block ?_
  refine wp_seq ?_
  refine r_s (T:=[⟨[.o 2],_,[],[],[11]⟩,⟨[.p 0 0],_,[],[0],[10]⟩]) (F:=[.o 0,.o 1,.o 2,.p 1 0]) hst hb Zb
   (o_p rfl (Z8 rfl rfl u_0 c_i)<|Qa rfl u_0<|o_n) (fun a g hst hb=>?_)
  refine Zbz (fun a w=>∃ (j6:Bool) (g:G),w=g.w ∧ St 32 [(1,(Zc.ptr a0)),(2,(pBox Zc 2 (default:Za))),(9,(pInt .i64 a0.Kind)),(10,(Zba j6))] a g ∧ Base g0 g ∧ Zf7 a0 j6=some r) ?_ ?_
  ·rintro a w ⟨j6,g,rfl,hst,hb,H0⟩
   unfold Zf7 at H0
   refine Zm ?_
   refine wp_cond_split (hst.bool 3 rfl) (fun hc7=>?_) (fun hc7=>?_)
   ·replace H0:=Zn hc7 H0
    refine r_s (L:=[(2,_)]) (T:=[⟨[],_,[],[],[14]⟩,⟨[.p 0 0,.o 0],_,[3],[0],[2]⟩,⟨[],_,[],[0,1],[3]⟩]) (F:=[.p 1 0,.p 2 0]) (hst.pick [1] rfl) hb Zb
     (o_p rfl (Z5c rfl rfl c_i)<|o_p rfl (Z6 Z0 rfl rfl u_1 u_0)<|Qa rfl c_b<|o_n) (fun a g hst hb=>?_)
    refine wp_ret ?_
    refine Zv ?_
    refine Zk ?_
    obtain rfl:=Option.some.inj H0
    obtain ⟨u0,hu0,hq0⟩:=Zbh (P:=Tryd.prog) Z0 (hst.at 0 rfl)
    exact Zgx rfl hst hb hu0 (Zg (s:=3)) (Zfb hq0 (hst.at 1 rfl))
   ·replace H0:=Zo hc7 H0
    refine r_s (L:=[(1,_),(2,_),(9,_)]) (T:=[⟨[.o 2],_,[],[],[16]⟩,⟨[.p 0 0],_,[],[0],[15]⟩]) (F:=[.o 0,.o 1,.o 2,.p 1 0]) (hst.pick [0,1,2] rfl) hb Zb
     (o_p rfl (Z8 rfl rfl u_0 c_i)<|Qa rfl u_0<|o_n) (fun a g hst hb=>?_)
    refine wp_cond_split (hst.bool 3 rfl) (fun hc8=>?_) (fun hc8=>?_)
    ·replace H0:=Zn hc8 H0
     obtain ⟨r9,h10,H0⟩:=Zf H0
     refine r_s (L:=[(2,_)]) (T:=[⟨[],_,[],[],[17]⟩,⟨[.p 0 0],_,[],[0],[18]⟩,⟨[.p 1 0,.o 0],_,[3],[0,1],[2]⟩,⟨[],_,[],[0,1,2],[3]⟩]) (F:=[.p 2 0,.p 3 0]) (hst.pick [1] rfl) hb Zb
      (o_p rfl (Zr Z7m (Zwp _ h10) rfl rfl (.cons c_i .nil))<|o_p rfl (Ztd rfl rfl c_i u_0)<|o_p rfl (Z6 Z0 rfl rfl u_1 u_0)<|Qa rfl c_b<|o_n) (fun a g hst hb=>?_)
     refine wp_ret ?_
     refine Zv ?_
     refine Zk ?_
     obtain rfl:=Option.some.inj H0
     obtain ⟨u0,hu0,hq0⟩:=Zbh (P:=Tryd.prog) Z0 (hst.at 0 rfl)
     exact Zgx rfl hst hb hu0 (Zg (s:=3)) (Zfb hq0 (hst.at 1 rfl))
    ·replace H0:=Zo hc8 H0
     refine r_s (L:=[(1,_),(2,_),(9,_)]) (T:=[⟨[.o 2],_,[],[],[20]⟩,⟨[.p 0 0],_,[],[0],[19]⟩]) (F:=[.o 0,.o 1,.o 2,.p 1 0]) (hst.pick [0,1,2] rfl) hb Zb
      (o_p rfl (Z8 rfl rfl u_0 c_i)<|Qa rfl u_0<|o_n) (fun a g hst hb=>?_)
     refine wp_cond_split (hst.bool 3 rfl) (fun hc11=>?_) (fun hc11=>?_)
     ·replace H0:=Zn hc11 H0
      obtain ⟨r12,h13,H0⟩:=Zf H0
      refine r_s (L:=[(2,_)]) (T:=[⟨[],_,[],[],[21]⟩,⟨[.p 0 0],_,[],[0],[22]⟩,⟨[.p 1 0,.o 0],_,[3],[0,1],[2]⟩,⟨[],_,[],[0,1,2],[3]⟩]) (F:=[.p 2 0,.p 3 0]) (hst.pick [1] rfl) hb Zb
       (o_p rfl (Zr Z3o (Zq5 h13) rfl rfl .nil)<|o_p rfl (Ztd rfl rfl c_i u_0)<|o_p rfl (Z6 Z0 rfl rfl u_1 u_0)<|Qa rfl c_b<|o_n) (fun a g hst hb=>?_)
      refine wp_ret ?_
      refine Zv ?_
      refine Zk ?_
      obtain rfl:=Option.some.inj H0
      obtain ⟨u0,hu0,hq0⟩:=Zbh (P:=Tryd.prog) Z0 (hst.at 0 rfl)
      exact Zgx rfl hst hb hu0 (Zg (s:=3)) (Zfb hq0 (hst.at 1 rfl))
     ·replace H0:=Zo hc11 H0
      refine r_s (L:=[(1,_),(2,_),(9,_)]) (T:=[⟨[.o 2],_,[],[],[24]⟩,⟨[.p 0 0],_,[],[0],[23]⟩]) (F:=[.o 0,.o 1,.o 2,.p 1 0]) (hst.pick [0,1,2] rfl) hb Zb
       (o_p rfl (Z8 rfl rfl u_0 c_i)<|Qa rfl u_0<|o_n) (fun a g hst hb=>?_)
      refine wp_cond_split (hst.bool 3 rfl) (fun hc14=>?_) (fun hc14=>?_)
      ·replace H0:=Zn hc14 H0
       refine r_s (L:=[(2,_)]) (T:=[⟨[],_,[],[],[25]⟩,⟨[.p 0 0,.o 0],_,[3],[0],[2]⟩,⟨[],_,[],[0,1],[3]⟩]) (F:=[.p 1 0,.p 2 0]) (hst.pick [1] rfl) hb Zb
        (o_p rfl (Ztt rfl rfl c_i c_i)<|o_p rfl (Z6 Z0 rfl rfl u_1 u_0)<|Qa rfl c_b<|o_n) (fun a g hst hb=>?_)
       refine wp_ret ?_
       refine Zv ?_
       refine Zk ?_
       obtain rfl:=Option.some.inj H0
       obtain ⟨u0,hu0,hq0⟩:=Zbh (P:=Tryd.prog) Z0 (hst.at 0 rfl)
       exact Zgx rfl hst hb hu0 (Zg (s:=3)) (Zfb hq0 (hst.at 1 rfl))
      ·replace H0:=Zo hc14 H0
       refine r_s (L:=[(1,_),(2,_),(9,_)]) (T:=[⟨[.o 2],_,[],[],[27]⟩,⟨[.p 0 0],_,[],[0],[26]⟩]) (F:=[.o 0,.o 1,.p 1 0]) (hst.pick [0,1,2] rfl) hb Zb
        (o_p rfl (Z8 rfl rfl u_0 c_i)<|Qa rfl u_0<|o_n) (fun a g hst hb=>?_)
       refine wp_cond_split (hst.bool 2 rfl) (fun hc15=>?_) (fun hc15=>?_)
       ·replace H0:=Zn hc15 H0
        refine r_s (L:=[(1,_),(2,_)]) (T:=[⟨[.o 0],_,[],[],[28]⟩,⟨[.p 0 0],_,[],[0],[29]⟩,⟨[.p 1 0],_,[],[0,1],[30]⟩,⟨[.p 2 0,.o 1],_,[3],[0,1,2],[2]⟩,⟨[],_,[],Lr 4,[3]⟩]) (F:=[.p 3 0,.p 4 0]) (hst.pick [0,1] rfl) hb Zb
         (Qf rfl Zet u_0<|Ql rfl ty_3 u_0<|o_p rfl (Ztt rfl rfl c_i u_0)<|o_p rfl (Z6 Z0 rfl rfl u_1 u_0)<|Qa rfl c_b<|o_n) (fun a g hst hb=>?_)
        refine wp_ret ?_
        refine Zv ?_
        refine Zk ?_
        obtain rfl:=Option.some.inj H0
        obtain ⟨u0,hu0,hq0⟩:=Zbh (P:=Tryd.prog) Z0 (hst.at 0 rfl)
        exact Zgx rfl hst hb hu0 (Zg (s:=3)) (Zfb hq0 (hst.at 1 rfl))
       ·replace H0:=Zo hc15 H0
        refine wp_skip ?_
        refine Z4 ?_
        refine Zm ?_
        refine r_s (L:=[(2,_)]) (T:=[⟨[],_,[],[],[31]⟩,⟨[.p 0 0,.o 0],_,[3],[0],[2]⟩,⟨[],_,[],[0,1],[3]⟩]) (F:=[.p 1 0,.p 2 0]) (hst.pick [1] rfl) hb Zb
         (o_p rfl (Zlk rfl rfl )<|o_p rfl (Z6 Z0 rfl rfl u_1 u_0)<|Qa rfl c_b<|o_n) (fun a g hst hb=>?_)
        refine wp_ret ?_
        obtain rfl:=Option.some.inj H0
        obtain ⟨u0,hu0,hq0⟩:=Zbh (P:=Tryd.prog) Z0 (hst.at 0 rfl)
        exact Zgx rfl hst hb hu0 (Zg (s:=3)) (Zfb hq0 (hst.at 1 rfl))
  ·refine wp_cond_split (hst.bool 3 rfl) (fun hc4=>?_) (fun hc4=>?_)
   ·replace H0:=Zn hc4 H0
    refine wp_skip ?_
    exact ⟨(a0.Kind == (2:Int)),g,rfl,(hst.pick [0,1,2,3] rfl),hb,H0⟩
   ·replace H0:=Zo hc4 H0
    refine r_s (L:=[(1,_),(2,_),(9,_)]) (T:=[⟨[.o 2],_,[],[],[12]⟩,⟨[.p 0 0],_,[],[0],[10]⟩]) (F:=[.o 0,.o 1,.o 2,.p 1 0]) (hst.pick [0,1,2] rfl) hb Zb
     (o_p rfl (Z8 rfl rfl u_0 c_i)<|Qa rfl u_0<|o_n) (fun a g hst hb=>?_)
    refine wp_cond_split (hst.bool 3 rfl) (fun hc5=>?_) (fun hc5=>?_)
    ·replace H0:=Zn hc5 H0
     refine wp_skip ?_
     exact ⟨(a0.Kind == (3:Int)),g,rfl,(hst.pick [0,1,2,3] rfl),hb,H0⟩
    ·replace H0:=Zo hc5 H0
     refine r_g (L:=[(1,_),(2,_),(9,_)]) (T:=[⟨[.o 2],_,[],[],[13]⟩,⟨[.p 0 0],_,[],[0],[10]⟩]) (F:=[.o 0,.o 1,.o 2,.p 1 0]) (hst.pick [0,1,2] rfl) hb Zb
      (o_p rfl (Z8 rfl rfl u_0 c_i)<|Qa rfl u_0<|o_n) (fun a g hst hb=>?_)
     exact ⟨(a0.Kind == (4:Int)),g,rfl,(hst.pick [0,1,2,3] rfl),hb,H0⟩
theorem Ztj (a0:Int) {r:Zcy} (h:Zmg a0=some r):FnOk Tryd.prog 62 [(pInt .i64 a0)] (Zdv.pd r):=by
 have H0:=h
 unfold Zmg at H0
 clear h
 refine Zbt (N:=13) Tryd.func62 rfl rfl (Qe rfl) rfl rfl (fun a g0 hst hb=>?_)
 refine r_s (T:=[⟨[],[(2,(pBox Zdv 2 (default:Zcy)))],[3],[],[2]⟩]) (F:=[.o 0,.p 0 0]) hst hb Zb
  (o_p rfl (Zbm (zs:=[.string ByteArray.empty,.int .i64 0,.string ByteArray.empty]) (by kernel_rfl) (fun g=>Zq7 g) rfl rfl)<|o_n) (fun a g hst hb=>?_)
 refine wp_seq ?_
 refine r_s (T:=[⟨[.o 0],_,[],[],[3]⟩,⟨[.p 0 0],_,[],[0],[4]⟩,⟨[.p 1 0],_,[],[0,1],[5]⟩,⟨[.p 2 0,.o 0],_,[],[0,1,2],[6]⟩,⟨[.p 2 0,.p 3 0],_,[],Lr 4,[7]⟩,⟨[.p 2 0,.p 4 0],_,[],Lr 5,[8]⟩]) (F:=[.o 0,.o 1,.p 5 0]) hst hb Zb
  (Qm rfl u_0<|o_p rfl (Z2t rfl rfl u_0 c_i)<|Qm rfl u_0<|o_g (Qg_f rfl (fun hG=>Zy rfl rfl u_0))<|o_g (Qg_f rfl (fun hG=>Zkz rfl rfl (Opd.gd hG u_0) c_i))<|o_p rfl (Zbl rfl rfl u_0 (fun hz=>(Opd.gd (bNF hz) u_1)))<|o_n) (fun a g hst hb=>?_)
 refine wp_cond_split (hst.bool 2 rfl) (fun hc1=>?_) (fun hc1=>?_)
 ·replace H0:=Zn hc1 H0
  refine r_s (L:=[(2,_)]) (T:=[⟨[],_,[],[],[9]⟩,⟨[.p 0 0,.o 0],_,[3],[0],[2]⟩]) (F:=[.p 1 0]) (hst.pick [1] rfl) hb Zb
   (o_p rfl (Z5h rfl rfl )<|o_p rfl (Z6 Zi2 rfl rfl u_1 u_0)<|o_n) (fun a g hst hb=>?_)
  refine wp_ret ?_
  refine Zk ?_
  obtain rfl:=Option.some.inj H0
  obtain ⟨u0,hu0,hq0⟩:=Zbh (P:=Tryd.prog) Zi2 (hst.at 0 rfl)
  exact Zz rfl hst hb hu0 hq0
 ·replace H0:=Zo hc1 H0
  refine wp_skip ?_
  refine Zm ?_
  obtain ⟨e2,h3,H0⟩:=Zf H0
  refine r_s (L:=[(0,_),(2,_)]) (T:=[⟨[.o 0],_,[],[],[10]⟩,⟨[.p 0 0],_,[],[0],[11]⟩,⟨[.p 1 0],_,[],[0,1],[12]⟩,⟨[.p 2 0,.o 1],_,[3],[0,1,2],[2]⟩]) (F:=[.p 3 0]) (hst.pick [0,1] rfl) hb Zb
   (Qm rfl u_0<|o_p rfl (Zwr Tryd.underlying127 Z6d rfl rfl (Opd.glob gm_1 gk_1) u_0 h3)<|Ql rfl Zi2 u_0<|o_p rfl (Z6 Zi2 rfl rfl u_1 u_0)<|o_n) (fun a g hst hb=>?_)
  refine wp_ret ?_
  obtain rfl:=Option.some.inj H0
  obtain ⟨u0,hu0,hq0⟩:=Zbh (P:=Tryd.prog) Zi2 (hst.at 0 rfl)
  exact Zz rfl hst hb hu0 hq0
theorem Ztk (a0:Int) {r:Int} (h:Zek a0=some r):FnOk Tryd.prog 34 [(pInt .i64 a0)] (pInt .i64 r):=by
 have H0:=h
 unfold Zek at H0
 clear h
 refine Zbt (N:=6) Tryd.func34 rfl rfl (Qe rfl) rfl rfl (fun a g0 hst hb=>?_)
 refine r_s (T:=[⟨[],_,[],[],[2]⟩]) (F:=[.o 0]) hst hb Zb
  (Qa rfl c_i<|o_n) (fun a g hst hb=>?_)
 obtain ⟨r1,h2,H0⟩:=Zf H0
 refine r_s (T:=[⟨[.o 0],_,[],[],[3]⟩,⟨[.p 0 0],_,[],[0],[4]⟩,⟨[.p 1 0],_,[],[0,1],[5]⟩,⟨[.p 2 0],_,[],[0,1,2],[2]⟩]) (F:=[.p 3 0]) hst hb Zb
  (Qm rfl u_0<|o_p rfl (Zr Z2s (Ztj _ h2) rfl rfl (.cons u_0 .nil))<|o_p rfl (Zu5 Zvq rfl rfl u_0)<|Qa rfl u_0<|o_n) (fun a g hst hb=>?_)
 refine wp_ret ?_
 obtain rfl:=Option.some.inj H0
 exact Zz rfl hst hb (Zg (s:=2)) (hst.at 0 rfl)
theorem Zm7 (a0:Int) (a1:Int) {r:Bool} (h:Ze6 a0 a1=some r):FnOk Tryd.prog 12 [(pInt .i64 a0),(pInt .i64 a1)] (Zba r):=by
 have H0:=h
 unfold Ze6 at H0
 clear h
 refine Zbt (N:=19) Tryd.func12 rfl rfl (Qe rfl) rfl rfl (fun a g0 hst hb=>?_)
 refine r_s (T:=[⟨[],_,[],[],[4]⟩]) (F:=[.o 0,.o 1]) hst hb Zb
  (Qa rfl c_b<|o_n) (fun a g hst hb=>?_)
 refine wp_seq ?_
 refine r_s (T:=[⟨[.o 1],_,[],[],[5]⟩]) (F:=[.o 0,.o 1,.p 0 0]) hst hb Zb
  (Qm rfl u_0<|o_n) (fun a g hst hb=>?_)
 refine wp_block ?_
 refine wp_seq ?_
 refine r_s (T:=[⟨[.o 2],_,[],[],[7]⟩,⟨[.p 0 0],_,[],[0],[6]⟩]) (F:=[.o 0,.o 1,.o 2,.p 1 0]) hst hb Zb
  (o_p rfl (Z8 rfl rfl u_0 c_i)<|Qa rfl u_0<|o_n) (fun a g hst hb=>?_)
 refine Zbz (fun a w=>∃ (j8:Bool) (g:G),w=g.w ∧ St 19 [(0,(pInt .i64 a0)),(1,(pInt .i64 a1)),(6,(Zba j8))] a g ∧ Base g0 g ∧ Zcu a0 a1 j8=some r) ?_ ?_
 ·rintro a w ⟨j8,g,rfl,hst,hb,H0⟩
  unfold Zcu at H0
  refine Zm ?_
  refine wp_cond_split (hst.bool 2 rfl) (fun hc9=>?_) (fun hc9=>?_)
  ·replace H0:=Zn hc9 H0
   obtain ⟨r10,h11,H0⟩:=Zf H0
   refine r_s (L:=[(0,_),(1,_)]) (T:=[⟨[.o 1],_,[],[],[15]⟩,⟨[.p 0 0],_,[],[0],[16]⟩,⟨[.o 0],_,[],[],[17]⟩,⟨[.p 1 0,.p 2 0],_,[],[0,1,2],[18]⟩,⟨[.p 3 0],_,[],Lr 4,[4]⟩]) (F:=[.p 4 0]) (hst.pick [0,1] rfl) hb Zb
    (Qm rfl u_0<|o_p rfl (Zr Z21 (Ztk _ h11) rfl rfl (.cons u_0 .nil))<|Qm rfl u_0<|o_p rfl (Z8 rfl rfl u_0 u_1)<|Qa rfl u_0<|o_n) (fun a g hst hb=>?_)
   refine wp_ret ?_
   refine Zv ?_
   refine Zk ?_
   obtain rfl:=Option.some.inj H0
   exact Zz rfl hst hb (Zg (s:=4)) (hst.at 0 rfl)
  ·replace H0:=Zo hc9 H0
   refine wp_skip ?_
   refine Z4 ?_
   refine Zm ?_
   refine r_s (L:=[]) (T:=[⟨[],_,[],[],[4]⟩]) (F:=[.p 0 0]) (hst.pick [] rfl) hb Zb
    (Qa rfl c_b<|o_n) (fun a g hst hb=>?_)
   refine wp_ret ?_
   obtain rfl:=Option.some.inj H0
   exact Zz rfl hst hb (Zg (s:=4)) (hst.at 0 rfl)
 ·refine wp_cond_split (hst.bool 3 rfl) (fun hc1=>?_) (fun hc1=>?_)
  ·replace H0:=Zn hc1 H0
   refine wp_skip ?_
   exact ⟨(a1 == (7:Int)),g,rfl,(hst.pick [0,1,3] rfl),hb,H0⟩
  ·replace H0:=Zo hc1 H0
   refine r_s (L:=[(0,_),(1,_),(5,_)]) (T:=[⟨[.o 2],_,[],[],[8]⟩,⟨[.p 0 0],_,[],[0],[6]⟩]) (F:=[.o 0,.o 1,.o 2,.p 1 0]) (hst.pick [0,1,2] rfl) hb Zb
    (o_p rfl (Z8 rfl rfl u_0 c_i)<|Qa rfl u_0<|o_n) (fun a g hst hb=>?_)
   refine wp_cond_split (hst.bool 3 rfl) (fun hc2=>?_) (fun hc2=>?_)
   ·replace H0:=Zn hc2 H0
    refine wp_skip ?_
    exact ⟨(a1 == (8:Int)),g,rfl,(hst.pick [0,1,3] rfl),hb,H0⟩
   ·replace H0:=Zo hc2 H0
    refine r_s (L:=[(0,_),(1,_),(5,_)]) (T:=[⟨[.o 2],_,[],[],[9]⟩,⟨[.p 0 0],_,[],[0],[6]⟩]) (F:=[.o 0,.o 1,.o 2,.p 1 0]) (hst.pick [0,1,2] rfl) hb Zb
     (o_p rfl (Z8 rfl rfl u_0 c_i)<|Qa rfl u_0<|o_n) (fun a g hst hb=>?_)
    refine wp_cond_split (hst.bool 3 rfl) (fun hc3=>?_) (fun hc3=>?_)
    ·replace H0:=Zn hc3 H0
     refine wp_skip ?_
     exact ⟨(a1 == (10:Int)),g,rfl,(hst.pick [0,1,3] rfl),hb,H0⟩
    ·replace H0:=Zo hc3 H0
     refine r_s (L:=[(0,_),(1,_),(5,_)]) (T:=[⟨[.o 2],_,[],[],[10]⟩,⟨[.p 0 0],_,[],[0],[6]⟩]) (F:=[.o 0,.o 1,.o 2,.p 1 0]) (hst.pick [0,1,2] rfl) hb Zb
      (o_p rfl (Z8 rfl rfl u_0 c_i)<|Qa rfl u_0<|o_n) (fun a g hst hb=>?_)
     refine wp_cond_split (hst.bool 3 rfl) (fun hc4=>?_) (fun hc4=>?_)
     ·replace H0:=Zn hc4 H0
      refine wp_skip ?_
      exact ⟨(a1 == (11:Int)),g,rfl,(hst.pick [0,1,3] rfl),hb,H0⟩
     ·replace H0:=Zo hc4 H0
      refine r_s (L:=[(0,_),(1,_),(5,_)]) (T:=[⟨[.o 2],_,[],[],[11]⟩,⟨[.p 0 0],_,[],[0],[6]⟩]) (F:=[.o 0,.o 1,.o 2,.p 1 0]) (hst.pick [0,1,2] rfl) hb Zb
       (o_p rfl (Z8 rfl rfl u_0 c_i)<|Qa rfl u_0<|o_n) (fun a g hst hb=>?_)
      refine wp_cond_split (hst.bool 3 rfl) (fun hc5=>?_) (fun hc5=>?_)
      ·replace H0:=Zn hc5 H0
       refine wp_skip ?_
       exact ⟨(a1 == (13:Int)),g,rfl,(hst.pick [0,1,3] rfl),hb,H0⟩
      ·replace H0:=Zo hc5 H0
       refine r_s (L:=[(0,_),(1,_),(5,_)]) (T:=[⟨[.o 2],_,[],[],[12]⟩,⟨[.p 0 0],_,[],[0],[6]⟩]) (F:=[.o 0,.o 1,.o 2,.p 1 0]) (hst.pick [0,1,2] rfl) hb Zb
        (o_p rfl (Z8 rfl rfl u_0 c_i)<|Qa rfl u_0<|o_n) (fun a g hst hb=>?_)
       refine wp_cond_split (hst.bool 3 rfl) (fun hc6=>?_) (fun hc6=>?_)
       ·replace H0:=Zn hc6 H0
        refine wp_skip ?_
        exact ⟨(a1 == (14:Int)),g,rfl,(hst.pick [0,1,3] rfl),hb,H0⟩
       ·replace H0:=Zo hc6 H0
        refine r_s (L:=[(0,_),(1,_),(5,_)]) (T:=[⟨[.o 2],_,[],[],[13]⟩,⟨[.p 0 0],_,[],[0],[6]⟩]) (F:=[.o 0,.o 1,.o 2,.p 1 0]) (hst.pick [0,1,2] rfl) hb Zb
         (o_p rfl (Z8 rfl rfl u_0 c_i)<|Qa rfl u_0<|o_n) (fun a g hst hb=>?_)
        refine wp_cond_split (hst.bool 3 rfl) (fun hc7=>?_) (fun hc7=>?_)
        ·replace H0:=Zn hc7 H0
         refine wp_skip ?_
         exact ⟨(a1 == (18:Int)),g,rfl,(hst.pick [0,1,3] rfl),hb,H0⟩
        ·replace H0:=Zo hc7 H0
         refine r_g (L:=[(0,_),(1,_),(5,_)]) (T:=[⟨[.o 2],_,[],[],[14]⟩,⟨[.p 0 0],_,[],[0],[6]⟩]) (F:=[.o 0,.o 1,.p 1 0]) (hst.pick [0,1,2] rfl) hb Zb
          (o_p rfl (Z8 rfl rfl u_0 c_i)<|Qa rfl u_0<|o_n) (fun a g hst hb=>?_)
         exact ⟨(a1 == (21:Int)),g,rfl,(hst.pick [0,1,2] rfl),hb,H0⟩
theorem Zj9 (a0:(List Zd)) {r:(List Zd)} (h:Zbv a0=some r):FnOk Tryd.prog 64 [(Zp.sl.pd a0)] (Zp.sl.pd r):=by
 unfold Zbv at h
 obtain ⟨hsz,H0⟩:=Zg2 h
 obtain rfl:=Option.some.inj H0
 refine Zbt (N:=8) Tryd.func64 rfl rfl (Qe rfl) rfl rfl (fun a g0 hst hb=>?_)
 refine wp_seq ?_
 refine Znq Zb (N:=8) (L:=[(0,(Zp.sl.pd a0))]) (T:=[⟨[],[(2,(Zp.sl.pd []))],[],[],[2]⟩]) (F:=[.o 0]) (by kernel_rfl)
  (Zh0 (OT.plain rfl (Zd1 rfl rfl (Opd.c (fun g=>Zit g)))) Zm1) hst hb (fun a g hst hb=>?_)
 refine Zm ?_
 refine wp_seq ?_
 refine wp_seq ?_
 refine Znq Zb (N:=8) (L:=[(0,(Zp.sl.pd a0))]) (T:=[⟨[.o 0],[(3,(Zp.sl.pd a0))],[],[],[3]⟩,⟨[.p 0 0],[(4,Z3v a0)],[],[0],[4]⟩]) (F:=[.o 0,.p 1 0]) (by kernel_rfl)
  (Zh0 (OT.plain rfl (Zy rfl rfl Opd.t0)) (Zh0 (OT.plain rfl (Zx0 Tryd.underlying23 rfl rfl Opd.t0)) Zm1)) hst hb (fun a g hst hb=>?_)
 refine Zm ?_
 obtain ⟨c,hc,hc'⟩:=hst.at 1 rfl
 refine wp_cond_split hc (fun ht=>?_) (fun hf=>?_)
 ·obtain rfl:=hc' ht
  refine wp_seq ?_
  refine Znq Zb (N:=8) (L:=[]) (T:=[⟨[],[(2,(Zp.sl.pd []))],[],[],[2]⟩]) (F:=[.p 0 0]) (by kernel_rfl)
   (Zh0 (OT.plain rfl (Zd1 rfl rfl (Opd.c (fun g=>Zit g)))) Zm1) (hst.pick [] rfl) hb (fun a g hst hb=>?_)
  refine Zm ?_
  refine wp_ret ?_
  refine Zk ?_
  exact Zz rfl hst hb (Zg (s:=2)) (hst.at 0 rfl)
 ·refine wp_skip ?_
  refine Zm ?_
  refine wp_seq ?_
  have hsz':(([]:(List Zd)).length + a0.length) * 24 ≤ 140737488355328:=by simpa using hsz
  refine Znq Zb (N:=8) (L:=[(0,(Zp.sl.pd a0))]) (T:=[⟨[],[(5,(pRow Zp 75 5 []))],[6],[],[5]⟩,⟨[.o 0],[(6,(Zp.sl.pd a0))],[],[],[6]⟩,⟨[.p 0 0,.p 1 0],[(7,(pRow Zp 75 5 ([] ++ a0)))],[6],[0,1],[5,7]⟩,⟨[.p 2 0],[(2,(pRow Zp 75 5 ([] ++ a0)))],[],[0,1,2],[2]⟩]) (F:=[.p 3 0]) (by kernel_rfl)
   (Zh0 (OT.plain rfl (Zm4 5 Zcx (xs:=[]) .nil (by decide) rfl rfl)) (Zh0 (OT.plain rfl (Zy rfl rfl Opd.t0)) (Zh0 (OT.plain rfl (Zjh Zcx rfl rfl Opd.t0 (Opd.tl Opd.t0) hsz')) (Zh0 (OT.plain rfl (Zd1 rfl rfl Opd.t0)) Zm1)))) (hst.pick [0] rfl) hb (fun a g hst hb=>?_)
  refine Zm ?_
  refine wp_ret ?_
  exact Zz rfl hst hb (Zg (s:=2)) (Zlr (hst.at 0 rfl))
theorem Zel (a0:(List Zd)) {r:(List Zd)} (h:Zbv a0=some r):Zss Tryd.prog 64 [(Zp.sl.pd a0)] Zp 75 r:=by
 unfold Zbv at h
 obtain ⟨hsz,H0⟩:=Zg2 h
 obtain rfl:=Option.some.inj H0
 refine Zy4 (N:=8) Tryd.func64 rfl rfl (Qe rfl) rfl (fun a g0 h0 hst hb=>?_)
 refine r_s (T:=[⟨[],[(2,(Zp.sl.pd []))],[],[],[2]⟩]) (F:=[.o 0]) hst hb Zb
  (o_p rfl (Zd1 rfl rfl (Opd.c (fun g=>Zit g)))<|o_n) (fun a g hst hb=>?_)
 refine wp_seq ?_
 refine r_s (T:=[⟨[.o 0],_,[],[],[3]⟩,⟨[.p 0 0],_,[],[0],[4]⟩]) (F:=[.o 0,.p 1 0]) hst hb Zb
  (Qm rfl u_0<|o_p rfl (Zx0 Tryd.underlying23 rfl rfl u_0)<|o_n) (fun a g hst hb=>?_)
 obtain ⟨c,hc,hc'⟩:=hst.at 1 rfl
 refine wp_cond_split hc (fun ht=>?_) (fun hf=>?_)
 ·obtain rfl:=hc' ht
  refine r_s (L:=[]) (T:=[⟨[],[(2,(pEq (.slice none 0 0)))],[],[],[2]⟩]) (F:=[.p 0 0]) (hst.pick [] rfl) hb Zb
   (o_p rfl (Zd1 rfl rfl (Opd.c (fun g=>rfl)))<|o_n) (fun a g hst hb=>?_)
  refine wp_ret ?_
  refine Zk ?_
  exact Zww rfl hst hb (Zg (s:=2)) ⟨none,hst.at 0 rfl⟩
 ·refine wp_skip ?_
  refine Zm ?_
  refine r_s (L:=[(0,_)]) (T:=[⟨[],[(5,(pOwn Zp 75 5 (some 0) (([]:(List Zd)).map some)))],[6],[],[5]⟩,⟨[.o 0],_,[],[],[6]⟩,⟨[.p 0 0,.p 1 0],_,[6],[0,1],[5,7]⟩,⟨[.p 2 0],_,[],[0,1,2],[2]⟩]) (F:=[.p 3 0]) (hst.pick [0] rfl) hb Zb
   (o_p rfl (Z09 (ty:=0) Zcx rfl rfl)<|Qm rfl u_0<|o_p rfl (Zoq Zcx rfl rfl u_0 u_1 (by simpa using hsz))<|Qa rfl u_0<|o_n) (fun a g hst hb=>?_)
  refine wp_ret ?_
  exact Z19 rfl h0 hst hb (Zg (s:=2)) (hst.at 0 rfl)
theorem Zhh (a0:Za) {r:Za} (h:Zgf a0=some r):FnOk Tryd.prog 37 [(Zc.pd a0)] (Zc.pd r):=by
 have H0:=h
 unfold Zgf at H0
 clear h
 refine Zbt (N:=8) Tryd.func37 rfl rfl (Qe rfl) rfl rfl (fun a g0 hst hb=>?_)
 refine r_s (T:=[⟨[.o 0],_,[2],[],[1]⟩,⟨[],[(2,(pBox Zc 2 (default:Za)))],[3],[],[2]⟩]) (F:=[.p 0 0,.p 1 0]) hst hb Zb
  (o_p rfl (Zj0 rfl rfl u_0)<|o_p rfl (Zbm (zs:=[.int .i64 0,.int .i64 0,.int .i64 0,.int .i64 0,.float .f64 0,.int .i64 0,.string ByteArray.empty,.slice none 0 0]) (by kernel_rfl) (fun g=>Zbr g) rfl rfl)<|o_n) (fun a g hst hb=>?_)
 obtain ⟨r1,h2,H0⟩:=Zf H0
 refine r_s (T:=[⟨[.o 0],_,[],[],[3]⟩,⟨[.p 0 0],_,[],[0],[4]⟩,⟨[.p 1 0],_,[],[0,1],[5]⟩,⟨[.o 0],_,[],[0,1,2],[6]⟩,⟨[.p 2 0,.p 3 0,.o 0],_,[2],Lr 4,[1,3,6]⟩]) (F:=[.p 4 0,.o 1]) hst hb Zb
  (o_p rfl (Zh Zbw (off:=7) (by kernel_rfl) rfl rfl u_0)<|QP rfl Zcg u_0<|o_p rfl (Zr Zun (Zj9 _ h2) rfl rfl (.cons u_0 .nil))<|o_p rfl (Zh Zbw (off:=7) (by kernel_rfl) rfl rfl u_0)<|o_p rfl (Zkl Zcg rfl rfl u_2 u_1 u_0)<|o_n) (fun a g hst hb=>?_)
 refine r_s (T:=[⟨[.o 0],_,[],[],[7]⟩,⟨[.p 0 0,.o 1],_,[3],[0],[2]⟩]) (F:=[.p 1 0]) hst hb Zb
  (QM rfl Z0 u_0<|o_p rfl (Z6 Z0 rfl rfl u_1 u_0)<|o_n) (fun a g hst hb=>?_)
 refine wp_ret ?_
 obtain rfl:=Option.some.inj H0
 obtain ⟨u0,hu0,hq0⟩:=Zbh (P:=Tryd.prog) Z0 (hst.at 0 rfl)
 exact Zz rfl hst hb hu0 hq0
theorem Zr6 (a0:Nat) (a1:Nat) {r:Nat} (h:Zgy a0 a1=some r):FnOk Tryd.prog 38 [(pFlt a0),(pFlt a1)] (pFlt r):=by
 have H0:=h
 unfold Zgy at H0
 clear h
 refine Zbt (N:=12) Tryd.func38 rfl rfl (Qe rfl) rfl rfl (fun a g0 hst hb=>?_)
 refine r_s (T:=[⟨[],_,[],[],[4]⟩]) (F:=[.o 0,.o 1]) hst hb Zb
  (Qa rfl c_f<|o_n) (fun a g hst hb=>?_)
 refine wp_seq ?_
 obtain ⟨r1,h2,H0⟩:=Zf H0
 refine r_s (T:=[⟨[.o 0],_,[],[],[5]⟩,⟨[.o 1],_,[],[],[6]⟩,⟨[.p 0 0,.p 1 0],_,[],[0,1],[7]⟩]) (F:=[.o 0,.o 1,.p 2 0]) hst hb Zb
  (Qm rfl u_0<|Qm rfl u_0<|o_p rfl (Zr Zyp (Znc _ _ h2) rfl rfl (.cons u_0 (.cons u_1 .nil)))<|o_n) (fun a g hst hb=>?_)
 refine wp_cond_split (hst.bool 2 rfl) (fun hc3=>?_) (fun hc3=>?_)
 ·replace H0:=Zn hc3 H0
  obtain ⟨r4,h5,H0⟩:=Zf H0
  refine r_s (L:=[(1,_)]) (T:=[⟨[.o 0],_,[],[],[8]⟩,⟨[.p 0 0],_,[],[0],[9]⟩,⟨[.p 1 0],_,[],[0,1],[4]⟩]) (F:=[.p 2 0]) (hst.pick [1] rfl) hb Zb
   (Qm rfl u_0<|o_p rfl (Zr Zmz (Zgj _ h5) rfl rfl (.cons u_0 .nil))<|Qa rfl u_0<|o_n) (fun a g hst hb=>?_)
  refine wp_ret ?_
  refine Zk ?_
  obtain rfl:=Option.some.inj H0
  exact Zz rfl hst hb (Zg (s:=4)) (hst.at 0 rfl)
 ·replace H0:=Zo hc3 H0
  refine wp_skip ?_
  refine Zm ?_
  obtain ⟨r6,h7,H0⟩:=Zf H0
  refine r_s (L:=[(0,_)]) (T:=[⟨[.o 0],_,[],[],[10]⟩,⟨[.p 0 0],_,[],[0],[11]⟩,⟨[.p 1 0],_,[],[0,1],[4]⟩]) (F:=[.p 2 0]) (hst.pick [0] rfl) hb Zb
   (Qm rfl u_0<|o_p rfl (Zr Zmz (Zgj _ h7) rfl rfl (.cons u_0 .nil))<|Qa rfl u_0<|o_n) (fun a g hst hb=>?_)
  refine wp_ret ?_
  obtain rfl:=Option.some.inj H0
  exact Zz rfl hst hb (Zg (s:=4)) (hst.at 0 rfl)
theorem Zse (a0:Nat) (a1:Nat) {r:Nat} (h:Zgm a0 a1=some r):FnOk Tryd.prog 39 [(pFlt a0),(pFlt a1)] (pFlt r):=by
 have H0:=h
 unfold Zgm at H0
 clear h
 refine Zbt (N:=12) Tryd.func39 rfl rfl (Qe rfl) rfl rfl (fun a g0 hst hb=>?_)
 refine r_s (T:=[⟨[],_,[],[],[4]⟩]) (F:=[.o 0,.o 1]) hst hb Zb
  (Qa rfl c_f<|o_n) (fun a g hst hb=>?_)
 refine wp_seq ?_
 obtain ⟨r1,h2,H0⟩:=Zf H0
 refine r_s (T:=[⟨[.o 1],_,[],[],[5]⟩,⟨[.o 0],_,[],[],[6]⟩,⟨[.p 0 0,.p 1 0],_,[],[0,1],[7]⟩]) (F:=[.o 0,.o 1,.p 2 0]) hst hb Zb
  (Qm rfl u_0<|Qm rfl u_0<|o_p rfl (Zr Zyp (Znc _ _ h2) rfl rfl (.cons u_0 (.cons u_1 .nil)))<|o_n) (fun a g hst hb=>?_)
 refine wp_cond_split (hst.bool 2 rfl) (fun hc3=>?_) (fun hc3=>?_)
 ·replace H0:=Zn hc3 H0
  obtain ⟨r4,h5,H0⟩:=Zf H0
  refine r_s (L:=[(1,_)]) (T:=[⟨[.o 0],_,[],[],[8]⟩,⟨[.p 0 0],_,[],[0],[9]⟩,⟨[.p 1 0],_,[],[0,1],[4]⟩]) (F:=[.p 2 0]) (hst.pick [1] rfl) hb Zb
   (Qm rfl u_0<|o_p rfl (Zr Zmz (Zgj _ h5) rfl rfl (.cons u_0 .nil))<|Qa rfl u_0<|o_n) (fun a g hst hb=>?_)
  refine wp_ret ?_
  refine Zk ?_
  obtain rfl:=Option.some.inj H0
  exact Zz rfl hst hb (Zg (s:=4)) (hst.at 0 rfl)
 ·replace H0:=Zo hc3 H0
  refine wp_skip ?_
  refine Zm ?_
  obtain ⟨r6,h7,H0⟩:=Zf H0
  refine r_s (L:=[(0,_)]) (T:=[⟨[.o 0],_,[],[],[10]⟩,⟨[.p 0 0],_,[],[0],[11]⟩,⟨[.p 1 0],_,[],[0,1],[4]⟩]) (F:=[.p 2 0]) (hst.pick [0] rfl) hb Zb
   (Qm rfl u_0<|o_p rfl (Zr Zmz (Zgj _ h7) rfl rfl (.cons u_0 .nil))<|Qa rfl u_0<|o_n) (fun a g hst hb=>?_)
  refine wp_ret ?_
  obtain rfl:=Option.some.inj H0
  exact Zz rfl hst hb (Zg (s:=4)) (hst.at 0 rfl)
theorem Zif (a0:Zcy) (a1:Int) {r:Bool} (h:Zc0 a0 a1=some r):FnOk Tryd.prog 104 [(Zdv.pd a0),(pInt .u8 a1)] (Zba r):=by
 have H0:=h
 unfold Zc0 at H0
 clear h
 refine Zbt (N:=19) Tryd.func104 rfl rfl (Qe rfl) rfl rfl (fun a g0 hst hb=>?_)
 refine r_s (T:=[⟨[.o 0],_,[],[],[2]⟩,⟨[],_,[],[],[4]⟩]) (F:=[.o 1,.p 0 0]) hst hb Zb
  (Qb rfl u_0<|Qa rfl c_b<|o_n) (fun a g hst hb=>?_)
 refine wp_seq ?_
 refine r_s (T:=[⟨[.o 1],_,[],[],[6]⟩,⟨[.p 0 0],_,[],[0],[7]⟩,⟨[.p 1 0],_,[],[0,1],[8]⟩,⟨[],_,[],[],[9]⟩]) (F:=[.o 0,.o 1,.p 2 0,.p 3 0]) hst hb Zb
  (Qf rfl Zu8 u_0<|Ql rfl ty_9 u_0<|o_p rfl (Zff Tryd.underlying9 rfl rfl u_0)<|Qm rfl c_i<|o_n) (fun a g hst hb=>?_)
 obtain ⟨z6,hz1,H0⟩:=Zf H0
 refine Zbz (fun a w=>∃ (g:G),w=g.w ∧ St 19 [] a g ∧ Base g0 g ∧ (.inr ())=z6) ?_ ?_
 ·rintro a w ⟨g,rfl,hst,hb,rfl⟩
  refine Zm ?_
  refine r_s (T:=[⟨[],_,[],[],[4]⟩]) (F:=[.p 0 0]) hst hb Zb
   (Qa rfl c_b<|o_n) (fun a g hst hb=>?_)
  refine wp_ret ?_
  obtain rfl:=Option.some.inj H0
  exact Zz rfl hst hb (Zg (s:=4)) (hst.at 0 rfl)
 ·refine wp_block ?_
  refine wp_loop_ghost (fun n a w=>∃ (x1:Int) (g:G),w=g.w ∧ St 19 [(1,(pInt .u8 a1)),(2,(Zdv.ptr a0)),(8,(pInt .i64 (a0.has.size:Int))),(9,(pInt .i64 x1))] a g ∧ Base g0 g ∧ Zg3 a0 a1 n x1=some z6) (Int.toNat ((a0.has.size:Int) - (0:Int)) + 1) ⟨(0:Int),g,rfl,(hst.pick [0,1,2,3] rfl),hb,hz1⟩ (fun n a w hI=>?_)
  obtain ⟨x1,g,rfl,hst,hb,H1⟩:=hI
  cases n with
  | zero=>exact absurd H1 (by simp [Zg3])
  | succ n =>
   rw [Zg3] at H1
   refine r_s (T:=[⟨[.o 3,.o 2],_,[],[],[10]⟩]) (F:=[.o 0,.o 1,.o 2,.o 3,.p 0 0]) hst hb Zb
    (o_p rfl (Zb6 rfl rfl u_0 u_1)<|o_n) (fun a g hst hb=>?_)
   refine wp_seq ?_
   refine wp_cond_split (hst.bool 4 rfl) (fun hc2=>?_) (fun hc2=>?_)
   ·replace H1:=Zn hc2 H1
    refine wp_skip ?_
    refine Zm ?_
    refine wp_seq ?_
    refine wp_block ?_
    refine r_s (L:=[(1,_),(2,_),(8,_),(9,_)]) (T:=[⟨[.o 3],_,[],[],[11]⟩,⟨[.p 0 0],_,[],[0],[5]⟩]) (F:=[.o 0,.o 1,.p 1 0,.o 2,.o 3]) (hst.pick [0,1,2,3] rfl) hb Zb
     (Qm rfl u_0<|Qa rfl u_0<|o_n) (fun a g hst hb=>?_)
    obtain ⟨b3,h4,H1⟩:=Zf H1
    refine r_s (T:=[⟨[.o 1],_,[],[],[12]⟩,⟨[.p 0 0],_,[],[0],[13]⟩,⟨[.o 2],_,[],[],[14]⟩,⟨[.p 1 0,.p 2 0],_,[],[0,1,2],[15]⟩,⟨[.o 0],_,[],[],[16]⟩,⟨[.p 3 0,.p 4 0],_,[],Lr 5,[17]⟩]) (F:=[.o 0,.o 1,.o 3,.o 4,.p 5 0]) hst hb Zb
     (Qf rfl Zu8 u_0<|Ql rfl ty_9 u_0<|Qm rfl u_0<|o_p rfl (Zlc Tryd.underlying9 rfl rfl u_0 u_1 h4)<|Qm rfl u_0<|o_p rfl (Z8 rfl rfl u_0 u_1)<|o_n) (fun a g hst hb=>?_)
    refine wp_cond_split (hst.bool 4 rfl) (fun hc5=>?_) (fun hc5=>?_)
    ·replace H1:=Zn hc5 H1
     refine r_s (L:=[]) (T:=[⟨[],_,[],[],[4]⟩]) (F:=[.p 0 0]) (hst.pick [] rfl) hb Zb
      (Qa rfl c_b<|o_n) (fun a g hst hb=>?_)
     refine wp_ret ?_
     refine Zv ?_
     refine Zk ?_
     refine Zk ?_
     refine Zv ?_
     refine Zk ?_
     refine Zk ?_
     obtain rfl:=Option.some.inj H1
     obtain rfl:=Option.some.inj H0
     exact Zz rfl hst hb (Zg (s:=4)) (hst.at 0 rfl)
    ·replace H1:=Zo hc5 H1
     refine wp_skip ?_
     refine Z4 ?_
     refine Zm ?_
     refine r_g (L:=[(1,_),(2,_),(8,_),(9,_)]) (T:=[⟨[.o 3],_,[],[],[18]⟩,⟨[.p 0 0],_,[],[0],[9]⟩]) (F:=[.o 0,.o 1,.o 2,.p 1 0]) (hst.pick [0,1,2,3] rfl) hb Zb
      (o_p rfl (Zca rfl rfl u_0 c_i rfl)<|Qm rfl u_0<|o_n) (fun a g hst hb=>?_)
     exact ⟨n,Nat.lt_succ_self _,(IntKind.i64.wrap (x1 + (1:Int))),g,rfl,(hst.pick [0,1,2,3] rfl),hb,H1⟩
   ·replace H1:=Zo hc2 H1
    refine wp_exit ?_
    refine Zb7 ?_
    refine Zb7 ?_
    refine Zct ?_
    exact ⟨g,rfl,(hst.pick [] rfl),hb,Option.some.inj H1⟩
theorem Zge (f2:Nat) (C2:List Pd) (hC2:Free C2) (e2_:Zl Tryd.prog f2) (φ2:Zd → Zd → Option Bool) (hφ2:∀ (y0:Zd) (y1:Zd) (r:Bool),φ2 y0 y1=some r → FnOk Tryd.prog f2 ([(Zp.pd y0),(Zp.pd y1)] ++ C2) (Zba r)) (a0:List Zd) (a1:List Zd) {r:Bool} (h:Zb0 a0 a1 φ2=some r):FnOk Tryd.prog 110 [(Zp.sl.pd a0),(Zp.sl.pd a1),(pClo f2 C2 hC2)] (Zba r):=by
 have H0:=h
 unfold Zb0 at H0
 clear h
 refine Zbt (N:=32) Tryd.func110 rfl rfl (Qe rfl) rfl rfl (fun a g0 hst hb=>?_)
 refine r_s (T:=[⟨[],_,[],[],[6]⟩]) (F:=[.o 0,.o 1,.o 2]) hst hb Zb
  (Qa rfl c_b<|o_n) (fun a g hst hb=>?_)
 refine wp_seq ?_
 refine r_s (T:=[⟨[.o 0],_,[],[],[10]⟩,⟨[.p 0 0],_,[],[0],[11]⟩,⟨[.o 1],_,[],[],[12]⟩,⟨[.p 2 0],_,[],[2],[13]⟩,⟨[.p 1 0,.p 3 0],_,[],Lr 4,[14]⟩]) (F:=[.o 0,.o 1,.o 2,.p 4 0]) hst hb Zb
  (Qm rfl u_0<|o_p rfl (Zcc Tryd.underlying23 rfl rfl u_0)<|Qm rfl u_0<|o_p rfl (Zcc Tryd.underlying23 rfl rfl u_0)<|o_p rfl (Zdq rfl rfl u_0 u_1)<|o_n) (fun a g hst hb=>?_)
 refine wp_cond_split (hst.bool 3 rfl) (fun hc1=>?_) (fun hc1=>?_)
 ·replace H0:=Zn hc1 H0
  refine r_s (L:=[]) (T:=[⟨[],_,[],[],[6]⟩]) (F:=[.p 0 0]) (hst.pick [] rfl) hb Zb
   (Qa rfl c_b<|o_n) (fun a g hst hb=>?_)
  refine wp_ret ?_
  refine Zk ?_
  obtain rfl:=Option.some.inj H0
  exact Zz rfl hst hb (Zg (s:=6)) (hst.at 0 rfl)
 ·replace H0:=Zo hc1 H0
  refine wp_skip ?_
  refine Zm ?_
  refine wp_seq ?_
  refine r_s (L:=[(0,_),(1,_),(2,_)]) (T:=[⟨[.o 0],_,[],[],[15]⟩,⟨[.p 0 0],_,[],[0],[16]⟩,⟨[],_,[],[],[17]⟩]) (F:=[.o 1,.o 2,.p 0 0,.p 1 0,.p 2 0]) (hst.pick [0,1,2] rfl) hb Zb
   (Qm rfl u_0<|o_p rfl (Zcc Tryd.underlying23 rfl rfl u_0)<|Qm rfl c_i<|o_n) (fun a g hst hb=>?_)
  obtain ⟨z11,hz1,H0⟩:=Zf H0
  refine Zbz (fun a w=>∃ (g:G),w=g.w ∧ St 32 [] a g ∧ Base g0 g ∧ (.inr ())=z11) ?_ ?_
  ·rintro a w ⟨g,rfl,hst,hb,rfl⟩
   refine Zm ?_
   refine r_s (T:=[⟨[],_,[],[],[6]⟩]) (F:=[.p 0 0]) hst hb Zb
    (Qa rfl c_b<|o_n) (fun a g hst hb=>?_)
   refine wp_ret ?_
   obtain rfl:=Option.some.inj H0
   exact Zz rfl hst hb (Zg (s:=6)) (hst.at 0 rfl)
  ·refine wp_block ?_
   refine wp_loop_ghost (fun n a w=>∃ (x2:Int) (g:G),w=g.w ∧ St 32 [(1,(Zp.sl.pd a1)),(2,(pClo f2 C2 hC2)),(15,(Zp.sl.pd a0)),(16,(pInt .i64 (a0.length:Int))),(17,(pInt .i64 x2))] a g ∧ Base g0 g ∧ Zbi a0 a1 φ2 n x2=some z11) (Int.toNat ((a0.length:Int) - (0:Int)) + 1) ⟨(0:Int),g,rfl,(hst.pick [0,1,2,3,4] rfl),hb,hz1⟩ (fun n a w hI=>?_)
   obtain ⟨x2,g,rfl,hst,hb,H1⟩:=hI
   cases n with
   | zero=>exact absurd H1 (by simp [Zbi])
   | succ n =>
    rw [Zbi] at H1
    refine r_s (T:=[⟨[.o 4,.o 3],_,[],[],[18]⟩]) (F:=[.o 0,.o 1,.o 2,.o 3,.o 4,.p 0 0]) hst hb Zb
     (o_p rfl (Zb6 rfl rfl u_0 u_1)<|o_n) (fun a g hst hb=>?_)
    refine wp_seq ?_
    refine wp_cond_split (hst.bool 5 rfl) (fun hc3=>?_) (fun hc3=>?_)
    ·replace H1:=Zn hc3 H1
     refine wp_skip ?_
     refine Zm ?_
     refine wp_seq ?_
     refine wp_block ?_
     obtain ⟨e4,h5,H1⟩:=Zf H1
     refine r_s (L:=[(1,_),(2,_),(15,_),(16,_),(17,_)]) (T:=[⟨[.o 4],_,[],[],[19]⟩,⟨[.o 2,.o 4],_,[],[],[20]⟩,⟨[.p 1 0],_,[],[1],[21]⟩,⟨[],[(8,(pBox Zp 8 (default:Zd)))],[9],[],[8]⟩,⟨[.p 0 0],_,[],Lr 4,[7]⟩,⟨[.p 2 0,.p 3 0],_,[9],Lr 5,[8]⟩]) (F:=[.o 0,.o 1,.p 4 0,.p 5 0,.o 2,.o 3,.o 4]) (hst.pick [0,1,2,3,4] rfl) hb Zb
      (Qm rfl u_0<|o_p rfl (Zbk Tryd.underlying23 Zee rfl rfl u_0 u_1 h5)<|Ql rfl Zdt u_0<|o_p rfl (Zbm (zs:=[.float .f64 0,.string ByteArray.empty]) (by kernel_rfl) (fun g=>Zg6 g) rfl rfl)<|Qa rfl u_0<|o_p rfl (Zb9 Zdt rfl rfl u_1 u_0)<|o_n) (fun a g hst hb=>?_)
     obtain ⟨e6,h7,H1⟩:=Zf H1
     refine r_s (T:=[⟨[.o 0],_,[],[],[22]⟩,⟨[.o 2],_,[],[],[23]⟩,⟨[.p 0 0,.p 1 0],_,[],[0,1],[24]⟩,⟨[.p 2 0],_,[],[0,1,2],[25]⟩,⟨[],[(9,(pBox Zp 9 (default:Zd)))],[10],[],[9]⟩,⟨[.p 3 0,.p 4 0],_,[10],Lr 5,[9]⟩]) (F:=[.o 0,.o 1,.o 3,.p 5 0,.o 4,.o 5,.o 6]) hst hb Zb
      (Qm rfl u_0<|Qm rfl u_0<|o_p rfl (Zbk Tryd.underlying23 Zee rfl rfl u_0 u_1 h7)<|Ql rfl Zdt u_0<|o_p rfl (Zbm (zs:=[.float .f64 0,.string ByteArray.empty]) (by kernel_rfl) (fun g=>Zg6 g) rfl rfl)<|o_p rfl (Zb9 Zdt rfl rfl u_1 u_0)<|o_n) (fun a g hst hb=>?_)
     obtain ⟨r8,h9,H1⟩:=Zf H1
     refine r_s (T:=[⟨[.o 1],_,[],[],[26]⟩,⟨[.o 2],_,[],[],[27]⟩,⟨[.o 3],_,[],[],[28]⟩,⟨[.p 0 0,.p 1 0,.p 2 0],_,[],[0,1,2],[29]⟩,⟨[.p 3 0],_,[],Lr 4,[30]⟩]) (F:=[.o 0,.o 1,.o 4,.o 5,.o 6,.p 4 0]) hst hb Zb
      (Qm rfl u_0<|Ql rfl Zdt u_0<|Ql rfl Zdt u_0<|o_p rfl (Zow e2_ (hφ2 _ _ _ h9) rfl rfl u_0 (.cons u_1 (.cons u_2 .nil)))<|Qn rfl u_0<|o_n) (fun a g hst hb=>?_)
     refine wp_cond_split (hst.bool 5 rfl) (fun hc10=>?_) (fun hc10=>?_)
     ·replace H1:=Zn hc10 H1
      refine r_s (L:=[]) (T:=[⟨[],_,[],[],[6]⟩]) (F:=[.p 0 0]) (hst.pick [] rfl) hb Zb
       (Qa rfl c_b<|o_n) (fun a g hst hb=>?_)
      refine wp_ret ?_
      refine Zv ?_
      refine Zk ?_
      refine Zk ?_
      refine Zv ?_
      refine Zk ?_
      refine Zk ?_
      obtain rfl:=Option.some.inj H1
      obtain rfl:=Option.some.inj H0
      exact Zz rfl hst hb (Zg (s:=6)) (hst.at 0 rfl)
     ·replace H1:=Zo hc10 H1
      refine wp_skip ?_
      refine Z4 ?_
      refine Zm ?_
      refine r_g (L:=[(1,_),(2,_),(15,_),(16,_),(17,_)]) (T:=[⟨[.o 4],_,[],[],[31]⟩,⟨[.p 0 0],_,[],[0],[17]⟩]) (F:=[.o 0,.o 1,.o 2,.o 3,.p 1 0]) (hst.pick [0,1,2,3,4] rfl) hb Zb
       (o_p rfl (Zca rfl rfl u_0 c_i rfl)<|Qm rfl u_0<|o_n) (fun a g hst hb=>?_)
      exact ⟨n,Nat.lt_succ_self _,(IntKind.i64.wrap (x2 + (1:Int))),g,rfl,(hst.pick [0,1,2,3,4] rfl),hb,H1⟩
    ·replace H1:=Zo hc3 H1
     refine wp_exit ?_
     refine Zb7 ?_
     refine Zb7 ?_
     refine Zct ?_
     exact ⟨g,rfl,(hst.pick [] rfl),hb,Option.some.inj H1⟩
theorem Zt5 (a0:Zd) (a1:Zd) {r:Bool} (h:Zhu a0 a1=some r):FnOk Tryd.prog 111 [(Zp.pd a0),(Zp.pd a1)] (Zba r):=by
 have H0:=h
 unfold Zhu at H0
 clear h
 refine Zbt (N:=17) Tryd.func111 rfl rfl (Qe rfl) rfl rfl (fun a g0 hst hb=>?_)
 refine r_s (T:=[⟨[.o 0],_,[],[],[2]⟩,⟨[.o 1],_,[],[],[3]⟩,⟨[],_,[],[],[4]⟩]) (F:=[.p 0 0,.p 1 0]) hst hb Zb
  (Qb rfl u_0<|Qb rfl u_0<|Qa rfl c_b<|o_n) (fun a g hst hb=>?_)
 obtain ⟨r1,h2,H0⟩:=Zf H0
 refine r_s (T:=⟨[.o 0],_,[],[],[5]⟩ :: ⟨[.p 0 0],_,[],[0],[6]⟩ :: ⟨[.o 1],_,[],[],[7]⟩ :: ⟨[.p 2 0],_,[],[2],[8]⟩ :: ⟨[.p 1 0,.p 3 0],_,[],Lr 4,[9]⟩ :: ⟨[.p 4 0],_,[],Lr 5,[10]⟩ :: ⟨[.p 5 0,.o 0],_,[],Lr 6,[11]⟩ :: ⟨[.p 5 0,.p 6 0],_,[],Lr 7,[12]⟩ :: ⟨[.p 5 0,.o 1],_,[],Lr 6,[13]⟩ :: ⟨[.p 5 0,.p 8 0],_,[],[0,1,2,3,4,5,8],[14]⟩ :: ⟨[.p 5 0,.p 7 0,.p 9 0],_,[],Lr 10,[15]⟩ :: ⟨[.p 5 0,.p 10 0],_,[],Lr 11,[16]⟩ :: ⟨[.p 11 0],_,[],Lr 12,[4]⟩ :: []) (F:=[.p 12 0]) hst hb Zb
  (Qf rfl Zdh u_0<|Ql rfl ty_9 u_0<|Qf rfl Zdh u_0<|Ql rfl ty_9 u_0<|o_p rfl (Zkr rfl rfl u_0 u_1)<|Qm rfl u_0<|o_g (Qg_t rfl (fun hG=>Zj Zev rfl rfl u_0))<|o_g (Qg_t rfl (fun hG=>Zs Zb8 rfl rfl (Opd.gd hG u_0)))<|o_g (Qg_t rfl (fun hG=>Zj Zev rfl rfl u_0))<|o_g (Qg_t rfl (fun hG=>Zs Zb8 rfl rfl (Opd.gd hG u_0)))<|o_g (Qg_t rfl (fun hG=>Zr Zp8 (Zi7 _ _ (Zbq h2 hG)) rfl rfl (.cons (Opd.gd hG u_0) (.cons (Opd.gd hG u_1) .nil))))<|o_p rfl (Zbe rfl rfl u_0 (fun hz=>(Opd.gd hz u_1)))<|Qa rfl u_0<|o_n) (fun a g hst hb=>?_)
 refine wp_ret ?_
 obtain rfl:=Option.some.inj H0
 exact Zz rfl hst hb (Zg (s:=4)) (hst.at 0 rfl)
theorem Zwy (a0:Za) (a1:Za) {r:Bool} (h:Zmp a0 a1=some r):FnOk Tryd.prog 105 [(Zc.pd a0),(Zc.pd a1)] (Zba r):=by
 have H0:=h
 unfold Zmp at H0
 clear h
 refine Zbt (N:=59) Tryd.func105 rfl rfl (Qe rfl) rfl rfl (fun a g0 hst hb=>?_)
 refine r_s (T:=[⟨[.o 0],_,[],[],[2]⟩,⟨[.o 1],_,[],[],[3]⟩,⟨[],_,[],[],[4]⟩]) (F:=[.p 0 0,.p 1 0]) hst hb Zb
  (Qb rfl u_0<|Qb rfl u_0<|Qa rfl c_b<|o_n) (fun a g hst hb=>?_)
 obtain ⟨r1,h2,H0⟩:=Zf H0;obtain ⟨r3,h4,H0⟩:=Zf H0
 refine r_s (T:=⟨[.o 0],_,[],[],[5]⟩ :: ⟨[.p 0 0],_,[],[0],[6]⟩ :: ⟨[.o 1],_,[],[],[7]⟩ :: ⟨[.p 2 0],_,[],[2],[8]⟩ :: ⟨[.p 1 0,.p 3 0],_,[],Lr 4,[9]⟩ :: ⟨[.p 4 0],_,[],Lr 5,[10]⟩ :: ⟨[.p 5 0,.o 0],_,[],Lr 6,[11]⟩ :: ⟨[.p 5 0,.p 6 0],_,[],Lr 7,[12]⟩ :: ⟨[.p 5 0,.o 1],_,[],Lr 6,[13]⟩ :: ⟨[.p 5 0,.p 8 0],_,[],[0,1,2,3,4,5,8],[14]⟩ :: ⟨[.p 5 0,.p 7 0,.p 9 0],_,[],Lr 10,[15]⟩ :: ⟨[.p 5 0,.p 10 0],_,[],Lr 11,[16]⟩ :: ⟨[.p 11 0],_,[],Lr 12,[17]⟩ :: ⟨[.p 12 0,.o 0],_,[],Lr 13,[18]⟩ :: ⟨[.p 12 0,.p 13 0],_,[],Lr 14,[19]⟩ :: ⟨[.p 12 0,.o 1],_,[],Lr 13,[20]⟩ :: ⟨[.p 12 0,.p 15 0],_,[],0 :: 1 :: 2 :: 3 :: 4 :: 5 :: 6 :: 7 :: 8 :: 9 :: 10 :: 11 :: 12 :: 15 :: [],[21]⟩ :: ⟨[.p 12 0,.p 14 0,.p 16 0],_,[],Lr 17,[22]⟩ :: ⟨[.p 12 0,.p 17 0],_,[],Lr 18,[23]⟩ :: ⟨[.p 18 0],_,[],Lr 19,[24]⟩ :: ⟨[.p 19 0,.o 0],_,[],Lr 20,[25]⟩ :: ⟨[.p 19 0,.p 20 0],_,[],Lr 21,[26]⟩ :: ⟨[.p 19 0,.o 1],_,[],Lr 20,[27]⟩ :: ⟨[.p 19 0,.p 22 0],_,[],0 :: 1 :: 2 :: 3 :: 4 :: 5 :: 6 :: 7 :: 8 :: 9 :: 10 :: 11 :: 12 :: 13 :: 14 :: 15 :: 16 :: 17 :: 18 :: 19 :: 22 :: [],[28]⟩ :: ⟨[.p 19 0,.p 21 0,.p 23 0],_,[],Lr 24,[29]⟩ :: ⟨[.p 19 0,.p 24 0],_,[],Lr 25,[30]⟩ :: ⟨[.p 25 0],_,[],Lr 26,[31]⟩ :: ⟨[.p 26 0,.o 0],_,[],Lr 27,[32]⟩ :: ⟨[.p 26 0,.p 27 0],_,[],Lr 28,[33]⟩ :: ⟨[.p 26 0,.o 1],_,[],Lr 27,[34]⟩ :: ⟨[.p 26 0,.p 29 0],_,[],0 :: 1 :: 2 :: 3 :: 4 :: 5 :: 6 :: 7 :: 8 :: 9 :: 10 :: 11 :: 12 :: 13 :: 14 :: 15 :: 16 :: 17 :: 18 :: 19 :: 20 :: 21 :: 22 :: 23 :: 24 :: 25 :: 26 :: 29 :: [],[35]⟩ :: ⟨[.p 26 0,.p 28 0,.p 30 0],_,[],Lr 31,[36]⟩ :: ⟨[.p 26 0,.p 31 0],_,[],Lr 32,[37]⟩ :: ⟨[.p 32 0],_,[],Lr 33,[38]⟩ :: ⟨[.p 33 0,.o 0],_,[],Lr 34,[39]⟩ :: ⟨[.p 33 0,.p 34 0],_,[],Lr 35,[40]⟩ :: ⟨[.p 33 0,.o 1],_,[],Lr 34,[41]⟩ :: ⟨[.p 33 0,.p 36 0],_,[],0 :: 1 :: 2 :: 3 :: 4 :: 5 :: 6 :: 7 :: 8 :: 9 :: 10 :: 11 :: 12 :: 13 :: 14 :: 15 :: 16 :: 17 :: 18 :: 19 :: 20 :: 21 :: 22 :: 23 :: 24 :: 25 :: 26 :: 27 :: 28 :: 29 :: 30 :: 31 :: 32 :: 33 :: 36 :: [],[42]⟩ :: ⟨[.p 33 0,.p 35 0,.p 37 0],_,[],Lr 38,[43]⟩ :: ⟨[.p 33 0,.p 38 0],_,[],Lr 39,[44]⟩ :: ⟨[.p 39 0],_,[],Lr 40,[45]⟩ :: ⟨[.p 40 0,.o 0],_,[],Lr 41,[46]⟩ :: ⟨[.p 40 0,.p 41 0],_,[],Lr 42,[47]⟩ :: ⟨[.p 40 0,.o 1],_,[],Lr 41,[48]⟩ :: ⟨[.p 40 0,.p 43 0],_,[],0 :: 1 :: 2 :: 3 :: 4 :: 5 :: 6 :: 7 :: 8 :: 9 :: 10 :: 11 :: 12 :: 13 :: 14 :: 15 :: 16 :: 17 :: 18 :: 19 :: 20 :: 21 :: 22 :: 23 :: 24 :: 25 :: 26 :: 27 :: 28 :: 29 :: 30 :: 31 :: 32 :: 33 :: 34 :: 35 :: 36 :: 37 :: 38 :: 39 :: 40 :: 43 :: [],[49]⟩ :: ⟨[.p 40 0,.p 42 0,.p 44 0],_,[],Lr 45,[50]⟩ :: ⟨[.p 40 0,.p 45 0],_,[],Lr 46,[51]⟩ :: ⟨[.p 46 0],_,[],Lr 47,[52]⟩ :: ⟨[.p 47 0,.o 0],_,[],Lr 48,[53]⟩ :: ⟨[.p 47 0,.p 48 0],_,[],Lr 49,[54]⟩ :: ⟨[.p 47 0,.o 1],_,[],Lr 48,[55]⟩ :: ⟨[.p 47 0,.p 50 0],_,[],0 :: 1 :: 2 :: 3 :: 4 :: 5 :: 6 :: 7 :: 8 :: 9 :: 10 :: 11 :: 12 :: 13 :: 14 :: 15 :: 16 :: 17 :: 18 :: 19 :: 20 :: 21 :: 22 :: 23 :: 24 :: 25 :: 26 :: 27 :: 28 :: 29 :: 30 :: 31 :: 32 :: 33 :: 34 :: 35 :: 36 :: 37 :: 38 :: 39 :: 40 :: 41 :: 42 :: 43 :: 44 :: 45 :: 46 :: 47 :: 50 :: [],[56]⟩ :: ⟨[.p 47 0,.p 49 0,.p 51 0],_,[],Lr 52,[57]⟩ :: ⟨[.p 47 0,.p 52 0],_,[],Lr 53,[58]⟩ :: ⟨[.p 53 0],_,[],Lr 54,[4]⟩ :: []) (F:=[.p 54 0]) hst hb Zb
  (Qf rfl Zde u_0<|Ql rfl ty_3 u_0<|Qf rfl Zde u_0<|Ql rfl ty_3 u_0<|o_p rfl (Z8 rfl rfl u_0 u_1)<|Qm rfl u_0<|o_g (Qg_t rfl (fun hG=>Zj Zb2 rfl rfl u_0))<|o_g (Qg_t rfl (fun hG=>Zs ty_2 rfl rfl (Opd.gd hG u_0)))<|o_g (Qg_t rfl (fun hG=>Zj Zb2 rfl rfl u_0))<|o_g (Qg_t rfl (fun hG=>Zs ty_2 rfl rfl (Opd.gd hG u_0)))<|o_g (Qg_t rfl (fun hG=>Z8 rfl rfl (Opd.gd hG u_0) (Opd.gd hG u_1)))<|o_p rfl (Zbe rfl rfl u_0 (fun hz=>(Opd.gd hz u_1)))<|Qm rfl u_0<|o_g (Qg_t rfl (fun hG=>Zj Zha rfl rfl u_0))<|o_g (Qg_t rfl (fun hG=>Zs ty_2 rfl rfl (Opd.gd hG u_0)))<|o_g (Qg_t rfl (fun hG=>Zj Zha rfl rfl u_0))<|o_g (Qg_t rfl (fun hG=>Zs ty_2 rfl rfl (Opd.gd hG u_0)))<|o_g (Qg_t rfl (fun hG=>Z8 rfl rfl (Opd.gd hG u_0) (Opd.gd hG u_1)))<|o_p rfl (Zbe rfl rfl u_0 (fun hz=>(Opd.gd hz u_1)))<|Qm rfl u_0<|o_g (Qg_t rfl (fun hG=>Zj Zg9 rfl rfl u_0))<|o_g (Qg_t rfl (fun hG=>Zs ty_2 rfl rfl (Opd.gd hG u_0)))<|o_g (Qg_t rfl (fun hG=>Zj Zg9 rfl rfl u_0))<|o_g (Qg_t rfl (fun hG=>Zs ty_2 rfl rfl (Opd.gd hG u_0)))<|o_g (Qg_t rfl (fun hG=>Z8 rfl rfl (Opd.gd hG u_0) (Opd.gd hG u_1)))<|o_p rfl (Zbe rfl rfl u_0 (fun hz=>(Opd.gd hz u_1)))<|Qm rfl u_0<|o_g (Qg_t rfl (fun hG=>Zj Zdi rfl rfl u_0))<|o_g (Qg_t rfl (fun hG=>Zs Zb8 rfl rfl (Opd.gd hG u_0)))<|o_g (Qg_t rfl (fun hG=>Zj Zdi rfl rfl u_0))<|o_g (Qg_t rfl (fun hG=>Zs Zb8 rfl rfl (Opd.gd hG u_0)))<|o_g (Qg_t rfl (fun hG=>Zr Zp8 (Zi7 _ _ (Zbq h2 hG)) rfl rfl (.cons (Opd.gd hG u_0) (.cons (Opd.gd hG u_1) .nil))))<|o_p rfl (Zbe rfl rfl u_0 (fun hz=>(Opd.gd hz u_1)))<|Qm rfl u_0<|o_g (Qg_t rfl (fun hG=>Zj Zet rfl rfl u_0))<|o_g (Qg_t rfl (fun hG=>Zs ty_3 rfl rfl (Opd.gd hG u_0)))<|o_g (Qg_t rfl (fun hG=>Zj Zet rfl rfl u_0))<|o_g (Qg_t rfl (fun hG=>Zs ty_3 rfl rfl (Opd.gd hG u_0)))<|o_g (Qg_t rfl (fun hG=>Z8 rfl rfl (Opd.gd hG u_0) (Opd.gd hG u_1)))<|o_p rfl (Zbe rfl rfl u_0 (fun hz=>(Opd.gd hz u_1)))<|Qm rfl u_0<|o_g (Qg_t rfl (fun hG=>Zj Zhc rfl rfl u_0))<|o_g (Qg_t rfl (fun hG=>Zs ty_9 rfl rfl (Opd.gd hG u_0)))<|o_g (Qg_t rfl (fun hG=>Zj Zhc rfl rfl u_0))<|o_g (Qg_t rfl (fun hG=>Zs ty_9 rfl rfl (Opd.gd hG u_0)))<|o_g (Qg_t rfl (fun hG=>Zkr rfl rfl (Opd.gd hG u_0) (Opd.gd hG u_1)))<|o_p rfl (Zbe rfl rfl u_0 (fun hz=>(Opd.gd hz u_1)))<|Qm rfl u_0<|o_g (Qg_t rfl (fun hG=>Zj Zbw rfl rfl u_0))<|o_g (Qg_t rfl (fun hG=>Zs Zcg rfl rfl (Opd.gd hG u_0)))<|o_g (Qg_t rfl (fun hG=>Zj Zbw rfl rfl u_0))<|o_g (Qg_t rfl (fun hG=>Zs Zcg rfl rfl (Opd.gd hG u_0)))<|o_g (Qg_t rfl (fun hG=>Zr Z6b (Zge 111 [] rfl Z59 (fun y0 y1=>Zhu y0 y1) (fun y0 y1 r h=>Zt5 y0 y1 h) _ _ (Zbq h4 hG)) rfl rfl (.cons (Opd.gd hG u_0) (.cons (Opd.gd hG u_1) (.cons Opd.fnc .nil)))))<|o_p rfl (Zbe rfl rfl u_0 (fun hz=>(Opd.gd hz u_1)))<|Qa rfl u_0<|o_n) (fun a g hst hb=>?_)
 refine wp_ret ?_
 obtain rfl:=Option.some.inj H0
 exact Zz rfl hst hb (Zg (s:=4)) (hst.at 0 rfl)
theorem Zwq (a0:Zi) (a1:Zcy) {r:Bool} (h:Zon a0 a1=some r):FnOk Tryd.prog 78 [(Z1.pd a0),(Zdv.pd a1)] (Zba r):=by
 have H0:=h
 unfold Zon at H0
 clear h
 refine Zbt (N:=40) Tryd.func78 rfl rfl (Qe rfl) rfl rfl (fun a g0 hst hb=>?_)
 refine r_s (T:=[⟨[.o 0],_,[],[],[2]⟩,⟨[.o 1],_,[],[],[3]⟩,⟨[],_,[],[],[4]⟩]) (F:=[.p 0 0,.p 1 0]) hst hb Zb
  (Qb rfl u_0<|Qb rfl u_0<|Qa rfl c_b<|o_n) (fun a g hst hb=>?_)
 obtain ⟨r1,h2,H0⟩:=Zf H0;obtain ⟨r3,h4,H0⟩:=Zf H0;obtain ⟨r5,h6,H0⟩:=Zf H0;obtain ⟨r7,h8,H0⟩:=Zf H0;obtain ⟨r9,h10,H0⟩:=Zf H0;obtain ⟨r11,h12,H0⟩:=Zf H0
 refine r_s (T:=⟨[.o 1],_,[],[],[5]⟩ :: ⟨[.p 0 0],_,[],[0],[6]⟩ :: ⟨[.p 1 0],_,[],[0,1],[7]⟩ :: ⟨[.p 2 0,.o 0],_,[],[0,1,2],[8]⟩ :: ⟨[.p 2 0,.p 3 0],_,[],Lr 4,[9]⟩ :: ⟨[.p 2 0,.p 4 0],_,[],Lr 5,[10]⟩ :: ⟨[.p 2 0,.p 5 0],_,[],Lr 6,[11]⟩ :: ⟨[.p 6 0],_,[],Lr 7,[12]⟩ :: ⟨[.p 7 0,.o 1],_,[],Lr 8,[13]⟩ :: ⟨[.p 7 0,.p 8 0],_,[],Lr 9,[14]⟩ :: ⟨[.p 7 0,.p 9 0],_,[],Lr 10,[15]⟩ :: ⟨[.p 10 0,.o 0],_,[],Lr 11,[16]⟩ :: ⟨[.p 10 0,.p 11 0],_,[],Lr 12,[17]⟩ :: ⟨[.p 10 0,.p 12 0],_,[],Lr 13,[18]⟩ :: ⟨[.p 7 0,.p 10 0,.p 13 0],_,[],Lr 14,[19]⟩ :: ⟨[.p 7 0,.p 14 0],_,[],Lr 15,[20]⟩ :: ⟨[.p 15 0],_,[],Lr 16,[21]⟩ :: ⟨[.p 16 0,.o 1],_,[],Lr 17,[22]⟩ :: ⟨[.p 16 0,.p 17 0],_,[],Lr 18,[23]⟩ :: ⟨[.p 16 0,.p 18 0],_,[],Lr 19,[24]⟩ :: ⟨[.p 19 0,.o 0],_,[],Lr 20,[25]⟩ :: ⟨[.p 19 0,.p 20 0],_,[],Lr 21,[26]⟩ :: ⟨[.p 19 0,.p 21 0],_,[],Lr 22,[27]⟩ :: ⟨[.p 16 0,.p 19 0,.p 22 0],_,[],Lr 23,[28]⟩ :: ⟨[.p 16 0,.p 23 0],_,[],Lr 24,[29]⟩ :: ⟨[.p 24 0],_,[],Lr 25,[30]⟩ :: ⟨[.p 25 0,.o 1],_,[],Lr 26,[31]⟩ :: ⟨[.p 25 0,.p 26 0],_,[],Lr 27,[32]⟩ :: ⟨[.p 25 0,.p 27 0],_,[],Lr 28,[33]⟩ :: ⟨[.p 28 0,.o 0],_,[],Lr 29,[34]⟩ :: ⟨[.p 28 0,.p 29 0],_,[],Lr 30,[35]⟩ :: ⟨[.p 28 0],_,[],Lr 29,[36]⟩ :: ⟨[.p 28 0,.p 30 0,.p 31 0],_,[],Lr 32,[37]⟩ :: ⟨[.p 25 0,.p 28 0,.p 32 0],_,[],Lr 33,[38]⟩ :: ⟨[.p 25 0,.p 33 0],_,[],Lr 34,[39]⟩ :: ⟨[.p 34 0],_,[],Lr 35,[4]⟩ :: []) (F:=[.p 35 0]) hst hb Zb
  (Ql rfl Zi2 u_0<|o_p rfl (Zr Zru (Zif _ _ h2) rfl rfl (.cons u_0 (.cons c_i .nil)))<|Qm rfl u_0<|o_g (Qg_f rfl (fun hG=>Zj Zcq rfl rfl u_0))<|o_g (Qg_f rfl (fun hG=>Zs ty_2 rfl rfl (Opd.gd hG u_0)))<|o_g (Qg_f rfl (fun hG=>Z8 rfl rfl (Opd.gd hG u_0) c_i))<|o_p rfl (Zbl rfl rfl u_0 (fun hz=>(Opd.gd (bNF hz) u_1)))<|Qm rfl u_0<|o_g (Qg_t rfl (fun hG=>Zs Zi2 rfl rfl u_0))<|o_g (Qg_t rfl (fun hG=>Zr Zru (Zif _ _ (Zbq h4 hG)) rfl rfl (.cons (Opd.gd hG u_0) (.cons c_i .nil))))<|o_g (Qg_t rfl (fun hG=>Zy rfl rfl (Opd.gd hG u_0)))<|o_g (Qg_fi rfl (fun hG=>Zj Zg8 rfl rfl u_0))<|o_g (Qg_fi rfl (fun hG=>Zs Zb8 rfl rfl (Opd.gd hG u_0)))<|o_g (Qg_fi rfl (fun hG=>Zr Zp8 (Zi7 _ _ (Zbq h6 hG)) rfl rfl (.cons (Opd.gd hG u_0) (.cons c_f .nil))))<|o_g (Qg_t rfl (fun hG=>Zbl rfl rfl (Opd.gd hG u_0) (fun hz=>(Opd.gd (bA hG (bNF hz)) u_1))))<|o_p rfl (Zbe rfl rfl u_0 (fun hz=>(Opd.gd hz u_1)))<|Qm rfl u_0<|o_g (Qg_t rfl (fun hG=>Zs Zi2 rfl rfl u_0))<|o_g (Qg_t rfl (fun hG=>Zr Zru (Zif _ _ (Zbq h8 hG)) rfl rfl (.cons (Opd.gd hG u_0) (.cons c_i .nil))))<|o_g (Qg_t rfl (fun hG=>Zy rfl rfl (Opd.gd hG u_0)))<|o_g (Qg_fi rfl (fun hG=>Zj Zea rfl rfl u_0))<|o_g (Qg_fi rfl (fun hG=>Zs ty_9 rfl rfl (Opd.gd hG u_0)))<|o_g (Qg_fi rfl (fun hG=>Zkr rfl rfl (Opd.gd hG u_0) c_s))<|o_g (Qg_t rfl (fun hG=>Zbl rfl rfl (Opd.gd hG u_0) (fun hz=>(Opd.gd (bA hG (bNF hz)) u_1))))<|o_p rfl (Zbe rfl rfl u_0 (fun hz=>(Opd.gd hz u_1)))<|Qm rfl u_0<|o_g (Qg_t rfl (fun hG=>Zs Zi2 rfl rfl u_0))<|o_g (Qg_t rfl (fun hG=>Zr Zru (Zif _ _ (Zbq h10 hG)) rfl rfl (.cons (Opd.gd hG u_0) (.cons c_i .nil))))<|o_g (Qg_t rfl (fun hG=>Zy rfl rfl (Opd.gd hG u_0)))<|o_g (Qg_fi rfl (fun hG=>Zj Zk3 rfl rfl u_0))<|o_g (Qg_fi rfl (fun hG=>Zs Z0 rfl rfl (Opd.gd hG u_0)))<|o_g (Qg_fi rfl (fun hG=>Zlk rfl rfl ))<|o_g (Qg_fi rfl (fun hG=>Zr Z6f (Zwy _ _ (Zbq h12 hG)) rfl rfl (.cons (Opd.gd hG u_0) (.cons (Opd.gd hG u_1) .nil))))<|o_g (Qg_t rfl (fun hG=>Zbl rfl rfl (Opd.gd hG u_0) (fun hz=>(Opd.gd (bA hG (bNF hz)) u_1))))<|o_p rfl (Zbe rfl rfl u_0 (fun hz=>(Opd.gd hz u_1)))<|Qa rfl u_0<|o_n) (fun a g hst hb=>?_)
 refine wp_ret ?_
 obtain rfl:=Option.some.inj H0
 exact Zz rfl hst hb (Zg (s:=4)) (hst.at 0 rfl)
theorem Zw6 (a0:Zcy) {r:Int} (h:Zny a0=some r):FnOk Tryd.prog 79 [(Zdv.pd a0)] (pInt .i64 r):=by
 have H0:=h
 unfold Zny at H0
 clear h
 refine Zbt (N:=6) Tryd.func79 rfl rfl (Qe rfl) rfl rfl (fun a g0 hst hb=>?_)
 refine r_s (T:=[⟨[.o 0],_,[],[],[1]⟩,⟨[],_,[],[],[2]⟩]) (F:=[.p 0 0]) hst hb Zb
  (Qb rfl u_0<|Qa rfl c_i<|o_n) (fun a g hst hb=>?_)
 refine wp_seq ?_
 refine r_s (T:=[⟨[.o 0],_,[],[],[3]⟩,⟨[.p 0 0],_,[],[0],[4]⟩,⟨[.p 1 0],_,[],[0,1],[5]⟩]) (F:=[.p 2 0]) hst hb Zb
  (Qf rfl Zvq u_0<|Ql rfl ty_3 u_0<|o_p rfl (Z8 rfl rfl u_0 c_i)<|o_n) (fun a g hst hb=>?_)
 refine wp_cond_split (hst.bool 0 rfl) (fun hc1=>?_) (fun hc1=>?_)
 ·replace H0:=Zn hc1 H0
  refine r_s (L:=[]) (T:=[⟨[],_,[],[],[2]⟩]) (F:=[.p 0 0]) (hst.pick [] rfl) hb Zb
   (Qa rfl c_i<|o_n) (fun a g hst hb=>?_)
  refine wp_ret ?_
  refine Zk ?_
  obtain rfl:=Option.some.inj H0
  exact Zz rfl hst hb (Zg (s:=2)) (hst.at 0 rfl)
 ·replace H0:=Zo hc1 H0
  refine wp_skip ?_
  refine Zm ?_
  refine r_s (L:=[]) (T:=[⟨[],_,[],[],[2]⟩]) (F:=[.p 0 0]) (hst.pick [] rfl) hb Zb
   (Qa rfl c_i<|o_n) (fun a g hst hb=>?_)
  refine wp_ret ?_
  obtain rfl:=Option.some.inj H0
  exact Zz rfl hst hb (Zg (s:=2)) (hst.at 0 rfl)
theorem Zpu (a0:Zi) {r:Int} (h:Ze1 a0=some r):FnOk Tryd.prog 58 [(Z1.pd a0)] (pInt .i64 r):=by
 have H0:=h
 unfold Ze1 at H0
 clear h
 refine Zbt (N:=64) Tryd.func58 rfl rfl (Qe rfl) rfl rfl (fun a g0 hst hb=>?_)
 refine r_s (T:=[⟨[.o 0],_,[],[],[1]⟩,⟨[],_,[],[],[2]⟩]) (F:=[.p 0 0]) hst hb Zb
  (Qb rfl u_0<|Qa rfl c_i<|o_n) (fun a g hst hb=>?_)
 obtain ⟨r1,h2,H0⟩:=Zf H0
 refine r_s (T:=[⟨[.o 0],_,[],[],[4]⟩,⟨[.p 0 0],_,[],[0],[5]⟩,⟨[.p 1 0],_,[],[0,1],[6]⟩,⟨[],[(3,(pBox Zdv 3 (default:Zcy)))],[4],[],[3]⟩,⟨[.p 2 0,.p 3 0],_,[4],Lr 4,[3]⟩]) (F:=[.o 0,.p 4 0]) hst hb Zb
  (Qf rfl Zch u_0<|Ql rfl ty_3 u_0<|o_p rfl (Zr Z2s (Ztj _ h2) rfl rfl (.cons u_0 .nil))<|o_p rfl (Zbm (zs:=[.string ByteArray.empty,.int .i64 0,.string ByteArray.empty]) (by kernel_rfl) (fun g=>Zq7 g) rfl rfl)<|o_p rfl (Zb9 Zi2 rfl rfl u_1 u_0)<|o_n) (fun a g hst hb=>?_)
 refine wp_seq ?_
 refine wp_block ?_
 refine r_s (T:=[⟨[.o 1],_,[],[],[8]⟩,⟨[.p 0 0],_,[],[0],[9]⟩,⟨[.p 1 0],_,[],[0,1],[10]⟩,⟨[.p 2 0],_,[],[0,1,2],[7]⟩]) (F:=[.o 0,.o 1,.p 3 0]) hst hb Zb
  (Qf rfl Z2l u_0<|Ql rfl ty_9 u_0<|o_p rfl (Zkr rfl rfl u_0 c_s)<|Qa rfl u_0<|o_n) (fun a g hst hb=>?_)
 refine wp_cond_split (hst.bool 2 rfl) (fun hc3=>?_) (fun hc3=>?_)
 ·replace H0:=Zn hc3 H0
  refine r_s (L:=[]) (T:=[⟨[],_,[],[],[2]⟩]) (F:=[.p 0 0]) (hst.pick [] rfl) hb Zb
   (Qa rfl c_i<|o_n) (fun a g hst hb=>?_)
  refine wp_ret ?_
  refine Zv ?_
  refine Zk ?_
  obtain rfl:=Option.some.inj H0
  exact Zz rfl hst hb (Zg (s:=2)) (hst.at 0 rfl)
 ·replace H0:=Zo hc3 H0
  refine r_s (L:=[(1,_),(3,_)]) (T:=[⟨[.o 0],_,[],[],[12]⟩,⟨[.p 0 0],_,[],[0],[13]⟩,⟨[.p 1 0],_,[],[0,1],[14]⟩,⟨[.p 2 0],_,[],[0,1,2],[15]⟩,⟨[.p 3 0,.o 0],_,[],Lr 4,[16]⟩,⟨[.p 3 0,.p 4 0],_,[],Lr 5,[17]⟩,⟨[.p 3 0,.p 5 0],_,[],Lr 6,[18]⟩,⟨[.p 3 0,.p 6 0],_,[],Lr 7,[19]⟩,⟨[.p 3 0,.p 7 0],_,[],Lr 8,[20]⟩,⟨[.p 8 0],_,[],Lr 9,[11]⟩]) (F:=[.o 0,.o 1,.p 9 0]) (hst.pick [0,1] rfl) hb Zb
   (Qf rfl Znr u_0<|Ql rfl ty_9 u_0<|o_p rfl (Zkr rfl rfl u_0 c_s)<|Qm rfl u_0<|o_g (Qg_f rfl (fun hG=>Zj Znr rfl rfl u_0))<|o_g (Qg_f rfl (fun hG=>Zs ty_9 rfl rfl (Opd.gd hG u_0)))<|o_g (Qg_f rfl (fun hG=>Zff Tryd.underlying9 rfl rfl (Opd.gd hG u_0)))<|o_g (Qg_f rfl (fun hG=>Zcf rfl rfl (Opd.gd hG u_0) c_i))<|o_p rfl (Zbl rfl rfl u_0 (fun hz=>(Opd.gd (bNF hz) u_1)))<|Qa rfl u_0<|o_n) (fun a g hst hb=>?_)
  refine wp_cond_split (hst.bool 2 rfl) (fun hc4=>?_) (fun hc4=>?_)
  ·replace H0:=Zn hc4 H0
   refine r_s (L:=[]) (T:=[⟨[],_,[],[],[2]⟩]) (F:=[.p 0 0]) (hst.pick [] rfl) hb Zb
    (Qa rfl c_i<|o_n) (fun a g hst hb=>?_)
   refine wp_ret ?_
   refine Zv ?_
   refine Zk ?_
   obtain rfl:=Option.some.inj H0
   exact Zz rfl hst hb (Zg (s:=2)) (hst.at 0 rfl)
  ·replace H0:=Zo hc4 H0
   obtain ⟨r5,h6,H0⟩:=Zf H0
   refine r_s (L:=[(1,_),(3,_)]) (T:=[⟨[.o 0],_,[],[],[22]⟩,⟨[.o 1],_,[],[],[23]⟩,⟨[.p 0 0,.p 1 0],_,[],[0,1],[24]⟩,⟨[.p 2 0],_,[],[0,1,2],[25]⟩,⟨[.p 3 0],_,[],Lr 4,[21]⟩]) (F:=[.o 0,.o 1,.p 4 0]) (hst.pick [0,1] rfl) hb Zb
    (Ql rfl Zgr u_0<|Ql rfl Zi2 u_0<|o_p rfl (Zr Z8p (Zwq _ _ h6) rfl rfl (.cons u_0 (.cons u_1 .nil)))<|Qn rfl u_0<|Qa rfl u_0<|o_n) (fun a g hst hb=>?_)
   refine wp_cond_split (hst.bool 2 rfl) (fun hc7=>?_) (fun hc7=>?_)
   ·replace H0:=Zn hc7 H0
    refine r_s (L:=[]) (T:=[⟨[],_,[],[],[2]⟩]) (F:=[.p 0 0]) (hst.pick [] rfl) hb Zb
     (Qa rfl c_i<|o_n) (fun a g hst hb=>?_)
    refine wp_ret ?_
    refine Zv ?_
    refine Zk ?_
    obtain rfl:=Option.some.inj H0
    exact Zz rfl hst hb (Zg (s:=2)) (hst.at 0 rfl)
   ·replace H0:=Zo hc7 H0
    obtain ⟨r8,h9,H0⟩:=Zf H0
    refine r_s (L:=[(1,_),(3,_)]) (T:=[⟨[.o 0],_,[],[],[27]⟩,⟨[.p 0 0],_,[],[0],[28]⟩,⟨[.p 1 0],_,[],[0,1],[29]⟩,⟨[.o 1],_,[],[],[30]⟩,⟨[.p 3 0],_,[],[3],[31]⟩,⟨[.p 2 0,.p 4 0],_,[],Lr 5,[32]⟩,⟨[.p 5 0],_,[],Lr 6,[26]⟩]) (F:=[.o 0,.p 6 0]) (hst.pick [0,1] rfl) hb Zb
     (Qf rfl Zea u_0<|Ql rfl ty_9 u_0<|o_p rfl (Zff Tryd.underlying9 rfl rfl u_0)<|Ql rfl Zi2 u_0<|o_p rfl (Zr Z7q (Zw6 _ h9) rfl rfl (.cons u_0 .nil))<|o_p rfl (Zcf rfl rfl u_0 u_1)<|Qa rfl u_0<|o_n) (fun a g hst hb=>?_)
    refine wp_cond_split (hst.bool 1 rfl) (fun hc10=>?_) (fun hc10=>?_)
    ·replace H0:=Zn hc10 H0
     refine r_s (L:=[]) (T:=[⟨[],_,[],[],[2]⟩]) (F:=[.p 0 0]) (hst.pick [] rfl) hb Zb
      (Qa rfl c_i<|o_n) (fun a g hst hb=>?_)
     refine wp_ret ?_
     refine Zv ?_
     refine Zk ?_
     obtain rfl:=Option.some.inj H0
     exact Zz rfl hst hb (Zg (s:=2)) (hst.at 0 rfl)
    ·replace H0:=Zo hc10 H0
     refine r_s (L:=[(1,_)]) (T:=⟨[.o 0],_,[],[],[34]⟩ :: ⟨[.p 0 0],_,[],[0],[35]⟩ :: ⟨[.p 1 0],_,[],[0,1],[36]⟩ :: ⟨[.p 2 0],_,[],[0,1,2],[37]⟩ :: ⟨[.p 3 0,.o 0],_,[],Lr 4,[38]⟩ :: ⟨[.p 3 0,.p 4 0],_,[],Lr 5,[39]⟩ :: ⟨[.p 3 0,.p 5 0],_,[],Lr 6,[40]⟩ :: ⟨[.p 3 0,.p 6 0],_,[],Lr 7,[41]⟩ :: ⟨[.p 7 0],_,[],Lr 8,[42]⟩ :: ⟨[.p 8 0,.o 0],_,[],Lr 9,[43]⟩ :: ⟨[.p 8 0,.p 9 0],_,[],Lr 10,[44]⟩ :: ⟨[.p 8 0,.p 10 0],_,[],Lr 11,[45]⟩ :: ⟨[.p 8 0,.p 11 0],_,[],Lr 12,[46]⟩ :: ⟨[.p 12 0,.o 0],_,[],Lr 13,[47]⟩ :: ⟨[.p 12 0,.p 13 0],_,[],Lr 14,[48]⟩ :: ⟨[.p 12 0,.p 14 0],_,[],Lr 15,[49]⟩ :: ⟨[.p 8 0,.p 12 0,.p 15 0],_,[],Lr 16,[50]⟩ :: ⟨[.p 8 0,.p 16 0],_,[],Lr 17,[51]⟩ :: ⟨[.p 17 0],_,[],Lr 18,[33]⟩ :: []) (F:=[.o 0,.p 18 0]) (hst.pick [0] rfl) hb Zb
      (Qf rfl Zch u_0<|Ql rfl ty_3 u_0<|o_p rfl (Z8 rfl rfl u_0 c_i)<|Qm rfl u_0<|o_g (Qg_f rfl (fun hG=>Zj Zch rfl rfl u_0))<|o_g (Qg_f rfl (fun hG=>Zs ty_3 rfl rfl (Opd.gd hG u_0)))<|o_g (Qg_f rfl (fun hG=>Z8 rfl rfl (Opd.gd hG u_0) c_i))<|o_p rfl (Zbl rfl rfl u_0 (fun hz=>(Opd.gd (bNF hz) u_1)))<|Qm rfl u_0<|o_g (Qg_t rfl (fun hG=>Zj Zcq rfl rfl u_0))<|o_g (Qg_t rfl (fun hG=>Zs ty_2 rfl rfl (Opd.gd hG u_0)))<|o_g (Qg_t rfl (fun hG=>Zb6 rfl rfl (Opd.gd hG u_0) c_i))<|o_g (Qg_t rfl (fun hG=>Zy rfl rfl (Opd.gd hG u_0)))<|o_g (Qg_fi rfl (fun hG=>Zj Zcq rfl rfl u_0))<|o_g (Qg_fi rfl (fun hG=>Zs ty_2 rfl rfl (Opd.gd hG u_0)))<|o_g (Qg_fi rfl (fun hG=>Zcf rfl rfl (Opd.gd hG u_0) c_i))<|o_g (Qg_t rfl (fun hG=>Zbl rfl rfl (Opd.gd hG u_0) (fun hz=>(Opd.gd (bA hG (bNF hz)) u_1))))<|o_p rfl (Zbe rfl rfl u_0 (fun hz=>(Opd.gd hz u_1)))<|Qa rfl u_0<|o_n) (fun a g hst hb=>?_)
     refine wp_cond_split (hst.bool 1 rfl) (fun hc11=>?_) (fun hc11=>?_)
     ·replace H0:=Zn hc11 H0
      refine r_s (L:=[]) (T:=[⟨[],_,[],[],[2]⟩]) (F:=[.p 0 0]) (hst.pick [] rfl) hb Zb
       (Qa rfl c_i<|o_n) (fun a g hst hb=>?_)
      refine wp_ret ?_
      refine Zv ?_
      refine Zk ?_
      obtain rfl:=Option.some.inj H0
      exact Zz rfl hst hb (Zg (s:=2)) (hst.at 0 rfl)
     ·replace H0:=Zo hc11 H0
      obtain ⟨r12,h13,H0⟩:=Zf H0
      refine r_s (L:=[(1,_)]) (T:=[⟨[.o 0],_,[],[],[53]⟩,⟨[.p 0 0],_,[],[0],[54]⟩,⟨[.p 1 0],_,[],[0,1],[55]⟩,⟨[.p 2 0],_,[],[0,1,2],[56]⟩,⟨[.p 3 0],_,[],Lr 4,[52]⟩]) (F:=[.o 0,.p 4 0]) (hst.pick [0] rfl) hb Zb
       (Qf rfl Zg8 u_0<|Ql rfl Zb8 u_0<|o_p rfl (Zr Zza (Zlw _ h13) rfl rfl (.cons u_0 .nil))<|Qn rfl u_0<|Qa rfl u_0<|o_n) (fun a g hst hb=>?_)
      refine wp_cond_split (hst.bool 1 rfl) (fun hc14=>?_) (fun hc14=>?_)
      ·replace H0:=Zn hc14 H0
       refine r_s (L:=[]) (T:=[⟨[],_,[],[],[2]⟩]) (F:=[.p 0 0]) (hst.pick [] rfl) hb Zb
        (Qa rfl c_i<|o_n) (fun a g hst hb=>?_)
       refine wp_ret ?_
       refine Zv ?_
       refine Zk ?_
       obtain rfl:=Option.some.inj H0
       exact Zz rfl hst hb (Zg (s:=2)) (hst.at 0 rfl)
      ·replace H0:=Zo hc14 H0
       refine r_s (L:=[(1,_)]) (T:=[⟨[.o 0],_,[],[],[58]⟩,⟨[.p 0 0],_,[],[0],[59]⟩,⟨[.p 1 0],_,[],[0,1],[60]⟩,⟨[.p 2 0],_,[],[0,1,2],[57]⟩]) (F:=[.o 0,.p 3 0]) (hst.pick [0] rfl) hb Zb
        (Qf rfl Zch u_0<|Ql rfl ty_3 u_0<|o_p rfl (Z8 rfl rfl u_0 c_i)<|Qa rfl u_0<|o_n) (fun a g hst hb=>?_)
       refine wp_cond_split (hst.bool 1 rfl) (fun hc15=>?_) (fun hc15=>?_)
       ·replace H0:=Zn hc15 H0
        obtain ⟨r16,h17,H0⟩:=Zf H0
        refine r_s (L:=[(1,_)]) (T:=[⟨[.o 0],_,[],[],[61]⟩,⟨[.p 0 0],_,[],[0],[62]⟩,⟨[.p 1 0],_,[],[0,1],[63]⟩,⟨[.p 2 0],_,[],[0,1,2],[2]⟩]) (F:=[.p 3 0]) (hst.pick [0] rfl) hb Zb
         (Qf rfl Zk3 u_0<|Ql rfl Z0 u_0<|o_p rfl (Zr Zur (Zkx _ h17) rfl rfl (.cons u_0 .nil))<|Qa rfl u_0<|o_n) (fun a g hst hb=>?_)
        refine wp_ret ?_
        refine Zv ?_
        refine Zk ?_
        obtain rfl:=Option.some.inj H0
        exact Zz rfl hst hb (Zg (s:=2)) (hst.at 0 rfl)
       ·replace H0:=Zo hc15 H0
        refine wp_skip ?_
        refine Z4 ?_
        refine Zm ?_
        refine r_s (L:=[]) (T:=[⟨[],_,[],[],[2]⟩]) (F:=[.p 0 0]) (hst.pick [] rfl) hb Zb
         (Qa rfl c_i<|o_n) (fun a g hst hb=>?_)
        refine wp_ret ?_
        obtain rfl:=Option.some.inj H0
        exact Zz rfl hst hb (Zg (s:=2)) (hst.at 0 rfl)
theorem Zhx (a0:Int) (a1:Za) (a2:Bool) {r:Za × Bool × Ze × Za} (h:Zfn a0 a1 a2=some r):FnB Tryd.prog 67 [.val (pInt .i64 a0),.box Zc a1 r.2.2.2,.val (Kd.bool.ptr a2)] (pTup [(Zc.pd r.1),(Zba r.2.1),(Zt.pd r.2.2.1)]):=by
 have H0:=h
 unfold Zfn at H0
 clear h
 refine Zik (N:=11) Tryd.func67 rfl rfl (Qe rfl) rfl rfl (fun a g0 bs hbs hst hb=>?_)
 obtain ⟨b1,rfl⟩:=Z75 hbs
 replace hst:St 11 [(0,(pInt .i64 a0)),(1,(Zbp (some b1) Zc 1 a1)),(2,(Kd.bool.ptr a2))] _ _:=hst
 refine r_s (T:=[⟨[],[(4,(pBox Zc 4 (default:Za)))],[5],[],[4]⟩,⟨[],_,[],[],[5]⟩,⟨[],[(6,(pBox Zt 6 (default:Ze)))],[7],[],[6]⟩]) (F:=[.o 0,.o 1,.o 2,.p 0 0,.p 2 0]) hst hb Zb
  (o_p rfl (Zbm (zs:=[.int .i64 0,.int .i64 0,.int .i64 0,.int .i64 0,.float .f64 0,.int .i64 0,.string ByteArray.empty,.slice none 0 0]) (by kernel_rfl) (fun g=>Zbr g) rfl rfl)<|Qa rfl c_b<|o_p rfl (Zbm (zs:=[.int .i64 0,.int .i64 0,.int .i64 0,.int .i64 0,.int .i64 0,.int .i64 0,.float .f64 0,.int .i64 0,.string ByteArray.empty,.slice none 0 0]) (by kernel_rfl) (fun g=>Zfd g) rfl rfl)<|o_n) (fun a g hst hb=>?_)
 refine r_s (T:=[⟨[.o 1],_,[],[],[7]⟩,⟨[.o 2],_,[],[],[8]⟩,⟨[.o 0],_,[],[],[9]⟩,⟨[.p 2 0],_,[],[2],[10]⟩,⟨[.p 0 0,.o 3],_,[5],[0],[4]⟩,⟨[.p 1 0],_,[],[0,1,4],[5]⟩,⟨[.p 3 0,.o 4],_,[7],Lr 6,[6]⟩]) (F:=[.o 1,.p 4 0,.p 5 0,.p 6 0]) hst hb Zb
  (QM rfl Z0 u_0<|Ql rfl ty_4 u_0<|Qm rfl u_0<|o_p rfl (Zta rfl rfl u_0)<|o_p rfl (Z6 Z0 rfl rfl u_1 u_0)<|Qa rfl u_0<|o_p rfl (Z6 Zcs rfl rfl u_1 u_0)<|o_n) (fun a g hst hb=>?_)
 refine wp_ret ?_
 obtain rfl:=Option.some.inj H0
 obtain ⟨u0,hu0,hq0⟩:=Zbh (P:=Tryd.prog) Z0 (hst.at 1 rfl)
 obtain ⟨u2,hu2,hq2⟩:=Zbh (P:=Tryd.prog) Zcs (hst.at 3 rfl)
 exact Z8x rfl hst hb hu0 (Zg (s:=5)) hu2 (Zfy hq0 (hst.at 2 rfl) hq2) ⟨Zci (hst.at 0 rfl),trivial⟩
theorem Zqq (a0:Za) (a1:Zi) (a2:Ze) {r:Int × Za × Ze} (h:Zim a0 a1 a2=some r):FnB Tryd.prog 82 [.box Zc a0 r.2.1,.val (Z1.pd a1),.box Zt a2 r.2.2] (pInt .i64 r.1):=by
 have H0:=h
 unfold Zim at H0
 clear h
 refine Zik (N:=12) Tryd.func82 rfl rfl (Qe rfl) rfl rfl (fun a g0 bs hbs hst hb=>?_)
 obtain ⟨b0,b2,rfl⟩:=Zkc hbs
 replace hst:St 12 [(0,(Zbp (some b0) Zc 0 a0)),(1,(Z1.pd a1)),(2,(Zbp (some b2) Zt 2 a2))] _ _:=hst
 refine r_s (T:=[⟨[.o 1],_,[],[],[4]⟩,⟨[],_,[],[],[6]⟩]) (F:=[.o 0,.o 2,.p 0 0]) hst hb Zb
  (Qb rfl u_0<|Qa rfl c_i<|o_n) (fun a g hst hb=>?_)
 refine r_s (T:=[⟨[.o 0],_,[],[],[7]⟩,⟨[.o 2],_,[],[],[8]⟩,⟨[.p 1 0],_,[],[1],[9]⟩,⟨[.p 0 0],_,[],[0,1,2],[10]⟩,⟨[.p 3 0],_,[],Lr 4,[11]⟩,⟨[.p 2 0,.p 4 0,.o 0],_,[1],Lr 5,[0,7,10,11]⟩]) (F:=[.p 5 0,.o 1]) hst hb Zb
  (Qm rfl u_0<|Qf rfl Zea u_0<|Ql rfl ty_9 u_0<|o_p rfl (Zbf rfl rfl u_0 (fun _ _ ⟨_,_,_,e,_⟩=>⟨_,e⟩))<|o_p rfl (Zh Zhc (off:=6) (by kernel_rfl) rfl rfl u_0)<|o_p rfl (Zqh ty_9 rfl rfl u_2 u_1 u_0)<|o_n) (fun a g hst hb=>?_)
 refine r_s (T:=[⟨[],_,[],[],[6]⟩]) (F:=[.o 0,.o 1,.p 0 0]) hst hb Zb
  (Qa rfl c_i<|o_n) (fun a g hst hb=>?_)
 refine wp_ret ?_
 obtain rfl:=Option.some.inj H0
 exact Zgp rfl hst hb (Zg (s:=6)) (hst.at 2 rfl) ⟨Zci (hst.at 0 rfl),Zci (hst.at 1 rfl),trivial⟩
theorem Zqr (a0:Za) (a1:Zi) (a2:Ze) {r:Int × Za × Ze} (h:Zf6 a0 a1 a2=some r):FnB Tryd.prog 83 [.box Zc a0 r.2.1,.val (Z1.pd a1),.box Zt a2 r.2.2] (pInt .i64 r.1):=by
 have H0:=h
 unfold Zf6 at H0
 clear h
 refine Zik (N:=19) Tryd.func83 rfl rfl (Qe rfl) rfl rfl (fun a g0 bs hbs hst hb=>?_)
 obtain ⟨b0,b2,rfl⟩:=Zkc hbs
 replace hst:St 19 [(0,(Zbp (some b0) Zc 0 a0)),(1,(Z1.pd a1)),(2,(Zbp (some b2) Zt 2 a2))] _ _:=hst
 refine r_s (T:=[⟨[.o 1],_,[],[],[4]⟩,⟨[],_,[],[],[6]⟩]) (F:=[.o 0,.o 2,.p 0 0]) hst hb Zb
  (Qb rfl u_0<|Qa rfl c_i<|o_n) (fun a g hst hb=>?_)
 obtain ⟨r1,h2,H0⟩:=Zf H0
 refine r_s (T:=[⟨[.o 1],_,[],[],[7]⟩,⟨[.o 0],_,[],[],[8]⟩,⟨[.p 1 0],_,[],[1],[9]⟩,⟨[.p 2 0],_,[],[1,2],[10]⟩,⟨[.p 3 0],_,[],[1,2,3],[11]⟩,⟨[.p 0 0],_,[],Lr 5,[12]⟩,⟨[.p 5 0],_,[],Lr 6,[13]⟩,⟨[.p 4 0,.p 6 0,.o 1],_,[3],Lr 7,[2,7,12,13]⟩]) (F:=[.o 0,.p 7 0,.o 2]) hst hb Zb
  (Qm rfl u_0<|Qm rfl u_0<|o_p rfl (Zbf rfl rfl u_0 (fun _ _ ⟨_,_,_,e,_⟩=>⟨_,e⟩))<|QM rfl Z0 u_0<|o_p rfl (Zr Zol (Zhh _ h2) rfl rfl (.cons u_0 .nil))<|o_p rfl (Zbf rfl rfl u_0 (fun _ _ ⟨_,_,_,e,_⟩=>⟨_,e⟩))<|o_p rfl (Zh Zw9 (off:=2) (by kernel_rfl) rfl rfl u_0)<|o_p rfl (Zxf Z0 rfl rfl u_2 u_1 u_0)<|o_n) (fun a g hst hb=>?_)
 refine r_s (T:=[⟨[.o 0],_,[],[],[14]⟩,⟨[.o 2],_,[],[],[15]⟩,⟨[.p 1 0],_,[],[1],[16]⟩,⟨[.p 0 0],_,[],[0,1,2],[17]⟩,⟨[.p 3 0],_,[],Lr 4,[18]⟩,⟨[.p 2 0,.p 4 0,.o 0],_,[1],Lr 5,[0,14,17,18]⟩]) (F:=[.p 5 0,.o 1]) hst hb Zb
  (Qm rfl u_0<|Qf rfl Zea u_0<|Ql rfl ty_9 u_0<|o_p rfl (Zbf rfl rfl u_0 (fun _ _ ⟨_,_,_,e,_⟩=>⟨_,e⟩))<|o_p rfl (Zh Zhc (off:=6) (by kernel_rfl) rfl rfl u_0)<|o_p rfl (Zqh ty_9 rfl rfl u_2 u_1 u_0)<|o_n) (fun a g hst hb=>?_)
 refine r_s (T:=[⟨[],_,[],[],[6]⟩]) (F:=[.o 0,.o 1,.p 0 0]) hst hb Zb
  (Qa rfl c_i<|o_n) (fun a g hst hb=>?_)
 refine wp_ret ?_
 obtain rfl:=Option.some.inj H0
 exact Zgp rfl hst hb (Zg (s:=6)) (hst.at 2 rfl) ⟨Zci (hst.at 0 rfl),Zci (hst.at 1 rfl),trivial⟩
theorem Zqu (a0:Za) (a1:Zi) (a2:Ze) {r:Int × Za × Ze} (h:Zij a0 a1 a2=some r):FnB Tryd.prog 84 [.box Zc a0 r.2.1,.val (Z1.pd a1),.box Zt a2 r.2.2] (pInt .i64 r.1):=by
 have H0:=h
 unfold Zij at H0
 clear h
 refine Zik (N:=16) Tryd.func84 rfl rfl (Qe rfl) rfl rfl (fun a g0 bs hbs hst hb=>?_)
 obtain ⟨b0,b2,rfl⟩:=Zkc hbs
 replace hst:St 16 [(0,(Zbp (some b0) Zc 0 a0)),(1,(Z1.pd a1)),(2,(Zbp (some b2) Zt 2 a2))] _ _:=hst
 refine r_s (T:=[⟨[.o 1],_,[],[],[4]⟩,⟨[],_,[],[],[6]⟩]) (F:=[.o 0,.o 2,.p 0 0]) hst hb Zb
  (Qb rfl u_0<|Qa rfl c_i<|o_n) (fun a g hst hb=>?_)
 refine r_s (T:=[⟨[.o 0],_,[],[],[7]⟩,⟨[.p 0 0],_,[],[0],[8]⟩,⟨[.p 1 0],_,[],[0,1],[9]⟩,⟨[.p 2 0],_,[],[0,1,2],[10]⟩,⟨[.o 2],_,[],[],[11]⟩,⟨[.p 4 0],_,[],[4],[12]⟩,⟨[.p 3 0,.p 5 0],_,[],Lr 6,[13]⟩,⟨[.p 0 0],_,[],Lr 7,[14]⟩,⟨[.p 7 0],_,[],Lr 8,[15]⟩,⟨[.p 6 0,.p 8 0,.o 0],_,[1],Lr 9,[0,7,8,9,14,15]⟩]) (F:=[.p 9 0,.o 1]) hst hb Zb
  (Qm rfl u_0<|o_p rfl (Zbf rfl rfl u_0 (fun _ _ ⟨_,_,_,e,_⟩=>⟨_,e⟩))<|o_p rfl (Zh Zb2 (off:=1) (by kernel_rfl) rfl rfl u_0)<|QP rfl ty_2 u_0<|Qf rfl Zcq u_0<|Ql rfl ty_2 u_0<|o_p rfl (Zca rfl rfl u_0 u_1 rfl)<|o_p rfl (Zbf rfl rfl u_0 (fun _ _ ⟨_,_,_,e,_⟩=>⟨_,e⟩))<|o_p rfl (Zh Zb2 (off:=1) (by kernel_rfl) rfl rfl u_0)<|o_p rfl (Zjx ty_2 rfl rfl u_2 u_1 u_0)<|o_n) (fun a g hst hb=>?_)
 refine r_s (T:=[⟨[],_,[],[],[6]⟩]) (F:=[.o 0,.o 1,.p 0 0]) hst hb Zb
  (Qa rfl c_i<|o_n) (fun a g hst hb=>?_)
 refine wp_ret ?_
 obtain rfl:=Option.some.inj H0
 exact Zgp rfl hst hb (Zg (s:=6)) (hst.at 2 rfl) ⟨Zci (hst.at 0 rfl),Zci (hst.at 1 rfl),trivial⟩
theorem Zvu (a0:Za) (a1:Zi) (a2:Ze) {r:Int × Za × Ze} (h:Zji a0 a1 a2=some r):FnB Tryd.prog 85 [.box Zc a0 r.2.1,.val (Z1.pd a1),.box Zt a2 r.2.2] (pInt .i64 r.1):=by
 have H0:=h
 unfold Zji at H0
 clear h
 refine Zik (N:=44) Tryd.func85 rfl rfl (Qe rfl) rfl rfl (fun a g0 bs hbs hst hb=>?_)
 obtain ⟨b0,b2,rfl⟩:=Zkc hbs
 replace hst:St 44 [(0,(Zbp (some b0) Zc 0 a0)),(1,(Z1.pd a1)),(2,(Zbp (some b2) Zt 2 a2))] _ _:=hst
 refine r_s (T:=[⟨[.o 1],_,[],[],[4]⟩,⟨[],_,[],[],[6]⟩]) (F:=[.o 0,.o 2,.p 0 0]) hst hb Zb
  (Qb rfl u_0<|Qa rfl c_i<|o_n) (fun a g hst hb=>?_)
 refine wp_seq ?_
 refine r_s (T:=⟨[.o 2],_,[],[],[7]⟩ :: ⟨[.p 0 0],_,[],[0],[8]⟩ :: ⟨[.p 1 0],_,[],[0,1],[9]⟩ :: ⟨[.p 2 0],_,[],[0,1,2],[10]⟩ :: ⟨[.p 3 0,.o 0],_,[],Lr 4,[11]⟩ :: ⟨[.p 3 0,.p 4 0],_,[],Lr 5,[12]⟩ :: ⟨[.p 3 0,.p 5 0],_,[],Lr 6,[13]⟩ :: ⟨[.p 3 0,.p 6 0],_,[],Lr 7,[14]⟩ :: ⟨[.p 3 0,.o 2],_,[],Lr 4,[15]⟩ :: ⟨[.p 3 0,.p 8 0],_,[],[0,1,2,3,8],[16]⟩ :: ⟨[.p 3 0,.p 9 0],_,[],[0,1,2,3,8,9],[17]⟩ :: ⟨[.p 3 0,.p 7 0,.p 10 0],_,[],Lr 11,[18]⟩ :: ⟨[.p 3 0,.p 11 0],_,[],Lr 12,[19]⟩ :: ⟨[.p 12 0],_,[],Lr 13,[20]⟩ :: ⟨[.p 13 0,.o 2],_,[],Lr 14,[21]⟩ :: ⟨[.p 13 0,.p 14 0],_,[],Lr 15,[22]⟩ :: ⟨[.p 13 0,.p 15 0],_,[],Lr 16,[23]⟩ :: ⟨[.p 13 0,.p 16 0],_,[],Lr 17,[24]⟩ :: ⟨[.p 17 0,.o 0],_,[],Lr 18,[25]⟩ :: ⟨[.p 17 0,.p 18 0],_,[],Lr 19,[26]⟩ :: ⟨[.p 17 0,.p 19 0],_,[],Lr 20,[27]⟩ :: ⟨[.p 17 0,.p 20 0],_,[],Lr 21,[28]⟩ :: ⟨[.p 17 0,.o 2],_,[],Lr 18,[29]⟩ :: ⟨[.p 17 0,.p 22 0],_,[],0 :: 1 :: 2 :: 3 :: 4 :: 5 :: 6 :: 7 :: 8 :: 9 :: 10 :: 11 :: 12 :: 13 :: 14 :: 15 :: 16 :: 17 :: 22 :: [],[30]⟩ :: ⟨[.p 17 0,.p 23 0],_,[],0 :: 1 :: 2 :: 3 :: 4 :: 5 :: 6 :: 7 :: 8 :: 9 :: 10 :: 11 :: 12 :: 13 :: 14 :: 15 :: 16 :: 17 :: 22 :: 23 :: [],[31]⟩ :: ⟨[.p 17 0,.p 21 0,.p 24 0],_,[],Lr 25,[32]⟩ :: ⟨[.p 13 0,.p 17 0,.p 25 0],_,[],Lr 26,[33]⟩ :: ⟨[.p 13 0,.p 26 0],_,[],Lr 27,[34]⟩ :: []) (F:=[.o 0,.o 1,.o 2,.p 27 0]) hst hb Zb
  (Qf rfl Zcq u_0<|Ql rfl ty_2 u_0<|o_p rfl (Zcf rfl rfl u_0 c_i)<|Qm rfl u_0<|o_g (Qg_t rfl (fun hG=>Zy rfl rfl u_0))<|o_g (Qg_t rfl (fun hG=>Zbf rfl rfl (Opd.gd hG u_0) (fun _ _ ⟨_,_,_,e,_⟩=>⟨_,e⟩)))<|o_g (Qg_t rfl (fun hG=>Zh Zb2 (off:=1) (by kernel_rfl) rfl rfl (Opd.gd hG u_0)))<|o_g (Qg_t rfl (fun hG=>Zh5 ty_2 rfl rfl (Opd.gd hG u_0)))<|o_g (Qg_t rfl (fun hG=>Zj Zcq rfl rfl u_0))<|o_g (Qg_t rfl (fun hG=>Zs ty_2 rfl rfl (Opd.gd hG u_0)))<|o_g (Qg_t rfl (fun hG=>Zd7 rfl rfl c_i (Opd.gd hG u_0) rfl))<|o_g (Qg_t rfl (fun hG=>Zcf rfl rfl (Opd.gd hG u_0) (Opd.gd hG u_1)))<|o_p rfl (Zbe rfl rfl u_0 (fun hz=>(Opd.gd hz u_1)))<|Qm rfl u_0<|o_g (Qg_f rfl (fun hG=>Zj Zcq rfl rfl u_0))<|o_g (Qg_f rfl (fun hG=>Zs ty_2 rfl rfl (Opd.gd hG u_0)))<|o_g (Qg_f rfl (fun hG=>Zb6 rfl rfl (Opd.gd hG u_0) c_i))<|o_g (Qg_f rfl (fun hG=>Zy rfl rfl (Opd.gd hG u_0)))<|o_g (Qg_ti rfl (fun hG=>Zy rfl rfl u_0))<|o_g (Qg_ti rfl (fun hG=>Zbf rfl rfl (Opd.gd hG u_0) (fun _ _ ⟨_,_,_,e,_⟩=>⟨_,e⟩)))<|o_g (Qg_ti rfl (fun hG=>Zh Zb2 (off:=1) (by kernel_rfl) rfl rfl (Opd.gd hG u_0)))<|o_g (Qg_ti rfl (fun hG=>Zh5 ty_2 rfl rfl (Opd.gd hG u_0)))<|o_g (Qg_ti rfl (fun hG=>Zj Zcq rfl rfl u_0))<|o_g (Qg_ti rfl (fun hG=>Zs ty_2 rfl rfl (Opd.gd hG u_0)))<|o_g (Qg_ti rfl (fun hG=>Zd7 rfl rfl c_i (Opd.gd hG u_0) rfl))<|o_g (Qg_ti rfl (fun hG=>Zb6 rfl rfl (Opd.gd hG u_0) (Opd.gd hG u_1)))<|o_g (Qg_f rfl (fun hG=>Zbe rfl rfl (Opd.gd hG u_0) (fun hz=>(Opd.gd (bA hG hz) u_1))))<|o_p rfl (Zbl rfl rfl u_0 (fun hz=>(Opd.gd (bNF hz) u_1)))<|o_n) (fun a g hst hb=>?_)
 refine wp_cond_split (hst.bool 3 rfl) (fun hc1=>?_) (fun hc1=>?_)
 ·replace H0:=Zn hc1 H0
  refine r_s (L:=[(0,_),(2,_)]) (T:=[⟨[],_,[],[],[6]⟩]) (F:=[.o 0,.o 1,.p 0 0]) (hst.pick [0,1] rfl) hb Zb
   (Qa rfl c_i<|o_n) (fun a g hst hb=>?_)
  refine wp_ret ?_
  refine Zk ?_
  obtain rfl:=Option.some.inj H0
  exact Zgp rfl hst hb (Zg (s:=6)) (hst.at 2 rfl) ⟨Zci (hst.at 0 rfl),Zci (hst.at 1 rfl),trivial⟩
 ·replace H0:=Zo hc1 H0
  refine wp_skip ?_
  refine Zm ?_
  refine r_s (L:=[(0,_),(2,_),(4,_)]) (T:=[⟨[.o 0],_,[],[],[35]⟩,⟨[.p 0 0],_,[],[0],[36]⟩,⟨[.p 1 0],_,[],[0,1],[37]⟩,⟨[.p 2 0],_,[],[0,1,2],[38]⟩,⟨[.o 2],_,[],[],[39]⟩,⟨[.p 4 0],_,[],[4],[40]⟩,⟨[.p 3 0,.p 5 0],_,[],Lr 6,[41]⟩,⟨[.p 0 0],_,[],Lr 7,[42]⟩,⟨[.p 7 0],_,[],Lr 8,[43]⟩,⟨[.p 6 0,.p 8 0,.o 0],_,[1],Lr 9,[0,35,36,37,42,43]⟩]) (F:=[.p 9 0,.o 1]) (hst.pick [0,1,2] rfl) hb Zb
   (Qm rfl u_0<|o_p rfl (Zbf rfl rfl u_0 (fun _ _ ⟨_,_,_,e,_⟩=>⟨_,e⟩))<|o_p rfl (Zh Zb2 (off:=1) (by kernel_rfl) rfl rfl u_0)<|QP rfl ty_2 u_0<|Qf rfl Zcq u_0<|Ql rfl ty_2 u_0<|o_p rfl (Zca rfl rfl u_0 u_1 rfl)<|o_p rfl (Zbf rfl rfl u_0 (fun _ _ ⟨_,_,_,e,_⟩=>⟨_,e⟩))<|o_p rfl (Zh Zb2 (off:=1) (by kernel_rfl) rfl rfl u_0)<|o_p rfl (Zjx ty_2 rfl rfl u_2 u_1 u_0)<|o_n) (fun a g hst hb=>?_)
  refine r_s (T:=[⟨[],_,[],[],[6]⟩]) (F:=[.o 0,.o 1,.p 0 0]) hst hb Zb
   (Qa rfl c_i<|o_n) (fun a g hst hb=>?_)
  refine wp_ret ?_
  obtain rfl:=Option.some.inj H0
  exact Zgp rfl hst hb (Zg (s:=6)) (hst.at 2 rfl) ⟨Zci (hst.at 0 rfl),Zci (hst.at 1 rfl),trivial⟩
theorem Zmu (a0:Za) (a1:Zi) (a2:Ze) {r:Int × Za × Ze} (h:Ze8 a0 a1 a2=some r):FnB Tryd.prog 86 [.box Zc a0 r.2.1,.val (Z1.pd a1),.box Zt a2 r.2.2] (pInt .i64 r.1):=by
 have H0:=h
 unfold Ze8 at H0
 clear h
 refine Zik (N:=14) Tryd.func86 rfl rfl (Qe rfl) rfl rfl (fun a g0 bs hbs hst hb=>?_)
 obtain ⟨b0,b2,rfl⟩:=Zkc hbs
 replace hst:St 14 [(0,(Zbp (some b0) Zc 0 a0)),(1,(Z1.pd a1)),(2,(Zbp (some b2) Zt 2 a2))] _ _:=hst
 refine r_s (T:=[⟨[.o 1],_,[],[],[4]⟩,⟨[],_,[],[],[6]⟩]) (F:=[.o 0,.o 2,.p 0 0]) hst hb Zb
  (Qb rfl u_0<|Qa rfl c_i<|o_n) (fun a g hst hb=>?_)
 refine wp_seq ?_
 refine r_s (T:=[⟨[.o 0],_,[],[],[7]⟩,⟨[.p 0 0],_,[],[0],[8]⟩,⟨[.p 1 0],_,[],[0,1],[9]⟩,⟨[.p 2 0],_,[],[0,1,2],[10]⟩,⟨[.o 2],_,[],[],[11]⟩,⟨[.p 4 0],_,[],[4],[12]⟩,⟨[.p 3 0,.p 5 0],_,[],Lr 6,[13]⟩]) (F:=[.o 0,.o 1,.p 6 0]) hst hb Zb
  (Qm rfl u_0<|o_p rfl (Zbf rfl rfl u_0 (fun _ _ ⟨_,_,_,e,_⟩=>⟨_,e⟩))<|o_p rfl (Zh Zb2 (off:=1) (by kernel_rfl) rfl rfl u_0)<|QP rfl ty_2 u_0<|Qf rfl Zcq u_0<|Ql rfl ty_2 u_0<|o_p rfl (Zb6 rfl rfl u_0 u_1)<|o_n) (fun a g hst hb=>?_)
 refine wp_cond_split (hst.bool 2 rfl) (fun hc1=>?_) (fun hc1=>?_)
 ·replace H0:=Zn hc1 H0
  refine r_s (L:=[(0,_),(2,_)]) (T:=[⟨[],_,[],[],[6]⟩]) (F:=[.o 0,.o 1,.p 0 0]) (hst.pick [0,1] rfl) hb Zb
   (Qa rfl c_i<|o_n) (fun a g hst hb=>?_)
  refine wp_ret ?_
  refine Zk ?_
  obtain rfl:=Option.some.inj H0
  exact Zgp rfl hst hb (Zg (s:=6)) (hst.at 2 rfl) ⟨Zci (hst.at 0 rfl),Zci (hst.at 1 rfl),trivial⟩
 ·replace H0:=Zo hc1 H0
  refine wp_skip ?_
  refine Zm ?_
  refine r_s (L:=[(0,_),(2,_)]) (T:=[⟨[],_,[],[],[6]⟩]) (F:=[.o 0,.o 1,.p 0 0]) (hst.pick [0,1] rfl) hb Zb
   (Qa rfl c_i<|o_n) (fun a g hst hb=>?_)
  refine wp_ret ?_
  obtain rfl:=Option.some.inj H0
  exact Zgp rfl hst hb (Zg (s:=6)) (hst.at 2 rfl) ⟨Zci (hst.at 0 rfl),Zci (hst.at 1 rfl),trivial⟩
theorem Zqt (a0:Za) (a1:Zi) (a2:Ze) {r:Int × Za × Ze} (h:Zf9 a0 a1 a2=some r):FnB Tryd.prog 87 [.box Zc a0 r.2.1,.val (Z1.pd a1),.box Zt a2 r.2.2] (pInt .i64 r.1):=by
 have H0:=h
 unfold Zf9 at H0
 clear h
 refine Zik (N:=28) Tryd.func87 rfl rfl (Qe rfl) rfl rfl (fun a g0 bs hbs hst hb=>?_)
 obtain ⟨b0,b2,rfl⟩:=Zkc hbs
 replace hst:St 28 [(0,(Zbp (some b0) Zc 0 a0)),(1,(Z1.pd a1)),(2,(Zbp (some b2) Zt 2 a2))] _ _:=hst
 refine r_s (T:=[⟨[.o 1],_,[],[],[4]⟩,⟨[],_,[],[],[6]⟩]) (F:=[.o 0,.o 2,.p 0 0]) hst hb Zb
  (Qb rfl u_0<|Qa rfl c_i<|o_n) (fun a g hst hb=>?_)
 refine wp_seq ?_
 refine r_s (T:=⟨[.o 2],_,[],[],[7]⟩ :: ⟨[.p 0 0],_,[],[0],[8]⟩ :: ⟨[.o 0],_,[],[],[9]⟩ :: ⟨[.p 2 0],_,[],[2],[10]⟩ :: ⟨[.p 3 0],_,[],[2,3],[11]⟩ :: ⟨[.p 4 0],_,[],[2,3,4],[12]⟩ :: ⟨[.o 0],_,[],[],[13]⟩ :: ⟨[.p 6 0],_,[],[6],[14]⟩ :: ⟨[.p 7 0],_,[],[6,7],[15]⟩ :: ⟨[.p 8 0],_,[],[6,7,8],[16]⟩ :: ⟨[.p 5 0,.p 9 0],_,[],List.range' 2 8,[17]⟩ :: ⟨[.p 1 0,.p 10 0],_,[],Lr 11,[18]⟩ :: []) (F:=[.o 0,.o 1,.o 2,.p 11 0]) hst hb Zb
  (Qf rfl Zcq u_0<|Ql rfl ty_2 u_0<|Qm rfl u_0<|o_p rfl (Zbf rfl rfl u_0 (fun _ _ ⟨_,_,_,e,_⟩=>⟨_,e⟩))<|o_p rfl (Zh Zg9 (off:=3) (by kernel_rfl) rfl rfl u_0)<|QP rfl ty_2 u_0<|Qm rfl u_0<|o_p rfl (Zbf rfl rfl u_0 (fun _ _ ⟨_,_,_,e,_⟩=>⟨_,e⟩))<|o_p rfl (Zh Zb2 (off:=1) (by kernel_rfl) rfl rfl u_0)<|QP rfl ty_2 u_0<|o_p rfl (Zd7 rfl rfl u_0 u_1 rfl)<|o_p rfl (Zcf rfl rfl u_0 u_1)<|o_n) (fun a g hst hb=>?_)
 refine wp_cond_split (hst.bool 3 rfl) (fun hc1=>?_) (fun hc1=>?_)
 ·replace H0:=Zn hc1 H0
  refine r_s (L:=[(0,_),(2,_)]) (T:=[⟨[],_,[],[],[6]⟩]) (F:=[.o 0,.o 1,.p 0 0]) (hst.pick [0,1] rfl) hb Zb
   (Qa rfl c_i<|o_n) (fun a g hst hb=>?_)
  refine wp_ret ?_
  refine Zk ?_
  obtain rfl:=Option.some.inj H0
  exact Zgp rfl hst hb (Zg (s:=6)) (hst.at 2 rfl) ⟨Zci (hst.at 0 rfl),Zci (hst.at 1 rfl),trivial⟩
 ·replace H0:=Zo hc1 H0
  refine wp_skip ?_
  refine Zm ?_
  refine r_s (L:=[(0,_),(2,_),(4,_)]) (T:=[⟨[.o 0],_,[],[],[19]⟩,⟨[.p 0 0],_,[],[0],[20]⟩,⟨[.p 1 0],_,[],[0,1],[21]⟩,⟨[.p 2 0],_,[],[0,1,2],[22]⟩,⟨[.o 2],_,[],[],[23]⟩,⟨[.p 4 0],_,[],[4],[24]⟩,⟨[.p 3 0,.p 5 0],_,[],Lr 6,[25]⟩,⟨[.p 0 0],_,[],Lr 7,[26]⟩,⟨[.p 7 0],_,[],Lr 8,[27]⟩,⟨[.p 6 0,.p 8 0,.o 0],_,[1],Lr 9,[0,19,20,21,26,27]⟩]) (F:=[.p 9 0,.o 1]) (hst.pick [0,1,2] rfl) hb Zb
   (Qm rfl u_0<|o_p rfl (Zbf rfl rfl u_0 (fun _ _ ⟨_,_,_,e,_⟩=>⟨_,e⟩))<|o_p rfl (Zh Zb2 (off:=1) (by kernel_rfl) rfl rfl u_0)<|QP rfl ty_2 u_0<|Qf rfl Zcq u_0<|Ql rfl ty_2 u_0<|o_p rfl (Zca rfl rfl u_0 u_1 rfl)<|o_p rfl (Zbf rfl rfl u_0 (fun _ _ ⟨_,_,_,e,_⟩=>⟨_,e⟩))<|o_p rfl (Zh Zb2 (off:=1) (by kernel_rfl) rfl rfl u_0)<|o_p rfl (Zjx ty_2 rfl rfl u_2 u_1 u_0)<|o_n) (fun a g hst hb=>?_)
  refine r_s (T:=[⟨[],_,[],[],[6]⟩]) (F:=[.o 0,.o 1,.p 0 0]) hst hb Zb
   (Qa rfl c_i<|o_n) (fun a g hst hb=>?_)
  refine wp_ret ?_
  obtain rfl:=Option.some.inj H0
  exact Zgp rfl hst hb (Zg (s:=6)) (hst.at 2 rfl) ⟨Zci (hst.at 0 rfl),Zci (hst.at 1 rfl),trivial⟩
theorem Zqo (a0:Za) (a1:Zi) (a2:Ze) {r:Int × Za × Ze} (h:Zf5 a0 a1 a2=some r):FnB Tryd.prog 88 [.box Zc a0 r.2.1,.val (Z1.pd a1),.box Zt a2 r.2.2] (pInt .i64 r.1):=by
 have H0:=h
 unfold Zf5 at H0
 clear h
 refine Zik (N:=28) Tryd.func88 rfl rfl (Qe rfl) rfl rfl (fun a g0 bs hbs hst hb=>?_)
 obtain ⟨b0,b2,rfl⟩:=Zkc hbs
 replace hst:St 28 [(0,(Zbp (some b0) Zc 0 a0)),(1,(Z1.pd a1)),(2,(Zbp (some b2) Zt 2 a2))] _ _:=hst
 refine r_s (T:=[⟨[.o 1],_,[],[],[4]⟩,⟨[],_,[],[],[6]⟩]) (F:=[.o 0,.o 2,.p 0 0]) hst hb Zb
  (Qb rfl u_0<|Qa rfl c_i<|o_n) (fun a g hst hb=>?_)
 refine wp_seq ?_
 refine r_s (T:=⟨[.o 2],_,[],[],[7]⟩ :: ⟨[.p 0 0],_,[],[0],[8]⟩ :: ⟨[.o 0],_,[],[],[9]⟩ :: ⟨[.p 2 0],_,[],[2],[10]⟩ :: ⟨[.p 3 0],_,[],[2,3],[11]⟩ :: ⟨[.p 4 0],_,[],[2,3,4],[12]⟩ :: ⟨[.o 0],_,[],[],[13]⟩ :: ⟨[.p 6 0],_,[],[6],[14]⟩ :: ⟨[.p 7 0],_,[],[6,7],[15]⟩ :: ⟨[.p 8 0],_,[],[6,7,8],[16]⟩ :: ⟨[.p 5 0,.p 9 0],_,[],List.range' 2 8,[17]⟩ :: ⟨[.p 1 0,.p 10 0],_,[],Lr 11,[18]⟩ :: []) (F:=[.o 0,.o 1,.o 2,.p 11 0]) hst hb Zb
  (Qf rfl Zcq u_0<|Ql rfl ty_2 u_0<|Qm rfl u_0<|o_p rfl (Zbf rfl rfl u_0 (fun _ _ ⟨_,_,_,e,_⟩=>⟨_,e⟩))<|o_p rfl (Zh Zb2 (off:=1) (by kernel_rfl) rfl rfl u_0)<|QP rfl ty_2 u_0<|Qm rfl u_0<|o_p rfl (Zbf rfl rfl u_0 (fun _ _ ⟨_,_,_,e,_⟩=>⟨_,e⟩))<|o_p rfl (Zh Zha (off:=2) (by kernel_rfl) rfl rfl u_0)<|QP rfl ty_2 u_0<|o_p rfl (Zd7 rfl rfl u_0 u_1 rfl)<|o_p rfl (Zcf rfl rfl u_0 u_1)<|o_n) (fun a g hst hb=>?_)
 refine wp_cond_split (hst.bool 3 rfl) (fun hc1=>?_) (fun hc1=>?_)
 ·replace H0:=Zn hc1 H0
  refine r_s (L:=[(0,_),(2,_)]) (T:=[⟨[],_,[],[],[6]⟩]) (F:=[.o 0,.o 1,.p 0 0]) (hst.pick [0,1] rfl) hb Zb
   (Qa rfl c_i<|o_n) (fun a g hst hb=>?_)
  refine wp_ret ?_
  refine Zk ?_
  obtain rfl:=Option.some.inj H0
  exact Zgp rfl hst hb (Zg (s:=6)) (hst.at 2 rfl) ⟨Zci (hst.at 0 rfl),Zci (hst.at 1 rfl),trivial⟩
 ·replace H0:=Zo hc1 H0
  refine wp_skip ?_
  refine Zm ?_
  refine r_s (L:=[(0,_),(2,_),(4,_)]) (T:=[⟨[.o 0],_,[],[],[19]⟩,⟨[.p 0 0],_,[],[0],[20]⟩,⟨[.p 1 0],_,[],[0,1],[21]⟩,⟨[.p 2 0],_,[],[0,1,2],[22]⟩,⟨[.o 2],_,[],[],[23]⟩,⟨[.p 4 0],_,[],[4],[24]⟩,⟨[.p 3 0,.p 5 0],_,[],Lr 6,[25]⟩,⟨[.p 0 0],_,[],Lr 7,[26]⟩,⟨[.p 7 0],_,[],Lr 8,[27]⟩,⟨[.p 6 0,.p 8 0,.o 0],_,[1],Lr 9,[0,19,20,21,26,27]⟩]) (F:=[.p 9 0,.o 1]) (hst.pick [0,1,2] rfl) hb Zb
   (Qm rfl u_0<|o_p rfl (Zbf rfl rfl u_0 (fun _ _ ⟨_,_,_,e,_⟩=>⟨_,e⟩))<|o_p rfl (Zh Zb2 (off:=1) (by kernel_rfl) rfl rfl u_0)<|QP rfl ty_2 u_0<|Qf rfl Zcq u_0<|Ql rfl ty_2 u_0<|o_p rfl (Zd7 rfl rfl u_0 u_1 rfl)<|o_p rfl (Zbf rfl rfl u_0 (fun _ _ ⟨_,_,_,e,_⟩=>⟨_,e⟩))<|o_p rfl (Zh Zb2 (off:=1) (by kernel_rfl) rfl rfl u_0)<|o_p rfl (Zjx ty_2 rfl rfl u_2 u_1 u_0)<|o_n) (fun a g hst hb=>?_)
  refine r_s (T:=[⟨[],_,[],[],[6]⟩]) (F:=[.o 0,.o 1,.p 0 0]) hst hb Zb
   (Qa rfl c_i<|o_n) (fun a g hst hb=>?_)
  refine wp_ret ?_
  obtain rfl:=Option.some.inj H0
  exact Zgp rfl hst hb (Zg (s:=6)) (hst.at 2 rfl) ⟨Zci (hst.at 0 rfl),Zci (hst.at 1 rfl),trivial⟩
theorem Zii (h:Nat) (he:Zl Tryd.prog h) (ψ:Nat → Nat → Option Nat) (hψ:∀ x y z,ψ x y=some z → FnOk Tryd.prog h [pFlt x,pFlt y] (pFlt z)) (a0:Za) (a1:Zi) (a2:Ze) {z:Nat} (hz:ψ a0.Real a1.X=some z):FnB Tryd.prog 106 [.box Zc a0 { a0 with Real:=z },.val (Z1.pd a1),.box Zt a2 a2,.val (Kd.fnc.ptr h)] (pInt .i64 0):=by
 refine Zik (N:=19) Tryd.func106 rfl rfl (Qe rfl) rfl rfl (fun a g0 bs hbs hst hb=>?_)
 obtain ⟨b0,b2,rfl⟩:=Zkc hbs
 replace hst:St 19 [(0,(Zbp (some b0) Zc 0 a0)),(1,(Z1.pd a1)),(2,(Zbp (some b2) Zt 2 a2)),(3,(Kd.fnc.ptr h))] _ _:=hst
 refine r_s (T:=[⟨[.o 1],_,[],[],[5]⟩,⟨[],_,[],[],[7]⟩]) (F:=[.o 0,.o 2,.o 3,.p 0 0]) hst hb Zb
  (Qb rfl u_0<|Qa rfl c_i<|o_n) (fun a g hst hb=>?_)
 refine r_s (T:=[⟨[.o 0],_,[],[],[8]⟩,⟨[.o 2],_,[],[],[9]⟩,⟨[.o 0],_,[],[],[10]⟩,⟨[.p 2 0],_,[],[2],[11]⟩,⟨[.p 3 0],_,[],[2,3],[12]⟩,⟨[.p 4 0],_,[],[2,3,4],[13]⟩,⟨[.o 3],_,[],[],[14]⟩,⟨[.p 6 0],_,[],[6],[15]⟩,⟨[.p 1 0,.p 5 0,.p 7 0],[(16,(pFlt z))],[],[1,2,3,4,5,6,7],[16]⟩,⟨[.p 0 0],_,[],[0,1,2,3,4,5,6,7,8],[17]⟩,⟨[.p 9 0],_,[],[0,1,2,3,4,5,6,7,8,9],[18]⟩,⟨[.p 8 0,.p 10 0,.o 0],_,[1],[0,1,2,3,4,5,6,7,8,9,10],[0,8,10,11,12,17,18]⟩]) (F:=[.p 11 0,.o 1]) hst hb Zb
  (Qm rfl u_0<|Ql rfl Z51 u_0<|Qm rfl u_0<|o_p rfl (Zbf rfl rfl u_0 (fun _ _ ⟨_,_,_,e,_⟩=>⟨_,e⟩))<|o_p rfl (Zh Zdi (off:=4) (by kernel_rfl) rfl rfl u_0)<|QP rfl Zb8 u_0<|Qf rfl Zg8 u_0<|Ql rfl Zb8 u_0<|o_p rfl (Zow (C:=[]) (hC:=rfl) he (hψ _ _ _ hz) rfl rfl (Opd.imp u_0 (fun _ _ h=>Z5e h)) (.cons u_1 (.cons u_2 .nil)))<|o_p rfl (Zbf rfl rfl u_0 (fun _ _ ⟨_,_,_,e,_⟩=>⟨_,e⟩))<|o_p rfl (Zh Zdi (off:=4) (by kernel_rfl) rfl rfl u_0)<|o_p rfl (Zkm Zb8 rfl rfl u_2 u_1 u_0)<|o_n) (fun a g hst hb=>?_)
 refine r_s (T:=[⟨[],_,[],[],[7]⟩]) (F:=[.o 0,.o 1,.p 0 0]) hst hb Zb
  (Qa rfl c_i<|o_n) (fun a g hst hb=>?_)
 refine wp_ret ?_
 exact Zgp rfl hst hb (Zg (s:=7)) (hst.at 2 rfl) ⟨Zci (hst.at 0 rfl),Zci (hst.at 1 rfl),trivial⟩
theorem Zjq (h:Nat):FnOk Tryd.prog 89 [(Kd.fnc.pd h)] (pClo 106 [(Kd.fnc.ptr h)] rfl):=by
 refine Zbt (N:=4) Tryd.func89 rfl rfl (Qe rfl) rfl rfl (fun a g0 hst hb=>?_)
 refine r_s (T:=[⟨[.o 0],_,[],[],[1]⟩,⟨[],[],[],[],[2]⟩]) (F:=[.p 0 0]) hst hb Zb
  (Qb rfl u_0<|o_p rfl (Z1x (.inr rfl))<|o_n) (fun a g hst hb=>?_)
 refine r_s (T:=[⟨[.o 0],[(3,(pClo 106 [(Kd.fnc.ptr h)] rfl))],[],[],[3]⟩,⟨[.p 0 0],_,[],[0],[2]⟩]) (F:=[.p 1 0]) hst hb Zb
  (o_p rfl (Zwn rfl rfl (.cons u_0 .nil))<|Qa rfl u_0<|o_n) (fun a g hst hb=>?_)
 refine wp_ret ?_
 exact Zz rfl hst hb (Zg (s:=2)) (hst.at 0 rfl)
theorem Zws (a0:Nat) (a1:Nat) {r:Nat} (h:Zhe a0 a1=some r):FnOk Tryd.prog 90 [(pFlt a0),(pFlt a1)] (pFlt r):=by
 have H0:=h
 unfold Zhe at H0
 clear h
 refine Zbt (N:=9) Tryd.func90 rfl rfl (Qe rfl) rfl rfl (fun a g0 hst hb=>?_)
 refine r_s (T:=[⟨[],_,[],[],[4]⟩]) (F:=[.o 0,.o 1]) hst hb Zb
  (Qa rfl c_f<|o_n) (fun a g hst hb=>?_)
 obtain ⟨r1,h2,H0⟩:=Zf H0
 refine r_s (T:=[⟨[.o 0],_,[],[],[5]⟩,⟨[.o 1],_,[],[],[6]⟩,⟨[.p 0 0,.p 1 0],_,[],[0,1],[7]⟩,⟨[.p 2 0],_,[],[0,1,2],[8]⟩,⟨[.p 3 0],_,[],Lr 4,[4]⟩]) (F:=[.p 4 0]) hst hb Zb
  (Qm rfl u_0<|Qm rfl u_0<|o_p rfl (Zwg rfl rfl u_0 u_1)<|o_p rfl (Zr Zmz (Zn6 (fun r z hr hz=>by simp only [Ze2,hr,hz,Option.bind_some,if_true]) (fun z r h=>Zgj z h) h2) rfl rfl (.cons u_0 .nil))<|Qa rfl u_0<|o_n) (fun a g hst hb=>?_)
 refine wp_ret ?_
 obtain rfl:=Option.some.inj H0
 exact Zz rfl hst hb (Zg (s:=4)) (hst.at 0 rfl)
theorem Zwc (a0:Nat) (a1:Nat) {r:Nat} (h:Zgl a0 a1=some r):FnOk Tryd.prog 91 [(pFlt a0),(pFlt a1)] (pFlt r):=by
 have H0:=h
 unfold Zgl at H0
 clear h
 refine Zbt (N:=9) Tryd.func91 rfl rfl (Qe rfl) rfl rfl (fun a g0 hst hb=>?_)
 refine r_s (T:=[⟨[],_,[],[],[4]⟩]) (F:=[.o 0,.o 1]) hst hb Zb
  (Qa rfl c_f<|o_n) (fun a g hst hb=>?_)
 obtain ⟨r1,h2,H0⟩:=Zf H0
 refine r_s (T:=[⟨[.o 0],_,[],[],[5]⟩,⟨[.o 1],_,[],[],[6]⟩,⟨[.p 0 0,.p 1 0],_,[],[0,1],[7]⟩,⟨[.p 2 0],_,[],[0,1,2],[8]⟩,⟨[.p 3 0],_,[],Lr 4,[4]⟩]) (F:=[.p 4 0]) hst hb Zb
  (Qm rfl u_0<|Qm rfl u_0<|o_p rfl (Zvr rfl rfl u_0 u_1)<|o_p rfl (Zr Zmz (Zn6 (fun r z hr hz=>by simp only [Ze2,hr,hz,Option.bind_some,if_true]) (fun z r h=>Zgj z h) h2) rfl rfl (.cons u_0 .nil))<|Qa rfl u_0<|o_n) (fun a g hst hb=>?_)
 refine wp_ret ?_
 obtain rfl:=Option.some.inj H0
 exact Zz rfl hst hb (Zg (s:=4)) (hst.at 0 rfl)
theorem Zqn (a0:Nat) (a1:Nat) {r:Nat} (h:Zf8 a0 a1=some r):FnOk Tryd.prog 92 [(pFlt a0),(pFlt a1)] (pFlt r):=by
 have H0:=h
 unfold Zf8 at H0
 clear h
 refine Zbt (N:=6) Tryd.func92 rfl rfl (Qe rfl) rfl rfl (fun a g0 hst hb=>?_)
 refine r_s (L:=[(1,_)]) (T:=[⟨[],_,[],[],[4]⟩]) (F:=[.o 0]) (hst.pick [1] rfl) hb Zb
  (Qa rfl c_f<|o_n) (fun a g hst hb=>?_)
 refine r_s (T:=[⟨[.o 0],_,[],[],[5]⟩,⟨[.p 0 0],_,[],[0],[4]⟩]) (F:=[.p 1 0]) hst hb Zb
  (Qm rfl u_0<|Qa rfl u_0<|o_n) (fun a g hst hb=>?_)
 refine wp_ret ?_
 obtain rfl:=Option.some.inj H0
 exact Zz rfl hst hb (Zg (s:=4)) (hst.at 0 rfl)
theorem Zgz (f2:Nat) (C2:List Pd) (hC2:Free C2) (e2_:Zl Tryd.prog f2) (φ2:Zd → ByteArray → Option Int) (hφ2:∀ (y0:Zd) (y1:ByteArray) (r:Int),φ2 y0 y1=some r → FnOk Tryd.prog f2 ([(Zp.pd y0),(pStr y1)] ++ C2) (pInt .i64 r)) (a0:List Zd) (a1:ByteArray) {r:Int × Bool} (h:Zcl a0 a1 φ2=some r):FnOk Tryd.prog 108 [(Zp.sl.pd a0),(pStr a1),(pClo f2 C2 hC2)] (pTup [(pInt .i64 r.1),(Zba r.2)]):=by
 have H0:=h
 unfold Zcl at H0
 clear h
 refine Zbt (N:=49) Tryd.func108 rfl rfl (Qe rfl) rfl rfl (fun a g0 hst hb=>?_)
 refine r_s (T:=[⟨[],_,[],[],[6]⟩,⟨[],_,[],[0],[7]⟩]) (F:=[.o 0,.o 1,.o 2]) hst hb Zb
  (Qa rfl c_i<|Qa rfl c_b<|o_n) (fun a g hst hb=>?_)
 refine r_s (T:=[⟨[.o 0],_,[],[],[12]⟩,⟨[.p 0 0],_,[],[0],[13]⟩,⟨[.p 1 0],_,[],[0,1],[8]⟩]) (F:=[.o 0,.o 1,.o 2,.p 2 0,.p 0 0]) hst hb Zb
  (Qm rfl u_0<|o_p rfl (Zcc Tryd.underlying23 rfl rfl u_0)<|Qa rfl u_0<|o_n) (fun a g hst hb=>?_)
 refine r_s (T:=[⟨[.o 3],_,[],[],[14]⟩,⟨[],_,[],[],[9]⟩,⟨[.p 0 0],_,[],[0,1],[10]⟩]) (F:=[.o 0,.o 1,.o 2,.o 3,.p 1 0,.p 2 0,.o 4]) hst hb Zb
  (Qm rfl u_0<|Qa rfl c_i<|Qa rfl u_0<|o_n) (fun a g hst hb=>?_)
 obtain ⟨z12,hz1,H0⟩:=Zf H0
 refine wp_seq ?_
 refine Zbz (fun a w=>∃ (y11:Int) (g:G),w=g.w ∧ St 49 [(0,(Zp.sl.pd a0)),(1,(pStr a1)),(2,(pClo f2 C2 hC2)),(8,(pInt .i64 (a0.length:Int))),(9,(pInt .i64 y11)),(12,(Zp.sl.pd a0))] a g ∧ Base g0 g ∧ y11=z12) ?_ ?_
 ·rintro a w ⟨y11,g,rfl,hst,hb,rfl⟩
  refine Zm ?_
  obtain ⟨e13,h14,H0⟩:=Zf H0;obtain ⟨r15,h16,H0⟩:=Zf H0
  refine r_s (T:=⟨[.o 4],_,[],[],[35]⟩ :: ⟨[.o 4],_,[],[],[36]⟩ :: ⟨[.o 3],_,[],[],[37]⟩ :: ⟨[.p 1 0,.p 2 0],_,[],[1,2],[38]⟩ :: ⟨[.p 3 0],_,[],[1,2,3],[39]⟩ :: ⟨[.p 4 0,.o 2],_,[],List.range' 1 4,[40]⟩ :: ⟨[.p 4 0,.o 0],_,[],List.range' 1 4,[41]⟩ :: ⟨[.p 4 0,.o 4],_,[],List.range' 1 4,[42]⟩ :: ⟨[.p 4 0,.p 6 0,.p 7 0],_,[],[1,2,3,4,6,7],[43]⟩ :: ⟨[.p 4 0,.p 8 0],_,[],[1,2,3,4,6,7,8],[44]⟩ :: ⟨[.p 4 0,.o 1],_,[],List.range' 1 4,[45]⟩ :: ⟨[.p 4 0,.p 5 0,.p 9 0,.p 10 0],_,[],List.range' 1 10,[46]⟩ :: ⟨[.p 4 0,.p 11 0],_,[],List.range' 1 11,[47]⟩ :: ⟨[.p 4 0,.p 12 0],_,[],List.range' 1 12,[48]⟩ :: ⟨[.p 0 0],_,[],Lr 12,[6]⟩ :: ⟨[.p 13 0],_,[],Lr 15,[7]⟩ :: []) (F:=[.p 14 0,.p 15 0]) hst hb Zb
   (Qm rfl u_0<|Qm rfl u_0<|Qm rfl u_0<|o_p rfl (Zb6 rfl rfl u_0 u_1)<|Qm rfl u_0<|o_g (Qg_t rfl (fun hG=>Zy rfl rfl u_0))<|o_g (Qg_t rfl (fun hG=>Zy rfl rfl u_0))<|o_g (Qg_t rfl (fun hG=>Zy rfl rfl u_0))<|o_g (Qg_t rfl (fun hG=>Zbk Tryd.underlying23 Zee rfl rfl (Opd.gd hG u_0) (Opd.gd hG u_1) (Zbq h14 hG)))<|o_g (Qg_t rfl (fun hG=>Zs Zdt rfl rfl (Opd.gd hG u_0)))<|o_g (Qg_t rfl (fun hG=>Zy rfl rfl u_0))<|o_g (Qg_t rfl (fun hG=>Zow e2_ (hφ2 _ _ _ (Zbq h16 hG)) rfl rfl (Opd.gd hG u_0) (.cons (Opd.gd hG u_1) (.cons (Opd.gd hG u_2) .nil))))<|o_g (Qg_t rfl (fun hG=>Z8 rfl rfl (Opd.gd hG u_0) c_i))<|o_p rfl (Zbe rfl rfl u_0 (fun hz=>(Opd.gd hz u_1)))<|Qa rfl u_0<|Qa rfl u_0<|o_n) (fun a g hst hb=>?_)
  refine wp_ret ?_
  obtain rfl:=Option.some.inj H0
  exact Zgx rfl hst hb (Zg (s:=6)) (Zg (s:=7)) (Zfb (hst.at 0 rfl) (hst.at 1 rfl))
 ·refine wp_block ?_
  refine wp_loop_ghost (fun n a w=>∃ (x1:Int) (x2:Int) (g:G),w=g.w ∧ St 49 [(0,(Zp.sl.pd a0)),(1,(pStr a1)),(2,(pClo f2 C2 hC2)),(8,(pInt .i64 (a0.length:Int))),(9,(pInt .i64 x1)),(10,(pInt .i64 x2)),(12,(Zp.sl.pd a0))] a g ∧ Base g0 g ∧ Zbg a0 a1 φ2 n x1 x2=some z12) (Int.toNat ((a0.length:Int) - (0:Int)) + 1) ⟨(0:Int),(a0.length:Int),g,rfl,(hst.pick [0,1,2,3,4,5,6] rfl),hb,hz1⟩ (fun n a w hI=>?_)
  obtain ⟨x1,x2,g,rfl,hst,hb,H1⟩:=hI
  cases n with
  | zero=>exact absurd H1 (by simp [Zbg])
  | succ n =>
   rw [Zbg] at H1
   refine wp_seq ?_
   refine r_s (T:=[⟨[.o 4],_,[],[],[15]⟩,⟨[.o 5],_,[],[],[16]⟩,⟨[.p 0 0,.p 1 0],_,[],[0,1],[17]⟩]) (F:=[.o 0,.o 1,.o 2,.o 3,.o 4,.o 5,.o 6,.p 2 0]) hst hb Zb
    (Qm rfl u_0<|Qm rfl u_0<|o_p rfl (Zb6 rfl rfl u_0 u_1)<|o_n) (fun a g hst hb=>?_)
   refine wp_cond_split (hst.bool 7 rfl) (fun hc3=>?_) (fun hc3=>?_)
   ·replace H1:=Zn hc3 H1
    refine wp_skip ?_
    refine Zm ?_
    refine Zbz (fun a w=>∃ (j9:Int) (j10:Int) (g:G),w=g.w ∧ St 49 [(0,(Zp.sl.pd a0)),(1,(pStr a1)),(2,(pClo f2 C2 hC2)),(8,(pInt .i64 (a0.length:Int))),(9,(pInt .i64 j9)),(10,(pInt .i64 j10)),(12,(Zp.sl.pd a0))] a g ∧ Base g0 g ∧ Zb3 (Zbg a0 a1 φ2 n) j9 j10=some z12) ?_ ?_
    ·rintro a w ⟨j9,j10,g,rfl,hst,hb,H1⟩
     unfold Zb3 at H1
     exact ⟨n,Nat.lt_succ_self _,j9,j10,g,rfl,(hst.pick [0,1,2,3,4,5,6] rfl),hb,H1⟩
    ·refine wp_block ?_
     refine r_s (L:=[(0,_),(1,_),(2,_),(8,_),(9,_),(10,_),(12,_)]) (T:=[⟨[.o 4],_,[],[],[18]⟩,⟨[.o 5],_,[],[],[19]⟩,⟨[.p 0 0,.p 1 0],_,[],[0,1],[20]⟩,⟨[.p 2 0],_,[],[0,1,2],[21]⟩,⟨[.p 3 0],_,[],Lr 4,[22]⟩,⟨[.p 4 0],_,[],Lr 5,[23]⟩,⟨[.p 5 0],_,[],Lr 6,[11]⟩]) (F:=[.o 0,.o 1,.o 2,.o 3,.o 4,.o 5,.p 6 0,.o 6]) (hst.pick [0,1,2,3,4,5,6] rfl) hb Zb
      (Qm rfl u_0<|Qm rfl u_0<|o_p rfl (Zca rfl rfl u_0 u_1 rfl)<|o_p rfl (Zgo Tryd.underlying3 Tryd.underlying142 rfl rfl u_0 rfl)<|o_p rfl (Z57 rfl rfl u_0 c_i (by decide) rfl)<|o_p rfl (Zgo Tryd.underlying142 Tryd.underlying3 rfl rfl u_0 rfl)<|Qa rfl u_0<|o_n) (fun a g hst hb=>?_)
     obtain ⟨e4,h5,H1⟩:=Zf H1;obtain ⟨r6,h7,H1⟩:=Zf H1
     refine r_s (T:=[⟨[.o 2],_,[],[],[24]⟩,⟨[.o 0],_,[],[],[25]⟩,⟨[.o 6],_,[],[],[26]⟩,⟨[.p 1 0,.p 2 0],_,[],[1,2],[27]⟩,⟨[.p 3 0],_,[],[1,2,3],[28]⟩,⟨[.o 1],_,[],[],[29]⟩,⟨[.p 0 0,.p 4 0,.p 5 0],_,[],Lr 6,[30]⟩,⟨[.p 6 0],_,[],Lr 7,[31]⟩]) (F:=[.o 0,.o 1,.o 2,.o 3,.o 4,.o 5,.o 6,.o 7,.p 7 0]) hst hb Zb
      (Qm rfl u_0<|Qm rfl u_0<|Qm rfl u_0<|o_p rfl (Zbk Tryd.underlying23 Zee rfl rfl u_0 u_1 h5)<|Ql rfl Zdt u_0<|Qm rfl u_0<|o_p rfl (Zow e2_ (hφ2 _ _ _ h7) rfl rfl u_0 (.cons u_1 (.cons u_2 .nil)))<|o_p rfl (Zb6 rfl rfl u_0 c_i)<|o_n) (fun a g hst hb=>?_)
     refine wp_cond_split (hst.bool 8 rfl) (fun hc8=>?_) (fun hc8=>?_)
     ·replace H1:=Zn hc8 H1
      refine r_g (L:=[(0,_),(1,_),(2,_),(8,_),(10,_),(11,_),(12,_)]) (T:=[⟨[.o 5],_,[],[],[32]⟩,⟨[.p 0 0],_,[],[0],[33]⟩,⟨[.p 1 0],_,[],[0,1],[9]⟩]) (F:=[.o 0,.o 1,.o 2,.o 3,.p 2 0,.o 4,.o 6]) (hst.pick [0,1,2,3,5,6,7] rfl) hb Zb
       (Qm rfl u_0<|o_p rfl (Zca rfl rfl u_0 c_i rfl)<|Qa rfl u_0<|o_n) (fun a g hst hb=>?_)
      refine Z4 ?_
      exact ⟨(IntKind.i64.wrap ((IntKind.i64.wrap (Int.fdiv (IntKind.u64.wrap (IntKind.i64.wrap (x1 + x2))) (2 ^ 1))) + (1:Int))),x2,g,rfl,(hst.pick [0,1,2,3,4,5,6] rfl),hb,H1⟩
     ·replace H1:=Zo hc8 H1
      refine r_g (L:=[(0,_),(1,_),(2,_),(8,_),(9,_),(11,_),(12,_)]) (T:=[⟨[.o 5],_,[],[],[34]⟩,⟨[.p 0 0],_,[],[0],[10]⟩]) (F:=[.o 0,.o 1,.o 2,.o 3,.o 4,.p 1 0,.o 6]) (hst.pick [0,1,2,3,4,6,7] rfl) hb Zb
       (Qm rfl u_0<|Qa rfl u_0<|o_n) (fun a g hst hb=>?_)
      refine Z4 ?_
      exact ⟨x1,(IntKind.i64.wrap (Int.fdiv (IntKind.u64.wrap (IntKind.i64.wrap (x1 + x2))) (2 ^ 1))),g,rfl,(hst.pick [0,1,2,3,4,5,6] rfl),hb,H1⟩
   ·replace H1:=Zo hc3 H1
    refine wp_exit ?_
    refine Zb7 ?_
    refine Zb7 ?_
    refine Zct ?_
    exact ⟨x1,g,rfl,(hst.pick [0,1,2,3,4,6] rfl),hb,Option.some.inj H1⟩
end Go.CL
