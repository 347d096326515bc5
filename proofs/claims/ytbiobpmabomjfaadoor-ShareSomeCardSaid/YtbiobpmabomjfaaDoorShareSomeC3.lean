/- A part of the proof of ShareSome. -/
import Derived.Test.YtbiobpmabomjfaaDoorShareSomeC2
import Derived.Test.YtbiobpmabomjfaaDoorProg
set_option linter.unusedVariables false
set_option linter.unusedSimpArgs false
set_option maxRecDepth 100000
namespace Go.CL
open Go Go.RowKit Go.Proofs
theorem Zb:Tryd.prog.follows .mixedOrders=true:=by kernel_rfl
theorem Z7g {α:Type} {l:List α} (h:l.length=1):∃ u0,l=[u0]:=by
 match l,h with
 | [u0],_=>exact ⟨u0,rfl⟩
theorem Zjx {α:Type} {l:List α} (h:l.length=2):∃ u0 u1,l=[u0,u1]:=by
 match l,h with
 | [u0,u1],_=>exact ⟨u0,u1,rfl⟩
theorem Z2m {α:Type} {l:List α} (h:l.length=8):∃ u0 u1 u2 u3 u4 u5 u6 u7,l=[u0,u1,u2,u3,u4,u5,u6,u7]:=by
 match l,h with
 | [u0,u1,u2,u3,u4,u5,u6,u7],_=>exact ⟨u0,u1,u2,u3,u4,u5,u6,u7,rfl⟩
def Zuo:List (Kd.FK Zbu):=[⟨_,Kd.bool,0,fun x:Zbu=>x.text⟩,
 ⟨_,Kd.bool,1,fun x:Zbu=>x.num⟩,
 ⟨_,Kd.bool,2,fun x:Zbu=>x.bounds⟩,
 ⟨_,Kd.bool,3,fun x:Zbu=>x.real⟩,
 ⟨_,Kd.bool,4,fun x:Zbu=>x.list⟩]
def Zci:Kd Zbu:=Kd.struct 5 Zuo (by rfl)
theorem Zo5:∀ g,Zci.K g (default:Zbu) [.bool false,.bool false,.bool false,.bool false,.bool false]:=fun g=>⟨rfl,(Qc.2 ⟨(rfl),(Qc.2 ⟨(rfl),(Qc.2 ⟨(rfl),(Qc.2 ⟨(rfl),(Qc.2 ⟨(rfl),(fun _ h=>by cases h)⟩)⟩)⟩)⟩)⟩)⟩
def Zv3:List (Kd.FK Zd):=[⟨_,Kd.flt,0,fun x:Zd=>x.Score⟩,
 ⟨_,Kd.str,1,fun x:Zd=>x.Name⟩]
def Zo:Kd Zd:=Kd.struct 2 Zv3 (by rfl)
theorem Zgr:∀ g,Zo.K g (default:Zd) [.float .f64 0,.string ByteArray.empty]:=fun g=>⟨rfl,(Qc.2 ⟨(rfl),(Qc.2 ⟨(rfl),(fun _ h=>by cases h)⟩)⟩)⟩
def Ztv:List (Kd.FK Za):=[⟨_,(Kd.int .i64),0,fun x:Za=>x.Kind⟩,
 ⟨_,(Kd.int .i64),1,fun x:Za=>x.Num⟩,
 ⟨_,(Kd.int .i64),2,fun x:Za=>x.Low⟩,
 ⟨_,(Kd.int .i64),3,fun x:Za=>x.High⟩,
 ⟨_,Kd.flt,4,fun x:Za=>x.Real⟩,
 ⟨_,(Kd.int .i64),5,fun x:Za=>x.Cap⟩,
 ⟨_,Kd.str,6,fun x:Za=>x.Text⟩,
 ⟨_,Zo.sl,7,fun x:Za=>x.List⟩]
def Zc:Kd Za:=Kd.struct 8 Ztv (by rfl)
theorem Zb2:∀ g,Zc.K g (default:Za) [.int .i64 0,.int .i64 0,.int .i64 0,.int .i64 0,.float .f64 0,.int .i64 0,.string ByteArray.empty,.slice none 0 0]:=fun g=>⟨rfl,(Qc.2 ⟨(rfl),(Qc.2 ⟨(rfl),(Qc.2 ⟨(rfl),(Qc.2 ⟨(rfl),(Qc.2 ⟨(rfl),(Qc.2 ⟨(rfl),(Qc.2 ⟨(rfl),(Qc.2 ⟨(⟨none,0,rfl,Nat.le_refl _,Nat.zero_le _,.inl rfl⟩),(fun _ h=>by cases h)⟩)⟩)⟩)⟩)⟩)⟩)⟩)⟩)⟩
def Zwd:List (Kd.FK Zcn):=[⟨_,Kd.str,0,fun x:Zcn=>x.word⟩,
 ⟨_,(Kd.int .i64),1,fun x:Zcn=>x.on⟩,
 ⟨_,Kd.str,2,fun x:Zcn=>x.has⟩]
def Zdm:Kd Zcn:=Kd.struct 3 Zwd (by rfl)
theorem Zqf:∀ g,Zdm.K g (default:Zcn) [.string ByteArray.empty,.int .i64 0,.string ByteArray.empty]:=fun g=>⟨rfl,(Qc.2 ⟨(rfl),(Qc.2 ⟨(rfl),(Qc.2 ⟨(rfl),(fun _ h=>by cases h)⟩)⟩)⟩)⟩
def Zxx:List (Kd.FK Zg):=[⟨_,(Kd.int .i64),0,fun x:Zg=>x.Kind⟩,
 ⟨_,Kd.str,1,fun x:Zg=>x.Key⟩,
 ⟨_,(Kd.int .i64),2,fun x:Zg=>x.N⟩,
 ⟨_,Kd.flt,3,fun x:Zg=>x.X⟩,
 ⟨_,Kd.str,4,fun x:Zg=>x.S⟩,
 ⟨_,Zc,5,fun x:Zg=>x.Make⟩,
 ⟨_,Kd.bool,13,fun x:Zg=>x.Must⟩]
def Z1:Kd Zg:=Kd.struct 14 Zxx (by rfl)
theorem Zli:∀ g,Z1.K g (default:Zg) [.int .i64 0,.string ByteArray.empty,.int .i64 0,.float .f64 0,.string ByteArray.empty,.int .i64 0,.int .i64 0,.int .i64 0,.int .i64 0,.float .f64 0,.int .i64 0,.string ByteArray.empty,.slice none 0 0,.bool false]:=fun g=>⟨rfl,(Qc.2 ⟨(rfl),(Qc.2 ⟨(rfl),(Qc.2 ⟨(rfl),(Qc.2 ⟨(rfl),(Qc.2 ⟨(rfl),(Qc.2 ⟨(Zb2 _),(Qc.2 ⟨(rfl),(fun _ h=>by cases h)⟩)⟩)⟩)⟩)⟩)⟩)⟩)⟩
def Ztq:List (Kd.FK Zi):=[⟨_,(Kd.int .i64),0,fun x:Zi=>x.Code⟩,
 ⟨_,(Kd.int .i64),1,fun x:Zi=>x.Num⟩,
 ⟨_,Zc,2,fun x:Zi=>x.Rec⟩]
def Z2:Kd Zi:=Kd.struct 10 Ztq (by rfl)
theorem Zjy:∀ g,Z2.K g (default:Zi) [.int .i64 0,.int .i64 0,.int .i64 0,.int .i64 0,.int .i64 0,.int .i64 0,.float .f64 0,.int .i64 0,.string ByteArray.empty,.slice none 0 0]:=fun g=>⟨rfl,(Qc.2 ⟨(rfl),(Qc.2 ⟨(rfl),(Qc.2 ⟨(Zb2 _),(fun _ h=>by cases h)⟩)⟩)⟩)⟩
def Ztx:List (Kd.FK Zs):=[⟨_,(Kd.int .u64),0,fun x:Zs=>x.up⟩,
 ⟨_,(Kd.int .u64),1,fun x:Zs=>x.down⟩]
def Z5:Kd Zs:=Kd.struct 2 Ztx (by rfl)
theorem Zin:∀ g,Z5.K g (default:Zs) [.int .u64 0,.int .u64 0]:=fun g=>⟨rfl,(Qc.2 ⟨(rfl),(Qc.2 ⟨(rfl),(fun _ h=>by cases h)⟩)⟩)⟩
def Zri:List (Kd.FK Zu):=[⟨_,Zc,0,fun x:Zu=>x.r⟩,
 ⟨_,Z5.sl,8,fun x:Zu=>x.by_⟩]
def Zfn:Kd Zu:=Kd.struct 9 Zri (by rfl)
def Zon:List (Kd.FK Zv):=[⟨_,(Kd.int .i64),0,fun x:Zv=>x.Worker⟩,
 ⟨_,Z1,1,fun x:Zv=>x.Act⟩]
def Zba:Kd Zv:=Kd.struct 15 Zon (by rfl)
theorem Zit:∀ g,Zba.K g (default:Zv) [.int .i64 0,.int .i64 0,.string ByteArray.empty,.int .i64 0,.float .f64 0,.string ByteArray.empty,.int .i64 0,.int .i64 0,.int .i64 0,.int .i64 0,.float .f64 0,.int .i64 0,.string ByteArray.empty,.slice none 0 0,.bool false]:=fun g=>⟨rfl,(Qc.2 ⟨(rfl),(Qc.2 ⟨(Zli _),(fun _ h=>by cases h)⟩)⟩)⟩
def Zuk:Zcn → List Value:=fun x=>[.string x.word,.int .i64 x.on,.string x.has]
theorem gm_1:(1,g_1.flatMap Zuk) ∈ GL:=List.mem_of_getElem? (i:=0) rfl
theorem gk_1:∀ g,(Kd.arr 22 Zdm).K g g_1 (g_1.flatMap Zuk):=fun g=>Z6w (dk:=Zdm) (enc:=Zuk) (fun g x=>⟨rfl,(Qc.2 ⟨rfl,(Qc.2 ⟨rfl,(Qc.2 ⟨rfl,(fun _ h=>by cases h)⟩)⟩)⟩)⟩) g g_1
theorem Z4t {N d:Nat} {o:Oper} {uses:Z4} {x0:Operand} {v0:Bool} (hop:o.op=.build 88 #[(0,x0)]) (hd:o.dst=some d) (h0:Opd uses x0 (Kd.bool.pd v0)):OB Tryd.prog N o uses [(d,Zci.pd { text:=v0,num:=false,bounds:=false,real:=false,list:=false })] []:=by
 refine Zct hop hd fun a g hh=>?_
 obtain ⟨c0,k0,e0⟩:=h0 a g hh
 obtain rfl:=k0
 refine ⟨.agg #[.bool v0,.bool false,.bool false,.bool false,.bool false],?_,[.bool v0,.bool false,.bool false,.bool false,.bool false],⟨rfl,(Qc.2 ⟨rfl,(Qc.2 ⟨(rfl),(Qc.2 ⟨(rfl),(Qc.2 ⟨(rfl),(Qc.2 ⟨(rfl),(fun _ h=>by cases h)⟩)⟩)⟩)⟩)⟩)⟩,rfl⟩
 simp only [List.map_toArray,List.map_cons,List.map_nil,e0]
 exact Zch Tryd.underlying88 (zero:=.agg #[.bool false,.bool false,.bool false,.bool false,.bool false]) (by kernel_rfl) (places:=[(0,1),(1,1),(2,1),(3,1),(4,1)]) (by kernel_rfl) (by kernel_rfl) g.w
theorem Ziw:Ty Tryd.prog 88 Zci:=⟨by kernel_rfl,by kernel_rfl⟩
theorem Z36 {N d:Nat} {o:Oper} {uses:Z4} {x1:Operand} {v1:Bool} (hop:o.op=.build 88 #[(1,x1)]) (hd:o.dst=some d) (h1:Opd uses x1 (Kd.bool.pd v1)):OB Tryd.prog N o uses [(d,Zci.pd { text:=false,num:=v1,bounds:=false,real:=false,list:=false })] []:=by
 refine Zct hop hd fun a g hh=>?_
 obtain ⟨c1,k1,e1⟩:=h1 a g hh
 obtain rfl:=k1
 refine ⟨.agg #[.bool false,.bool v1,.bool false,.bool false,.bool false],?_,[.bool false,.bool v1,.bool false,.bool false,.bool false],⟨rfl,(Qc.2 ⟨(rfl),(Qc.2 ⟨rfl,(Qc.2 ⟨(rfl),(Qc.2 ⟨(rfl),(Qc.2 ⟨(rfl),(fun _ h=>by cases h)⟩)⟩)⟩)⟩)⟩)⟩,rfl⟩
 simp only [List.map_toArray,List.map_cons,List.map_nil,e1]
 exact Zch Tryd.underlying88 (zero:=.agg #[.bool false,.bool false,.bool false,.bool false,.bool false]) (by kernel_rfl) (places:=[(0,1),(1,1),(2,1),(3,1),(4,1)]) (by kernel_rfl) (by kernel_rfl) g.w
theorem Zzv {N d:Nat} {o:Oper} {uses:Z4} {x1:Operand} {x2:Operand} {v1:Bool} {v2:Bool} (hop:o.op=.build 88 #[(1,x1),(2,x2)]) (hd:o.dst=some d) (h1:Opd uses x1 (Kd.bool.pd v1)) (h2:Opd uses x2 (Kd.bool.pd v2)):OB Tryd.prog N o uses [(d,Zci.pd { text:=false,num:=v1,bounds:=v2,real:=false,list:=false })] []:=by
 refine Zct hop hd fun a g hh=>?_
 obtain ⟨c1,k1,e1⟩:=h1 a g hh
 obtain rfl:=k1
 obtain ⟨c2,k2,e2⟩:=h2 a g hh
 obtain rfl:=k2
 refine ⟨.agg #[.bool false,.bool v1,.bool v2,.bool false,.bool false],?_,[.bool false,.bool v1,.bool v2,.bool false,.bool false],⟨rfl,(Qc.2 ⟨(rfl),(Qc.2 ⟨rfl,(Qc.2 ⟨rfl,(Qc.2 ⟨(rfl),(Qc.2 ⟨(rfl),(fun _ h=>by cases h)⟩)⟩)⟩)⟩)⟩)⟩,rfl⟩
 simp only [List.map_toArray,List.map_cons,List.map_nil,e1,e2]
 exact Zch Tryd.underlying88 (zero:=.agg #[.bool false,.bool false,.bool false,.bool false,.bool false]) (by kernel_rfl) (places:=[(0,1),(1,1),(2,1),(3,1),(4,1)]) (by kernel_rfl) (by kernel_rfl) g.w
theorem Z4p {N d:Nat} {o:Oper} {uses:Z4} {x3:Operand} {v3:Bool} (hop:o.op=.build 88 #[(3,x3)]) (hd:o.dst=some d) (h3:Opd uses x3 (Kd.bool.pd v3)):OB Tryd.prog N o uses [(d,Zci.pd { text:=false,num:=false,bounds:=false,real:=v3,list:=false })] []:=by
 refine Zct hop hd fun a g hh=>?_
 obtain ⟨c3,k3,e3⟩:=h3 a g hh
 obtain rfl:=k3
 refine ⟨.agg #[.bool false,.bool false,.bool false,.bool v3,.bool false],?_,[.bool false,.bool false,.bool false,.bool v3,.bool false],⟨rfl,(Qc.2 ⟨(rfl),(Qc.2 ⟨(rfl),(Qc.2 ⟨(rfl),(Qc.2 ⟨rfl,(Qc.2 ⟨(rfl),(fun _ h=>by cases h)⟩)⟩)⟩)⟩)⟩)⟩,rfl⟩
 simp only [List.map_toArray,List.map_cons,List.map_nil,e3]
 exact Zch Tryd.underlying88 (zero:=.agg #[.bool false,.bool false,.bool false,.bool false,.bool false]) (by kernel_rfl) (places:=[(0,1),(1,1),(2,1),(3,1),(4,1)]) (by kernel_rfl) (by kernel_rfl) g.w
theorem Z43 {N d:Nat} {o:Oper} {uses:Z4} {x4:Operand} {v4:Bool} (hop:o.op=.build 88 #[(4,x4)]) (hd:o.dst=some d) (h4:Opd uses x4 (Kd.bool.pd v4)):OB Tryd.prog N o uses [(d,Zci.pd { text:=false,num:=false,bounds:=false,real:=false,list:=v4 })] []:=by
 refine Zct hop hd fun a g hh=>?_
 obtain ⟨c4,k4,e4⟩:=h4 a g hh
 obtain rfl:=k4
 refine ⟨.agg #[.bool false,.bool false,.bool false,.bool false,.bool v4],?_,[.bool false,.bool false,.bool false,.bool false,.bool v4],⟨rfl,(Qc.2 ⟨(rfl),(Qc.2 ⟨(rfl),(Qc.2 ⟨(rfl),(Qc.2 ⟨(rfl),(Qc.2 ⟨rfl,(fun _ h=>by cases h)⟩)⟩)⟩)⟩)⟩)⟩,rfl⟩
 simp only [List.map_toArray,List.map_cons,List.map_nil,e4]
 exact Zch Tryd.underlying88 (zero:=.agg #[.bool false,.bool false,.bool false,.bool false,.bool false]) (by kernel_rfl) (places:=[(0,1),(1,1),(2,1),(3,1),(4,1)]) (by kernel_rfl) (by kernel_rfl) g.w
theorem Z5s {N d:Nat} {o:Oper} {uses:Z4}   (hop:o.op=.build 88 #[]) (hd:o.dst=some d) :OB Tryd.prog N o uses [(d,Zci.pd { text:=false,num:=false,bounds:=false,real:=false,list:=false })] []:=by
 refine Zct hop hd fun a g hh=>?_
 refine ⟨.agg #[.bool false,.bool false,.bool false,.bool false,.bool false],?_,[.bool false,.bool false,.bool false,.bool false,.bool false],⟨rfl,(Qc.2 ⟨(rfl),(Qc.2 ⟨(rfl),(Qc.2 ⟨(rfl),(Qc.2 ⟨(rfl),(Qc.2 ⟨(rfl),(fun _ h=>by cases h)⟩)⟩)⟩)⟩)⟩)⟩,rfl⟩
 simp only [List.map_toArray,List.map_cons,List.map_nil,List.map_nil]
 exact Zch Tryd.underlying88 (zero:=.agg #[.bool false,.bool false,.bool false,.bool false,.bool false]) (by kernel_rfl) (places:=[(0,1),(1,1),(2,1),(3,1),(4,1)]) (by kernel_rfl) (by kernel_rfl) g.w
theorem Z2n:Ext Tryd.prog 61 Extern.MathFloatBits.float64frombits:=⟨_,Tryd.func61,rfl,rfl,by kernel_rfl,by kernel_rfl⟩
theorem Z2s:Zl Tryd.prog 33:=by
 unfold Zl
 kernel_rfl
theorem Zmq:Zl Tryd.prog 66:=by
 unfold Zl
 kernel_rfl
theorem Zt8:Ext Tryd.prog 73 Extern.MathFloatBits.float64bits:=⟨_,Tryd.func73,rfl,rfl,by kernel_rfl,by kernel_rfl⟩
theorem Zt7:Zl Tryd.prog 81:=by
 unfold Zl
 kernel_rfl
theorem Z47:Fld Tryd.prog 88 0 Zci Kd.bool (fun x:Zbu=>x.text):=Fld.of ⟨_,Kd.bool,0,fun x:Zbu=>x.text⟩ (List.mem_of_getElem? (i:=0) rfl) 0 rfl (by kernel_rfl) (by decide)
theorem ty_4:Ty Tryd.prog 4 Kd.bool:=⟨by kernel_rfl,by kernel_rfl⟩
theorem Zia:Fld Tryd.prog 25 6 Zc Kd.str (fun x:Za=>x.Text):=Fld.of ⟨_,Kd.str,6,fun x:Za=>x.Text⟩ (List.mem_of_getElem? (i:=6) rfl) 6 rfl (by kernel_rfl) (by decide)
theorem ty_9:Ty Tryd.prog 9 Kd.str:=⟨by kernel_rfl,by kernel_rfl⟩
theorem Z4e:Fld Tryd.prog 88 1 Zci Kd.bool (fun x:Zbu=>x.num):=Fld.of ⟨_,Kd.bool,1,fun x:Zbu=>x.num⟩ (List.mem_of_getElem? (i:=1) rfl) 1 rfl (by kernel_rfl) (by decide)
theorem Zcl:Fld Tryd.prog 25 1 Zc (Kd.int .i64) (fun x:Za=>x.Num):=Fld.of ⟨_,(Kd.int .i64),1,fun x:Za=>x.Num⟩ (List.mem_of_getElem? (i:=1) rfl) 1 rfl (by kernel_rfl) (by decide)
theorem ty_2:Ty Tryd.prog 2 (Kd.int .i64):=⟨by kernel_rfl,by kernel_rfl⟩
theorem Zwr:Fld Tryd.prog 88 2 Zci Kd.bool (fun x:Zbu=>x.bounds):=Fld.of ⟨_,Kd.bool,2,fun x:Zbu=>x.bounds⟩ (List.mem_of_getElem? (i:=2) rfl) 2 rfl (by kernel_rfl) (by decide)
theorem Zg6:Fld Tryd.prog 25 2 Zc (Kd.int .i64) (fun x:Za=>x.Low):=Fld.of ⟨_,(Kd.int .i64),2,fun x:Za=>x.Low⟩ (List.mem_of_getElem? (i:=2) rfl) 2 rfl (by kernel_rfl) (by decide)
theorem Zg8:Fld Tryd.prog 25 3 Zc (Kd.int .i64) (fun x:Za=>x.High):=Fld.of ⟨_,(Kd.int .i64),3,fun x:Za=>x.High⟩ (List.mem_of_getElem? (i:=3) rfl) 3 rfl (by kernel_rfl) (by decide)
theorem Z38:Fld Tryd.prog 88 3 Zci Kd.bool (fun x:Zbu=>x.real):=Fld.of ⟨_,Kd.bool,3,fun x:Zbu=>x.real⟩ (List.mem_of_getElem? (i:=3) rfl) 3 rfl (by kernel_rfl) (by decide)
theorem Zfd:Fld Tryd.prog 25 4 Zc Kd.flt (fun x:Za=>x.Real):=Fld.of ⟨_,Kd.flt,4,fun x:Za=>x.Real⟩ (List.mem_of_getElem? (i:=4) rfl) 4 rfl (by kernel_rfl) (by decide)
theorem Zcv:Ty Tryd.prog 22 Kd.flt:=⟨by kernel_rfl,by kernel_rfl⟩
theorem Zpy:Zl Tryd.prog 76:=by
 unfold Zl
 kernel_rfl
theorem Zww:Fld Tryd.prog 88 4 Zci Kd.bool (fun x:Zbu=>x.list):=Fld.of ⟨_,Kd.bool,4,fun x:Zbu=>x.list⟩ (List.mem_of_getElem? (i:=4) rfl) 4 rfl (by kernel_rfl) (by decide)
theorem Zfb:Fld Tryd.prog 25 5 Zc (Kd.int .i64) (fun x:Za=>x.Cap):=Fld.of ⟨_,(Kd.int .i64),5,fun x:Za=>x.Cap⟩ (List.mem_of_getElem? (i:=5) rfl) 5 rfl (by kernel_rfl) (by decide)
theorem ty_3:Ty Tryd.prog 3 (Kd.int .i64):=⟨by kernel_rfl,by kernel_rfl⟩
theorem Zb5:Fld Tryd.prog 25 7 Zc Zo.sl (fun x:Za=>x.List):=Fld.of ⟨_,Zo.sl,7,fun x:Za=>x.List⟩ (List.mem_of_getElem? (i:=7) rfl) 7 rfl (by kernel_rfl) (by decide)
theorem Zc4:Ty Tryd.prog 23 Zo.sl:=⟨by kernel_rfl,by kernel_rfl⟩
theorem Zet:Fld Tryd.prog 75 0 Zo Kd.flt (fun x:Zd=>x.Score):=Fld.of ⟨_,Kd.flt,0,fun x:Zd=>x.Score⟩ (List.mem_of_getElem? (i:=0) rfl) 0 rfl (by kernel_rfl) (by decide)
theorem Zxu:Zl Tryd.prog 65:=by
 unfold Zl
 kernel_rfl
theorem Zed:Fld Tryd.prog 75 1 Zo Kd.str (fun x:Zd=>x.Name):=Fld.of ⟨_,Kd.str,1,fun x:Zd=>x.Name⟩ (List.mem_of_getElem? (i:=1) rfl) 1 rfl (by kernel_rfl) (by decide)
theorem Zga:(Tryd.prog.info? 75).map (·.size)=some Zo.sz:=by kernel_rfl
theorem Zd2:Ty Tryd.prog 75 Zo:=⟨by kernel_rfl,by kernel_rfl⟩
theorem Zyh:Zl Tryd.prog 51:=by
 unfold Zl
 kernel_rfl
theorem Zx3:Zl Tryd.prog 77:=by
 unfold Zl
 kernel_rfl
theorem Zdr:Fld Tryd.prog 25 0 Zc (Kd.int .i64) (fun x:Za=>x.Kind):=Fld.of ⟨_,(Kd.int .i64),0,fun x:Za=>x.Kind⟩ (List.mem_of_getElem? (i:=0) rfl) 0 rfl (by kernel_rfl) (by decide)
theorem Z7a:Zl Tryd.prog 49:=by
 unfold Zl
 kernel_rfl
theorem Z8:Ty Tryd.prog 25 Zc:=⟨by kernel_rfl,by kernel_rfl⟩
theorem Z65:Zl Tryd.prog 50:=by
 unfold Zl
 kernel_rfl
theorem Z78:Zl Tryd.prog 52:=by
 unfold Zl
 kernel_rfl
theorem Zre:Zl Tryd.prog 23:=by
 unfold Zl
 kernel_rfl
theorem Zm9 {N d:Nat} {o:Oper} {uses:Z4}   (hop:o.op=.build 25 #[]) (hd:o.dst=some d) :OB Tryd.prog N o uses [(d,Zc.pd { Kind:=(0:Int),Num:=(0:Int),Low:=(0:Int),High:=(0:Int),Real:=(0:Nat),Cap:=(0:Int),Text:=ByteArray.empty,List:=([]:List Zd) })] []:=by
 refine Zct hop hd fun a g hh=>?_
 refine ⟨.agg #[.int .i64 0,.int .i64 0,.int .i64 0,.int .i64 0,.float .f64 0,.int .i64 0,.string ByteArray.empty,.slice none 0 0],?_,[.int .i64 0,.int .i64 0,.int .i64 0,.int .i64 0,.float .f64 0,.int .i64 0,.string ByteArray.empty,.slice none 0 0],⟨rfl,(Qc.2 ⟨(rfl),(Qc.2 ⟨(rfl),(Qc.2 ⟨(rfl),(Qc.2 ⟨(rfl),(Qc.2 ⟨(rfl),(Qc.2 ⟨(rfl),(Qc.2 ⟨(rfl),(Qc.2 ⟨(⟨none,0,rfl,Nat.le_refl _,Nat.zero_le _,.inl rfl⟩),(fun _ h=>by cases h)⟩)⟩)⟩)⟩)⟩)⟩)⟩)⟩)⟩,rfl⟩
 simp only [List.map_toArray,List.map_cons,List.map_nil,List.map_nil]
 exact Zch Tryd.underlying25 (zero:=.agg #[.int .i64 0,.int .i64 0,.int .i64 0,.int .i64 0,.float .f64 0,.int .i64 0,.string ByteArray.empty,.slice none 0 0]) (by kernel_rfl) (places:=[(0,1),(1,1),(2,1),(3,1),(4,1),(5,1),(6,1),(7,1)]) (by kernel_rfl) (by kernel_rfl) g.w
theorem Z3r {N d:Nat} {o:Oper} {uses:Z4} {x0:Operand} {v0:Int} (hop:o.op=.build 25 #[(0,x0)]) (hd:o.dst=some d) (h0:Opd uses x0 ((Kd.int .i64).pd v0)):OB Tryd.prog N o uses [(d,Zc.pd { Kind:=v0,Num:=(0:Int),Low:=(0:Int),High:=(0:Int),Real:=(0:Nat),Cap:=(0:Int),Text:=ByteArray.empty,List:=([]:List Zd) })] []:=by
 refine Zct hop hd fun a g hh=>?_
 obtain ⟨c0,k0,e0⟩:=h0 a g hh
 obtain rfl:=k0
 refine ⟨.agg #[.int .i64 v0,.int .i64 0,.int .i64 0,.int .i64 0,.float .f64 0,.int .i64 0,.string ByteArray.empty,.slice none 0 0],?_,[.int .i64 v0,.int .i64 0,.int .i64 0,.int .i64 0,.float .f64 0,.int .i64 0,.string ByteArray.empty,.slice none 0 0],⟨rfl,(Qc.2 ⟨rfl,(Qc.2 ⟨(rfl),(Qc.2 ⟨(rfl),(Qc.2 ⟨(rfl),(Qc.2 ⟨(rfl),(Qc.2 ⟨(rfl),(Qc.2 ⟨(rfl),(Qc.2 ⟨(⟨none,0,rfl,Nat.le_refl _,Nat.zero_le _,.inl rfl⟩),(fun _ h=>by cases h)⟩)⟩)⟩)⟩)⟩)⟩)⟩)⟩)⟩,rfl⟩
 simp only [List.map_toArray,List.map_cons,List.map_nil,e0]
 exact Zch Tryd.underlying25 (zero:=.agg #[.int .i64 0,.int .i64 0,.int .i64 0,.int .i64 0,.float .f64 0,.int .i64 0,.string ByteArray.empty,.slice none 0 0]) (by kernel_rfl) (places:=[(0,1),(1,1),(2,1),(3,1),(4,1),(5,1),(6,1),(7,1)]) (by kernel_rfl) (by kernel_rfl) g.w
theorem Z7v:Zl Tryd.prog 32:=by
 unfold Zl
 kernel_rfl
theorem Zsq {N d:Nat} {o:Oper} {uses:Z4} {x0:Operand} {x4:Operand} {v0:Int} {v4:Nat} (hop:o.op=.build 25 #[(0,x0),(4,x4)]) (hd:o.dst=some d) (h0:Opd uses x0 ((Kd.int .i64).pd v0)) (h4:Opd uses x4 (Kd.flt.pd v4)):OB Tryd.prog N o uses [(d,Zc.pd { Kind:=v0,Num:=(0:Int),Low:=(0:Int),High:=(0:Int),Real:=v4,Cap:=(0:Int),Text:=ByteArray.empty,List:=([]:List Zd) })] []:=by
 refine Zct hop hd fun a g hh=>?_
 obtain ⟨c0,k0,e0⟩:=h0 a g hh
 obtain rfl:=k0
 obtain ⟨c4,k4,e4⟩:=h4 a g hh
 obtain rfl:=k4
 refine ⟨.agg #[.int .i64 v0,.int .i64 0,.int .i64 0,.int .i64 0,.float .f64 v4,.int .i64 0,.string ByteArray.empty,.slice none 0 0],?_,[.int .i64 v0,.int .i64 0,.int .i64 0,.int .i64 0,.float .f64 v4,.int .i64 0,.string ByteArray.empty,.slice none 0 0],⟨rfl,(Qc.2 ⟨rfl,(Qc.2 ⟨(rfl),(Qc.2 ⟨(rfl),(Qc.2 ⟨(rfl),(Qc.2 ⟨rfl,(Qc.2 ⟨(rfl),(Qc.2 ⟨(rfl),(Qc.2 ⟨(⟨none,0,rfl,Nat.le_refl _,Nat.zero_le _,.inl rfl⟩),(fun _ h=>by cases h)⟩)⟩)⟩)⟩)⟩)⟩)⟩)⟩)⟩,rfl⟩
 simp only [List.map_toArray,List.map_cons,List.map_nil,e0,e4]
 exact Zch Tryd.underlying25 (zero:=.agg #[.int .i64 0,.int .i64 0,.int .i64 0,.int .i64 0,.float .f64 0,.int .i64 0,.string ByteArray.empty,.slice none 0 0]) (by kernel_rfl) (places:=[(0,1),(1,1),(2,1),(3,1),(4,1),(5,1),(6,1),(7,1)]) (by kernel_rfl) (by kernel_rfl) g.w
theorem Ztm {N d:Nat} {o:Oper} {uses:Z4} {x0:Operand} {x5:Operand} {v0:Int} {v5:Int} (hop:o.op=.build 25 #[(0,x0),(5,x5)]) (hd:o.dst=some d) (h0:Opd uses x0 ((Kd.int .i64).pd v0)) (h5:Opd uses x5 ((Kd.int .i64).pd v5)):OB Tryd.prog N o uses [(d,Zc.pd { Kind:=v0,Num:=(0:Int),Low:=(0:Int),High:=(0:Int),Real:=(0:Nat),Cap:=v5,Text:=ByteArray.empty,List:=([]:List Zd) })] []:=by
 refine Zct hop hd fun a g hh=>?_
 obtain ⟨c0,k0,e0⟩:=h0 a g hh
 obtain rfl:=k0
 obtain ⟨c5,k5,e5⟩:=h5 a g hh
 obtain rfl:=k5
 refine ⟨.agg #[.int .i64 v0,.int .i64 0,.int .i64 0,.int .i64 0,.float .f64 0,.int .i64 v5,.string ByteArray.empty,.slice none 0 0],?_,[.int .i64 v0,.int .i64 0,.int .i64 0,.int .i64 0,.float .f64 0,.int .i64 v5,.string ByteArray.empty,.slice none 0 0],⟨rfl,(Qc.2 ⟨rfl,(Qc.2 ⟨(rfl),(Qc.2 ⟨(rfl),(Qc.2 ⟨(rfl),(Qc.2 ⟨(rfl),(Qc.2 ⟨rfl,(Qc.2 ⟨(rfl),(Qc.2 ⟨(⟨none,0,rfl,Nat.le_refl _,Nat.zero_le _,.inl rfl⟩),(fun _ h=>by cases h)⟩)⟩)⟩)⟩)⟩)⟩)⟩)⟩)⟩,rfl⟩
 simp only [List.map_toArray,List.map_cons,List.map_nil,e0,e5]
 exact Zch Tryd.underlying25 (zero:=.agg #[.int .i64 0,.int .i64 0,.int .i64 0,.int .i64 0,.float .f64 0,.int .i64 0,.string ByteArray.empty,.slice none 0 0]) (by kernel_rfl) (places:=[(0,1),(1,1),(2,1),(3,1),(4,1),(5,1),(6,1),(7,1)]) (by kernel_rfl) (by kernel_rfl) g.w
theorem Z48 {N d:Nat} {o:Oper} {uses:Z4}   (hop:o.op=.build 108 #[]) (hd:o.dst=some d) :OB Tryd.prog N o uses [(d,Zdm.pd { word:=ByteArray.empty,on:=(0:Int),has:=ByteArray.empty })] []:=by
 refine Zct hop hd fun a g hh=>?_
 refine ⟨.agg #[.string ByteArray.empty,.int .i64 0,.string ByteArray.empty],?_,[.string ByteArray.empty,.int .i64 0,.string ByteArray.empty],⟨rfl,(Qc.2 ⟨(rfl),(Qc.2 ⟨(rfl),(Qc.2 ⟨(rfl),(fun _ h=>by cases h)⟩)⟩)⟩)⟩,rfl⟩
 simp only [List.map_toArray,List.map_cons,List.map_nil,List.map_nil]
 exact Zch Tryd.underlying108 (zero:=.agg #[.string ByteArray.empty,.int .i64 0,.string ByteArray.empty]) (by kernel_rfl) (places:=[(0,1),(1,1),(2,1)]) (by kernel_rfl) (by kernel_rfl) g.w
theorem Zim:Ty Tryd.prog 108 Zdm:=⟨by kernel_rfl,by kernel_rfl⟩
theorem Z54:(Tryd.prog.info? 108).map (·.size)=some Zdm.sz:=by kernel_rfl
theorem Z2v:Zl Tryd.prog 62:=by
 unfold Zl
 kernel_rfl
theorem Zuz:Fld Tryd.prog 108 1 Zdm (Kd.int .i64) (fun x:Zcn=>x.on):=Fld.of ⟨_,(Kd.int .i64),1,fun x:Zcn=>x.on⟩ (List.mem_of_getElem? (i:=1) rfl) 1 rfl (by kernel_rfl) (by decide)
theorem Z2f:Zl Tryd.prog 34:=by
 unfold Zl
 kernel_rfl
theorem Zdt:TE Tryd.prog 23 75 Zo 24:=TE.of Tryd.underlying23 (by kernel_rfl) (by decide) (by decide)
theorem Zt6:Zl Tryd.prog 64:=by
 unfold Zl
 kernel_rfl
theorem Zpt {c:Option Nat} {N j s:Nat} {o:Oper} {uses:Z4} {x z:Operand} {v:Za} {y0 y:List Zd} {v0:Za} {t:Nat} (hT:Ty Tryd.prog t Zo.sl) (hop:o.op=.store t x z) (hd:o.dst=none) (hs:Opd uses (.tmp s) (Zbl c Zc j v)) (hx:Opd uses x (Zep Zc j v0 7 Zo.sl y0)) (hz:Opd uses z (Zo.sl.pd y)):OB Tryd.prog N o uses [(s,Zbl c Zc j { v with List:=y })] [j + 1] :=
 Zf4 hT hop hd hs hx hz fun g cs ys hk hy=>by
  have hc:cs.length=8:=hk.1
  have hl:ys.length=1:=Zo.sl.len hy
  exact ⟨by omega,(Zc9 (by omega)).trans hc,(Qc.2 ⟨(by show (Kd.int .i64).K g v.Kind (seg (Zz cs 7 ys) 0 1);rw [Zy (by omega) (by omega)];exact hk.2 _ (List.mem_of_getElem? (i:=0) rfl)),(Qc.2 ⟨(by show (Kd.int .i64).K g v.Num (seg (Zz cs 7 ys) 1 1);rw [Zy (by omega) (by omega)];exact hk.2 _ (List.mem_of_getElem? (i:=1) rfl)),(Qc.2 ⟨(by show (Kd.int .i64).K g v.Low (seg (Zz cs 7 ys) 2 1);rw [Zy (by omega) (by omega)];exact hk.2 _ (List.mem_of_getElem? (i:=2) rfl)),(Qc.2 ⟨(by show (Kd.int .i64).K g v.High (seg (Zz cs 7 ys) 3 1);rw [Zy (by omega) (by omega)];exact hk.2 _ (List.mem_of_getElem? (i:=3) rfl)),(Qc.2 ⟨(by show Kd.flt.K g v.Real (seg (Zz cs 7 ys) 4 1);rw [Zy (by omega) (by omega)];exact hk.2 _ (List.mem_of_getElem? (i:=4) rfl)),(Qc.2 ⟨(by show (Kd.int .i64).K g v.Cap (seg (Zz cs 7 ys) 5 1);rw [Zy (by omega) (by omega)];exact hk.2 _ (List.mem_of_getElem? (i:=5) rfl)),(Qc.2 ⟨(by show Kd.str.K g v.Text (seg (Zz cs 7 ys) 6 1);rw [Zy (by omega) (by omega)];exact hk.2 _ (List.mem_of_getElem? (i:=6) rfl)),(Qc.2 ⟨(by show Zo.sl.K g y (seg (Zz cs 7 ys) 7 1);rw [Zde (by omega) hl];exact hy),(fun _ h=>by cases h)⟩)⟩)⟩)⟩)⟩)⟩)⟩)⟩)⟩
theorem Zvx:Fld Tryd.prog 108 2 Zdm Kd.str (fun x:Zcn=>x.has):=Fld.of ⟨_,Kd.str,2,fun x:Zcn=>x.has⟩ (List.mem_of_getElem? (i:=2) rfl) 2 rfl (by kernel_rfl) (by decide)
theorem Z5t:Zl Tryd.prog 111:=by
 unfold Zl
 kernel_rfl
theorem Z6g:Zl Tryd.prog 110:=by
 unfold Zl
 kernel_rfl
theorem Zru:Zl Tryd.prog 104:=by
 unfold Zl
 kernel_rfl
theorem Zdf:Fld Tryd.prog 37 2 Z1 (Kd.int .i64) (fun x:Zg=>x.N):=Fld.of ⟨_,(Kd.int .i64),2,fun x:Zg=>x.N⟩ (List.mem_of_getElem? (i:=2) rfl) 2 rfl (by kernel_rfl) (by decide)
theorem Zk0:Fld Tryd.prog 37 3 Z1 Kd.flt (fun x:Zg=>x.X):=Fld.of ⟨_,Kd.flt,3,fun x:Zg=>x.X⟩ (List.mem_of_getElem? (i:=3) rfl) 3 rfl (by kernel_rfl) (by decide)
theorem Zf7:Fld Tryd.prog 37 4 Z1 Kd.str (fun x:Zg=>x.S):=Fld.of ⟨_,Kd.str,4,fun x:Zg=>x.S⟩ (List.mem_of_getElem? (i:=4) rfl) 4 rfl (by kernel_rfl) (by decide)
theorem Zlr:Fld Tryd.prog 37 5 Z1 Zc (fun x:Zg=>x.Make):=Fld.of ⟨_,Zc,5,fun x:Zg=>x.Make⟩ (List.mem_of_getElem? (i:=5) rfl) 5 rfl (by kernel_rfl) (by decide)
theorem Z57:Zl Tryd.prog 105:=by
 unfold Zl
 kernel_rfl
theorem Zcp:Fld Tryd.prog 37 0 Z1 (Kd.int .i64) (fun x:Zg=>x.Kind):=Fld.of ⟨_,(Kd.int .i64),0,fun x:Zg=>x.Kind⟩ (List.mem_of_getElem? (i:=0) rfl) 0 rfl (by kernel_rfl) (by decide)
theorem Z0m:Fld Tryd.prog 108 0 Zdm Kd.str (fun x:Zcn=>x.word):=Fld.of ⟨_,Kd.str,0,fun x:Zcn=>x.word⟩ (List.mem_of_getElem? (i:=0) rfl) 0 rfl (by kernel_rfl) (by decide)
theorem Zm2:Fld Tryd.prog 37 1 Z1 Kd.str (fun x:Zg=>x.Key):=Fld.of ⟨_,Kd.str,1,fun x:Zg=>x.Key⟩ (List.mem_of_getElem? (i:=1) rfl) 1 rfl (by kernel_rfl) (by decide)
theorem Zg3:Ty Tryd.prog 37 Z1:=⟨by kernel_rfl,by kernel_rfl⟩
theorem Z7d:Zl Tryd.prog 78:=by
 unfold Zl
 kernel_rfl
theorem Z61:Zl Tryd.prog 79:=by
 unfold Zl
 kernel_rfl
theorem Zwz {c:Option Nat} {N j s:Nat} {o:Oper} {uses:Z4} {x z:Operand} {v:Za} {y0 y:ByteArray} {v0:Za} {t:Nat} (hT:Ty Tryd.prog t Kd.str) (hop:o.op=.store t x z) (hd:o.dst=none) (hs:Opd uses (.tmp s) (Zbl c Zc j v)) (hx:Opd uses x (Zep Zc j v0 6 Kd.str y0)) (hz:Opd uses z (Kd.str.pd y)):OB Tryd.prog N o uses [(s,Zbl c Zc j { v with Text:=y })] [j + 1] :=
 Zf4 hT hop hd hs hx hz fun g cs ys hk hy=>by
  have hc:cs.length=8:=hk.1
  have hl:ys.length=1:=Kd.str.len hy
  exact ⟨by omega,(Zc9 (by omega)).trans hc,(Qc.2 ⟨(by show (Kd.int .i64).K g v.Kind (seg (Zz cs 6 ys) 0 1);rw [Zy (by omega) (by omega)];exact hk.2 _ (List.mem_of_getElem? (i:=0) rfl)),(Qc.2 ⟨(by show (Kd.int .i64).K g v.Num (seg (Zz cs 6 ys) 1 1);rw [Zy (by omega) (by omega)];exact hk.2 _ (List.mem_of_getElem? (i:=1) rfl)),(Qc.2 ⟨(by show (Kd.int .i64).K g v.Low (seg (Zz cs 6 ys) 2 1);rw [Zy (by omega) (by omega)];exact hk.2 _ (List.mem_of_getElem? (i:=2) rfl)),(Qc.2 ⟨(by show (Kd.int .i64).K g v.High (seg (Zz cs 6 ys) 3 1);rw [Zy (by omega) (by omega)];exact hk.2 _ (List.mem_of_getElem? (i:=3) rfl)),(Qc.2 ⟨(by show Kd.flt.K g v.Real (seg (Zz cs 6 ys) 4 1);rw [Zy (by omega) (by omega)];exact hk.2 _ (List.mem_of_getElem? (i:=4) rfl)),(Qc.2 ⟨(by show (Kd.int .i64).K g v.Cap (seg (Zz cs 6 ys) 5 1);rw [Zy (by omega) (by omega)];exact hk.2 _ (List.mem_of_getElem? (i:=5) rfl)),(Qc.2 ⟨(by show Kd.str.K g y (seg (Zz cs 6 ys) 6 1);rw [Zde (by omega) hl];exact hy),(Qc.2 ⟨(by show Zo.sl.K g v.List (seg (Zz cs 6 ys) 7 1);rw [Zy (by omega) (by omega)];exact hk.2 _ (List.mem_of_getElem? (i:=7) rfl)),(fun _ h=>by cases h)⟩)⟩)⟩)⟩)⟩)⟩)⟩)⟩)⟩
theorem Znx:Zl Tryd.prog 37:=by
 unfold Zl
 kernel_rfl
theorem Z3d:Fld Tryd.prog 79 2 Z2 Zc (fun x:Zi=>x.Rec):=Fld.of ⟨_,Zc,2,fun x:Zi=>x.Rec⟩ (List.mem_of_getElem? (i:=2) rfl) 2 rfl (by kernel_rfl) (by decide)
theorem Z30 {c:Option Nat} {N j s:Nat} {o:Oper} {uses:Z4} {x z:Operand} {v:Zi} {y0 y:Za} {v0:Zi} {t:Nat} (hT:Ty Tryd.prog t Zc) (hop:o.op=.store t x z) (hd:o.dst=none) (hs:Opd uses (.tmp s) (Zbl c Z2 j v)) (hx:Opd uses x (Zep Z2 j v0 2 Zc y0)) (hz:Opd uses z (Zc.pd y)):OB Tryd.prog N o uses [(s,Zbl c Z2 j { v with Rec:=y })] [j + 1] :=
 Zf4 hT hop hd hs hx hz fun g cs ys hk hy=>by
  have hc:cs.length=10:=hk.1
  have hl:ys.length=8:=Zc.len hy
  exact ⟨by omega,(Zc9 (by omega)).trans hc,(Qc.2 ⟨(by show (Kd.int .i64).K g v.Code (seg (Zz cs 2 ys) 0 1);rw [Zy (by omega) (by omega)];exact hk.2 _ (List.mem_of_getElem? (i:=0) rfl)),(Qc.2 ⟨(by show (Kd.int .i64).K g v.Num (seg (Zz cs 2 ys) 1 1);rw [Zy (by omega) (by omega)];exact hk.2 _ (List.mem_of_getElem? (i:=1) rfl)),(Qc.2 ⟨(by show Zc.K g y (seg (Zz cs 2 ys) 2 8);rw [Zde (by omega) hl];exact hy),(fun _ h=>by cases h)⟩)⟩)⟩)⟩
theorem Zni {c:Option Nat} {N j s:Nat} {o:Oper} {uses:Z4} {x z:Operand} {v:Za} {y0 y:Int} {v0:Za} {t:Nat} (hT:Ty Tryd.prog t (Kd.int .i64)) (hop:o.op=.store t x z) (hd:o.dst=none) (hs:Opd uses (.tmp s) (Zbl c Zc j v)) (hx:Opd uses x (Zep Zc j v0 1 (Kd.int .i64) y0)) (hz:Opd uses z ((Kd.int .i64).pd y)):OB Tryd.prog N o uses [(s,Zbl c Zc j { v with Num:=y })] [j + 1] :=
 Zf4 hT hop hd hs hx hz fun g cs ys hk hy=>by
  have hc:cs.length=8:=hk.1
  have hl:ys.length=1:=(Kd.int .i64).len hy
  exact ⟨by omega,(Zc9 (by omega)).trans hc,(Qc.2 ⟨(by show (Kd.int .i64).K g v.Kind (seg (Zz cs 1 ys) 0 1);rw [Zy (by omega) (by omega)];exact hk.2 _ (List.mem_of_getElem? (i:=0) rfl)),(Qc.2 ⟨(by show (Kd.int .i64).K g y (seg (Zz cs 1 ys) 1 1);rw [Zde (by omega) hl];exact hy),(Qc.2 ⟨(by show (Kd.int .i64).K g v.Low (seg (Zz cs 1 ys) 2 1);rw [Zy (by omega) (by omega)];exact hk.2 _ (List.mem_of_getElem? (i:=2) rfl)),(Qc.2 ⟨(by show (Kd.int .i64).K g v.High (seg (Zz cs 1 ys) 3 1);rw [Zy (by omega) (by omega)];exact hk.2 _ (List.mem_of_getElem? (i:=3) rfl)),(Qc.2 ⟨(by show Kd.flt.K g v.Real (seg (Zz cs 1 ys) 4 1);rw [Zy (by omega) (by omega)];exact hk.2 _ (List.mem_of_getElem? (i:=4) rfl)),(Qc.2 ⟨(by show (Kd.int .i64).K g v.Cap (seg (Zz cs 1 ys) 5 1);rw [Zy (by omega) (by omega)];exact hk.2 _ (List.mem_of_getElem? (i:=5) rfl)),(Qc.2 ⟨(by show Kd.str.K g v.Text (seg (Zz cs 1 ys) 6 1);rw [Zy (by omega) (by omega)];exact hk.2 _ (List.mem_of_getElem? (i:=6) rfl)),(Qc.2 ⟨(by show Zo.sl.K g v.List (seg (Zz cs 1 ys) 7 1);rw [Zy (by omega) (by omega)];exact hk.2 _ (List.mem_of_getElem? (i:=7) rfl)),(fun _ h=>by cases h)⟩)⟩)⟩)⟩)⟩)⟩)⟩)⟩)⟩
theorem Zr4 {c:Option Nat} {N j s:Nat} {o:Oper} {uses:Z4} {x z:Operand} {v:Za} {y0 y:Nat} {v0:Za} {t:Nat} (hT:Ty Tryd.prog t Kd.flt) (hop:o.op=.store t x z) (hd:o.dst=none) (hs:Opd uses (.tmp s) (Zbl c Zc j v)) (hx:Opd uses x (Zep Zc j v0 4 Kd.flt y0)) (hz:Opd uses z (Kd.flt.pd y)):OB Tryd.prog N o uses [(s,Zbl c Zc j { v with Real:=y })] [j + 1] :=
 Zf4 hT hop hd hs hx hz fun g cs ys hk hy=>by
  have hc:cs.length=8:=hk.1
  have hl:ys.length=1:=Kd.flt.len hy
  exact ⟨by omega,(Zc9 (by omega)).trans hc,(Qc.2 ⟨(by show (Kd.int .i64).K g v.Kind (seg (Zz cs 4 ys) 0 1);rw [Zy (by omega) (by omega)];exact hk.2 _ (List.mem_of_getElem? (i:=0) rfl)),(Qc.2 ⟨(by show (Kd.int .i64).K g v.Num (seg (Zz cs 4 ys) 1 1);rw [Zy (by omega) (by omega)];exact hk.2 _ (List.mem_of_getElem? (i:=1) rfl)),(Qc.2 ⟨(by show (Kd.int .i64).K g v.Low (seg (Zz cs 4 ys) 2 1);rw [Zy (by omega) (by omega)];exact hk.2 _ (List.mem_of_getElem? (i:=2) rfl)),(Qc.2 ⟨(by show (Kd.int .i64).K g v.High (seg (Zz cs 4 ys) 3 1);rw [Zy (by omega) (by omega)];exact hk.2 _ (List.mem_of_getElem? (i:=3) rfl)),(Qc.2 ⟨(by show Kd.flt.K g y (seg (Zz cs 4 ys) 4 1);rw [Zde (by omega) hl];exact hy),(Qc.2 ⟨(by show (Kd.int .i64).K g v.Cap (seg (Zz cs 4 ys) 5 1);rw [Zy (by omega) (by omega)];exact hk.2 _ (List.mem_of_getElem? (i:=5) rfl)),(Qc.2 ⟨(by show Kd.str.K g v.Text (seg (Zz cs 4 ys) 6 1);rw [Zy (by omega) (by omega)];exact hk.2 _ (List.mem_of_getElem? (i:=6) rfl)),(Qc.2 ⟨(by show Zo.sl.K g v.List (seg (Zz cs 4 ys) 7 1);rw [Zy (by omega) (by omega)];exact hk.2 _ (List.mem_of_getElem? (i:=7) rfl)),(fun _ h=>by cases h)⟩)⟩)⟩)⟩)⟩)⟩)⟩)⟩)⟩
theorem Zop:Zl Tryd.prog 106:=by
 unfold Zl
 kernel_rfl
theorem Z5z:Ty Tryd.prog 77 Kd.fnc:=⟨by kernel_rfl,by kernel_rfl⟩
theorem Z5o:Zl Tryd.prog 109:=by
 unfold Zl
 kernel_rfl
theorem Z6d:Zl Tryd.prog 108:=by
 unfold Zl
 kernel_rfl
theorem Z6n:Ext Tryd.prog 112 (Extern.SlicesOverlaps.overlaps #[23,23] #[4]):=⟨_,Tryd.func112,rfl,rfl,by kernel_rfl,by kernel_rfl⟩
theorem Zxt:Zl Tryd.prog 95:=by
 unfold Zl
 kernel_rfl
theorem Z3t {N d:Nat} {o:Oper} {uses:Z4} {x1:Operand} {v1:ByteArray} (hop:o.op=.build 75 #[(1,x1)]) (hd:o.dst=some d) (h1:Opd uses x1 (Kd.str.pd v1)):OB Tryd.prog N o uses [(d,Zo.pd { Score:=(0:Nat),Name:=v1 })] []:=by
 refine Zct hop hd fun a g hh=>?_
 obtain ⟨c1,k1,e1⟩:=h1 a g hh
 obtain rfl:=k1
 refine ⟨.agg #[.float .f64 0,.string v1],?_,[.float .f64 0,.string v1],⟨rfl,(Qc.2 ⟨(rfl),(Qc.2 ⟨rfl,(fun _ h=>by cases h)⟩)⟩)⟩,rfl⟩
 simp only [List.map_toArray,List.map_cons,List.map_nil,e1]
 exact Zch Tryd.underlying75 (zero:=.agg #[.float .f64 0,.string ByteArray.empty]) (by kernel_rfl) (places:=[(0,1),(1,1)]) (by kernel_rfl) (by kernel_rfl) g.w
theorem Zzl:Zl Tryd.prog 107:=by
 unfold Zl
 kernel_rfl
theorem Z7f:Zl Tryd.prog 96:=by
 unfold Zl
 kernel_rfl
theorem Zy2 {N d:Nat} {o:Oper} {uses:Z4} {x0:Operand} {x1:Operand} {v0:Nat} {v1:ByteArray} (hop:o.op=.build 75 #[(0,x0),(1,x1)]) (hd:o.dst=some d) (h0:Opd uses x0 (Kd.flt.pd v0)) (h1:Opd uses x1 (Kd.str.pd v1)):OB Tryd.prog N o uses [(d,Zo.pd { Score:=v0,Name:=v1 })] []:=by
 refine Zct hop hd fun a g hh=>?_
 obtain ⟨c0,k0,e0⟩:=h0 a g hh
 obtain rfl:=k0
 obtain ⟨c1,k1,e1⟩:=h1 a g hh
 obtain rfl:=k1
 refine ⟨.agg #[.float .f64 v0,.string v1],?_,[.float .f64 v0,.string v1],⟨rfl,(Qc.2 ⟨rfl,(Qc.2 ⟨rfl,(fun _ h=>by cases h)⟩)⟩)⟩,rfl⟩
 simp only [List.map_toArray,List.map_cons,List.map_nil,e0,e1]
 exact Zch Tryd.underlying75 (zero:=.agg #[.float .f64 0,.string ByteArray.empty]) (by kernel_rfl) (places:=[(0,1),(1,1)]) (by kernel_rfl) (by kernel_rfl) g.w
theorem Z68:Zl Tryd.prog 82:=by
 unfold Zl
 kernel_rfl
theorem Z74:Zl Tryd.prog 83:=by
 unfold Zl
 kernel_rfl
theorem Z67:Zl Tryd.prog 84:=by
 unfold Zl
 kernel_rfl
theorem Z7h:Zl Tryd.prog 85:=by
 unfold Zl
 kernel_rfl
theorem Z2g:Zl Tryd.prog 86:=by
 unfold Zl
 kernel_rfl
theorem Z7l:Zl Tryd.prog 87:=by
 unfold Zl
 kernel_rfl
theorem Z60:Zl Tryd.prog 88:=by
 unfold Zl
 kernel_rfl
theorem Z10:Zl Tryd.prog 38:=by
 unfold Zl
 kernel_rfl
theorem Z2k:Zl Tryd.prog 39:=by
 unfold Zl
 kernel_rfl
theorem Z63:Zl Tryd.prog 90:=by
 unfold Zl
 kernel_rfl
theorem Z7r:Zl Tryd.prog 91:=by
 unfold Zl
 kernel_rfl
theorem Z7w:Zl Tryd.prog 92:=by
 unfold Zl
 kernel_rfl
theorem Z71:Zl Tryd.prog 93:=by
 unfold Zl
 kernel_rfl
theorem Z6z:Zl Tryd.prog 94:=by
 unfold Zl
 kernel_rfl
theorem Z7z:Zl Tryd.prog 97:=by
 unfold Zl
 kernel_rfl
theorem Z7t:Zl Tryd.prog 98:=by
 unfold Zl
 kernel_rfl
theorem Zrd:Zl Tryd.prog 89:=by
 unfold Zl
 kernel_rfl
theorem Zxa {N d:Nat} {o:Oper} {uses:Z4} {x0:Operand} {v0:Int} (hop:o.op=.build 79 #[(0,x0)]) (hd:o.dst=some d) (h0:Opd uses x0 ((Kd.int .i64).pd v0)):OB Tryd.prog N o uses [(d,Z2.pd { Code:=v0,Num:=(0:Int),Rec:=(default:Za) })] []:=by
 refine Zct hop hd fun a g hh=>?_
 obtain ⟨c0,k0,e0⟩:=h0 a g hh
 obtain rfl:=k0
 refine ⟨.agg #[.int .i64 v0,.int .i64 0,.int .i64 0,.int .i64 0,.int .i64 0,.int .i64 0,.float .f64 0,.int .i64 0,.string ByteArray.empty,.slice none 0 0],?_,[.int .i64 v0,.int .i64 0,.int .i64 0,.int .i64 0,.int .i64 0,.int .i64 0,.float .f64 0,.int .i64 0,.string ByteArray.empty,.slice none 0 0],⟨rfl,(Qc.2 ⟨rfl,(Qc.2 ⟨(rfl),(Qc.2 ⟨(Zb2 _),(fun _ h=>by cases h)⟩)⟩)⟩)⟩,rfl⟩
 simp only [List.map_toArray,List.map_cons,List.map_nil,e0]
 exact Zch Tryd.underlying79 (zero:=.agg #[.int .i64 0,.int .i64 0,.int .i64 0,.int .i64 0,.int .i64 0,.int .i64 0,.float .f64 0,.int .i64 0,.string ByteArray.empty,.slice none 0 0]) (by kernel_rfl) (places:=[(0,1),(1,1),(2,8)]) (by kernel_rfl) (by kernel_rfl) g.w
theorem Zeh:Ty Tryd.prog 79 Z2:=⟨by kernel_rfl,by kernel_rfl⟩
theorem Z1y:Zl Tryd.prog 58:=by
 unfold Zl
 kernel_rfl
theorem Zq2:Zl Tryd.prog 67:=by
 unfold Zl
 kernel_rfl
theorem Zz5 {N d:Nat} {o:Oper} {uses:Z4}   (hop:o.op=.build 79 #[]) (hd:o.dst=some d) :OB Tryd.prog N o uses [(d,Z2.pd { Code:=(0:Int),Num:=(0:Int),Rec:=(default:Za) })] []:=by
 refine Zct hop hd fun a g hh=>?_
 refine ⟨.agg #[.int .i64 0,.int .i64 0,.int .i64 0,.int .i64 0,.int .i64 0,.int .i64 0,.float .f64 0,.int .i64 0,.string ByteArray.empty,.slice none 0 0],?_,[.int .i64 0,.int .i64 0,.int .i64 0,.int .i64 0,.int .i64 0,.int .i64 0,.float .f64 0,.int .i64 0,.string ByteArray.empty,.slice none 0 0],⟨rfl,(Qc.2 ⟨(rfl),(Qc.2 ⟨(rfl),(Qc.2 ⟨(Zb2 _),(fun _ h=>by cases h)⟩)⟩)⟩)⟩,rfl⟩
 simp only [List.map_toArray,List.map_cons,List.map_nil,List.map_nil]
 exact Zch Tryd.underlying79 (zero:=.agg #[.int .i64 0,.int .i64 0,.int .i64 0,.int .i64 0,.int .i64 0,.int .i64 0,.float .f64 0,.int .i64 0,.string ByteArray.empty,.slice none 0 0]) (by kernel_rfl) (places:=[(0,1),(1,1),(2,8)]) (by kernel_rfl) (by kernel_rfl) g.w
theorem Z3z {N d:Nat} {o:Oper} {uses:Z4} {x1:Operand} {v1:Int} (hop:o.op=.build 79 #[(1,x1)]) (hd:o.dst=some d) (h1:Opd uses x1 ((Kd.int .i64).pd v1)):OB Tryd.prog N o uses [(d,Z2.pd { Code:=(0:Int),Num:=v1,Rec:=(default:Za) })] []:=by
 refine Zct hop hd fun a g hh=>?_
 obtain ⟨c1,k1,e1⟩:=h1 a g hh
 obtain rfl:=k1
 refine ⟨.agg #[.int .i64 0,.int .i64 v1,.int .i64 0,.int .i64 0,.int .i64 0,.int .i64 0,.float .f64 0,.int .i64 0,.string ByteArray.empty,.slice none 0 0],?_,[.int .i64 0,.int .i64 v1,.int .i64 0,.int .i64 0,.int .i64 0,.int .i64 0,.float .f64 0,.int .i64 0,.string ByteArray.empty,.slice none 0 0],⟨rfl,(Qc.2 ⟨(rfl),(Qc.2 ⟨rfl,(Qc.2 ⟨(Zb2 _),(fun _ h=>by cases h)⟩)⟩)⟩)⟩,rfl⟩
 simp only [List.map_toArray,List.map_cons,List.map_nil,e1]
 exact Zch Tryd.underlying79 (zero:=.agg #[.int .i64 0,.int .i64 0,.int .i64 0,.int .i64 0,.int .i64 0,.int .i64 0,.float .f64 0,.int .i64 0,.string ByteArray.empty,.slice none 0 0]) (by kernel_rfl) (places:=[(0,1),(1,1),(2,8)]) (by kernel_rfl) (by kernel_rfl) g.w
theorem Z4x {N d:Nat} {o:Oper} {uses:Z4} {x2:Operand} {v2:Za} (hop:o.op=.build 79 #[(2,x2)]) (hd:o.dst=some d) (h2:Opd uses x2 (Zc.pd v2)):OB Tryd.prog N o uses [(d,Z2.pd { Code:=(0:Int),Num:=(0:Int),Rec:=v2 })] []:=by
 refine Zct hop hd fun a g hh=>?_
 obtain ⟨c2,k2,e2⟩:=h2 a g hh
 obtain ⟨u2_0,u2_1,u2_2,u2_3,u2_4,u2_5,u2_6,u2_7,rfl⟩:=Z2m (Zc.len k2)
 refine ⟨.agg #[.int .i64 0,.int .i64 0,u2_0,u2_1,u2_2,u2_3,u2_4,u2_5,u2_6,u2_7],?_,[.int .i64 0,.int .i64 0,u2_0,u2_1,u2_2,u2_3,u2_4,u2_5,u2_6,u2_7],⟨rfl,(Qc.2 ⟨(rfl),(Qc.2 ⟨(rfl),(Qc.2 ⟨k2,(fun _ h=>by cases h)⟩)⟩)⟩)⟩,rfl⟩
 simp only [List.map_toArray,List.map_cons,List.map_nil,e2]
 exact Zch Tryd.underlying79 (zero:=.agg #[.int .i64 0,.int .i64 0,.int .i64 0,.int .i64 0,.int .i64 0,.int .i64 0,.float .f64 0,.int .i64 0,.string ByteArray.empty,.slice none 0 0]) (by kernel_rfl) (places:=[(0,1),(1,1),(2,8)]) (by kernel_rfl) (by kernel_rfl) g.w
theorem Z6u:Zl Tryd.prog 68:=by
 unfold Zl
 kernel_rfl
theorem Zps:(Tryd.prog.info? 25).map (·.size)=some Zc.sz:=by kernel_rfl
theorem Zwc {N d:Nat} {o:Oper} {uses:Z4} {x0:Operand} {x1:Operand} {x4:Operand} {v0:Int} {v1:ByteArray} {v4:ByteArray} (hop:o.op=.build 37 #[(0,x0),(1,x1),(4,x4)]) (hd:o.dst=some d) (h0:Opd uses x0 ((Kd.int .i64).pd v0)) (h1:Opd uses x1 (Kd.str.pd v1)) (h4:Opd uses x4 (Kd.str.pd v4)):OB Tryd.prog N o uses [(d,Z1.pd { Kind:=v0,Key:=v1,N:=(0:Int),X:=(0:Nat),S:=v4,Make:=(default:Za),Must:=false })] []:=by
 refine Zct hop hd fun a g hh=>?_
 obtain ⟨c0,k0,e0⟩:=h0 a g hh
 obtain rfl:=k0
 obtain ⟨c1,k1,e1⟩:=h1 a g hh
 obtain rfl:=k1
 obtain ⟨c4,k4,e4⟩:=h4 a g hh
 obtain rfl:=k4
 refine ⟨.agg #[.int .i64 v0,.string v1,.int .i64 0,.float .f64 0,.string v4,.int .i64 0,.int .i64 0,.int .i64 0,.int .i64 0,.float .f64 0,.int .i64 0,.string ByteArray.empty,.slice none 0 0,.bool false],?_,[.int .i64 v0,.string v1,.int .i64 0,.float .f64 0,.string v4,.int .i64 0,.int .i64 0,.int .i64 0,.int .i64 0,.float .f64 0,.int .i64 0,.string ByteArray.empty,.slice none 0 0,.bool false],⟨rfl,(Qc.2 ⟨rfl,(Qc.2 ⟨rfl,(Qc.2 ⟨(rfl),(Qc.2 ⟨(rfl),(Qc.2 ⟨rfl,(Qc.2 ⟨(Zb2 _),(Qc.2 ⟨(rfl),(fun _ h=>by cases h)⟩)⟩)⟩)⟩)⟩)⟩)⟩)⟩,rfl⟩
 simp only [List.map_toArray,List.map_cons,List.map_nil,e0,e1,e4]
 exact Zch Tryd.underlying37 (zero:=.agg #[.int .i64 0,.string ByteArray.empty,.int .i64 0,.float .f64 0,.string ByteArray.empty,.int .i64 0,.int .i64 0,.int .i64 0,.int .i64 0,.float .f64 0,.int .i64 0,.string ByteArray.empty,.slice none 0 0,.bool false]) (by kernel_rfl) (places:=[(0,1),(1,1),(2,1),(3,1),(4,1),(5,8),(13,1)]) (by kernel_rfl) (by kernel_rfl) g.w
theorem Zsi {c:Option Nat} {N j s:Nat} {o:Oper} {uses:Z4} {x z:Operand} {v:Zg} {y0 y:Int} {v0:Zg} {t:Nat} (hT:Ty Tryd.prog t (Kd.int .i64)) (hop:o.op=.store t x z) (hd:o.dst=none) (hs:Opd uses (.tmp s) (Zbl c Z1 j v)) (hx:Opd uses x (Zep Z1 j v0 0 (Kd.int .i64) y0)) (hz:Opd uses z ((Kd.int .i64).pd y)):OB Tryd.prog N o uses [(s,Zbl c Z1 j { v with Kind:=y })] [j + 1] :=
 Zf4 hT hop hd hs hx hz fun g cs ys hk hy=>by
  have hc:cs.length=14:=hk.1
  have hl:ys.length=1:=(Kd.int .i64).len hy
  exact ⟨by omega,(Zc9 (by omega)).trans hc,(Qc.2 ⟨(by show (Kd.int .i64).K g y (seg (Zz cs 0 ys) 0 1);rw [Zde (by omega) hl];exact hy),(Qc.2 ⟨(by show Kd.str.K g v.Key (seg (Zz cs 0 ys) 1 1);rw [Zy (by omega) (by omega)];exact hk.2 _ (List.mem_of_getElem? (i:=1) rfl)),(Qc.2 ⟨(by show (Kd.int .i64).K g v.N (seg (Zz cs 0 ys) 2 1);rw [Zy (by omega) (by omega)];exact hk.2 _ (List.mem_of_getElem? (i:=2) rfl)),(Qc.2 ⟨(by show Kd.flt.K g v.X (seg (Zz cs 0 ys) 3 1);rw [Zy (by omega) (by omega)];exact hk.2 _ (List.mem_of_getElem? (i:=3) rfl)),(Qc.2 ⟨(by show Kd.str.K g v.S (seg (Zz cs 0 ys) 4 1);rw [Zy (by omega) (by omega)];exact hk.2 _ (List.mem_of_getElem? (i:=4) rfl)),(Qc.2 ⟨(by show Zc.K g v.Make (seg (Zz cs 0 ys) 5 8);rw [Zy (by omega) (by omega)];exact hk.2 _ (List.mem_of_getElem? (i:=5) rfl)),(Qc.2 ⟨(by show Kd.bool.K g v.Must (seg (Zz cs 0 ys) 13 1);rw [Zy (by omega) (by omega)];exact hk.2 _ (List.mem_of_getElem? (i:=6) rfl)),(fun _ h=>by cases h)⟩)⟩)⟩)⟩)⟩)⟩)⟩)⟩
theorem Z39 {c:Option Nat} {N j s:Nat} {o:Oper} {uses:Z4} {x z:Operand} {v:Zg} {y0 y:Nat} {v0:Zg} {t:Nat} (hT:Ty Tryd.prog t Kd.flt) (hop:o.op=.store t x z) (hd:o.dst=none) (hs:Opd uses (.tmp s) (Zbl c Z1 j v)) (hx:Opd uses x (Zep Z1 j v0 3 Kd.flt y0)) (hz:Opd uses z (Kd.flt.pd y)):OB Tryd.prog N o uses [(s,Zbl c Z1 j { v with X:=y })] [j + 1] :=
 Zf4 hT hop hd hs hx hz fun g cs ys hk hy=>by
  have hc:cs.length=14:=hk.1
  have hl:ys.length=1:=Kd.flt.len hy
  exact ⟨by omega,(Zc9 (by omega)).trans hc,(Qc.2 ⟨(by show (Kd.int .i64).K g v.Kind (seg (Zz cs 3 ys) 0 1);rw [Zy (by omega) (by omega)];exact hk.2 _ (List.mem_of_getElem? (i:=0) rfl)),(Qc.2 ⟨(by show Kd.str.K g v.Key (seg (Zz cs 3 ys) 1 1);rw [Zy (by omega) (by omega)];exact hk.2 _ (List.mem_of_getElem? (i:=1) rfl)),(Qc.2 ⟨(by show (Kd.int .i64).K g v.N (seg (Zz cs 3 ys) 2 1);rw [Zy (by omega) (by omega)];exact hk.2 _ (List.mem_of_getElem? (i:=2) rfl)),(Qc.2 ⟨(by show Kd.flt.K g y (seg (Zz cs 3 ys) 3 1);rw [Zde (by omega) hl];exact hy),(Qc.2 ⟨(by show Kd.str.K g v.S (seg (Zz cs 3 ys) 4 1);rw [Zy (by omega) (by omega)];exact hk.2 _ (List.mem_of_getElem? (i:=4) rfl)),(Qc.2 ⟨(by show Zc.K g v.Make (seg (Zz cs 3 ys) 5 8);rw [Zy (by omega) (by omega)];exact hk.2 _ (List.mem_of_getElem? (i:=5) rfl)),(Qc.2 ⟨(by show Kd.bool.K g v.Must (seg (Zz cs 3 ys) 13 1);rw [Zy (by omega) (by omega)];exact hk.2 _ (List.mem_of_getElem? (i:=6) rfl)),(fun _ h=>by cases h)⟩)⟩)⟩)⟩)⟩)⟩)⟩)⟩
theorem Z2e:Zl Tryd.prog 40:=by
 unfold Zl
 kernel_rfl
theorem Z4h {c:Option Nat} {N j s:Nat} {o:Oper} {uses:Z4} {x z:Operand} {v:Zg} {y0 y:Int} {v0:Zg} {t:Nat} (hT:Ty Tryd.prog t (Kd.int .i64)) (hop:o.op=.store t x z) (hd:o.dst=none) (hs:Opd uses (.tmp s) (Zbl c Z1 j v)) (hx:Opd uses x (Zep Z1 j v0 2 (Kd.int .i64) y0)) (hz:Opd uses z ((Kd.int .i64).pd y)):OB Tryd.prog N o uses [(s,Zbl c Z1 j { v with N:=y })] [j + 1] :=
 Zf4 hT hop hd hs hx hz fun g cs ys hk hy=>by
  have hc:cs.length=14:=hk.1
  have hl:ys.length=1:=(Kd.int .i64).len hy
  exact ⟨by omega,(Zc9 (by omega)).trans hc,(Qc.2 ⟨(by show (Kd.int .i64).K g v.Kind (seg (Zz cs 2 ys) 0 1);rw [Zy (by omega) (by omega)];exact hk.2 _ (List.mem_of_getElem? (i:=0) rfl)),(Qc.2 ⟨(by show Kd.str.K g v.Key (seg (Zz cs 2 ys) 1 1);rw [Zy (by omega) (by omega)];exact hk.2 _ (List.mem_of_getElem? (i:=1) rfl)),(Qc.2 ⟨(by show (Kd.int .i64).K g y (seg (Zz cs 2 ys) 2 1);rw [Zde (by omega) hl];exact hy),(Qc.2 ⟨(by show Kd.flt.K g v.X (seg (Zz cs 2 ys) 3 1);rw [Zy (by omega) (by omega)];exact hk.2 _ (List.mem_of_getElem? (i:=3) rfl)),(Qc.2 ⟨(by show Kd.str.K g v.S (seg (Zz cs 2 ys) 4 1);rw [Zy (by omega) (by omega)];exact hk.2 _ (List.mem_of_getElem? (i:=4) rfl)),(Qc.2 ⟨(by show Zc.K g v.Make (seg (Zz cs 2 ys) 5 8);rw [Zy (by omega) (by omega)];exact hk.2 _ (List.mem_of_getElem? (i:=5) rfl)),(Qc.2 ⟨(by show Kd.bool.K g v.Must (seg (Zz cs 2 ys) 13 1);rw [Zy (by omega) (by omega)];exact hk.2 _ (List.mem_of_getElem? (i:=6) rfl)),(fun _ h=>by cases h)⟩)⟩)⟩)⟩)⟩)⟩)⟩)⟩
theorem Zpf {N d:Nat} {o:Oper} {uses:Z4} {x0:Operand} {x1:Operand} {v0:Int} {v1:Int} (hop:o.op=.build 96 #[(0,x0),(1,x1)]) (hd:o.dst=some d) (h0:Opd uses x0 ((Kd.int .u64).pd v0)) (h1:Opd uses x1 ((Kd.int .u64).pd v1)):OB Tryd.prog N o uses [(d,Z5.pd { up:=v0,down:=v1 })] []:=by
 refine Zct hop hd fun a g hh=>?_
 obtain ⟨c0,k0,e0⟩:=h0 a g hh
 obtain rfl:=k0
 obtain ⟨c1,k1,e1⟩:=h1 a g hh
 obtain rfl:=k1
 refine ⟨.agg #[.int .u64 v0,.int .u64 v1],?_,[.int .u64 v0,.int .u64 v1],⟨rfl,(Qc.2 ⟨rfl,(Qc.2 ⟨rfl,(fun _ h=>by cases h)⟩)⟩)⟩,rfl⟩
 simp only [List.map_toArray,List.map_cons,List.map_nil,e0,e1]
 exact Zch Tryd.underlying96 (zero:=.agg #[.int .u64 0,.int .u64 0]) (by kernel_rfl) (places:=[(0,1),(1,1)]) (by kernel_rfl) (by kernel_rfl) g.w
theorem Zd3:Ty Tryd.prog 96 Z5:=⟨by kernel_rfl,by kernel_rfl⟩
theorem Zpp {N d:Nat} {o:Oper} {uses:Z4} {x0:Operand} {v0:Int} (hop:o.op=.build 96 #[(0,x0)]) (hd:o.dst=some d) (h0:Opd uses x0 ((Kd.int .u64).pd v0)):OB Tryd.prog N o uses [(d,Z5.pd { up:=v0,down:=(0:Int) })] []:=by
 refine Zct hop hd fun a g hh=>?_
 obtain ⟨c0,k0,e0⟩:=h0 a g hh
 obtain rfl:=k0
 refine ⟨.agg #[.int .u64 v0,.int .u64 0],?_,[.int .u64 v0,.int .u64 0],⟨rfl,(Qc.2 ⟨rfl,(Qc.2 ⟨(rfl),(fun _ h=>by cases h)⟩)⟩)⟩,rfl⟩
 simp only [List.map_toArray,List.map_cons,List.map_nil,e0]
 exact Zch Tryd.underlying96 (zero:=.agg #[.int .u64 0,.int .u64 0]) (by kernel_rfl) (places:=[(0,1),(1,1)]) (by kernel_rfl) (by kernel_rfl) g.w
theorem Zve {N d:Nat} {o:Oper} {uses:Z4}   (hop:o.op=.build 96 #[]) (hd:o.dst=some d) :OB Tryd.prog N o uses [(d,Z5.pd { up:=(0:Int),down:=(0:Int) })] []:=by
 refine Zct hop hd fun a g hh=>?_
 refine ⟨.agg #[.int .u64 0,.int .u64 0],?_,[.int .u64 0,.int .u64 0],⟨rfl,(Qc.2 ⟨(rfl),(Qc.2 ⟨(rfl),(fun _ h=>by cases h)⟩)⟩)⟩,rfl⟩
 simp only [List.map_toArray,List.map_cons,List.map_nil,List.map_nil]
 exact Zch Tryd.underlying96 (zero:=.agg #[.int .u64 0,.int .u64 0]) (by kernel_rfl) (places:=[(0,1),(1,1)]) (by kernel_rfl) (by kernel_rfl) g.w
structure Zeb where
 r:Za
 by_:SlV
def Zp6:List (Kd.FK Zeb):=[⟨_,Zc,0,fun x:Zeb=>x.r⟩,
 ⟨_,Kd.raw,8,fun x:Zeb=>x.by_⟩]
def Zbo:Kd Zeb:=Kd.struct 9 Zp6 (by rfl)
def Zbq (x:Zu) (s:SlV):Zeb:=⟨x.r,s⟩
theorem Zp2 {x:Zu} {g:G} {cs ys:List Value} {s0 s1:SlV} (hk:Zbo.K g (Zbq x s0) cs) (hy:Kd.raw.K g s1 ys):8 + ys.length ≤ cs.length ∧ Zbo.K g (Zbq x s1) (Zz cs 8 ys):=by
 have hc:cs.length=9:=hk.1
 have hl:ys.length=1:=Kd.raw.len hy
 exact ⟨by omega,(Zc9 (by omega)).trans hc,(Qc.2 ⟨(by show Zc.K g x.r (seg (Zz cs 8 ys) 0 8);rw [Zy (by omega) (by omega)];exact hk.2 _ (List.mem_of_getElem? (i:=0) rfl)),(Qc.2 ⟨(by show Kd.raw.K g s1 (seg (Zz cs 8 ys) 8 1);rw [Zde (by omega) hl];exact hy),(fun _ h=>by cases h)⟩)⟩)⟩
theorem Z0v:Fld Tryd.prog 94 0 Zbo Zc (fun x:Zeb=>x.r):=Fld.of ⟨_,Zc,0,fun x:Zeb=>x.r⟩ (List.mem_of_getElem? (i:=0) rfl) 0 rfl (by kernel_rfl) (by decide)
theorem Zl0:Fld Tryd.prog 94 1 Zbo Kd.raw (fun x:Zeb=>x.by_):=Fld.of ⟨_,Kd.raw,8,fun x:Zeb=>x.by_⟩ (List.mem_of_getElem? (i:=1) rfl) 8 rfl (by kernel_rfl) (by decide)
theorem Zpd:Ty Tryd.prog 92 Kd.raw:=⟨by kernel_rfl,by kernel_rfl⟩
theorem Zyf:Ty Tryd.prog 92 Z5.sl:=⟨by kernel_rfl,by kernel_rfl⟩
abbrev Zb4:Zu → List Zs:=fun x=>x.by_
theorem Zmi:Zud Zbo Zbq Zb4 Z5 Zfn:=fun g x s cs h hr=>⟨h.1,(Qc.2 ⟨(h.2 _ (List.mem_of_getElem? (i:=0) rfl)),(Qc.2 ⟨(Z5p (h.2 _ (List.mem_of_getElem? (i:=1) rfl)) hr),(fun _ h=>by cases h)⟩)⟩)⟩
abbrev Zcq:Ob Zu:=obS Zbo Zbq Zb4 Z5 96
theorem Zxs:Zl Tryd.prog 10:=by
 unfold Zl
 kernel_rfl
theorem Z31 {N d:Nat} {o:Oper} {uses:Z4} {x0:Operand} {v0:Za} (hop:o.op=.build 94 #[(0,x0)]) (hd:o.dst=some d) (h0:Opd uses x0 (Zc.pd v0)):OB Tryd.prog N o uses [(d,Zbo.pd { r:=v0,by_:=((none,0,0):SlV) })] []:=by
 refine Zct hop hd fun a g hh=>?_
 obtain ⟨c0,k0,e0⟩:=h0 a g hh
 obtain ⟨u0_0,u0_1,u0_2,u0_3,u0_4,u0_5,u0_6,u0_7,rfl⟩:=Z2m (Zc.len k0)
 refine ⟨.agg #[u0_0,u0_1,u0_2,u0_3,u0_4,u0_5,u0_6,u0_7,.slice none 0 0],?_,[u0_0,u0_1,u0_2,u0_3,u0_4,u0_5,u0_6,u0_7,.slice none 0 0],⟨rfl,(Qc.2 ⟨k0,(Qc.2 ⟨(rfl),(fun _ h=>by cases h)⟩)⟩)⟩,rfl⟩
 simp only [List.map_toArray,List.map_cons,List.map_nil,e0]
 exact Zch Tryd.underlying94 (zero:=.agg #[.int .i64 0,.int .i64 0,.int .i64 0,.int .i64 0,.float .f64 0,.int .i64 0,.string ByteArray.empty,.slice none 0 0,.slice none 0 0]) (by kernel_rfl) (places:=[(0,8),(8,1)]) (by kernel_rfl) (by kernel_rfl) g.w
theorem Z7x:Zl Tryd.prog 53:=by
 unfold Zl
 kernel_rfl
theorem Zjo:Fld Tryd.prog 96 0 Z5 (Kd.int .u64) (fun x:Zs=>x.up):=Fld.of ⟨_,(Kd.int .u64),0,fun x:Zs=>x.up⟩ (List.mem_of_getElem? (i:=0) rfl) 0 rfl (by kernel_rfl) (by decide)
theorem Zhy:Ty Tryd.prog 62 (Kd.int .u64):=⟨by kernel_rfl,by kernel_rfl⟩
theorem Z22:Zl Tryd.prog 54:=by
 unfold Zl
 kernel_rfl
theorem Zky:Fld Tryd.prog 96 1 Z5 (Kd.int .u64) (fun x:Zs=>x.down):=Fld.of ⟨_,(Kd.int .u64),1,fun x:Zs=>x.down⟩ (List.mem_of_getElem? (i:=1) rfl) 1 rfl (by kernel_rfl) (by decide)
theorem Z2y:TE Tryd.prog 92 96 Z5 16:=TE.of Tryd.underlying92 (by kernel_rfl) (by decide) (by decide)
theorem Zsj:Fld Tryd.prog 94 1 Zfn Z5.sl (fun x:Zu=>x.by_):=Fld.of ⟨_,Z5.sl,8,fun x:Zu=>x.by_⟩ (List.mem_of_getElem? (i:=1) rfl) 8 rfl (by kernel_rfl) (by decide)
theorem Zt4:(Tryd.prog.info? 96).map (·.size)=some Z5.sz:=by kernel_rfl
theorem Zxg {N d:Nat} {o:Oper} {uses:Z4} {x1:Operand} {v1:Int} (hop:o.op=.build 96 #[(1,x1)]) (hd:o.dst=some d) (h1:Opd uses x1 ((Kd.int .u64).pd v1)):OB Tryd.prog N o uses [(d,Z5.pd { up:=(0:Int),down:=v1 })] []:=by
 refine Zct hop hd fun a g hh=>?_
 obtain ⟨c1,k1,e1⟩:=h1 a g hh
 obtain rfl:=k1
 refine ⟨.agg #[.int .u64 0,.int .u64 v1],?_,[.int .u64 0,.int .u64 v1],⟨rfl,(Qc.2 ⟨(rfl),(Qc.2 ⟨rfl,(fun _ h=>by cases h)⟩)⟩)⟩,rfl⟩
 simp only [List.map_toArray,List.map_cons,List.map_nil,e1]
 exact Zch Tryd.underlying96 (zero:=.agg #[.int .u64 0,.int .u64 0]) (by kernel_rfl) (places:=[(0,1),(1,1)]) (by kernel_rfl) (by kernel_rfl) g.w
theorem Z4n:Fld Tryd.prog 94 0 Zfn Zc (fun x:Zu=>x.r):=Fld.of ⟨_,Zc,0,fun x:Zu=>x.r⟩ (List.mem_of_getElem? (i:=0) rfl) 0 rfl (by kernel_rfl) (by decide)
theorem Zr0:∀ (g g':G) (x:Zs) (cs:List Value),Z5.K g x cs → Z5.K g' x cs:=fun g g' x cs h=>⟨h.1,(Qc.2 ⟨(h.2 _ (List.mem_of_getElem? (i:=0) rfl)),(Qc.2 ⟨(h.2 _ (List.mem_of_getElem? (i:=1) rfl)),(fun _ h=>by cases h)⟩)⟩)⟩
theorem Z64:(Tryd.prog.info? 37).map (·.size)=some Z1.sz:=by kernel_rfl
theorem Z2a:Zl Tryd.prog 12:=by
 unfold Zl
 kernel_rfl
theorem Z6v:Zl Tryd.prog 59:=by
 unfold Zl
 kernel_rfl
theorem Z4b {c:Option Nat} {N j s:Nat} {o:Oper} {uses:Z4} {x z:Operand} {v:Zs} {y0 y:Int} {v0:Zs} {t:Nat} (hT:Ty Tryd.prog t (Kd.int .u64)) (hop:o.op=.store t x z) (hd:o.dst=none) (hs:Opd uses (.tmp s) (Zbl c Z5 j v)) (hx:Opd uses x (Zep Z5 j v0 0 (Kd.int .u64) y0)) (hz:Opd uses z ((Kd.int .u64).pd y)):OB Tryd.prog N o uses [(s,Zbl c Z5 j { v with up:=y })] [j + 1] :=
 Zf4 hT hop hd hs hx hz fun g cs ys hk hy=>by
  have hc:cs.length=2:=hk.1
  have hl:ys.length=1:=(Kd.int .u64).len hy
  exact ⟨by omega,(Zc9 (by omega)).trans hc,(Qc.2 ⟨(by show (Kd.int .u64).K g y (seg (Zz cs 0 ys) 0 1);rw [Zde (by omega) hl];exact hy),(Qc.2 ⟨(by show (Kd.int .u64).K g v.down (seg (Zz cs 0 ys) 1 1);rw [Zy (by omega) (by omega)];exact hk.2 _ (List.mem_of_getElem? (i:=1) rfl)),(fun _ h=>by cases h)⟩)⟩)⟩
theorem Z3k {c:Option Nat} {N j s:Nat} {o:Oper} {uses:Z4} {x z:Operand} {v:Zs} {y0 y:Int} {v0:Zs} {t:Nat} (hT:Ty Tryd.prog t (Kd.int .u64)) (hop:o.op=.store t x z) (hd:o.dst=none) (hs:Opd uses (.tmp s) (Zbl c Z5 j v)) (hx:Opd uses x (Zep Z5 j v0 1 (Kd.int .u64) y0)) (hz:Opd uses z ((Kd.int .u64).pd y)):OB Tryd.prog N o uses [(s,Zbl c Z5 j { v with down:=y })] [j + 1] :=
 Zf4 hT hop hd hs hx hz fun g cs ys hk hy=>by
  have hc:cs.length=2:=hk.1
  have hl:ys.length=1:=(Kd.int .u64).len hy
  exact ⟨by omega,(Zc9 (by omega)).trans hc,(Qc.2 ⟨(by show (Kd.int .u64).K g v.up (seg (Zz cs 1 ys) 0 1);rw [Zy (by omega) (by omega)];exact hk.2 _ (List.mem_of_getElem? (i:=0) rfl)),(Qc.2 ⟨(by show (Kd.int .u64).K g y (seg (Zz cs 1 ys) 1 1);rw [Zde (by omega) hl];exact hy),(fun _ h=>by cases h)⟩)⟩)⟩
theorem Zv4 {N d:Nat} {o:Oper} {uses:Z4} {x0:Operand} {x3:Operand} {x1:Operand} {v0:Int} {v3:Int} {v1:Int} (hop:o.op=.build 25 #[(0,x0),(3,x3),(1,x1)]) (hd:o.dst=some d) (h0:Opd uses x0 ((Kd.int .i64).pd v0)) (h3:Opd uses x3 ((Kd.int .i64).pd v3)) (h1:Opd uses x1 ((Kd.int .i64).pd v1)):OB Tryd.prog N o uses [(d,Zc.pd { Kind:=v0,Num:=v1,Low:=(0:Int),High:=v3,Real:=(0:Nat),Cap:=(0:Int),Text:=ByteArray.empty,List:=([]:List Zd) })] []:=by
 refine Zct hop hd fun a g hh=>?_
 obtain ⟨c0,k0,e0⟩:=h0 a g hh
 obtain rfl:=k0
 obtain ⟨c1,k1,e1⟩:=h1 a g hh
 obtain rfl:=k1
 obtain ⟨c3,k3,e3⟩:=h3 a g hh
 obtain rfl:=k3
 refine ⟨.agg #[.int .i64 v0,.int .i64 v1,.int .i64 0,.int .i64 v3,.float .f64 0,.int .i64 0,.string ByteArray.empty,.slice none 0 0],?_,[.int .i64 v0,.int .i64 v1,.int .i64 0,.int .i64 v3,.float .f64 0,.int .i64 0,.string ByteArray.empty,.slice none 0 0],⟨rfl,(Qc.2 ⟨rfl,(Qc.2 ⟨rfl,(Qc.2 ⟨(rfl),(Qc.2 ⟨rfl,(Qc.2 ⟨(rfl),(Qc.2 ⟨(rfl),(Qc.2 ⟨(rfl),(Qc.2 ⟨(⟨none,0,rfl,Nat.le_refl _,Nat.zero_le _,.inl rfl⟩),(fun _ h=>by cases h)⟩)⟩)⟩)⟩)⟩)⟩)⟩)⟩)⟩,rfl⟩
 simp only [List.map_toArray,List.map_cons,List.map_nil,e0,e3,e1]
 exact Zch Tryd.underlying25 (zero:=.agg #[.int .i64 0,.int .i64 0,.int .i64 0,.int .i64 0,.float .f64 0,.int .i64 0,.string ByteArray.empty,.slice none 0 0]) (by kernel_rfl) (places:=[(0,1),(1,1),(2,1),(3,1),(4,1),(5,1),(6,1),(7,1)]) (by kernel_rfl) (by kernel_rfl) g.w
theorem Z2t:Zl Tryd.prog 24:=by
 unfold Zl
 kernel_rfl
theorem Z2d:Zl Tryd.prog 27:=by
 unfold Zl
 kernel_rfl
theorem Zwa {N d:Nat} {o:Oper} {uses:Z4} {x0:Operand} {x1:Operand} {x2:Operand} {v0:Int} {v1:ByteArray} {v2:Int} (hop:o.op=.build 37 #[(0,x0),(1,x1),(2,x2)]) (hd:o.dst=some d) (h0:Opd uses x0 ((Kd.int .i64).pd v0)) (h1:Opd uses x1 (Kd.str.pd v1)) (h2:Opd uses x2 ((Kd.int .i64).pd v2)):OB Tryd.prog N o uses [(d,Z1.pd { Kind:=v0,Key:=v1,N:=v2,X:=(0:Nat),S:=ByteArray.empty,Make:=(default:Za),Must:=false })] []:=by
 refine Zct hop hd fun a g hh=>?_
 obtain ⟨c0,k0,e0⟩:=h0 a g hh
 obtain rfl:=k0
 obtain ⟨c1,k1,e1⟩:=h1 a g hh
 obtain rfl:=k1
 obtain ⟨c2,k2,e2⟩:=h2 a g hh
 obtain rfl:=k2
 refine ⟨.agg #[.int .i64 v0,.string v1,.int .i64 v2,.float .f64 0,.string ByteArray.empty,.int .i64 0,.int .i64 0,.int .i64 0,.int .i64 0,.float .f64 0,.int .i64 0,.string ByteArray.empty,.slice none 0 0,.bool false],?_,[.int .i64 v0,.string v1,.int .i64 v2,.float .f64 0,.string ByteArray.empty,.int .i64 0,.int .i64 0,.int .i64 0,.int .i64 0,.float .f64 0,.int .i64 0,.string ByteArray.empty,.slice none 0 0,.bool false],⟨rfl,(Qc.2 ⟨rfl,(Qc.2 ⟨rfl,(Qc.2 ⟨rfl,(Qc.2 ⟨(rfl),(Qc.2 ⟨(rfl),(Qc.2 ⟨(Zb2 _),(Qc.2 ⟨(rfl),(fun _ h=>by cases h)⟩)⟩)⟩)⟩)⟩)⟩)⟩)⟩,rfl⟩
 simp only [List.map_toArray,List.map_cons,List.map_nil,e0,e1,e2]
 exact Zch Tryd.underlying37 (zero:=.agg #[.int .i64 0,.string ByteArray.empty,.int .i64 0,.float .f64 0,.string ByteArray.empty,.int .i64 0,.int .i64 0,.int .i64 0,.int .i64 0,.float .f64 0,.int .i64 0,.string ByteArray.empty,.slice none 0 0,.bool false]) (by kernel_rfl) (places:=[(0,1),(1,1),(2,1),(3,1),(4,1),(5,8),(13,1)]) (by kernel_rfl) (by kernel_rfl) g.w
theorem Zyk:TE Tryd.prog 60 37 Z1 152:=TE.of Tryd.underlying60 (by kernel_rfl) (by decide) (by decide)
theorem Zxq:Zl Tryd.prog 28:=by
 unfold Zl
 kernel_rfl
theorem Z23:Zl Tryd.prog 16:=by
 unfold Zl
 kernel_rfl
theorem Zt3:TE Tryd.prog 33 25 Zc 88:=TE.of Tryd.underlying33 (by kernel_rfl) (by decide) (by decide)
theorem Zx9:Zl Tryd.prog 15:=by
 unfold Zl
 kernel_rfl
theorem Z2l:Zl Tryd.prog 30:=by
 unfold Zl
 kernel_rfl
theorem Zx7:(Tryd.prog.info? 39).map (·.size)=some Zba.sz:=by kernel_rfl
theorem Zny:Ty Tryd.prog 39 Zba:=⟨by kernel_rfl,by kernel_rfl⟩
theorem Zpi:Fld Tryd.prog 39 1 Zba Z1 (fun x:Zv=>x.Act):=Fld.of ⟨_,Z1,1,fun x:Zv=>x.Act⟩ (List.mem_of_getElem? (i:=1) rfl) 1 rfl (by kernel_rfl) (by decide)
theorem Z76:Zl Tryd.prog 31:=by
 unfold Zl
 kernel_rfl
theorem Zx6:Zl Tryd.prog 72:=by
 unfold Zl
 kernel_rfl
theorem Z2z:Zl Tryd.prog 80:=by
 unfold Zl
 kernel_rfl
theorem Zyg:Zl Tryd.prog 63:=by
 unfold Zl
 kernel_rfl
theorem Zq9:Zl Tryd.prog 36:=by
 unfold Zl
 kernel_rfl
theorem Z2o:Zl Tryd.prog 71:=by
 unfold Zl
 kernel_rfl
theorem Zzu:TE Tryd.prog 122 9 Kd.str 16:=TE.of Tryd.underlying122 (by kernel_rfl) (by decide) (by decide)
theorem sz_9:(Tryd.prog.info? 9).map (·.size)=some Kd.str.sz:=by kernel_rfl
theorem Zyn:Zl Tryd.prog 46:=by
 unfold Zl
 kernel_rfl
theorem Z70:Zl Tryd.prog 74:=by
 unfold Zl
 kernel_rfl
theorem Z6y:Zl Tryd.prog 45:=by
 unfold Zl
 kernel_rfl
theorem Z75:Zl Tryd.prog 44:=by
 unfold Zl
 kernel_rfl
theorem Z7k:Zl Tryd.prog 47:=by
 unfold Zl
 kernel_rfl
theorem Z1z:Zl Tryd.prog 19:=by
 unfold Zl
 kernel_rfl
theorem Z53:TE Tryd.prog 110 3 (Kd.int .i64) 8:=TE.of Tryd.underlying110 (by kernel_rfl) (by decide) (by decide)
theorem sz_3:(Tryd.prog.info? 3).map (·.size)=some (Kd.int .i64).sz:=by kernel_rfl
theorem Z21:Zl Tryd.prog 35:=by
 unfold Zl
 kernel_rfl
theorem en_8:Zl Tryd.prog 8:=by
 unfold Zl
 kernel_rfl
theorem en_9:Zl Tryd.prog 9:=by
 unfold Zl
 kernel_rfl
theorem Z2b:Zl Tryd.prog 14:=by
 unfold Zl
 kernel_rfl
theorem Z7s:Zl Tryd.prog 75:=by
 unfold Zl
 kernel_rfl
theorem Zx0:Zl Tryd.prog 48:=by
 unfold Zl
 kernel_rfl
theorem Z66:Zl Tryd.prog 22:=by
 unfold Zl
 kernel_rfl
theorem Z25:TE Tryd.prog 40 39 Zba 160:=TE.of Tryd.underlying40 (by kernel_rfl) (by decide) (by decide)
theorem Zmz:Fld Tryd.prog 39 0 Zba (Kd.int .i64) (fun x:Zv=>x.Worker):=Fld.of ⟨_,(Kd.int .i64),0,fun x:Zv=>x.Worker⟩ (List.mem_of_getElem? (i:=0) rfl) 0 rfl (by kernel_rfl) (by decide)
theorem Z7c:Zl Tryd.prog 20:=by
 unfold Zl
 kernel_rfl
theorem sz_4:(Tryd.prog.info? 4).map (·.size)=some Kd.bool.sz:=by kernel_rfl
theorem Zts (a0:Int) {r:Zbu} (h:Zdl a0=some r):FnOk Tryd.prog 49 [(pInt .i64 a0)] (Zci.pd r):=by
 have H0:=h
 unfold Zdl at H0
 clear h
 refine Zbw (N:=24) Tryd.func49 rfl rfl (Qe rfl) rfl rfl (fun a g0 hst hb=>?_)
 refine r_s (T:=[⟨[],[(2,(pBox Zci 2 (default:Zbu)))],[3],[],[2]⟩]) (F:=[.o 0,.p 0 0]) hst hb Zb
  (o_p rfl (Zbt (zs:=[.bool false,.bool false,.bool false,.bool false,.bool false]) (by kernel_rfl) (fun g=>Zo5 g) rfl rfl)<|o_n) (fun a g hst hb=>?_)
 refine wp_seq ?_
 refine r_s (T:=[⟨[.o 0],_,[],[],[3]⟩]) (F:=[.o 1,.p 0 0]) hst hb Zb
  (Qm rfl u_0<|o_n) (fun a g hst hb=>?_)
 refine wp_block ?_
 refine r_s (T:=[⟨[.o 1],_,[],[],[5]⟩,⟨[.p 0 0],_,[],[0],[4]⟩]) (F:=[.o 0,.o 1,.p 1 0]) hst hb Zb
  (o_p rfl (Zbc rfl rfl u_0 c_i)<|Qa rfl u_0<|o_n) (fun a g hst hb=>?_)
 refine wp_cond_split (hst.bool 2 rfl) (fun hc1=>?_) (fun hc1=>?_)
 ·replace H0:=Zp hc1 H0
  refine r_s (L:=[(2,_)]) (T:=[⟨[],_,[],[],[6]⟩,⟨[.p 0 0,.o 0],_,[3],[0],[2]⟩]) (F:=[.p 1 0]) (hst.pick [0] rfl) hb Zb
   (o_p rfl (Z4t rfl rfl c_b)<|o_p rfl (Zbe Ziw rfl rfl u_1 u_0)<|o_n) (fun a g hst hb=>?_)
  refine wp_ret ?_
  refine Zw ?_
  refine Zj ?_
  obtain rfl:=Option.some.inj H0
  obtain ⟨u0,hu0,hq0⟩:=Zbn (P:=Tryd.prog) Ziw (hst.at 0 rfl)
  exact Zx rfl hst hb hu0 hq0
 ·replace H0:=Zq hc1 H0
  refine wp_seq ?_
  refine r_s (L:=[(2,_),(3,_)]) (T:=[⟨[.o 1],_,[],[],[8]⟩,⟨[.p 0 0],_,[],[0],[7]⟩]) (F:=[.o 0,.o 1,.p 1 0]) (hst.pick [0,1] rfl) hb Zb
   (o_p rfl (Zbc rfl rfl u_0 c_i)<|Qa rfl u_0<|o_n) (fun a g hst hb=>?_)
  refine Zce (fun a w=>∃ (j3:Bool) (g:G),w=g.w ∧ St 24 [(2,(pBox Zci 2 (default:Zbu))),(3,(pInt .i64 a0)),(7,(Z7 j3))] a g ∧ Base g0 g ∧ Zio a0 j3=some r) ?_ ?_
  ·rintro a w ⟨j3,g,rfl,hst,hb,H0⟩
   unfold Zio at H0
   refine Zm ?_
   refine wp_cond_split (hst.bool 2 rfl) (fun hc4=>?_) (fun hc4=>?_)
   ·replace H0:=Zp hc4 H0
    refine r_s (L:=[(2,_)]) (T:=[⟨[],_,[],[],[10]⟩,⟨[.p 0 0,.o 0],_,[3],[0],[2]⟩]) (F:=[.p 1 0]) (hst.pick [0] rfl) hb Zb
     (o_p rfl (Z36 rfl rfl c_b)<|o_p rfl (Zbe Ziw rfl rfl u_1 u_0)<|o_n) (fun a g hst hb=>?_)
    refine wp_ret ?_
    refine Zw ?_
    refine Zj ?_
    obtain rfl:=Option.some.inj H0
    obtain ⟨u0,hu0,hq0⟩:=Zbn (P:=Tryd.prog) Ziw (hst.at 0 rfl)
    exact Zx rfl hst hb hu0 hq0
   ·replace H0:=Zq hc4 H0
    refine r_s (L:=[(2,_),(3,_)]) (T:=[⟨[.o 1],_,[],[],[12]⟩,⟨[.p 0 0],_,[],[0],[11]⟩]) (F:=[.o 0,.o 1,.p 1 0]) (hst.pick [0,1] rfl) hb Zb
     (o_p rfl (Zbc rfl rfl u_0 c_i)<|Qa rfl u_0<|o_n) (fun a g hst hb=>?_)
    refine wp_cond_split (hst.bool 2 rfl) (fun hc5=>?_) (fun hc5=>?_)
    ·replace H0:=Zp hc5 H0
     refine r_s (L:=[(2,_)]) (T:=[⟨[],_,[],[],[13]⟩,⟨[.p 0 0,.o 0],_,[3],[0],[2]⟩]) (F:=[.p 1 0]) (hst.pick [0] rfl) hb Zb
      (o_p rfl (Zzv rfl rfl c_b c_b)<|o_p rfl (Zbe Ziw rfl rfl u_1 u_0)<|o_n) (fun a g hst hb=>?_)
     refine wp_ret ?_
     refine Zw ?_
     refine Zj ?_
     obtain rfl:=Option.some.inj H0
     obtain ⟨u0,hu0,hq0⟩:=Zbn (P:=Tryd.prog) Ziw (hst.at 0 rfl)
     exact Zx rfl hst hb hu0 hq0
    ·replace H0:=Zq hc5 H0
     refine wp_seq ?_
     refine r_s (L:=[(2,_),(3,_)]) (T:=[⟨[.o 1],_,[],[],[15]⟩,⟨[.p 0 0],_,[],[0],[14]⟩]) (F:=[.o 0,.o 1,.p 1 0]) (hst.pick [0,1] rfl) hb Zb
      (o_p rfl (Zbc rfl rfl u_0 c_i)<|Qa rfl u_0<|o_n) (fun a g hst hb=>?_)
     refine Zce (fun a w=>∃ (j8:Bool) (g:G),w=g.w ∧ St 24 [(2,(pBox Zci 2 (default:Zbu))),(3,(pInt .i64 a0)),(14,(Z7 j8))] a g ∧ Base g0 g ∧ Zg5 a0 j8=some r) ?_ ?_
     ·rintro a w ⟨j8,g,rfl,hst,hb,H0⟩
      unfold Zg5 at H0
      refine Zm ?_
      refine wp_cond_split (hst.bool 2 rfl) (fun hc9=>?_) (fun hc9=>?_)
      ·replace H0:=Zp hc9 H0
       refine r_s (L:=[(2,_)]) (T:=[⟨[],_,[],[],[18]⟩,⟨[.p 0 0,.o 0],_,[3],[0],[2]⟩]) (F:=[.p 1 0]) (hst.pick [0] rfl) hb Zb
        (o_p rfl (Z4p rfl rfl c_b)<|o_p rfl (Zbe Ziw rfl rfl u_1 u_0)<|o_n) (fun a g hst hb=>?_)
       refine wp_ret ?_
       refine Zw ?_
       refine Zj ?_
       obtain rfl:=Option.some.inj H0
       obtain ⟨u0,hu0,hq0⟩:=Zbn (P:=Tryd.prog) Ziw (hst.at 0 rfl)
       exact Zx rfl hst hb hu0 hq0
      ·replace H0:=Zq hc9 H0
       refine wp_seq ?_
       refine r_s (L:=[(2,_),(3,_)]) (T:=[⟨[.o 1],_,[],[],[20]⟩,⟨[.p 0 0],_,[],[0],[19]⟩]) (F:=[.o 0,.o 1,.p 1 0]) (hst.pick [0,1] rfl) hb Zb
        (o_p rfl (Zbc rfl rfl u_0 c_i)<|Qa rfl u_0<|o_n) (fun a g hst hb=>?_)
       refine Zce (fun a w=>∃ (j11:Bool) (g:G),w=g.w ∧ St 24 [(2,(pBox Zci 2 (default:Zbu))),(19,(Z7 j11))] a g ∧ Base g0 g ∧ Zik j11=some r) ?_ ?_
       ·rintro a w ⟨j11,g,rfl,hst,hb,H0⟩
        unfold Zik at H0
        refine Zm ?_
        refine wp_cond_split (hst.bool 1 rfl) (fun hc12=>?_) (fun hc12=>?_)
        ·replace H0:=Zp hc12 H0
         refine r_s (L:=[(2,_)]) (T:=[⟨[],_,[],[],[22]⟩,⟨[.p 0 0,.o 0],_,[3],[0],[2]⟩]) (F:=[.p 1 0]) (hst.pick [0] rfl) hb Zb
          (o_p rfl (Z43 rfl rfl c_b)<|o_p rfl (Zbe Ziw rfl rfl u_1 u_0)<|o_n) (fun a g hst hb=>?_)
         refine wp_ret ?_
         refine Zw ?_
         refine Zj ?_
         obtain rfl:=Option.some.inj H0
         obtain ⟨u0,hu0,hq0⟩:=Zbn (P:=Tryd.prog) Ziw (hst.at 0 rfl)
         exact Zx rfl hst hb hu0 hq0
        ·replace H0:=Zq hc12 H0
         refine wp_skip ?_
         refine Zbj ?_
         refine Zm ?_
         refine r_s (L:=[(2,_)]) (T:=[⟨[],_,[],[],[23]⟩,⟨[.p 0 0,.o 0],_,[3],[0],[2]⟩]) (F:=[.p 1 0]) (hst.pick [0] rfl) hb Zb
          (o_p rfl (Z5s rfl rfl )<|o_p rfl (Zbe Ziw rfl rfl u_1 u_0)<|o_n) (fun a g hst hb=>?_)
         refine wp_ret ?_
         obtain rfl:=Option.some.inj H0
         obtain ⟨u0,hu0,hq0⟩:=Zbn (P:=Tryd.prog) Ziw (hst.at 0 rfl)
         exact Zx rfl hst hb hu0 hq0
       ·refine wp_cond_split (hst.bool 2 rfl) (fun hc10=>?_) (fun hc10=>?_)
        ·replace H0:=Zp hc10 H0
         refine wp_skip ?_
         exact ⟨(a0 == (8:Int)),g,rfl,(hst.pick [0,2] rfl),hb,H0⟩
        ·replace H0:=Zq hc10 H0
         refine r_g (L:=[(2,_),(3,_)]) (T:=[⟨[.o 1],_,[],[],[21]⟩,⟨[.p 0 0],_,[],[0],[19]⟩]) (F:=[.o 0,.p 1 0]) (hst.pick [0,1] rfl) hb Zb
          (o_p rfl (Zbc rfl rfl u_0 c_i)<|Qa rfl u_0<|o_n) (fun a g hst hb=>?_)
         exact ⟨(a0 == (9:Int)),g,rfl,(hst.pick [0,1] rfl),hb,H0⟩
     ·refine wp_cond_split (hst.bool 2 rfl) (fun hc6=>?_) (fun hc6=>?_)
      ·replace H0:=Zp hc6 H0
       refine wp_skip ?_
       exact ⟨(a0 == (5:Int)),g,rfl,(hst.pick [0,1,2] rfl),hb,H0⟩
      ·replace H0:=Zq hc6 H0
       refine r_s (L:=[(2,_),(3,_)]) (T:=[⟨[.o 1],_,[],[],[16]⟩,⟨[.p 0 0],_,[],[0],[14]⟩]) (F:=[.o 0,.o 1,.p 1 0]) (hst.pick [0,1] rfl) hb Zb
        (o_p rfl (Zbc rfl rfl u_0 c_i)<|Qa rfl u_0<|o_n) (fun a g hst hb=>?_)
       refine wp_cond_split (hst.bool 2 rfl) (fun hc7=>?_) (fun hc7=>?_)
       ·replace H0:=Zp hc7 H0
        refine wp_skip ?_
        exact ⟨(a0 == (6:Int)),g,rfl,(hst.pick [0,1,2] rfl),hb,H0⟩
       ·replace H0:=Zq hc7 H0
        refine r_g (L:=[(2,_),(3,_)]) (T:=[⟨[.o 1],_,[],[],[17]⟩,⟨[.p 0 0],_,[],[0],[14]⟩]) (F:=[.o 0,.o 1,.p 1 0]) (hst.pick [0,1] rfl) hb Zb
         (o_p rfl (Zbc rfl rfl u_0 c_i)<|Qa rfl u_0<|o_n) (fun a g hst hb=>?_)
        exact ⟨(a0 == (7:Int)),g,rfl,(hst.pick [0,1,2] rfl),hb,H0⟩
  ·refine wp_cond_split (hst.bool 2 rfl) (fun hc2=>?_) (fun hc2=>?_)
   ·replace H0:=Zp hc2 H0
    refine wp_skip ?_
    exact ⟨(a0 == (2:Int)),g,rfl,(hst.pick [0,1,2] rfl),hb,H0⟩
   ·replace H0:=Zq hc2 H0
    refine r_g (L:=[(2,_),(3,_)]) (T:=[⟨[.o 1],_,[],[],[9]⟩,⟨[.p 0 0],_,[],[0],[7]⟩]) (F:=[.o 0,.o 1,.p 1 0]) (hst.pick [0,1] rfl) hb Zb
     (o_p rfl (Zbc rfl rfl u_0 c_i)<|Qa rfl u_0<|o_n) (fun a g hst hb=>?_)
    exact ⟨(a0 == (3:Int)),g,rfl,(hst.pick [0,1,2] rfl),hb,H0⟩
theorem Zql {r:Nat} (h:Zj2=some r):FnOk Tryd.prog 33 [] (pFlt r):=by
 have H0:=h
 unfold Zj2 at H0
 clear h
 refine Zbw (N:=2) Tryd.func33 rfl rfl (Qe rfl) rfl rfl (fun a g0 hst hb=>?_)
 refine r_s (T:=[⟨[],_,[],[],[0]⟩]) (F:=[]) hst hb Zb
  (Qa rfl c_f<|o_n) (fun a g hst hb=>?_)
 refine r_s (T:=[⟨[],_,[],[],[1]⟩,⟨[.p 0 0],_,[],[0],[0]⟩]) (F:=[.p 1 0]) hst hb Zb
  (o_p rfl (Zqj Z2n rfl rfl c_i)<|Qa rfl u_0<|o_n) (fun a g hst hb=>?_)
 refine wp_ret ?_
 obtain rfl:=Option.some.inj H0
 exact Zx rfl hst hb (Zf (s:=0)) (hst.at 0 rfl)
theorem Zfy (a0:Nat) {r:Nat} (h:Zej a0=some r):FnOk Tryd.prog 66 [(pFlt a0)] (pFlt r):=by
 have H0:=h
 unfold Zej at H0
 clear h
 refine Zbw (N:=8) Tryd.func66 rfl rfl (Qe rfl) rfl rfl (fun a g0 hst hb=>?_)
 refine r_s (T:=[⟨[],_,[],[],[2]⟩]) (F:=[.o 0]) hst hb Zb
  (Qa rfl c_f<|o_n) (fun a g hst hb=>?_)
 refine wp_seq ?_
 refine r_s (T:=[⟨[.o 0],_,[],[],[3]⟩,⟨[.o 0],_,[],[],[4]⟩,⟨[.p 0 0,.p 1 0],_,[],[0,1],[5]⟩]) (F:=[.o 0,.p 2 0]) hst hb Zb
  (Qm rfl u_0<|Qm rfl u_0<|o_p rfl (Zw3 rfl rfl u_0 u_1)<|o_n) (fun a g hst hb=>?_)
 refine wp_cond_split (hst.bool 1 rfl) (fun hc1=>?_) (fun hc1=>?_)
 ·replace H0:=Zp hc1 H0
  obtain ⟨r2,h3,H0⟩:=Ze H0
  refine r_s (L:=[]) (T:=[⟨[],_,[],[],[6]⟩,⟨[.p 0 0],_,[],[0],[2]⟩]) (F:=[.p 1 0]) (hst.pick [] rfl) hb Zb
   (o_p rfl (Zr Z2s (Zql h3) rfl rfl .nil)<|Qa rfl u_0<|o_n) (fun a g hst hb=>?_)
  refine wp_ret ?_
  refine Zj ?_
  obtain rfl:=Option.some.inj H0
  exact Zx rfl hst hb (Zf (s:=2)) (hst.at 0 rfl)
 ·replace H0:=Zq hc1 H0
  refine wp_skip ?_
  refine Zm ?_
  refine r_s (L:=[(0,_)]) (T:=[⟨[.o 0],_,[],[],[7]⟩,⟨[.p 0 0],_,[],[0],[2]⟩]) (F:=[.p 1 0]) (hst.pick [0] rfl) hb Zb
   (Qm rfl u_0<|Qa rfl u_0<|o_n) (fun a g hst hb=>?_)
  refine wp_ret ?_
  obtain rfl:=Option.some.inj H0
  exact Zx rfl hst hb (Zf (s:=2)) (hst.at 0 rfl)
theorem Zlm (a0:Nat) {r:Int} (h:Zj8 a0=some r):FnOk Tryd.prog 81 [(pFlt a0)] (pInt .u64 r):=by
 have H0:=h
 unfold Zj8 at H0
 clear h
 refine Zbw (N:=14) Tryd.func81 rfl rfl (Qe rfl) rfl rfl (fun a g0 hst hb=>?_)
 refine r_s (T:=[⟨[],_,[],[],[2]⟩]) (F:=[.o 0]) hst hb Zb
  (Qa rfl c_i<|o_n) (fun a g hst hb=>?_)
 obtain ⟨r1,h2,H0⟩:=Ze H0
 refine r_s (T:=[⟨[.o 0],_,[],[],[4]⟩,⟨[.p 0 0],_,[],[0],[5]⟩,⟨[.p 1 0],_,[],[0,1],[6]⟩,⟨[.p 2 0],_,[],[0,1,2],[3]⟩]) (F:=[.p 3 0]) hst hb Zb
  (Qm rfl u_0<|o_p rfl (Zr Zmq (Zfy _ h2) rfl rfl (.cons u_0 .nil))<|o_p rfl (Zpw Zt8 rfl rfl u_0)<|Qa rfl u_0<|o_n) (fun a g hst hb=>?_)
 refine wp_seq ?_
 refine r_s (T:=[⟨[.o 0],_,[],[],[7]⟩,⟨[.p 0 0],_,[],[0],[8]⟩,⟨[.p 1 0],_,[],[0,1],[9]⟩]) (F:=[.o 0,.p 2 0]) hst hb Zb
  (Qm rfl u_0<|o_p rfl (Z5k rfl rfl u_0 c_i)<|o_p rfl (Zdu rfl rfl u_0 c_i)<|o_n) (fun a g hst hb=>?_)
 refine wp_cond_split (hst.bool 1 rfl) (fun hc3=>?_) (fun hc3=>?_)
 ·replace H0:=Zp hc3 H0
  refine r_s (L:=[(3,_)]) (T:=[⟨[.o 0],_,[],[],[10]⟩,⟨[.p 0 0],_,[],[0],[11]⟩,⟨[.p 1 0],_,[],[0,1],[2]⟩]) (F:=[.p 2 0]) (hst.pick [0] rfl) hb Zb
   (Qm rfl u_0<|o_p rfl (Z4a rfl rfl rfl u_0)<|Qa rfl u_0<|o_n) (fun a g hst hb=>?_)
  refine wp_ret ?_
  refine Zj ?_
  obtain rfl:=Option.some.inj H0
  exact Zx rfl hst hb (Zf (s:=2)) (hst.at 0 rfl)
 ·replace H0:=Zq hc3 H0
  refine wp_skip ?_
  refine Zm ?_
  refine r_s (L:=[(3,_)]) (T:=[⟨[.o 0],_,[],[],[12]⟩,⟨[.p 0 0],_,[],[0],[13]⟩,⟨[.p 1 0],_,[],[0,1],[2]⟩]) (F:=[.p 2 0]) (hst.pick [0] rfl) hb Zb
   (Qm rfl u_0<|o_p rfl (Z7m rfl rfl u_0 c_i)<|Qa rfl u_0<|o_n) (fun a g hst hb=>?_)
  refine wp_ret ?_
  obtain rfl:=Option.some.inj H0
  exact Zx rfl hst hb (Zf (s:=2)) (hst.at 0 rfl)
theorem Zir (a0:Nat) (a1:Nat) {r:Bool} (h:Zhv a0 a1=some r):FnOk Tryd.prog 76 [(pFlt a0),(pFlt a1)] (Z7 r):=by
 have H0:=h
 unfold Zhv at H0
 clear h
 refine Zbw (N:=10) Tryd.func76 rfl rfl (Qe rfl) rfl rfl (fun a g0 hst hb=>?_)
 refine r_s (T:=[⟨[],_,[],[],[4]⟩]) (F:=[.o 0,.o 1]) hst hb Zb
  (Qa rfl c_b<|o_n) (fun a g hst hb=>?_)
 obtain ⟨r1,h2,H0⟩:=Ze H0;obtain ⟨r3,h4,H0⟩:=Ze H0
 refine r_s (T:=[⟨[.o 0],_,[],[],[5]⟩,⟨[.p 0 0],_,[],[0],[6]⟩,⟨[.o 1],_,[],[],[7]⟩,⟨[.p 2 0],_,[],[0,1,2],[8]⟩,⟨[.p 1 0,.p 3 0],_,[],Lr 4,[9]⟩,⟨[.p 4 0],_,[],Lr 5,[4]⟩]) (F:=[.p 5 0]) hst hb Zb
  (Qm rfl u_0<|o_p rfl (Zr Zt7 (Zlm _ h2) rfl rfl (.cons u_0 .nil))<|Qm rfl u_0<|o_p rfl (Zr Zt7 (Zlm _ h4) rfl rfl (.cons u_0 .nil))<|o_p rfl (Zbc rfl rfl u_0 u_1)<|Qa rfl u_0<|o_n) (fun a g hst hb=>?_)
 refine wp_ret ?_
 obtain rfl:=Option.some.inj H0
 exact Zx rfl hst hb (Zf (s:=4)) (hst.at 0 rfl)
theorem Zwm (a0:Za) (a1:Zbu) {r:Bool} (h:Zma a0 a1=some r):FnOk Tryd.prog 50 [(Zc.pd a0),(Zci.pd a1)] (Z7 r):=by
 have H0:=h
 unfold Zma at H0
 clear h
 refine Zbw (N:=59) Tryd.func50 rfl rfl (Qe rfl) rfl rfl (fun a g0 hst hb=>?_)
 refine r_s (T:=[⟨[.o 0],_,[],[],[2]⟩,⟨[.o 1],_,[],[],[3]⟩,⟨[],_,[],[],[4]⟩]) (F:=[.p 0 0,.p 1 0]) hst hb Zb
  (Qb rfl u_0<|Qb rfl u_0<|Qa rfl c_b<|o_n) (fun a g hst hb=>?_)
 obtain ⟨r1,h2,H0⟩:=Ze H0
 refine r_s (T:=⟨[.o 1],_,[],[],[5]⟩ :: ⟨[.p 0 0],_,[],[0],[6]⟩ :: ⟨[.p 1 0],_,[],[0,1],[7]⟩ :: ⟨[.p 2 0,.o 0],_,[],[0,1,2],[8]⟩ :: ⟨[.p 2 0,.p 3 0],_,[],Lr 4,[9]⟩ :: ⟨[.p 2 0,.p 4 0],_,[],Lr 5,[10]⟩ :: ⟨[.p 2 0,.p 5 0],_,[],Lr 6,[11]⟩ :: ⟨[.p 6 0],_,[],Lr 7,[12]⟩ :: ⟨[.p 7 0,.o 1],_,[],Lr 8,[13]⟩ :: ⟨[.p 7 0,.p 8 0],_,[],Lr 9,[14]⟩ :: ⟨[.p 7 0,.p 9 0],_,[],Lr 10,[15]⟩ :: ⟨[.p 10 0,.o 0],_,[],Lr 11,[16]⟩ :: ⟨[.p 10 0,.p 11 0],_,[],Lr 12,[17]⟩ :: ⟨[.p 10 0,.p 12 0],_,[],Lr 13,[18]⟩ :: ⟨[.p 7 0,.p 10 0,.p 13 0],_,[],Lr 14,[19]⟩ :: ⟨[.p 7 0,.p 14 0],_,[],Lr 15,[20]⟩ :: ⟨[.p 15 0],_,[],Lr 16,[21]⟩ :: ⟨[.p 16 0,.o 1],_,[],Lr 17,[22]⟩ :: ⟨[.p 16 0,.p 17 0],_,[],Lr 18,[23]⟩ :: ⟨[.p 16 0,.p 18 0],_,[],Lr 19,[24]⟩ :: ⟨[.p 19 0,.o 0],_,[],Lr 20,[25]⟩ :: ⟨[.p 19 0,.p 20 0],_,[],Lr 21,[26]⟩ :: ⟨[.p 19 0,.p 21 0],_,[],Lr 22,[27]⟩ :: ⟨[.p 19 0,.p 22 0],_,[],Lr 23,[28]⟩ :: ⟨[.p 23 0,.o 0],_,[],Lr 24,[29]⟩ :: ⟨[.p 23 0,.p 24 0],_,[],Lr 25,[30]⟩ :: ⟨[.p 23 0,.p 25 0],_,[],Lr 26,[31]⟩ :: ⟨[.p 19 0,.p 23 0,.p 26 0],_,[],Lr 27,[32]⟩ :: ⟨[.p 16 0,.p 19 0,.p 27 0],_,[],Lr 28,[33]⟩ :: ⟨[.p 16 0,.p 28 0],_,[],Lr 29,[34]⟩ :: ⟨[.p 29 0],_,[],Lr 30,[35]⟩ :: ⟨[.p 30 0,.o 1],_,[],Lr 31,[36]⟩ :: ⟨[.p 30 0,.p 31 0],_,[],Lr 32,[37]⟩ :: ⟨[.p 30 0,.p 32 0],_,[],Lr 33,[38]⟩ :: ⟨[.p 33 0,.o 0],_,[],Lr 34,[39]⟩ :: ⟨[.p 33 0,.p 34 0],_,[],Lr 35,[40]⟩ :: ⟨[.p 33 0,.p 35 0],_,[],Lr 36,[41]⟩ :: ⟨[.p 30 0,.p 33 0,.p 36 0],_,[],Lr 37,[42]⟩ :: ⟨[.p 30 0,.p 37 0],_,[],Lr 38,[43]⟩ :: ⟨[.p 38 0],_,[],Lr 39,[44]⟩ :: ⟨[.p 39 0,.o 1],_,[],Lr 40,[45]⟩ :: ⟨[.p 39 0,.p 40 0],_,[],Lr 41,[46]⟩ :: ⟨[.p 39 0,.p 41 0],_,[],Lr 42,[47]⟩ :: ⟨[.p 42 0,.o 0],_,[],Lr 43,[48]⟩ :: ⟨[.p 42 0,.p 43 0],_,[],Lr 44,[49]⟩ :: ⟨[.p 42 0,.p 44 0],_,[],Lr 45,[50]⟩ :: ⟨[.p 42 0,.p 45 0],_,[],Lr 46,[51]⟩ :: ⟨[.p 46 0,.o 0],_,[],Lr 47,[52]⟩ :: ⟨[.p 46 0,.p 47 0],_,[],Lr 48,[53]⟩ :: ⟨[.p 46 0,.p 48 0],_,[],Lr 49,[54]⟩ :: ⟨[.p 46 0,.p 49 0],_,[],Lr 50,[55]⟩ :: ⟨[.p 42 0,.p 46 0,.p 50 0],_,[],Lr 51,[56]⟩ :: ⟨[.p 39 0,.p 42 0,.p 51 0],_,[],Lr 52,[57]⟩ :: ⟨[.p 39 0,.p 52 0],_,[],Lr 53,[58]⟩ :: ⟨[.p 53 0],_,[],Lr 54,[4]⟩ :: []) (F:=[.p 54 0]) hst hb Zb
  (Qf rfl Z47 u_0<|Ql rfl ty_4 u_0<|Qm rfl u_0<|o_g (Qg_f rfl (fun hG=>Zh Zia rfl rfl u_0))<|o_g (Qg_f rfl (fun hG=>Zn ty_9 rfl rfl (Opd.gd hG u_0)))<|o_g (Qg_f rfl (fun hG=>Zl1 rfl rfl (Opd.gd hG u_0) c_s))<|o_p rfl (Zbk rfl rfl u_0 (fun hz=>(Opd.gd (bNF hz) u_1)))<|Qm rfl u_0<|o_g (Qg_t rfl (fun hG=>Zh Z4e rfl rfl u_0))<|o_g (Qg_t rfl (fun hG=>Zn ty_4 rfl rfl (Opd.gd hG u_0)))<|o_g (Qg_t rfl (fun hG=>Z0 rfl rfl (Opd.gd hG u_0)))<|o_g (Qg_fi rfl (fun hG=>Zh Zcl rfl rfl u_0))<|o_g (Qg_fi rfl (fun hG=>Zn ty_2 rfl rfl (Opd.gd hG u_0)))<|o_g (Qg_fi rfl (fun hG=>Zbc rfl rfl (Opd.gd hG u_0) c_i))<|o_g (Qg_t rfl (fun hG=>Zbk rfl rfl (Opd.gd hG u_0) (fun hz=>(Opd.gd (bA hG (bNF hz)) u_1))))<|o_p rfl (Zbi rfl rfl u_0 (fun hz=>(Opd.gd hz u_1)))<|Qm rfl u_0<|o_g (Qg_t rfl (fun hG=>Zh Zwr rfl rfl u_0))<|o_g (Qg_t rfl (fun hG=>Zn ty_4 rfl rfl (Opd.gd hG u_0)))<|o_g (Qg_t rfl (fun hG=>Z0 rfl rfl (Opd.gd hG u_0)))<|o_g (Qg_fi rfl (fun hG=>Zh Zg6 rfl rfl u_0))<|o_g (Qg_fi rfl (fun hG=>Zn ty_2 rfl rfl (Opd.gd hG u_0)))<|o_g (Qg_fi rfl (fun hG=>Zbc rfl rfl (Opd.gd hG u_0) c_i))<|o_g (Qg_fi rfl (fun hG=>Z0 rfl rfl (Opd.gd hG u_0)))<|o_g (Qg_ti rfl (fun hG=>Zh Zg8 rfl rfl u_0))<|o_g (Qg_ti rfl (fun hG=>Zn ty_2 rfl rfl (Opd.gd hG u_0)))<|o_g (Qg_ti rfl (fun hG=>Zbc rfl rfl (Opd.gd hG u_0) c_i))<|o_g (Qg_fi rfl (fun hG=>Zbi rfl rfl (Opd.gd hG u_0) (fun hz=>(Opd.gd (bA hG hz) u_1))))<|o_g (Qg_t rfl (fun hG=>Zbk rfl rfl (Opd.gd hG u_0) (fun hz=>(Opd.gd (bA hG (bNF hz)) u_1))))<|o_p rfl (Zbi rfl rfl u_0 (fun hz=>(Opd.gd hz u_1)))<|Qm rfl u_0<|o_g (Qg_t rfl (fun hG=>Zh Z38 rfl rfl u_0))<|o_g (Qg_t rfl (fun hG=>Zn ty_4 rfl rfl (Opd.gd hG u_0)))<|o_g (Qg_t rfl (fun hG=>Z0 rfl rfl (Opd.gd hG u_0)))<|o_g (Qg_fi rfl (fun hG=>Zh Zfd rfl rfl u_0))<|o_g (Qg_fi rfl (fun hG=>Zn Zcv rfl rfl (Opd.gd hG u_0)))<|o_g (Qg_fi rfl (fun hG=>Zr Zpy (Zir _ _ (Zbs h2 hG)) rfl rfl (.cons (Opd.gd hG u_0) (.cons c_f .nil))))<|o_g (Qg_t rfl (fun hG=>Zbk rfl rfl (Opd.gd hG u_0) (fun hz=>(Opd.gd (bA hG (bNF hz)) u_1))))<|o_p rfl (Zbi rfl rfl u_0 (fun hz=>(Opd.gd hz u_1)))<|Qm rfl u_0<|o_g (Qg_t rfl (fun hG=>Zh Zww rfl rfl u_0))<|o_g (Qg_t rfl (fun hG=>Zn ty_4 rfl rfl (Opd.gd hG u_0)))<|o_g (Qg_t rfl (fun hG=>Z0 rfl rfl (Opd.gd hG u_0)))<|o_g (Qg_fi rfl (fun hG=>Zh Zfb rfl rfl u_0))<|o_g (Qg_fi rfl (fun hG=>Zn ty_3 rfl rfl (Opd.gd hG u_0)))<|o_g (Qg_fi rfl (fun hG=>Zbc rfl rfl (Opd.gd hG u_0) c_i))<|o_g (Qg_fi rfl (fun hG=>Z0 rfl rfl (Opd.gd hG u_0)))<|o_g (Qg_ti rfl (fun hG=>Zh Zb5 rfl rfl u_0))<|o_g (Qg_ti rfl (fun hG=>Zn Zc4 rfl rfl (Opd.gd hG u_0)))<|o_g (Qg_ti rfl (fun hG=>Zcc Tryd.underlying23 rfl rfl (Opd.gd hG u_0)))<|o_g (Qg_ti rfl (fun hG=>Zbc rfl rfl (Opd.gd hG u_0) c_i))<|o_g (Qg_fi rfl (fun hG=>Zbi rfl rfl (Opd.gd hG u_0) (fun hz=>(Opd.gd (bA hG hz) u_1))))<|o_g (Qg_t rfl (fun hG=>Zbk rfl rfl (Opd.gd hG u_0) (fun hz=>(Opd.gd (bA hG (bNF hz)) u_1))))<|o_p rfl (Zbi rfl rfl u_0 (fun hz=>(Opd.gd hz u_1)))<|Qa rfl u_0<|o_n) (fun a g hst hb=>?_)
 refine wp_ret ?_
 obtain rfl:=Option.some.inj H0
 exact Zx rfl hst hb (Zf (s:=4)) (hst.at 0 rfl)
theorem Zle (a0:Nat) {r:Bool} (h:Zid a0=some r):FnOk Tryd.prog 51 [(pFlt a0)] (Z7 r):=by
 have H0:=h
 unfold Zid at H0
 clear h
 refine Zbw (N:=9) Tryd.func51 rfl rfl (Qe rfl) rfl rfl (fun a g0 hst hb=>?_)
 refine r_s (T:=[⟨[],_,[],[],[2]⟩]) (F:=[.o 0]) hst hb Zb
  (Qa rfl c_b<|o_n) (fun a g hst hb=>?_)
 obtain ⟨r1,h2,H0⟩:=Ze H0
 refine r_s (T:=[⟨[.o 0],_,[],[],[3]⟩,⟨[.p 0 0],_,[],[0],[4]⟩,⟨[.o 0],_,[],[],[5]⟩,⟨[.p 2 0],_,[],[0,1,2],[6]⟩,⟨[.p 3 0],_,[],Lr 4,[7]⟩,⟨[.p 1 0,.p 4 0],_,[],Lr 5,[8]⟩,⟨[.p 5 0],_,[],Lr 6,[2]⟩]) (F:=[.p 6 0]) hst hb Zb
  (Qm rfl u_0<|o_p rfl (Zpw Zt8 rfl rfl u_0)<|Qm rfl u_0<|o_p rfl (Zr Zmq (Zfy _ h2) rfl rfl (.cons u_0 .nil))<|o_p rfl (Zpw Zt8 rfl rfl u_0)<|o_p rfl (Zbc rfl rfl u_0 u_1)<|Qa rfl u_0<|o_n) (fun a g hst hb=>?_)
 refine wp_ret ?_
 obtain rfl:=Option.some.inj H0
 exact Zx rfl hst hb (Zf (s:=2)) (hst.at 0 rfl)
theorem Zmw (a0:Nat) (a1:Nat) {r:Bool} (h:Zj7 a0 a1=some r):FnOk Tryd.prog 65 [(pFlt a0),(pFlt a1)] (Z7 r):=by
 have H0:=h
 unfold Zj7 at H0
 clear h
 refine Zbw (N:=10) Tryd.func65 rfl rfl (Qe rfl) rfl rfl (fun a g0 hst hb=>?_)
 refine r_s (T:=[⟨[],_,[],[],[4]⟩]) (F:=[.o 0,.o 1]) hst hb Zb
  (Qa rfl c_b<|o_n) (fun a g hst hb=>?_)
 obtain ⟨r1,h2,H0⟩:=Ze H0;obtain ⟨r3,h4,H0⟩:=Ze H0
 refine r_s (T:=[⟨[.o 0],_,[],[],[5]⟩,⟨[.p 0 0],_,[],[0],[6]⟩,⟨[.o 1],_,[],[],[7]⟩,⟨[.p 2 0],_,[],[0,1,2],[8]⟩,⟨[.p 1 0,.p 3 0],_,[],Lr 4,[9]⟩,⟨[.p 4 0],_,[],Lr 5,[4]⟩]) (F:=[.p 5 0]) hst hb Zb
  (Qm rfl u_0<|o_p rfl (Zr Zt7 (Zlm _ h2) rfl rfl (.cons u_0 .nil))<|Qm rfl u_0<|o_p rfl (Zr Zt7 (Zlm _ h4) rfl rfl (.cons u_0 .nil))<|o_p rfl (Zb8 rfl rfl u_0 u_1)<|Qa rfl u_0<|o_n) (fun a g hst hb=>?_)
 refine wp_ret ?_
 obtain rfl:=Option.some.inj H0
 exact Zx rfl hst hb (Zf (s:=4)) (hst.at 0 rfl)
theorem Zld (a0:Zd) (a1:Zd) {r:Bool} (h:Zij a0 a1=some r):FnOk Tryd.prog 77 [(Zo.pd a0),(Zo.pd a1)] (Z7 r):=by
 have H0:=h
 unfold Zij at H0
 clear h
 refine Zbw (N:=21) Tryd.func77 rfl rfl (Qe rfl) rfl rfl (fun a g0 hst hb=>?_)
 refine r_s (T:=[⟨[.o 0],_,[],[],[2]⟩,⟨[.o 1],_,[],[],[3]⟩,⟨[],_,[],[],[4]⟩]) (F:=[.p 0 0,.p 1 0]) hst hb Zb
  (Qb rfl u_0<|Qb rfl u_0<|Qa rfl c_b<|o_n) (fun a g hst hb=>?_)
 refine wp_seq ?_
 obtain ⟨r1,h2,H0⟩:=Ze H0
 refine r_s (T:=[⟨[.o 0],_,[],[],[5]⟩,⟨[.p 0 0],_,[],[0],[6]⟩,⟨[.o 1],_,[],[],[7]⟩,⟨[.p 2 0],_,[],[2],[8]⟩,⟨[.p 1 0,.p 3 0],_,[],Lr 4,[9]⟩,⟨[.p 4 0],_,[],Lr 5,[10]⟩]) (F:=[.o 0,.o 1,.p 5 0]) hst hb Zb
  (Qf rfl Zet u_0<|Ql rfl Zcv u_0<|Qf rfl Zet u_0<|Ql rfl Zcv u_0<|o_p rfl (Zr Zpy (Zir _ _ h2) rfl rfl (.cons u_0 (.cons u_1 .nil)))<|Qn rfl u_0<|o_n) (fun a g hst hb=>?_)
 refine wp_cond_split (hst.bool 2 rfl) (fun hc3=>?_) (fun hc3=>?_)
 ·replace H0:=Zp hc3 H0
  obtain ⟨r4,h5,H0⟩:=Ze H0
  refine r_s (L:=[(2,_),(3,_)]) (T:=[⟨[.o 1],_,[],[],[11]⟩,⟨[.p 0 0],_,[],[0],[12]⟩,⟨[.o 0],_,[],[],[13]⟩,⟨[.p 2 0],_,[],[2],[14]⟩,⟨[.p 1 0,.p 3 0],_,[],Lr 4,[15]⟩,⟨[.p 4 0],_,[],Lr 5,[4]⟩]) (F:=[.p 5 0]) (hst.pick [0,1] rfl) hb Zb
   (Qf rfl Zet u_0<|Ql rfl Zcv u_0<|Qf rfl Zet u_0<|Ql rfl Zcv u_0<|o_p rfl (Zr Zxu (Zmw _ _ h5) rfl rfl (.cons u_0 (.cons u_1 .nil)))<|Qa rfl u_0<|o_n) (fun a g hst hb=>?_)
  refine wp_ret ?_
  refine Zj ?_
  obtain rfl:=Option.some.inj H0
  exact Zx rfl hst hb (Zf (s:=4)) (hst.at 0 rfl)
 ·replace H0:=Zq hc3 H0
  refine wp_skip ?_
  refine Zm ?_
  refine r_s (L:=[(2,_),(3,_)]) (T:=[⟨[.o 0],_,[],[],[16]⟩,⟨[.p 0 0],_,[],[0],[17]⟩,⟨[.o 1],_,[],[],[18]⟩,⟨[.p 2 0],_,[],[2],[19]⟩,⟨[.p 1 0,.p 3 0],_,[],Lr 4,[20]⟩,⟨[.p 4 0],_,[],Lr 5,[4]⟩]) (F:=[.p 5 0]) (hst.pick [0,1] rfl) hb Zb
   (Qf rfl Zed u_0<|Ql rfl ty_9 u_0<|Qf rfl Zed u_0<|Ql rfl ty_9 u_0<|o_p rfl (Zrf rfl rfl u_0 u_1)<|Qa rfl u_0<|o_n) (fun a g hst hb=>?_)
  refine wp_ret ?_
  obtain rfl:=Option.some.inj H0
  exact Zx rfl hst hb (Zf (s:=4)) (hst.at 0 rfl)
theorem Zvk (a0:Int) (a1:List Zd) {r:Int} (h:Zk7 a0 a1=some r):FnOk Tryd.prog 52 [(pInt .i64 a0),(Zo.sl.pd a1)] (pInt .i64 r):=by
 have H0:=h
 unfold Zk7 at H0
 clear h
 refine Zbw (N:=70) Tryd.func52 rfl rfl (Qe rfl) rfl rfl (fun a g0 hst hb=>?_)
 refine r_s (T:=[⟨[],_,[],[],[4]⟩]) (F:=[.o 0,.o 1]) hst hb Zb
  (Qa rfl c_i<|o_n) (fun a g hst hb=>?_)
 refine wp_seq ?_
 refine r_s (T:=[⟨[.o 1],_,[],[],[7]⟩,⟨[.p 0 0],_,[],[0],[8]⟩,⟨[],_,[],[],[9]⟩]) (F:=[.o 0,.o 1,.p 0 0,.p 1 0,.p 2 0]) hst hb Zb
  (Qm rfl u_0<|o_p rfl (Zcc Tryd.underlying23 rfl rfl u_0)<|Qm rfl c_i<|o_n) (fun a g hst hb=>?_)
 obtain ⟨z19,hz1,H0⟩:=Ze H0
 refine Zce (fun a w=>∃ (g:G),w=g.w ∧ St 70 [] a g ∧ Base g0 g ∧ (.inr ())=z19) ?_ ?_
 ·rintro a w ⟨g,rfl,hst,hb,rfl⟩
  refine Zm ?_
  refine r_s (T:=[⟨[],_,[],[],[4]⟩]) (F:=[.p 0 0]) hst hb Zb
   (Qa rfl c_i<|o_n) (fun a g hst hb=>?_)
  refine wp_ret ?_
  obtain rfl:=Option.some.inj H0
  exact Zx rfl hst hb (Zf (s:=4)) (hst.at 0 rfl)
 ·refine wp_block ?_
  refine wp_loop_ghost (fun n a w=>∃ (x1:Int) (g:G),w=g.w ∧ St 70 [(0,(pInt .i64 a0)),(1,(Zo.sl.pd a1)),(7,(Zo.sl.pd a1)),(8,(pInt .i64 (a1.length:Int))),(9,(pInt .i64 x1))] a g ∧ Base g0 g ∧ Zem a0 a1 n x1=some z19) (Int.toNat ((a1.length:Int) - (0:Int)) + 1) ⟨(0:Int),g,rfl,(hst.pick [0,1,2,3,4] rfl),hb,hz1⟩ (fun n a w hI=>?_)
  obtain ⟨x1,g,rfl,hst,hb,H1⟩:=hI
  cases n with
  | zero=>exact absurd H1 (by simp [Zem])
  | succ n =>
   rw [Zem] at H1
   refine r_s (T:=[⟨[.o 4,.o 3],_,[],[],[10]⟩]) (F:=[.o 0,.o 1,.o 2,.o 3,.o 4,.p 0 0]) hst hb Zb
    (o_p rfl (Zb8 rfl rfl u_0 u_1)<|o_n) (fun a g hst hb=>?_)
   refine wp_seq ?_
   refine wp_cond_split (hst.bool 5 rfl) (fun hc2=>?_) (fun hc2=>?_)
   ·replace H1:=Zp hc2 H1
    refine wp_skip ?_
    refine Zm ?_
    refine wp_seq ?_
    refine wp_block ?_
    obtain ⟨e3,h4,H1⟩:=Ze H1
    refine r_s (L:=[(0,_),(1,_),(7,_),(8,_),(9,_)]) (T:=[⟨[.o 4],_,[],[],[11]⟩,⟨[.o 2,.o 4],_,[],[],[12]⟩,⟨[.p 1 0],_,[],[1],[13]⟩,⟨[],[(6,(pBox Zo 6 (default:Zd)))],[7],[],[6]⟩,⟨[.p 0 0],_,[],Lr 4,[5]⟩,⟨[.p 2 0,.p 3 0],_,[7],Lr 5,[6]⟩]) (F:=[.o 0,.o 1,.p 4 0,.p 5 0,.o 2,.o 3,.o 4]) (hst.pick [0,1,2,3,4] rfl) hb Zb
     (Qm rfl u_0<|o_p rfl (Zbp Tryd.underlying23 Zga rfl rfl u_0 u_1 h4)<|Ql rfl Zd2 u_0<|o_p rfl (Zbt (zs:=[.float .f64 0,.string ByteArray.empty]) (by kernel_rfl) (fun g=>Zgr g) rfl rfl)<|Qa rfl u_0<|o_p rfl (Zcg Zd2 rfl rfl u_1 u_0)<|o_n) (fun a g hst hb=>?_)
    refine wp_block ?_
    refine r_s (T:=[⟨[.o 3],_,[],[],[15]⟩,⟨[.p 0 0],_,[],[0],[16]⟩,⟨[.p 1 0],_,[],[0,1],[17]⟩,⟨[.p 2 0],_,[],[0,1,2],[18]⟩,⟨[.p 3 0],_,[],Lr 4,[14]⟩]) (F:=[.o 0,.o 1,.o 2,.o 3,.o 4,.o 5,.o 6,.p 4 0]) hst hb Zb
     (Qf rfl Zed u_0<|Ql rfl ty_9 u_0<|o_p rfl (Zex Tryd.underlying9 rfl rfl u_0)<|o_p rfl (Zcf rfl rfl u_0 c_i)<|Qa rfl u_0<|o_n) (fun a g hst hb=>?_)
    refine wp_cond_split (hst.bool 7 rfl) (fun hc5=>?_) (fun hc5=>?_)
    ·replace H1:=Zp hc5 H1
     refine r_s (L:=[]) (T:=[⟨[],_,[],[],[4]⟩]) (F:=[.p 0 0]) (hst.pick [] rfl) hb Zb
      (Qa rfl c_i<|o_n) (fun a g hst hb=>?_)
     refine wp_ret ?_
     refine Zw ?_
     refine Zw ?_
     refine Zj ?_
     refine Zj ?_
     refine Zw ?_
     refine Zj ?_
     refine Zj ?_
     obtain rfl:=Option.some.inj H1
     obtain rfl:=Option.some.inj H0
     exact Zx rfl hst hb (Zf (s:=4)) (hst.at 0 rfl)
    ·replace H1:=Zq hc5 H1
     obtain ⟨r6,h7,H1⟩:=Ze H1;obtain ⟨r8,h9,H1⟩:=Ze H1
     refine r_s (L:=[(0,_),(1,_),(5,_),(6,_),(7,_),(8,_),(9,_)]) (T:=⟨[.o 0],_,[],[],[20]⟩ :: ⟨[.p 0 0],_,[],[0],[21]⟩ :: ⟨[.p 1 0],_,[],[0,1],[22]⟩ :: ⟨[.p 2 0,.o 3],_,[],[0,1,2],[23]⟩ :: ⟨[.p 2 0,.p 3 0],_,[],Lr 4,[24]⟩ :: ⟨[.p 2 0,.p 4 0],_,[],Lr 5,[25]⟩ :: ⟨[.p 2 0,.p 5 0],_,[],Lr 6,[26]⟩ :: ⟨[.p 2 0,.p 6 0],_,[],Lr 7,[27]⟩ :: ⟨[.p 7 0],_,[],Lr 8,[28]⟩ :: ⟨[.p 8 0,.o 3],_,[],Lr 9,[29]⟩ :: ⟨[.p 8 0,.p 9 0],_,[],Lr 10,[30]⟩ :: ⟨[.p 8 0,.p 10 0],_,[],Lr 11,[31]⟩ :: ⟨[.p 8 0,.p 11 0],_,[],Lr 12,[32]⟩ :: ⟨[.p 8 0,.p 12 0],_,[],Lr 13,[33]⟩ :: ⟨[.p 13 0],_,[],Lr 14,[19]⟩ :: []) (F:=[.o 0,.o 1,.o 2,.o 3,.o 4,.o 5,.o 6,.p 14 0]) (hst.pick [0,1,2,3,4,5,6] rfl) hb Zb
      (Qm rfl u_0<|o_p rfl (Zbc rfl rfl u_0 c_i)<|Qm rfl u_0<|o_g (Qg_t rfl (fun hG=>Zh Zet rfl rfl u_0))<|o_g (Qg_t rfl (fun hG=>Zn Zcv rfl rfl (Opd.gd hG u_0)))<|o_g (Qg_t rfl (fun hG=>Zr Zpy (Zir _ _ (Zbs h7 hG)) rfl rfl (.cons (Opd.gd hG u_0) (.cons c_f .nil))))<|o_g (Qg_t rfl (fun hG=>Ze5 rfl rfl (Opd.gd hG u_0)))<|o_p rfl (Zbi rfl rfl u_0 (fun hz=>(Opd.gd hz u_1)))<|Qm rfl u_0<|o_g (Qg_f rfl (fun hG=>Zh Zet rfl rfl u_0))<|o_g (Qg_f rfl (fun hG=>Zn Zcv rfl rfl (Opd.gd hG u_0)))<|o_g (Qg_f rfl (fun hG=>Zr Zyh (Zle _ (Zbs h9 hG)) rfl rfl (.cons (Opd.gd hG u_0) .nil)))<|o_g (Qg_f rfl (fun hG=>Ze5 rfl rfl (Opd.gd hG u_0)))<|o_p rfl (Zbk rfl rfl u_0 (fun hz=>(Opd.gd (bNF hz) u_1)))<|Qa rfl u_0<|o_n) (fun a g hst hb=>?_)
     refine wp_cond_split (hst.bool 7 rfl) (fun hc10=>?_) (fun hc10=>?_)
     ·replace H1:=Zp hc10 H1
      refine r_s (L:=[]) (T:=[⟨[],_,[],[],[4]⟩]) (F:=[.p 0 0]) (hst.pick [] rfl) hb Zb
       (Qa rfl c_i<|o_n) (fun a g hst hb=>?_)
      refine wp_ret ?_
      refine Zw ?_
      refine Zw ?_
      refine Zj ?_
      refine Zj ?_
      refine Zw ?_
      refine Zj ?_
      refine Zj ?_
      obtain rfl:=Option.some.inj H1
      obtain rfl:=Option.some.inj H0
      exact Zx rfl hst hb (Zf (s:=4)) (hst.at 0 rfl)
     ·replace H1:=Zq hc10 H1
      obtain ⟨e11,h12,H1⟩:=Ze H1
      refine r_s (L:=[(0,_),(1,_),(5,_),(6,_),(7,_),(8,_),(9,_)]) (T:=⟨[.o 2],_,[],[],[35]⟩ :: ⟨[.p 0 0],_,[],[0],[36]⟩ :: ⟨[.p 1 0],_,[],[0,1],[37]⟩ :: ⟨[.p 2 0,.o 0],_,[],[0,1,2],[38]⟩ :: ⟨[.p 2 0,.p 3 0],_,[],Lr 4,[39]⟩ :: ⟨[.p 2 0,.p 4 0],_,[],Lr 5,[40]⟩ :: ⟨[.p 5 0],_,[],Lr 6,[41]⟩ :: ⟨[.p 6 0,.o 1],_,[],Lr 7,[42]⟩ :: ⟨[.p 6 0,.o 2],_,[],Lr 7,[43]⟩ :: ⟨[.p 6 0,.p 8 0],_,[],[0,1,2,3,4,5,6,8],[44]⟩ :: ⟨[.p 6 0,.p 7 0,.p 9 0],_,[],Lr 10,[45]⟩ :: ⟨[.p 6 0,.p 10 0],_,[],Lr 11,[46]⟩ :: ⟨[.p 6 0,.p 11 0],_,[],Lr 12,[47]⟩ :: ⟨[.p 6 0,.o 3],_,[],Lr 7,[48]⟩ :: ⟨[.p 6 0,.p 13 0],_,[],[0,1,2,3,4,5,6,13],[49]⟩ :: ⟨[.p 6 0,.p 12 0,.p 14 0],_,[],Lr 15,[50]⟩ :: ⟨[.p 6 0,.p 15 0],_,[],Lr 16,[51]⟩ :: ⟨[.p 16 0],_,[],Lr 17,[34]⟩ :: []) (F:=[.o 0,.o 1,.o 2,.o 3,.o 4,.o 5,.o 6,.p 17 0]) (hst.pick [0,1,2,3,4,5,6] rfl) hb Zb
       (Qm rfl u_0<|o_p rfl (Zcf rfl rfl u_0 c_i)<|Qm rfl u_0<|o_g (Qg_t rfl (fun hG=>Z0 rfl rfl u_0))<|o_g (Qg_t rfl (fun hG=>Zbc rfl rfl (Opd.gd hG u_0) c_i))<|o_p rfl (Zbi rfl rfl u_0 (fun hz=>(Opd.gd hz u_1)))<|Qm rfl u_0<|o_g (Qg_t rfl (fun hG=>Z0 rfl rfl u_0))<|o_g (Qg_t rfl (fun hG=>Z0 rfl rfl u_0))<|o_g (Qg_t rfl (fun hG=>Ze6 rfl rfl (Opd.gd hG u_0) c_i rfl))<|o_g (Qg_t rfl (fun hG=>Zbp Tryd.underlying23 Zga rfl rfl (Opd.gd hG u_0) (Opd.gd hG u_1) (Zbs h12 hG)))<|o_g (Qg_t rfl (fun hG=>Zh Zed rfl rfl (Opd.gd hG u_0)))<|o_g (Qg_t rfl (fun hG=>Zn ty_9 rfl rfl (Opd.gd hG u_0)))<|o_g (Qg_t rfl (fun hG=>Zh Zed rfl rfl u_0))<|o_g (Qg_t rfl (fun hG=>Zn ty_9 rfl rfl (Opd.gd hG u_0)))<|o_g (Qg_t rfl (fun hG=>Z6o rfl rfl (Opd.gd hG u_0) (Opd.gd hG u_1)))<|o_p rfl (Zbi rfl rfl u_0 (fun hz=>(Opd.gd hz u_1)))<|Qa rfl u_0<|o_n) (fun a g hst hb=>?_)
      refine wp_cond_split (hst.bool 7 rfl) (fun hc13=>?_) (fun hc13=>?_)
      ·replace H1:=Zp hc13 H1
       refine r_s (L:=[]) (T:=[⟨[],_,[],[],[4]⟩]) (F:=[.p 0 0]) (hst.pick [] rfl) hb Zb
        (Qa rfl c_i<|o_n) (fun a g hst hb=>?_)
       refine wp_ret ?_
       refine Zw ?_
       refine Zw ?_
       refine Zj ?_
       refine Zj ?_
       refine Zw ?_
       refine Zj ?_
       refine Zj ?_
       obtain rfl:=Option.some.inj H1
       obtain rfl:=Option.some.inj H0
       exact Zx rfl hst hb (Zf (s:=4)) (hst.at 0 rfl)
      ·replace H1:=Zq hc13 H1
       obtain ⟨e14,h15,H1⟩:=Ze H1;obtain ⟨r16,h17,H1⟩:=Ze H1
       refine r_s (L:=[(0,_),(1,_),(5,_),(6,_),(7,_),(8,_),(9,_)]) (T:=⟨[.o 2],_,[],[],[53]⟩ :: ⟨[.p 0 0],_,[],[0],[54]⟩ :: ⟨[.p 1 0],_,[],[0,1],[55]⟩ :: ⟨[.p 2 0,.o 0],_,[],[0,1,2],[56]⟩ :: ⟨[.p 2 0,.p 3 0],_,[],Lr 4,[57]⟩ :: ⟨[.p 2 0,.p 4 0],_,[],Lr 5,[58]⟩ :: ⟨[.p 5 0],_,[],Lr 6,[59]⟩ :: ⟨[.p 6 0,.o 1],_,[],Lr 7,[60]⟩ :: ⟨[.p 6 0,.o 2],_,[],Lr 7,[61]⟩ :: ⟨[.p 6 0,.p 8 0],_,[],[0,1,2,3,4,5,6,8],[62]⟩ :: ⟨[.p 6 0,.p 7 0,.p 9 0],_,[],Lr 10,[63]⟩ :: ⟨[.p 6 0,.p 10 0],_,[],Lr 11,[64]⟩ :: ⟨[.p 6 0,.o 3],_,[],Lr 7,[65]⟩ :: ⟨[.p 6 0,.p 11 0,.p 12 0],_,[],Lr 13,[66]⟩ :: ⟨[.p 6 0,.p 13 0],_,[],Lr 14,[67]⟩ :: ⟨[.p 6 0,.p 14 0],_,[],Lr 15,[68]⟩ :: ⟨[.p 15 0],_,[],Lr 16,[52]⟩ :: []) (F:=[.o 0,.o 1,.o 4,.o 5,.o 6,.p 16 0]) (hst.pick [0,1,2,3,4,5,6] rfl) hb Zb
        (Qm rfl u_0<|o_p rfl (Zcf rfl rfl u_0 c_i)<|Qm rfl u_0<|o_g (Qg_t rfl (fun hG=>Z0 rfl rfl u_0))<|o_g (Qg_t rfl (fun hG=>Zbc rfl rfl (Opd.gd hG u_0) c_i))<|o_p rfl (Zbi rfl rfl u_0 (fun hz=>(Opd.gd hz u_1)))<|Qm rfl u_0<|o_g (Qg_t rfl (fun hG=>Z0 rfl rfl u_0))<|o_g (Qg_t rfl (fun hG=>Z0 rfl rfl u_0))<|o_g (Qg_t rfl (fun hG=>Ze6 rfl rfl (Opd.gd hG u_0) c_i rfl))<|o_g (Qg_t rfl (fun hG=>Zbp Tryd.underlying23 Zga rfl rfl (Opd.gd hG u_0) (Opd.gd hG u_1) (Zbs h15 hG)))<|o_g (Qg_t rfl (fun hG=>Zn Zd2 rfl rfl (Opd.gd hG u_0)))<|o_g (Qg_t rfl (fun hG=>Zn Zd2 rfl rfl u_0))<|o_g (Qg_t rfl (fun hG=>Zr Zx3 (Zld _ _ (Zbs h17 hG)) rfl rfl (.cons (Opd.gd hG u_0) (.cons (Opd.gd hG u_1) .nil))))<|o_g (Qg_t rfl (fun hG=>Ze5 rfl rfl (Opd.gd hG u_0)))<|o_p rfl (Zbi rfl rfl u_0 (fun hz=>(Opd.gd hz u_1)))<|Qa rfl u_0<|o_n) (fun a g hst hb=>?_)
       refine wp_cond_split (hst.bool 5 rfl) (fun hc18=>?_) (fun hc18=>?_)
       ·replace H1:=Zp hc18 H1
        refine r_s (L:=[]) (T:=[⟨[],_,[],[],[4]⟩]) (F:=[.p 0 0]) (hst.pick [] rfl) hb Zb
         (Qa rfl c_i<|o_n) (fun a g hst hb=>?_)
        refine wp_ret ?_
        refine Zw ?_
        refine Zw ?_
        refine Zj ?_
        refine Zj ?_
        refine Zw ?_
        refine Zj ?_
        refine Zj ?_
        obtain rfl:=Option.some.inj H1
        obtain rfl:=Option.some.inj H0
        exact Zx rfl hst hb (Zf (s:=4)) (hst.at 0 rfl)
       ·replace H1:=Zq hc18 H1
        refine wp_skip ?_
        refine Zbj ?_
        refine Zbj ?_
        refine Zm ?_
        refine r_g (L:=[(0,_),(1,_),(7,_),(8,_),(9,_)]) (T:=[⟨[.o 4],_,[],[],[69]⟩,⟨[.p 0 0],_,[],[0],[9]⟩]) (F:=[.o 0,.o 1,.o 2,.o 3,.p 1 0]) (hst.pick [0,1,2,3,4] rfl) hb Zb
         (o_p rfl (Zcs rfl rfl u_0 c_i rfl)<|Qm rfl u_0<|o_n) (fun a g hst hb=>?_)
        exact ⟨n,Nat.lt_succ_self _,(IntKind.i64.wrap (x1 + (1:Int))),g,rfl,(hst.pick [0,1,2,3,4] rfl),hb,H1⟩
   ·replace H1:=Zq hc2 H1
    refine wp_exit ?_
    refine Zca ?_
    refine Zca ?_
    refine Zc5 ?_
    exact ⟨g,rfl,(hst.pick [] rfl),hb,Option.some.inj H1⟩
theorem Zjb (a0:Za) {r:Int} (h:Zdg a0=some r):FnOk Tryd.prog 23 [(Zc.pd a0)] (pInt .i64 r):=by
 have H0:=h
 unfold Zdg at H0
 clear h
 refine Zbw (N:=83) Tryd.func23 rfl rfl (Qe rfl) rfl rfl (fun a g0 hst hb=>?_)
 refine r_s (T:=[⟨[.o 0],_,[],[],[1]⟩,⟨[],_,[],[],[2]⟩]) (F:=[.p 0 0]) hst hb Zb
  (Qb rfl u_0<|Qa rfl c_i<|o_n) (fun a g hst hb=>?_)
 obtain ⟨r1,h2,H0⟩:=Ze H0
 refine r_s (T:=[⟨[.o 0],_,[],[],[4]⟩,⟨[.p 0 0],_,[],[0],[5]⟩,⟨[.p 1 0],_,[],[0,1],[6]⟩,⟨[],[(3,(pBox Zci 3 (default:Zbu)))],[4],[],[3]⟩,⟨[.p 2 0,.p 3 0],_,[4],Lr 4,[3]⟩]) (F:=[.o 0,.p 4 0]) hst hb Zb
  (Qf rfl Zdr u_0<|Ql rfl ty_3 u_0<|o_p rfl (Zr Z7a (Zts _ h2) rfl rfl (.cons u_0 .nil))<|o_p rfl (Zbt (zs:=[.bool false,.bool false,.bool false,.bool false,.bool false]) (by kernel_rfl) (fun g=>Zo5 g) rfl rfl)<|o_p rfl (Zcg Ziw rfl rfl u_1 u_0)<|o_n) (fun a g hst hb=>?_)
 refine wp_seq ?_
 refine wp_block ?_
 refine r_s (T:=[⟨[.o 0],_,[],[],[8]⟩,⟨[.p 0 0],_,[],[0],[9]⟩,⟨[.p 1 0],_,[],[0,1],[10]⟩,⟨[.p 2 0],_,[],[0,1,2],[11]⟩,⟨[.p 3 0,.o 0],_,[],Lr 4,[12]⟩,⟨[.p 3 0,.p 4 0],_,[],Lr 5,[13]⟩,⟨[.p 3 0,.p 5 0],_,[],Lr 6,[14]⟩,⟨[.p 3 0,.p 6 0],_,[],Lr 7,[15]⟩,⟨[.p 7 0],_,[],Lr 8,[7]⟩]) (F:=[.o 0,.o 1,.p 8 0]) hst hb Zb
  (Qf rfl Zdr u_0<|Ql rfl ty_3 u_0<|o_p rfl (Z19 rfl rfl u_0 c_i)<|Qm rfl u_0<|o_g (Qg_f rfl (fun hG=>Zh Zdr rfl rfl u_0))<|o_g (Qg_f rfl (fun hG=>Zn ty_3 rfl rfl (Opd.gd hG u_0)))<|o_g (Qg_f rfl (fun hG=>Znq rfl rfl (Opd.gd hG u_0) c_i))<|o_p rfl (Zbk rfl rfl u_0 (fun hz=>(Opd.gd (bNF hz) u_1)))<|Qa rfl u_0<|o_n) (fun a g hst hb=>?_)
 refine wp_cond_split (hst.bool 2 rfl) (fun hc3=>?_) (fun hc3=>?_)
 ·replace H0:=Zp hc3 H0
  refine r_s (L:=[]) (T:=[⟨[],_,[],[],[2]⟩]) (F:=[.p 0 0]) (hst.pick [] rfl) hb Zb
   (Qa rfl c_i<|o_n) (fun a g hst hb=>?_)
  refine wp_ret ?_
  refine Zw ?_
  refine Zj ?_
  obtain rfl:=Option.some.inj H0
  exact Zx rfl hst hb (Zf (s:=2)) (hst.at 0 rfl)
 ·replace H0:=Zq hc3 H0
  obtain ⟨r4,h5,H0⟩:=Ze H0
  refine r_s (L:=[(1,_),(3,_)]) (T:=[⟨[.o 0],_,[],[],[17]⟩,⟨[.o 1],_,[],[],[18]⟩,⟨[.p 0 0,.p 1 0],_,[],[0,1],[19]⟩,⟨[.p 2 0],_,[],[0,1,2],[20]⟩,⟨[.p 3 0],_,[],Lr 4,[16]⟩]) (F:=[.o 0,.o 1,.p 4 0]) (hst.pick [0,1] rfl) hb Zb
   (Ql rfl Z8 u_0<|Ql rfl Ziw u_0<|o_p rfl (Zr Z65 (Zwm _ _ h5) rfl rfl (.cons u_0 (.cons u_1 .nil)))<|Qn rfl u_0<|Qa rfl u_0<|o_n) (fun a g hst hb=>?_)
  refine wp_cond_split (hst.bool 2 rfl) (fun hc6=>?_) (fun hc6=>?_)
  ·replace H0:=Zp hc6 H0
   refine r_s (L:=[]) (T:=[⟨[],_,[],[],[2]⟩]) (F:=[.p 0 0]) (hst.pick [] rfl) hb Zb
    (Qa rfl c_i<|o_n) (fun a g hst hb=>?_)
   refine wp_ret ?_
   refine Zw ?_
   refine Zj ?_
   obtain rfl:=Option.some.inj H0
   exact Zx rfl hst hb (Zf (s:=2)) (hst.at 0 rfl)
  ·replace H0:=Zq hc6 H0
   refine r_s (L:=[(1,_),(3,_)]) (T:=[⟨[.o 0],_,[],[],[22]⟩,⟨[.p 0 0],_,[],[0],[23]⟩,⟨[.p 1 0],_,[],[0,1],[24]⟩,⟨[.p 2 0],_,[],[0,1,2],[25]⟩,⟨[.p 3 0],_,[],Lr 4,[21]⟩]) (F:=[.o 0,.o 1,.p 4 0]) (hst.pick [0,1] rfl) hb Zb
    (Qf rfl Zia u_0<|Ql rfl ty_9 u_0<|o_p rfl (Zex Tryd.underlying9 rfl rfl u_0)<|o_p rfl (Zcf rfl rfl u_0 c_i)<|Qa rfl u_0<|o_n) (fun a g hst hb=>?_)
   refine wp_cond_split (hst.bool 2 rfl) (fun hc7=>?_) (fun hc7=>?_)
   ·replace H0:=Zp hc7 H0
    refine r_s (L:=[]) (T:=[⟨[],_,[],[],[2]⟩]) (F:=[.p 0 0]) (hst.pick [] rfl) hb Zb
     (Qa rfl c_i<|o_n) (fun a g hst hb=>?_)
    refine wp_ret ?_
    refine Zw ?_
    refine Zj ?_
    obtain rfl:=Option.some.inj H0
    exact Zx rfl hst hb (Zf (s:=2)) (hst.at 0 rfl)
   ·replace H0:=Zq hc7 H0
    refine r_s (L:=[(1,_),(3,_)]) (T:=⟨[.o 1],_,[],[],[27]⟩ :: ⟨[.p 0 0],_,[],[0],[28]⟩ :: ⟨[.p 1 0],_,[],[0,1],[29]⟩ :: ⟨[.p 2 0,.o 0],_,[],[0,1,2],[30]⟩ :: ⟨[.p 2 0,.p 3 0],_,[],Lr 4,[31]⟩ :: ⟨[.p 2 0,.p 4 0],_,[],Lr 5,[32]⟩ :: ⟨[.p 2 0,.p 5 0],_,[],Lr 6,[33]⟩ :: ⟨[.p 6 0,.o 0],_,[],Lr 7,[34]⟩ :: ⟨[.p 6 0,.p 7 0],_,[],Lr 8,[35]⟩ :: ⟨[.p 6 0,.p 8 0],_,[],Lr 9,[36]⟩ :: ⟨[.p 2 0,.p 6 0,.p 9 0],_,[],Lr 10,[37]⟩ :: ⟨[.p 2 0,.p 10 0],_,[],Lr 11,[38]⟩ :: ⟨[.p 11 0,.o 0],_,[],Lr 12,[39]⟩ :: ⟨[.p 11 0,.p 12 0],_,[],Lr 13,[40]⟩ :: ⟨[.p 11 0,.o 0],_,[],Lr 12,[41]⟩ :: ⟨[.p 11 0,.p 14 0],_,[],0 :: 1 :: 2 :: 3 :: 4 :: 5 :: 6 :: 7 :: 8 :: 9 :: 10 :: 11 :: 14 :: [],[42]⟩ :: ⟨[.p 11 0,.p 13 0,.p 15 0],_,[],Lr 16,[43]⟩ :: ⟨[.p 2 0,.p 11 0,.p 16 0],_,[],Lr 17,[44]⟩ :: ⟨[.p 2 0,.p 17 0],_,[],Lr 18,[45]⟩ :: ⟨[.p 18 0,.o 0],_,[],Lr 19,[46]⟩ :: ⟨[.p 18 0,.p 19 0],_,[],Lr 20,[47]⟩ :: ⟨[.p 18 0,.o 0],_,[],Lr 19,[48]⟩ :: ⟨[.p 18 0,.p 21 0],_,[],0 :: 1 :: 2 :: 3 :: 4 :: 5 :: 6 :: 7 :: 8 :: 9 :: 10 :: 11 :: 12 :: 13 :: 14 :: 15 :: 16 :: 17 :: 18 :: 21 :: [],[49]⟩ :: ⟨[.p 18 0,.p 20 0,.p 22 0],_,[],Lr 23,[50]⟩ :: ⟨[.p 2 0,.p 18 0,.p 23 0],_,[],Lr 24,[51]⟩ :: ⟨[.p 2 0,.p 24 0],_,[],Lr 25,[52]⟩ :: ⟨[.p 25 0],_,[],Lr 26,[26]⟩ :: []) (F:=[.o 0,.o 1,.p 26 0]) (hst.pick [0,1] rfl) hb Zb
     (Qf rfl Zwr u_0<|Ql rfl ty_4 u_0<|Qm rfl u_0<|o_g (Qg_t rfl (fun hG=>Zh Zg6 rfl rfl u_0))<|o_g (Qg_t rfl (fun hG=>Zn ty_2 rfl rfl (Opd.gd hG u_0)))<|o_g (Qg_t rfl (fun hG=>Zb8 rfl rfl (Opd.gd hG u_0) c_i))<|o_g (Qg_t rfl (fun hG=>Z0 rfl rfl (Opd.gd hG u_0)))<|o_g (Qg_fi rfl (fun hG=>Zh Zg8 rfl rfl u_0))<|o_g (Qg_fi rfl (fun hG=>Zn ty_2 rfl rfl (Opd.gd hG u_0)))<|o_g (Qg_fi rfl (fun hG=>Zcf rfl rfl (Opd.gd hG u_0) c_i))<|o_g (Qg_t rfl (fun hG=>Zbk rfl rfl (Opd.gd hG u_0) (fun hz=>(Opd.gd (bA hG (bNF hz)) u_1))))<|o_g (Qg_t rfl (fun hG=>Z0 rfl rfl (Opd.gd hG u_0)))<|o_g (Qg_fi rfl (fun hG=>Zh Zcl rfl rfl u_0))<|o_g (Qg_fi rfl (fun hG=>Zn ty_2 rfl rfl (Opd.gd hG u_0)))<|o_g (Qg_fi rfl (fun hG=>Zh Zg6 rfl rfl u_0))<|o_g (Qg_fi rfl (fun hG=>Zn ty_2 rfl rfl (Opd.gd hG u_0)))<|o_g (Qg_fi rfl (fun hG=>Zb8 rfl rfl (Opd.gd hG u_0) (Opd.gd hG u_1)))<|o_g (Qg_t rfl (fun hG=>Zbk rfl rfl (Opd.gd hG u_0) (fun hz=>(Opd.gd (bA hG (bNF hz)) u_1))))<|o_g (Qg_t rfl (fun hG=>Z0 rfl rfl (Opd.gd hG u_0)))<|o_g (Qg_fi rfl (fun hG=>Zh Zcl rfl rfl u_0))<|o_g (Qg_fi rfl (fun hG=>Zn ty_2 rfl rfl (Opd.gd hG u_0)))<|o_g (Qg_fi rfl (fun hG=>Zh Zg8 rfl rfl u_0))<|o_g (Qg_fi rfl (fun hG=>Zn ty_2 rfl rfl (Opd.gd hG u_0)))<|o_g (Qg_fi rfl (fun hG=>Zcf rfl rfl (Opd.gd hG u_0) (Opd.gd hG u_1)))<|o_g (Qg_t rfl (fun hG=>Zbk rfl rfl (Opd.gd hG u_0) (fun hz=>(Opd.gd (bA hG (bNF hz)) u_1))))<|o_p rfl (Zbi rfl rfl u_0 (fun hz=>(Opd.gd hz u_1)))<|Qa rfl u_0<|o_n) (fun a g hst hb=>?_)
    refine wp_cond_split (hst.bool 2 rfl) (fun hc8=>?_) (fun hc8=>?_)
    ·replace H0:=Zp hc8 H0
     refine r_s (L:=[]) (T:=[⟨[],_,[],[],[2]⟩]) (F:=[.p 0 0]) (hst.pick [] rfl) hb Zb
      (Qa rfl c_i<|o_n) (fun a g hst hb=>?_)
     refine wp_ret ?_
     refine Zw ?_
     refine Zj ?_
     obtain rfl:=Option.some.inj H0
     exact Zx rfl hst hb (Zf (s:=2)) (hst.at 0 rfl)
    ·replace H0:=Zq hc8 H0
     obtain ⟨r9,h10,H0⟩:=Ze H0
     refine r_s (L:=[(1,_),(3,_)]) (T:=[⟨[.o 0],_,[],[],[54]⟩,⟨[.p 0 0],_,[],[0],[55]⟩,⟨[.p 1 0],_,[],[0,1],[56]⟩,⟨[.p 2 0],_,[],[0,1,2],[57]⟩,⟨[.p 3 0],_,[],Lr 4,[53]⟩]) (F:=[.o 0,.o 1,.p 4 0]) (hst.pick [0,1] rfl) hb Zb
      (Qf rfl Zfd u_0<|Ql rfl Zcv u_0<|o_p rfl (Zr Zyh (Zle _ h10) rfl rfl (.cons u_0 .nil))<|Qn rfl u_0<|Qa rfl u_0<|o_n) (fun a g hst hb=>?_)
     refine wp_cond_split (hst.bool 2 rfl) (fun hc11=>?_) (fun hc11=>?_)
     ·replace H0:=Zp hc11 H0
      refine r_s (L:=[]) (T:=[⟨[],_,[],[],[2]⟩]) (F:=[.p 0 0]) (hst.pick [] rfl) hb Zb
       (Qa rfl c_i<|o_n) (fun a g hst hb=>?_)
      refine wp_ret ?_
      refine Zw ?_
      refine Zj ?_
      obtain rfl:=Option.some.inj H0
      exact Zx rfl hst hb (Zf (s:=2)) (hst.at 0 rfl)
     ·replace H0:=Zq hc11 H0
      refine r_s (L:=[(1,_),(3,_)]) (T:=[⟨[.o 1],_,[],[],[59]⟩,⟨[.p 0 0],_,[],[0],[60]⟩,⟨[.p 1 0],_,[],[0,1],[61]⟩,⟨[.p 2 0],_,[],[0,1,2],[58]⟩]) (F:=[.o 0,.p 3 0]) (hst.pick [0,1] rfl) hb Zb
       (Qf rfl Zww u_0<|Ql rfl ty_4 u_0<|Qn rfl u_0<|Qa rfl u_0<|o_n) (fun a g hst hb=>?_)
      refine wp_cond_split (hst.bool 1 rfl) (fun hc12=>?_) (fun hc12=>?_)
      ·replace H0:=Zp hc12 H0
       refine r_s (L:=[]) (T:=[⟨[],_,[],[],[2]⟩]) (F:=[.p 0 0]) (hst.pick [] rfl) hb Zb
        (Qa rfl c_i<|o_n) (fun a g hst hb=>?_)
       refine wp_ret ?_
       refine Zw ?_
       refine Zj ?_
       obtain rfl:=Option.some.inj H0
       exact Zx rfl hst hb (Zf (s:=2)) (hst.at 0 rfl)
      ·replace H0:=Zq hc12 H0
       refine r_s (L:=[(1,_)]) (T:=[⟨[.o 0],_,[],[],[63]⟩,⟨[.p 0 0],_,[],[0],[64]⟩,⟨[.p 1 0],_,[],[0,1],[65]⟩,⟨[.p 2 0],_,[],[0,1,2],[66]⟩,⟨[.p 3 0,.o 0],_,[],Lr 4,[67]⟩,⟨[.p 3 0,.p 4 0],_,[],Lr 5,[68]⟩,⟨[.p 3 0,.p 5 0],_,[],Lr 6,[69]⟩,⟨[.p 3 0,.p 6 0],_,[],Lr 7,[70]⟩,⟨[.p 7 0],_,[],Lr 8,[62]⟩]) (F:=[.o 0,.p 8 0]) (hst.pick [0] rfl) hb Zb
        (Qf rfl Zfb u_0<|Ql rfl ty_3 u_0<|o_p rfl (Zb8 rfl rfl u_0 c_i)<|Qm rfl u_0<|o_g (Qg_f rfl (fun hG=>Zh Zfb rfl rfl u_0))<|o_g (Qg_f rfl (fun hG=>Zn ty_3 rfl rfl (Opd.gd hG u_0)))<|o_g (Qg_f rfl (fun hG=>Zcf rfl rfl (Opd.gd hG u_0) c_i))<|o_p rfl (Zbk rfl rfl u_0 (fun hz=>(Opd.gd (bNF hz) u_1)))<|Qa rfl u_0<|o_n) (fun a g hst hb=>?_)
       refine wp_cond_split (hst.bool 1 rfl) (fun hc13=>?_) (fun hc13=>?_)
       ·replace H0:=Zp hc13 H0
        refine r_s (L:=[]) (T:=[⟨[],_,[],[],[2]⟩]) (F:=[.p 0 0]) (hst.pick [] rfl) hb Zb
         (Qa rfl c_i<|o_n) (fun a g hst hb=>?_)
        refine wp_ret ?_
        refine Zw ?_
        refine Zj ?_
        obtain rfl:=Option.some.inj H0
        exact Zx rfl hst hb (Zf (s:=2)) (hst.at 0 rfl)
       ·replace H0:=Zq hc13 H0
        refine r_s (L:=[(1,_)]) (T:=[⟨[.o 0],_,[],[],[72]⟩,⟨[.p 0 0],_,[],[0],[73]⟩,⟨[.p 1 0],_,[],[0,1],[74]⟩,⟨[.o 0],_,[],[],[75]⟩,⟨[.p 3 0],_,[],[3],[76]⟩,⟨[.p 2 0,.p 4 0],_,[],Lr 5,[77]⟩,⟨[.p 5 0],_,[],Lr 6,[71]⟩]) (F:=[.o 0,.p 6 0]) (hst.pick [0] rfl) hb Zb
         (Qf rfl Zb5 u_0<|Ql rfl Zc4 u_0<|o_p rfl (Zcc Tryd.underlying23 rfl rfl u_0)<|Qf rfl Zfb u_0<|Ql rfl ty_3 u_0<|o_p rfl (Zcf rfl rfl u_0 u_1)<|Qa rfl u_0<|o_n) (fun a g hst hb=>?_)
        refine wp_cond_split (hst.bool 1 rfl) (fun hc14=>?_) (fun hc14=>?_)
        ·replace H0:=Zp hc14 H0
         refine r_s (L:=[]) (T:=[⟨[],_,[],[],[2]⟩]) (F:=[.p 0 0]) (hst.pick [] rfl) hb Zb
          (Qa rfl c_i<|o_n) (fun a g hst hb=>?_)
         refine wp_ret ?_
         refine Zw ?_
         refine Zj ?_
         obtain rfl:=Option.some.inj H0
         exact Zx rfl hst hb (Zf (s:=2)) (hst.at 0 rfl)
        ·replace H0:=Zq hc14 H0
         refine wp_skip ?_
         refine Zbj ?_
         refine Zm ?_
         obtain ⟨r15,h16,H0⟩:=Ze H0
         refine r_s (L:=[(1,_)]) (T:=[⟨[.o 0],_,[],[],[78]⟩,⟨[.p 0 0],_,[],[0],[79]⟩,⟨[.o 0],_,[],[],[80]⟩,⟨[.p 2 0],_,[],[2],[81]⟩,⟨[.p 1 0,.p 3 0],_,[],Lr 4,[82]⟩,⟨[.p 4 0],_,[],Lr 5,[2]⟩]) (F:=[.p 5 0]) (hst.pick [0] rfl) hb Zb
          (Qf rfl Zdr u_0<|Ql rfl ty_3 u_0<|Qf rfl Zb5 u_0<|Ql rfl Zc4 u_0<|o_p rfl (Zr Z78 (Zvk _ _ h16) rfl rfl (.cons u_0 (.cons u_1 .nil)))<|Qa rfl u_0<|o_n) (fun a g hst hb=>?_)
         refine wp_ret ?_
         obtain rfl:=Option.some.inj H0
         exact Zx rfl hst hb (Zf (s:=2)) (hst.at 0 rfl)
theorem Zv2 (a0:Int) {r:Nat} (h:Zn3 a0=some r):FnOk Tryd.prog 32 [(pInt .i64 a0)] (pFlt r):=by
 have H0:=h
 unfold Zn3 at H0
 clear h
 refine Zbw (N:=8) Tryd.func32 rfl rfl (Qe rfl) rfl rfl (fun a g0 hst hb=>?_)
 refine r_s (T:=[⟨[],_,[],[],[2]⟩]) (F:=[.o 0]) hst hb Zb
  (Qa rfl c_f<|o_n) (fun a g hst hb=>?_)
 refine r_s (T:=[⟨[],_,[],[],[3]⟩]) (F:=[.o 0]) hst hb Zb
  (Qa rfl c_i<|o_n) (fun a g hst hb=>?_)
 refine wp_seq ?_
 refine r_s (T:=[⟨[.o 0],_,[],[],[4]⟩,⟨[.p 0 0],_,[],[0],[5]⟩]) (F:=[.p 1 0]) hst hb Zb
  (Qm rfl u_0<|o_p rfl (Znq rfl rfl u_0 c_i)<|o_n) (fun a g hst hb=>?_)
 refine Zce (fun a w=>∃ (j2:Int) (g:G),w=g.w ∧ St 8 [(3,(pInt .u64 j2))] a g ∧ Base g0 g ∧ Zk1 j2=some r) ?_ ?_
 ·rintro a w ⟨j2,g,rfl,hst,hb,H0⟩
  unfold Zk1 at H0
  refine Zm ?_
  refine r_s (T:=[⟨[.o 0],_,[],[],[6]⟩,⟨[.p 0 0],_,[],[0],[7]⟩,⟨[.p 1 0],_,[],[0,1],[2]⟩]) (F:=[.p 2 0]) hst hb Zb
   (Qm rfl u_0<|o_p rfl (Zqj Z2n rfl rfl u_0)<|Qa rfl u_0<|o_n) (fun a g hst hb=>?_)
  refine wp_ret ?_
  obtain rfl:=Option.some.inj H0
  exact Zx rfl hst hb (Zf (s:=2)) (hst.at 0 rfl)
 ·refine wp_cond_split (hst.bool 0 rfl) (fun hc1=>?_) (fun hc1=>?_)
  ·replace H0:=Zp hc1 H0
   refine r_g (L:=[]) (T:=[⟨[],_,[],[],[3]⟩]) (F:=[.p 0 0]) (hst.pick [] rfl) hb Zb
    (Qa rfl c_i<|o_n) (fun a g hst hb=>?_)
   exact ⟨(9218868437227405312:Int),g,rfl,(hst.pick [0] rfl),hb,H0⟩
  ·replace H0:=Zq hc1 H0
   refine r_g (L:=[]) (T:=[⟨[],_,[],[],[3]⟩]) (F:=[.p 0 0]) (hst.pick [] rfl) hb Zb
    (Qa rfl c_i<|o_n) (fun a g hst hb=>?_)
   exact ⟨(18442240474082181120:Int),g,rfl,(hst.pick [0] rfl),hb,H0⟩
theorem Zkt (a0:Za) {r:Za × Bool} (h:Zek a0=some r):FnOk Tryd.prog 10 [(Zc.pd a0)] (pTup [(Zc.pd r.1),(Z7 r.2)]):=by
 have H0:=h
 unfold Zek at H0
 clear h
 refine Zbw (N:=32) Tryd.func10 rfl rfl (Qe rfl) rfl rfl (fun a g0 hst hb=>?_)
 refine r_s (T:=[⟨[.o 0],_,[],[],[1]⟩,⟨[],[(2,(pBox Zc 2 (default:Za)))],[3],[],[2]⟩,⟨[],_,[],[],[3]⟩]) (F:=[.p 0 0,.p 1 0]) hst hb Zb
  (Qb rfl u_0<|o_p rfl (Zbt (zs:=[.int .i64 0,.int .i64 0,.int .i64 0,.int .i64 0,.float .f64 0,.int .i64 0,.string ByteArray.empty,.slice none 0 0]) (by kernel_rfl) (fun g=>Zb2 g) rfl rfl)<|Qa rfl c_b<|o_n) (fun a g hst hb=>?_)
 refine wp_seq ?_
 obtain ⟨r1,h2,H0⟩:=Ze H0
 refine r_s (T:=[⟨[.o 0],_,[],[],[4]⟩,⟨[.p 0 0],_,[],[0],[5]⟩,⟨[.p 1 0],_,[],[0,1],[6]⟩]) (F:=[.o 0,.o 1,.p 2 0]) hst hb Zb
  (Ql rfl Z8 u_0<|o_p rfl (Zr Zre (Zjb _ h2) rfl rfl (.cons u_0 .nil))<|o_p rfl (Zdu rfl rfl u_0 c_i)<|o_n) (fun a g hst hb=>?_)
 refine wp_cond_split (hst.bool 2 rfl) (fun hc3=>?_) (fun hc3=>?_)
 ·replace H0:=Zp hc3 H0
  refine r_s (L:=[(2,_)]) (T:=[⟨[],_,[],[],[7]⟩,⟨[.p 0 0,.o 0],_,[3],[0],[2]⟩,⟨[],_,[],[0,1],[3]⟩]) (F:=[.p 1 0,.p 2 0]) (hst.pick [1] rfl) hb Zb
   (o_p rfl (Zm9 rfl rfl )<|o_p rfl (Zbe Z8 rfl rfl u_1 u_0)<|Qa rfl c_b<|o_n) (fun a g hst hb=>?_)
  refine wp_ret ?_
  refine Zj ?_
  obtain rfl:=Option.some.inj H0
  obtain ⟨u0,hu0,hq0⟩:=Zbn (P:=Tryd.prog) Z8 (hst.at 0 rfl)
  exact Zhe rfl hst hb hu0 (Zf (s:=3)) (Zfi hq0 (hst.at 1 rfl))
 ·replace H0:=Zq hc3 H0
  refine wp_skip ?_
  refine Zm ?_
  refine wp_seq ?_
  refine r_s (L:=[(1,_),(2,_)]) (T:=[⟨[.o 0],_,[],[],[8]⟩,⟨[.p 0 0],_,[],[0],[9]⟩]) (F:=[.o 0,.o 1,.p 1 0]) (hst.pick [0,1] rfl) hb Zb
   (Qf rfl Zdr u_0<|Ql rfl ty_3 u_0<|o_n) (fun a g hst hb=>?_)
  refine wp_block ?_
  refine wp_seq ?_
  refine r_s (T:=[⟨[.o 2],_,[],[],[11]⟩,⟨[.p 0 0],_,[],[0],[10]⟩]) (F:=[.o 0,.o 1,.o 2,.p 1 0]) hst hb Zb
   (o_p rfl (Zbc rfl rfl u_0 c_i)<|Qa rfl u_0<|o_n) (fun a g hst hb=>?_)
  refine Zce (fun a w=>∃ (j6:Bool) (g:G),w=g.w ∧ St 32 [(1,(Zc.ptr a0)),(2,(pBox Zc 2 (default:Za))),(9,(pInt .i64 a0.Kind)),(10,(Z7 j6))] a g ∧ Base g0 g ∧ Zfr a0 j6=some r) ?_ ?_
  ·rintro a w ⟨j6,g,rfl,hst,hb,H0⟩
   unfold Zfr at H0
   refine Zm ?_
   refine wp_cond_split (hst.bool 3 rfl) (fun hc7=>?_) (fun hc7=>?_)
   ·replace H0:=Zp hc7 H0
    refine r_s (L:=[(2,_)]) (T:=[⟨[],_,[],[],[14]⟩,⟨[.p 0 0,.o 0],_,[3],[0],[2]⟩,⟨[],_,[],[0,1],[3]⟩]) (F:=[.p 1 0,.p 2 0]) (hst.pick [1] rfl) hb Zb
     (o_p rfl (Z3r rfl rfl c_i)<|o_p rfl (Zbe Z8 rfl rfl u_1 u_0)<|Qa rfl c_b<|o_n) (fun a g hst hb=>?_)
    refine wp_ret ?_
    refine Zw ?_
    refine Zj ?_
    obtain rfl:=Option.some.inj H0
    obtain ⟨u0,hu0,hq0⟩:=Zbn (P:=Tryd.prog) Z8 (hst.at 0 rfl)
    exact Zhe rfl hst hb hu0 (Zf (s:=3)) (Zfi hq0 (hst.at 1 rfl))
   ·replace H0:=Zq hc7 H0
    refine r_s (L:=[(1,_),(2,_),(9,_)]) (T:=[⟨[.o 2],_,[],[],[16]⟩,⟨[.p 0 0],_,[],[0],[15]⟩]) (F:=[.o 0,.o 1,.o 2,.p 1 0]) (hst.pick [0,1,2] rfl) hb Zb
     (o_p rfl (Zbc rfl rfl u_0 c_i)<|Qa rfl u_0<|o_n) (fun a g hst hb=>?_)
    refine wp_cond_split (hst.bool 3 rfl) (fun hc8=>?_) (fun hc8=>?_)
    ·replace H0:=Zp hc8 H0
     obtain ⟨r9,h10,H0⟩:=Ze H0
     refine r_s (L:=[(2,_)]) (T:=[⟨[],_,[],[],[17]⟩,⟨[.p 0 0],_,[],[0],[18]⟩,⟨[.p 1 0,.o 0],_,[3],[0,1],[2]⟩,⟨[],_,[],[0,1,2],[3]⟩]) (F:=[.p 2 0,.p 3 0]) (hst.pick [1] rfl) hb Zb
      (o_p rfl (Zr Z7v (Zv2 _ h10) rfl rfl (.cons c_i .nil))<|o_p rfl (Zsq rfl rfl c_i u_0)<|o_p rfl (Zbe Z8 rfl rfl u_1 u_0)<|Qa rfl c_b<|o_n) (fun a g hst hb=>?_)
     refine wp_ret ?_
     refine Zw ?_
     refine Zj ?_
     obtain rfl:=Option.some.inj H0
     obtain ⟨u0,hu0,hq0⟩:=Zbn (P:=Tryd.prog) Z8 (hst.at 0 rfl)
     exact Zhe rfl hst hb hu0 (Zf (s:=3)) (Zfi hq0 (hst.at 1 rfl))
    ·replace H0:=Zq hc8 H0
     refine r_s (L:=[(1,_),(2,_),(9,_)]) (T:=[⟨[.o 2],_,[],[],[20]⟩,⟨[.p 0 0],_,[],[0],[19]⟩]) (F:=[.o 0,.o 1,.o 2,.p 1 0]) (hst.pick [0,1,2] rfl) hb Zb
      (o_p rfl (Zbc rfl rfl u_0 c_i)<|Qa rfl u_0<|o_n) (fun a g hst hb=>?_)
     refine wp_cond_split (hst.bool 3 rfl) (fun hc11=>?_) (fun hc11=>?_)
     ·replace H0:=Zp hc11 H0
      obtain ⟨r12,h13,H0⟩:=Ze H0
      refine r_s (L:=[(2,_)]) (T:=[⟨[],_,[],[],[21]⟩,⟨[.p 0 0],_,[],[0],[22]⟩,⟨[.p 1 0,.o 0],_,[3],[0,1],[2]⟩,⟨[],_,[],[0,1,2],[3]⟩]) (F:=[.p 2 0,.p 3 0]) (hst.pick [1] rfl) hb Zb
       (o_p rfl (Zr Z2s (Zql h13) rfl rfl .nil)<|o_p rfl (Zsq rfl rfl c_i u_0)<|o_p rfl (Zbe Z8 rfl rfl u_1 u_0)<|Qa rfl c_b<|o_n) (fun a g hst hb=>?_)
      refine wp_ret ?_
      refine Zw ?_
      refine Zj ?_
      obtain rfl:=Option.some.inj H0
      obtain ⟨u0,hu0,hq0⟩:=Zbn (P:=Tryd.prog) Z8 (hst.at 0 rfl)
      exact Zhe rfl hst hb hu0 (Zf (s:=3)) (Zfi hq0 (hst.at 1 rfl))
     ·replace H0:=Zq hc11 H0
      refine r_s (L:=[(1,_),(2,_),(9,_)]) (T:=[⟨[.o 2],_,[],[],[24]⟩,⟨[.p 0 0],_,[],[0],[23]⟩]) (F:=[.o 0,.o 1,.o 2,.p 1 0]) (hst.pick [0,1,2] rfl) hb Zb
       (o_p rfl (Zbc rfl rfl u_0 c_i)<|Qa rfl u_0<|o_n) (fun a g hst hb=>?_)
      refine wp_cond_split (hst.bool 3 rfl) (fun hc14=>?_) (fun hc14=>?_)
      ·replace H0:=Zp hc14 H0
       refine r_s (L:=[(2,_)]) (T:=[⟨[],_,[],[],[25]⟩,⟨[.p 0 0,.o 0],_,[3],[0],[2]⟩,⟨[],_,[],[0,1],[3]⟩]) (F:=[.p 1 0,.p 2 0]) (hst.pick [1] rfl) hb Zb
        (o_p rfl (Ztm rfl rfl c_i c_i)<|o_p rfl (Zbe Z8 rfl rfl u_1 u_0)<|Qa rfl c_b<|o_n) (fun a g hst hb=>?_)
       refine wp_ret ?_
       refine Zw ?_
       refine Zj ?_
       obtain rfl:=Option.some.inj H0
       obtain ⟨u0,hu0,hq0⟩:=Zbn (P:=Tryd.prog) Z8 (hst.at 0 rfl)
       exact Zhe rfl hst hb hu0 (Zf (s:=3)) (Zfi hq0 (hst.at 1 rfl))
      ·replace H0:=Zq hc14 H0
       refine r_s (L:=[(1,_),(2,_),(9,_)]) (T:=[⟨[.o 2],_,[],[],[27]⟩,⟨[.p 0 0],_,[],[0],[26]⟩]) (F:=[.o 0,.o 1,.p 1 0]) (hst.pick [0,1,2] rfl) hb Zb
        (o_p rfl (Zbc rfl rfl u_0 c_i)<|Qa rfl u_0<|o_n) (fun a g hst hb=>?_)
       refine wp_cond_split (hst.bool 2 rfl) (fun hc15=>?_) (fun hc15=>?_)
       ·replace H0:=Zp hc15 H0
        refine r_s (L:=[(1,_),(2,_)]) (T:=[⟨[.o 0],_,[],[],[28]⟩,⟨[.p 0 0],_,[],[0],[29]⟩,⟨[.p 1 0],_,[],[0,1],[30]⟩,⟨[.p 2 0,.o 1],_,[3],[0,1,2],[2]⟩,⟨[],_,[],Lr 4,[3]⟩]) (F:=[.p 3 0,.p 4 0]) (hst.pick [0,1] rfl) hb Zb
         (Qf rfl Zfb u_0<|Ql rfl ty_3 u_0<|o_p rfl (Ztm rfl rfl c_i u_0)<|o_p rfl (Zbe Z8 rfl rfl u_1 u_0)<|Qa rfl c_b<|o_n) (fun a g hst hb=>?_)
        refine wp_ret ?_
        refine Zw ?_
        refine Zj ?_
        obtain rfl:=Option.some.inj H0
        obtain ⟨u0,hu0,hq0⟩:=Zbn (P:=Tryd.prog) Z8 (hst.at 0 rfl)
        exact Zhe rfl hst hb hu0 (Zf (s:=3)) (Zfi hq0 (hst.at 1 rfl))
       ·replace H0:=Zq hc15 H0
        refine wp_skip ?_
        refine Zbj ?_
        refine Zm ?_
        refine r_s (L:=[(2,_)]) (T:=[⟨[],_,[],[],[31]⟩,⟨[.p 0 0,.o 0],_,[3],[0],[2]⟩,⟨[],_,[],[0,1],[3]⟩]) (F:=[.p 1 0,.p 2 0]) (hst.pick [1] rfl) hb Zb
         (o_p rfl (Zm9 rfl rfl )<|o_p rfl (Zbe Z8 rfl rfl u_1 u_0)<|Qa rfl c_b<|o_n) (fun a g hst hb=>?_)
        refine wp_ret ?_
        obtain rfl:=Option.some.inj H0
        obtain ⟨u0,hu0,hq0⟩:=Zbn (P:=Tryd.prog) Z8 (hst.at 0 rfl)
        exact Zhe rfl hst hb hu0 (Zf (s:=3)) (Zfi hq0 (hst.at 1 rfl))
  ·refine wp_cond_split (hst.bool 3 rfl) (fun hc4=>?_) (fun hc4=>?_)
   ·replace H0:=Zp hc4 H0
    refine wp_skip ?_
    exact ⟨(a0.Kind == (2:Int)),g,rfl,(hst.pick [0,1,2,3] rfl),hb,H0⟩
   ·replace H0:=Zq hc4 H0
    refine r_s (L:=[(1,_),(2,_),(9,_)]) (T:=[⟨[.o 2],_,[],[],[12]⟩,⟨[.p 0 0],_,[],[0],[10]⟩]) (F:=[.o 0,.o 1,.o 2,.p 1 0]) (hst.pick [0,1,2] rfl) hb Zb
     (o_p rfl (Zbc rfl rfl u_0 c_i)<|Qa rfl u_0<|o_n) (fun a g hst hb=>?_)
    refine wp_cond_split (hst.bool 3 rfl) (fun hc5=>?_) (fun hc5=>?_)
    ·replace H0:=Zp hc5 H0
     refine wp_skip ?_
     exact ⟨(a0.Kind == (3:Int)),g,rfl,(hst.pick [0,1,2,3] rfl),hb,H0⟩
    ·replace H0:=Zq hc5 H0
     refine r_g (L:=[(1,_),(2,_),(9,_)]) (T:=[⟨[.o 2],_,[],[],[13]⟩,⟨[.p 0 0],_,[],[0],[10]⟩]) (F:=[.o 0,.o 1,.o 2,.p 1 0]) (hst.pick [0,1,2] rfl) hb Zb
      (o_p rfl (Zbc rfl rfl u_0 c_i)<|Qa rfl u_0<|o_n) (fun a g hst hb=>?_)
     exact ⟨(a0.Kind == (4:Int)),g,rfl,(hst.pick [0,1,2,3] rfl),hb,H0⟩
theorem Zsy (a0:Int) {r:Zcn} (h:Zmb a0=some r):FnOk Tryd.prog 62 [(pInt .i64 a0)] (Zdm.pd r):=by
 have H0:=h
 unfold Zmb at H0
 clear h
 refine Zbw (N:=13) Tryd.func62 rfl rfl (Qe rfl) rfl rfl (fun a g0 hst hb=>?_)
 refine r_s (T:=[⟨[],[(2,(pBox Zdm 2 (default:Zcn)))],[3],[],[2]⟩]) (F:=[.o 0,.p 0 0]) hst hb Zb
  (o_p rfl (Zbt (zs:=[.string ByteArray.empty,.int .i64 0,.string ByteArray.empty]) (by kernel_rfl) (fun g=>Zqf g) rfl rfl)<|o_n) (fun a g hst hb=>?_)
 refine wp_seq ?_
 refine r_s (T:=[⟨[.o 0],_,[],[],[3]⟩,⟨[.p 0 0],_,[],[0],[4]⟩,⟨[.p 1 0],_,[],[0,1],[5]⟩,⟨[.p 2 0,.o 0],_,[],[0,1,2],[6]⟩,⟨[.p 2 0,.p 3 0],_,[],Lr 4,[7]⟩,⟨[.p 2 0,.p 4 0],_,[],Lr 5,[8]⟩]) (F:=[.o 0,.o 1,.p 5 0]) hst hb Zb
  (Qm rfl u_0<|o_p rfl (Z19 rfl rfl u_0 c_i)<|Qm rfl u_0<|o_g (Qg_f rfl (fun hG=>Z0 rfl rfl u_0))<|o_g (Qg_f rfl (fun hG=>Znq rfl rfl (Opd.gd hG u_0) c_i))<|o_p rfl (Zbk rfl rfl u_0 (fun hz=>(Opd.gd (bNF hz) u_1)))<|o_n) (fun a g hst hb=>?_)
 refine wp_cond_split (hst.bool 2 rfl) (fun hc1=>?_) (fun hc1=>?_)
 ·replace H0:=Zp hc1 H0
  refine r_s (L:=[(2,_)]) (T:=[⟨[],_,[],[],[9]⟩,⟨[.p 0 0,.o 0],_,[3],[0],[2]⟩]) (F:=[.p 1 0]) (hst.pick [1] rfl) hb Zb
   (o_p rfl (Z48 rfl rfl )<|o_p rfl (Zbe Zim rfl rfl u_1 u_0)<|o_n) (fun a g hst hb=>?_)
  refine wp_ret ?_
  refine Zj ?_
  obtain rfl:=Option.some.inj H0
  obtain ⟨u0,hu0,hq0⟩:=Zbn (P:=Tryd.prog) Zim (hst.at 0 rfl)
  exact Zx rfl hst hb hu0 hq0
 ·replace H0:=Zq hc1 H0
  refine wp_skip ?_
  refine Zm ?_
  obtain ⟨e2,h3,H0⟩:=Ze H0
  refine r_s (L:=[(0,_),(2,_)]) (T:=[⟨[.o 0],_,[],[],[10]⟩,⟨[.p 0 0],_,[],[0],[11]⟩,⟨[.p 1 0],_,[],[0,1],[12]⟩,⟨[.p 2 0,.o 1],_,[3],[0,1,2],[2]⟩]) (F:=[.p 3 0]) (hst.pick [0,1] rfl) hb Zb
   (Qm rfl u_0<|o_p rfl (Zwl Tryd.underlying127 Z54 rfl rfl (Opd.glob gm_1 gk_1) u_0 h3)<|Ql rfl Zim u_0<|o_p rfl (Zbe Zim rfl rfl u_1 u_0)<|o_n) (fun a g hst hb=>?_)
  refine wp_ret ?_
  obtain rfl:=Option.some.inj H0
  obtain ⟨u0,hu0,hq0⟩:=Zbn (P:=Tryd.prog) Zim (hst.at 0 rfl)
  exact Zx rfl hst hb hu0 hq0
theorem Zs8 (a0:Int) {r:Int} (h:Zd5 a0=some r):FnOk Tryd.prog 34 [(pInt .i64 a0)] (pInt .i64 r):=by
 have H0:=h
 unfold Zd5 at H0
 clear h
 refine Zbw (N:=6) Tryd.func34 rfl rfl (Qe rfl) rfl rfl (fun a g0 hst hb=>?_)
 refine r_s (T:=[⟨[],_,[],[],[2]⟩]) (F:=[.o 0]) hst hb Zb
  (Qa rfl c_i<|o_n) (fun a g hst hb=>?_)
 obtain ⟨r1,h2,H0⟩:=Ze H0
 refine r_s (T:=[⟨[.o 0],_,[],[],[3]⟩,⟨[.p 0 0],_,[],[0],[4]⟩,⟨[.p 1 0],_,[],[0,1],[5]⟩,⟨[.p 2 0],_,[],[0,1,2],[2]⟩]) (F:=[.p 3 0]) hst hb Zb
  (Qm rfl u_0<|o_p rfl (Zr Z2v (Zsy _ h2) rfl rfl (.cons u_0 .nil))<|o_p rfl (Zvb Zuz rfl rfl u_0)<|Qa rfl u_0<|o_n) (fun a g hst hb=>?_)
 refine wp_ret ?_
 obtain rfl:=Option.some.inj H0
 exact Zx rfl hst hb (Zf (s:=2)) (hst.at 0 rfl)
theorem Zmh (a0:Int) (a1:Int) {r:Bool} (h:Zen a0 a1=some r):FnOk Tryd.prog 12 [(pInt .i64 a0),(pInt .i64 a1)] (Z7 r):=by
 have H0:=h
 unfold Zen at H0
 clear h
 refine Zbw (N:=19) Tryd.func12 rfl rfl (Qe rfl) rfl rfl (fun a g0 hst hb=>?_)
 refine r_s (T:=[⟨[],_,[],[],[4]⟩]) (F:=[.o 0,.o 1]) hst hb Zb
  (Qa rfl c_b<|o_n) (fun a g hst hb=>?_)
 refine wp_seq ?_
 refine r_s (T:=[⟨[.o 1],_,[],[],[5]⟩]) (F:=[.o 0,.o 1,.p 0 0]) hst hb Zb
  (Qm rfl u_0<|o_n) (fun a g hst hb=>?_)
 refine wp_block ?_
 refine wp_seq ?_
 refine r_s (T:=[⟨[.o 2],_,[],[],[7]⟩,⟨[.p 0 0],_,[],[0],[6]⟩]) (F:=[.o 0,.o 1,.o 2,.p 1 0]) hst hb Zb
  (o_p rfl (Zbc rfl rfl u_0 c_i)<|Qa rfl u_0<|o_n) (fun a g hst hb=>?_)
 refine Zce (fun a w=>∃ (j8:Bool) (g:G),w=g.w ∧ St 19 [(0,(pInt .i64 a0)),(1,(pInt .i64 a1)),(6,(Z7 j8))] a g ∧ Base g0 g ∧ Zck a0 a1 j8=some r) ?_ ?_
 ·rintro a w ⟨j8,g,rfl,hst,hb,H0⟩
  unfold Zck at H0
  refine Zm ?_
  refine wp_cond_split (hst.bool 2 rfl) (fun hc9=>?_) (fun hc9=>?_)
  ·replace H0:=Zp hc9 H0
   obtain ⟨r10,h11,H0⟩:=Ze H0
   refine r_s (L:=[(0,_),(1,_)]) (T:=[⟨[.o 1],_,[],[],[15]⟩,⟨[.p 0 0],_,[],[0],[16]⟩,⟨[.o 0],_,[],[],[17]⟩,⟨[.p 1 0,.p 2 0],_,[],[0,1,2],[18]⟩,⟨[.p 3 0],_,[],Lr 4,[4]⟩]) (F:=[.p 4 0]) (hst.pick [0,1] rfl) hb Zb
    (Qm rfl u_0<|o_p rfl (Zr Z2f (Zs8 _ h11) rfl rfl (.cons u_0 .nil))<|Qm rfl u_0<|o_p rfl (Zbc rfl rfl u_0 u_1)<|Qa rfl u_0<|o_n) (fun a g hst hb=>?_)
   refine wp_ret ?_
   refine Zw ?_
   refine Zj ?_
   obtain rfl:=Option.some.inj H0
   exact Zx rfl hst hb (Zf (s:=4)) (hst.at 0 rfl)
  ·replace H0:=Zq hc9 H0
   refine wp_skip ?_
   refine Zbj ?_
   refine Zm ?_
   refine r_s (L:=[]) (T:=[⟨[],_,[],[],[4]⟩]) (F:=[.p 0 0]) (hst.pick [] rfl) hb Zb
    (Qa rfl c_b<|o_n) (fun a g hst hb=>?_)
   refine wp_ret ?_
   obtain rfl:=Option.some.inj H0
   exact Zx rfl hst hb (Zf (s:=4)) (hst.at 0 rfl)
 ·refine wp_cond_split (hst.bool 3 rfl) (fun hc1=>?_) (fun hc1=>?_)
  ·replace H0:=Zp hc1 H0
   refine wp_skip ?_
   exact ⟨(a1 == (7:Int)),g,rfl,(hst.pick [0,1,3] rfl),hb,H0⟩
  ·replace H0:=Zq hc1 H0
   refine r_s (L:=[(0,_),(1,_),(5,_)]) (T:=[⟨[.o 2],_,[],[],[8]⟩,⟨[.p 0 0],_,[],[0],[6]⟩]) (F:=[.o 0,.o 1,.o 2,.p 1 0]) (hst.pick [0,1,2] rfl) hb Zb
    (o_p rfl (Zbc rfl rfl u_0 c_i)<|Qa rfl u_0<|o_n) (fun a g hst hb=>?_)
   refine wp_cond_split (hst.bool 3 rfl) (fun hc2=>?_) (fun hc2=>?_)
   ·replace H0:=Zp hc2 H0
    refine wp_skip ?_
    exact ⟨(a1 == (8:Int)),g,rfl,(hst.pick [0,1,3] rfl),hb,H0⟩
   ·replace H0:=Zq hc2 H0
    refine r_s (L:=[(0,_),(1,_),(5,_)]) (T:=[⟨[.o 2],_,[],[],[9]⟩,⟨[.p 0 0],_,[],[0],[6]⟩]) (F:=[.o 0,.o 1,.o 2,.p 1 0]) (hst.pick [0,1,2] rfl) hb Zb
     (o_p rfl (Zbc rfl rfl u_0 c_i)<|Qa rfl u_0<|o_n) (fun a g hst hb=>?_)
    refine wp_cond_split (hst.bool 3 rfl) (fun hc3=>?_) (fun hc3=>?_)
    ·replace H0:=Zp hc3 H0
     refine wp_skip ?_
     exact ⟨(a1 == (10:Int)),g,rfl,(hst.pick [0,1,3] rfl),hb,H0⟩
    ·replace H0:=Zq hc3 H0
     refine r_s (L:=[(0,_),(1,_),(5,_)]) (T:=[⟨[.o 2],_,[],[],[10]⟩,⟨[.p 0 0],_,[],[0],[6]⟩]) (F:=[.o 0,.o 1,.o 2,.p 1 0]) (hst.pick [0,1,2] rfl) hb Zb
      (o_p rfl (Zbc rfl rfl u_0 c_i)<|Qa rfl u_0<|o_n) (fun a g hst hb=>?_)
     refine wp_cond_split (hst.bool 3 rfl) (fun hc4=>?_) (fun hc4=>?_)
     ·replace H0:=Zp hc4 H0
      refine wp_skip ?_
      exact ⟨(a1 == (11:Int)),g,rfl,(hst.pick [0,1,3] rfl),hb,H0⟩
     ·replace H0:=Zq hc4 H0
      refine r_s (L:=[(0,_),(1,_),(5,_)]) (T:=[⟨[.o 2],_,[],[],[11]⟩,⟨[.p 0 0],_,[],[0],[6]⟩]) (F:=[.o 0,.o 1,.o 2,.p 1 0]) (hst.pick [0,1,2] rfl) hb Zb
       (o_p rfl (Zbc rfl rfl u_0 c_i)<|Qa rfl u_0<|o_n) (fun a g hst hb=>?_)
      refine wp_cond_split (hst.bool 3 rfl) (fun hc5=>?_) (fun hc5=>?_)
      ·replace H0:=Zp hc5 H0
       refine wp_skip ?_
       exact ⟨(a1 == (13:Int)),g,rfl,(hst.pick [0,1,3] rfl),hb,H0⟩
      ·replace H0:=Zq hc5 H0
       refine r_s (L:=[(0,_),(1,_),(5,_)]) (T:=[⟨[.o 2],_,[],[],[12]⟩,⟨[.p 0 0],_,[],[0],[6]⟩]) (F:=[.o 0,.o 1,.o 2,.p 1 0]) (hst.pick [0,1,2] rfl) hb Zb
        (o_p rfl (Zbc rfl rfl u_0 c_i)<|Qa rfl u_0<|o_n) (fun a g hst hb=>?_)
       refine wp_cond_split (hst.bool 3 rfl) (fun hc6=>?_) (fun hc6=>?_)
       ·replace H0:=Zp hc6 H0
        refine wp_skip ?_
        exact ⟨(a1 == (14:Int)),g,rfl,(hst.pick [0,1,3] rfl),hb,H0⟩
       ·replace H0:=Zq hc6 H0
        refine r_s (L:=[(0,_),(1,_),(5,_)]) (T:=[⟨[.o 2],_,[],[],[13]⟩,⟨[.p 0 0],_,[],[0],[6]⟩]) (F:=[.o 0,.o 1,.o 2,.p 1 0]) (hst.pick [0,1,2] rfl) hb Zb
         (o_p rfl (Zbc rfl rfl u_0 c_i)<|Qa rfl u_0<|o_n) (fun a g hst hb=>?_)
        refine wp_cond_split (hst.bool 3 rfl) (fun hc7=>?_) (fun hc7=>?_)
        ·replace H0:=Zp hc7 H0
         refine wp_skip ?_
         exact ⟨(a1 == (18:Int)),g,rfl,(hst.pick [0,1,3] rfl),hb,H0⟩
        ·replace H0:=Zq hc7 H0
         refine r_g (L:=[(0,_),(1,_),(5,_)]) (T:=[⟨[.o 2],_,[],[],[14]⟩,⟨[.p 0 0],_,[],[0],[6]⟩]) (F:=[.o 0,.o 1,.p 1 0]) (hst.pick [0,1,2] rfl) hb Zb
          (o_p rfl (Zbc rfl rfl u_0 c_i)<|Qa rfl u_0<|o_n) (fun a g hst hb=>?_)
         exact ⟨(a1 == (21:Int)),g,rfl,(hst.pick [0,1,2] rfl),hb,H0⟩
theorem Zjw (a0:(List Zd)) {r:(List Zd)} (h:Zbr a0=some r):FnOk Tryd.prog 64 [(Zo.sl.pd a0)] (Zo.sl.pd r):=by
 unfold Zbr at h
 obtain ⟨hsz,H0⟩:=Zje h
 obtain rfl:=Option.some.inj H0
 refine Zbw (N:=8) Tryd.func64 rfl rfl (Qe rfl) rfl rfl (fun a g0 hst hb=>?_)
 refine wp_seq ?_
 refine Znh Zb (N:=8) (L:=[(0,(Zo.sl.pd a0))]) (T:=[⟨[],[(2,(Zo.sl.pd []))],[],[],[2]⟩]) (F:=[.o 0]) (by kernel_rfl)
  (Zhf (OT.plain rfl (Zdy rfl rfl (Opd.c (fun g=>Zji g)))) Zmm) hst hb (fun a g hst hb=>?_)
 refine Zm ?_
 refine wp_seq ?_
 refine wp_seq ?_
 refine Znh Zb (N:=8) (L:=[(0,(Zo.sl.pd a0))]) (T:=[⟨[.o 0],[(3,(Zo.sl.pd a0))],[],[],[3]⟩,⟨[.p 0 0],[(4,Z15 a0)],[],[0],[4]⟩]) (F:=[.o 0,.p 1 0]) (by kernel_rfl)
  (Zhf (OT.plain rfl (Z0 rfl rfl Opd.t0)) (Zhf (OT.plain rfl (Zwo Tryd.underlying23 rfl rfl Opd.t0)) Zmm)) hst hb (fun a g hst hb=>?_)
 refine Zm ?_
 obtain ⟨c,hc,hc'⟩:=hst.at 1 rfl
 refine wp_cond_split hc (fun ht=>?_) (fun hf=>?_)
 ·obtain rfl:=hc' ht
  refine wp_seq ?_
  refine Znh Zb (N:=8) (L:=[]) (T:=[⟨[],[(2,(Zo.sl.pd []))],[],[],[2]⟩]) (F:=[.p 0 0]) (by kernel_rfl)
   (Zhf (OT.plain rfl (Zdy rfl rfl (Opd.c (fun g=>Zji g)))) Zmm) (hst.pick [] rfl) hb (fun a g hst hb=>?_)
  refine Zm ?_
  refine wp_ret ?_
  refine Zj ?_
  exact Zx rfl hst hb (Zf (s:=2)) (hst.at 0 rfl)
 ·refine wp_skip ?_
  refine Zm ?_
  refine wp_seq ?_
  have hsz':(([]:(List Zd)).length + a0.length) * 24 ≤ 140737488355328:=by simpa using hsz
  refine Znh Zb (N:=8) (L:=[(0,(Zo.sl.pd a0))]) (T:=[⟨[],[(5,(pRow Zo 75 5 []))],[6],[],[5]⟩,⟨[.o 0],[(6,(Zo.sl.pd a0))],[],[],[6]⟩,⟨[.p 0 0,.p 1 0],[(7,(pRow Zo 75 5 ([] ++ a0)))],[6],[0,1],[5,7]⟩,⟨[.p 2 0],[(2,(pRow Zo 75 5 ([] ++ a0)))],[],[0,1,2],[2]⟩]) (F:=[.p 3 0]) (by kernel_rfl)
   (Zhf (OT.plain rfl (Zy0 5 Zdt (xs:=[]) .nil (by decide) rfl rfl)) (Zhf (OT.plain rfl (Z0 rfl rfl Opd.t0)) (Zhf (OT.plain rfl (Zs4 Zdt rfl rfl Opd.t0 (Opd.tl Opd.t0) hsz')) (Zhf (OT.plain rfl (Zdy rfl rfl Opd.t0)) Zmm)))) (hst.pick [0] rfl) hb (fun a g hst hb=>?_)
  refine Zm ?_
  refine wp_ret ?_
  exact Zx rfl hst hb (Zf (s:=2)) (Ztg (hst.at 0 rfl))
theorem Zd8 (a0:(List Zd)) {r:(List Zd)} (h:Zbr a0=some r):Zsl Tryd.prog 64 [(Zo.sl.pd a0)] Zo 75 r:=by
 unfold Zbr at h
 obtain ⟨hsz,H0⟩:=Zje h
 obtain rfl:=Option.some.inj H0
 refine Zx5 (N:=8) Tryd.func64 rfl rfl (Qe rfl) rfl (fun a g0 h0 hst hb=>?_)
 refine r_s (T:=[⟨[],[(2,(Zo.sl.pd []))],[],[],[2]⟩]) (F:=[.o 0]) hst hb Zb
  (o_p rfl (Zdy rfl rfl (Opd.c (fun g=>Zji g)))<|o_n) (fun a g hst hb=>?_)
 refine wp_seq ?_
 refine r_s (T:=[⟨[.o 0],_,[],[],[3]⟩,⟨[.p 0 0],_,[],[0],[4]⟩]) (F:=[.o 0,.p 1 0]) hst hb Zb
  (Qm rfl u_0<|o_p rfl (Zwo Tryd.underlying23 rfl rfl u_0)<|o_n) (fun a g hst hb=>?_)
 obtain ⟨c,hc,hc'⟩:=hst.at 1 rfl
 refine wp_cond_split hc (fun ht=>?_) (fun hf=>?_)
 ·obtain rfl:=hc' ht
  refine r_s (L:=[]) (T:=[⟨[],[(2,(pEq (.slice none 0 0)))],[],[],[2]⟩]) (F:=[.p 0 0]) (hst.pick [] rfl) hb Zb
   (o_p rfl (Zdy rfl rfl (Opd.c (fun g=>rfl)))<|o_n) (fun a g hst hb=>?_)
  refine wp_ret ?_
  refine Zj ?_
  exact Zwi rfl hst hb (Zf (s:=2)) ⟨none,hst.at 0 rfl⟩
 ·refine wp_skip ?_
  refine Zm ?_
  refine r_s (L:=[(0,_)]) (T:=[⟨[],[(5,(pOwn Zo 75 5 (some 0) (([]:(List Zd)).map some)))],[6],[],[5]⟩,⟨[.o 0],_,[],[],[6]⟩,⟨[.p 0 0,.p 1 0],_,[6],[0,1],[5,7]⟩,⟨[.p 2 0],_,[],[0,1,2],[2]⟩]) (F:=[.p 3 0]) (hst.pick [0] rfl) hb Zb
   (o_p rfl (Zs6 (ty:=0) Zdt rfl rfl)<|Qm rfl u_0<|o_p rfl (Zlh Zdt rfl rfl u_0 u_1 (by simpa using hsz))<|Qa rfl u_0<|o_n) (fun a g hst hb=>?_)
  refine wp_ret ?_
  exact Z1c rfl h0 hst hb (Zf (s:=2)) (hst.at 0 rfl)
theorem Zgu (a0:Za) {r:Za} (h:Zf1 a0=some r):FnOk Tryd.prog 37 [(Zc.pd a0)] (Zc.pd r):=by
 have H0:=h
 unfold Zf1 at H0
 clear h
 refine Zbw (N:=8) Tryd.func37 rfl rfl (Qe rfl) rfl rfl (fun a g0 hst hb=>?_)
 refine r_s (T:=[⟨[.o 0],_,[2],[],[1]⟩,⟨[],[(2,(pBox Zc 2 (default:Za)))],[3],[],[2]⟩]) (F:=[.p 0 0,.p 1 0]) hst hb Zb
  (o_p rfl (Znd rfl rfl u_0)<|o_p rfl (Zbt (zs:=[.int .i64 0,.int .i64 0,.int .i64 0,.int .i64 0,.float .f64 0,.int .i64 0,.string ByteArray.empty,.slice none 0 0]) (by kernel_rfl) (fun g=>Zb2 g) rfl rfl)<|o_n) (fun a g hst hb=>?_)
 obtain ⟨r1,h2,H0⟩:=Ze H0
 refine r_s (T:=[⟨[.o 0],_,[],[],[3]⟩,⟨[.p 0 0],_,[],[0],[4]⟩,⟨[.p 1 0],_,[],[0,1],[5]⟩,⟨[.o 0],_,[],[0,1,2],[6]⟩,⟨[.p 2 0,.p 3 0,.o 0],_,[2],Lr 4,[1,3,6]⟩]) (F:=[.p 4 0,.o 1]) hst hb Zb
  (o_p rfl (Zt Zb5 (off:=7) (by kernel_rfl) rfl rfl u_0)<|QP rfl Zc4 u_0<|o_p rfl (Zr Zt6 (Zjw _ h2) rfl rfl (.cons u_0 .nil))<|o_p rfl (Zt Zb5 (off:=7) (by kernel_rfl) rfl rfl u_0)<|o_p rfl (Zpt Zc4 rfl rfl u_2 u_1 u_0)<|o_n) (fun a g hst hb=>?_)
 refine r_s (T:=[⟨[.o 0],_,[],[],[7]⟩,⟨[.p 0 0,.o 1],_,[3],[0],[2]⟩]) (F:=[.p 1 0]) hst hb Zb
  (QM rfl Z8 u_0<|o_p rfl (Zbe Z8 rfl rfl u_1 u_0)<|o_n) (fun a g hst hb=>?_)
 refine wp_ret ?_
 obtain rfl:=Option.some.inj H0
 obtain ⟨u0,hu0,hq0⟩:=Zbn (P:=Tryd.prog) Z8 (hst.at 0 rfl)
 exact Zx rfl hst hb hu0 hq0
theorem Zrk (a0:Nat) (a1:Nat) {r:Nat} (h:Zge a0 a1=some r):FnOk Tryd.prog 38 [(pFlt a0),(pFlt a1)] (pFlt r):=by
 have H0:=h
 unfold Zge at H0
 clear h
 refine Zbw (N:=12) Tryd.func38 rfl rfl (Qe rfl) rfl rfl (fun a g0 hst hb=>?_)
 refine r_s (T:=[⟨[],_,[],[],[4]⟩]) (F:=[.o 0,.o 1]) hst hb Zb
  (Qa rfl c_f<|o_n) (fun a g hst hb=>?_)
 refine wp_seq ?_
 obtain ⟨r1,h2,H0⟩:=Ze H0
 refine r_s (T:=[⟨[.o 0],_,[],[],[5]⟩,⟨[.o 1],_,[],[],[6]⟩,⟨[.p 0 0,.p 1 0],_,[],[0,1],[7]⟩]) (F:=[.o 0,.o 1,.p 2 0]) hst hb Zb
  (Qm rfl u_0<|Qm rfl u_0<|o_p rfl (Zr Zxu (Zmw _ _ h2) rfl rfl (.cons u_0 (.cons u_1 .nil)))<|o_n) (fun a g hst hb=>?_)
 refine wp_cond_split (hst.bool 2 rfl) (fun hc3=>?_) (fun hc3=>?_)
 ·replace H0:=Zp hc3 H0
  obtain ⟨r4,h5,H0⟩:=Ze H0
  refine r_s (L:=[(1,_)]) (T:=[⟨[.o 0],_,[],[],[8]⟩,⟨[.p 0 0],_,[],[0],[9]⟩,⟨[.p 1 0],_,[],[0,1],[4]⟩]) (F:=[.p 2 0]) (hst.pick [1] rfl) hb Zb
   (Qm rfl u_0<|o_p rfl (Zr Zmq (Zfy _ h5) rfl rfl (.cons u_0 .nil))<|Qa rfl u_0<|o_n) (fun a g hst hb=>?_)
  refine wp_ret ?_
  refine Zj ?_
  obtain rfl:=Option.some.inj H0
  exact Zx rfl hst hb (Zf (s:=4)) (hst.at 0 rfl)
 ·replace H0:=Zq hc3 H0
  refine wp_skip ?_
  refine Zm ?_
  obtain ⟨r6,h7,H0⟩:=Ze H0
  refine r_s (L:=[(0,_)]) (T:=[⟨[.o 0],_,[],[],[10]⟩,⟨[.p 0 0],_,[],[0],[11]⟩,⟨[.p 1 0],_,[],[0,1],[4]⟩]) (F:=[.p 2 0]) (hst.pick [0] rfl) hb Zb
   (Qm rfl u_0<|o_p rfl (Zr Zmq (Zfy _ h7) rfl rfl (.cons u_0 .nil))<|Qa rfl u_0<|o_n) (fun a g hst hb=>?_)
  refine wp_ret ?_
  obtain rfl:=Option.some.inj H0
  exact Zx rfl hst hb (Zf (s:=4)) (hst.at 0 rfl)
theorem Zrh (a0:Nat) (a1:Nat) {r:Nat} (h:Zgh a0 a1=some r):FnOk Tryd.prog 39 [(pFlt a0),(pFlt a1)] (pFlt r):=by
 have H0:=h
 unfold Zgh at H0
 clear h
 refine Zbw (N:=12) Tryd.func39 rfl rfl (Qe rfl) rfl rfl (fun a g0 hst hb=>?_)
 refine r_s (T:=[⟨[],_,[],[],[4]⟩]) (F:=[.o 0,.o 1]) hst hb Zb
  (Qa rfl c_f<|o_n) (fun a g hst hb=>?_)
 refine wp_seq ?_
 obtain ⟨r1,h2,H0⟩:=Ze H0
 refine r_s (T:=[⟨[.o 1],_,[],[],[5]⟩,⟨[.o 0],_,[],[],[6]⟩,⟨[.p 0 0,.p 1 0],_,[],[0,1],[7]⟩]) (F:=[.o 0,.o 1,.p 2 0]) hst hb Zb
  (Qm rfl u_0<|Qm rfl u_0<|o_p rfl (Zr Zxu (Zmw _ _ h2) rfl rfl (.cons u_0 (.cons u_1 .nil)))<|o_n) (fun a g hst hb=>?_)
 refine wp_cond_split (hst.bool 2 rfl) (fun hc3=>?_) (fun hc3=>?_)
 ·replace H0:=Zp hc3 H0
  obtain ⟨r4,h5,H0⟩:=Ze H0
  refine r_s (L:=[(1,_)]) (T:=[⟨[.o 0],_,[],[],[8]⟩,⟨[.p 0 0],_,[],[0],[9]⟩,⟨[.p 1 0],_,[],[0,1],[4]⟩]) (F:=[.p 2 0]) (hst.pick [1] rfl) hb Zb
   (Qm rfl u_0<|o_p rfl (Zr Zmq (Zfy _ h5) rfl rfl (.cons u_0 .nil))<|Qa rfl u_0<|o_n) (fun a g hst hb=>?_)
  refine wp_ret ?_
  refine Zj ?_
  obtain rfl:=Option.some.inj H0
  exact Zx rfl hst hb (Zf (s:=4)) (hst.at 0 rfl)
 ·replace H0:=Zq hc3 H0
  refine wp_skip ?_
  refine Zm ?_
  obtain ⟨r6,h7,H0⟩:=Ze H0
  refine r_s (L:=[(0,_)]) (T:=[⟨[.o 0],_,[],[],[10]⟩,⟨[.p 0 0],_,[],[0],[11]⟩,⟨[.p 1 0],_,[],[0,1],[4]⟩]) (F:=[.p 2 0]) (hst.pick [0] rfl) hb Zb
   (Qm rfl u_0<|o_p rfl (Zr Zmq (Zfy _ h7) rfl rfl (.cons u_0 .nil))<|Qa rfl u_0<|o_n) (fun a g hst hb=>?_)
  refine wp_ret ?_
  obtain rfl:=Option.some.inj H0
  exact Zx rfl hst hb (Zf (s:=4)) (hst.at 0 rfl)
theorem Zhw (a0:Zcn) (a1:Int) {r:Bool} (h:Zcr a0 a1=some r):FnOk Tryd.prog 104 [(Zdm.pd a0),(pInt .u8 a1)] (Z7 r):=by
 have H0:=h
 unfold Zcr at H0
 clear h
 refine Zbw (N:=19) Tryd.func104 rfl rfl (Qe rfl) rfl rfl (fun a g0 hst hb=>?_)
 refine r_s (T:=[⟨[.o 0],_,[],[],[2]⟩,⟨[],_,[],[],[4]⟩]) (F:=[.o 1,.p 0 0]) hst hb Zb
  (Qb rfl u_0<|Qa rfl c_b<|o_n) (fun a g hst hb=>?_)
 refine wp_seq ?_
 refine r_s (T:=[⟨[.o 1],_,[],[],[6]⟩,⟨[.p 0 0],_,[],[0],[7]⟩,⟨[.p 1 0],_,[],[0,1],[8]⟩,⟨[],_,[],[],[9]⟩]) (F:=[.o 0,.o 1,.p 2 0,.p 3 0]) hst hb Zb
  (Qf rfl Zvx u_0<|Ql rfl ty_9 u_0<|o_p rfl (Zex Tryd.underlying9 rfl rfl u_0)<|Qm rfl c_i<|o_n) (fun a g hst hb=>?_)
 obtain ⟨z6,hz1,H0⟩:=Ze H0
 refine Zce (fun a w=>∃ (g:G),w=g.w ∧ St 19 [] a g ∧ Base g0 g ∧ (.inr ())=z6) ?_ ?_
 ·rintro a w ⟨g,rfl,hst,hb,rfl⟩
  refine Zm ?_
  refine r_s (T:=[⟨[],_,[],[],[4]⟩]) (F:=[.p 0 0]) hst hb Zb
   (Qa rfl c_b<|o_n) (fun a g hst hb=>?_)
  refine wp_ret ?_
  obtain rfl:=Option.some.inj H0
  exact Zx rfl hst hb (Zf (s:=4)) (hst.at 0 rfl)
 ·refine wp_block ?_
  refine wp_loop_ghost (fun n a w=>∃ (x1:Int) (g:G),w=g.w ∧ St 19 [(1,(pInt .u8 a1)),(2,(Zdm.ptr a0)),(8,(pInt .i64 (a0.has.size:Int))),(9,(pInt .i64 x1))] a g ∧ Base g0 g ∧ Zgj a0 a1 n x1=some z6) (Int.toNat ((a0.has.size:Int) - (0:Int)) + 1) ⟨(0:Int),g,rfl,(hst.pick [0,1,2,3] rfl),hb,hz1⟩ (fun n a w hI=>?_)
  obtain ⟨x1,g,rfl,hst,hb,H1⟩:=hI
  cases n with
  | zero=>exact absurd H1 (by simp [Zgj])
  | succ n =>
   rw [Zgj] at H1
   refine r_s (T:=[⟨[.o 3,.o 2],_,[],[],[10]⟩]) (F:=[.o 0,.o 1,.o 2,.o 3,.p 0 0]) hst hb Zb
    (o_p rfl (Zb8 rfl rfl u_0 u_1)<|o_n) (fun a g hst hb=>?_)
   refine wp_seq ?_
   refine wp_cond_split (hst.bool 4 rfl) (fun hc2=>?_) (fun hc2=>?_)
   ·replace H1:=Zp hc2 H1
    refine wp_skip ?_
    refine Zm ?_
    refine wp_seq ?_
    refine wp_block ?_
    refine r_s (L:=[(1,_),(2,_),(8,_),(9,_)]) (T:=[⟨[.o 3],_,[],[],[11]⟩,⟨[.p 0 0],_,[],[0],[5]⟩]) (F:=[.o 0,.o 1,.p 1 0,.o 2,.o 3]) (hst.pick [0,1,2,3] rfl) hb Zb
     (Qm rfl u_0<|Qa rfl u_0<|o_n) (fun a g hst hb=>?_)
    obtain ⟨b3,h4,H1⟩:=Ze H1
    refine r_s (T:=[⟨[.o 1],_,[],[],[12]⟩,⟨[.p 0 0],_,[],[0],[13]⟩,⟨[.o 2],_,[],[],[14]⟩,⟨[.p 1 0,.p 2 0],_,[],[0,1,2],[15]⟩,⟨[.o 0],_,[],[],[16]⟩,⟨[.p 3 0,.p 4 0],_,[],Lr 5,[17]⟩]) (F:=[.o 0,.o 1,.o 3,.o 4,.p 5 0]) hst hb Zb
     (Qf rfl Zvx u_0<|Ql rfl ty_9 u_0<|Qm rfl u_0<|o_p rfl (Zkz Tryd.underlying9 rfl rfl u_0 u_1 h4)<|Qm rfl u_0<|o_p rfl (Zbc rfl rfl u_0 u_1)<|o_n) (fun a g hst hb=>?_)
    refine wp_cond_split (hst.bool 4 rfl) (fun hc5=>?_) (fun hc5=>?_)
    ·replace H1:=Zp hc5 H1
     refine r_s (L:=[]) (T:=[⟨[],_,[],[],[4]⟩]) (F:=[.p 0 0]) (hst.pick [] rfl) hb Zb
      (Qa rfl c_b<|o_n) (fun a g hst hb=>?_)
     refine wp_ret ?_
     refine Zw ?_
     refine Zj ?_
     refine Zj ?_
     refine Zw ?_
     refine Zj ?_
     refine Zj ?_
     obtain rfl:=Option.some.inj H1
     obtain rfl:=Option.some.inj H0
     exact Zx rfl hst hb (Zf (s:=4)) (hst.at 0 rfl)
    ·replace H1:=Zq hc5 H1
     refine wp_skip ?_
     refine Zbj ?_
     refine Zm ?_
     refine r_g (L:=[(1,_),(2,_),(8,_),(9,_)]) (T:=[⟨[.o 3],_,[],[],[18]⟩,⟨[.p 0 0],_,[],[0],[9]⟩]) (F:=[.o 0,.o 1,.o 2,.p 1 0]) (hst.pick [0,1,2,3] rfl) hb Zb
      (o_p rfl (Zcs rfl rfl u_0 c_i rfl)<|Qm rfl u_0<|o_n) (fun a g hst hb=>?_)
     exact ⟨n,Nat.lt_succ_self _,(IntKind.i64.wrap (x1 + (1:Int))),g,rfl,(hst.pick [0,1,2,3] rfl),hb,H1⟩
   ·replace H1:=Zq hc2 H1
    refine wp_exit ?_
    refine Zca ?_
    refine Zca ?_
    refine Zc5 ?_
    exact ⟨g,rfl,(hst.pick [] rfl),hb,Option.some.inj H1⟩
theorem Zfw (f2:Nat) (C2:List Pd) (hC2:Free C2) (e2_:Zl Tryd.prog f2) (φ2:Zd → Zd → Option Bool) (hφ2:∀ (y0:Zd) (y1:Zd) (r:Bool),φ2 y0 y1=some r → FnOk Tryd.prog f2 ([(Zo.pd y0),(Zo.pd y1)] ++ C2) (Z7 r)) (a0:List Zd) (a1:List Zd) {r:Bool} (h:Zbx a0 a1 φ2=some r):FnOk Tryd.prog 110 [(Zo.sl.pd a0),(Zo.sl.pd a1),(pClo f2 C2 hC2)] (Z7 r):=by
 have H0:=h
 unfold Zbx at H0
 clear h
 refine Zbw (N:=32) Tryd.func110 rfl rfl (Qe rfl) rfl rfl (fun a g0 hst hb=>?_)
 refine r_s (T:=[⟨[],_,[],[],[6]⟩]) (F:=[.o 0,.o 1,.o 2]) hst hb Zb
  (Qa rfl c_b<|o_n) (fun a g hst hb=>?_)
 refine wp_seq ?_
 refine r_s (T:=[⟨[.o 0],_,[],[],[10]⟩,⟨[.p 0 0],_,[],[0],[11]⟩,⟨[.o 1],_,[],[],[12]⟩,⟨[.p 2 0],_,[],[2],[13]⟩,⟨[.p 1 0,.p 3 0],_,[],Lr 4,[14]⟩]) (F:=[.o 0,.o 1,.o 2,.p 4 0]) hst hb Zb
  (Qm rfl u_0<|o_p rfl (Zcc Tryd.underlying23 rfl rfl u_0)<|Qm rfl u_0<|o_p rfl (Zcc Tryd.underlying23 rfl rfl u_0)<|o_p rfl (Zdu rfl rfl u_0 u_1)<|o_n) (fun a g hst hb=>?_)
 refine wp_cond_split (hst.bool 3 rfl) (fun hc1=>?_) (fun hc1=>?_)
 ·replace H0:=Zp hc1 H0
  refine r_s (L:=[]) (T:=[⟨[],_,[],[],[6]⟩]) (F:=[.p 0 0]) (hst.pick [] rfl) hb Zb
   (Qa rfl c_b<|o_n) (fun a g hst hb=>?_)
  refine wp_ret ?_
  refine Zj ?_
  obtain rfl:=Option.some.inj H0
  exact Zx rfl hst hb (Zf (s:=6)) (hst.at 0 rfl)
 ·replace H0:=Zq hc1 H0
  refine wp_skip ?_
  refine Zm ?_
  refine wp_seq ?_
  refine r_s (L:=[(0,_),(1,_),(2,_)]) (T:=[⟨[.o 0],_,[],[],[15]⟩,⟨[.p 0 0],_,[],[0],[16]⟩,⟨[],_,[],[],[17]⟩]) (F:=[.o 1,.o 2,.p 0 0,.p 1 0,.p 2 0]) (hst.pick [0,1,2] rfl) hb Zb
   (Qm rfl u_0<|o_p rfl (Zcc Tryd.underlying23 rfl rfl u_0)<|Qm rfl c_i<|o_n) (fun a g hst hb=>?_)
  obtain ⟨z11,hz1,H0⟩:=Ze H0
  refine Zce (fun a w=>∃ (g:G),w=g.w ∧ St 32 [] a g ∧ Base g0 g ∧ (.inr ())=z11) ?_ ?_
  ·rintro a w ⟨g,rfl,hst,hb,rfl⟩
   refine Zm ?_
   refine r_s (T:=[⟨[],_,[],[],[6]⟩]) (F:=[.p 0 0]) hst hb Zb
    (Qa rfl c_b<|o_n) (fun a g hst hb=>?_)
   refine wp_ret ?_
   obtain rfl:=Option.some.inj H0
   exact Zx rfl hst hb (Zf (s:=6)) (hst.at 0 rfl)
  ·refine wp_block ?_
   refine wp_loop_ghost (fun n a w=>∃ (x2:Int) (g:G),w=g.w ∧ St 32 [(1,(Zo.sl.pd a1)),(2,(pClo f2 C2 hC2)),(15,(Zo.sl.pd a0)),(16,(pInt .i64 (a0.length:Int))),(17,(pInt .i64 x2))] a g ∧ Base g0 g ∧ Zbd a0 a1 φ2 n x2=some z11) (Int.toNat ((a0.length:Int) - (0:Int)) + 1) ⟨(0:Int),g,rfl,(hst.pick [0,1,2,3,4] rfl),hb,hz1⟩ (fun n a w hI=>?_)
   obtain ⟨x2,g,rfl,hst,hb,H1⟩:=hI
   cases n with
   | zero=>exact absurd H1 (by simp [Zbd])
   | succ n =>
    rw [Zbd] at H1
    refine r_s (T:=[⟨[.o 4,.o 3],_,[],[],[18]⟩]) (F:=[.o 0,.o 1,.o 2,.o 3,.o 4,.p 0 0]) hst hb Zb
     (o_p rfl (Zb8 rfl rfl u_0 u_1)<|o_n) (fun a g hst hb=>?_)
    refine wp_seq ?_
    refine wp_cond_split (hst.bool 5 rfl) (fun hc3=>?_) (fun hc3=>?_)
    ·replace H1:=Zp hc3 H1
     refine wp_skip ?_
     refine Zm ?_
     refine wp_seq ?_
     refine wp_block ?_
     obtain ⟨e4,h5,H1⟩:=Ze H1
     refine r_s (L:=[(1,_),(2,_),(15,_),(16,_),(17,_)]) (T:=[⟨[.o 4],_,[],[],[19]⟩,⟨[.o 2,.o 4],_,[],[],[20]⟩,⟨[.p 1 0],_,[],[1],[21]⟩,⟨[],[(8,(pBox Zo 8 (default:Zd)))],[9],[],[8]⟩,⟨[.p 0 0],_,[],Lr 4,[7]⟩,⟨[.p 2 0,.p 3 0],_,[9],Lr 5,[8]⟩]) (F:=[.o 0,.o 1,.p 4 0,.p 5 0,.o 2,.o 3,.o 4]) (hst.pick [0,1,2,3,4] rfl) hb Zb
      (Qm rfl u_0<|o_p rfl (Zbp Tryd.underlying23 Zga rfl rfl u_0 u_1 h5)<|Ql rfl Zd2 u_0<|o_p rfl (Zbt (zs:=[.float .f64 0,.string ByteArray.empty]) (by kernel_rfl) (fun g=>Zgr g) rfl rfl)<|Qa rfl u_0<|o_p rfl (Zcg Zd2 rfl rfl u_1 u_0)<|o_n) (fun a g hst hb=>?_)
     obtain ⟨e6,h7,H1⟩:=Ze H1
     refine r_s (T:=[⟨[.o 0],_,[],[],[22]⟩,⟨[.o 2],_,[],[],[23]⟩,⟨[.p 0 0,.p 1 0],_,[],[0,1],[24]⟩,⟨[.p 2 0],_,[],[0,1,2],[25]⟩,⟨[],[(9,(pBox Zo 9 (default:Zd)))],[10],[],[9]⟩,⟨[.p 3 0,.p 4 0],_,[10],Lr 5,[9]⟩]) (F:=[.o 0,.o 1,.o 3,.p 5 0,.o 4,.o 5,.o 6]) hst hb Zb
      (Qm rfl u_0<|Qm rfl u_0<|o_p rfl (Zbp Tryd.underlying23 Zga rfl rfl u_0 u_1 h7)<|Ql rfl Zd2 u_0<|o_p rfl (Zbt (zs:=[.float .f64 0,.string ByteArray.empty]) (by kernel_rfl) (fun g=>Zgr g) rfl rfl)<|o_p rfl (Zcg Zd2 rfl rfl u_1 u_0)<|o_n) (fun a g hst hb=>?_)
     obtain ⟨r8,h9,H1⟩:=Ze H1
     refine r_s (T:=[⟨[.o 1],_,[],[],[26]⟩,⟨[.o 2],_,[],[],[27]⟩,⟨[.o 3],_,[],[],[28]⟩,⟨[.p 0 0,.p 1 0,.p 2 0],_,[],[0,1,2],[29]⟩,⟨[.p 3 0],_,[],Lr 4,[30]⟩]) (F:=[.o 0,.o 1,.o 4,.o 5,.o 6,.p 4 0]) hst hb Zb
      (Qm rfl u_0<|Ql rfl Zd2 u_0<|Ql rfl Zd2 u_0<|o_p rfl (Znn e2_ (hφ2 _ _ _ h9) rfl rfl u_0 (.cons u_1 (.cons u_2 .nil)))<|Qn rfl u_0<|o_n) (fun a g hst hb=>?_)
     refine wp_cond_split (hst.bool 5 rfl) (fun hc10=>?_) (fun hc10=>?_)
     ·replace H1:=Zp hc10 H1
      refine r_s (L:=[]) (T:=[⟨[],_,[],[],[6]⟩]) (F:=[.p 0 0]) (hst.pick [] rfl) hb Zb
       (Qa rfl c_b<|o_n) (fun a g hst hb=>?_)
      refine wp_ret ?_
      refine Zw ?_
      refine Zj ?_
      refine Zj ?_
      refine Zw ?_
      refine Zj ?_
      refine Zj ?_
      obtain rfl:=Option.some.inj H1
      obtain rfl:=Option.some.inj H0
      exact Zx rfl hst hb (Zf (s:=6)) (hst.at 0 rfl)
     ·replace H1:=Zq hc10 H1
      refine wp_skip ?_
      refine Zbj ?_
      refine Zm ?_
      refine r_g (L:=[(1,_),(2,_),(15,_),(16,_),(17,_)]) (T:=[⟨[.o 4],_,[],[],[31]⟩,⟨[.p 0 0],_,[],[0],[17]⟩]) (F:=[.o 0,.o 1,.o 2,.o 3,.p 1 0]) (hst.pick [0,1,2,3,4] rfl) hb Zb
       (o_p rfl (Zcs rfl rfl u_0 c_i rfl)<|Qm rfl u_0<|o_n) (fun a g hst hb=>?_)
      exact ⟨n,Nat.lt_succ_self _,(IntKind.i64.wrap (x2 + (1:Int))),g,rfl,(hst.pick [0,1,2,3,4] rfl),hb,H1⟩
    ·replace H1:=Zq hc3 H1
     refine wp_exit ?_
     refine Zca ?_
     refine Zca ?_
     refine Zc5 ?_
     exact ⟨g,rfl,(hst.pick [] rfl),hb,Option.some.inj H1⟩
theorem Ztw (a0:Zd) (a1:Zd) {r:Bool} (h:Zhm a0 a1=some r):FnOk Tryd.prog 111 [(Zo.pd a0),(Zo.pd a1)] (Z7 r):=by
 have H0:=h
 unfold Zhm at H0
 clear h
 refine Zbw (N:=17) Tryd.func111 rfl rfl (Qe rfl) rfl rfl (fun a g0 hst hb=>?_)
 refine r_s (T:=[⟨[.o 0],_,[],[],[2]⟩,⟨[.o 1],_,[],[],[3]⟩,⟨[],_,[],[],[4]⟩]) (F:=[.p 0 0,.p 1 0]) hst hb Zb
  (Qb rfl u_0<|Qb rfl u_0<|Qa rfl c_b<|o_n) (fun a g hst hb=>?_)
 obtain ⟨r1,h2,H0⟩:=Ze H0
 refine r_s (T:=⟨[.o 0],_,[],[],[5]⟩ :: ⟨[.p 0 0],_,[],[0],[6]⟩ :: ⟨[.o 1],_,[],[],[7]⟩ :: ⟨[.p 2 0],_,[],[2],[8]⟩ :: ⟨[.p 1 0,.p 3 0],_,[],Lr 4,[9]⟩ :: ⟨[.p 4 0],_,[],Lr 5,[10]⟩ :: ⟨[.p 5 0,.o 0],_,[],Lr 6,[11]⟩ :: ⟨[.p 5 0,.p 6 0],_,[],Lr 7,[12]⟩ :: ⟨[.p 5 0,.o 1],_,[],Lr 6,[13]⟩ :: ⟨[.p 5 0,.p 8 0],_,[],[0,1,2,3,4,5,8],[14]⟩ :: ⟨[.p 5 0,.p 7 0,.p 9 0],_,[],Lr 10,[15]⟩ :: ⟨[.p 5 0,.p 10 0],_,[],Lr 11,[16]⟩ :: ⟨[.p 11 0],_,[],Lr 12,[4]⟩ :: []) (F:=[.p 12 0]) hst hb Zb
  (Qf rfl Zed u_0<|Ql rfl ty_9 u_0<|Qf rfl Zed u_0<|Ql rfl ty_9 u_0<|o_p rfl (Zl1 rfl rfl u_0 u_1)<|Qm rfl u_0<|o_g (Qg_t rfl (fun hG=>Zh Zet rfl rfl u_0))<|o_g (Qg_t rfl (fun hG=>Zn Zcv rfl rfl (Opd.gd hG u_0)))<|o_g (Qg_t rfl (fun hG=>Zh Zet rfl rfl u_0))<|o_g (Qg_t rfl (fun hG=>Zn Zcv rfl rfl (Opd.gd hG u_0)))<|o_g (Qg_t rfl (fun hG=>Zr Zpy (Zir _ _ (Zbs h2 hG)) rfl rfl (.cons (Opd.gd hG u_0) (.cons (Opd.gd hG u_1) .nil))))<|o_p rfl (Zbi rfl rfl u_0 (fun hz=>(Opd.gd hz u_1)))<|Qa rfl u_0<|o_n) (fun a g hst hb=>?_)
 refine wp_ret ?_
 obtain rfl:=Option.some.inj H0
 exact Zx rfl hst hb (Zf (s:=4)) (hst.at 0 rfl)
theorem Zv0 (a0:Za) (a1:Za) {r:Bool} (h:Zlv a0 a1=some r):FnOk Tryd.prog 105 [(Zc.pd a0),(Zc.pd a1)] (Z7 r):=by
 have H0:=h
 unfold Zlv at H0
 clear h
 refine Zbw (N:=59) Tryd.func105 rfl rfl (Qe rfl) rfl rfl (fun a g0 hst hb=>?_)
 refine r_s (T:=[⟨[.o 0],_,[],[],[2]⟩,⟨[.o 1],_,[],[],[3]⟩,⟨[],_,[],[],[4]⟩]) (F:=[.p 0 0,.p 1 0]) hst hb Zb
  (Qb rfl u_0<|Qb rfl u_0<|Qa rfl c_b<|o_n) (fun a g hst hb=>?_)
 obtain ⟨r1,h2,H0⟩:=Ze H0;obtain ⟨r3,h4,H0⟩:=Ze H0
 refine r_s (T:=⟨[.o 0],_,[],[],[5]⟩ :: ⟨[.p 0 0],_,[],[0],[6]⟩ :: ⟨[.o 1],_,[],[],[7]⟩ :: ⟨[.p 2 0],_,[],[2],[8]⟩ :: ⟨[.p 1 0,.p 3 0],_,[],Lr 4,[9]⟩ :: ⟨[.p 4 0],_,[],Lr 5,[10]⟩ :: ⟨[.p 5 0,.o 0],_,[],Lr 6,[11]⟩ :: ⟨[.p 5 0,.p 6 0],_,[],Lr 7,[12]⟩ :: ⟨[.p 5 0,.o 1],_,[],Lr 6,[13]⟩ :: ⟨[.p 5 0,.p 8 0],_,[],[0,1,2,3,4,5,8],[14]⟩ :: ⟨[.p 5 0,.p 7 0,.p 9 0],_,[],Lr 10,[15]⟩ :: ⟨[.p 5 0,.p 10 0],_,[],Lr 11,[16]⟩ :: ⟨[.p 11 0],_,[],Lr 12,[17]⟩ :: ⟨[.p 12 0,.o 0],_,[],Lr 13,[18]⟩ :: ⟨[.p 12 0,.p 13 0],_,[],Lr 14,[19]⟩ :: ⟨[.p 12 0,.o 1],_,[],Lr 13,[20]⟩ :: ⟨[.p 12 0,.p 15 0],_,[],0 :: 1 :: 2 :: 3 :: 4 :: 5 :: 6 :: 7 :: 8 :: 9 :: 10 :: 11 :: 12 :: 15 :: [],[21]⟩ :: ⟨[.p 12 0,.p 14 0,.p 16 0],_,[],Lr 17,[22]⟩ :: ⟨[.p 12 0,.p 17 0],_,[],Lr 18,[23]⟩ :: ⟨[.p 18 0],_,[],Lr 19,[24]⟩ :: ⟨[.p 19 0,.o 0],_,[],Lr 20,[25]⟩ :: ⟨[.p 19 0,.p 20 0],_,[],Lr 21,[26]⟩ :: ⟨[.p 19 0,.o 1],_,[],Lr 20,[27]⟩ :: ⟨[.p 19 0,.p 22 0],_,[],0 :: 1 :: 2 :: 3 :: 4 :: 5 :: 6 :: 7 :: 8 :: 9 :: 10 :: 11 :: 12 :: 13 :: 14 :: 15 :: 16 :: 17 :: 18 :: 19 :: 22 :: [],[28]⟩ :: ⟨[.p 19 0,.p 21 0,.p 23 0],_,[],Lr 24,[29]⟩ :: ⟨[.p 19 0,.p 24 0],_,[],Lr 25,[30]⟩ :: ⟨[.p 25 0],_,[],Lr 26,[31]⟩ :: ⟨[.p 26 0,.o 0],_,[],Lr 27,[32]⟩ :: ⟨[.p 26 0,.p 27 0],_,[],Lr 28,[33]⟩ :: ⟨[.p 26 0,.o 1],_,[],Lr 27,[34]⟩ :: ⟨[.p 26 0,.p 29 0],_,[],0 :: 1 :: 2 :: 3 :: 4 :: 5 :: 6 :: 7 :: 8 :: 9 :: 10 :: 11 :: 12 :: 13 :: 14 :: 15 :: 16 :: 17 :: 18 :: 19 :: 20 :: 21 :: 22 :: 23 :: 24 :: 25 :: 26 :: 29 :: [],[35]⟩ :: ⟨[.p 26 0,.p 28 0,.p 30 0],_,[],Lr 31,[36]⟩ :: ⟨[.p 26 0,.p 31 0],_,[],Lr 32,[37]⟩ :: ⟨[.p 32 0],_,[],Lr 33,[38]⟩ :: ⟨[.p 33 0,.o 0],_,[],Lr 34,[39]⟩ :: ⟨[.p 33 0,.p 34 0],_,[],Lr 35,[40]⟩ :: ⟨[.p 33 0,.o 1],_,[],Lr 34,[41]⟩ :: ⟨[.p 33 0,.p 36 0],_,[],0 :: 1 :: 2 :: 3 :: 4 :: 5 :: 6 :: 7 :: 8 :: 9 :: 10 :: 11 :: 12 :: 13 :: 14 :: 15 :: 16 :: 17 :: 18 :: 19 :: 20 :: 21 :: 22 :: 23 :: 24 :: 25 :: 26 :: 27 :: 28 :: 29 :: 30 :: 31 :: 32 :: 33 :: 36 :: [],[42]⟩ :: ⟨[.p 33 0,.p 35 0,.p 37 0],_,[],Lr 38,[43]⟩ :: ⟨[.p 33 0,.p 38 0],_,[],Lr 39,[44]⟩ :: ⟨[.p 39 0],_,[],Lr 40,[45]⟩ :: ⟨[.p 40 0,.o 0],_,[],Lr 41,[46]⟩ :: ⟨[.p 40 0,.p 41 0],_,[],Lr 42,[47]⟩ :: ⟨[.p 40 0,.o 1],_,[],Lr 41,[48]⟩ :: ⟨[.p 40 0,.p 43 0],_,[],0 :: 1 :: 2 :: 3 :: 4 :: 5 :: 6 :: 7 :: 8 :: 9 :: 10 :: 11 :: 12 :: 13 :: 14 :: 15 :: 16 :: 17 :: 18 :: 19 :: 20 :: 21 :: 22 :: 23 :: 24 :: 25 :: 26 :: 27 :: 28 :: 29 :: 30 :: 31 :: 32 :: 33 :: 34 :: 35 :: 36 :: 37 :: 38 :: 39 :: 40 :: 43 :: [],[49]⟩ :: ⟨[.p 40 0,.p 42 0,.p 44 0],_,[],Lr 45,[50]⟩ :: ⟨[.p 40 0,.p 45 0],_,[],Lr 46,[51]⟩ :: ⟨[.p 46 0],_,[],Lr 47,[52]⟩ :: ⟨[.p 47 0,.o 0],_,[],Lr 48,[53]⟩ :: ⟨[.p 47 0,.p 48 0],_,[],Lr 49,[54]⟩ :: ⟨[.p 47 0,.o 1],_,[],Lr 48,[55]⟩ :: ⟨[.p 47 0,.p 50 0],_,[],0 :: 1 :: 2 :: 3 :: 4 :: 5 :: 6 :: 7 :: 8 :: 9 :: 10 :: 11 :: 12 :: 13 :: 14 :: 15 :: 16 :: 17 :: 18 :: 19 :: 20 :: 21 :: 22 :: 23 :: 24 :: 25 :: 26 :: 27 :: 28 :: 29 :: 30 :: 31 :: 32 :: 33 :: 34 :: 35 :: 36 :: 37 :: 38 :: 39 :: 40 :: 41 :: 42 :: 43 :: 44 :: 45 :: 46 :: 47 :: 50 :: [],[56]⟩ :: ⟨[.p 47 0,.p 49 0,.p 51 0],_,[],Lr 52,[57]⟩ :: ⟨[.p 47 0,.p 52 0],_,[],Lr 53,[58]⟩ :: ⟨[.p 53 0],_,[],Lr 54,[4]⟩ :: []) (F:=[.p 54 0]) hst hb Zb
  (Qf rfl Zdr u_0<|Ql rfl ty_3 u_0<|Qf rfl Zdr u_0<|Ql rfl ty_3 u_0<|o_p rfl (Zbc rfl rfl u_0 u_1)<|Qm rfl u_0<|o_g (Qg_t rfl (fun hG=>Zh Zcl rfl rfl u_0))<|o_g (Qg_t rfl (fun hG=>Zn ty_2 rfl rfl (Opd.gd hG u_0)))<|o_g (Qg_t rfl (fun hG=>Zh Zcl rfl rfl u_0))<|o_g (Qg_t rfl (fun hG=>Zn ty_2 rfl rfl (Opd.gd hG u_0)))<|o_g (Qg_t rfl (fun hG=>Zbc rfl rfl (Opd.gd hG u_0) (Opd.gd hG u_1)))<|o_p rfl (Zbi rfl rfl u_0 (fun hz=>(Opd.gd hz u_1)))<|Qm rfl u_0<|o_g (Qg_t rfl (fun hG=>Zh Zg6 rfl rfl u_0))<|o_g (Qg_t rfl (fun hG=>Zn ty_2 rfl rfl (Opd.gd hG u_0)))<|o_g (Qg_t rfl (fun hG=>Zh Zg6 rfl rfl u_0))<|o_g (Qg_t rfl (fun hG=>Zn ty_2 rfl rfl (Opd.gd hG u_0)))<|o_g (Qg_t rfl (fun hG=>Zbc rfl rfl (Opd.gd hG u_0) (Opd.gd hG u_1)))<|o_p rfl (Zbi rfl rfl u_0 (fun hz=>(Opd.gd hz u_1)))<|Qm rfl u_0<|o_g (Qg_t rfl (fun hG=>Zh Zg8 rfl rfl u_0))<|o_g (Qg_t rfl (fun hG=>Zn ty_2 rfl rfl (Opd.gd hG u_0)))<|o_g (Qg_t rfl (fun hG=>Zh Zg8 rfl rfl u_0))<|o_g (Qg_t rfl (fun hG=>Zn ty_2 rfl rfl (Opd.gd hG u_0)))<|o_g (Qg_t rfl (fun hG=>Zbc rfl rfl (Opd.gd hG u_0) (Opd.gd hG u_1)))<|o_p rfl (Zbi rfl rfl u_0 (fun hz=>(Opd.gd hz u_1)))<|Qm rfl u_0<|o_g (Qg_t rfl (fun hG=>Zh Zfd rfl rfl u_0))<|o_g (Qg_t rfl (fun hG=>Zn Zcv rfl rfl (Opd.gd hG u_0)))<|o_g (Qg_t rfl (fun hG=>Zh Zfd rfl rfl u_0))<|o_g (Qg_t rfl (fun hG=>Zn Zcv rfl rfl (Opd.gd hG u_0)))<|o_g (Qg_t rfl (fun hG=>Zr Zpy (Zir _ _ (Zbs h2 hG)) rfl rfl (.cons (Opd.gd hG u_0) (.cons (Opd.gd hG u_1) .nil))))<|o_p rfl (Zbi rfl rfl u_0 (fun hz=>(Opd.gd hz u_1)))<|Qm rfl u_0<|o_g (Qg_t rfl (fun hG=>Zh Zfb rfl rfl u_0))<|o_g (Qg_t rfl (fun hG=>Zn ty_3 rfl rfl (Opd.gd hG u_0)))<|o_g (Qg_t rfl (fun hG=>Zh Zfb rfl rfl u_0))<|o_g (Qg_t rfl (fun hG=>Zn ty_3 rfl rfl (Opd.gd hG u_0)))<|o_g (Qg_t rfl (fun hG=>Zbc rfl rfl (Opd.gd hG u_0) (Opd.gd hG u_1)))<|o_p rfl (Zbi rfl rfl u_0 (fun hz=>(Opd.gd hz u_1)))<|Qm rfl u_0<|o_g (Qg_t rfl (fun hG=>Zh Zia rfl rfl u_0))<|o_g (Qg_t rfl (fun hG=>Zn ty_9 rfl rfl (Opd.gd hG u_0)))<|o_g (Qg_t rfl (fun hG=>Zh Zia rfl rfl u_0))<|o_g (Qg_t rfl (fun hG=>Zn ty_9 rfl rfl (Opd.gd hG u_0)))<|o_g (Qg_t rfl (fun hG=>Zl1 rfl rfl (Opd.gd hG u_0) (Opd.gd hG u_1)))<|o_p rfl (Zbi rfl rfl u_0 (fun hz=>(Opd.gd hz u_1)))<|Qm rfl u_0<|o_g (Qg_t rfl (fun hG=>Zh Zb5 rfl rfl u_0))<|o_g (Qg_t rfl (fun hG=>Zn Zc4 rfl rfl (Opd.gd hG u_0)))<|o_g (Qg_t rfl (fun hG=>Zh Zb5 rfl rfl u_0))<|o_g (Qg_t rfl (fun hG=>Zn Zc4 rfl rfl (Opd.gd hG u_0)))<|o_g (Qg_t rfl (fun hG=>Zr Z6g (Zfw 111 [] rfl Z5t (fun y0 y1=>Zhm y0 y1) (fun y0 y1 r h=>Ztw y0 y1 h) _ _ (Zbs h4 hG)) rfl rfl (.cons (Opd.gd hG u_0) (.cons (Opd.gd hG u_1) (.cons Opd.fnc .nil)))))<|o_p rfl (Zbi rfl rfl u_0 (fun hz=>(Opd.gd hz u_1)))<|Qa rfl u_0<|o_n) (fun a g hst hb=>?_)
 refine wp_ret ?_
 obtain rfl:=Option.some.inj H0
 exact Zx rfl hst hb (Zf (s:=4)) (hst.at 0 rfl)
theorem Zwg (a0:Zg) (a1:Zcn) {r:Bool} (h:Znp a0 a1=some r):FnOk Tryd.prog 78 [(Z1.pd a0),(Zdm.pd a1)] (Z7 r):=by
 have H0:=h
 unfold Znp at H0
 clear h
 refine Zbw (N:=40) Tryd.func78 rfl rfl (Qe rfl) rfl rfl (fun a g0 hst hb=>?_)
 refine r_s (T:=[⟨[.o 0],_,[],[],[2]⟩,⟨[.o 1],_,[],[],[3]⟩,⟨[],_,[],[],[4]⟩]) (F:=[.p 0 0,.p 1 0]) hst hb Zb
  (Qb rfl u_0<|Qb rfl u_0<|Qa rfl c_b<|o_n) (fun a g hst hb=>?_)
 obtain ⟨r1,h2,H0⟩:=Ze H0;obtain ⟨r3,h4,H0⟩:=Ze H0;obtain ⟨r5,h6,H0⟩:=Ze H0;obtain ⟨r7,h8,H0⟩:=Ze H0;obtain ⟨r9,h10,H0⟩:=Ze H0;obtain ⟨r11,h12,H0⟩:=Ze H0
 refine r_s (T:=⟨[.o 1],_,[],[],[5]⟩ :: ⟨[.p 0 0],_,[],[0],[6]⟩ :: ⟨[.p 1 0],_,[],[0,1],[7]⟩ :: ⟨[.p 2 0,.o 0],_,[],[0,1,2],[8]⟩ :: ⟨[.p 2 0,.p 3 0],_,[],Lr 4,[9]⟩ :: ⟨[.p 2 0,.p 4 0],_,[],Lr 5,[10]⟩ :: ⟨[.p 2 0,.p 5 0],_,[],Lr 6,[11]⟩ :: ⟨[.p 6 0],_,[],Lr 7,[12]⟩ :: ⟨[.p 7 0,.o 1],_,[],Lr 8,[13]⟩ :: ⟨[.p 7 0,.p 8 0],_,[],Lr 9,[14]⟩ :: ⟨[.p 7 0,.p 9 0],_,[],Lr 10,[15]⟩ :: ⟨[.p 10 0,.o 0],_,[],Lr 11,[16]⟩ :: ⟨[.p 10 0,.p 11 0],_,[],Lr 12,[17]⟩ :: ⟨[.p 10 0,.p 12 0],_,[],Lr 13,[18]⟩ :: ⟨[.p 7 0,.p 10 0,.p 13 0],_,[],Lr 14,[19]⟩ :: ⟨[.p 7 0,.p 14 0],_,[],Lr 15,[20]⟩ :: ⟨[.p 15 0],_,[],Lr 16,[21]⟩ :: ⟨[.p 16 0,.o 1],_,[],Lr 17,[22]⟩ :: ⟨[.p 16 0,.p 17 0],_,[],Lr 18,[23]⟩ :: ⟨[.p 16 0,.p 18 0],_,[],Lr 19,[24]⟩ :: ⟨[.p 19 0,.o 0],_,[],Lr 20,[25]⟩ :: ⟨[.p 19 0,.p 20 0],_,[],Lr 21,[26]⟩ :: ⟨[.p 19 0,.p 21 0],_,[],Lr 22,[27]⟩ :: ⟨[.p 16 0,.p 19 0,.p 22 0],_,[],Lr 23,[28]⟩ :: ⟨[.p 16 0,.p 23 0],_,[],Lr 24,[29]⟩ :: ⟨[.p 24 0],_,[],Lr 25,[30]⟩ :: ⟨[.p 25 0,.o 1],_,[],Lr 26,[31]⟩ :: ⟨[.p 25 0,.p 26 0],_,[],Lr 27,[32]⟩ :: ⟨[.p 25 0,.p 27 0],_,[],Lr 28,[33]⟩ :: ⟨[.p 28 0,.o 0],_,[],Lr 29,[34]⟩ :: ⟨[.p 28 0,.p 29 0],_,[],Lr 30,[35]⟩ :: ⟨[.p 28 0],_,[],Lr 29,[36]⟩ :: ⟨[.p 28 0,.p 30 0,.p 31 0],_,[],Lr 32,[37]⟩ :: ⟨[.p 25 0,.p 28 0,.p 32 0],_,[],Lr 33,[38]⟩ :: ⟨[.p 25 0,.p 33 0],_,[],Lr 34,[39]⟩ :: ⟨[.p 34 0],_,[],Lr 35,[4]⟩ :: []) (F:=[.p 35 0]) hst hb Zb
  (Ql rfl Zim u_0<|o_p rfl (Zr Zru (Zhw _ _ h2) rfl rfl (.cons u_0 (.cons c_i .nil)))<|Qm rfl u_0<|o_g (Qg_f rfl (fun hG=>Zh Zdf rfl rfl u_0))<|o_g (Qg_f rfl (fun hG=>Zn ty_2 rfl rfl (Opd.gd hG u_0)))<|o_g (Qg_f rfl (fun hG=>Zbc rfl rfl (Opd.gd hG u_0) c_i))<|o_p rfl (Zbk rfl rfl u_0 (fun hz=>(Opd.gd (bNF hz) u_1)))<|Qm rfl u_0<|o_g (Qg_t rfl (fun hG=>Zn Zim rfl rfl u_0))<|o_g (Qg_t rfl (fun hG=>Zr Zru (Zhw _ _ (Zbs h4 hG)) rfl rfl (.cons (Opd.gd hG u_0) (.cons c_i .nil))))<|o_g (Qg_t rfl (fun hG=>Z0 rfl rfl (Opd.gd hG u_0)))<|o_g (Qg_fi rfl (fun hG=>Zh Zk0 rfl rfl u_0))<|o_g (Qg_fi rfl (fun hG=>Zn Zcv rfl rfl (Opd.gd hG u_0)))<|o_g (Qg_fi rfl (fun hG=>Zr Zpy (Zir _ _ (Zbs h6 hG)) rfl rfl (.cons (Opd.gd hG u_0) (.cons c_f .nil))))<|o_g (Qg_t rfl (fun hG=>Zbk rfl rfl (Opd.gd hG u_0) (fun hz=>(Opd.gd (bA hG (bNF hz)) u_1))))<|o_p rfl (Zbi rfl rfl u_0 (fun hz=>(Opd.gd hz u_1)))<|Qm rfl u_0<|o_g (Qg_t rfl (fun hG=>Zn Zim rfl rfl u_0))<|o_g (Qg_t rfl (fun hG=>Zr Zru (Zhw _ _ (Zbs h8 hG)) rfl rfl (.cons (Opd.gd hG u_0) (.cons c_i .nil))))<|o_g (Qg_t rfl (fun hG=>Z0 rfl rfl (Opd.gd hG u_0)))<|o_g (Qg_fi rfl (fun hG=>Zh Zf7 rfl rfl u_0))<|o_g (Qg_fi rfl (fun hG=>Zn ty_9 rfl rfl (Opd.gd hG u_0)))<|o_g (Qg_fi rfl (fun hG=>Zl1 rfl rfl (Opd.gd hG u_0) c_s))<|o_g (Qg_t rfl (fun hG=>Zbk rfl rfl (Opd.gd hG u_0) (fun hz=>(Opd.gd (bA hG (bNF hz)) u_1))))<|o_p rfl (Zbi rfl rfl u_0 (fun hz=>(Opd.gd hz u_1)))<|Qm rfl u_0<|o_g (Qg_t rfl (fun hG=>Zn Zim rfl rfl u_0))<|o_g (Qg_t rfl (fun hG=>Zr Zru (Zhw _ _ (Zbs h10 hG)) rfl rfl (.cons (Opd.gd hG u_0) (.cons c_i .nil))))<|o_g (Qg_t rfl (fun hG=>Z0 rfl rfl (Opd.gd hG u_0)))<|o_g (Qg_fi rfl (fun hG=>Zh Zlr rfl rfl u_0))<|o_g (Qg_fi rfl (fun hG=>Zn Z8 rfl rfl (Opd.gd hG u_0)))<|o_g (Qg_fi rfl (fun hG=>Zm9 rfl rfl ))<|o_g (Qg_fi rfl (fun hG=>Zr Z57 (Zv0 _ _ (Zbs h12 hG)) rfl rfl (.cons (Opd.gd hG u_0) (.cons (Opd.gd hG u_1) .nil))))<|o_g (Qg_t rfl (fun hG=>Zbk rfl rfl (Opd.gd hG u_0) (fun hz=>(Opd.gd (bA hG (bNF hz)) u_1))))<|o_p rfl (Zbi rfl rfl u_0 (fun hz=>(Opd.gd hz u_1)))<|Qa rfl u_0<|o_n) (fun a g hst hb=>?_)
 refine wp_ret ?_
 obtain rfl:=Option.some.inj H0
 exact Zx rfl hst hb (Zf (s:=4)) (hst.at 0 rfl)
theorem Zv7 (a0:Zcn) {r:Int} (h:Znr a0=some r):FnOk Tryd.prog 79 [(Zdm.pd a0)] (pInt .i64 r):=by
 have H0:=h
 unfold Znr at H0
 clear h
 refine Zbw (N:=6) Tryd.func79 rfl rfl (Qe rfl) rfl rfl (fun a g0 hst hb=>?_)
 refine r_s (T:=[⟨[.o 0],_,[],[],[1]⟩,⟨[],_,[],[],[2]⟩]) (F:=[.p 0 0]) hst hb Zb
  (Qb rfl u_0<|Qa rfl c_i<|o_n) (fun a g hst hb=>?_)
 refine wp_seq ?_
 refine r_s (T:=[⟨[.o 0],_,[],[],[3]⟩,⟨[.p 0 0],_,[],[0],[4]⟩,⟨[.p 1 0],_,[],[0,1],[5]⟩]) (F:=[.p 2 0]) hst hb Zb
  (Qf rfl Zuz u_0<|Ql rfl ty_3 u_0<|o_p rfl (Zbc rfl rfl u_0 c_i)<|o_n) (fun a g hst hb=>?_)
 refine wp_cond_split (hst.bool 0 rfl) (fun hc1=>?_) (fun hc1=>?_)
 ·replace H0:=Zp hc1 H0
  refine r_s (L:=[]) (T:=[⟨[],_,[],[],[2]⟩]) (F:=[.p 0 0]) (hst.pick [] rfl) hb Zb
   (Qa rfl c_i<|o_n) (fun a g hst hb=>?_)
  refine wp_ret ?_
  refine Zj ?_
  obtain rfl:=Option.some.inj H0
  exact Zx rfl hst hb (Zf (s:=2)) (hst.at 0 rfl)
 ·replace H0:=Zq hc1 H0
  refine wp_skip ?_
  refine Zm ?_
  refine r_s (L:=[]) (T:=[⟨[],_,[],[],[2]⟩]) (F:=[.p 0 0]) (hst.pick [] rfl) hb Zb
   (Qa rfl c_i<|o_n) (fun a g hst hb=>?_)
  refine wp_ret ?_
  obtain rfl:=Option.some.inj H0
  exact Zx rfl hst hb (Zf (s:=2)) (hst.at 0 rfl)
theorem Zox (a0:Zg) {r:Int} (h:Zeg a0=some r):FnOk Tryd.prog 58 [(Z1.pd a0)] (pInt .i64 r):=by
 have H0:=h
 unfold Zeg at H0
 clear h
 refine Zbw (N:=64) Tryd.func58 rfl rfl (Qe rfl) rfl rfl (fun a g0 hst hb=>?_)
 refine r_s (T:=[⟨[.o 0],_,[],[],[1]⟩,⟨[],_,[],[],[2]⟩]) (F:=[.p 0 0]) hst hb Zb
  (Qb rfl u_0<|Qa rfl c_i<|o_n) (fun a g hst hb=>?_)
 obtain ⟨r1,h2,H0⟩:=Ze H0
 refine r_s (T:=[⟨[.o 0],_,[],[],[4]⟩,⟨[.p 0 0],_,[],[0],[5]⟩,⟨[.p 1 0],_,[],[0,1],[6]⟩,⟨[],[(3,(pBox Zdm 3 (default:Zcn)))],[4],[],[3]⟩,⟨[.p 2 0,.p 3 0],_,[4],Lr 4,[3]⟩]) (F:=[.o 0,.p 4 0]) hst hb Zb
  (Qf rfl Zcp u_0<|Ql rfl ty_3 u_0<|o_p rfl (Zr Z2v (Zsy _ h2) rfl rfl (.cons u_0 .nil))<|o_p rfl (Zbt (zs:=[.string ByteArray.empty,.int .i64 0,.string ByteArray.empty]) (by kernel_rfl) (fun g=>Zqf g) rfl rfl)<|o_p rfl (Zcg Zim rfl rfl u_1 u_0)<|o_n) (fun a g hst hb=>?_)
 refine wp_seq ?_
 refine wp_block ?_
 refine r_s (T:=[⟨[.o 1],_,[],[],[8]⟩,⟨[.p 0 0],_,[],[0],[9]⟩,⟨[.p 1 0],_,[],[0,1],[10]⟩,⟨[.p 2 0],_,[],[0,1,2],[7]⟩]) (F:=[.o 0,.o 1,.p 3 0]) hst hb Zb
  (Qf rfl Z0m u_0<|Ql rfl ty_9 u_0<|o_p rfl (Zl1 rfl rfl u_0 c_s)<|Qa rfl u_0<|o_n) (fun a g hst hb=>?_)
 refine wp_cond_split (hst.bool 2 rfl) (fun hc3=>?_) (fun hc3=>?_)
 ·replace H0:=Zp hc3 H0
  refine r_s (L:=[]) (T:=[⟨[],_,[],[],[2]⟩]) (F:=[.p 0 0]) (hst.pick [] rfl) hb Zb
   (Qa rfl c_i<|o_n) (fun a g hst hb=>?_)
  refine wp_ret ?_
  refine Zw ?_
  refine Zj ?_
  obtain rfl:=Option.some.inj H0
  exact Zx rfl hst hb (Zf (s:=2)) (hst.at 0 rfl)
 ·replace H0:=Zq hc3 H0
  refine r_s (L:=[(1,_),(3,_)]) (T:=[⟨[.o 0],_,[],[],[12]⟩,⟨[.p 0 0],_,[],[0],[13]⟩,⟨[.p 1 0],_,[],[0,1],[14]⟩,⟨[.p 2 0],_,[],[0,1,2],[15]⟩,⟨[.p 3 0,.o 0],_,[],Lr 4,[16]⟩,⟨[.p 3 0,.p 4 0],_,[],Lr 5,[17]⟩,⟨[.p 3 0,.p 5 0],_,[],Lr 6,[18]⟩,⟨[.p 3 0,.p 6 0],_,[],Lr 7,[19]⟩,⟨[.p 3 0,.p 7 0],_,[],Lr 8,[20]⟩,⟨[.p 8 0],_,[],Lr 9,[11]⟩]) (F:=[.o 0,.o 1,.p 9 0]) (hst.pick [0,1] rfl) hb Zb
   (Qf rfl Zm2 u_0<|Ql rfl ty_9 u_0<|o_p rfl (Zl1 rfl rfl u_0 c_s)<|Qm rfl u_0<|o_g (Qg_f rfl (fun hG=>Zh Zm2 rfl rfl u_0))<|o_g (Qg_f rfl (fun hG=>Zn ty_9 rfl rfl (Opd.gd hG u_0)))<|o_g (Qg_f rfl (fun hG=>Zex Tryd.underlying9 rfl rfl (Opd.gd hG u_0)))<|o_g (Qg_f rfl (fun hG=>Zcf rfl rfl (Opd.gd hG u_0) c_i))<|o_p rfl (Zbk rfl rfl u_0 (fun hz=>(Opd.gd (bNF hz) u_1)))<|Qa rfl u_0<|o_n) (fun a g hst hb=>?_)
  refine wp_cond_split (hst.bool 2 rfl) (fun hc4=>?_) (fun hc4=>?_)
  ·replace H0:=Zp hc4 H0
   refine r_s (L:=[]) (T:=[⟨[],_,[],[],[2]⟩]) (F:=[.p 0 0]) (hst.pick [] rfl) hb Zb
    (Qa rfl c_i<|o_n) (fun a g hst hb=>?_)
   refine wp_ret ?_
   refine Zw ?_
   refine Zj ?_
   obtain rfl:=Option.some.inj H0
   exact Zx rfl hst hb (Zf (s:=2)) (hst.at 0 rfl)
  ·replace H0:=Zq hc4 H0
   obtain ⟨r5,h6,H0⟩:=Ze H0
   refine r_s (L:=[(1,_),(3,_)]) (T:=[⟨[.o 0],_,[],[],[22]⟩,⟨[.o 1],_,[],[],[23]⟩,⟨[.p 0 0,.p 1 0],_,[],[0,1],[24]⟩,⟨[.p 2 0],_,[],[0,1,2],[25]⟩,⟨[.p 3 0],_,[],Lr 4,[21]⟩]) (F:=[.o 0,.o 1,.p 4 0]) (hst.pick [0,1] rfl) hb Zb
    (Ql rfl Zg3 u_0<|Ql rfl Zim u_0<|o_p rfl (Zr Z7d (Zwg _ _ h6) rfl rfl (.cons u_0 (.cons u_1 .nil)))<|Qn rfl u_0<|Qa rfl u_0<|o_n) (fun a g hst hb=>?_)
   refine wp_cond_split (hst.bool 2 rfl) (fun hc7=>?_) (fun hc7=>?_)
   ·replace H0:=Zp hc7 H0
    refine r_s (L:=[]) (T:=[⟨[],_,[],[],[2]⟩]) (F:=[.p 0 0]) (hst.pick [] rfl) hb Zb
     (Qa rfl c_i<|o_n) (fun a g hst hb=>?_)
    refine wp_ret ?_
    refine Zw ?_
    refine Zj ?_
    obtain rfl:=Option.some.inj H0
    exact Zx rfl hst hb (Zf (s:=2)) (hst.at 0 rfl)
   ·replace H0:=Zq hc7 H0
    obtain ⟨r8,h9,H0⟩:=Ze H0
    refine r_s (L:=[(1,_),(3,_)]) (T:=[⟨[.o 0],_,[],[],[27]⟩,⟨[.p 0 0],_,[],[0],[28]⟩,⟨[.p 1 0],_,[],[0,1],[29]⟩,⟨[.o 1],_,[],[],[30]⟩,⟨[.p 3 0],_,[],[3],[31]⟩,⟨[.p 2 0,.p 4 0],_,[],Lr 5,[32]⟩,⟨[.p 5 0],_,[],Lr 6,[26]⟩]) (F:=[.o 0,.p 6 0]) (hst.pick [0,1] rfl) hb Zb
     (Qf rfl Zf7 u_0<|Ql rfl ty_9 u_0<|o_p rfl (Zex Tryd.underlying9 rfl rfl u_0)<|Ql rfl Zim u_0<|o_p rfl (Zr Z61 (Zv7 _ h9) rfl rfl (.cons u_0 .nil))<|o_p rfl (Zcf rfl rfl u_0 u_1)<|Qa rfl u_0<|o_n) (fun a g hst hb=>?_)
    refine wp_cond_split (hst.bool 1 rfl) (fun hc10=>?_) (fun hc10=>?_)
    ·replace H0:=Zp hc10 H0
     refine r_s (L:=[]) (T:=[⟨[],_,[],[],[2]⟩]) (F:=[.p 0 0]) (hst.pick [] rfl) hb Zb
      (Qa rfl c_i<|o_n) (fun a g hst hb=>?_)
     refine wp_ret ?_
     refine Zw ?_
     refine Zj ?_
     obtain rfl:=Option.some.inj H0
     exact Zx rfl hst hb (Zf (s:=2)) (hst.at 0 rfl)
    ·replace H0:=Zq hc10 H0
     refine r_s (L:=[(1,_)]) (T:=⟨[.o 0],_,[],[],[34]⟩ :: ⟨[.p 0 0],_,[],[0],[35]⟩ :: ⟨[.p 1 0],_,[],[0,1],[36]⟩ :: ⟨[.p 2 0],_,[],[0,1,2],[37]⟩ :: ⟨[.p 3 0,.o 0],_,[],Lr 4,[38]⟩ :: ⟨[.p 3 0,.p 4 0],_,[],Lr 5,[39]⟩ :: ⟨[.p 3 0,.p 5 0],_,[],Lr 6,[40]⟩ :: ⟨[.p 3 0,.p 6 0],_,[],Lr 7,[41]⟩ :: ⟨[.p 7 0],_,[],Lr 8,[42]⟩ :: ⟨[.p 8 0,.o 0],_,[],Lr 9,[43]⟩ :: ⟨[.p 8 0,.p 9 0],_,[],Lr 10,[44]⟩ :: ⟨[.p 8 0,.p 10 0],_,[],Lr 11,[45]⟩ :: ⟨[.p 8 0,.p 11 0],_,[],Lr 12,[46]⟩ :: ⟨[.p 12 0,.o 0],_,[],Lr 13,[47]⟩ :: ⟨[.p 12 0,.p 13 0],_,[],Lr 14,[48]⟩ :: ⟨[.p 12 0,.p 14 0],_,[],Lr 15,[49]⟩ :: ⟨[.p 8 0,.p 12 0,.p 15 0],_,[],Lr 16,[50]⟩ :: ⟨[.p 8 0,.p 16 0],_,[],Lr 17,[51]⟩ :: ⟨[.p 17 0],_,[],Lr 18,[33]⟩ :: []) (F:=[.o 0,.p 18 0]) (hst.pick [0] rfl) hb Zb
      (Qf rfl Zcp u_0<|Ql rfl ty_3 u_0<|o_p rfl (Zbc rfl rfl u_0 c_i)<|Qm rfl u_0<|o_g (Qg_f rfl (fun hG=>Zh Zcp rfl rfl u_0))<|o_g (Qg_f rfl (fun hG=>Zn ty_3 rfl rfl (Opd.gd hG u_0)))<|o_g (Qg_f rfl (fun hG=>Zbc rfl rfl (Opd.gd hG u_0) c_i))<|o_p rfl (Zbk rfl rfl u_0 (fun hz=>(Opd.gd (bNF hz) u_1)))<|Qm rfl u_0<|o_g (Qg_t rfl (fun hG=>Zh Zdf rfl rfl u_0))<|o_g (Qg_t rfl (fun hG=>Zn ty_2 rfl rfl (Opd.gd hG u_0)))<|o_g (Qg_t rfl (fun hG=>Zb8 rfl rfl (Opd.gd hG u_0) c_i))<|o_g (Qg_t rfl (fun hG=>Z0 rfl rfl (Opd.gd hG u_0)))<|o_g (Qg_fi rfl (fun hG=>Zh Zdf rfl rfl u_0))<|o_g (Qg_fi rfl (fun hG=>Zn ty_2 rfl rfl (Opd.gd hG u_0)))<|o_g (Qg_fi rfl (fun hG=>Zcf rfl rfl (Opd.gd hG u_0) c_i))<|o_g (Qg_t rfl (fun hG=>Zbk rfl rfl (Opd.gd hG u_0) (fun hz=>(Opd.gd (bA hG (bNF hz)) u_1))))<|o_p rfl (Zbi rfl rfl u_0 (fun hz=>(Opd.gd hz u_1)))<|Qa rfl u_0<|o_n) (fun a g hst hb=>?_)
     refine wp_cond_split (hst.bool 1 rfl) (fun hc11=>?_) (fun hc11=>?_)
     ·replace H0:=Zp hc11 H0
      refine r_s (L:=[]) (T:=[⟨[],_,[],[],[2]⟩]) (F:=[.p 0 0]) (hst.pick [] rfl) hb Zb
       (Qa rfl c_i<|o_n) (fun a g hst hb=>?_)
      refine wp_ret ?_
      refine Zw ?_
      refine Zj ?_
      obtain rfl:=Option.some.inj H0
      exact Zx rfl hst hb (Zf (s:=2)) (hst.at 0 rfl)
     ·replace H0:=Zq hc11 H0
      obtain ⟨r12,h13,H0⟩:=Ze H0
      refine r_s (L:=[(1,_)]) (T:=[⟨[.o 0],_,[],[],[53]⟩,⟨[.p 0 0],_,[],[0],[54]⟩,⟨[.p 1 0],_,[],[0,1],[55]⟩,⟨[.p 2 0],_,[],[0,1,2],[56]⟩,⟨[.p 3 0],_,[],Lr 4,[52]⟩]) (F:=[.o 0,.p 4 0]) (hst.pick [0] rfl) hb Zb
       (Qf rfl Zk0 u_0<|Ql rfl Zcv u_0<|o_p rfl (Zr Zyh (Zle _ h13) rfl rfl (.cons u_0 .nil))<|Qn rfl u_0<|Qa rfl u_0<|o_n) (fun a g hst hb=>?_)
      refine wp_cond_split (hst.bool 1 rfl) (fun hc14=>?_) (fun hc14=>?_)
      ·replace H0:=Zp hc14 H0
       refine r_s (L:=[]) (T:=[⟨[],_,[],[],[2]⟩]) (F:=[.p 0 0]) (hst.pick [] rfl) hb Zb
        (Qa rfl c_i<|o_n) (fun a g hst hb=>?_)
       refine wp_ret ?_
       refine Zw ?_
       refine Zj ?_
       obtain rfl:=Option.some.inj H0
       exact Zx rfl hst hb (Zf (s:=2)) (hst.at 0 rfl)
      ·replace H0:=Zq hc14 H0
       refine r_s (L:=[(1,_)]) (T:=[⟨[.o 0],_,[],[],[58]⟩,⟨[.p 0 0],_,[],[0],[59]⟩,⟨[.p 1 0],_,[],[0,1],[60]⟩,⟨[.p 2 0],_,[],[0,1,2],[57]⟩]) (F:=[.o 0,.p 3 0]) (hst.pick [0] rfl) hb Zb
        (Qf rfl Zcp u_0<|Ql rfl ty_3 u_0<|o_p rfl (Zbc rfl rfl u_0 c_i)<|Qa rfl u_0<|o_n) (fun a g hst hb=>?_)
       refine wp_cond_split (hst.bool 1 rfl) (fun hc15=>?_) (fun hc15=>?_)
       ·replace H0:=Zp hc15 H0
        obtain ⟨r16,h17,H0⟩:=Ze H0
        refine r_s (L:=[(1,_)]) (T:=[⟨[.o 0],_,[],[],[61]⟩,⟨[.p 0 0],_,[],[0],[62]⟩,⟨[.p 1 0],_,[],[0,1],[63]⟩,⟨[.p 2 0],_,[],[0,1,2],[2]⟩]) (F:=[.p 3 0]) (hst.pick [0] rfl) hb Zb
         (Qf rfl Zlr u_0<|Ql rfl Z8 u_0<|o_p rfl (Zr Zre (Zjb _ h17) rfl rfl (.cons u_0 .nil))<|Qa rfl u_0<|o_n) (fun a g hst hb=>?_)
        refine wp_ret ?_
        refine Zw ?_
        refine Zj ?_
        obtain rfl:=Option.some.inj H0
        exact Zx rfl hst hb (Zf (s:=2)) (hst.at 0 rfl)
       ·replace H0:=Zq hc15 H0
        refine wp_skip ?_
        refine Zbj ?_
        refine Zm ?_
        refine r_s (L:=[]) (T:=[⟨[],_,[],[],[2]⟩]) (F:=[.p 0 0]) (hst.pick [] rfl) hb Zb
         (Qa rfl c_i<|o_n) (fun a g hst hb=>?_)
        refine wp_ret ?_
        obtain rfl:=Option.some.inj H0
        exact Zx rfl hst hb (Zf (s:=2)) (hst.at 0 rfl)
theorem Zhc (a0:Int) (a1:Za) (a2:Bool) {r:Za × Bool × Zi × Za} (h:Ze7 a0 a1 a2=some r):FnB Tryd.prog 67 [.val (pInt .i64 a0),.box Zc a1 r.2.2.2,.val (Kd.bool.ptr a2)] (pTup [(Zc.pd r.1),(Z7 r.2.1),(Z2.pd r.2.2.1)]):=by
 have H0:=h
 unfold Ze7 at H0
 clear h
 refine Zh5 (N:=11) Tryd.func67 rfl rfl (Qe rfl) rfl rfl (fun a g0 bs hbs hst hb=>?_)
 obtain ⟨b1,rfl⟩:=Z7g hbs
 replace hst:St 11 [(0,(pInt .i64 a0)),(1,(Zbl (some b1) Zc 1 a1)),(2,(Kd.bool.ptr a2))] _ _:=hst
 refine r_s (T:=[⟨[],[(4,(pBox Zc 4 (default:Za)))],[5],[],[4]⟩,⟨[],_,[],[],[5]⟩,⟨[],[(6,(pBox Z2 6 (default:Zi)))],[7],[],[6]⟩]) (F:=[.o 0,.o 1,.o 2,.p 0 0,.p 2 0]) hst hb Zb
  (o_p rfl (Zbt (zs:=[.int .i64 0,.int .i64 0,.int .i64 0,.int .i64 0,.float .f64 0,.int .i64 0,.string ByteArray.empty,.slice none 0 0]) (by kernel_rfl) (fun g=>Zb2 g) rfl rfl)<|Qa rfl c_b<|o_p rfl (Zbt (zs:=[.int .i64 0,.int .i64 0,.int .i64 0,.int .i64 0,.int .i64 0,.int .i64 0,.float .f64 0,.int .i64 0,.string ByteArray.empty,.slice none 0 0]) (by kernel_rfl) (fun g=>Zjy g) rfl rfl)<|o_n) (fun a g hst hb=>?_)
 refine r_s (T:=[⟨[.o 1],_,[],[],[7]⟩,⟨[.o 2],_,[],[],[8]⟩,⟨[.o 0],_,[],[],[9]⟩,⟨[.p 2 0],_,[],[2],[10]⟩,⟨[.p 0 0,.o 3],_,[5],[0],[4]⟩,⟨[.p 1 0],_,[],[0,1,4],[5]⟩,⟨[.p 3 0,.o 4],_,[7],Lr 6,[6]⟩]) (F:=[.o 1,.p 4 0,.p 5 0,.p 6 0]) hst hb Zb
  (QM rfl Z8 u_0<|Ql rfl ty_4 u_0<|Qm rfl u_0<|o_p rfl (Zxa rfl rfl u_0)<|o_p rfl (Zbe Z8 rfl rfl u_1 u_0)<|Qa rfl u_0<|o_p rfl (Zbe Zeh rfl rfl u_1 u_0)<|o_n) (fun a g hst hb=>?_)
 refine wp_ret ?_
 obtain rfl:=Option.some.inj H0
 obtain ⟨u0,hu0,hq0⟩:=Zbn (P:=Tryd.prog) Z8 (hst.at 1 rfl)
 obtain ⟨u2,hu2,hq2⟩:=Zbn (P:=Tryd.prog) Zeh (hst.at 3 rfl)
 exact Z7n rfl hst hb hu0 (Zf (s:=5)) hu2 (Zip hq0 (hst.at 2 rfl) hq2) ⟨Zb7 (hst.at 0 rfl),trivial⟩
theorem Zp1 (a0:Za) (a1:Zg) (a2:Zi) {r:Int × Za × Zi} (h:Zh2 a0 a1 a2=some r):FnB Tryd.prog 82 [.box Zc a0 r.2.1,.val (Z1.pd a1),.box Z2 a2 r.2.2] (pInt .i64 r.1):=by
 have H0:=h
 unfold Zh2 at H0
 clear h
 refine Zh5 (N:=12) Tryd.func82 rfl rfl (Qe rfl) rfl rfl (fun a g0 bs hbs hst hb=>?_)
 obtain ⟨b0,b2,rfl⟩:=Zjx hbs
 replace hst:St 12 [(0,(Zbl (some b0) Zc 0 a0)),(1,(Z1.pd a1)),(2,(Zbl (some b2) Z2 2 a2))] _ _:=hst
 refine r_s (T:=[⟨[.o 1],_,[],[],[4]⟩,⟨[],_,[],[],[6]⟩]) (F:=[.o 0,.o 2,.p 0 0]) hst hb Zb
  (Qb rfl u_0<|Qa rfl c_i<|o_n) (fun a g hst hb=>?_)
 refine r_s (T:=[⟨[.o 0],_,[],[],[7]⟩,⟨[.o 2],_,[],[],[8]⟩,⟨[.p 1 0],_,[],[1],[9]⟩,⟨[.p 0 0],_,[],[0,1,2],[10]⟩,⟨[.p 3 0],_,[],Lr 4,[11]⟩,⟨[.p 2 0,.p 4 0,.o 0],_,[1],Lr 5,[0,7,10,11]⟩]) (F:=[.p 5 0,.o 1]) hst hb Zb
  (Qm rfl u_0<|Qf rfl Zf7 u_0<|Ql rfl ty_9 u_0<|o_p rfl (Z9 rfl rfl u_0 (fun _ _ ⟨_,_,_,e,_⟩=>⟨_,e⟩))<|o_p rfl (Zt Zia (off:=6) (by kernel_rfl) rfl rfl u_0)<|o_p rfl (Zwz ty_9 rfl rfl u_2 u_1 u_0)<|o_n) (fun a g hst hb=>?_)
 refine r_s (T:=[⟨[],_,[],[],[6]⟩]) (F:=[.o 0,.o 1,.p 0 0]) hst hb Zb
  (Qa rfl c_i<|o_n) (fun a g hst hb=>?_)
 refine wp_ret ?_
 obtain rfl:=Option.some.inj H0
 exact Zf6 rfl hst hb (Zf (s:=6)) (hst.at 2 rfl) ⟨Zb7 (hst.at 0 rfl),Zb7 (hst.at 1 rfl),trivial⟩
theorem Zp3 (a0:Za) (a1:Zg) (a2:Zi) {r:Int × Za × Zi} (h:Zfp a0 a1 a2=some r):FnB Tryd.prog 83 [.box Zc a0 r.2.1,.val (Z1.pd a1),.box Z2 a2 r.2.2] (pInt .i64 r.1):=by
 have H0:=h
 unfold Zfp at H0
 clear h
 refine Zh5 (N:=19) Tryd.func83 rfl rfl (Qe rfl) rfl rfl (fun a g0 bs hbs hst hb=>?_)
 obtain ⟨b0,b2,rfl⟩:=Zjx hbs
 replace hst:St 19 [(0,(Zbl (some b0) Zc 0 a0)),(1,(Z1.pd a1)),(2,(Zbl (some b2) Z2 2 a2))] _ _:=hst
 refine r_s (T:=[⟨[.o 1],_,[],[],[4]⟩,⟨[],_,[],[],[6]⟩]) (F:=[.o 0,.o 2,.p 0 0]) hst hb Zb
  (Qb rfl u_0<|Qa rfl c_i<|o_n) (fun a g hst hb=>?_)
 obtain ⟨r1,h2,H0⟩:=Ze H0
 refine r_s (T:=[⟨[.o 1],_,[],[],[7]⟩,⟨[.o 0],_,[],[],[8]⟩,⟨[.p 1 0],_,[],[1],[9]⟩,⟨[.p 2 0],_,[],[1,2],[10]⟩,⟨[.p 3 0],_,[],[1,2,3],[11]⟩,⟨[.p 0 0],_,[],Lr 5,[12]⟩,⟨[.p 5 0],_,[],Lr 6,[13]⟩,⟨[.p 4 0,.p 6 0,.o 1],_,[3],Lr 7,[2,7,12,13]⟩]) (F:=[.o 0,.p 7 0,.o 2]) hst hb Zb
  (Qm rfl u_0<|Qm rfl u_0<|o_p rfl (Z9 rfl rfl u_0 (fun _ _ ⟨_,_,_,e,_⟩=>⟨_,e⟩))<|QM rfl Z8 u_0<|o_p rfl (Zr Znx (Zgu _ h2) rfl rfl (.cons u_0 .nil))<|o_p rfl (Z9 rfl rfl u_0 (fun _ _ ⟨_,_,_,e,_⟩=>⟨_,e⟩))<|o_p rfl (Zt Z3d (off:=2) (by kernel_rfl) rfl rfl u_0)<|o_p rfl (Z30 Z8 rfl rfl u_2 u_1 u_0)<|o_n) (fun a g hst hb=>?_)
 refine r_s (T:=[⟨[.o 0],_,[],[],[14]⟩,⟨[.o 2],_,[],[],[15]⟩,⟨[.p 1 0],_,[],[1],[16]⟩,⟨[.p 0 0],_,[],[0,1,2],[17]⟩,⟨[.p 3 0],_,[],Lr 4,[18]⟩,⟨[.p 2 0,.p 4 0,.o 0],_,[1],Lr 5,[0,14,17,18]⟩]) (F:=[.p 5 0,.o 1]) hst hb Zb
  (Qm rfl u_0<|Qf rfl Zf7 u_0<|Ql rfl ty_9 u_0<|o_p rfl (Z9 rfl rfl u_0 (fun _ _ ⟨_,_,_,e,_⟩=>⟨_,e⟩))<|o_p rfl (Zt Zia (off:=6) (by kernel_rfl) rfl rfl u_0)<|o_p rfl (Zwz ty_9 rfl rfl u_2 u_1 u_0)<|o_n) (fun a g hst hb=>?_)
 refine r_s (T:=[⟨[],_,[],[],[6]⟩]) (F:=[.o 0,.o 1,.p 0 0]) hst hb Zb
  (Qa rfl c_i<|o_n) (fun a g hst hb=>?_)
 refine wp_ret ?_
 obtain rfl:=Option.some.inj H0
 exact Zf6 rfl hst hb (Zf (s:=6)) (hst.at 2 rfl) ⟨Zb7 (hst.at 0 rfl),Zb7 (hst.at 1 rfl),trivial⟩
theorem Zp4 (a0:Za) (a1:Zg) (a2:Zi) {r:Int × Za × Zi} (h:Zh9 a0 a1 a2=some r):FnB Tryd.prog 84 [.box Zc a0 r.2.1,.val (Z1.pd a1),.box Z2 a2 r.2.2] (pInt .i64 r.1):=by
 have H0:=h
 unfold Zh9 at H0
 clear h
 refine Zh5 (N:=16) Tryd.func84 rfl rfl (Qe rfl) rfl rfl (fun a g0 bs hbs hst hb=>?_)
 obtain ⟨b0,b2,rfl⟩:=Zjx hbs
 replace hst:St 16 [(0,(Zbl (some b0) Zc 0 a0)),(1,(Z1.pd a1)),(2,(Zbl (some b2) Z2 2 a2))] _ _:=hst
 refine r_s (T:=[⟨[.o 1],_,[],[],[4]⟩,⟨[],_,[],[],[6]⟩]) (F:=[.o 0,.o 2,.p 0 0]) hst hb Zb
  (Qb rfl u_0<|Qa rfl c_i<|o_n) (fun a g hst hb=>?_)
 refine r_s (T:=[⟨[.o 0],_,[],[],[7]⟩,⟨[.p 0 0],_,[],[0],[8]⟩,⟨[.p 1 0],_,[],[0,1],[9]⟩,⟨[.p 2 0],_,[],[0,1,2],[10]⟩,⟨[.o 2],_,[],[],[11]⟩,⟨[.p 4 0],_,[],[4],[12]⟩,⟨[.p 3 0,.p 5 0],_,[],Lr 6,[13]⟩,⟨[.p 0 0],_,[],Lr 7,[14]⟩,⟨[.p 7 0],_,[],Lr 8,[15]⟩,⟨[.p 6 0,.p 8 0,.o 0],_,[1],Lr 9,[0,7,8,9,14,15]⟩]) (F:=[.p 9 0,.o 1]) hst hb Zb
  (Qm rfl u_0<|o_p rfl (Z9 rfl rfl u_0 (fun _ _ ⟨_,_,_,e,_⟩=>⟨_,e⟩))<|o_p rfl (Zt Zcl (off:=1) (by kernel_rfl) rfl rfl u_0)<|QP rfl ty_2 u_0<|Qf rfl Zdf u_0<|Ql rfl ty_2 u_0<|o_p rfl (Zcs rfl rfl u_0 u_1 rfl)<|o_p rfl (Z9 rfl rfl u_0 (fun _ _ ⟨_,_,_,e,_⟩=>⟨_,e⟩))<|o_p rfl (Zt Zcl (off:=1) (by kernel_rfl) rfl rfl u_0)<|o_p rfl (Zni ty_2 rfl rfl u_2 u_1 u_0)<|o_n) (fun a g hst hb=>?_)
 refine r_s (T:=[⟨[],_,[],[],[6]⟩]) (F:=[.o 0,.o 1,.p 0 0]) hst hb Zb
  (Qa rfl c_i<|o_n) (fun a g hst hb=>?_)
 refine wp_ret ?_
 obtain rfl:=Option.some.inj H0
 exact Zf6 rfl hst hb (Zf (s:=6)) (hst.at 2 rfl) ⟨Zb7 (hst.at 0 rfl),Zb7 (hst.at 1 rfl),trivial⟩
theorem Zvj (a0:Za) (a1:Zg) (a2:Zi) {r:Int × Za × Zi} (h:Zjg a0 a1 a2=some r):FnB Tryd.prog 85 [.box Zc a0 r.2.1,.val (Z1.pd a1),.box Z2 a2 r.2.2] (pInt .i64 r.1):=by
 have H0:=h
 unfold Zjg at H0
 clear h
 refine Zh5 (N:=44) Tryd.func85 rfl rfl (Qe rfl) rfl rfl (fun a g0 bs hbs hst hb=>?_)
 obtain ⟨b0,b2,rfl⟩:=Zjx hbs
 replace hst:St 44 [(0,(Zbl (some b0) Zc 0 a0)),(1,(Z1.pd a1)),(2,(Zbl (some b2) Z2 2 a2))] _ _:=hst
 refine r_s (T:=[⟨[.o 1],_,[],[],[4]⟩,⟨[],_,[],[],[6]⟩]) (F:=[.o 0,.o 2,.p 0 0]) hst hb Zb
  (Qb rfl u_0<|Qa rfl c_i<|o_n) (fun a g hst hb=>?_)
 refine wp_seq ?_
 refine r_s (T:=⟨[.o 2],_,[],[],[7]⟩ :: ⟨[.p 0 0],_,[],[0],[8]⟩ :: ⟨[.p 1 0],_,[],[0,1],[9]⟩ :: ⟨[.p 2 0],_,[],[0,1,2],[10]⟩ :: ⟨[.p 3 0,.o 0],_,[],Lr 4,[11]⟩ :: ⟨[.p 3 0,.p 4 0],_,[],Lr 5,[12]⟩ :: ⟨[.p 3 0,.p 5 0],_,[],Lr 6,[13]⟩ :: ⟨[.p 3 0,.p 6 0],_,[],Lr 7,[14]⟩ :: ⟨[.p 3 0,.o 2],_,[],Lr 4,[15]⟩ :: ⟨[.p 3 0,.p 8 0],_,[],[0,1,2,3,8],[16]⟩ :: ⟨[.p 3 0,.p 9 0],_,[],[0,1,2,3,8,9],[17]⟩ :: ⟨[.p 3 0,.p 7 0,.p 10 0],_,[],Lr 11,[18]⟩ :: ⟨[.p 3 0,.p 11 0],_,[],Lr 12,[19]⟩ :: ⟨[.p 12 0],_,[],Lr 13,[20]⟩ :: ⟨[.p 13 0,.o 2],_,[],Lr 14,[21]⟩ :: ⟨[.p 13 0,.p 14 0],_,[],Lr 15,[22]⟩ :: ⟨[.p 13 0,.p 15 0],_,[],Lr 16,[23]⟩ :: ⟨[.p 13 0,.p 16 0],_,[],Lr 17,[24]⟩ :: ⟨[.p 17 0,.o 0],_,[],Lr 18,[25]⟩ :: ⟨[.p 17 0,.p 18 0],_,[],Lr 19,[26]⟩ :: ⟨[.p 17 0,.p 19 0],_,[],Lr 20,[27]⟩ :: ⟨[.p 17 0,.p 20 0],_,[],Lr 21,[28]⟩ :: ⟨[.p 17 0,.o 2],_,[],Lr 18,[29]⟩ :: ⟨[.p 17 0,.p 22 0],_,[],0 :: 1 :: 2 :: 3 :: 4 :: 5 :: 6 :: 7 :: 8 :: 9 :: 10 :: 11 :: 12 :: 13 :: 14 :: 15 :: 16 :: 17 :: 22 :: [],[30]⟩ :: ⟨[.p 17 0,.p 23 0],_,[],0 :: 1 :: 2 :: 3 :: 4 :: 5 :: 6 :: 7 :: 8 :: 9 :: 10 :: 11 :: 12 :: 13 :: 14 :: 15 :: 16 :: 17 :: 22 :: 23 :: [],[31]⟩ :: ⟨[.p 17 0,.p 21 0,.p 24 0],_,[],Lr 25,[32]⟩ :: ⟨[.p 13 0,.p 17 0,.p 25 0],_,[],Lr 26,[33]⟩ :: ⟨[.p 13 0,.p 26 0],_,[],Lr 27,[34]⟩ :: []) (F:=[.o 0,.o 1,.o 2,.p 27 0]) hst hb Zb
  (Qf rfl Zdf u_0<|Ql rfl ty_2 u_0<|o_p rfl (Zcf rfl rfl u_0 c_i)<|Qm rfl u_0<|o_g (Qg_t rfl (fun hG=>Z0 rfl rfl u_0))<|o_g (Qg_t rfl (fun hG=>Z9 rfl rfl (Opd.gd hG u_0) (fun _ _ ⟨_,_,_,e,_⟩=>⟨_,e⟩)))<|o_g (Qg_t rfl (fun hG=>Zt Zcl (off:=1) (by kernel_rfl) rfl rfl (Opd.gd hG u_0)))<|o_g (Qg_t rfl (fun hG=>Zj6 ty_2 rfl rfl (Opd.gd hG u_0)))<|o_g (Qg_t rfl (fun hG=>Zh Zdf rfl rfl u_0))<|o_g (Qg_t rfl (fun hG=>Zn ty_2 rfl rfl (Opd.gd hG u_0)))<|o_g (Qg_t rfl (fun hG=>Ze6 rfl rfl c_i (Opd.gd hG u_0) rfl))<|o_g (Qg_t rfl (fun hG=>Zcf rfl rfl (Opd.gd hG u_0) (Opd.gd hG u_1)))<|o_p rfl (Zbi rfl rfl u_0 (fun hz=>(Opd.gd hz u_1)))<|Qm rfl u_0<|o_g (Qg_f rfl (fun hG=>Zh Zdf rfl rfl u_0))<|o_g (Qg_f rfl (fun hG=>Zn ty_2 rfl rfl (Opd.gd hG u_0)))<|o_g (Qg_f rfl (fun hG=>Zb8 rfl rfl (Opd.gd hG u_0) c_i))<|o_g (Qg_f rfl (fun hG=>Z0 rfl rfl (Opd.gd hG u_0)))<|o_g (Qg_ti rfl (fun hG=>Z0 rfl rfl u_0))<|o_g (Qg_ti rfl (fun hG=>Z9 rfl rfl (Opd.gd hG u_0) (fun _ _ ⟨_,_,_,e,_⟩=>⟨_,e⟩)))<|o_g (Qg_ti rfl (fun hG=>Zt Zcl (off:=1) (by kernel_rfl) rfl rfl (Opd.gd hG u_0)))<|o_g (Qg_ti rfl (fun hG=>Zj6 ty_2 rfl rfl (Opd.gd hG u_0)))<|o_g (Qg_ti rfl (fun hG=>Zh Zdf rfl rfl u_0))<|o_g (Qg_ti rfl (fun hG=>Zn ty_2 rfl rfl (Opd.gd hG u_0)))<|o_g (Qg_ti rfl (fun hG=>Ze6 rfl rfl c_i (Opd.gd hG u_0) rfl))<|o_g (Qg_ti rfl (fun hG=>Zb8 rfl rfl (Opd.gd hG u_0) (Opd.gd hG u_1)))<|o_g (Qg_f rfl (fun hG=>Zbi rfl rfl (Opd.gd hG u_0) (fun hz=>(Opd.gd (bA hG hz) u_1))))<|o_p rfl (Zbk rfl rfl u_0 (fun hz=>(Opd.gd (bNF hz) u_1)))<|o_n) (fun a g hst hb=>?_)
 refine wp_cond_split (hst.bool 3 rfl) (fun hc1=>?_) (fun hc1=>?_)
 ·replace H0:=Zp hc1 H0
  refine r_s (L:=[(0,_),(2,_)]) (T:=[⟨[],_,[],[],[6]⟩]) (F:=[.o 0,.o 1,.p 0 0]) (hst.pick [0,1] rfl) hb Zb
   (Qa rfl c_i<|o_n) (fun a g hst hb=>?_)
  refine wp_ret ?_
  refine Zj ?_
  obtain rfl:=Option.some.inj H0
  exact Zf6 rfl hst hb (Zf (s:=6)) (hst.at 2 rfl) ⟨Zb7 (hst.at 0 rfl),Zb7 (hst.at 1 rfl),trivial⟩
 ·replace H0:=Zq hc1 H0
  refine wp_skip ?_
  refine Zm ?_
  refine r_s (L:=[(0,_),(2,_),(4,_)]) (T:=[⟨[.o 0],_,[],[],[35]⟩,⟨[.p 0 0],_,[],[0],[36]⟩,⟨[.p 1 0],_,[],[0,1],[37]⟩,⟨[.p 2 0],_,[],[0,1,2],[38]⟩,⟨[.o 2],_,[],[],[39]⟩,⟨[.p 4 0],_,[],[4],[40]⟩,⟨[.p 3 0,.p 5 0],_,[],Lr 6,[41]⟩,⟨[.p 0 0],_,[],Lr 7,[42]⟩,⟨[.p 7 0],_,[],Lr 8,[43]⟩,⟨[.p 6 0,.p 8 0,.o 0],_,[1],Lr 9,[0,35,36,37,42,43]⟩]) (F:=[.p 9 0,.o 1]) (hst.pick [0,1,2] rfl) hb Zb
   (Qm rfl u_0<|o_p rfl (Z9 rfl rfl u_0 (fun _ _ ⟨_,_,_,e,_⟩=>⟨_,e⟩))<|o_p rfl (Zt Zcl (off:=1) (by kernel_rfl) rfl rfl u_0)<|QP rfl ty_2 u_0<|Qf rfl Zdf u_0<|Ql rfl ty_2 u_0<|o_p rfl (Zcs rfl rfl u_0 u_1 rfl)<|o_p rfl (Z9 rfl rfl u_0 (fun _ _ ⟨_,_,_,e,_⟩=>⟨_,e⟩))<|o_p rfl (Zt Zcl (off:=1) (by kernel_rfl) rfl rfl u_0)<|o_p rfl (Zni ty_2 rfl rfl u_2 u_1 u_0)<|o_n) (fun a g hst hb=>?_)
  refine r_s (T:=[⟨[],_,[],[],[6]⟩]) (F:=[.o 0,.o 1,.p 0 0]) hst hb Zb
   (Qa rfl c_i<|o_n) (fun a g hst hb=>?_)
  refine wp_ret ?_
  obtain rfl:=Option.some.inj H0
  exact Zf6 rfl hst hb (Zf (s:=6)) (hst.at 2 rfl) ⟨Zb7 (hst.at 0 rfl),Zb7 (hst.at 1 rfl),trivial⟩
theorem Zmf (a0:Za) (a1:Zg) (a2:Zi) {r:Int × Za × Zi} (h:Zeo a0 a1 a2=some r):FnB Tryd.prog 86 [.box Zc a0 r.2.1,.val (Z1.pd a1),.box Z2 a2 r.2.2] (pInt .i64 r.1):=by
 have H0:=h
 unfold Zeo at H0
 clear h
 refine Zh5 (N:=14) Tryd.func86 rfl rfl (Qe rfl) rfl rfl (fun a g0 bs hbs hst hb=>?_)
 obtain ⟨b0,b2,rfl⟩:=Zjx hbs
 replace hst:St 14 [(0,(Zbl (some b0) Zc 0 a0)),(1,(Z1.pd a1)),(2,(Zbl (some b2) Z2 2 a2))] _ _:=hst
 refine r_s (T:=[⟨[.o 1],_,[],[],[4]⟩,⟨[],_,[],[],[6]⟩]) (F:=[.o 0,.o 2,.p 0 0]) hst hb Zb
  (Qb rfl u_0<|Qa rfl c_i<|o_n) (fun a g hst hb=>?_)
 refine wp_seq ?_
 refine r_s (T:=[⟨[.o 0],_,[],[],[7]⟩,⟨[.p 0 0],_,[],[0],[8]⟩,⟨[.p 1 0],_,[],[0,1],[9]⟩,⟨[.p 2 0],_,[],[0,1,2],[10]⟩,⟨[.o 2],_,[],[],[11]⟩,⟨[.p 4 0],_,[],[4],[12]⟩,⟨[.p 3 0,.p 5 0],_,[],Lr 6,[13]⟩]) (F:=[.o 0,.o 1,.p 6 0]) hst hb Zb
  (Qm rfl u_0<|o_p rfl (Z9 rfl rfl u_0 (fun _ _ ⟨_,_,_,e,_⟩=>⟨_,e⟩))<|o_p rfl (Zt Zcl (off:=1) (by kernel_rfl) rfl rfl u_0)<|QP rfl ty_2 u_0<|Qf rfl Zdf u_0<|Ql rfl ty_2 u_0<|o_p rfl (Zb8 rfl rfl u_0 u_1)<|o_n) (fun a g hst hb=>?_)
 refine wp_cond_split (hst.bool 2 rfl) (fun hc1=>?_) (fun hc1=>?_)
 ·replace H0:=Zp hc1 H0
  refine r_s (L:=[(0,_),(2,_)]) (T:=[⟨[],_,[],[],[6]⟩]) (F:=[.o 0,.o 1,.p 0 0]) (hst.pick [0,1] rfl) hb Zb
   (Qa rfl c_i<|o_n) (fun a g hst hb=>?_)
  refine wp_ret ?_
  refine Zj ?_
  obtain rfl:=Option.some.inj H0
  exact Zf6 rfl hst hb (Zf (s:=6)) (hst.at 2 rfl) ⟨Zb7 (hst.at 0 rfl),Zb7 (hst.at 1 rfl),trivial⟩
 ·replace H0:=Zq hc1 H0
  refine wp_skip ?_
  refine Zm ?_
  refine r_s (L:=[(0,_),(2,_)]) (T:=[⟨[],_,[],[],[6]⟩]) (F:=[.o 0,.o 1,.p 0 0]) (hst.pick [0,1] rfl) hb Zb
   (Qa rfl c_i<|o_n) (fun a g hst hb=>?_)
  refine wp_ret ?_
  obtain rfl:=Option.some.inj H0
  exact Zf6 rfl hst hb (Zf (s:=6)) (hst.at 2 rfl) ⟨Zb7 (hst.at 0 rfl),Zb7 (hst.at 1 rfl),trivial⟩
theorem Zp8 (a0:Za) (a1:Zg) (a2:Zi) {r:Int × Za × Zi} (h:Zfl a0 a1 a2=some r):FnB Tryd.prog 87 [.box Zc a0 r.2.1,.val (Z1.pd a1),.box Z2 a2 r.2.2] (pInt .i64 r.1):=by
 have H0:=h
 unfold Zfl at H0
 clear h
 refine Zh5 (N:=28) Tryd.func87 rfl rfl (Qe rfl) rfl rfl (fun a g0 bs hbs hst hb=>?_)
 obtain ⟨b0,b2,rfl⟩:=Zjx hbs
 replace hst:St 28 [(0,(Zbl (some b0) Zc 0 a0)),(1,(Z1.pd a1)),(2,(Zbl (some b2) Z2 2 a2))] _ _:=hst
 refine r_s (T:=[⟨[.o 1],_,[],[],[4]⟩,⟨[],_,[],[],[6]⟩]) (F:=[.o 0,.o 2,.p 0 0]) hst hb Zb
  (Qb rfl u_0<|Qa rfl c_i<|o_n) (fun a g hst hb=>?_)
 refine wp_seq ?_
 refine r_s (T:=⟨[.o 2],_,[],[],[7]⟩ :: ⟨[.p 0 0],_,[],[0],[8]⟩ :: ⟨[.o 0],_,[],[],[9]⟩ :: ⟨[.p 2 0],_,[],[2],[10]⟩ :: ⟨[.p 3 0],_,[],[2,3],[11]⟩ :: ⟨[.p 4 0],_,[],[2,3,4],[12]⟩ :: ⟨[.o 0],_,[],[],[13]⟩ :: ⟨[.p 6 0],_,[],[6],[14]⟩ :: ⟨[.p 7 0],_,[],[6,7],[15]⟩ :: ⟨[.p 8 0],_,[],[6,7,8],[16]⟩ :: ⟨[.p 5 0,.p 9 0],_,[],List.range' 2 8,[17]⟩ :: ⟨[.p 1 0,.p 10 0],_,[],Lr 11,[18]⟩ :: []) (F:=[.o 0,.o 1,.o 2,.p 11 0]) hst hb Zb
  (Qf rfl Zdf u_0<|Ql rfl ty_2 u_0<|Qm rfl u_0<|o_p rfl (Z9 rfl rfl u_0 (fun _ _ ⟨_,_,_,e,_⟩=>⟨_,e⟩))<|o_p rfl (Zt Zg8 (off:=3) (by kernel_rfl) rfl rfl u_0)<|QP rfl ty_2 u_0<|Qm rfl u_0<|o_p rfl (Z9 rfl rfl u_0 (fun _ _ ⟨_,_,_,e,_⟩=>⟨_,e⟩))<|o_p rfl (Zt Zcl (off:=1) (by kernel_rfl) rfl rfl u_0)<|QP rfl ty_2 u_0<|o_p rfl (Ze6 rfl rfl u_0 u_1 rfl)<|o_p rfl (Zcf rfl rfl u_0 u_1)<|o_n) (fun a g hst hb=>?_)
 refine wp_cond_split (hst.bool 3 rfl) (fun hc1=>?_) (fun hc1=>?_)
 ·replace H0:=Zp hc1 H0
  refine r_s (L:=[(0,_),(2,_)]) (T:=[⟨[],_,[],[],[6]⟩]) (F:=[.o 0,.o 1,.p 0 0]) (hst.pick [0,1] rfl) hb Zb
   (Qa rfl c_i<|o_n) (fun a g hst hb=>?_)
  refine wp_ret ?_
  refine Zj ?_
  obtain rfl:=Option.some.inj H0
  exact Zf6 rfl hst hb (Zf (s:=6)) (hst.at 2 rfl) ⟨Zb7 (hst.at 0 rfl),Zb7 (hst.at 1 rfl),trivial⟩
 ·replace H0:=Zq hc1 H0
  refine wp_skip ?_
  refine Zm ?_
  refine r_s (L:=[(0,_),(2,_),(4,_)]) (T:=[⟨[.o 0],_,[],[],[19]⟩,⟨[.p 0 0],_,[],[0],[20]⟩,⟨[.p 1 0],_,[],[0,1],[21]⟩,⟨[.p 2 0],_,[],[0,1,2],[22]⟩,⟨[.o 2],_,[],[],[23]⟩,⟨[.p 4 0],_,[],[4],[24]⟩,⟨[.p 3 0,.p 5 0],_,[],Lr 6,[25]⟩,⟨[.p 0 0],_,[],Lr 7,[26]⟩,⟨[.p 7 0],_,[],Lr 8,[27]⟩,⟨[.p 6 0,.p 8 0,.o 0],_,[1],Lr 9,[0,19,20,21,26,27]⟩]) (F:=[.p 9 0,.o 1]) (hst.pick [0,1,2] rfl) hb Zb
   (Qm rfl u_0<|o_p rfl (Z9 rfl rfl u_0 (fun _ _ ⟨_,_,_,e,_⟩=>⟨_,e⟩))<|o_p rfl (Zt Zcl (off:=1) (by kernel_rfl) rfl rfl u_0)<|QP rfl ty_2 u_0<|Qf rfl Zdf u_0<|Ql rfl ty_2 u_0<|o_p rfl (Zcs rfl rfl u_0 u_1 rfl)<|o_p rfl (Z9 rfl rfl u_0 (fun _ _ ⟨_,_,_,e,_⟩=>⟨_,e⟩))<|o_p rfl (Zt Zcl (off:=1) (by kernel_rfl) rfl rfl u_0)<|o_p rfl (Zni ty_2 rfl rfl u_2 u_1 u_0)<|o_n) (fun a g hst hb=>?_)
  refine r_s (T:=[⟨[],_,[],[],[6]⟩]) (F:=[.o 0,.o 1,.p 0 0]) hst hb Zb
   (Qa rfl c_i<|o_n) (fun a g hst hb=>?_)
  refine wp_ret ?_
  obtain rfl:=Option.some.inj H0
  exact Zf6 rfl hst hb (Zf (s:=6)) (hst.at 2 rfl) ⟨Zb7 (hst.at 0 rfl),Zb7 (hst.at 1 rfl),trivial⟩
theorem Zp9 (a0:Za) (a1:Zg) (a2:Zi) {r:Int × Za × Zi} (h:Zft a0 a1 a2=some r):FnB Tryd.prog 88 [.box Zc a0 r.2.1,.val (Z1.pd a1),.box Z2 a2 r.2.2] (pInt .i64 r.1):=by
 have H0:=h
 unfold Zft at H0
 clear h
 refine Zh5 (N:=28) Tryd.func88 rfl rfl (Qe rfl) rfl rfl (fun a g0 bs hbs hst hb=>?_)
 obtain ⟨b0,b2,rfl⟩:=Zjx hbs
 replace hst:St 28 [(0,(Zbl (some b0) Zc 0 a0)),(1,(Z1.pd a1)),(2,(Zbl (some b2) Z2 2 a2))] _ _:=hst
 refine r_s (T:=[⟨[.o 1],_,[],[],[4]⟩,⟨[],_,[],[],[6]⟩]) (F:=[.o 0,.o 2,.p 0 0]) hst hb Zb
  (Qb rfl u_0<|Qa rfl c_i<|o_n) (fun a g hst hb=>?_)
 refine wp_seq ?_
 refine r_s (T:=⟨[.o 2],_,[],[],[7]⟩ :: ⟨[.p 0 0],_,[],[0],[8]⟩ :: ⟨[.o 0],_,[],[],[9]⟩ :: ⟨[.p 2 0],_,[],[2],[10]⟩ :: ⟨[.p 3 0],_,[],[2,3],[11]⟩ :: ⟨[.p 4 0],_,[],[2,3,4],[12]⟩ :: ⟨[.o 0],_,[],[],[13]⟩ :: ⟨[.p 6 0],_,[],[6],[14]⟩ :: ⟨[.p 7 0],_,[],[6,7],[15]⟩ :: ⟨[.p 8 0],_,[],[6,7,8],[16]⟩ :: ⟨[.p 5 0,.p 9 0],_,[],List.range' 2 8,[17]⟩ :: ⟨[.p 1 0,.p 10 0],_,[],Lr 11,[18]⟩ :: []) (F:=[.o 0,.o 1,.o 2,.p 11 0]) hst hb Zb
  (Qf rfl Zdf u_0<|Ql rfl ty_2 u_0<|Qm rfl u_0<|o_p rfl (Z9 rfl rfl u_0 (fun _ _ ⟨_,_,_,e,_⟩=>⟨_,e⟩))<|o_p rfl (Zt Zcl (off:=1) (by kernel_rfl) rfl rfl u_0)<|QP rfl ty_2 u_0<|Qm rfl u_0<|o_p rfl (Z9 rfl rfl u_0 (fun _ _ ⟨_,_,_,e,_⟩=>⟨_,e⟩))<|o_p rfl (Zt Zg6 (off:=2) (by kernel_rfl) rfl rfl u_0)<|QP rfl ty_2 u_0<|o_p rfl (Ze6 rfl rfl u_0 u_1 rfl)<|o_p rfl (Zcf rfl rfl u_0 u_1)<|o_n) (fun a g hst hb=>?_)
 refine wp_cond_split (hst.bool 3 rfl) (fun hc1=>?_) (fun hc1=>?_)
 ·replace H0:=Zp hc1 H0
  refine r_s (L:=[(0,_),(2,_)]) (T:=[⟨[],_,[],[],[6]⟩]) (F:=[.o 0,.o 1,.p 0 0]) (hst.pick [0,1] rfl) hb Zb
   (Qa rfl c_i<|o_n) (fun a g hst hb=>?_)
  refine wp_ret ?_
  refine Zj ?_
  obtain rfl:=Option.some.inj H0
  exact Zf6 rfl hst hb (Zf (s:=6)) (hst.at 2 rfl) ⟨Zb7 (hst.at 0 rfl),Zb7 (hst.at 1 rfl),trivial⟩
 ·replace H0:=Zq hc1 H0
  refine wp_skip ?_
  refine Zm ?_
  refine r_s (L:=[(0,_),(2,_),(4,_)]) (T:=[⟨[.o 0],_,[],[],[19]⟩,⟨[.p 0 0],_,[],[0],[20]⟩,⟨[.p 1 0],_,[],[0,1],[21]⟩,⟨[.p 2 0],_,[],[0,1,2],[22]⟩,⟨[.o 2],_,[],[],[23]⟩,⟨[.p 4 0],_,[],[4],[24]⟩,⟨[.p 3 0,.p 5 0],_,[],Lr 6,[25]⟩,⟨[.p 0 0],_,[],Lr 7,[26]⟩,⟨[.p 7 0],_,[],Lr 8,[27]⟩,⟨[.p 6 0,.p 8 0,.o 0],_,[1],Lr 9,[0,19,20,21,26,27]⟩]) (F:=[.p 9 0,.o 1]) (hst.pick [0,1,2] rfl) hb Zb
   (Qm rfl u_0<|o_p rfl (Z9 rfl rfl u_0 (fun _ _ ⟨_,_,_,e,_⟩=>⟨_,e⟩))<|o_p rfl (Zt Zcl (off:=1) (by kernel_rfl) rfl rfl u_0)<|QP rfl ty_2 u_0<|Qf rfl Zdf u_0<|Ql rfl ty_2 u_0<|o_p rfl (Ze6 rfl rfl u_0 u_1 rfl)<|o_p rfl (Z9 rfl rfl u_0 (fun _ _ ⟨_,_,_,e,_⟩=>⟨_,e⟩))<|o_p rfl (Zt Zcl (off:=1) (by kernel_rfl) rfl rfl u_0)<|o_p rfl (Zni ty_2 rfl rfl u_2 u_1 u_0)<|o_n) (fun a g hst hb=>?_)
  refine r_s (T:=[⟨[],_,[],[],[6]⟩]) (F:=[.o 0,.o 1,.p 0 0]) hst hb Zb
   (Qa rfl c_i<|o_n) (fun a g hst hb=>?_)
  refine wp_ret ?_
  obtain rfl:=Option.some.inj H0
  exact Zf6 rfl hst hb (Zf (s:=6)) (hst.at 2 rfl) ⟨Zb7 (hst.at 0 rfl),Zb7 (hst.at 1 rfl),trivial⟩
theorem Zh8 (h:Nat) (he:Zl Tryd.prog h) (ψ:Nat → Nat → Option Nat) (hψ:∀ x y z,ψ x y=some z → FnOk Tryd.prog h [pFlt x,pFlt y] (pFlt z)) (a0:Za) (a1:Zg) (a2:Zi) {z:Nat} (hz:ψ a0.Real a1.X=some z):FnB Tryd.prog 106 [.box Zc a0 { a0 with Real:=z },.val (Z1.pd a1),.box Z2 a2 a2,.val (Kd.fnc.ptr h)] (pInt .i64 0):=by
 refine Zh5 (N:=19) Tryd.func106 rfl rfl (Qe rfl) rfl rfl (fun a g0 bs hbs hst hb=>?_)
 obtain ⟨b0,b2,rfl⟩:=Zjx hbs
 replace hst:St 19 [(0,(Zbl (some b0) Zc 0 a0)),(1,(Z1.pd a1)),(2,(Zbl (some b2) Z2 2 a2)),(3,(Kd.fnc.ptr h))] _ _:=hst
 refine r_s (T:=[⟨[.o 1],_,[],[],[5]⟩,⟨[],_,[],[],[7]⟩]) (F:=[.o 0,.o 2,.o 3,.p 0 0]) hst hb Zb
  (Qb rfl u_0<|Qa rfl c_i<|o_n) (fun a g hst hb=>?_)
 refine r_s (T:=[⟨[.o 0],_,[],[],[8]⟩,⟨[.o 2],_,[],[],[9]⟩,⟨[.o 0],_,[],[],[10]⟩,⟨[.p 2 0],_,[],[2],[11]⟩,⟨[.p 3 0],_,[],[2,3],[12]⟩,⟨[.p 4 0],_,[],[2,3,4],[13]⟩,⟨[.o 3],_,[],[],[14]⟩,⟨[.p 6 0],_,[],[6],[15]⟩,⟨[.p 1 0,.p 5 0,.p 7 0],[(16,(pFlt z))],[],[1,2,3,4,5,6,7],[16]⟩,⟨[.p 0 0],_,[],[0,1,2,3,4,5,6,7,8],[17]⟩,⟨[.p 9 0],_,[],[0,1,2,3,4,5,6,7,8,9],[18]⟩,⟨[.p 8 0,.p 10 0,.o 0],_,[1],[0,1,2,3,4,5,6,7,8,9,10],[0,8,10,11,12,17,18]⟩]) (F:=[.p 11 0,.o 1]) hst hb Zb
  (Qm rfl u_0<|Ql rfl Z5z u_0<|Qm rfl u_0<|o_p rfl (Z9 rfl rfl u_0 (fun _ _ ⟨_,_,_,e,_⟩=>⟨_,e⟩))<|o_p rfl (Zt Zfd (off:=4) (by kernel_rfl) rfl rfl u_0)<|QP rfl Zcv u_0<|Qf rfl Zk0 u_0<|Ql rfl Zcv u_0<|o_p rfl (Znn (C:=[]) (hC:=rfl) he (hψ _ _ _ hz) rfl rfl (Opd.imp u_0 (fun _ _ h=>Z4g h)) (.cons u_1 (.cons u_2 .nil)))<|o_p rfl (Z9 rfl rfl u_0 (fun _ _ ⟨_,_,_,e,_⟩=>⟨_,e⟩))<|o_p rfl (Zt Zfd (off:=4) (by kernel_rfl) rfl rfl u_0)<|o_p rfl (Zr4 Zcv rfl rfl u_2 u_1 u_0)<|o_n) (fun a g hst hb=>?_)
 refine r_s (T:=[⟨[],_,[],[],[7]⟩]) (F:=[.o 0,.o 1,.p 0 0]) hst hb Zb
  (Qa rfl c_i<|o_n) (fun a g hst hb=>?_)
 refine wp_ret ?_
 exact Zf6 rfl hst hb (Zf (s:=7)) (hst.at 2 rfl) ⟨Zb7 (hst.at 0 rfl),Zb7 (hst.at 1 rfl),trivial⟩
theorem Zja (h:Nat):FnOk Tryd.prog 89 [(Kd.fnc.pd h)] (pClo 106 [(Kd.fnc.ptr h)] rfl):=by
 refine Zbw (N:=4) Tryd.func89 rfl rfl (Qe rfl) rfl rfl (fun a g0 hst hb=>?_)
 refine r_s (T:=[⟨[.o 0],_,[],[],[1]⟩,⟨[],[],[],[],[2]⟩]) (F:=[.p 0 0]) hst hb Zb
  (Qb rfl u_0<|o_p rfl (Z03 (.inr rfl))<|o_n) (fun a g hst hb=>?_)
 refine r_s (T:=[⟨[.o 0],[(3,(pClo 106 [(Kd.fnc.ptr h)] rfl))],[],[],[3]⟩,⟨[.p 0 0],_,[],[0],[2]⟩]) (F:=[.p 1 0]) hst hb Zb
  (o_p rfl (Zwf rfl rfl (.cons u_0 .nil))<|Qa rfl u_0<|o_n) (fun a g hst hb=>?_)
 refine wp_ret ?_
 exact Zx rfl hst hb (Zf (s:=2)) (hst.at 0 rfl)
theorem Zv6 (a0:Nat) (a1:Nat) {r:Nat} (h:Zgy a0 a1=some r):FnOk Tryd.prog 90 [(pFlt a0),(pFlt a1)] (pFlt r):=by
 have H0:=h
 unfold Zgy at H0
 clear h
 refine Zbw (N:=9) Tryd.func90 rfl rfl (Qe rfl) rfl rfl (fun a g0 hst hb=>?_)
 refine r_s (T:=[⟨[],_,[],[],[4]⟩]) (F:=[.o 0,.o 1]) hst hb Zb
  (Qa rfl c_f<|o_n) (fun a g hst hb=>?_)
 obtain ⟨r1,h2,H0⟩:=Ze H0
 refine r_s (T:=[⟨[.o 0],_,[],[],[5]⟩,⟨[.o 1],_,[],[],[6]⟩,⟨[.p 0 0,.p 1 0],_,[],[0,1],[7]⟩,⟨[.p 2 0],_,[],[0,1,2],[8]⟩,⟨[.p 3 0],_,[],Lr 4,[4]⟩]) (F:=[.p 4 0]) hst hb Zb
  (Qm rfl u_0<|Qm rfl u_0<|o_p rfl (Z1o rfl rfl u_0 u_1)<|o_p rfl (Zr Zmq (Zvp (fun r z hr hz=>by simp only [Zej,hr,hz,Option.bind_some,if_true]) (fun z r h=>Zfy z h) h2) rfl rfl (.cons u_0 .nil))<|Qa rfl u_0<|o_n) (fun a g hst hb=>?_)
 refine wp_ret ?_
 obtain rfl:=Option.some.inj H0
 exact Zx rfl hst hb (Zf (s:=4)) (hst.at 0 rfl)
theorem Zu9 (a0:Nat) (a1:Nat) {r:Nat} (h:Zfx a0 a1=some r):FnOk Tryd.prog 91 [(pFlt a0),(pFlt a1)] (pFlt r):=by
 have H0:=h
 unfold Zfx at H0
 clear h
 refine Zbw (N:=9) Tryd.func91 rfl rfl (Qe rfl) rfl rfl (fun a g0 hst hb=>?_)
 refine r_s (T:=[⟨[],_,[],[],[4]⟩]) (F:=[.o 0,.o 1]) hst hb Zb
  (Qa rfl c_f<|o_n) (fun a g hst hb=>?_)
 obtain ⟨r1,h2,H0⟩:=Ze H0
 refine r_s (T:=[⟨[.o 0],_,[],[],[5]⟩,⟨[.o 1],_,[],[],[6]⟩,⟨[.p 0 0,.p 1 0],_,[],[0,1],[7]⟩,⟨[.p 2 0],_,[],[0,1,2],[8]⟩,⟨[.p 3 0],_,[],Lr 4,[4]⟩]) (F:=[.p 4 0]) hst hb Zb
  (Qm rfl u_0<|Qm rfl u_0<|o_p rfl (Z1v rfl rfl u_0 u_1)<|o_p rfl (Zr Zmq (Zvp (fun r z hr hz=>by simp only [Zej,hr,hz,Option.bind_some,if_true]) (fun z r h=>Zfy z h) h2) rfl rfl (.cons u_0 .nil))<|Qa rfl u_0<|o_n) (fun a g hst hb=>?_)
 refine wp_ret ?_
 obtain rfl:=Option.some.inj H0
 exact Zx rfl hst hb (Zf (s:=4)) (hst.at 0 rfl)
theorem Zp5 (a0:Nat) (a1:Nat) {r:Nat} (h:Zfq a0 a1=some r):FnOk Tryd.prog 92 [(pFlt a0),(pFlt a1)] (pFlt r):=by
 have H0:=h
 unfold Zfq at H0
 clear h
 refine Zbw (N:=6) Tryd.func92 rfl rfl (Qe rfl) rfl rfl (fun a g0 hst hb=>?_)
 refine r_s (L:=[(1,_)]) (T:=[⟨[],_,[],[],[4]⟩]) (F:=[.o 0]) (hst.pick [1] rfl) hb Zb
  (Qa rfl c_f<|o_n) (fun a g hst hb=>?_)
 refine r_s (T:=[⟨[.o 0],_,[],[],[5]⟩,⟨[.p 0 0],_,[],[0],[4]⟩]) (F:=[.p 1 0]) hst hb Zb
  (Qm rfl u_0<|Qa rfl u_0<|o_n) (fun a g hst hb=>?_)
 refine wp_ret ?_
 obtain rfl:=Option.some.inj H0
 exact Zx rfl hst hb (Zf (s:=4)) (hst.at 0 rfl)
theorem Zgk (f2:Nat) (C2:List Pd) (hC2:Free C2) (e2_:Zl Tryd.prog f2) (φ2:Zd → ByteArray → Option Int) (hφ2:∀ (y0:Zd) (y1:ByteArray) (r:Int),φ2 y0 y1=some r → FnOk Tryd.prog f2 ([(Zo.pd y0),(pStr y1)] ++ C2) (pInt .i64 r)) (a0:List Zd) (a1:ByteArray) {r:Int × Bool} (h:Zcd a0 a1 φ2=some r):FnOk Tryd.prog 108 [(Zo.sl.pd a0),(pStr a1),(pClo f2 C2 hC2)] (pTup [(pInt .i64 r.1),(Z7 r.2)]):=by
 have H0:=h
 unfold Zcd at H0
 clear h
 refine Zbw (N:=49) Tryd.func108 rfl rfl (Qe rfl) rfl rfl (fun a g0 hst hb=>?_)
 refine r_s (T:=[⟨[],_,[],[],[6]⟩,⟨[],_,[],[0],[7]⟩]) (F:=[.o 0,.o 1,.o 2]) hst hb Zb
  (Qa rfl c_i<|Qa rfl c_b<|o_n) (fun a g hst hb=>?_)
 refine r_s (T:=[⟨[.o 0],_,[],[],[12]⟩,⟨[.p 0 0],_,[],[0],[13]⟩,⟨[.p 1 0],_,[],[0,1],[8]⟩]) (F:=[.o 0,.o 1,.o 2,.p 2 0,.p 0 0]) hst hb Zb
  (Qm rfl u_0<|o_p rfl (Zcc Tryd.underlying23 rfl rfl u_0)<|Qa rfl u_0<|o_n) (fun a g hst hb=>?_)
 refine r_s (T:=[⟨[.o 3],_,[],[],[14]⟩,⟨[],_,[],[],[9]⟩,⟨[.p 0 0],_,[],[0,1],[10]⟩]) (F:=[.o 0,.o 1,.o 2,.o 3,.p 1 0,.p 2 0,.o 4]) hst hb Zb
  (Qm rfl u_0<|Qa rfl c_i<|Qa rfl u_0<|o_n) (fun a g hst hb=>?_)
 obtain ⟨z12,hz1,H0⟩:=Ze H0
 refine wp_seq ?_
 refine Zce (fun a w=>∃ (y11:Int) (g:G),w=g.w ∧ St 49 [(0,(Zo.sl.pd a0)),(1,(pStr a1)),(2,(pClo f2 C2 hC2)),(8,(pInt .i64 (a0.length:Int))),(9,(pInt .i64 y11)),(12,(Zo.sl.pd a0))] a g ∧ Base g0 g ∧ y11=z12) ?_ ?_
 ·rintro a w ⟨y11,g,rfl,hst,hb,rfl⟩
  refine Zm ?_
  obtain ⟨e13,h14,H0⟩:=Ze H0;obtain ⟨r15,h16,H0⟩:=Ze H0
  refine r_s (T:=⟨[.o 4],_,[],[],[35]⟩ :: ⟨[.o 4],_,[],[],[36]⟩ :: ⟨[.o 3],_,[],[],[37]⟩ :: ⟨[.p 1 0,.p 2 0],_,[],[1,2],[38]⟩ :: ⟨[.p 3 0],_,[],[1,2,3],[39]⟩ :: ⟨[.p 4 0,.o 2],_,[],List.range' 1 4,[40]⟩ :: ⟨[.p 4 0,.o 0],_,[],List.range' 1 4,[41]⟩ :: ⟨[.p 4 0,.o 4],_,[],List.range' 1 4,[42]⟩ :: ⟨[.p 4 0,.p 6 0,.p 7 0],_,[],[1,2,3,4,6,7],[43]⟩ :: ⟨[.p 4 0,.p 8 0],_,[],[1,2,3,4,6,7,8],[44]⟩ :: ⟨[.p 4 0,.o 1],_,[],List.range' 1 4,[45]⟩ :: ⟨[.p 4 0,.p 5 0,.p 9 0,.p 10 0],_,[],List.range' 1 10,[46]⟩ :: ⟨[.p 4 0,.p 11 0],_,[],List.range' 1 11,[47]⟩ :: ⟨[.p 4 0,.p 12 0],_,[],List.range' 1 12,[48]⟩ :: ⟨[.p 0 0],_,[],Lr 12,[6]⟩ :: ⟨[.p 13 0],_,[],Lr 15,[7]⟩ :: []) (F:=[.p 14 0,.p 15 0]) hst hb Zb
   (Qm rfl u_0<|Qm rfl u_0<|Qm rfl u_0<|o_p rfl (Zb8 rfl rfl u_0 u_1)<|Qm rfl u_0<|o_g (Qg_t rfl (fun hG=>Z0 rfl rfl u_0))<|o_g (Qg_t rfl (fun hG=>Z0 rfl rfl u_0))<|o_g (Qg_t rfl (fun hG=>Z0 rfl rfl u_0))<|o_g (Qg_t rfl (fun hG=>Zbp Tryd.underlying23 Zga rfl rfl (Opd.gd hG u_0) (Opd.gd hG u_1) (Zbs h14 hG)))<|o_g (Qg_t rfl (fun hG=>Zn Zd2 rfl rfl (Opd.gd hG u_0)))<|o_g (Qg_t rfl (fun hG=>Z0 rfl rfl u_0))<|o_g (Qg_t rfl (fun hG=>Znn e2_ (hφ2 _ _ _ (Zbs h16 hG)) rfl rfl (Opd.gd hG u_0) (.cons (Opd.gd hG u_1) (.cons (Opd.gd hG u_2) .nil))))<|o_g (Qg_t rfl (fun hG=>Zbc rfl rfl (Opd.gd hG u_0) c_i))<|o_p rfl (Zbi rfl rfl u_0 (fun hz=>(Opd.gd hz u_1)))<|Qa rfl u_0<|Qa rfl u_0<|o_n) (fun a g hst hb=>?_)
  refine wp_ret ?_
  obtain rfl:=Option.some.inj H0
  exact Zhe rfl hst hb (Zf (s:=6)) (Zf (s:=7)) (Zfi (hst.at 0 rfl) (hst.at 1 rfl))
 ·refine wp_block ?_
  refine wp_loop_ghost (fun n a w=>∃ (x1:Int) (x2:Int) (g:G),w=g.w ∧ St 49 [(0,(Zo.sl.pd a0)),(1,(pStr a1)),(2,(pClo f2 C2 hC2)),(8,(pInt .i64 (a0.length:Int))),(9,(pInt .i64 x1)),(10,(pInt .i64 x2)),(12,(Zo.sl.pd a0))] a g ∧ Base g0 g ∧ Zbb a0 a1 φ2 n x1 x2=some z12) (Int.toNat ((a0.length:Int) - (0:Int)) + 1) ⟨(0:Int),(a0.length:Int),g,rfl,(hst.pick [0,1,2,3,4,5,6] rfl),hb,hz1⟩ (fun n a w hI=>?_)
  obtain ⟨x1,x2,g,rfl,hst,hb,H1⟩:=hI
  cases n with
  | zero=>exact absurd H1 (by simp [Zbb])
  | succ n =>
   rw [Zbb] at H1
   refine wp_seq ?_
   refine r_s (T:=[⟨[.o 4],_,[],[],[15]⟩,⟨[.o 5],_,[],[],[16]⟩,⟨[.p 0 0,.p 1 0],_,[],[0,1],[17]⟩]) (F:=[.o 0,.o 1,.o 2,.o 3,.o 4,.o 5,.o 6,.p 2 0]) hst hb Zb
    (Qm rfl u_0<|Qm rfl u_0<|o_p rfl (Zb8 rfl rfl u_0 u_1)<|o_n) (fun a g hst hb=>?_)
   refine wp_cond_split (hst.bool 7 rfl) (fun hc3=>?_) (fun hc3=>?_)
   ·replace H1:=Zp hc3 H1
    refine wp_skip ?_
    refine Zm ?_
    refine Zce (fun a w=>∃ (j9:Int) (j10:Int) (g:G),w=g.w ∧ St 49 [(0,(Zo.sl.pd a0)),(1,(pStr a1)),(2,(pClo f2 C2 hC2)),(8,(pInt .i64 (a0.length:Int))),(9,(pInt .i64 j9)),(10,(pInt .i64 j10)),(12,(Zo.sl.pd a0))] a g ∧ Base g0 g ∧ Zbz (Zbb a0 a1 φ2 n) j9 j10=some z12) ?_ ?_
    ·rintro a w ⟨j9,j10,g,rfl,hst,hb,H1⟩
     unfold Zbz at H1
     exact ⟨n,Nat.lt_succ_self _,j9,j10,g,rfl,(hst.pick [0,1,2,3,4,5,6] rfl),hb,H1⟩
    ·refine wp_block ?_
     refine r_s (L:=[(0,_),(1,_),(2,_),(8,_),(9,_),(10,_),(12,_)]) (T:=[⟨[.o 4],_,[],[],[18]⟩,⟨[.o 5],_,[],[],[19]⟩,⟨[.p 0 0,.p 1 0],_,[],[0,1],[20]⟩,⟨[.p 2 0],_,[],[0,1,2],[21]⟩,⟨[.p 3 0],_,[],Lr 4,[22]⟩,⟨[.p 4 0],_,[],Lr 5,[23]⟩,⟨[.p 5 0],_,[],Lr 6,[11]⟩]) (F:=[.o 0,.o 1,.o 2,.o 3,.o 4,.o 5,.p 6 0,.o 6]) (hst.pick [0,1,2,3,4,5,6] rfl) hb Zb
      (Qm rfl u_0<|Qm rfl u_0<|o_p rfl (Zcs rfl rfl u_0 u_1 rfl)<|o_p rfl (Zgf Tryd.underlying3 Tryd.underlying142 rfl rfl u_0 rfl)<|o_p rfl (Z56 rfl rfl u_0 c_i (by decide) rfl)<|o_p rfl (Zgf Tryd.underlying142 Tryd.underlying3 rfl rfl u_0 rfl)<|Qa rfl u_0<|o_n) (fun a g hst hb=>?_)
     obtain ⟨e4,h5,H1⟩:=Ze H1;obtain ⟨r6,h7,H1⟩:=Ze H1
     refine r_s (T:=[⟨[.o 2],_,[],[],[24]⟩,⟨[.o 0],_,[],[],[25]⟩,⟨[.o 6],_,[],[],[26]⟩,⟨[.p 1 0,.p 2 0],_,[],[1,2],[27]⟩,⟨[.p 3 0],_,[],[1,2,3],[28]⟩,⟨[.o 1],_,[],[],[29]⟩,⟨[.p 0 0,.p 4 0,.p 5 0],_,[],Lr 6,[30]⟩,⟨[.p 6 0],_,[],Lr 7,[31]⟩]) (F:=[.o 0,.o 1,.o 2,.o 3,.o 4,.o 5,.o 6,.o 7,.p 7 0]) hst hb Zb
      (Qm rfl u_0<|Qm rfl u_0<|Qm rfl u_0<|o_p rfl (Zbp Tryd.underlying23 Zga rfl rfl u_0 u_1 h5)<|Ql rfl Zd2 u_0<|Qm rfl u_0<|o_p rfl (Znn e2_ (hφ2 _ _ _ h7) rfl rfl u_0 (.cons u_1 (.cons u_2 .nil)))<|o_p rfl (Zb8 rfl rfl u_0 c_i)<|o_n) (fun a g hst hb=>?_)
     refine wp_cond_split (hst.bool 8 rfl) (fun hc8=>?_) (fun hc8=>?_)
     ·replace H1:=Zp hc8 H1
      refine r_g (L:=[(0,_),(1,_),(2,_),(8,_),(10,_),(11,_),(12,_)]) (T:=[⟨[.o 5],_,[],[],[32]⟩,⟨[.p 0 0],_,[],[0],[33]⟩,⟨[.p 1 0],_,[],[0,1],[9]⟩]) (F:=[.o 0,.o 1,.o 2,.o 3,.p 2 0,.o 4,.o 6]) (hst.pick [0,1,2,3,5,6,7] rfl) hb Zb
       (Qm rfl u_0<|o_p rfl (Zcs rfl rfl u_0 c_i rfl)<|Qa rfl u_0<|o_n) (fun a g hst hb=>?_)
      refine Zbj ?_
      exact ⟨(IntKind.i64.wrap ((IntKind.i64.wrap (Int.fdiv (IntKind.u64.wrap (IntKind.i64.wrap (x1 + x2))) (2 ^ 1))) + (1:Int))),x2,g,rfl,(hst.pick [0,1,2,3,4,5,6] rfl),hb,H1⟩
     ·replace H1:=Zq hc8 H1
      refine r_g (L:=[(0,_),(1,_),(2,_),(8,_),(9,_),(11,_),(12,_)]) (T:=[⟨[.o 5],_,[],[],[34]⟩,⟨[.p 0 0],_,[],[0],[10]⟩]) (F:=[.o 0,.o 1,.o 2,.o 3,.o 4,.p 1 0,.o 6]) (hst.pick [0,1,2,3,4,6,7] rfl) hb Zb
       (Qm rfl u_0<|Qa rfl u_0<|o_n) (fun a g hst hb=>?_)
      refine Zbj ?_
      exact ⟨x1,(IntKind.i64.wrap (Int.fdiv (IntKind.u64.wrap (IntKind.i64.wrap (x1 + x2))) (2 ^ 1))),g,rfl,(hst.pick [0,1,2,3,4,5,6] rfl),hb,H1⟩
   ·replace H1:=Zq hc3 H1
    refine wp_exit ?_
    refine Zca ?_
    refine Zca ?_
    refine Zc5 ?_
    exact ⟨x1,g,rfl,(hst.pick [0,1,2,3,4,6] rfl),hb,Option.some.inj H1⟩
end Go.CL
