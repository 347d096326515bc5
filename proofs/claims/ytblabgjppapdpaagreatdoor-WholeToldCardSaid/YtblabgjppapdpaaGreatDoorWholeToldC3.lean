/- A part of the proof of WholeTold. -/
import Derived.Test.YtblabgjppapdpaaGreatDoorWholeToldC2
import Derived.Test.YtblabgjppapdpaaGreatDoorProg
import Derived.Shelf.Strings.SplitShaped
import Derived.Shelf.Strings.OnBuilder
import Derived.Shelf.Strings.Repeat
import Derived.Shelf.Strings.BuilderK
import Derived.Shelf.Strconv.Itoa4
import Derived.Shelf.Strconv.ParseIntPublic10
import Derived.Shelf.Small.Wraps
import Derived.WalkKit
import Derived.BigCall
set_option linter.unusedVariables false
set_option linter.unusedSimpArgs false
set_option maxRecDepth 100000
namespace Go.CL
open Go Go.RowKit Go.Proofs
theorem Za:Tryz.prog.follows .mixedOrders=true:=by kernel_rfl
theorem Zqq {α:Type} {l:List α} (h:l.length=1):∃ u0,l=[u0]:=by
 match l,h with
 | [u0],_=>exact ⟨u0,rfl⟩
theorem Zvx {α:Type} {l:List α} (h:l.length=8):∃ u0 u1 u2 u3 u4 u5 u6 u7,l=[u0,u1,u2,u3,u4,u5,u6,u7]:=by
 match l,h with
 | [u0,u1,u2,u3,u4,u5,u6,u7],_=>exact ⟨u0,u1,u2,u3,u4,u5,u6,u7,rfl⟩
def Zx1:List (Kd.FK Zu):=[⟨_,Kd.flt,0,fun x:Zu=>x.Score⟩,
 ⟨_,Kd.str,1,fun x:Zu=>x.Name⟩]
def Zy:Kd Zu:=Kd.struct 2 Zx1 (by rfl)
theorem Zic:∀ g,Zy.K g (default:Zu) [.float .f64 0,.string ByteArray.empty]:=fun g=>⟨rfl,(Qc.2 ⟨(rfl),(Qc.2 ⟨(rfl),(fun _ h=>by cases h)⟩)⟩)⟩
def Zvf:List (Kd.FK Zb):=[⟨_,(Kd.int .i64),0,fun x:Zb=>x.Kind⟩,
 ⟨_,(Kd.int .i64),1,fun x:Zb=>x.Num⟩,
 ⟨_,(Kd.int .i64),2,fun x:Zb=>x.Low⟩,
 ⟨_,(Kd.int .i64),3,fun x:Zb=>x.High⟩,
 ⟨_,Kd.flt,4,fun x:Zb=>x.Real⟩,
 ⟨_,(Kd.int .i64),5,fun x:Zb=>x.Cap⟩,
 ⟨_,Kd.str,6,fun x:Zb=>x.Text⟩,
 ⟨_,Zy.sl,7,fun x:Zb=>x.List⟩]
def Ze:Kd Zb:=Kd.struct 8 Zvf (by rfl)
theorem Zb3:∀ g,Ze.K g (default:Zb) [.int .i64 0,.int .i64 0,.int .i64 0,.int .i64 0,.float .f64 0,.int .i64 0,.string ByteArray.empty,.slice none 0 0]:=fun g=>⟨rfl,(Qc.2 ⟨(rfl),(Qc.2 ⟨(rfl),(Qc.2 ⟨(rfl),(Qc.2 ⟨(rfl),(Qc.2 ⟨(rfl),(Qc.2 ⟨(rfl),(Qc.2 ⟨(rfl),(Qc.2 ⟨(⟨none,0,rfl,Nat.le_refl _,Nat.zero_le _,.inl rfl⟩),(fun _ h=>by cases h)⟩)⟩)⟩)⟩)⟩)⟩)⟩)⟩)⟩
def shelf_nodeT.V (g:G):shelf_nodeT → Value → Prop
 | .nil,v=>v=.pointer none
 | .node x0 x1 x2 x3 x4,v=>∃ b o cs,v=.pointer (some ⟨b,o,none⟩) ∧ CellsAt g b o cs ∧ cs.length=12 ∧ (∀ u ∈ cs,u.oneCell'=true) ∧ Kd.str.K g x0 (seg cs 0 1) ∧ Ze.K g x1 (seg cs 1 8) ∧ (∃ v,seg cs 9 1=[v] ∧ shelf_nodeT.V g x2 v) ∧ (∃ v,seg cs 10 1=[v] ∧ shelf_nodeT.V g x3 v) ∧ (Kd.int .i64).K g x4 (seg cs 11 1)
theorem shelf_nodeT.mono {g g':G} (h:g.le g') (t:shelf_nodeT):∀ v,shelf_nodeT.V g t v → shelf_nodeT.V g' t v:=by
 induction t with
 | nil=>exact fun v h=>h
 | node x0 x1 x2 x3 x4 ih2 ih3 =>
  rintro v ⟨b,o,cs,rfl,hc,hl,hz,h0,h1,⟨w2,e2,k2⟩,⟨w3,e3,k3⟩,h4⟩
  exact ⟨b,o,cs,rfl,hc.mono h,hl,hz,Kd.str.mono h h0,Ze.mono h h1,⟨w2,e2,ih2 w2 k2⟩,⟨w3,e3,ih3 w3 k3⟩,(Kd.int .i64).mono h h4⟩
theorem shelf_nodeT.ptr {g:G} {t:shelf_nodeT} {v:Value} (h:shelf_nodeT.V g t v):∃ p,v=.pointer p ∧ p.isNone=t.isNil:=by
 cases t with
 | nil=>exact ⟨_,h,rfl⟩
 | node =>
  obtain ⟨b,o,cs,e,_⟩:=h
  exact ⟨_,e,rfl⟩
def Z9:Kd shelf_nodeT where
 sz:=1
 ag:=false
 K:=fun g t cs=>∃ v,cs=[v] ∧ shelf_nodeT.V g t v
 len:=by rintro _ _ _ ⟨v,rfl,_⟩;rfl
 one:=by
  rintro _ _ _ ⟨v,rfl,h⟩ u hu
  obtain ⟨p,e,_⟩:=shelf_nodeT.ptr h
  rw [List.mem_singleton.1 hu,e];rfl
 mono:=fun h ⟨v,e,k⟩=>⟨v,e,shelf_nodeT.mono h _ _ k⟩
 nag:=fun _=>rfl
def Zvb:List (Kd.FK shelf_node):=[⟨_,Kd.str,0,fun x:shelf_node=>x.key⟩,
 ⟨_,Ze,1,fun x:shelf_node=>x.rec_⟩,
 ⟨_,Z9,9,fun x:shelf_node=>x.left⟩,
 ⟨_,Z9,10,fun x:shelf_node=>x.right⟩,
 ⟨_,(Kd.int .i64),11,fun x:shelf_node=>x.size⟩]
def Zfi:Kd shelf_node:=Kd.struct 12 Zvb (by rfl)
theorem shelf_nodeT.V_iff {g:G} {t:shelf_nodeT} {v:Value}:(Z9.pd t).p g v ↔ shelf_nodeT.V g t v:=by
 constructor
 ·rintro ⟨_,⟨u,rfl,h⟩,rfl⟩;exact h
 ·exact fun h=>⟨_,⟨v,rfl,h⟩,rfl⟩
theorem Zkf (g:G):Z9.K g shelf_nodeT.nil [.pointer none]:=⟨_,rfl,rfl⟩
theorem Zfq (g:G):(Z9.pd shelf_nodeT.nil).p g (.pointer none):=shelf_nodeT.V_iff.2 rfl
theorem Zif (t:shelf_nodeT) (g:G) (v:Value) (h:(Z9.pd t).p g v):∃ p,v=.pointer p ∧ p.isNone=t.isNil:=shelf_nodeT.ptr (shelf_nodeT.V_iff.1 h)
theorem Zv {g:G} {t:shelf_nodeT} {x:shelf_node} {v:Value} (h:t.un=some x) (hv:(Z9.pd t).p g v):(Zfi.ptr x).p g v:=by
 cases t with
 | nil=>cases h
 | node x0 x1 x2 x3 x4 =>
  obtain rfl:=Option.some.inj h
  obtain ⟨b,o,cs,rfl,hc,hl,_,h0,h1,h2,h3,h4⟩:=shelf_nodeT.V_iff.1 hv
  exact ⟨b,o,cs,rfl,⟨hl,(Qc.2 ⟨h0,(Qc.2 ⟨h1,(Qc.2 ⟨h2,(Qc.2 ⟨h3,(Qc.2 ⟨h4,(fun _ h=>by cases h)⟩)⟩)⟩)⟩)⟩)⟩,hc⟩
theorem Zt0 {g:G} {x:shelf_node} {v:Value} (h:(Zfi.ptr x).p g v):(Z9.pd x.up).p g v:=by
 obtain ⟨b,o,cs,rfl,hk,hc⟩:=h
 exact shelf_nodeT.V_iff.2 ⟨b,o,cs,rfl,hc,hk.1,Zfi.one hk,hk.2 _ (List.mem_of_getElem? (i:=0) rfl),hk.2 _ (List.mem_of_getElem? (i:=1) rfl),hk.2 _ (List.mem_of_getElem? (i:=2) rfl),hk.2 _ (List.mem_of_getElem? (i:=3) rfl),hk.2 _ (List.mem_of_getElem? (i:=4) rfl)⟩
def Ztz:List (Kd.FK Zj):=[⟨_,Z9,0,fun x:Zj=>x.top⟩,
 ⟨_,(Kd.int .i64),1,fun x:Zj=>x.room⟩]
def Z1:Kd Zj:=Kd.struct 2 Ztz (by rfl)
theorem Zd5:∀ g,Z1.K g (default:Zj) [.pointer none,.int .i64 0]:=fun g=>⟨rfl,(Qc.2 ⟨(Zkf _),(Qc.2 ⟨(rfl),(fun _ h=>by cases h)⟩)⟩)⟩
def Zwo:List (Kd.FK Zby):=[⟨_,Kd.bool,0,fun x:Zby=>x.text⟩,
 ⟨_,Kd.bool,1,fun x:Zby=>x.num⟩,
 ⟨_,Kd.bool,2,fun x:Zby=>x.bounds⟩,
 ⟨_,Kd.bool,3,fun x:Zby=>x.real⟩,
 ⟨_,Kd.bool,4,fun x:Zby=>x.list⟩]
def Zck:Kd Zby:=Kd.struct 5 Zwo (by rfl)
theorem Zqk:∀ g,Zck.K g (default:Zby) [.bool false,.bool false,.bool false,.bool false,.bool false]:=fun g=>⟨rfl,(Qc.2 ⟨(rfl),(Qc.2 ⟨(rfl),(Qc.2 ⟨(rfl),(Qc.2 ⟨(rfl),(Qc.2 ⟨(rfl),(fun _ h=>by cases h)⟩)⟩)⟩)⟩)⟩)⟩
def Zpw:List (Kd.FK Z3):=[⟨_,Kd.str,0,fun x:Z3=>x.Key⟩,
 ⟨_,Ze,1,fun x:Z3=>x.Rec⟩]
def Zbr:Kd Z3:=Kd.struct 9 Zpw (by rfl)
theorem Zk9:∀ g,Zbr.K g (default:Z3) [.string ByteArray.empty,.int .i64 0,.int .i64 0,.int .i64 0,.int .i64 0,.float .f64 0,.int .i64 0,.string ByteArray.empty,.slice none 0 0]:=fun g=>⟨rfl,(Qc.2 ⟨(rfl),(Qc.2 ⟨(Zb3 _),(fun _ h=>by cases h)⟩)⟩)⟩
def Zpb:List (Kd.FK Zn):=[⟨_,Zbr.sl,0,fun x:Zn=>x.L⟩,
 ⟨_,(Kd.int .i64),1,fun x:Zn=>x.Room⟩]
def Zbo:Kd Zn:=Kd.struct 2 Zpb (by rfl)
theorem Zk3:∀ g,Zbo.K g (default:Zn) [.slice none 0 0,.int .i64 0]:=fun g=>⟨rfl,(Qc.2 ⟨(⟨none,0,rfl,Nat.le_refl _,Nat.zero_le _,.inl rfl⟩),(Qc.2 ⟨(rfl),(fun _ h=>by cases h)⟩)⟩)⟩
def Zx3:List (Kd.FK Zcr):=[⟨_,Kd.str,0,fun x:Zcr=>x.word⟩,
 ⟨_,(Kd.int .i64),1,fun x:Zcr=>x.on⟩,
 ⟨_,Kd.str,2,fun x:Zcr=>x.has⟩]
def Zdo:Kd Zcr:=Kd.struct 3 Zx3 (by rfl)
theorem Zrr:∀ g,Zdo.K g (default:Zcr) [.string ByteArray.empty,.int .i64 0,.string ByteArray.empty]:=fun g=>⟨rfl,(Qc.2 ⟨(rfl),(Qc.2 ⟨(rfl),(Qc.2 ⟨(rfl),(fun _ h=>by cases h)⟩)⟩)⟩)⟩
def Zzh:List (Kd.FK Zr):=[⟨_,(Kd.int .i64),0,fun x:Zr=>x.Kind⟩,
 ⟨_,Kd.str,1,fun x:Zr=>x.Key⟩,
 ⟨_,(Kd.int .i64),2,fun x:Zr=>x.N⟩,
 ⟨_,Kd.flt,3,fun x:Zr=>x.X⟩,
 ⟨_,Kd.str,4,fun x:Zr=>x.S⟩,
 ⟨_,Ze,5,fun x:Zr=>x.Make⟩,
 ⟨_,Kd.bool,13,fun x:Zr=>x.Must⟩]
def Zx:Kd Zr:=Kd.struct 14 Zzh (by rfl)
theorem Zi1:∀ g,Zx.K g (default:Zr) [.int .i64 0,.string ByteArray.empty,.int .i64 0,.float .f64 0,.string ByteArray.empty,.int .i64 0,.int .i64 0,.int .i64 0,.int .i64 0,.float .f64 0,.int .i64 0,.string ByteArray.empty,.slice none 0 0,.bool false]:=fun g=>⟨rfl,(Qc.2 ⟨(rfl),(Qc.2 ⟨(rfl),(Qc.2 ⟨(rfl),(Qc.2 ⟨(rfl),(Qc.2 ⟨(rfl),(Qc.2 ⟨(Zb3 _),(Qc.2 ⟨(rfl),(fun _ h=>by cases h)⟩)⟩)⟩)⟩)⟩)⟩)⟩)⟩
def Zx4:List (Kd.FK Zbq):=[⟨_,Zx.sl,0,fun x:Zbq=>x.Acts⟩]
def Zdr:Kd Zbq:=Kd.struct 1 Zx4 (by rfl)
theorem Zrj:∀ g,Zdr.K g (default:Zbq) [.slice none 0 0]:=fun g=>⟨rfl,(Qc.2 ⟨(⟨none,0,rfl,Nat.le_refl _,Nat.zero_le _,.inl rfl⟩),(fun _ h=>by cases h)⟩)⟩
def Zu7:List (Kd.FK Z0):=[⟨_,Kd.str.sl,0,fun x:Z0=>x.l⟩]
def Z8:Kd Z0:=Kd.struct 1 Zu7 (by rfl)
def Zva:List (Kd.FK Zbb):=[⟨_,(Kd.int .i64),0,fun x:Zbb=>x.Code⟩,
 ⟨_,(Kd.int .i64),1,fun x:Zbb=>x.Num⟩,
 ⟨_,Ze,2,fun x:Zbb=>x.Rec⟩]
def Zbd:Kd Zbb:=Kd.struct 10 Zva (by rfl)
theorem Zfo:∀ g,Zbd.K g (default:Zbb) [.int .i64 0,.int .i64 0,.int .i64 0,.int .i64 0,.int .i64 0,.int .i64 0,.float .f64 0,.int .i64 0,.string ByteArray.empty,.slice none 0 0]:=fun g=>⟨rfl,(Qc.2 ⟨(rfl),(Qc.2 ⟨(rfl),(Qc.2 ⟨(Zb3 _),(fun _ h=>by cases h)⟩)⟩)⟩)⟩
def Zte:List (Kd.FK Zdm):=[⟨_,(Kd.int .i64),0,fun x:Zdm=>x.code⟩,
 ⟨_,(Kd.int .i64),1,fun x:Zdm=>x.at_⟩]
def Zeo:Kd Zdm:=Kd.struct 2 Zte (by rfl)
theorem Zsc:∀ g,Zeo.K g (default:Zdm) [.int .i64 0,.int .i64 0]:=fun g=>⟨rfl,(Qc.2 ⟨(rfl),(Qc.2 ⟨(rfl),(fun _ h=>by cases h)⟩)⟩)⟩
def Zvg:List (Kd.FK Zbv):=[⟨_,(Kd.int .i64),0,fun x:Zbv=>x.Code⟩,
 ⟨_,(Kd.int .i64),1,fun x:Zbv=>x.At⟩,
 ⟨_,Zbd.sl,2,fun x:Zbv=>x.Answers⟩]
def Zf5:Kd Zbv:=Kd.struct 3 Zvg (by rfl)
theorem Zvj:∀ g,Zf5.K g (default:Zbv) [.int .i64 0,.int .i64 0,.slice none 0 0]:=fun g=>⟨rfl,(Qc.2 ⟨(rfl),(Qc.2 ⟨(rfl),(Qc.2 ⟨(⟨none,0,rfl,Nat.le_refl _,Nat.zero_le _,.inl rfl⟩),(fun _ h=>by cases h)⟩)⟩)⟩)⟩
def Z6p:Int → List Value:=fun x=>[.int .u64 x]
theorem gm_0:(0,g_0.flatMap Z6p) ∈ GL:=List.mem_of_getElem? (i:=0) rfl
def Zwk:Zcr → List Value:=fun x=>[.string x.word,.int .i64 x.on,.string x.has]
theorem gm_1:(1,g_1.flatMap Zwk) ∈ GL:=List.mem_of_getElem? (i:=1) rfl
theorem gk_1:∀ g,(Kd.arr 22 Zdo).K g g_1 (g_1.flatMap Zwk):=fun g=>Z7j (dk:=Zdo) (enc:=Zwk) (fun g x=>⟨rfl,(Qc.2 ⟨rfl,(Qc.2 ⟨rfl,(Qc.2 ⟨rfl,(fun _ h=>by cases h)⟩)⟩)⟩)⟩) g g_1
def Z63:Int → List Value:=fun x=>[.int .u8 x]
theorem gm_5:(5,g_5.flatMap Z63) ∈ GL:=List.mem_of_getElem? (i:=2) rfl
theorem Z7x:Zk Tryz.prog 21:=by
 unfold Zk
 kernel_rfl
theorem Z6u {N d:Nat} {o:Oper} {uses:Z4}   (hop:o.op=.build 27 #[]) (hd:o.dst=some d) :OB Tryz.prog N o uses [(d,Z1.pd { top:=shelf_nodeT.nil,room:=(0:Int) })] []:=by
 refine Zcq hop hd fun a g hh=>?_
 refine ⟨.agg #[.pointer none,.int .i64 0],?_,[.pointer none,.int .i64 0],⟨rfl,(Qc.2 ⟨(Zkf _),(Qc.2 ⟨(rfl),(fun _ h=>by cases h)⟩)⟩)⟩,rfl⟩
 simp only [List.map_toArray,List.map_cons,List.map_nil,List.map_nil]
 exact Zcd Tryz.underlying27 (zero:=.agg #[.pointer none,.int .i64 0]) (by kernel_rfl) (places:=[(0,1),(1,1)]) (by kernel_rfl) (by kernel_rfl) g.w
theorem Zbu:Ty Tryz.prog 27 Z1:=⟨by kernel_rfl,by kernel_rfl⟩
theorem Z58 {N d:Nat} {o:Oper} {uses:Z4} {x1:Operand} {v1:Int} (hop:o.op=.build 27 #[(1,x1)]) (hd:o.dst=some d) (h1:Opd uses x1 ((Kd.int .i64).pd v1)):OB Tryz.prog N o uses [(d,Z1.pd { top:=shelf_nodeT.nil,room:=v1 })] []:=by
 refine Zcq hop hd fun a g hh=>?_
 obtain ⟨c1,k1,e1⟩:=h1 a g hh
 obtain rfl:=k1
 refine ⟨.agg #[.pointer none,.int .i64 v1],?_,[.pointer none,.int .i64 v1],⟨rfl,(Qc.2 ⟨(Zkf _),(Qc.2 ⟨rfl,(fun _ h=>by cases h)⟩)⟩)⟩,rfl⟩
 simp only [List.map_toArray,List.map_cons,List.map_nil,e1]
 exact Zcd Tryz.underlying27 (zero:=.agg #[.pointer none,.int .i64 0]) (by kernel_rfl) (places:=[(0,1),(1,1)]) (by kernel_rfl) (by kernel_rfl) g.w
theorem Zd1:Fld Tryz.prog 38 7 Ze Zy.sl (fun x:Zb=>x.List):=Fld.of ⟨_,Zy.sl,7,fun x:Zb=>x.List⟩ (List.mem_of_getElem? (i:=7) rfl) 7 rfl (by kernel_rfl) (by decide)
theorem Zfz:Ty Tryz.prog 36 Zy.sl:=⟨by kernel_rfl,by kernel_rfl⟩
theorem Zje:Fld Tryz.prog 38 6 Ze Kd.str (fun x:Zb=>x.Text):=Fld.of ⟨_,Kd.str,6,fun x:Zb=>x.Text⟩ (List.mem_of_getElem? (i:=6) rfl) 6 rfl (by kernel_rfl) (by decide)
theorem ty_9:Ty Tryz.prog 9 Kd.str:=⟨by kernel_rfl,by kernel_rfl⟩
theorem Zji:(Tryz.prog.info? 90).map (·.size)=some Zy.sz:=by kernel_rfl
theorem Zgr:Ty Tryz.prog 90 Zy:=⟨by kernel_rfl,by kernel_rfl⟩
theorem Ze7:Fld Tryz.prog 90 1 Zy Kd.str (fun x:Zu=>x.Name):=Fld.of ⟨_,Kd.str,1,fun x:Zu=>x.Name⟩ (List.mem_of_getElem? (i:=1) rfl) 1 rfl (by kernel_rfl) (by decide)
theorem Z49:Fld Tryz.prog 79 4 Zfi (Kd.int .i64) (fun x:shelf_node=>x.size):=Fld.of ⟨_,(Kd.int .i64),11,fun x:shelf_node=>x.size⟩ (List.mem_of_getElem? (i:=4) rfl) 11 rfl (by kernel_rfl) (by decide)
theorem ty_3:Ty Tryz.prog 3 (Kd.int .i64):=⟨by kernel_rfl,by kernel_rfl⟩
theorem Zqz:Fld Tryz.prog 27 0 Z1 Z9 (fun x:Zj=>x.top):=Fld.of ⟨_,Z9,0,fun x:Zj=>x.top⟩ (List.mem_of_getElem? (i:=0) rfl) 0 rfl (by kernel_rfl) (by decide)
theorem Zdy:Ty Tryz.prog 25 Z9:=⟨by kernel_rfl,by kernel_rfl⟩
theorem Zlq:Zk Tryz.prog 25:=by
 unfold Zk
 kernel_rfl
theorem Zvk:TE Tryz.prog 36 90 Zy 24:=TE.of Tryz.underlying36 (by kernel_rfl) (by decide) (by decide)
theorem Z75:Zk Tryz.prog 49:=by
 unfold Zk
 kernel_rfl
theorem Z48 {c:Option Nat} {N j s:Nat} {o:Oper} {uses:Z4} {x z:Operand} {v:Zb} {y0 y:List Zu} {v0:Zb} {t:Nat} (hT:Ty Tryz.prog t Zy.sl) (hop:o.op=.store t x z) (hd:o.dst=none) (hs:Opd uses (.tmp s) (Zbf c Ze j v)) (hx:Opd uses x (Zeq Ze j v0 7 Zy.sl y0)) (hz:Opd uses z (Zy.sl.pd y)):OB Tryz.prog N o uses [(s,Zbf c Ze j { v with List:=y })] [j + 1] :=
 Zf6 hT hop hd hs hx hz fun g cs ys hk hy=>by
  have hc:cs.length=8:=hk.1
  have hl:ys.length=1:=Zy.sl.len hy
  exact ⟨by omega,(Zb7 (by omega)).trans hc,(Qc.2 ⟨(by show (Kd.int .i64).K g v.Kind (seg (Zt cs 7 ys) 0 1);rw [Zh (by omega) (by omega)];exact hk.2 _ (List.mem_of_getElem? (i:=0) rfl)),(Qc.2 ⟨(by show (Kd.int .i64).K g v.Num (seg (Zt cs 7 ys) 1 1);rw [Zh (by omega) (by omega)];exact hk.2 _ (List.mem_of_getElem? (i:=1) rfl)),(Qc.2 ⟨(by show (Kd.int .i64).K g v.Low (seg (Zt cs 7 ys) 2 1);rw [Zh (by omega) (by omega)];exact hk.2 _ (List.mem_of_getElem? (i:=2) rfl)),(Qc.2 ⟨(by show (Kd.int .i64).K g v.High (seg (Zt cs 7 ys) 3 1);rw [Zh (by omega) (by omega)];exact hk.2 _ (List.mem_of_getElem? (i:=3) rfl)),(Qc.2 ⟨(by show Kd.flt.K g v.Real (seg (Zt cs 7 ys) 4 1);rw [Zh (by omega) (by omega)];exact hk.2 _ (List.mem_of_getElem? (i:=4) rfl)),(Qc.2 ⟨(by show (Kd.int .i64).K g v.Cap (seg (Zt cs 7 ys) 5 1);rw [Zh (by omega) (by omega)];exact hk.2 _ (List.mem_of_getElem? (i:=5) rfl)),(Qc.2 ⟨(by show Kd.str.K g v.Text (seg (Zt cs 7 ys) 6 1);rw [Zh (by omega) (by omega)];exact hk.2 _ (List.mem_of_getElem? (i:=6) rfl)),(Qc.2 ⟨(by show Zy.sl.K g y (seg (Zt cs 7 ys) 7 1);rw [Zb0 (by omega) hl];exact hy),(fun _ h=>by cases h)⟩)⟩)⟩)⟩)⟩)⟩)⟩)⟩)⟩
theorem Zbm:Ty Tryz.prog 38 Ze:=⟨by kernel_rfl,by kernel_rfl⟩
theorem Z2i {N d:Nat} {o:Oper} {uses:Z4} {x0:Operand} {v0:Bool} (hop:o.op=.build 115 #[(0,x0)]) (hd:o.dst=some d) (h0:Opd uses x0 (Kd.bool.pd v0)):OB Tryz.prog N o uses [(d,Zck.pd { text:=v0,num:=false,bounds:=false,real:=false,list:=false })] []:=by
 refine Zcq hop hd fun a g hh=>?_
 obtain ⟨c0,k0,e0⟩:=h0 a g hh
 obtain rfl:=k0
 refine ⟨.agg #[.bool v0,.bool false,.bool false,.bool false,.bool false],?_,[.bool v0,.bool false,.bool false,.bool false,.bool false],⟨rfl,(Qc.2 ⟨rfl,(Qc.2 ⟨(rfl),(Qc.2 ⟨(rfl),(Qc.2 ⟨(rfl),(Qc.2 ⟨(rfl),(fun _ h=>by cases h)⟩)⟩)⟩)⟩)⟩)⟩,rfl⟩
 simp only [List.map_toArray,List.map_cons,List.map_nil,e0]
 exact Zcd Tryz.underlying115 (zero:=.agg #[.bool false,.bool false,.bool false,.bool false,.bool false]) (by kernel_rfl) (places:=[(0,1),(1,1),(2,1),(3,1),(4,1)]) (by kernel_rfl) (by kernel_rfl) g.w
theorem Zh5:Ty Tryz.prog 115 Zck:=⟨by kernel_rfl,by kernel_rfl⟩
theorem Z26 {N d:Nat} {o:Oper} {uses:Z4} {x1:Operand} {v1:Bool} (hop:o.op=.build 115 #[(1,x1)]) (hd:o.dst=some d) (h1:Opd uses x1 (Kd.bool.pd v1)):OB Tryz.prog N o uses [(d,Zck.pd { text:=false,num:=v1,bounds:=false,real:=false,list:=false })] []:=by
 refine Zcq hop hd fun a g hh=>?_
 obtain ⟨c1,k1,e1⟩:=h1 a g hh
 obtain rfl:=k1
 refine ⟨.agg #[.bool false,.bool v1,.bool false,.bool false,.bool false],?_,[.bool false,.bool v1,.bool false,.bool false,.bool false],⟨rfl,(Qc.2 ⟨(rfl),(Qc.2 ⟨rfl,(Qc.2 ⟨(rfl),(Qc.2 ⟨(rfl),(Qc.2 ⟨(rfl),(fun _ h=>by cases h)⟩)⟩)⟩)⟩)⟩)⟩,rfl⟩
 simp only [List.map_toArray,List.map_cons,List.map_nil,e1]
 exact Zcd Tryz.underlying115 (zero:=.agg #[.bool false,.bool false,.bool false,.bool false,.bool false]) (by kernel_rfl) (places:=[(0,1),(1,1),(2,1),(3,1),(4,1)]) (by kernel_rfl) (by kernel_rfl) g.w
theorem Zzo {N d:Nat} {o:Oper} {uses:Z4} {x1:Operand} {x2:Operand} {v1:Bool} {v2:Bool} (hop:o.op=.build 115 #[(1,x1),(2,x2)]) (hd:o.dst=some d) (h1:Opd uses x1 (Kd.bool.pd v1)) (h2:Opd uses x2 (Kd.bool.pd v2)):OB Tryz.prog N o uses [(d,Zck.pd { text:=false,num:=v1,bounds:=v2,real:=false,list:=false })] []:=by
 refine Zcq hop hd fun a g hh=>?_
 obtain ⟨c1,k1,e1⟩:=h1 a g hh
 obtain rfl:=k1
 obtain ⟨c2,k2,e2⟩:=h2 a g hh
 obtain rfl:=k2
 refine ⟨.agg #[.bool false,.bool v1,.bool v2,.bool false,.bool false],?_,[.bool false,.bool v1,.bool v2,.bool false,.bool false],⟨rfl,(Qc.2 ⟨(rfl),(Qc.2 ⟨rfl,(Qc.2 ⟨rfl,(Qc.2 ⟨(rfl),(Qc.2 ⟨(rfl),(fun _ h=>by cases h)⟩)⟩)⟩)⟩)⟩)⟩,rfl⟩
 simp only [List.map_toArray,List.map_cons,List.map_nil,e1,e2]
 exact Zcd Tryz.underlying115 (zero:=.agg #[.bool false,.bool false,.bool false,.bool false,.bool false]) (by kernel_rfl) (places:=[(0,1),(1,1),(2,1),(3,1),(4,1)]) (by kernel_rfl) (by kernel_rfl) g.w
theorem Z25 {N d:Nat} {o:Oper} {uses:Z4} {x3:Operand} {v3:Bool} (hop:o.op=.build 115 #[(3,x3)]) (hd:o.dst=some d) (h3:Opd uses x3 (Kd.bool.pd v3)):OB Tryz.prog N o uses [(d,Zck.pd { text:=false,num:=false,bounds:=false,real:=v3,list:=false })] []:=by
 refine Zcq hop hd fun a g hh=>?_
 obtain ⟨c3,k3,e3⟩:=h3 a g hh
 obtain rfl:=k3
 refine ⟨.agg #[.bool false,.bool false,.bool false,.bool v3,.bool false],?_,[.bool false,.bool false,.bool false,.bool v3,.bool false],⟨rfl,(Qc.2 ⟨(rfl),(Qc.2 ⟨(rfl),(Qc.2 ⟨(rfl),(Qc.2 ⟨rfl,(Qc.2 ⟨(rfl),(fun _ h=>by cases h)⟩)⟩)⟩)⟩)⟩)⟩,rfl⟩
 simp only [List.map_toArray,List.map_cons,List.map_nil,e3]
 exact Zcd Tryz.underlying115 (zero:=.agg #[.bool false,.bool false,.bool false,.bool false,.bool false]) (by kernel_rfl) (places:=[(0,1),(1,1),(2,1),(3,1),(4,1)]) (by kernel_rfl) (by kernel_rfl) g.w
theorem Z2q {N d:Nat} {o:Oper} {uses:Z4} {x4:Operand} {v4:Bool} (hop:o.op=.build 115 #[(4,x4)]) (hd:o.dst=some d) (h4:Opd uses x4 (Kd.bool.pd v4)):OB Tryz.prog N o uses [(d,Zck.pd { text:=false,num:=false,bounds:=false,real:=false,list:=v4 })] []:=by
 refine Zcq hop hd fun a g hh=>?_
 obtain ⟨c4,k4,e4⟩:=h4 a g hh
 obtain rfl:=k4
 refine ⟨.agg #[.bool false,.bool false,.bool false,.bool false,.bool v4],?_,[.bool false,.bool false,.bool false,.bool false,.bool v4],⟨rfl,(Qc.2 ⟨(rfl),(Qc.2 ⟨(rfl),(Qc.2 ⟨(rfl),(Qc.2 ⟨(rfl),(Qc.2 ⟨rfl,(fun _ h=>by cases h)⟩)⟩)⟩)⟩)⟩)⟩,rfl⟩
 simp only [List.map_toArray,List.map_cons,List.map_nil,e4]
 exact Zcd Tryz.underlying115 (zero:=.agg #[.bool false,.bool false,.bool false,.bool false,.bool false]) (by kernel_rfl) (places:=[(0,1),(1,1),(2,1),(3,1),(4,1)]) (by kernel_rfl) (by kernel_rfl) g.w
theorem Z5p {N d:Nat} {o:Oper} {uses:Z4}   (hop:o.op=.build 115 #[]) (hd:o.dst=some d) :OB Tryz.prog N o uses [(d,Zck.pd { text:=false,num:=false,bounds:=false,real:=false,list:=false })] []:=by
 refine Zcq hop hd fun a g hh=>?_
 refine ⟨.agg #[.bool false,.bool false,.bool false,.bool false,.bool false],?_,[.bool false,.bool false,.bool false,.bool false,.bool false],⟨rfl,(Qc.2 ⟨(rfl),(Qc.2 ⟨(rfl),(Qc.2 ⟨(rfl),(Qc.2 ⟨(rfl),(Qc.2 ⟨(rfl),(fun _ h=>by cases h)⟩)⟩)⟩)⟩)⟩)⟩,rfl⟩
 simp only [List.map_toArray,List.map_cons,List.map_nil,List.map_nil]
 exact Zcd Tryz.underlying115 (zero:=.agg #[.bool false,.bool false,.bool false,.bool false,.bool false]) (by kernel_rfl) (places:=[(0,1),(1,1),(2,1),(3,1),(4,1)]) (by kernel_rfl) (by kernel_rfl) g.w
theorem Z1l:Ext Tryz.prog 137 Extern.MathFloatBits.float64frombits:=⟨_,Tryz.func137,rfl,rfl,by kernel_rfl,by kernel_rfl⟩
theorem Z6f:Zk Tryz.prog 124:=by
 unfold Zk
 kernel_rfl
theorem Z39:Zk Tryz.prog 95:=by
 unfold Zk
 kernel_rfl
theorem Zvn:Ext Tryz.prog 94 Extern.MathFloatBits.float64bits:=⟨_,Tryz.func94,rfl,rfl,by kernel_rfl,by kernel_rfl⟩
theorem Zqy:Zk Tryz.prog 60:=by
 unfold Zk
 kernel_rfl
theorem Z3b:Fld Tryz.prog 115 0 Zck Kd.bool (fun x:Zby=>x.text):=Fld.of ⟨_,Kd.bool,0,fun x:Zby=>x.text⟩ (List.mem_of_getElem? (i:=0) rfl) 0 rfl (by kernel_rfl) (by decide)
theorem ty_4:Ty Tryz.prog 4 Kd.bool:=⟨by kernel_rfl,by kernel_rfl⟩
theorem Z2z:Fld Tryz.prog 115 1 Zck Kd.bool (fun x:Zby=>x.num):=Fld.of ⟨_,Kd.bool,1,fun x:Zby=>x.num⟩ (List.mem_of_getElem? (i:=1) rfl) 1 rfl (by kernel_rfl) (by decide)
theorem Zhi:Fld Tryz.prog 38 1 Ze (Kd.int .i64) (fun x:Zb=>x.Num):=Fld.of ⟨_,(Kd.int .i64),1,fun x:Zb=>x.Num⟩ (List.mem_of_getElem? (i:=1) rfl) 1 rfl (by kernel_rfl) (by decide)
theorem ty_2:Ty Tryz.prog 2 (Kd.int .i64):=⟨by kernel_rfl,by kernel_rfl⟩
theorem Zwg:Fld Tryz.prog 115 2 Zck Kd.bool (fun x:Zby=>x.bounds):=Fld.of ⟨_,Kd.bool,2,fun x:Zby=>x.bounds⟩ (List.mem_of_getElem? (i:=2) rfl) 2 rfl (by kernel_rfl) (by decide)
theorem Ziq:Fld Tryz.prog 38 2 Ze (Kd.int .i64) (fun x:Zb=>x.Low):=Fld.of ⟨_,(Kd.int .i64),2,fun x:Zb=>x.Low⟩ (List.mem_of_getElem? (i:=2) rfl) 2 rfl (by kernel_rfl) (by decide)
theorem Ziv:Fld Tryz.prog 38 3 Ze (Kd.int .i64) (fun x:Zb=>x.High):=Fld.of ⟨_,(Kd.int .i64),3,fun x:Zb=>x.High⟩ (List.mem_of_getElem? (i:=3) rfl) 3 rfl (by kernel_rfl) (by decide)
theorem Z2n:Fld Tryz.prog 115 3 Zck Kd.bool (fun x:Zby=>x.real):=Fld.of ⟨_,Kd.bool,3,fun x:Zby=>x.real⟩ (List.mem_of_getElem? (i:=3) rfl) 3 rfl (by kernel_rfl) (by decide)
theorem Zj4:Fld Tryz.prog 38 4 Ze Kd.flt (fun x:Zb=>x.Real):=Fld.of ⟨_,Kd.flt,4,fun x:Zb=>x.Real⟩ (List.mem_of_getElem? (i:=4) rfl) 4 rfl (by kernel_rfl) (by decide)
theorem Zdt:Ty Tryz.prog 35 Kd.flt:=⟨by kernel_rfl,by kernel_rfl⟩
theorem Zqs:Zk Tryz.prog 74:=by
 unfold Zk
 kernel_rfl
theorem Zwr:Fld Tryz.prog 115 4 Zck Kd.bool (fun x:Zby=>x.list):=Fld.of ⟨_,Kd.bool,4,fun x:Zby=>x.list⟩ (List.mem_of_getElem? (i:=4) rfl) 4 rfl (by kernel_rfl) (by decide)
theorem Zgw:Fld Tryz.prog 38 5 Ze (Kd.int .i64) (fun x:Zb=>x.Cap):=Fld.of ⟨_,(Kd.int .i64),5,fun x:Zb=>x.Cap⟩ (List.mem_of_getElem? (i:=5) rfl) 5 rfl (by kernel_rfl) (by decide)
theorem Zev:Fld Tryz.prog 90 0 Zy Kd.flt (fun x:Zu=>x.Score):=Fld.of ⟨_,Kd.flt,0,fun x:Zu=>x.Score⟩ (List.mem_of_getElem? (i:=0) rfl) 0 rfl (by kernel_rfl) (by decide)
theorem Z6v:Zk Tryz.prog 125:=by
 unfold Zk
 kernel_rfl
theorem Zzr:Zk Tryz.prog 57:=by
 unfold Zk
 kernel_rfl
theorem Z72:Zk Tryz.prog 96:=by
 unfold Zk
 kernel_rfl
theorem Zed:Fld Tryz.prog 38 0 Ze (Kd.int .i64) (fun x:Zb=>x.Kind):=Fld.of ⟨_,(Kd.int .i64),0,fun x:Zb=>x.Kind⟩ (List.mem_of_getElem? (i:=0) rfl) 0 rfl (by kernel_rfl) (by decide)
theorem Z7m:Zk Tryz.prog 55:=by
 unfold Zk
 kernel_rfl
theorem Z7s:Zk Tryz.prog 56:=by
 unfold Zk
 kernel_rfl
theorem Z7g:Zk Tryz.prog 58:=by
 unfold Zk
 kernel_rfl
theorem Zgz:Fld Tryz.prog 79 0 Zfi Kd.str (fun x:shelf_node=>x.key):=Fld.of ⟨_,Kd.str,0,fun x:shelf_node=>x.key⟩ (List.mem_of_getElem? (i:=0) rfl) 0 rfl (by kernel_rfl) (by decide)
theorem Zgc:Fld Tryz.prog 79 2 Zfi Z9 (fun x:shelf_node=>x.left):=Fld.of ⟨_,Z9,9,fun x:shelf_node=>x.left⟩ (List.mem_of_getElem? (i:=2) rfl) 9 rfl (by kernel_rfl) (by decide)
theorem Zgx:Fld Tryz.prog 79 3 Zfi Z9 (fun x:shelf_node=>x.right):=Fld.of ⟨_,Z9,10,fun x:shelf_node=>x.right⟩ (List.mem_of_getElem? (i:=3) rfl) 10 rfl (by kernel_rfl) (by decide)
theorem Zjb:Fld Tryz.prog 79 1 Zfi Ze (fun x:shelf_node=>x.rec_):=Fld.of ⟨_,Ze,1,fun x:shelf_node=>x.rec_⟩ (List.mem_of_getElem? (i:=1) rfl) 1 rfl (by kernel_rfl) (by decide)
theorem Zpc:Zk Tryz.prog 26:=by
 unfold Zk
 kernel_rfl
theorem Zqg {N d:Nat} {o:Oper} {uses:Z4}   (hop:o.op=.build 38 #[]) (hd:o.dst=some d) :OB Tryz.prog N o uses [(d,Ze.pd { Kind:=(0:Int),Num:=(0:Int),Low:=(0:Int),High:=(0:Int),Real:=(0:Nat),Cap:=(0:Int),Text:=ByteArray.empty,List:=([]:List Zu) })] []:=by
 refine Zcq hop hd fun a g hh=>?_
 refine ⟨.agg #[.int .i64 0,.int .i64 0,.int .i64 0,.int .i64 0,.float .f64 0,.int .i64 0,.string ByteArray.empty,.slice none 0 0],?_,[.int .i64 0,.int .i64 0,.int .i64 0,.int .i64 0,.float .f64 0,.int .i64 0,.string ByteArray.empty,.slice none 0 0],⟨rfl,(Qc.2 ⟨(rfl),(Qc.2 ⟨(rfl),(Qc.2 ⟨(rfl),(Qc.2 ⟨(rfl),(Qc.2 ⟨(rfl),(Qc.2 ⟨(rfl),(Qc.2 ⟨(rfl),(Qc.2 ⟨(⟨none,0,rfl,Nat.le_refl _,Nat.zero_le _,.inl rfl⟩),(fun _ h=>by cases h)⟩)⟩)⟩)⟩)⟩)⟩)⟩)⟩)⟩,rfl⟩
 simp only [List.map_toArray,List.map_cons,List.map_nil,List.map_nil]
 exact Zcd Tryz.underlying38 (zero:=.agg #[.int .i64 0,.int .i64 0,.int .i64 0,.int .i64 0,.float .f64 0,.int .i64 0,.string ByteArray.empty,.slice none 0 0]) (by kernel_rfl) (places:=[(0,1),(1,1),(2,1),(3,1),(4,1),(5,1),(6,1),(7,1)]) (by kernel_rfl) (by kernel_rfl) g.w
theorem Zsq {N d:Nat} {o:Oper} {uses:Z4} {x0:Operand} {x1:Operand} {x2:Operand} {x3:Operand} {x4:Operand} {v0:ByteArray} {v1:Zb} {v2:shelf_nodeT} {v3:shelf_nodeT} {v4:Int} (hop:o.op=.build 79 #[(0,x0),(1,x1),(2,x2),(3,x3),(4,x4)]) (hd:o.dst=some d) (h0:Opd uses x0 (Kd.str.pd v0)) (h1:Opd uses x1 (Ze.pd v1)) (h2:Opd uses x2 (Z9.pd v2)) (h3:Opd uses x3 (Z9.pd v3)) (h4:Opd uses x4 ((Kd.int .i64).pd v4)):OB Tryz.prog N o uses [(d,Zfi.pd { key:=v0,rec_:=v1,left:=v2,right:=v3,size:=v4 })] []:=by
 refine Zcq hop hd fun a g hh=>?_
 obtain ⟨c0,k0,e0⟩:=h0 a g hh
 obtain rfl:=k0
 obtain ⟨c1,k1,e1⟩:=h1 a g hh
 obtain ⟨u1_0,u1_1,u1_2,u1_3,u1_4,u1_5,u1_6,u1_7,rfl⟩:=Zvx (Ze.len k1)
 obtain ⟨c2,k2,e2⟩:=h2 a g hh
 obtain ⟨p2,rfl,l2⟩:=k2
 obtain ⟨q2,rfl,_⟩:=shelf_nodeT.ptr l2
 obtain ⟨c3,k3,e3⟩:=h3 a g hh
 obtain ⟨p3,rfl,l3⟩:=k3
 obtain ⟨q3,rfl,_⟩:=shelf_nodeT.ptr l3
 obtain ⟨c4,k4,e4⟩:=h4 a g hh
 obtain rfl:=k4
 refine ⟨.agg #[.string v0,u1_0,u1_1,u1_2,u1_3,u1_4,u1_5,u1_6,u1_7,.pointer q2,.pointer q3,.int .i64 v4],?_,[.string v0,u1_0,u1_1,u1_2,u1_3,u1_4,u1_5,u1_6,u1_7,.pointer q2,.pointer q3,.int .i64 v4],⟨rfl,(Qc.2 ⟨rfl,(Qc.2 ⟨k1,(Qc.2 ⟨⟨.pointer q2,rfl,l2⟩,(Qc.2 ⟨⟨.pointer q3,rfl,l3⟩,(Qc.2 ⟨rfl,(fun _ h=>by cases h)⟩)⟩)⟩)⟩)⟩)⟩,rfl⟩
 simp only [List.map_toArray,List.map_cons,List.map_nil,e0,e1,e2,e3,e4]
 exact Zcd Tryz.underlying79 (zero:=.agg #[.string ByteArray.empty,.int .i64 0,.int .i64 0,.int .i64 0,.int .i64 0,.float .f64 0,.int .i64 0,.string ByteArray.empty,.slice none 0 0,.pointer none,.pointer none,.int .i64 0]) (by kernel_rfl) (places:=[(0,1),(1,8),(9,1),(10,1),(11,1)]) (by kernel_rfl) (by kernel_rfl) g.w
theorem Zs9:Zk Tryz.prog 119:=by
 unfold Zk
 kernel_rfl
theorem Zkd:Zk Tryz.prog 83:=by
 unfold Zk
 kernel_rfl
theorem Zz4:Zk Tryz.prog 46:=by
 unfold Zk
 kernel_rfl
theorem Z4c:Zk Tryz.prog 84:=by
 unfold Zk
 kernel_rfl
theorem Zv0:Zk Tryz.prog 31:=by
 unfold Zk
 kernel_rfl
theorem Z4i:Zk Tryz.prog 45:=by
 unfold Zk
 kernel_rfl
theorem en_8:Zk Tryz.prog 8:=by
 unfold Zk
 kernel_rfl
theorem Zti:Fld Tryz.prog 27 1 Z1 (Kd.int .i64) (fun x:Zj=>x.room):=Fld.of ⟨_,(Kd.int .i64),1,fun x:Zj=>x.room⟩ (List.mem_of_getElem? (i:=1) rfl) 1 rfl (by kernel_rfl) (by decide)
theorem Z0k {N d:Nat} {o:Oper} {uses:Z4} {x0:Operand} {x1:Operand} {v0:shelf_nodeT} {v1:Int} (hop:o.op=.build 27 #[(0,x0),(1,x1)]) (hd:o.dst=some d) (h0:Opd uses x0 (Z9.pd v0)) (h1:Opd uses x1 ((Kd.int .i64).pd v1)):OB Tryz.prog N o uses [(d,Z1.pd { top:=v0,room:=v1 })] []:=by
 refine Zcq hop hd fun a g hh=>?_
 obtain ⟨c0,k0,e0⟩:=h0 a g hh
 obtain ⟨p0,rfl,l0⟩:=k0
 obtain ⟨q0,rfl,_⟩:=shelf_nodeT.ptr l0
 obtain ⟨c1,k1,e1⟩:=h1 a g hh
 obtain rfl:=k1
 refine ⟨.agg #[.pointer q0,.int .i64 v1],?_,[.pointer q0,.int .i64 v1],⟨rfl,(Qc.2 ⟨⟨.pointer q0,rfl,l0⟩,(Qc.2 ⟨rfl,(fun _ h=>by cases h)⟩)⟩)⟩,rfl⟩
 simp only [List.map_toArray,List.map_cons,List.map_nil,e0,e1]
 exact Zcd Tryz.underlying27 (zero:=.agg #[.pointer none,.int .i64 0]) (by kernel_rfl) (places:=[(0,1),(1,1)]) (by kernel_rfl) (by kernel_rfl) g.w
theorem Zv3:Zk Tryz.prog 121:=by
 unfold Zk
 kernel_rfl
theorem Z04:Zk Tryz.prog 158:=by
 unfold Zk
 kernel_rfl
theorem Zxn:Zk Tryz.prog 113:=by
 unfold Zk
 kernel_rfl
theorem Zvy:Zk Tryz.prog 77:=by
 unfold Zk
 kernel_rfl
theorem Z17:Zk Tryz.prog 120:=by
 unfold Zk
 kernel_rfl
theorem Zhe:TE Tryz.prog 83 9 Kd.str 16:=TE.of Tryz.underlying83 (by kernel_rfl) (by decide) (by decide)
theorem sz_9:(Tryz.prog.info? 9).map (·.size)=some Kd.str.sz:=by kernel_rfl
theorem Z36:Zk Tryz.prog 87:=by
 unfold Zk
 kernel_rfl
theorem Z67:Zk Tryz.prog 122:=by
 unfold Zk
 kernel_rfl
theorem Z78:Zk Tryz.prog 86:=by
 unfold Zk
 kernel_rfl
theorem Z70:Zk Tryz.prog 85:=by
 unfold Zk
 kernel_rfl
theorem Z77:Zk Tryz.prog 88:=by
 unfold Zk
 kernel_rfl
theorem Zj9:Fld Tryz.prog 59 0 Zbo Zbr.sl (fun x:Zn=>x.L):=Fld.of ⟨_,Zbr.sl,0,fun x:Zn=>x.L⟩ (List.mem_of_getElem? (i:=0) rfl) 0 rfl (by kernel_rfl) (by decide)
theorem Zmh:Ty Tryz.prog 22 Zbr.sl:=⟨by kernel_rfl,by kernel_rfl⟩
theorem Zqr:(Tryz.prog.info? 73).map (·.size)=some Zbr.sz:=by kernel_rfl
theorem Zmo:Fld Tryz.prog 73 0 Zbr Kd.str (fun x:Z3=>x.Key):=Fld.of ⟨_,Kd.str,0,fun x:Z3=>x.Key⟩ (List.mem_of_getElem? (i:=0) rfl) 0 rfl (by kernel_rfl) (by decide)
theorem Zii:Ty Tryz.prog 59 Zbo:=⟨by kernel_rfl,by kernel_rfl⟩
theorem Z8j:Zk Tryz.prog 47:=by
 unfold Zk
 kernel_rfl
theorem Z8l:Zk Tryz.prog 48:=by
 unfold Zk
 kernel_rfl
theorem Ztw:Fld Tryz.prog 59 1 Zbo (Kd.int .i64) (fun x:Zn=>x.Room):=Fld.of ⟨_,(Kd.int .i64),1,fun x:Zn=>x.Room⟩ (List.mem_of_getElem? (i:=1) rfl) 1 rfl (by kernel_rfl) (by decide)
theorem Zsz:TE Tryz.prog 22 73 Zbr 104:=TE.of Tryz.underlying22 (by kernel_rfl) (by decide) (by decide)
theorem Z1b {N d:Nat} {o:Oper} {uses:Z4} {x0:Operand} {x1:Operand} {v0:ByteArray} {v1:Zb} (hop:o.op=.build 73 #[(0,x0),(1,x1)]) (hd:o.dst=some d) (h0:Opd uses x0 (Kd.str.pd v0)) (h1:Opd uses x1 (Ze.pd v1)):OB Tryz.prog N o uses [(d,Zbr.pd { Key:=v0,Rec:=v1 })] []:=by
 refine Zcq hop hd fun a g hh=>?_
 obtain ⟨c0,k0,e0⟩:=h0 a g hh
 obtain rfl:=k0
 obtain ⟨c1,k1,e1⟩:=h1 a g hh
 obtain ⟨u1_0,u1_1,u1_2,u1_3,u1_4,u1_5,u1_6,u1_7,rfl⟩:=Zvx (Ze.len k1)
 refine ⟨.agg #[.string v0,u1_0,u1_1,u1_2,u1_3,u1_4,u1_5,u1_6,u1_7],?_,[.string v0,u1_0,u1_1,u1_2,u1_3,u1_4,u1_5,u1_6,u1_7],⟨rfl,(Qc.2 ⟨rfl,(Qc.2 ⟨k1,(fun _ h=>by cases h)⟩)⟩)⟩,rfl⟩
 simp only [List.map_toArray,List.map_cons,List.map_nil,e0,e1]
 exact Zcd Tryz.underlying73 (zero:=.agg #[.string ByteArray.empty,.int .i64 0,.int .i64 0,.int .i64 0,.int .i64 0,.float .f64 0,.int .i64 0,.string ByteArray.empty,.slice none 0 0]) (by kernel_rfl) (places:=[(0,1),(1,8)]) (by kernel_rfl) (by kernel_rfl) g.w
theorem Z1v {N d:Nat} {o:Oper} {uses:Z4} {x0:Operand} {x1:Operand} {v0:List Z3} {v1:Int} (hop:o.op=.build 59 #[(0,x0),(1,x1)]) (hd:o.dst=some d) (h0:Opd uses x0 (Zbr.sl.pd v0)) (h1:Opd uses x1 ((Kd.int .i64).pd v1)):OB Tryz.prog N o uses [(d,Zbo.pd { L:=v0,Room:=v1 })] []:=by
 refine Zcq hop hd fun a g hh=>?_
 obtain ⟨c0,k0,e0⟩:=h0 a g hh
 obtain ⟨A0,n0,rfl,l0⟩:=k0
 obtain ⟨c1,k1,e1⟩:=h1 a g hh
 obtain rfl:=k1
 refine ⟨.agg #[.slice A0 v0.length n0,.int .i64 v1],?_,[.slice A0 v0.length n0,.int .i64 v1],⟨rfl,(Qc.2 ⟨⟨A0,n0,rfl,l0⟩,(Qc.2 ⟨rfl,(fun _ h=>by cases h)⟩)⟩)⟩,rfl⟩
 simp only [List.map_toArray,List.map_cons,List.map_nil,e0,e1]
 exact Zcd Tryz.underlying59 (zero:=.agg #[.slice none 0 0,.int .i64 0]) (by kernel_rfl) (places:=[(0,1),(1,1)]) (by kernel_rfl) (by kernel_rfl) g.w
theorem en_7:Zk Tryz.prog 7:=by
 unfold Zk
 kernel_rfl
theorem Z50 {N d:Nat} {o:Oper} {uses:Z4} {x1:Operand} {v1:Int} (hop:o.op=.build 59 #[(1,x1)]) (hd:o.dst=some d) (h1:Opd uses x1 ((Kd.int .i64).pd v1)):OB Tryz.prog N o uses [(d,Zbo.pd { L:=([]:List Z3),Room:=v1 })] []:=by
 refine Zcq hop hd fun a g hh=>?_
 obtain ⟨c1,k1,e1⟩:=h1 a g hh
 obtain rfl:=k1
 refine ⟨.agg #[.slice none 0 0,.int .i64 v1],?_,[.slice none 0 0,.int .i64 v1],⟨rfl,(Qc.2 ⟨(⟨none,0,rfl,Nat.le_refl _,Nat.zero_le _,.inl rfl⟩),(Qc.2 ⟨rfl,(fun _ h=>by cases h)⟩)⟩)⟩,rfl⟩
 simp only [List.map_toArray,List.map_cons,List.map_nil,e1]
 exact Zcd Tryz.underlying59 (zero:=.agg #[.slice none 0 0,.int .i64 0]) (by kernel_rfl) (places:=[(0,1),(1,1)]) (by kernel_rfl) (by kernel_rfl) g.w
theorem Zvm:Ty Tryz.prog 73 Zbr:=⟨by kernel_rfl,by kernel_rfl⟩
theorem Zqn:Fld Tryz.prog 73 1 Zbr Ze (fun x:Z3=>x.Rec):=Fld.of ⟨_,Ze,1,fun x:Z3=>x.Rec⟩ (List.mem_of_getElem? (i:=1) rfl) 1 rfl (by kernel_rfl) (by decide)
theorem Z4f:Zk Tryz.prog 22:=by
 unfold Zk
 kernel_rfl
theorem Z4n:Zk Tryz.prog 23:=by
 unfold Zk
 kernel_rfl
theorem Z73:Zk Tryz.prog 24:=by
 unfold Zk
 kernel_rfl
theorem Z6d {N d:Nat} {o:Oper} {uses:Z4}   (hop:o.op=.build 156 #[]) (hd:o.dst=some d) :OB Tryz.prog N o uses [(d,Zdo.pd { word:=ByteArray.empty,on:=(0:Int),has:=ByteArray.empty })] []:=by
 refine Zcq hop hd fun a g hh=>?_
 refine ⟨.agg #[.string ByteArray.empty,.int .i64 0,.string ByteArray.empty],?_,[.string ByteArray.empty,.int .i64 0,.string ByteArray.empty],⟨rfl,(Qc.2 ⟨(rfl),(Qc.2 ⟨(rfl),(Qc.2 ⟨(rfl),(fun _ h=>by cases h)⟩)⟩)⟩)⟩,rfl⟩
 simp only [List.map_toArray,List.map_cons,List.map_nil,List.map_nil]
 exact Zcd Tryz.underlying156 (zero:=.agg #[.string ByteArray.empty,.int .i64 0,.string ByteArray.empty]) (by kernel_rfl) (places:=[(0,1),(1,1),(2,1)]) (by kernel_rfl) (by kernel_rfl) g.w
theorem Zja:Ty Tryz.prog 156 Zdo:=⟨by kernel_rfl,by kernel_rfl⟩
theorem Z6o:(Tryz.prog.info? 156).map (·.size)=some Zdo.sz:=by kernel_rfl
theorem Z8o:Zk Tryz.prog 76:=by
 unfold Zk
 kernel_rfl
theorem Z7f:Zk Tryz.prog 75:=by
 unfold Zk
 kernel_rfl
theorem Zxk:Fld Tryz.prog 156 2 Zdo Kd.str (fun x:Zcr=>x.has):=Fld.of ⟨_,Kd.str,2,fun x:Zcr=>x.has⟩ (List.mem_of_getElem? (i:=2) rfl) 2 rfl (by kernel_rfl) (by decide)
theorem Zsn:Zk Tryz.prog 92:=by
 unfold Zk
 kernel_rfl
theorem Zom:Fld Tryz.prog 43 2 Zx (Kd.int .i64) (fun x:Zr=>x.N):=Fld.of ⟨_,(Kd.int .i64),2,fun x:Zr=>x.N⟩ (List.mem_of_getElem? (i:=2) rfl) 2 rfl (by kernel_rfl) (by decide)
theorem Zqx:Fld Tryz.prog 43 3 Zx Kd.flt (fun x:Zr=>x.X):=Fld.of ⟨_,Kd.flt,3,fun x:Zr=>x.X⟩ (List.mem_of_getElem? (i:=3) rfl) 3 rfl (by kernel_rfl) (by decide)
theorem Zn4:Fld Tryz.prog 43 4 Zx Kd.str (fun x:Zr=>x.S):=Fld.of ⟨_,Kd.str,4,fun x:Zr=>x.S⟩ (List.mem_of_getElem? (i:=4) rfl) 4 rfl (by kernel_rfl) (by decide)
theorem Zmp:Fld Tryz.prog 43 5 Zx Ze (fun x:Zr=>x.Make):=Fld.of ⟨_,Ze,5,fun x:Zr=>x.Make⟩ (List.mem_of_getElem? (i:=5) rfl) 5 rfl (by kernel_rfl) (by decide)
theorem Z4g:Zk Tryz.prog 40:=by
 unfold Zk
 kernel_rfl
theorem Zxa:Fld Tryz.prog 156 1 Zdo (Kd.int .i64) (fun x:Zcr=>x.on):=Fld.of ⟨_,(Kd.int .i64),1,fun x:Zcr=>x.on⟩ (List.mem_of_getElem? (i:=1) rfl) 1 rfl (by kernel_rfl) (by decide)
theorem Zdw:Fld Tryz.prog 43 0 Zx (Kd.int .i64) (fun x:Zr=>x.Kind):=Fld.of ⟨_,(Kd.int .i64),0,fun x:Zr=>x.Kind⟩ (List.mem_of_getElem? (i:=0) rfl) 0 rfl (by kernel_rfl) (by decide)
theorem Zvo:Zk Tryz.prog 89:=by
 unfold Zk
 kernel_rfl
theorem Zwe:Fld Tryz.prog 156 0 Zdo Kd.str (fun x:Zcr=>x.word):=Fld.of ⟨_,Kd.str,0,fun x:Zcr=>x.word⟩ (List.mem_of_getElem? (i:=0) rfl) 0 rfl (by kernel_rfl) (by decide)
theorem Zlh:Fld Tryz.prog 43 1 Zx Kd.str (fun x:Zr=>x.Key):=Fld.of ⟨_,Kd.str,1,fun x:Zr=>x.Key⟩ (List.mem_of_getElem? (i:=1) rfl) 1 rfl (by kernel_rfl) (by decide)
theorem Zem:Ty Tryz.prog 43 Zx:=⟨by kernel_rfl,by kernel_rfl⟩
theorem Z8v:Zk Tryz.prog 90:=by
 unfold Zk
 kernel_rfl
theorem Z8k:Zk Tryz.prog 91:=by
 unfold Zk
 kernel_rfl
theorem Zku:Fld Tryz.prog 46 0 Zdr Zx.sl (fun x:Zbq=>x.Acts):=Fld.of ⟨_,Zx.sl,0,fun x:Zbq=>x.Acts⟩ (List.mem_of_getElem? (i:=0) rfl) 0 rfl (by kernel_rfl) (by decide)
theorem Zns:Ty Tryz.prog 44 Zx.sl:=⟨by kernel_rfl,by kernel_rfl⟩
theorem Zvr:(Tryz.prog.info? 43).map (·.size)=some Zx.sz:=by kernel_rfl
theorem Zvu:Zk Tryz.prog 50:=by
 unfold Zk
 kernel_rfl
theorem Z8b:Zk Tryz.prog 59:=by
 unfold Zk
 kernel_rfl
theorem Z8i:Zk Tryz.prog 61:=by
 unfold Zk
 kernel_rfl
theorem Z4b:Zk Tryz.prog 32:=by
 unfold Zk
 kernel_rfl
theorem en_4:Zk Tryz.prog 4:=by
 unfold Zk
 kernel_rfl
theorem en_5:Zk Tryz.prog 5:=by
 unfold Zk
 kernel_rfl
theorem Zvq:Zk Tryz.prog 33:=by
 unfold Zk
 kernel_rfl
theorem Z4q:Zk Tryz.prog 29:=by
 unfold Zk
 kernel_rfl
theorem Z32:Zk Tryz.prog 51:=by
 unfold Zk
 kernel_rfl
theorem Zt7:Fld Tryz.prog 43 6 Zx Kd.bool (fun x:Zr=>x.Must):=Fld.of ⟨_,Kd.bool,13,fun x:Zr=>x.Must⟩ (List.mem_of_getElem? (i:=6) rfl) 13 rfl (by kernel_rfl) (by decide)
theorem Znh:Zk Tryz.prog 52:=by
 unfold Zk
 kernel_rfl
theorem Z4h:Zk Tryz.prog 12:=by
 unfold Zk
 kernel_rfl
theorem Zj5:Ty Tryz.prog 46 Zdr:=⟨by kernel_rfl,by kernel_rfl⟩
theorem Zzd:Zk Tryz.prog 27:=by
 unfold Zk
 kernel_rfl
theorem Z7n:Zk Tryz.prog 28:=by
 unfold Zk
 kernel_rfl
theorem Zmj:TE Tryz.prog 62 5 (Kd.int .u8) 1:=TE.of Tryz.underlying62 (by kernel_rfl) (by decide) (by decide)
theorem Z7o:Zk Tryz.prog 30:=by
 unfold Zk
 kernel_rfl
theorem Zmy:PF Tryz.prog 129 0 0:=by
 unfold PF
 kernel_rfl
theorem Zq0:Ty Tryz.prog 83 Kd.str.sl:=⟨by kernel_rfl,by kernel_rfl⟩
theorem Zpk {v:Z0} {g:G} {cs:List Value} (h:Z8.K g v cs):Kd.str.sl.K g v.l (seg cs 0 1):=h.2 _ (List.mem_of_getElem? (i:=0) rfl)
theorem Z28 {v:Z0} {y:List ByteArray} {g:G} {cs ys:List Value} (hk:Z8.K g v cs) (hy:Kd.str.sl.K g y ys):0 + ys.length ≤ cs.length ∧ Z8.K g { v with l:=y } (Zt cs 0 ys):=by
 have hc:cs.length=1:=hk.1
 have hl:ys.length=1:=Kd.str.sl.len hy
 exact ⟨by omega,(Zb7 (by omega)).trans hc,(Qc.2 ⟨(by show Kd.str.sl.K g y (seg (Zt cs 0 ys) 0 1);rw [Zb0 (by omega) hl];exact hy),(fun _ h=>by cases h)⟩)⟩
theorem Z4a:Zk Tryz.prog 18:=by
 unfold Zk
 kernel_rfl
theorem Z16:Zk Tryz.prog 133:=by
 unfold Zk
 kernel_rfl
theorem Zss:Zk Tryz.prog 66:=by
 unfold Zk
 kernel_rfl
theorem Z6w:Zk Tryz.prog 105:=by
 unfold Zk
 kernel_rfl
theorem Zi4:Zk Tryz.prog 170:=by
 unfold Zk
 kernel_rfl
theorem sz_5:(Tryz.prog.info? 5).map (·.size)=some (Kd.int .u8).sz:=by kernel_rfl
theorem ty_5:Ty Tryz.prog 5 (Kd.int .u8):=⟨by kernel_rfl,by kernel_rfl⟩
theorem Z6s:Zk Tryz.prog 171:=by
 unfold Zk
 kernel_rfl
theorem Z6x:Zk Tryz.prog 106:=by
 unfold Zk
 kernel_rfl
theorem Z6l:Zk Tryz.prog 136:=by
 unfold Zk
 kernel_rfl
theorem Z6n:Zk Tryz.prog 107:=by
 unfold Zk
 kernel_rfl
theorem Z6g:Zk Tryz.prog 108:=by
 unfold Zk
 kernel_rfl
structure Zbx where
 Kind:Int
 Num:Int
 Low:Int
 High:Int
 Real:Nat
 Cap:Int
 Text:ByteArray
 List:SlV
def Zsp:List (Kd.FK Zbx):=[⟨_,(Kd.int .i64),0,fun x:Zbx=>x.Kind⟩,
 ⟨_,(Kd.int .i64),1,fun x:Zbx=>x.Num⟩,
 ⟨_,(Kd.int .i64),2,fun x:Zbx=>x.Low⟩,
 ⟨_,(Kd.int .i64),3,fun x:Zbx=>x.High⟩,
 ⟨_,Kd.flt,4,fun x:Zbx=>x.Real⟩,
 ⟨_,(Kd.int .i64),5,fun x:Zbx=>x.Cap⟩,
 ⟨_,Kd.str,6,fun x:Zbx=>x.Text⟩,
 ⟨_,Kd.raw,7,fun x:Zbx=>x.List⟩]
def Zbc:Kd Zbx:=Kd.struct 8 Zsp (by rfl)
def Zbi (x:Zb) (s:SlV):Zbx:=⟨x.Kind,x.Num,x.Low,x.High,x.Real,x.Cap,x.Text,s⟩
theorem Zs5:∀ g,Zbc.K g (Zbi ((default:Zb)) (none,0,0)) [.int .i64 0,.int .i64 0,.int .i64 0,.int .i64 0,.float .f64 0,.int .i64 0,.string ByteArray.empty,.slice none 0 0]:=fun g=>⟨rfl,(Qc.2 ⟨(rfl),(Qc.2 ⟨(rfl),(Qc.2 ⟨(rfl),(Qc.2 ⟨(rfl),(Qc.2 ⟨(rfl),(Qc.2 ⟨(rfl),(Qc.2 ⟨(rfl),(Qc.2 ⟨rfl,(fun _ h=>by cases h)⟩)⟩)⟩)⟩)⟩)⟩)⟩)⟩)⟩
theorem Zsy {x:Zb} {e j:Nat}:∀ (g:G) (s:SlV) (cs:List Value),Zbc.K g (Zbi x s) cs → (hpL (pRow Zy e j x.List)).p g s → Ze.K g x cs:=fun g s cs h hr=>⟨h.1,(Qc.2 ⟨(h.2 _ (List.mem_of_getElem? (i:=0) rfl)),(Qc.2 ⟨(h.2 _ (List.mem_of_getElem? (i:=1) rfl)),(Qc.2 ⟨(h.2 _ (List.mem_of_getElem? (i:=2) rfl)),(Qc.2 ⟨(h.2 _ (List.mem_of_getElem? (i:=3) rfl)),(Qc.2 ⟨(h.2 _ (List.mem_of_getElem? (i:=4) rfl)),(Qc.2 ⟨(h.2 _ (List.mem_of_getElem? (i:=5) rfl)),(Qc.2 ⟨(h.2 _ (List.mem_of_getElem? (i:=6) rfl)),(Qc.2 ⟨(Zv7 (h.2 _ (List.mem_of_getElem? (i:=7) rfl)) hr.1),(fun _ h=>by cases h)⟩)⟩)⟩)⟩)⟩)⟩)⟩)⟩)⟩
theorem Zta {x:Zb} {g:G} {cs ys:List Value} {s0 s1:SlV} (hk:Zbc.K g (Zbi x s0) cs) (hy:Kd.raw.K g s1 ys):7 + ys.length ≤ cs.length ∧ Zbc.K g (Zbi x s1) (Zt cs 7 ys):=by
 have hc:cs.length=8:=hk.1
 have hl:ys.length=1:=Kd.raw.len hy
 exact ⟨by omega,(Zb7 (by omega)).trans hc,(Qc.2 ⟨(by show (Kd.int .i64).K g x.Kind (seg (Zt cs 7 ys) 0 1);rw [Zh (by omega) (by omega)];exact hk.2 _ (List.mem_of_getElem? (i:=0) rfl)),(Qc.2 ⟨(by show (Kd.int .i64).K g x.Num (seg (Zt cs 7 ys) 1 1);rw [Zh (by omega) (by omega)];exact hk.2 _ (List.mem_of_getElem? (i:=1) rfl)),(Qc.2 ⟨(by show (Kd.int .i64).K g x.Low (seg (Zt cs 7 ys) 2 1);rw [Zh (by omega) (by omega)];exact hk.2 _ (List.mem_of_getElem? (i:=2) rfl)),(Qc.2 ⟨(by show (Kd.int .i64).K g x.High (seg (Zt cs 7 ys) 3 1);rw [Zh (by omega) (by omega)];exact hk.2 _ (List.mem_of_getElem? (i:=3) rfl)),(Qc.2 ⟨(by show Kd.flt.K g x.Real (seg (Zt cs 7 ys) 4 1);rw [Zh (by omega) (by omega)];exact hk.2 _ (List.mem_of_getElem? (i:=4) rfl)),(Qc.2 ⟨(by show (Kd.int .i64).K g x.Cap (seg (Zt cs 7 ys) 5 1);rw [Zh (by omega) (by omega)];exact hk.2 _ (List.mem_of_getElem? (i:=5) rfl)),(Qc.2 ⟨(by show Kd.str.K g x.Text (seg (Zt cs 7 ys) 6 1);rw [Zh (by omega) (by omega)];exact hk.2 _ (List.mem_of_getElem? (i:=6) rfl)),(Qc.2 ⟨(by show Kd.raw.K g s1 (seg (Zt cs 7 ys) 7 1);rw [Zb0 (by omega) hl];exact hy),(fun _ h=>by cases h)⟩)⟩)⟩)⟩)⟩)⟩)⟩)⟩)⟩
theorem Zrx:Fld Tryz.prog 38 0 Zbc (Kd.int .i64) (fun x:Zbx=>x.Kind):=Fld.of ⟨_,(Kd.int .i64),0,fun x:Zbx=>x.Kind⟩ (List.mem_of_getElem? (i:=0) rfl) 0 rfl (by kernel_rfl) (by decide)
theorem Zw4:Fld Tryz.prog 38 1 Zbc (Kd.int .i64) (fun x:Zbx=>x.Num):=Fld.of ⟨_,(Kd.int .i64),1,fun x:Zbx=>x.Num⟩ (List.mem_of_getElem? (i:=1) rfl) 1 rfl (by kernel_rfl) (by decide)
theorem Z22:Fld Tryz.prog 38 2 Zbc (Kd.int .i64) (fun x:Zbx=>x.Low):=Fld.of ⟨_,(Kd.int .i64),2,fun x:Zbx=>x.Low⟩ (List.mem_of_getElem? (i:=2) rfl) 2 rfl (by kernel_rfl) (by decide)
theorem Z2j:Fld Tryz.prog 38 3 Zbc (Kd.int .i64) (fun x:Zbx=>x.High):=Fld.of ⟨_,(Kd.int .i64),3,fun x:Zbx=>x.High⟩ (List.mem_of_getElem? (i:=3) rfl) 3 rfl (by kernel_rfl) (by decide)
theorem Z3x:Fld Tryz.prog 38 4 Zbc Kd.flt (fun x:Zbx=>x.Real):=Fld.of ⟨_,Kd.flt,4,fun x:Zbx=>x.Real⟩ (List.mem_of_getElem? (i:=4) rfl) 4 rfl (by kernel_rfl) (by decide)
theorem Z2t:Fld Tryz.prog 38 5 Zbc (Kd.int .i64) (fun x:Zbx=>x.Cap):=Fld.of ⟨_,(Kd.int .i64),5,fun x:Zbx=>x.Cap⟩ (List.mem_of_getElem? (i:=5) rfl) 5 rfl (by kernel_rfl) (by decide)
theorem Z2y:Fld Tryz.prog 38 6 Zbc Kd.str (fun x:Zbx=>x.Text):=Fld.of ⟨_,Kd.str,6,fun x:Zbx=>x.Text⟩ (List.mem_of_getElem? (i:=6) rfl) 6 rfl (by kernel_rfl) (by decide)
theorem Zwc:Fld Tryz.prog 38 7 Zbc Kd.raw (fun x:Zbx=>x.List):=Fld.of ⟨_,Kd.raw,7,fun x:Zbx=>x.List⟩ (List.mem_of_getElem? (i:=7) rfl) 7 rfl (by kernel_rfl) (by decide)
theorem Z1e:Ty Tryz.prog 36 Kd.raw:=⟨by kernel_rfl,by kernel_rfl⟩
theorem Zre {x:Zb} {g:G} {cs ys:List Value} {s0:SlV} {u:Int} (hk:Zbc.K g (Zbi x s0) cs) (hy:(Kd.int .i64).K g u ys):0 + ys.length ≤ cs.length ∧ Zbc.K g (Zbi { x with Kind:=u } s0) (Zt cs 0 ys):=by
 have hc:cs.length=8:=hk.1
 have hl:ys.length=1:=(Kd.int .i64).len hy
 exact ⟨by omega,(Zb7 (by omega)).trans hc,(Qc.2 ⟨(by show (Kd.int .i64).K g u (seg (Zt cs 0 ys) 0 1);rw [Zb0 (by omega) hl];exact hy),(Qc.2 ⟨(by show (Kd.int .i64).K g x.Num (seg (Zt cs 0 ys) 1 1);rw [Zh (by omega) (by omega)];exact hk.2 _ (List.mem_of_getElem? (i:=1) rfl)),(Qc.2 ⟨(by show (Kd.int .i64).K g x.Low (seg (Zt cs 0 ys) 2 1);rw [Zh (by omega) (by omega)];exact hk.2 _ (List.mem_of_getElem? (i:=2) rfl)),(Qc.2 ⟨(by show (Kd.int .i64).K g x.High (seg (Zt cs 0 ys) 3 1);rw [Zh (by omega) (by omega)];exact hk.2 _ (List.mem_of_getElem? (i:=3) rfl)),(Qc.2 ⟨(by show Kd.flt.K g x.Real (seg (Zt cs 0 ys) 4 1);rw [Zh (by omega) (by omega)];exact hk.2 _ (List.mem_of_getElem? (i:=4) rfl)),(Qc.2 ⟨(by show (Kd.int .i64).K g x.Cap (seg (Zt cs 0 ys) 5 1);rw [Zh (by omega) (by omega)];exact hk.2 _ (List.mem_of_getElem? (i:=5) rfl)),(Qc.2 ⟨(by show Kd.str.K g x.Text (seg (Zt cs 0 ys) 6 1);rw [Zh (by omega) (by omega)];exact hk.2 _ (List.mem_of_getElem? (i:=6) rfl)),(Qc.2 ⟨(by show Kd.raw.K g s0 (seg (Zt cs 0 ys) 7 1);rw [Zh (by omega) (by omega)];exact hk.2 _ (List.mem_of_getElem? (i:=7) rfl)),(fun _ h=>by cases h)⟩)⟩)⟩)⟩)⟩)⟩)⟩)⟩)⟩
theorem Zvs:Zk Tryz.prog 67:=by
 unfold Zk
 kernel_rfl
theorem Zq8 {x:Zb} {g:G} {cs ys:List Value} {s0:SlV} {u:ByteArray} (hk:Zbc.K g (Zbi x s0) cs) (hy:Kd.str.K g u ys):6 + ys.length ≤ cs.length ∧ Zbc.K g (Zbi { x with Text:=u } s0) (Zt cs 6 ys):=by
 have hc:cs.length=8:=hk.1
 have hl:ys.length=1:=Kd.str.len hy
 exact ⟨by omega,(Zb7 (by omega)).trans hc,(Qc.2 ⟨(by show (Kd.int .i64).K g x.Kind (seg (Zt cs 6 ys) 0 1);rw [Zh (by omega) (by omega)];exact hk.2 _ (List.mem_of_getElem? (i:=0) rfl)),(Qc.2 ⟨(by show (Kd.int .i64).K g x.Num (seg (Zt cs 6 ys) 1 1);rw [Zh (by omega) (by omega)];exact hk.2 _ (List.mem_of_getElem? (i:=1) rfl)),(Qc.2 ⟨(by show (Kd.int .i64).K g x.Low (seg (Zt cs 6 ys) 2 1);rw [Zh (by omega) (by omega)];exact hk.2 _ (List.mem_of_getElem? (i:=2) rfl)),(Qc.2 ⟨(by show (Kd.int .i64).K g x.High (seg (Zt cs 6 ys) 3 1);rw [Zh (by omega) (by omega)];exact hk.2 _ (List.mem_of_getElem? (i:=3) rfl)),(Qc.2 ⟨(by show Kd.flt.K g x.Real (seg (Zt cs 6 ys) 4 1);rw [Zh (by omega) (by omega)];exact hk.2 _ (List.mem_of_getElem? (i:=4) rfl)),(Qc.2 ⟨(by show (Kd.int .i64).K g x.Cap (seg (Zt cs 6 ys) 5 1);rw [Zh (by omega) (by omega)];exact hk.2 _ (List.mem_of_getElem? (i:=5) rfl)),(Qc.2 ⟨(by show Kd.str.K g u (seg (Zt cs 6 ys) 6 1);rw [Zb0 (by omega) hl];exact hy),(Qc.2 ⟨(by show Kd.raw.K g s0 (seg (Zt cs 6 ys) 7 1);rw [Zh (by omega) (by omega)];exact hk.2 _ (List.mem_of_getElem? (i:=7) rfl)),(fun _ h=>by cases h)⟩)⟩)⟩)⟩)⟩)⟩)⟩)⟩)⟩
theorem Zqw:Zk Tryz.prog 68:=by
 unfold Zk
 kernel_rfl
theorem Zmd {x:Zb} {g:G} {cs ys:List Value} {s0:SlV} {u:Int} (hk:Zbc.K g (Zbi x s0) cs) (hy:(Kd.int .i64).K g u ys):1 + ys.length ≤ cs.length ∧ Zbc.K g (Zbi { x with Num:=u } s0) (Zt cs 1 ys):=by
 have hc:cs.length=8:=hk.1
 have hl:ys.length=1:=(Kd.int .i64).len hy
 exact ⟨by omega,(Zb7 (by omega)).trans hc,(Qc.2 ⟨(by show (Kd.int .i64).K g x.Kind (seg (Zt cs 1 ys) 0 1);rw [Zh (by omega) (by omega)];exact hk.2 _ (List.mem_of_getElem? (i:=0) rfl)),(Qc.2 ⟨(by show (Kd.int .i64).K g u (seg (Zt cs 1 ys) 1 1);rw [Zb0 (by omega) hl];exact hy),(Qc.2 ⟨(by show (Kd.int .i64).K g x.Low (seg (Zt cs 1 ys) 2 1);rw [Zh (by omega) (by omega)];exact hk.2 _ (List.mem_of_getElem? (i:=2) rfl)),(Qc.2 ⟨(by show (Kd.int .i64).K g x.High (seg (Zt cs 1 ys) 3 1);rw [Zh (by omega) (by omega)];exact hk.2 _ (List.mem_of_getElem? (i:=3) rfl)),(Qc.2 ⟨(by show Kd.flt.K g x.Real (seg (Zt cs 1 ys) 4 1);rw [Zh (by omega) (by omega)];exact hk.2 _ (List.mem_of_getElem? (i:=4) rfl)),(Qc.2 ⟨(by show (Kd.int .i64).K g x.Cap (seg (Zt cs 1 ys) 5 1);rw [Zh (by omega) (by omega)];exact hk.2 _ (List.mem_of_getElem? (i:=5) rfl)),(Qc.2 ⟨(by show Kd.str.K g x.Text (seg (Zt cs 1 ys) 6 1);rw [Zh (by omega) (by omega)];exact hk.2 _ (List.mem_of_getElem? (i:=6) rfl)),(Qc.2 ⟨(by show Kd.raw.K g s0 (seg (Zt cs 1 ys) 7 1);rw [Zh (by omega) (by omega)];exact hk.2 _ (List.mem_of_getElem? (i:=7) rfl)),(fun _ h=>by cases h)⟩)⟩)⟩)⟩)⟩)⟩)⟩)⟩)⟩
theorem Zq7 {x:Zb} {g:G} {cs ys:List Value} {s0:SlV} {u:Int} (hk:Zbc.K g (Zbi x s0) cs) (hy:(Kd.int .i64).K g u ys):2 + ys.length ≤ cs.length ∧ Zbc.K g (Zbi { x with Low:=u } s0) (Zt cs 2 ys):=by
 have hc:cs.length=8:=hk.1
 have hl:ys.length=1:=(Kd.int .i64).len hy
 exact ⟨by omega,(Zb7 (by omega)).trans hc,(Qc.2 ⟨(by show (Kd.int .i64).K g x.Kind (seg (Zt cs 2 ys) 0 1);rw [Zh (by omega) (by omega)];exact hk.2 _ (List.mem_of_getElem? (i:=0) rfl)),(Qc.2 ⟨(by show (Kd.int .i64).K g x.Num (seg (Zt cs 2 ys) 1 1);rw [Zh (by omega) (by omega)];exact hk.2 _ (List.mem_of_getElem? (i:=1) rfl)),(Qc.2 ⟨(by show (Kd.int .i64).K g u (seg (Zt cs 2 ys) 2 1);rw [Zb0 (by omega) hl];exact hy),(Qc.2 ⟨(by show (Kd.int .i64).K g x.High (seg (Zt cs 2 ys) 3 1);rw [Zh (by omega) (by omega)];exact hk.2 _ (List.mem_of_getElem? (i:=3) rfl)),(Qc.2 ⟨(by show Kd.flt.K g x.Real (seg (Zt cs 2 ys) 4 1);rw [Zh (by omega) (by omega)];exact hk.2 _ (List.mem_of_getElem? (i:=4) rfl)),(Qc.2 ⟨(by show (Kd.int .i64).K g x.Cap (seg (Zt cs 2 ys) 5 1);rw [Zh (by omega) (by omega)];exact hk.2 _ (List.mem_of_getElem? (i:=5) rfl)),(Qc.2 ⟨(by show Kd.str.K g x.Text (seg (Zt cs 2 ys) 6 1);rw [Zh (by omega) (by omega)];exact hk.2 _ (List.mem_of_getElem? (i:=6) rfl)),(Qc.2 ⟨(by show Kd.raw.K g s0 (seg (Zt cs 2 ys) 7 1);rw [Zh (by omega) (by omega)];exact hk.2 _ (List.mem_of_getElem? (i:=7) rfl)),(fun _ h=>by cases h)⟩)⟩)⟩)⟩)⟩)⟩)⟩)⟩)⟩
theorem Zq9 {x:Zb} {g:G} {cs ys:List Value} {s0:SlV} {u:Int} (hk:Zbc.K g (Zbi x s0) cs) (hy:(Kd.int .i64).K g u ys):3 + ys.length ≤ cs.length ∧ Zbc.K g (Zbi { x with High:=u } s0) (Zt cs 3 ys):=by
 have hc:cs.length=8:=hk.1
 have hl:ys.length=1:=(Kd.int .i64).len hy
 exact ⟨by omega,(Zb7 (by omega)).trans hc,(Qc.2 ⟨(by show (Kd.int .i64).K g x.Kind (seg (Zt cs 3 ys) 0 1);rw [Zh (by omega) (by omega)];exact hk.2 _ (List.mem_of_getElem? (i:=0) rfl)),(Qc.2 ⟨(by show (Kd.int .i64).K g x.Num (seg (Zt cs 3 ys) 1 1);rw [Zh (by omega) (by omega)];exact hk.2 _ (List.mem_of_getElem? (i:=1) rfl)),(Qc.2 ⟨(by show (Kd.int .i64).K g x.Low (seg (Zt cs 3 ys) 2 1);rw [Zh (by omega) (by omega)];exact hk.2 _ (List.mem_of_getElem? (i:=2) rfl)),(Qc.2 ⟨(by show (Kd.int .i64).K g u (seg (Zt cs 3 ys) 3 1);rw [Zb0 (by omega) hl];exact hy),(Qc.2 ⟨(by show Kd.flt.K g x.Real (seg (Zt cs 3 ys) 4 1);rw [Zh (by omega) (by omega)];exact hk.2 _ (List.mem_of_getElem? (i:=4) rfl)),(Qc.2 ⟨(by show (Kd.int .i64).K g x.Cap (seg (Zt cs 3 ys) 5 1);rw [Zh (by omega) (by omega)];exact hk.2 _ (List.mem_of_getElem? (i:=5) rfl)),(Qc.2 ⟨(by show Kd.str.K g x.Text (seg (Zt cs 3 ys) 6 1);rw [Zh (by omega) (by omega)];exact hk.2 _ (List.mem_of_getElem? (i:=6) rfl)),(Qc.2 ⟨(by show Kd.raw.K g s0 (seg (Zt cs 3 ys) 7 1);rw [Zh (by omega) (by omega)];exact hk.2 _ (List.mem_of_getElem? (i:=7) rfl)),(fun _ h=>by cases h)⟩)⟩)⟩)⟩)⟩)⟩)⟩)⟩)⟩
theorem Zzg:Zk Tryz.prog 69:=by
 unfold Zk
 kernel_rfl
theorem Zra {x:Zb} {g:G} {cs ys:List Value} {s0:SlV} {u:Nat} (hk:Zbc.K g (Zbi x s0) cs) (hy:Kd.flt.K g u ys):4 + ys.length ≤ cs.length ∧ Zbc.K g (Zbi { x with Real:=u } s0) (Zt cs 4 ys):=by
 have hc:cs.length=8:=hk.1
 have hl:ys.length=1:=Kd.flt.len hy
 exact ⟨by omega,(Zb7 (by omega)).trans hc,(Qc.2 ⟨(by show (Kd.int .i64).K g x.Kind (seg (Zt cs 4 ys) 0 1);rw [Zh (by omega) (by omega)];exact hk.2 _ (List.mem_of_getElem? (i:=0) rfl)),(Qc.2 ⟨(by show (Kd.int .i64).K g x.Num (seg (Zt cs 4 ys) 1 1);rw [Zh (by omega) (by omega)];exact hk.2 _ (List.mem_of_getElem? (i:=1) rfl)),(Qc.2 ⟨(by show (Kd.int .i64).K g x.Low (seg (Zt cs 4 ys) 2 1);rw [Zh (by omega) (by omega)];exact hk.2 _ (List.mem_of_getElem? (i:=2) rfl)),(Qc.2 ⟨(by show (Kd.int .i64).K g x.High (seg (Zt cs 4 ys) 3 1);rw [Zh (by omega) (by omega)];exact hk.2 _ (List.mem_of_getElem? (i:=3) rfl)),(Qc.2 ⟨(by show Kd.flt.K g u (seg (Zt cs 4 ys) 4 1);rw [Zb0 (by omega) hl];exact hy),(Qc.2 ⟨(by show (Kd.int .i64).K g x.Cap (seg (Zt cs 4 ys) 5 1);rw [Zh (by omega) (by omega)];exact hk.2 _ (List.mem_of_getElem? (i:=5) rfl)),(Qc.2 ⟨(by show Kd.str.K g x.Text (seg (Zt cs 4 ys) 6 1);rw [Zh (by omega) (by omega)];exact hk.2 _ (List.mem_of_getElem? (i:=6) rfl)),(Qc.2 ⟨(by show Kd.raw.K g s0 (seg (Zt cs 4 ys) 7 1);rw [Zh (by omega) (by omega)];exact hk.2 _ (List.mem_of_getElem? (i:=7) rfl)),(fun _ h=>by cases h)⟩)⟩)⟩)⟩)⟩)⟩)⟩)⟩)⟩
theorem Zrc {x:Zb} {g:G} {cs ys:List Value} {s0:SlV} {u:Int} (hk:Zbc.K g (Zbi x s0) cs) (hy:(Kd.int .i64).K g u ys):5 + ys.length ≤ cs.length ∧ Zbc.K g (Zbi { x with Cap:=u } s0) (Zt cs 5 ys):=by
 have hc:cs.length=8:=hk.1
 have hl:ys.length=1:=(Kd.int .i64).len hy
 exact ⟨by omega,(Zb7 (by omega)).trans hc,(Qc.2 ⟨(by show (Kd.int .i64).K g x.Kind (seg (Zt cs 5 ys) 0 1);rw [Zh (by omega) (by omega)];exact hk.2 _ (List.mem_of_getElem? (i:=0) rfl)),(Qc.2 ⟨(by show (Kd.int .i64).K g x.Num (seg (Zt cs 5 ys) 1 1);rw [Zh (by omega) (by omega)];exact hk.2 _ (List.mem_of_getElem? (i:=1) rfl)),(Qc.2 ⟨(by show (Kd.int .i64).K g x.Low (seg (Zt cs 5 ys) 2 1);rw [Zh (by omega) (by omega)];exact hk.2 _ (List.mem_of_getElem? (i:=2) rfl)),(Qc.2 ⟨(by show (Kd.int .i64).K g x.High (seg (Zt cs 5 ys) 3 1);rw [Zh (by omega) (by omega)];exact hk.2 _ (List.mem_of_getElem? (i:=3) rfl)),(Qc.2 ⟨(by show Kd.flt.K g x.Real (seg (Zt cs 5 ys) 4 1);rw [Zh (by omega) (by omega)];exact hk.2 _ (List.mem_of_getElem? (i:=4) rfl)),(Qc.2 ⟨(by show (Kd.int .i64).K g u (seg (Zt cs 5 ys) 5 1);rw [Zb0 (by omega) hl];exact hy),(Qc.2 ⟨(by show Kd.str.K g x.Text (seg (Zt cs 5 ys) 6 1);rw [Zh (by omega) (by omega)];exact hk.2 _ (List.mem_of_getElem? (i:=6) rfl)),(Qc.2 ⟨(by show Kd.raw.K g s0 (seg (Zt cs 5 ys) 7 1);rw [Zh (by omega) (by omega)];exact hk.2 _ (List.mem_of_getElem? (i:=7) rfl)),(fun _ h=>by cases h)⟩)⟩)⟩)⟩)⟩)⟩)⟩)⟩)⟩
theorem Z46 {c:Option Nat} {N j s:Nat} {o:Oper} {uses:Z4} {x z:Operand} {v:Zu} {y0 y:Nat} {v0:Zu} {t:Nat} (hT:Ty Tryz.prog t Kd.flt) (hop:o.op=.store t x z) (hd:o.dst=none) (hs:Opd uses (.tmp s) (Zbf c Zy j v)) (hx:Opd uses x (Zeq Zy j v0 0 Kd.flt y0)) (hz:Opd uses z (Kd.flt.pd y)):OB Tryz.prog N o uses [(s,Zbf c Zy j { v with Score:=y })] [j + 1] :=
 Zf6 hT hop hd hs hx hz fun g cs ys hk hy=>by
  have hc:cs.length=2:=hk.1
  have hl:ys.length=1:=Kd.flt.len hy
  exact ⟨by omega,(Zb7 (by omega)).trans hc,(Qc.2 ⟨(by show Kd.flt.K g y (seg (Zt cs 0 ys) 0 1);rw [Zb0 (by omega) hl];exact hy),(Qc.2 ⟨(by show Kd.str.K g v.Name (seg (Zt cs 0 ys) 1 1);rw [Zh (by omega) (by omega)];exact hk.2 _ (List.mem_of_getElem? (i:=1) rfl)),(fun _ h=>by cases h)⟩)⟩)⟩
theorem Z5m {c:Option Nat} {N j s:Nat} {o:Oper} {uses:Z4} {x z:Operand} {v:Zu} {y0 y:ByteArray} {v0:Zu} {t:Nat} (hT:Ty Tryz.prog t Kd.str) (hop:o.op=.store t x z) (hd:o.dst=none) (hs:Opd uses (.tmp s) (Zbf c Zy j v)) (hx:Opd uses x (Zeq Zy j v0 1 Kd.str y0)) (hz:Opd uses z (Kd.str.pd y)):OB Tryz.prog N o uses [(s,Zbf c Zy j { v with Name:=y })] [j + 1] :=
 Zf6 hT hop hd hs hx hz fun g cs ys hk hy=>by
  have hc:cs.length=2:=hk.1
  have hl:ys.length=1:=Kd.str.len hy
  exact ⟨by omega,(Zb7 (by omega)).trans hc,(Qc.2 ⟨(by show Kd.flt.K g v.Score (seg (Zt cs 1 ys) 0 1);rw [Zh (by omega) (by omega)];exact hk.2 _ (List.mem_of_getElem? (i:=0) rfl)),(Qc.2 ⟨(by show Kd.str.K g y (seg (Zt cs 1 ys) 1 1);rw [Zb0 (by omega) hl];exact hy),(fun _ h=>by cases h)⟩)⟩)⟩
theorem Z8m:Zk Tryz.prog 64:=by
 unfold Zk
 kernel_rfl
theorem Z4t:Zk Tryz.prog 34:=by
 unfold Zk
 kernel_rfl
theorem Z29 {N d:Nat} {o:Oper} {uses:Z4} {x0:Operand} {v0:List ByteArray} (hop:o.op=.build 129 #[(0,x0)]) (hd:o.dst=some d) (h0:Opd uses x0 (Kd.str.sl.pd v0)):OB Tryz.prog N o uses [(d,Z8.pd { l:=v0 })] []:=by
 refine Zcq hop hd fun a g hh=>?_
 obtain ⟨c0,k0,e0⟩:=h0 a g hh
 obtain ⟨A0,n0,rfl,l0⟩:=k0
 refine ⟨.agg #[.slice A0 v0.length n0],?_,[.slice A0 v0.length n0],⟨rfl,(Qc.2 ⟨⟨A0,n0,rfl,l0⟩,(fun _ h=>by cases h)⟩)⟩,rfl⟩
 simp only [List.map_toArray,List.map_cons,List.map_nil,e0]
 exact Zcd Tryz.underlying129 (zero:=.agg #[.slice none 0 0]) (by kernel_rfl) (places:=[(0,1)]) (by kernel_rfl) (by kernel_rfl) g.w
theorem Z8n:Zk Tryz.prog 65:=by
 unfold Zk
 kernel_rfl
theorem Z52 {N d:Nat} {o:Oper} {uses:Z4} {x6:Operand} {v6:Bool} (hop:o.op=.build 43 #[(6,x6)]) (hd:o.dst=some d) (h6:Opd uses x6 (Kd.bool.pd v6)):OB Tryz.prog N o uses [(d,Zx.pd { Kind:=(0:Int),Key:=ByteArray.empty,N:=(0:Int),X:=(0:Nat),S:=ByteArray.empty,Make:=(default:Zb),Must:=v6 })] []:=by
 refine Zcq hop hd fun a g hh=>?_
 obtain ⟨c6,k6,e6⟩:=h6 a g hh
 obtain rfl:=k6
 refine ⟨.agg #[.int .i64 0,.string ByteArray.empty,.int .i64 0,.float .f64 0,.string ByteArray.empty,.int .i64 0,.int .i64 0,.int .i64 0,.int .i64 0,.float .f64 0,.int .i64 0,.string ByteArray.empty,.slice none 0 0,.bool v6],?_,[.int .i64 0,.string ByteArray.empty,.int .i64 0,.float .f64 0,.string ByteArray.empty,.int .i64 0,.int .i64 0,.int .i64 0,.int .i64 0,.float .f64 0,.int .i64 0,.string ByteArray.empty,.slice none 0 0,.bool v6],⟨rfl,(Qc.2 ⟨(rfl),(Qc.2 ⟨(rfl),(Qc.2 ⟨(rfl),(Qc.2 ⟨(rfl),(Qc.2 ⟨(rfl),(Qc.2 ⟨(Zb3 _),(Qc.2 ⟨rfl,(fun _ h=>by cases h)⟩)⟩)⟩)⟩)⟩)⟩)⟩)⟩,rfl⟩
 simp only [List.map_toArray,List.map_cons,List.map_nil,e6]
 exact Zcd Tryz.underlying43 (zero:=.agg #[.int .i64 0,.string ByteArray.empty,.int .i64 0,.float .f64 0,.string ByteArray.empty,.int .i64 0,.int .i64 0,.int .i64 0,.int .i64 0,.float .f64 0,.int .i64 0,.string ByteArray.empty,.slice none 0 0,.bool false]) (by kernel_rfl) (places:=[(0,1),(1,1),(2,1),(3,1),(4,1),(5,8),(13,1)]) (by kernel_rfl) (by kernel_rfl) g.w
theorem Z5a {c:Option Nat} {N j s:Nat} {o:Oper} {uses:Z4} {x z:Operand} {v:Zr} {y0 y:Int} {v0:Zr} {t:Nat} (hT:Ty Tryz.prog t (Kd.int .i64)) (hop:o.op=.store t x z) (hd:o.dst=none) (hs:Opd uses (.tmp s) (Zbf c Zx j v)) (hx:Opd uses x (Zeq Zx j v0 0 (Kd.int .i64) y0)) (hz:Opd uses z ((Kd.int .i64).pd y)):OB Tryz.prog N o uses [(s,Zbf c Zx j { v with Kind:=y })] [j + 1] :=
 Zf6 hT hop hd hs hx hz fun g cs ys hk hy=>by
  have hc:cs.length=14:=hk.1
  have hl:ys.length=1:=(Kd.int .i64).len hy
  exact ⟨by omega,(Zb7 (by omega)).trans hc,(Qc.2 ⟨(by show (Kd.int .i64).K g y (seg (Zt cs 0 ys) 0 1);rw [Zb0 (by omega) hl];exact hy),(Qc.2 ⟨(by show Kd.str.K g v.Key (seg (Zt cs 0 ys) 1 1);rw [Zh (by omega) (by omega)];exact hk.2 _ (List.mem_of_getElem? (i:=1) rfl)),(Qc.2 ⟨(by show (Kd.int .i64).K g v.N (seg (Zt cs 0 ys) 2 1);rw [Zh (by omega) (by omega)];exact hk.2 _ (List.mem_of_getElem? (i:=2) rfl)),(Qc.2 ⟨(by show Kd.flt.K g v.X (seg (Zt cs 0 ys) 3 1);rw [Zh (by omega) (by omega)];exact hk.2 _ (List.mem_of_getElem? (i:=3) rfl)),(Qc.2 ⟨(by show Kd.str.K g v.S (seg (Zt cs 0 ys) 4 1);rw [Zh (by omega) (by omega)];exact hk.2 _ (List.mem_of_getElem? (i:=4) rfl)),(Qc.2 ⟨(by show Ze.K g v.Make (seg (Zt cs 0 ys) 5 8);rw [Zh (by omega) (by omega)];exact hk.2 _ (List.mem_of_getElem? (i:=5) rfl)),(Qc.2 ⟨(by show Kd.bool.K g v.Must (seg (Zt cs 0 ys) 13 1);rw [Zh (by omega) (by omega)];exact hk.2 _ (List.mem_of_getElem? (i:=6) rfl)),(fun _ h=>by cases h)⟩)⟩)⟩)⟩)⟩)⟩)⟩)⟩
theorem Z59 {c:Option Nat} {N j s:Nat} {o:Oper} {uses:Z4} {x z:Operand} {v:Zr} {y0 y:ByteArray} {v0:Zr} {t:Nat} (hT:Ty Tryz.prog t Kd.str) (hop:o.op=.store t x z) (hd:o.dst=none) (hs:Opd uses (.tmp s) (Zbf c Zx j v)) (hx:Opd uses x (Zeq Zx j v0 1 Kd.str y0)) (hz:Opd uses z (Kd.str.pd y)):OB Tryz.prog N o uses [(s,Zbf c Zx j { v with Key:=y })] [j + 1] :=
 Zf6 hT hop hd hs hx hz fun g cs ys hk hy=>by
  have hc:cs.length=14:=hk.1
  have hl:ys.length=1:=Kd.str.len hy
  exact ⟨by omega,(Zb7 (by omega)).trans hc,(Qc.2 ⟨(by show (Kd.int .i64).K g v.Kind (seg (Zt cs 1 ys) 0 1);rw [Zh (by omega) (by omega)];exact hk.2 _ (List.mem_of_getElem? (i:=0) rfl)),(Qc.2 ⟨(by show Kd.str.K g y (seg (Zt cs 1 ys) 1 1);rw [Zb0 (by omega) hl];exact hy),(Qc.2 ⟨(by show (Kd.int .i64).K g v.N (seg (Zt cs 1 ys) 2 1);rw [Zh (by omega) (by omega)];exact hk.2 _ (List.mem_of_getElem? (i:=2) rfl)),(Qc.2 ⟨(by show Kd.flt.K g v.X (seg (Zt cs 1 ys) 3 1);rw [Zh (by omega) (by omega)];exact hk.2 _ (List.mem_of_getElem? (i:=3) rfl)),(Qc.2 ⟨(by show Kd.str.K g v.S (seg (Zt cs 1 ys) 4 1);rw [Zh (by omega) (by omega)];exact hk.2 _ (List.mem_of_getElem? (i:=4) rfl)),(Qc.2 ⟨(by show Ze.K g v.Make (seg (Zt cs 1 ys) 5 8);rw [Zh (by omega) (by omega)];exact hk.2 _ (List.mem_of_getElem? (i:=5) rfl)),(Qc.2 ⟨(by show Kd.bool.K g v.Must (seg (Zt cs 1 ys) 13 1);rw [Zh (by omega) (by omega)];exact hk.2 _ (List.mem_of_getElem? (i:=6) rfl)),(fun _ h=>by cases h)⟩)⟩)⟩)⟩)⟩)⟩)⟩)⟩
theorem Z5u {c:Option Nat} {N j s:Nat} {o:Oper} {uses:Z4} {x z:Operand} {v:Zr} {y0 y:Int} {v0:Zr} {t:Nat} (hT:Ty Tryz.prog t (Kd.int .i64)) (hop:o.op=.store t x z) (hd:o.dst=none) (hs:Opd uses (.tmp s) (Zbf c Zx j v)) (hx:Opd uses x (Zeq Zx j v0 2 (Kd.int .i64) y0)) (hz:Opd uses z ((Kd.int .i64).pd y)):OB Tryz.prog N o uses [(s,Zbf c Zx j { v with N:=y })] [j + 1] :=
 Zf6 hT hop hd hs hx hz fun g cs ys hk hy=>by
  have hc:cs.length=14:=hk.1
  have hl:ys.length=1:=(Kd.int .i64).len hy
  exact ⟨by omega,(Zb7 (by omega)).trans hc,(Qc.2 ⟨(by show (Kd.int .i64).K g v.Kind (seg (Zt cs 2 ys) 0 1);rw [Zh (by omega) (by omega)];exact hk.2 _ (List.mem_of_getElem? (i:=0) rfl)),(Qc.2 ⟨(by show Kd.str.K g v.Key (seg (Zt cs 2 ys) 1 1);rw [Zh (by omega) (by omega)];exact hk.2 _ (List.mem_of_getElem? (i:=1) rfl)),(Qc.2 ⟨(by show (Kd.int .i64).K g y (seg (Zt cs 2 ys) 2 1);rw [Zb0 (by omega) hl];exact hy),(Qc.2 ⟨(by show Kd.flt.K g v.X (seg (Zt cs 2 ys) 3 1);rw [Zh (by omega) (by omega)];exact hk.2 _ (List.mem_of_getElem? (i:=3) rfl)),(Qc.2 ⟨(by show Kd.str.K g v.S (seg (Zt cs 2 ys) 4 1);rw [Zh (by omega) (by omega)];exact hk.2 _ (List.mem_of_getElem? (i:=4) rfl)),(Qc.2 ⟨(by show Ze.K g v.Make (seg (Zt cs 2 ys) 5 8);rw [Zh (by omega) (by omega)];exact hk.2 _ (List.mem_of_getElem? (i:=5) rfl)),(Qc.2 ⟨(by show Kd.bool.K g v.Must (seg (Zt cs 2 ys) 13 1);rw [Zh (by omega) (by omega)];exact hk.2 _ (List.mem_of_getElem? (i:=6) rfl)),(fun _ h=>by cases h)⟩)⟩)⟩)⟩)⟩)⟩)⟩)⟩
theorem Z43 {c:Option Nat} {N j s:Nat} {o:Oper} {uses:Z4} {x z:Operand} {v:Zr} {y0 y:Nat} {v0:Zr} {t:Nat} (hT:Ty Tryz.prog t Kd.flt) (hop:o.op=.store t x z) (hd:o.dst=none) (hs:Opd uses (.tmp s) (Zbf c Zx j v)) (hx:Opd uses x (Zeq Zx j v0 3 Kd.flt y0)) (hz:Opd uses z (Kd.flt.pd y)):OB Tryz.prog N o uses [(s,Zbf c Zx j { v with X:=y })] [j + 1] :=
 Zf6 hT hop hd hs hx hz fun g cs ys hk hy=>by
  have hc:cs.length=14:=hk.1
  have hl:ys.length=1:=Kd.flt.len hy
  exact ⟨by omega,(Zb7 (by omega)).trans hc,(Qc.2 ⟨(by show (Kd.int .i64).K g v.Kind (seg (Zt cs 3 ys) 0 1);rw [Zh (by omega) (by omega)];exact hk.2 _ (List.mem_of_getElem? (i:=0) rfl)),(Qc.2 ⟨(by show Kd.str.K g v.Key (seg (Zt cs 3 ys) 1 1);rw [Zh (by omega) (by omega)];exact hk.2 _ (List.mem_of_getElem? (i:=1) rfl)),(Qc.2 ⟨(by show (Kd.int .i64).K g v.N (seg (Zt cs 3 ys) 2 1);rw [Zh (by omega) (by omega)];exact hk.2 _ (List.mem_of_getElem? (i:=2) rfl)),(Qc.2 ⟨(by show Kd.flt.K g y (seg (Zt cs 3 ys) 3 1);rw [Zb0 (by omega) hl];exact hy),(Qc.2 ⟨(by show Kd.str.K g v.S (seg (Zt cs 3 ys) 4 1);rw [Zh (by omega) (by omega)];exact hk.2 _ (List.mem_of_getElem? (i:=4) rfl)),(Qc.2 ⟨(by show Ze.K g v.Make (seg (Zt cs 3 ys) 5 8);rw [Zh (by omega) (by omega)];exact hk.2 _ (List.mem_of_getElem? (i:=5) rfl)),(Qc.2 ⟨(by show Kd.bool.K g v.Must (seg (Zt cs 3 ys) 13 1);rw [Zh (by omega) (by omega)];exact hk.2 _ (List.mem_of_getElem? (i:=6) rfl)),(fun _ h=>by cases h)⟩)⟩)⟩)⟩)⟩)⟩)⟩)⟩
theorem Z5x {c:Option Nat} {N j s:Nat} {o:Oper} {uses:Z4} {x z:Operand} {v:Zr} {y0 y:ByteArray} {v0:Zr} {t:Nat} (hT:Ty Tryz.prog t Kd.str) (hop:o.op=.store t x z) (hd:o.dst=none) (hs:Opd uses (.tmp s) (Zbf c Zx j v)) (hx:Opd uses x (Zeq Zx j v0 4 Kd.str y0)) (hz:Opd uses z (Kd.str.pd y)):OB Tryz.prog N o uses [(s,Zbf c Zx j { v with S:=y })] [j + 1] :=
 Zf6 hT hop hd hs hx hz fun g cs ys hk hy=>by
  have hc:cs.length=14:=hk.1
  have hl:ys.length=1:=Kd.str.len hy
  exact ⟨by omega,(Zb7 (by omega)).trans hc,(Qc.2 ⟨(by show (Kd.int .i64).K g v.Kind (seg (Zt cs 4 ys) 0 1);rw [Zh (by omega) (by omega)];exact hk.2 _ (List.mem_of_getElem? (i:=0) rfl)),(Qc.2 ⟨(by show Kd.str.K g v.Key (seg (Zt cs 4 ys) 1 1);rw [Zh (by omega) (by omega)];exact hk.2 _ (List.mem_of_getElem? (i:=1) rfl)),(Qc.2 ⟨(by show (Kd.int .i64).K g v.N (seg (Zt cs 4 ys) 2 1);rw [Zh (by omega) (by omega)];exact hk.2 _ (List.mem_of_getElem? (i:=2) rfl)),(Qc.2 ⟨(by show Kd.flt.K g v.X (seg (Zt cs 4 ys) 3 1);rw [Zh (by omega) (by omega)];exact hk.2 _ (List.mem_of_getElem? (i:=3) rfl)),(Qc.2 ⟨(by show Kd.str.K g y (seg (Zt cs 4 ys) 4 1);rw [Zb0 (by omega) hl];exact hy),(Qc.2 ⟨(by show Ze.K g v.Make (seg (Zt cs 4 ys) 5 8);rw [Zh (by omega) (by omega)];exact hk.2 _ (List.mem_of_getElem? (i:=5) rfl)),(Qc.2 ⟨(by show Kd.bool.K g v.Must (seg (Zt cs 4 ys) 13 1);rw [Zh (by omega) (by omega)];exact hk.2 _ (List.mem_of_getElem? (i:=6) rfl)),(fun _ h=>by cases h)⟩)⟩)⟩)⟩)⟩)⟩)⟩)⟩
theorem Z8s:Zk Tryz.prog 70:=by
 unfold Zk
 kernel_rfl
theorem Z4z {c:Option Nat} {N j s:Nat} {o:Oper} {uses:Z4} {x z:Operand} {v:Zr} {y0 y:Zb} {v0:Zr} {t:Nat} (hT:Ty Tryz.prog t Ze) (hop:o.op=.store t x z) (hd:o.dst=none) (hs:Opd uses (.tmp s) (Zbf c Zx j v)) (hx:Opd uses x (Zeq Zx j v0 5 Ze y0)) (hz:Opd uses z (Ze.pd y)):OB Tryz.prog N o uses [(s,Zbf c Zx j { v with Make:=y })] [j + 1] :=
 Zf6 hT hop hd hs hx hz fun g cs ys hk hy=>by
  have hc:cs.length=14:=hk.1
  have hl:ys.length=8:=Ze.len hy
  exact ⟨by omega,(Zb7 (by omega)).trans hc,(Qc.2 ⟨(by show (Kd.int .i64).K g v.Kind (seg (Zt cs 5 ys) 0 1);rw [Zh (by omega) (by omega)];exact hk.2 _ (List.mem_of_getElem? (i:=0) rfl)),(Qc.2 ⟨(by show Kd.str.K g v.Key (seg (Zt cs 5 ys) 1 1);rw [Zh (by omega) (by omega)];exact hk.2 _ (List.mem_of_getElem? (i:=1) rfl)),(Qc.2 ⟨(by show (Kd.int .i64).K g v.N (seg (Zt cs 5 ys) 2 1);rw [Zh (by omega) (by omega)];exact hk.2 _ (List.mem_of_getElem? (i:=2) rfl)),(Qc.2 ⟨(by show Kd.flt.K g v.X (seg (Zt cs 5 ys) 3 1);rw [Zh (by omega) (by omega)];exact hk.2 _ (List.mem_of_getElem? (i:=3) rfl)),(Qc.2 ⟨(by show Kd.str.K g v.S (seg (Zt cs 5 ys) 4 1);rw [Zh (by omega) (by omega)];exact hk.2 _ (List.mem_of_getElem? (i:=4) rfl)),(Qc.2 ⟨(by show Ze.K g y (seg (Zt cs 5 ys) 5 8);rw [Zb0 (by omega) hl];exact hy),(Qc.2 ⟨(by show Kd.bool.K g v.Must (seg (Zt cs 5 ys) 13 1);rw [Zh (by omega) (by omega)];exact hk.2 _ (List.mem_of_getElem? (i:=6) rfl)),(fun _ h=>by cases h)⟩)⟩)⟩)⟩)⟩)⟩)⟩)⟩
theorem Z3u:Fld Tryz.prog 129 0 Z8 Kd.str.sl (fun x:Z0=>x.l):=Fld.of ⟨_,Kd.str.sl,0,fun x:Z0=>x.l⟩ (List.mem_of_getElem? (i:=0) rfl) 0 rfl (by kernel_rfl) (by decide)
theorem Z65 {N d:Nat} {o:Oper} {uses:Z4}   (hop:o.op=.build 43 #[]) (hd:o.dst=some d) :OB Tryz.prog N o uses [(d,Zx.pd { Kind:=(0:Int),Key:=ByteArray.empty,N:=(0:Int),X:=(0:Nat),S:=ByteArray.empty,Make:=(default:Zb),Must:=false })] []:=by
 refine Zcq hop hd fun a g hh=>?_
 refine ⟨.agg #[.int .i64 0,.string ByteArray.empty,.int .i64 0,.float .f64 0,.string ByteArray.empty,.int .i64 0,.int .i64 0,.int .i64 0,.int .i64 0,.float .f64 0,.int .i64 0,.string ByteArray.empty,.slice none 0 0,.bool false],?_,[.int .i64 0,.string ByteArray.empty,.int .i64 0,.float .f64 0,.string ByteArray.empty,.int .i64 0,.int .i64 0,.int .i64 0,.int .i64 0,.float .f64 0,.int .i64 0,.string ByteArray.empty,.slice none 0 0,.bool false],⟨rfl,(Qc.2 ⟨(rfl),(Qc.2 ⟨(rfl),(Qc.2 ⟨(rfl),(Qc.2 ⟨(rfl),(Qc.2 ⟨(rfl),(Qc.2 ⟨(Zb3 _),(Qc.2 ⟨(rfl),(fun _ h=>by cases h)⟩)⟩)⟩)⟩)⟩)⟩)⟩)⟩,rfl⟩
 simp only [List.map_toArray,List.map_cons,List.map_nil,List.map_nil]
 exact Zcd Tryz.underlying43 (zero:=.agg #[.int .i64 0,.string ByteArray.empty,.int .i64 0,.float .f64 0,.string ByteArray.empty,.int .i64 0,.int .i64 0,.int .i64 0,.int .i64 0,.float .f64 0,.int .i64 0,.string ByteArray.empty,.slice none 0 0,.bool false]) (by kernel_rfl) (places:=[(0,1),(1,1),(2,1),(3,1),(4,1),(5,8),(13,1)]) (by kernel_rfl) (by kernel_rfl) g.w
theorem Zlr:Ty Tryz.prog 31 (Kd.int .i64):=⟨by kernel_rfl,by kernel_rfl⟩
theorem Z33:Zk Tryz.prog 63:=by
 unfold Zk
 kernel_rfl
structure Zj7 where
 Acts:SlV
def Zvd:List (Kd.FK Zj7):=[⟨_,Kd.raw,0,fun x:Zj7=>x.Acts⟩]
def Zfg:Kd Zj7:=Kd.struct 1 Zvd (by rfl)
def Ze5 (x:Zbq) (s:SlV):Zj7:=⟨s⟩
theorem Zu4:∀ g,Zfg.K g (Ze5 ((default:Zbq)) (none,0,0)) [.slice none 0 0]:=fun g=>⟨rfl,(Qc.2 ⟨rfl,(fun _ h=>by cases h)⟩)⟩
theorem Zpu {x:Zbq} {e j:Nat}:∀ (g:G) (s:SlV) (cs:List Value),Zfg.K g (Ze5 x s) cs → (hpL (pRow Zx e j x.Acts)).p g s → Zdr.K g x cs:=fun g s cs h hr=>⟨h.1,(Qc.2 ⟨(Zv7 (h.2 _ (List.mem_of_getElem? (i:=0) rfl)) hr.1),(fun _ h=>by cases h)⟩)⟩
theorem Zu5 {x:Zbq} {g:G} {cs ys:List Value} {s0 s1:SlV} (hk:Zfg.K g (Ze5 x s0) cs) (hy:Kd.raw.K g s1 ys):0 + ys.length ≤ cs.length ∧ Zfg.K g (Ze5 x s1) (Zt cs 0 ys):=by
 have hc:cs.length=1:=hk.1
 have hl:ys.length=1:=Kd.raw.len hy
 exact ⟨by omega,(Zb7 (by omega)).trans hc,(Qc.2 ⟨(by show Kd.raw.K g s1 (seg (Zt cs 0 ys) 0 1);rw [Zb0 (by omega) hl];exact hy),(fun _ h=>by cases h)⟩)⟩
theorem Zw9:Fld Tryz.prog 46 0 Zfg Kd.raw (fun x:Zj7=>x.Acts):=Fld.of ⟨_,Kd.raw,0,fun x:Zj7=>x.Acts⟩ (List.mem_of_getElem? (i:=0) rfl) 0 rfl (by kernel_rfl) (by decide)
theorem Z1d:Ty Tryz.prog 44 Kd.raw:=⟨by kernel_rfl,by kernel_rfl⟩
theorem Z7p:Zk Tryz.prog 35:=by
 unfold Zk
 kernel_rfl
theorem Z1q {N d:Nat} {o:Oper} {uses:Z4}   (hop:o.op=.build 46 #[]) (hd:o.dst=some d) :OB Tryz.prog N o uses [(d,Zdr.pd { Acts:=([]:List Zr) })] []:=by
 refine Zcq hop hd fun a g hh=>?_
 refine ⟨.agg #[.slice none 0 0],?_,[.slice none 0 0],⟨rfl,(Qc.2 ⟨(⟨none,0,rfl,Nat.le_refl _,Nat.zero_le _,.inl rfl⟩),(fun _ h=>by cases h)⟩)⟩,rfl⟩
 simp only [List.map_toArray,List.map_cons,List.map_nil,List.map_nil]
 exact Zcd Tryz.underlying46 (zero:=.agg #[.slice none 0 0]) (by kernel_rfl) (places:=[(0,1)]) (by kernel_rfl) (by kernel_rfl) g.w
theorem Zzq:TE Tryz.prog 44 43 Zx 152:=TE.of Tryz.underlying44 (by kernel_rfl) (by decide) (by decide)
theorem Z7q:Zk Tryz.prog 36:=by
 unfold Zk
 kernel_rfl
theorem Zyp {N d:Nat} {o:Oper} {uses:Z4} {x0:Operand} {v0:Int} (hop:o.op=.build 98 #[(0,x0)]) (hd:o.dst=some d) (h0:Opd uses x0 ((Kd.int .i64).pd v0)):OB Tryz.prog N o uses [(d,Zbd.pd { Code:=v0,Num:=(0:Int),Rec:=(default:Zb) })] []:=by
 refine Zcq hop hd fun a g hh=>?_
 obtain ⟨c0,k0,e0⟩:=h0 a g hh
 obtain rfl:=k0
 refine ⟨.agg #[.int .i64 v0,.int .i64 0,.int .i64 0,.int .i64 0,.int .i64 0,.int .i64 0,.float .f64 0,.int .i64 0,.string ByteArray.empty,.slice none 0 0],?_,[.int .i64 v0,.int .i64 0,.int .i64 0,.int .i64 0,.int .i64 0,.int .i64 0,.float .f64 0,.int .i64 0,.string ByteArray.empty,.slice none 0 0],⟨rfl,(Qc.2 ⟨rfl,(Qc.2 ⟨(rfl),(Qc.2 ⟨(Zb3 _),(fun _ h=>by cases h)⟩)⟩)⟩)⟩,rfl⟩
 simp only [List.map_toArray,List.map_cons,List.map_nil,e0]
 exact Zcd Tryz.underlying98 (zero:=.agg #[.int .i64 0,.int .i64 0,.int .i64 0,.int .i64 0,.int .i64 0,.int .i64 0,.float .f64 0,.int .i64 0,.string ByteArray.empty,.slice none 0 0]) (by kernel_rfl) (places:=[(0,1),(1,1),(2,8)]) (by kernel_rfl) (by kernel_rfl) g.w
theorem Zdb:Ty Tryz.prog 98 Zbd:=⟨by kernel_rfl,by kernel_rfl⟩
theorem Zp9:Zk Tryz.prog 109:=by
 unfold Zk
 kernel_rfl
theorem Z06 {N d:Nat} {o:Oper} {uses:Z4}   (hop:o.op=.build 98 #[]) (hd:o.dst=some d) :OB Tryz.prog N o uses [(d,Zbd.pd { Code:=(0:Int),Num:=(0:Int),Rec:=(default:Zb) })] []:=by
 refine Zcq hop hd fun a g hh=>?_
 refine ⟨.agg #[.int .i64 0,.int .i64 0,.int .i64 0,.int .i64 0,.int .i64 0,.int .i64 0,.float .f64 0,.int .i64 0,.string ByteArray.empty,.slice none 0 0],?_,[.int .i64 0,.int .i64 0,.int .i64 0,.int .i64 0,.int .i64 0,.int .i64 0,.float .f64 0,.int .i64 0,.string ByteArray.empty,.slice none 0 0],⟨rfl,(Qc.2 ⟨(rfl),(Qc.2 ⟨(rfl),(Qc.2 ⟨(Zb3 _),(fun _ h=>by cases h)⟩)⟩)⟩)⟩,rfl⟩
 simp only [List.map_toArray,List.map_cons,List.map_nil,List.map_nil]
 exact Zcd Tryz.underlying98 (zero:=.agg #[.int .i64 0,.int .i64 0,.int .i64 0,.int .i64 0,.int .i64 0,.int .i64 0,.float .f64 0,.int .i64 0,.string ByteArray.empty,.slice none 0 0]) (by kernel_rfl) (places:=[(0,1),(1,1),(2,8)]) (by kernel_rfl) (by kernel_rfl) g.w
theorem Z5n {N d:Nat} {o:Oper} {uses:Z4} {x1:Operand} {v1:Int} (hop:o.op=.build 98 #[(1,x1)]) (hd:o.dst=some d) (h1:Opd uses x1 ((Kd.int .i64).pd v1)):OB Tryz.prog N o uses [(d,Zbd.pd { Code:=(0:Int),Num:=v1,Rec:=(default:Zb) })] []:=by
 refine Zcq hop hd fun a g hh=>?_
 obtain ⟨c1,k1,e1⟩:=h1 a g hh
 obtain rfl:=k1
 refine ⟨.agg #[.int .i64 0,.int .i64 v1,.int .i64 0,.int .i64 0,.int .i64 0,.int .i64 0,.float .f64 0,.int .i64 0,.string ByteArray.empty,.slice none 0 0],?_,[.int .i64 0,.int .i64 v1,.int .i64 0,.int .i64 0,.int .i64 0,.int .i64 0,.float .f64 0,.int .i64 0,.string ByteArray.empty,.slice none 0 0],⟨rfl,(Qc.2 ⟨(rfl),(Qc.2 ⟨rfl,(Qc.2 ⟨(Zb3 _),(fun _ h=>by cases h)⟩)⟩)⟩)⟩,rfl⟩
 simp only [List.map_toArray,List.map_cons,List.map_nil,e1]
 exact Zcd Tryz.underlying98 (zero:=.agg #[.int .i64 0,.int .i64 0,.int .i64 0,.int .i64 0,.int .i64 0,.int .i64 0,.float .f64 0,.int .i64 0,.string ByteArray.empty,.slice none 0 0]) (by kernel_rfl) (places:=[(0,1),(1,1),(2,8)]) (by kernel_rfl) (by kernel_rfl) g.w
theorem Z4v {N d:Nat} {o:Oper} {uses:Z4} {x2:Operand} {v2:Zb} (hop:o.op=.build 98 #[(2,x2)]) (hd:o.dst=some d) (h2:Opd uses x2 (Ze.pd v2)):OB Tryz.prog N o uses [(d,Zbd.pd { Code:=(0:Int),Num:=(0:Int),Rec:=v2 })] []:=by
 refine Zcq hop hd fun a g hh=>?_
 obtain ⟨c2,k2,e2⟩:=h2 a g hh
 obtain ⟨u2_0,u2_1,u2_2,u2_3,u2_4,u2_5,u2_6,u2_7,rfl⟩:=Zvx (Ze.len k2)
 refine ⟨.agg #[.int .i64 0,.int .i64 0,u2_0,u2_1,u2_2,u2_3,u2_4,u2_5,u2_6,u2_7],?_,[.int .i64 0,.int .i64 0,u2_0,u2_1,u2_2,u2_3,u2_4,u2_5,u2_6,u2_7],⟨rfl,(Qc.2 ⟨(rfl),(Qc.2 ⟨(rfl),(Qc.2 ⟨k2,(fun _ h=>by cases h)⟩)⟩)⟩)⟩,rfl⟩
 simp only [List.map_toArray,List.map_cons,List.map_nil,e2]
 exact Zcd Tryz.underlying98 (zero:=.agg #[.int .i64 0,.int .i64 0,.int .i64 0,.int .i64 0,.int .i64 0,.int .i64 0,.float .f64 0,.int .i64 0,.string ByteArray.empty,.slice none 0 0]) (by kernel_rfl) (places:=[(0,1),(1,1),(2,8)]) (by kernel_rfl) (by kernel_rfl) g.w
theorem Z7a:Zk Tryz.prog 110:=by
 unfold Zk
 kernel_rfl
theorem Z8d:Zk Tryz.prog 71:=by
 unfold Zk
 kernel_rfl
theorem Zq1:Fld Tryz.prog 98 0 Zbd (Kd.int .i64) (fun x:Zbb=>x.Code):=Fld.of ⟨_,(Kd.int .i64),0,fun x:Zbb=>x.Code⟩ (List.mem_of_getElem? (i:=0) rfl) 0 rfl (by kernel_rfl) (by decide)
theorem Z8a:Zk Tryz.prog 72:=by
 unfold Zk
 kernel_rfl
theorem Z1r {N d:Nat} {o:Oper} {uses:Z4} {x0:Operand} {x1:Operand} {v0:Int} {v1:Int} (hop:o.op=.build 96 #[(0,x0),(1,x1)]) (hd:o.dst=some d) (h0:Opd uses x0 ((Kd.int .i64).pd v0)) (h1:Opd uses x1 ((Kd.int .i64).pd v1)):OB Tryz.prog N o uses [(d,Zeo.pd { code:=v0,at_:=v1 })] []:=by
 refine Zcq hop hd fun a g hh=>?_
 obtain ⟨c0,k0,e0⟩:=h0 a g hh
 obtain rfl:=k0
 obtain ⟨c1,k1,e1⟩:=h1 a g hh
 obtain rfl:=k1
 refine ⟨.agg #[.int .i64 v0,.int .i64 v1],?_,[.int .i64 v0,.int .i64 v1],⟨rfl,(Qc.2 ⟨rfl,(Qc.2 ⟨rfl,(fun _ h=>by cases h)⟩)⟩)⟩,rfl⟩
 simp only [List.map_toArray,List.map_cons,List.map_nil,e0,e1]
 exact Zcd Tryz.underlying96 (zero:=.agg #[.int .i64 0,.int .i64 0]) (by kernel_rfl) (places:=[(0,1),(1,1)]) (by kernel_rfl) (by kernel_rfl) g.w
structure Zga where
 Code:Int
 At:Int
 Answers:SlV
def Zsv:List (Kd.FK Zga):=[⟨_,(Kd.int .i64),0,fun x:Zga=>x.Code⟩,
 ⟨_,(Kd.int .i64),1,fun x:Zga=>x.At⟩,
 ⟨_,Kd.raw,2,fun x:Zga=>x.Answers⟩]
def Zcp:Kd Zga:=Kd.struct 3 Zsv (by rfl)
def Zc8 (x:Zbv) (s:SlV):Zga:=⟨x.Code,x.At,s⟩
theorem Zsu:∀ g,Zcp.K g (Zc8 ((default:Zbv)) (none,0,0)) [.int .i64 0,.int .i64 0,.slice none 0 0]:=fun g=>⟨rfl,(Qc.2 ⟨(rfl),(Qc.2 ⟨(rfl),(Qc.2 ⟨rfl,(fun _ h=>by cases h)⟩)⟩)⟩)⟩
theorem Zs0 {x:Zbv} {e j:Nat}:∀ (g:G) (s:SlV) (cs:List Value),Zcp.K g (Zc8 x s) cs → (hpL (pRow Zbd e j x.Answers)).p g s → Zf5.K g x cs:=fun g s cs h hr=>⟨h.1,(Qc.2 ⟨(h.2 _ (List.mem_of_getElem? (i:=0) rfl)),(Qc.2 ⟨(h.2 _ (List.mem_of_getElem? (i:=1) rfl)),(Qc.2 ⟨(Zv7 (h.2 _ (List.mem_of_getElem? (i:=2) rfl)) hr.1),(fun _ h=>by cases h)⟩)⟩)⟩)⟩
theorem Zsd {x:Zbv} {g:G} {cs ys:List Value} {s0 s1:SlV} (hk:Zcp.K g (Zc8 x s0) cs) (hy:Kd.raw.K g s1 ys):2 + ys.length ≤ cs.length ∧ Zcp.K g (Zc8 x s1) (Zt cs 2 ys):=by
 have hc:cs.length=3:=hk.1
 have hl:ys.length=1:=Kd.raw.len hy
 exact ⟨by omega,(Zb7 (by omega)).trans hc,(Qc.2 ⟨(by show (Kd.int .i64).K g x.Code (seg (Zt cs 2 ys) 0 1);rw [Zh (by omega) (by omega)];exact hk.2 _ (List.mem_of_getElem? (i:=0) rfl)),(Qc.2 ⟨(by show (Kd.int .i64).K g x.At (seg (Zt cs 2 ys) 1 1);rw [Zh (by omega) (by omega)];exact hk.2 _ (List.mem_of_getElem? (i:=1) rfl)),(Qc.2 ⟨(by show Kd.raw.K g s1 (seg (Zt cs 2 ys) 2 1);rw [Zb0 (by omega) hl];exact hy),(fun _ h=>by cases h)⟩)⟩)⟩)⟩
theorem Zrt:Fld Tryz.prog 53 2 Zcp Kd.raw (fun x:Zga=>x.Answers):=Fld.of ⟨_,Kd.raw,2,fun x:Zga=>x.Answers⟩ (List.mem_of_getElem? (i:=2) rfl) 2 rfl (by kernel_rfl) (by decide)
theorem Zv6:Ty Tryz.prog 51 Kd.raw:=⟨by kernel_rfl,by kernel_rfl⟩
theorem Zu0 {N d:Nat} {o:Oper} {uses:Z4} {x0:Operand} {x1:Operand} {v0:Int} {v1:Int} (hop:o.op=.build 53 #[(0,x0),(1,x1)]) (hd:o.dst=some d) (h0:Opd uses x0 ((Kd.int .i64).pd v0)) (h1:Opd uses x1 ((Kd.int .i64).pd v1)):OB Tryz.prog N o uses [(d,Zf5.pd { Code:=v0,At:=v1,Answers:=([]:List Zbb) })] []:=by
 refine Zcq hop hd fun a g hh=>?_
 obtain ⟨c0,k0,e0⟩:=h0 a g hh
 obtain rfl:=k0
 obtain ⟨c1,k1,e1⟩:=h1 a g hh
 obtain rfl:=k1
 refine ⟨.agg #[.int .i64 v0,.int .i64 v1,.slice none 0 0],?_,[.int .i64 v0,.int .i64 v1,.slice none 0 0],⟨rfl,(Qc.2 ⟨rfl,(Qc.2 ⟨rfl,(Qc.2 ⟨(⟨none,0,rfl,Nat.le_refl _,Nat.zero_le _,.inl rfl⟩),(fun _ h=>by cases h)⟩)⟩)⟩)⟩,rfl⟩
 simp only [List.map_toArray,List.map_cons,List.map_nil,e0,e1]
 exact Zcd Tryz.underlying53 (zero:=.agg #[.int .i64 0,.int .i64 0,.slice none 0 0]) (by kernel_rfl) (places:=[(0,1),(1,1),(2,1)]) (by kernel_rfl) (by kernel_rfl) g.w
theorem Znt:Ty Tryz.prog 53 Zf5:=⟨by kernel_rfl,by kernel_rfl⟩
theorem Z6c:Fld Tryz.prog 96 0 Zeo (Kd.int .i64) (fun x:Zdm=>x.code):=Fld.of ⟨_,(Kd.int .i64),0,fun x:Zdm=>x.code⟩ (List.mem_of_getElem? (i:=0) rfl) 0 rfl (by kernel_rfl) (by decide)
theorem Z41:Fld Tryz.prog 96 1 Zeo (Kd.int .i64) (fun x:Zdm=>x.at_):=Fld.of ⟨_,(Kd.int .i64),1,fun x:Zdm=>x.at_⟩ (List.mem_of_getElem? (i:=1) rfl) 1 rfl (by kernel_rfl) (by decide)
theorem Z8u:Ty Tryz.prog 96 Zeo:=⟨by kernel_rfl,by kernel_rfl⟩
theorem Z71:Zk Tryz.prog 38:=by
 unfold Zk
 kernel_rfl
theorem Z4e:Zk Tryz.prog 39:=by
 unfold Zk
 kernel_rfl
theorem Z37:TE Tryz.prog 51 98 Zbd 104:=TE.of Tryz.underlying51 (by kernel_rfl) (by decide) (by decide)
theorem Z4s:Zk Tryz.prog 37:=by
 unfold Zk
 kernel_rfl
theorem en_9:Zk Tryz.prog 9:=by
 unfold Zk
 kernel_rfl
theorem Z8g:Zk Tryz.prog 41:=by
 unfold Zk
 kernel_rfl
theorem Z8q:Zk Tryz.prog 42:=by
 unfold Zk
 kernel_rfl
theorem en_6:Zk Tryz.prog 6:=by
 unfold Zk
 kernel_rfl
theorem Zvi {N d:Nat} {o:Oper} {uses:Z4} {x0:Operand} {x1:Operand} {x5:Operand} {x6:Operand} {v0:Int} {v1:ByteArray} {v5:Zb} {v6:Bool} (hop:o.op=.build 43 #[(0,x0),(1,x1),(5,x5),(6,x6)]) (hd:o.dst=some d) (h0:Opd uses x0 ((Kd.int .i64).pd v0)) (h1:Opd uses x1 (Kd.str.pd v1)) (h5:Opd uses x5 (Ze.pd v5)) (h6:Opd uses x6 (Kd.bool.pd v6)):OB Tryz.prog N o uses [(d,Zx.pd { Kind:=v0,Key:=v1,N:=(0:Int),X:=(0:Nat),S:=ByteArray.empty,Make:=v5,Must:=v6 })] []:=by
 refine Zcq hop hd fun a g hh=>?_
 obtain ⟨c0,k0,e0⟩:=h0 a g hh
 obtain rfl:=k0
 obtain ⟨c1,k1,e1⟩:=h1 a g hh
 obtain rfl:=k1
 obtain ⟨c5,k5,e5⟩:=h5 a g hh
 obtain ⟨u5_0,u5_1,u5_2,u5_3,u5_4,u5_5,u5_6,u5_7,rfl⟩:=Zvx (Ze.len k5)
 obtain ⟨c6,k6,e6⟩:=h6 a g hh
 obtain rfl:=k6
 refine ⟨.agg #[.int .i64 v0,.string v1,.int .i64 0,.float .f64 0,.string ByteArray.empty,u5_0,u5_1,u5_2,u5_3,u5_4,u5_5,u5_6,u5_7,.bool v6],?_,[.int .i64 v0,.string v1,.int .i64 0,.float .f64 0,.string ByteArray.empty,u5_0,u5_1,u5_2,u5_3,u5_4,u5_5,u5_6,u5_7,.bool v6],⟨rfl,(Qc.2 ⟨rfl,(Qc.2 ⟨rfl,(Qc.2 ⟨(rfl),(Qc.2 ⟨(rfl),(Qc.2 ⟨(rfl),(Qc.2 ⟨k5,(Qc.2 ⟨rfl,(fun _ h=>by cases h)⟩)⟩)⟩)⟩)⟩)⟩)⟩)⟩,rfl⟩
 simp only [List.map_toArray,List.map_cons,List.map_nil,e0,e1,e5,e6]
 exact Zcd Tryz.underlying43 (zero:=.agg #[.int .i64 0,.string ByteArray.empty,.int .i64 0,.float .f64 0,.string ByteArray.empty,.int .i64 0,.int .i64 0,.int .i64 0,.int .i64 0,.float .f64 0,.int .i64 0,.string ByteArray.empty,.slice none 0 0,.bool false]) (by kernel_rfl) (places:=[(0,1),(1,1),(2,1),(3,1),(4,1),(5,8),(13,1)]) (by kernel_rfl) (by kernel_rfl) g.w
theorem Z55 {N d:Nat} {o:Oper} {uses:Z4} {x0:Operand} {v0:List Zr} (hop:o.op=.build 46 #[(0,x0)]) (hd:o.dst=some d) (h0:Opd uses x0 (Zx.sl.pd v0)):OB Tryz.prog N o uses [(d,Zdr.pd { Acts:=v0 })] []:=by
 refine Zcq hop hd fun a g hh=>?_
 obtain ⟨c0,k0,e0⟩:=h0 a g hh
 obtain ⟨A0,n0,rfl,l0⟩:=k0
 refine ⟨.agg #[.slice A0 v0.length n0],?_,[.slice A0 v0.length n0],⟨rfl,(Qc.2 ⟨⟨A0,n0,rfl,l0⟩,(fun _ h=>by cases h)⟩)⟩,rfl⟩
 simp only [List.map_toArray,List.map_cons,List.map_nil,e0]
 exact Zcd Tryz.underlying46 (zero:=.agg #[.slice none 0 0]) (by kernel_rfl) (places:=[(0,1)]) (by kernel_rfl) (by kernel_rfl) g.w
theorem Z7u:Zk Tryz.prog 10:=by
 unfold Zk
 kernel_rfl
theorem Z8p:Zk Tryz.prog 11:=by
 unfold Zk
 kernel_rfl
theorem Z8c:Zk Tryz.prog 13:=by
 unfold Zk
 kernel_rfl
theorem Z8h:Zk Tryz.prog 14:=by
 unfold Zk
 kernel_rfl
theorem Z74:Zk Tryz.prog 15:=by
 unfold Zk
 kernel_rfl
theorem Z54:Fld Tryz.prog 53 0 Zf5 (Kd.int .i64) (fun x:Zbv=>x.Code):=Fld.of ⟨_,(Kd.int .i64),0,fun x:Zbv=>x.Code⟩ (List.mem_of_getElem? (i:=0) rfl) 0 rfl (by kernel_rfl) (by decide)
theorem Z7k:Zk Tryz.prog 16:=by
 unfold Zk
 kernel_rfl
theorem Z8f:Zk Tryz.prog 17:=by
 unfold Zk
 kernel_rfl
theorem Zps (a0:Int) {r:Bool} (h:Zj3 a0=some r):FnOk Tryz.prog 18 [(pInt .u8 a0)] (Z5 r):=by
 have H0:=h
 unfold Zj3 at H0
 clear h
 refine Zbs (N:=25) Tryz.func18 rfl rfl (Qe rfl) rfl rfl (fun a g0 hst hb=>?_)
 refine r_a [5] (L:=[(0,_)]) hst hb Za
  (a_p [] rfl (Zd rfl rfl c_b)<|a_n) (fun a g hst hb=>?_)
 refine r_a [220] (L:=[(0,_)]) hst hb Za
  (Am 5 rfl<|a_p [0] rfl (Zhd rfl rfl u_0 c_i)<|Am 0 rfl<|a_g [0,5] (Qg_t rfl (fun hG=>Zq rfl rfl u_0))<|a_g [10,0] (Qg_t rfl (fun hG=>Zhg rfl rfl (Opd.gd hG u_0) c_i))<|a_p [20,0] rfl (Zbg rfl rfl u_0 (fun hz=>(Opd.gd hz u_1)))<|Am 0 rfl<|a_g [0,5] (Qg_f rfl (fun hG=>Zq rfl rfl u_0))<|a_g [10,0] (Qg_f rfl (fun hG=>Zhd rfl rfl (Opd.gd hG u_0) c_i))<|a_g [20,0] (Qg_f rfl (fun hG=>Zq rfl rfl (Opd.gd hG u_0)))<|a_g [0,5] (Qg_ti rfl (fun hG=>Zq rfl rfl u_0))<|a_g [10,0] (Qg_ti rfl (fun hG=>Zhg rfl rfl (Opd.gd hG u_0) c_i))<|a_g [50,20,0] (Qg_f rfl (fun hG=>Zbg rfl rfl (Opd.gd hG u_0) (fun hz=>(Opd.gd (bA hG hz) u_1))))<|a_p [60,0] rfl (Zbh rfl rfl u_0 (fun hz=>(Opd.gd (bNF hz) u_1)))<|Am 0 rfl<|a_g [0,5] (Qg_f rfl (fun hG=>Zq rfl rfl u_0))<|a_g [10,0] (Qg_f rfl (fun hG=>Zbk rfl rfl (Opd.gd hG u_0) c_i))<|a_p [20,0] rfl (Zbh rfl rfl u_0 (fun hz=>(Opd.gd (bNF hz) u_1)))<|Am 0 rfl<|a_g [0,5] (Qg_f rfl (fun hG=>Zq rfl rfl u_0))<|a_g [10,0] (Qg_f rfl (fun hG=>Zbk rfl rfl (Opd.gd hG u_0) c_i))<|a_p [20,0] rfl (Zbh rfl rfl u_0 (fun hz=>(Opd.gd (bNF hz) u_1)))<|Aa 0 rfl<|a_n) (fun a g hst hb=>?_)
 refine wp_ret ?_
 obtain rfl:=Option.some.inj H0
 exact Z2 rfl hst hb (Zg (s:=2)) (hst.at 0 rfl)
end Go.CL
namespace Go.CL
open Go Go.RowKit
section
variable {P:Program} {N:Nat} {o:Oper} {uses outs:Z4} {S:List Nat} {d:Nat}
theorem Z02 {ops : Array Oper} {Q : Exit → Act → List Frame → World → Prop} {i : Nat} {l : List Nat} {a : Act} {cs : List Frame} {w : World} (ho : ops[i]? = some o) (hg : o.guard = none) (hop : ∀ ev, (execOp ev o).run P w = .ok .recover w) (hd : o.dst = some d) (hr : recoverD cs = none) (hN : a.tmps.size = N) (hdN : d < N)
   (h:∀ a':Act,a'.tmps.size=N → a'.defers=a.defers → Act.at a' d=.nilIface → wpOpsS P ops Q l a' cs w):wpOpsS P ops Q (i :: l) a cs w :=
 Z2x ho hg (hop _) hr (h _ (by rw [Zmw,hN]) (Zk0 ..) (by rw [hd];exact Zfy _ (by rw [hN];exact hdN)))
theorem Z3z {ops : Array Oper} {Q : Exit → Act → List Frame → World → Prop} {i : Nat} {l : List Nat} {a : Act} {cs : List Frame} {g : G} (ho : ops[i]? = some o) (hg : o.guard = none) (hob : OB P N o uses outs S) (hN : a.tmps.size = N) (hdN : ∀ t, o.dst = some t → t < N) (hu : Zdq uses a g)
   (h:∀ (a':Act) g',Step S g g' → a'.tmps.size=N → a'.defers=a.defers → (∀ e ∈ outs,e.2.p g' (Act.at a' e.1)) → (∀ n,o.dst ≠ some n → Act.at a' n=Act.at a n) → wpOpsS P ops Q l a' cs g'.w):wpOpsS P ops Q (i :: l) a cs g.w :=
 Z5b ho hg hob hN hdN hu fun v g' hs ho'=>h _ g' hs (by rw [Zmw,hN]) (Zk0 ..) ho' fun n hn=>Zjq _ hn
end
end Go.CL
namespace Go.CL
open Go Go.RowKit Go.Proofs
section
variable {P:Program} {N:Nat} {o:Oper} {uses outs:Z4} {S:List Nat} {d:Nat} {x:Operand}
theorem Zr9 {t ty:TypeId} (ht:(P.underlying t).map (fun u=>match u with | .interface _=>true | _=>false)=some true) (hop:o.op=.binOp .neq t x (.const .nilIface) ty) (hd:o.dst=some d) (hx:Opd uses x (pEq .nilIface)):OB P N o uses [(d,Z5 false)] [] :=
 Zce hd fun a g hh=>by
   have hv:a.eval x=.nilIface:=hx a g hh
   refine ⟨.bool false,?_,Zec _ g⟩
   cases hu:P.underlying t with
   | none=>rw [hu] at ht;cases ht
   | some u =>
     rw [hu] at ht
     cases u <;> try (simp at ht;done)
     have hg:(eqGuard .neq t x (.const .nilIface) .nilIface .nilIface).run P g.w=.ok () g.w:=by
       unfold eqGuard
       cases x <;> rfl
     have hb:(binOp .neq t .nilIface .nilIface).run P g.w=.ok (.bool false) g.w:=by
       show (do pure (.bool (!(← Op.equal t .nilIface .nilIface))):Sem Value).run P g.w=_
       have:(Op.equal t .nilIface .nilIface).run P g.w=.ok true g.w:=by
         exact Znd g.w 9999 hu
       simp only [Sem.run_bind,this,Result.andThen_ok,Sem.run_pure];rfl
     have hc:a.eval (.const .nilIface)=.nilIface:=rfl
     simp [execOp,hop,hv,hc,hg,hb]
theorem Zsg:Opd uses (.const .nilIface) (pEq .nilIface):=Opd.c fun _=>rfl
def G.below (g:G) (w':World) (h:Below g.w.heap.size g.w w'):G:=⟨w',g.pr,fun b=>if b < g.w.heap.size then g.own b else 0,fun b o hp=>Nat.lt_of_lt_of_le (g.hpr b o hp) h.size,g.gl.le (fun _ _ h=>h) (fun b o hp=>Zf0 (h.block b (g.hpr b o hp)))⟩
theorem Zz0 (g:G) (w':World) (h:Below g.w.heap.size g.w w'):Step [] g (g.below w' h) :=
 ⟨⟨h.size,fun _ _ h=>h,fun b o hp=>Zf0 (h.block b (g.hpr b o hp)),fun b hp=>h.block b (g.hpr b 0 (hp 0))⟩,h.os,h.tape,h.output,fun b hb _=>⟨h.block b hb,rfl,if_pos hb⟩,fun b h1 h2=>.inl (if_neg (by omega)),fun b hb hs=>by cases hs⟩
theorem Zh9 {f:FuncId} {A:List Pd} {q:Pd} (h:∀ (g:G) (args:List Value),ArgsOk A g args → ∃ v,(∀ g',q.p g' v) ∧ Calls P f args.toArray g.w (fun e w'=>e=.returned v ∧ Below g.w.heap.size g.w w')):FnOk P f A q:=fun g args ha=>by
 obtain ⟨v,hv,hc⟩:=h g args ha
 refine hc.mono ?_
 rintro e w' ⟨rfl,hb⟩
 exact ⟨g.below w' hb,v,rfl,rfl,Zz0 g w' hb,hv _⟩
theorem Z3i {f:FuncId} {A:List Pd} {α:Type} {dk:Kd α} {xs:List α} {n:Nat} (h:∀ (g:G) (args:List Value),ArgsOk A g args → ∃ (cs:List Value) (t:TypeId),xs.length ≤ n ∧ xs.length ≤ 9223372036854775807 ∧ (∀ (g':G),CellsAt g' g.w.heap.size 0 cs → ∀ i x,xs[i]?=some x → ∃ c,dk.K g' x c ∧ CellsAt g' g.w.heap.size (0 + i * dk.sz) c) ∧ Calls P f args.toArray g.w (fun e w'=>e=.returned (.slice (some ⟨g.w.heap.size,0,none⟩) xs.length n) ∧ w'=g.w.alloc (.cells cs.toArray t))):FnOk P f A (dk.sl.pd xs):=fun g args ha=>by
 obtain ⟨cs,t,h1,h2,h3,hc⟩:=h g args ha
 refine hc.mono ?_
 rintro e w' ⟨rfl,rfl⟩
 refine ⟨g.push cs.toArray t (fun _=>True) 0,_,rfl,rfl,Zo9 g cs.toArray t _,?_⟩
 exact Kd.sl_V.2 ⟨_,n,rfl,h1,h2,.inr ⟨g.w.heap.size,0,rfl,h3 _ (Zoz g cs t 0)⟩⟩
theorem Z2m {src dst e:TypeId} {s:ByteArray} (hs:P.underlying src=some .string) (hd':P.underlying dst=some (.slice e)) (he:P.underlying e=some (.int .u8)) (hop:o.op=.convert src dst x) (hd:o.dst=some d) (hx:Opd uses x (pStr s)) (hl:s.size ≤ 9223372036854775807):OB P N o uses [(d,(Kd.int .u8).sl.pd (bts s))] [] :=
 Zke hd fun a g hh=>by
   have hv:=Zcz.1 (hx a g hh)
   have hb:=Lib.bytesWorld_below g.w e s
   have hz:=Lib.bytesWorld_size g.w e s
   let g':G:=⟨Lib.bytesWorld g.w e s,fun b o=>g.pr b o ∨ b=g.w.heap.size,fun b=>if b < g.w.heap.size then g.own b else 0,fun b o hp=>hp.elim (fun hp=>Nat.lt_of_lt_of_le (g.hpr b o hp) hb.size) (fun hp=>by omega),g.gl.le (fun _ _ h=>.inl h) (fun b o hp=>Zf0 (hb.block b (g.hpr b o hp)))⟩
   refine ⟨.slice (some ⟨g.w.heap.size,0,none⟩) s.size (grownCap g.w s.size 0 e),g',?_,⟨⟨hb.size,fun _ _ h=>.inl h,fun b o hp=>Zf0 (hb.block b (g.hpr b o hp)),fun b hp=>hb.block b (g.hpr b 0 (hp 0))⟩,hb.os,hb.tape,hb.output,fun b hlt _=>⟨hb.block b hlt,by funext o;exact propext ⟨fun h=>h.resolve_right (by omega),.inl⟩,if_pos hlt⟩,fun b h1 h2=>.inl (if_neg (by omega)),fun b hlt hs=>by cases hs⟩,?_⟩
   · simp [execOp,hop,hv,Lib.run_convert_string_bytes g.w src dst e s hs hd' he,g']
   · refine Kd.sl_V.2 ⟨_,_,by rw [Zln],?_,by rw [Zln];exact hl,.inr ⟨g.w.heap.size,0,rfl,fun i z hz=>⟨[.int .u8 z],rfl,fun j v hj=>?_⟩⟩⟩
     · rw [Zln];exact grownCap_ge ..
     · cases j with
       | zero =>
         obtain rfl:=Option.some.inj hj
         have hi:i < s.size:=by
           have:=(List.getElem?_eq_some_iff.1 hz).1
           rwa [Zln] at this
         have hzz:z=((s.data.toList.getD i 0).toNat:Int):=by
           unfold bts at hz
           rw [List.getElem?_map] at hz
           cases hq:s.data.toList[i]? with
           | none=>rw [hq] at hz;cases hz
           | some q=>rw [hq] at hz;rw [List.getD_eq_getElem?_getD,hq];exact (Option.some.inj hz).symm
         refine ⟨.inr rfl,?_⟩
         have:=Lib.bytesWorld_cell g.w e s i hi
         rw [← hzz] at this
         rw [show 0 + i * (Kd.int .u8).sz + 0=i by show 0 + i * 1 + 0=_;omega]
         exact this
       | succ j=>simp at hj
theorem Zxh {q:Pd} {g:G} {args:List Value} (h:ArgsOk [q] g args):∃ v,args=[v] ∧ q.p g v:=by
 obtain ⟨hl,h⟩:=h
 match args,hl with
 | [v],_=>exact ⟨v,rfl,h 0 q v rfl rfl⟩
theorem Zlm {q1 q2:Pd} {g:G} {args:List Value} (h:ArgsOk [q1,q2] g args):∃ v1 v2,args=[v1,v2] ∧ q1.p g v1 ∧ q2.p g v2:=by
 obtain ⟨hl,h⟩:=h
 match args,hl with
 | [v1,v2],_=>exact ⟨v1,v2,rfl,h 0 q1 v1 rfl rfl,h 1 q2 v2 rfl rfl⟩
theorem Z3v {q1 q2 q3:Pd} {g:G} {args:List Value} (h:ArgsOk [q1,q2,q3] g args):∃ v1 v2 v3,args=[v1,v2,v3] ∧ q1.p g v1 ∧ q2.p g v2 ∧ q3.p g v3:=by
 obtain ⟨hl,h⟩:=h
 match args,hl with
 | [v1,v2,v3],_=>exact ⟨v1,v2,v3,rfl,h 0 q1 v1 rfl rfl,h 1 q2 v2 rfl rfl,h 2 q3 v3 rfl rfl⟩
theorem Zzv (w:World) (k:Nat) (os:Array Obj):Below w.heap.size w (Go.Sort.grow (w.drewN k) os):=⟨rfl,rfl,rfl,by show w.heap.size ≤ (w.heap ++ os).size;rw [Array.size_append];omega,fun b hb=>by show (w.heap ++ os)[b]?=_;rw [Array.getElem?_append,if_pos hb]⟩
theorem tup2 {p q:Pd} {g:G} {u v:Value} (h1:p.p g u) (h2:q.p g v):(pTup [p,q]).p g (.tuple #[u,v]):=⟨[u,v],rfl,rfl,fun i r x hr hx=>by
 match i,hr,hx with
 | 0,hr,hx=>obtain rfl:=Option.some.inj hr;obtain rfl:=Option.some.inj hx;exact h1
 | 1,hr,hx=>obtain rfl:=Option.some.inj hr;obtain rfl:=Option.some.inj hx;exact h2
 | i + 2,hr,_=>simp at hr⟩
theorem Z66 {g:G} {b:Nat} {nm:String} {k:IntKind} {z:Int} {zs:List Int} (hg:P.globalNamed nm=some b) (hm:(b,(z :: zs).map (Value.int k)) ∈ GL) (he:(b,(z :: zs).length) ∈ GLE):Lib.TabIs P g.w nm k (z :: zs):=by
 have h1:∀ i v,((z :: zs).map (Value.int k))[i]?=some v → g.w.cell? ⟨b,i,none⟩=some v:=fun i v h=>(g.gl.1 _ hm i v h).2
 have h2:=(g.gl.2.2 _ he).2
 unfold Lib.TabIs World.var?
 rw [hg,Option.bind_some]
 have h0:=h1 0 _ rfl
 unfold World.cell? at h0 h2
 cases hb:g.w.heap[b]? with
 | none=>simp [hb] at h0
 | some ob =>
   cases ob <;> simp only [hb] at h0 h2 <;> try (cases h0;done)
   rename_i cs t f
   simp only [Option.isSome_none,Bool.false_eq_true,if_false] at h2
   have key:cs=((z :: zs).map (Value.int k)).toArray:=Array.ext_getElem? fun i=>by
     by_cases hi:i < (z :: zs).length
     · have:=h1 i _ (List.getElem?_eq_getElem (by simpa using hi))
       unfold World.cell? at this
       simp only [hb,Option.isSome_none,Bool.false_eq_true,if_false] at this
       rw [this,List.getElem?_toArray,List.getElem?_eq_getElem (by simpa using hi)]
     · have:=Array.getElem?_eq_none_iff.1 h2
       rw [Array.getElem?_eq_none (by omega),List.getElem?_toArray,List.getElem?_eq_none (by rw [List.length_map];omega)]
   exact congrArg some key
end
end Go.CL
namespace Go.Proofs
open Go.Shelf
def Tryz.lays169_ren:Go.Shelf.Ren:=⟨fun | 169=>20 | n=>n,fun | 70=>61 | 9=>9 | 0=>0 | 72=>64 | 37=>62 | 127=>103 | 3=>3 | 5=>5 | n=>n,fun | n=>n⟩
theorem Tryz.lays169:Go.Proofs.Lays.n169 Tryz.prog Tryz.lays169_ren:={ mixed:=by kernel_rfl,f169:=Tryz.func20.trans (congrArg some (by kernel_rfl)),t0:=Tryz.underlying0,a0:=Tryz.isAgg0,z0:=Tryz.sizeOf0,v0:=Tryz.zeroValue0,t3:=Tryz.underlying3,a3:=Tryz.isAgg3,z3:=Tryz.sizeOf3,v3:=Tryz.zeroValue3,t9:=Tryz.underlying9,a9:=Tryz.isAgg9,z9:=Tryz.sizeOf9,v9:=Tryz.zeroValue9,t37:=Tryz.underlying62,a37:=Tryz.isAgg62,z37:=Tryz.sizeOf62,v37:=Tryz.zeroValue62,t70:=Tryz.underlying61,a70:=Tryz.isAgg61,z70:=Tryz.sizeOf61,v70:=Tryz.zeroValue61,t72:=Tryz.underlying64,a72:=Tryz.isAgg64,z72:=Tryz.sizeOf64,v72:=Tryz.zeroValue64,t127:=Tryz.underlying103,a127:=Tryz.isAgg103,z127:=Tryz.sizeOf103,v127:=Tryz.zeroValue103 }
theorem Tryz.Builder_Extra_169:Builder.Extra Tryz.prog Tryz.lays169_ren:={ sizeBuilder:=by kernel_rfl,liesBuilder:=by kernel_rfl,t5:=Tryz.underlying5,a5:=Tryz.isAgg5,z5:=Tryz.sizeOf5,v5:=Tryz.zeroValue5,infoByte:=by kernel_rfl,cellsByte:=by kernel_rfl,sizeByte:=by kernel_rfl,neB5:=by decide }
def Tryz.lays156_ren:Go.Shelf.Ren:=⟨fun | 156=>29 | 165=>53 | 166=>54 | 169=>20 | 240=>43 | 241=>93 | 276=>78 | 277=>123 | n=>n,fun | 31=>83 | 9=>9 | 3=>3 | 4=>4 | 0=>0 | 20=>20 | 72=>64 | 76=>112 | 70=>61 | 37=>62 | 75=>67 | 127=>103 | 164=>145 | 5=>5 | 80=>70 | n=>n,fun | n=>n⟩
theorem Tryz.lays156:Go.Proofs.Lays.n156 Tryz.prog Tryz.lays156_ren:={ mixed:=by kernel_rfl,f156:=Tryz.func29.trans (congrArg some (by kernel_rfl)),f165:=Tryz.func53.trans (congrArg some (by kernel_rfl)),f166:=Tryz.func54.trans (congrArg some (by kernel_rfl)),f169:=Tryz.func20.trans (congrArg some (by kernel_rfl)),f240:=Tryz.func43.trans (congrArg some (by kernel_rfl)),f241:=Tryz.func93.trans (congrArg some (by kernel_rfl)),f276:=Tryz.func78.trans (congrArg some (by kernel_rfl)),f277:=Tryz.func123.trans (congrArg some (by kernel_rfl)),t0:=Tryz.underlying0,a0:=Tryz.isAgg0,z0:=Tryz.sizeOf0,v0:=Tryz.zeroValue0,t3:=Tryz.underlying3,a3:=Tryz.isAgg3,z3:=Tryz.sizeOf3,v3:=Tryz.zeroValue3,t4:=Tryz.underlying4,a4:=Tryz.isAgg4,z4:=Tryz.sizeOf4,v4:=Tryz.zeroValue4,t9:=Tryz.underlying9,a9:=Tryz.isAgg9,z9:=Tryz.sizeOf9,v9:=Tryz.zeroValue9,t20:=Tryz.underlying20,a20:=Tryz.isAgg20,z20:=Tryz.sizeOf20,v20:=Tryz.zeroValue20,t31:=Tryz.underlying83,a31:=Tryz.isAgg83,z31:=Tryz.sizeOf83,v31:=Tryz.zeroValue83,t37:=Tryz.underlying62,a37:=Tryz.isAgg62,z37:=Tryz.sizeOf62,v37:=Tryz.zeroValue62,t70:=Tryz.underlying61,a70:=Tryz.isAgg61,z70:=Tryz.sizeOf61,v70:=Tryz.zeroValue61,t72:=Tryz.underlying64,a72:=Tryz.isAgg64,z72:=Tryz.sizeOf64,v72:=Tryz.zeroValue64,t75:=Tryz.underlying67,a75:=Tryz.isAgg67,z75:=Tryz.sizeOf67,v75:=Tryz.zeroValue67,t76:=Tryz.underlying112,a76:=Tryz.isAgg112,z76:=Tryz.sizeOf112,v76:=Tryz.zeroValue112,t127:=Tryz.underlying103,a127:=Tryz.isAgg103,z127:=Tryz.sizeOf103,v127:=Tryz.zeroValue103,t164:=Tryz.underlying145,a164:=Tryz.isAgg145,z164:=Tryz.sizeOf145,v164:=Tryz.zeroValue145 }
theorem Tryz.Builder_Extra_156:Builder.Extra Tryz.prog Tryz.lays156_ren:={ sizeBuilder:=by kernel_rfl,liesBuilder:=by kernel_rfl,t5:=Tryz.underlying5,a5:=Tryz.isAgg5,z5:=Tryz.sizeOf5,v5:=Tryz.zeroValue5,infoByte:=by kernel_rfl,cellsByte:=by kernel_rfl,sizeByte:=by kernel_rfl,neB5:=by decide }
def Tryz.laysM173_ren:Go.Shelf.Ren:=⟨fun | 173=>21 | 246=>44 | 283=>79 | 284=>80 | 285=>81 | 286=>82 | 129=>115 | 317=>114 | 318=>116 | 319=>117 | 320=>118 | 337=>159 | 338=>160 | n=>n,fun | 2=>2 | 3=>3 | 9=>9 | 4=>4 | 171=>147 | 0=>0 | 53=>122 | 37=>62 | 5=>5 | 173=>150 | 212=>184 | 51=>185 | 20=>20 | 213=>186 | 46=>69 | 232=>218 | 233=>219 | n=>n,fun | 17=>0 | 18=>4 | 19=>5 | n=>n⟩
theorem Tryz.laysM173:Go.Proofs.LaysM.n173 Tryz.prog Tryz.laysM173_ren:={ mixed:=by kernel_rfl,f129:=Tryz.func115.trans (congrArg some (by kernel_rfl)),f173:=Tryz.func21.trans (congrArg some (by kernel_rfl)),f246:=Tryz.func44.trans (congrArg some (by kernel_rfl)),f283:=Tryz.func79.trans (congrArg some (by kernel_rfl)),f284:=Tryz.func80.trans (congrArg some (by kernel_rfl)),f285:=Tryz.func81.trans (congrArg some (by kernel_rfl)),f286:=Tryz.func82.trans (congrArg some (by kernel_rfl)),f317:=Tryz.func114.trans (congrArg some (by kernel_rfl)),f318:=Tryz.func116.trans (congrArg some (by kernel_rfl)),f319:=Tryz.func117.trans (congrArg some (by kernel_rfl)),f320:=Tryz.func118.trans (congrArg some (by kernel_rfl)),f337:=Tryz.func159.trans (congrArg some (by kernel_rfl)),f338:=Tryz.func160.trans (congrArg some (by kernel_rfl)),t0:=Tryz.underlying0,a0:=Tryz.isAgg0,z0:=Tryz.sizeOf0,v0:=Tryz.zeroValue0,t2:=Tryz.underlying2,a2:=Tryz.isAgg2,z2:=Tryz.sizeOf2,v2:=Tryz.zeroValue2,t3:=Tryz.underlying3,a3:=Tryz.isAgg3,z3:=Tryz.sizeOf3,v3:=Tryz.zeroValue3,t4:=Tryz.underlying4,a4:=Tryz.isAgg4,z4:=Tryz.sizeOf4,v4:=Tryz.zeroValue4,t5:=Tryz.underlying5,a5:=Tryz.isAgg5,z5:=Tryz.sizeOf5,v5:=Tryz.zeroValue5,t9:=Tryz.underlying9,a9:=Tryz.isAgg9,z9:=Tryz.sizeOf9,v9:=Tryz.zeroValue9,t20:=Tryz.underlying20,a20:=Tryz.isAgg20,z20:=Tryz.sizeOf20,v20:=Tryz.zeroValue20,t37:=Tryz.underlying62,a37:=Tryz.isAgg62,z37:=Tryz.sizeOf62,v37:=Tryz.zeroValue62,t46:=Tryz.underlying69,a46:=Tryz.isAgg69,z46:=Tryz.sizeOf69,v46:=Tryz.zeroValue69,t51:=Tryz.underlying185,a51:=Tryz.isAgg185,z51:=Tryz.sizeOf185,v51:=Tryz.zeroValue185,t53:=Tryz.underlying122,a53:=Tryz.isAgg122,z53:=Tryz.sizeOf122,v53:=Tryz.zeroValue122,t171:=Tryz.underlying147,a171:=Tryz.isAgg147,z171:=Tryz.sizeOf147,v171:=Tryz.zeroValue147,t173:=Tryz.underlying150,a173:=Tryz.isAgg150,z173:=Tryz.sizeOf150,v173:=Tryz.zeroValue150,t212:=Tryz.underlying184,a212:=Tryz.isAgg184,z212:=Tryz.sizeOf184,v212:=Tryz.zeroValue184,t213:=Tryz.underlying186,a213:=Tryz.isAgg186,z213:=Tryz.sizeOf186,t232:=Tryz.underlying218,a232:=Tryz.isAgg218,z232:=Tryz.sizeOf218,v232:=Tryz.zeroValue218,t233:=Tryz.underlying219,a233:=Tryz.isAgg219,z233:=Tryz.sizeOf219,v233:=Tryz.zeroValue219,g17:=by kernel_rfl,g18:=by kernel_rfl,g19:=by kernel_rfl,i0:=by kernel_rfl,i2:=by kernel_rfl,i3:=by kernel_rfl,i4:=by kernel_rfl,i5:=by kernel_rfl,i9:=by kernel_rfl,i20:=by kernel_rfl,i37:=by kernel_rfl,i46:=by kernel_rfl,i51:=by kernel_rfl,i53:=by kernel_rfl,i171:=by kernel_rfl,i173:=by kernel_rfl,i212:=by kernel_rfl,i232:=by kernel_rfl,i233:=by kernel_rfl,m17:=by kernel_rfl,m18:=by kernel_rfl,m19:=by kernel_rfl }
def Tryz.lays146_ren:Go.Shelf.Ren:=⟨fun | 146=>34 | 221=>62 | 268=>101 | 138=>102 | 143=>103 | 195=>129 | 197=>130 | 218=>131 | 219=>132 | 260=>161 | 217=>162 | 225=>163 | 224=>164 | 267=>165 | 266=>176 | 314=>177 | n=>n,fun | 9=>9 | 31=>83 | 3=>3 | 4=>4 | 0=>0 | 105=>195 | 21=>21 | 5=>5 | 46=>69 | 119=>220 | 139=>223 | 138=>222 | 146=>191 | 51=>185 | n=>n,fun | 1=>3 | 3=>6 | 4=>7 | n=>n⟩
theorem Tryz.lays146:Go.Proofs.Lays.n146 Tryz.prog Tryz.lays146_ren:={ mixed:=by kernel_rfl,f138:=Tryz.func102.trans (congrArg some (by kernel_rfl)),f143:=Tryz.func103.trans (congrArg some (by kernel_rfl)),f146:=Tryz.func34.trans (congrArg some (by kernel_rfl)),f195:=Tryz.func129.trans (congrArg some (by kernel_rfl)),f197:=Tryz.func130.trans (congrArg some (by kernel_rfl)),f217:=Tryz.func162.trans (congrArg some (by kernel_rfl)),f218:=Tryz.func131.trans (congrArg some (by kernel_rfl)),f219:=Tryz.func132.trans (congrArg some (by kernel_rfl)),f221:=Tryz.func62.trans (congrArg some (by kernel_rfl)),f224:=Tryz.func164.trans (congrArg some (by kernel_rfl)),f225:=Tryz.func163.trans (congrArg some (by kernel_rfl)),f260:=Tryz.func161.trans (congrArg some (by kernel_rfl)),f266:=Tryz.func176.trans (congrArg some (by kernel_rfl)),f267:=Tryz.func165.trans (congrArg some (by kernel_rfl)),f268:=Tryz.func101.trans (congrArg some (by kernel_rfl)),f314:=Tryz.func177.trans (congrArg some (by kernel_rfl)),t0:=Tryz.underlying0,a0:=Tryz.isAgg0,z0:=Tryz.sizeOf0,v0:=Tryz.zeroValue0,t3:=Tryz.underlying3,a3:=Tryz.isAgg3,z3:=Tryz.sizeOf3,v3:=Tryz.zeroValue3,t4:=Tryz.underlying4,a4:=Tryz.isAgg4,z4:=Tryz.sizeOf4,v4:=Tryz.zeroValue4,t5:=Tryz.underlying5,a5:=Tryz.isAgg5,z5:=Tryz.sizeOf5,v5:=Tryz.zeroValue5,t9:=Tryz.underlying9,a9:=Tryz.isAgg9,z9:=Tryz.sizeOf9,v9:=Tryz.zeroValue9,t21:=Tryz.underlying21,a21:=Tryz.isAgg21,z21:=Tryz.sizeOf21,v21:=Tryz.zeroValue21,t31:=Tryz.underlying83,a31:=Tryz.isAgg83,z31:=Tryz.sizeOf83,v31:=Tryz.zeroValue83,t46:=Tryz.underlying69,a46:=Tryz.isAgg69,z46:=Tryz.sizeOf69,v46:=Tryz.zeroValue69,t51:=Tryz.underlying185,a51:=Tryz.isAgg185,z51:=Tryz.sizeOf185,v51:=Tryz.zeroValue185,t105:=Tryz.underlying195,a105:=Tryz.isAgg195,z105:=Tryz.sizeOf195,v105:=Tryz.zeroValue195,t119:=Tryz.underlying220,a119:=Tryz.isAgg220,z119:=Tryz.sizeOf220,t138:=Tryz.underlying222,a138:=Tryz.isAgg222,z138:=Tryz.sizeOf222,v138:=Tryz.zeroValue222,t139:=Tryz.underlying223,a139:=Tryz.isAgg223,z139:=Tryz.sizeOf223,v139:=Tryz.zeroValue223,t146:=Tryz.underlying191,a146:=Tryz.isAgg191,z146:=Tryz.sizeOf191,v146:=Tryz.zeroValue191,g1:=by kernel_rfl,g3:=by kernel_rfl,g4:=by kernel_rfl }
def Tryz.lays103_ren:Go.Shelf.Ren:=⟨fun | 103=>65 | 210=>104 | 206=>128 | n=>n,fun | 9=>9 | 4=>4 | 24=>130 | 3=>3 | n=>n,fun | n=>n⟩
theorem Tryz.lays103:Go.Proofs.Lays.n103 Tryz.prog Tryz.lays103_ren:={ mixed:=by kernel_rfl,f103:=Tryz.func65.trans (congrArg some (by kernel_rfl)),f206:=Tryz.func128.trans (congrArg some (by kernel_rfl)),f210:=Tryz.func104.trans (congrArg some (by kernel_rfl)),t3:=Tryz.underlying3,a3:=Tryz.isAgg3,z3:=Tryz.sizeOf3,v3:=Tryz.zeroValue3,t4:=Tryz.underlying4,a4:=Tryz.isAgg4,z4:=Tryz.sizeOf4,v4:=Tryz.zeroValue4,t9:=Tryz.underlying9,a9:=Tryz.isAgg9,z9:=Tryz.sizeOf9,v9:=Tryz.zeroValue9,t24:=Tryz.underlying130,a24:=Tryz.isAgg130,z24:=Tryz.sizeOf130,v24:=Tryz.zeroValue130 }
def Tryz.laysC174_ren:Go.Shelf.Ren:=⟨fun | 174=>106 | 247=>134 | 245=>135 | 287=>136 | 279=>166 | 280=>167 | 281=>168 | 282=>169 | 321=>170 | 322=>171 | 316=>178 | 171=>180 | 205=>179 | 243=>183 | 246=>44 | 283=>79 | 284=>80 | 285=>81 | 286=>82 | 129=>115 | 317=>114 | 318=>116 | 319=>117 | 320=>118 | 337=>159 | 338=>160 | n=>n,fun | 9=>9 | 3=>3 | 2=>2 | 75=>67 | 85=>168 | 4=>4 | 167=>209 | 5=>5 | 53=>122 | 175=>170 | 46=>69 | 168=>210 | 37=>62 | 0=>0 | 210=>226 | 21=>21 | 127=>103 | 145=>232 | 143=>230 | 171=>147 | 173=>150 | 212=>184 | 51=>185 | 20=>20 | 213=>186 | 232=>218 | 233=>219 | 80=>70 | n=>n,fun | 15=>8 | 16=>9 | 17=>0 | 18=>4 | 19=>5 | n=>n⟩
theorem Tryz.laysC174:Go.Proofs.LaysC.n174 Tryz.prog Tryz.laysC174_ren:={ mixed:=by kernel_rfl,f129:=Tryz.func115.trans (congrArg some (by kernel_rfl)),f171:=Tryz.func180.trans (congrArg some (by kernel_rfl)),f174:=Tryz.func106.trans (congrArg some (by kernel_rfl)),f205:=Tryz.func179.trans (congrArg some (by kernel_rfl)),f243:=Tryz.func183.trans (congrArg some (by kernel_rfl)),f245:=Tryz.func135.trans (congrArg some (by kernel_rfl)),f246:=Tryz.func44.trans (congrArg some (by kernel_rfl)),f247:=Tryz.func134.trans (congrArg some (by kernel_rfl)),f279:=Tryz.func166.trans (congrArg some (by kernel_rfl)),f280:=Tryz.func167.trans (congrArg some (by kernel_rfl)),f281:=Tryz.func168.trans (congrArg some (by kernel_rfl)),f282:=Tryz.func169.trans (congrArg some (by kernel_rfl)),f283:=Tryz.func79.trans (congrArg some (by kernel_rfl)),f284:=Tryz.func80.trans (congrArg some (by kernel_rfl)),f285:=Tryz.func81.trans (congrArg some (by kernel_rfl)),f286:=Tryz.func82.trans (congrArg some (by kernel_rfl)),f287:=Tryz.func136.trans (congrArg some (by kernel_rfl)),f316:=Tryz.func178.trans (congrArg some (by kernel_rfl)),f317:=Tryz.func114.trans (congrArg some (by kernel_rfl)),f318:=Tryz.func116.trans (congrArg some (by kernel_rfl)),f319:=Tryz.func117.trans (congrArg some (by kernel_rfl)),f320:=Tryz.func118.trans (congrArg some (by kernel_rfl)),f321:=Tryz.func170.trans (congrArg some (by kernel_rfl)),f322:=Tryz.func171.trans (congrArg some (by kernel_rfl)),f337:=Tryz.func159.trans (congrArg some (by kernel_rfl)),f338:=Tryz.func160.trans (congrArg some (by kernel_rfl)),t0:=Tryz.underlying0,a0:=Tryz.isAgg0,z0:=Tryz.sizeOf0,v0:=Tryz.zeroValue0,t2:=Tryz.underlying2,a2:=Tryz.isAgg2,z2:=Tryz.sizeOf2,v2:=Tryz.zeroValue2,t3:=Tryz.underlying3,a3:=Tryz.isAgg3,z3:=Tryz.sizeOf3,v3:=Tryz.zeroValue3,t4:=Tryz.underlying4,a4:=Tryz.isAgg4,z4:=Tryz.sizeOf4,v4:=Tryz.zeroValue4,t5:=Tryz.underlying5,a5:=Tryz.isAgg5,z5:=Tryz.sizeOf5,v5:=Tryz.zeroValue5,t9:=Tryz.underlying9,a9:=Tryz.isAgg9,z9:=Tryz.sizeOf9,v9:=Tryz.zeroValue9,t20:=Tryz.underlying20,a20:=Tryz.isAgg20,z20:=Tryz.sizeOf20,v20:=Tryz.zeroValue20,t21:=Tryz.underlying21,a21:=Tryz.isAgg21,z21:=Tryz.sizeOf21,v21:=Tryz.zeroValue21,t37:=Tryz.underlying62,a37:=Tryz.isAgg62,z37:=Tryz.sizeOf62,v37:=Tryz.zeroValue62,t46:=Tryz.underlying69,a46:=Tryz.isAgg69,z46:=Tryz.sizeOf69,v46:=Tryz.zeroValue69,t51:=Tryz.underlying185,a51:=Tryz.isAgg185,z51:=Tryz.sizeOf185,v51:=Tryz.zeroValue185,t53:=Tryz.underlying122,a53:=Tryz.isAgg122,z53:=Tryz.sizeOf122,v53:=Tryz.zeroValue122,t75:=Tryz.underlying67,a75:=Tryz.isAgg67,z75:=Tryz.sizeOf67,v75:=Tryz.zeroValue67,t85:=Tryz.underlying168,a85:=Tryz.isAgg168,z85:=Tryz.sizeOf168,v85:=Tryz.zeroValue168,t127:=Tryz.underlying103,a127:=Tryz.isAgg103,z127:=Tryz.sizeOf103,v127:=Tryz.zeroValue103,t143:=Tryz.underlying230,a143:=Tryz.isAgg230,z143:=Tryz.sizeOf230,v143:=Tryz.zeroValue230,t145:=Tryz.underlying232,a145:=Tryz.isAgg232,z145:=Tryz.sizeOf232,v145:=Tryz.zeroValue232,t167:=Tryz.underlying209,a167:=Tryz.isAgg209,z167:=Tryz.sizeOf209,v167:=Tryz.zeroValue209,t168:=Tryz.underlying210,a168:=Tryz.isAgg210,z168:=Tryz.sizeOf210,v168:=Tryz.zeroValue210,t171:=Tryz.underlying147,a171:=Tryz.isAgg147,z171:=Tryz.sizeOf147,v171:=Tryz.zeroValue147,t173:=Tryz.underlying150,a173:=Tryz.isAgg150,z173:=Tryz.sizeOf150,v173:=Tryz.zeroValue150,t175:=Tryz.underlying170,a175:=Tryz.isAgg170,z175:=Tryz.sizeOf170,v175:=Tryz.zeroValue170,t210:=Tryz.underlying226,a210:=Tryz.isAgg226,z210:=Tryz.sizeOf226,v210:=Tryz.zeroValue226,t212:=Tryz.underlying184,a212:=Tryz.isAgg184,z212:=Tryz.sizeOf184,v212:=Tryz.zeroValue184,t213:=Tryz.underlying186,a213:=Tryz.isAgg186,z213:=Tryz.sizeOf186,t232:=Tryz.underlying218,a232:=Tryz.isAgg218,z232:=Tryz.sizeOf218,v232:=Tryz.zeroValue218,t233:=Tryz.underlying219,a233:=Tryz.isAgg219,z233:=Tryz.sizeOf219,v233:=Tryz.zeroValue219,g15:=by kernel_rfl,g16:=by kernel_rfl,g17:=by kernel_rfl,g18:=by kernel_rfl,g19:=by kernel_rfl,t80:=Tryz.underlying70,a80:=Tryz.isAgg70,z80:=Tryz.sizeOf70,v80:=Tryz.zeroValue70,i0:=by kernel_rfl,i2:=by kernel_rfl,i3:=by kernel_rfl,i4:=by kernel_rfl,i5:=by kernel_rfl,i9:=by kernel_rfl,i20:=by kernel_rfl,i21:=by kernel_rfl,i37:=by kernel_rfl,i46:=by kernel_rfl,i51:=by kernel_rfl,i53:=by kernel_rfl,i75:=by kernel_rfl,i80:=by kernel_rfl,i85:=by kernel_rfl,i127:=by kernel_rfl,i143:=by kernel_rfl,i145:=by kernel_rfl,i167:=by kernel_rfl,i168:=by kernel_rfl,i171:=by kernel_rfl,i173:=by kernel_rfl,i175:=by kernel_rfl,i210:=by kernel_rfl,i212:=by kernel_rfl,i232:=by kernel_rfl,i233:=by kernel_rfl,m15:=by kernel_rfl,m16:=by kernel_rfl,m17:=by kernel_rfl,m18:=by kernel_rfl,m19:=by kernel_rfl,c0:=by kernel_rfl,c2:=by kernel_rfl,c3:=by kernel_rfl,c4:=by kernel_rfl,c5:=by kernel_rfl,c9:=by kernel_rfl,c20:=by kernel_rfl,c21:=by kernel_rfl,c37:=by kernel_rfl,c46:=by kernel_rfl,c51:=by kernel_rfl,c53:=by kernel_rfl,c75:=by kernel_rfl,c80:=by kernel_rfl,c85:=by kernel_rfl,c127:=by kernel_rfl,c143:=by kernel_rfl,c145:=by kernel_rfl,c167:=by kernel_rfl,c168:=by kernel_rfl,c171:=by kernel_rfl,c173:=by kernel_rfl,c175:=by kernel_rfl,c210:=by kernel_rfl,c212:=by kernel_rfl,c213:=by kernel_rfl,c232:=by kernel_rfl,c233:=by kernel_rfl }
def Tryz.lays105_ren:Go.Shelf.Ren:=⟨fun | 105=>61 | 212=>98 | 99=>99 | 165=>53 | 166=>54 | 170=>100 | 169=>20 | 263=>126 | 264=>127 | 206=>128 | 240=>43 | 241=>93 | 276=>78 | 277=>123 | n=>n,fun | 9=>9 | 3=>3 | 4=>4 | 20=>20 | 0=>0 | 46=>69 | 109=>161 | 5=>5 | 72=>64 | 76=>112 | 51=>185 | 146=>191 | 53=>122 | 148=>193 | 70=>61 | 37=>62 | 75=>67 | 127=>103 | 164=>145 | 80=>70 | n=>n,fun | n=>n⟩
theorem Tryz.lays105:Go.Proofs.Lays.n105 Tryz.prog Tryz.lays105_ren:={ mixed:=by kernel_rfl,f99:=Tryz.func99.trans (congrArg some (by kernel_rfl)),f105:=Tryz.func61.trans (congrArg some (by kernel_rfl)),f165:=Tryz.func53.trans (congrArg some (by kernel_rfl)),f166:=Tryz.func54.trans (congrArg some (by kernel_rfl)),f169:=Tryz.func20.trans (congrArg some (by kernel_rfl)),f170:=Tryz.func100.trans (congrArg some (by kernel_rfl)),f206:=Tryz.func128.trans (congrArg some (by kernel_rfl)),f212:=Tryz.func98.trans (congrArg some (by kernel_rfl)),f240:=Tryz.func43.trans (congrArg some (by kernel_rfl)),f241:=Tryz.func93.trans (congrArg some (by kernel_rfl)),f263:=Tryz.func126.trans (congrArg some (by kernel_rfl)),f264:=Tryz.func127.trans (congrArg some (by kernel_rfl)),f276:=Tryz.func78.trans (congrArg some (by kernel_rfl)),f277:=Tryz.func123.trans (congrArg some (by kernel_rfl)),t0:=Tryz.underlying0,a0:=Tryz.isAgg0,z0:=Tryz.sizeOf0,v0:=Tryz.zeroValue0,t3:=Tryz.underlying3,a3:=Tryz.isAgg3,z3:=Tryz.sizeOf3,v3:=Tryz.zeroValue3,t4:=Tryz.underlying4,a4:=Tryz.isAgg4,z4:=Tryz.sizeOf4,v4:=Tryz.zeroValue4,t5:=Tryz.underlying5,a5:=Tryz.isAgg5,z5:=Tryz.sizeOf5,v5:=Tryz.zeroValue5,t9:=Tryz.underlying9,a9:=Tryz.isAgg9,z9:=Tryz.sizeOf9,v9:=Tryz.zeroValue9,t20:=Tryz.underlying20,a20:=Tryz.isAgg20,z20:=Tryz.sizeOf20,v20:=Tryz.zeroValue20,t37:=Tryz.underlying62,a37:=Tryz.isAgg62,z37:=Tryz.sizeOf62,v37:=Tryz.zeroValue62,t46:=Tryz.underlying69,a46:=Tryz.isAgg69,z46:=Tryz.sizeOf69,v46:=Tryz.zeroValue69,t51:=Tryz.underlying185,a51:=Tryz.isAgg185,z51:=Tryz.sizeOf185,v51:=Tryz.zeroValue185,t53:=Tryz.underlying122,a53:=Tryz.isAgg122,z53:=Tryz.sizeOf122,v53:=Tryz.zeroValue122,t70:=Tryz.underlying61,a70:=Tryz.isAgg61,z70:=Tryz.sizeOf61,v70:=Tryz.zeroValue61,t72:=Tryz.underlying64,a72:=Tryz.isAgg64,z72:=Tryz.sizeOf64,v72:=Tryz.zeroValue64,t75:=Tryz.underlying67,a75:=Tryz.isAgg67,z75:=Tryz.sizeOf67,v75:=Tryz.zeroValue67,t76:=Tryz.underlying112,a76:=Tryz.isAgg112,z76:=Tryz.sizeOf112,v76:=Tryz.zeroValue112,t109:=Tryz.underlying161,a109:=Tryz.isAgg161,z109:=Tryz.sizeOf161,v109:=Tryz.zeroValue161,t127:=Tryz.underlying103,a127:=Tryz.isAgg103,z127:=Tryz.sizeOf103,v127:=Tryz.zeroValue103,t146:=Tryz.underlying191,a146:=Tryz.isAgg191,z146:=Tryz.sizeOf191,v146:=Tryz.zeroValue191,t148:=Tryz.underlying193,a148:=Tryz.isAgg193,z148:=Tryz.sizeOf193,v148:=Tryz.zeroValue193,t164:=Tryz.underlying145,a164:=Tryz.isAgg145,z164:=Tryz.sizeOf145,v164:=Tryz.zeroValue145 }
theorem Tryz.Builder_Extra_105:Builder.Extra Tryz.prog Tryz.lays105_ren:={ sizeBuilder:=by kernel_rfl,liesBuilder:=by kernel_rfl,t5:=Tryz.underlying5,a5:=Tryz.isAgg5,z5:=Tryz.sizeOf5,v5:=Tryz.zeroValue5,infoByte:=by kernel_rfl,cellsByte:=by kernel_rfl,sizeByte:=by kernel_rfl,neB5:=by decide }
def Tryz.lays167_ren:Go.Shelf.Ren:=⟨fun | 167=>19 | 240=>43 | 276=>78 | n=>n,fun | 0=>0 | 4=>4 | 5=>5 | 9=>9 | 20=>20 | 37=>62 | 70=>61 | 72=>64 | 75=>67 | 164=>145 | 80=>70 | n=>n,fun | n=>n⟩
theorem Tryz.lays167:Go.Proofs.Lays.n167 Tryz.prog Tryz.lays167_ren:={ mixed:=by kernel_rfl,f167:=Tryz.func19.trans (congrArg some (by kernel_rfl)),f240:=Tryz.func43.trans (congrArg some (by kernel_rfl)),f276:=Tryz.func78.trans (congrArg some (by kernel_rfl)),t0:=Tryz.underlying0,a0:=Tryz.isAgg0,z0:=Tryz.sizeOf0,v0:=Tryz.zeroValue0,t4:=Tryz.underlying4,a4:=Tryz.isAgg4,z4:=Tryz.sizeOf4,v4:=Tryz.zeroValue4,t5:=Tryz.underlying5,a5:=Tryz.isAgg5,z5:=Tryz.sizeOf5,v5:=Tryz.zeroValue5,t9:=Tryz.underlying9,a9:=Tryz.isAgg9,z9:=Tryz.sizeOf9,v9:=Tryz.zeroValue9,t20:=Tryz.underlying20,a20:=Tryz.isAgg20,z20:=Tryz.sizeOf20,v20:=Tryz.zeroValue20,t37:=Tryz.underlying62,a37:=Tryz.isAgg62,z37:=Tryz.sizeOf62,v37:=Tryz.zeroValue62,t70:=Tryz.underlying61,a70:=Tryz.isAgg61,z70:=Tryz.sizeOf61,v70:=Tryz.zeroValue61,t72:=Tryz.underlying64,a72:=Tryz.isAgg64,z72:=Tryz.sizeOf64,v72:=Tryz.zeroValue64,t75:=Tryz.underlying67,a75:=Tryz.isAgg67,z75:=Tryz.sizeOf67,v75:=Tryz.zeroValue67,t164:=Tryz.underlying145,a164:=Tryz.isAgg145,z164:=Tryz.sizeOf145,v164:=Tryz.zeroValue145 }
theorem Tryz.Builder_Extra_167:Builder.Extra Tryz.prog Tryz.lays167_ren:={ sizeBuilder:=by kernel_rfl,liesBuilder:=by kernel_rfl,t5:=Tryz.underlying5,a5:=Tryz.isAgg5,z5:=Tryz.sizeOf5,v5:=Tryz.zeroValue5,infoByte:=by kernel_rfl,cellsByte:=by kernel_rfl,sizeByte:=by kernel_rfl,neB5:=by decide }
end Go.Proofs
namespace Go.CL
open Go Go.RowKit Go.Proofs
def Zuz:Array Value:=#[.string ⟨#[]⟩,.string ⟨#[116,101,120,116]⟩,.string ⟨#[115,117,109]⟩,.string ⟨#[99,111,117,110,116]⟩,.string ⟨#[112,117,114,115,101]⟩,.string ⟨#[112,101,97,107]⟩,.string ⟨#[100,105,112]⟩,.string ⟨#[108,101,118,101,108]⟩,.string ⟨#[115,101,116]⟩,.string ⟨#[116,111,112]⟩]
theorem Zzz (k:Int) (h1:1 ≤ k) (h2:k ≤ 9) {r:ByteArray} (h:idx Znr k=some r) (w:World):(Instr.index 120 (.agg Zuz) (.int .i64 k)).run Tryz.prog w=.ok (.string r) w:=by
 have hs:(sizeOf 9).run Tryz.prog w=.ok 1 w:=Tryz.sizeOf9 w
 have hk:k=1 ∨ k=2 ∨ k=3 ∨ k=4 ∨ k=5 ∨ k=6 ∨ k=7 ∨ k=8 ∨ k=9:=by omega
 rcases hk with rfl | rfl | rfl | rfl | rfl | rfl | rfl | rfl | rfl <;> (
   obtain rfl:=Option.some.inj h
   simp [Instr.index,asIntOf,run_underlying Tryz.underlying120,hs,part,Zuz,Tryz.isAgg9]
   )
theorem Z1p (k : Int) (h1 : 1 ≤ k) (h2 : k ≤ 9) {r : ByteArray} (h : idx Znr k = some r) (w : World) : Calls Tryz.prog 32 #[.int .i64 k] w fun e w' => e = .returned (.string r) ∧ Below w.heap.size w w' := by
   have hx:∀ w:World,(Instr.index 120 (.agg #[.string ⟨#[]⟩,.string ⟨#[116,101,120,116]⟩,.string ⟨#[115,117,109]⟩,.string ⟨#[99,111,117,110,116]⟩,.string ⟨#[112,117,114,115,101]⟩,.string ⟨#[112,101,97,107]⟩,.string ⟨#[100,105,112]⟩,.string ⟨#[108,101,118,101,108]⟩,.string ⟨#[115,101,116]⟩,.string ⟨#[116,111,112]⟩]) (.int .i64 k)).run Tryz.prog w=.ok (.string r) w:=fun w=>Zzz k h1 h2 h w
   clear h
   go_enter Tryz.func32,Tryz.ntmps32
   go_wp2
   go_ret
   exact ⟨rfl,Below.refl _ _⟩
theorem Zse (c:Nat) (hc:c < 256) (w:World):Calls Tryz.prog 18 #[.int .u8 (c:Int)] w fun e w'=>e=.returned (.bool (Zjr (UInt8.ofNat c))) ∧ w'=w:=by
 have key:∀ c:Nat,c < 256 → ((((decide ((97:Int) ≤ (c:Int)) && decide ((c:Int) ≤ 122)) || (decide ((48:Int) ≤ (c:Int)) && decide ((c:Int) ≤ 57))) || ((c:Int) == 95)) || ((c:Int) == 46))=Zjr (UInt8.ofNat c):=by decide +kernel
 have hk:=key c hc
 clear key hc
 go_enter Tryz.func18,Tryz.ntmps18
 go_wp2
 all_goals (
   go_ret
   refine ⟨?_,rfl⟩
   rw [← hk]
   refine congrArg (fun b=>Ending.returned (Value.bool b)) (?_:_=_)
   clear hk
   first | (simp_all;done) | (simp_all;omega) | (rw [Bool.eq_iff_iff];simp;omega))
theorem Ztr (n:Nat) (h:n < 16):((⟨#[48,49,50,51,52,53,54,55,56,57,65,66,67,68,69,70]⟩:ByteArray)[n]?).map UInt8.toNat=some (hexU n).toNat:=by
 have:∀ n:Nat,n < 16 → ((⟨#[48,49,50,51,52,53,54,55,56,57,65,66,67,68,69,70]⟩:ByteArray)[n]?).map UInt8.toNat=some (hexU n).toNat:=by decide +kernel
 exact this n h
theorem Z03 (s:ByteArray) (i:Nat) (h:i < s.size):(s.data.toList.take (i + 1)).flatMap Zc0=(s.data.toList.take i).flatMap Zc0 ++ Zc0 (s[i]'h):=by
 have hl:i < s.data.toList.length:=by rw [← Lib.size_eq];exact h
 rw [List.take_add_one,List.getElem?_eq_getElem hl]
 simp only [Option.toList_some,List.flatMap_append,List.flatMap_cons,List.flatMap_nil,List.append_nil]
 congr 2
theorem wb (B b:Nat) (bs:List Value) (c:Int) (w:World) (h:Lib.IsBuilderF 64 5 B b bs w) (hlen:bs.length + 1 ≤ 140737488355328) (hBw:B ≤ w.heap.size):Calls Tryz.prog 19 #[.pointer (some ⟨b,0,none⟩),.int .u8 c] w fun e w'=>e=.returned .nilIface ∧ Lib.IsBuilderF 64 5 B b (bs ++ [.int .u8 c]) w' ∧ Below B w w' :=
 (Any.Builder_WriteByte_k Tryz.lays167 Tryz.Builder_Extra_167 B b bs c w h hlen hBw).mono fun e w' ⟨h1,h2,h3,_⟩=>⟨h1,.inr h2,h3⟩
theorem Z5o (B b:Nat) (l:List UInt8) (w:World) (h:Lib.IsBuilderF 64 5 B b (Lib.byteCells l) w) (hBw:B ≤ w.heap.size):Calls Tryz.prog 20 #[.pointer (some ⟨b,0,none⟩)] w fun e w'=>e=.returned (.string ⟨l.toArray⟩) ∧ Below B w w' :=
 (Any.Builder_String_any_k Tryz.lays169 Tryz.Builder_Extra_169 B b l w h hBw).mono fun e w' ⟨h1,_,h3,_⟩=>⟨h1,h3⟩
theorem Zmi (l:List UInt8) (c:UInt8):Lib.byteCells l ++ [.int .u8 (c.toNat:Int)]=Lib.byteCells (l ++ [c]):=by rw [Lib.byteCells_append];rfl
theorem Ztj (s:ByteArray) (k:IntKind) (i:Nat) (h:i < s.size) (w:World):(Instr.index 9 (.string s) (.int k (i:Int))).run Tryz.prog w=.ok (.int .u8 ((s[i]'h).toNat:Int)) w:=by
 simp [Instr.index,asIntOf,run_underlying Tryz.underlying9,h]
theorem Zyo {n:Nat} (h:n < 16) (w:World):(Instr.index 9 (.string ⟨#[48,49,50,51,52,53,54,55,56,57,65,66,67,68,69,70]⟩) (.int .u8 (n:Int))).run Tryz.prog w=.ok (.int .u8 ((hexU n).toNat:Int)) w:=by
 rw [Ztj ⟨#[48,49,50,51,52,53,54,55,56,57,65,66,67,68,69,70]⟩ .u8 n h w]
 have:=Ztr n h
 rw [getElem?_pos _ n (by exact h)] at this
 rw [Option.some.inj this]
theorem Z3f (l:List UInt8):(l.flatMap Zc0).length ≤ 3 * l.length:=by
 induction l with
 | nil=>simp
 | cons c l ih =>
   have:(Zc0 c).length ≤ 3:=by unfold Zc0;split <;> simp
   simp only [List.flatMap_cons,List.length_append,List.length_cons];omega
theorem Z10 (s:ByteArray) (w:World) (hs:s.size ≤ 1000000):Calls Tryz.prog 4 #[.string s] w fun e w'=>e=.returned (.string (if s.size=0 then ⟨#[37]⟩ else ⟨(s.data.toList.flatMap Zc0).toArray⟩)) ∧ Below w.heap.size w w':=by
 by_cases h0:s.size=0
 · have:s=⟨#[]⟩:=ByteArray.ext (Array.size_eq_zero_iff.1 h0)
   subst this
   go_enter Tryz.func4,Tryz.ntmps4
   go_wp2
   go_ret
   exact ⟨rfl,Below.refl _ _⟩
 · have hne:¬ s=⟨#[]⟩:=fun h=>h0 (by rw [h];rfl)
   rw [if_neg h0]
   go_enter Tryz.func4,Tryz.ntmps4
   go_wp2
   · have he:s.toList.isEmpty=true:=by assumption
     exact absurd (by rw [List.isEmpty_iff] at he;rw [_root_.Go.ByteArray.toList_eq] at he;rw [Lib.size_eq,he];rfl) h0
   have hfe:s.toList.isEmpty=false:=by assumption
   rw [hfe]
   go_loopw [9] (fun v wr=>∃ i:Nat,v=.int .i64 (i:Int) ∧ i ≤ s.size ∧ Lib.IsBuilderF 64 5 w.heap.size w.heap.size (Lib.byteCells ((s.data.toList.take i).flatMap Zc0)) wr ∧ Below w.heap.size w wr) (fun v _=>s.size - (intOf v).toNat)
   case atStart =>
     exact ⟨0,rfl,Nat.zero_le _,Lib.IsBuilderF.of (Lib.fresh_isBuilder 64 5 w),(Below.refl _ w).alloc (Nat.le_refl _) _⟩
   case round =>
     obtain ⟨i,rfl,hi,hI,hb⟩:=hrel
     by_cases hp:i < s.size
     · have hlen:((s.data.toList.take i).flatMap Zc0).length ≤ 3 * i:=by have:=Z3f (s.data.toList.take i);rw [List.length_take] at this;omega
       have hB:w.heap.size ≤ wr.heap.size:=hb.size
       have hx:∀ w':World,(Instr.index 9 (.string s) (.int .i64 (i:Int))).run Tryz.prog w'=.ok (.int .u8 ((s[i]'hp).toNat:Int)) w':=fun w'=>Ztj s .i64 i hp w'
       have htk:=Z03 s i hp
       have hc:(s[i]'hp).toNat < 256:=(s[i]'hp).toNat_lt
       have hof:UInt8.ofNat (s[i]'hp).toNat=s[i]'hp:=by simp
       generalize (s[i]'hp)=c at hx htk hc hof
       by_cases hpl:Zjr c=true
       · go_wp2_with (first | (go_at_call 18;refine (Zse c.toNat hc _).mono ?_;rintro e w' ⟨rfl,rfl⟩;rw [hof,hpl]))
         have hw:Zc0 c=[c]:=by unfold Zc0;rw [if_pos hpl]
         go_wp2_with (go_at_call 19;refine (wb _ _ _ _ _ hI (by rw [Lib.byteCells_length];omega) hB).mono ?_;rintro e W1 ⟨rfl,h1,b1⟩)
         go_wp2
         go_roundw
         case rel =>
           refine ⟨i + 1,by go_num,by omega,?_,hb.trans b1⟩
           rw [htk,hw,← Zmi];exact h1
         case measure=>simp [intOf];omega
       · have hpf:Zjr c=false:=by simpa using hpl
         have hw:Zc0 c=[37,hexU (c.toNat / 16),hexU (c.toNat % 16)]:=by unfold Zc0;rw [if_neg hpl]
         go_wp2_with (first | (go_at_call 18;refine (Zse c.toNat hc _).mono ?_;rintro e w' ⟨rfl,rfl⟩;rw [hof,hpf]))
         have hx1:∀ w':World,(Instr.index 9 (.string ⟨#[48,49,50,51,52,53,54,55,56,57,65,66,67,68,69,70]⟩) (.int .u8 ((c.toNat / 16:Nat):Int))).run Tryz.prog w'=.ok (.int .u8 ((hexU (c.toNat / 16)).toNat:Int)) w':=fun w'=>Zyo (by omega) w'
         have hx2:∀ w':World,(Instr.index 9 (.string ⟨#[48,49,50,51,52,53,54,55,56,57,65,66,67,68,69,70]⟩) (.int .u8 ((c.toNat % 16:Nat):Int))).run Tryz.prog w'=.ok (.int .u8 ((hexU (c.toNat % 16)).toNat:Int)) w':=fun w'=>Zyo (by omega) w'
         go_wp2_with (go_at_call 19;refine (wb _ _ _ _ _ hI (by rw [Lib.byteCells_length];omega) hB).mono ?_;rintro e W1 ⟨rfl,h1,b1⟩)
         have B1:=hb.trans b1
         go_wp2_with (go_at_call 19;(refine (wb _ _ _ _ _ h1 (by simp only [List.length_append,Lib.byteCells_length,List.length_singleton];omega) B1.size).mono ?_);rintro e W2 ⟨rfl,h2,b2⟩)
         have B2:=B1.trans b2
         go_wp2_with (go_at_call 19;(refine (wb _ _ _ _ _ h2 (by simp only [List.length_append,Lib.byteCells_length,List.length_singleton];omega) B2.size).mono ?_);rintro e W3 ⟨rfl,h3,b3⟩)
         go_wp2
         go_roundw
         case rel =>
           refine ⟨i + 1,by go_num,by omega,?_,B2.trans b3⟩
           have q1:=Ztr (c.toNat / 16) (by omega)
           have q2:=Ztr (c.toNat % 16) (by omega)
           rw [getElem?_pos _ _ (by show c.toNat / 16 < 16;omega)] at q1
           rw [getElem?_pos _ _ (by show c.toNat % 16 < 16;omega)] at q2
           have q1:=Option.some.inj q1
           have q2:=Option.some.inj q2
           rw [q1,q2,show (37:Int)=((37:UInt8).toNat:Int) from rfl,Zmi,Zmi,Zmi] at h3
           rw [htk,hw]
           simpa using h3
         case measure=>simp [intOf];omega
     · go_wp2_with (go_at_call 20;(refine (Z5o _ _ _ _ hI hb.size).mono ?_;rintro e W1 ⟨rfl,b1⟩))
       go_wp2
       go_ret
       refine ⟨?_,hb.trans b1⟩
       rw [List.take_of_length_le (by rw [← Lib.size_eq];omega)];rfl
theorem Z5l (w:World) (hc:w.cell? ⟨5,15,none⟩=some (.int .u8 4)):Calls Tryz.prog 118 #[.int .u64 16] w fun e w'=>e=.returned (.int .i64 4) ∧ w'=w:=by
 have hq:IntKind.u64.wrap (bits BinOp.and IntKind.u64 16 (IntKind.u64.wrap (-16)) * 285870213051353865) / 288230376151711744=15:=by decide +kernel
 go_enter Tryz.func118,Tryz.ntmps118
 go_wp2
 go_ret
 exact ⟨rfl,rfl⟩
theorem Z2k (w:World):Calls Tryz.prog 117 #[.int .i64 16] w fun e w'=>e=.returned (.bool true) ∧ w'=w:=by
 have hq:bits BinOp.and IntKind.i64 16 15=0:=by decide +kernel
 go_enter Tryz.func117,Tryz.ntmps117
 go_wp2
 go_ret
 exact ⟨rfl,rfl⟩
def digs:ByteArray:=⟨#[48,49,50,51,52,53,54,55,56,57,97,98,99,100,101,102,103,104,105,106,107,108,109,110,111,112,113,114,115,116,117,118,119,120,121,122]⟩
theorem Zy9 (n:Nat) (h:n < 16) (w:World):(Instr.index 9 (.string digs) (.int .u64 (n:Int))).run Tryz.prog w=.ok (.int .u8 ((hexL n).toNat:Int)) w:=by
 have h2:n < digs.size:=by show n < 36;omega
 rw [Ztj digs .u64 n h2 w]
 have key:∀ n:Nat,n < 16 → (digs[n]?).map UInt8.toNat=some (hexL n).toNat:=by decide +kernel
 have:=key n h
 rw [getElem?_pos _ n h2] at this
 rw [Option.some.inj this]
theorem Z8r (n:Nat) (h:n < 18446744073709551616):bits BinOp.and IntKind.u64 (n:Int) 15=((n % 16:Nat):Int):=by
 show IntKind.wrap .u64 ((BitVec.ofInt 64 (n:Int) &&& BitVec.ofInt 64 15).toNat:Int)=_
 have hb:(BitVec.ofInt 64 (n:Int)).toNat=n:=by
   rw [show BitVec.ofInt 64 (n:Int)=BitVec.ofNat 64 n from rfl];simp;omega
 rw [BitVec.toNat_and,hb,show (BitVec.ofInt 64 15).toNat=2 ^ 4 - 1 from rfl,Nat.and_two_pow_sub_one_eq_mod,IntKind.wrap_u64]
 omega
theorem Z08 (k:Nat) (c:UInt8) (ds:List UInt8) (hk:k ≤ 64) (hl:ds.length=k) (j:Nat) (hj:j ≠ 65 - k - 1):(List.replicate (65 - (k + 1)) 0 ++ c :: ds).getD j 0=(List.replicate (65 - k) 0 ++ ds).getD j 0:=by
 simp only [List.getD_eq_getElem?_getD,List.getElem?_append,List.length_replicate,List.getElem?_replicate]
 by_cases h1:j < 65 - (k + 1)
 · rw [if_pos h1,if_pos (show j < 65 - k by omega),if_pos h1,if_pos (show j < 65 - k by omega)]
 · rw [if_neg h1,if_neg (show ¬ j < 65 - k by omega),show j - (65 - (k + 1))=(j - (65 - k)) + 1 by omega,List.getElem?_cons_succ]
theorem Z20 (k:Nat) (c:UInt8) (ds:List UInt8) (hk:k ≤ 64):(List.replicate (65 - (k + 1)) 0 ++ c :: ds).getD (65 - k - 1) 0=c:=by
 simp only [List.getD_eq_getElem?_getD,List.getElem?_append,List.length_replicate]
 rw [if_neg (by omega),show 65 - k - 1 - (65 - (k + 1))=0 by omega];rfl
theorem Z6h (n:Nat) (h:n < 16) (h2:n < (⟨#[48,49,50,51,52,53,54,55,56,57,97,98,99,100,101,102,103,104,105,106,107,108,109,110,111,112,113,114,115,116,117,118,119,120,121,122]⟩:ByteArray).size):((⟨#[48,49,50,51,52,53,54,55,56,57,97,98,99,100,101,102,103,104,105,106,107,108,109,110,111,112,113,114,115,116,117,118,119,120,121,122]⟩:ByteArray)[n]'h2).toNat=(hexL n).toNat:=by
 have key:∀ n:Nat,n < 16 → ((⟨#[48,49,50,51,52,53,54,55,56,57,97,98,99,100,101,102,103,104,105,106,107,108,109,110,111,112,113,114,115,116,117,118,119,120,121,122]⟩:ByteArray)[n]?).map UInt8.toNat=some (hexL n).toNat:=by decide +kernel
 have:=key n h
 rw [getElem?_pos _ n h2] at this
 exact Option.some.inj this
theorem Zz2 {m n:Nat} (h:n < 16):hexD m n=[hexL n]:=by
 cases m with
 | zero=>rw [hexD,Nat.mod_eq_of_lt h]
 | succ m=>rw [hexD,if_pos h,Nat.mod_eq_of_lt h]
structure BRel (u B:Nat) (w:World) (U I:Value) (wr:World):Prop where
 ex:∃ (k:Nat) (ds:List UInt8),k ≤ 15 ∧ ds.length=k ∧ U=.int .u64 ((u / 16 ^ k:Nat):Int) ∧ I=.int .i64 ((65 - k:Nat):Int) ∧ hexD 15 u=hexD (15 - k) (u / 16 ^ k) ++ ds ∧ (∀ j,j < 65 → wr.cell? ⟨B,j,none⟩=some (.int .u8 (((List.replicate (65 - k) 0 ++ ds).getD j 0).toNat:Int)))
 fr:∀ j,j < 65 → wr.frozen? ⟨B,j,none⟩=false
 bl:Below B w wr
theorem Z0l (u:Nat) (hu:u < 18446744073709551616) (w:World) (hc:w.cell? ⟨5,15,none⟩=some (.int .u8 4)) (h5:5 < w.heap.size):Calls Tryz.prog 82 #[.slice none 0 0,.int .u64 (u:Int),.int .i64 16,.bool false,.bool false] w fun e w'=>e=.returned (.tuple #[.slice none 0 0,.string ⟨(hexD 15 u).toArray⟩]) ∧ Below w.heap.size w w':=by
 go_enter Tryz.func82,Tryz.ntmps82
 go_wp2_with (first | (go_at_call 117;refine (Z2k _).mono ?_;rintro e w' ⟨rfl,rfl⟩) | (go_at_call 118;refine (Z5l _ (by rw [Zf0 (Zkx _ _ h5)];exact hc)).mono ?_;rintro e w' ⟨rfl,rfl⟩))
 go_loopw [1,13] (fun U I wr=>BRel u w.heap.size w U I wr) (fun U _ _=>(intOf U).toNat)
 case atStart =>
   refine ⟨⟨0,[],by omega,rfl,by simp,rfl,by simp,fun j hj=>?_⟩,fun j hj=>?_,(Below.refl _ w).alloc (Nat.le_refl _) _⟩
   · rw [World.cell?_alloc_new]
     have key:∀ j:Nat,j < 65 → Tryz.zeroCells186[j]?=some (.int .u8 0):=by
       intro j hj
       have:Tryz.zeroCells186=Array.replicate 65 (.int .u8 0):=by kernel_rfl
       rw [this];simp [hj]
     rw [key j hj]
     simp only [Nat.sub_zero,List.append_nil,List.getD_eq_getElem?_getD,List.getElem?_replicate,if_pos hj];rfl
   · exact World.frozen?_alloc_new _ _ _ _
 case round =>
   obtain ⟨⟨k,ds,hk,hl,rfl,rfl,hh,hcell⟩,hfr,hbl⟩:=hrel
   have hn:u / 16 ^ k < 18446744073709551616:=Nat.lt_of_le_of_lt (Nat.div_le_self ..) hu
   generalize hq:u / 16 ^ k=n at *
   by_cases h16:16 ≤ n
   · have ha:=Z8r n hn
     have hi:=Zy9 (n % 16) (Nat.mod_lt _ (by decide))
     unfold digs at hi
     have hc0:=hcell (65 - k - 1) (by omega)
     have hf0:=hfr (65 - k - 1) (by omega)
     have HC:Hid (∀ j,j < 65 → wr.cell? ⟨w.heap.size,j,none⟩=some (.int .u8 (((List.replicate (65 - k) 0 ++ ds).getD j 0).toNat:Int))):=hcell
     have HF:Hid (∀ j,j < 65 → wr.frozen? ⟨w.heap.size,j,none⟩=false):=hfr
     clear hcell hfr
     go_wp2
     go_roundw
     case rel =>
       have hk15:k ≠ 15:=fun e=>by
         subst e
         have:u / 16 ^ 15 < 16:=Nat.div_lt_of_lt_mul (by omega)
         omega
       refine ⟨⟨k + 1,hexL (n % 16) :: ds,by omega,by simp [hl],?_,by go_num,?_,fun j hj=>?_⟩,fun j hj=>?_,hbl.setCell (Nat.le_refl _) _⟩
       · rw [Nat.pow_succ,← Nat.div_div_eq_div_mul,hq];go_num
       · rw [hh,show 15 - k=(15 - (k + 1)) + 1 by omega,hexD,if_neg (by omega),List.append_assoc];rw [Nat.pow_succ,← Nat.div_div_eq_div_mul,hq];rfl
       · by_cases hj2:j=65 - k - 1
         · subst hj2
           rw [World.cell?_setCell_same _ _ _ hc0,Z20 k _ ds (by omega),Z6h _ (Nat.mod_lt _ (by decide))]
         · rw [World.cell?_setCell_other _ _ _ _ (by first | (simp;done) | simpa using hj2),Z08 k _ ds (by omega) hl j hj2]
           exact HC.out j hj
       · rw [World.frozen?_setCell];exact HF.out j hj
     case measure=>simp [intOf];omega
   · have hi:=Zy9 n (by omega)
     unfold digs at hi
     have hc0:=hcell (65 - k - 1) (by omega)
     have hf0:=hfr (65 - k - 1) (by omega)
     have HC:Hid (∀ j,j < 65 → wr.cell? ⟨w.heap.size,j,none⟩=some (.int .u8 (((List.replicate (65 - k) 0 ++ ds).getD j 0).toNat:Int))):=hcell
     clear hcell hfr
     have hal:Tryz.prog.arrayLen 186=65:=by simp [Program.arrayLen,Tryz.underlying186]
     have hsl:∀ W,(Instr.sliceAt 186 (.pointer (some ⟨w.heap.size,0,none⟩)) (some (.int .i64 (((65 - k:Nat):Int) - 1))) none none).run Tryz.prog W=.ok (.slice (some ⟨w.heap.size,65 - k - 1,none⟩) (k + 1) (k + 1)) W:=fun W=>by
       rw [run_sliceAt_array_l W 186 ⟨w.heap.size,0,none⟩ (by simp [Program.arrayLen,Program.elem,Tryz.underlying186]) .i64 (((65 - k:Nat):Int) - 1) (by omega) (by rw [hal];omega)]
       go_simp
       omega
     clear hal
     have hcv:(convert 62 9 (.slice (some ⟨w.heap.size,65 - k - 1,none⟩) (k + 1) (k + 1))).run Tryz.prog (wr.setCell ⟨w.heap.size,65 - k - 1,none⟩ (.int .u8 ((hexL n).toNat:Int)))=.ok (.string ⟨(hexL n :: ds).toArray⟩) (wr.setCell ⟨w.heap.size,65 - k - 1,none⟩ (.int .u8 ((hexL n).toNat:Int))):=by
       have h:=run_convert_bytes_back (P:=Tryz.prog) (wr.setCell ⟨w.heap.size,65 - k - 1,none⟩ (.int .u8 ((hexL n).toNat:Int))) 62 9 5 ⟨w.heap.size,65 - k - 1,none⟩ (k + 1) (hexL n :: ds) Tryz.underlying62 Tryz.underlying5 Tryz.underlying9 (fun j hj=>by
         rw [Lib.add_plain]
         cases j with
         | zero=>exact World.cell?_setCell_same _ _ _ hc0
         | succ i =>
           have hi2:i < ds.length:=by simpa using hj
           rw [World.cell?_setCell_other _ _ _ _ (by simp),List.getElem_cons_succ,HC.out (65 - k - 1 + (i + 1)) (by omega)]
           congr 3
           rw [List.getD_eq_getElem?_getD,List.getElem?_append_right (by simp;omega),List.length_replicate,show 65 - k - 1 + (i + 1) - (65 - k)=i by omega,List.getElem?_eq_getElem hi2];rfl)
       rw [List.length_cons,hl] at h
       exact h
     go_wp2
     go_ret2
     refine ⟨?_,hbl.setCell (Nat.le_refl _) _⟩
     rw [Zz2 (by omega)];rfl
theorem Zz7 (u:Nat) (hu:u < 18446744073709551616) (w:World) (hc:w.cell? ⟨5,15,none⟩=some (.int .u8 4)) (h5:5 < w.heap.size):Calls Tryz.prog 97 #[.int .u64 (u:Int),.int .i64 16] w fun e w'=>e=.returned (.string ⟨(hexD 15 u).toArray⟩) ∧ Below w.heap.size w w':=by
 go_enter Tryz.func97,Tryz.ntmps97
 go_wp2_with (go_at_call 82;refine (Z0l u hu _ hc h5).mono ?_;rintro e w' ⟨rfl,hb⟩)
 go_ret
 exact ⟨rfl,hb⟩
theorem Z2h (u:Nat) (hu:u < 18446744073709551616) (w:World) (hc:w.cell? ⟨5,15,none⟩=some (.int .u8 4)) (h5:5 < w.heap.size):Calls Tryz.prog 59 #[.int .u64 (u:Int),.int .i64 16] w fun e w'=>e=.returned (.string ⟨(hexD 15 u).toArray⟩) ∧ Below w.heap.size w w':=by
 go_enter Tryz.func59,Tryz.ntmps59
 go_wp2_with (go_at_call 97;refine (Zz7 u hu _ hc h5).mono ?_;rintro e w' ⟨rfl,hb⟩)
 go_ret
 exact ⟨rfl,hb⟩
theorem Zjt (a0:ByteArray) {r:ByteArray} (h:Zgv a0=some r):FnOk Tryz.prog 4 [(pStr a0)] (pStr r):=by
 unfold Zgv at h
 split at h
 ·rename_i hc
  obtain rfl:=Option.some.inj h
  refine Zh9 fun g args ha=>?_
  obtain ⟨v1,rfl,q1⟩:=Zxh ha
  obtain rfl:=Zcz.1 q1
  exact ⟨_,fun g'=>Zcz.2 rfl,Z10 a0 g.w hc⟩
 ·cases h
theorem Zph (a0:Int) (a1:Int) {r:ByteArray} (h:Zij a0 a1=some r):FnOk Tryz.prog 21 [(pInt .i64 a0),(pInt .i64 a1)] (pStr r):=by
 unfold Zij at h
 split at h
 ·rename_i hc
  obtain ⟨rfl,h1,h2⟩:=hc
  obtain rfl:=Option.some.inj h
  refine Zh9 fun g args ha=>?_
  obtain ⟨v1,v2,rfl,q1,q2⟩:=Zlm ha
  obtain rfl:=Zc9.1 q1
  obtain rfl:=Zc9.1 q2
  refine ⟨_,fun g'=>Zcz.2 rfl,(Any.strconv_FormatInt_10 Tryz.laysM173 a0 h1 h2 g.w (Z66 (z:=1) (by kernel_rfl) gm_0 (by simp [GLE]))).mono ?_⟩
  rintro e w' ⟨rfl,k,os,rfl⟩
  exact ⟨rfl,Zzv _ _ _⟩
 ·cases h
theorem Zgu (a0:Int) {r:ByteArray} (h:Zfx a0=some r):FnOk Tryz.prog 5 [(pInt .i64 a0)] (pStr r):=by
 have H0:=h
 unfold Zfx at H0
 clear h
 refine Zbs (N:=5) Tryz.func5 rfl rfl (Qe rfl) rfl rfl (fun a g0 hst hb=>?_)
 refine r_a [5] (L:=[(0,_)]) hst hb Za
  (a_p [] rfl (Zd rfl rfl c_s)<|a_n) (fun a g hst hb=>?_)
 obtain ⟨r1,h2,H0⟩:=Zc H0
 refine r_a [20] (L:=[(0,_)]) hst hb Za
  (Am 5 rfl<|a_p [0] rfl (Zf Z7x (Zph _ _ h2) rfl rfl (.cons u_0 (.cons c_i .nil)))<|Aa 0 rfl<|a_n) (fun a g hst hb=>?_)
 refine wp_ret ?_
 obtain rfl:=Option.some.inj H0
 exact Z2 rfl hst hb (Zg (s:=2)) (hst.at 0 rfl)
theorem Zqd (a0:Int) {r:Zj × Int} (h:Ziy a0=some r):FnOk Tryz.prog 7 [(pInt .i64 a0)] (pTup [(Z1.pd r.1),(pInt .i64 r.2)]):=by
 have H0:=h
 unfold Ziy at H0
 clear h
 refine Zbs (N:=13) Tryz.func7 rfl rfl (Qe rfl) rfl rfl (fun a g0 hst hb=>?_)
 refine r_a [5,0] (L:=[(0,_)]) hst hb Za
  (a_p (outs:=[(2,(pBox Z1 2 (default:Zj)))]) (S:=[3]) [] rfl (Zbl (zs:=[.pointer none,.int .i64 0]) (by kernel_rfl) (fun g=>Zd5 g) rfl rfl)<|a_p [] rfl (Zd rfl rfl c_i)<|a_n) (fun a g hst hb=>?_)
 refine wp_seq ?_
 refine r_a [5,15,50] (L:=[(0,_),(2,_)]) hst hb Za
  (Am 5 rfl<|a_p [0] rfl (Zco rfl rfl u_0 c_i)<|Am 0 rfl<|a_g [0,5] (Qg_f rfl (fun hG=>Zq rfl rfl u_0))<|a_g [10,0] (Qg_f rfl (fun hG=>Zcl rfl rfl (Opd.gd hG u_0) c_i))<|a_p [20,0] rfl (Zbh rfl rfl u_0 (fun hz=>(Opd.gd (bNF hz) u_1)))<|a_n) (fun a g hst hb=>?_)
 refine wp_cond_split (hst.bool 2 rfl) (fun hc1=>?_) (fun hc1=>?_)
 ·replace H0:=Zo hc1 H0
  refine r_a [10,20] (L:=[(2,_)]) (hst.pick [1] rfl) hb Za
   (a_p [] rfl (Z6u rfl rfl )<|a_p [0,5] rfl (Z7 Zbu rfl rfl u_1 u_0)<|a_p [] rfl (Zd rfl rfl c_i)<|a_n) (fun a g hst hb=>?_)
  refine wp_ret ?_
  refine Zl ?_
  obtain rfl:=Option.some.inj H0
  obtain ⟨u0,hu0,hq0⟩:=Zbn (P:=Tryz.prog) Zbu (hst.at 0 rfl)
  exact Zdl rfl hst hb hu0 (Zg (s:=3)) (Zch hq0 (hst.at 1 rfl))
 ·replace H0:=Zp hc1 H0
  refine wp_skip ?_
  refine Zm ?_
  refine r_a [20,30] (L:=[(0,_),(2,_)]) (hst.pick [0,1] rfl) hb Za
   (Am 5 rfl<|a_p [0] rfl (Z58 rfl rfl u_0)<|a_p [0,15] rfl (Z7 Zbu rfl rfl u_1 u_0)<|a_p [] rfl (Zd rfl rfl c_i)<|a_n) (fun a g hst hb=>?_)
  refine wp_ret ?_
  obtain rfl:=Option.some.inj H0
  obtain ⟨u0,hu0,hq0⟩:=Zbn (P:=Tryz.prog) Zbu (hst.at 0 rfl)
  exact Zdl rfl hst hb hu0 (Zg (s:=3)) (Zch hq0 (hst.at 1 rfl))
theorem Zma (a0:Zb) {r:Int} (h:Zgb a0=some r):FnOk Tryz.prog 22 [(Ze.pd a0)] (pInt .i64 r):=by
 have H0:=h
 unfold Zgb at H0
 clear h
 refine Zbs (N:=27) Tryz.func22 rfl rfl (Qe rfl) rfl rfl (fun a g0 hst hb=>?_)
 refine r_a [0] (L:=[(0,_)]) hst hb Za
  (a_p [5] rfl (Zbt rfl rfl u_0)<|a_p [] rfl (Zd rfl rfl c_i)<|a_n) (fun a g hst hb=>?_)
 refine wp_seq ?_
 refine r_a [5,90] (L:=[(1,_)]) hst hb Za
  (Af Zd1 5 rfl<|Al Zfz 0 rfl<|a_p [0] rfl (Zcc Tryz.underlying36 rfl rfl u_0)<|a_p [0] rfl (Zcl rfl rfl u_0 c_i)<|Am 0 rfl<|a_g [0,5] (Qg_f rfl (fun hG=>Zi Zje rfl rfl u_0))<|a_g [10,0] (Qg_f rfl (fun hG=>Zs ty_9 rfl rfl (Opd.gd hG u_0)))<|a_g [20,0] (Qg_f rfl (fun hG=>Zdc Tryz.underlying9 rfl rfl (Opd.gd hG u_0)))<|a_g [30,0] (Qg_f rfl (fun hG=>Zcl rfl rfl (Opd.gd hG u_0) c_i))<|a_p [40,0] rfl (Zbh rfl rfl u_0 (fun hz=>(Opd.gd (bNF hz) u_1)))<|a_n) (fun a g hst hb=>?_)
 refine wp_cond_split (hst.bool 1 rfl) (fun hc1=>?_) (fun hc1=>?_)
 ·replace H0:=Zo hc1 H0
  refine r_a [0] (L:=[]) (hst.pick [] rfl) hb Za
   (a_p [] rfl (Zd rfl rfl c_i)<|a_n) (fun a g hst hb=>?_)
  refine wp_ret ?_
  refine Zl ?_
  obtain rfl:=Option.some.inj H0
  exact Z2 rfl hst hb (Zg (s:=2)) (hst.at 0 rfl)
 ·replace H0:=Zp hc1 H0
  refine wp_skip ?_
  refine Zm ?_
  refine wp_seq ?_
  refine r_a [10,20,30] (L:=[(1,_)]) (hst.pick [0] rfl) hb Za
   (Af Zd1 5 rfl<|Al Zfz 0 rfl<|a_p [0] rfl (Zcc Tryz.underlying36 rfl rfl u_0)<|a_p [] rfl (Zq rfl rfl c_i)<|a_n) (fun a g hst hb=>?_)
  obtain ⟨z7,hz1,H0⟩:=Zc H0
  refine Zbp (fun a w=>∃ (g:G),w=g.w ∧ St 27 [] a g ∧ Base g0 g ∧ (.inr ())=z7) ?_ ?_
  ·rintro a w ⟨g,rfl,hst,hb,rfl⟩
   refine Zm ?_
   refine r_a [0] (L:=[]) hst hb Za
    (a_p [] rfl (Zd rfl rfl c_i)<|a_n) (fun a g hst hb=>?_)
   refine wp_ret ?_
   obtain rfl:=Option.some.inj H0
   exact Z2 rfl hst hb (Zg (s:=2)) (hst.at 0 rfl)
  ·refine wp_block ?_
   refine wp_loop_ghost (fun n a w=>∃ (x2:Int) (g:G),w=g.w ∧ St 27 [(16,(Zy.sl.pd a0.List)),(17,(pInt .i64 (a0.List.length:Int))),(18,(pInt .i64 x2))] a g ∧ Base g0 g ∧ Zdv a0 n x2=some z7) (Int.toNat ((a0.List.length:Int) - (0:Int)) + 1) ⟨(0:Int),g,rfl,(hst.pick [0,1,2] rfl),hb,hz1⟩ (fun n a w hI=>?_)
   obtain ⟨x2,g,rfl,hst,hb,H1⟩:=hI
   cases n with
   | zero=>exact absurd H1 (by simp [Zdv])
   | succ n =>
    rw [Zdv] at H1
    refine r_a [5,15,25,0] (L:=[(16,_),(17,_),(18,_)]) hst hb Za
     (a_p [25,15] rfl (Zco rfl rfl u_0 u_1)<|a_n) (fun a g hst hb=>?_)
    refine wp_seq ?_
    refine wp_cond_split (hst.bool 3 rfl) (fun hc3=>?_) (fun hc3=>?_)
    ·replace H1:=Zo hc3 H1
     refine wp_skip ?_
     refine Zm ?_
     refine wp_seq ?_
     refine wp_block ?_
     obtain ⟨e4,h5,H1⟩:=Zc H1
     refine r_a [30,5,15,25] (L:=[(16,_),(17,_),(18,_)]) (hst.pick [0,1,2] rfl) hb Za
      (a_p [5,25] rfl (Zbz Tryz.underlying36 Zji rfl rfl u_0 u_1 h5)<|Al Zgr 0 rfl<|a_p (outs:=[(4,(pBox Zy 4 (default:Zu)))]) (S:=[5]) [] rfl (Zbl (zs:=[.float .f64 0,.string ByteArray.empty]) (by kernel_rfl) (fun g=>Zic g) rfl rfl)<|a_p [10,0] rfl (Zb9 Zgr rfl rfl u_1 u_0)<|a_n) (fun a g hst hb=>?_)
     refine r_a [15,25,35,30] (L:=[(4,_),(16,_),(17,_),(18,_)]) hst hb Za
      (Af Ze7 5 rfl<|Al ty_9 0 rfl<|a_p [0] rfl (Zdc Tryz.underlying9 rfl rfl u_0)<|a_p [0] rfl (Zcl rfl rfl u_0 c_i)<|a_n) (fun a g hst hb=>?_)
     refine wp_cond_split (hst.bool 3 rfl) (fun hc6=>?_) (fun hc6=>?_)
     ·replace H1:=Zo hc6 H1
      refine r_a [0] (L:=[]) (hst.pick [] rfl) hb Za
       (a_p [] rfl (Zd rfl rfl c_i)<|a_n) (fun a g hst hb=>?_)
      refine wp_ret ?_
      refine Zw ?_
      refine Zl ?_
      refine Zl ?_
      refine Zw ?_
      refine Zl ?_
      refine Zl ?_
      obtain rfl:=Option.some.inj H1
      obtain rfl:=Option.some.inj H0
      exact Z2 rfl hst hb (Zg (s:=2)) (hst.at 0 rfl)
     ·replace H1:=Zp hc6 H1
      refine wp_skip ?_
      refine Zba ?_
      refine Zm ?_
      refine r_b [5,15,10] (L:=[(16,_),(17,_),(18,_)]) (hst.pick [0,1,2] rfl) hb Za
       (a_p [25] rfl (Zb6 rfl rfl u_0 c_i rfl)<|Am 0 rfl<|a_n) (fun a g hst hb=>?_)
      exact ⟨n,Nat.lt_succ_self _,(IntKind.i64.wrap (x2 + (1:Int))),g,rfl,(hst.pick [0,1,2] rfl),hb,H1⟩
    ·replace H1:=Zp hc3 H1
     refine wp_exit ?_
     refine Zbw ?_
     refine Zbw ?_
     refine Zb4 ?_
     exact ⟨g,rfl,(hst.pick [] rfl),hb,Option.some.inj H1⟩
theorem Zcy (a0:shelf_nodeT) {r:Int} (h:Zb8 a0=some r):FnOk Tryz.prog 25 [(Z9.pd a0)] (pInt .i64 r):=by
 have H0:=h
 unfold Zb8 at H0
 clear h
 refine Zbs (N:=9) Tryz.func25 rfl rfl (Qe rfl) rfl rfl (fun a g0 hst hb=>?_)
 refine r_a [5] (L:=[(0,_)]) hst hb Za
  (a_p [] rfl (Zd rfl rfl c_i)<|a_n) (fun a g hst hb=>?_)
 refine wp_seq ?_
 refine r_a [5,10] (L:=[(0,_)]) hst hb Za
  (Am 5 rfl<|a_p [0] rfl (Zv4 Tryz.underlying25 rfl rfl u_0 (Zif _))<|a_n) (fun a g hst hb=>?_)
 refine wp_cond_split (hst.bool 1 rfl) (fun hc1=>?_) (fun hc1=>?_)
 ·replace H0:=Zo hc1 H0
  refine r_a [0] (L:=[]) (hst.pick [] rfl) hb Za
   (a_p [] rfl (Zd rfl rfl c_i)<|a_n) (fun a g hst hb=>?_)
  refine wp_ret ?_
  refine Zl ?_
  obtain rfl:=Option.some.inj H0
  exact Z2 rfl hst hb (Zg (s:=2)) (hst.at 0 rfl)
 ·replace H0:=Zp hc1 H0
  refine wp_skip ?_
  refine Zm ?_
  obtain ⟨n2,h3,H0⟩:=Zc H0
  refine r_a [40] (L:=[(0,_)]) (hst.pick [0] rfl) hb Za
   (Am 5 rfl<|a_p [0] rfl (Z6 rfl rfl (Opd.imp u_0 (fun _ _ h=>Zv h3 h)) (fun _ _ ⟨_,_,_,e,_⟩=>⟨_,e⟩))<|Af Z49 0 rfl<|Al ty_3 0 rfl<|Aa 0 rfl<|a_n) (fun a g hst hb=>?_)
  refine wp_ret ?_
  obtain rfl:=Option.some.inj H0
  exact Z2 rfl hst hb (Zg (s:=2)) (hst.at 0 rfl)
theorem Ze9 (a0:Zj) {r:Int} (h:Zc7 a0=some r):FnOk Tryz.prog 8 [(Z1.pd a0)] (pInt .i64 r):=by
 have H0:=h
 unfold Zc7 at H0
 clear h
 refine Zbs (N:=6) Tryz.func8 rfl rfl (Qe rfl) rfl rfl (fun a g0 hst hb=>?_)
 refine r_a [0] (L:=[(0,_)]) hst hb Za
  (a_p [5] rfl (Zbt rfl rfl u_0)<|a_p [] rfl (Zd rfl rfl c_i)<|a_n) (fun a g hst hb=>?_)
 obtain ⟨r1,h2,H0⟩:=Zc H0
 refine r_a [30] (L:=[(1,_)]) hst hb Za
  (Af Zqz 5 rfl<|Al Zdy 0 rfl<|a_p [0] rfl (Zf Zlq (Zcy _ h2) rfl rfl (.cons u_0 .nil))<|Aa 0 rfl<|a_n) (fun a g hst hb=>?_)
 refine wp_ret ?_
 obtain rfl:=Option.some.inj H0
 exact Z2 rfl hst hb (Zg (s:=2)) (hst.at 0 rfl)
theorem Zkn (a0:(List Zu)) {r:(List Zu)} (h:Zdj a0=some r):FnOk Tryz.prog 49 [(Zy.sl.pd a0)] (Zy.sl.pd r):=by
 unfold Zdj at h
 obtain ⟨hsz,H0⟩:=Zcm h
 obtain rfl:=Option.some.inj H0
 refine Zbs (N:=8) Tryz.func49 rfl rfl (Qe rfl) rfl rfl (fun a g0 hst hb=>?_)
 refine wp_seq ?_
 refine Zms Za (N:=8) (L:=[(0,(Zy.sl.pd a0))]) (T:=[⟨[],[(2,(Zy.sl.pd []))],[],[],[2]⟩]) (F:=[.o 0]) (by kernel_rfl)
  (Zh3 (OT.plain rfl (Zd rfl rfl (Opd.c (fun g=>Zww g)))) Zng) hst hb (fun a g hst hb=>?_)
 refine Zm ?_
 refine wp_seq ?_
 refine wp_seq ?_
 refine Zms Za (N:=8) (L:=[(0,(Zy.sl.pd a0))]) (T:=[⟨[.o 0],[(3,(Zy.sl.pd a0))],[],[],[3]⟩,⟨[.p 0 0],[(4,Z4m a0)],[],[0],[4]⟩]) (F:=[.o 0,.p 1 0]) (by kernel_rfl)
  (Zh3 (OT.plain rfl (Zq rfl rfl Opd.t0)) (Zh3 (OT.plain rfl (Z51 Tryz.underlying36 rfl rfl Opd.t0)) Zng)) hst hb (fun a g hst hb=>?_)
 refine Zm ?_
 obtain ⟨c,hc,hc'⟩:=hst.at 1 rfl
 refine wp_cond_split hc (fun ht=>?_) (fun hf=>?_)
 ·obtain rfl:=hc' ht
  refine wp_seq ?_
  refine Zms Za (N:=8) (L:=[]) (T:=[⟨[],[(2,(Zy.sl.pd []))],[],[],[2]⟩]) (F:=[.p 0 0]) (by kernel_rfl)
   (Zh3 (OT.plain rfl (Zd rfl rfl (Opd.c (fun g=>Zww g)))) Zng) (hst.pick [] rfl) hb (fun a g hst hb=>?_)
  refine Zm ?_
  refine wp_ret ?_
  refine Zl ?_
  exact Z2 rfl hst hb (Zg (s:=2)) (hst.at 0 rfl)
 ·refine wp_skip ?_
  refine Zm ?_
  refine wp_seq ?_
  have hsz':(([]:(List Zu)).length + a0.length) * 24 ≤ 140737488355328:=by simpa using hsz
  refine Zms Za (N:=8) (L:=[(0,(Zy.sl.pd a0))]) (T:=[⟨[],[(5,(pRow Zy 90 5 []))],[6],[],[5]⟩,⟨[.o 0],[(6,(Zy.sl.pd a0))],[],[],[6]⟩,⟨[.p 0 0,.p 1 0],[(7,(pRow Zy 90 5 ([] ++ a0)))],[6],[0,1],[5,7]⟩,⟨[.p 2 0],[(2,(pRow Zy 90 5 ([] ++ a0)))],[],[0,1,2],[2]⟩]) (F:=[.p 3 0]) (by kernel_rfl)
   (Zh3 (OT.plain rfl (Znp 5 Zvk (xs:=[]) .nil (by decide) rfl rfl)) (Zh3 (OT.plain rfl (Zq rfl rfl Opd.t0)) (Zh3 (OT.plain rfl (Zdi Zvk rfl rfl Opd.t0 (Opd.tl Opd.t0) hsz')) (Zh3 (OT.plain rfl (Zd rfl rfl Opd.t0)) Zng)))) (hst.pick [0] rfl) hb (fun a g hst hb=>?_)
  refine Zm ?_
  refine wp_ret ?_
  exact Z2 rfl hst hb (Zg (s:=2)) (Zjs (hst.at 0 rfl))
theorem Zg6 (a0:Zb) {r:Zb} (h:Zfc a0=some r):FnOk Tryz.prog 26 [(Ze.pd a0)] (Ze.pd r):=by
 have H0:=h
 unfold Zfc at H0
 clear h
 refine Zbs (N:=8) Tryz.func26 rfl rfl (Qe rfl) rfl rfl (fun a g0 hst hb=>?_)
 refine r_a [0,10] (L:=[(0,_)]) hst hb Za
  (a_p (outs:=[(1,(pBox Ze 1 a0))]) (S:=[2]) [5] rfl (Zq5 rfl rfl u_0)<|a_p (outs:=[(2,(pBox Ze 2 (default:Zb)))]) (S:=[3]) [] rfl (Zbl (zs:=[.int .i64 0,.int .i64 0,.int .i64 0,.int .i64 0,.float .f64 0,.int .i64 0,.string ByteArray.empty,.slice none 0 0]) (by kernel_rfl) (fun g=>Zb3 g) rfl rfl)<|a_n) (fun a g hst hb=>?_)
 obtain ⟨r1,h2,H0⟩:=Zc H0
 refine r_a [40,15] (L:=[(1,_),(2,_)]) hst hb Za
  (a_p [5] rfl (Zb5 Zd1 (off:=7) (by kernel_rfl) rfl rfl u_0)<|AP Zfz 0 rfl<|a_p [0] rfl (Zf Z75 (Zkn _ h2) rfl rfl (.cons u_0 .nil))<|a_p [5] rfl (Zb5 Zd1 (off:=7) (by kernel_rfl) rfl rfl u_0)<|a_p [10,0,5] rfl (Z48 Zfz rfl rfl u_2 u_1 u_0)<|a_n) (fun a g hst hb=>?_)
 refine r_a [10] (L:=[(1,_),(2,_)]) hst hb Za
  (AM Zbm 5 rfl<|a_p [0,15] rfl (Z7 Zbm rfl rfl u_1 u_0)<|a_n) (fun a g hst hb=>?_)
 refine wp_ret ?_
 obtain rfl:=Option.some.inj H0
 obtain ⟨u0,hu0,hq0⟩:=Zbn (P:=Tryz.prog) Zbm (hst.at 0 rfl)
 exact Z2 rfl hst hb hu0 hq0
theorem Zu9 (a0:Int) {r:Zby} (h:Zdp a0=some r):FnOk Tryz.prog 55 [(pInt .i64 a0)] (Zck.pd r):=by
 have H0:=h
 unfold Zdp at H0
 clear h
 refine Zbs (N:=24) Tryz.func55 rfl rfl (Qe rfl) rfl rfl (fun a g0 hst hb=>?_)
 refine r_a [5,0] (L:=[(0,_)]) hst hb Za
  (a_p (outs:=[(2,(pBox Zck 2 (default:Zby)))]) (S:=[3]) [] rfl (Zbl (zs:=[.bool false,.bool false,.bool false,.bool false,.bool false]) (by kernel_rfl) (fun g=>Zqk g) rfl rfl)<|a_n) (fun a g hst hb=>?_)
 refine wp_seq ?_
 refine r_a [15,0] (L:=[(0,_),(2,_)]) hst hb Za
  (Am 5 rfl<|a_n) (fun a g hst hb=>?_)
 refine wp_block ?_
 refine r_a [5,15,10] (L:=[(2,_),(3,_)]) hst hb Za
  (a_p [15] rfl (Zbk rfl rfl u_0 c_i)<|Aa 0 rfl<|a_n) (fun a g hst hb=>?_)
 refine wp_cond_split (hst.bool 2 rfl) (fun hc1=>?_) (fun hc1=>?_)
 ·replace H0:=Zo hc1 H0
  refine r_a [10] (L:=[(2,_)]) (hst.pick [0] rfl) hb Za
   (a_p [] rfl (Z2i rfl rfl c_b)<|a_p [0,5] rfl (Z7 Zh5 rfl rfl u_1 u_0)<|a_n) (fun a g hst hb=>?_)
  refine wp_ret ?_
  refine Zw ?_
  refine Zl ?_
  obtain rfl:=Option.some.inj H0
  obtain ⟨u0,hu0,hq0⟩:=Zbn (P:=Tryz.prog) Zh5 (hst.at 0 rfl)
  exact Z2 rfl hst hb hu0 hq0
 ·replace H0:=Zp hc1 H0
  refine wp_seq ?_
  refine r_a [5,15,10] (L:=[(2,_),(3,_)]) (hst.pick [0,1] rfl) hb Za
   (a_p [15] rfl (Zbk rfl rfl u_0 c_i)<|Aa 0 rfl<|a_n) (fun a g hst hb=>?_)
  refine Zbp (fun a w=>∃ (j3:Bool) (g:G),w=g.w ∧ St 24 [(2,(pBox Zck 2 (default:Zby))),(3,(pInt .i64 a0)),(7,(Z5 j3))] a g ∧ Base g0 g ∧ Zi9 a0 j3=some r) ?_ ?_
  ·rintro a w ⟨j3,g,rfl,hst,hb,H0⟩
   unfold Zi9 at H0
   refine Zm ?_
   refine wp_cond_split (hst.bool 2 rfl) (fun hc4=>?_) (fun hc4=>?_)
   ·replace H0:=Zo hc4 H0
    refine r_a [10] (L:=[(2,_)]) (hst.pick [0] rfl) hb Za
     (a_p [] rfl (Z26 rfl rfl c_b)<|a_p [0,5] rfl (Z7 Zh5 rfl rfl u_1 u_0)<|a_n) (fun a g hst hb=>?_)
    refine wp_ret ?_
    refine Zw ?_
    refine Zl ?_
    obtain rfl:=Option.some.inj H0
    obtain ⟨u0,hu0,hq0⟩:=Zbn (P:=Tryz.prog) Zh5 (hst.at 0 rfl)
    exact Z2 rfl hst hb hu0 hq0
   ·replace H0:=Zp hc4 H0
    refine r_a [5,15,10] (L:=[(2,_),(3,_)]) (hst.pick [0,1] rfl) hb Za
     (a_p [15] rfl (Zbk rfl rfl u_0 c_i)<|Aa 0 rfl<|a_n) (fun a g hst hb=>?_)
    refine wp_cond_split (hst.bool 2 rfl) (fun hc5=>?_) (fun hc5=>?_)
    ·replace H0:=Zo hc5 H0
     refine r_a [10] (L:=[(2,_)]) (hst.pick [0] rfl) hb Za
      (a_p [] rfl (Zzo rfl rfl c_b c_b)<|a_p [0,5] rfl (Z7 Zh5 rfl rfl u_1 u_0)<|a_n) (fun a g hst hb=>?_)
     refine wp_ret ?_
     refine Zw ?_
     refine Zl ?_
     obtain rfl:=Option.some.inj H0
     obtain ⟨u0,hu0,hq0⟩:=Zbn (P:=Tryz.prog) Zh5 (hst.at 0 rfl)
     exact Z2 rfl hst hb hu0 hq0
    ·replace H0:=Zp hc5 H0
     refine wp_seq ?_
     refine r_a [5,15,10] (L:=[(2,_),(3,_)]) (hst.pick [0,1] rfl) hb Za
      (a_p [15] rfl (Zbk rfl rfl u_0 c_i)<|Aa 0 rfl<|a_n) (fun a g hst hb=>?_)
     refine Zbp (fun a w=>∃ (j8:Bool) (g:G),w=g.w ∧ St 24 [(2,(pBox Zck 2 (default:Zby))),(3,(pInt .i64 a0)),(14,(Z5 j8))] a g ∧ Base g0 g ∧ Zhj a0 j8=some r) ?_ ?_
     ·rintro a w ⟨j8,g,rfl,hst,hb,H0⟩
      unfold Zhj at H0
      refine Zm ?_
      refine wp_cond_split (hst.bool 2 rfl) (fun hc9=>?_) (fun hc9=>?_)
      ·replace H0:=Zo hc9 H0
       refine r_a [10] (L:=[(2,_)]) (hst.pick [0] rfl) hb Za
        (a_p [] rfl (Z25 rfl rfl c_b)<|a_p [0,5] rfl (Z7 Zh5 rfl rfl u_1 u_0)<|a_n) (fun a g hst hb=>?_)
       refine wp_ret ?_
       refine Zw ?_
       refine Zl ?_
       obtain rfl:=Option.some.inj H0
       obtain ⟨u0,hu0,hq0⟩:=Zbn (P:=Tryz.prog) Zh5 (hst.at 0 rfl)
       exact Z2 rfl hst hb hu0 hq0
      ·replace H0:=Zp hc9 H0
       refine wp_seq ?_
       refine r_a [5,15,10] (L:=[(2,_),(3,_)]) (hst.pick [0,1] rfl) hb Za
        (a_p [15] rfl (Zbk rfl rfl u_0 c_i)<|Aa 0 rfl<|a_n) (fun a g hst hb=>?_)
       refine Zbp (fun a w=>∃ (j11:Bool) (g:G),w=g.w ∧ St 24 [(2,(pBox Zck 2 (default:Zby))),(19,(Z5 j11))] a g ∧ Base g0 g ∧ Zi8 j11=some r) ?_ ?_
       ·rintro a w ⟨j11,g,rfl,hst,hb,H0⟩
        unfold Zi8 at H0
        refine Zm ?_
        refine wp_cond_split (hst.bool 1 rfl) (fun hc12=>?_) (fun hc12=>?_)
        ·replace H0:=Zo hc12 H0
         refine r_a [10] (L:=[(2,_)]) (hst.pick [0] rfl) hb Za
          (a_p [] rfl (Z2q rfl rfl c_b)<|a_p [0,5] rfl (Z7 Zh5 rfl rfl u_1 u_0)<|a_n) (fun a g hst hb=>?_)
         refine wp_ret ?_
         refine Zw ?_
         refine Zl ?_
         obtain rfl:=Option.some.inj H0
         obtain ⟨u0,hu0,hq0⟩:=Zbn (P:=Tryz.prog) Zh5 (hst.at 0 rfl)
         exact Z2 rfl hst hb hu0 hq0
        ·replace H0:=Zp hc12 H0
         refine wp_skip ?_
         refine Zba ?_
         refine Zm ?_
         refine r_a [10] (L:=[(2,_)]) (hst.pick [0] rfl) hb Za
          (a_p [] rfl (Z5p rfl rfl )<|a_p [0,5] rfl (Z7 Zh5 rfl rfl u_1 u_0)<|a_n) (fun a g hst hb=>?_)
         refine wp_ret ?_
         obtain rfl:=Option.some.inj H0
         obtain ⟨u0,hu0,hq0⟩:=Zbn (P:=Tryz.prog) Zh5 (hst.at 0 rfl)
         exact Z2 rfl hst hb hu0 hq0
       ·refine wp_cond_split (hst.bool 2 rfl) (fun hc10=>?_) (fun hc10=>?_)
        ·replace H0:=Zo hc10 H0
         refine wp_skip ?_
         exact ⟨(a0 == (8:Int)),g,rfl,(hst.pick [0,2] rfl),hb,H0⟩
        ·replace H0:=Zp hc10 H0
         refine r_b [5,10] (L:=[(2,_),(3,_)]) (hst.pick [0,1] rfl) hb Za
          (a_p [15] rfl (Zbk rfl rfl u_0 c_i)<|Aa 0 rfl<|a_n) (fun a g hst hb=>?_)
         exact ⟨(a0 == (9:Int)),g,rfl,(hst.pick [0,1] rfl),hb,H0⟩
     ·refine wp_cond_split (hst.bool 2 rfl) (fun hc6=>?_) (fun hc6=>?_)
      ·replace H0:=Zo hc6 H0
       refine wp_skip ?_
       exact ⟨(a0 == (5:Int)),g,rfl,(hst.pick [0,1,2] rfl),hb,H0⟩
      ·replace H0:=Zp hc6 H0
       refine r_a [5,15,10] (L:=[(2,_),(3,_)]) (hst.pick [0,1] rfl) hb Za
        (a_p [15] rfl (Zbk rfl rfl u_0 c_i)<|Aa 0 rfl<|a_n) (fun a g hst hb=>?_)
       refine wp_cond_split (hst.bool 2 rfl) (fun hc7=>?_) (fun hc7=>?_)
       ·replace H0:=Zo hc7 H0
        refine wp_skip ?_
        exact ⟨(a0 == (6:Int)),g,rfl,(hst.pick [0,1,2] rfl),hb,H0⟩
       ·replace H0:=Zp hc7 H0
        refine r_b [5,15,10] (L:=[(2,_),(3,_)]) (hst.pick [0,1] rfl) hb Za
         (a_p [15] rfl (Zbk rfl rfl u_0 c_i)<|Aa 0 rfl<|a_n) (fun a g hst hb=>?_)
        exact ⟨(a0 == (7:Int)),g,rfl,(hst.pick [0,1,2] rfl),hb,H0⟩
  ·refine wp_cond_split (hst.bool 2 rfl) (fun hc2=>?_) (fun hc2=>?_)
   ·replace H0:=Zo hc2 H0
    refine wp_skip ?_
    exact ⟨(a0 == (2:Int)),g,rfl,(hst.pick [0,1,2] rfl),hb,H0⟩
   ·replace H0:=Zp hc2 H0
    refine r_b [5,15,10] (L:=[(2,_),(3,_)]) (hst.pick [0,1] rfl) hb Za
     (a_p [15] rfl (Zbk rfl rfl u_0 c_i)<|Aa 0 rfl<|a_n) (fun a g hst hb=>?_)
    exact ⟨(a0 == (3:Int)),g,rfl,(hst.pick [0,1,2] rfl),hb,H0⟩
theorem Zx9 {r:Nat} (h:Zo7=some r):FnOk Tryz.prog 124 [] (pFlt r):=by
 have H0:=h
 unfold Zo7 at H0
 clear h
 refine Zbs (N:=2) Tryz.func124 rfl rfl (Qe rfl) rfl rfl (fun a g0 hst hb=>?_)
 refine r_a [] (L:=[]) hst hb Za
  (a_p [] rfl (Zd rfl rfl c_f)<|a_n) (fun a g hst hb=>?_)
 refine r_a [10] (L:=[]) hst hb Za
  (a_p [] rfl (Zrk Z1l rfl rfl c_i)<|Aa 0 rfl<|a_n) (fun a g hst hb=>?_)
 refine wp_ret ?_
 obtain rfl:=Option.some.inj H0
 exact Z2 rfl hst hb (Zg (s:=0)) (hst.at 0 rfl)
theorem Zp5 (a0:Nat) {r:Nat} (h:Zkw a0=some r):FnOk Tryz.prog 95 [(pFlt a0)] (pFlt r):=by
 have H0:=h
 unfold Zkw at H0
 clear h
 refine Zbs (N:=8) Tryz.func95 rfl rfl (Qe rfl) rfl rfl (fun a g0 hst hb=>?_)
 refine r_a [5] (L:=[(0,_)]) hst hb Za
  (a_p [] rfl (Zd rfl rfl c_f)<|a_n) (fun a g hst hb=>?_)
 refine wp_seq ?_
 refine r_a [5,20] (L:=[(0,_)]) hst hb Za
  (Am 5 rfl<|Am 5 rfl<|a_p [10,0] rfl (Zyn rfl rfl u_0 u_1)<|a_n) (fun a g hst hb=>?_)
 refine wp_cond_split (hst.bool 1 rfl) (fun hc1=>?_) (fun hc1=>?_)
 ·replace H0:=Zo hc1 H0
  obtain ⟨r2,h3,H0⟩:=Zc H0
  refine r_a [10] (L:=[]) (hst.pick [] rfl) hb Za
   (a_p [] rfl (Zf Z6f (Zx9 h3) rfl rfl .nil)<|Aa 0 rfl<|a_n) (fun a g hst hb=>?_)
  refine wp_ret ?_
  refine Zl ?_
  obtain rfl:=Option.some.inj H0
  exact Z2 rfl hst hb (Zg (s:=2)) (hst.at 0 rfl)
 ·replace H0:=Zp hc1 H0
  refine wp_skip ?_
  refine Zm ?_
  refine r_a [10] (L:=[(0,_)]) (hst.pick [0] rfl) hb Za
   (Am 5 rfl<|Aa 0 rfl<|a_n) (fun a g hst hb=>?_)
  refine wp_ret ?_
  obtain rfl:=Option.some.inj H0
  exact Z2 rfl hst hb (Zg (s:=2)) (hst.at 0 rfl)
theorem Zka (a0:Nat) {r:Int} (h:Zjf a0=some r):FnOk Tryz.prog 60 [(pFlt a0)] (pInt .u64 r):=by
 have H0:=h
 unfold Zjf at H0
 clear h
 refine Zbs (N:=14) Tryz.func60 rfl rfl (Qe rfl) rfl rfl (fun a g0 hst hb=>?_)
 refine r_a [5] (L:=[(0,_)]) hst hb Za
  (a_p [] rfl (Zd rfl rfl c_i)<|a_n) (fun a g hst hb=>?_)
 obtain ⟨r1,h2,H0⟩:=Zc H0
 refine r_a [30] (L:=[(0,_)]) hst hb Za
  (Am 5 rfl<|a_p [0] rfl (Zf Z39 (Zp5 _ h2) rfl rfl (.cons u_0 .nil))<|a_p [0] rfl (Zq4 Zvn rfl rfl u_0)<|Aa 0 rfl<|a_n) (fun a g hst hb=>?_)
 refine wp_seq ?_
 refine r_a [5,20] (L:=[(3,_)]) hst hb Za
  (Am 5 rfl<|a_p [0] rfl (Z0i rfl rfl u_0 c_i)<|a_p [0] rfl (Zcw rfl rfl u_0 c_i)<|a_n) (fun a g hst hb=>?_)
 refine wp_cond_split (hst.bool 1 rfl) (fun hc3=>?_) (fun hc3=>?_)
 ·replace H0:=Zo hc3 H0
  refine r_a [20] (L:=[(3,_)]) (hst.pick [0] rfl) hb Za
   (Am 5 rfl<|a_p [0] rfl (Zy4 rfl rfl rfl u_0)<|Aa 0 rfl<|a_n) (fun a g hst hb=>?_)
  refine wp_ret ?_
  refine Zl ?_
  obtain rfl:=Option.some.inj H0
  exact Z2 rfl hst hb (Zg (s:=2)) (hst.at 0 rfl)
 ·replace H0:=Zp hc3 H0
  refine wp_skip ?_
  refine Zm ?_
  refine r_a [20] (L:=[(3,_)]) (hst.pick [0] rfl) hb Za
   (Am 5 rfl<|a_p [0] rfl (Zvt rfl rfl u_0 c_i)<|Aa 0 rfl<|a_n) (fun a g hst hb=>?_)
  refine wp_ret ?_
  obtain rfl:=Option.some.inj H0
  exact Z2 rfl hst hb (Zg (s:=2)) (hst.at 0 rfl)
theorem Zjc (a0:Nat) (a1:Nat) {r:Bool} (h:Zia a0 a1=some r):FnOk Tryz.prog 74 [(pFlt a0),(pFlt a1)] (Z5 r):=by
 have H0:=h
 unfold Zia at H0
 clear h
 refine Zbs (N:=10) Tryz.func74 rfl rfl (Qe rfl) rfl rfl (fun a g0 hst hb=>?_)
 refine r_a [5,15] (L:=[(0,_),(1,_)]) hst hb Za
  (a_p [] rfl (Zd rfl rfl c_b)<|a_n) (fun a g hst hb=>?_)
 obtain ⟨r1,h2,H0⟩:=Zc H0;obtain ⟨r3,h4,H0⟩:=Zc H0
 refine r_a [50] (L:=[(0,_),(1,_)]) hst hb Za
  (Am 5 rfl<|a_p [0] rfl (Zf Zqy (Zka _ h2) rfl rfl (.cons u_0 .nil))<|Am 15 rfl<|a_p [0] rfl (Zf Zqy (Zka _ h4) rfl rfl (.cons u_0 .nil))<|a_p [20,0] rfl (Zbk rfl rfl u_0 u_1)<|Aa 0 rfl<|a_n) (fun a g hst hb=>?_)
 refine wp_ret ?_
 obtain rfl:=Option.some.inj H0
 exact Z2 rfl hst hb (Zg (s:=4)) (hst.at 0 rfl)
theorem Zx0 (a0:Zb) (a1:Zby) {r:Bool} (h:Zna a0 a1=some r):FnOk Tryz.prog 56 [(Ze.pd a0),(Zck.pd a1)] (Z5 r):=by
 have H0:=h
 unfold Zna at H0
 clear h
 refine Zbs (N:=59) Tryz.func56 rfl rfl (Qe rfl) rfl rfl (fun a g0 hst hb=>?_)
 refine r_a [0,10] (L:=[(0,_),(1,_)]) hst hb Za
  (a_p [5] rfl (Zbt rfl rfl u_0)<|a_p [15] rfl (Zbt rfl rfl u_0)<|a_p [] rfl (Zd rfl rfl c_b)<|a_n) (fun a g hst hb=>?_)
 obtain ⟨r1,h2,H0⟩:=Zc H0
 refine r_a [540] (L:=[(2,_),(3,_)]) hst hb Za
  (Af Z3b 15 rfl<|Al ty_4 0 rfl<|Am 0 rfl<|a_g [0,5] (Qg_f rfl (fun hG=>Zi Zje rfl rfl u_0))<|a_g [10,0] (Qg_f rfl (fun hG=>Zs ty_9 rfl rfl (Opd.gd hG u_0)))<|a_g [20,0] (Qg_f rfl (fun hG=>Zir rfl rfl (Opd.gd hG u_0) c_s))<|a_p [30,0] rfl (Zbh rfl rfl u_0 (fun hz=>(Opd.gd (bNF hz) u_1)))<|Am 0 rfl<|a_g [0,15] (Qg_t rfl (fun hG=>Zi Z2z rfl rfl u_0))<|a_g [10,0] (Qg_t rfl (fun hG=>Zs ty_4 rfl rfl (Opd.gd hG u_0)))<|a_g [20,0] (Qg_t rfl (fun hG=>Zq rfl rfl (Opd.gd hG u_0)))<|a_g [0,5] (Qg_fi rfl (fun hG=>Zi Zhi rfl rfl u_0))<|a_g [10,0] (Qg_fi rfl (fun hG=>Zs ty_2 rfl rfl (Opd.gd hG u_0)))<|a_g [20,0] (Qg_fi rfl (fun hG=>Zbk rfl rfl (Opd.gd hG u_0) c_i))<|a_g [60,30,0] (Qg_t rfl (fun hG=>Zbh rfl rfl (Opd.gd hG u_0) (fun hz=>(Opd.gd (bA hG (bNF hz)) u_1))))<|a_p [70,0] rfl (Zbg rfl rfl u_0 (fun hz=>(Opd.gd hz u_1)))<|Am 0 rfl<|a_g [0,15] (Qg_t rfl (fun hG=>Zi Zwg rfl rfl u_0))<|a_g [10,0] (Qg_t rfl (fun hG=>Zs ty_4 rfl rfl (Opd.gd hG u_0)))<|a_g [20,0] (Qg_t rfl (fun hG=>Zq rfl rfl (Opd.gd hG u_0)))<|a_g [0,5] (Qg_fi rfl (fun hG=>Zi Ziq rfl rfl u_0))<|a_g [10,0] (Qg_fi rfl (fun hG=>Zs ty_2 rfl rfl (Opd.gd hG u_0)))<|a_g [20,0] (Qg_fi rfl (fun hG=>Zbk rfl rfl (Opd.gd hG u_0) c_i))<|a_g [30,0] (Qg_fi rfl (fun hG=>Zq rfl rfl (Opd.gd hG u_0)))<|a_g [0,5] (Qg_ti rfl (fun hG=>Zi Ziv rfl rfl u_0))<|a_g [10,0] (Qg_ti rfl (fun hG=>Zs ty_2 rfl rfl (Opd.gd hG u_0)))<|a_g [20,0] (Qg_ti rfl (fun hG=>Zbk rfl rfl (Opd.gd hG u_0) c_i))<|a_g [70,30,0] (Qg_fi rfl (fun hG=>Zbg rfl rfl (Opd.gd hG u_0) (fun hz=>(Opd.gd (bA hG hz) u_1))))<|a_g [110,80,0] (Qg_t rfl (fun hG=>Zbh rfl rfl (Opd.gd hG u_0) (fun hz=>(Opd.gd (bA hG (bNF hz)) u_1))))<|a_p [120,0] rfl (Zbg rfl rfl u_0 (fun hz=>(Opd.gd hz u_1)))<|Am 0 rfl<|a_g [0,15] (Qg_t rfl (fun hG=>Zi Z2n rfl rfl u_0))<|a_g [10,0] (Qg_t rfl (fun hG=>Zs ty_4 rfl rfl (Opd.gd hG u_0)))<|a_g [20,0] (Qg_t rfl (fun hG=>Zq rfl rfl (Opd.gd hG u_0)))<|a_g [0,5] (Qg_fi rfl (fun hG=>Zi Zj4 rfl rfl u_0))<|a_g [10,0] (Qg_fi rfl (fun hG=>Zs Zdt rfl rfl (Opd.gd hG u_0)))<|a_g [20,0] (Qg_fi rfl (fun hG=>Zf Zqs (Zjc _ _ (Zbe h2 hG)) rfl rfl (.cons (Opd.gd hG u_0) (.cons c_f .nil))))<|a_g [60,30,0] (Qg_t rfl (fun hG=>Zbh rfl rfl (Opd.gd hG u_0) (fun hz=>(Opd.gd (bA hG (bNF hz)) u_1))))<|a_p [70,0] rfl (Zbg rfl rfl u_0 (fun hz=>(Opd.gd hz u_1)))<|Am 0 rfl<|a_g [0,15] (Qg_t rfl (fun hG=>Zi Zwr rfl rfl u_0))<|a_g [10,0] (Qg_t rfl (fun hG=>Zs ty_4 rfl rfl (Opd.gd hG u_0)))<|a_g [20,0] (Qg_t rfl (fun hG=>Zq rfl rfl (Opd.gd hG u_0)))<|a_g [0,5] (Qg_fi rfl (fun hG=>Zi Zgw rfl rfl u_0))<|a_g [10,0] (Qg_fi rfl (fun hG=>Zs ty_3 rfl rfl (Opd.gd hG u_0)))<|a_g [20,0] (Qg_fi rfl (fun hG=>Zbk rfl rfl (Opd.gd hG u_0) c_i))<|a_g [30,0] (Qg_fi rfl (fun hG=>Zq rfl rfl (Opd.gd hG u_0)))<|a_g [0,5] (Qg_ti rfl (fun hG=>Zi Zd1 rfl rfl u_0))<|a_g [10,0] (Qg_ti rfl (fun hG=>Zs Zfz rfl rfl (Opd.gd hG u_0)))<|a_g [20,0] (Qg_ti rfl (fun hG=>Zcc Tryz.underlying36 rfl rfl (Opd.gd hG u_0)))<|a_g [30,0] (Qg_ti rfl (fun hG=>Zbk rfl rfl (Opd.gd hG u_0) c_i))<|a_g [80,40,0] (Qg_fi rfl (fun hG=>Zbg rfl rfl (Opd.gd hG u_0) (fun hz=>(Opd.gd (bA hG hz) u_1))))<|a_g [120,90,0] (Qg_t rfl (fun hG=>Zbh rfl rfl (Opd.gd hG u_0) (fun hz=>(Opd.gd (bA hG (bNF hz)) u_1))))<|a_p [130,0] rfl (Zbg rfl rfl u_0 (fun hz=>(Opd.gd hz u_1)))<|Aa 0 rfl<|a_n) (fun a g hst hb=>?_)
 refine wp_ret ?_
 obtain rfl:=Option.some.inj H0
 exact Z2 rfl hst hb (Zg (s:=4)) (hst.at 0 rfl)
theorem Zmc (a0:Nat) {r:Bool} (h:Zhl a0=some r):FnOk Tryz.prog 57 [(pFlt a0)] (Z5 r):=by
 have H0:=h
 unfold Zhl at H0
 clear h
 refine Zbs (N:=9) Tryz.func57 rfl rfl (Qe rfl) rfl rfl (fun a g0 hst hb=>?_)
 refine r_a [5] (L:=[(0,_)]) hst hb Za
  (a_p [] rfl (Zd rfl rfl c_b)<|a_n) (fun a g hst hb=>?_)
 obtain ⟨r1,h2,H0⟩:=Zc H0
 refine r_a [60] (L:=[(0,_)]) hst hb Za
  (Am 5 rfl<|a_p [0] rfl (Zq4 Zvn rfl rfl u_0)<|Am 5 rfl<|a_p [0] rfl (Zf Z39 (Zp5 _ h2) rfl rfl (.cons u_0 .nil))<|a_p [0] rfl (Zq4 Zvn rfl rfl u_0)<|a_p [30,0] rfl (Zbk rfl rfl u_0 u_1)<|Aa 0 rfl<|a_n) (fun a g hst hb=>?_)
 refine wp_ret ?_
 obtain rfl:=Option.some.inj H0
 exact Z2 rfl hst hb (Zg (s:=2)) (hst.at 0 rfl)
theorem Zx6 (a0:Nat) (a1:Nat) {r:Bool} (h:Zmr a0 a1=some r):FnOk Tryz.prog 125 [(pFlt a0),(pFlt a1)] (Z5 r):=by
 have H0:=h
 unfold Zmr at H0
 clear h
 refine Zbs (N:=10) Tryz.func125 rfl rfl (Qe rfl) rfl rfl (fun a g0 hst hb=>?_)
 refine r_a [5,15] (L:=[(0,_),(1,_)]) hst hb Za
  (a_p [] rfl (Zd rfl rfl c_b)<|a_n) (fun a g hst hb=>?_)
 obtain ⟨r1,h2,H0⟩:=Zc H0;obtain ⟨r3,h4,H0⟩:=Zc H0
 refine r_a [50] (L:=[(0,_),(1,_)]) hst hb Za
  (Am 5 rfl<|a_p [0] rfl (Zf Zqy (Zka _ h2) rfl rfl (.cons u_0 .nil))<|Am 15 rfl<|a_p [0] rfl (Zf Zqy (Zka _ h4) rfl rfl (.cons u_0 .nil))<|a_p [20,0] rfl (Zco rfl rfl u_0 u_1)<|Aa 0 rfl<|a_n) (fun a g hst hb=>?_)
 refine wp_ret ?_
 obtain rfl:=Option.some.inj H0
 exact Z2 rfl hst hb (Zg (s:=4)) (hst.at 0 rfl)
theorem Zu6 (a0:Zu) (a1:Zu) {r:Bool} (h:Zk4 a0 a1=some r):FnOk Tryz.prog 96 [(Zy.pd a0),(Zy.pd a1)] (Z5 r):=by
 have H0:=h
 unfold Zk4 at H0
 clear h
 refine Zbs (N:=21) Tryz.func96 rfl rfl (Qe rfl) rfl rfl (fun a g0 hst hb=>?_)
 refine r_a [0,10] (L:=[(0,_),(1,_)]) hst hb Za
  (a_p [5] rfl (Zbt rfl rfl u_0)<|a_p [15] rfl (Zbt rfl rfl u_0)<|a_p [] rfl (Zd rfl rfl c_b)<|a_n) (fun a g hst hb=>?_)
 refine wp_seq ?_
 obtain ⟨r1,h2,H0⟩:=Zc H0
 refine r_a [5,15,50] (L:=[(2,_),(3,_)]) hst hb Za
  (Af Zev 5 rfl<|Al Zdt 0 rfl<|Af Zev 15 rfl<|Al Zdt 0 rfl<|a_p [20,0] rfl (Zf Zqs (Zjc _ _ h2) rfl rfl (.cons u_0 (.cons u_1 .nil)))<|a_p [0] rfl (Zcg rfl rfl u_0)<|a_n) (fun a g hst hb=>?_)
 refine wp_cond_split (hst.bool 2 rfl) (fun hc3=>?_) (fun hc3=>?_)
 ·replace H0:=Zo hc3 H0
  obtain ⟨r4,h5,H0⟩:=Zc H0
  refine r_a [50] (L:=[(2,_),(3,_)]) (hst.pick [0,1] rfl) hb Za
   (Af Zev 15 rfl<|Al Zdt 0 rfl<|Af Zev 5 rfl<|Al Zdt 0 rfl<|a_p [20,0] rfl (Zf Z6v (Zx6 _ _ h5) rfl rfl (.cons u_0 (.cons u_1 .nil)))<|Aa 0 rfl<|a_n) (fun a g hst hb=>?_)
  refine wp_ret ?_
  refine Zl ?_
  obtain rfl:=Option.some.inj H0
  exact Z2 rfl hst hb (Zg (s:=4)) (hst.at 0 rfl)
 ·replace H0:=Zp hc3 H0
  refine wp_skip ?_
  refine Zm ?_
  refine r_a [50] (L:=[(2,_),(3,_)]) (hst.pick [0,1] rfl) hb Za
   (Af Ze7 5 rfl<|Al ty_9 0 rfl<|Af Ze7 15 rfl<|Al ty_9 0 rfl<|a_p [20,0] rfl (Zos rfl rfl u_0 u_1)<|Aa 0 rfl<|a_n) (fun a g hst hb=>?_)
  refine wp_ret ?_
  obtain rfl:=Option.some.inj H0
  exact Z2 rfl hst hb (Zg (s:=4)) (hst.at 0 rfl)
theorem Zwv (a0:Int) (a1:List Zu) {r:Int} (h:Zl9 a0 a1=some r):FnOk Tryz.prog 58 [(pInt .i64 a0),(Zy.sl.pd a1)] (pInt .i64 r):=by
 have H0:=h
 unfold Zl9 at H0
 clear h
 refine Zbs (N:=70) Tryz.func58 rfl rfl (Qe rfl) rfl rfl (fun a g0 hst hb=>?_)
 refine r_a [5,15] (L:=[(0,_),(1,_)]) hst hb Za
  (a_p [] rfl (Zd rfl rfl c_i)<|a_n) (fun a g hst hb=>?_)
 refine wp_seq ?_
 refine r_a [5,15,0,10,20] (L:=[(0,_),(1,_)]) hst hb Za
  (Am 15 rfl<|a_p [0] rfl (Zcc Tryz.underlying36 rfl rfl u_0)<|a_p [] rfl (Zq rfl rfl c_i)<|a_n) (fun a g hst hb=>?_)
 obtain ⟨z19,hz1,H0⟩:=Zc H0
 refine Zbp (fun a w=>∃ (g:G),w=g.w ∧ St 70 [] a g ∧ Base g0 g ∧ (.inr ())=z19) ?_ ?_
 ·rintro a w ⟨g,rfl,hst,hb,rfl⟩
  refine Zm ?_
  refine r_a [0] (L:=[]) hst hb Za
   (a_p [] rfl (Zd rfl rfl c_i)<|a_n) (fun a g hst hb=>?_)
  refine wp_ret ?_
  obtain rfl:=Option.some.inj H0
  exact Z2 rfl hst hb (Zg (s:=4)) (hst.at 0 rfl)
 ·refine wp_block ?_
  refine wp_loop_ghost (fun n a w=>∃ (x1:Int) (g:G),w=g.w ∧ St 70 [(0,(pInt .i64 a0)),(1,(Zy.sl.pd a1)),(7,(Zy.sl.pd a1)),(8,(pInt .i64 (a1.length:Int))),(9,(pInt .i64 x1))] a g ∧ Base g0 g ∧ Zez a0 a1 n x1=some z19) (Int.toNat ((a1.length:Int) - (0:Int)) + 1) ⟨(0:Int),g,rfl,(hst.pick [0,1,2,3,4] rfl),hb,hz1⟩ (fun n a w hI=>?_)
  obtain ⟨x1,g,rfl,hst,hb,H1⟩:=hI
  cases n with
  | zero=>exact absurd H1 (by simp [Zez])
  | succ n =>
   rw [Zez] at H1
   refine r_a [5,15,25,35,45,0] (L:=[(0,_),(1,_),(7,_),(8,_),(9,_)]) hst hb Za
    (a_p [45,35] rfl (Zco rfl rfl u_0 u_1)<|a_n) (fun a g hst hb=>?_)
   refine wp_seq ?_
   refine wp_cond_split (hst.bool 5 rfl) (fun hc2=>?_) (fun hc2=>?_)
   ·replace H1:=Zo hc2 H1
    refine wp_skip ?_
    refine Zm ?_
    refine wp_seq ?_
    refine wp_block ?_
    obtain ⟨e3,h4,H1⟩:=Zc H1
    refine r_a [5,15,40,50,25,35,45] (L:=[(0,_),(1,_),(7,_),(8,_),(9,_)]) (hst.pick [0,1,2,3,4] rfl) hb Za
     (Am 45 rfl<|a_p [25,45] rfl (Zbz Tryz.underlying36 Zji rfl rfl u_0 u_1 h4)<|Al Zgr 0 rfl<|a_p (outs:=[(6,(pBox Zy 6 (default:Zu)))]) (S:=[7]) [] rfl (Zbl (zs:=[.float .f64 0,.string ByteArray.empty]) (by kernel_rfl) (fun g=>Zic g) rfl rfl)<|Aa 30 rfl<|a_p [20,10] rfl (Zb9 Zgr rfl rfl u_1 u_0)<|a_n) (fun a g hst hb=>?_)
    refine wp_block ?_
    refine r_a [5,15,25,35,45,55,65,40] (L:=[(0,_),(1,_),(5,_),(6,_),(7,_),(8,_),(9,_)]) hst hb Za
     (Af Ze7 35 rfl<|Al ty_9 0 rfl<|a_p [0] rfl (Zdc Tryz.underlying9 rfl rfl u_0)<|a_p [0] rfl (Zcl rfl rfl u_0 c_i)<|Aa 0 rfl<|a_n) (fun a g hst hb=>?_)
    refine wp_cond_split (hst.bool 7 rfl) (fun hc5=>?_) (fun hc5=>?_)
    ·replace H1:=Zo hc5 H1
     refine r_a [0] (L:=[]) (hst.pick [] rfl) hb Za
      (a_p [] rfl (Zd rfl rfl c_i)<|a_n) (fun a g hst hb=>?_)
     refine wp_ret ?_
     refine Zw ?_
     refine Zw ?_
     refine Zl ?_
     refine Zl ?_
     refine Zw ?_
     refine Zl ?_
     refine Zl ?_
     obtain rfl:=Option.some.inj H1
     obtain rfl:=Option.some.inj H0
     exact Z2 rfl hst hb (Zg (s:=4)) (hst.at 0 rfl)
    ·replace H1:=Zp hc5 H1
     obtain ⟨r6,h7,H1⟩:=Zc H1;obtain ⟨r8,h9,H1⟩:=Zc H1
     refine r_a [5,15,25,35,45,55,65,140] (L:=[(0,_),(1,_),(5,_),(6,_),(7,_),(8,_),(9,_)]) (hst.pick [0,1,2,3,4,5,6] rfl) hb Za
      (Am 5 rfl<|a_p [0] rfl (Zbk rfl rfl u_0 c_i)<|Am 0 rfl<|a_g [0,35] (Qg_t rfl (fun hG=>Zi Zev rfl rfl u_0))<|a_g [10,0] (Qg_t rfl (fun hG=>Zs Zdt rfl rfl (Opd.gd hG u_0)))<|a_g [20,0] (Qg_t rfl (fun hG=>Zf Zqs (Zjc _ _ (Zbe h7 hG)) rfl rfl (.cons (Opd.gd hG u_0) (.cons c_f .nil))))<|a_g [30,0] (Qg_t rfl (fun hG=>Zcg rfl rfl (Opd.gd hG u_0)))<|a_p [40,0] rfl (Zbg rfl rfl u_0 (fun hz=>(Opd.gd hz u_1)))<|Am 0 rfl<|a_g [0,35] (Qg_f rfl (fun hG=>Zi Zev rfl rfl u_0))<|a_g [10,0] (Qg_f rfl (fun hG=>Zs Zdt rfl rfl (Opd.gd hG u_0)))<|a_g [20,0] (Qg_f rfl (fun hG=>Zf Zzr (Zmc _ (Zbe h9 hG)) rfl rfl (.cons (Opd.gd hG u_0) .nil)))<|a_g [30,0] (Qg_f rfl (fun hG=>Zcg rfl rfl (Opd.gd hG u_0)))<|a_p [40,0] rfl (Zbh rfl rfl u_0 (fun hz=>(Opd.gd (bNF hz) u_1)))<|Aa 0 rfl<|a_n) (fun a g hst hb=>?_)
     refine wp_cond_split (hst.bool 7 rfl) (fun hc10=>?_) (fun hc10=>?_)
     ·replace H1:=Zo hc10 H1
      refine r_a [0] (L:=[]) (hst.pick [] rfl) hb Za
       (a_p [] rfl (Zd rfl rfl c_i)<|a_n) (fun a g hst hb=>?_)
      refine wp_ret ?_
      refine Zw ?_
      refine Zw ?_
      refine Zl ?_
      refine Zl ?_
      refine Zw ?_
      refine Zl ?_
      refine Zl ?_
      obtain rfl:=Option.some.inj H1
      obtain rfl:=Option.some.inj H0
      exact Z2 rfl hst hb (Zg (s:=4)) (hst.at 0 rfl)
     ·replace H1:=Zp hc10 H1
      obtain ⟨e11,h12,H1⟩:=Zc H1
      refine r_a [5,15,25,35,45,55,65,170] (L:=[(0,_),(1,_),(5,_),(6,_),(7,_),(8,_),(9,_)]) (hst.pick [0,1,2,3,4,5,6] rfl) hb Za
       (Am 25 rfl<|a_p [0] rfl (Zcl rfl rfl u_0 c_i)<|Am 0 rfl<|a_g [0,5] (Qg_t rfl (fun hG=>Zq rfl rfl u_0))<|a_g [10,0] (Qg_t rfl (fun hG=>Zbk rfl rfl (Opd.gd hG u_0) c_i))<|a_p [20,0] rfl (Zbg rfl rfl u_0 (fun hz=>(Opd.gd hz u_1)))<|Am 0 rfl<|a_g [0,15] (Qg_t rfl (fun hG=>Zq rfl rfl u_0))<|a_g [10,25] (Qg_t rfl (fun hG=>Zq rfl rfl u_0))<|a_g [20,0] (Qg_t rfl (fun hG=>Zjw rfl rfl (Opd.gd hG u_0) c_i rfl))<|a_g [30,20,0] (Qg_t rfl (fun hG=>Zbz Tryz.underlying36 Zji rfl rfl (Opd.gd hG u_0) (Opd.gd hG u_1) (Zbe h12 hG)))<|a_g [40,0] (Qg_t rfl (fun hG=>Zi Ze7 rfl rfl (Opd.gd hG u_0)))<|a_g [50,0] (Qg_t rfl (fun hG=>Zs ty_9 rfl rfl (Opd.gd hG u_0)))<|a_g [60,35] (Qg_t rfl (fun hG=>Zi Ze7 rfl rfl u_0))<|a_g [70,0] (Qg_t rfl (fun hG=>Zs ty_9 rfl rfl (Opd.gd hG u_0)))<|a_g [80,20,0] (Qg_t rfl (fun hG=>Z62 rfl rfl (Opd.gd hG u_0) (Opd.gd hG u_1)))<|a_p [90,0] rfl (Zbg rfl rfl u_0 (fun hz=>(Opd.gd hz u_1)))<|Aa 0 rfl<|a_n) (fun a g hst hb=>?_)
      refine wp_cond_split (hst.bool 7 rfl) (fun hc13=>?_) (fun hc13=>?_)
      ·replace H1:=Zo hc13 H1
       refine r_a [0] (L:=[]) (hst.pick [] rfl) hb Za
        (a_p [] rfl (Zd rfl rfl c_i)<|a_n) (fun a g hst hb=>?_)
       refine wp_ret ?_
       refine Zw ?_
       refine Zw ?_
       refine Zl ?_
       refine Zl ?_
       refine Zw ?_
       refine Zl ?_
       refine Zl ?_
       obtain rfl:=Option.some.inj H1
       obtain rfl:=Option.some.inj H0
       exact Z2 rfl hst hb (Zg (s:=4)) (hst.at 0 rfl)
      ·replace H1:=Zp hc13 H1
       obtain ⟨e14,h15,H1⟩:=Zc H1;obtain ⟨r16,h17,H1⟩:=Zc H1
       refine r_a [5,15,45,55,65,160] (L:=[(0,_),(1,_),(5,_),(6,_),(7,_),(8,_),(9,_)]) (hst.pick [0,1,2,3,4,5,6] rfl) hb Za
        (Am 25 rfl<|a_p [0] rfl (Zcl rfl rfl u_0 c_i)<|Am 0 rfl<|a_g [0,5] (Qg_t rfl (fun hG=>Zq rfl rfl u_0))<|a_g [10,0] (Qg_t rfl (fun hG=>Zbk rfl rfl (Opd.gd hG u_0) c_i))<|a_p [20,0] rfl (Zbg rfl rfl u_0 (fun hz=>(Opd.gd hz u_1)))<|Am 0 rfl<|a_g [0,15] (Qg_t rfl (fun hG=>Zq rfl rfl u_0))<|a_g [10,25] (Qg_t rfl (fun hG=>Zq rfl rfl u_0))<|a_g [20,0] (Qg_t rfl (fun hG=>Zjw rfl rfl (Opd.gd hG u_0) c_i rfl))<|a_g [30,20,0] (Qg_t rfl (fun hG=>Zbz Tryz.underlying36 Zji rfl rfl (Opd.gd hG u_0) (Opd.gd hG u_1) (Zbe h15 hG)))<|a_g [40,0] (Qg_t rfl (fun hG=>Zs Zgr rfl rfl (Opd.gd hG u_0)))<|a_g [50,35] (Qg_t rfl (fun hG=>Zs Zgr rfl rfl u_0))<|a_g [60,10,0] (Qg_t rfl (fun hG=>Zf Z72 (Zu6 _ _ (Zbe h17 hG)) rfl rfl (.cons (Opd.gd hG u_0) (.cons (Opd.gd hG u_1) .nil))))<|a_g [70,0] (Qg_t rfl (fun hG=>Zcg rfl rfl (Opd.gd hG u_0)))<|a_p [80,0] rfl (Zbg rfl rfl u_0 (fun hz=>(Opd.gd hz u_1)))<|Aa 0 rfl<|a_n) (fun a g hst hb=>?_)
       refine wp_cond_split (hst.bool 5 rfl) (fun hc18=>?_) (fun hc18=>?_)
       ·replace H1:=Zo hc18 H1
        refine r_a [0] (L:=[]) (hst.pick [] rfl) hb Za
         (a_p [] rfl (Zd rfl rfl c_i)<|a_n) (fun a g hst hb=>?_)
        refine wp_ret ?_
        refine Zw ?_
        refine Zw ?_
        refine Zl ?_
        refine Zl ?_
        refine Zw ?_
        refine Zl ?_
        refine Zl ?_
        obtain rfl:=Option.some.inj H1
        obtain rfl:=Option.some.inj H0
        exact Z2 rfl hst hb (Zg (s:=4)) (hst.at 0 rfl)
       ·replace H1:=Zp hc18 H1
        refine wp_skip ?_
        refine Zba ?_
        refine Zba ?_
        refine Zm ?_
        refine r_b [5,15,25,35,10] (L:=[(0,_),(1,_),(7,_),(8,_),(9,_)]) (hst.pick [0,1,2,3,4] rfl) hb Za
         (a_p [45] rfl (Zb6 rfl rfl u_0 c_i rfl)<|Am 0 rfl<|a_n) (fun a g hst hb=>?_)
        exact ⟨n,Nat.lt_succ_self _,(IntKind.i64.wrap (x1 + (1:Int))),g,rfl,(hst.pick [0,1,2,3,4] rfl),hb,H1⟩
   ·replace H1:=Zp hc2 H1
    refine wp_exit ?_
    refine Zbw ?_
    refine Zbw ?_
    refine Zb4 ?_
    exact ⟨g,rfl,(hst.pick [] rfl),hb,Option.some.inj H1⟩
theorem Zk8 (a0:Zb) {r:Int} (h:Zcv a0=some r):FnOk Tryz.prog 31 [(Ze.pd a0)] (pInt .i64 r):=by
 have H0:=h
 unfold Zcv at H0
 clear h
 refine Zbs (N:=83) Tryz.func31 rfl rfl (Qe rfl) rfl rfl (fun a g0 hst hb=>?_)
 refine r_a [0] (L:=[(0,_)]) hst hb Za
  (a_p [5] rfl (Zbt rfl rfl u_0)<|a_p [] rfl (Zd rfl rfl c_i)<|a_n) (fun a g hst hb=>?_)
 obtain ⟨r1,h2,H0⟩:=Zc H0
 refine r_a [5,40] (L:=[(1,_)]) hst hb Za
  (Af Zed 5 rfl<|Al ty_3 0 rfl<|a_p [0] rfl (Zf Z7m (Zu9 _ h2) rfl rfl (.cons u_0 .nil))<|a_p (outs:=[(3,(pBox Zck 3 (default:Zby)))]) (S:=[4]) [] rfl (Zbl (zs:=[.bool false,.bool false,.bool false,.bool false,.bool false]) (by kernel_rfl) (fun g=>Zqk g) rfl rfl)<|a_p [10,0] rfl (Zb9 Zh5 rfl rfl u_1 u_0)<|a_n) (fun a g hst hb=>?_)
 refine wp_seq ?_
 refine wp_block ?_
 refine r_a [5,15,80] (L:=[(1,_),(3,_)]) hst hb Za
  (Af Zed 5 rfl<|Al ty_3 0 rfl<|a_p [0] rfl (Zhg rfl rfl u_0 c_i)<|Am 0 rfl<|a_g [0,5] (Qg_f rfl (fun hG=>Zi Zed rfl rfl u_0))<|a_g [10,0] (Qg_f rfl (fun hG=>Zs ty_3 rfl rfl (Opd.gd hG u_0)))<|a_g [20,0] (Qg_f rfl (fun hG=>Zhd rfl rfl (Opd.gd hG u_0) c_i))<|a_p [30,0] rfl (Zbh rfl rfl u_0 (fun hz=>(Opd.gd (bNF hz) u_1)))<|Aa 0 rfl<|a_n) (fun a g hst hb=>?_)
 refine wp_cond_split (hst.bool 2 rfl) (fun hc3=>?_) (fun hc3=>?_)
 ·replace H0:=Zo hc3 H0
  refine r_a [0] (L:=[]) (hst.pick [] rfl) hb Za
   (a_p [] rfl (Zd rfl rfl c_i)<|a_n) (fun a g hst hb=>?_)
  refine wp_ret ?_
  refine Zw ?_
  refine Zl ?_
  obtain rfl:=Option.some.inj H0
  exact Z2 rfl hst hb (Zg (s:=2)) (hst.at 0 rfl)
 ·replace H0:=Zp hc3 H0
  obtain ⟨r4,h5,H0⟩:=Zc H0
  refine r_a [5,15,40] (L:=[(1,_),(3,_)]) (hst.pick [0,1] rfl) hb Za
   (Al Zbm 5 rfl<|Al Zh5 15 rfl<|a_p [10,0] rfl (Zf Z7s (Zx0 _ _ h5) rfl rfl (.cons u_0 (.cons u_1 .nil)))<|a_p [0] rfl (Zcg rfl rfl u_0)<|Aa 0 rfl<|a_n) (fun a g hst hb=>?_)
  refine wp_cond_split (hst.bool 2 rfl) (fun hc6=>?_) (fun hc6=>?_)
  ·replace H0:=Zo hc6 H0
   refine r_a [0] (L:=[]) (hst.pick [] rfl) hb Za
    (a_p [] rfl (Zd rfl rfl c_i)<|a_n) (fun a g hst hb=>?_)
   refine wp_ret ?_
   refine Zw ?_
   refine Zl ?_
   obtain rfl:=Option.some.inj H0
   exact Z2 rfl hst hb (Zg (s:=2)) (hst.at 0 rfl)
  ·replace H0:=Zp hc6 H0
   refine r_a [5,15,40] (L:=[(1,_),(3,_)]) (hst.pick [0,1] rfl) hb Za
    (Af Zje 5 rfl<|Al ty_9 0 rfl<|a_p [0] rfl (Zdc Tryz.underlying9 rfl rfl u_0)<|a_p [0] rfl (Zcl rfl rfl u_0 c_i)<|Aa 0 rfl<|a_n) (fun a g hst hb=>?_)
   refine wp_cond_split (hst.bool 2 rfl) (fun hc7=>?_) (fun hc7=>?_)
   ·replace H0:=Zo hc7 H0
    refine r_a [0] (L:=[]) (hst.pick [] rfl) hb Za
     (a_p [] rfl (Zd rfl rfl c_i)<|a_n) (fun a g hst hb=>?_)
    refine wp_ret ?_
    refine Zw ?_
    refine Zl ?_
    obtain rfl:=Option.some.inj H0
    exact Z2 rfl hst hb (Zg (s:=2)) (hst.at 0 rfl)
   ·replace H0:=Zp hc7 H0
    refine r_a [5,15,260] (L:=[(1,_),(3,_)]) (hst.pick [0,1] rfl) hb Za
     (Af Zwg 15 rfl<|Al ty_4 0 rfl<|Am 0 rfl<|a_g [0,5] (Qg_t rfl (fun hG=>Zi Ziq rfl rfl u_0))<|a_g [10,0] (Qg_t rfl (fun hG=>Zs ty_2 rfl rfl (Opd.gd hG u_0)))<|a_g [20,0] (Qg_t rfl (fun hG=>Zco rfl rfl (Opd.gd hG u_0) c_i))<|a_g [30,0] (Qg_t rfl (fun hG=>Zq rfl rfl (Opd.gd hG u_0)))<|a_g [0,5] (Qg_fi rfl (fun hG=>Zi Ziv rfl rfl u_0))<|a_g [10,0] (Qg_fi rfl (fun hG=>Zs ty_2 rfl rfl (Opd.gd hG u_0)))<|a_g [20,0] (Qg_fi rfl (fun hG=>Zcl rfl rfl (Opd.gd hG u_0) c_i))<|a_g [70,30,0] (Qg_t rfl (fun hG=>Zbh rfl rfl (Opd.gd hG u_0) (fun hz=>(Opd.gd (bA hG (bNF hz)) u_1))))<|a_g [80,0] (Qg_t rfl (fun hG=>Zq rfl rfl (Opd.gd hG u_0)))<|a_g [0,5] (Qg_fi rfl (fun hG=>Zi Zhi rfl rfl u_0))<|a_g [10,0] (Qg_fi rfl (fun hG=>Zs ty_2 rfl rfl (Opd.gd hG u_0)))<|a_g [20,5] (Qg_fi rfl (fun hG=>Zi Ziq rfl rfl u_0))<|a_g [30,0] (Qg_fi rfl (fun hG=>Zs ty_2 rfl rfl (Opd.gd hG u_0)))<|a_g [40,20,0] (Qg_fi rfl (fun hG=>Zco rfl rfl (Opd.gd hG u_0) (Opd.gd hG u_1)))<|a_g [140,50,0] (Qg_t rfl (fun hG=>Zbh rfl rfl (Opd.gd hG u_0) (fun hz=>(Opd.gd (bA hG (bNF hz)) u_1))))<|a_g [150,0] (Qg_t rfl (fun hG=>Zq rfl rfl (Opd.gd hG u_0)))<|a_g [0,5] (Qg_fi rfl (fun hG=>Zi Zhi rfl rfl u_0))<|a_g [10,0] (Qg_fi rfl (fun hG=>Zs ty_2 rfl rfl (Opd.gd hG u_0)))<|a_g [20,5] (Qg_fi rfl (fun hG=>Zi Ziv rfl rfl u_0))<|a_g [30,0] (Qg_fi rfl (fun hG=>Zs ty_2 rfl rfl (Opd.gd hG u_0)))<|a_g [40,20,0] (Qg_fi rfl (fun hG=>Zcl rfl rfl (Opd.gd hG u_0) (Opd.gd hG u_1)))<|a_g [210,50,0] (Qg_t rfl (fun hG=>Zbh rfl rfl (Opd.gd hG u_0) (fun hz=>(Opd.gd (bA hG (bNF hz)) u_1))))<|a_p [220,0] rfl (Zbg rfl rfl u_0 (fun hz=>(Opd.gd hz u_1)))<|Aa 0 rfl<|a_n) (fun a g hst hb=>?_)
    refine wp_cond_split (hst.bool 2 rfl) (fun hc8=>?_) (fun hc8=>?_)
    ·replace H0:=Zo hc8 H0
     refine r_a [0] (L:=[]) (hst.pick [] rfl) hb Za
      (a_p [] rfl (Zd rfl rfl c_i)<|a_n) (fun a g hst hb=>?_)
     refine wp_ret ?_
     refine Zw ?_
     refine Zl ?_
     obtain rfl:=Option.some.inj H0
     exact Z2 rfl hst hb (Zg (s:=2)) (hst.at 0 rfl)
    ·replace H0:=Zp hc8 H0
     obtain ⟨r9,h10,H0⟩:=Zc H0
     refine r_a [5,15,40] (L:=[(1,_),(3,_)]) (hst.pick [0,1] rfl) hb Za
      (Af Zj4 5 rfl<|Al Zdt 0 rfl<|a_p [0] rfl (Zf Zzr (Zmc _ h10) rfl rfl (.cons u_0 .nil))<|a_p [0] rfl (Zcg rfl rfl u_0)<|Aa 0 rfl<|a_n) (fun a g hst hb=>?_)
     refine wp_cond_split (hst.bool 2 rfl) (fun hc11=>?_) (fun hc11=>?_)
     ·replace H0:=Zo hc11 H0
      refine r_a [0] (L:=[]) (hst.pick [] rfl) hb Za
       (a_p [] rfl (Zd rfl rfl c_i)<|a_n) (fun a g hst hb=>?_)
      refine wp_ret ?_
      refine Zw ?_
      refine Zl ?_
      obtain rfl:=Option.some.inj H0
      exact Z2 rfl hst hb (Zg (s:=2)) (hst.at 0 rfl)
     ·replace H0:=Zp hc11 H0
      refine r_a [5,30] (L:=[(1,_),(3,_)]) (hst.pick [0,1] rfl) hb Za
       (Af Zwr 15 rfl<|Al ty_4 0 rfl<|a_p [0] rfl (Zcg rfl rfl u_0)<|Aa 0 rfl<|a_n) (fun a g hst hb=>?_)
      refine wp_cond_split (hst.bool 1 rfl) (fun hc12=>?_) (fun hc12=>?_)
      ·replace H0:=Zo hc12 H0
       refine r_a [0] (L:=[]) (hst.pick [] rfl) hb Za
        (a_p [] rfl (Zd rfl rfl c_i)<|a_n) (fun a g hst hb=>?_)
       refine wp_ret ?_
       refine Zw ?_
       refine Zl ?_
       obtain rfl:=Option.some.inj H0
       exact Z2 rfl hst hb (Zg (s:=2)) (hst.at 0 rfl)
      ·replace H0:=Zp hc12 H0
       refine r_a [5,80] (L:=[(1,_)]) (hst.pick [0] rfl) hb Za
        (Af Zgw 5 rfl<|Al ty_3 0 rfl<|a_p [0] rfl (Zco rfl rfl u_0 c_i)<|Am 0 rfl<|a_g [0,5] (Qg_f rfl (fun hG=>Zi Zgw rfl rfl u_0))<|a_g [10,0] (Qg_f rfl (fun hG=>Zs ty_3 rfl rfl (Opd.gd hG u_0)))<|a_g [20,0] (Qg_f rfl (fun hG=>Zcl rfl rfl (Opd.gd hG u_0) c_i))<|a_p [30,0] rfl (Zbh rfl rfl u_0 (fun hz=>(Opd.gd (bNF hz) u_1)))<|Aa 0 rfl<|a_n) (fun a g hst hb=>?_)
       refine wp_cond_split (hst.bool 1 rfl) (fun hc13=>?_) (fun hc13=>?_)
       ·replace H0:=Zo hc13 H0
        refine r_a [0] (L:=[]) (hst.pick [] rfl) hb Za
         (a_p [] rfl (Zd rfl rfl c_i)<|a_n) (fun a g hst hb=>?_)
        refine wp_ret ?_
        refine Zw ?_
        refine Zl ?_
        obtain rfl:=Option.some.inj H0
        exact Z2 rfl hst hb (Zg (s:=2)) (hst.at 0 rfl)
       ·replace H0:=Zp hc13 H0
        refine r_a [5,60] (L:=[(1,_)]) (hst.pick [0] rfl) hb Za
         (Af Zd1 5 rfl<|Al Zfz 0 rfl<|a_p [0] rfl (Zcc Tryz.underlying36 rfl rfl u_0)<|Af Zgw 5 rfl<|Al ty_3 0 rfl<|a_p [20,0] rfl (Zcl rfl rfl u_0 u_1)<|Aa 0 rfl<|a_n) (fun a g hst hb=>?_)
        refine wp_cond_split (hst.bool 1 rfl) (fun hc14=>?_) (fun hc14=>?_)
        ·replace H0:=Zo hc14 H0
         refine r_a [0] (L:=[]) (hst.pick [] rfl) hb Za
          (a_p [] rfl (Zd rfl rfl c_i)<|a_n) (fun a g hst hb=>?_)
         refine wp_ret ?_
         refine Zw ?_
         refine Zl ?_
         obtain rfl:=Option.some.inj H0
         exact Z2 rfl hst hb (Zg (s:=2)) (hst.at 0 rfl)
        ·replace H0:=Zp hc14 H0
         refine wp_skip ?_
         refine Zba ?_
         refine Zm ?_
         obtain ⟨r15,h16,H0⟩:=Zc H0
         refine r_a [50] (L:=[(1,_)]) (hst.pick [0] rfl) hb Za
          (Af Zed 5 rfl<|Al ty_3 0 rfl<|Af Zd1 5 rfl<|Al Zfz 0 rfl<|a_p [20,0] rfl (Zf Z7g (Zwv _ _ h16) rfl rfl (.cons u_0 (.cons u_1 .nil)))<|Aa 0 rfl<|a_n) (fun a g hst hb=>?_)
         refine wp_ret ?_
         obtain rfl:=Option.some.inj H0
         exact Z2 rfl hst hb (Zg (s:=2)) (hst.at 0 rfl)
theorem Zl8 (a0:Zj) (a1:ByteArray) {r:Zb × Bool} (h:Zfj a0 a1=some r):FnOk Tryz.prog 45 [(Z1.pd a0),(pStr a1)] (pTup [(Ze.pd r.1),(Z5 r.2)]):=by
 have H0:=h
 unfold Zfj at H0
 clear h
 refine Zbs (N:=39) Tryz.func45 rfl rfl (Qe rfl) rfl rfl (fun a g0 hst hb=>?_)
 refine r_a [15,0,10] (L:=[(0,_),(1,_)]) hst hb Za
  (a_p [5] rfl (Zbt rfl rfl u_0)<|a_p (outs:=[(4,(pBox Ze 4 (default:Zb)))]) (S:=[5]) [] rfl (Zbl (zs:=[.int .i64 0,.int .i64 0,.int .i64 0,.int .i64 0,.float .f64 0,.int .i64 0,.string ByteArray.empty,.slice none 0 0]) (by kernel_rfl) (fun g=>Zb3 g) rfl rfl)<|a_p [] rfl (Zd rfl rfl c_b)<|a_n) (fun a g hst hb=>?_)
 refine wp_seq ?_
 refine r_a [5,25,20] (L:=[(1,_),(2,_),(4,_)]) hst hb Za
  (Af Zqz 15 rfl<|Al Zdy 0 rfl<|Aa 0 rfl<|a_n) (fun a g hst hb=>?_)
 obtain ⟨z12,hz1,H0⟩:=Zc H0
 refine Zbp (fun a w=>∃ (y11:Zb) (g:G),w=g.w ∧ St 39 [(4,(pBox Ze 4 y11))] a g ∧ Base g0 g ∧ (.inr y11)=z12) ?_ ?_
 ·rintro a w ⟨y11,g,rfl,hst,hb,rfl⟩
  refine Zm ?_
  refine r_a [10,20] (L:=[(4,_)]) hst hb Za
   (a_p [] rfl (Zqg rfl rfl )<|a_p [0,5] rfl (Z7 Zbm rfl rfl u_1 u_0)<|a_p [] rfl (Zd rfl rfl c_b)<|a_n) (fun a g hst hb=>?_)
  refine wp_ret ?_
  obtain rfl:=Option.some.inj H0
  obtain ⟨u0,hu0,hq0⟩:=Zbn (P:=Tryz.prog) Zbm (hst.at 0 rfl)
  exact Zdl rfl hst hb hu0 (Zg (s:=5)) (Zch hq0 (hst.at 1 rfl))
 ·refine wp_block ?_
  refine wp_loop_ghost (fun n a w=>∃ (x1:Zb) (x2:shelf_nodeT) (g:G),w=g.w ∧ St 39 [(1,(pStr a1)),(4,(pBox Ze 4 x1)),(6,(Z9.pd x2))] a g ∧ Base g0 g ∧ Zdh a1 n x1 x2=some z12) (a0.top.hh + 1) ⟨(default:Zb),a0.top,g,rfl,(hst.pick [0,1,2] rfl),hb,hz1⟩ (fun n a w hI=>?_)
  obtain ⟨x1,x2,g,rfl,hst,hb,H1⟩:=hI
  cases n with
  | zero=>exact absurd H1 (by simp [Zdh])
  | succ n =>
   rw [Zdh] at H1
   refine wp_seq ?_
   refine r_a [5,15,25,10] (L:=[(1,_),(4,_),(6,_)]) hst hb Za
    (Am 25 rfl<|a_p [0] rfl (Z1f Tryz.underlying25 rfl rfl u_0 (Zif _))<|a_n) (fun a g hst hb=>?_)
   refine wp_cond_split (hst.bool 3 rfl) (fun hc3=>?_) (fun hc3=>?_)
   ·replace H1:=Zo hc3 H1
    refine wp_skip ?_
    refine Zm ?_
    refine Zbp (fun a w=>∃ (j10:shelf_nodeT) (g:G),w=g.w ∧ St 39 [(1,(pStr a1)),(4,(pBox Ze 4 x1)),(6,(Z9.pd j10))] a g ∧ Base g0 g ∧ Zf4 x1 (Zdh a1 n) j10=some z12) ?_ ?_
    ·rintro a w ⟨j10,g,rfl,hst,hb,H1⟩
     unfold Zf4 at H1
     exact ⟨n,Nat.lt_succ_self _,x1,j10,g,rfl,(hst.pick [0,1,2] rfl),hb,H1⟩
    ·refine wp_block ?_
     refine wp_block ?_
     obtain ⟨n4,h5,H1⟩:=Zc H1
     refine r_a [5,15,25,60] (L:=[(1,_),(4,_),(6,_)]) (hst.pick [0,1,2] rfl) hb Za
      (Am 5 rfl<|Am 25 rfl<|a_p [0] rfl (Z6 rfl rfl (Opd.imp u_0 (fun _ _ h=>Zv h5 h)) (fun _ _ ⟨_,_,_,e,_⟩=>⟨_,e⟩))<|Af Zgz 0 rfl<|Al ty_9 0 rfl<|a_p [40,0] rfl (Zos rfl rfl u_0 u_1)<|Aa 0 rfl<|a_n) (fun a g hst hb=>?_)
     refine wp_cond_split (hst.bool 3 rfl) (fun hc6=>?_) (fun hc6=>?_)
     ·replace H1:=Zo hc6 H1
      refine r_b [5,15,40] (L:=[(1,_),(4,_),(6,_)]) (hst.pick [0,1,2] rfl) hb Za
       (Am 25 rfl<|a_p [0] rfl (Z6 rfl rfl (Opd.imp u_0 (fun _ _ h=>Zv h5 h)) (fun _ _ ⟨_,_,_,e,_⟩=>⟨_,e⟩))<|Af Zgc 0 rfl<|Al Zdy 0 rfl<|Aa 0 rfl<|a_n) (fun a g hst hb=>?_)
      refine Zba ?_
      refine Zba ?_
      exact ⟨n4.left,g,rfl,(hst.pick [0,1,2] rfl),hb,H1⟩
     ·replace H1:=Zp hc6 H1
      refine r_a [5,15,25,60] (L:=[(1,_),(4,_),(6,_)]) (hst.pick [0,1,2] rfl) hb Za
       (Am 5 rfl<|Am 25 rfl<|a_p [0] rfl (Z6 rfl rfl (Opd.imp u_0 (fun _ _ h=>Zv h5 h)) (fun _ _ ⟨_,_,_,e,_⟩=>⟨_,e⟩))<|Af Zgz 0 rfl<|Al ty_9 0 rfl<|a_p [40,0] rfl (Z1k rfl rfl u_0 u_1)<|Aa 0 rfl<|a_n) (fun a g hst hb=>?_)
      refine wp_cond_split (hst.bool 3 rfl) (fun hc7=>?_) (fun hc7=>?_)
      ·replace H1:=Zo hc7 H1
       refine r_b [5,15,40] (L:=[(1,_),(4,_),(6,_)]) (hst.pick [0,1,2] rfl) hb Za
        (Am 25 rfl<|a_p [0] rfl (Z6 rfl rfl (Opd.imp u_0 (fun _ _ h=>Zv h5 h)) (fun _ _ ⟨_,_,_,e,_⟩=>⟨_,e⟩))<|Af Zgx 0 rfl<|Al Zdy 0 rfl<|Aa 0 rfl<|a_n) (fun a g hst hb=>?_)
       refine Zba ?_
       refine Zba ?_
       exact ⟨n4.right,g,rfl,(hst.pick [0,1,2] rfl),hb,H1⟩
      ·replace H1:=Zp hc7 H1
       obtain ⟨r8,h9,H1⟩:=Zc H1
       refine r_a [50,60] (L:=[(4,_),(6,_)]) (hst.pick [1,2] rfl) hb Za
        (Am 15 rfl<|a_p [0] rfl (Z6 rfl rfl (Opd.imp u_0 (fun _ _ h=>Zv h5 h)) (fun _ _ ⟨_,_,_,e,_⟩=>⟨_,e⟩))<|Af Zjb 0 rfl<|Al Zbm 0 rfl<|a_p [0] rfl (Zf Zpc (Zg6 _ h9) rfl rfl (.cons u_0 .nil))<|a_p [0,5] rfl (Z7 Zbm rfl rfl u_1 u_0)<|a_p [] rfl (Zd rfl rfl c_b)<|a_n) (fun a g hst hb=>?_)
       refine wp_ret ?_
       refine Zw ?_
       refine Zw ?_
       refine Zl ?_
       refine Zl ?_
       refine Zw ?_
       refine Zl ?_
       refine Zl ?_
       obtain rfl:=Option.some.inj H1
       obtain rfl:=Option.some.inj H0
       obtain ⟨u0,hu0,hq0⟩:=Zbn (P:=Tryz.prog) Zbm (hst.at 0 rfl)
       exact Zdl rfl hst hb hu0 (Zg (s:=5)) (Zch hq0 (hst.at 1 rfl))
   ·replace H1:=Zp hc3 H1
    refine wp_exit ?_
    refine Zbw ?_
    refine Zbw ?_
    refine Zb4 ?_
    exact ⟨x1,g,rfl,(hst.pick [1] rfl),hb,Option.some.inj H1⟩
theorem Zde (a0:ByteArray) (a1:Zb) (a2:shelf_nodeT) (a3:shelf_nodeT) {r:shelf_nodeT} (h:Zda a0 a1 a2 a3=some r):FnOk Tryz.prog 83 [(pStr a0),(Ze.pd a1),(Z9.pd a2),(Z9.pd a3)] (Z9.pd r):=by
 have H0:=h
 unfold Zda at H0
 clear h
 refine Zbs (N:=21) Tryz.func83 rfl rfl (Qe rfl) rfl rfl (fun a g0 hst hb=>?_)
 refine r_a [5,25,35,0] (L:=[(0,_),(1,_),(2,_),(3,_)]) hst hb Za
  (a_p [15] rfl (Zbt rfl rfl u_0)<|a_p (outs:=[(8,(Z9.pd shelf_nodeT.nil))]) (S:=[]) [] rfl (Zd rfl rfl (Opd.c (fun g=>Zfq g)))<|a_n) (fun a g hst hb=>?_)
 obtain ⟨r1,h2,H0⟩:=Zc H0;obtain ⟨r3,h4,H0⟩:=Zc H0
 refine r_a [120] (L:=[(0,_),(2,_),(3,_),(5,_)]) hst hb Za
  (Am 5 rfl<|Al Zbm 35 rfl<|Am 15 rfl<|Am 25 rfl<|Am 15 rfl<|a_p [0] rfl (Zf Zlq (Zcy _ h2) rfl rfl (.cons u_0 .nil))<|Am 25 rfl<|a_p [0] rfl (Zf Zlq (Zcy _ h4) rfl rfl (.cons u_0 .nil))<|a_p [20,0] rfl (Zb6 rfl rfl u_0 u_1 rfl)<|a_p [0] rfl (Zb6 rfl rfl u_0 c_i rfl)<|a_p [90,80,70,60,0] rfl (Zsq rfl rfl u_0 u_1 u_2 u_3 u_4)<|a_p [0] rfl (Zbt rfl rfl u_0)<|a_p [0] rfl (Zd rfl rfl (Opd.imp u_0 (fun _ _ h=>Zt0 h)))<|a_n) (fun a g hst hb=>?_)
 refine wp_ret ?_
 obtain rfl:=Option.some.inj H0
 exact Z2 rfl hst hb (Zg (s:=8)) (hst.at 0 rfl)
theorem Zkc (a0:shelf_nodeT) (a1:shelf_nodeT) {r:Bool} (h:Zgs a0 a1=some r):FnOk Tryz.prog 119 [(Z9.pd a0),(Z9.pd a1)] (Z5 r):=by
 have H0:=h
 unfold Zgs at H0
 clear h
 refine Zbs (N:=13) Tryz.func119 rfl rfl (Qe rfl) rfl rfl (fun a g0 hst hb=>?_)
 refine r_a [5,15] (L:=[(0,_),(1,_)]) hst hb Za
  (a_p [] rfl (Zd rfl rfl c_b)<|a_n) (fun a g hst hb=>?_)
 obtain ⟨r1,h2,H0⟩:=Zc H0;obtain ⟨r3,h4,H0⟩:=Zc H0
 refine r_a [80] (L:=[(0,_),(1,_)]) hst hb Za
  (Am 5 rfl<|a_p [0] rfl (Zf Zlq (Zcy _ h2) rfl rfl (.cons u_0 .nil))<|a_p [0] rfl (Zb6 rfl rfl u_0 c_i rfl)<|Am 15 rfl<|a_p [0] rfl (Zf Zlq (Zcy _ h4) rfl rfl (.cons u_0 .nil))<|a_p [0] rfl (Zb6 rfl rfl u_0 c_i rfl)<|a_p [0] rfl (Zsh rfl rfl c_i u_0 rfl)<|a_p [40,0] rfl (Zcl rfl rfl u_0 u_1)<|Aa 0 rfl<|a_n) (fun a g hst hb=>?_)
 refine wp_ret ?_
 obtain rfl:=Option.some.inj H0
 exact Z2 rfl hst hb (Zg (s:=4)) (hst.at 0 rfl)
end Go.CL
