/- A part of the proof of WholeLog. -/
import Derived.Test.YtajhikgoibmpcaaGreatDoorWholeLogC2
import Derived.Test.YtajhikgoibmpcaaGreatDoorProg
set_option linter.unusedVariables false
set_option linter.unusedSimpArgs false
set_option maxRecDepth 100000
open List renaming mem_of_getElem?→Zbzh,map_toArray→Zbzk,map_nil→Zbzl,map_cons→Zbzm,mem_singleton→Zbzn,replicate→Zbzs,singleton_inj→Zb0e
open Go.Proofs.Tryz renaming prog→Zbzi,underlying98→Zbzp,underlying148→Zbzr,underlying3→Zbzt,underlying92→Zbzu,underlying70→Zbzw,underlying77→Zbzx,underlying9→Zbzy,underlying207→Zbzz,underlying63→Zbz0,underlying5→Zbz3,underlying62→Zbz4,underlying126→Zbz5,underlying49→Zbz6,underlying28→Zbz8,underlying88→Zbz9,underlying139→Zb0f,underlying72→Zb0g,underlying23→Zb0h,underlying47→Zb0i,underlying2→Zb0j
open Go.IntKind renaming i64→Zbzj,u8→Zbzv,u64→Zbz7
open Int renaming toNat→Zbzo,fdiv→Zb0a,toNat_of_nonneg→Zb0d
open Nat renaming lt_succ_self→Zbzq,le_refl→Zbz1,zero_le→Zbz2
open Prod renaming fst→Zb0b,snd→Zb0c
namespace Go.CL
open Go Go.RowKit Go.Proofs
theorem Za:Zbzi.follows .mixedOrders=true:=by kernel_rfl
theorem Znj {α:Type} {l:List α} (h:l.length=1):∃u0,l=[u0]:=by
 match l,h with
 | [u0],_=>exact⟨u0,rfl⟩
theorem Zpd {α:Type} {l:List α} (h:l.length=2):∃u0 u1,l=[u0,u1]:=by
 match l,h with
 | [u0,u1],_=>exact⟨u0,u1,rfl⟩
theorem Zbgb {α:Type} {l:List α} (h:l.length=8):∃u0 u1 u2 u3 u4 u5 u6 u7,l=[u0,u1,u2,u3,u4,u5,u6,u7]:=by
 match l,h with
 | [u0,u1,u2,u3,u4,u5,u6,u7],_=>exact⟨u0,u1,u2,u3,u4,u5,u6,u7,rfl⟩
def Zbb5:List (Kd.FK Zn):=[⟨_,Kd.flt,0,fun x:Zn=>x.Score⟩,
 ⟨_,Kd.str,1,fun x:Zn=>x.Name⟩]
def Zy:Kd Zn:=Kd.struct 2 Zbb5 (by rfl)
theorem Zbcr:∀g,Zy.K g (default:Zn) [.float .f64 0,.string ByteArray.empty]:=fun g=>⟨rfl,(Qc.2 ⟨(rfl),(Qc.2 ⟨(rfl),(fun _ h=>by cases h)⟩)⟩)⟩
def Z7f:List (Kd.FK Zb):=[⟨_,(Kd.int .i64),0,fun x:Zb=>x.Kind⟩,
 ⟨_,(Kd.int .i64),1,fun x:Zb=>x.Num⟩,
 ⟨_,(Kd.int .i64),2,fun x:Zb=>x.Low⟩,
 ⟨_,(Kd.int .i64),3,fun x:Zb=>x.High⟩,
 ⟨_,Kd.flt,4,fun x:Zb=>x.Real⟩,
 ⟨_,(Kd.int .i64),5,fun x:Zb=>x.Cap⟩,
 ⟨_,Kd.str,6,fun x:Zb=>x.Text⟩,
 ⟨_,Zy.sl,7,fun x:Zb=>x.List⟩]
def Zg:Kd Zb:=Kd.struct 8 Z7f (by rfl)
theorem Zku:∀g,Zg.K g (default:Zb) [.int .i64 0,.int .i64 0,.int .i64 0,.int .i64 0,.float .f64 0,.int .i64 0,.string ByteArray.empty,.slice none 0 0]:=fun g=>⟨rfl,(Qc.2 ⟨(rfl),(Qc.2 ⟨(rfl),(Qc.2 ⟨(rfl),(Qc.2 ⟨(rfl),(Qc.2 ⟨(rfl),(Qc.2 ⟨(rfl),(Qc.2 ⟨(rfl),(Qc.2 ⟨(⟨none,0,rfl,Zbz1 _,Zbz2 _,.inl rfl⟩),(fun _ h=>by cases h)⟩)⟩)⟩)⟩)⟩)⟩)⟩)⟩)⟩
def shelf_nodeT.V (g:G):shelf_nodeT→Value→Prop
 | .nil,v=>v=.pointer none
 | .node x0 x1 x2 x3 x4,v=>∃b o cs,v=.pointer (some ⟨b,o,none⟩)∧CellsAt g b o cs∧cs.length=12∧(∀u∈cs,u.oneCell'=true)∧Kd.str.K g x0 (seg cs 0 1)∧Zg.K g x1 (seg cs 1 8)∧(∃v,seg cs 9 1=[v]∧shelf_nodeT.V g x2 v)∧(∃v,seg cs 10 1=[v]∧shelf_nodeT.V g x3 v)∧(Kd.int .i64).K g x4 (seg cs 11 1)
theorem shelf_nodeT.mono {g g':G} (h:g.le g') (t:shelf_nodeT):∀v,shelf_nodeT.V g t v→shelf_nodeT.V g' t v:=by
 induction t with
 | nil=>exact fun v h=>h
 | node x0 x1 x2 x3 x4 ih2 ih3 =>
  rintro v ⟨b,o,cs,rfl,hc,hl,hz,h0,h1,⟨w2,e2,k2⟩,⟨w3,e3,k3⟩,h4⟩
  exact⟨b,o,cs,rfl,hc.mono h,hl,hz,Kd.str.mono h h0,Zg.mono h h1,⟨w2,e2,ih2 w2 k2⟩,⟨w3,e3,ih3 w3 k3⟩,(Kd.int .i64).mono h h4⟩
theorem shelf_nodeT.ptr {g:G} {t:shelf_nodeT} {v:Value} (h:shelf_nodeT.V g t v):∃p,v=.pointer p∧p.isNone=t.isNil:=by
 cases t with
 | nil=>exact⟨_,h,rfl⟩
 | node =>
  obtain⟨b,o,cs,e,_⟩:=h
  exact⟨_,e,rfl⟩
def Zbk:Kd shelf_nodeT where
 sz:=1
 ag:=false
 K:=fun g t cs=>∃v,cs=[v]∧shelf_nodeT.V g t v
 len:=by rintro _ _ _ ⟨v,rfl,_⟩;rfl
 one:=by
  rintro _ _ _ ⟨v,rfl,h⟩ u hu
  obtain⟨p,e,_⟩:=shelf_nodeT.ptr h
  rw[Zbzn.1 hu,e];rfl
 mono:=fun h ⟨v,e,k⟩=>⟨v,e,shelf_nodeT.mono h _ _ k⟩
 nag:=fun _=>rfl
def Z69:List (Kd.FK shelf_node):=[⟨_,Kd.str,0,fun x:shelf_node=>x.key⟩,
 ⟨_,Zg,1,fun x:shelf_node=>x.rec_⟩,
 ⟨_,Zbk,9,fun x:shelf_node=>x.left⟩,
 ⟨_,Zbk,10,fun x:shelf_node=>x.right⟩,
 ⟨_,(Kd.int .i64),11,fun x:shelf_node=>x.size⟩]
def Ziy:Kd shelf_node:=Kd.struct 12 Z69 (by rfl)
theorem shelf_nodeT.V_iff {g:G} {t:shelf_nodeT} {v:Value}:(Zbk.pd t).p g v↔shelf_nodeT.V g t v:=by
 constructor
 ·rintro⟨_,⟨u,rfl,h⟩,rfl⟩;exact h
 ·exact fun h=>⟨_,⟨v,rfl,h⟩,rfl⟩
theorem Zqq (g:G):Zbk.K g shelf_nodeT.nil [.pointer none]:=⟨_,rfl,rfl⟩
theorem Zf3 (g:G):(Zbk.pd shelf_nodeT.nil).p g (.pointer none):=shelf_nodeT.V_iff.2 rfl
theorem Zg6 (t:shelf_nodeT) (g:G) (v:Value) (h:(Zbk.pd t).p g v):∃p,v=.pointer p∧p.isNone=t.isNil:=shelf_nodeT.ptr (shelf_nodeT.V_iff.1 h)
theorem Z1 {g:G} {t:shelf_nodeT} {x:shelf_node} {v:Value} (h:t.un=some x) (hv:(Zbk.pd t).p g v):(Ziy.ptr x).p g v:=by
 cases t with
 | nil=>cases h
 | node x0 x1 x2 x3 x4 =>
  obtain rfl:=Option.some.inj h
  obtain⟨b,o,cs,rfl,hc,hl,_,h0,h1,h2,h3,h4⟩:=shelf_nodeT.V_iff.1 hv
  exact⟨b,o,cs,rfl,⟨hl,(Qc.2 ⟨h0,(Qc.2 ⟨h1,(Qc.2 ⟨h2,(Qc.2 ⟨h3,(Qc.2 ⟨h4,(fun _ h=>by cases h)⟩)⟩)⟩)⟩)⟩)⟩,hc⟩
theorem Z4z {g:G} {x:shelf_node} {v:Value} (h:(Ziy.ptr x).p g v):(Zbk.pd x.up).p g v:=by
 obtain⟨b,o,cs,rfl,hk,hc⟩:=h
 exact shelf_nodeT.V_iff.2 ⟨b,o,cs,rfl,hc,hk.1,Ziy.one hk,hk.2 _ (Zbzh (i:=0) rfl),hk.2 _ (Zbzh (i:=1) rfl),hk.2 _ (Zbzh (i:=2) rfl),hk.2 _ (Zbzh (i:=3) rfl),hk.2 _ (Zbzh (i:=4) rfl)⟩
def Z5v:List (Kd.FK Z4):=[⟨_,Zbk,0,fun x:Z4=>x.top⟩,
 ⟨_,(Kd.int .i64),1,fun x:Z4=>x.room⟩]
def Zbu:Kd Z4:=Kd.struct 2 Z5v (by rfl)
theorem Z46:∀g,Zbu.K g (default:Z4) [.pointer none,.int .i64 0]:=fun g=>⟨rfl,(Qc.2 ⟨(Zqq _),(Qc.2 ⟨(rfl),(fun _ h=>by cases h)⟩)⟩)⟩
def Z05:List (Kd.FK Zel):=[⟨_,(Kd.int .i64),0,fun x:Zel=>x.At⟩,
 ⟨_,(Kd.int .i64).sl,1,fun x:Zel=>x.Kept⟩]
def Zes:Kd Zel:=Kd.struct 2 Z05 (by rfl)
def Z63:List (Kd.FK Zo):=[⟨_,(Kd.int .i64),0,fun x:Zo=>x.at_⟩,
 ⟨_,(Kd.arr 64 (Kd.int .u8)),1,fun x:Zo=>x.s⟩]
def Zbr:Kd Zo:=Kd.struct 65 Z63 (by rfl)
theorem Z7j:∀g,Zbr.K g (default:Zo) [.int .i64 0,.int .u8 0,.int .u8 0,.int .u8 0,.int .u8 0,.int .u8 0,.int .u8 0,.int .u8 0,.int .u8 0,.int .u8 0,.int .u8 0,.int .u8 0,.int .u8 0,.int .u8 0,.int .u8 0,.int .u8 0,.int .u8 0,.int .u8 0,.int .u8 0,.int .u8 0,.int .u8 0,.int .u8 0,.int .u8 0,.int .u8 0,.int .u8 0,.int .u8 0,.int .u8 0,.int .u8 0,.int .u8 0,.int .u8 0,.int .u8 0,.int .u8 0,.int .u8 0,.int .u8 0,.int .u8 0,.int .u8 0,.int .u8 0,.int .u8 0,.int .u8 0,.int .u8 0,.int .u8 0,.int .u8 0,.int .u8 0,.int .u8 0,.int .u8 0,.int .u8 0,.int .u8 0,.int .u8 0,.int .u8 0,.int .u8 0,.int .u8 0,.int .u8 0,.int .u8 0,.int .u8 0,.int .u8 0,.int .u8 0,.int .u8 0,.int .u8 0,.int .u8 0,.int .u8 0,.int .u8 0,.int .u8 0,.int .u8 0,.int .u8 0,.int .u8 0]:=fun g=>⟨rfl,(Qc.2 ⟨(rfl),(Qc.2 ⟨((Z1z (z:=(default:Int)) (zs:=[.int .u8 0]) (fun g=>rfl) 64 g)),(fun _ h=>by cases h)⟩)⟩)⟩
def Z8e:List (Kd.FK Zc5):=[⟨_,(Kd.int .i64),0,fun x:Zc5=>x.From⟩,
 ⟨_,(Kd.int .i64),1,fun x:Zc5=>x.Len⟩]
def Zcu:Kd Zc5:=Kd.struct 2 Z8e (by rfl)
theorem Zbay:∀g,Zcu.K g (default:Zc5) [.int .i64 0,.int .i64 0]:=fun g=>⟨rfl,(Qc.2 ⟨(rfl),(Qc.2 ⟨(rfl),(fun _ h=>by cases h)⟩)⟩)⟩
def Zba2 (bI:Nat):List (Kd.FK Zb4):=[⟨_,(Kd.adr bI),0,fun x:Zb4=>x.d⟩,
 ⟨_,Zcu,1,fun x:Zb4=>x.a⟩,
 ⟨_,(Kd.int .i64),3,fun x:Zb4=>x.at_⟩]
def Zeo (bI:Nat):Kd Zb4:=Kd.struct 4 (Zba2 bI) (by rfl)
def Zbeo (bI:Nat):List (Kd.FK Zdo):=[⟨_,(Kd.adr bI),0,fun x:Zdo=>x.r⟩,
 ⟨_,(Kd.int .i64),1,fun x:Zdo=>x.next⟩]
def Zkj (bI:Nat):Kd Zdo:=Kd.struct 2 (Zbeo bI) (by rfl)
def Zbc3:List (Kd.FK Zds):=[⟨_,Kd.str,0,fun x:Zds=>x.word⟩,
 ⟨_,(Kd.int .i64),1,fun x:Zds=>x.on⟩,
 ⟨_,Kd.str,2,fun x:Zds=>x.has⟩]
def Zef:Kd Zds:=Kd.struct 3 Zbc3 (by rfl)
theorem Zbc7:∀g,Zef.K g (default:Zds) [.string ByteArray.empty,.int .i64 0,.string ByteArray.empty]:=fun g=>⟨rfl,(Qc.2 ⟨(rfl),(Qc.2 ⟨(rfl),(Qc.2 ⟨(rfl),(fun _ h=>by cases h)⟩)⟩)⟩)⟩
def Zbge:List (Kd.FK Zw):=[⟨_,(Kd.int .i64),0,fun x:Zw=>x.Kind⟩,
 ⟨_,Kd.str,1,fun x:Zw=>x.Key⟩,
 ⟨_,(Kd.int .i64),2,fun x:Zw=>x.N⟩,
 ⟨_,Kd.flt,3,fun x:Zw=>x.X⟩,
 ⟨_,Kd.str,4,fun x:Zw=>x.S⟩,
 ⟨_,Zg,5,fun x:Zw=>x.Make⟩,
 ⟨_,Kd.bool,13,fun x:Zw=>x.Must⟩]
def Z6:Kd Zw:=Kd.struct 14 Zbge (by rfl)
theorem Zbfm:∀g,Z6.K g (default:Zw) [.int .i64 0,.string ByteArray.empty,.int .i64 0,.float .f64 0,.string ByteArray.empty,.int .i64 0,.int .i64 0,.int .i64 0,.int .i64 0,.float .f64 0,.int .i64 0,.string ByteArray.empty,.slice none 0 0,.bool false]:=fun g=>⟨rfl,(Qc.2 ⟨(rfl),(Qc.2 ⟨(rfl),(Qc.2 ⟨(rfl),(Qc.2 ⟨(rfl),(Qc.2 ⟨(rfl),(Qc.2 ⟨(Zku _),(Qc.2 ⟨(rfl),(fun _ h=>by cases h)⟩)⟩)⟩)⟩)⟩)⟩)⟩)⟩
def Zba5:List (Kd.FK Zck):=[⟨_,Kd.bool,0,fun x:Zck=>x.text⟩,
 ⟨_,Kd.bool,1,fun x:Zck=>x.num⟩,
 ⟨_,Kd.bool,2,fun x:Zck=>x.bounds⟩,
 ⟨_,Kd.bool,3,fun x:Zck=>x.real⟩,
 ⟨_,Kd.bool,4,fun x:Zck=>x.list⟩]
def Zc4:Kd Zck:=Kd.struct 5 Zba5 (by rfl)
theorem Z9y:∀g,Zc4.K g (default:Zck) [.bool false,.bool false,.bool false,.bool false,.bool false]:=fun g=>⟨rfl,(Qc.2 ⟨(rfl),(Qc.2 ⟨(rfl),(Qc.2 ⟨(rfl),(Qc.2 ⟨(rfl),(Qc.2 ⟨(rfl),(fun _ h=>by cases h)⟩)⟩)⟩)⟩)⟩)⟩
def Zbb8:List (Kd.FK Zbj):=[⟨_,Z6.sl,0,fun x:Zbj=>x.Acts⟩]
def Zb1:Kd Zbj:=Kd.struct 1 Zbb8 (by rfl)
theorem Zbcp:∀g,Zb1.K g (default:Zbj) [.slice none 0 0]:=fun g=>⟨rfl,(Qc.2 ⟨(⟨none,0,rfl,Zbz1 _,Zbz2 _,.inl rfl⟩),(fun _ h=>by cases h)⟩)⟩
def Zbex:List (Kd.FK Zbc):=[⟨_,(Kd.int .i64),0,fun x:Zbc=>x.Number⟩,
 ⟨_,Zb1.sl,1,fun x:Zbc=>x.Deals⟩]
def Zde:Kd Zbc:=Kd.struct 2 Zbex (by rfl)
theorem Zbe3:∀g,Zde.K g (default:Zbc) [.int .i64 0,.slice none 0 0]:=fun g=>⟨rfl,(Qc.2 ⟨(rfl),(Qc.2 ⟨(⟨none,0,rfl,Zbz1 _,Zbz2 _,.inl rfl⟩),(fun _ h=>by cases h)⟩)⟩)⟩
def Z7k:List (Kd.FK Zdb):=[⟨_,(Kd.int .i64),0,fun x:Zdb=>x.Code⟩,
 ⟨_,(Kd.int .i64),1,fun x:Zdb=>x.At⟩]
def Zdw:Kd Zdb:=Kd.struct 2 Z7k (by rfl)
theorem Ztr:∀g,Zdw.K g (default:Zdb) [.int .i64 0,.int .i64 0]:=fun g=>⟨rfl,(Qc.2 ⟨(rfl),(Qc.2 ⟨(rfl),(fun _ h=>by cases h)⟩)⟩)⟩
def Z5j:List (Kd.FK Zh):=[⟨_,(Kd.int .u8).sl,0,fun x:Zh=>x.b⟩,
 ⟨_,(Kd.int .i64),1,fun x:Zh=>x.at_⟩]
def Z0:Kd Zh:=Kd.struct 2 Z5j (by rfl)
def Zx7:List (Kd.FK Zb2):=[⟨_,Kd.str,0,fun x:Zb2=>x.Key⟩,
 ⟨_,Zg,1,fun x:Zb2=>x.Rec⟩]
def Zdf:Kd Zb2:=Kd.struct 9 Zx7 (by rfl)
theorem Zyd:∀g,Zdf.K g (default:Zb2) [.string ByteArray.empty,.int .i64 0,.int .i64 0,.int .i64 0,.int .i64 0,.float .f64 0,.int .i64 0,.string ByteArray.empty,.slice none 0 0]:=fun g=>⟨rfl,(Qc.2 ⟨(rfl),(Qc.2 ⟨(Zku _),(fun _ h=>by cases h)⟩)⟩)⟩
def Zxw:List (Kd.FK Zk):=[⟨_,Zdf.sl,0,fun x:Zk=>x.L⟩,
 ⟨_,(Kd.int .i64),1,fun x:Zk=>x.Room⟩]
def Zbe:Kd Zk:=Kd.struct 2 Zxw (by rfl)
theorem Zxq:∀g,Zbe.K g (default:Zk) [.slice none 0 0,.int .i64 0]:=fun g=>⟨rfl,(Qc.2 ⟨(⟨none,0,rfl,Zbz1 _,Zbz2 _,.inl rfl⟩),(Qc.2 ⟨(rfl),(fun _ h=>by cases h)⟩)⟩)⟩
def Z7c:List (Kd.FK Zm):=[⟨_,(Kd.int .i64),0,fun x:Zm=>x.Code⟩,
 ⟨_,(Kd.int .i64),1,fun x:Zm=>x.Num⟩,
 ⟨_,Zg,2,fun x:Zm=>x.Rec⟩]
def Z3:Kd Zm:=Kd.struct 10 Z7c (by rfl)
theorem Z7h:∀g,Z3.K g (default:Zm) [.int .i64 0,.int .i64 0,.int .i64 0,.int .i64 0,.int .i64 0,.int .i64 0,.float .f64 0,.int .i64 0,.string ByteArray.empty,.slice none 0 0]:=fun g=>⟨rfl,(Qc.2 ⟨(rfl),(Qc.2 ⟨(rfl),(Qc.2 ⟨(Zku _),(fun _ h=>by cases h)⟩)⟩)⟩)⟩
def Z7o:List (Kd.FK Zbl):=[⟨_,(Kd.int .i64),0,fun x:Zbl=>x.Code⟩,
 ⟨_,(Kd.int .i64),1,fun x:Zbl=>x.At⟩,
 ⟨_,Z3.sl,2,fun x:Zbl=>x.Answers⟩]
def Zdl:Kd Zbl:=Kd.struct 3 Z7o (by rfl)
theorem Z7e:∀g,Zdl.K g (default:Zbl) [.int .i64 0,.int .i64 0,.slice none 0 0]:=fun g=>⟨rfl,(Qc.2 ⟨(rfl),(Qc.2 ⟨(rfl),(Qc.2 ⟨(⟨none,0,rfl,Zbz1 _,Zbz2 _,.inl rfl⟩),(fun _ h=>by cases h)⟩)⟩)⟩)⟩
def Z2y:List (Kd.FK Ze1):=[⟨_,(Kd.int .i64),0,fun x:Ze1=>x.code⟩,
 ⟨_,(Kd.int .i64),1,fun x:Ze1=>x.at_⟩]
def Zhv:Kd Ze1:=Kd.struct 2 Z2y (by rfl)
theorem Z3r:∀g,Zhv.K g (default:Ze1) [.int .i64 0,.int .i64 0]:=fun g=>⟨rfl,(Qc.2 ⟨(rfl),(Qc.2 ⟨(rfl),(fun _ h=>by cases h)⟩)⟩)⟩
def Z8v:Zds→List Value:=fun x=>[.string x.word,.int .i64 x.on,.string x.has]
theorem gm_0:(0,g_0.flatMap Z8v)∈GL:=Zbzh (i:=0) rfl
theorem gk_0:∀g,(Kd.arr 22 Zef).K g g_0 (g_0.flatMap Z8v):=fun g=>Zbmg (dk:=Zef) (enc:=Z8v) (fun g x=>⟨rfl,(Qc.2 ⟨rfl,(Qc.2 ⟨rfl,(Qc.2 ⟨rfl,(fun _ h=>by cases h)⟩)⟩)⟩)⟩) g g_0
theorem Zsw (j:Nat) {N d:Nat} {o:Oper} {uses:Z8} (hop:o.op=.alloc 28) (hd:o.dst=some d):OB Zbzi N o uses [(d,pBox Zbu j (default:Z4))] [j+1]:=Zf0 (zs:=[.pointer none,.int .i64 0]) (by kernel_rfl) (fun g=>Z46 g) hop hd
theorem Zbqe {N d:Nat} {o:Oper} {uses:Z8}   (hop:o.op=.build 28 #[]) (hd:o.dst=some d) :OB Zbzi N o uses [(d,Zbu.pd {top:=shelf_nodeT.nil,room:=(0:Int)})] []:=by
 refine Zdj hop hd fun a g hh=>?_
 refine⟨.agg #[.pointer none,.int .i64 0],?_,[.pointer none,.int .i64 0],⟨rfl,(Qc.2 ⟨(Zqq _),(Qc.2 ⟨(rfl),(fun _ h=>by cases h)⟩)⟩)⟩,rfl⟩
 simp only[Zbzk,Zbzm,Zbzl,Zbzl]
 exact Zc7 Zbz8 (zero:=.agg #[.pointer none,.int .i64 0]) (by kernel_rfl) (places:=[(0,1),(1,1)]) (by kernel_rfl) (by kernel_rfl) g.w
theorem Zcw:Ty Zbzi 28 Zbu:=⟨by kernel_rfl,by kernel_rfl⟩
theorem Zboc {N d:Nat} {o:Oper} {uses:Z8} {x1:Operand} {v1:Int} (hop:o.op=.build 28 #[(1,x1)]) (hd:o.dst=some d) (h1:Opd uses x1 ((Kd.int .i64).pd v1)):OB Zbzi N o uses [(d,Zbu.pd {top:=shelf_nodeT.nil,room:=v1})] []:=by
 refine Zdj hop hd fun a g hh=>?_
 obtain⟨c1,k1,e1⟩:=h1 a g hh
 obtain rfl:=k1
 refine⟨.agg #[.pointer none,.int .i64 v1],?_,[.pointer none,.int .i64 v1],⟨rfl,(Qc.2 ⟨(Zqq _),(Qc.2 ⟨rfl,(fun _ h=>by cases h)⟩)⟩)⟩,rfl⟩
 simp only[Zbzk,Zbzm,Zbzl,e1]
 exact Zc7 Zbz8 (zero:=.agg #[.pointer none,.int .i64 0]) (by kernel_rfl) (places:=[(0,1),(1,1)]) (by kernel_rfl) (by kernel_rfl) g.w
theorem Z0m:Fld Zbzi 28 1 Zbu (Kd.int .i64) (fun x:Z4=>x.room):=Fld.of ⟨_,(Kd.int .i64),1,fun x:Z4=>x.room⟩ (Zbzh (i:=1) rfl) 1 rfl (by kernel_rfl) (by decide)
theorem U9:Ty Zbzi 3 (Kd.int .i64):=⟨by kernel_rfl,by kernel_rfl⟩
theorem Zbdj:Fld Zbzi 25 1 Zes (Kd.int .i64).sl (fun x:Zel=>x.Kept):=Fld.of ⟨_,(Kd.int .i64).sl,1,fun x:Zel=>x.Kept⟩ (Zbzh (i:=1) rfl) 1 rfl (by kernel_rfl) (by decide)
theorem Zbln:Ty Zbzi 23 (Kd.int .i64).sl:=⟨by kernel_rfl,by kernel_rfl⟩
structure Zmu where
 firm:SlV
 pending:SlV
 left:Int
 down:Bool
 writes:Int
def Z7l:List (Kd.FK Zmu):=[⟨_,Kd.raw,0,fun x:Zmu=>x.firm⟩,
 ⟨_,Kd.raw,1,fun x:Zmu=>x.pending⟩,
 ⟨_,(Kd.int .i64),2,fun x:Zmu=>x.left⟩,
 ⟨_,Kd.bool,3,fun x:Zmu=>x.down⟩,
 ⟨_,(Kd.int .i64),4,fun x:Zmu=>x.writes⟩]
def Zby:Kd Zmu:=Kd.struct 5 Z7l (by rfl)
def Zcp (x:Ze) (s:SlV×SlV):Zmu:=⟨s.1,s.2,x.left,x.down,x.writes⟩
abbrev Zc1:ObR Ze:=obAR Zby Zcp (fun x=>x.firm) (Kd.arr 64 (Kd.int .u8)) 92 (fun x=>x.pending) Zbr 94
theorem Zzj:Ty Zbzi 62 Kd.raw:=⟨by kernel_rfl,by kernel_rfl⟩
theorem Zr0:Ty Zbzi 63 Kd.raw:=⟨by kernel_rfl,by kernel_rfl⟩
theorem Z29 {x:Ze} {g:G} {s:SlV×SlV} {cs:List Value} (h:Zby.K g (Zcp x s) cs):Kd.raw.K g s.1 (seg cs 0 1):=h.2 _ (Zbzh (i:=0) rfl)
theorem Z0f {x:Ze} {g:G} {s:SlV×SlV} {cs:List Value} (h:Zby.K g (Zcp x s) cs):Kd.raw.K g s.2 (seg cs 1 1):=h.2 _ (Zbzh (i:=1) rfl)
theorem Zbga {x:Ze} {g:G} {s:SlV×SlV} {cs:List Value} (h:Zby.K g (Zcp x s) cs):(Kd.int .i64).K g x.left (seg cs 2 1):=h.2 _ (Zbzh (i:=2) rfl)
theorem Z73 {x:Ze} {g:G} {s:SlV×SlV} {cs:List Value} (h:Zby.K g (Zcp x s) cs):Kd.bool.K g x.down (seg cs 3 1):=h.2 _ (Zbzh (i:=3) rfl)
theorem Zbsg {x:Ze} {g:G} {s:SlV×SlV} {cs:List Value} (h:Zby.K g (Zcp x s) cs):(Kd.int .i64).K g x.writes (seg cs 4 1):=h.2 _ (Zbzh (i:=4) rfl)
theorem Zbfy {u:Int} {ys:List Value} {x:Ze} {g:G} {s:SlV×SlV} {cs:List Value} (h:Zby.K g (Zcp x s) cs) (hy:(Kd.int .i64).K g u ys):2+ys.length≤cs.length∧Zby.K g (Zcp {x with left:=u} s) (Zr cs 2 ys):=by
 have hc:cs.length=5:=h.1
 have hl:ys.length=1:=(Kd.int .i64).len hy
 exact⟨by omega,(Zb7 (by omega)).trans hc,(Qc.2 ⟨(by show Kd.raw.K g s.1 (seg (Zr cs 2 ys) 0 1);rw[Zj (by omega) (by omega)];exact h.2 _ (Zbzh (i:=0) rfl)),(Qc.2 ⟨(by show Kd.raw.K g s.2 (seg (Zr cs 2 ys) 1 1);rw[Zj (by omega) (by omega)];exact h.2 _ (Zbzh (i:=1) rfl)),(Qc.2 ⟨(by show (Kd.int .i64).K g u (seg (Zr cs 2 ys) 2 1);rw[Zb6 (by omega) hl];exact hy),(Qc.2 ⟨(by show Kd.bool.K g x.down (seg (Zr cs 2 ys) 3 1);rw[Zj (by omega) (by omega)];exact h.2 _ (Zbzh (i:=3) rfl)),(Qc.2 ⟨(by show (Kd.int .i64).K g x.writes (seg (Zr cs 2 ys) 4 1);rw[Zj (by omega) (by omega)];exact h.2 _ (Zbzh (i:=4) rfl)),(fun _ h=>by cases h)⟩)⟩)⟩)⟩)⟩)⟩
theorem Zbmq {u:Bool} {ys:List Value} {x:Ze} {g:G} {s:SlV×SlV} {cs:List Value} (h:Zby.K g (Zcp x s) cs) (hy:Kd.bool.K g u ys):3+ys.length≤cs.length∧Zby.K g (Zcp {x with down:=u} s) (Zr cs 3 ys):=by
 have hc:cs.length=5:=h.1
 have hl:ys.length=1:=Kd.bool.len hy
 exact⟨by omega,(Zb7 (by omega)).trans hc,(Qc.2 ⟨(by show Kd.raw.K g s.1 (seg (Zr cs 3 ys) 0 1);rw[Zj (by omega) (by omega)];exact h.2 _ (Zbzh (i:=0) rfl)),(Qc.2 ⟨(by show Kd.raw.K g s.2 (seg (Zr cs 3 ys) 1 1);rw[Zj (by omega) (by omega)];exact h.2 _ (Zbzh (i:=1) rfl)),(Qc.2 ⟨(by show (Kd.int .i64).K g x.left (seg (Zr cs 3 ys) 2 1);rw[Zj (by omega) (by omega)];exact h.2 _ (Zbzh (i:=2) rfl)),(Qc.2 ⟨(by show Kd.bool.K g u (seg (Zr cs 3 ys) 3 1);rw[Zb6 (by omega) hl];exact hy),(Qc.2 ⟨(by show (Kd.int .i64).K g x.writes (seg (Zr cs 3 ys) 4 1);rw[Zj (by omega) (by omega)];exact h.2 _ (Zbzh (i:=4) rfl)),(fun _ h=>by cases h)⟩)⟩)⟩)⟩)⟩)⟩
theorem Zbtq {u:Int} {ys:List Value} {x:Ze} {g:G} {s:SlV×SlV} {cs:List Value} (h:Zby.K g (Zcp x s) cs) (hy:(Kd.int .i64).K g u ys):4+ys.length≤cs.length∧Zby.K g (Zcp {x with writes:=u} s) (Zr cs 4 ys):=by
 have hc:cs.length=5:=h.1
 have hl:ys.length=1:=(Kd.int .i64).len hy
 exact⟨by omega,(Zb7 (by omega)).trans hc,(Qc.2 ⟨(by show Kd.raw.K g s.1 (seg (Zr cs 4 ys) 0 1);rw[Zj (by omega) (by omega)];exact h.2 _ (Zbzh (i:=0) rfl)),(Qc.2 ⟨(by show Kd.raw.K g s.2 (seg (Zr cs 4 ys) 1 1);rw[Zj (by omega) (by omega)];exact h.2 _ (Zbzh (i:=1) rfl)),(Qc.2 ⟨(by show (Kd.int .i64).K g x.left (seg (Zr cs 4 ys) 2 1);rw[Zj (by omega) (by omega)];exact h.2 _ (Zbzh (i:=2) rfl)),(Qc.2 ⟨(by show Kd.bool.K g x.down (seg (Zr cs 4 ys) 3 1);rw[Zj (by omega) (by omega)];exact h.2 _ (Zbzh (i:=3) rfl)),(Qc.2 ⟨(by show (Kd.int .i64).K g u (seg (Zr cs 4 ys) 4 1);rw[Zb6 (by omega) hl];exact hy),(fun _ h=>by cases h)⟩)⟩)⟩)⟩)⟩)⟩
theorem Zbfs {u:SlV} {l:List Zo} {ys:List Value} {x:Ze} {g:G} {s:SlV×SlV} {cs:List Value} (h:Zby.K g (Zcp x s) cs) (hy:Kd.raw.K g u ys):1+ys.length≤cs.length∧Zby.K g (Zcp {x with pending:=l} (s.1,u)) (Zr cs 1 ys):=by
 have hc:cs.length=5:=h.1
 have hl:ys.length=1:=Kd.raw.len hy
 exact⟨by omega,(Zb7 (by omega)).trans hc,(Qc.2 ⟨(by show Kd.raw.K g s.1 (seg (Zr cs 1 ys) 0 1);rw[Zj (by omega) (by omega)];exact h.2 _ (Zbzh (i:=0) rfl)),(Qc.2 ⟨(by show Kd.raw.K g u (seg (Zr cs 1 ys) 1 1);rw[Zb6 (by omega) hl];exact hy),(Qc.2 ⟨(by show (Kd.int .i64).K g x.left (seg (Zr cs 1 ys) 2 1);rw[Zj (by omega) (by omega)];exact h.2 _ (Zbzh (i:=2) rfl)),(Qc.2 ⟨(by show Kd.bool.K g x.down (seg (Zr cs 1 ys) 3 1);rw[Zj (by omega) (by omega)];exact h.2 _ (Zbzh (i:=3) rfl)),(Qc.2 ⟨(by show (Kd.int .i64).K g x.writes (seg (Zr cs 1 ys) 4 1);rw[Zj (by omega) (by omega)];exact h.2 _ (Zbzh (i:=4) rfl)),(fun _ h=>by cases h)⟩)⟩)⟩)⟩)⟩)⟩
theorem Zbag {b:Nat}:Ty Zbzi 35 (Kd.adr b):=⟨by kernel_rfl,by kernel_rfl⟩
theorem Zbhl {b:Nat}:Ty Zbzi 66 (Kd.adr b):=⟨by kernel_rfl,by kernel_rfl⟩
abbrev Zma (b:Nat):ObR (Zb4×Ze):=obP (Zeo b) b Zc1
abbrev Zl0 (b:Nat):ObR (Zdo×(Zb4×Ze)):=obEx fun c=>obP (Zkj c) c (Zma b)
theorem Z43 {b:Nat}:Foc (Zl0 b) b Zc1 (fun X=>X.2.2) (fun X d=>(X.1,(X.2.1,d))):=Zbow fun c=>Zble Zbp4
theorem Zbsx:TE Zbzi 62 92 (Kd.arr 64 (Kd.int .u8)) 64:=TE.of Zbz4 (by kernel_rfl) (by decide) (by decide)
theorem Zbk2 {N d:Nat} {o:Oper} {uses:Z8} {x0:Operand} {v0:SlV} (hop:o.op=.build 65 #[(0,x0)]) (hd:o.dst=some d) (h0:Opd uses x0 (Kd.raw.pd v0)):OB Zbzi N o uses [(d,Zby.pd {firm:=v0,pending:=((none,0,0):SlV),left:=(0:Int),down:=false,writes:=(0:Int)})] []:=by
 refine Zdj hop hd fun a g hh=>?_
 obtain⟨c0,k0,e0⟩:=h0 a g hh
 obtain rfl:=k0
 refine⟨.agg #[slv v0,.slice none 0 0,.int .i64 0,.bool false,.int .i64 0],?_,[slv v0,.slice none 0 0,.int .i64 0,.bool false,.int .i64 0],⟨rfl,(Qc.2 ⟨rfl,(Qc.2 ⟨(rfl),(Qc.2 ⟨(rfl),(Qc.2 ⟨(rfl),(Qc.2 ⟨(rfl),(fun _ h=>by cases h)⟩)⟩)⟩)⟩)⟩)⟩,rfl⟩
 simp only[Zbzk,Zbzm,Zbzl,e0]
 exact Zc7 Tryz.underlying65 (zero:=.agg #[.slice none 0 0,.slice none 0 0,.int .i64 0,.bool false,.int .i64 0]) (by kernel_rfl) (places:=[(0,1),(1,1),(2,1),(3,1),(4,1)]) (by kernel_rfl) (by kernel_rfl) g.w
theorem Zt4:PF Zbzi 65 3 3:=by
 unfold PF
 kernel_rfl
theorem ty_4:Ty Zbzi 4 Kd.bool:=⟨by kernel_rfl,by kernel_rfl⟩
theorem Zwe:PF Zbzi 65 0 0:=by
 unfold PF
 kernel_rfl
theorem Zwi:Fld Zbzi 39 0 Zcu (Kd.int .i64) (fun x:Zc5=>x.From):=Fld.of ⟨_,(Kd.int .i64),0,fun x:Zc5=>x.From⟩ (Zbzh (i:=0) rfl) 0 rfl (by kernel_rfl) (by decide)
theorem Z0k:Fld Zbzi 39 1 Zcu (Kd.int .i64) (fun x:Zc5=>x.Len):=Fld.of ⟨_,(Kd.int .i64),1,fun x:Zc5=>x.Len⟩ (Zbzh (i:=1) rfl) 1 rfl (by kernel_rfl) (by decide)
theorem Zbl1:Zi Zbzi 81:=by
 unfold Zi
 kernel_rfl
theorem Z0a (j:Nat) {N d:Nat} {o:Oper} {uses:Z8} (hop:o.op=.alloc 92) (hd:o.dst=some d):OB Zbzi N o uses [(d,pBox (Kd.arr 64 (Kd.int .u8)) j (Zbzs 64 (0:Int)))] [j+1]:=Zf0 (zs:=[.int .u8 0,.int .u8 0,.int .u8 0,.int .u8 0,.int .u8 0,.int .u8 0,.int .u8 0,.int .u8 0,.int .u8 0,.int .u8 0,.int .u8 0,.int .u8 0,.int .u8 0,.int .u8 0,.int .u8 0,.int .u8 0,.int .u8 0,.int .u8 0,.int .u8 0,.int .u8 0,.int .u8 0,.int .u8 0,.int .u8 0,.int .u8 0,.int .u8 0,.int .u8 0,.int .u8 0,.int .u8 0,.int .u8 0,.int .u8 0,.int .u8 0,.int .u8 0,.int .u8 0,.int .u8 0,.int .u8 0,.int .u8 0,.int .u8 0,.int .u8 0,.int .u8 0,.int .u8 0,.int .u8 0,.int .u8 0,.int .u8 0,.int .u8 0,.int .u8 0,.int .u8 0,.int .u8 0,.int .u8 0,.int .u8 0,.int .u8 0,.int .u8 0,.int .u8 0,.int .u8 0,.int .u8 0,.int .u8 0,.int .u8 0,.int .u8 0,.int .u8 0,.int .u8 0,.int .u8 0,.int .u8 0,.int .u8 0,.int .u8 0,.int .u8 0]) (by kernel_rfl) (fun g=>(Z1z (z:=(default:Int)) (zs:=[.int .u8 0]) (fun g=>rfl) 64 g)) hop hd
theorem Zbms:Zi Zbzi 68:=by
 unfold Zi
 kernel_rfl
theorem Zio:Ty Zbzi 92 (Kd.arr 64 (Kd.int .u8)):=⟨by kernel_rfl,by kernel_rfl⟩
theorem Zqo:PF Zbzi 65 1 1:=by
 unfold PF
 kernel_rfl
theorem Z7s:(Zbzi.info? 94).map (·.size)=some Zbr.sz:=by kernel_rfl
theorem Z5m:Fld Zbzi 94 0 Zbr (Kd.int .i64) (fun x:Zo=>x.at_):=Fld.of ⟨_,(Kd.int .i64),0,fun x:Zo=>x.at_⟩ (Zbzh (i:=0) rfl) 0 rfl (by kernel_rfl) (by decide)
theorem Z47:Fld Zbzi 94 1 Zbr (Kd.arr 64 (Kd.int .u8)) (fun x:Zo=>x.s):=Fld.of ⟨_,(Kd.arr 64 (Kd.int .u8)),1,fun x:Zo=>x.s⟩ (Zbzh (i:=1) rfl) 1 rfl (by kernel_rfl) (by decide)
theorem Zbev:(Zbzi.info? 92).map (·.size)=some (Kd.arr 64 (Kd.int .u8)).sz:=by kernel_rfl
theorem sz_5:(Zbzi.info? 5).map (·.size)=some (Kd.int .u8).sz:=by kernel_rfl
theorem ty_5:Ty Zbzi 5 (Kd.int .u8):=⟨by kernel_rfl,by kernel_rfl⟩
theorem Zlb:TE Zbzi 70 5 (Kd.int .u8) 1:=TE.of Zbzw (by kernel_rfl) (by decide) (by decide)
theorem Zbmk:Zi Zbzi 57:=by
 unfold Zi
 kernel_rfl
theorem Zbsd:Zi Zbzi 82:=by
 unfold Zi
 kernel_rfl
theorem Zblt:Zi Zbzi 42:=by
 unfold Zi
 kernel_rfl
theorem Zve:Ty Zbzi 39 Zcu:=⟨by kernel_rfl,by kernel_rfl⟩
theorem Zbrr:Zi Zbzi 55:=by
 unfold Zi
 kernel_rfl
theorem Zbsh:Zi Zbzi 56:=by
 unfold Zi
 kernel_rfl
theorem Zbmb:TE Zbzi 67 70 (Kd.int .u8).sl 24:=TE.of Tryz.underlying67 (by kernel_rfl) (by decide) (by decide)
theorem Zbhy {N d:Nat} {o:Oper} {uses:Z8} {x0 x1:Operand} {v0:Int} {v1:List Int} (hop:o.op=.build 94 #[(0,x0),(1,x1)]) (hd:o.dst=some d) (h0:Opd uses x0 ((Kd.int .i64).pd v0)) (h1:Opd uses x1 ((Kd.arr 64 (Kd.int .u8)).pd v1)):OB Zbzi N o uses [(d,Zbr.pd {at_:=v0,s:=v1})] [] :=
 Zbe6 (by decide) Tryz.underlying94 (by kernel_rfl) (by kernel_rfl) rfl (fun g cs hk=>⟨by rw[List.length_cons,hk.2.1];rfl,(Qc.2 ⟨rfl,(Qc.2 ⟨(by show (Kd.arr 64 (Kd.int .u8)).K g v1 (seg (_::cs) 1 64);have:seg (Value.int .i64 v0::cs) 1 64=cs:=(by simp only[seg,List.drop_succ_cons,List.drop_zero];exact List.take_of_length_le (Nat.le_of_eq hk.2.1));rw[this];exact hk),(fun _ h=>by cases h)⟩)⟩)⟩) hop hd h0 h1
theorem Zblr:TE Zbzi 63 94 Zbr 72:=TE.of Zbz0 (by kernel_rfl) (by decide) (by decide)
theorem Zbde:PF Zbzi 65 4 4:=by
 unfold PF
 kernel_rfl
theorem Zt9:PF Zbzi 65 2 2:=by
 unfold PF
 kernel_rfl
theorem Z7v:Ty Zbzi 94 Zbr:=⟨by kernel_rfl,by kernel_rfl⟩
theorem Zbl6 (j:Nat) {N d:Nat} {o:Oper} {uses:Z8} (hop:o.op=.alloc 94) (hd:o.dst=some d):OB Zbzi N o uses [(d,pBox Zbr j (default:Zo))] [j+1]:=Zf0 (zs:=[.int .i64 0,.int .u8 0,.int .u8 0,.int .u8 0,.int .u8 0,.int .u8 0,.int .u8 0,.int .u8 0,.int .u8 0,.int .u8 0,.int .u8 0,.int .u8 0,.int .u8 0,.int .u8 0,.int .u8 0,.int .u8 0,.int .u8 0,.int .u8 0,.int .u8 0,.int .u8 0,.int .u8 0,.int .u8 0,.int .u8 0,.int .u8 0,.int .u8 0,.int .u8 0,.int .u8 0,.int .u8 0,.int .u8 0,.int .u8 0,.int .u8 0,.int .u8 0,.int .u8 0,.int .u8 0,.int .u8 0,.int .u8 0,.int .u8 0,.int .u8 0,.int .u8 0,.int .u8 0,.int .u8 0,.int .u8 0,.int .u8 0,.int .u8 0,.int .u8 0,.int .u8 0,.int .u8 0,.int .u8 0,.int .u8 0,.int .u8 0,.int .u8 0,.int .u8 0,.int .u8 0,.int .u8 0,.int .u8 0,.int .u8 0,.int .u8 0,.int .u8 0,.int .u8 0,.int .u8 0,.int .u8 0,.int .u8 0,.int .u8 0,.int .u8 0,.int .u8 0]) (by kernel_rfl) (fun g=>Z7j g) hop hd
theorem Zbsu:Zi Zbzi 58:=by
 unfold Zi
 kernel_rfl
theorem Zblj:Zi Zbzi 45:=by
 unfold Zi
 kernel_rfl
theorem Zblv:Zi Zbzi 46:=by
 unfold Zi
 kernel_rfl
theorem Zbtm:Zi Zbzi 30:=by
 unfold Zi
 kernel_rfl
theorem Zbtk:Zi Zbzi 31:=by
 unfold Zi
 kernel_rfl
theorem Z8n {bI N d:Nat} {o:Oper} {uses:Z8} {x0:Operand} {x1:Operand} {x2:Operand} {v0:Unit} {v1:Zc5} {v2:Int} (hop:o.op=.build 110 #[(0,x0),(1,x1),(2,x2)]) (hd:o.dst=some d) (h0:Opd uses x0 ((Kd.adr bI).pd v0)) (h1:Opd uses x1 (Zcu.pd v1)) (h2:Opd uses x2 ((Kd.int .i64).pd v2)):OB Zbzi N o uses [(d,(Zeo bI).pd {d:=v0,a:=v1,at_:=v2})] []:=by
 refine Zdj hop hd fun a g hh=>?_
 obtain⟨c0,k0,e0⟩:=h0 a g hh
 obtain rfl:=k0
 obtain⟨c1,k1,e1⟩:=h1 a g hh
 obtain⟨u1_0,u1_1,rfl⟩:=Zpd (Zcu.len k1)
 obtain⟨c2,k2,e2⟩:=h2 a g hh
 obtain rfl:=k2
 refine⟨.agg #[ptrB bI 0,u1_0,u1_1,.int .i64 v2],?_,[ptrB bI 0,u1_0,u1_1,.int .i64 v2],⟨rfl,(Qc.2 ⟨rfl,(Qc.2 ⟨k1,(Qc.2 ⟨rfl,(fun _ h=>by cases h)⟩)⟩)⟩)⟩,rfl⟩
 simp only[Zbzk,Zbzm,Zbzl,e0,e1,e2]
 exact Zc7 Tryz.underlying110 (zero:=.agg #[.pointer none,.int .i64 0,.int .i64 0,.int .i64 0]) (by kernel_rfl) (places:=[(0,1),(1,2),(3,1)]) (by kernel_rfl) (by kernel_rfl) g.w
theorem Z2t (j:Nat) {N d:Nat} {o:Oper} {uses:Z8} (hop:o.op=.alloc 177) (hd:o.dst=some d):OB Zbzi N o uses [(d,pBox Zef j (default:Zds))] [j+1]:=Zf0 (zs:=[.string ByteArray.empty,.int .i64 0,.string ByteArray.empty]) (by kernel_rfl) (fun g=>Zbc7 g) hop hd
theorem Zbny {N d:Nat} {o:Oper} {uses:Z8}   (hop:o.op=.build 177 #[]) (hd:o.dst=some d) :OB Zbzi N o uses [(d,Zef.pd {word:=ByteArray.empty,on:=(0:Int),has:=ByteArray.empty})] []:=by
 refine Zdj hop hd fun a g hh=>?_
 refine⟨.agg #[.string ByteArray.empty,.int .i64 0,.string ByteArray.empty],?_,[.string ByteArray.empty,.int .i64 0,.string ByteArray.empty],⟨rfl,(Qc.2 ⟨(rfl),(Qc.2 ⟨(rfl),(Qc.2 ⟨(rfl),(fun _ h=>by cases h)⟩)⟩)⟩)⟩,rfl⟩
 simp only[Zbzk,Zbzm,Zbzl,Zbzl]
 exact Zc7 Tryz.underlying177 (zero:=.agg #[.string ByteArray.empty,.int .i64 0,.string ByteArray.empty]) (by kernel_rfl) (places:=[(0,1),(1,1),(2,1)]) (by kernel_rfl) (by kernel_rfl) g.w
theorem Zhk:Ty Zbzi 177 Zef:=⟨by kernel_rfl,by kernel_rfl⟩
theorem Zbra:(Zbzi.info? 177).map (·.size)=some Zef.sz:=by kernel_rfl
theorem Zbby:Fld Zbzi 177 1 Zef (Kd.int .i64) (fun x:Zds=>x.on):=Fld.of ⟨_,(Kd.int .i64),1,fun x:Zds=>x.on⟩ (Zbzh (i:=1) rfl) 1 rfl (by kernel_rfl) (by decide)
theorem Z9x:Fld Zbzi 177 2 Zef Kd.str (fun x:Zds=>x.has):=Fld.of ⟨_,Kd.str,2,fun x:Zds=>x.has⟩ (Zbzh (i:=2) rfl) 2 rfl (by kernel_rfl) (by decide)
theorem V0:Ty Zbzi 9 Kd.str:=⟨by kernel_rfl,by kernel_rfl⟩
theorem Z4i:Ext Zbzi 156 Extern.MathFloatBits.float64frombits:=⟨_,Tryz.func156,rfl,rfl,by kernel_rfl,by kernel_rfl⟩
theorem Zbpf:Zi Zbzi 160:=by
 unfold Zi
 kernel_rfl
theorem Ztg:Zi Zbzi 115:=by
 unfold Zi
 kernel_rfl
theorem Zy0:Ext Zbzi 114 Extern.MathFloatBits.float64bits:=⟨_,Tryz.func114,rfl,rfl,by kernel_rfl,by kernel_rfl⟩
theorem Zww:Zi Zbzi 157:=by
 unfold Zi
 kernel_rfl
theorem Zf1:(Zbzi.info? 139).map (·.size)=some Zy.sz:=by kernel_rfl
theorem Zev:Ty Zbzi 139 Zy:=⟨by kernel_rfl,by kernel_rfl⟩
theorem Zs1 (j:Nat) {N d:Nat} {o:Oper} {uses:Z8} (hop:o.op=.alloc 139) (hd:o.dst=some d):OB Zbzi N o uses [(d,pBox Zy j (default:Zn))] [j+1]:=Zf0 (zs:=[.float .f64 0,.string ByteArray.empty]) (by kernel_rfl) (fun g=>Zbcr g) hop hd
theorem Zeq:Fld Zbzi 139 1 Zy Kd.str (fun x:Zn=>x.Name):=Fld.of ⟨_,Kd.str,1,fun x:Zn=>x.Name⟩ (Zbzh (i:=1) rfl) 1 rfl (by kernel_rfl) (by decide)
theorem Zgd:Fld Zbzi 139 0 Zy Kd.flt (fun x:Zn=>x.Score):=Fld.of ⟨_,Kd.flt,0,fun x:Zn=>x.Score⟩ (Zbzh (i:=0) rfl) 0 rfl (by kernel_rfl) (by decide)
theorem Zdk:Ty Zbzi 97 Kd.flt:=⟨by kernel_rfl,by kernel_rfl⟩
theorem Zwa:Zi Zbzi 112:=by
 unfold Zi
 kernel_rfl
theorem Zfd:Fld Zbzi 100 0 Zg (Kd.int .i64) (fun x:Zb=>x.Kind):=Fld.of ⟨_,(Kd.int .i64),0,fun x:Zb=>x.Kind⟩ (Zbzh (i:=0) rfl) 0 rfl (by kernel_rfl) (by decide)
theorem Zdc:Fld Zbzi 100 1 Zg (Kd.int .i64) (fun x:Zb=>x.Num):=Fld.of ⟨_,(Kd.int .i64),1,fun x:Zb=>x.Num⟩ (Zbzh (i:=1) rfl) 1 rfl (by kernel_rfl) (by decide)
theorem U8:Ty Zbzi 2 (Kd.int .i64):=⟨by kernel_rfl,by kernel_rfl⟩
theorem Zjt:Fld Zbzi 100 2 Zg (Kd.int .i64) (fun x:Zb=>x.Low):=Fld.of ⟨_,(Kd.int .i64),2,fun x:Zb=>x.Low⟩ (Zbzh (i:=2) rfl) 2 rfl (by kernel_rfl) (by decide)
theorem Zjz:Fld Zbzi 100 3 Zg (Kd.int .i64) (fun x:Zb=>x.High):=Fld.of ⟨_,(Kd.int .i64),3,fun x:Zb=>x.High⟩ (Zbzh (i:=3) rfl) 3 rfl (by kernel_rfl) (by decide)
theorem Zga:Fld Zbzi 100 4 Zg Kd.flt (fun x:Zb=>x.Real):=Fld.of ⟨_,Kd.flt,4,fun x:Zb=>x.Real⟩ (Zbzh (i:=4) rfl) 4 rfl (by kernel_rfl) (by decide)
theorem Zhb:Fld Zbzi 100 5 Zg (Kd.int .i64) (fun x:Zb=>x.Cap):=Fld.of ⟨_,(Kd.int .i64),5,fun x:Zb=>x.Cap⟩ (Zbzh (i:=5) rfl) 5 rfl (by kernel_rfl) (by decide)
theorem Zi1:Fld Zbzi 100 6 Zg Kd.str (fun x:Zb=>x.Text):=Fld.of ⟨_,Kd.str,6,fun x:Zb=>x.Text⟩ (Zbzh (i:=6) rfl) 6 rfl (by kernel_rfl) (by decide)
theorem Zcm:Fld Zbzi 100 7 Zg Zy.sl (fun x:Zb=>x.List):=Fld.of ⟨_,Zy.sl,7,fun x:Zb=>x.List⟩ (Zbzh (i:=7) rfl) 7 rfl (by kernel_rfl) (by decide)
theorem Zdx:Ty Zbzi 98 Zy.sl:=⟨by kernel_rfl,by kernel_rfl⟩
theorem Zbo3:Zi Zbzi 159:=by
 unfold Zi
 kernel_rfl
theorem Zbpz:Zi Zbzi 158:=by
 unfold Zi
 kernel_rfl
theorem Zq3:Zi Zbzi 87:=by
 unfold Zi
 kernel_rfl
theorem Zd8:Fld Zbzi 117 2 Z6 (Kd.int .i64) (fun x:Zw=>x.N):=Fld.of ⟨_,(Kd.int .i64),2,fun x:Zw=>x.N⟩ (Zbzh (i:=2) rfl) 2 rfl (by kernel_rfl) (by decide)
theorem Zit:Fld Zbzi 117 3 Z6 Kd.flt (fun x:Zw=>x.X):=Fld.of ⟨_,Kd.flt,3,fun x:Zw=>x.X⟩ (Zbzh (i:=3) rfl) 3 rfl (by kernel_rfl) (by decide)
theorem Zfe:Fld Zbzi 117 4 Z6 Kd.str (fun x:Zw=>x.S):=Fld.of ⟨_,Kd.str,4,fun x:Zw=>x.S⟩ (Zbzh (i:=4) rfl) 4 rfl (by kernel_rfl) (by decide)
theorem Zob:Fld Zbzi 117 5 Z6 Zg (fun x:Zw=>x.Make):=Fld.of ⟨_,Zg,5,fun x:Zw=>x.Make⟩ (Zbzh (i:=5) rfl) 5 rfl (by kernel_rfl) (by decide)
theorem Zbd:Ty Zbzi 100 Zg:=⟨by kernel_rfl,by kernel_rfl⟩
theorem Zqf {N d:Nat} {o:Oper} {uses:Z8}   (hop:o.op=.build 100 #[]) (hd:o.dst=some d) :OB Zbzi N o uses [(d,Zg.pd {Kind:=(0:Int),Num:=(0:Int),Low:=(0:Int),High:=(0:Int),Real:=(0:Nat),Cap:=(0:Int),Text:=ByteArray.empty,List:=([]:List Zn)})] []:=by
 refine Zdj hop hd fun a g hh=>?_
 refine⟨.agg #[.int .i64 0,.int .i64 0,.int .i64 0,.int .i64 0,.float .f64 0,.int .i64 0,.string ByteArray.empty,.slice none 0 0],?_,[.int .i64 0,.int .i64 0,.int .i64 0,.int .i64 0,.float .f64 0,.int .i64 0,.string ByteArray.empty,.slice none 0 0],⟨rfl,(Qc.2 ⟨(rfl),(Qc.2 ⟨(rfl),(Qc.2 ⟨(rfl),(Qc.2 ⟨(rfl),(Qc.2 ⟨(rfl),(Qc.2 ⟨(rfl),(Qc.2 ⟨(rfl),(Qc.2 ⟨(⟨none,0,rfl,Zbz1 _,Zbz2 _,.inl rfl⟩),(fun _ h=>by cases h)⟩)⟩)⟩)⟩)⟩)⟩)⟩)⟩)⟩,rfl⟩
 simp only[Zbzk,Zbzm,Zbzl,Zbzl]
 exact Zc7 Tryz.underlying100 (zero:=.agg #[.int .i64 0,.int .i64 0,.int .i64 0,.int .i64 0,.float .f64 0,.int .i64 0,.string ByteArray.empty,.slice none 0 0]) (by kernel_rfl) (places:=[(0,1),(1,1),(2,1),(3,1),(4,1),(5,1),(6,1),(7,1)]) (by kernel_rfl) (by kernel_rfl) g.w
theorem Zbq4:Zi Zbzi 113:=by
 unfold Zi
 kernel_rfl
theorem Z3f (j:Nat) {N d:Nat} {o:Oper} {uses:Z8} (hop:o.op=.alloc 207) (hd:o.dst=some d):OB Zbzi N o uses [(d,pBox Zc4 j (default:Zck))] [j+1]:=Zf0 (zs:=[.bool false,.bool false,.bool false,.bool false,.bool false]) (by kernel_rfl) (fun g=>Z9y g) hop hd
theorem Zbkn {N d:Nat} {o:Oper} {uses:Z8} {x0:Operand} {v0:Bool} (hop:o.op=.build 207 #[(0,x0)]) (hd:o.dst=some d) (h0:Opd uses x0 (Kd.bool.pd v0)):OB Zbzi N o uses [(d,Zc4.pd {text:=v0,num:=false,bounds:=false,real:=false,list:=false})] []:=by
 refine Zdj hop hd fun a g hh=>?_
 obtain⟨c0,k0,e0⟩:=h0 a g hh
 obtain rfl:=k0
 refine⟨.agg #[.bool v0,.bool false,.bool false,.bool false,.bool false],?_,[.bool v0,.bool false,.bool false,.bool false,.bool false],⟨rfl,(Qc.2 ⟨rfl,(Qc.2 ⟨(rfl),(Qc.2 ⟨(rfl),(Qc.2 ⟨(rfl),(Qc.2 ⟨(rfl),(fun _ h=>by cases h)⟩)⟩)⟩)⟩)⟩)⟩,rfl⟩
 simp only[Zbzk,Zbzm,Zbzl,e0]
 exact Zc7 Zbzz (zero:=.agg #[.bool false,.bool false,.bool false,.bool false,.bool false]) (by kernel_rfl) (places:=[(0,1),(1,1),(2,1),(3,1),(4,1)]) (by kernel_rfl) (by kernel_rfl) g.w
theorem Zk5:Ty Zbzi 207 Zc4:=⟨by kernel_rfl,by kernel_rfl⟩
theorem Zbjp {N d:Nat} {o:Oper} {uses:Z8} {x1:Operand} {v1:Bool} (hop:o.op=.build 207 #[(1,x1)]) (hd:o.dst=some d) (h1:Opd uses x1 (Kd.bool.pd v1)):OB Zbzi N o uses [(d,Zc4.pd {text:=false,num:=v1,bounds:=false,real:=false,list:=false})] []:=by
 refine Zdj hop hd fun a g hh=>?_
 obtain⟨c1,k1,e1⟩:=h1 a g hh
 obtain rfl:=k1
 refine⟨.agg #[.bool false,.bool v1,.bool false,.bool false,.bool false],?_,[.bool false,.bool v1,.bool false,.bool false,.bool false],⟨rfl,(Qc.2 ⟨(rfl),(Qc.2 ⟨rfl,(Qc.2 ⟨(rfl),(Qc.2 ⟨(rfl),(Qc.2 ⟨(rfl),(fun _ h=>by cases h)⟩)⟩)⟩)⟩)⟩)⟩,rfl⟩
 simp only[Zbzk,Zbzm,Zbzl,e1]
 exact Zc7 Zbzz (zero:=.agg #[.bool false,.bool false,.bool false,.bool false,.bool false]) (by kernel_rfl) (places:=[(0,1),(1,1),(2,1),(3,1),(4,1)]) (by kernel_rfl) (by kernel_rfl) g.w
theorem Zbe0 {N d:Nat} {o:Oper} {uses:Z8} {x1:Operand} {x2:Operand} {v1:Bool} {v2:Bool} (hop:o.op=.build 207 #[(1,x1),(2,x2)]) (hd:o.dst=some d) (h1:Opd uses x1 (Kd.bool.pd v1)) (h2:Opd uses x2 (Kd.bool.pd v2)):OB Zbzi N o uses [(d,Zc4.pd {text:=false,num:=v1,bounds:=v2,real:=false,list:=false})] []:=by
 refine Zdj hop hd fun a g hh=>?_
 obtain⟨c1,k1,e1⟩:=h1 a g hh
 obtain rfl:=k1
 obtain⟨c2,k2,e2⟩:=h2 a g hh
 obtain rfl:=k2
 refine⟨.agg #[.bool false,.bool v1,.bool v2,.bool false,.bool false],?_,[.bool false,.bool v1,.bool v2,.bool false,.bool false],⟨rfl,(Qc.2 ⟨(rfl),(Qc.2 ⟨rfl,(Qc.2 ⟨rfl,(Qc.2 ⟨(rfl),(Qc.2 ⟨(rfl),(fun _ h=>by cases h)⟩)⟩)⟩)⟩)⟩)⟩,rfl⟩
 simp only[Zbzk,Zbzm,Zbzl,e1,e2]
 exact Zc7 Zbzz (zero:=.agg #[.bool false,.bool false,.bool false,.bool false,.bool false]) (by kernel_rfl) (places:=[(0,1),(1,1),(2,1),(3,1),(4,1)]) (by kernel_rfl) (by kernel_rfl) g.w
theorem Zbj9 {N d:Nat} {o:Oper} {uses:Z8} {x3:Operand} {v3:Bool} (hop:o.op=.build 207 #[(3,x3)]) (hd:o.dst=some d) (h3:Opd uses x3 (Kd.bool.pd v3)):OB Zbzi N o uses [(d,Zc4.pd {text:=false,num:=false,bounds:=false,real:=v3,list:=false})] []:=by
 refine Zdj hop hd fun a g hh=>?_
 obtain⟨c3,k3,e3⟩:=h3 a g hh
 obtain rfl:=k3
 refine⟨.agg #[.bool false,.bool false,.bool false,.bool v3,.bool false],?_,[.bool false,.bool false,.bool false,.bool v3,.bool false],⟨rfl,(Qc.2 ⟨(rfl),(Qc.2 ⟨(rfl),(Qc.2 ⟨(rfl),(Qc.2 ⟨rfl,(Qc.2 ⟨(rfl),(fun _ h=>by cases h)⟩)⟩)⟩)⟩)⟩)⟩,rfl⟩
 simp only[Zbzk,Zbzm,Zbzl,e3]
 exact Zc7 Zbzz (zero:=.agg #[.bool false,.bool false,.bool false,.bool false,.bool false]) (by kernel_rfl) (places:=[(0,1),(1,1),(2,1),(3,1),(4,1)]) (by kernel_rfl) (by kernel_rfl) g.w
theorem Zblf {N d:Nat} {o:Oper} {uses:Z8} {x4:Operand} {v4:Bool} (hop:o.op=.build 207 #[(4,x4)]) (hd:o.dst=some d) (h4:Opd uses x4 (Kd.bool.pd v4)):OB Zbzi N o uses [(d,Zc4.pd {text:=false,num:=false,bounds:=false,real:=false,list:=v4})] []:=by
 refine Zdj hop hd fun a g hh=>?_
 obtain⟨c4,k4,e4⟩:=h4 a g hh
 obtain rfl:=k4
 refine⟨.agg #[.bool false,.bool false,.bool false,.bool false,.bool v4],?_,[.bool false,.bool false,.bool false,.bool false,.bool v4],⟨rfl,(Qc.2 ⟨(rfl),(Qc.2 ⟨(rfl),(Qc.2 ⟨(rfl),(Qc.2 ⟨(rfl),(Qc.2 ⟨rfl,(fun _ h=>by cases h)⟩)⟩)⟩)⟩)⟩)⟩,rfl⟩
 simp only[Zbzk,Zbzm,Zbzl,e4]
 exact Zc7 Zbzz (zero:=.agg #[.bool false,.bool false,.bool false,.bool false,.bool false]) (by kernel_rfl) (places:=[(0,1),(1,1),(2,1),(3,1),(4,1)]) (by kernel_rfl) (by kernel_rfl) g.w
theorem Zbng {N d:Nat} {o:Oper} {uses:Z8}   (hop:o.op=.build 207 #[]) (hd:o.dst=some d) :OB Zbzi N o uses [(d,Zc4.pd {text:=false,num:=false,bounds:=false,real:=false,list:=false})] []:=by
 refine Zdj hop hd fun a g hh=>?_
 refine⟨.agg #[.bool false,.bool false,.bool false,.bool false,.bool false],?_,[.bool false,.bool false,.bool false,.bool false,.bool false],⟨rfl,(Qc.2 ⟨(rfl),(Qc.2 ⟨(rfl),(Qc.2 ⟨(rfl),(Qc.2 ⟨(rfl),(Qc.2 ⟨(rfl),(fun _ h=>by cases h)⟩)⟩)⟩)⟩)⟩)⟩,rfl⟩
 simp only[Zbzk,Zbzm,Zbzl,Zbzl]
 exact Zc7 Zbzz (zero:=.agg #[.bool false,.bool false,.bool false,.bool false,.bool false]) (by kernel_rfl) (places:=[(0,1),(1,1),(2,1),(3,1),(4,1)]) (by kernel_rfl) (by kernel_rfl) g.w
theorem Z2i:Fld Zbzi 207 0 Zc4 Kd.bool (fun x:Zck=>x.text):=Fld.of ⟨_,Kd.bool,0,fun x:Zck=>x.text⟩ (Zbzh (i:=0) rfl) 0 rfl (by kernel_rfl) (by decide)
theorem Z1x:Fld Zbzi 207 1 Zc4 Kd.bool (fun x:Zck=>x.num):=Fld.of ⟨_,Kd.bool,1,fun x:Zck=>x.num⟩ (Zbzh (i:=1) rfl) 1 rfl (by kernel_rfl) (by decide)
theorem Zx0:Fld Zbzi 207 2 Zc4 Kd.bool (fun x:Zck=>x.bounds):=Fld.of ⟨_,Kd.bool,2,fun x:Zck=>x.bounds⟩ (Zbzh (i:=2) rfl) 2 rfl (by kernel_rfl) (by decide)
theorem Z16:Fld Zbzi 207 3 Zc4 Kd.bool (fun x:Zck=>x.real):=Fld.of ⟨_,Kd.bool,3,fun x:Zck=>x.real⟩ (Zbzh (i:=3) rfl) 3 rfl (by kernel_rfl) (by decide)
theorem Zxe:Fld Zbzi 207 4 Zc4 Kd.bool (fun x:Zck=>x.list):=Fld.of ⟨_,Kd.bool,4,fun x:Zck=>x.list⟩ (Zbzh (i:=4) rfl) 4 rfl (by kernel_rfl) (by decide)
theorem Zbbs:Zi Zbzi 165:=by
 unfold Zi
 kernel_rfl
theorem Zbfj:Zi Zbzi 93:=by
 unfold Zi
 kernel_rfl
theorem Zbbq:Zi Zbzi 161:=by
 unfold Zi
 kernel_rfl
theorem Z92:Zi Zbzi 111:=by
 unfold Zi
 kernel_rfl
theorem Zbqm:Zi Zbzi 116:=by
 unfold Zi
 kernel_rfl
theorem Zbot:Zi Zbzi 117:=by
 unfold Zi
 kernel_rfl
theorem Zdh:Fld Zbzi 117 0 Z6 (Kd.int .i64) (fun x:Zw=>x.Kind):=Fld.of ⟨_,(Kd.int .i64),0,fun x:Zw=>x.Kind⟩ (Zbzh (i:=0) rfl) 0 rfl (by kernel_rfl) (by decide)
theorem Z70:Zi Zbzi 84:=by
 unfold Zi
 kernel_rfl
theorem Zbke:Fld Zbzi 177 0 Zef Kd.str (fun x:Zds=>x.word):=Fld.of ⟨_,Kd.str,0,fun x:Zds=>x.word⟩ (Zbzh (i:=0) rfl) 0 rfl (by kernel_rfl) (by decide)
theorem Zjy:Fld Zbzi 117 1 Z6 Kd.str (fun x:Zw=>x.Key):=Fld.of ⟨_,Kd.str,1,fun x:Zw=>x.Key⟩ (Zbzh (i:=1) rfl) 1 rfl (by kernel_rfl) (by decide)
theorem Zgb:Ty Zbzi 117 Z6:=⟨by kernel_rfl,by kernel_rfl⟩
theorem Zbs6:Zi Zbzi 92:=by
 unfold Zi
 kernel_rfl
theorem Zbl8:Zi Zbzi 90:=by
 unfold Zi
 kernel_rfl
theorem Z77:Zi Zbzi 94:=by
 unfold Zi
 kernel_rfl
theorem Zjh:Fld Zbzi 79 0 Zb1 Z6.sl (fun x:Zbj=>x.Acts):=Fld.of ⟨_,Z6.sl,0,fun x:Zbj=>x.Acts⟩ (Zbzh (i:=0) rfl) 0 rfl (by kernel_rfl) (by decide)
theorem Zod:Ty Zbzi 77 Z6.sl:=⟨by kernel_rfl,by kernel_rfl⟩
theorem Zub:(Zbzi.info? 117).map (·.size)=some Z6.sz:=by kernel_rfl
theorem Zwg (j:Nat) {N d:Nat} {o:Oper} {uses:Z8} (hop:o.op=.alloc 117) (hd:o.dst=some d):OB Zbzi N o uses [(d,pBox Z6 j (default:Zw))] [j+1]:=Zf0 (zs:=[.int .i64 0,.string ByteArray.empty,.int .i64 0,.float .f64 0,.string ByteArray.empty,.int .i64 0,.int .i64 0,.int .i64 0,.int .i64 0,.float .f64 0,.int .i64 0,.string ByteArray.empty,.slice none 0 0,.bool false]) (by kernel_rfl) (fun g=>Zbfm g) hop hd
theorem Zbgg:Zi Zbzi 64:=by
 unfold Zi
 kernel_rfl
structure Zq4 where
 b:SlV
def Z1u:List (Kd.FK Zq4):=[⟨_,Kd.raw,0,fun x:Zq4=>x.b⟩]
def Zbp:Kd Zq4:=Kd.struct 1 Z1u (by rfl)
def Zbg (x:Zu) (s:SlV):Zq4:=⟨s⟩
theorem Z2k:∀g,Zbp.K g (Zbg ((default:Zu)) (none,0,0)) [.slice none 0 0]:=fun g=>⟨rfl,(Qc.2 ⟨rfl,(fun _ h=>by cases h)⟩)⟩
theorem Zjq {x:Zu} {g:G} {cs ys:List Value} {s0 s1:SlV} (hk:Zbp.K g (Zbg x s0) cs) (hy:Kd.raw.K g s1 ys):0+ys.length≤cs.length∧Zbp.K g (Zbg x s1) (Zr cs 0 ys):=by
 have hc:cs.length=1:=hk.1
 have hl:ys.length=1:=Kd.raw.len hy
 exact⟨by omega,(Zb7 (by omega)).trans hc,(Qc.2 ⟨(by show Kd.raw.K g s1 (seg (Zr cs 0 ys) 0 1);rw[Zb6 (by omega) hl];exact hy),(fun _ h=>by cases h)⟩)⟩
theorem Zn3:Ty Zbzi 70 Kd.raw:=⟨by kernel_rfl,by kernel_rfl⟩
theorem Zxr {x:Zu} {g:G} {s:SlV} {cs:List Value} (h:Zbp.K g (Zbg x s) cs):Kd.raw.K g s (seg cs 0 1):=h.2 _ (Zbzh (i:=0) rfl)
abbrev Zcq:Zu→List Int:=fun x=>x.b
abbrev obWr:ObR Zu:=obR Zbp Zbg Zcq (Kd.int .u8) 5
theorem Zjx:PF Zbzi 154 0 0:=by
 unfold PF
 kernel_rfl
theorem Zt2:Zi Zbzi 65:=by
 unfold Zi
 kernel_rfl
theorem Z2z:Zi Zbzi 119:=by
 unfold Zi
 kernel_rfl
theorem Z36:Zi Zbzi 120:=by
 unfold Zi
 kernel_rfl
theorem Z8s:Zi Zbzi 121:=by
 unfold Zi
 kernel_rfl
theorem Zu8:Fld Zbzi 117 6 Z6 Kd.bool (fun x:Zw=>x.Must):=Fld.of ⟨_,Kd.bool,13,fun x:Zw=>x.Must⟩ (Zbzh (i:=6) rfl) 13 rfl (by kernel_rfl) (by decide)
theorem Zbqh:Zi Zbzi 118:=by
 unfold Zi
 kernel_rfl
theorem Zbp2:Zi Zbzi 122:=by
 unfold Zi
 kernel_rfl
theorem Zbs4:Zi Zbzi 95:=by
 unfold Zi
 kernel_rfl
theorem Zws:Fld Zbzi 53 0 Zde (Kd.int .i64) (fun x:Zbc=>x.Number):=Fld.of ⟨_,(Kd.int .i64),0,fun x:Zbc=>x.Number⟩ (Zbzh (i:=0) rfl) 0 rfl (by kernel_rfl) (by decide)
theorem Zv7:Fld Zbzi 53 1 Zde Zb1.sl (fun x:Zbc=>x.Deals):=Fld.of ⟨_,Zb1.sl,1,fun x:Zbc=>x.Deals⟩ (Zbzh (i:=1) rfl) 1 rfl (by kernel_rfl) (by decide)
theorem Z0d:Ty Zbzi 49 Zb1.sl:=⟨by kernel_rfl,by kernel_rfl⟩
theorem Z4n:(Zbzi.info? 79).map (·.size)=some Zb1.sz:=by kernel_rfl
theorem Zl8:Ty Zbzi 79 Zb1:=⟨by kernel_rfl,by kernel_rfl⟩
theorem Z4e (j:Nat) {N d:Nat} {o:Oper} {uses:Z8} (hop:o.op=.alloc 79) (hd:o.dst=some d):OB Zbzi N o uses [(d,pBox Zb1 j (default:Zbj))] [j+1]:=Zf0 (zs:=[.slice none 0 0]) (by kernel_rfl) (fun g=>Zbcp g) hop hd
theorem Zbrp:Zi Zbzi 66:=by
 unfold Zi
 kernel_rfl
theorem Zbsy:Zi Zbzi 67:=by
 unfold Zi
 kernel_rfl
theorem Zbmi:Zi Zbzi 40:=by
 unfold Zi
 kernel_rfl
theorem Zqd:Ty Zbzi 53 Zde:=⟨by kernel_rfl,by kernel_rfl⟩
theorem Zbme:Zi Zbzi 41:=by
 unfold Zi
 kernel_rfl
theorem Zxp:Ty Zbzi 72 Zdw:=⟨by kernel_rfl,by kernel_rfl⟩
theorem Z8m {N d:Nat} {o:Oper} {uses:Z8}   (hop:o.op=.build 72 #[]) (hd:o.dst=some d) :OB Zbzi N o uses [(d,Zdw.pd {Code:=(0:Int),At:=(0:Int)})] []:=by
 refine Zdj hop hd fun a g hh=>?_
 refine⟨.agg #[.int .i64 0,.int .i64 0],?_,[.int .i64 0,.int .i64 0],⟨rfl,(Qc.2 ⟨(rfl),(Qc.2 ⟨(rfl),(fun _ h=>by cases h)⟩)⟩)⟩,rfl⟩
 simp only[Zbzk,Zbzm,Zbzl,Zbzl]
 exact Zc7 Zb0g (zero:=.agg #[.int .i64 0,.int .i64 0]) (by kernel_rfl) (places:=[(0,1),(1,1)]) (by kernel_rfl) (by kernel_rfl) g.w
theorem Zbkw {N d:Nat} {o:Oper} {uses:Z8} {x0:Operand} {v0:List Int} (hop:o.op=.build 147 #[(0,x0)]) (hd:o.dst=some d) (h0:Opd uses x0 (((Kd.int .u8).sl).pd v0)):OB Zbzi N o uses [(d,Z0.pd {b:=v0,at_:=(0:Int)})] []:=by
 refine Zdj hop hd fun a g hh=>?_
 obtain⟨c0,k0,e0⟩:=h0 a g hh
 obtain⟨A0,n0,rfl,l0⟩:=k0
 refine⟨.agg #[.slice A0 v0.length n0,.int .i64 0],?_,[.slice A0 v0.length n0,.int .i64 0],⟨rfl,(Qc.2 ⟨⟨A0,n0,rfl,l0⟩,(Qc.2 ⟨(rfl),(fun _ h=>by cases h)⟩)⟩)⟩,rfl⟩
 simp only[Zbzk,Zbzm,Zbzl,e0]
 exact Zc7 Tryz.underlying147 (zero:=.agg #[.slice none 0 0,.int .i64 0]) (by kernel_rfl) (places:=[(0,1),(1,1)]) (by kernel_rfl) (by kernel_rfl) g.w
theorem Zoi:PF Zbzi 147 1 1:=by
 unfold PF
 kernel_rfl
theorem Zra {v:Zh} {g:G} {cs:List Value} (h:Z0.K g v cs):(Kd.int .i64).K g v.at_ (seg cs 1 1):=h.2 _ (Zbzh (i:=1) rfl)
theorem Zxs:PF Zbzi 147 0 0:=by
 unfold PF
 kernel_rfl
theorem Z3c:Ty Zbzi 70 (Kd.int .u8).sl:=⟨by kernel_rfl,by kernel_rfl⟩
theorem Zxj {v:Zh} {g:G} {cs:List Value} (h:Z0.K g v cs):((Kd.int .u8).sl).K g v.b (seg cs 0 1):=h.2 _ (Zbzh (i:=0) rfl)
theorem Zst:Zi Zbzi 60:=by
 unfold Zi
 kernel_rfl
theorem Z9e {v:Zh} {y:Int} {g:G} {cs ys:List Value} (hk:Z0.K g v cs) (hy:(Kd.int .i64).K g y ys):1+ys.length≤cs.length∧Z0.K g {v with at_:=y} (Zr cs 1 ys):=by
 have hc:cs.length=2:=hk.1
 have hl:ys.length=1:=(Kd.int .i64).len hy
 exact⟨by omega,(Zb7 (by omega)).trans hc,(Qc.2 ⟨(by show ((Kd.int .u8).sl).K g v.b (seg (Zr cs 1 ys) 0 1);rw[Zj (by omega) (by omega)];exact hk.2 _ (Zbzh (i:=0) rfl)),(Qc.2 ⟨(by show (Kd.int .i64).K g y (seg (Zr cs 1 ys) 1 1);rw[Zb6 (by omega) hl];exact hy),(fun _ h=>by cases h)⟩)⟩)⟩
theorem Zbfc:Zi Zbzi 83:=by
 unfold Zi
 kernel_rfl
theorem Zber:Zi Zbzi 59:=by
 unfold Zi
 kernel_rfl
theorem Zbmd:Zi Zbzi 62:=by
 unfold Zi
 kernel_rfl
theorem Zbpu:Zi Zbzi 110:=by
 unfold Zi
 kernel_rfl
theorem Ziv (j:Nat) {N d:Nat} {o:Oper} {uses:Z8} (hop:o.op=.alloc 100) (hd:o.dst=some d):OB Zbzi N o uses [(d,pBox Zg j (default:Zb))] [j+1]:=Zf0 (zs:=[.int .i64 0,.int .i64 0,.int .i64 0,.int .i64 0,.float .f64 0,.int .i64 0,.string ByteArray.empty,.slice none 0 0]) (by kernel_rfl) (fun g=>Zku g) hop hd
structure Zcx where
 Kind:Int
 Num:Int
 Low:Int
 High:Int
 Real:Nat
 Cap:Int
 Text:ByteArray
 List:SlV
def Z3v:List (Kd.FK Zcx):=[⟨_,(Kd.int .i64),0,fun x:Zcx=>x.Kind⟩,
 ⟨_,(Kd.int .i64),1,fun x:Zcx=>x.Num⟩,
 ⟨_,(Kd.int .i64),2,fun x:Zcx=>x.Low⟩,
 ⟨_,(Kd.int .i64),3,fun x:Zcx=>x.High⟩,
 ⟨_,Kd.flt,4,fun x:Zcx=>x.Real⟩,
 ⟨_,(Kd.int .i64),5,fun x:Zcx=>x.Cap⟩,
 ⟨_,Kd.str,6,fun x:Zcx=>x.Text⟩,
 ⟨_,Kd.raw,7,fun x:Zcx=>x.List⟩]
def Zb5:Kd Zcx:=Kd.struct 8 Z3v (by rfl)
def Zcc (x:Zb) (s:SlV):Zcx:=⟨x.Kind,x.Num,x.Low,x.High,x.Real,x.Cap,x.Text,s⟩
theorem Z3q:∀g,Zb5.K g (Zcc ((default:Zb)) (none,0,0)) [.int .i64 0,.int .i64 0,.int .i64 0,.int .i64 0,.float .f64 0,.int .i64 0,.string ByteArray.empty,.slice none 0 0]:=fun g=>⟨rfl,(Qc.2 ⟨(rfl),(Qc.2 ⟨(rfl),(Qc.2 ⟨(rfl),(Qc.2 ⟨(rfl),(Qc.2 ⟨(rfl),(Qc.2 ⟨(rfl),(Qc.2 ⟨(rfl),(Qc.2 ⟨rfl,(fun _ h=>by cases h)⟩)⟩)⟩)⟩)⟩)⟩)⟩)⟩)⟩
theorem Zvn {x:Zb} {e j:Nat}:∀(g:G) (s:SlV) (cs:List Value),Zb5.K g (Zcc x s) cs→(hpL (pRow Zy e j x.List)).p g s→Zg.K g x cs:=fun g s cs h hr=>⟨h.1,(Qc.2 ⟨(h.2 _ (Zbzh (i:=0) rfl)),(Qc.2 ⟨(h.2 _ (Zbzh (i:=1) rfl)),(Qc.2 ⟨(h.2 _ (Zbzh (i:=2) rfl)),(Qc.2 ⟨(h.2 _ (Zbzh (i:=3) rfl)),(Qc.2 ⟨(h.2 _ (Zbzh (i:=4) rfl)),(Qc.2 ⟨(h.2 _ (Zbzh (i:=5) rfl)),(Qc.2 ⟨(h.2 _ (Zbzh (i:=6) rfl)),(Qc.2 ⟨(Z3u (h.2 _ (Zbzh (i:=7) rfl)) hr.1),(fun _ h=>by cases h)⟩)⟩)⟩)⟩)⟩)⟩)⟩)⟩)⟩
theorem Z3o {x:Zb} {g:G} {cs ys:List Value} {s0 s1:SlV} (hk:Zb5.K g (Zcc x s0) cs) (hy:Kd.raw.K g s1 ys):7+ys.length≤cs.length∧Zb5.K g (Zcc x s1) (Zr cs 7 ys):=by
 have hc:cs.length=8:=hk.1
 have hl:ys.length=1:=Kd.raw.len hy
 exact⟨by omega,(Zb7 (by omega)).trans hc,(Qc.2 ⟨(by show (Kd.int .i64).K g x.Kind (seg (Zr cs 7 ys) 0 1);rw[Zj (by omega) (by omega)];exact hk.2 _ (Zbzh (i:=0) rfl)),(Qc.2 ⟨(by show (Kd.int .i64).K g x.Num (seg (Zr cs 7 ys) 1 1);rw[Zj (by omega) (by omega)];exact hk.2 _ (Zbzh (i:=1) rfl)),(Qc.2 ⟨(by show (Kd.int .i64).K g x.Low (seg (Zr cs 7 ys) 2 1);rw[Zj (by omega) (by omega)];exact hk.2 _ (Zbzh (i:=2) rfl)),(Qc.2 ⟨(by show (Kd.int .i64).K g x.High (seg (Zr cs 7 ys) 3 1);rw[Zj (by omega) (by omega)];exact hk.2 _ (Zbzh (i:=3) rfl)),(Qc.2 ⟨(by show Kd.flt.K g x.Real (seg (Zr cs 7 ys) 4 1);rw[Zj (by omega) (by omega)];exact hk.2 _ (Zbzh (i:=4) rfl)),(Qc.2 ⟨(by show (Kd.int .i64).K g x.Cap (seg (Zr cs 7 ys) 5 1);rw[Zj (by omega) (by omega)];exact hk.2 _ (Zbzh (i:=5) rfl)),(Qc.2 ⟨(by show Kd.str.K g x.Text (seg (Zr cs 7 ys) 6 1);rw[Zj (by omega) (by omega)];exact hk.2 _ (Zbzh (i:=6) rfl)),(Qc.2 ⟨(by show Kd.raw.K g s1 (seg (Zr cs 7 ys) 7 1);rw[Zb6 (by omega) hl];exact hy),(fun _ h=>by cases h)⟩)⟩)⟩)⟩)⟩)⟩)⟩)⟩)⟩
theorem Zvi:Fld Zbzi 100 0 Zb5 (Kd.int .i64) (fun x:Zcx=>x.Kind):=Fld.of ⟨_,(Kd.int .i64),0,fun x:Zcx=>x.Kind⟩ (Zbzh (i:=0) rfl) 0 rfl (by kernel_rfl) (by decide)
theorem Zbhn:Fld Zbzi 100 1 Zb5 (Kd.int .i64) (fun x:Zcx=>x.Num):=Fld.of ⟨_,(Kd.int .i64),1,fun x:Zcx=>x.Num⟩ (Zbzh (i:=1) rfl) 1 rfl (by kernel_rfl) (by decide)
theorem Zbhc:Fld Zbzi 100 2 Zb5 (Kd.int .i64) (fun x:Zcx=>x.Low):=Fld.of ⟨_,(Kd.int .i64),2,fun x:Zcx=>x.Low⟩ (Zbzh (i:=2) rfl) 2 rfl (by kernel_rfl) (by decide)
theorem Zbh8:Fld Zbzi 100 3 Zb5 (Kd.int .i64) (fun x:Zcx=>x.High):=Fld.of ⟨_,(Kd.int .i64),3,fun x:Zcx=>x.High⟩ (Zbzh (i:=3) rfl) 3 rfl (by kernel_rfl) (by decide)
theorem Zbh1:Fld Zbzi 100 4 Zb5 Kd.flt (fun x:Zcx=>x.Real):=Fld.of ⟨_,Kd.flt,4,fun x:Zcx=>x.Real⟩ (Zbzh (i:=4) rfl) 4 rfl (by kernel_rfl) (by decide)
theorem Zbhv:Fld Zbzi 100 5 Zb5 (Kd.int .i64) (fun x:Zcx=>x.Cap):=Fld.of ⟨_,(Kd.int .i64),5,fun x:Zcx=>x.Cap⟩ (Zbzh (i:=5) rfl) 5 rfl (by kernel_rfl) (by decide)
theorem Zbi8:Fld Zbzi 100 6 Zb5 Kd.str (fun x:Zcx=>x.Text):=Fld.of ⟨_,Kd.str,6,fun x:Zcx=>x.Text⟩ (Zbzh (i:=6) rfl) 6 rfl (by kernel_rfl) (by decide)
theorem Z6f:Fld Zbzi 100 7 Zb5 Kd.raw (fun x:Zcx=>x.List):=Fld.of ⟨_,Kd.raw,7,fun x:Zcx=>x.List⟩ (Zbzh (i:=7) rfl) 7 rfl (by kernel_rfl) (by decide)
theorem Zbhd:Ty Zbzi 98 Kd.raw:=⟨by kernel_rfl,by kernel_rfl⟩
theorem Zw6:Zi Zbzi 35:=by
 unfold Zi
 kernel_rfl
theorem Z0q {x:Zb} {g:G} {cs ys:List Value} {s0:SlV} {u:Int} (hk:Zb5.K g (Zcc x s0) cs) (hy:(Kd.int .i64).K g u ys):0+ys.length≤cs.length∧Zb5.K g (Zcc {x with Kind:=u} s0) (Zr cs 0 ys):=by
 have hc:cs.length=8:=hk.1
 have hl:ys.length=1:=(Kd.int .i64).len hy
 exact⟨by omega,(Zb7 (by omega)).trans hc,(Qc.2 ⟨(by show (Kd.int .i64).K g u (seg (Zr cs 0 ys) 0 1);rw[Zb6 (by omega) hl];exact hy),(Qc.2 ⟨(by show (Kd.int .i64).K g x.Num (seg (Zr cs 0 ys) 1 1);rw[Zj (by omega) (by omega)];exact hk.2 _ (Zbzh (i:=1) rfl)),(Qc.2 ⟨(by show (Kd.int .i64).K g x.Low (seg (Zr cs 0 ys) 2 1);rw[Zj (by omega) (by omega)];exact hk.2 _ (Zbzh (i:=2) rfl)),(Qc.2 ⟨(by show (Kd.int .i64).K g x.High (seg (Zr cs 0 ys) 3 1);rw[Zj (by omega) (by omega)];exact hk.2 _ (Zbzh (i:=3) rfl)),(Qc.2 ⟨(by show Kd.flt.K g x.Real (seg (Zr cs 0 ys) 4 1);rw[Zj (by omega) (by omega)];exact hk.2 _ (Zbzh (i:=4) rfl)),(Qc.2 ⟨(by show (Kd.int .i64).K g x.Cap (seg (Zr cs 0 ys) 5 1);rw[Zj (by omega) (by omega)];exact hk.2 _ (Zbzh (i:=5) rfl)),(Qc.2 ⟨(by show Kd.str.K g x.Text (seg (Zr cs 0 ys) 6 1);rw[Zj (by omega) (by omega)];exact hk.2 _ (Zbzh (i:=6) rfl)),(Qc.2 ⟨(by show Kd.raw.K g s0 (seg (Zr cs 0 ys) 7 1);rw[Zj (by omega) (by omega)];exact hk.2 _ (Zbzh (i:=7) rfl)),(fun _ h=>by cases h)⟩)⟩)⟩)⟩)⟩)⟩)⟩)⟩)⟩
theorem Zxi:Zi Zbzi 36:=by
 unfold Zi
 kernel_rfl
theorem Z78:Zi Zbzi 86:=by
 unfold Zi
 kernel_rfl
theorem Z02 {x:Zb} {g:G} {cs ys:List Value} {s0:SlV} {u:ByteArray} (hk:Zb5.K g (Zcc x s0) cs) (hy:Kd.str.K g u ys):6+ys.length≤cs.length∧Zb5.K g (Zcc {x with Text:=u} s0) (Zr cs 6 ys):=by
 have hc:cs.length=8:=hk.1
 have hl:ys.length=1:=Kd.str.len hy
 exact⟨by omega,(Zb7 (by omega)).trans hc,(Qc.2 ⟨(by show (Kd.int .i64).K g x.Kind (seg (Zr cs 6 ys) 0 1);rw[Zj (by omega) (by omega)];exact hk.2 _ (Zbzh (i:=0) rfl)),(Qc.2 ⟨(by show (Kd.int .i64).K g x.Num (seg (Zr cs 6 ys) 1 1);rw[Zj (by omega) (by omega)];exact hk.2 _ (Zbzh (i:=1) rfl)),(Qc.2 ⟨(by show (Kd.int .i64).K g x.Low (seg (Zr cs 6 ys) 2 1);rw[Zj (by omega) (by omega)];exact hk.2 _ (Zbzh (i:=2) rfl)),(Qc.2 ⟨(by show (Kd.int .i64).K g x.High (seg (Zr cs 6 ys) 3 1);rw[Zj (by omega) (by omega)];exact hk.2 _ (Zbzh (i:=3) rfl)),(Qc.2 ⟨(by show Kd.flt.K g x.Real (seg (Zr cs 6 ys) 4 1);rw[Zj (by omega) (by omega)];exact hk.2 _ (Zbzh (i:=4) rfl)),(Qc.2 ⟨(by show (Kd.int .i64).K g x.Cap (seg (Zr cs 6 ys) 5 1);rw[Zj (by omega) (by omega)];exact hk.2 _ (Zbzh (i:=5) rfl)),(Qc.2 ⟨(by show Kd.str.K g u (seg (Zr cs 6 ys) 6 1);rw[Zb6 (by omega) hl];exact hy),(Qc.2 ⟨(by show Kd.raw.K g s0 (seg (Zr cs 6 ys) 7 1);rw[Zj (by omega) (by omega)];exact hk.2 _ (Zbzh (i:=7) rfl)),(fun _ h=>by cases h)⟩)⟩)⟩)⟩)⟩)⟩)⟩)⟩)⟩
theorem Z7p:Zi Zbzi 88:=by
 unfold Zi
 kernel_rfl
theorem Z1c {x:Zb} {g:G} {cs ys:List Value} {s0:SlV} {u:Int} (hk:Zb5.K g (Zcc x s0) cs) (hy:(Kd.int .i64).K g u ys):2+ys.length≤cs.length∧Zb5.K g (Zcc {x with Low:=u} s0) (Zr cs 2 ys):=by
 have hc:cs.length=8:=hk.1
 have hl:ys.length=1:=(Kd.int .i64).len hy
 exact⟨by omega,(Zb7 (by omega)).trans hc,(Qc.2 ⟨(by show (Kd.int .i64).K g x.Kind (seg (Zr cs 2 ys) 0 1);rw[Zj (by omega) (by omega)];exact hk.2 _ (Zbzh (i:=0) rfl)),(Qc.2 ⟨(by show (Kd.int .i64).K g x.Num (seg (Zr cs 2 ys) 1 1);rw[Zj (by omega) (by omega)];exact hk.2 _ (Zbzh (i:=1) rfl)),(Qc.2 ⟨(by show (Kd.int .i64).K g u (seg (Zr cs 2 ys) 2 1);rw[Zb6 (by omega) hl];exact hy),(Qc.2 ⟨(by show (Kd.int .i64).K g x.High (seg (Zr cs 2 ys) 3 1);rw[Zj (by omega) (by omega)];exact hk.2 _ (Zbzh (i:=3) rfl)),(Qc.2 ⟨(by show Kd.flt.K g x.Real (seg (Zr cs 2 ys) 4 1);rw[Zj (by omega) (by omega)];exact hk.2 _ (Zbzh (i:=4) rfl)),(Qc.2 ⟨(by show (Kd.int .i64).K g x.Cap (seg (Zr cs 2 ys) 5 1);rw[Zj (by omega) (by omega)];exact hk.2 _ (Zbzh (i:=5) rfl)),(Qc.2 ⟨(by show Kd.str.K g x.Text (seg (Zr cs 2 ys) 6 1);rw[Zj (by omega) (by omega)];exact hk.2 _ (Zbzh (i:=6) rfl)),(Qc.2 ⟨(by show Kd.raw.K g s0 (seg (Zr cs 2 ys) 7 1);rw[Zj (by omega) (by omega)];exact hk.2 _ (Zbzh (i:=7) rfl)),(fun _ h=>by cases h)⟩)⟩)⟩)⟩)⟩)⟩)⟩)⟩)⟩
theorem Z0p {x:Zb} {g:G} {cs ys:List Value} {s0:SlV} {u:Int} (hk:Zb5.K g (Zcc x s0) cs) (hy:(Kd.int .i64).K g u ys):3+ys.length≤cs.length∧Zb5.K g (Zcc {x with High:=u} s0) (Zr cs 3 ys):=by
 have hc:cs.length=8:=hk.1
 have hl:ys.length=1:=(Kd.int .i64).len hy
 exact⟨by omega,(Zb7 (by omega)).trans hc,(Qc.2 ⟨(by show (Kd.int .i64).K g x.Kind (seg (Zr cs 3 ys) 0 1);rw[Zj (by omega) (by omega)];exact hk.2 _ (Zbzh (i:=0) rfl)),(Qc.2 ⟨(by show (Kd.int .i64).K g x.Num (seg (Zr cs 3 ys) 1 1);rw[Zj (by omega) (by omega)];exact hk.2 _ (Zbzh (i:=1) rfl)),(Qc.2 ⟨(by show (Kd.int .i64).K g x.Low (seg (Zr cs 3 ys) 2 1);rw[Zj (by omega) (by omega)];exact hk.2 _ (Zbzh (i:=2) rfl)),(Qc.2 ⟨(by show (Kd.int .i64).K g u (seg (Zr cs 3 ys) 3 1);rw[Zb6 (by omega) hl];exact hy),(Qc.2 ⟨(by show Kd.flt.K g x.Real (seg (Zr cs 3 ys) 4 1);rw[Zj (by omega) (by omega)];exact hk.2 _ (Zbzh (i:=4) rfl)),(Qc.2 ⟨(by show (Kd.int .i64).K g x.Cap (seg (Zr cs 3 ys) 5 1);rw[Zj (by omega) (by omega)];exact hk.2 _ (Zbzh (i:=5) rfl)),(Qc.2 ⟨(by show Kd.str.K g x.Text (seg (Zr cs 3 ys) 6 1);rw[Zj (by omega) (by omega)];exact hk.2 _ (Zbzh (i:=6) rfl)),(Qc.2 ⟨(by show Kd.raw.K g s0 (seg (Zr cs 3 ys) 7 1);rw[Zj (by omega) (by omega)];exact hk.2 _ (Zbzh (i:=7) rfl)),(fun _ h=>by cases h)⟩)⟩)⟩)⟩)⟩)⟩)⟩)⟩)⟩
theorem Z0x {x:Zb} {g:G} {cs ys:List Value} {s0:SlV} {u:Int} (hk:Zb5.K g (Zcc x s0) cs) (hy:(Kd.int .i64).K g u ys):1+ys.length≤cs.length∧Zb5.K g (Zcc {x with Num:=u} s0) (Zr cs 1 ys):=by
 have hc:cs.length=8:=hk.1
 have hl:ys.length=1:=(Kd.int .i64).len hy
 exact⟨by omega,(Zb7 (by omega)).trans hc,(Qc.2 ⟨(by show (Kd.int .i64).K g x.Kind (seg (Zr cs 1 ys) 0 1);rw[Zj (by omega) (by omega)];exact hk.2 _ (Zbzh (i:=0) rfl)),(Qc.2 ⟨(by show (Kd.int .i64).K g u (seg (Zr cs 1 ys) 1 1);rw[Zb6 (by omega) hl];exact hy),(Qc.2 ⟨(by show (Kd.int .i64).K g x.Low (seg (Zr cs 1 ys) 2 1);rw[Zj (by omega) (by omega)];exact hk.2 _ (Zbzh (i:=2) rfl)),(Qc.2 ⟨(by show (Kd.int .i64).K g x.High (seg (Zr cs 1 ys) 3 1);rw[Zj (by omega) (by omega)];exact hk.2 _ (Zbzh (i:=3) rfl)),(Qc.2 ⟨(by show Kd.flt.K g x.Real (seg (Zr cs 1 ys) 4 1);rw[Zj (by omega) (by omega)];exact hk.2 _ (Zbzh (i:=4) rfl)),(Qc.2 ⟨(by show (Kd.int .i64).K g x.Cap (seg (Zr cs 1 ys) 5 1);rw[Zj (by omega) (by omega)];exact hk.2 _ (Zbzh (i:=5) rfl)),(Qc.2 ⟨(by show Kd.str.K g x.Text (seg (Zr cs 1 ys) 6 1);rw[Zj (by omega) (by omega)];exact hk.2 _ (Zbzh (i:=6) rfl)),(Qc.2 ⟨(by show Kd.raw.K g s0 (seg (Zr cs 1 ys) 7 1);rw[Zj (by omega) (by omega)];exact hk.2 _ (Zbzh (i:=7) rfl)),(fun _ h=>by cases h)⟩)⟩)⟩)⟩)⟩)⟩)⟩)⟩)⟩
theorem Zbeq:Zi Zbzi 89:=by
 unfold Zi
 kernel_rfl
theorem Z0w {x:Zb} {g:G} {cs ys:List Value} {s0:SlV} {u:Nat} (hk:Zb5.K g (Zcc x s0) cs) (hy:Kd.flt.K g u ys):4+ys.length≤cs.length∧Zb5.K g (Zcc {x with Real:=u} s0) (Zr cs 4 ys):=by
 have hc:cs.length=8:=hk.1
 have hl:ys.length=1:=Kd.flt.len hy
 exact⟨by omega,(Zb7 (by omega)).trans hc,(Qc.2 ⟨(by show (Kd.int .i64).K g x.Kind (seg (Zr cs 4 ys) 0 1);rw[Zj (by omega) (by omega)];exact hk.2 _ (Zbzh (i:=0) rfl)),(Qc.2 ⟨(by show (Kd.int .i64).K g x.Num (seg (Zr cs 4 ys) 1 1);rw[Zj (by omega) (by omega)];exact hk.2 _ (Zbzh (i:=1) rfl)),(Qc.2 ⟨(by show (Kd.int .i64).K g x.Low (seg (Zr cs 4 ys) 2 1);rw[Zj (by omega) (by omega)];exact hk.2 _ (Zbzh (i:=2) rfl)),(Qc.2 ⟨(by show (Kd.int .i64).K g x.High (seg (Zr cs 4 ys) 3 1);rw[Zj (by omega) (by omega)];exact hk.2 _ (Zbzh (i:=3) rfl)),(Qc.2 ⟨(by show Kd.flt.K g u (seg (Zr cs 4 ys) 4 1);rw[Zb6 (by omega) hl];exact hy),(Qc.2 ⟨(by show (Kd.int .i64).K g x.Cap (seg (Zr cs 4 ys) 5 1);rw[Zj (by omega) (by omega)];exact hk.2 _ (Zbzh (i:=5) rfl)),(Qc.2 ⟨(by show Kd.str.K g x.Text (seg (Zr cs 4 ys) 6 1);rw[Zj (by omega) (by omega)];exact hk.2 _ (Zbzh (i:=6) rfl)),(Qc.2 ⟨(by show Kd.raw.K g s0 (seg (Zr cs 4 ys) 7 1);rw[Zj (by omega) (by omega)];exact hk.2 _ (Zbzh (i:=7) rfl)),(fun _ h=>by cases h)⟩)⟩)⟩)⟩)⟩)⟩)⟩)⟩)⟩
theorem Z04 {x:Zb} {g:G} {cs ys:List Value} {s0:SlV} {u:Int} (hk:Zb5.K g (Zcc x s0) cs) (hy:(Kd.int .i64).K g u ys):5+ys.length≤cs.length∧Zb5.K g (Zcc {x with Cap:=u} s0) (Zr cs 5 ys):=by
 have hc:cs.length=8:=hk.1
 have hl:ys.length=1:=(Kd.int .i64).len hy
 exact⟨by omega,(Zb7 (by omega)).trans hc,(Qc.2 ⟨(by show (Kd.int .i64).K g x.Kind (seg (Zr cs 5 ys) 0 1);rw[Zj (by omega) (by omega)];exact hk.2 _ (Zbzh (i:=0) rfl)),(Qc.2 ⟨(by show (Kd.int .i64).K g x.Num (seg (Zr cs 5 ys) 1 1);rw[Zj (by omega) (by omega)];exact hk.2 _ (Zbzh (i:=1) rfl)),(Qc.2 ⟨(by show (Kd.int .i64).K g x.Low (seg (Zr cs 5 ys) 2 1);rw[Zj (by omega) (by omega)];exact hk.2 _ (Zbzh (i:=2) rfl)),(Qc.2 ⟨(by show (Kd.int .i64).K g x.High (seg (Zr cs 5 ys) 3 1);rw[Zj (by omega) (by omega)];exact hk.2 _ (Zbzh (i:=3) rfl)),(Qc.2 ⟨(by show Kd.flt.K g x.Real (seg (Zr cs 5 ys) 4 1);rw[Zj (by omega) (by omega)];exact hk.2 _ (Zbzh (i:=4) rfl)),(Qc.2 ⟨(by show (Kd.int .i64).K g u (seg (Zr cs 5 ys) 5 1);rw[Zb6 (by omega) hl];exact hy),(Qc.2 ⟨(by show Kd.str.K g x.Text (seg (Zr cs 5 ys) 6 1);rw[Zj (by omega) (by omega)];exact hk.2 _ (Zbzh (i:=6) rfl)),(Qc.2 ⟨(by show Kd.raw.K g s0 (seg (Zr cs 5 ys) 7 1);rw[Zj (by omega) (by omega)];exact hk.2 _ (Zbzh (i:=7) rfl)),(fun _ h=>by cases h)⟩)⟩)⟩)⟩)⟩)⟩)⟩)⟩)⟩
theorem Zbla {c:Option Nat} {N j s:Nat} {o:Oper} {uses:Z8} {x z:Operand} {v:Zn} {y0 y:Nat} {v0:Zn} {t:Nat} (hT:Ty Zbzi t Kd.flt) (hop:o.op=.store t x z) (hd:o.dst=none) (hs:Opd uses (.tmp s) (Zbm c Zy j v)) (hx:Opd uses x (Zfj Zy j v0 0 Kd.flt y0)) (hz:Opd uses z (Kd.flt.pd y)):OB Zbzi N o uses [(s,Zbm c Zy j {v with Score:=y})] [j+1] :=
 Zgl hT hop hd hs hx hz fun g cs ys hk hy=>by
  have hc:cs.length=2:=hk.1
  have hl:ys.length=1:=Kd.flt.len hy
  exact⟨by omega,(Zb7 (by omega)).trans hc,(Qc.2 ⟨(by show Kd.flt.K g y (seg (Zr cs 0 ys) 0 1);rw[Zb6 (by omega) hl];exact hy),(Qc.2 ⟨(by show Kd.str.K g v.Name (seg (Zr cs 0 ys) 1 1);rw[Zj (by omega) (by omega)];exact hk.2 _ (Zbzh (i:=1) rfl)),(fun _ h=>by cases h)⟩)⟩)⟩
theorem Zbkg {c:Option Nat} {N j s:Nat} {o:Oper} {uses:Z8} {x z:Operand} {v:Zn} {y0 y:ByteArray} {v0:Zn} {t:Nat} (hT:Ty Zbzi t Kd.str) (hop:o.op=.store t x z) (hd:o.dst=none) (hs:Opd uses (.tmp s) (Zbm c Zy j v)) (hx:Opd uses x (Zfj Zy j v0 1 Kd.str y0)) (hz:Opd uses z (Kd.str.pd y)):OB Zbzi N o uses [(s,Zbm c Zy j {v with Name:=y})] [j+1] :=
 Zgl hT hop hd hs hx hz fun g cs ys hk hy=>by
  have hc:cs.length=2:=hk.1
  have hl:ys.length=1:=Kd.str.len hy
  exact⟨by omega,(Zb7 (by omega)).trans hc,(Qc.2 ⟨(by show Kd.flt.K g v.Score (seg (Zr cs 1 ys) 0 1);rw[Zj (by omega) (by omega)];exact hk.2 _ (Zbzh (i:=0) rfl)),(Qc.2 ⟨(by show Kd.str.K g y (seg (Zr cs 1 ys) 1 1);rw[Zb6 (by omega) hl];exact hy),(fun _ h=>by cases h)⟩)⟩)⟩
theorem Zd4:TE Zbzi 98 139 Zy 24:=TE.of Zbzp (by kernel_rfl) (by decide) (by decide)
theorem Zbk5 {c:Option Nat} {N j s:Nat} {o:Oper} {uses:Z8} {x z:Operand} {v:Zw} {y0 y:Int} {v0:Zw} {t:Nat} (hT:Ty Zbzi t (Kd.int .i64)) (hop:o.op=.store t x z) (hd:o.dst=none) (hs:Opd uses (.tmp s) (Zbm c Z6 j v)) (hx:Opd uses x (Zfj Z6 j v0 0 (Kd.int .i64) y0)) (hz:Opd uses z ((Kd.int .i64).pd y)):OB Zbzi N o uses [(s,Zbm c Z6 j {v with Kind:=y})] [j+1] :=
 Zgl hT hop hd hs hx hz fun g cs ys hk hy=>by
  have hc:cs.length=14:=hk.1
  have hl:ys.length=1:=(Kd.int .i64).len hy
  exact⟨by omega,(Zb7 (by omega)).trans hc,(Qc.2 ⟨(by show (Kd.int .i64).K g y (seg (Zr cs 0 ys) 0 1);rw[Zb6 (by omega) hl];exact hy),(Qc.2 ⟨(by show Kd.str.K g v.Key (seg (Zr cs 0 ys) 1 1);rw[Zj (by omega) (by omega)];exact hk.2 _ (Zbzh (i:=1) rfl)),(Qc.2 ⟨(by show (Kd.int .i64).K g v.N (seg (Zr cs 0 ys) 2 1);rw[Zj (by omega) (by omega)];exact hk.2 _ (Zbzh (i:=2) rfl)),(Qc.2 ⟨(by show Kd.flt.K g v.X (seg (Zr cs 0 ys) 3 1);rw[Zj (by omega) (by omega)];exact hk.2 _ (Zbzh (i:=3) rfl)),(Qc.2 ⟨(by show Kd.str.K g v.S (seg (Zr cs 0 ys) 4 1);rw[Zj (by omega) (by omega)];exact hk.2 _ (Zbzh (i:=4) rfl)),(Qc.2 ⟨(by show Zg.K g v.Make (seg (Zr cs 0 ys) 5 8);rw[Zj (by omega) (by omega)];exact hk.2 _ (Zbzh (i:=5) rfl)),(Qc.2 ⟨(by show Kd.bool.K g v.Must (seg (Zr cs 0 ys) 13 1);rw[Zj (by omega) (by omega)];exact hk.2 _ (Zbzh (i:=6) rfl)),(fun _ h=>by cases h)⟩)⟩)⟩)⟩)⟩)⟩)⟩)⟩
theorem Zbsq:Zi Zbzi 85:=by
 unfold Zi
 kernel_rfl
theorem Zbj6 {c:Option Nat} {N j s:Nat} {o:Oper} {uses:Z8} {x z:Operand} {v:Zw} {y0 y:Bool} {v0:Zw} {t:Nat} (hT:Ty Zbzi t Kd.bool) (hop:o.op=.store t x z) (hd:o.dst=none) (hs:Opd uses (.tmp s) (Zbm c Z6 j v)) (hx:Opd uses x (Zfj Z6 j v0 13 Kd.bool y0)) (hz:Opd uses z (Kd.bool.pd y)):OB Zbzi N o uses [(s,Zbm c Z6 j {v with Must:=y})] [j+1] :=
 Zgl hT hop hd hs hx hz fun g cs ys hk hy=>by
  have hc:cs.length=14:=hk.1
  have hl:ys.length=1:=Kd.bool.len hy
  exact⟨by omega,(Zb7 (by omega)).trans hc,(Qc.2 ⟨(by show (Kd.int .i64).K g v.Kind (seg (Zr cs 13 ys) 0 1);rw[Zj (by omega) (by omega)];exact hk.2 _ (Zbzh (i:=0) rfl)),(Qc.2 ⟨(by show Kd.str.K g v.Key (seg (Zr cs 13 ys) 1 1);rw[Zj (by omega) (by omega)];exact hk.2 _ (Zbzh (i:=1) rfl)),(Qc.2 ⟨(by show (Kd.int .i64).K g v.N (seg (Zr cs 13 ys) 2 1);rw[Zj (by omega) (by omega)];exact hk.2 _ (Zbzh (i:=2) rfl)),(Qc.2 ⟨(by show Kd.flt.K g v.X (seg (Zr cs 13 ys) 3 1);rw[Zj (by omega) (by omega)];exact hk.2 _ (Zbzh (i:=3) rfl)),(Qc.2 ⟨(by show Kd.str.K g v.S (seg (Zr cs 13 ys) 4 1);rw[Zj (by omega) (by omega)];exact hk.2 _ (Zbzh (i:=4) rfl)),(Qc.2 ⟨(by show Zg.K g v.Make (seg (Zr cs 13 ys) 5 8);rw[Zj (by omega) (by omega)];exact hk.2 _ (Zbzh (i:=5) rfl)),(Qc.2 ⟨(by show Kd.bool.K g y (seg (Zr cs 13 ys) 13 1);rw[Zb6 (by omega) hl];exact hy),(fun _ h=>by cases h)⟩)⟩)⟩)⟩)⟩)⟩)⟩)⟩
theorem Zbkb {c:Option Nat} {N j s:Nat} {o:Oper} {uses:Z8} {x z:Operand} {v:Zw} {y0 y:ByteArray} {v0:Zw} {t:Nat} (hT:Ty Zbzi t Kd.str) (hop:o.op=.store t x z) (hd:o.dst=none) (hs:Opd uses (.tmp s) (Zbm c Z6 j v)) (hx:Opd uses x (Zfj Z6 j v0 1 Kd.str y0)) (hz:Opd uses z (Kd.str.pd y)):OB Zbzi N o uses [(s,Zbm c Z6 j {v with Key:=y})] [j+1] :=
 Zgl hT hop hd hs hx hz fun g cs ys hk hy=>by
  have hc:cs.length=14:=hk.1
  have hl:ys.length=1:=Kd.str.len hy
  exact⟨by omega,(Zb7 (by omega)).trans hc,(Qc.2 ⟨(by show (Kd.int .i64).K g v.Kind (seg (Zr cs 1 ys) 0 1);rw[Zj (by omega) (by omega)];exact hk.2 _ (Zbzh (i:=0) rfl)),(Qc.2 ⟨(by show Kd.str.K g y (seg (Zr cs 1 ys) 1 1);rw[Zb6 (by omega) hl];exact hy),(Qc.2 ⟨(by show (Kd.int .i64).K g v.N (seg (Zr cs 1 ys) 2 1);rw[Zj (by omega) (by omega)];exact hk.2 _ (Zbzh (i:=2) rfl)),(Qc.2 ⟨(by show Kd.flt.K g v.X (seg (Zr cs 1 ys) 3 1);rw[Zj (by omega) (by omega)];exact hk.2 _ (Zbzh (i:=3) rfl)),(Qc.2 ⟨(by show Kd.str.K g v.S (seg (Zr cs 1 ys) 4 1);rw[Zj (by omega) (by omega)];exact hk.2 _ (Zbzh (i:=4) rfl)),(Qc.2 ⟨(by show Zg.K g v.Make (seg (Zr cs 1 ys) 5 8);rw[Zj (by omega) (by omega)];exact hk.2 _ (Zbzh (i:=5) rfl)),(Qc.2 ⟨(by show Kd.bool.K g v.Must (seg (Zr cs 1 ys) 13 1);rw[Zj (by omega) (by omega)];exact hk.2 _ (Zbzh (i:=6) rfl)),(fun _ h=>by cases h)⟩)⟩)⟩)⟩)⟩)⟩)⟩)⟩
theorem Zbio {c:Option Nat} {N j s:Nat} {o:Oper} {uses:Z8} {x z:Operand} {v:Zw} {y0 y:ByteArray} {v0:Zw} {t:Nat} (hT:Ty Zbzi t Kd.str) (hop:o.op=.store t x z) (hd:o.dst=none) (hs:Opd uses (.tmp s) (Zbm c Z6 j v)) (hx:Opd uses x (Zfj Z6 j v0 1 Kd.str y0)) (hz:Opd uses z (Kd.str.pd y)):OB Zbzi N o uses [(s,Zbm c Z6 j (Z18 v y))] [j+1]:=Zbkb hT hop hd hs hx hz
theorem Zbjq {c:Option Nat} {N j s:Nat} {o:Oper} {uses:Z8} {x z:Operand} {v:Zw} {y0 y:Int} {v0:Zw} {t:Nat} (hT:Ty Zbzi t (Kd.int .i64)) (hop:o.op=.store t x z) (hd:o.dst=none) (hs:Opd uses (.tmp s) (Zbm c Z6 j v)) (hx:Opd uses x (Zfj Z6 j v0 2 (Kd.int .i64) y0)) (hz:Opd uses z ((Kd.int .i64).pd y)):OB Zbzi N o uses [(s,Zbm c Z6 j {v with N:=y})] [j+1] :=
 Zgl hT hop hd hs hx hz fun g cs ys hk hy=>by
  have hc:cs.length=14:=hk.1
  have hl:ys.length=1:=(Kd.int .i64).len hy
  exact⟨by omega,(Zb7 (by omega)).trans hc,(Qc.2 ⟨(by show (Kd.int .i64).K g v.Kind (seg (Zr cs 2 ys) 0 1);rw[Zj (by omega) (by omega)];exact hk.2 _ (Zbzh (i:=0) rfl)),(Qc.2 ⟨(by show Kd.str.K g v.Key (seg (Zr cs 2 ys) 1 1);rw[Zj (by omega) (by omega)];exact hk.2 _ (Zbzh (i:=1) rfl)),(Qc.2 ⟨(by show (Kd.int .i64).K g y (seg (Zr cs 2 ys) 2 1);rw[Zb6 (by omega) hl];exact hy),(Qc.2 ⟨(by show Kd.flt.K g v.X (seg (Zr cs 2 ys) 3 1);rw[Zj (by omega) (by omega)];exact hk.2 _ (Zbzh (i:=3) rfl)),(Qc.2 ⟨(by show Kd.str.K g v.S (seg (Zr cs 2 ys) 4 1);rw[Zj (by omega) (by omega)];exact hk.2 _ (Zbzh (i:=4) rfl)),(Qc.2 ⟨(by show Zg.K g v.Make (seg (Zr cs 2 ys) 5 8);rw[Zj (by omega) (by omega)];exact hk.2 _ (Zbzh (i:=5) rfl)),(Qc.2 ⟨(by show Kd.bool.K g v.Must (seg (Zr cs 2 ys) 13 1);rw[Zj (by omega) (by omega)];exact hk.2 _ (Zbzh (i:=6) rfl)),(fun _ h=>by cases h)⟩)⟩)⟩)⟩)⟩)⟩)⟩)⟩
theorem Zbib {c:Option Nat} {N j s:Nat} {o:Oper} {uses:Z8} {x z:Operand} {v:Zw} {y0 y:Int} {v0:Zw} {t:Nat} (hT:Ty Zbzi t (Kd.int .i64)) (hop:o.op=.store t x z) (hd:o.dst=none) (hs:Opd uses (.tmp s) (Zbm c Z6 j v)) (hx:Opd uses x (Zfj Z6 j v0 2 (Kd.int .i64) y0)) (hz:Opd uses z ((Kd.int .i64).pd y)):OB Zbzi N o uses [(s,Zbm c Z6 j (Z81 v y))] [j+1]:=Zbjq hT hop hd hs hx hz
theorem Zbko {c:Option Nat} {N j s:Nat} {o:Oper} {uses:Z8} {x z:Operand} {v:Zw} {y0 y:Nat} {v0:Zw} {t:Nat} (hT:Ty Zbzi t Kd.flt) (hop:o.op=.store t x z) (hd:o.dst=none) (hs:Opd uses (.tmp s) (Zbm c Z6 j v)) (hx:Opd uses x (Zfj Z6 j v0 3 Kd.flt y0)) (hz:Opd uses z (Kd.flt.pd y)):OB Zbzi N o uses [(s,Zbm c Z6 j {v with X:=y})] [j+1] :=
 Zgl hT hop hd hs hx hz fun g cs ys hk hy=>by
  have hc:cs.length=14:=hk.1
  have hl:ys.length=1:=Kd.flt.len hy
  exact⟨by omega,(Zb7 (by omega)).trans hc,(Qc.2 ⟨(by show (Kd.int .i64).K g v.Kind (seg (Zr cs 3 ys) 0 1);rw[Zj (by omega) (by omega)];exact hk.2 _ (Zbzh (i:=0) rfl)),(Qc.2 ⟨(by show Kd.str.K g v.Key (seg (Zr cs 3 ys) 1 1);rw[Zj (by omega) (by omega)];exact hk.2 _ (Zbzh (i:=1) rfl)),(Qc.2 ⟨(by show (Kd.int .i64).K g v.N (seg (Zr cs 3 ys) 2 1);rw[Zj (by omega) (by omega)];exact hk.2 _ (Zbzh (i:=2) rfl)),(Qc.2 ⟨(by show Kd.flt.K g y (seg (Zr cs 3 ys) 3 1);rw[Zb6 (by omega) hl];exact hy),(Qc.2 ⟨(by show Kd.str.K g v.S (seg (Zr cs 3 ys) 4 1);rw[Zj (by omega) (by omega)];exact hk.2 _ (Zbzh (i:=4) rfl)),(Qc.2 ⟨(by show Zg.K g v.Make (seg (Zr cs 3 ys) 5 8);rw[Zj (by omega) (by omega)];exact hk.2 _ (Zbzh (i:=5) rfl)),(Qc.2 ⟨(by show Kd.bool.K g v.Must (seg (Zr cs 3 ys) 13 1);rw[Zj (by omega) (by omega)];exact hk.2 _ (Zbzh (i:=6) rfl)),(fun _ h=>by cases h)⟩)⟩)⟩)⟩)⟩)⟩)⟩)⟩
theorem Zbjm {c:Option Nat} {N j s:Nat} {o:Oper} {uses:Z8} {x z:Operand} {v:Zw} {y0 y:ByteArray} {v0:Zw} {t:Nat} (hT:Ty Zbzi t Kd.str) (hop:o.op=.store t x z) (hd:o.dst=none) (hs:Opd uses (.tmp s) (Zbm c Z6 j v)) (hx:Opd uses x (Zfj Z6 j v0 4 Kd.str y0)) (hz:Opd uses z (Kd.str.pd y)):OB Zbzi N o uses [(s,Zbm c Z6 j {v with S:=y})] [j+1] :=
 Zgl hT hop hd hs hx hz fun g cs ys hk hy=>by
  have hc:cs.length=14:=hk.1
  have hl:ys.length=1:=Kd.str.len hy
  exact⟨by omega,(Zb7 (by omega)).trans hc,(Qc.2 ⟨(by show (Kd.int .i64).K g v.Kind (seg (Zr cs 4 ys) 0 1);rw[Zj (by omega) (by omega)];exact hk.2 _ (Zbzh (i:=0) rfl)),(Qc.2 ⟨(by show Kd.str.K g v.Key (seg (Zr cs 4 ys) 1 1);rw[Zj (by omega) (by omega)];exact hk.2 _ (Zbzh (i:=1) rfl)),(Qc.2 ⟨(by show (Kd.int .i64).K g v.N (seg (Zr cs 4 ys) 2 1);rw[Zj (by omega) (by omega)];exact hk.2 _ (Zbzh (i:=2) rfl)),(Qc.2 ⟨(by show Kd.flt.K g v.X (seg (Zr cs 4 ys) 3 1);rw[Zj (by omega) (by omega)];exact hk.2 _ (Zbzh (i:=3) rfl)),(Qc.2 ⟨(by show Kd.str.K g y (seg (Zr cs 4 ys) 4 1);rw[Zb6 (by omega) hl];exact hy),(Qc.2 ⟨(by show Zg.K g v.Make (seg (Zr cs 4 ys) 5 8);rw[Zj (by omega) (by omega)];exact hk.2 _ (Zbzh (i:=5) rfl)),(Qc.2 ⟨(by show Kd.bool.K g v.Must (seg (Zr cs 4 ys) 13 1);rw[Zj (by omega) (by omega)];exact hk.2 _ (Zbzh (i:=6) rfl)),(fun _ h=>by cases h)⟩)⟩)⟩)⟩)⟩)⟩)⟩)⟩
theorem Zbrj:Zi Zbzi 91:=by
 unfold Zi
 kernel_rfl
theorem Zbj5 {c:Option Nat} {N j s:Nat} {o:Oper} {uses:Z8} {x z:Operand} {v:Zw} {y0 y:Zb} {v0:Zw} {t:Nat} (hT:Ty Zbzi t Zg) (hop:o.op=.store t x z) (hd:o.dst=none) (hs:Opd uses (.tmp s) (Zbm c Z6 j v)) (hx:Opd uses x (Zfj Z6 j v0 5 Zg y0)) (hz:Opd uses z (Zg.pd y)):OB Zbzi N o uses [(s,Zbm c Z6 j {v with Make:=y})] [j+1] :=
 Zgl hT hop hd hs hx hz fun g cs ys hk hy=>by
  have hc:cs.length=14:=hk.1
  have hl:ys.length=8:=Zg.len hy
  exact⟨by omega,(Zb7 (by omega)).trans hc,(Qc.2 ⟨(by show (Kd.int .i64).K g v.Kind (seg (Zr cs 5 ys) 0 1);rw[Zj (by omega) (by omega)];exact hk.2 _ (Zbzh (i:=0) rfl)),(Qc.2 ⟨(by show Kd.str.K g v.Key (seg (Zr cs 5 ys) 1 1);rw[Zj (by omega) (by omega)];exact hk.2 _ (Zbzh (i:=1) rfl)),(Qc.2 ⟨(by show (Kd.int .i64).K g v.N (seg (Zr cs 5 ys) 2 1);rw[Zj (by omega) (by omega)];exact hk.2 _ (Zbzh (i:=2) rfl)),(Qc.2 ⟨(by show Kd.flt.K g v.X (seg (Zr cs 5 ys) 3 1);rw[Zj (by omega) (by omega)];exact hk.2 _ (Zbzh (i:=3) rfl)),(Qc.2 ⟨(by show Kd.str.K g v.S (seg (Zr cs 5 ys) 4 1);rw[Zj (by omega) (by omega)];exact hk.2 _ (Zbzh (i:=4) rfl)),(Qc.2 ⟨(by show Zg.K g y (seg (Zr cs 5 ys) 5 8);rw[Zb6 (by omega) hl];exact hy),(Qc.2 ⟨(by show Kd.bool.K g v.Must (seg (Zr cs 5 ys) 13 1);rw[Zj (by omega) (by omega)];exact hk.2 _ (Zbzh (i:=6) rfl)),(fun _ h=>by cases h)⟩)⟩)⟩)⟩)⟩)⟩)⟩)⟩
structure Zqn where
 Acts:SlV
def Z7b:List (Kd.FK Zqn):=[⟨_,Kd.raw,0,fun x:Zqn=>x.Acts⟩]
def Zi5:Kd Zqn:=Kd.struct 1 Z7b (by rfl)
def Zij (x:Zbj) (s:SlV):Zqn:=⟨s⟩
theorem Z7m:∀g,Zi5.K g (Zij ((default:Zbj)) (none,0,0)) [.slice none 0 0]:=fun g=>⟨rfl,(Qc.2 ⟨rfl,(fun _ h=>by cases h)⟩)⟩
theorem Z68 {x:Zbj} {e j:Nat}:∀(g:G) (s:SlV) (cs:List Value),Zi5.K g (Zij x s) cs→(hpL (pRow Z6 e j x.Acts)).p g s→Zb1.K g x cs:=fun g s cs h hr=>⟨h.1,(Qc.2 ⟨(Z3u (h.2 _ (Zbzh (i:=0) rfl)) hr.1),(fun _ h=>by cases h)⟩)⟩
theorem Z7g {x:Zbj} {g:G} {cs ys:List Value} {s0 s1:SlV} (hk:Zi5.K g (Zij x s0) cs) (hy:Kd.raw.K g s1 ys):0+ys.length≤cs.length∧Zi5.K g (Zij x s1) (Zr cs 0 ys):=by
 have hc:cs.length=1:=hk.1
 have hl:ys.length=1:=Kd.raw.len hy
 exact⟨by omega,(Zb7 (by omega)).trans hc,(Qc.2 ⟨(by show Kd.raw.K g s1 (seg (Zr cs 0 ys) 0 1);rw[Zb6 (by omega) hl];exact hy),(fun _ h=>by cases h)⟩)⟩
theorem Zba3:Fld Zbzi 79 0 Zi5 Kd.raw (fun x:Zqn=>x.Acts):=Fld.of ⟨_,Kd.raw,0,fun x:Zqn=>x.Acts⟩ (Zbzh (i:=0) rfl) 0 rfl (by kernel_rfl) (by decide)
theorem Zbho:Ty Zbzi 77 Kd.raw:=⟨by kernel_rfl,by kernel_rfl⟩
theorem Zbsk:Zi Zbzi 61:=by
 unfold Zi
 kernel_rfl
theorem Zbl0:TE Zbzi 77 117 Z6 152:=TE.of Zbzx (by kernel_rfl) (by decide) (by decide)
structure Zm1 where
 Number:Int
 Deals:SlV
def Zba9:List (Kd.FK Zm1):=[⟨_,(Kd.int .i64),0,fun x:Zm1=>x.Number⟩,
 ⟨_,Kd.raw,1,fun x:Zm1=>x.Deals⟩]
def Ze8:Kd Zm1:=Kd.struct 2 Zba9 (by rfl)
def Zff (x:Zbc) (s:SlV):Zm1:=⟨x.Number,s⟩
theorem Z9i:∀g,Ze8.K g (Zff ((default:Zbc)) (none,0,0)) [.int .i64 0,.slice none 0 0]:=fun g=>⟨rfl,(Qc.2 ⟨(rfl),(Qc.2 ⟨rfl,(fun _ h=>by cases h)⟩)⟩)⟩
theorem Zyz {x:Zbc} {e j:Nat}:∀(g:G) (s:SlV) (cs:List Value),Ze8.K g (Zff x s) cs→(hpL (pRow Zb1 e j x.Deals)).p g s→Zde.K g x cs:=fun g s cs h hr=>⟨h.1,(Qc.2 ⟨(h.2 _ (Zbzh (i:=0) rfl)),(Qc.2 ⟨(Z3u (h.2 _ (Zbzh (i:=1) rfl)) hr.1),(fun _ h=>by cases h)⟩)⟩)⟩
theorem Z99 {x:Zbc} {g:G} {cs ys:List Value} {s0 s1:SlV} (hk:Ze8.K g (Zff x s0) cs) (hy:Kd.raw.K g s1 ys):1+ys.length≤cs.length∧Ze8.K g (Zff x s1) (Zr cs 1 ys):=by
 have hc:cs.length=2:=hk.1
 have hl:ys.length=1:=Kd.raw.len hy
 exact⟨by omega,(Zb7 (by omega)).trans hc,(Qc.2 ⟨(by show (Kd.int .i64).K g x.Number (seg (Zr cs 1 ys) 0 1);rw[Zj (by omega) (by omega)];exact hk.2 _ (Zbzh (i:=0) rfl)),(Qc.2 ⟨(by show Kd.raw.K g s1 (seg (Zr cs 1 ys) 1 1);rw[Zb6 (by omega) hl];exact hy),(fun _ h=>by cases h)⟩)⟩)⟩
theorem Zbac:Fld Zbzi 53 0 Ze8 (Kd.int .i64) (fun x:Zm1=>x.Number):=Fld.of ⟨_,(Kd.int .i64),0,fun x:Zm1=>x.Number⟩ (Zbzh (i:=0) rfl) 0 rfl (by kernel_rfl) (by decide)
theorem Zbab:Fld Zbzi 53 1 Ze8 Kd.raw (fun x:Zm1=>x.Deals):=Fld.of ⟨_,Kd.raw,1,fun x:Zm1=>x.Deals⟩ (Zbzh (i:=1) rfl) 1 rfl (by kernel_rfl) (by decide)
theorem Zbgp:Ty Zbzi 49 Kd.raw:=⟨by kernel_rfl,by kernel_rfl⟩
theorem Zblz (j:Nat) {N d:Nat} {o:Oper} {uses:Z8} (hop:o.op=.alloc 72) (hd:o.dst=some d):OB Zbzi N o uses [(d,pBox Zdw j (default:Zdb))] [j+1]:=Zf0 (zs:=[.int .i64 0,.int .i64 0]) (by kernel_rfl) (fun g=>Ztr g) hop hd
theorem Zbnw:Fld Zbzi 72 0 Zdw (Kd.int .i64) (fun x:Zdb=>x.Code):=Fld.of ⟨_,(Kd.int .i64),0,fun x:Zdb=>x.Code⟩ (Zbzh (i:=0) rfl) 0 rfl (by kernel_rfl) (by decide)
theorem Zok:Ty Zbzi 29 (Kd.int .i64):=⟨by kernel_rfl,by kernel_rfl⟩
theorem Zbss:Zi Zbzi 33:=by
 unfold Zi
 kernel_rfl
theorem Zbrd:Zi Zbzi 34:=by
 unfold Zi
 kernel_rfl
theorem Z5f {x:Zbc} {g:G} {cs ys:List Value} {s0:SlV} {u:Int} (hk:Ze8.K g (Zff x s0) cs) (hy:(Kd.int .i64).K g u ys):0+ys.length≤cs.length∧Ze8.K g (Zff {x with Number:=u} s0) (Zr cs 0 ys):=by
 have hc:cs.length=2:=hk.1
 have hl:ys.length=1:=(Kd.int .i64).len hy
 exact⟨by omega,(Zb7 (by omega)).trans hc,(Qc.2 ⟨(by show (Kd.int .i64).K g u (seg (Zr cs 0 ys) 0 1);rw[Zb6 (by omega) hl];exact hy),(Qc.2 ⟨(by show Kd.raw.K g s0 (seg (Zr cs 0 ys) 1 1);rw[Zj (by omega) (by omega)];exact hk.2 _ (Zbzh (i:=1) rfl)),(fun _ h=>by cases h)⟩)⟩)⟩
theorem Zbta:Zi Zbzi 37:=by
 unfold Zi
 kernel_rfl
theorem Zbmu:TE Zbzi 49 79 Zb1 24:=TE.of Zbz6 (by kernel_rfl) (by decide) (by decide)
theorem Zbek:Zi Zbzi 21:=by
 unfold Zi
 kernel_rfl
theorem Zbsp:Zi Zbzi 38:=by
 unfold Zi
 kernel_rfl
theorem Zbrs:Zi Zbzi 32:=by
 unfold Zi
 kernel_rfl
theorem Zbtf:Zi Zbzi 18:=by
 unfold Zi
 kernel_rfl
theorem Zbs2:(Zbzi.info? 70).map (·.size)=some ((Kd.int .u8).sl).sz:=by kernel_rfl
theorem Zbs7:Zi Zbzi 19:=by
 unfold Zi
 kernel_rfl
theorem Zbmn (j:Nat) {N d:Nat} {o:Oper} {uses:Z8} (hop:o.op=.alloc 53) (hd:o.dst=some d):OB Zbzi N o uses [(d,pBox Zde j (default:Zbc))] [j+1]:=Zf0 (zs:=[.int .i64 0,.slice none 0 0]) (by kernel_rfl) (fun g=>Zbe3 g) hop hd
theorem Zbs0:∀(g:G) (x:Zdb) (cs:List Value),Zdw.K g x cs→cs=[.int .i64 x.Code,.int .i64 x.At]:=fun g x cs h=>by
 obtain⟨u0,u1,rfl⟩:=Zpd h.1
 have h0:[u0]=[Value.int .i64 x.Code]:=(h.2 _ (Zbzh (i:=0) rfl))
 have h1:[u1]=[Value.int .i64 x.At]:=(h.2 _ (Zbzh (i:=1) rfl))
 rw[Zb0e.1 h0,Zb0e.1 h1]
theorem Zbqo:∀(w:World) (a1 a2 n1 n2:Int),(Op.eqFields 9999 #[.int .i64 a1,.int .i64 n1] #[.int .i64 a2,.int .i64 n2] (Zbzi.fieldsOf 72).toList).run Zbzi w=.ok (a1==a2&&n1==n2) w:=by
 intro w a1 a2 n1 n2
 have hs:=run_equalIn_int (P:=Zbzi) w 9998 29 .i64 .i64 a1 a2 Tryz.underlying29
 have hi:=run_equalIn_int (P:=Zbzi) w 9998 3 .i64 .i64 n1 n2 Zbzt
 simp only[Program.fieldsOf,Zb0g,Op.eqFields,part,Sem.run_bind,Tryz.isAgg29,Tryz.isAgg3,Result.andThen_ok,Bool.false_eq_true,if_false,List.getElem?_toArray,List.getElem?_cons_zero,List.getElem?_cons_succ,Sem.run_pure,hs,hi,Sem.run_ite]
 cases h1:(a1==a2) <;> cases h2:(n1==n2) <;> simp[h1,h2,Sem.run_pure,Result.andThen]
theorem Zbl3:TE Zbzi 41 53 Zde 32:=TE.of Tryz.underlying41 (by kernel_rfl) (by decide) (by decide)
theorem Zbh0 {bI N d:Nat} {o:Oper} {uses:Z8} {x0:Operand} {x1:Operand} {v0:Unit} {v1:Int} (hop:o.op=.build 76 #[(0,x0),(1,x1)]) (hd:o.dst=some d) (h0:Opd uses x0 ((Kd.adr bI).pd v0)) (h1:Opd uses x1 ((Kd.int .i64).pd v1)):OB Zbzi N o uses [(d,(Zkj bI).pd {r:=v0,next:=v1})] []:=by
 refine Zdj hop hd fun a g hh=>?_
 obtain⟨c0,k0,e0⟩:=h0 a g hh
 obtain rfl:=k0
 obtain⟨c1,k1,e1⟩:=h1 a g hh
 obtain rfl:=k1
 refine⟨.agg #[ptrB bI 0,.int .i64 v1],?_,[ptrB bI 0,.int .i64 v1],⟨rfl,(Qc.2 ⟨rfl,(Qc.2 ⟨rfl,(fun _ h=>by cases h)⟩)⟩)⟩,rfl⟩
 simp only[Zbzk,Zbzm,Zbzl,e0,e1]
 exact Zc7 Tryz.underlying76 (zero:=.agg #[.pointer none,.int .i64 0]) (by kernel_rfl) (places:=[(0,1),(1,1)]) (by kernel_rfl) (by kernel_rfl) g.w
theorem Zbs8:Zi Zbzi 63:=by
 unfold Zi
 kernel_rfl
theorem Zbtb:Zi Zbzi 39:=by
 unfold Zi
 kernel_rfl
theorem Zbsi:Zi Zbzi 20:=by
 unfold Zi
 kernel_rfl
theorem Z88:PF Zbzi 110 1 1:=by
 unfold PF
 kernel_rfl
theorem Zbog:PF Zbzi 39 1 1:=by
 unfold PF
 kernel_rfl
theorem Zbfv {b:Nat} {v:Zb4} {g:G} {cs:List Value} (h:(Zeo b).K g v cs):(Kd.int .i64).K g v.a.Len (seg cs 2 1):=by
 have h1:Zcu.K g v.a (seg cs 1 2):=h.2 _ (Zbzh (i:=1) rfl)
 have h2:(Kd.int .i64).K g v.a.Len (seg (seg cs 1 2) 1 1):=h1.2 _ (Zbzh (i:=1) rfl)
 rwa [Z9t (by decide)]at h2
theorem Zxg:PF Zbzi 110 2 3:=by
 unfold PF
 kernel_rfl
theorem Z2g {b:Nat} {v:Zb4} {g:G} {cs:List Value} (h:(Zeo b).K g v cs):(Kd.int .i64).K g v.at_ (seg cs 3 1):=h.2 _ (Zbzh (i:=2) rfl)
theorem Z19:PF Zbzi 110 0 0:=by
 unfold PF
 kernel_rfl
theorem Z2s {b:Nat} {v:Zb4} {g:G} {cs:List Value} (h:(Zeo b).K g v cs):(Kd.adr b).K g () (seg cs 0 1):=h.2 _ (Zbzh (i:=0) rfl)
theorem en_6:Zi Zbzi 6:=by
 unfold Zi
 kernel_rfl
theorem Zbrz:Zi Zbzi 43:=by
 unfold Zi
 kernel_rfl
theorem Zbsr:Zi Zbzi 44:=by
 unfold Zi
 kernel_rfl
theorem Zbnx:PF Zbzi 39 0 0:=by
 unfold PF
 kernel_rfl
theorem Zbep {b:Nat} {v:Zb4} {g:G} {cs:List Value} (h:(Zeo b).K g v cs):(Kd.int .i64).K g v.a.From (seg cs 1 1):=by
 have h1:Zcu.K g v.a (seg cs 1 2):=h.2 _ (Zbzh (i:=1) rfl)
 have h2:(Kd.int .i64).K g v.a.From (seg (seg cs 1 2) 0 1):=h1.2 _ (Zbzh (i:=0) rfl)
 rwa [Z9t (by decide)]at h2
theorem Zbk3 {b:Nat} {v:Zb4} {u:Int} {g:G} {cs ys:List Value} (h:(Zeo b).K g v cs) (hy:(Kd.int .i64).K g u ys):3+ys.length≤cs.length∧(Zeo b).K g {v with at_:=u} (Zr cs 3 ys):=by
 have hc:cs.length=4:=h.1
 have hl:ys.length=1:=(Kd.int .i64).len hy
 exact⟨by omega,(Zb7 (by omega)).trans hc,(Qc.2 ⟨(by show (Kd.adr b).K g () (seg (Zr cs 3 ys) 0 1);rw[Zj (by omega) (by omega)];exact h.2 _ (Zbzh (i:=0) rfl)),(Qc.2 ⟨(by show Zcu.K g v.a (seg (Zr cs 3 ys) 1 2);rw[Zj (by omega) (by omega)];exact h.2 _ (Zbzh (i:=1) rfl)),(Qc.2 ⟨(by show (Kd.int .i64).K g u (seg (Zr cs 3 ys) 3 1);rw[Zb6 (by omega) hl];exact hy),(fun _ h=>by cases h)⟩)⟩)⟩)⟩
theorem Z0i:PF Zbzi 76 1 1:=by
 unfold PF
 kernel_rfl
theorem Z4x {b:Nat} {v:Zdo} {g:G} {cs:List Value} (h:(Zkj b).K g v cs):(Kd.int .i64).K g v.next (seg cs 1 1):=h.2 _ (Zbzh (i:=1) rfl)
theorem Zbd0:PF Zbzi 76 0 0:=by
 unfold PF
 kernel_rfl
theorem Zbei {b:Nat} {v:Zdo} {g:G} {cs:List Value} (h:(Zkj b).K g v cs):(Kd.adr b).K g () (seg cs 0 1):=h.2 _ (Zbzh (i:=0) rfl)
theorem Zbti:Zi Zbzi 23:=by
 unfold Zi
 kernel_rfl
theorem Zbr9:Zi Zbzi 22:=by
 unfold Zi
 kernel_rfl
theorem Zbsb:Zi Zbzi 24:=by
 unfold Zi
 kernel_rfl
theorem Zbob {b:Nat} {v:Zdo} {u:Int} {g:G} {cs ys:List Value} (h:(Zkj b).K g v cs) (hy:(Kd.int .i64).K g u ys):1+ys.length≤cs.length∧(Zkj b).K g {v with next:=u} (Zr cs 1 ys):=by
 have hc:cs.length=2:=h.1
 have hl:ys.length=1:=(Kd.int .i64).len hy
 exact⟨by omega,(Zb7 (by omega)).trans hc,(Qc.2 ⟨(by show (Kd.adr b).K g () (seg (Zr cs 1 ys) 0 1);rw[Zj (by omega) (by omega)];exact h.2 _ (Zbzh (i:=0) rfl)),(Qc.2 ⟨(by show (Kd.int .i64).K g u (seg (Zr cs 1 ys) 1 1);rw[Zb6 (by omega) hl];exact hy),(fun _ h=>by cases h)⟩)⟩)⟩
theorem Z4a:Zi Zbzi 108:=by
 unfold Zi
 kernel_rfl
theorem Zbih:Zi Zbzi 109:=by
 unfold Zi
 kernel_rfl
theorem Z3s:Zi Zbzi 80:=by
 unfold Zi
 kernel_rfl
theorem Zz0:Zi Zbzi 54:=by
 unfold Zi
 kernel_rfl
theorem Zbje:TE Zbzi 233 9 Kd.str 16:=TE.of Tryz.underlying233 (by kernel_rfl) (by decide) (by decide)
theorem sz_9:(Zbzi.info? 9).map (·.size)=some Kd.str.sz:=by kernel_rfl
theorem Zbpw:Zi Zbzi 123:=by
 unfold Zi
 kernel_rfl
theorem Zbrx:TE Zbzi 23 3 (Kd.int .i64) 8:=TE.of Zb0h (by kernel_rfl) (by decide) (by decide)
theorem sz_3:(Zbzi.info? 3).map (·.size)=some (Kd.int .i64).sz:=by kernel_rfl
theorem Zbhk:Zi Zbzi 162:=by
 unfold Zi
 kernel_rfl
theorem Zbe1:Zi Zbzi 98:=by
 unfold Zi
 kernel_rfl
theorem Zbi9:Zi Zbzi 163:=by
 unfold Zi
 kernel_rfl
theorem Zbo6:Zi Zbzi 125:=by
 unfold Zi
 kernel_rfl
theorem Zbpt:Zi Zbzi 124:=by
 unfold Zi
 kernel_rfl
theorem Zbox:Zi Zbzi 126:=by
 unfold Zi
 kernel_rfl
theorem Zbfp:Zi Zbzi 96:=by
 unfold Zi
 kernel_rfl
theorem Zbmf:Zi Zbzi 29:=by
 unfold Zi
 kernel_rfl
theorem Zbf6:Zi Zbzi 97:=by
 unfold Zi
 kernel_rfl
theorem Zbgf:Zi Zbzi 99:=by
 unfold Zi
 kernel_rfl
theorem Zbl9:Zi Zbzi 69:=by
 unfold Zi
 kernel_rfl
theorem Zin:Fld Zbzi 47 0 Zbe Zdf.sl (fun x:Zk=>x.L):=Fld.of ⟨_,Zdf.sl,0,fun x:Zk=>x.L⟩ (Zbzh (i:=0) rfl) 0 rfl (by kernel_rfl) (by decide)
theorem Zmp:Ty Zbzi 45 Zdf.sl:=⟨by kernel_rfl,by kernel_rfl⟩
theorem Zqu:(Zbzi.info? 102).map (·.size)=some Zdf.sz:=by kernel_rfl
theorem Zug:Fld Zbzi 102 0 Zdf Kd.str (fun x:Zb2=>x.Key):=Fld.of ⟨_,Kd.str,0,fun x:Zb2=>x.Key⟩ (Zbzh (i:=0) rfl) 0 rfl (by kernel_rfl) (by decide)
theorem Zdd:Ty Zbzi 47 Zbe:=⟨by kernel_rfl,by kernel_rfl⟩
theorem Zbbg:Zi Zbzi 100:=by
 unfold Zi
 kernel_rfl
theorem Z9p:Fld Zbzi 102 1 Zdf Zg (fun x:Zb2=>x.Rec):=Fld.of ⟨_,Zg,1,fun x:Zb2=>x.Rec⟩ (Zbzh (i:=1) rfl) 1 rfl (by kernel_rfl) (by decide)
theorem Zpp {c:Option Nat} {N j s:Nat} {o:Oper} {uses:Z8} {x z:Operand} {v:Zb} {y0 y:List Zn} {v0:Zb} {t:Nat} (hT:Ty Zbzi t Zy.sl) (hop:o.op=.store t x z) (hd:o.dst=none) (hs:Opd uses (.tmp s) (Zbm c Zg j v)) (hx:Opd uses x (Zfj Zg j v0 7 Zy.sl y0)) (hz:Opd uses z (Zy.sl.pd y)):OB Zbzi N o uses [(s,Zbm c Zg j {v with List:=y})] [j+1] :=
 Zgl hT hop hd hs hx hz fun g cs ys hk hy=>by
  have hc:cs.length=8:=hk.1
  have hl:ys.length=1:=Zy.sl.len hy
  exact⟨by omega,(Zb7 (by omega)).trans hc,(Qc.2 ⟨(by show (Kd.int .i64).K g v.Kind (seg (Zr cs 7 ys) 0 1);rw[Zj (by omega) (by omega)];exact hk.2 _ (Zbzh (i:=0) rfl)),(Qc.2 ⟨(by show (Kd.int .i64).K g v.Num (seg (Zr cs 7 ys) 1 1);rw[Zj (by omega) (by omega)];exact hk.2 _ (Zbzh (i:=1) rfl)),(Qc.2 ⟨(by show (Kd.int .i64).K g v.Low (seg (Zr cs 7 ys) 2 1);rw[Zj (by omega) (by omega)];exact hk.2 _ (Zbzh (i:=2) rfl)),(Qc.2 ⟨(by show (Kd.int .i64).K g v.High (seg (Zr cs 7 ys) 3 1);rw[Zj (by omega) (by omega)];exact hk.2 _ (Zbzh (i:=3) rfl)),(Qc.2 ⟨(by show Kd.flt.K g v.Real (seg (Zr cs 7 ys) 4 1);rw[Zj (by omega) (by omega)];exact hk.2 _ (Zbzh (i:=4) rfl)),(Qc.2 ⟨(by show (Kd.int .i64).K g v.Cap (seg (Zr cs 7 ys) 5 1);rw[Zj (by omega) (by omega)];exact hk.2 _ (Zbzh (i:=5) rfl)),(Qc.2 ⟨(by show Kd.str.K g v.Text (seg (Zr cs 7 ys) 6 1);rw[Zj (by omega) (by omega)];exact hk.2 _ (Zbzh (i:=6) rfl)),(Qc.2 ⟨(by show Zy.sl.K g y (seg (Zr cs 7 ys) 7 1);rw[Zb6 (by omega) hl];exact hy),(fun _ h=>by cases h)⟩)⟩)⟩)⟩)⟩)⟩)⟩)⟩)⟩
theorem Zlz (j:Nat) {N d:Nat} {o:Oper} {uses:Z8} (hop:o.op=.alloc 126) (hd:o.dst=some d):OB Zbzi N o uses [(d,pBox Z3 j (default:Zm))] [j+1]:=Zf0 (zs:=[.int .i64 0,.int .i64 0,.int .i64 0,.int .i64 0,.int .i64 0,.int .i64 0,.float .f64 0,.int .i64 0,.string ByteArray.empty,.slice none 0 0]) (by kernel_rfl) (fun g=>Z7h g) hop hd
theorem Zt8 {N d:Nat} {o:Oper} {uses:Z8}   (hop:o.op=.build 126 #[]) (hd:o.dst=some d) :OB Zbzi N o uses [(d,Z3.pd {Code:=(0:Int),Num:=(0:Int),Rec:=(default:Zb)})] []:=by
 refine Zdj hop hd fun a g hh=>?_
 refine⟨.agg #[.int .i64 0,.int .i64 0,.int .i64 0,.int .i64 0,.int .i64 0,.int .i64 0,.float .f64 0,.int .i64 0,.string ByteArray.empty,.slice none 0 0],?_,[.int .i64 0,.int .i64 0,.int .i64 0,.int .i64 0,.int .i64 0,.int .i64 0,.float .f64 0,.int .i64 0,.string ByteArray.empty,.slice none 0 0],⟨rfl,(Qc.2 ⟨(rfl),(Qc.2 ⟨(rfl),(Qc.2 ⟨(Zku _),(fun _ h=>by cases h)⟩)⟩)⟩)⟩,rfl⟩
 simp only[Zbzk,Zbzm,Zbzl,Zbzl]
 exact Zc7 Zbz5 (zero:=.agg #[.int .i64 0,.int .i64 0,.int .i64 0,.int .i64 0,.int .i64 0,.int .i64 0,.float .f64 0,.int .i64 0,.string ByteArray.empty,.slice none 0 0]) (by kernel_rfl) (places:=[(0,1),(1,1),(2,8)]) (by kernel_rfl) (by kernel_rfl) g.w
theorem Zcf:Ty Zbzi 126 Z3:=⟨by kernel_rfl,by kernel_rfl⟩
theorem Zxk {c:Option Nat} {N j s:Nat} {o:Oper} {uses:Z8} {x z:Operand} {v:Zb} {y0 y:ByteArray} {v0:Zb} {t:Nat} (hT:Ty Zbzi t Kd.str) (hop:o.op=.store t x z) (hd:o.dst=none) (hs:Opd uses (.tmp s) (Zbm c Zg j v)) (hx:Opd uses x (Zfj Zg j v0 6 Kd.str y0)) (hz:Opd uses z (Kd.str.pd y)):OB Zbzi N o uses [(s,Zbm c Zg j {v with Text:=y})] [j+1] :=
 Zgl hT hop hd hs hx hz fun g cs ys hk hy=>by
  have hc:cs.length=8:=hk.1
  have hl:ys.length=1:=Kd.str.len hy
  exact⟨by omega,(Zb7 (by omega)).trans hc,(Qc.2 ⟨(by show (Kd.int .i64).K g v.Kind (seg (Zr cs 6 ys) 0 1);rw[Zj (by omega) (by omega)];exact hk.2 _ (Zbzh (i:=0) rfl)),(Qc.2 ⟨(by show (Kd.int .i64).K g v.Num (seg (Zr cs 6 ys) 1 1);rw[Zj (by omega) (by omega)];exact hk.2 _ (Zbzh (i:=1) rfl)),(Qc.2 ⟨(by show (Kd.int .i64).K g v.Low (seg (Zr cs 6 ys) 2 1);rw[Zj (by omega) (by omega)];exact hk.2 _ (Zbzh (i:=2) rfl)),(Qc.2 ⟨(by show (Kd.int .i64).K g v.High (seg (Zr cs 6 ys) 3 1);rw[Zj (by omega) (by omega)];exact hk.2 _ (Zbzh (i:=3) rfl)),(Qc.2 ⟨(by show Kd.flt.K g v.Real (seg (Zr cs 6 ys) 4 1);rw[Zj (by omega) (by omega)];exact hk.2 _ (Zbzh (i:=4) rfl)),(Qc.2 ⟨(by show (Kd.int .i64).K g v.Cap (seg (Zr cs 6 ys) 5 1);rw[Zj (by omega) (by omega)];exact hk.2 _ (Zbzh (i:=5) rfl)),(Qc.2 ⟨(by show Kd.str.K g y (seg (Zr cs 6 ys) 6 1);rw[Zb6 (by omega) hl];exact hy),(Qc.2 ⟨(by show Zy.sl.K g v.List (seg (Zr cs 6 ys) 7 1);rw[Zj (by omega) (by omega)];exact hk.2 _ (Zbzh (i:=7) rfl)),(fun _ h=>by cases h)⟩)⟩)⟩)⟩)⟩)⟩)⟩)⟩)⟩
theorem Z3d:Zi Zbzi 101:=by
 unfold Zi
 kernel_rfl
theorem Zbas:Fld Zbzi 126 2 Z3 Zg (fun x:Zm=>x.Rec):=Fld.of ⟨_,Zg,2,fun x:Zm=>x.Rec⟩ (Zbzh (i:=2) rfl) 2 rfl (by kernel_rfl) (by decide)
theorem Zbai {c:Option Nat} {N j s:Nat} {o:Oper} {uses:Z8} {x z:Operand} {v:Zm} {y0 y:Zb} {v0:Zm} {t:Nat} (hT:Ty Zbzi t Zg) (hop:o.op=.store t x z) (hd:o.dst=none) (hs:Opd uses (.tmp s) (Zbm c Z3 j v)) (hx:Opd uses x (Zfj Z3 j v0 2 Zg y0)) (hz:Opd uses z (Zg.pd y)):OB Zbzi N o uses [(s,Zbm c Z3 j {v with Rec:=y})] [j+1] :=
 Zgl hT hop hd hs hx hz fun g cs ys hk hy=>by
  have hc:cs.length=10:=hk.1
  have hl:ys.length=8:=Zg.len hy
  exact⟨by omega,(Zb7 (by omega)).trans hc,(Qc.2 ⟨(by show (Kd.int .i64).K g v.Code (seg (Zr cs 2 ys) 0 1);rw[Zj (by omega) (by omega)];exact hk.2 _ (Zbzh (i:=0) rfl)),(Qc.2 ⟨(by show (Kd.int .i64).K g v.Num (seg (Zr cs 2 ys) 1 1);rw[Zj (by omega) (by omega)];exact hk.2 _ (Zbzh (i:=1) rfl)),(Qc.2 ⟨(by show Zg.K g y (seg (Zr cs 2 ys) 2 8);rw[Zb6 (by omega) hl];exact hy),(fun _ h=>by cases h)⟩)⟩)⟩)⟩
theorem Zpj {c:Option Nat} {N j s:Nat} {o:Oper} {uses:Z8} {x z:Operand} {v:Zb} {y0 y:Int} {v0:Zb} {t:Nat} (hT:Ty Zbzi t (Kd.int .i64)) (hop:o.op=.store t x z) (hd:o.dst=none) (hs:Opd uses (.tmp s) (Zbm c Zg j v)) (hx:Opd uses x (Zfj Zg j v0 1 (Kd.int .i64) y0)) (hz:Opd uses z ((Kd.int .i64).pd y)):OB Zbzi N o uses [(s,Zbm c Zg j {v with Num:=y})] [j+1] :=
 Zgl hT hop hd hs hx hz fun g cs ys hk hy=>by
  have hc:cs.length=8:=hk.1
  have hl:ys.length=1:=(Kd.int .i64).len hy
  exact⟨by omega,(Zb7 (by omega)).trans hc,(Qc.2 ⟨(by show (Kd.int .i64).K g v.Kind (seg (Zr cs 1 ys) 0 1);rw[Zj (by omega) (by omega)];exact hk.2 _ (Zbzh (i:=0) rfl)),(Qc.2 ⟨(by show (Kd.int .i64).K g y (seg (Zr cs 1 ys) 1 1);rw[Zb6 (by omega) hl];exact hy),(Qc.2 ⟨(by show (Kd.int .i64).K g v.Low (seg (Zr cs 1 ys) 2 1);rw[Zj (by omega) (by omega)];exact hk.2 _ (Zbzh (i:=2) rfl)),(Qc.2 ⟨(by show (Kd.int .i64).K g v.High (seg (Zr cs 1 ys) 3 1);rw[Zj (by omega) (by omega)];exact hk.2 _ (Zbzh (i:=3) rfl)),(Qc.2 ⟨(by show Kd.flt.K g v.Real (seg (Zr cs 1 ys) 4 1);rw[Zj (by omega) (by omega)];exact hk.2 _ (Zbzh (i:=4) rfl)),(Qc.2 ⟨(by show (Kd.int .i64).K g v.Cap (seg (Zr cs 1 ys) 5 1);rw[Zj (by omega) (by omega)];exact hk.2 _ (Zbzh (i:=5) rfl)),(Qc.2 ⟨(by show Kd.str.K g v.Text (seg (Zr cs 1 ys) 6 1);rw[Zj (by omega) (by omega)];exact hk.2 _ (Zbzh (i:=6) rfl)),(Qc.2 ⟨(by show Zy.sl.K g v.List (seg (Zr cs 1 ys) 7 1);rw[Zj (by omega) (by omega)];exact hk.2 _ (Zbzh (i:=7) rfl)),(fun _ h=>by cases h)⟩)⟩)⟩)⟩)⟩)⟩)⟩)⟩)⟩
theorem Zbq0:Zi Zbzi 127:=by
 unfold Zi
 kernel_rfl
theorem Zjs:Fld Zbzi 126 0 Z3 (Kd.int .i64) (fun x:Zm=>x.Code):=Fld.of ⟨_,(Kd.int .i64),0,fun x:Zm=>x.Code⟩ (Zbzh (i:=0) rfl) 0 rfl (by kernel_rfl) (by decide)
theorem Zsi {c:Option Nat} {N j s:Nat} {o:Oper} {uses:Z8} {x z:Operand} {v:Zm} {y0 y:Int} {v0:Zm} {t:Nat} (hT:Ty Zbzi t (Kd.int .i64)) (hop:o.op=.store t x z) (hd:o.dst=none) (hs:Opd uses (.tmp s) (Zbm c Z3 j v)) (hx:Opd uses x (Zfj Z3 j v0 0 (Kd.int .i64) y0)) (hz:Opd uses z ((Kd.int .i64).pd y)):OB Zbzi N o uses [(s,Zbm c Z3 j {v with Code:=y})] [j+1] :=
 Zgl hT hop hd hs hx hz fun g cs ys hk hy=>by
  have hc:cs.length=10:=hk.1
  have hl:ys.length=1:=(Kd.int .i64).len hy
  exact⟨by omega,(Zb7 (by omega)).trans hc,(Qc.2 ⟨(by show (Kd.int .i64).K g y (seg (Zr cs 0 ys) 0 1);rw[Zb6 (by omega) hl];exact hy),(Qc.2 ⟨(by show (Kd.int .i64).K g v.Num (seg (Zr cs 0 ys) 1 1);rw[Zj (by omega) (by omega)];exact hk.2 _ (Zbzh (i:=1) rfl)),(Qc.2 ⟨(by show Zg.K g v.Rec (seg (Zr cs 0 ys) 2 8);rw[Zj (by omega) (by omega)];exact hk.2 _ (Zbzh (i:=2) rfl)),(fun _ h=>by cases h)⟩)⟩)⟩)⟩
theorem Zbpq:Zi Zbzi 128:=by
 unfold Zi
 kernel_rfl
theorem Zsb {c:Option Nat} {N j s:Nat} {o:Oper} {uses:Z8} {x z:Operand} {v:Zb} {y0 y:Nat} {v0:Zb} {t:Nat} (hT:Ty Zbzi t Kd.flt) (hop:o.op=.store t x z) (hd:o.dst=none) (hs:Opd uses (.tmp s) (Zbm c Zg j v)) (hx:Opd uses x (Zfj Zg j v0 4 Kd.flt y0)) (hz:Opd uses z (Kd.flt.pd y)):OB Zbzi N o uses [(s,Zbm c Zg j {v with Real:=y})] [j+1] :=
 Zgl hT hop hd hs hx hz fun g cs ys hk hy=>by
  have hc:cs.length=8:=hk.1
  have hl:ys.length=1:=Kd.flt.len hy
  exact⟨by omega,(Zb7 (by omega)).trans hc,(Qc.2 ⟨(by show (Kd.int .i64).K g v.Kind (seg (Zr cs 4 ys) 0 1);rw[Zj (by omega) (by omega)];exact hk.2 _ (Zbzh (i:=0) rfl)),(Qc.2 ⟨(by show (Kd.int .i64).K g v.Num (seg (Zr cs 4 ys) 1 1);rw[Zj (by omega) (by omega)];exact hk.2 _ (Zbzh (i:=1) rfl)),(Qc.2 ⟨(by show (Kd.int .i64).K g v.Low (seg (Zr cs 4 ys) 2 1);rw[Zj (by omega) (by omega)];exact hk.2 _ (Zbzh (i:=2) rfl)),(Qc.2 ⟨(by show (Kd.int .i64).K g v.High (seg (Zr cs 4 ys) 3 1);rw[Zj (by omega) (by omega)];exact hk.2 _ (Zbzh (i:=3) rfl)),(Qc.2 ⟨(by show Kd.flt.K g y (seg (Zr cs 4 ys) 4 1);rw[Zb6 (by omega) hl];exact hy),(Qc.2 ⟨(by show (Kd.int .i64).K g v.Cap (seg (Zr cs 4 ys) 5 1);rw[Zj (by omega) (by omega)];exact hk.2 _ (Zbzh (i:=5) rfl)),(Qc.2 ⟨(by show Kd.str.K g v.Text (seg (Zr cs 4 ys) 6 1);rw[Zj (by omega) (by omega)];exact hk.2 _ (Zbzh (i:=6) rfl)),(Qc.2 ⟨(by show Zy.sl.K g v.List (seg (Zr cs 4 ys) 7 1);rw[Zj (by omega) (by omega)];exact hk.2 _ (Zbzh (i:=7) rfl)),(fun _ h=>by cases h)⟩)⟩)⟩)⟩)⟩)⟩)⟩)⟩)⟩
theorem Zbo2:Zi Zbzi 129:=by
 unfold Zi
 kernel_rfl
theorem Zbi7:Zi Zbzi 131:=by
 unfold Zi
 kernel_rfl
theorem Zbjb:Zi Zbzi 130:=by
 unfold Zi
 kernel_rfl
theorem Zbgv:Zi Zbzi 132:=by
 unfold Zi
 kernel_rfl
theorem Z9d {N d:Nat} {o:Oper} {uses:Z8} {x1:Operand} {v1:ByteArray} (hop:o.op=.build 139 #[(1,x1)]) (hd:o.dst=some d) (h1:Opd uses x1 (Kd.str.pd v1)):OB Zbzi N o uses [(d,Zy.pd {Score:=(0:Nat),Name:=v1})] []:=by
 refine Zdj hop hd fun a g hh=>?_
 obtain⟨c1,k1,e1⟩:=h1 a g hh
 obtain rfl:=k1
 refine⟨.agg #[.float .f64 0,.string v1],?_,[.float .f64 0,.string v1],⟨rfl,(Qc.2 ⟨(rfl),(Qc.2 ⟨rfl,(fun _ h=>by cases h)⟩)⟩)⟩,rfl⟩
 simp only[Zbzk,Zbzm,Zbzl,e1]
 exact Zc7 Zb0f (zero:=.agg #[.float .f64 0,.string ByteArray.empty]) (by kernel_rfl) (places:=[(0,1),(1,1)]) (by kernel_rfl) (by kernel_rfl) g.w
theorem Zbij:Zi Zbzi 133:=by
 unfold Zi
 kernel_rfl
theorem Z4f {N d:Nat} {o:Oper} {uses:Z8} {x0:Operand} {x1:Operand} {v0:Nat} {v1:ByteArray} (hop:o.op=.build 139 #[(0,x0),(1,x1)]) (hd:o.dst=some d) (h0:Opd uses x0 (Kd.flt.pd v0)) (h1:Opd uses x1 (Kd.str.pd v1)):OB Zbzi N o uses [(d,Zy.pd {Score:=v0,Name:=v1})] []:=by
 refine Zdj hop hd fun a g hh=>?_
 obtain⟨c0,k0,e0⟩:=h0 a g hh
 obtain rfl:=k0
 obtain⟨c1,k1,e1⟩:=h1 a g hh
 obtain rfl:=k1
 refine⟨.agg #[.float .f64 v0,.string v1],?_,[.float .f64 v0,.string v1],⟨rfl,(Qc.2 ⟨rfl,(Qc.2 ⟨rfl,(fun _ h=>by cases h)⟩)⟩)⟩,rfl⟩
 simp only[Zbzk,Zbzm,Zbzl,e0,e1]
 exact Zc7 Zb0f (zero:=.agg #[.float .f64 0,.string ByteArray.empty]) (by kernel_rfl) (places:=[(0,1),(1,1)]) (by kernel_rfl) (by kernel_rfl) g.w
theorem Zua {N d:Nat} {o:Oper} {uses:Z8} {x0:Operand} {v0:Int} (hop:o.op=.build 126 #[(0,x0)]) (hd:o.dst=some d) (h0:Opd uses x0 ((Kd.int .i64).pd v0)):OB Zbzi N o uses [(d,Z3.pd {Code:=v0,Num:=(0:Int),Rec:=(default:Zb)})] []:=by
 refine Zdj hop hd fun a g hh=>?_
 obtain⟨c0,k0,e0⟩:=h0 a g hh
 obtain rfl:=k0
 refine⟨.agg #[.int .i64 v0,.int .i64 0,.int .i64 0,.int .i64 0,.int .i64 0,.int .i64 0,.float .f64 0,.int .i64 0,.string ByteArray.empty,.slice none 0 0],?_,[.int .i64 v0,.int .i64 0,.int .i64 0,.int .i64 0,.int .i64 0,.int .i64 0,.float .f64 0,.int .i64 0,.string ByteArray.empty,.slice none 0 0],⟨rfl,(Qc.2 ⟨rfl,(Qc.2 ⟨(rfl),(Qc.2 ⟨(Zku _),(fun _ h=>by cases h)⟩)⟩)⟩)⟩,rfl⟩
 simp only[Zbzk,Zbzm,Zbzl,e0]
 exact Zc7 Zbz5 (zero:=.agg #[.int .i64 0,.int .i64 0,.int .i64 0,.int .i64 0,.int .i64 0,.int .i64 0,.float .f64 0,.int .i64 0,.string ByteArray.empty,.slice none 0 0]) (by kernel_rfl) (places:=[(0,1),(1,1),(2,8)]) (by kernel_rfl) (by kernel_rfl) g.w
theorem Z8z {N d:Nat} {o:Oper} {uses:Z8} {x1:Operand} {v1:Int} (hop:o.op=.build 126 #[(1,x1)]) (hd:o.dst=some d) (h1:Opd uses x1 ((Kd.int .i64).pd v1)):OB Zbzi N o uses [(d,Z3.pd {Code:=(0:Int),Num:=v1,Rec:=(default:Zb)})] []:=by
 refine Zdj hop hd fun a g hh=>?_
 obtain⟨c1,k1,e1⟩:=h1 a g hh
 obtain rfl:=k1
 refine⟨.agg #[.int .i64 0,.int .i64 v1,.int .i64 0,.int .i64 0,.int .i64 0,.int .i64 0,.float .f64 0,.int .i64 0,.string ByteArray.empty,.slice none 0 0],?_,[.int .i64 0,.int .i64 v1,.int .i64 0,.int .i64 0,.int .i64 0,.int .i64 0,.float .f64 0,.int .i64 0,.string ByteArray.empty,.slice none 0 0],⟨rfl,(Qc.2 ⟨(rfl),(Qc.2 ⟨rfl,(Qc.2 ⟨(Zku _),(fun _ h=>by cases h)⟩)⟩)⟩)⟩,rfl⟩
 simp only[Zbzk,Zbzm,Zbzl,e1]
 exact Zc7 Zbz5 (zero:=.agg #[.int .i64 0,.int .i64 0,.int .i64 0,.int .i64 0,.int .i64 0,.int .i64 0,.float .f64 0,.int .i64 0,.string ByteArray.empty,.slice none 0 0]) (by kernel_rfl) (places:=[(0,1),(1,1),(2,8)]) (by kernel_rfl) (by kernel_rfl) g.w
theorem Z85 {N d:Nat} {o:Oper} {uses:Z8} {x2:Operand} {v2:Zb} (hop:o.op=.build 126 #[(2,x2)]) (hd:o.dst=some d) (h2:Opd uses x2 (Zg.pd v2)):OB Zbzi N o uses [(d,Z3.pd {Code:=(0:Int),Num:=(0:Int),Rec:=v2})] []:=by
 refine Zdj hop hd fun a g hh=>?_
 obtain⟨c2,k2,e2⟩:=h2 a g hh
 obtain⟨u2_0,u2_1,u2_2,u2_3,u2_4,u2_5,u2_6,u2_7,rfl⟩:=Zbgb (Zg.len k2)
 refine⟨.agg #[.int .i64 0,.int .i64 0,u2_0,u2_1,u2_2,u2_3,u2_4,u2_5,u2_6,u2_7],?_,[.int .i64 0,.int .i64 0,u2_0,u2_1,u2_2,u2_3,u2_4,u2_5,u2_6,u2_7],⟨rfl,(Qc.2 ⟨(rfl),(Qc.2 ⟨(rfl),(Qc.2 ⟨k2,(fun _ h=>by cases h)⟩)⟩)⟩)⟩,rfl⟩
 simp only[Zbzk,Zbzm,Zbzl,e2]
 exact Zc7 Zbz5 (zero:=.agg #[.int .i64 0,.int .i64 0,.int .i64 0,.int .i64 0,.int .i64 0,.int .i64 0,.float .f64 0,.int .i64 0,.string ByteArray.empty,.slice none 0 0]) (by kernel_rfl) (places:=[(0,1),(1,1),(2,8)]) (by kernel_rfl) (by kernel_rfl) g.w
theorem Zbo7:Zi Zbzi 102:=by
 unfold Zi
 kernel_rfl
theorem Zw0 (j:Nat) {N d:Nat} {o:Oper} {uses:Z8} (hop:o.op=.alloc 47) (hd:o.dst=some d):OB Zbzi N o uses [(d,pBox Zbe j (default:Zk))] [j+1]:=Zf0 (zs:=[.slice none 0 0,.int .i64 0]) (by kernel_rfl) (fun g=>Zxq g) hop hd
theorem Zvk:TE Zbzi 45 102 Zdf 104:=TE.of Tryz.underlying45 (by kernel_rfl) (by decide) (by decide)
theorem Zwb:Fld Zbzi 47 1 Zbe (Kd.int .i64) (fun x:Zk=>x.Room):=Fld.of ⟨_,(Kd.int .i64),1,fun x:Zk=>x.Room⟩ (Zbzh (i:=1) rfl) 1 rfl (by kernel_rfl) (by decide)
theorem Z52 {N d:Nat} {o:Oper} {uses:Z8} {x0:Operand} {x1:Operand} {v0:List Zb2} {v1:Int} (hop:o.op=.build 47 #[(0,x0),(1,x1)]) (hd:o.dst=some d) (h0:Opd uses x0 (Zdf.sl.pd v0)) (h1:Opd uses x1 ((Kd.int .i64).pd v1)):OB Zbzi N o uses [(d,Zbe.pd {L:=v0,Room:=v1})] []:=by
 refine Zdj hop hd fun a g hh=>?_
 obtain⟨c0,k0,e0⟩:=h0 a g hh
 obtain⟨A0,n0,rfl,l0⟩:=k0
 obtain⟨c1,k1,e1⟩:=h1 a g hh
 obtain rfl:=k1
 refine⟨.agg #[.slice A0 v0.length n0,.int .i64 v1],?_,[.slice A0 v0.length n0,.int .i64 v1],⟨rfl,(Qc.2 ⟨⟨A0,n0,rfl,l0⟩,(Qc.2 ⟨rfl,(fun _ h=>by cases h)⟩)⟩)⟩,rfl⟩
 simp only[Zbzk,Zbzm,Zbzl,e0,e1]
 exact Zc7 Zb0i (zero:=.agg #[.slice none 0 0,.int .i64 0]) (by kernel_rfl) (places:=[(0,1),(1,1)]) (by kernel_rfl) (by kernel_rfl) g.w
theorem Zbf7 {N d:Nat} {o:Oper} {uses:Z8} {x0:Operand} {x1:Operand} {v0:ByteArray} {v1:Zb} (hop:o.op=.build 102 #[(0,x0),(1,x1)]) (hd:o.dst=some d) (h0:Opd uses x0 (Kd.str.pd v0)) (h1:Opd uses x1 (Zg.pd v1)):OB Zbzi N o uses [(d,Zdf.pd {Key:=v0,Rec:=v1})] []:=by
 refine Zdj hop hd fun a g hh=>?_
 obtain⟨c0,k0,e0⟩:=h0 a g hh
 obtain rfl:=k0
 obtain⟨c1,k1,e1⟩:=h1 a g hh
 obtain⟨u1_0,u1_1,u1_2,u1_3,u1_4,u1_5,u1_6,u1_7,rfl⟩:=Zbgb (Zg.len k1)
 refine⟨.agg #[.string v0,u1_0,u1_1,u1_2,u1_3,u1_4,u1_5,u1_6,u1_7],?_,[.string v0,u1_0,u1_1,u1_2,u1_3,u1_4,u1_5,u1_6,u1_7],⟨rfl,(Qc.2 ⟨rfl,(Qc.2 ⟨k1,(fun _ h=>by cases h)⟩)⟩)⟩,rfl⟩
 simp only[Zbzk,Zbzm,Zbzl,e0,e1]
 exact Zc7 Tryz.underlying102 (zero:=.agg #[.string ByteArray.empty,.int .i64 0,.int .i64 0,.int .i64 0,.int .i64 0,.float .f64 0,.int .i64 0,.string ByteArray.empty,.slice none 0 0]) (by kernel_rfl) (places:=[(0,1),(1,8)]) (by kernel_rfl) (by kernel_rfl) g.w
theorem Zbso:Zi Zbzi 70:=by
 unfold Zi
 kernel_rfl
theorem Zbts:Zi Zbzi 71:=by
 unfold Zi
 kernel_rfl
theorem Zbrn:Zi Zbzi 72:=by
 unfold Zi
 kernel_rfl
theorem Zbtt:Zi Zbzi 73:=by
 unfold Zi
 kernel_rfl
theorem Zbff (j:Nat) {N d:Nat} {o:Oper} {uses:Z8} (hop:o.op=.alloc 88) (hd:o.dst=some d):OB Zbzi N o uses [(d,pBox Zdl j (default:Zbl))] [j+1]:=Zf0 (zs:=[.int .i64 0,.int .i64 0,.slice none 0 0]) (by kernel_rfl) (fun g=>Z7e g) hop hd
theorem Zbr3:Zi Zbzi 47:=by
 unfold Zi
 kernel_rfl
theorem Zvx {N d:Nat} {o:Oper} {uses:Z8} {x0:Operand} {x1:Operand} {v0:Int} {v1:Int} (hop:o.op=.build 88 #[(0,x0),(1,x1)]) (hd:o.dst=some d) (h0:Opd uses x0 ((Kd.int .i64).pd v0)) (h1:Opd uses x1 ((Kd.int .i64).pd v1)):OB Zbzi N o uses [(d,Zdl.pd {Code:=v0,At:=v1,Answers:=([]:List Zm)})] []:=by
 refine Zdj hop hd fun a g hh=>?_
 obtain⟨c0,k0,e0⟩:=h0 a g hh
 obtain rfl:=k0
 obtain⟨c1,k1,e1⟩:=h1 a g hh
 obtain rfl:=k1
 refine⟨.agg #[.int .i64 v0,.int .i64 v1,.slice none 0 0],?_,[.int .i64 v0,.int .i64 v1,.slice none 0 0],⟨rfl,(Qc.2 ⟨rfl,(Qc.2 ⟨rfl,(Qc.2 ⟨(⟨none,0,rfl,Zbz1 _,Zbz2 _,.inl rfl⟩),(fun _ h=>by cases h)⟩)⟩)⟩)⟩,rfl⟩
 simp only[Zbzk,Zbzm,Zbzl,e0,e1]
 exact Zc7 Zbz9 (zero:=.agg #[.int .i64 0,.int .i64 0,.slice none 0 0]) (by kernel_rfl) (places:=[(0,1),(1,1),(2,1)]) (by kernel_rfl) (by kernel_rfl) g.w
theorem Zl9:Ty Zbzi 88 Zdl:=⟨by kernel_rfl,by kernel_rfl⟩
theorem Z3l:TE Zbzi 86 126 Z3 104:=TE.of Tryz.underlying86 (by kernel_rfl) (by decide) (by decide)
theorem Zbte:Zi Zbzi 48:=by
 unfold Zi
 kernel_rfl
theorem Zbm2 {N d:Nat} {o:Oper} {uses:Z8} {x2:Operand} {v2:List Zm} (hop:o.op=.build 88 #[(2,x2)]) (hd:o.dst=some d) (h2:Opd uses x2 (Z3.sl.pd v2)):OB Zbzi N o uses [(d,Zdl.pd {Code:=(0:Int),At:=(0:Int),Answers:=v2})] []:=by
 refine Zdj hop hd fun a g hh=>?_
 obtain⟨c2,k2,e2⟩:=h2 a g hh
 obtain⟨A2,n2,rfl,l2⟩:=k2
 refine⟨.agg #[.int .i64 0,.int .i64 0,.slice A2 v2.length n2],?_,[.int .i64 0,.int .i64 0,.slice A2 v2.length n2],⟨rfl,(Qc.2 ⟨(rfl),(Qc.2 ⟨(rfl),(Qc.2 ⟨⟨A2,n2,rfl,l2⟩,(fun _ h=>by cases h)⟩)⟩)⟩)⟩,rfl⟩
 simp only[Zbzk,Zbzm,Zbzl,e2]
 exact Zc7 Zbz9 (zero:=.agg #[.int .i64 0,.int .i64 0,.slice none 0 0]) (by kernel_rfl) (places:=[(0,1),(1,1),(2,1)]) (by kernel_rfl) (by kernel_rfl) g.w
theorem Z3i:TE Zbzi 54 88 Zdl 40:=TE.of Tryz.underlying54 (by kernel_rfl) (by decide) (by decide)
theorem Zbqx {N d:Nat} {o:Oper} {uses:Z8}   (hop:o.op=.build 88 #[]) (hd:o.dst=some d) :OB Zbzi N o uses [(d,Zdl.pd {Code:=(0:Int),At:=(0:Int),Answers:=([]:List Zm)})] []:=by
 refine Zdj hop hd fun a g hh=>?_
 refine⟨.agg #[.int .i64 0,.int .i64 0,.slice none 0 0],?_,[.int .i64 0,.int .i64 0,.slice none 0 0],⟨rfl,(Qc.2 ⟨(rfl),(Qc.2 ⟨(rfl),(Qc.2 ⟨(⟨none,0,rfl,Zbz1 _,Zbz2 _,.inl rfl⟩),(fun _ h=>by cases h)⟩)⟩)⟩)⟩,rfl⟩
 simp only[Zbzk,Zbzm,Zbzl,Zbzl]
 exact Zc7 Zbz9 (zero:=.agg #[.int .i64 0,.int .i64 0,.slice none 0 0]) (by kernel_rfl) (places:=[(0,1),(1,1),(2,1)]) (by kernel_rfl) (by kernel_rfl) g.w
theorem Zbs9:Zi Zbzi 25:=by
 unfold Zi
 kernel_rfl
theorem Z7u:Zi Zbzi 79:=by
 unfold Zi
 kernel_rfl
theorem Zwr:Fld Zbzi 28 0 Zbu Zbk (fun x:Z4=>x.top):=Fld.of ⟨_,Zbk,0,fun x:Z4=>x.top⟩ (Zbzh (i:=0) rfl) 0 rfl (by kernel_rfl) (by decide)
theorem Zd5:Ty Zbzi 26 Zbk:=⟨by kernel_rfl,by kernel_rfl⟩
theorem Zgu:Fld Zbzi 135 0 Ziy Kd.str (fun x:shelf_node=>x.key):=Fld.of ⟨_,Kd.str,0,fun x:shelf_node=>x.key⟩ (Zbzh (i:=0) rfl) 0 rfl (by kernel_rfl) (by decide)
theorem Zfy:Fld Zbzi 135 2 Ziy Zbk (fun x:shelf_node=>x.left):=Fld.of ⟨_,Zbk,9,fun x:shelf_node=>x.left⟩ (Zbzh (i:=2) rfl) 9 rfl (by kernel_rfl) (by decide)
theorem Zgx:Fld Zbzi 135 3 Ziy Zbk (fun x:shelf_node=>x.right):=Fld.of ⟨_,Zbk,10,fun x:shelf_node=>x.right⟩ (Zbzh (i:=3) rfl) 10 rfl (by kernel_rfl) (by decide)
theorem Zj2:Fld Zbzi 135 1 Ziy Zg (fun x:shelf_node=>x.rec_):=Fld.of ⟨_,Zg,1,fun x:shelf_node=>x.rec_⟩ (Zbzh (i:=1) rfl) 1 rfl (by kernel_rfl) (by decide)
theorem Zvt:Zi Zbzi 53:=by
 unfold Zi
 kernel_rfl
theorem Zze:Zi Zbzi 164:=by
 unfold Zi
 kernel_rfl
theorem Zbnc:Ty Zbzi 221 Kd.fnc:=⟨by kernel_rfl,by kernel_rfl⟩
theorem Zbps:Zi Zbzi 168:=by
 unfold Zi
 kernel_rfl
theorem Zbqa:Zi Zbzi 167:=by
 unfold Zi
 kernel_rfl
theorem Zboz:Ext Zbzi 170 (Extern.SlicesOverlaps.overlaps #[98,98] #[4]):=⟨_,Tryz.func170,rfl,rfl,by kernel_rfl,by kernel_rfl⟩
theorem Z83:Zi Zbzi 149:=by
 unfold Zi
 kernel_rfl
theorem Zbgu:Zi Zbzi 166:=by
 unfold Zi
 kernel_rfl
theorem Zbpa:Zi Zbzi 150:=by
 unfold Zi
 kernel_rfl
theorem Zbqd:Zi Zbzi 134:=by
 unfold Zi
 kernel_rfl
theorem Zbqt:Zi Zbzi 135:=by
 unfold Zi
 kernel_rfl
theorem Zbp7:Zi Zbzi 136:=by
 unfold Zi
 kernel_rfl
theorem Zbqy:Zi Zbzi 137:=by
 unfold Zi
 kernel_rfl
theorem Zbhe:Zi Zbzi 138:=by
 unfold Zi
 kernel_rfl
theorem Zbqk:Zi Zbzi 139:=by
 unfold Zi
 kernel_rfl
theorem Zbqw:Zi Zbzi 140:=by
 unfold Zi
 kernel_rfl
theorem Zbo8:Zi Zbzi 142:=by
 unfold Zi
 kernel_rfl
theorem Zbo9:Zi Zbzi 143:=by
 unfold Zi
 kernel_rfl
theorem Zbqf:Zi Zbzi 144:=by
 unfold Zi
 kernel_rfl
theorem Zbpr:Zi Zbzi 145:=by
 unfold Zi
 kernel_rfl
theorem Zbpo:Zi Zbzi 146:=by
 unfold Zi
 kernel_rfl
theorem Zbpi:Zi Zbzi 147:=by
 unfold Zi
 kernel_rfl
theorem Zbp8:Zi Zbzi 148:=by
 unfold Zi
 kernel_rfl
theorem Zbo5:Zi Zbzi 151:=by
 unfold Zi
 kernel_rfl
theorem Zbo0:Zi Zbzi 152:=by
 unfold Zi
 kernel_rfl
theorem Zzg:Zi Zbzi 141:=by
 unfold Zi
 kernel_rfl
theorem Zyq:Zi Zbzi 103:=by
 unfold Zi
 kernel_rfl
theorem Zbqi:Zi Zbzi 104:=by
 unfold Zi
 kernel_rfl
theorem Zbq2:Zi Zbzi 105:=by
 unfold Zi
 kernel_rfl
theorem Zbjs:Fld Zbzi 135 4 Ziy (Kd.int .i64) (fun x:shelf_node=>x.size):=Fld.of ⟨_,(Kd.int .i64),11,fun x:shelf_node=>x.size⟩ (Zbzh (i:=4) rfl) 11 rfl (by kernel_rfl) (by decide)
theorem Zso:Zi Zbzi 52:=by
 unfold Zi
 kernel_rfl
theorem Z1r {N d:Nat} {o:Oper} {uses:Z8} {x0:Operand} {x1:Operand} {x2:Operand} {x3:Operand} {x4:Operand} {v0:ByteArray} {v1:Zb} {v2:shelf_nodeT} {v3:shelf_nodeT} {v4:Int} (hop:o.op=.build 135 #[(0,x0),(1,x1),(2,x2),(3,x3),(4,x4)]) (hd:o.dst=some d) (h0:Opd uses x0 (Kd.str.pd v0)) (h1:Opd uses x1 (Zg.pd v1)) (h2:Opd uses x2 (Zbk.pd v2)) (h3:Opd uses x3 (Zbk.pd v3)) (h4:Opd uses x4 ((Kd.int .i64).pd v4)):OB Zbzi N o uses [(d,Ziy.pd {key:=v0,rec_:=v1,left:=v2,right:=v3,size:=v4})] []:=by
 refine Zdj hop hd fun a g hh=>?_
 obtain⟨c0,k0,e0⟩:=h0 a g hh
 obtain rfl:=k0
 obtain⟨c1,k1,e1⟩:=h1 a g hh
 obtain⟨u1_0,u1_1,u1_2,u1_3,u1_4,u1_5,u1_6,u1_7,rfl⟩:=Zbgb (Zg.len k1)
 obtain⟨c2,k2,e2⟩:=h2 a g hh
 obtain⟨p2,rfl,l2⟩:=k2
 obtain⟨q2,rfl,_⟩:=shelf_nodeT.ptr l2
 obtain⟨c3,k3,e3⟩:=h3 a g hh
 obtain⟨p3,rfl,l3⟩:=k3
 obtain⟨q3,rfl,_⟩:=shelf_nodeT.ptr l3
 obtain⟨c4,k4,e4⟩:=h4 a g hh
 obtain rfl:=k4
 refine⟨.agg #[.string v0,u1_0,u1_1,u1_2,u1_3,u1_4,u1_5,u1_6,u1_7,.pointer q2,.pointer q3,.int .i64 v4],?_,[.string v0,u1_0,u1_1,u1_2,u1_3,u1_4,u1_5,u1_6,u1_7,.pointer q2,.pointer q3,.int .i64 v4],⟨rfl,(Qc.2 ⟨rfl,(Qc.2 ⟨k1,(Qc.2 ⟨⟨.pointer q2,rfl,l2⟩,(Qc.2 ⟨⟨.pointer q3,rfl,l3⟩,(Qc.2 ⟨rfl,(fun _ h=>by cases h)⟩)⟩)⟩)⟩)⟩)⟩,rfl⟩
 simp only[Zbzk,Zbzm,Zbzl,e0,e1,e2,e3,e4]
 exact Zc7 Tryz.underlying135 (zero:=.agg #[.string ByteArray.empty,.int .i64 0,.int .i64 0,.int .i64 0,.int .i64 0,.float .f64 0,.int .i64 0,.string ByteArray.empty,.slice none 0 0,.pointer none,.pointer none,.int .i64 0]) (by kernel_rfl) (places:=[(0,1),(1,8),(9,1),(10,1),(11,1)]) (by kernel_rfl) (by kernel_rfl) g.w
theorem Z26:Zi Zbzi 169:=by
 unfold Zi
 kernel_rfl
theorem Znx:Zi Zbzi 155:=by
 unfold Zi
 kernel_rfl
theorem Z4r:Zi Zbzi 106:=by
 unfold Zi
 kernel_rfl
theorem Zy7:Zi Zbzi 153:=by
 unfold Zi
 kernel_rfl
theorem Zbpn:Zi Zbzi 154:=by
 unfold Zi
 kernel_rfl
theorem Zbfg:Zi Zbzi 74:=by
 unfold Zi
 kernel_rfl
theorem Z6v {N d:Nat} {o:Oper} {uses:Z8} {x0:Operand} {x1:Operand} {v0:shelf_nodeT} {v1:Int} (hop:o.op=.build 28 #[(0,x0),(1,x1)]) (hd:o.dst=some d) (h0:Opd uses x0 (Zbk.pd v0)) (h1:Opd uses x1 ((Kd.int .i64).pd v1)):OB Zbzi N o uses [(d,Zbu.pd {top:=v0,room:=v1})] []:=by
 refine Zdj hop hd fun a g hh=>?_
 obtain⟨c0,k0,e0⟩:=h0 a g hh
 obtain⟨p0,rfl,l0⟩:=k0
 obtain⟨q0,rfl,_⟩:=shelf_nodeT.ptr l0
 obtain⟨c1,k1,e1⟩:=h1 a g hh
 obtain rfl:=k1
 refine⟨.agg #[.pointer q0,.int .i64 v1],?_,[.pointer q0,.int .i64 v1],⟨rfl,(Qc.2 ⟨⟨.pointer q0,rfl,l0⟩,(Qc.2 ⟨rfl,(fun _ h=>by cases h)⟩)⟩)⟩,rfl⟩
 simp only[Zbzk,Zbzm,Zbzl,e0,e1]
 exact Zc7 Zbz8 (zero:=.agg #[.pointer none,.int .i64 0]) (by kernel_rfl) (places:=[(0,1),(1,1)]) (by kernel_rfl) (by kernel_rfl) g.w
theorem Z91:Zi Zbzi 107:=by
 unfold Zi
 kernel_rfl
theorem Zbmh:Zi Zbzi 27:=by
 unfold Zi
 kernel_rfl
theorem Zbsl:Zi Zbzi 75:=by
 unfold Zi
 kernel_rfl
theorem Zbto:Zi Zbzi 76:=by
 unfold Zi
 kernel_rfl
theorem Zbsc:Zi Zbzi 77:=by
 unfold Zi
 kernel_rfl
theorem Zbr0:Zi Zbzi 78:=by
 unfold Zi
 kernel_rfl
theorem Zbeu {N d:Nat} {o:Oper} {uses:Z8} {x0:Operand} {x1:Operand} {v0:Int} {v1:Int} (hop:o.op=.build 130 #[(0,x0),(1,x1)]) (hd:o.dst=some d) (h0:Opd uses x0 ((Kd.int .i64).pd v0)) (h1:Opd uses x1 ((Kd.int .i64).pd v1)):OB Zbzi N o uses [(d,Zhv.pd {code:=v0,at_:=v1})] []:=by
 refine Zdj hop hd fun a g hh=>?_
 obtain⟨c0,k0,e0⟩:=h0 a g hh
 obtain rfl:=k0
 obtain⟨c1,k1,e1⟩:=h1 a g hh
 obtain rfl:=k1
 refine⟨.agg #[.int .i64 v0,.int .i64 v1],?_,[.int .i64 v0,.int .i64 v1],⟨rfl,(Qc.2 ⟨rfl,(Qc.2 ⟨rfl,(fun _ h=>by cases h)⟩)⟩)⟩,rfl⟩
 simp only[Zbzk,Zbzm,Zbzl,e0,e1]
 exact Zc7 Tryz.underlying130 (zero:=.agg #[.int .i64 0,.int .i64 0]) (by kernel_rfl) (places:=[(0,1),(1,1)]) (by kernel_rfl) (by kernel_rfl) g.w
structure Zkd where
 Code:Int
 At:Int
 Answers:SlV
def Z2x:List (Kd.FK Zkd):=[⟨_,(Kd.int .i64),0,fun x:Zkd=>x.Code⟩,
 ⟨_,(Kd.int .i64),1,fun x:Zkd=>x.At⟩,
 ⟨_,Kd.raw,2,fun x:Zkd=>x.Answers⟩]
def Zd9:Kd Zkd:=Kd.struct 3 Z2x (by rfl)
def Ze0 (x:Zbl) (s:SlV):Zkd:=⟨x.Code,x.At,s⟩
theorem Z3e:∀g,Zd9.K g (Ze0 ((default:Zbl)) (none,0,0)) [.int .i64 0,.int .i64 0,.slice none 0 0]:=fun g=>⟨rfl,(Qc.2 ⟨(rfl),(Qc.2 ⟨(rfl),(Qc.2 ⟨rfl,(fun _ h=>by cases h)⟩)⟩)⟩)⟩
theorem Z4q {x:Zbl} {e j:Nat}:∀(g:G) (s:SlV) (cs:List Value),Zd9.K g (Ze0 x s) cs→(hpL (pRow Z3 e j x.Answers)).p g s→Zdl.K g x cs:=fun g s cs h hr=>⟨h.1,(Qc.2 ⟨(h.2 _ (Zbzh (i:=0) rfl)),(Qc.2 ⟨(h.2 _ (Zbzh (i:=1) rfl)),(Qc.2 ⟨(Z3u (h.2 _ (Zbzh (i:=2) rfl)) hr.1),(fun _ h=>by cases h)⟩)⟩)⟩)⟩
theorem Z3y {x:Zbl} {g:G} {cs ys:List Value} {s0 s1:SlV} (hk:Zd9.K g (Ze0 x s0) cs) (hy:Kd.raw.K g s1 ys):2+ys.length≤cs.length∧Zd9.K g (Ze0 x s1) (Zr cs 2 ys):=by
 have hc:cs.length=3:=hk.1
 have hl:ys.length=1:=Kd.raw.len hy
 exact⟨by omega,(Zb7 (by omega)).trans hc,(Qc.2 ⟨(by show (Kd.int .i64).K g x.Code (seg (Zr cs 2 ys) 0 1);rw[Zj (by omega) (by omega)];exact hk.2 _ (Zbzh (i:=0) rfl)),(Qc.2 ⟨(by show (Kd.int .i64).K g x.At (seg (Zr cs 2 ys) 1 1);rw[Zj (by omega) (by omega)];exact hk.2 _ (Zbzh (i:=1) rfl)),(Qc.2 ⟨(by show Kd.raw.K g s1 (seg (Zr cs 2 ys) 2 1);rw[Zb6 (by omega) hl];exact hy),(fun _ h=>by cases h)⟩)⟩)⟩)⟩
theorem Z13:Fld Zbzi 88 2 Zd9 Kd.raw (fun x:Zkd=>x.Answers):=Fld.of ⟨_,Kd.raw,2,fun x:Zkd=>x.Answers⟩ (Zbzh (i:=2) rfl) 2 rfl (by kernel_rfl) (by decide)
theorem Z8y:Ty Zbzi 86 Kd.raw:=⟨by kernel_rfl,by kernel_rfl⟩
theorem Zbji:Fld Zbzi 130 0 Zhv (Kd.int .i64) (fun x:Ze1=>x.code):=Fld.of ⟨_,(Kd.int .i64),0,fun x:Ze1=>x.code⟩ (Zbzh (i:=0) rfl) 0 rfl (by kernel_rfl) (by decide)
theorem Zbjy:Fld Zbzi 130 1 Zhv (Kd.int .i64) (fun x:Ze1=>x.at_):=Fld.of ⟨_,(Kd.int .i64),1,fun x:Ze1=>x.at_⟩ (Zbzh (i:=1) rfl) 1 rfl (by kernel_rfl) (by decide)
theorem Zbpg:Ty Zbzi 130 Zhv:=⟨by kernel_rfl,by kernel_rfl⟩
theorem Zbsn:Zi Zbzi 50:=by
 unfold Zi
 kernel_rfl
theorem Zblp:Zi Zbzi 51:=by
 unfold Zi
 kernel_rfl
theorem Zbmo:Zi Zbzi 49:=by
 unfold Zi
 kernel_rfl
theorem Zbtd:Zi Zbzi 26:=by
 unfold Zi
 kernel_rfl
theorem en_5:Zi Zbzi 5:=by
 unfold Zi
 kernel_rfl
theorem Zbja:Ty Zbzi 102 Zdf:=⟨by kernel_rfl,by kernel_rfl⟩
theorem Zbph (j:Nat) {N d:Nat} {o:Oper} {uses:Z8} (hop:o.op=.alloc 102) (hd:o.dst=some d):OB Zbzi N o uses [(d,pBox Zdf j (default:Zb2))] [j+1]:=Zf0 (zs:=[.string ByteArray.empty,.int .i64 0,.int .i64 0,.int .i64 0,.int .i64 0,.float .f64 0,.int .i64 0,.string ByteArray.empty,.slice none 0 0]) (by kernel_rfl) (fun g=>Zyd g) hop hd
theorem Zbsj:Zi Zbzi 28:=by
 unfold Zi
 kernel_rfl
theorem en_4:Zi Zbzi 4:=by
 unfold Zi
 kernel_rfl
theorem Zbrb:Ty Zbzi 25 Zes:=⟨by kernel_rfl,by kernel_rfl⟩
theorem en_7:Zi Zbzi 7:=by
 unfold Zi
 kernel_rfl
theorem en_8:Zi Zbzi 8:=by
 unfold Zi
 kernel_rfl
theorem Zbnn {N d:Nat} {o:Oper} {uses:Z8} {x1:Operand} {v1:Int} (hop:o.op=.build 39 #[(1,x1)]) (hd:o.dst=some d) (h1:Opd uses x1 ((Kd.int .i64).pd v1)):OB Zbzi N o uses [(d,Zcu.pd {From:=(0:Int),Len:=v1})] []:=by
 refine Zdj hop hd fun a g hh=>?_
 obtain⟨c1,k1,e1⟩:=h1 a g hh
 obtain rfl:=k1
 refine⟨.agg #[.int .i64 0,.int .i64 v1],?_,[.int .i64 0,.int .i64 v1],⟨rfl,(Qc.2 ⟨(rfl),(Qc.2 ⟨rfl,(fun _ h=>by cases h)⟩)⟩)⟩,rfl⟩
 simp only[Zbzk,Zbzm,Zbzl,e1]
 exact Zc7 Tryz.underlying39 (zero:=.agg #[.int .i64 0,.int .i64 0]) (by kernel_rfl) (places:=[(0,1),(1,1)]) (by kernel_rfl) (by kernel_rfl) g.w
theorem Zbrc (j:Nat) {N d:Nat} {o:Oper} {uses:Z8} (hop:o.op=.alloc 39) (hd:o.dst=some d):OB Zbzi N o uses [(d,pBox Zcu j (default:Zc5))] [j+1]:=Zf0 (zs:=[.int .i64 0,.int .i64 0]) (by kernel_rfl) (fun g=>Zbay g) hop hd
theorem en_9:Zi Zbzi 9:=by
 unfold Zi
 kernel_rfl
theorem Zbom:Fld Zbzi 25 0 Zes (Kd.int .i64) (fun x:Zel=>x.At):=Fld.of ⟨_,(Kd.int .i64),0,fun x:Zel=>x.At⟩ (Zbzh (i:=0) rfl) 0 rfl (by kernel_rfl) (by decide)
theorem Zbrf:Zi Zbzi 10:=by
 unfold Zi
 kernel_rfl
theorem Zbmy {N d:Nat} {o:Oper} {uses:Z8} {x1:Operand} {v1:Int} (hop:o.op=.build 47 #[(1,x1)]) (hd:o.dst=some d) (h1:Opd uses x1 ((Kd.int .i64).pd v1)):OB Zbzi N o uses [(d,Zbe.pd {L:=([]:List Zb2),Room:=v1})] []:=by
 refine Zdj hop hd fun a g hh=>?_
 obtain⟨c1,k1,e1⟩:=h1 a g hh
 obtain rfl:=k1
 refine⟨.agg #[.slice none 0 0,.int .i64 v1],?_,[.slice none 0 0,.int .i64 v1],⟨rfl,(Qc.2 ⟨(⟨none,0,rfl,Zbz1 _,Zbz2 _,.inl rfl⟩),(Qc.2 ⟨rfl,(fun _ h=>by cases h)⟩)⟩)⟩,rfl⟩
 simp only[Zbzk,Zbzm,Zbzl,e1]
 exact Zc7 Zb0i (zero:=.agg #[.slice none 0 0,.int .i64 0]) (by kernel_rfl) (places:=[(0,1),(1,1)]) (by kernel_rfl) (by kernel_rfl) g.w
theorem Zbf9:TE Zbzi 48 47 Zbe 32:=TE.of Tryz.underlying48 (by kernel_rfl) (by decide) (by decide)
theorem Zbru:(Zbzi.info? 49).map (·.size)=some Zb1.sl.sz:=by kernel_rfl
theorem Zbst:Zi Zbzi 11:=by
 unfold Zi
 kernel_rfl
theorem Zbrl:Zi Zbzi 13:=by
 unfold Zi
 kernel_rfl
theorem Zbgy {N d:Nat} {o:Oper} {uses:Z8} {x0:Operand} {x1:Operand} {v0:Int} {v1:List Zbj} (hop:o.op=.build 53 #[(0,x0),(1,x1)]) (hd:o.dst=some d) (h0:Opd uses x0 ((Kd.int .i64).pd v0)) (h1:Opd uses x1 (Zb1.sl.pd v1)):OB Zbzi N o uses [(d,Zde.pd {Number:=v0,Deals:=v1})] []:=by
 refine Zdj hop hd fun a g hh=>?_
 obtain⟨c0,k0,e0⟩:=h0 a g hh
 obtain rfl:=k0
 obtain⟨c1,k1,e1⟩:=h1 a g hh
 obtain⟨A1,n1,rfl,l1⟩:=k1
 refine⟨.agg #[.int .i64 v0,.slice A1 v1.length n1],?_,[.int .i64 v0,.slice A1 v1.length n1],⟨rfl,(Qc.2 ⟨rfl,(Qc.2 ⟨⟨A1,n1,rfl,l1⟩,(fun _ h=>by cases h)⟩)⟩)⟩,rfl⟩
 simp only[Zbzk,Zbzm,Zbzl,e0,e1]
 exact Zc7 Tryz.underlying53 (zero:=.agg #[.int .i64 0,.slice none 0 0]) (by kernel_rfl) (places:=[(0,1),(1,1)]) (by kernel_rfl) (by kernel_rfl) g.w
theorem Zbr4:Zi Zbzi 12:=by
 unfold Zi
 kernel_rfl
theorem Zbmc:(Zbzi.info? 47).map (·.size)=some Zbe.sz:=by kernel_rfl
theorem Zbrg:Zi Zbzi 14:=by
 unfold Zi
 kernel_rfl
theorem Zbs1:Zi Zbzi 15:=by
 unfold Zi
 kernel_rfl
theorem Zbr5:(Zbzi.info? 53).map (·.size)=some Zde.sz:=by kernel_rfl
theorem Zbsw:Zi Zbzi 16:=by
 unfold Zi
 kernel_rfl
theorem Zbtp:Zi Zbzi 17:=by
 unfold Zi
 kernel_rfl
theorem Zzr (a0:Int) {r:Z4×Int} (H0:Zpy a0=some r):FnOk Zbzi 4 [(pInt .i64 a0)] (pTup [(Zbu.pd r.1),(pInt .i64 r.2)]):=by
 unfold Zpy at H0
 refine Zb9 (N:=13) Tryz.func4 rfl rfl (Qe rfl) rfl rfl (fun a g0 s b=>?_)
 refine U4 [5,0] s b Za
  (U2 [] (Zsw 2 rfl rfl)<|U2 [] (Zc rfl rfl U6)<|U3) fun a g s b=>?_
 refine wp_seq<|U4 [5,15,50] s b Za
  (Am 5 rfl<|U2 [0] (Zcj rfl rfl U0 U6)<|Am 0 rfl<|Gf [0,5] rfl (fun h=>Zx rfl rfl U0)<|Gf [10,0] rfl (fun h=>Zcn rfl rfl (V1 h U0) U6)<|U2 [20,0] (Zb3 rfl rfl U0 (fun hz=>(V1 (bNF hz) U1)))<|U3) fun a g s b=>?_
 refine Zs (s.bool 2 rfl) H0 (fun H0=>?_) (fun H0=>?_)
 refine U4 [10,20] (L:=[(2,_)]) (s.pi [1] rfl) b Za
  (U2 [] (Zbqe rfl rfl )<|U2 [0,5] (Z9 Zcw rfl rfl U1 U0)<|U2 [] (Zc rfl rfl U6)<|U3) fun a g s b=>?_
 refine wp_ret<|Zp ?_
 obtain rfl:=Oi H0
 obtain⟨u0,hu0,hq0⟩:=Zbi (P:=Zbzi) Zcw (s.at 0 rfl)
 exact Zdq rfl s b hu0 (Zf (s:=3)) (Zcr hq0 (s.at 1 rfl))
 refine wp_skip<|Zl ?_
 refine U4 [20,30] (L:=[(0,_),(2,_)]) (s.pi [0,1] rfl) b Za
  (Am 5 rfl<|U2 [0] (Zboc rfl rfl U0)<|U2 [0,15] (Z9 Zcw rfl rfl U1 U0)<|U2 [] (Zc rfl rfl U6)<|U3) fun a g s b=>?_
 refine wp_ret ?_
 obtain rfl:=Oi H0
 obtain⟨u0,hu0,hq0⟩:=Zbi (P:=Zbzi) Zcw (s.at 0 rfl)
 exact Zdq rfl s b hu0 (Zf (s:=3)) (Zcr hq0 (s.at 1 rfl))
theorem Zr7 (a0:Z4) {r:Int} (H0:Zjl a0=some r):FnOk Zbzi 5 [(Zbu.pd a0)] (pInt .i64 r):=by
 unfold Zjl at H0
 refine Zb9 (N:=5) Tryz.func5 rfl rfl (Qe rfl) rfl rfl (fun a g0 s b=>?_)
 refine U4 [0] s b Za
  (U2 [5] (Zbt rfl rfl U0)<|U2 [] (Zc rfl rfl U6)<|U3) fun a g s b=>?_
 refine U4 [20] s b Za
  (Af Z0m 5 rfl<|Al U9 0 rfl<|Aa 0 rfl<|U3) fun a g s b=>?_
 refine wp_ret ?_
 obtain rfl:=Oi H0
 exact Zba rfl s b (Zf (s:=2)) (s.at 0 rfl)
theorem Zuj (a0:Int) {r:Int} (H0:Zn8 a0=some r):FnOk Zbzi 6 [(pInt .i64 a0)] (pInt .i64 r):=by
 unfold Zn8 at H0
 refine Zb9 (N:=8) Tryz.func6 rfl rfl (Qe rfl) rfl rfl (fun a g0 s b=>?_)
 refine U4 [5] s b Za
  (U2 [] (Zc rfl rfl U6)<|U3) fun a g s b=>?_
 refine U4 [50] s b Za
  (Am 5 rfl<|U2 [0] (Zbw rfl rfl U0 U6 rfl)<|U2 [0] (Zei rfl rfl U0 U6 rfl)<|U2 [0] (Zbqr rfl rfl U0 U6 (by decide))<|U2 [0] (Zv5 rfl rfl U0 U6)<|Aa 0 rfl<|U3) fun a g s b=>?_
 refine wp_ret ?_
 obtain rfl:=Oi H0
 exact Zba rfl s b (Zf (s:=2)) (s.at 0 rfl)
theorem Zv6 (a0:Zel) {r:Bool} (H0:Zmd a0=some r):FnOk Zbzi 7 [(Zes.pd a0)] (Zbo r):=by
 unfold Zmd at H0
 refine Zb9 (N:=7) Tryz.func7 rfl rfl (Qe rfl) rfl rfl (fun a g0 s b=>?_)
 refine U4 [0] s b Za
  (U2 [5] (Zbt rfl rfl U0)<|U2 [] (Zc rfl rfl c_b)<|U3) fun a g s b=>?_
 refine U4 [40] s b Za
  (Af Zbdj 5 rfl<|Al Zbln 0 rfl<|U2 [0] (Zbv Zb0h rfl rfl U0)<|U2 [0] (Zcn rfl rfl U0 U6)<|Aa 0 rfl<|U3) fun a g s b=>?_
 refine wp_ret ?_
 obtain rfl:=Oi H0
 exact Zba rfl s b (Zf (s:=2)) (s.at 0 rfl)
theorem Zbcg (a0:Int) {r:Int×Ze} (H0:Zx1 a0=some r):Zbad Zbzi 8 [(pInt .i64 a0)] Zc1 r.2 (pInt .i64 r.1):=by
 unfold Zx1 at H0
 refine Zbgq (N:=14) Tryz.func8 rfl rfl (Qe rfl) rfl (fun a g0 h0 s b=>?_)
 refine U4 [5] s b Za
  (U2 [] (Zl2 (.inr rfl))<|U2 [] (Zc rfl rfl U6)<|U3) fun a g s b=>?_
 refine wp_seq<|U4 [5,50] s b Za
  (Am 5 rfl<|U2 [0] (Zcj rfl rfl U0 U6)<|Am 0 rfl<|Gf [0,5] rfl (fun h=>Zx rfl rfl U0)<|Gf [10,0] rfl (fun h=>Zcn rfl rfl (V1 h U0) U6)<|U2 [20,0] (Zb3 rfl rfl U0 (fun hz=>(V1 (bNF hz) U1)))<|U3) fun a g s b=>?_
 refine Zs (s.bool 1 rfl) H0 (fun H0=>?_) (fun H0=>?_)
 refine U4 [10] (L:=[]) (s.pi [] rfl) b Za
  (U2 [] (Zl2 (.inr rfl))<|U2 [] (Zc rfl rfl U6)<|U3) fun a g s b=>?_
 cases H0
 refine wp_skip<|Zl ?_
 obtain⟨h2,H0⟩:=Zdr H0
 refine U4 [40,50] (L:=[(0,_)]) (s.pi [0] rfl) b Za
  (Am 5 rfl<|U2 (outs:=[(11,(pArr (Kd.arr 64 (Kd.int .u8)) 92 11 (Zbzs (Zbzo a0) (Zbzs 64 (0:Int)))))]) (S:=[12]) [0] (Zbok (zs:=[.int .u8 0,.int .u8 0,.int .u8 0,.int .u8 0,.int .u8 0,.int .u8 0,.int .u8 0,.int .u8 0,.int .u8 0,.int .u8 0,.int .u8 0,.int .u8 0,.int .u8 0,.int .u8 0,.int .u8 0,.int .u8 0,.int .u8 0,.int .u8 0,.int .u8 0,.int .u8 0,.int .u8 0,.int .u8 0,.int .u8 0,.int .u8 0,.int .u8 0,.int .u8 0,.int .u8 0,.int .u8 0,.int .u8 0,.int .u8 0,.int .u8 0,.int .u8 0,.int .u8 0,.int .u8 0,.int .u8 0,.int .u8 0,.int .u8 0,.int .u8 0,.int .u8 0,.int .u8 0,.int .u8 0,.int .u8 0,.int .u8 0,.int .u8 0,.int .u8 0,.int .u8 0,.int .u8 0,.int .u8 0,.int .u8 0,.int .u8 0,.int .u8 0,.int .u8 0,.int .u8 0,.int .u8 0,.int .u8 0,.int .u8 0,.int .u8 0,.int .u8 0,.int .u8 0,.int .u8 0,.int .u8 0,.int .u8 0,.int .u8 0,.int .u8 0]) (zv:=(Zbzs 64 (0:Int))) Zbsx (by kernel_rfl) (fun g=>(Z1z (z:=(default:Int)) (zs:=[.int .u8 0]) (fun g=>rfl) 64 g)) (by decide) rfl rfl (Opd.to U0 (congrArg (pInt .i64) (Zb0d h2.1).symm)) (Opd.to U0 (congrArg (pInt .i64) (Zb0d h2.1).symm)) h2.2 (Nat.le_trans (Nat.le_mul_of_pos_right _ (by decide)) h2.2))<|U2 (outs:=[(12,(pStG Zby Zcp (hpL2 (pArr (Kd.arr 64 (Kd.int .u8)) 92 11 (Zbzs (Zbzo a0) (Zbzs 64 (0:Int)))) (pRow Zbr 94 512 [])) ({firm:=(Zbzs (Zbzo a0) (Zbzs 64 (0:Int))),pending:=([]:List Zo),left:=(0:Int),down:=false,writes:=(0:Int)}:Ze)))]) (S:=[]) [0] (Zbgm (kV:=Zby) (raw:=Zcp) (xv:=({firm:=(Zbzs (Zbzo a0) (Zbzs 64 (0:Int))),pending:=([]:List Zo),left:=(0:Int),down:=false,writes:=(0:Int)}:Ze)) (fun s1 U w=>Zbk2 rfl rfl w) rfl U0)<|U2 (outs:=[(13,(Zda none Zby Zcp (hpL2 (pArr (Kd.arr 64 (Kd.int .u8)) 92 11 (Zbzs (Zbzo a0) (Zbzs 64 (0:Int)))) (pRow Zbr 94 512 [])) 13 ({firm:=(Zbzs (Zbzo a0) (Zbzs 64 (0:Int))),pending:=([]:List Zo),left:=(0:Int),down:=false,writes:=(0:Int)}:Ze)))]) (S:=[14]) [0] (Zbnb (fpn rfl) rfl rfl U0)<|Aa 0 rfl<|U2 [] (Zc rfl rfl U6)<|U3) fun a g s b=>?_
 refine wp_ret ?_
 obtain rfl:=Oi H0
 exact Zbsa rfl s b (Zf (s:=2)) (Zf (s:=3)) (s.at 1 rfl) (by decide) (s.at 0 rfl)
theorem Ztt (a0:Ze) {r:Bool} (H0:Zll a0=some r):FnMR Zbzi 42 Zc1 a0 a0 [] (Zbo r):=by
 unfold Zll at H0
 refine Zpl (N:=7) Tryz.func42 rfl rfl (Qe rfl) rfl rfl (fun a g0 b0 k b=>?_)
 replace k:St 7 [(0,(pEq (ptrB b0 0))),(1002,(pSJ Zby Zcp (hpL2 (pArr (Kd.arr 64 (Kd.int .u8)) 92 1000000 a0.firm) (pRow Zbr 94 1000001 a0.pending)) 0 b0 a0))] _ _:=Zhl k
 refine U4 [5,15] k b Za
  (U2 [] (Zc rfl rfl c_b)<|U3) fun a g k b=>?_
 refine U4 [5,40,15] k b Za
  (Am 5 rfl<|U2 [0] (Zz rfl rfl U0)<|U2 [0] (Zbh Zt4 rfl rfl U0)<|U2 [0,15] (Zmh (u:=a0.down) ty_4 (fun g s cs h _=>Z73 h) rfl rfl U1 U0)<|Aa 0 rfl<|U3) fun a g k b=>?_
 refine wp_ret ?_
 obtain rfl:=Oi H0
 exact Zsr rfl k b (Zf (s:=2)) (k.at 1 rfl) (k.at 2 rfl)
theorem Zux (a0:Ze) {r:Int} (H0:Zow a0=some r):FnMR Zbzi 81 Zc1 a0 a0 [] (pInt .i64 r):=by
 unfold Zow at H0
 refine Zpl (N:=8) Tryz.func81 rfl rfl (Qe rfl) rfl rfl (fun a g0 b0 k b=>?_)
 replace k:St 8 [(0,(pEq (ptrB b0 0))),(1002,(pSJ Zby Zcp (hpL2 (pArr (Kd.arr 64 (Kd.int .u8)) 92 1000000 a0.firm) (pRow Zbr 94 1000001 a0.pending)) 0 b0 a0))] _ _:=Zhl k
 refine U4 [5,15] k b Za
  (U2 [] (Zc rfl rfl U6)<|U3) fun a g k b=>?_
 refine U4 [5,50,15] k b Za
  (Am 5 rfl<|U2 [0] (Zz rfl rfl U0)<|U2 [0] (Zbh Zwe rfl rfl U0)<|U2 (outs:=[(6,(pArr (Kd.arr 64 (Kd.int .u8)) 92 1000000 a0.firm))]) (S:=[]) [0,15] (Zib (pr:=Zb0b) Zzj (fun g s cs h=>Z29 h) h2_1 rfl rfl U1 U0)<|U2 [0] (Zbd7 Zbz4 rfl rfl U0)<|Aa 0 rfl<|U3) fun a g k b=>?_
 refine wp_ret ?_
 obtain rfl:=Oi H0
 exact Zsr rfl k b (Zf (s:=2)) (k.at 1 rfl) (k.at 2 rfl)
theorem Zbbr (a0:Ze) (a1:Zc5) {r:Bool} (H0:Zvr a0 a1=some r):FnMR Zbzi 55 Zc1 a0 a0 [(Zcu.pd a1)] (Zbo r):=by
 unfold Zvr at H0
 refine Zv4 (N:=30) Tryz.func55 rfl rfl (Qe rfl) rfl rfl (fun a g0 b0 s b=>?_)
 replace s:St 30 [(0,(pEq (ptrB b0 0))),(1,(Zcu.pd a1)),(1001,(pPO Zc1 b0 0 a0))] _ _:=Z0e s
 refine U4 [5,0,25] s b Za
  (U2 [15] (Zbt rfl rfl U0)<|U2 [] (Zc rfl rfl c_b)<|U3) fun a g s b=>?_
 obtain⟨r1,h2,H0⟩:=Zd H0;obtain⟨r3,h4,H0⟩:=Zd H0
 refine U4 [5,250,191] s b Za
  (Af Zwi 15 rfl<|Al U9 0 rfl<|U2 [0] (Zkp rfl rfl U0 U6)<|Am 0 rfl<|Gt [0,15] rfl (fun h=>Zq Z0k rfl rfl U0)<|Gt [10,0] rfl (fun h=>Z2 U9 rfl rfl (V1 h U0))<|Gt [20,0] rfl (fun h=>Zkp rfl rfl (V1 h U0) U6)<|U2 [30,0] (Zbs rfl rfl U0 (fun hz=>(V1 hz U1)))<|Am 0 rfl<|Gt [0,15] rfl (fun h=>Zq Zwi rfl rfl U0)<|Gt [10,0] rfl (fun h=>Z2 U9 rfl rfl (V1 h U0))<|Gt [20,5] rfl (fun h=>Zx rfl rfl U0)<|a_g (outs:=[(17,(pIf ((decide ((0:Int)≤a1.From))&&(decide ((1:Int)≤a1.Len))) (pInt .i64 r1))),(1001,(pPO Zc1 b0 0 a0))]) (S:=[1,1000001]) [30,0,25] (OT.guardPO ((decide ((0:Int)≤a1.From))&&(decide ((1:Int)≤a1.Len))) (gT ((decide ((0:Int)≤a1.From))&&(decide ((1:Int)≤a1.Len)))).1 (gT ((decide ((0:Int)≤a1.From))&&(decide ((1:Int)≤a1.Len)))).2 rfl rfl rfl U1 (fun hG=>Zf5 (m:=1001) Zbl1 (Zux _ (Zcb h2 hG)) rfl rfl rfl U1 (V1 hG U0) .nil) (ite_self _).symm)<|Gt [40,20,0] rfl (fun h=>Zcj rfl rfl (V1 h U0) (V1 h U1))<|U2 [50,0] (Zbs rfl rfl U0 (fun hz=>(V1 hz U1)))<|Am 0 rfl<|Gt [0,15] rfl (fun h=>Zq Z0k rfl rfl U0)<|Gt [10,0] rfl (fun h=>Z2 U9 rfl rfl (V1 h U0))<|Gt [20,5] rfl (fun h=>Zx rfl rfl U0)<|a_g (outs:=[(24,(pIf (((decide ((0:Int)≤a1.From))&&(decide ((1:Int)≤a1.Len)))&&(decide (a1.From<r1))) (pInt .i64 r3))),(1001,(pPO Zc1 b0 0 a0))]) (S:=[1,1000001]) [30,0,61] (OT.guardPO (((decide ((0:Int)≤a1.From))&&(decide ((1:Int)≤a1.Len)))&&(decide (a1.From<r1))) (gT (((decide ((0:Int)≤a1.From))&&(decide ((1:Int)≤a1.Len)))&&(decide (a1.From<r1)))).1 (gT (((decide ((0:Int)≤a1.From))&&(decide ((1:Int)≤a1.Len)))&&(decide (a1.From<r1)))).2 rfl rfl rfl U1 (fun hG=>Zf5 (m:=1001) Zbl1 (Zux _ (Zcb h4 hG)) rfl rfl rfl U1 (V1 hG U0) .nil) (ite_self _).symm)<|Gt [40,15] rfl (fun h=>Zq Zwi rfl rfl U0)<|Gt [50,0] rfl (fun h=>Z2 U9 rfl rfl (V1 h U0))<|Gt [60,20,0] rfl (fun h=>Zei rfl rfl (V1 h U0) (V1 h U1) rfl)<|Gt [70,50,0] rfl (fun h=>Zbfw rfl rfl (V1 h U0) (V1 h U1))<|U2 [80,0] (Zbs rfl rfl U0 (fun hz=>(V1 hz U1)))<|Aa 0 rfl<|U3) fun a g s b=>?_
 refine wp_ret ?_
 obtain rfl:=Oi H0
 exact Z3b rfl s b (Zf (s:=4)) (s.at 1 rfl) (s.at 2 rfl)
theorem Zvl (a0:Ze) (a1:Int) {r:Int} (H0:Znz a0 a1=some r):FnMR Zbzi 68 Zc1 a0 a0 [(pInt .i64 a1)] (pInt .i64 r):=by
 unfold Znz at H0
 refine Zpl (N:=22) Tryz.func68 rfl rfl (Qe rfl) rfl rfl (fun a g0 b0 k b=>?_)
 replace k:St 22 [(0,(pEq (ptrB b0 0))),(1,(pInt .i64 a1)),(1002,(pSJ Zby Zcp (hpL2 (pArr (Kd.arr 64 (Kd.int .u8)) 92 1000000 a0.firm) (pRow Zbr 94 1000001 a0.pending)) 0 b0 a0))] _ _:=Zhl k
 refine U4 [5,15,25] k b Za
  (U2 [] (Zc rfl rfl U6)<|U3) fun a g k b=>?_
 refine wp_seq<|wp_block ?_
 refine U4 [5,15,40,25] k b Za
  (Am 5 rfl<|U2 [0] (Zz rfl rfl U0)<|U2 [0] (Zbh Zt4 rfl rfl U0)<|U2 [0,25] (Zmh (u:=a0.down) ty_4 (fun g s cs h _=>Z73 h) rfl rfl U1 U0)<|Aa 0 rfl<|U3) fun a g k b=>?_
 refine Zs (k.bool 2 rfl) H0 (fun H0=>?_) (fun H0=>?_)
 refine U4 [5,0,15] (L:=[(0,_),(1002,_)]) (k.pi [0,3] rfl) b Za
  (U2 [] (Zc rfl rfl U6)<|U3) fun a g k b=>?_
 refine wp_ret<|Z5 ?_
 refine Zp ?_
 obtain rfl:=Oi H0
 exact Zsr rfl k b (Zf (s:=4)) (k.at 1 rfl) (k.at 2 rfl)
 refine U4 [5,110,25] (L:=[(0,_),(1,_),(1002,_)]) (k.pi [0,1,3] rfl) b Za
  (Am 15 rfl<|U2 [0] (Zcj rfl rfl U0 U6)<|Am 0 rfl<|Gf [0,15] rfl (fun h=>Zx rfl rfl U0)<|Gf [10,5] rfl (fun h=>Zx rfl rfl U0)<|Gf [20,0] rfl (fun h=>Zz rfl rfl (V1 h U0))<|Gf [30,0] rfl (fun h=>Zbh Zwe rfl rfl (V1 h U0))<|a_g (outs:=[(18,(pIf (!(decide (a1<(0:Int)))) (pArr (Kd.arr 64 (Kd.int .u8)) 92 1000000 a0.firm)))]) (S:=[]) [40,0,25] (Qg_f rfl (fun hG=>Zib (pr:=Zb0b) Zzj (fun g s cs h=>Z29 h) h2_1 rfl rfl U1 (V1 hG U0)))<|Gf [50,0] rfl (fun h=>Zbd7 Zbz4 rfl rfl (V1 h U0))<|Gf [60,50,0] rfl (fun h=>Zkp rfl rfl (V1 h U0) (V1 h U1))<|U2 [70,0] (Zb3 rfl rfl U0 (fun hz=>(V1 (bNF hz) U1)))<|Aa 0 rfl<|U3) fun a g k b=>?_
 refine Zs (k.bool 1 rfl) H0 (fun H0=>?_) (fun H0=>?_)
 refine U4 [5,0,15] (L:=[(0,_),(1002,_)]) (k.pi [0,2] rfl) b Za
  (U2 [] (Zc rfl rfl U6)<|U3) fun a g k b=>?_
 refine wp_ret<|Z5 ?_
 refine Zp ?_
 obtain rfl:=Oi H0
 exact Zsr rfl k b (Zf (s:=4)) (k.at 1 rfl) (k.at 2 rfl)
 refine wp_skip<|Zbb ?_
 refine Zl<|U4 [5,0,15] (L:=[(0,_),(1002,_)]) (k.pi [0,2] rfl) b Za
  (U2 [] (Zc rfl rfl U6)<|U3) fun a g k b=>?_
 refine wp_ret ?_
 obtain rfl:=Oi H0
 exact Zsr rfl k b (Zf (s:=4)) (k.at 1 rfl) (k.at 2 rfl)
theorem Ztv (a0:Ze) (a1:Int) {r:(List Int)×Int} (H0:Zlk a0 a1=some r):FnMR Zbzi 57 Zc1 a0 a0 [(pInt .i64 a1)] (pTup [((Kd.arr 64 (Kd.int .u8)).pd r.1),(pInt .i64 r.2)]):=by
 unfold Zlk at H0
 refine Zpl (N:=50) Tryz.func57 rfl rfl (Qe rfl) rfl rfl (fun a g0 b0 k b=>?_)
 replace k:St 50 [(0,(pEq (ptrB b0 0))),(1,(pInt .i64 a1)),(1002,(pSJ Zby Zcp (hpL2 (pArr (Kd.arr 64 (Kd.int .u8)) 92 1000000 a0.firm) (pRow Zbr 94 1000001 a0.pending)) 0 b0 a0))] _ _:=Zhl k
 refine U4 [5,15,0,25] k b Za
  (U2 [] (Z0a 4 rfl rfl)<|U2 [] (Zc rfl rfl U6)<|U3) fun a g k b=>?_
 refine wp_seq ?_
 obtain⟨r1,h2,H0⟩:=Zd H0
 refine U4 [5,15,25,30,21] k b Za
  (Am 5 rfl<|Am 15 rfl<|U2 (outs:=[(10,(pInt .i64 r1)),(1002,(pSJ Zby Zcp (hpL2 (pArr (Kd.arr 64 (Kd.int .u8)) 92 1000000 a0.firm) (pRow Zbr 94 1000001 a0.pending)) 0 b0 a0))]) (S:=[1,1000001,1000002]) [10,0,35] (Z6o (m:=1002) Zbms (Zvl _ _ h2) rfl rfl rfl (by decide) U7 U0 (.cons U1 .nil))<|Aa 0 rfl<|U3) fun a g k b=>?_
 refine U4 [5,15,25,35,10,45] k b Za
  (Am 35 rfl<|U2 [0] (Zcv rfl rfl U0 U6)<|U3) fun a g k b=>?_
 refine Zs (k.bool 4 rfl) H0 (fun H0=>?_) (fun H0=>?_)
 ·refine U4 [5,20,30,35] (L:=[(0,_),(4,_),(6,_),(1002,_)]) (k.pi [0,2,3,5] rfl) b Za
   (U2 [] (Zp0 (k:=.u8) (ps:=[]) (vs:=[]) Zbzu (by kernel_rfl) (by kernel_rfl) rfl rfl rfl rfl .nil)<|Am 25 rfl<|U2 [10,15] (Z9 Zio rfl rfl U1 U0)<|Aa 10 rfl<|U3) fun a g k b=>?_
  refine wp_ret<|Zp ?_
  obtain rfl:=Oi H0
  obtain⟨u0,hu0,hq0⟩:=Zbi (P:=Zbzi) Zio (k.at 1 rfl)
  exact Zbbf rfl k b hu0 (Zf (s:=5)) (Zcr hq0 (k.at 2 rfl)) (k.at 3 rfl)
 ·refine wp_skip<|Zl ?_
  refine wp_seq<|U4 [5,15,25,60,35] (L:=[(0,_),(1,_),(4,_),(1002,_)]) (k.pi [0,1,2,5] rfl) b Za
   (Am 5 rfl<|U2 [0] (Zz rfl rfl U0)<|U2 [0] (Zbh Zqo rfl rfl U0)<|U2 (outs:=[(18,(pRow Zbr 94 1000001 a0.pending))]) (S:=[]) [0,35] (Zib (pr:=Zb0c) Zr0 (fun g s cs h=>Z0f h) h2_2 rfl rfl U1 U0)<|U2 [0] (Zbv Zbz0 rfl rfl (Opd.imp U0 (fun _ _ h=>Zdt h)))<|U2 [0] (Zei rfl rfl U0 U6 rfl)<|Aa 0 rfl<|U3) fun a g k b=>?_
  obtain⟨z13,hz1,H0⟩:=Zd H0
  refine Zbq (fun a w=>∃(y12:List Int) (g:G),Jn 50 [(0,(pEq (ptrB b0 0))),(1,(pInt .i64 a1)),(4,(pBox (Kd.arr 64 (Kd.int .u8)) 4 y12)),(1002,(pSJ Zby Zcp (hpL2 (pArr (Kd.arr 64 (Kd.int .u8)) 92 1000000 a0.firm) (pRow Zbr 94 1000001 a0.pending)) 0 b0 a0))] a w g0 g ((.inr y12)=z13)) ?_ ?_
  ·rintro a w ⟨y12,g,rfl,k,b,rfl⟩
   refine Zl ?_
   obtain⟨e14,h15,H0⟩:=Zd H0
   refine U4 [5,70,80,35] k b Za
    (Am 5 rfl<|U2 [0] (Zz rfl rfl U0)<|U2 [0] (Zbh Zwe rfl rfl U0)<|U2 (outs:=[(46,(pArr (Kd.arr 64 (Kd.int .u8)) 92 1000000 a0.firm))]) (S:=[]) [0,35] (Zib (pr:=Zb0b) Zzj (fun g s cs h=>Z29 h) h2_1 rfl rfl U1 U0)<|Am 15 rfl<|U2 [10,0] (Zzx Zbz4 Zbev rfl rfl U0 U1 h15)<|U2 [0] (Zbiw Zio rfl rfl U0)<|U2 [0,25] (Z9 Zio rfl rfl U1 U0)<|U2 [] (Zc rfl rfl U6)<|U3) fun a g k b=>?_
   refine wp_ret ?_
   obtain rfl:=Oi H0
   obtain⟨u0,hu0,hq0⟩:=Zbi (P:=Zbzi) Zio (k.at 1 rfl)
   exact Zbbf rfl k b hu0 (Zf (s:=5)) (Zcr hq0 (k.at 2 rfl)) (k.at 3 rfl)
  ·refine wp_block<|wp_loop_ghost (fun n a w=>∃(x4:List Int) (x5:Int) (g:G),Jn 50 [(0,(pEq (ptrB b0 0))),(1,(pInt .i64 a1)),(4,(pBox (Kd.arr 64 (Kd.int .u8)) 4 x4)),(7,(pInt .i64 x5)),(1002,(pSJ Zby Zcp (hpL2 (pArr (Kd.arr 64 (Kd.int .u8)) 92 1000000 a0.firm) (pRow Zbr 94 1000001 a0.pending)) 0 b0 a0))] a w g0 g (Zg7 a0 a1 n x4 x5=some z13)) (Zbzo ((Zbzj.wrap ((a0.pending.length:Int)-(1:Int)))+1-(0:Int))+1) ⟨(Zbzs 64 (0:Int)),(Zbzj.wrap ((a0.pending.length:Int)-(1:Int))),g,rfl,(k.pi [0,1,2,3,4] rfl),b,hz1⟩ (fun n a w hI=>?_)
   obtain⟨x4,x5,g,rfl,k,b,H1⟩:=hI
   cases n with
   | zero=>exact absurd H1 (by simp[Zg7])
   | succ n =>
    rw[Zg7]at H1
    refine wp_seq<|U4 [5,15,25,35,10,45] k b Za
     (Am 35 rfl<|U2 [0] (Zkp rfl rfl U0 U6)<|U3) fun a g k b=>?_
    refine Zs (k.bool 4 rfl) H1 (fun H1=>?_) (fun H1=>?_)
    ·refine wp_skip<|Zl ?_
     refine wp_seq<|wp_block ?_
     obtain⟨e7,h8,H1⟩:=Zd H1
     refine U4 [5,15,25,35,90,45] (L:=[(0,_),(1,_),(4,_),(7,_),(1002,_)]) (k.pi [0,1,2,3,5] rfl) b Za
      (Am 5 rfl<|U2 [0] (Zz rfl rfl U0)<|U2 [0] (Zbh Zqo rfl rfl U0)<|U2 (outs:=[(28,(pRow Zbr 94 1000001 a0.pending))]) (S:=[]) [0,45] (Zib (pr:=Zb0c) Zr0 (fun g s cs h=>Z0f h) h2_2 rfl rfl U1 U0)<|Am 35 rfl<|U2 [10,0] (Zbn Zbz0 Z7s rfl rfl (Opd.imp U0 (fun _ _ h=>Zdt h)) U1 h8)<|Af Z5m 0 rfl<|Al U9 0 rfl<|Am 15 rfl<|U2 [10,0] (Zb0 rfl rfl U0 U1)<|U3) fun a g k b=>?_
     refine Zs (k.bool 4 rfl) H1 (fun H1=>?_) (fun H1=>?_)
     ·obtain⟨e10,h11,H1⟩:=Zd H1
      refine U4 [5,80,90,35] (L:=[(0,_),(4,_),(7,_),(1002,_)]) (k.pi [0,2,3,5] rfl) b Za
       (Am 5 rfl<|U2 [0] (Zz rfl rfl U0)<|U2 [0] (Zbh Zqo rfl rfl U0)<|U2 (outs:=[(38,(pRow Zbr 94 1000001 a0.pending))]) (S:=[]) [0,35] (Zib (pr:=Zb0c) Zr0 (fun g s cs h=>Z0f h) h2_2 rfl rfl U1 U0)<|Am 25 rfl<|U2 [10,0] (Zbn Zbz0 Z7s rfl rfl (Opd.imp U0 (fun _ _ h=>Zdt h)) U1 h11)<|Af Z47 0 rfl<|Al Zio 0 rfl<|U2 [0,15] (Z9 Zio rfl rfl U1 U0)<|U2 [] (Zc rfl rfl U6)<|U3) fun a g k b=>?_
      refine wp_ret<|Z5 ?_
      refine Zp<|Zp ?_
      refine Z5<|Zp ?_
      refine Zp ?_
      obtain rfl:=Oi H1
      obtain rfl:=Oi H0
      obtain⟨u0,hu0,hq0⟩:=Zbi (P:=Zbzi) Zio (k.at 1 rfl)
      exact Zbbf rfl k b hu0 (Zf (s:=5)) (Zcr hq0 (k.at 2 rfl)) (k.at 3 rfl)
     ·refine wp_skip<|Zbb ?_
      refine Zl<|U5 [5,15,25,20,45] (L:=[(0,_),(1,_),(4,_),(7,_),(1002,_)]) (k.pi [0,1,2,3,5] rfl) b Za
       (Am 35 rfl<|U2 [0] (Zei rfl rfl U0 U6 rfl)<|Aa 0 rfl<|U3) fun a g k b=>?_
      exact⟨n,Zbzq _,x4,(Zbzj.wrap (x5-(1:Int))),g,rfl,(k.pi [0,1,2,3,4] rfl),b,H1⟩
    ·refine wp_exit<|Zbx ?_
     refine Zbx<|Zcg ?_
     exact⟨x4,g,rfl,(k.pi [0,1,2,5] rfl),b,Oi H1⟩
theorem Z8c (a0:List Int) {r:(List Int)×Bool} (H0:Zn4 a0=some r):FnOk Zbzi 82 [((Kd.arr 64 (Kd.int .u8)).pd a0)] (pTup [((Kd.int .u8).sl.pd r.1),(Zbo r.2)]):=by
 unfold Zn4 at H0
 refine Zb9 (N:=38) Tryz.func82 rfl rfl (Qe rfl) rfl rfl (fun a g0 s b=>?_)
 refine U4 [0] s b Za
  (U2 [5] (Zbt rfl rfl U0)<|U2 (outs:=[(2,((Kd.int .u8).sl.pd ([]:List Int)))]) (S:=[]) [] (Zc rfl rfl (Opd.c (fun g=>Zdv g)))<|U2 [] (Zc rfl rfl c_b)<|U3) fun a g s b=>?_
 obtain⟨e1,h2,H0⟩:=Zd H0
 refine U4 [5,30] s b Za
  (U2 [5] (Zsq Zbzu sz_5 rfl rfl U0 U6 h2)<|Al ty_5 0 rfl<|U2 [0] (Zek Zbz3 Zbzt rfl rfl U0 rfl)<|Aa 0 rfl<|U3) fun a g s b=>?_
 refine wp_seq ?_
 obtain⟨e3,h4,H0⟩:=Zd H0;obtain⟨e5,h6,H0⟩:=Zd H0
 refine U4 [5,15,110] s b Za
  (U2 [5] (Zsq Zbzu sz_5 rfl rfl U0 U6 h4)<|Al ty_5 0 rfl<|U2 [0] (Zcv rfl rfl U0 U6)<|Am 0 rfl<|Gf [0,5] rfl (fun h=>Zsq Zbzu sz_5 rfl rfl U0 U6 (Zcb h6 h))<|Gf [10,0] rfl (fun h=>Z2 ty_5 rfl rfl (V1 h U0))<|Gf [20,0] rfl (fun h=>Zcv rfl rfl (V1 h U0) U6)<|U2 [30,0] (Zb3 rfl rfl U0 (fun hz=>(V1 (bNF hz) U1)))<|Am 0 rfl<|Gf [0,15] rfl (fun h=>Zx rfl rfl U0)<|Gf [10,0] rfl (fun h=>Zcn rfl rfl (V1 h U0) U6)<|U2 [20,0] (Zb3 rfl rfl U0 (fun hz=>(V1 (bNF hz) U1)))<|U3) fun a g s b=>?_
 refine Zs (s.bool 2 rfl) H0 (fun H0=>?_) (fun H0=>?_)
 ·refine U4 [0,10] (L:=[]) (s.pi [] rfl) b Za
   (U2 (outs:=[(2,((Kd.int .u8).sl.pd ([]:List Int)))]) (S:=[]) [] (Zc rfl rfl (Opd.c (fun g=>Zdv g)))<|U2 [] (Zc rfl rfl c_b)<|U3) fun a g s b=>?_
  refine wp_ret<|Zp ?_
  obtain rfl:=Oi H0
  exact Zdq rfl s b (Zf (s:=2)) (Zf (s:=3)) (Zcr (s.at 0 rfl) (s.at 1 rfl))
 ·refine wp_skip<|Zl ?_
  refine wp_seq ?_
  obtain⟨c8,h9,H0⟩:=Zd H0
  refine U4 [5,15,20,30,40] (L:=[(1,_),(4,_)]) (s.pi [0,1] rfl) b Za
   (Am 15 rfl<|U2 [0] (Zbw rfl rfl U6 U0 rfl)<|U2 [5,0] (Z5g (l:=(Zbzj.wrap ((2:Int)+(Zbzj.wrap e1)))) (h:=(63:Int)) Zbzu sz_5 (by decide) rfl rfl U0 (.inr ⟨_,_,rfl,U1⟩) (.inr ⟨_,_,rfl,U6⟩) h9)<|U2 [0] (Zbv Zbzw rfl rfl U0)<|U2 [] (Zx rfl rfl U6)<|U3) fun a g s b=>?_
  obtain⟨z15,hz1,H0⟩:=Zd H0
  refine Zbq (fun a w=>∃(g:G),Jn 38 [(1,((Kd.arr 64 (Kd.int .u8)).ptr a0)),(4,(pInt .i64 (Zbzj.wrap e1)))] a w g0 g ((.inr ())=z15)) ?_ ?_
  ·rintro a w ⟨g,rfl,s,b,rfl⟩
   refine Zl ?_
   obtain⟨c16,h17,H0⟩:=Zd H0;obtain⟨h18,H0⟩:=Zdr H0
   refine U4 [50,60] s b Za
    (U2 [] (Zka 33 Zlb (xs:=[]) .nil (by decide) rfl rfl)<|Am 15 rfl<|U2 [0] (Zbw rfl rfl U6 U0 rfl)<|U2 [5,0] (Z5g (l:=(2:Int)) (h:=(Zbzj.wrap ((2:Int)+(Zbzj.wrap e1)))) Zbzu sz_5 (by decide) rfl rfl U0 (.inr ⟨_,_,rfl,U6⟩) (.inr ⟨_,_,rfl,U1⟩) h17)<|U2 [30,0] (Zdg Zlb rfl rfl U0 U1 h18)<|Aa 0 rfl<|U2 [] (Zc rfl rfl c_b)<|U3) fun a g s b=>?_
   refine wp_ret ?_
   obtain rfl:=Oi H0
   exact Zdq rfl s b (Zf (s:=2)) (Zf (s:=3)) (Zcr (Zdt (s.at 0 rfl)) (s.at 1 rfl))
  ·refine wp_block<|wp_loop_ghost (fun n a w=>∃(x10:Int) (g:G),Jn 38 [(1,((Kd.arr 64 (Kd.int .u8)).ptr a0)),(4,(pInt .i64 (Zbzj.wrap e1))),(24,((Kd.int .u8).sl.pd c8)),(25,(pInt .i64 (c8.length:Int))),(26,(pInt .i64 x10))] a w g0 g (Zki c8 n x10=some z15)) (Zbzo ((c8.length:Int)-(0:Int))+1) ⟨(0:Int),g,rfl,(s.pi [0,1,2,3,4] rfl),b,hz1⟩ (fun n a w hI=>?_)
   obtain⟨x10,g,rfl,s,b,H1⟩:=hI
   cases n with
   | zero=>exact absurd H1 (by simp[Zki])
   | succ n =>
    rw[Zki]at H1
    refine U4 [5,15,25,35,45,0] s b Za
     (U2 [45,35] (Zcj rfl rfl U0 U1)<|U3) fun a g s b=>?_
    refine wp_seq<|Zs (s.bool 5 rfl) H1 (fun H1=>?_) (fun H1=>?_)
    ·refine wp_skip<|Zl ?_
     refine wp_seq<|wp_block ?_
     obtain⟨e12,h13,H1⟩:=Zd H1
     refine U4 [5,15,20,25,35,45] (L:=[(1,_),(4,_),(24,_),(25,_),(26,_)]) (s.pi [0,1,2,3,4] rfl) b Za
      (U2 [25,45] (Zbn Zbzw sz_5 rfl rfl U0 U1 h13)<|Al ty_5 0 rfl<|Aa 0 rfl<|U3) fun a g s b=>?_
     refine U4 [5,15,35,45,55,10] s b Za
      (Am 25 rfl<|U2 [0] (Zcv rfl rfl U0 U6)<|U3) fun a g s b=>?_
     refine Zs (s.bool 5 rfl) H1 (fun H1=>?_) (fun H1=>?_)
     ·refine U4 [0,10] (L:=[]) (s.pi [] rfl) b Za
       (U2 (outs:=[(2,((Kd.int .u8).sl.pd ([]:List Int)))]) (S:=[]) [] (Zc rfl rfl (Opd.c (fun g=>Zdv g)))<|U2 [] (Zc rfl rfl c_b)<|U3) fun a g s b=>?_
      refine wp_ret<|Z5 ?_
      refine Zp<|Zp ?_
      refine Z5<|Zp ?_
      refine Zp ?_
      obtain rfl:=Oi H1
      obtain rfl:=Oi H0
      exact Zdq rfl s b (Zf (s:=2)) (Zf (s:=3)) (Zcr (s.at 0 rfl) (s.at 1 rfl))
     ·refine wp_skip<|Zbb ?_
      refine Zl<|U5 [5,15,25,35,10] (L:=[(1,_),(4,_),(24,_),(25,_),(26,_)]) (s.pi [0,1,2,3,4] rfl) b Za
       (U2 [45] (Zbw rfl rfl U0 U6 rfl)<|Am 0 rfl<|U3) fun a g s b=>?_
      exact⟨n,Zbzq _,(Zbzj.wrap (x10+(1:Int))),g,rfl,(s.pi [0,1,2,3,4] rfl),b,H1⟩
    ·refine wp_exit<|Zbx ?_
     refine Zbx<|Zcg ?_
     exact⟨g,rfl,(s.pi [0,1] rfl),b,Oi H1⟩
theorem Zbcn (a0:Ze) (a1:Zc5) (a2:Int) {r:(List Int)×Int×Int} (H0:Zi7 a0 a1 a2=some r):FnMR Zbzi 56 Zc1 a0 a0 [(Zcu.pd a1),(pInt .i64 a2)] (pTup [((Kd.int .u8).sl.pd r.1),(pInt .i64 r.2.1),(pInt .i64 r.2.2)]):=by
 unfold Zi7 at H0
 refine Zv4 (N:=98) Tryz.func56 rfl rfl (Qe rfl) rfl rfl (fun a g0 b0 s b=>?_)
 replace s:St 98 [(0,(pEq (ptrB b0 0))),(1,(Zcu.pd a1)),(2,(pInt .i64 a2)),(1001,(pPO Zc1 b0 0 a0))] _ _:=Z0e s
 refine U4 [5,25,0,35] s b Za
  (U2 [15] (Zbt rfl rfl U0)<|U2 (outs:=[(6,((Kd.int .u8).sl.pd ([]:List Int)))]) (S:=[]) [] (Zc rfl rfl (Opd.c (fun g=>Zdv g)))<|U2 [] (Zc rfl rfl U6)<|U2 [] (Zc rfl rfl U6)<|U3) fun a g s b=>?_
 refine U4 [5,15,25,0,35] s b Za
  (U2 (outs:=[(9,(pRow (Kd.int .u8) 5 9 ([]:List Int)))]) (S:=[]) [] (Zc rfl rfl (Opd.c (fun g=>Zj1 9 g)))<|U3) fun a g s b=>?_
 refine U4 [5,15,25,35,0,45] s b Za
  (U2 [] (Zc rfl rfl U6)<|U3) fun a g s b=>?_
 refine wp_seq<|U4 [5,15,25,35,45,0,55] s b Za
  (U2 [] (Zc rfl rfl U6)<|U3) fun a g s b=>?_
 obtain⟨z20,hz1,H0⟩:=Zd H0
 refine Zbq (fun a w=>∃(g:G),Jn 98 [(0,(pEq (ptrB b0 0))),(1001,(pPO Zc1 b0 0 a0))] a w g0 g ((.inr ())=z20)) ?_ ?_
 ·rintro a w ⟨g,rfl,s,b,rfl⟩
  refine Zl<|U4 [5,0,10,20,15] s b Za
   (U2 (outs:=[(6,((Kd.int .u8).sl.pd ([]:List Int)))]) (S:=[]) [] (Zc rfl rfl (Opd.c (fun g=>Zdv g)))<|U2 [] (Zc rfl rfl U6)<|U2 [] (Zc rfl rfl U6)<|U3) fun a g s b=>?_
  refine wp_ret ?_
  obtain rfl:=Oi H0
  exact Ztc rfl s b (Zf (s:=6)) (Zf (s:=7)) (Zf (s:=8)) (Zft (s.at 1 rfl) (s.at 2 rfl) (s.at 3 rfl)) (s.at 4 rfl)
 ·refine wp_block<|wp_loop_ghost (fun n a w=>∃(x1:List Int) (x2:Int) (x3:Int) (g:G),Jn 98 [(0,(pEq (ptrB b0 0))),(2,(pInt .i64 a2)),(4,(Zcu.ptr a1)),(9,(pRow (Kd.int .u8) 5 9 x1)),(10,(pInt .i64 x2)),(11,(pInt .i64 x3)),(1001,(pPO Zc1 b0 0 a0))] a w g0 g (Zfz a0 a1 a2 n x1 x2 x3=some z20)) (Zbzo (a1.Len-(Zbzj.wrap (a2+(0:Int))))+1) ⟨([]:List Int),(0:Int),(0:Int),g,rfl,(s.pi [0,1,2,3,4,5,6] rfl),b,hz1⟩ (fun n a w hI=>?_)
  obtain⟨x1,x2,x3,g,rfl,s,b,H1⟩:=hI
  cases n with
  | zero=>exact absurd H1 (by simp[Zfz])
  | succ n =>
   rw[Zfz]at H1
   refine wp_seq<|U4 [5,15,25,35,45,55,50,65] s b Za
    (Am 15 rfl<|Am 55 rfl<|U2 [10,0] (Zbw rfl rfl U0 U1 rfl)<|Af Z0k 25 rfl<|Al U9 0 rfl<|U2 [20,0] (Zcj rfl rfl U0 U1)<|U3) fun a g s b=>?_
   refine Zs (s.bool 6 rfl) H1 (fun H1=>?_) (fun H1=>?_)
   ·refine wp_skip<|Zl ?_
    refine wp_seq<|wp_block ?_
    obtain⟨r5,h6,H1⟩:=Zd H1
    refine U4 [5,15,25,35,45,55,120,130,71] (L:=[(0,_),(2,_),(4,_),(9,_),(10,_),(11,_),(1001,_)]) (s.pi [0,1,2,3,4,5,7] rfl) b Za
     (Am 5 rfl<|Af Zwi 25 rfl<|Al U9 0 rfl<|Am 15 rfl<|U2 [10,0] (Zbw rfl rfl U0 U1 rfl)<|Am 55 rfl<|U2 [10,0] (Zbw rfl rfl U0 U1 rfl)<|U2 (outs:=[(33,(pTup [((Kd.arr 64 (Kd.int .u8)).pd r5.1),(pInt .i64 r5.2)])),(1001,(pPO Zc1 b0 0 a0))]) (S:=[1,1000001]) [60,0,65] (Zf5 (m:=1001) Zbmk (Ztv _ _ h6) rfl rfl rfl U7 U0 (.cons U1 .nil))<|Am 0 rfl<|U2 [0] (Z7 rfl rfl U0 rfl)<|U2 [10] (Z7 rfl rfl U0 rfl)<|U2 [] (Z0a 12 rfl rfl)<|U2 [20,0] (Zci Zio rfl rfl U1 U0)<|Aa 20 rfl<|U3) fun a g s b=>?_
    refine wp_seq<|U4 [5,15,25,35,45,55,65,75,10,85] s b Za
     (Am 75 rfl<|U2 [0] (Zcv rfl rfl U0 U6)<|U3) fun a g s b=>?_
    refine Zs (s.bool 8 rfl) H1 (fun H1=>?_) (fun H1=>?_)
    ·refine U4 [5,10,20,30,25] (L:=[(0,_),(13,_),(1001,_)]) (s.pi [0,7,9] rfl) b Za
      (Am 15 rfl<|U2 (outs:=[(6,((Kd.int .u8).sl.pd ([]:List Int)))]) (S:=[]) [] (Zc rfl rfl (Opd.c (fun g=>Zdv g)))<|U2 [] (Zc rfl rfl U6)<|Aa 20 rfl<|U3) fun a g s b=>?_
     refine wp_ret<|Zp ?_
     refine Z5<|Zp ?_
     refine Zp<|Z5 ?_
     refine Zp<|Zp ?_
     obtain rfl:=Oi H1
     obtain rfl:=Oi H0
     exact Ztc rfl s b (Zf (s:=6)) (Zf (s:=7)) (Zf (s:=8)) (Zft (s.at 1 rfl) (s.at 2 rfl) (s.at 3 rfl)) (s.at 4 rfl)
    ·refine wp_skip<|Zl ?_
     obtain⟨r8,h9,H1⟩:=Zd H1
     refine U4 [5,15,25,35,45,55,50,60,75] (L:=[(0,_),(2,_),(4,_),(9,_),(10,_),(11,_),(12,_),(1001,_)]) (s.pi [0,1,2,3,4,5,6,9] rfl) b Za
      (Al Zio 65 rfl<|U2 [0] (Zt Zbsd (Z8c _ h9) rfl rfl (.cons U0 .nil))<|Am 0 rfl<|U2 [0] (Z7 rfl rfl U0 rfl)<|U2 [10] (Z7 rfl rfl U0 rfl)<|Aa 10 rfl<|Aa 10 rfl<|U3) fun a g s b=>?_
     refine wp_seq<|U4 [5,15,25,35,45,55,65,60,85] s b Za
      (Am 75 rfl<|U2 [0] (Zct rfl rfl U0)<|Am 0 rfl<|Gf [0,65] rfl (fun h=>Zx rfl rfl U0)<|Gf [10,0] rfl (fun h=>Zbv Zbzw rfl rfl (V1 h U0))<|Gf [20,0] rfl (fun h=>Zcj rfl rfl (V1 h U0) U6)<|U2 [30,0] (Zb3 rfl rfl U0 (fun hz=>(V1 (bNF hz) U1)))<|U3) fun a g s b=>?_
     refine Zs (s.bool 7 rfl) H1 (fun H1=>?_) (fun H1=>?_)
     ·refine U4 [5,0,10,20,15] (L:=[(0,_),(1001,_)]) (s.pi [0,8] rfl) b Za
       (U2 (outs:=[(6,((Kd.int .u8).sl.pd ([]:List Int)))]) (S:=[]) [] (Zc rfl rfl (Opd.c (fun g=>Zdv g)))<|U2 [] (Zc rfl rfl U6)<|U2 [] (Zc rfl rfl U6)<|U3) fun a g s b=>?_
      refine wp_ret<|Zp ?_
      refine Z5<|Zp ?_
      refine Zp<|Z5 ?_
      refine Zp<|Zp ?_
      obtain rfl:=Oi H1
      obtain rfl:=Oi H0
      exact Ztc rfl s b (Zf (s:=6)) (Zf (s:=7)) (Zf (s:=8)) (Zft (s.at 1 rfl) (s.at 2 rfl) (s.at 3 rfl)) (s.at 4 rfl)
     ·refine wp_skip<|Zl ?_
      obtain⟨e11,h12,H1⟩:=Zd H1
      refine U4 [5,15,25,35,45,55,65,40,75] (L:=[(0,_),(2,_),(4,_),(9,_),(10,_),(11,_),(14,_),(1001,_)]) (s.pi [0,1,2,3,4,5,6,8] rfl) b Za
       (Am 65 rfl<|U2 [0] (Zbn Zbzw sz_5 rfl rfl U0 U6 h12)<|Al ty_5 0 rfl<|U2 [0] (Zek Zbz3 Zbzt rfl rfl U0 rfl)<|Aa 0 rfl<|U3) fun a g s b=>?_
      refine wp_seq<|U4 [5,15,25,35,45,55,65,75,10,85] s b Za
       (Am 55 rfl<|U2 [0] (Zb0 rfl rfl U0 U6)<|U3) fun a g s b=>?_
      refine Zbq (fun a w=>∃(j14:Int) (g:G),Jn 98 [(0,(pEq (ptrB b0 0))),(2,(pInt .i64 a2)),(4,(Zcu.ptr a1)),(9,(pRow (Kd.int .u8) 5 9 x1)),(10,(pInt .i64 j14)),(11,(pInt .i64 x3)),(14,((Kd.int .u8).sl.pd r8.1)),(16,(pInt .i64 (Zbzj.wrap e11))),(1001,(pPO Zc1 b0 0 a0))] a w g0 g (Zo8 x1 x3 r8 e11 (Zfz a0 a1 a2 n) j14=some z20)) ?_ ?_
      ·rintro a w ⟨j14,g,rfl,s,b,H1⟩
       unfold Zo8 at H1
       refine Zl<|wp_seq ?_
       refine U4 [5,15,25,35,45,55,65,75,300,85] s b Za
        (Am 75 rfl<|Am 45 rfl<|Am 55 rfl<|U2 [10,0] (Zei rfl rfl U0 U1 rfl)<|U2 [30,0] (Zcv rfl rfl U0 U1)<|Am 0 rfl<|Gf [0,75] rfl (fun h=>Zx rfl rfl U0)<|Gf [10,0] rfl (fun h=>Zcn rfl rfl (V1 h U0) U6)<|U2 [20,0] (Zb3 rfl rfl U0 (fun hz=>(V1 (bNF hz) U1)))<|Am 0 rfl<|Gf [0,75] rfl (fun h=>Zx rfl rfl U0)<|Gf [10,0] rfl (fun h=>Zcn rfl rfl (V1 h U0) U6)<|Gf [20,0] rfl (fun h=>Zx rfl rfl (V1 h U0))<|Gu [0,65] rfl (fun h=>Zx rfl rfl U0)<|Gu [10,0] rfl (fun h=>Zbv Zbzw rfl rfl (V1 h U0))<|Gu [20,0] rfl (fun h=>Zcv rfl rfl (V1 h U0) U6)<|Gf [60,30,0] rfl (fun h=>Zbs rfl rfl (V1 h U0) (fun hz=>(V1 (bA h hz) U1)))<|U2 [70,0] (Zb3 rfl rfl U0 (fun hz=>(V1 (bNF hz) U1)))<|Am 0 rfl<|Gf [0,55] rfl (fun h=>Zx rfl rfl U0)<|Gf [10,0] rfl (fun h=>Zcn rfl rfl (V1 h U0) U6)<|Gf [20,0] rfl (fun h=>Zx rfl rfl (V1 h U0))<|Gu [0,75] rfl (fun h=>Zx rfl rfl U0)<|Gu [10,0] rfl (fun h=>Zb0 rfl rfl (V1 h U0) U6)<|Gf [50,20,0] rfl (fun h=>Zbs rfl rfl (V1 h U0) (fun hz=>(V1 (bA h hz) U1)))<|Gf [60,0] rfl (fun h=>Zx rfl rfl (V1 h U0))<|Gu [0,65] rfl (fun h=>Zx rfl rfl U0)<|Gu [10,0] rfl (fun h=>Zbv Zbzw rfl rfl (V1 h U0))<|Gu [20,0] rfl (fun h=>Zb0 rfl rfl (V1 h U0) U6)<|Gf [100,30,0] rfl (fun h=>Zbs rfl rfl (V1 h U0) (fun hz=>(V1 (bA h hz) U1)))<|U2 [110,0] (Zb3 rfl rfl U0 (fun hz=>(V1 (bNF hz) U1)))<|U3) fun a g s b=>?_
       refine Zs (s.bool 8 rfl) H1 (fun H1=>?_) (fun H1=>?_)
       ·refine U4 [5,0,10,20,15] (L:=[(0,_),(1001,_)]) (s.pi [0,9] rfl) b Za
         (U2 (outs:=[(6,((Kd.int .u8).sl.pd ([]:List Int)))]) (S:=[]) [] (Zc rfl rfl (Opd.c (fun g=>Zdv g)))<|U2 [] (Zc rfl rfl U6)<|U2 [] (Zc rfl rfl U6)<|U3) fun a g s b=>?_
        refine wp_ret<|Zp ?_
        refine Z5<|Zp ?_
        refine Zp<|Z5 ?_
        refine Zp<|Zp ?_
        obtain rfl:=Oi H1
        obtain rfl:=Oi H0
        exact Ztc rfl s b (Zf (s:=6)) (Zf (s:=7)) (Zf (s:=8)) (Zft (s.at 1 rfl) (s.at 2 rfl) (s.at 3 rfl)) (s.at 4 rfl)
       ·refine wp_skip<|Zl ?_
        obtain⟨c16,h17,H1⟩:=Zd H1;obtain⟨h18,H1⟩:=Zdr H1
        refine U4 [5,15,25,40,45,55,75,85] (L:=[(0,_),(2,_),(4,_),(9,_),(10,_),(11,_),(14,_),(16,_),(1001,_)]) (s.pi [0,1,2,3,4,5,6,7,9] rfl) b Za
         (Am 35 rfl<|Am 65 rfl<|U2 [0] (Z4v Zbzw sz_5 rfl rfl U0 U6 h17)<|U2 [20,0] (Zdg Zlb rfl rfl U0 U1 h18)<|Aa 0 rfl<|U3) fun a g s b=>?_
        refine U4 [5,15,25,35,45,55,10,75] s b Za
         (Am 65 rfl<|U2 [0] (Zb0 rfl rfl U0 U6)<|U3) fun a g s b=>?_
        refine Zs (s.bool 6 rfl) H1 (fun H1=>?_) (fun H1=>?_)
        ·refine U4 [5,30,40,50,35] (L:=[(0,_),(9,_),(11,_),(1001,_)]) (s.pi [0,3,5,7] rfl) b Za
          (Am 15 rfl<|Am 25 rfl<|U2 [0] (Zbw rfl rfl U0 U6 rfl)<|Aa 20 rfl<|Aa 10 rfl<|U2 [] (Zc rfl rfl U6)<|U3) fun a g s b=>?_
         refine wp_ret<|Z5 ?_
         refine Zp<|Zp ?_
         refine Z5<|Zp ?_
         refine Zp ?_
         obtain rfl:=Oi H1
         obtain rfl:=Oi H0
         exact Ztc rfl s b (Zf (s:=6)) (Zf (s:=7)) (Zf (s:=8)) (Zft (Zdt (s.at 1 rfl)) (s.at 2 rfl) (s.at 3 rfl)) (s.at 4 rfl)
        ·refine wp_skip<|Zbb ?_
         refine Zl<|U5 [5,15,25,35,45,20,65] (L:=[(0,_),(2,_),(4,_),(9,_),(10,_),(11,_),(1001,_)]) (s.pi [0,1,2,3,4,5,7] rfl) b Za
          (Am 55 rfl<|U2 [0] (Zbw rfl rfl U0 U6 rfl)<|Aa 0 rfl<|U3) fun a g s b=>?_
         exact⟨n,Zbzq _,(x1++c16),j14,(Zbzj.wrap (x3+(1:Int))),g,rfl,(s.pi [0,1,2,3,4,5,6] rfl),b,H1⟩
      ·refine Zs (s.bool 8 rfl) H1 (fun H1=>?_) (fun H1=>?_)
       ·refine U5 [5,15,25,35,10,45,55,65,75] (L:=[(0,_),(2,_),(4,_),(9,_),(11,_),(14,_),(16,_),(1001,_)]) (s.pi [0,1,2,3,5,6,7,9] rfl) b Za
         (Am 65 rfl<|Aa 0 rfl<|U3) fun a g s b=>?_
        exact⟨(Zbzj.wrap e11),g,rfl,(s.pi [0,1,2,3,4,5,6,7,8] rfl),b,H1⟩
       ·exact wp_skip<|⟨x2,g,rfl,(s.pi [0,1,2,3,4,5,6,7,9] rfl),b,H1⟩
   ·refine wp_exit<|Zbx ?_
    refine Zbx<|Zcg ?_
    exact⟨g,rfl,(s.pi [0,7] rfl),b,Oi H1⟩
theorem Z9k (a0:Ze) (a1:Zc5) {r:(List (List Int))×Int×Int} (H0:Zs6 a0 a1=some r):FnMR Zbzi 30 Zc1 a0 a0 [(Zcu.pd a1)] (pTup [((Kd.int .u8).sl.sl.pd r.1),(pInt .i64 r.2.1),(pInt .i64 r.2.2)]):=by
 unfold Zs6 at H0
 refine Zv4 (N:=42) Tryz.func30 rfl rfl (Qe rfl) rfl rfl (fun a g0 b0 s b=>?_)
 replace s:St 42 [(0,(pEq (ptrB b0 0))),(1,(Zcu.pd a1)),(1001,(pPO Zc1 b0 0 a0))] _ _:=Z0e s
 refine U4 [5,0,25] s b Za
  (U2 [15] (Zbt rfl rfl U0)<|U2 (outs:=[(4,((Kd.int .u8).sl.sl.pd ([]:List (List Int))))]) (S:=[]) [] (Zc rfl rfl (Opd.c (fun g=>Zdv g)))<|U2 [] (Zc rfl rfl U6)<|U2 [] (Zc rfl rfl U6)<|U3) fun a g s b=>?_
 refine wp_seq ?_
 obtain⟨r1,h2,H0⟩:=Zd H0
 refine U4 [5,15,10,11] s b Za
  (Am 5 rfl<|U2 (outs:=[(13,(Zbo r1)),(1001,(pPO Zc1 b0 0 a0))]) (S:=[1,1000001]) [0,25] (Zf5 (m:=1001) Zblt (Ztt _ h2) rfl rfl rfl U1 U0 .nil)<|U3) fun a g s b=>?_
 refine Zs (s.bool 2 rfl) H0 (fun H0=>?_) (fun H0=>?_)
 ·refine U4 [5,0,10,20,15] (L:=[(0,_),(1001,_)]) (s.pi [0,3] rfl) b Za
   (U2 (outs:=[(4,((Kd.int .u8).sl.sl.pd ([]:List (List Int))))]) (S:=[]) [] (Zc rfl rfl (Opd.c (fun g=>Zdv g)))<|U2 [] (Zc rfl rfl U6)<|U2 [] (Zc rfl rfl U6)<|U3) fun a g s b=>?_
  refine wp_ret<|Zp ?_
  obtain rfl:=Oi H0
  exact Ztc rfl s b (Zf (s:=4)) (Zf (s:=5)) (Zf (s:=6)) (Zft (s.at 1 rfl) (s.at 2 rfl) (s.at 3 rfl)) (s.at 4 rfl)
 ·refine wp_skip<|Zl ?_
  refine wp_seq ?_
  obtain⟨r4,h5,H0⟩:=Zd H0
  refine U4 [5,15,30,21] (L:=[(0,_),(3,_),(1001,_)]) (s.pi [0,1,3] rfl) b Za
   (Am 5 rfl<|Al Zve 15 rfl<|U2 (outs:=[(16,(Zbo r4)),(1001,(pPO Zc1 b0 0 a0))]) (S:=[1,1000001]) [10,0,25] (Zf5 (m:=1001) Zbrr (Zbbr _ _ h5) rfl rfl rfl U7 U0 (.cons U1 .nil))<|U2 [0] (Zct rfl rfl U0)<|U3) fun a g s b=>?_
  refine Zs (s.bool 2 rfl) H0 (fun H0=>?_) (fun H0=>?_)
  ·refine U4 [5,0,10,20,15] (L:=[(0,_),(1001,_)]) (s.pi [0,3] rfl) b Za
    (U2 (outs:=[(4,((Kd.int .u8).sl.sl.pd ([]:List (List Int))))]) (S:=[]) [] (Zc rfl rfl (Opd.c (fun g=>Zdv g)))<|U2 [] (Zc rfl rfl U6)<|U2 [] (Zc rfl rfl U6)<|U3) fun a g s b=>?_
   refine wp_ret<|Zp ?_
   obtain rfl:=Oi H0
   exact Ztc rfl s b (Zf (s:=4)) (Zf (s:=5)) (Zf (s:=6)) (Zft (s.at 1 rfl) (s.at 2 rfl) (s.at 3 rfl)) (s.at 4 rfl)
  ·refine wp_skip<|Zl ?_
   refine U4 [5,15,0,25] (L:=[(0,_),(3,_),(1001,_)]) (s.pi [0,1,3] rfl) b Za
    (U2 (outs:=[(7,(pRow (Kd.int .u8).sl 70 7 ([]:List (List Int))))]) (S:=[]) [] (Zc rfl rfl (Opd.c (fun g=>Zj1 7 g)))<|U3) fun a g s b=>?_
   refine U4 [5,15,25,0,35] s b Za
    (U2 [] (Zc rfl rfl U6)<|U3) fun a g s b=>?_
   obtain⟨z13,hz1,H0⟩:=Zd H0
   refine Zbq (fun a w=>∃(g:G),Jn 42 [] a w g0 g ((.inr ())=z13)) ?_ ?_
   ·rintro a w ⟨g,rfl,s,b,rfl⟩
    cases H0
   ·refine wp_block<|wp_loop_ghost (fun n a w=>∃(x7:List (List Int)) (x8:Int) (g:G),Jn 42 [(0,(pEq (ptrB b0 0))),(3,(Zcu.ptr a1)),(7,(pRow (Kd.int .u8).sl 70 7 x7)),(8,(pInt .i64 x8)),(1001,(pPO Zc1 b0 0 a0))] a w g0 g (Zkc a0 a1 n x7 x8=some z13)) (Zbzo a1.Len+2) ⟨([]:List (List Int)),(0:Int),g,rfl,(s.pi [0,1,2,3,4] rfl),b,hz1⟩ (fun n a w hI=>?_)
    obtain⟨x7,x8,g,rfl,s,b,H1⟩:=hI
    cases n with
    | zero=>exact absurd H1 (by simp[Zkc])
    | succ n =>
     rw[Zkc]at H1
     refine wp_block ?_
     obtain⟨r9,h10,H1⟩:=Zd H1
     refine U4 [5,15,25,35,80,90,100,31] s b Za
      (Am 5 rfl<|Al Zve 15 rfl<|Am 35 rfl<|U2 (outs:=[(22,(pTup [((Kd.int .u8).sl.pd r9.1),(pInt .i64 r9.2.1),(pInt .i64 r9.2.2)])),(1001,(pPO Zc1 b0 0 a0))]) (S:=[1,1000001]) [20,10,0,45] (Zf5 (m:=1001) Zbsh (Zbcn _ _ _ h10) rfl rfl rfl u_3 U0 (.cons U1 (.cons U7 .nil)))<|Am 0 rfl<|U2 [0] (Z7 rfl rfl U0 rfl)<|U2 [10] (Z7 rfl rfl U0 rfl)<|U2 [20] (Z7 rfl rfl U0 rfl)<|Aa 20 rfl<|Aa 20 rfl<|Aa 20 rfl<|U3) fun a g s b=>?_
     refine wp_seq<|U4 [5,15,25,35,45,55,65,50,75] s b Za
      (Am 65 rfl<|U2 [0] (Zcv rfl rfl U0 U6)<|Am 0 rfl<|Gf [0,55] rfl (fun h=>Zx rfl rfl U0)<|Gf [10,0] rfl (fun h=>Zb0 rfl rfl (V1 h U0) U6)<|U2 [20,0] (Zb3 rfl rfl U0 (fun hz=>(V1 (bNF hz) U1)))<|U3) fun a g s b=>?_
     refine Zs (s.bool 7 rfl) H1 (fun H1=>?_) (fun H1=>?_)
     ·refine U4 [5,30,40,50,45] (L:=[(0,_),(7,_),(8,_),(11,_),(1001,_)]) (s.pi [0,2,3,6,8] rfl) b Za
       (Am 15 rfl<|Am 25 rfl<|Am 35 rfl<|Aa 20 rfl<|Aa 20 rfl<|Aa 20 rfl<|U3) fun a g s b=>?_
      refine wp_ret<|Zp ?_
      refine Z5<|Zp ?_
      refine Z5<|Zp ?_
      obtain rfl:=Oi H1
      obtain rfl:=Oi H0
      exact Ztc rfl s b (Zf (s:=4)) (Zf (s:=5)) (Zf (s:=6)) (Zft (Zdt (s.at 1 rfl)) (s.at 2 rfl) (s.at 3 rfl)) (s.at 4 rfl)
     ·refine wp_skip<|Zl ?_
      obtain⟨h12,H1⟩:=Zdr H1
      refine U4 [5,15,40,35,55,65] (L:=[(0,_),(3,_),(7,_),(8,_),(9,_),(10,_),(1001,_)]) (s.pi [0,1,2,3,4,5,8] rfl) b Za
       (Am 25 rfl<|Am 45 rfl<|U2 [0] (Zgm Zbmb (xs:=[.tmp 36]) (.cons U0 .nil) (by decide) rfl rfl)<|U2 [20,0] (Zdg Zbmb rfl rfl U0 U1 h12)<|Aa 0 rfl<|U3) fun a g s b=>?_
      refine U5 [5,15,25,30,55] s b Za
       (Am 35 rfl<|Am 45 rfl<|U2 [10,0] (Zbw rfl rfl U0 U1 rfl)<|Aa 0 rfl<|U3) fun a g s b=>?_
      exact Zbb<|⟨n,Zbzq _,(x7++([r9.1]:List (List Int))),(Zbzj.wrap (x8+r9.2.1)),g,rfl,(s.pi [0,1,2,3,4] rfl),b,H1⟩
theorem Zsy (a0:Ze) (a1:Int) (a2:List Int) {r:Int×Ze} (H0:Zkt a0 a1 a2=some r):FnMR Zbzi 45 Zc1 a0 r.2 [(pInt .i64 a1),((Kd.arr 64 (Kd.int .u8)).pd a2)] (pInt .i64 r.1):=by
 unfold Zkt at H0
 refine Zpl (N:=57) Tryz.func45 rfl rfl (Qe rfl) rfl rfl (fun a g0 b0 k b=>?_)
 replace k:St 57 [(0,(pEq (ptrB b0 0))),(1,(pInt .i64 a1)),(2,((Kd.arr 64 (Kd.int .u8)).pd a2)),(1002,(pSJ Zby Zcp (hpL2 (pArr (Kd.arr 64 (Kd.int .u8)) 92 1000000 a0.firm) (pRow Zbr 94 1000001 a0.pending)) 0 b0 a0))] _ _:=Zhl k
 refine U4 [5,15,0,35] k b Za
  (U2 [25] (Zbt rfl rfl U0)<|U2 [] (Zc rfl rfl U6)<|U3) fun a g k b=>?_
 refine wp_seq ?_
 obtain⟨r1,h2,H0⟩:=Zd H0
 refine U4 [5,15,25,30,21] k b Za
  (Am 5 rfl<|Am 15 rfl<|U2 (outs:=[(10,(pInt .i64 r1)),(1002,(pSJ Zby Zcp (hpL2 (pArr (Kd.arr 64 (Kd.int .u8)) 92 1000000 a0.firm) (pRow Zbr 94 1000001 a0.pending)) 0 b0 a0))]) (S:=[1,1000001,1000002]) [10,0,35] (Z6o (m:=1002) Zbms (Zvl _ _ h2) rfl rfl rfl (by decide) U7 U0 (.cons U1 .nil))<|Aa 0 rfl<|U3) fun a g k b=>?_
 refine U4 [5,15,25,35,10,45] k b Za
  (Am 35 rfl<|U2 [0] (Zcv rfl rfl U0 U6)<|U3) fun a g k b=>?_
 refine Zs (k.bool 4 rfl) H0 (fun H0=>?_) (fun H0=>?_)
 refine U4 [5,10,25] (L:=[(0,_),(7,_),(1002,_)]) (k.pi [0,3,5] rfl) b Za
  (Am 15 rfl<|Aa 0 rfl<|U3) fun a g k b=>?_
 refine wp_ret<|Zp ?_
 obtain rfl:=Oi H0
 exact Zsr rfl k b (Zf (s:=6)) (k.at 1 rfl) (k.at 2 rfl)
 refine wp_skip<|Zl ?_
 obtain⟨h4,H0⟩:=Zdr H0
 refine U4 [5,120] (L:=[(0,_),(1,_),(5,_),(1002,_)]) (k.pi [0,1,2,5] rfl) b Za
  (Am 5 rfl<|Am 5 rfl<|U2 [0] (Zz rfl rfl U0)<|U2 [0] (Zbh Zqo rfl rfl U0)<|U2 (outs:=[(18,(pRow Zbr 94 1000001 a0.pending))]) (S:=[]) [0,35] (Zib (pr:=Zb0c) Zr0 (fun g s cs h=>Z0f h) h2_2 rfl rfl U1 U0)<|Am 15 rfl<|Al Zio 25 rfl<|U2 [10,0] (Zbhy rfl rfl U0 U1)<|U2 [0] (Zgm Zblr (xs:=[.tmp 21]) (.cons U0 .nil) (by decide) rfl rfl)<|U2 (outs:=[(1002,(pSJ Zby Zcp (hpL2 (pArr (Kd.arr 64 (Kd.int .u8)) 92 1000000 a0.firm) pAny) 0 b0 a0)),(23,(pRow Zbr 94 1000001 (a0.pending++([({at_:=a1,s:=a2}:Zo)]:List Zo))))]) (S:=[1000002]) [40,0,35] (OB.frameU (Zdg Zblr rfl rfl U0 U1 h4) (Opd.imp U7 (fun _ _ h=>Zbor (R2:=(hpL2 (pArr (Kd.arr 64 (Kd.int .u8)) 92 1000000 a0.firm) pAny)) h2_t h)) (fps rfl) (fun h=>by cases h))<|U2 [90] (Zz rfl rfl U0)<|U2 [0] (Zbh Zqo rfl rfl U0)<|U2 (outs:=[(1002,(pSJ Zby Zcp (hpL2 (pArr (Kd.arr 64 (Kd.int .u8)) 92 1000000 ({a0 with pending:=(a0.pending++([({at_:=a1,s:=a2}:Zo)]:List Zo))}:Ze).firm) (pRow Zbr 94 1000001 ({a0 with pending:=(a0.pending++([({at_:=a1,s:=a2}:Zo)]:List Zo))}:Ze).pending)) 0 b0 ({a0 with pending:=(a0.pending++([({at_:=a1,s:=a2}:Zo)]:List Zo))}:Ze)))]) (S:=[1]) [0,21,20] (Zuv (q:=(pRow Zbr 94 1000001 (a0.pending++([({at_:=a1,s:=a2}:Zo)]:List Zo)))) (x':=({a0 with pending:=(a0.pending++([({at_:=a1,s:=a2}:Zo)]:List Zo))}:Ze)) (upd:=fun s s2=>(s.1,s2)) Zr0 rfl rfl (fun _ _ h=>Zlj h) (fpn rfl) (fpn rfl) U7 U0 U1 (fun g cs s0 s1 ys h hy=>Zbfs h hy) h2_u)<|U3) fun a g k b=>?_
 refine U4 [5,70] k b Za
  (Am 5 rfl<|U2 [0] (Zz rfl rfl U0)<|U2 [0] (Zbh Zbde rfl rfl U0)<|U2 [0,15] (Zmh (u:=({a0 with pending:=(a0.pending++([({at_:=a1,s:=a2}:Zo)]:List Zo))}:Ze).writes) U9 (fun g s cs h _=>Zbsg h) rfl rfl U1 U0)<|U2 [0] (Zbw rfl rfl U0 U6 rfl)<|U2 [40] (Zz rfl rfl U0)<|U2 [0] (Zbh Zbde rfl rfl U0)<|U2 (outs:=[(1002,(pSJ Zby Zcp (hpL2 (pArr (Kd.arr 64 (Kd.int .u8)) 92 1000000 ({({a0 with pending:=(a0.pending++([({at_:=a1,s:=a2}:Zo)]:List Zo))}:Ze)with writes:=(Zbzj.wrap (({a0 with pending:=(a0.pending++([({at_:=a1,s:=a2}:Zo)]:List Zo))}:Ze).writes+(1:Int)))}:Ze).firm) (pRow Zbr 94 1000001 ({({a0 with pending:=(a0.pending++([({at_:=a1,s:=a2}:Zo)]:List Zo))}:Ze)with writes:=(Zbzj.wrap (({a0 with pending:=(a0.pending++([({at_:=a1,s:=a2}:Zo)]:List Zo))}:Ze).writes+(1:Int)))}:Ze).pending)) 0 b0 ({({a0 with pending:=(a0.pending++([({at_:=a1,s:=a2}:Zo)]:List Zo))}:Ze)with writes:=(Zbzj.wrap (({a0 with pending:=(a0.pending++([({at_:=a1,s:=a2}:Zo)]:List Zo))}:Ze).writes+(1:Int)))}:Ze)))]) (S:=[1]) [0,20,15] (Zo0 U9 rfl rfl (fpn rfl) U7 U0 U1 (fun g g' cs s0 ys h hr hy=>⟨s0,Zbtq h hy,hr⟩))<|U3) fun a g k b=>?_
 refine wp_seq<|U4 [5,40,15] k b Za
  (Am 5 rfl<|U2 [0] (Zz rfl rfl U0)<|U2 [0] (Zbh Zt9 rfl rfl U0)<|U2 [0,15] (Zmh (u:=({({a0 with pending:=(a0.pending++([({at_:=a1,s:=a2}:Zo)]:List Zo))}:Ze)with writes:=(Zbzj.wrap (({a0 with pending:=(a0.pending++([({at_:=a1,s:=a2}:Zo)]:List Zo))}:Ze).writes+(1:Int)))}:Ze).left) U9 (fun g s cs h _=>Zbga h) rfl rfl U1 U0)<|U2 [0] (Zcn rfl rfl U0 U6)<|U3) fun a g k b=>?_
 refine Zbq (fun a w=>∃(j6:Ze) (g:G),Jn 57 [(0,(pEq (ptrB b0 0))),(1002,(pSJ Zby Zcp (hpL2 (pArr (Kd.arr 64 (Kd.int .u8)) 92 1000000 j6.firm) (pRow Zbr 94 1000001 j6.pending)) 0 b0 j6))] a w g0 g (Zik j6=some r)) ?_ ?_
 rintro a w ⟨j6,g,rfl,k,b,H0⟩
 unfold Zik at H0
 refine Zl<|wp_seq ?_
 refine U4 [5,30,15] k b Za
  (Am 5 rfl<|U2 [0] (Zz rfl rfl U0)<|U2 [0] (Zbh Zt4 rfl rfl U0)<|U2 [0,15] (Zmh (u:=j6.down) ty_4 (fun g s cs h _=>Z73 h) rfl rfl U1 U0)<|U3) fun a g k b=>?_
 refine Zs (k.bool 1 rfl) H0 (fun H0=>?_) (fun H0=>?_)
 refine U4 [5,0,15] (L:=[(0,_),(1002,_)]) (k.pi [0,2] rfl) b Za
  (U2 [] (Zc rfl rfl U6)<|U3) fun a g k b=>?_
 refine wp_ret<|Zp ?_
 obtain rfl:=Oi H0
 exact Zsr rfl k b (Zf (s:=6)) (k.at 1 rfl) (k.at 2 rfl)
 refine wp_skip<|Zl ?_
 refine U4 [5,0,15] (L:=[(0,_),(1002,_)]) (k.pi [0,2] rfl) b Za
  (U2 [] (Zc rfl rfl U6)<|U3) fun a g k b=>?_
 refine wp_ret ?_
 obtain rfl:=Oi H0
 exact Zsr rfl k b (Zf (s:=6)) (k.at 1 rfl) (k.at 2 rfl)
 refine Zs (k.bool 1 rfl) H0 (fun H0=>?_) (fun H0=>?_)
 refine U4 [5,70] (L:=[(0,_),(1002,_)]) (k.pi [0,2] rfl) b Za
  (Am 5 rfl<|U2 [0] (Zz rfl rfl U0)<|U2 [0] (Zbh Zt9 rfl rfl U0)<|U2 [0,15] (Zmh (u:=({({a0 with pending:=(a0.pending++([({at_:=a1,s:=a2}:Zo)]:List Zo))}:Ze)with writes:=(Zbzj.wrap (({a0 with pending:=(a0.pending++([({at_:=a1,s:=a2}:Zo)]:List Zo))}:Ze).writes+(1:Int)))}:Ze).left) U9 (fun g s cs h _=>Zbga h) rfl rfl U1 U0)<|U2 [0] (Zei rfl rfl U0 U6 rfl)<|U2 [40] (Zz rfl rfl U0)<|U2 [0] (Zbh Zt9 rfl rfl U0)<|U2 (outs:=[(1002,(pSJ Zby Zcp (hpL2 (pArr (Kd.arr 64 (Kd.int .u8)) 92 1000000 ({({({a0 with pending:=(a0.pending++([({at_:=a1,s:=a2}:Zo)]:List Zo))}:Ze)with writes:=(Zbzj.wrap (({a0 with pending:=(a0.pending++([({at_:=a1,s:=a2}:Zo)]:List Zo))}:Ze).writes+(1:Int)))}:Ze)with left:=(Zbzj.wrap (({({a0 with pending:=(a0.pending++([({at_:=a1,s:=a2}:Zo)]:List Zo))}:Ze)with writes:=(Zbzj.wrap (({a0 with pending:=(a0.pending++([({at_:=a1,s:=a2}:Zo)]:List Zo))}:Ze).writes+(1:Int)))}:Ze).left-(1:Int)))}:Ze).firm) (pRow Zbr 94 1000001 ({({({a0 with pending:=(a0.pending++([({at_:=a1,s:=a2}:Zo)]:List Zo))}:Ze)with writes:=(Zbzj.wrap (({a0 with pending:=(a0.pending++([({at_:=a1,s:=a2}:Zo)]:List Zo))}:Ze).writes+(1:Int)))}:Ze)with left:=(Zbzj.wrap (({({a0 with pending:=(a0.pending++([({at_:=a1,s:=a2}:Zo)]:List Zo))}:Ze)with writes:=(Zbzj.wrap (({a0 with pending:=(a0.pending++([({at_:=a1,s:=a2}:Zo)]:List Zo))}:Ze).writes+(1:Int)))}:Ze).left-(1:Int)))}:Ze).pending)) 0 b0 ({({({a0 with pending:=(a0.pending++([({at_:=a1,s:=a2}:Zo)]:List Zo))}:Ze)with writes:=(Zbzj.wrap (({a0 with pending:=(a0.pending++([({at_:=a1,s:=a2}:Zo)]:List Zo))}:Ze).writes+(1:Int)))}:Ze)with left:=(Zbzj.wrap (({({a0 with pending:=(a0.pending++([({at_:=a1,s:=a2}:Zo)]:List Zo))}:Ze)with writes:=(Zbzj.wrap (({a0 with pending:=(a0.pending++([({at_:=a1,s:=a2}:Zo)]:List Zo))}:Ze).writes+(1:Int)))}:Ze).left-(1:Int)))}:Ze)))]) (S:=[1]) [0,20,15] (Zo0 U9 rfl rfl (fpn rfl) U7 U0 U1 (fun g g' cs s0 ys h hr hy=>⟨s0,Zbfy h hy,hr⟩))<|U3) fun a g k b=>?_
 refine U5 [5,80] k b Za
  (Am 5 rfl<|Am 5 rfl<|U2 [0] (Zz rfl rfl U0)<|U2 [0] (Zbh Zt9 rfl rfl U0)<|U2 [0,15] (Zmh (u:=({({({a0 with pending:=(a0.pending++([({at_:=a1,s:=a2}:Zo)]:List Zo))}:Ze)with writes:=(Zbzj.wrap (({a0 with pending:=(a0.pending++([({at_:=a1,s:=a2}:Zo)]:List Zo))}:Ze).writes+(1:Int)))}:Ze)with left:=(Zbzj.wrap (({({a0 with pending:=(a0.pending++([({at_:=a1,s:=a2}:Zo)]:List Zo))}:Ze)with writes:=(Zbzj.wrap (({a0 with pending:=(a0.pending++([({at_:=a1,s:=a2}:Zo)]:List Zo))}:Ze).writes+(1:Int)))}:Ze).left-(1:Int)))}:Ze).left) U9 (fun g s cs h _=>Zbga h) rfl rfl U1 U0)<|U2 [0] (Zb0 rfl rfl U0 U6)<|U2 [50] (Zz rfl rfl U0)<|U2 [0] (Zbh Zt4 rfl rfl U0)<|U2 (outs:=[(1002,(pSJ Zby Zcp (hpL2 (pArr (Kd.arr 64 (Kd.int .u8)) 92 1000000 ({({({({a0 with pending:=(a0.pending++([({at_:=a1,s:=a2}:Zo)]:List Zo))}:Ze)with writes:=(Zbzj.wrap (({a0 with pending:=(a0.pending++([({at_:=a1,s:=a2}:Zo)]:List Zo))}:Ze).writes+(1:Int)))}:Ze)with left:=(Zbzj.wrap (({({a0 with pending:=(a0.pending++([({at_:=a1,s:=a2}:Zo)]:List Zo))}:Ze)with writes:=(Zbzj.wrap (({a0 with pending:=(a0.pending++([({at_:=a1,s:=a2}:Zo)]:List Zo))}:Ze).writes+(1:Int)))}:Ze).left-(1:Int)))}:Ze)with down:=(({({({a0 with pending:=(a0.pending++([({at_:=a1,s:=a2}:Zo)]:List Zo))}:Ze)with writes:=(Zbzj.wrap (({a0 with pending:=(a0.pending++([({at_:=a1,s:=a2}:Zo)]:List Zo))}:Ze).writes+(1:Int)))}:Ze)with left:=(Zbzj.wrap (({({a0 with pending:=(a0.pending++([({at_:=a1,s:=a2}:Zo)]:List Zo))}:Ze)with writes:=(Zbzj.wrap (({a0 with pending:=(a0.pending++([({at_:=a1,s:=a2}:Zo)]:List Zo))}:Ze).writes+(1:Int)))}:Ze).left-(1:Int)))}:Ze).left==(0:Int))}:Ze).firm) (pRow Zbr 94 1000001 ({({({({a0 with pending:=(a0.pending++([({at_:=a1,s:=a2}:Zo)]:List Zo))}:Ze)with writes:=(Zbzj.wrap (({a0 with pending:=(a0.pending++([({at_:=a1,s:=a2}:Zo)]:List Zo))}:Ze).writes+(1:Int)))}:Ze)with left:=(Zbzj.wrap (({({a0 with pending:=(a0.pending++([({at_:=a1,s:=a2}:Zo)]:List Zo))}:Ze)with writes:=(Zbzj.wrap (({a0 with pending:=(a0.pending++([({at_:=a1,s:=a2}:Zo)]:List Zo))}:Ze).writes+(1:Int)))}:Ze).left-(1:Int)))}:Ze)with down:=(({({({a0 with pending:=(a0.pending++([({at_:=a1,s:=a2}:Zo)]:List Zo))}:Ze)with writes:=(Zbzj.wrap (({a0 with pending:=(a0.pending++([({at_:=a1,s:=a2}:Zo)]:List Zo))}:Ze).writes+(1:Int)))}:Ze)with left:=(Zbzj.wrap (({({a0 with pending:=(a0.pending++([({at_:=a1,s:=a2}:Zo)]:List Zo))}:Ze)with writes:=(Zbzj.wrap (({a0 with pending:=(a0.pending++([({at_:=a1,s:=a2}:Zo)]:List Zo))}:Ze).writes+(1:Int)))}:Ze).left-(1:Int)))}:Ze).left==(0:Int))}:Ze).pending)) 0 b0 ({({({({a0 with pending:=(a0.pending++([({at_:=a1,s:=a2}:Zo)]:List Zo))}:Ze)with writes:=(Zbzj.wrap (({a0 with pending:=(a0.pending++([({at_:=a1,s:=a2}:Zo)]:List Zo))}:Ze).writes+(1:Int)))}:Ze)with left:=(Zbzj.wrap (({({a0 with pending:=(a0.pending++([({at_:=a1,s:=a2}:Zo)]:List Zo))}:Ze)with writes:=(Zbzj.wrap (({a0 with pending:=(a0.pending++([({at_:=a1,s:=a2}:Zo)]:List Zo))}:Ze).writes+(1:Int)))}:Ze).left-(1:Int)))}:Ze)with down:=(({({({a0 with pending:=(a0.pending++([({at_:=a1,s:=a2}:Zo)]:List Zo))}:Ze)with writes:=(Zbzj.wrap (({a0 with pending:=(a0.pending++([({at_:=a1,s:=a2}:Zo)]:List Zo))}:Ze).writes+(1:Int)))}:Ze)with left:=(Zbzj.wrap (({({a0 with pending:=(a0.pending++([({at_:=a1,s:=a2}:Zo)]:List Zo))}:Ze)with writes:=(Zbzj.wrap (({a0 with pending:=(a0.pending++([({at_:=a1,s:=a2}:Zo)]:List Zo))}:Ze).writes+(1:Int)))}:Ze).left-(1:Int)))}:Ze).left==(0:Int))}:Ze)))]) (S:=[1]) [0,20,15] (Zo0 ty_4 rfl rfl (fpn rfl) U7 U0 U1 (fun g g' cs s0 ys h hr hy=>⟨s0,Zbmq h hy,hr⟩))<|U3) fun a g k b=>?_
 refine⟨_,g,rfl,?_,b,H0⟩
 exact (k.pi [0,1] rfl)
 refine wp_skip<|⟨_,g,rfl,?_,b,H0⟩
 exact (k.pi [0,2] rfl)
theorem Ztu (a0:Ze) {r:Int×Ze} (H0:Zlo a0=some r):FnMR Zbzi 46 Zc1 a0 r.2 [] (pInt .i64 r.1):=by
 unfold Zlo at H0
 refine Zpl (N:=31) Tryz.func46 rfl rfl (Qe rfl) rfl rfl (fun a g0 b0 k b=>?_)
 replace k:St 31 [(0,(pEq (ptrB b0 0))),(1002,(pSJ Zby Zcp (hpL2 (pArr (Kd.arr 64 (Kd.int .u8)) 92 1000000 a0.firm) (pRow Zbr 94 1000001 a0.pending)) 0 b0 a0))] _ _:=Zhl k
 refine U4 [5,15] k b Za
  (U2 [] (Zc rfl rfl U6)<|U3) fun a g k b=>?_
 refine wp_seq<|U4 [5,30,15] k b Za
  (Am 5 rfl<|U2 [0] (Zz rfl rfl U0)<|U2 [0] (Zbh Zt4 rfl rfl U0)<|U2 [0,15] (Zmh (u:=a0.down) ty_4 (fun g s cs h _=>Z73 h) rfl rfl U1 U0)<|U3) fun a g k b=>?_
 refine Zs (k.bool 1 rfl) H0 (fun H0=>?_) (fun H0=>?_)
 ·refine U4 [5,0,15] (L:=[(0,_),(1002,_)]) (k.pi [0,2] rfl) b Za
   (U2 [] (Zc rfl rfl U6)<|U3) fun a g k b=>?_
  refine wp_ret<|Zp ?_
  obtain rfl:=Oi H0
  exact Zsr rfl k b (Zf (s:=2)) (k.at 1 rfl) (k.at 2 rfl)
 ·refine wp_skip<|Zl ?_
  refine wp_seq<|U4 [5,30,40,50,15] (L:=[(0,_),(1002,_)]) (k.pi [0,2] rfl) b Za
   (Am 5 rfl<|U2 [0] (Zz rfl rfl U0)<|U2 [0] (Zbh Zqo rfl rfl U0)<|U2 (outs:=[(12,(pRow Zbr 94 1000001 a0.pending))]) (S:=[]) [0,15] (Zib (pr:=Zb0c) Zr0 (fun g s cs h=>Z0f h) h2_2 rfl rfl U1 U0)<|U2 [0] (Zbv Zbz0 rfl rfl (Opd.imp U0 (fun _ _ h=>Zdt h)))<|U2 [] (Zx rfl rfl U6)<|U3) fun a g k b=>?_
  obtain⟨z10,hz1,H0⟩:=Zd H0
  refine Zbq (fun a w=>∃(y9:Ze) (g:G),Jn 31 [(0,(pEq (ptrB b0 0))),(1002,(pSJ Zby Zcp (hpL2 (pArr (Kd.arr 64 (Kd.int .u8)) 92 1000000 y9.firm) (pRow Zbr 94 1000001 y9.pending)) 0 b0 y9))] a w g0 g (y9=z10)) ?_ ?_
  ·rintro a w ⟨y9,g,rfl,k,b,rfl⟩
   refine Zl<|U4 [5,30] k b Za
    (Am 5 rfl<|U2 [0] (Zz rfl rfl U0)<|U2 [0] (Zbh Zqo rfl rfl U0)<|U2 (outs:=[(1002,(pSJ Zby Zcp (hpL2 (pArr (Kd.arr 64 (Kd.int .u8)) 92 1000000 ({y9 with pending:=([]:List Zo)}:Ze).firm) (pRow Zbr 94 1000001 ({y9 with pending:=([]:List Zo)}:Ze).pending)) 0 b0 ({y9 with pending:=([]:List Zo)}:Ze)))]) (S:=[1]) [0,15] (Zuv (q:=(pRow Zbr 94 1000001 [])) (x':=({y9 with pending:=([]:List Zo)}:Ze)) (upd:=fun s s2=>(s.1,s2)) Zr0 rfl rfl (fun _ _ h=>Zlj h) (fpn rfl) (fpn rfl) U1 U0 (Opd.c (fun g=>Zj1 1000001 g)) (fun g cs s0 s1 ys h hy=>Zbfs h hy) h2_u)<|U3) fun a g k b=>?_
   refine U4 [5,0,15] k b Za
    (U2 [] (Zc rfl rfl U6)<|U3) fun a g k b=>?_
   refine wp_ret ?_
   obtain rfl:=Oi H0
   exact Zsr rfl k b (Zf (s:=2)) (k.at 1 rfl) (k.at 2 rfl)
  ·refine wp_block<|wp_loop_ghost (fun n a w=>∃(x2:Int) (x3:Ze) (g:G),Jn 31 [(0,(pEq (ptrB b0 0))),(12,(pRow Zbr 94 1000001 a0.pending)),(13,(pInt .i64 (a0.pending.length:Int))),(14,(pInt .i64 x2)),(1002,(pSJ Zby Zcp (hpL2 (pArr (Kd.arr 64 (Kd.int .u8)) 92 1000000 x3.firm) (pRow Zbr 94 1000001 x3.pending)) 0 b0 x3))] a w g0 g (Zg9 a0 n x2 x3=some z10)) (Zbzo ((a0.pending.length:Int)-(0:Int))+1) ⟨(0:Int),a0,g,rfl,(k.pi [0,1,2,3,4] rfl),b,hz1⟩ (fun n a w hI=>?_)
   obtain⟨x2,x3,g,rfl,k,b,H1⟩:=hI
   cases n with
   | zero=>exact absurd H1 (by simp[Zg9])
   | succ n =>
    rw[Zg9]at H1
    refine U4 [5,15,25,35,0,45] k b Za
     (U2 [35,25] (Zcj rfl rfl U0 U1)<|U3) fun a g k b=>?_
    refine wp_seq<|Zs (k.bool 4 rfl) H1 (fun H1=>?_) (fun H1=>?_)
    ·refine wp_skip<|Zl ?_
     refine wp_seq<|wp_block ?_
     obtain⟨e5,h6,H1⟩:=Zd H1
     refine U4 [5,30,15,25,35,45] (L:=[(0,_),(12,_),(13,_),(14,_),(1002,_)]) (k.pi [0,1,2,3,5] rfl) b Za
      (U2 [15,35] (Zbn Zbz0 Z7s rfl rfl (Opd.imp U0 (fun _ _ h=>Zdt h)) U1 h6)<|Al Z7v 0 rfl<|U2 [] (Zbl6 4 rfl rfl)<|U2 [10,0] (Zci Z7v rfl rfl U1 U0)<|U3) fun a g k b=>?_
     obtain⟨e7,h8,H1⟩:=Zd H1
     refine U5 [5,25,35,45,90] k b Za
      (Am 5 rfl<|U2 [0] (Zz rfl rfl U0)<|U2 [0] (Zbh Zwe rfl rfl U0)<|U2 (outs:=[(21,(pArr (Kd.arr 64 (Kd.int .u8)) 92 1000000 x3.firm))]) (S:=[]) [0,55] (Zib (pr:=Zb0b) Zzj (fun g s cs h=>Z29 h) h2_1 rfl rfl U1 U0)<|Af Z5m 15 rfl<|Al U9 0 rfl<|Af Z47 15 rfl<|Al Zio 0 rfl<|U2 [40,20] (Zzx Zbz4 Zbev rfl rfl U0 U1 h8)<|U2 (outs:=[(1002,(pSJ Zby Zcp (hpL2 (pArr (Kd.arr 64 (Kd.int .u8)) 92 1000000 ({x3 with firm:=x3.firm.set (Zbzo e5.at_) e5.s}:Ze).firm) (pRow Zbr 94 1000001 ({x3 with firm:=x3.firm.set (Zbzo e5.at_) e5.s}:Ze).pending)) 0 b0 ({x3 with firm:=x3.firm.set (Zbzo e5.at_) e5.s}:Ze)))]) (S:=[1000001]) [0,10,55] (Zbjz (x':=({x3 with firm:=x3.firm.set (Zbzo e5.at_) e5.s}:Ze)) (pr:=Zb0b) (by decide) (fun _=>rfl) h2_1 (h2_e rfl) Zio rfl rfl U7 U0 U1 (Zbd6 h8) (by decide))<|U3) fun a g k b=>?_
     refine Zbb<|Zl ?_
     refine U5 [5,15,25,10,45] k b Za
      (U2 [35] (Zbw rfl rfl U0 U6 rfl)<|Am 0 rfl<|U3) fun a g k b=>?_
     exact⟨n,Zbzq _,(Zbzj.wrap (x2+(1:Int))),({x3 with firm:=x3.firm.set (Zbzo e5.at_) e5.s}:Ze),g,rfl,(k.pi [0,1,2,3,4] rfl),b,H1⟩
    ·refine wp_exit<|Zbx ?_
     refine Zbx<|Zcg ?_
     exact⟨x3,g,rfl,(k.pi [0,5] rfl),b,Oi H1⟩
theorem Z66 (a0:List Int) {r:Bool} (H0:Zty a0=some r):FnOk Zbzi 58 [((Kd.arr 64 (Kd.int .u8)).pd a0)] (Zbo r):=by
 unfold Zty at H0
 refine Zb9 (N:=6) Tryz.func58 rfl rfl (Qe rfl) rfl rfl (fun a g0 s b=>?_)
 refine U4 [0] s b Za
  (U2 [5] (Zbt rfl rfl U0)<|U2 [] (Zc rfl rfl c_b)<|U3) fun a g s b=>?_
 refine U4 [30] s b Za
  (Al Zio 5 rfl<|U2 [] (Zp0 (k:=.u8) (ps:=[]) (vs:=[]) Zbzu (by kernel_rfl) (by kernel_rfl) rfl rfl rfl rfl .nil)<|U2 [10,0] (Zbku Zbzu (by kernel_rfl) (by kernel_rfl) Zbz3 (by kernel_rfl) (by kernel_rfl) rfl rfl U0 U1)<|Aa 0 rfl<|U3) fun a g s b=>?_
 refine wp_ret ?_
 obtain rfl:=Oi H0
 exact Zba rfl s b (Zf (s:=2)) (s.at 0 rfl)
theorem Z8q (a0:Ze) (a1:Int) (a2:Int) {r:Int×Ze} (H0:Zs7 a0 a1 a2=some r):FnMR Zbzi 31 Zc1 a0 r.2 [(pInt .i64 a1),(pInt .i64 a2)] (pInt .i64 r.1):=by
 unfold Zs7 at H0
 refine Zv4 (N:=44) Tryz.func31 rfl rfl (Qe rfl) rfl rfl (fun a g0 b0 s b=>?_)
 replace s:St 44 [(0,(pEq (ptrB b0 0))),(1,(pInt .i64 a1)),(2,(pInt .i64 a2)),(1001,(pPO Zc1 b0 0 a0))] _ _:=Z0e s
 refine U4 [5,15,25,35] s b Za
  (U2 [] (Zc rfl rfl U6)<|U3) fun a g s b=>?_
 refine U4 [5,15,25,0,35] s b Za
  (U2 [] (Zc rfl rfl c_b)<|U3) fun a g s b=>?_
 refine wp_seq<|U4 [5,15,35,10,20,45] s b Za
  (Am 25 rfl<|U2 [0] (Zv5 rfl rfl U0 U6)<|U2 [] (Zx rfl rfl U6)<|U3) fun a g s b=>?_
 obtain⟨z18,hz1,H0⟩:=Zd H0
 refine Zbq (fun a w=>∃(y16:Bool) (y17:Ze) (g:G),Jn 44 [(0,(pEq (ptrB b0 0))),(7,(Zbo y16)),(1001,(pPO Zc1 b0 0 y17))] a w g0 g ((.inr (y16,y17))=z18)) ?_ ?_
 ·rintro a w ⟨y16,y17,g,rfl,s,b,rfl⟩
  refine Zl<|wp_seq ?_
  refine U4 [5,10,25] s b Za
   (Am 15 rfl<|U2 [0] (Zct rfl rfl U0)<|U3) fun a g s b=>?_
  refine Zs (s.bool 1 rfl) H0 (fun H0=>?_) (fun H0=>?_)
  ·refine U4 [5,0,15] (L:=[(0,_),(1001,_)]) (s.pi [0,2] rfl) b Za
    (U2 [] (Zc rfl rfl U6)<|U3) fun a g s b=>?_
   refine wp_ret<|Zp ?_
   obtain rfl:=Oi H0
   exact Z3b rfl s b (Zf (s:=6)) (s.at 1 rfl) (s.at 2 rfl)
  ·refine wp_skip<|Zl ?_
   obtain⟨r20,h21,H0⟩:=Zd H0
   refine U4 [5,20,11] (L:=[(0,_),(1001,_)]) (s.pi [0,2] rfl) b Za
    (Am 5 rfl<|U2 (outs:=[(43,(pInt .i64 r20.1)),(1001,(pPO Zc1 b0 0 r20.2))]) (S:=[1,1000001]) [0,15] (Zf5 (m:=1001) Zblv (Ztu _ h21) rfl rfl rfl U1 U0 .nil)<|Aa 0 rfl<|U3) fun a g s b=>?_
   refine wp_ret ?_
   obtain rfl:=Oi H0
   exact Z3b rfl s b (Zf (s:=6)) (s.at 1 rfl) (s.at 2 rfl)
 ·refine wp_block<|wp_loop_ghost (fun n a w=>∃(x1:Bool) (x2:Int) (x3:Ze) (g:G),Jn 44 [(0,(pEq (ptrB b0 0))),(1,(pInt .i64 a1)),(7,(Zbo x1)),(14,(pInt .i64 (max a2 (0:Int)))),(15,(pInt .i64 x2)),(1001,(pPO Zc1 b0 0 x3))] a w g0 g (Zia a1 a2 n x1 x2 x3=some z18)) (Zbzo ((max a2 (0:Int))-(0:Int))+1) ⟨false,(0:Int),a0,g,rfl,(s.pi [0,1,2,3,4,5] rfl),b,hz1⟩ (fun n a w hI=>?_)
  obtain⟨x1,x2,x3,g,rfl,s,b,H1⟩:=hI
  cases n with
  | zero=>exact absurd H1 (by simp[Zia])
  | succ n =>
   rw[Zia]at H1
   refine U4 [5,15,25,35,45,0,55] s b Za
    (U2 [45,35] (Zcj rfl rfl U0 U1)<|U3) fun a g s b=>?_
   refine wp_seq<|Zs (s.bool 5 rfl) H1 (fun H1=>?_) (fun H1=>?_)
   ·refine wp_skip<|Zl ?_
    refine wp_seq<|Zbq (fun a w=>∃(j14:Bool) (j15:Ze) (g:G),Jn 44 [(0,(pEq (ptrB b0 0))),(1,(pInt .i64 a1)),(7,(Zbo j14)),(14,(pInt .i64 (max a2 (0:Int)))),(15,(pInt .i64 x2)),(1001,(pPO Zc1 b0 0 j15))] a w g0 g (Zpn x2 (Zia a1 a2 n) j14 j15=some z18)) ?_ ?_
    ·rintro a w ⟨j14,j15,g,rfl,s,b,H1⟩
     unfold Zpn at H1
     refine Zl<|U5 [5,15,25,35,10,55] s b Za
      (U2 [45] (Zbw rfl rfl U0 U6 rfl)<|Am 0 rfl<|U3) fun a g s b=>?_
     exact⟨n,Zbzq _,j14,(Zbzj.wrap (x2+(1:Int))),j15,g,rfl,(s.pi [0,1,2,3,4,5] rfl),b,H1⟩
    ·refine wp_block<|U4 [5,15,25,10,35,45,55] (L:=[(0,_),(1,_),(7,_),(14,_),(15,_),(1001,_)]) (s.pi [0,1,2,3,4,6] rfl) b Za
      (Am 45 rfl<|Aa 0 rfl<|U3) fun a g s b=>?_
     refine U4 [5,15,25,30,45,55,65] s b Za
      (Am 15 rfl<|Am 35 rfl<|U2 [10,0] (Zbw rfl rfl U0 U1 rfl)<|Aa 0 rfl<|U3) fun a g s b=>?_
     obtain⟨r5,h6,H1⟩:=Zd H1
     refine U4 [5,15,25,35,70,80,45,55,21] s b Za
      (Am 5 rfl<|Am 35 rfl<|U2 (outs:=[(24,(pTup [((Kd.arr 64 (Kd.int .u8)).pd r5.1),(pInt .i64 r5.2)])),(1001,(pPO Zc1 b0 0 x3))]) (S:=[1,1000001]) [10,0,65] (Zf5 (m:=1001) Zbmk (Ztv _ _ h6) rfl rfl rfl U7 U0 (.cons U1 .nil))<|Am 0 rfl<|U2 [0] (Z7 rfl rfl U0 rfl)<|U2 [10] (Z7 rfl rfl U0 rfl)<|U2 [] (Z0a 10 rfl rfl)<|U2 [20,0] (Zci Zio rfl rfl U1 U0)<|Aa 20 rfl<|U3) fun a g s b=>?_
     refine wp_seq<|U4 [5,15,25,35,45,55,65,75,10,85] s b Za
      (Am 55 rfl<|U2 [0] (Zcv rfl rfl U0 U6)<|U3) fun a g s b=>?_
     refine Zs (s.bool 8 rfl) H1 (fun H1=>?_) (fun H1=>?_)
     ·refine U4 [5,10,25] (L:=[(0,_),(11,_),(1001,_)]) (s.pi [0,5,9] rfl) b Za
       (Am 15 rfl<|Aa 0 rfl<|U3) fun a g s b=>?_
      refine wp_ret<|Zp ?_
      refine Z5<|Zp ?_
      refine Zp<|Zp ?_
      refine Z5<|Zp ?_
      refine Zp ?_
      obtain rfl:=Oi H1
      obtain rfl:=Oi H0
      exact Z3b rfl s b (Zf (s:=6)) (s.at 1 rfl) (s.at 2 rfl)
     ·refine wp_skip<|Zl ?_
      refine wp_seq ?_
      obtain⟨r8,h9,H1⟩:=Zd H1
      refine U4 [5,15,25,35,55,65,10,75] (L:=[(0,_),(1,_),(7,_),(9,_),(10,_),(14,_),(15,_),(1001,_)]) (s.pi [0,1,2,3,4,6,7,9] rfl) b Za
       (Al Zio 45 rfl<|U2 [0] (Zt Zbsu (Z66 _ h9) rfl rfl (.cons U0 .nil))<|U3) fun a g s b=>?_
      refine Zs (s.bool 6 rfl) H1 (fun H1=>?_) (fun H1=>?_)
      ·refine wp_exit<|Zbx ?_
       exact Zcg<|⟨x1,x3,g,rfl,(s.pi [0,1,2,4,5,7] rfl),b,H1⟩
      ·refine wp_skip<|Zl ?_
       refine U4 [5,15,0,25,35,45,55] (L:=[(0,_),(1,_),(9,_),(14,_),(15,_),(1001,_)]) (s.pi [0,1,3,4,5,7] rfl) b Za
        (U2 [] (Zc rfl rfl c_b)<|U3) fun a g s b=>?_
       obtain⟨r11,h12,H1⟩:=Zd H1
       refine U4 [5,15,25,40,45,55,31] s b Za
        (Am 5 rfl<|Am 35 rfl<|U2 [] (Zp0 (k:=.u8) (ps:=[]) (vs:=[]) Zbzu (by kernel_rfl) (by kernel_rfl) rfl rfl rfl rfl .nil)<|U2 (outs:=[(35,(pInt .i64 r11.1)),(1001,(pPO Zc1 b0 0 r11.2))]) (S:=[1,1000001]) [20,10,0,65] (Zf5 (m:=1001) Zblj (Zsy _ _ _ h12) rfl rfl rfl u_3 U0 (.cons U1 (.cons U7 .nil)))<|Aa 0 rfl<|U3) fun a g s b=>?_
       refine U4 [5,15,25,35,45,55,10,65] s b Za
        (Am 35 rfl<|U2 [0] (Zcv rfl rfl U0 U6)<|U3) fun a g s b=>?_
       refine Zs (s.bool 6 rfl) H1 (fun H1=>?_) (fun H1=>?_)
       ·refine U4 [5,10,25] (L:=[(0,_),(12,_),(1001,_)]) (s.pi [0,3,7] rfl) b Za
         (Am 15 rfl<|Aa 0 rfl<|U3) fun a g s b=>?_
        refine wp_ret<|Z5 ?_
        refine Zp<|Zp ?_
        refine Zp<|Z5 ?_
        refine Zp<|Zp ?_
        obtain rfl:=Oi H1
        obtain rfl:=Oi H0
        exact Z3b rfl s b (Zf (s:=6)) (s.at 1 rfl) (s.at 2 rfl)
       ·refine wp_skip<|Zbb ?_
        exact⟨true,r11.2,g,rfl,(s.pi [0,1,2,4,5,7] rfl),b,H1⟩
   ·refine wp_exit<|Zbx ?_
    refine Zbx<|Zcg ?_
    exact⟨x1,x3,g,rfl,(s.pi [0,2,6] rfl),b,Oi H1⟩
theorem Z8g (a0:Ze) (a1:Zc5) {r:(List (List Int))×Int×((Zb4×Ze))} (H0:Zs3 a0 a1=some r):Z3p Zbzi 18 Zc1 a0 [(Zcu.pd a1)] Zma r.2.2 ((Kd.int .u8).sl.sl.pd r.1) (pInt .i64 r.2.1):=by
 unfold Zs3 at H0
 refine Z58 (N:=40) Tryz.func18 rfl rfl (Qe rfl) rfl (fun a g0 g bI s b=>?_)
 replace s:St 40 [(0,(pEq (ptrB bI 0))),(1,(Zcu.pd a1)),(1001,(pPO Zc1 bI 1 a0))] a g:=s
 refine U4 [5,0,25] s b Za
  (U2 [15] (Zbt rfl rfl U0)<|U2 [] (Zl2 (.inr rfl))<|U2 (outs:=[(5,((Kd.int .u8).sl.sl.pd ([]:List (List Int))))]) (S:=[]) [] (Zc rfl rfl (Opd.c (fun g=>Zdv g)))<|U2 [] (Zc rfl rfl U6)<|U3) fun a g s b=>?_
 obtain⟨r1,h2,H0⟩:=Zd H0
 refine U4 [5,15,70,80,90,21] s b Za
  (Am 5 rfl<|Al Zve 15 rfl<|U2 (outs:=[(14,(pTup [((Kd.int .u8).sl.sl.pd r1.1),(pInt .i64 r1.2.1),(pInt .i64 r1.2.2)])),(1001,(pPO Zc1 bI 1 a0))]) (S:=[2,1000002]) [10,0,25] (Zf5 (m:=1001) Zbtm (Z9k _ _ h2) rfl rfl rfl U7 U0 (.cons U1 .nil))<|Am 0 rfl<|U2 [0] (Z7 rfl rfl U0 rfl)<|U2 [10] (Z7 rfl rfl U0 rfl)<|U2 [20] (Z7 rfl rfl U0 rfl)<|Aa 20 rfl<|Aa 20 rfl<|Aa 20 rfl<|U3) fun a g s b=>?_
 refine wp_seq<|U4 [5,15,25,35,45,10,55] s b Za
  (Am 45 rfl<|U2 [0] (Zcv rfl rfl U0 U6)<|U3) fun a g s b=>?_
 refine Zs (s.bool 5 rfl) H0 (fun H0=>?_) (fun H0=>?_)
 refine U4 [5,20,30,25] (L:=[(0,_),(9,_),(1001,_)]) (s.pi [0,4,6] rfl) b Za
  (Am 15 rfl<|U2 [] (Zl2 (.inr rfl))<|U2 (outs:=[(5,((Kd.int .u8).sl.sl.pd ([]:List (List Int))))]) (S:=[]) [] (Zc rfl rfl (Opd.c (fun g=>Zdv g)))<|Aa 20 rfl<|U3) fun a g s b=>?_
 cases H0
 refine wp_skip<|Zl ?_
 refine wp_seq ?_
 obtain⟨r4,h5,H0⟩:=Zd H0
 refine U4 [5,15,25,35,100,91] (L:=[(0,_),(3,_),(7,_),(8,_),(1001,_)]) (s.pi [0,1,2,3,6] rfl) b Za
  (Am 5 rfl<|Af Zwi 15 rfl<|Al U9 0 rfl<|Am 35 rfl<|U2 [10,0] (Zbw rfl rfl U0 U1 rfl)<|Af Z0k 15 rfl<|Al U9 0 rfl<|Am 35 rfl<|U2 [10,0] (Zei rfl rfl U0 U1 rfl)<|U2 (outs:=[(30,(pInt .i64 r4.1)),(1001,(pPO Zc1 bI 1 r4.2))]) (S:=[2,1000002]) [80,40,0,45] (Zf5 (m:=1001) Zbtk (Z8q _ _ _ h5) rfl rfl rfl u_3 U0 (.cons U1 (.cons U7 .nil)))<|Aa 0 rfl<|U3) fun a g s b=>?_
 refine U4 [5,15,25,35,45,10,55] s b Za
  (Am 45 rfl<|U2 [0] (Zcv rfl rfl U0 U6)<|U3) fun a g s b=>?_
 refine Zs (s.bool 5 rfl) H0 (fun H0=>?_) (fun H0=>?_)
 refine U4 [5,20,30,25] (L:=[(0,_),(10,_),(1001,_)]) (s.pi [0,4,6] rfl) b Za
  (Am 15 rfl<|U2 [] (Zl2 (.inr rfl))<|U2 (outs:=[(5,((Kd.int .u8).sl.sl.pd ([]:List (List Int))))]) (S:=[]) [] (Zc rfl rfl (Opd.c (fun g=>Zdv g)))<|Aa 20 rfl<|U3) fun a g s b=>?_
 cases H0
 refine wp_skip<|Zl ?_
 refine U4 [5,60,70,80,45] (L:=[(0,_),(3,_),(7,_),(8,_),(1001,_)]) (s.pi [0,1,2,3,6] rfl) b Za
  (Am 5 rfl<|Al Zve 15 rfl<|Am 35 rfl<|U2 (outs:=[(37,((Zeo bI).pd ({d:=(),a:=a1,at_:=r1.2.1}:Zb4)))]) (S:=[]) [20,10,0] (Z8n rfl rfl (Opd.adr U0) U1 U7)<|U2 (outs:=[(38,(pBox (Zeo bI) 38 ({d:=(),a:=a1,at_:=r1.2.1}:Zb4)))]) (S:=[39]) [0] (Zln rfl rfl U0)<|Am 25 rfl<|Aa 10 rfl<|Aa 10 rfl<|U2 [] (Zc rfl rfl U6)<|U3) fun a g s b=>?_
 refine wp_ret ?_
 obtain rfl:=Oi H0
 exact Zbdh (fun _ _ _ h=>h) (by unfold AUX;decide) rfl rfl rfl s b (Zf (s:=4)) (Zf (s:=5)) (Zf (s:=6)) (s.at 1 rfl) (s.at 4 rfl) (s.at 2 rfl) (s.at 3 rfl)
theorem Zvg (a0:Int) {r:Zds} (H0:Znm a0=some r):FnOk Zbzi 84 [(pInt .i64 a0)] (Zef.pd r):=by
 unfold Znm at H0
 refine Zb9 (N:=13) Tryz.func84 rfl rfl (Qe rfl) rfl rfl (fun a g0 s b=>?_)
 refine U4 [5,0] s b Za
  (U2 [] (Z2t 2 rfl rfl)<|U3) fun a g s b=>?_
 refine wp_seq<|U4 [5,15,50] s b Za
  (Am 5 rfl<|U2 [0] (Zbfw rfl rfl U0 U6)<|Am 0 rfl<|Gf [0,5] rfl (fun h=>Zx rfl rfl U0)<|Gf [10,0] rfl (fun h=>Zkp rfl rfl (V1 h U0) U6)<|U2 [20,0] (Zb3 rfl rfl U0 (fun hz=>(V1 (bNF hz) U1)))<|U3) fun a g s b=>?_
 refine Zs (s.bool 2 rfl) H0 (fun H0=>?_) (fun H0=>?_)
 refine U4 [10] (L:=[(2,_)]) (s.pi [1] rfl) b Za
  (U2 [] (Zbny rfl rfl )<|U2 [0,5] (Z9 Zhk rfl rfl U1 U0)<|U3) fun a g s b=>?_
 refine wp_ret<|Zp ?_
 obtain rfl:=Oi H0
 obtain⟨u0,hu0,hq0⟩:=Zbi (P:=Zbzi) Zhk (s.at 0 rfl)
 exact Zba rfl s b hu0 hq0
 refine wp_skip<|Zl ?_
 obtain⟨e2,h3,H0⟩:=Zd H0
 refine U4 [30] (L:=[(0,_),(2,_)]) (s.pi [0,1] rfl) b Za
  (Am 5 rfl<|U2 [0] (Zsq Tryz.underlying203 Zbra rfl rfl (Opd.glob gm_0 gk_0) U0 h3)<|Al Zhk 0 rfl<|U2 [0,15] (Z9 Zhk rfl rfl U1 U0)<|U3) fun a g s b=>?_
 refine wp_ret ?_
 obtain rfl:=Oi H0
 obtain⟨u0,hu0,hq0⟩:=Zbi (P:=Zbzi) Zhk (s.at 0 rfl)
 exact Zba rfl s b hu0 hq0
theorem Z1p (a0:Zds) {r:Int} (H0:Zq7 a0=some r):FnOk Zbzi 90 [(Zef.pd a0)] (pInt .i64 r):=by
 unfold Zq7 at H0
 refine Zb9 (N:=6) Tryz.func90 rfl rfl (Qe rfl) rfl rfl (fun a g0 s b=>?_)
 refine U4 [0] s b Za
  (U2 [5] (Zbt rfl rfl U0)<|U2 [] (Zc rfl rfl U6)<|U3) fun a g s b=>?_
 refine wp_seq<|U4 [20] s b Za
  (Af Zbby 5 rfl<|Al U9 0 rfl<|U2 [0] (Zb0 rfl rfl U0 U6)<|U3) fun a g s b=>?_
 refine Zs (s.bool 0 rfl) H0 (fun H0=>?_) (fun H0=>?_)
 refine U4 [0] (L:=[]) (s.pi [] rfl) b Za
  (U2 [] (Zc rfl rfl U6)<|U3) fun a g s b=>?_
 refine wp_ret<|Zp ?_
 obtain rfl:=Oi H0
 exact Zba rfl s b (Zf (s:=2)) (s.at 0 rfl)
 refine wp_skip<|Zl ?_
 refine U4 [0] (L:=[]) (s.pi [] rfl) b Za
  (U2 [] (Zc rfl rfl U6)<|U3) fun a g s b=>?_
 refine wp_ret ?_
 obtain rfl:=Oi H0
 exact Zba rfl s b (Zf (s:=2)) (s.at 0 rfl)
theorem Zee (a0:Zds) (a1:Int) {r:Bool} (H0:Zb8 a0 a1=some r):FnOk Zbzi 87 [(Zef.pd a0),(pInt .u8 a1)] (Zbo r):=by
 unfold Zb8 at H0
 refine Zb9 (N:=19) Tryz.func87 rfl rfl (Qe rfl) rfl rfl (fun a g0 s b=>?_)
 refine U4 [15,0] s b Za
  (U2 [5] (Zbt rfl rfl U0)<|U2 [] (Zc rfl rfl c_b)<|U3) fun a g s b=>?_
 refine wp_seq<|U4 [5,15,20,30] s b Za
  (Af Z9x 15 rfl<|Al V0 0 rfl<|U2 [0] (Zg4 Zbzy rfl rfl U0)<|U2 [] (Zx rfl rfl U6)<|U3) fun a g s b=>?_
 obtain⟨z6,hz1,H0⟩:=Zd H0
 refine Zbq (fun a w=>∃(g:G),Jn 19 [] a w g0 g ((.inr ())=z6)) ?_ ?_
 ·rintro a w ⟨g,rfl,s,b,rfl⟩
  refine Zl<|U4 [0] s b Za
   (U2 [] (Zc rfl rfl c_b)<|U3) fun a g s b=>?_
  refine wp_ret ?_
  obtain rfl:=Oi H0
  exact Zba rfl s b (Zf (s:=4)) (s.at 0 rfl)
 ·refine wp_block<|wp_loop_ghost (fun n a w=>∃(x1:Int) (g:G),Jn 19 [(1,(pInt .u8 a1)),(2,(Zef.ptr a0)),(8,(pInt .i64 (a0.has.size:Int))),(9,(pInt .i64 x1))] a w g0 g (Zkx a0 a1 n x1=some z6)) (Zbzo ((a0.has.size:Int)-(0:Int))+1) ⟨(0:Int),g,rfl,(s.pi [0,1,2,3] rfl),b,hz1⟩ (fun n a w hI=>?_)
  obtain⟨x1,g,rfl,s,b,H1⟩:=hI
  cases n with
  | zero=>exact absurd H1 (by simp[Zkx])
  | succ n =>
   rw[Zkx]at H1
   refine U4 [5,15,25,35,0] s b Za
    (U2 [35,25] (Zcj rfl rfl U0 U1)<|U3) fun a g s b=>?_
   refine wp_seq<|Zs (s.bool 4 rfl) H1 (fun H1=>?_) (fun H1=>?_)
   ·refine wp_skip<|Zl ?_
    refine wp_seq<|wp_block ?_
    refine U4 [5,15,10,25,35] (L:=[(1,_),(2,_),(8,_),(9,_)]) (s.pi [0,1,2,3] rfl) b Za
     (Am 35 rfl<|Aa 0 rfl<|U3) fun a g s b=>?_
    obtain⟨b3,h4,H1⟩:=Zd H1
    refine U4 [5,15,35,45,50] s b Za
     (Af Z9x 15 rfl<|Al V0 0 rfl<|Am 25 rfl<|U2 [10,0] (Zr9 Zbzy rfl rfl U0 U1 h4)<|Am 5 rfl<|U2 [10,0] (Zb0 rfl rfl U0 U1)<|U3) fun a g s b=>?_
    refine Zs (s.bool 4 rfl) H1 (fun H1=>?_) (fun H1=>?_)
    ·refine U4 [0] (L:=[]) (s.pi [] rfl) b Za
      (U2 [] (Zc rfl rfl c_b)<|U3) fun a g s b=>?_
     refine wp_ret<|Z5 ?_
     refine Zp<|Zp ?_
     refine Z5<|Zp ?_
     refine Zp ?_
     obtain rfl:=Oi H1
     obtain rfl:=Oi H0
     exact Zba rfl s b (Zf (s:=4)) (s.at 0 rfl)
    ·refine wp_skip<|Zbb ?_
     refine Zl<|U5 [5,15,25,10] (L:=[(1,_),(2,_),(8,_),(9,_)]) (s.pi [0,1,2,3] rfl) b Za
      (U2 [35] (Zbw rfl rfl U0 U6 rfl)<|Am 0 rfl<|U3) fun a g s b=>?_
     exact⟨n,Zbzq _,(Zbzj.wrap (x1+(1:Int))),g,rfl,(s.pi [0,1,2,3] rfl),b,H1⟩
   ·refine wp_exit<|Zbx ?_
    refine Zbx<|Zcg ?_
    exact⟨g,rfl,(s.pi [] rfl),b,Oi H1⟩
theorem Zbct {r:Nat} (H0:Zxm=some r):FnOk Zbzi 160 [] (pFlt r):=by
 unfold Zxm at H0
 refine Zb9 (N:=2) Tryz.func160 rfl rfl (Qe rfl) rfl rfl (fun a g0 s b=>?_)
 refine U4 [] s b Za
  (U2 [] (Zc rfl rfl c_f)<|U3) fun a g s b=>?_
 refine U4 [10] s b Za
  (U2 [] (Zss Z4i rfl rfl U6)<|Aa 0 rfl<|U3) fun a g s b=>?_
 refine wp_ret ?_
 obtain rfl:=Oi H0
 exact Zba rfl s b (Zf (s:=0)) (s.at 0 rfl)
theorem Zkl (a0:Nat) {r:Nat} (H0:Zh5 a0=some r):FnOk Zbzi 115 [(pFlt a0)] (pFlt r):=by
 unfold Zh5 at H0
 refine Zb9 (N:=8) Tryz.func115 rfl rfl (Qe rfl) rfl rfl (fun a g0 s b=>?_)
 refine U4 [5] s b Za
  (U2 [] (Zc rfl rfl c_f)<|U3) fun a g s b=>?_
 refine wp_seq<|U4 [5,20] s b Za
  (Am 5 rfl<|Am 5 rfl<|U2 [10,0] (Zbee rfl rfl U0 U1)<|U3) fun a g s b=>?_
 refine Zs (s.bool 1 rfl) H0 (fun H0=>?_) (fun H0=>?_)
 obtain⟨r2,h3,H0⟩:=Zd H0
 refine U4 [10] (L:=[]) (s.pi [] rfl) b Za
  (U2 [] (Zt Zbpf (Zbct h3) rfl rfl .nil)<|Aa 0 rfl<|U3) fun a g s b=>?_
 refine wp_ret<|Zp ?_
 obtain rfl:=Oi H0
 exact Zba rfl s b (Zf (s:=2)) (s.at 0 rfl)
 refine wp_skip<|Zl ?_
 refine U4 [10] (L:=[(0,_)]) (s.pi [0] rfl) b Za
  (Am 5 rfl<|Aa 0 rfl<|U3) fun a g s b=>?_
 refine wp_ret ?_
 obtain rfl:=Oi H0
 exact Zba rfl s b (Zf (s:=2)) (s.at 0 rfl)
theorem Zql (a0:Nat) {r:Int} (H0:Zo4 a0=some r):FnOk Zbzi 157 [(pFlt a0)] (pInt .u64 r):=by
 unfold Zo4 at H0
 refine Zb9 (N:=14) Tryz.func157 rfl rfl (Qe rfl) rfl rfl (fun a g0 s b=>?_)
 refine U4 [5] s b Za
  (U2 [] (Zc rfl rfl U6)<|U3) fun a g s b=>?_
 obtain⟨r1,h2,H0⟩:=Zd H0
 refine U4 [30] s b Za
  (Am 5 rfl<|U2 [0] (Zt Ztg (Zkl _ h2) rfl rfl (.cons U0 .nil))<|U2 [0] (Zwx Zy0 rfl rfl U0)<|Aa 0 rfl<|U3) fun a g s b=>?_
 refine wp_seq<|U4 [5,20] s b Za
  (Am 5 rfl<|U2 [0] (Z4m rfl rfl U0 U6)<|U2 [0] (Zcv rfl rfl U0 U6)<|U3) fun a g s b=>?_
 refine Zs (s.bool 1 rfl) H0 (fun H0=>?_) (fun H0=>?_)
 refine U4 [20] (L:=[(3,_)]) (s.pi [0] rfl) b Za
  (Am 5 rfl<|U2 [0] (Zbdd rfl rfl rfl U0)<|Aa 0 rfl<|U3) fun a g s b=>?_
 refine wp_ret<|Zp ?_
 obtain rfl:=Oi H0
 exact Zba rfl s b (Zf (s:=2)) (s.at 0 rfl)
 refine wp_skip<|Zl ?_
 refine U4 [20] (L:=[(3,_)]) (s.pi [0] rfl) b Za
  (Am 5 rfl<|U2 [0] (Z7x rfl rfl U0 U6)<|Aa 0 rfl<|U3) fun a g s b=>?_
 refine wp_ret ?_
 obtain rfl:=Oi H0
 exact Zba rfl s b (Zf (s:=2)) (s.at 0 rfl)
theorem Zo2 (a0:Nat) (a1:Nat) {r:Bool} (H0:Zm6 a0 a1=some r):FnOk Zbzi 112 [(pFlt a0),(pFlt a1)] (Zbo r):=by
 unfold Zm6 at H0
 refine Zb9 (N:=10) Tryz.func112 rfl rfl (Qe rfl) rfl rfl (fun a g0 s b=>?_)
 refine U4 [5,15] s b Za
  (U2 [] (Zc rfl rfl c_b)<|U3) fun a g s b=>?_
 obtain⟨r1,h2,H0⟩:=Zd H0;obtain⟨r3,h4,H0⟩:=Zd H0
 refine U4 [50] s b Za
  (Am 5 rfl<|U2 [0] (Zt Zww (Zql _ h2) rfl rfl (.cons U0 .nil))<|Am 15 rfl<|U2 [0] (Zt Zww (Zql _ h4) rfl rfl (.cons U0 .nil))<|U2 [20,0] (Zb0 rfl rfl U0 U1)<|Aa 0 rfl<|U3) fun a g s b=>?_
 refine wp_ret ?_
 obtain rfl:=Oi H0
 exact Zba rfl s b (Zf (s:=4)) (s.at 0 rfl)
theorem Zj9 (f2:Nat) (C2:List Pd) (hC2:Free C2) (e2_:Zi Zbzi f2) (φ2:Zn→Zn→Option Bool) (hφ2:∀(y0:Zn) (y1:Zn) (r:Bool),φ2 y0 y1=some r→FnOk Zbzi f2 ([(Zy.pd y0),(Zy.pd y1)]++C2) (Zbo r)) (a0:List Zn) (a1:List Zn) {r:Bool} (H0:Zc2 a0 a1 φ2=some r):FnOk Zbzi 158 [(Zy.sl.pd a0),(Zy.sl.pd a1),(pClo f2 C2 hC2)] (Zbo r):=by
 unfold Zc2 at H0
 refine Zb9 (N:=32) Tryz.func158 rfl rfl (Qe rfl) rfl rfl (fun a g0 s b=>?_)
 refine U4 [5,15,25] s b Za
  (U2 [] (Zc rfl rfl c_b)<|U3) fun a g s b=>?_
 refine wp_seq<|U4 [5,15,25,40] s b Za
  (Am 5 rfl<|U2 [0] (Zbv Zbzp rfl rfl U0)<|Am 15 rfl<|U2 [0] (Zbv Zbzp rfl rfl U0)<|U2 [20,0] (Zcv rfl rfl U0 U1)<|U3) fun a g s b=>?_
 refine Zs (s.bool 3 rfl) H0 (fun H0=>?_) (fun H0=>?_)
 ·refine U4 [0] (L:=[]) (s.pi [] rfl) b Za
   (U2 [] (Zc rfl rfl c_b)<|U3) fun a g s b=>?_
  refine wp_ret<|Zp ?_
  obtain rfl:=Oi H0
  exact Zba rfl s b (Zf (s:=6)) (s.at 0 rfl)
 ·refine wp_skip<|Zl ?_
  refine wp_seq<|U4 [15,25,0,10,20] (L:=[(0,_),(1,_),(2,_)]) (s.pi [0,1,2] rfl) b Za
   (Am 5 rfl<|U2 [0] (Zbv Zbzp rfl rfl U0)<|U2 [] (Zx rfl rfl U6)<|U3) fun a g s b=>?_
  obtain⟨z11,hz1,H0⟩:=Zd H0
  refine Zbq (fun a w=>∃(g:G),Jn 32 [] a w g0 g ((.inr ())=z11)) ?_ ?_
  ·rintro a w ⟨g,rfl,s,b,rfl⟩
   refine Zl<|U4 [0] s b Za
    (U2 [] (Zc rfl rfl c_b)<|U3) fun a g s b=>?_
   refine wp_ret ?_
   obtain rfl:=Oi H0
   exact Zba rfl s b (Zf (s:=6)) (s.at 0 rfl)
  ·refine wp_block<|wp_loop_ghost (fun n a w=>∃(x2:Int) (g:G),Jn 32 [(1,(Zy.sl.pd a1)),(2,(pClo f2 C2 hC2)),(15,(Zy.sl.pd a0)),(16,(pInt .i64 (a0.length:Int))),(17,(pInt .i64 x2))] a w g0 g (Zcd a0 a1 φ2 n x2=some z11)) (Zbzo ((a0.length:Int)-(0:Int))+1) ⟨(0:Int),g,rfl,(s.pi [0,1,2,3,4] rfl),b,hz1⟩ (fun n a w hI=>?_)
   obtain⟨x2,g,rfl,s,b,H1⟩:=hI
   cases n with
   | zero=>exact absurd H1 (by simp[Zcd])
   | succ n =>
    rw[Zcd]at H1
    refine U4 [5,15,25,35,45,0] s b Za
     (U2 [45,35] (Zcj rfl rfl U0 U1)<|U3) fun a g s b=>?_
    refine wp_seq<|Zs (s.bool 5 rfl) H1 (fun H1=>?_) (fun H1=>?_)
    ·refine wp_skip<|Zl ?_
     refine wp_seq<|wp_block ?_
     obtain⟨e4,h5,H1⟩:=Zd H1
     refine U4 [5,15,40,50,25,35,45] (L:=[(1,_),(2,_),(15,_),(16,_),(17,_)]) (s.pi [0,1,2,3,4] rfl) b Za
      (Am 45 rfl<|U2 [25,45] (Zbn Zbzp Zf1 rfl rfl U0 U1 h5)<|Al Zev 0 rfl<|U2 [] (Zs1 8 rfl rfl)<|Aa 30 rfl<|U2 [20,10] (Zci Zev rfl rfl U1 U0)<|U3) fun a g s b=>?_
     obtain⟨e6,h7,H1⟩:=Zd H1
     refine U4 [5,15,35,50,45,55,65] s b Za
      (Am 5 rfl<|Am 25 rfl<|U2 [10,0] (Zbn Zbzp Zf1 rfl rfl U0 U1 h7)<|Al Zev 0 rfl<|U2 [] (Zs1 9 rfl rfl)<|U2 [10,0] (Zci Zev rfl rfl U1 U0)<|U3) fun a g s b=>?_
     obtain⟨r8,h9,H1⟩:=Zd H1
     refine U4 [5,15,45,55,65,40] s b Za
      (Am 15 rfl<|Al Zev 25 rfl<|Al Zev 35 rfl<|U2 [20,10,0] (Zxo e2_ (hφ2 _ _ _ h9) rfl rfl U0 (.cons U1 (.cons U7 .nil)))<|U2 [0] (Zct rfl rfl U0)<|U3) fun a g s b=>?_
     refine Zs (s.bool 5 rfl) H1 (fun H1=>?_) (fun H1=>?_)
     ·refine U4 [0] (L:=[]) (s.pi [] rfl) b Za
       (U2 [] (Zc rfl rfl c_b)<|U3) fun a g s b=>?_
      refine wp_ret<|Z5 ?_
      refine Zp<|Zp ?_
      refine Z5<|Zp ?_
      refine Zp ?_
      obtain rfl:=Oi H1
      obtain rfl:=Oi H0
      exact Zba rfl s b (Zf (s:=6)) (s.at 0 rfl)
     ·refine wp_skip<|Zbb ?_
      refine Zl<|U5 [5,15,25,35,10] (L:=[(1,_),(2,_),(15,_),(16,_),(17,_)]) (s.pi [0,1,2,3,4] rfl) b Za
       (U2 [45] (Zbw rfl rfl U0 U6 rfl)<|Am 0 rfl<|U3) fun a g s b=>?_
      exact⟨n,Zbzq _,(Zbzj.wrap (x2+(1:Int))),g,rfl,(s.pi [0,1,2,3,4] rfl),b,H1⟩
    ·refine wp_exit<|Zbx ?_
     refine Zbx<|Zcg ?_
     exact⟨g,rfl,(s.pi [] rfl),b,Oi H1⟩
theorem Z64 (a0:Zn) (a1:Zn) {r:Bool} (H0:Zmj a0 a1=some r):FnOk Zbzi 159 [(Zy.pd a0),(Zy.pd a1)] (Zbo r):=by
 unfold Zmj at H0
 refine Zb9 (N:=17) Tryz.func159 rfl rfl (Qe rfl) rfl rfl (fun a g0 s b=>?_)
 refine U4 [0,10] s b Za
  (U2 [5] (Zbt rfl rfl U0)<|U2 [15] (Zbt rfl rfl U0)<|U2 [] (Zc rfl rfl c_b)<|U3) fun a g s b=>?_
 obtain⟨r1,h2,H0⟩:=Zd H0
 refine U4 [120] s b Za
  (Af Zeq 5 rfl<|Al V0 0 rfl<|Af Zeq 15 rfl<|Al V0 0 rfl<|U2 [20,0] (Zpk rfl rfl U0 U1)<|Am 0 rfl<|Gt [0,5] rfl (fun h=>Zq Zgd rfl rfl U0)<|Gt [10,0] rfl (fun h=>Z2 Zdk rfl rfl (V1 h U0))<|Gt [20,15] rfl (fun h=>Zq Zgd rfl rfl U0)<|Gt [30,0] rfl (fun h=>Z2 Zdk rfl rfl (V1 h U0))<|Gt [40,20,0] rfl (fun h=>Zt Zwa (Zo2 _ _ (Zcb h2 h)) rfl rfl (.cons (V1 h U0) (.cons (V1 h U1) .nil)))<|U2 [50,0] (Zbs rfl rfl U0 (fun hz=>(V1 hz U1)))<|Aa 0 rfl<|U3) fun a g s b=>?_
 refine wp_ret ?_
 obtain rfl:=Oi H0
 exact Zba rfl s b (Zf (s:=4)) (s.at 0 rfl)
theorem Zbc2 (a0:Zb) (a1:Zb) {r:Bool} (H0:Zut a0 a1=some r):FnOk Zbzi 113 [(Zg.pd a0),(Zg.pd a1)] (Zbo r):=by
 unfold Zut at H0
 refine Zb9 (N:=59) Tryz.func113 rfl rfl (Qe rfl) rfl rfl (fun a g0 s b=>?_)
 refine U4 [0,10] s b Za
  (U2 [5] (Zbt rfl rfl U0)<|U2 [15] (Zbt rfl rfl U0)<|U2 [] (Zc rfl rfl c_b)<|U3) fun a g s b=>?_
 obtain⟨r1,h2,H0⟩:=Zd H0;obtain⟨r3,h4,H0⟩:=Zd H0
 refine U4 [540] s b Za
  (Af Zfd 5 rfl<|Al U9 0 rfl<|Af Zfd 15 rfl<|Al U9 0 rfl<|U2 [20,0] (Zb0 rfl rfl U0 U1)<|Am 0 rfl<|Gt [0,5] rfl (fun h=>Zq Zdc rfl rfl U0)<|Gt [10,0] rfl (fun h=>Z2 U8 rfl rfl (V1 h U0))<|Gt [20,15] rfl (fun h=>Zq Zdc rfl rfl U0)<|Gt [30,0] rfl (fun h=>Z2 U8 rfl rfl (V1 h U0))<|Gt [40,20,0] rfl (fun h=>Zb0 rfl rfl (V1 h U0) (V1 h U1))<|U2 [50,0] (Zbs rfl rfl U0 (fun hz=>(V1 hz U1)))<|Am 0 rfl<|Gt [0,5] rfl (fun h=>Zq Zjt rfl rfl U0)<|Gt [10,0] rfl (fun h=>Z2 U8 rfl rfl (V1 h U0))<|Gt [20,15] rfl (fun h=>Zq Zjt rfl rfl U0)<|Gt [30,0] rfl (fun h=>Z2 U8 rfl rfl (V1 h U0))<|Gt [40,20,0] rfl (fun h=>Zb0 rfl rfl (V1 h U0) (V1 h U1))<|U2 [50,0] (Zbs rfl rfl U0 (fun hz=>(V1 hz U1)))<|Am 0 rfl<|Gt [0,5] rfl (fun h=>Zq Zjz rfl rfl U0)<|Gt [10,0] rfl (fun h=>Z2 U8 rfl rfl (V1 h U0))<|Gt [20,15] rfl (fun h=>Zq Zjz rfl rfl U0)<|Gt [30,0] rfl (fun h=>Z2 U8 rfl rfl (V1 h U0))<|Gt [40,20,0] rfl (fun h=>Zb0 rfl rfl (V1 h U0) (V1 h U1))<|U2 [50,0] (Zbs rfl rfl U0 (fun hz=>(V1 hz U1)))<|Am 0 rfl<|Gt [0,5] rfl (fun h=>Zq Zga rfl rfl U0)<|Gt [10,0] rfl (fun h=>Z2 Zdk rfl rfl (V1 h U0))<|Gt [20,15] rfl (fun h=>Zq Zga rfl rfl U0)<|Gt [30,0] rfl (fun h=>Z2 Zdk rfl rfl (V1 h U0))<|Gt [40,20,0] rfl (fun h=>Zt Zwa (Zo2 _ _ (Zcb h2 h)) rfl rfl (.cons (V1 h U0) (.cons (V1 h U1) .nil)))<|U2 [50,0] (Zbs rfl rfl U0 (fun hz=>(V1 hz U1)))<|Am 0 rfl<|Gt [0,5] rfl (fun h=>Zq Zhb rfl rfl U0)<|Gt [10,0] rfl (fun h=>Z2 U9 rfl rfl (V1 h U0))<|Gt [20,15] rfl (fun h=>Zq Zhb rfl rfl U0)<|Gt [30,0] rfl (fun h=>Z2 U9 rfl rfl (V1 h U0))<|Gt [40,20,0] rfl (fun h=>Zb0 rfl rfl (V1 h U0) (V1 h U1))<|U2 [50,0] (Zbs rfl rfl U0 (fun hz=>(V1 hz U1)))<|Am 0 rfl<|Gt [0,5] rfl (fun h=>Zq Zi1 rfl rfl U0)<|Gt [10,0] rfl (fun h=>Z2 V0 rfl rfl (V1 h U0))<|Gt [20,15] rfl (fun h=>Zq Zi1 rfl rfl U0)<|Gt [30,0] rfl (fun h=>Z2 V0 rfl rfl (V1 h U0))<|Gt [40,20,0] rfl (fun h=>Zpk rfl rfl (V1 h U0) (V1 h U1))<|U2 [50,0] (Zbs rfl rfl U0 (fun hz=>(V1 hz U1)))<|Am 0 rfl<|Gt [0,5] rfl (fun h=>Zq Zcm rfl rfl U0)<|Gt [10,0] rfl (fun h=>Z2 Zdx rfl rfl (V1 h U0))<|Gt [20,15] rfl (fun h=>Zq Zcm rfl rfl U0)<|Gt [30,0] rfl (fun h=>Z2 Zdx rfl rfl (V1 h U0))<|Gt [40,20,0] rfl (fun u=>Zt Zbpz (Zj9 159 [] rfl Zbo3 (fun y0 y1=>Zmj y0 y1) (fun y0 y1 r h=>Z64 y0 y1 h) _ _ (Zcb h4 u)) rfl rfl (.cons (V1 u U0) (.cons (V1 u U1) (.cons Opd.fnc .nil))))<|U2 [50,0] (Zbs rfl rfl U0 (fun hz=>(V1 hz U1)))<|Aa 0 rfl<|U3) fun a g s b=>?_
 refine wp_ret ?_
 obtain rfl:=Oi H0
 exact Zba rfl s b (Zf (s:=4)) (s.at 0 rfl)
theorem Zbcs (a0:Zw) (a1:Zds) {r:Bool} (H0:Zwy a0 a1=some r):FnOk Zbzi 92 [(Z6.pd a0),(Zef.pd a1)] (Zbo r):=by
 unfold Zwy at H0
 refine Zb9 (N:=40) Tryz.func92 rfl rfl (Qe rfl) rfl rfl (fun a g0 s b=>?_)
 refine U4 [0,10] s b Za
  (U2 [5] (Zbt rfl rfl U0)<|U2 [15] (Zbt rfl rfl U0)<|U2 [] (Zc rfl rfl c_b)<|U3) fun a g s b=>?_
 obtain⟨r1,h2,H0⟩:=Zd H0;obtain⟨r3,h4,H0⟩:=Zd H0;obtain⟨r5,h6,H0⟩:=Zd H0;obtain⟨r7,h8,H0⟩:=Zd H0;obtain⟨r9,h10,H0⟩:=Zd H0;obtain⟨r11,h12,H0⟩:=Zd H0
 refine U4 [350] s b Za
  (Al Zhk 15 rfl<|U2 [0] (Zt Zq3 (Zee _ _ h2) rfl rfl (.cons U0 (.cons U6 .nil)))<|Am 0 rfl<|Gf [0,5] rfl (fun h=>Zq Zd8 rfl rfl U0)<|Gf [10,0] rfl (fun h=>Z2 U8 rfl rfl (V1 h U0))<|Gf [20,0] rfl (fun h=>Zb0 rfl rfl (V1 h U0) U6)<|U2 [30,0] (Zb3 rfl rfl U0 (fun hz=>(V1 (bNF hz) U1)))<|Am 0 rfl<|Gt [0,15] rfl (fun h=>Z2 Zhk rfl rfl U0)<|Gt [10,0] rfl (fun h=>Zt Zq3 (Zee _ _ (Zcb h4 h)) rfl rfl (.cons (V1 h U0) (.cons U6 .nil)))<|Gt [20,0] rfl (fun h=>Zx rfl rfl (V1 h U0))<|Gv [0,5] rfl (fun h=>Zq Zit rfl rfl U0)<|Gv [10,0] rfl (fun h=>Z2 Zdk rfl rfl (V1 h U0))<|Gv [20,0] rfl (fun h=>Zt Zwa (Zo2 _ _ (Zcb h6 h)) rfl rfl (.cons (V1 h U0) (.cons c_f .nil)))<|Gt [60,30,0] rfl (fun h=>Zb3 rfl rfl (V1 h U0) (fun hz=>(V1 (bA h (bNF hz)) U1)))<|U2 [70,0] (Zbs rfl rfl U0 (fun hz=>(V1 hz U1)))<|Am 0 rfl<|Gt [0,15] rfl (fun h=>Z2 Zhk rfl rfl U0)<|Gt [10,0] rfl (fun h=>Zt Zq3 (Zee _ _ (Zcb h8 h)) rfl rfl (.cons (V1 h U0) (.cons U6 .nil)))<|Gt [20,0] rfl (fun h=>Zx rfl rfl (V1 h U0))<|Gv [0,5] rfl (fun h=>Zq Zfe rfl rfl U0)<|Gv [10,0] rfl (fun h=>Z2 V0 rfl rfl (V1 h U0))<|Gv [20,0] rfl (fun h=>Zpk rfl rfl (V1 h U0) c_s)<|Gt [60,30,0] rfl (fun h=>Zb3 rfl rfl (V1 h U0) (fun hz=>(V1 (bA h (bNF hz)) U1)))<|U2 [70,0] (Zbs rfl rfl U0 (fun hz=>(V1 hz U1)))<|Am 0 rfl<|Gt [0,15] rfl (fun h=>Z2 Zhk rfl rfl U0)<|Gt [10,0] rfl (fun h=>Zt Zq3 (Zee _ _ (Zcb h10 h)) rfl rfl (.cons (V1 h U0) (.cons U6 .nil)))<|Gt [20,0] rfl (fun h=>Zx rfl rfl (V1 h U0))<|Gv [0,5] rfl (fun h=>Zq Zob rfl rfl U0)<|Gv [10,0] rfl (fun h=>Z2 Zbd rfl rfl (V1 h U0))<|Gv [20] rfl (fun h=>Zqf rfl rfl )<|Gv [30,10,0] rfl (fun h=>Zt Zbq4 (Zbc2 _ _ (Zcb h12 h)) rfl rfl (.cons (V1 h U0) (.cons (V1 h U1) .nil)))<|Gt [70,40,0] rfl (fun h=>Zb3 rfl rfl (V1 h U0) (fun hz=>(V1 (bA h (bNF hz)) U1)))<|U2 [80,0] (Zbs rfl rfl U0 (fun hz=>(V1 hz U1)))<|Aa 0 rfl<|U3) fun a g s b=>?_
 refine wp_ret ?_
 obtain rfl:=Oi H0
 exact Zba rfl s b (Zf (s:=4)) (s.at 0 rfl)
theorem Ztq (a0:Nat) {r:Bool} (H0:Zoe a0=some r):FnOk Zbzi 93 [(pFlt a0)] (Zbo r):=by
 unfold Zoe at H0
 refine Zb9 (N:=9) Tryz.func93 rfl rfl (Qe rfl) rfl rfl (fun a g0 s b=>?_)
 refine U4 [5] s b Za
  (U2 [] (Zc rfl rfl c_b)<|U3) fun a g s b=>?_
 obtain⟨r1,h2,H0⟩:=Zd H0
 refine U4 [60] s b Za
  (Am 5 rfl<|U2 [0] (Zwx Zy0 rfl rfl U0)<|Am 5 rfl<|U2 [0] (Zt Ztg (Zkl _ h2) rfl rfl (.cons U0 .nil))<|U2 [0] (Zwx Zy0 rfl rfl U0)<|U2 [30,0] (Zb0 rfl rfl U0 U1)<|Aa 0 rfl<|U3) fun a g s b=>?_
 refine wp_ret ?_
 obtain rfl:=Oi H0
 exact Zba rfl s b (Zf (s:=2)) (s.at 0 rfl)
theorem Zto (a0:Int) {r:Zck} (H0:Zew a0=some r):FnOk Zbzi 111 [(pInt .i64 a0)] (Zc4.pd r):=by
 unfold Zew at H0
 refine Zb9 (N:=24) Tryz.func111 rfl rfl (Qe rfl) rfl rfl (fun a g0 s b=>?_)
 refine U4 [5,0] s b Za
  (U2 [] (Z3f 2 rfl rfl)<|U3) fun a g s b=>?_
 refine wp_seq<|U4 [15,0] s b Za
  (Am 5 rfl<|U3) fun a g s b=>?_
 refine wp_block<|U4 [5,15,10] s b Za
  (U2 [15] (Zb0 rfl rfl U0 U6)<|Aa 0 rfl<|U3) fun a g s b=>?_
 refine Zs (s.bool 2 rfl) H0 (fun H0=>?_) (fun H0=>?_)
 refine U4 [10] (L:=[(2,_)]) (s.pi [0] rfl) b Za
  (U2 [] (Zbkn rfl rfl c_b)<|U2 [0,5] (Z9 Zk5 rfl rfl U1 U0)<|U3) fun a g s b=>?_
 refine wp_ret<|Z5 ?_
 refine Zp ?_
 obtain rfl:=Oi H0
 obtain⟨u0,hu0,hq0⟩:=Zbi (P:=Zbzi) Zk5 (s.at 0 rfl)
 exact Zba rfl s b hu0 hq0
 refine wp_seq<|U4 [5,15,10] (L:=[(2,_),(3,_)]) (s.pi [0,1] rfl) b Za
  (U2 [15] (Zb0 rfl rfl U0 U6)<|Aa 0 rfl<|U3) fun a g s b=>?_
 refine Zbq (fun a w=>∃(j3:Bool) (g:G),Jn 24 [(2,(pBox Zc4 2 (default:Zck))),(3,(pInt .i64 a0)),(7,(Zbo j3))] a w g0 g (Zox a0 j3=some r)) ?_ ?_
 rintro a w ⟨j3,g,rfl,s,b,H0⟩
 unfold Zox at H0
 refine Zl<|Zs (s.bool 2 rfl) H0 (fun H0=>?_) (fun H0=>?_)
 refine U4 [10] (L:=[(2,_)]) (s.pi [0] rfl) b Za
  (U2 [] (Zbjp rfl rfl c_b)<|U2 [0,5] (Z9 Zk5 rfl rfl U1 U0)<|U3) fun a g s b=>?_
 refine wp_ret<|Z5 ?_
 refine Zp ?_
 obtain rfl:=Oi H0
 obtain⟨u0,hu0,hq0⟩:=Zbi (P:=Zbzi) Zk5 (s.at 0 rfl)
 exact Zba rfl s b hu0 hq0
 refine U4 [5,15,10] (L:=[(2,_),(3,_)]) (s.pi [0,1] rfl) b Za
  (U2 [15] (Zb0 rfl rfl U0 U6)<|Aa 0 rfl<|U3) fun a g s b=>?_
 refine Zs (s.bool 2 rfl) H0 (fun H0=>?_) (fun H0=>?_)
 refine U4 [10] (L:=[(2,_)]) (s.pi [0] rfl) b Za
  (U2 [] (Zbe0 rfl rfl c_b c_b)<|U2 [0,5] (Z9 Zk5 rfl rfl U1 U0)<|U3) fun a g s b=>?_
 refine wp_ret<|Z5 ?_
 refine Zp ?_
 obtain rfl:=Oi H0
 obtain⟨u0,hu0,hq0⟩:=Zbi (P:=Zbzi) Zk5 (s.at 0 rfl)
 exact Zba rfl s b hu0 hq0
 refine wp_seq<|U4 [5,15,10] (L:=[(2,_),(3,_)]) (s.pi [0,1] rfl) b Za
  (U2 [15] (Zb0 rfl rfl U0 U6)<|Aa 0 rfl<|U3) fun a g s b=>?_
 refine Zbq (fun a w=>∃(j8:Bool) (g:G),Jn 24 [(2,(pBox Zc4 2 (default:Zck))),(3,(pInt .i64 a0)),(14,(Zbo j8))] a w g0 g (Zmc a0 j8=some r)) ?_ ?_
 rintro a w ⟨j8,g,rfl,s,b,H0⟩
 unfold Zmc at H0
 refine Zl<|Zs (s.bool 2 rfl) H0 (fun H0=>?_) (fun H0=>?_)
 refine U4 [10] (L:=[(2,_)]) (s.pi [0] rfl) b Za
  (U2 [] (Zbj9 rfl rfl c_b)<|U2 [0,5] (Z9 Zk5 rfl rfl U1 U0)<|U3) fun a g s b=>?_
 refine wp_ret<|Z5 ?_
 refine Zp ?_
 obtain rfl:=Oi H0
 obtain⟨u0,hu0,hq0⟩:=Zbi (P:=Zbzi) Zk5 (s.at 0 rfl)
 exact Zba rfl s b hu0 hq0
 refine wp_seq<|U4 [5,15,10] (L:=[(2,_),(3,_)]) (s.pi [0,1] rfl) b Za
  (U2 [15] (Zb0 rfl rfl U0 U6)<|Aa 0 rfl<|U3) fun a g s b=>?_
 refine Zbq (fun a w=>∃(j11:Bool) (g:G),Jn 24 [(2,(pBox Zc4 2 (default:Zck))),(19,(Zbo j11))] a w g0 g (Zou j11=some r)) ?_ ?_
 rintro a w ⟨j11,g,rfl,s,b,H0⟩
 unfold Zou at H0
 refine Zl<|Zs (s.bool 1 rfl) H0 (fun H0=>?_) (fun H0=>?_)
 refine U4 [10] (L:=[(2,_)]) (s.pi [0] rfl) b Za
  (U2 [] (Zblf rfl rfl c_b)<|U2 [0,5] (Z9 Zk5 rfl rfl U1 U0)<|U3) fun a g s b=>?_
 refine wp_ret<|Z5 ?_
 refine Zp ?_
 obtain rfl:=Oi H0
 obtain⟨u0,hu0,hq0⟩:=Zbi (P:=Zbzi) Zk5 (s.at 0 rfl)
 exact Zba rfl s b hu0 hq0
 refine wp_skip<|Zbb ?_
 refine Zl<|U4 [10] (L:=[(2,_)]) (s.pi [0] rfl) b Za
  (U2 [] (Zbng rfl rfl )<|U2 [0,5] (Z9 Zk5 rfl rfl U1 U0)<|U3) fun a g s b=>?_
 refine wp_ret ?_
 obtain rfl:=Oi H0
 obtain⟨u0,hu0,hq0⟩:=Zbi (P:=Zbzi) Zk5 (s.at 0 rfl)
 exact Zba rfl s b hu0 hq0
 refine Zs (s.bool 2 rfl) H0 (fun H0=>?_) (fun H0=>?_)
 exact wp_skip<|⟨(a0==(8:Int)),g,rfl,(s.pi [0,2] rfl),b,H0⟩
 refine U5 [5,10] (L:=[(2,_),(3,_)]) (s.pi [0,1] rfl) b Za
  (U2 [15] (Zb0 rfl rfl U0 U6)<|Aa 0 rfl<|U3) fun a g s b=>?_
 exact⟨(a0==(9:Int)),g,rfl,(s.pi [0,1] rfl),b,H0⟩
 refine Zs (s.bool 2 rfl) H0 (fun H0=>?_) (fun H0=>?_)
 exact wp_skip<|⟨(a0==(5:Int)),g,rfl,(s.pi [0,1,2] rfl),b,H0⟩
 refine U4 [5,15,10] (L:=[(2,_),(3,_)]) (s.pi [0,1] rfl) b Za
  (U2 [15] (Zb0 rfl rfl U0 U6)<|Aa 0 rfl<|U3) fun a g s b=>?_
 refine Zs (s.bool 2 rfl) H0 (fun H0=>?_) (fun H0=>?_)
 exact wp_skip<|⟨(a0==(6:Int)),g,rfl,(s.pi [0,1,2] rfl),b,H0⟩
 refine U5 [5,15,10] (L:=[(2,_),(3,_)]) (s.pi [0,1] rfl) b Za
  (U2 [15] (Zb0 rfl rfl U0 U6)<|Aa 0 rfl<|U3) fun a g s b=>?_
 exact⟨(a0==(7:Int)),g,rfl,(s.pi [0,1,2] rfl),b,H0⟩
 refine Zs (s.bool 2 rfl) H0 (fun H0=>?_) (fun H0=>?_)
 exact wp_skip<|⟨(a0==(2:Int)),g,rfl,(s.pi [0,1,2] rfl),b,H0⟩
 refine U5 [5,15,10] (L:=[(2,_),(3,_)]) (s.pi [0,1] rfl) b Za
  (U2 [15] (Zb0 rfl rfl U0 U6)<|Aa 0 rfl<|U3) fun a g s b=>?_
 exact⟨(a0==(3:Int)),g,rfl,(s.pi [0,1,2] rfl),b,H0⟩
theorem Zbcy (a0:Zb) (a1:Zck) {r:Bool} (H0:Zu6 a0 a1=some r):FnOk Zbzi 116 [(Zg.pd a0),(Zc4.pd a1)] (Zbo r):=by
 unfold Zu6 at H0
 refine Zb9 (N:=59) Tryz.func116 rfl rfl (Qe rfl) rfl rfl (fun a g0 s b=>?_)
 refine U4 [0,10] s b Za
  (U2 [5] (Zbt rfl rfl U0)<|U2 [15] (Zbt rfl rfl U0)<|U2 [] (Zc rfl rfl c_b)<|U3) fun a g s b=>?_
 obtain⟨r1,h2,H0⟩:=Zd H0
 refine U4 [540] s b Za
  (Af Z2i 15 rfl<|Al ty_4 0 rfl<|Am 0 rfl<|Gf [0,5] rfl (fun h=>Zq Zi1 rfl rfl U0)<|Gf [10,0] rfl (fun h=>Z2 V0 rfl rfl (V1 h U0))<|Gf [20,0] rfl (fun h=>Zpk rfl rfl (V1 h U0) c_s)<|U2 [30,0] (Zb3 rfl rfl U0 (fun hz=>(V1 (bNF hz) U1)))<|Am 0 rfl<|Gt [0,15] rfl (fun h=>Zq Z1x rfl rfl U0)<|Gt [10,0] rfl (fun h=>Z2 ty_4 rfl rfl (V1 h U0))<|Gt [20,0] rfl (fun h=>Zx rfl rfl (V1 h U0))<|Gv [0,5] rfl (fun h=>Zq Zdc rfl rfl U0)<|Gv [10,0] rfl (fun h=>Z2 U8 rfl rfl (V1 h U0))<|Gv [20,0] rfl (fun h=>Zb0 rfl rfl (V1 h U0) U6)<|Gt [60,30,0] rfl (fun h=>Zb3 rfl rfl (V1 h U0) (fun hz=>(V1 (bA h (bNF hz)) U1)))<|U2 [70,0] (Zbs rfl rfl U0 (fun hz=>(V1 hz U1)))<|Am 0 rfl<|Gt [0,15] rfl (fun h=>Zq Zx0 rfl rfl U0)<|Gt [10,0] rfl (fun h=>Z2 ty_4 rfl rfl (V1 h U0))<|Gt [20,0] rfl (fun h=>Zx rfl rfl (V1 h U0))<|Gv [0,5] rfl (fun h=>Zq Zjt rfl rfl U0)<|Gv [10,0] rfl (fun h=>Z2 U8 rfl rfl (V1 h U0))<|Gv [20,0] rfl (fun h=>Zb0 rfl rfl (V1 h U0) U6)<|Gv [30,0] rfl (fun h=>Zx rfl rfl (V1 h U0))<|Gu [0,5] rfl (fun h=>Zq Zjz rfl rfl U0)<|Gu [10,0] rfl (fun h=>Z2 U8 rfl rfl (V1 h U0))<|Gu [20,0] rfl (fun h=>Zb0 rfl rfl (V1 h U0) U6)<|Gv [70,30,0] rfl (fun h=>Zbs rfl rfl (V1 h U0) (fun hz=>(V1 (bA h hz) U1)))<|Gt [110,80,0] rfl (fun h=>Zb3 rfl rfl (V1 h U0) (fun hz=>(V1 (bA h (bNF hz)) U1)))<|U2 [120,0] (Zbs rfl rfl U0 (fun hz=>(V1 hz U1)))<|Am 0 rfl<|Gt [0,15] rfl (fun h=>Zq Z16 rfl rfl U0)<|Gt [10,0] rfl (fun h=>Z2 ty_4 rfl rfl (V1 h U0))<|Gt [20,0] rfl (fun h=>Zx rfl rfl (V1 h U0))<|Gv [0,5] rfl (fun h=>Zq Zga rfl rfl U0)<|Gv [10,0] rfl (fun h=>Z2 Zdk rfl rfl (V1 h U0))<|Gv [20,0] rfl (fun h=>Zt Zwa (Zo2 _ _ (Zcb h2 h)) rfl rfl (.cons (V1 h U0) (.cons c_f .nil)))<|Gt [60,30,0] rfl (fun h=>Zb3 rfl rfl (V1 h U0) (fun hz=>(V1 (bA h (bNF hz)) U1)))<|U2 [70,0] (Zbs rfl rfl U0 (fun hz=>(V1 hz U1)))<|Am 0 rfl<|Gt [0,15] rfl (fun h=>Zq Zxe rfl rfl U0)<|Gt [10,0] rfl (fun h=>Z2 ty_4 rfl rfl (V1 h U0))<|Gt [20,0] rfl (fun h=>Zx rfl rfl (V1 h U0))<|Gv [0,5] rfl (fun h=>Zq Zhb rfl rfl U0)<|Gv [10,0] rfl (fun h=>Z2 U9 rfl rfl (V1 h U0))<|Gv [20,0] rfl (fun h=>Zb0 rfl rfl (V1 h U0) U6)<|Gv [30,0] rfl (fun h=>Zx rfl rfl (V1 h U0))<|Gu [0,5] rfl (fun h=>Zq Zcm rfl rfl U0)<|Gu [10,0] rfl (fun h=>Z2 Zdx rfl rfl (V1 h U0))<|Gu [20,0] rfl (fun h=>Zbv Zbzp rfl rfl (V1 h U0))<|Gu [30,0] rfl (fun h=>Zb0 rfl rfl (V1 h U0) U6)<|Gv [80,40,0] rfl (fun h=>Zbs rfl rfl (V1 h U0) (fun hz=>(V1 (bA h hz) U1)))<|Gt [120,90,0] rfl (fun h=>Zb3 rfl rfl (V1 h U0) (fun hz=>(V1 (bA h (bNF hz)) U1)))<|U2 [130,0] (Zbs rfl rfl U0 (fun hz=>(V1 hz U1)))<|Aa 0 rfl<|U3) fun a g s b=>?_
 refine wp_ret ?_
 obtain rfl:=Oi H0
 exact Zba rfl s b (Zf (s:=4)) (s.at 0 rfl)
theorem Zv0 (a0:Nat) (a1:Nat) {r:Bool} (H0:Zq9 a0 a1=some r):FnOk Zbzi 165 [(pFlt a0),(pFlt a1)] (Zbo r):=by
 unfold Zq9 at H0
 refine Zb9 (N:=10) Tryz.func165 rfl rfl (Qe rfl) rfl rfl (fun a g0 s b=>?_)
 refine U4 [5,15] s b Za
  (U2 [] (Zc rfl rfl c_b)<|U3) fun a g s b=>?_
 obtain⟨r1,h2,H0⟩:=Zd H0;obtain⟨r3,h4,H0⟩:=Zd H0
 refine U4 [50] s b Za
  (Am 5 rfl<|U2 [0] (Zt Zww (Zql _ h2) rfl rfl (.cons U0 .nil))<|Am 15 rfl<|U2 [0] (Zt Zww (Zql _ h4) rfl rfl (.cons U0 .nil))<|U2 [20,0] (Zcj rfl rfl U0 U1)<|Aa 0 rfl<|U3) fun a g s b=>?_
 refine wp_ret ?_
 obtain rfl:=Oi H0
 exact Zba rfl s b (Zf (s:=4)) (s.at 0 rfl)
theorem Ztp (a0:Zn) (a1:Zn) {r:Bool} (H0:Zor a0 a1=some r):FnOk Zbzi 161 [(Zy.pd a0),(Zy.pd a1)] (Zbo r):=by
 unfold Zor at H0
 refine Zb9 (N:=21) Tryz.func161 rfl rfl (Qe rfl) rfl rfl (fun a g0 s b=>?_)
 refine U4 [0,10] s b Za
  (U2 [5] (Zbt rfl rfl U0)<|U2 [15] (Zbt rfl rfl U0)<|U2 [] (Zc rfl rfl c_b)<|U3) fun a g s b=>?_
 refine wp_seq ?_
 obtain⟨r1,h2,H0⟩:=Zd H0
 refine U4 [5,15,50] s b Za
  (Af Zgd 5 rfl<|Al Zdk 0 rfl<|Af Zgd 15 rfl<|Al Zdk 0 rfl<|U2 [20,0] (Zt Zwa (Zo2 _ _ h2) rfl rfl (.cons U0 (.cons U1 .nil)))<|U2 [0] (Zct rfl rfl U0)<|U3) fun a g s b=>?_
 refine Zs (s.bool 2 rfl) H0 (fun H0=>?_) (fun H0=>?_)
 obtain⟨r4,h5,H0⟩:=Zd H0
 refine U4 [50] (L:=[(2,_),(3,_)]) (s.pi [0,1] rfl) b Za
  (Af Zgd 15 rfl<|Al Zdk 0 rfl<|Af Zgd 5 rfl<|Al Zdk 0 rfl<|U2 [20,0] (Zt Zbbs (Zv0 _ _ h5) rfl rfl (.cons U0 (.cons U1 .nil)))<|Aa 0 rfl<|U3) fun a g s b=>?_
 refine wp_ret<|Zp ?_
 obtain rfl:=Oi H0
 exact Zba rfl s b (Zf (s:=4)) (s.at 0 rfl)
 refine wp_skip<|Zl ?_
 refine U4 [50] (L:=[(2,_),(3,_)]) (s.pi [0,1] rfl) b Za
  (Af Zeq 5 rfl<|Al V0 0 rfl<|Af Zeq 15 rfl<|Al V0 0 rfl<|U2 [20,0] (Zro rfl rfl U0 U1)<|Aa 0 rfl<|U3) fun a g s b=>?_
 refine wp_ret ?_
 obtain rfl:=Oi H0
 exact Zba rfl s b (Zf (s:=4)) (s.at 0 rfl)
theorem Zbal (a0:Int) (a1:List Zn) {r:Int} (H0:Zpq a0 a1=some r):FnOk Zbzi 117 [(pInt .i64 a0),(Zy.sl.pd a1)] (pInt .i64 r):=by
 unfold Zpq at H0
 refine Zb9 (N:=70) Tryz.func117 rfl rfl (Qe rfl) rfl rfl (fun a g0 s b=>?_)
 refine U4 [5,15] s b Za
  (U2 [] (Zc rfl rfl U6)<|U3) fun a g s b=>?_
 refine wp_seq<|U4 [5,15,0,10,20] s b Za
  (Am 15 rfl<|U2 [0] (Zbv Zbzp rfl rfl U0)<|U2 [] (Zx rfl rfl U6)<|U3) fun a g s b=>?_
 obtain⟨z19,hz1,H0⟩:=Zd H0
 refine Zbq (fun a w=>∃(g:G),Jn 70 [] a w g0 g ((.inr ())=z19)) ?_ ?_
 ·rintro a w ⟨g,rfl,s,b,rfl⟩
  refine Zl<|U4 [0] s b Za
   (U2 [] (Zc rfl rfl U6)<|U3) fun a g s b=>?_
  refine wp_ret ?_
  obtain rfl:=Oi H0
  exact Zba rfl s b (Zf (s:=4)) (s.at 0 rfl)
 ·refine wp_block<|wp_loop_ghost (fun n a w=>∃(x1:Int) (g:G),Jn 70 [(0,(pInt .i64 a0)),(1,(Zy.sl.pd a1)),(7,(Zy.sl.pd a1)),(8,(pInt .i64 (a1.length:Int))),(9,(pInt .i64 x1))] a w g0 g (Zgf a0 a1 n x1=some z19)) (Zbzo ((a1.length:Int)-(0:Int))+1) ⟨(0:Int),g,rfl,(s.pi [0,1,2,3,4] rfl),b,hz1⟩ (fun n a w hI=>?_)
  obtain⟨x1,g,rfl,s,b,H1⟩:=hI
  cases n with
  | zero=>exact absurd H1 (by simp[Zgf])
  | succ n =>
   rw[Zgf]at H1
   refine U4 [5,15,25,35,45,0] s b Za
    (U2 [45,35] (Zcj rfl rfl U0 U1)<|U3) fun a g s b=>?_
   refine wp_seq<|Zs (s.bool 5 rfl) H1 (fun H1=>?_) (fun H1=>?_)
   ·refine wp_skip<|Zl ?_
    refine wp_seq<|wp_block ?_
    obtain⟨e3,h4,H1⟩:=Zd H1
    refine U4 [5,15,40,50,25,35,45] (L:=[(0,_),(1,_),(7,_),(8,_),(9,_)]) (s.pi [0,1,2,3,4] rfl) b Za
     (Am 45 rfl<|U2 [25,45] (Zbn Zbzp Zf1 rfl rfl U0 U1 h4)<|Al Zev 0 rfl<|U2 [] (Zs1 6 rfl rfl)<|Aa 30 rfl<|U2 [20,10] (Zci Zev rfl rfl U1 U0)<|U3) fun a g s b=>?_
    refine wp_block<|U4 [5,15,25,35,45,55,65,40] s b Za
     (Af Zeq 35 rfl<|Al V0 0 rfl<|U2 [0] (Zg4 Zbzy rfl rfl U0)<|U2 [0] (Zcn rfl rfl U0 U6)<|Aa 0 rfl<|U3) fun a g s b=>?_
    refine Zs (s.bool 7 rfl) H1 (fun H1=>?_) (fun H1=>?_)
    ·refine U4 [0] (L:=[]) (s.pi [] rfl) b Za
      (U2 [] (Zc rfl rfl U6)<|U3) fun a g s b=>?_
     refine wp_ret<|Z5 ?_
     refine Z5<|Zp ?_
     refine Zp<|Z5 ?_
     refine Zp<|Zp ?_
     obtain rfl:=Oi H1
     obtain rfl:=Oi H0
     exact Zba rfl s b (Zf (s:=4)) (s.at 0 rfl)
    ·obtain⟨r6,h7,H1⟩:=Zd H1;obtain⟨r8,h9,H1⟩:=Zd H1
     refine U4 [5,15,25,35,45,55,65,140] (L:=[(0,_),(1,_),(5,_),(6,_),(7,_),(8,_),(9,_)]) (s.pi [0,1,2,3,4,5,6] rfl) b Za
      (Am 5 rfl<|U2 [0] (Zb0 rfl rfl U0 U6)<|Am 0 rfl<|Gt [0,35] rfl (fun h=>Zq Zgd rfl rfl U0)<|Gt [10,0] rfl (fun h=>Z2 Zdk rfl rfl (V1 h U0))<|Gt [20,0] rfl (fun h=>Zt Zwa (Zo2 _ _ (Zcb h7 h)) rfl rfl (.cons (V1 h U0) (.cons c_f .nil)))<|Gt [30,0] rfl (fun h=>Zct rfl rfl (V1 h U0))<|U2 [40,0] (Zbs rfl rfl U0 (fun hz=>(V1 hz U1)))<|Am 0 rfl<|Gf [0,35] rfl (fun h=>Zq Zgd rfl rfl U0)<|Gf [10,0] rfl (fun h=>Z2 Zdk rfl rfl (V1 h U0))<|Gf [20,0] rfl (fun h=>Zt Zbfj (Ztq _ (Zcb h9 h)) rfl rfl (.cons (V1 h U0) .nil))<|Gf [30,0] rfl (fun h=>Zct rfl rfl (V1 h U0))<|U2 [40,0] (Zb3 rfl rfl U0 (fun hz=>(V1 (bNF hz) U1)))<|Aa 0 rfl<|U3) fun a g s b=>?_
     refine Zs (s.bool 7 rfl) H1 (fun H1=>?_) (fun H1=>?_)
     ·refine U4 [0] (L:=[]) (s.pi [] rfl) b Za
       (U2 [] (Zc rfl rfl U6)<|U3) fun a g s b=>?_
      refine wp_ret<|Z5 ?_
      refine Z5<|Zp ?_
      refine Zp<|Z5 ?_
      refine Zp<|Zp ?_
      obtain rfl:=Oi H1
      obtain rfl:=Oi H0
      exact Zba rfl s b (Zf (s:=4)) (s.at 0 rfl)
     ·obtain⟨e11,h12,H1⟩:=Zd H1
      refine U4 [5,15,25,35,45,55,65,170] (L:=[(0,_),(1,_),(5,_),(6,_),(7,_),(8,_),(9,_)]) (s.pi [0,1,2,3,4,5,6] rfl) b Za
       (Am 25 rfl<|U2 [0] (Zcn rfl rfl U0 U6)<|Am 0 rfl<|Gt [0,5] rfl (fun h=>Zx rfl rfl U0)<|Gt [10,0] rfl (fun h=>Zb0 rfl rfl (V1 h U0) U6)<|U2 [20,0] (Zbs rfl rfl U0 (fun hz=>(V1 hz U1)))<|Am 0 rfl<|Gt [0,15] rfl (fun h=>Zx rfl rfl U0)<|Gt [10,25] rfl (fun h=>Zx rfl rfl U0)<|Gt [20,0] rfl (fun h=>Zei rfl rfl (V1 h U0) U6 rfl)<|Gt [30,20,0] rfl (fun h=>Zbn Zbzp Zf1 rfl rfl (V1 h U0) (V1 h U1) (Zcb h12 h))<|Gt [40,0] rfl (fun h=>Zq Zeq rfl rfl (V1 h U0))<|Gt [50,0] rfl (fun h=>Z2 V0 rfl rfl (V1 h U0))<|Gt [60,35] rfl (fun h=>Zq Zeq rfl rfl U0)<|Gt [70,0] rfl (fun h=>Z2 V0 rfl rfl (V1 h U0))<|Gt [80,20,0] rfl (fun h=>Zbp1 rfl rfl (V1 h U0) (V1 h U1))<|U2 [90,0] (Zbs rfl rfl U0 (fun hz=>(V1 hz U1)))<|Aa 0 rfl<|U3) fun a g s b=>?_
      refine Zs (s.bool 7 rfl) H1 (fun H1=>?_) (fun H1=>?_)
      ·refine U4 [0] (L:=[]) (s.pi [] rfl) b Za
        (U2 [] (Zc rfl rfl U6)<|U3) fun a g s b=>?_
       refine wp_ret<|Z5 ?_
       refine Z5<|Zp ?_
       refine Zp<|Z5 ?_
       refine Zp<|Zp ?_
       obtain rfl:=Oi H1
       obtain rfl:=Oi H0
       exact Zba rfl s b (Zf (s:=4)) (s.at 0 rfl)
      ·obtain⟨e14,h15,H1⟩:=Zd H1;obtain⟨r16,h17,H1⟩:=Zd H1
       refine U4 [5,15,45,55,65,160] (L:=[(0,_),(1,_),(5,_),(6,_),(7,_),(8,_),(9,_)]) (s.pi [0,1,2,3,4,5,6] rfl) b Za
        (Am 25 rfl<|U2 [0] (Zcn rfl rfl U0 U6)<|Am 0 rfl<|Gt [0,5] rfl (fun h=>Zx rfl rfl U0)<|Gt [10,0] rfl (fun h=>Zb0 rfl rfl (V1 h U0) U6)<|U2 [20,0] (Zbs rfl rfl U0 (fun hz=>(V1 hz U1)))<|Am 0 rfl<|Gt [0,15] rfl (fun h=>Zx rfl rfl U0)<|Gt [10,25] rfl (fun h=>Zx rfl rfl U0)<|Gt [20,0] rfl (fun h=>Zei rfl rfl (V1 h U0) U6 rfl)<|Gt [30,20,0] rfl (fun h=>Zbn Zbzp Zf1 rfl rfl (V1 h U0) (V1 h U1) (Zcb h15 h))<|Gt [40,0] rfl (fun h=>Z2 Zev rfl rfl (V1 h U0))<|Gt [50,35] rfl (fun h=>Z2 Zev rfl rfl U0)<|Gt [60,10,0] rfl (fun h=>Zt Zbbq (Ztp _ _ (Zcb h17 h)) rfl rfl (.cons (V1 h U0) (.cons (V1 h U1) .nil)))<|Gt [70,0] rfl (fun h=>Zct rfl rfl (V1 h U0))<|U2 [80,0] (Zbs rfl rfl U0 (fun hz=>(V1 hz U1)))<|Aa 0 rfl<|U3) fun a g s b=>?_
       refine Zs (s.bool 5 rfl) H1 (fun H1=>?_) (fun H1=>?_)
       ·refine U4 [0] (L:=[]) (s.pi [] rfl) b Za
         (U2 [] (Zc rfl rfl U6)<|U3) fun a g s b=>?_
        refine wp_ret<|Z5 ?_
        refine Z5<|Zp ?_
        refine Zp<|Z5 ?_
        refine Zp<|Zp ?_
        obtain rfl:=Oi H1
        obtain rfl:=Oi H0
        exact Zba rfl s b (Zf (s:=4)) (s.at 0 rfl)
       ·refine wp_skip<|Zbb ?_
        refine Zbb<|Zl ?_
        refine U5 [5,15,25,35,10] (L:=[(0,_),(1,_),(7,_),(8,_),(9,_)]) (s.pi [0,1,2,3,4] rfl) b Za
         (U2 [45] (Zbw rfl rfl U0 U6 rfl)<|Am 0 rfl<|U3) fun a g s b=>?_
        exact⟨n,Zbzq _,(Zbzj.wrap (x1+(1:Int))),g,rfl,(s.pi [0,1,2,3,4] rfl),b,H1⟩
   ·refine wp_exit<|Zbx ?_
    refine Zbx<|Zcg ?_
    exact⟨g,rfl,(s.pi [] rfl),b,Oi H1⟩
theorem Zrw (a0:Zb) {r:Int} (H0:Zeg a0=some r):FnOk Zbzi 94 [(Zg.pd a0)] (pInt .i64 r):=by
 unfold Zeg at H0
 refine Zb9 (N:=83) Tryz.func94 rfl rfl (Qe rfl) rfl rfl (fun a g0 s b=>?_)
 refine U4 [0] s b Za
  (U2 [5] (Zbt rfl rfl U0)<|U2 [] (Zc rfl rfl U6)<|U3) fun a g s b=>?_
 obtain⟨r1,h2,H0⟩:=Zd H0
 refine U4 [5,40] s b Za
  (Af Zfd 5 rfl<|Al U9 0 rfl<|U2 [0] (Zt Z92 (Zto _ h2) rfl rfl (.cons U0 .nil))<|U2 [] (Z3f 3 rfl rfl)<|U2 [10,0] (Zci Zk5 rfl rfl U1 U0)<|U3) fun a g s b=>?_
 refine wp_seq<|wp_block ?_
 refine U4 [5,15,80] s b Za
  (Af Zfd 5 rfl<|Al U9 0 rfl<|U2 [0] (Zbfw rfl rfl U0 U6)<|Am 0 rfl<|Gf [0,5] rfl (fun h=>Zq Zfd rfl rfl U0)<|Gf [10,0] rfl (fun h=>Z2 U9 rfl rfl (V1 h U0))<|Gf [20,0] rfl (fun h=>Zkp rfl rfl (V1 h U0) U6)<|U2 [30,0] (Zb3 rfl rfl U0 (fun hz=>(V1 (bNF hz) U1)))<|Aa 0 rfl<|U3) fun a g s b=>?_
 refine Zs (s.bool 2 rfl) H0 (fun H0=>?_) (fun H0=>?_)
 refine U4 [0] (L:=[]) (s.pi [] rfl) b Za
  (U2 [] (Zc rfl rfl U6)<|U3) fun a g s b=>?_
 refine wp_ret<|Z5 ?_
 refine Zp ?_
 obtain rfl:=Oi H0
 exact Zba rfl s b (Zf (s:=2)) (s.at 0 rfl)
 obtain⟨r4,h5,H0⟩:=Zd H0
 refine U4 [5,15,40] (L:=[(1,_),(3,_)]) (s.pi [0,1] rfl) b Za
  (Al Zbd 5 rfl<|Al Zk5 15 rfl<|U2 [10,0] (Zt Zbqm (Zbcy _ _ h5) rfl rfl (.cons U0 (.cons U1 .nil)))<|U2 [0] (Zct rfl rfl U0)<|Aa 0 rfl<|U3) fun a g s b=>?_
 refine Zs (s.bool 2 rfl) H0 (fun H0=>?_) (fun H0=>?_)
 refine U4 [0] (L:=[]) (s.pi [] rfl) b Za
  (U2 [] (Zc rfl rfl U6)<|U3) fun a g s b=>?_
 refine wp_ret<|Z5 ?_
 refine Zp ?_
 obtain rfl:=Oi H0
 exact Zba rfl s b (Zf (s:=2)) (s.at 0 rfl)
 refine U4 [5,15,40] (L:=[(1,_),(3,_)]) (s.pi [0,1] rfl) b Za
  (Af Zi1 5 rfl<|Al V0 0 rfl<|U2 [0] (Zg4 Zbzy rfl rfl U0)<|U2 [0] (Zcn rfl rfl U0 U6)<|Aa 0 rfl<|U3) fun a g s b=>?_
 refine Zs (s.bool 2 rfl) H0 (fun H0=>?_) (fun H0=>?_)
 refine U4 [0] (L:=[]) (s.pi [] rfl) b Za
  (U2 [] (Zc rfl rfl U6)<|U3) fun a g s b=>?_
 refine wp_ret<|Z5 ?_
 refine Zp ?_
 obtain rfl:=Oi H0
 exact Zba rfl s b (Zf (s:=2)) (s.at 0 rfl)
 refine U4 [5,15,260] (L:=[(1,_),(3,_)]) (s.pi [0,1] rfl) b Za
  (Af Zx0 15 rfl<|Al ty_4 0 rfl<|Am 0 rfl<|Gt [0,5] rfl (fun h=>Zq Zjt rfl rfl U0)<|Gt [10,0] rfl (fun h=>Z2 U8 rfl rfl (V1 h U0))<|Gt [20,0] rfl (fun h=>Zcj rfl rfl (V1 h U0) U6)<|Gt [30,0] rfl (fun h=>Zx rfl rfl (V1 h U0))<|Gv [0,5] rfl (fun h=>Zq Zjz rfl rfl U0)<|Gv [10,0] rfl (fun h=>Z2 U8 rfl rfl (V1 h U0))<|Gv [20,0] rfl (fun h=>Zcn rfl rfl (V1 h U0) U6)<|Gt [70,30,0] rfl (fun h=>Zb3 rfl rfl (V1 h U0) (fun hz=>(V1 (bA h (bNF hz)) U1)))<|Gt [80,0] rfl (fun h=>Zx rfl rfl (V1 h U0))<|Gv [0,5] rfl (fun h=>Zq Zdc rfl rfl U0)<|Gv [10,0] rfl (fun h=>Z2 U8 rfl rfl (V1 h U0))<|Gv [20,5] rfl (fun h=>Zq Zjt rfl rfl U0)<|Gv [30,0] rfl (fun h=>Z2 U8 rfl rfl (V1 h U0))<|Gv [40,20,0] rfl (fun h=>Zcj rfl rfl (V1 h U0) (V1 h U1))<|Gt [140,50,0] rfl (fun h=>Zb3 rfl rfl (V1 h U0) (fun hz=>(V1 (bA h (bNF hz)) U1)))<|Gt [150,0] rfl (fun h=>Zx rfl rfl (V1 h U0))<|Gv [0,5] rfl (fun h=>Zq Zdc rfl rfl U0)<|Gv [10,0] rfl (fun h=>Z2 U8 rfl rfl (V1 h U0))<|Gv [20,5] rfl (fun h=>Zq Zjz rfl rfl U0)<|Gv [30,0] rfl (fun h=>Z2 U8 rfl rfl (V1 h U0))<|Gv [40,20,0] rfl (fun h=>Zcn rfl rfl (V1 h U0) (V1 h U1))<|Gt [210,50,0] rfl (fun h=>Zb3 rfl rfl (V1 h U0) (fun hz=>(V1 (bA h (bNF hz)) U1)))<|U2 [220,0] (Zbs rfl rfl U0 (fun hz=>(V1 hz U1)))<|Aa 0 rfl<|U3) fun a g s b=>?_
 refine Zs (s.bool 2 rfl) H0 (fun H0=>?_) (fun H0=>?_)
 refine U4 [0] (L:=[]) (s.pi [] rfl) b Za
  (U2 [] (Zc rfl rfl U6)<|U3) fun a g s b=>?_
 refine wp_ret<|Z5 ?_
 refine Zp ?_
 obtain rfl:=Oi H0
 exact Zba rfl s b (Zf (s:=2)) (s.at 0 rfl)
 obtain⟨r9,h10,H0⟩:=Zd H0
 refine U4 [5,15,40] (L:=[(1,_),(3,_)]) (s.pi [0,1] rfl) b Za
  (Af Zga 5 rfl<|Al Zdk 0 rfl<|U2 [0] (Zt Zbfj (Ztq _ h10) rfl rfl (.cons U0 .nil))<|U2 [0] (Zct rfl rfl U0)<|Aa 0 rfl<|U3) fun a g s b=>?_
 refine Zs (s.bool 2 rfl) H0 (fun H0=>?_) (fun H0=>?_)
 refine U4 [0] (L:=[]) (s.pi [] rfl) b Za
  (U2 [] (Zc rfl rfl U6)<|U3) fun a g s b=>?_
 refine wp_ret<|Z5 ?_
 refine Zp ?_
 obtain rfl:=Oi H0
 exact Zba rfl s b (Zf (s:=2)) (s.at 0 rfl)
 refine U4 [5,30] (L:=[(1,_),(3,_)]) (s.pi [0,1] rfl) b Za
  (Af Zxe 15 rfl<|Al ty_4 0 rfl<|U2 [0] (Zct rfl rfl U0)<|Aa 0 rfl<|U3) fun a g s b=>?_
 refine Zs (s.bool 1 rfl) H0 (fun H0=>?_) (fun H0=>?_)
 refine U4 [0] (L:=[]) (s.pi [] rfl) b Za
  (U2 [] (Zc rfl rfl U6)<|U3) fun a g s b=>?_
 refine wp_ret<|Z5 ?_
 refine Zp ?_
 obtain rfl:=Oi H0
 exact Zba rfl s b (Zf (s:=2)) (s.at 0 rfl)
 refine U4 [5,80] (L:=[(1,_)]) (s.pi [0] rfl) b Za
  (Af Zhb 5 rfl<|Al U9 0 rfl<|U2 [0] (Zcj rfl rfl U0 U6)<|Am 0 rfl<|Gf [0,5] rfl (fun h=>Zq Zhb rfl rfl U0)<|Gf [10,0] rfl (fun h=>Z2 U9 rfl rfl (V1 h U0))<|Gf [20,0] rfl (fun h=>Zcn rfl rfl (V1 h U0) U6)<|U2 [30,0] (Zb3 rfl rfl U0 (fun hz=>(V1 (bNF hz) U1)))<|Aa 0 rfl<|U3) fun a g s b=>?_
 refine Zs (s.bool 1 rfl) H0 (fun H0=>?_) (fun H0=>?_)
 refine U4 [0] (L:=[]) (s.pi [] rfl) b Za
  (U2 [] (Zc rfl rfl U6)<|U3) fun a g s b=>?_
 refine wp_ret<|Z5 ?_
 refine Zp ?_
 obtain rfl:=Oi H0
 exact Zba rfl s b (Zf (s:=2)) (s.at 0 rfl)
 refine U4 [5,60] (L:=[(1,_)]) (s.pi [0] rfl) b Za
  (Af Zcm 5 rfl<|Al Zdx 0 rfl<|U2 [0] (Zbv Zbzp rfl rfl U0)<|Af Zhb 5 rfl<|Al U9 0 rfl<|U2 [20,0] (Zcn rfl rfl U0 U1)<|Aa 0 rfl<|U3) fun a g s b=>?_
 refine Zs (s.bool 1 rfl) H0 (fun H0=>?_) (fun H0=>?_)
 refine U4 [0] (L:=[]) (s.pi [] rfl) b Za
  (U2 [] (Zc rfl rfl U6)<|U3) fun a g s b=>?_
 refine wp_ret<|Z5 ?_
 refine Zp ?_
 obtain rfl:=Oi H0
 exact Zba rfl s b (Zf (s:=2)) (s.at 0 rfl)
 refine wp_skip<|Zbb ?_
 refine Zl ?_
 obtain⟨r15,h16,H0⟩:=Zd H0
 refine U4 [50] (L:=[(1,_)]) (s.pi [0] rfl) b Za
  (Af Zfd 5 rfl<|Al U9 0 rfl<|Af Zcm 5 rfl<|Al Zdx 0 rfl<|U2 [20,0] (Zt Zbot (Zbal _ _ h16) rfl rfl (.cons U0 (.cons U1 .nil)))<|Aa 0 rfl<|U3) fun a g s b=>?_
 refine wp_ret ?_
 obtain rfl:=Oi H0
 exact Zba rfl s b (Zf (s:=2)) (s.at 0 rfl)
theorem Zuq (a0:Zw) {r:Int} (H0:Ze7 a0=some r):FnOk Zbzi 64 [(Z6.pd a0)] (pInt .i64 r):=by
 unfold Ze7 at H0
 refine Zb9 (N:=64) Tryz.func64 rfl rfl (Qe rfl) rfl rfl (fun a g0 s b=>?_)
 refine U4 [0] s b Za
  (U2 [5] (Zbt rfl rfl U0)<|U2 [] (Zc rfl rfl U6)<|U3) fun a g s b=>?_
 obtain⟨r1,h2,H0⟩:=Zd H0
 refine U4 [5,40] s b Za
  (Af Zdh 5 rfl<|Al U9 0 rfl<|U2 [0] (Zt Z70 (Zvg _ h2) rfl rfl (.cons U0 .nil))<|U2 [] (Z2t 3 rfl rfl)<|U2 [10,0] (Zci Zhk rfl rfl U1 U0)<|U3) fun a g s b=>?_
 refine wp_seq<|wp_block ?_
 refine U4 [5,15,30] s b Za
  (Af Zbke 15 rfl<|Al V0 0 rfl<|U2 [0] (Zpk rfl rfl U0 c_s)<|Aa 0 rfl<|U3) fun a g s b=>?_
 refine Zs (s.bool 2 rfl) H0 (fun H0=>?_) (fun H0=>?_)
 refine U4 [0] (L:=[]) (s.pi [] rfl) b Za
  (U2 [] (Zc rfl rfl U6)<|U3) fun a g s b=>?_
 refine wp_ret<|Z5 ?_
 refine Zp ?_
 obtain rfl:=Oi H0
 exact Zba rfl s b (Zf (s:=2)) (s.at 0 rfl)
 refine U4 [5,15,90] (L:=[(1,_),(3,_)]) (s.pi [0,1] rfl) b Za
  (Af Zjy 5 rfl<|Al V0 0 rfl<|U2 [0] (Zpk rfl rfl U0 c_s)<|Am 0 rfl<|Gf [0,5] rfl (fun h=>Zq Zjy rfl rfl U0)<|Gf [10,0] rfl (fun h=>Z2 V0 rfl rfl (V1 h U0))<|Gf [20,0] rfl (fun h=>Zg4 Zbzy rfl rfl (V1 h U0))<|Gf [30,0] rfl (fun h=>Zcn rfl rfl (V1 h U0) U6)<|U2 [40,0] (Zb3 rfl rfl U0 (fun hz=>(V1 (bNF hz) U1)))<|Aa 0 rfl<|U3) fun a g s b=>?_
 refine Zs (s.bool 2 rfl) H0 (fun H0=>?_) (fun H0=>?_)
 refine U4 [0] (L:=[]) (s.pi [] rfl) b Za
  (U2 [] (Zc rfl rfl U6)<|U3) fun a g s b=>?_
 refine wp_ret<|Z5 ?_
 refine Zp ?_
 obtain rfl:=Oi H0
 exact Zba rfl s b (Zf (s:=2)) (s.at 0 rfl)
 obtain⟨r5,h6,H0⟩:=Zd H0
 refine U4 [5,15,40] (L:=[(1,_),(3,_)]) (s.pi [0,1] rfl) b Za
  (Al Zgb 5 rfl<|Al Zhk 15 rfl<|U2 [10,0] (Zt Zbs6 (Zbcs _ _ h6) rfl rfl (.cons U0 (.cons U1 .nil)))<|U2 [0] (Zct rfl rfl U0)<|Aa 0 rfl<|U3) fun a g s b=>?_
 refine Zs (s.bool 2 rfl) H0 (fun H0=>?_) (fun H0=>?_)
 refine U4 [0] (L:=[]) (s.pi [] rfl) b Za
  (U2 [] (Zc rfl rfl U6)<|U3) fun a g s b=>?_
 refine wp_ret<|Z5 ?_
 refine Zp ?_
 obtain rfl:=Oi H0
 exact Zba rfl s b (Zf (s:=2)) (s.at 0 rfl)
 obtain⟨r8,h9,H0⟩:=Zd H0
 refine U4 [5,60] (L:=[(1,_),(3,_)]) (s.pi [0,1] rfl) b Za
  (Af Zfe 5 rfl<|Al V0 0 rfl<|U2 [0] (Zg4 Zbzy rfl rfl U0)<|Al Zhk 15 rfl<|U2 [0] (Zt Zbl8 (Z1p _ h9) rfl rfl (.cons U0 .nil))<|U2 [20,0] (Zcn rfl rfl U0 U1)<|Aa 0 rfl<|U3) fun a g s b=>?_
 refine Zs (s.bool 1 rfl) H0 (fun H0=>?_) (fun H0=>?_)
 refine U4 [0] (L:=[]) (s.pi [] rfl) b Za
  (U2 [] (Zc rfl rfl U6)<|U3) fun a g s b=>?_
 refine wp_ret<|Z5 ?_
 refine Zp ?_
 obtain rfl:=Oi H0
 exact Zba rfl s b (Zf (s:=2)) (s.at 0 rfl)
 refine U4 [5,180] (L:=[(1,_)]) (s.pi [0] rfl) b Za
  (Af Zdh 5 rfl<|Al U9 0 rfl<|U2 [0] (Zb0 rfl rfl U0 U6)<|Am 0 rfl<|Gf [0,5] rfl (fun h=>Zq Zdh rfl rfl U0)<|Gf [10,0] rfl (fun h=>Z2 U9 rfl rfl (V1 h U0))<|Gf [20,0] rfl (fun h=>Zb0 rfl rfl (V1 h U0) U6)<|U2 [30,0] (Zb3 rfl rfl U0 (fun hz=>(V1 (bNF hz) U1)))<|Am 0 rfl<|Gt [0,5] rfl (fun h=>Zq Zd8 rfl rfl U0)<|Gt [10,0] rfl (fun h=>Z2 U8 rfl rfl (V1 h U0))<|Gt [20,0] rfl (fun h=>Zcj rfl rfl (V1 h U0) U6)<|Gt [30,0] rfl (fun h=>Zx rfl rfl (V1 h U0))<|Gv [0,5] rfl (fun h=>Zq Zd8 rfl rfl U0)<|Gv [10,0] rfl (fun h=>Z2 U8 rfl rfl (V1 h U0))<|Gv [20,0] rfl (fun h=>Zcn rfl rfl (V1 h U0) U6)<|Gt [70,30,0] rfl (fun h=>Zb3 rfl rfl (V1 h U0) (fun hz=>(V1 (bA h (bNF hz)) U1)))<|U2 [80,0] (Zbs rfl rfl U0 (fun hz=>(V1 hz U1)))<|Aa 0 rfl<|U3) fun a g s b=>?_
 refine Zs (s.bool 1 rfl) H0 (fun H0=>?_) (fun H0=>?_)
 refine U4 [0] (L:=[]) (s.pi [] rfl) b Za
  (U2 [] (Zc rfl rfl U6)<|U3) fun a g s b=>?_
 refine wp_ret<|Z5 ?_
 refine Zp ?_
 obtain rfl:=Oi H0
 exact Zba rfl s b (Zf (s:=2)) (s.at 0 rfl)
 obtain⟨r12,h13,H0⟩:=Zd H0
 refine U4 [5,40] (L:=[(1,_)]) (s.pi [0] rfl) b Za
  (Af Zit 5 rfl<|Al Zdk 0 rfl<|U2 [0] (Zt Zbfj (Ztq _ h13) rfl rfl (.cons U0 .nil))<|U2 [0] (Zct rfl rfl U0)<|Aa 0 rfl<|U3) fun a g s b=>?_
 refine Zs (s.bool 1 rfl) H0 (fun H0=>?_) (fun H0=>?_)
 refine U4 [0] (L:=[]) (s.pi [] rfl) b Za
  (U2 [] (Zc rfl rfl U6)<|U3) fun a g s b=>?_
 refine wp_ret<|Z5 ?_
 refine Zp ?_
 obtain rfl:=Oi H0
 exact Zba rfl s b (Zf (s:=2)) (s.at 0 rfl)
 refine U4 [5,30] (L:=[(1,_)]) (s.pi [0] rfl) b Za
  (Af Zdh 5 rfl<|Al U9 0 rfl<|U2 [0] (Zb0 rfl rfl U0 U6)<|Aa 0 rfl<|U3) fun a g s b=>?_
 refine Zs (s.bool 1 rfl) H0 (fun H0=>?_) (fun H0=>?_)
 obtain⟨r16,h17,H0⟩:=Zd H0
 refine U4 [30] (L:=[(1,_)]) (s.pi [0] rfl) b Za
  (Af Zob 5 rfl<|Al Zbd 0 rfl<|U2 [0] (Zt Z77 (Zrw _ h17) rfl rfl (.cons U0 .nil))<|Aa 0 rfl<|U3) fun a g s b=>?_
 refine wp_ret<|Z5 ?_
 refine Zp ?_
 obtain rfl:=Oi H0
 exact Zba rfl s b (Zf (s:=2)) (s.at 0 rfl)
 refine wp_skip<|Zbb ?_
 refine Zl<|U4 [0] (L:=[]) (s.pi [] rfl) b Za
  (U2 [] (Zc rfl rfl U6)<|U3) fun a g s b=>?_
 refine wp_ret ?_
 obtain rfl:=Oi H0
 exact Zba rfl s b (Zf (s:=2)) (s.at 0 rfl)
theorem Zx5 (a0:Zbj) {r:Int×Int} (H0:Zhw a0=some r):FnOk Zbzi 40 [(Zb1.pd a0)] (pTup [(pInt .i64 r.1),(pInt .i64 r.2)]):=by
 unfold Zhw at H0
 refine Zb9 (N:=33) Tryz.func40 rfl rfl (Qe rfl) rfl rfl (fun a g0 s b=>?_)
 refine U4 [0] s b Za
  (U2 [5] (Zbt rfl rfl U0)<|U2 [] (Zc rfl rfl U6)<|U2 [] (Zc rfl rfl U6)<|U3) fun a g s b=>?_
 refine wp_seq<|U4 [5,90] s b Za
  (Af Zjh 5 rfl<|Al Zod 0 rfl<|U2 [0] (Zbv Zbzx rfl rfl U0)<|U2 [0] (Zb0 rfl rfl U0 U6)<|Am 0 rfl<|Gf [0,5] rfl (fun h=>Zq Zjh rfl rfl U0)<|Gf [10,0] rfl (fun h=>Z2 Zod rfl rfl (V1 h U0))<|Gf [20,0] rfl (fun h=>Zbv Zbzx rfl rfl (V1 h U0))<|Gf [30,0] rfl (fun h=>Zcn rfl rfl (V1 h U0) U6)<|U2 [40,0] (Zb3 rfl rfl U0 (fun hz=>(V1 (bNF hz) U1)))<|U3) fun a g s b=>?_
 refine Zs (s.bool 1 rfl) H0 (fun H0=>?_) (fun H0=>?_)
 ·refine U4 [0,10] (L:=[]) (s.pi [] rfl) b Za
   (U2 [] (Zc rfl rfl U6)<|U2 [] (Zc rfl rfl U6)<|U3) fun a g s b=>?_
  refine wp_ret<|Zp ?_
  obtain rfl:=Oi H0
  exact Zdq rfl s b (Zf (s:=2)) (Zf (s:=3)) (Zcr (s.at 0 rfl) (s.at 1 rfl))
 ·refine wp_skip<|Zl ?_
  refine wp_seq<|U4 [10,20,30] (L:=[(1,_)]) (s.pi [0] rfl) b Za
   (Af Zjh 5 rfl<|Al Zod 0 rfl<|U2 [0] (Zbv Zbzx rfl rfl U0)<|U2 [] (Zx rfl rfl U6)<|U3) fun a g s b=>?_
  obtain⟨z9,hz1,H0⟩:=Zd H0
  refine Zbq (fun a w=>∃(g:G),Jn 33 [] a w g0 g ((.inr ())=z9)) ?_ ?_
  ·rintro a w ⟨g,rfl,s,b,rfl⟩
   refine Zl<|U4 [0,10] s b Za
    (U2 [] (Zc rfl rfl U6)<|U2 [] (Zc rfl rfl U6)<|U3) fun a g s b=>?_
   refine wp_ret ?_
   obtain rfl:=Oi H0
   exact Zdq rfl s b (Zf (s:=2)) (Zf (s:=3)) (Zcr (s.at 0 rfl) (s.at 1 rfl))
  ·refine wp_block<|wp_loop_ghost (fun n a w=>∃(x2:Int) (g:G),Jn 33 [(18,(Z6.sl.pd a0.Acts)),(19,(pInt .i64 (a0.Acts.length:Int))),(20,(pInt .i64 x2))] a w g0 g (Zed a0 n x2=some z9)) (Zbzo ((a0.Acts.length:Int)-(0:Int))+1) ⟨(0:Int),g,rfl,(s.pi [0,1,2] rfl),b,hz1⟩ (fun n a w hI=>?_)
   obtain⟨x2,g,rfl,s,b,H1⟩:=hI
   cases n with
   | zero=>exact absurd H1 (by simp[Zed])
   | succ n =>
    rw[Zed]at H1
    refine U4 [5,15,25,0] s b Za
     (U2 [25,15] (Zcj rfl rfl U0 U1)<|U3) fun a g s b=>?_
    refine wp_seq<|Zs (s.bool 3 rfl) H1 (fun H1=>?_) (fun H1=>?_)
    ·refine wp_skip<|Zl ?_
     refine wp_seq<|wp_block ?_
     obtain⟨e4,h5,H1⟩:=Zd H1
     refine U4 [40,50,5,15,25] (L:=[(18,_),(19,_),(20,_)]) (s.pi [0,1,2] rfl) b Za
      (Am 25 rfl<|U2 [5,25] (Zbn Zbzx Zub rfl rfl U0 U1 h5)<|Al Zgb 0 rfl<|U2 [] (Zwg 5 rfl rfl)<|Aa 30 rfl<|U2 [20,10] (Zci Zgb rfl rfl U1 U0)<|U3) fun a g s b=>?_
     obtain⟨r6,h7,H1⟩:=Zd H1
     refine U4 [5,20,25,35,45] s b Za
      (Al Zgb 15 rfl<|U2 [0] (Zt Zbgg (Zuq _ h7) rfl rfl (.cons U0 .nil))<|Aa 0 rfl<|U3) fun a g s b=>?_
     refine U4 [5,15,25,35,45,10] s b Za
      (Am 15 rfl<|U2 [0] (Zcv rfl rfl U0 U6)<|U3) fun a g s b=>?_
     refine Zs (s.bool 5 rfl) H1 (fun H1=>?_) (fun H1=>?_)
     ·refine U4 [30,40] (L:=[(4,_),(6,_)]) (s.pi [0,1] rfl) b Za
       (Am 15 rfl<|Am 5 rfl<|U2 [0] (Zbw rfl rfl U0 U6 rfl)<|Aa 20 rfl<|Aa 10 rfl<|U3) fun a g s b=>?_
      refine wp_ret<|Z5 ?_
      refine Zp<|Zp ?_
      refine Z5<|Zp ?_
      refine Zp ?_
      obtain rfl:=Oi H1
      obtain rfl:=Oi H0
      exact Zdq rfl s b (Zf (s:=2)) (Zf (s:=3)) (Zcr (s.at 0 rfl) (s.at 1 rfl))
     ·refine wp_skip<|Zbb ?_
      refine Zl<|U5 [5,15,10] (L:=[(18,_),(19,_),(20,_)]) (s.pi [2,3,4] rfl) b Za
       (U2 [25] (Zbw rfl rfl U0 U6 rfl)<|Am 0 rfl<|U3) fun a g s b=>?_
      exact⟨n,Zbzq _,(Zbzj.wrap (x2+(1:Int))),g,rfl,(s.pi [0,1,2] rfl),b,H1⟩
    ·refine wp_exit<|Zbx ?_
     refine Zbx<|Zcg ?_
     exact⟨g,rfl,(s.pi [] rfl),b,Oi H1⟩
theorem Zgz (a0:Zu) (a1:Int) {r:Zu} (H0:Zec a0 a1=some r):FnMR Zbzi 65 obWr a0 r [(pInt .u64 a1)] (pTup []):=by
 unfold Zec at H0
 refine Zqi (N:=31) Tryz.func65 rfl rfl (Qe rfl) rfl rfl (fun a g0 b0 hst b=>?_)
 replace hst:St 31 [(0,(pEq (ptrB b0 0))),(1,(pInt .u64 a1)),(1002,(pSJ Zbp Zbg (hpL (pRow (Kd.int .u8) 5 1000000 (Zcq a0))) 0 b0 a0))] _ _:=Zhl hst
 let g:=g0
 obtain⟨z7,hz1,H0⟩:=Zd H0
 refine wp_seq<|Zbq (fun a w=>∃(y5:Int) (y6:Zu) (g:G),Jn 31 [(0,(pEq (ptrB b0 0))),(1,(pInt .u64 y5)),(1002,(pSJ Zbp Zbg (hpL (pRow (Kd.int .u8) 5 1000000 (Zcq y6))) 0 b0 y6))] a w g0 g ((y5,y6)=z7)) ?_ ?_
 ·rintro a w ⟨y5,y6,g,rfl,hst,b,rfl⟩
  refine Zl ?_
  obtain⟨h8,H0⟩:=Zdr H0
  refine U5 [5,110] hst b Za
   (Am 5 rfl<|Am 5 rfl<|U2 [0] (Zz rfl rfl U0)<|U2 [0] (Zbh Zjx rfl rfl U0)<|U2 (outs:=[(24,(pRow (Kd.int .u8) 5 1000000 y6.b))]) (S:=[]) [0,25] (Zm7 Zn3 (fun g s cs h=>Zxr h) rfl rfl U1 U0)<|Am 15 rfl<|U2 [0] (Zek Zbzr Zbz3 rfl rfl U0 rfl)<|U2 [0] (Zgm Zlb (xs:=[.tmp 26]) (.cons U0 .nil) (by decide) rfl rfl)<|U2 (outs:=[(1002,(pSJ Zbp Zbg hpT 0 b0 y6)),(28,(pRow (Kd.int .u8) 5 1000000 (y6.b++([(Zbzv.wrap y5)]:List Int))))]) (S:=[1000001]) [30,0,25] (OB.frameU (Zdg Zlb rfl rfl U0 U1 h8) (Opd.imp U7 (fun _ _ h=>sj_T h)) (fun k hk hS=>Zwd (Zbzn.1 hk) (Zbzn.1 hS) (by decide)) (fun h=>by cases h))<|U2 [80] (Zz rfl rfl U0)<|U2 [0] (Zbh Zjx rfl rfl U0)<|U2 (outs:=[(1002,(pSJ Zbp Zbg (hpL (pRow (Kd.int .u8) 5 1000000 (Zcq ({b:=(y6.b++([(Zbzv.wrap y5)]:List Int))}:Zu)))) 0 b0 ({b:=(y6.b++([(Zbzv.wrap y5)]:List Int))}:Zu)))]) (S:=[1]) [0,21,20] (Zn1 (x':=({b:=(y6.b++([(Zbzv.wrap y5)]:List Int))}:Zu)) Zn3 rfl rfl (fun _ _ h=>Zlj h) (fun k hk=>by cases hk) (fun k hk=>by rw[Zbzn.1 hk];decide) U7 U0 U1 (fun g cs s0 s1 ys h hy=>Zjq h hy))<|U3) fun a g hst b=>?_
  obtain rfl:=Oi H0
  exact Zrf rfl hst b (hst.at 1 rfl)
 ·refine wp_block<|wp_loop_ghost (fun n a w=>∃(x1:Int) (x2:Zu) (g:G),Jn 31 [(0,(pEq (ptrB b0 0))),(1,(pInt .u64 x1)),(1002,(pSJ Zbp Zbg (hpL (pRow (Kd.int .u8) 5 1000000 (Zcq x2))) 0 b0 x2))] a w g0 g (Zgw n x1 x2=some z7)) 11 ⟨a1,a0,g,rfl,(hst.pi [0,1,2] rfl),b,hz1⟩ (fun n a w hI=>?_)
  obtain⟨x1,x2,g,rfl,hst,b,H1⟩:=hI
  cases n with
  | zero=>exact absurd H1 (by simp[Zgw])
  | succ n =>
   rw[Zgw]at H1
   refine wp_seq<|U4 [5,15,10,25] hst b Za
    (Am 15 rfl<|U2 [0] (Zkp rfl rfl U0 U6)<|U3) fun a g hst b=>?_
   refine Zs (hst.bool 2 rfl) H1 (fun H1=>?_) (fun H1=>?_)
   ·refine wp_skip<|Zl ?_
    refine wp_block ?_
    obtain⟨h4,H1⟩:=Zdr H1
    refine U4 [5,15,120] (L:=[(0,_),(1,_),(1002,_)]) (hst.pi [0,1,3] rfl) b Za
     (Am 5 rfl<|Am 5 rfl<|U2 [0] (Zz rfl rfl U0)<|U2 [0] (Zbh Zjx rfl rfl U0)<|U2 (outs:=[(10,(pRow (Kd.int .u8) 5 1000000 x2.b))]) (S:=[]) [0,25] (Zm7 Zn3 (fun g s cs h=>Zxr h) rfl rfl U1 U0)<|Am 15 rfl<|U2 [0] (Zek Zbzr Zbz3 rfl rfl U0 rfl)<|U2 [0] (Z7x rfl rfl U0 U6)<|U2 [0] (Zgm Zlb (xs:=[.tmp 13]) (.cons U0 .nil) (by decide) rfl rfl)<|U2 (outs:=[(1002,(pSJ Zbp Zbg hpT 0 b0 x2)),(15,(pRow (Kd.int .u8) 5 1000000 (x2.b++([(bOr .u8 (Zbzv.wrap x1) (128:Int))]:List Int))))]) (S:=[1000001]) [40,0,25] (OB.frameU (Zdg Zlb rfl rfl U0 U1 h4) (Opd.imp U7 (fun _ _ h=>sj_T h)) (fun k hk hS=>Zwd (Zbzn.1 hk) (Zbzn.1 hS) (by decide)) (fun h=>by cases h))<|U2 [90] (Zz rfl rfl U0)<|U2 [0] (Zbh Zjx rfl rfl U0)<|U2 (outs:=[(1002,(pSJ Zbp Zbg (hpL (pRow (Kd.int .u8) 5 1000000 (Zcq ({b:=(x2.b++([(bOr .u8 (Zbzv.wrap x1) (128:Int))]:List Int))}:Zu)))) 0 b0 ({b:=(x2.b++([(bOr .u8 (Zbzv.wrap x1) (128:Int))]:List Int))}:Zu)))]) (S:=[1]) [0,21,20] (Zn1 (x':=({b:=(x2.b++([(bOr .u8 (Zbzv.wrap x1) (128:Int))]:List Int))}:Zu)) Zn3 rfl rfl (fun _ _ h=>Zlj h) (fun k hk=>by cases hk) (fun k hk=>by rw[Zbzn.1 hk];decide) U7 U0 U1 (fun g cs s0 s1 ys h hy=>Zjq h hy))<|U3) fun a g hst b=>?_
    refine U5 [5,20,25] hst b Za
     (Am 15 rfl<|U2 [0] (Zyi rfl rfl U0 U6 (by decide) rfl)<|Aa 0 rfl<|U3) fun a g hst b=>?_
    exact Zbb<|⟨n,Zbzq _,(Zb0a x1 (2^7)),({b:=(x2.b++([(bOr .u8 (Zbzv.wrap x1) (128:Int))]:List Int))}:Zu),g,rfl,(hst.pi [0,1,2] rfl),b,H1⟩
   ·refine wp_exit<|Zbx ?_
    refine Zbx<|Zcg ?_
    exact⟨x1,x2,g,rfl,(hst.pi [0,1,3] rfl),b,Oi H1⟩
theorem Zye (a0:Zu) (a1:Bool) {r:Zu} (H0:Zj0 a0 a1=some r):FnMR Zbzi 118 obWr a0 r [(Zbo a1)] (pTup []):=by
 unfold Zj0 at H0
 refine Zqi (N:=23) Tryz.func118 rfl rfl (Qe rfl) rfl rfl (fun a g0 b0 hst b=>?_)
 replace hst:St 23 [(0,(pEq (ptrB b0 0))),(1,(Zbo a1)),(1002,(pSJ Zbp Zbg (hpL (pRow (Kd.int .u8) 5 1000000 (Zcq a0))) 0 b0 a0))] _ _:=Zhl hst
 refine wp_seq<|U4 [5,0,25] hst b Za
  (Am 15 rfl<|U3) fun a g hst b=>?_
 refine Zs (hst.bool 1 rfl) H0 (fun H0=>?_) (fun H0=>?_)
 obtain⟨h2,H0⟩:=Zdr H0
 refine U4 [5,90] (L:=[(0,_),(1002,_)]) (hst.pi [0,2] rfl) b Za
  (Am 5 rfl<|Am 5 rfl<|U2 [0] (Zz rfl rfl U0)<|U2 [0] (Zbh Zjx rfl rfl U0)<|U2 (outs:=[(9,(pRow (Kd.int .u8) 5 1000000 a0.b))]) (S:=[]) [0,15] (Zm7 Zn3 (fun g s cs h=>Zxr h) rfl rfl U1 U0)<|U2 [] (Zgm Zlb (xs:=[.const (.int .u8 1)]) (.cons U6 .nil) (by decide) rfl rfl)<|U2 (outs:=[(1002,(pSJ Zbp Zbg hpT 0 b0 a0)),(11,(pRow (Kd.int .u8) 5 1000000 (a0.b++([(1:Int)]:List Int))))]) (S:=[1000001]) [10,0,15] (OB.frameU (Zdg Zlb rfl rfl U0 U1 h2) (Opd.imp U7 (fun _ _ h=>sj_T h)) (fun k hk hS=>Zwd (Zbzn.1 hk) (Zbzn.1 hS) (by decide)) (fun h=>by cases h))<|U2 [60] (Zz rfl rfl U0)<|U2 [0] (Zbh Zjx rfl rfl U0)<|U2 (outs:=[(1002,(pSJ Zbp Zbg (hpL (pRow (Kd.int .u8) 5 1000000 (Zcq ({b:=(a0.b++([(1:Int)]:List Int))}:Zu)))) 0 b0 ({b:=(a0.b++([(1:Int)]:List Int))}:Zu)))]) (S:=[1]) [0,21,20] (Zn1 (x':=({b:=(a0.b++([(1:Int)]:List Int))}:Zu)) Zn3 rfl rfl (fun _ _ h=>Zlj h) (fun k hk=>by cases hk) (fun k hk=>by rw[Zbzn.1 hk];decide) U7 U0 U1 (fun g cs s0 s1 ys h hy=>Zjq h hy))<|U3) fun a g hst b=>?_
 refine wp_ret<|Zp ?_
 obtain rfl:=Oi H0
 exact Zbiz rfl hst b (hst.at 1 rfl)
 refine wp_skip<|Zl ?_
 obtain⟨h3,H0⟩:=Zdr H0
 refine U5 [5,90] (L:=[(0,_),(1002,_)]) (hst.pi [0,2] rfl) b Za
  (Am 5 rfl<|Am 5 rfl<|U2 [0] (Zz rfl rfl U0)<|U2 [0] (Zbh Zjx rfl rfl U0)<|U2 (outs:=[(18,(pRow (Kd.int .u8) 5 1000000 a0.b))]) (S:=[]) [0,15] (Zm7 Zn3 (fun g s cs h=>Zxr h) rfl rfl U1 U0)<|U2 [] (Zgm Zlb (xs:=[.const (.int .u8 0)]) (.cons U6 .nil) (by decide) rfl rfl)<|U2 (outs:=[(1002,(pSJ Zbp Zbg hpT 0 b0 a0)),(20,(pRow (Kd.int .u8) 5 1000000 (a0.b++([(0:Int)]:List Int))))]) (S:=[1000001]) [10,0,15] (OB.frameU (Zdg Zlb rfl rfl U0 U1 h3) (Opd.imp U7 (fun _ _ h=>sj_T h)) (fun k hk hS=>Zwd (Zbzn.1 hk) (Zbzn.1 hS) (by decide)) (fun h=>by cases h))<|U2 [60] (Zz rfl rfl U0)<|U2 [0] (Zbh Zjx rfl rfl U0)<|U2 (outs:=[(1002,(pSJ Zbp Zbg (hpL (pRow (Kd.int .u8) 5 1000000 (Zcq ({b:=(a0.b++([(0:Int)]:List Int))}:Zu)))) 0 b0 ({b:=(a0.b++([(0:Int)]:List Int))}:Zu)))]) (S:=[1]) [0,21,20] (Zn1 (x':=({b:=(a0.b++([(0:Int)]:List Int))}:Zu)) Zn3 rfl rfl (fun _ _ h=>Zlj h) (fun k hk=>by cases hk) (fun k hk=>by rw[Zbzn.1 hk];decide) U7 U0 U1 (fun g cs s0 s1 ys h hy=>Zjq h hy))<|U3) fun a g hst b=>?_
 obtain rfl:=Oi H0
 exact Zrf rfl hst b (hst.at 1 rfl)
theorem Zos (a0:Zu) (a1:ByteArray) {r:Zu} (H0:Zg0 a0 a1=some r):FnMR Zbzi 119 obWr a0 r [(pStr a1)] (pTup []):=by
 unfold Zg0 at H0
 refine Zqi (N:=18) Tryz.func119 rfl rfl (Qe rfl) rfl rfl (fun a g0 b0 hst b=>?_)
 replace hst:St 18 [(0,(pEq (ptrB b0 0))),(1,(pStr a1)),(1002,(pSJ Zbp Zbg (hpL (pRow (Kd.int .u8) 5 1000000 (Zcq a0))) 0 b0 a0))] _ _:=Zhl hst
 obtain⟨r1,h2,H0⟩:=Zd H0
 refine U4 [5,15,41] hst b Za
  (Am 5 rfl<|Am 15 rfl<|U2 [0] (Zg4 Zbzy rfl rfl U0)<|U2 [0] (Zek Zbzt Zbzr rfl rfl U0 rfl)<|U2 [30,25,0] (Zdi (m:=1002) (lst:=Zcq) Zt2 (Zgz _ _ h2) rfl rfl rfl (by decide) U1 U0 (.cons U7 .nil))<|U3) fun a g hst b=>?_
 obtain⟨h3,H0⟩:=Zdr H0
 refine U5 [5,90] hst b Za
  (Am 5 rfl<|Am 5 rfl<|U2 [0] (Zz rfl rfl U0)<|U2 [0] (Zbh Zjx rfl rfl U0)<|U2 (outs:=[(13,(pRow (Kd.int .u8) 5 1000000 r1.b))]) (S:=[]) [0,25] (Zm7 Zn3 (fun g s cs h=>Zxr h) rfl rfl U1 U0)<|Am 15 rfl<|U2 (outs:=[(1002,(pSJ Zbp Zbg hpT 0 b0 r1)),(15,(pRow (Kd.int .u8) 5 1000000 (r1.b++bts a1)))]) (S:=[1000001]) [10,0,25] (OB.frameU (Zbbk Zlb Zbzy rfl rfl U0 U1 h3) (Opd.imp U7 (fun _ _ h=>sj_T h)) (fun k hk hS=>Zwd (Zbzn.1 hk) (Zbzn.1 hS) (by decide)) (fun h=>by cases h))<|U2 [60] (Zz rfl rfl U0)<|U2 [0] (Zbh Zjx rfl rfl U0)<|U2 (outs:=[(1002,(pSJ Zbp Zbg (hpL (pRow (Kd.int .u8) 5 1000000 (Zcq ({b:=(r1.b++bts a1)}:Zu)))) 0 b0 ({b:=(r1.b++bts a1)}:Zu)))]) (S:=[1]) [0,21,20] (Zn1 (x':=({b:=(r1.b++bts a1)}:Zu)) Zn3 rfl rfl (fun _ _ h=>Zlj h) (fun k hk=>by cases hk) (fun k hk=>by rw[Zbzn.1 hk];decide) U7 U0 U1 (fun g cs s0 s1 ys h hy=>Zjq h hy))<|U3) fun a g hst b=>?_
 obtain rfl:=Oi H0
 exact Zrf rfl hst b (hst.at 1 rfl)
theorem Zof (a0:Zu) (a1:Int) {r:Zu} (H0:Zg2 a0 a1=some r):FnMR Zbzi 120 obWr a0 r [(pInt .i64 a1)] (pTup []):=by
 unfold Zg2 at H0
 refine Zqi (N:=13) Tryz.func120 rfl rfl (Qe rfl) rfl rfl (fun a g0 b0 s b=>?_)
 replace s:St 13 [(0,(pEq (ptrB b0 0))),(1,(pInt .i64 a1)),(1002,(pSJ Zbp Zbg (hpL (pRow (Kd.int .u8) 5 1000000 (Zcq a0))) 0 b0 a0))] _ _:=Zhl s
 obtain⟨r1,h2,H0⟩:=Zd H0
 refine U5 [5,81] s b Za
  (Am 5 rfl<|Am 15 rfl<|U2 [0] (Zek Zb0j Zbzr rfl rfl U0 rfl)<|U2 [0] (Z8t rfl rfl U0 U6 (by decide) rfl)<|Am 15 rfl<|U2 [0] (Zyi rfl rfl U0 U6 (by decide) rfl)<|U2 [0] (Zek Zb0j Zbzr rfl rfl U0 rfl)<|U2 [30,0] (Zbi1 rfl rfl U0 U1)<|U2 [70,25,0] (Zdi (m:=1002) (lst:=Zcq) Zt2 (Zgz _ _ h2) rfl rfl rfl (by decide) U1 U0 (.cons U7 .nil))<|U3) fun a g s b=>?_
 obtain rfl:=Oi H0
 exact Zrf rfl s b (s.at 1 rfl)
theorem Zrb (a0:Zu) (a1:Nat) {r:Zu} (H0:Zg1 a0 a1=some r):FnMR Zbzi 121 obWr a0 r [(pFlt a1)] (pTup []):=by
 unfold Zg1 at H0
 refine Zqi (N:=25) Tryz.func121 rfl rfl (Qe rfl) rfl rfl (fun a g0 b0 hst b=>?_)
 replace hst:St 25 [(0,(pEq (ptrB b0 0))),(1,(pFlt a1)),(1002,(pSJ Zbp Zbg (hpL (pRow (Kd.int .u8) 5 1000000 (Zcq a0))) 0 b0 a0))] _ _:=Zhl hst
 obtain⟨r1,h2,H0⟩:=Zd H0
 refine U4 [5,20,25] hst b Za
  (Am 15 rfl<|U2 [0] (Zt Zww (Zql _ h2) rfl rfl (.cons U0 .nil))<|Aa 0 rfl<|U3) fun a g hst b=>?_
 refine U4 [5,15,0,25] hst b Za
  (U2 [] (Zc rfl rfl U6)<|U3) fun a g hst b=>?_
 obtain⟨z9,hz1,H0⟩:=Zd H0
 refine Zbq (fun a w=>∃(y8:Zu) (g:G),Jn 25 [(0,(pEq (ptrB b0 0))),(1002,(pSJ Zbp Zbg (hpL (pRow (Kd.int .u8) 5 1000000 (Zcq y8))) 0 b0 y8))] a w g0 g (y8=z9)) ?_ ?_
 ·rintro a w ⟨y8,g,rfl,hst,b,rfl⟩
  obtain rfl:=Oi H0
  exact Zrf rfl hst b (hst.at 1 rfl)
 ·refine wp_block<|wp_loop_ghost (fun n a w=>∃(x3:Int) (x4:Zu) (g:G),Jn 25 [(0,(pEq (ptrB b0 0))),(4,(pInt .u64 r1)),(5,(pInt .i64 x3)),(1002,(pSJ Zbp Zbg (hpL (pRow (Kd.int .u8) 5 1000000 (Zcq x4))) 0 b0 x4))] a w g0 g (Zhn r1 n x3 x4=some z9)) (Zbzo ((56:Int)+1-(0:Int))+1) ⟨(56:Int),a0,g,rfl,(hst.pi [0,1,2,3] rfl),b,hz1⟩ (fun n a w hI=>?_)
  obtain⟨x3,x4,g,rfl,hst,b,H1⟩:=hI
  cases n with
  | zero=>exact absurd H1 (by simp[Zhn])
  | succ n =>
   rw[Zhn]at H1
   refine wp_seq<|U4 [5,15,25,10,35] hst b Za
    (Am 25 rfl<|U2 [0] (Zkp rfl rfl U0 U6)<|U3) fun a g hst b=>?_
   refine Zs (hst.bool 3 rfl) H1 (fun H1=>?_) (fun H1=>?_)
   ·refine wp_skip<|Zl ?_
    refine wp_seq<|wp_block ?_
    obtain⟨h6,H1⟩:=Zdr H1;obtain⟨h7,H1⟩:=Zdr H1
    refine U5 [5,15,25,130] (L:=[(0,_),(4,_),(5,_),(1002,_)]) (hst.pi [0,1,2,4] rfl) b Za
     (Am 5 rfl<|Am 5 rfl<|U2 [0] (Zz rfl rfl U0)<|U2 [0] (Zbh Zjx rfl rfl U0)<|U2 (outs:=[(16,(pRow (Kd.int .u8) 5 1000000 x4.b))]) (S:=[]) [0,35] (Zm7 Zn3 (fun g s cs h=>Zxr h) rfl rfl U1 U0)<|Am 15 rfl<|Am 25 rfl<|U2 [10,0] (Zyi rfl rfl U0 U1 h6 rfl)<|U2 [0] (Zek Zbzr Zbz3 rfl rfl U0 rfl)<|U2 [0] (Zgm Zlb (xs:=[.tmp 20]) (.cons U0 .nil) (by decide) rfl rfl)<|U2 (outs:=[(1002,(pSJ Zbp Zbg hpT 0 b0 x4)),(22,(pRow (Kd.int .u8) 5 1000000 (x4.b++([(Zbzv.wrap (Zb0a r1 (2^(min (Zbzo x3) (Zbz7).bits))))]:List Int))))]) (S:=[1000001]) [50,0,35] (OB.frameU (Zdg Zlb rfl rfl U0 U1 h7) (Opd.imp U7 (fun _ _ h=>sj_T h)) (fun k hk hS=>Zwd (Zbzn.1 hk) (Zbzn.1 hS) (by decide)) (fun h=>by cases h))<|U2 [100] (Zz rfl rfl U0)<|U2 [0] (Zbh Zjx rfl rfl U0)<|U2 (outs:=[(1002,(pSJ Zbp Zbg (hpL (pRow (Kd.int .u8) 5 1000000 (Zcq ({b:=(x4.b++([(Zbzv.wrap (Zb0a r1 (2^(min (Zbzo x3) (Zbz7).bits))))]:List Int))}:Zu)))) 0 b0 ({b:=(x4.b++([(Zbzv.wrap (Zb0a r1 (2^(min (Zbzo x3) (Zbz7).bits))))]:List Int))}:Zu)))]) (S:=[1]) [0,21,20] (Zn1 (x':=({b:=(x4.b++([(Zbzv.wrap (Zb0a r1 (2^(min (Zbzo x3) (Zbz7).bits))))]:List Int))}:Zu)) Zn3 rfl rfl (fun _ _ h=>Zlj h) (fun k hk=>by cases hk) (fun k hk=>by rw[Zbzn.1 hk];decide) U7 U0 U1 (fun g cs s0 s1 ys h hy=>Zjq h hy))<|U3) fun a g hst b=>?_
    refine Zbb<|Zl ?_
    refine U5 [5,15,20,35] hst b Za
     (Am 25 rfl<|U2 [0] (Zei rfl rfl U0 U6 rfl)<|Aa 0 rfl<|U3) fun a g hst b=>?_
    exact⟨n,Zbzq _,(Zbzj.wrap (x3-(8:Int))),({b:=(x4.b++([(Zbzv.wrap (Zb0a r1 (2^(min (Zbzo x3) (Zbz7).bits))))]:List Int))}:Zu),g,rfl,(hst.pi [0,1,2,3] rfl),b,H1⟩
   ·refine wp_exit<|Zbx ?_
    refine Zbx<|Zcg ?_
    exact⟨x4,g,rfl,(hst.pi [0,4] rfl),b,Oi H1⟩
theorem Zbem (a0:Zu) (a1:Zb) {r:Zu} (H0:Zsg a0 a1=some r):FnMR Zbzi 122 obWr a0 r [(Zg.pd a1)] (pTup []):=by
 unfold Zsg at H0
 refine Zqi (N:=76) Tryz.func122 rfl rfl (Qe rfl) rfl rfl (fun a g0 b0 s b=>?_)
 replace s:St 76 [(0,(pEq (ptrB b0 0))),(1,(Zg.pd a1)),(1002,(pSJ Zbp Zbg (hpL (pRow (Kd.int .u8) 5 1000000 (Zcq a0))) 0 b0 a0))] _ _:=Zhl s
 refine U4 [5,0,25] s b Za
  (U2 [15] (Zbt rfl rfl U0)<|U3) fun a g s b=>?_
 obtain⟨r1,h2,H0⟩:=Zd H0
 refine U4 [5,15,40,25] s b Za
  (Af Zfd 15 rfl<|Al U9 0 rfl<|U2 [0] (Zt Z92 (Zto _ h2) rfl rfl (.cons U0 .nil))<|U2 [] (Z3f 4 rfl rfl)<|U2 [10,0] (Zci Zk5 rfl rfl U1 U0)<|U3) fun a g s b=>?_
 obtain⟨r3,h4,H0⟩:=Zd H0
 refine U4 [5,15,25,41] s b Za
  (Am 5 rfl<|Af Zfd 15 rfl<|Al U9 0 rfl<|U2 [0] (Zek Zbzt Zbzr rfl rfl U0 rfl)<|U2 [30,35,0] (Zdi (m:=1002) (lst:=Zcq) Zt2 (Zgz _ _ h4) rfl rfl rfl (by decide) U1 U0 (.cons U7 .nil))<|U3) fun a g s b=>?_
 refine wp_seq<|U4 [5,15,25,10,35] s b Za
  (Af Z2i 25 rfl<|Al ty_4 0 rfl<|U3) fun a g s b=>?_
 refine Zbq (fun a w=>∃(j8:Zu) (g:G),Jn 76 [(0,(pEq (ptrB b0 0))),(3,(Zg.ptr a1)),(4,(Zc4.ptr r1)),(1002,(pSJ Zbp Zbg (hpL (pRow (Kd.int .u8) 5 1000000 (Zcq j8))) 0 b0 j8))] a w g0 g (Zoj a1 r1 j8=some r)) ?_ ?_
 ·rintro a w ⟨j8,g,rfl,s,b,H0⟩
  unfold Zoj at H0
  refine Zl<|wp_seq ?_
  refine U4 [5,15,25,10,35] s b Za
   (Af Zx0 25 rfl<|Al ty_4 0 rfl<|U3) fun a g s b=>?_
  refine Zbq (fun a w=>∃(j14:Zu) (g:G),Jn 76 [(0,(pEq (ptrB b0 0))),(3,(Zg.ptr a1)),(4,(Zc4.ptr r1)),(1002,(pSJ Zbp Zbg (hpL (pRow (Kd.int .u8) 5 1000000 (Zcq j14))) 0 b0 j14))] a w g0 g (Zp6 a1 r1 j14=some r)) ?_ ?_
  ·rintro a w ⟨j14,g,rfl,s,b,H0⟩
   unfold Zp6 at H0
   refine Zl<|wp_seq ?_
   refine U4 [5,15,25,10,35] s b Za
    (Af Z1x 25 rfl<|Al ty_4 0 rfl<|U3) fun a g s b=>?_
   refine Zbq (fun a w=>∃(j18:Zu) (g:G),Jn 76 [(0,(pEq (ptrB b0 0))),(3,(Zg.ptr a1)),(4,(Zc4.ptr r1)),(1002,(pSJ Zbp Zbg (hpL (pRow (Kd.int .u8) 5 1000000 (Zcq j18))) 0 b0 j18))] a w g0 g (Zqj a1 r1 j18=some r)) ?_ ?_
   ·rintro a w ⟨j18,g,rfl,s,b,H0⟩
    unfold Zqj at H0
    refine Zl<|wp_seq ?_
    refine U4 [5,15,25,10,35] s b Za
     (Af Z16 25 rfl<|Al ty_4 0 rfl<|U3) fun a g s b=>?_
    refine Zbq (fun a w=>∃(j22:Zu) (g:G),Jn 76 [(0,(pEq (ptrB b0 0))),(3,(Zg.ptr a1)),(4,(Zc4.ptr r1)),(1002,(pSJ Zbp Zbg (hpL (pRow (Kd.int .u8) 5 1000000 (Zcq j22))) 0 b0 j22))] a w g0 g (Zqe a1 r1 j22=some r)) ?_ ?_
    ·rintro a w ⟨j22,g,rfl,s,b,H0⟩
     unfold Zqe at H0
     refine Zl<|wp_seq ?_
     refine U4 [5,15,20,35] s b Za
      (Af Zxe 25 rfl<|Al ty_4 0 rfl<|U2 [0] (Zct rfl rfl U0)<|U3) fun a g s b=>?_
     refine Zs (s.bool 2 rfl) H0 (fun H0=>?_) (fun H0=>?_)
     ·refine wp_ret<|Zp ?_
      obtain rfl:=Oi H0
      exact Zbiz rfl s b (s.at 3 rfl)
     ·refine wp_skip<|Zl ?_
      obtain⟨r24,h25,H0⟩:=Zd H0
      refine U4 [5,15,41] (L:=[(0,_),(3,_),(1002,_)]) (s.pi [0,1,3] rfl) b Za
       (Am 5 rfl<|Af Zhb 15 rfl<|Al U9 0 rfl<|U2 [0] (Zek Zbzt Zbzr rfl rfl U0 rfl)<|U2 [30,25,0] (Zdi (m:=1002) (lst:=Zcq) Zt2 (Zgz _ _ h25) rfl rfl rfl (by decide) U1 U0 (.cons U7 .nil))<|U3) fun a g s b=>?_
      obtain⟨r26,h27,H0⟩:=Zd H0
      refine U4 [5,15,51] s b Za
       (Am 5 rfl<|Af Zcm 15 rfl<|Al Zdx 0 rfl<|U2 [0] (Zbv Zbzp rfl rfl U0)<|U2 [0] (Zek Zbzt Zbzr rfl rfl U0 rfl)<|U2 [40,25,0] (Zdi (m:=1002) (lst:=Zcq) Zt2 (Zgz _ _ h27) rfl rfl rfl (by decide) U1 U0 (.cons U7 .nil))<|U3) fun a g s b=>?_
      refine U4 [5,15,10,20,30,25] s b Za
       (Af Zcm 15 rfl<|Al Zdx 0 rfl<|U2 [0] (Zbv Zbzp rfl rfl U0)<|U2 [] (Zx rfl rfl U6)<|U3) fun a g s b=>?_
      obtain⟨z40,hz1,H0⟩:=Zd H0
      refine Zbq (fun a w=>∃(y39:Zu) (g:G),Jn 76 [(0,(pEq (ptrB b0 0))),(1002,(pSJ Zbp Zbg (hpL (pRow (Kd.int .u8) 5 1000000 (Zcq y39))) 0 b0 y39))] a w g0 g (y39=z40)) ?_ ?_
      ·rintro a w ⟨y39,g,rfl,s,b,rfl⟩
       obtain rfl:=Oi H0
       exact Zrf rfl s b (s.at 1 rfl)
      ·refine wp_block<|wp_loop_ghost (fun n a w=>∃(x28:Int) (x29:Zu) (g:G),Jn 76 [(0,(pEq (ptrB b0 0))),(3,(Zg.ptr a1)),(58,(Zy.sl.pd a1.List)),(59,(pInt .i64 (a1.List.length:Int))),(60,(pInt .i64 x28)),(1002,(pSJ Zbp Zbg (hpL (pRow (Kd.int .u8) 5 1000000 (Zcq x29))) 0 b0 x29))] a w g0 g (Zi6 a1 n x28 x29=some z40)) (Zbzo ((a1.List.length:Int)-(0:Int))+1) ⟨(0:Int),r26,g,rfl,(s.pi [0,1,2,3,4,5] rfl),b,hz1⟩ (fun n a w hI=>?_)
       obtain⟨x28,x29,g,rfl,s,b,H1⟩:=hI
       cases n with
       | zero=>exact absurd H1 (by simp[Zi6])
       | succ n =>
        rw[Zi6]at H1
        refine U4 [5,15,25,35,45,0,55] s b Za
         (U2 [45,35] (Zcj rfl rfl U0 U1)<|U3) fun a g s b=>?_
        refine wp_seq<|Zs (s.bool 5 rfl) H1 (fun H1=>?_) (fun H1=>?_)
        ·refine wp_skip<|Zl ?_
         refine wp_seq<|wp_block ?_
         obtain⟨e31,h32,H1⟩:=Zd H1
         refine U4 [5,15,30,25,35,45,55] (L:=[(0,_),(3,_),(58,_),(59,_),(60,_),(1002,_)]) (s.pi [0,1,2,3,4,6] rfl) b Za
          (U2 [25,45] (Zbn Zbzp Zf1 rfl rfl U0 U1 h32)<|Al Zev 0 rfl<|U2 [] (Zs1 6 rfl rfl)<|U2 [10,0] (Zci Zev rfl rfl U1 U0)<|U3) fun a g s b=>?_
         refine wp_seq<|U4 [5,15,25,35,45,55,20,65] s b Za
          (Af Zfd 15 rfl<|Al U9 0 rfl<|U2 [0] (Zb0 rfl rfl U0 U6)<|U3) fun a g s b=>?_
         refine Zbq (fun a w=>∃(j36:Zu) (g:G),Jn 76 [(0,(pEq (ptrB b0 0))),(3,(Zg.ptr a1)),(6,(Zy.ptr e31)),(58,(Zy.sl.pd a1.List)),(59,(pInt .i64 (a1.List.length:Int))),(60,(pInt .i64 x28)),(1002,(pSJ Zbp Zbg (hpL (pRow (Kd.int .u8) 5 1000000 (Zcq j36))) 0 b0 j36))] a w g0 g (Zp3 x28 e31 (Zi6 a1 n) j36=some z40)) ?_ ?_
         ·rintro a w ⟨j36,g,rfl,s,b,H1⟩
          unfold Zp3 at H1
          refine Zl ?_
          obtain⟨r37,h38,H1⟩:=Zd H1
          refine U5 [5,15,35,45,55,31] s b Za
           (Am 5 rfl<|Af Zeq 25 rfl<|Al V0 0 rfl<|U2 [20,65,0] (Zdi (m:=1002) (lst:=Zcq) Z2z (Zos _ _ h38) rfl rfl rfl (by decide) U1 U0 (.cons U7 .nil))<|U3) fun a g s b=>?_
          refine Zbb<|Zl ?_
          refine U5 [5,15,25,35,10,55] s b Za
           (U2 [45] (Zbw rfl rfl U0 U6 rfl)<|Am 0 rfl<|U3) fun a g s b=>?_
          exact⟨n,Zbzq _,(Zbzj.wrap (x28+(1:Int))),r37,g,rfl,(s.pi [0,1,2,3,4,5] rfl),b,H1⟩
         ·refine Zs (s.bool 6 rfl) H1 (fun H1=>?_) (fun H1=>?_)
          ·obtain⟨r34,h35,H1⟩:=Zd H1
           refine U5 [5,15,25,35,45,55,31] (L:=[(0,_),(3,_),(6,_),(58,_),(59,_),(60,_),(1002,_)]) (s.pi [0,1,2,3,4,5,7] rfl) b Za
            (Am 5 rfl<|Af Zgd 25 rfl<|Al Zdk 0 rfl<|U2 [20,65,0] (Zdi (m:=1002) (lst:=Zcq) Z8s (Zrb _ _ h35) rfl rfl rfl (by decide) U1 U0 (.cons U7 .nil))<|U3) fun a g s b=>?_
           exact⟨r34,g,rfl,(s.pi [0,1,2,3,4,5,6] rfl),b,H1⟩
          ·exact wp_skip<|⟨x29,g,rfl,(s.pi [0,1,2,3,4,5,7] rfl),b,H1⟩
        ·refine wp_exit<|Zbx ?_
         refine Zbx<|Zcg ?_
         exact⟨x29,g,rfl,(s.pi [0,6] rfl),b,Oi H1⟩
    ·refine Zs (s.bool 3 rfl) H0 (fun H0=>?_) (fun H0=>?_)
     ·obtain⟨r20,h21,H0⟩:=Zd H0
      refine U5 [5,15,25,31] (L:=[(0,_),(3,_),(4,_),(1002,_)]) (s.pi [0,1,2,4] rfl) b Za
       (Am 5 rfl<|Af Zga 15 rfl<|Al Zdk 0 rfl<|U2 [20,35,0] (Zdi (m:=1002) (lst:=Zcq) Z8s (Zrb _ _ h21) rfl rfl rfl (by decide) U1 U0 (.cons U7 .nil))<|U3) fun a g s b=>?_
      exact⟨r20,g,rfl,(s.pi [0,1,2,3] rfl),b,H0⟩
     ·exact wp_skip<|⟨j18,g,rfl,(s.pi [0,1,2,4] rfl),b,H0⟩
   ·refine Zs (s.bool 3 rfl) H0 (fun H0=>?_) (fun H0=>?_)
    ·obtain⟨r16,h17,H0⟩:=Zd H0
     refine U5 [5,15,25,31] (L:=[(0,_),(3,_),(4,_),(1002,_)]) (s.pi [0,1,2,4] rfl) b Za
      (Am 5 rfl<|Af Zdc 15 rfl<|Al U8 0 rfl<|U2 [20,35,0] (Zdi (m:=1002) (lst:=Zcq) Z36 (Zof _ _ h17) rfl rfl rfl (by decide) U1 U0 (.cons U7 .nil))<|U3) fun a g s b=>?_
     exact⟨r16,g,rfl,(s.pi [0,1,2,3] rfl),b,H0⟩
    ·exact wp_skip<|⟨j14,g,rfl,(s.pi [0,1,2,4] rfl),b,H0⟩
  ·refine Zs (s.bool 3 rfl) H0 (fun H0=>?_) (fun H0=>?_)
   ·obtain⟨r10,h11,H0⟩:=Zd H0
    refine U4 [5,15,25,31] (L:=[(0,_),(3,_),(4,_),(1002,_)]) (s.pi [0,1,2,4] rfl) b Za
     (Am 5 rfl<|Af Zjt 15 rfl<|Al U8 0 rfl<|U2 [20,35,0] (Zdi (m:=1002) (lst:=Zcq) Z36 (Zof _ _ h11) rfl rfl rfl (by decide) U1 U0 (.cons U7 .nil))<|U3) fun a g s b=>?_
    obtain⟨r12,h13,H0⟩:=Zd H0
    refine U5 [5,15,25,31] s b Za
     (Am 5 rfl<|Af Zjz 15 rfl<|Al U8 0 rfl<|U2 [20,35,0] (Zdi (m:=1002) (lst:=Zcq) Z36 (Zof _ _ h13) rfl rfl rfl (by decide) U1 U0 (.cons U7 .nil))<|U3) fun a g s b=>?_
    exact⟨r12,g,rfl,(s.pi [0,1,2,3] rfl),b,H0⟩
   ·exact wp_skip<|⟨j8,g,rfl,(s.pi [0,1,2,4] rfl),b,H0⟩
 ·refine Zs (s.bool 3 rfl) H0 (fun H0=>?_) (fun H0=>?_)
  ·obtain⟨r6,h7,H0⟩:=Zd H0
   refine U5 [5,15,25,31] (L:=[(0,_),(3,_),(4,_),(1002,_)]) (s.pi [0,1,2,4] rfl) b Za
    (Am 5 rfl<|Af Zi1 15 rfl<|Al V0 0 rfl<|U2 [20,35,0] (Zdi (m:=1002) (lst:=Zcq) Z2z (Zos _ _ h7) rfl rfl rfl (by decide) U1 U0 (.cons U7 .nil))<|U3) fun a g s b=>?_
   exact⟨r6,g,rfl,(s.pi [0,1,2,3] rfl),b,H0⟩
  ·exact wp_skip<|⟨r3,g,rfl,(s.pi [0,1,2,4] rfl),b,H0⟩
theorem Z8a (a0:Zu) (a1:Zw) {r:Zu} (H0:Zrd a0 a1=some r):FnMR Zbzi 95 obWr a0 r [(Z6.pd a1)] (pTup []):=by
 unfold Zrd at H0
 refine Zqi (N:=45) Tryz.func95 rfl rfl (Qe rfl) rfl rfl (fun a g0 b0 s b=>?_)
 replace s:St 45 [(0,(pEq (ptrB b0 0))),(1,(Z6.pd a1)),(1002,(pSJ Zbp Zbg (hpL (pRow (Kd.int .u8) 5 1000000 (Zcq a0))) 0 b0 a0))] _ _:=Zhl s
 refine U4 [5,0,25] s b Za
  (U2 [15] (Zbt rfl rfl U0)<|U3) fun a g s b=>?_
 obtain⟨r1,h2,H0⟩:=Zd H0
 refine U4 [5,15,40,25] s b Za
  (Af Zdh 15 rfl<|Al U9 0 rfl<|U2 [0] (Zt Z70 (Zvg _ h2) rfl rfl (.cons U0 .nil))<|U2 [] (Z2t 4 rfl rfl)<|U2 [10,0] (Zci Zhk rfl rfl U1 U0)<|U3) fun a g s b=>?_
 obtain⟨r3,h4,H0⟩:=Zd H0
 refine U4 [5,15,25,41] s b Za
  (Am 5 rfl<|Af Zdh 15 rfl<|Al U9 0 rfl<|U2 [0] (Zek Zbzt Zbzr rfl rfl U0 rfl)<|U2 [30,35,0] (Zdi (m:=1002) (lst:=Zcq) Zt2 (Zgz _ _ h4) rfl rfl rfl (by decide) U1 U0 (.cons U7 .nil))<|U3) fun a g s b=>?_
 obtain⟨r5,h6,H0⟩:=Zd H0
 refine U4 [5,15,25,31] s b Za
  (Am 5 rfl<|Af Zu8 15 rfl<|Al ty_4 0 rfl<|U2 [20,35,0] (Zdi (m:=1002) (lst:=Zcq) Zbqh (Zye _ _ h6) rfl rfl rfl (by decide) U1 U0 (.cons U7 .nil))<|U3) fun a g s b=>?_
 obtain⟨r7,h8,H0⟩:=Zd H0
 refine U4 [5,15,25,31] s b Za
  (Am 5 rfl<|Af Zjy 15 rfl<|Al V0 0 rfl<|U2 [20,35,0] (Zdi (m:=1002) (lst:=Zcq) Z2z (Zos _ _ h8) rfl rfl rfl (by decide) U1 U0 (.cons U7 .nil))<|U3) fun a g s b=>?_
 refine wp_seq ?_
 obtain⟨r9,h10,H0⟩:=Zd H0
 refine U4 [5,15,25,10,35] s b Za
  (Al Zhk 25 rfl<|U2 [0] (Zt Zq3 (Zee _ _ h10) rfl rfl (.cons U0 (.cons U6 .nil)))<|U3) fun a g s b=>?_
 refine Zbq (fun a w=>∃(j14:Zu) (g:G),Jn 45 [(0,(pEq (ptrB b0 0))),(3,(Z6.ptr a1)),(4,(Zef.ptr r1)),(1002,(pSJ Zbp Zbg (hpL (pRow (Kd.int .u8) 5 1000000 (Zcq j14))) 0 b0 j14))] a w g0 g (Znu a1 r1 j14=some r)) ?_ ?_
 rintro a w ⟨j14,g,rfl,s,b,H0⟩
 unfold Znu at H0
 refine Zl<|wp_seq ?_
 obtain⟨r15,h16,H0⟩:=Zd H0
 refine U4 [5,15,25,10,35] s b Za
  (Al Zhk 25 rfl<|U2 [0] (Zt Zq3 (Zee _ _ h16) rfl rfl (.cons U0 (.cons U6 .nil)))<|U3) fun a g s b=>?_
 refine Zbq (fun a w=>∃(j20:Zu) (g:G),Jn 45 [(0,(pEq (ptrB b0 0))),(3,(Z6.ptr a1)),(4,(Zef.ptr r1)),(1002,(pSJ Zbp Zbg (hpL (pRow (Kd.int .u8) 5 1000000 (Zcq j20))) 0 b0 j20))] a w g0 g (Znn a1 r1 j20=some r)) ?_ ?_
 rintro a w ⟨j20,g,rfl,s,b,H0⟩
 unfold Znn at H0
 refine Zl<|wp_seq ?_
 obtain⟨r21,h22,H0⟩:=Zd H0
 refine U4 [5,15,25,10,35] s b Za
  (Al Zhk 25 rfl<|U2 [0] (Zt Zq3 (Zee _ _ h22) rfl rfl (.cons U0 (.cons U6 .nil)))<|U3) fun a g s b=>?_
 refine Zbq (fun a w=>∃(j26:Zu) (g:G),Jn 45 [(0,(pEq (ptrB b0 0))),(3,(Z6.ptr a1)),(4,(Zef.ptr r1)),(1002,(pSJ Zbp Zbg (hpL (pRow (Kd.int .u8) 5 1000000 (Zcq j26))) 0 b0 j26))] a w g0 g (Znv a1 r1 j26=some r)) ?_ ?_
 rintro a w ⟨j26,g,rfl,s,b,H0⟩
 unfold Znv at H0
 refine Zl ?_
 obtain⟨r27,h28,H0⟩:=Zd H0
 refine U4 [5,15,10,35] s b Za
  (Al Zhk 25 rfl<|U2 [0] (Zt Zq3 (Zee _ _ h28) rfl rfl (.cons U0 (.cons U6 .nil)))<|U3) fun a g s b=>?_
 refine Zbq (fun a w=>∃(j32:Zu) (g:G),Jn 45 [(0,(pEq (ptrB b0 0))),(1002,(pSJ Zbp Zbg (hpL (pRow (Kd.int .u8) 5 1000000 (Zcq j32))) 0 b0 j32))] a w g0 g (Znw j32=some r)) ?_ ?_
 rintro a w ⟨j32,g,rfl,s,b,H0⟩
 unfold Znw at H0
 obtain rfl:=Oi H0
 exact Zrf rfl s b (s.at 1 rfl)
 refine Zs (s.bool 2 rfl) H0 (fun H0=>?_) (fun H0=>?_)
 obtain⟨r30,h31,H0⟩:=Zd H0
 refine U5 [5,31] (L:=[(0,_),(3,_),(1002,_)]) (s.pi [0,1,3] rfl) b Za
  (Am 5 rfl<|Af Zob 15 rfl<|Al Zbd 0 rfl<|U2 [20,25,0] (Zdi (m:=1002) (lst:=Zcq) Zbp2 (Zbem _ _ h31) rfl rfl rfl (by decide) U1 U0 (.cons U7 .nil))<|U3) fun a g s b=>?_
 exact⟨r30,g,rfl,(s.pi [0,1] rfl),b,H0⟩
 exact wp_skip<|⟨j26,g,rfl,(s.pi [0,3] rfl),b,H0⟩
 refine Zs (s.bool 3 rfl) H0 (fun H0=>?_) (fun H0=>?_)
 obtain⟨r24,h25,H0⟩:=Zd H0
 refine U5 [5,15,25,31] (L:=[(0,_),(3,_),(4,_),(1002,_)]) (s.pi [0,1,2,4] rfl) b Za
  (Am 5 rfl<|Af Zfe 15 rfl<|Al V0 0 rfl<|U2 [20,35,0] (Zdi (m:=1002) (lst:=Zcq) Z2z (Zos _ _ h25) rfl rfl rfl (by decide) U1 U0 (.cons U7 .nil))<|U3) fun a g s b=>?_
 exact⟨r24,g,rfl,(s.pi [0,1,2,3] rfl),b,H0⟩
 exact wp_skip<|⟨j20,g,rfl,(s.pi [0,1,2,4] rfl),b,H0⟩
 refine Zs (s.bool 3 rfl) H0 (fun H0=>?_) (fun H0=>?_)
 obtain⟨r18,h19,H0⟩:=Zd H0
 refine U5 [5,15,25,31] (L:=[(0,_),(3,_),(4,_),(1002,_)]) (s.pi [0,1,2,4] rfl) b Za
  (Am 5 rfl<|Af Zit 15 rfl<|Al Zdk 0 rfl<|U2 [20,35,0] (Zdi (m:=1002) (lst:=Zcq) Z8s (Zrb _ _ h19) rfl rfl rfl (by decide) U1 U0 (.cons U7 .nil))<|U3) fun a g s b=>?_
 exact⟨r18,g,rfl,(s.pi [0,1,2,3] rfl),b,H0⟩
 exact wp_skip<|⟨j14,g,rfl,(s.pi [0,1,2,4] rfl),b,H0⟩
 refine Zs (s.bool 3 rfl) H0 (fun H0=>?_) (fun H0=>?_)
 obtain⟨r12,h13,H0⟩:=Zd H0
 refine U5 [5,15,25,31] (L:=[(0,_),(3,_),(4,_),(1002,_)]) (s.pi [0,1,2,4] rfl) b Za
  (Am 5 rfl<|Af Zd8 15 rfl<|Al U8 0 rfl<|U2 [20,35,0] (Zdi (m:=1002) (lst:=Zcq) Z36 (Zof _ _ h13) rfl rfl rfl (by decide) U1 U0 (.cons U7 .nil))<|U3) fun a g s b=>?_
 exact⟨r12,g,rfl,(s.pi [0,1,2,3] rfl),b,H0⟩
 exact wp_skip<|⟨r7,g,rfl,(s.pi [0,1,2,4] rfl),b,H0⟩
theorem Z65 (a0:Zu) (a1:Zbj) {r:Zu} (H0:Zp8 a0 a1=some r):FnMR Zbzi 66 obWr a0 r [(Zb1.pd a1)] (pTup []):=by
 unfold Zp8 at H0
 refine Zqi (N:=23) Tryz.func66 rfl rfl (Qe rfl) rfl rfl (fun a g0 b0 s b=>?_)
 replace s:St 23 [(0,(pEq (ptrB b0 0))),(1,(Zb1.pd a1)),(1002,(pSJ Zbp Zbg (hpL (pRow (Kd.int .u8) 5 1000000 (Zcq a0))) 0 b0 a0))] _ _:=Zhl s
 refine U4 [5,0,25] s b Za
  (U2 [15] (Zbt rfl rfl U0)<|U3) fun a g s b=>?_
 obtain⟨r1,h2,H0⟩:=Zd H0
 refine U4 [5,15,51] s b Za
  (Am 5 rfl<|Af Zjh 15 rfl<|Al Zod 0 rfl<|U2 [0] (Zbv Zbzx rfl rfl U0)<|U2 [0] (Zek Zbzt Zbzr rfl rfl U0 rfl)<|U2 [40,25,0] (Zdi (m:=1002) (lst:=Zcq) Zt2 (Zgz _ _ h2) rfl rfl rfl (by decide) U1 U0 (.cons U7 .nil))<|U3) fun a g s b=>?_
 refine U4 [5,10,20,30,25] s b Za
  (Af Zjh 15 rfl<|Al Zod 0 rfl<|U2 [0] (Zbv Zbzx rfl rfl U0)<|U2 [] (Zx rfl rfl U6)<|U3) fun a g s b=>?_
 obtain⟨z11,hz1,H0⟩:=Zd H0
 refine Zbq (fun a w=>∃(y10:Zu) (g:G),Jn 23 [(0,(pEq (ptrB b0 0))),(1002,(pSJ Zbp Zbg (hpL (pRow (Kd.int .u8) 5 1000000 (Zcq y10))) 0 b0 y10))] a w g0 g (y10=z11)) ?_ ?_
 ·rintro a w ⟨y10,g,rfl,s,b,rfl⟩
  obtain rfl:=Oi H0
  exact Zrf rfl s b (s.at 1 rfl)
 ·refine wp_block<|wp_loop_ghost (fun n a w=>∃(x3:Int) (x4:Zu) (g:G),Jn 23 [(0,(pEq (ptrB b0 0))),(13,(Z6.sl.pd a1.Acts)),(14,(pInt .i64 (a1.Acts.length:Int))),(15,(pInt .i64 x3)),(1002,(pSJ Zbp Zbg (hpL (pRow (Kd.int .u8) 5 1000000 (Zcq x4))) 0 b0 x4))] a w g0 g (Zi9 a1 n x3 x4=some z11)) (Zbzo ((a1.Acts.length:Int)-(0:Int))+1) ⟨(0:Int),r1,g,rfl,(s.pi [0,1,2,3,4] rfl),b,hz1⟩ (fun n a w hI=>?_)
  obtain⟨x3,x4,g,rfl,s,b,H1⟩:=hI
  cases n with
  | zero=>exact absurd H1 (by simp[Zi9])
  | succ n =>
   rw[Zi9]at H1
   refine U4 [5,15,25,35,0,45] s b Za
    (U2 [35,25] (Zcj rfl rfl U0 U1)<|U3) fun a g s b=>?_
   refine wp_seq<|Zs (s.bool 4 rfl) H1 (fun H1=>?_) (fun H1=>?_)
   ·refine wp_skip<|Zl ?_
    refine wp_seq<|wp_block ?_
    obtain⟨e6,h7,H1⟩:=Zd H1
    refine U4 [5,30,15,25,35,45] (L:=[(0,_),(13,_),(14,_),(15,_),(1002,_)]) (s.pi [0,1,2,3,5] rfl) b Za
     (U2 [15,35] (Zbn Zbzx Zub rfl rfl U0 U1 h7)<|Al Zgb 0 rfl<|U2 [] (Zwg 5 rfl rfl)<|U2 [10,0] (Zci Zgb rfl rfl U1 U0)<|U3) fun a g s b=>?_
    obtain⟨r8,h9,H1⟩:=Zd H1
    refine U5 [5,25,35,45,21] s b Za
     (Am 5 rfl<|Al Zgb 15 rfl<|U2 [10,55,0] (Zdi (m:=1002) (lst:=Zcq) Zbs4 (Z8a _ _ h9) rfl rfl rfl (by decide) U1 U0 (.cons U7 .nil))<|U3) fun a g s b=>?_
    refine Zbb<|Zl ?_
    refine U5 [5,15,25,10,45] s b Za
     (U2 [35] (Zbw rfl rfl U0 U6 rfl)<|Am 0 rfl<|U3) fun a g s b=>?_
    exact⟨n,Zbzq _,(Zbzj.wrap (x3+(1:Int))),r8,g,rfl,(s.pi [0,1,2,3,4] rfl),b,H1⟩
   ·refine wp_exit<|Zbx ?_
    refine Zbx<|Zcg ?_
    exact⟨x4,g,rfl,(s.pi [0,5] rfl),b,Oi H1⟩
theorem Zxa (a0:Zu) {r:(List Int)×Zu} (H0:Znh a0=some r):FnMR Zbzi 67 obWr a0 r.2 [] ((Kd.int .u8).sl.pd r.1):=by
 unfold Znh at H0
 refine Zqi (N:=8) Tryz.func67 rfl rfl (Qe rfl) rfl rfl (fun a g0 b0 k b=>?_)
 replace k:St 8 [(0,(pEq (ptrB b0 0))),(1002,(pSJ Zbp Zbg (hpL (pRow (Kd.int .u8) 5 1000000 (Zcq a0))) 0 b0 a0))] _ _:=Zhl k
 refine U4 [5,15] k b Za
  (U2 (outs:=[(2,((Kd.int .u8).sl.pd ([]:List Int)))]) (S:=[]) [] (Zc rfl rfl (Opd.c (fun g=>Zdv g)))<|U3) fun a g k b=>?_
 obtain⟨h1,H0⟩:=Zdr H0
 refine U4 [5,50,15] k b Za
  (Am 5 rfl<|U2 [0] (Zz rfl rfl U0)<|U2 [0] (Zbh Zjx rfl rfl U0)<|U2 (outs:=[(6,(pRow (Kd.int .u8) 5 1000000 a0.b))]) (S:=[]) [0,15] (Zm7 Zn3 (fun g s cs h=>Zxr h) rfl rfl U1 U0)<|U2 (outs:=[(7,(pRow (Kd.int .u8) 5 7 (([]:List Int)++a0.b)))]) (S:=[8]) [0] (Zdg Zlb rfl rfl (Opd.c (fun g=>Zj1 7 g)) (Opd.imp U0 (fun _ _ h=>Zdt h)) h1)<|Aa 0 rfl<|U3) fun a g k b=>?_
 refine wp_ret ?_
 obtain rfl:=Oi H0
 exact Zbrm rfl k b (Zf (s:=2)) (Zdt (k.at 1 rfl)) (k.at 2 rfl)
theorem Zwc (a0:Zbc) {r:List Int} (H0:Zo7 a0=some r):FnOk Zbzi 41 [(Zde.pd a0)] ((Kd.int .u8).sl.pd r):=by
 unfold Zo7 at H0
 refine Zb9 (N:=26) Tryz.func41 rfl rfl (Qe rfl) rfl rfl (fun a g0 s b=>?_)
 refine U4 [0] s b Za
  (U2 [5] (Zbt rfl rfl U0)<|U2 (outs:=[(2,((Kd.int .u8).sl.pd ([]:List Int)))]) (S:=[]) [] (Zc rfl rfl (Opd.c (fun g=>Zdv g)))<|U3) fun a g s b=>?_
 refine wp_seq<|U5 [5,0] s b Za
  (U2 (outs:=[(3,(Zda none Zbp Zbg (hpL (pRow (Kd.int .u8) 5 1000003 (Zcq ({b:=([]:List Int)}:Zu)))) 3 ({b:=([]:List Int)}:Zu)))]) (S:=[4]) [] (Ztj (xv:=({b:=([]:List Int)}:Zu)) (R:=hpL (pRow (Kd.int .u8) 5 1000003 (Zcq ({b:=([]:List Int)}:Zu)))) (zs:=[.slice none 0 0]) (none,0,0) (by kernel_rfl) (fun g=>Z2k g) (fun g=>Zj1 1000003 g) rfl rfl)<|U3) fun a g s b=>?_
 obtain⟨b0,s⟩:=Zbht (i:=1) (s:=3) (m:=1002) rfl s
 replace s:St 26 [(1,(Zde.ptr a0)),(3,(pEq (ptrB b0 0))),(1002,(pSJ Zbp Zbg (hpL (pRow (Kd.int .u8) 5 1000003 (Zcq ({b:=([]:List Int)}:Zu)))) 3 b0 ({b:=([]:List Int)}:Zu)))] a g:=s
 refine Zl ?_
 obtain⟨r1,h2,H0⟩:=Zd H0
 refine U4 [5,15,31] s b Za
  (Af Zws 5 rfl<|Al U9 0 rfl<|U2 [0] (Zek Zbzt Zbzr rfl rfl U0 rfl)<|U2 [15,25,0] (Zdi (m:=1002) (lst:=Zcq) Zt2 (Zgz _ _ h2) rfl rfl rfl (by decide) U1 U0 (.cons U7 .nil))<|U3) fun a g s b=>?_
 obtain⟨r3,h4,H0⟩:=Zd H0
 refine U4 [5,15,41] s b Za
  (Af Zv7 5 rfl<|Al Z0d 0 rfl<|U2 [0] (Zbv Zbz6 rfl rfl U0)<|U2 [0] (Zek Zbzt Zbzr rfl rfl U0 rfl)<|U2 [15,25,0] (Zdi (m:=1002) (lst:=Zcq) Zt2 (Zgz _ _ h4) rfl rfl rfl (by decide) U1 U0 (.cons U7 .nil))<|U3) fun a g s b=>?_
 refine wp_seq<|U4 [15,10,20,30,25] s b Za
  (Af Zv7 5 rfl<|Al Z0d 0 rfl<|U2 [0] (Zbv Zbz6 rfl rfl U0)<|U2 [] (Zx rfl rfl U6)<|U3) fun a g s b=>?_
 obtain⟨z13,hz1,H0⟩:=Zd H0
 refine Zbq (fun a w=>∃(y12:Zu) (g:G),Jn 26 [(3,(pEq (ptrB b0 0))),(1002,(pSJ Zbp Zbg (hpL (pRow (Kd.int .u8) 5 1000003 (Zcq y12))) 3 b0 y12))] a w g0 g (y12=z13)) ?_ ?_
 ·rintro a w ⟨y12,g,rfl,s,b,rfl⟩
  refine Zl ?_
  obtain⟨r14,h15,H0⟩:=Zd H0
  refine U4 [10,1] s b Za
   (U2 [5,15] (Zdi (m:=1002) (lst:=Zcq) Zbsy (Zxa _ h15) rfl rfl rfl (by decide) U1 U0 .nil)<|Aa 0 rfl<|U3) fun a g s b=>?_
  refine wp_ret ?_
  obtain rfl:=Oi H0
  exact Zba rfl s b (Zf (s:=2)) (s.at 0 rfl)
 ·refine wp_block<|wp_loop_ghost (fun n a w=>∃(x5:Int) (x6:Zu) (g:G),Jn 26 [(3,(pEq (ptrB b0 0))),(16,(Zb1.sl.pd a0.Deals)),(17,(pInt .i64 (a0.Deals.length:Int))),(18,(pInt .i64 x5)),(1002,(pSJ Zbp Zbg (hpL (pRow (Kd.int .u8) 5 1000003 (Zcq x6))) 3 b0 x6))] a w g0 g (Zif a0 n x5 x6=some z13)) (Zbzo ((a0.Deals.length:Int)-(0:Int))+1) ⟨(0:Int),r3,g,rfl,(s.pi [0,1,2,3,4] rfl),b,hz1⟩ (fun n a w hI=>?_)
  obtain⟨x5,x6,g,rfl,s,b,H1⟩:=hI
  cases n with
  | zero=>exact absurd H1 (by simp[Zif])
  | succ n =>
   rw[Zif]at H1
   refine U4 [5,15,25,35,0,45] s b Za
    (U2 [35,25] (Zcj rfl rfl U0 U1)<|U3) fun a g s b=>?_
   refine wp_seq<|Zs (s.bool 4 rfl) H1 (fun H1=>?_) (fun H1=>?_)
   ·refine wp_skip<|Zl ?_
    refine wp_seq<|wp_block ?_
    obtain⟨e8,h9,H1⟩:=Zd H1
    refine U4 [5,30,15,25,35,45] (L:=[(3,_),(16,_),(17,_),(18,_),(1002,_)]) (s.pi [0,1,2,3,5] rfl) b Za
     (U2 [15,35] (Zbn Zbz6 Z4n rfl rfl U0 U1 h9)<|Al Zl8 0 rfl<|U2 [] (Z4e 5 rfl rfl)<|U2 [10,0] (Zci Zl8 rfl rfl U1 U0)<|U3) fun a g s b=>?_
    obtain⟨r10,h11,H1⟩:=Zd H1
    refine U5 [5,25,35,45,11] s b Za
     (Al Zl8 15 rfl<|U2 [5,55,0] (Zdi (m:=1002) (lst:=Zcq) Zbrp (Z65 _ _ h11) rfl rfl rfl (by decide) U1 U0 (.cons U7 .nil))<|U3) fun a g s b=>?_
    refine Zbb<|Zl ?_
    refine U5 [5,15,25,10,45] s b Za
     (U2 [35] (Zbw rfl rfl U0 U6 rfl)<|Am 0 rfl<|U3) fun a g s b=>?_
    exact⟨n,Zbzq _,(Zbzj.wrap (x5+(1:Int))),r10,g,rfl,(s.pi [0,1,2,3,4] rfl),b,H1⟩
   ·refine wp_exit<|Zbx ?_
    refine Zbx<|Zcg ?_
    exact⟨x6,g,rfl,(s.pi [0,5] rfl),b,Oi H1⟩
end Go.CL
