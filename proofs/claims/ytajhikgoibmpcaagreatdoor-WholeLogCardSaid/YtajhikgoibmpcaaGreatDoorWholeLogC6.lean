/- A part of the proof of WholeLog. -/
import Derived.Test.YtajhikgoibmpcaaGreatDoorWholeLogC5
import Derived.Test.YtajhikgoibmpcaaGreatDoorRows
import Derived.Test.YtajhikgoibmpcaaGreatDoorCards
import Derived.Test.YtajhikgoibmpcaaGreatDoorTie
import Derived.SevenTiedAt
set_option linter.unusedVariables false
set_option linter.unusedSimpArgs false
set_option maxRecDepth 100000
open Option renaming bind_some→Zb4b,some→Zb4e,bind_eq_some_iff→Zb4f
open List renaming length_append→Zb4c,getElem?_eq_getElem→Zb4g,drop_eq_getElem_cons→Zb4h,append_assoc→Zb4i,drop_of_length_le→Zb4k,getElem_mem→Zb4m,drop_zero→Zb4n,take_of_length_le→Zb4o,getElem?_eq_some_iff→Zb4q,pairwise_cons→Zb4u,append_nil→Zb4v,flatMap_cons→Zb4w,replicate→Zb4x,nil_append→Zb4y,mem_singleton→Zb41,mem_cons→Zb42,mem_of_mem_take→Zb43,mem_cons_of_mem→Zb44,mem_append→Zb46,cons_append→Zb48,getElem?_append→Zb49,length_nil→Zb5b,getElem?_append_right→Zb5d,mem_of_mem_drop→Zb5e,getElem?_append_left→Zb5f,take_append_getElem→Zb5g,getElem_of_mem→Zb5h,Pairwise→Zb5m,length_take→Zb5n,drop→Zb5o,singleton_append→Zb5p,pairwise_append→Zb5q,map_append→Zb5s,mem_cons_self→Zb5t,getElem?_drop→Zb5u,map_singleton→Zb5v,take_sublist→Zb5w,drop_sublist→Zb5x,ext_getElem?→Zb5y,pairwise_iff_getElem→Zb5z,length_cons→Zb51,getElem?_cons_succ→Zb54,getElem?_replicate→Zb55,take_append_drop→Zb58,take_zero→Zb59,length_singleton→Zb6b,length_replicate→Zb6c,take→Zb6e,mem_map→Zb6f,getElem?_set→Zb6l,length_drop→Zb6p,take_left'→Zb6v,length_map→Zb6w
open Bool renaming false_eq_true→Zb4d,not_false→Zb4r,false_and→Zb4s,true_and→Zb4t,not_true→Zb4z,or_eq_true→Zb40,and_eq_true→Zb5a,true_or→Zb5i,false_or→Zb5k,or_self→Zb5r,eq_false_iff→Zb6k,and_false→Zb6y
open Go.IntKind renaming i64→Zb4j,u64→Zb56,wrap_i64→Zb6o
open Go.Proofs.Tryz renaming prog→Zb4l,f3→Zb50,underlying139→Zb6g,underlying100→Zb6h,underlying117→Zb6i,checked→Zb6j,underlying79→Zb6m,underlying25→Zb6n,underlying3→Zb6r,underlying9→Zb6s,underlying4→Zb6t,func3→Zb6x,params3→Zb61
open Int renaming toNat→Zb4p,toNat_natCast→Zb45,lt_irrefl→Zb6z
open Prod renaming mk→Zb47
open Nat renaming add_assoc→Zb5c,lt_succ_self→Zb5j,add_sub_cancel_left→Zb5l,sub_zero→Zb52,zero_add→Zb53,le_refl→Zb57,mul_le_mul_right→Zb6d,min_eq_right→Zb6q,min_eq_left→Zb6u,sub_self→Zb60
open Sum renaming inl→Zb6a
namespace Go.CL
open Go
def I64 (x:Int):Prop:=-9223372036854775808≤x∧x≤9223372036854775807
structure RecW (r:Zb):Prop where
 ok:Zla r
 num:I64 r.Num
 low:I64 r.Low
 high:I64 r.High
 kind:I64 r.Kind
 len:r.List.length≤1000
structure ActW (a:Zw):Prop where
 ok:Z2w a
 n:I64 a.N
 mkr:RecW a.Make
 xc:a.X=Zcs a.X
 inout:(a.Kind=10∨a.Kind=11)→0≤a.N∧a.N≤2305843009213693952
 s64:a.S.size≤64
 s16:¬(5≤a.Kind∧a.Kind≤6)→a.S.size≤16
abbrev ans (c:Int):Zm:={Code:=c,Num:=0,Rec:=default}
def Chg (r:Zb) (a:Zw):Prop:=∃c r' o,Zbz a.Kind r a (default:Zm)=some (c,r',o)∧Zch r a=some (if c=0 then (r',o)else (r,ans c))∧RecW r'∧RecW o.Rec∧(c=0→o.Code=0∧o.Num=0)
theorem Zw2 (x:Int):I64 (Zb4j.wrap x):=by unfold I64;rw[Zb6o];omega
theorem Zem:RecW (default:Zb):=⟨⟨by decide,by decide,fun e h=>by cases h⟩,by unfold I64;decide,by unfold I64;decide,by unfold I64;decide,by unfold I64;decide,by decide⟩
theorem RecW.withNum {r:Zb} (h:RecW r) {x:Int} (k:I64 x):RecW {r with Num:=x}:=⟨⟨h.ok.real,h.ok.len,h.ok.sc⟩,k,h.low,h.high,h.kind,h.len⟩
theorem RecW.withText {r:Zb} (h:RecW r) (t:ByteArray):RecW {r with Text:=t}:=⟨⟨h.ok.real,h.ok.len,h.ok.sc⟩,h.num,h.low,h.high,h.kind,h.len⟩
theorem RecW.withReal {r:Zb} (h:RecW r) {x:Nat} (k:x<W64):RecW {r with Real:=x}:=⟨⟨k,h.ok.len,h.ok.sc⟩,h.num,h.low,h.high,h.kind,h.len⟩
theorem RecW.withList {r:Zb} (h:RecW r) {l:Zet} (k:l.length≤1000) (m:∀e∈l,e.Score<W64):RecW {r with List:=l}:=⟨⟨h.ok.real,by show l.length<_;omega,m⟩,h.num,h.low,h.high,h.kind,k⟩
theorem Zoa {r:Zb} (h:r.List.length≤1000):Zh4 r=some r:=by
 unfold Zh4 Zco
 rw[if_pos (by omega)];rfl
theorem Zvu {r:Zb} (h:r.List.length≤1000):Zgn r=some r:=by
 unfold Zgn
 rw[if_pos (by simp;omega)];rfl
variable {r:Zb} {a:Zw}
theorem Zbm8 (h:a.Kind=5) (k:RecW r):Chg r a:=by
 refine⟨0,{r with Text:=a.S},ans 0,?_,?_,k.withText _,Zem,fun _=>⟨rfl,rfl⟩⟩
 ·rw[h];rfl
 ·unfold Zch;rw[h];rfl
theorem Zbky (h:a.Kind=6) (k:RecW r):Chg r a:=by
 refine⟨0,{r with Text:=a.S},{ans 0 with Rec:=r},?_,?_,k.withText _,k,fun _=>⟨rfl,rfl⟩⟩
 ·rw[h]
  show Zj3 r a default=_
  unfold Zj3
  rw[Zoa k.len];rfl
 ·unfold Zch;rw[h,Zvu k.len];rfl
theorem Zbmw (h:a.Kind=7) (k:RecW r):Chg r a:=by
 refine⟨0,{r with Num:=Zb4j.wrap (r.Num+a.N)},ans 0,?_,?_,k.withNum (Zw2 _),Zem,fun _=>⟨rfl,rfl⟩⟩
 ·rw[h];rfl
 ·unfold Zch;rw[h];rfl
theorem Zbi6 (h:I64 r.Num) (k:I64 a.N):(((decide ((0:Int)<a.N))&&(decide ((Zb4j.wrap ((9223372036854775807:Int)-a.N))<r.Num)))||((decide (a.N<(0:Int)))&&(decide (r.Num<(Zb4j.wrap ((-9223372036854775808:Int)-a.N)))))) =
  ((((decide ((0:Int)<r.Num))&&(decide ((0:Int)<a.N)))&&(decide ((Zb4j.wrap (r.Num+a.N))<(0:Int))))||(((decide (r.Num<(0:Int)))&&(decide (a.N<(0:Int))))&&(decide ((0:Int)≤(Zb4j.wrap (r.Num+a.N)))))):=by
 unfold I64 at h k
 rw[Bool.eq_iff_iff]
 simp only[Zb40,Zb5a,decide_eq_true_eq,Zb6o]
 omega
theorem Zbjv (h:a.Kind=8) (k:RecW r) (m:ActW a):Chg r a:=by
 have e1:Zbz a.Kind r a default=Zpx r a default:=by rw[h];rfl
 have e2:Zch r a=(Zlp r.Num a.N).bind fun r7=>(if r7 then (Zbf r (ans 9))else (Zbf {r with Num:=Zb4j.wrap (r.Num+a.N)} (ans 0))):=by unfold Zch;rw[h];rfl
 have p:=Zbi6 k.num m.n
 unfold Chg
 rw[e1,e2]
 unfold Zpx Zlp Zbf
 rw[p]
 simp only[Zb4b]
 split
 ·exact⟨9,r,_,rfl,rfl,k,Zem,fun h=>by cases h⟩
 ·exact⟨0,_,_,rfl,rfl,k.withNum (Zw2 _),Zem,fun _=>⟨rfl,rfl⟩⟩
theorem Z6u (h:a.Kind=9∨a.Kind=12) (k:RecW r):Chg r a:=by
 have e1:Zbz a.Kind r a default=Zfn r a default:=by rcases h with h | h <;> rw[h] <;> rfl
 have e2:Zch r a=(if (decide (r.Num<a.N))then (Zbf r (ans 11))else (Zbf r (ans 0))):=by rcases h with h | h <;> unfold Zch Zc6 <;> rw[h] <;> rfl
 unfold Chg
 rw[e1,e2]
 unfold Zfn Zbf
 split
 ·exact⟨11,r,_,rfl,rfl,k,Zem,fun h=>by cases h⟩
 ·exact⟨0,r,_,rfl,rfl,k,Zem,fun _=>⟨rfl,rfl⟩⟩
theorem Z71 (hg:Zd0 r) (h:r.Kind=4):-2305843009213693952≤r.Low∧r.High≤2305843009213693952∧r.Low≤r.Num∧r.Num≤r.High:=hg.2.2.2.2.1 h
theorem Zbqc (h:a.Kind=10) (k:RecW r) (hg:Zd0 r) (m:r.Kind=4) (n:ActW a):Chg r a:=by
 have e1:Zbz a.Kind r a default=Zjm r a default:=by rw[h];rfl
 have e2:Zch r a=(if (decide (r.High<Zb4j.wrap (r.Num+a.N)))then (Zbf r (ans 9))else (Zbf {r with Num:=Zb4j.wrap (r.Num+a.N)} (ans 0))):=by unfold Zch Zc6;rw[h];rfl
 obtain⟨p1,p2,p3,p4⟩:=Z71 hg m
 obtain⟨n1,n2⟩:=n.inout (.inl h)
 have p:decide (Zb4j.wrap (r.High-r.Num)<a.N)=decide (r.High<Zb4j.wrap (r.Num+a.N)):=by
  rw[wr (x:=r.High-r.Num) (by omega) (by omega),wr (x:=r.Num+a.N) (by omega) (by omega)]
  apply decide_eq_decide.2;omega
 unfold Chg
 rw[e1,e2]
 unfold Zjm Zbf
 rw[p]
 split
 ·exact⟨9,r,_,rfl,rfl,k,Zem,fun h=>by cases h⟩
 ·exact⟨0,_,_,rfl,rfl,k.withNum (Zw2 _),Zem,fun _=>⟨rfl,rfl⟩⟩
theorem Zbnf (h:a.Kind=11) (k:RecW r) (hg:Zd0 r) (m:r.Kind=4) (n:ActW a):Chg r a:=by
 have e1:Zbz a.Kind r a default=Zjo r a default:=by rw[h];rfl
 have e2:Zch r a=(if (decide (Zb4j.wrap (r.Num-a.N)<r.Low))then (Zbf r (ans 10))else (Zbf {r with Num:=Zb4j.wrap (r.Num-a.N)} (ans 0))):=by unfold Zch Zc6;rw[h];rfl
 obtain⟨p1,p2,p3,p4⟩:=Z71 hg m
 obtain⟨n1,n2⟩:=n.inout (.inr h)
 have p:decide (Zb4j.wrap (r.Num-r.Low)<a.N)=decide (Zb4j.wrap (r.Num-a.N)<r.Low):=by
  rw[wr (x:=r.Num-r.Low) (by omega) (by omega),wr (x:=r.Num-a.N) (by omega) (by omega)]
  apply decide_eq_decide.2;omega
 unfold Chg
 rw[e1,e2]
 unfold Zjo Zbf
 rw[p]
 split
 ·exact⟨10,r,_,rfl,rfl,k,Zem,fun h=>by cases h⟩
 ·exact⟨0,_,_,rfl,rfl,k.withNum (Zw2 _),Zem,fun _=>⟨rfl,rfl⟩⟩
theorem Zu1 {m:Nat} {ψ:Nat→Nat→Option Nat} (h:Zbz a.Kind r a default=Zgi ψ r a default) (k:ψ r.Real a.X=some m) (n:m<W64) (p:Zch r a=some ({r with Real:=m},ans 0)) (q:RecW r):Chg r a:=by
 refine⟨0,{r with Real:=m},ans 0,?_,p,q.withReal n,Zem,fun _=>⟨rfl,rfl⟩⟩
 rw[h]
 unfold Zgi
 rw[k];rfl
theorem Ztk (hg:Zd0 r):r.Real=Zcs r.Real:=hg.2.2.2.2.2.1
theorem Zbhu (h:a.Kind=13) (k:RecW r) (hg:Zd0 r) (n:ActW a):Chg r a:=by
 obtain⟨m,m1,m2,m3⟩:=Z9v k.ok.real n.ok.2 (Ztk hg) n.xc
 refine Zu1 (m:=m) (ψ:=fun x y=>Zp9 x y) (by rw[h];rfl) m1 (by rcases m3 with rfl | rfl;exact k.ok.real;exact n.ok.2) ?_ k
 unfold Zch Zc6;rw[h,m2];rfl
theorem Zbir (h:a.Kind=14) (k:RecW r) (hg:Zd0 r) (n:ActW a):Chg r a:=by
 obtain⟨m,m1,m2,m3⟩:=Z9a k.ok.real n.ok.2 (Ztk hg) n.xc
 refine Zu1 (m:=m) (ψ:=fun x y=>Zqc x y) (by rw[h];rfl) m1 (by rcases m3 with rfl | rfl;exact k.ok.real;exact n.ok.2) ?_ k
 unfold Zch Zc6;rw[h,m2];rfl
theorem Zbia (h:a.Kind=15) (n:RecW r):Chg r a:=by
 have k:=Zbdp r.Real a.X
 obtain⟨p,p1,p2⟩:=Zzy k
 refine Zu1 (m:=Zcs (fadd r.Real a.X)) (ψ:=fun x y=>Zlq x y) (by rw[h];rfl) (by show Zlq r.Real a.X=_;unfold Zlq;rw[Zng k];rfl) (Z1s k) ?_ n
 unfold Zch Zc6;rw[h,p1]
 show ((Zgr p).bind _)=_
 rw[p2];rfl
theorem Zbip (h:a.Kind=16) (n:RecW r):Chg r a:=by
 have k:=Zbdx r.Real a.X
 obtain⟨p,p1,p2⟩:=Zzy k
 refine Zu1 (m:=Zcs (fmul r.Real a.X)) (ψ:=fun x y=>Zkb x y) (by rw[h];rfl) (by show Zkb r.Real a.X=_;unfold Zkb;rw[Zng k];rfl) (Z1s k) ?_ n
 unfold Zch Zc6;rw[h,p1]
 show ((Zgr p).bind _)=_
 rw[p2];rfl
theorem Zbni (h:a.Kind=17) (k:RecW r) (n:ActW a):Chg r a:=by
 refine Zu1 (m:=a.X) (ψ:=fun x y=>Zjk x y) (by rw[h];rfl) rfl n.ok.2 ?_ k
 unfold Zch Zc6;rw[h];rfl
theorem Z6z (hg:Zd0 r) (h:8≤r.Kind):1≤r.Cap∧r.Cap≤32∧(r.List.length:Int)≤r.Cap:=by
 obtain⟨k,m,n,_⟩:=hg.2.2.2.2.2.2 h
 exact⟨k,m,n⟩
theorem Zbon (h:a.Kind=20) (k:RecW r) (hg:Zd0 r) (m:r.Kind=8):Chg r a:=by
 have hs:=Zru hg m
 have hl:=k.len
 have e1:Zbz a.Kind r a default=Zh0 r a default:=by rw[h];rfl
 have e2:Zch r a=(Zh7 r.List a.S).bind fun r59=>(if (!r59)then (Zbf r (ans 11))else (Zbf r (ans 0))):=by unfold Zch Zc6;rw[h];rfl
 unfold Chg
 rw[e1,e2]
 unfold Zh0 Zbf
 rw[Zt5 hs (by omega),Zbgj (by omega),Z10 hs]
 simp only[Zb4b]
 split
 ·exact⟨11,r,_,rfl,rfl,k,Zem,fun h=>by cases h⟩
 ·exact⟨0,r,_,rfl,rfl,k,Zem,fun _=>⟨rfl,rfl⟩⟩
theorem Zbjo (h:a.Kind=18) (k:RecW r) (hg:Zd0 r) (s:r.Kind=8):Chg r a:=by
 have hs:=Zru hg s
 have hl:=k.len
 obtain⟨c1,c2,c3⟩:=Z6z hg (by omega)
 have e1:Zbz a.Kind r a default=Zpt r a default:=by rw[h];rfl
 have e2:Zch r a=(Zh7 r.List a.S).bind fun r40=>(if ((!r40)&&(decide (r.Cap≤(r.List.length:Int))))then (Zbf r (ans 8))else ((Zho r.List ({Score:=(0:Nat),Name:=a.S}:Zn) true).bind fun r43=>(Zbf ({r with List:=r43}) (ans 0)))):=by unfold Zch Zc6;rw[h];rfl
 have t:=Zus (fun e=>sLt e.Name a.S) r.List
 unfold Chg
 rw[e1,e2]
 unfold Zpt Zbf
 rw[Zt5 hs (by omega),Zbgj (by omega),Z10 hs,Zbdq (show (0:Nat)<W64 by decide) k.ok.sc (by omega),Zbgl,Zwh (by omega)]
 simp only[Zb4b]
 by_cases p:isAt a.S r.List=true
 ·rw[p]
  exact⟨0,r,_,rfl,rfl,k,Zem,fun _=>⟨rfl,rfl⟩⟩
 ·have q:isAt a.S r.List=false:=by simpa using p
  rw[q]
  simp only[Zb4r,Zb4t,Zb4d,if_false]
  by_cases n:decide (r.Cap≤(r.List.length:Int))=true
  ·rw[if_pos n,if_pos n]
   exact⟨8,r,_,rfl,rfl,k,Zem,fun h=>by cases h⟩
  ·rw[if_neg n,if_neg n]
   unfold Zc3
   rw[if_pos ⟨by omega,by omega,by simp,by simp;omega⟩]
   refine⟨0,_,_,rfl,rfl,k.withList (by simp;omega) fun e m=>?_,Zem,fun _=>⟨rfl,rfl⟩⟩
   simp only[Zb46,Zb41,Zb45]at m
   rcases m with (m | rfl) | m
   ·exact k.ok.sc e (Zb43 m)
   ·exact (show (0:Nat)<W64 by decide)
   ·exact k.ok.sc e (Zb5e m)
theorem Z6r (h:a.Kind=19) (n:RecW r) (hg:Zd0 r) (t:r.Kind=8):Chg r a:=by
 have hs:=Zru hg t
 have hl:=n.len
 have e1:Zbz a.Kind r a default=Zn2 r a default:=by rw[h];rfl
 have e2:Zch r a=(Zeb r a (Zb4p ((r.List.length:Int)-(0:Int))+1) ([]:List Zn) (0:Int)).bind fun z57=>match z57 with | y56=>(Zbf ({r with List:=y56}) (ans 0)):=by unfold Zch Zc6;rw[h];rfl
 have u:=Zus (fun e=>sLt e.Name a.S) r.List
 unfold Chg
 rw[e1,e2]
 unfold Zn2 Zbf
 have q:=Zvb (a:=a) (a0:=r) (by omega) r.List.length 0 [] (by omega) (by simp)
 rw[show ((0:Nat):Int)=0 from rfl]at q
 rw[Zt5 hs (by omega),show (Zb4p ((r.List.length:Int)-(0:Int))+1)=r.List.length+1 by omega,q,Zb4n,Zb4y,Zbg2 hs,Zwh (by omega)]
 simp only[Zb4b]
 by_cases k:isAt a.S r.List=true
 ·have hp:pre (fun e=>sLt e.Name a.S) r.List<r.List.length:=by
   unfold isAt at k
   cases s:r.List[pre (fun e=>sLt e.Name a.S) r.List]? with
   | none=>rw[s]at k;cases k
   | some e=>exact (Zb4q.1 s).1
  rw[k]
  simp only[if_true]
  unfold Zg3
  rw[wr1 (by omega),if_pos ⟨by omega,by omega,by omega,by omega,by omega⟩]
  refine⟨0,_,_,rfl,rfl,n.withList (by simp;omega) fun e m=>?_,Zem,fun _=>⟨rfl,rfl⟩⟩
  simp only[Zb46,Zb45]at m
  rcases m with m | m
  ·exact n.ok.sc e (Zb43 m)
  ·exact n.ok.sc e (Zb5e m)
 ·have p:isAt a.S r.List=false:=by simpa using k
  rw[p]
  exact⟨0,r,_,rfl,rfl,n,Zem,fun _=>⟨rfl,rfl⟩⟩
def itB (nine:Bool) (e:Zn):List Int:=(if nine=true then F8 e.Score else [])++(W e.Name.size++bts e.Name)
def ItOk (nine:Bool) (l:List Zn):Prop:=l.length≤32∧∀e∈l,e.Name.size≤16∧e.Score<W64∧e.Score=Zcs e.Score∧(nine=false→e.Score=0)
theorem Zbg6 (l:List Zn) (nine:Bool) (h:∀e∈l,e.Name.size≤16):(l.flatMap (itB nine)).length≤40*l.length:=by
 induction l with
 | nil=>simp
 | cons e l ih =>
  have h1:=h e (Zb5t ..)
  have h2:=ih fun x k=>h x (Zb44 _ k)
  have h3:=Znk e.Name.size
  have h4:(itB nine e).length≤34:=by
   unfold itB;cases nine <;> simp[Zzk,Zo3] <;> omega
  simp only[Zb4w,Zb4c,Zb51]
  omega
theorem Zbg4 {a:Zb} {nine:Bool} (r:(a.Kind==9)=nine) (q:ItOk nine a.List):∀(n i:Nat) (b:List Int),i+n=a.List.length→b.length+((a.List.drop i).flatMap (itB nine)).length≤1000000000→Zi6 a (n+1) (i:Int) ⟨b⟩=some ⟨b++(a.List.drop i).flatMap (itB nine)⟩:=by
 intro n
 induction n with
 | zero =>
  intro i b h k
  rw[Zi6,if_neg (by simp;omega),Zb4k (by omega)];simp
 | succ n ih =>
  intro i b h k
  have m:i<a.List.length:=by omega
  have s:=q.1
  obtain⟨g1,g2,g3,g4⟩:=q.2 _ (Zb4m m)
  rw[Zb4h m]at k⊢
  simp only[Zb4w]at k⊢
  rw[Zi6,if_pos (by simp;omega),Zc0 m,Zb4b,r]
  unfold itB at k⊢
  simp only[Zb4c]at k
  refine (optP (put:=fun w=>Zg1 w (a.List[i]).Score) (fun p=>by rw[if_pos p];exact Z8i g2 g3) (bs:=if nine=true then F8 (a.List[i]).Score else []) (fun p=>?_) ?_ (Zp3 (i:Int) a.List[i] (Zi6 a (n+1)))).trans ?_
  ·simp[p]
  ·omega
  unfold Zp3
  have hs:(a.List[i]).Name.size<1000000:=by omega
  refine (Zoq (Z33 hs) ?_ _).trans ?_
  ·simp only[Zb4c];omega
  rw[wr1 (by omega)]
  refine (ih (i+1) _ (by omega) ?_).trans ?_
  ·simp only[Zb4c];unfold itB;omega
  ·simp only[Zb4i]
   rfl
theorem Zbnq {y:Zb} {i:Nat} {kk:(Zb)→(Int)→(Zh)→Option (Zb×Zh)} {e:Zn} {X post:List Int} {p:Nat} (hi:i<1000000) (h:X.length≤1000000000) {s:ByteArray} (hs:s.size≤16) (hy:y.List.length≤1000000) (k:X.drop p=W s.size++(bts s++post)) :
  Zna y (i:Int) kk e ⟨X,(p:Int)⟩=kk {y with List:=y.List++[{e with Name:=s}]} ((i+1:Nat):Int) ⟨X,((p+(W s.size++bts s).length:Nat):Int)⟩:=by
 unfold Zna
 have:=Z0o (s:=s) (l:=16) (by omega) (by decide) X p post h (by rw[Zb4i];exact k)
 rw[show Zfg ⟨X,(p:Int)⟩ 16=_ from this,Zb4b,wr1 (by omega)]
 simp only[]
 rw[if_pos (by simp;omega)]
theorem Zbfq {a:Zb} {nine:Bool} (v:(a.Kind==9)=nine) (w:ItOk nine a.List) {r34:Int×Zh} (z:r34.1=(a.List.length:Int)) {X:List Int} (b:X.length≤1000000000):∀(n i p:Nat) (y:Zb) (post:List Int),i+n=a.List.length→y.Kind=a.Kind→y.List=a.List.take i→X.drop p=(a.List.drop i).flatMap (itB nine)++post →
  Zg5 r34 (n+1) y (i:Int) ⟨X,(p:Int)⟩=some ({y with List:=a.List},⟨X,((p+((a.List.drop i).flatMap (itB nine)).length:Nat):Int)⟩):=by
 intro n
 induction n with
 | zero =>
  intro i p y post h q k m
  have e:a.List=y.List:=by rw[k,Zb4o (by omega)]
  rw[Zg5,z,if_neg (by simp;omega),Zb4k (by omega),e];simp
 | succ n ih =>
  intro i p y post h q k m
  have u:i<a.List.length:=by omega
  have d:=w.1
  obtain⟨g1,g2,g3,g4⟩:=w.2 _ (Zb4m u)
  have hs:((a.List[i]).Name.size:Int)≤16:=by omega
  rw[Zb4h u]at m⊢
  simp only[Zb4w,Zb4i,itB]at m
  rw[Zg5,z,if_pos (by simp;omega),q,v]
  refine (optT (take:=Zht) (bs:=if nine=true then F8 (a.List[i]).Score else []) (x:=(a.List[i]).Score) (fun s R=>Zna y (i:Int) (Zg5 r34 (n+1)) ({(default:Zn)with Score:=s}) R) (fun r=>by rw[if_pos r];exact Z5q g2 g3) (fun r=>⟨by simp[r],?_⟩) b m).trans ?_
  ·rw[g4 r];rfl
  have t:=Zd7 m
  have c:y.List.length=i:=by rw[k,Zb5n];omega
  refine (Zbnq (by omega) b (s:=(a.List[i]).Name) (by omega) (by omega) t).trans ?_
  refine (ih (i+1) _ _ post (by omega) (by simpa using q) ?_ ?_).trans ?_
  ·simp only[k];exact Zb5g u
  ·have:=Zd7 (bs:=W (a.List[i]).Name.size++bts (a.List[i]).Name) (by rw[Zb4i];exact t)
   rw[this]
  ·simp only[Zb4w,Zb4c,itB,q,v,Zb5c]
def tB (a:Zb):List Int:=if a.Kind=1 then W a.Text.size++bts a.Text else []
def bB (a:Zb):List Int:=if a.Kind=4 then W (zig a.Low)++W (zig a.High)else []
def nB (a:Zb):List Int:=if 2≤a.Kind∧a.Kind≤4 then W (zig a.Num)else []
def rB (a:Zb):List Int:=if 5≤a.Kind∧a.Kind≤7 then F8 a.Real else []
def lB (a:Zb):List Int:=if 8≤a.Kind then W a.Cap.toNat++(W a.List.length++a.List.flatMap (itB (a.Kind==9)))else []
def recB (a:Zb):List Int:=W a.Kind.toNat++(tB a++(bB a++(nB a++(rB a++lB a))))
structure RB1 (a:Zb):Prop where
 k1:1≤a.Kind
 k9:a.Kind≤9
 text:a.Text.size≤64
 t0:a.Kind≠1→a.Text=ByteArray.empty
 low:-9223372036854775808≤a.Low∧a.Low≤9223372036854775807
 high:-9223372036854775808≤a.High∧a.High≤9223372036854775807
 b0:a.Kind≠4→a.Low=0∧a.High=0
 num:-9223372036854775808≤a.Num∧a.Num≤9223372036854775807
 n0:¬(2≤a.Kind∧a.Kind≤4)→a.Num=0
 real:a.Real<W64∧a.Real=Zcs a.Real
 r0:¬(5≤a.Kind∧a.Kind≤7)→a.Real=0
 cap:8≤a.Kind→0≤a.Cap∧a.Cap≤32∧ItOk (a.Kind==9) a.List
 l0:¬8≤a.Kind→a.Cap=0∧a.List=[]
theorem Z5l {s:ByteArray} (h:sEq s ⟨#[]⟩=true):s=ByteArray.empty:=Zko.1 h
theorem Zbrk {a:Zb} (m:RecW a) (hg:Zd0 a):RB1 a:=by
 obtain⟨k1,k9,n,s,hb,p,t⟩:=hg
 simp only[Zjd,Zb5a,Zb40,decide_eq_true_eq,beq_iff_eq]at n
 obtain⟨⟨⟨⟨o1,o2⟩,o3⟩,o4⟩,o5⟩:=n
 have wl:=m.low;have wh:=m.high;have wn:=m.num
 unfold I64 at wl wh wn
 refine⟨k1,k9,s,fun h=>?_,by omega,by omega,fun h=>?_,by omega,fun h=>?_,⟨m.ok.real,p⟩,fun h=>?_,fun h=>?_,fun h=>?_⟩
 ·rcases o1 with o1 | o1
  ·exact absurd o1 h
  ·exact Z5l o1
 ·rcases o3 with o3 | o3
  ·exact absurd o3 h
  ·exact o3
 ·rcases o2 with o2 | o2
  ·exact absurd o2 h
  ·exact o2
 ·rcases o4 with o4 | o4
  ·exact absurd o4 h
  ·exact Z5z m.ok.real p o4
 ·obtain⟨c1,c2,c3,c4⟩:=t h
  refine⟨by omega,c2,by omega,fun e q=>?_⟩
  obtain⟨i,r,rfl⟩:=Zb5h q
  have hs:=m.ok.sc _ q
  have k:=c4 i r
  unfold Zj7 at k
  rw[Zb4g r]at k
  simp only[]at k
  split at k
  ·cases k
  rename_i n1
  split at k
  ·cases k
  rename_i n2
  have n3:(a.List[i]).Score=Zcs (a.List[i]).Score:=Classical.byContradiction fun h=>n2 (.inr h)
  refine⟨by omega,hs,n3,fun u=>Z5z hs n3 (Classical.byContradiction fun h=>n2 (.inl ⟨?_,h⟩))⟩
  have:a.Kind≠9:=by simpa using u
  omega
 ·rcases o5 with o5 | o5
  ·exact absurd o5 h
  ·exact⟨o5.1,by have:=o5.2;simpa using this⟩
theorem Zbbd {k:Int} (h1:1≤k) (h9:k≤9):Zew k=some ⟨decide (k=1),decide (2≤k∧k≤4),decide (k=4),decide (5≤k∧k≤7),decide (8≤k)⟩:=by
 have:k=1∨k=2∨k=3∨k=4∨k=5∨k=6∨k=7∨k=8∨k=9:=by omega
 rcases this with rfl | rfl | rfl | rfl | rfl | rfl | rfl | rfl | rfl
 ·exact Zban
 ·exact Zbaa
 ·exact Zba6
 ·exact Z9j
 ·exact Z9o
 ·exact Z89
 ·exact Z8k
 ·exact Z96
 ·exact Z98
theorem Zbjk {a:Zb} (h:RB1 a):(recB a).length≤2000:=by
 have h1:=Znk a.Kind.toNat
 have h2:(tB a).length≤74:=by
  unfold tB
  split
  ·have:=Znk a.Text.size;have:=h.text;simp only[Zb4c,Zo3];omega
  ·simp
 have h3:(bB a).length≤20:=by
  unfold bB
  split
  ·have:=Znk (zig a.Low);have:=Znk (zig a.High);simp only[Zb4c];omega
  ·simp
 have h4:(nB a).length≤10:=by
  unfold nB
  split
  ·have:=Znk (zig a.Num);omega
  ·simp
 have h5:(rB a).length≤8:=by unfold rB;split <;> simp[Zzk]
 have h6:(lB a).length≤1400:=by
  unfold lB
  split
  ·rename_i k
   obtain⟨_,_,c3⟩:=h.cap k
   have:=Zbg6 a.List (a.Kind==9) (fun e m=>(c3.2 e m).1)
   have:=c3.1
   have:=Znk a.Cap.toNat;have:=Znk a.List.length
   simp only[Zb4c];omega
  ·simp
 unfold recB
 simp only[Zb4c]
 omega
theorem Zbkm {a:Zb} (h:RB1 a):Puts (fun w=>Zsg w a) (recB a):=fun b m=>by
 show Zsg _ a=_
 unfold recB at m⊢
 simp only[Zb4c]at m
 have k1:=h.k1;have k9:=h.k9
 have n:Zb56.wrap a.Kind=((a.Kind.toNat:Nat):Int):=by rw[wru (by omega) (by omega)];omega
 have hs:a.Text.size<1000000:=by have:=h.text;omega
 unfold Zsg
 rw[Zbbd k1 k9,Zb4b,n]
 refine (Zoq (Zrz (v:=a.Kind.toNat) (by omega)) (by omega) _).trans ?_
 refine (optP (put:=fun w=>Zg0 w a.Text) (bs:=tB a) (fun k=>?_) (fun k=>?_) (by simp only[Zb4c];omega) (Zoj a _)).trans ?_
 ·rw[tB,if_pos (of_decide_eq_true k)];exact Z33 hs
 ·rw[tB,if_neg (of_decide_eq_false k)]
 have e3:Zoj a ⟨decide (a.Kind=1),decide (2≤a.Kind∧a.Kind≤4),decide (a.Kind=4),decide (5≤a.Kind∧a.Kind≤7),decide (8≤a.Kind)⟩ ⟨b++W a.Kind.toNat++tB a⟩=Zp6 a ⟨decide (a.Kind=1),decide (2≤a.Kind∧a.Kind≤4),decide (a.Kind=4),decide (5≤a.Kind∧a.Kind≤7),decide (8≤a.Kind)⟩ ⟨b++W a.Kind.toNat++tB a++bB a⟩:=by
  unfold Zoj
  simp only[]
  unfold bB at m⊢
  by_cases k:a.Kind=4
  ·rw[if_pos k]at m⊢
   rw[if_pos (decide_eq_true k)]
   simp only[Zb4c]at m
   refine (Zoq (Z39 h.low.1 h.low.2) (by simp only[Zb4c];omega) _).trans ?_
   refine (Zoq (Z39 h.high.1 h.high.2) (by simp only[Zb4c];omega) _).trans ?_
   simp only[Zb4i]
  ·rw[if_neg k,Zb4v,if_neg (by simpa using k)]
 rw[e3]
 unfold Zp6
 refine (optP (put:=fun w=>Zg2 w a.Num) (bs:=nB a) (fun k=>?_) (fun k=>?_) (by simp only[Zb4c];omega) (Zqj a _)).trans ?_
 ·rw[nB,if_pos (of_decide_eq_true k)];exact Z39 h.num.1 h.num.2
 ·rw[nB,if_neg (of_decide_eq_false k)]
 unfold Zqj
 refine (optP (put:=fun w=>Zg1 w a.Real) (bs:=rB a) (fun k=>?_) (fun k=>?_) (by simp only[Zb4c];omega) (Zqe a _)).trans ?_
 ·rw[rB,if_pos (of_decide_eq_true k)];exact Z8i h.real.1 h.real.2
 ·rw[rB,if_neg (of_decide_eq_false k)]
 unfold Zqe
 simp only[]
 unfold lB at m⊢
 by_cases k:8≤a.Kind
 ·obtain⟨c1,c2,c3⟩:=h.cap k
  rw[if_pos k]at m⊢
  simp only[Zb4c]at m
  have c4:=c3.1
  have p:Zb56.wrap a.Cap=((a.Cap.toNat:Nat):Int):=by rw[wru (by omega) (by omega)];omega
  rw[if_neg (by simpa using k),p,wru (x:=(a.List.length:Int)) (by omega) (by omega)]
  refine (Zoq (Zrz (v:=a.Cap.toNat) (by omega)) (by simp only[Zb4c];omega) _).trans ?_
  refine (Zoq (Zrz (v:=a.List.length) (by omega)) (by simp only[Zb4c];omega) _).trans ?_
  have:=Zbg4 rfl c3 a.List.length 0 (b++W a.Kind.toNat++tB a++bB a++nB a++rB a++W a.Cap.toNat++W a.List.length) (by omega) (by simp only[Zb4c,Zb4n];omega)
  rw[show ((0:Nat):Int)=0 from rfl,Zb4n]at this
  rw[show (Zb4p ((a.List.length:Int)-(0:Int))+1)=a.List.length+1 by omega,this]
  simp only[Zb4i,Zb4b]
 ·rw[if_neg k,if_pos (by simpa using k)]
  simp only[Zb4i,Zb4v]
theorem Zbhf {a:Zb} (h:RB1 a) (m:Zeg a=some 0):Zrn Zsk (recB a) a:=fun X i post p A=>by
 have k1:=h.k1;have k9:=h.k9
 have B:((a.Kind.toNat:Nat):Int)=a.Kind:=by omega
 have C:(a.Text.size:Int)≤64:=by have:=h.text;omega
 have y:X.drop i=W a.Kind.toNat++(tB a++(bB a++(nB a++(rB a++(lB a++post))))):=by rw[A];unfold recB;simp only[Zb4i]
 have b:=Zd7 y
 have n:=Zd7 b
 have d:=Zd7 n
 have f:=Zd7 d
 have q:=Zd7 f
 unfold Zsk
 refine (Zpg (Zop (v:=a.Kind.toNat) (l:=9) (by omega) (by decide)) p y (fun x R=>if (({(default:Zb)with Kind:=x}:Zb).Kind==(0:Int))then ((Zd2 R (5:Int)).bind fun r4=>(Zm9 (x,R) r4))else (Zm9 (x,R) R))).trans ?_
 simp only[B]
 rw[if_neg (by simp;omega)]
 unfold Zm9
 simp only[]
 rw[Zbbd k1 k9,Zb4b]
 generalize k:(⟨decide (a.Kind=1),decide (2≤a.Kind∧a.Kind≤4),decide (a.Kind=4),decide (5≤a.Kind∧a.Kind≤7),decide (8≤a.Kind)⟩:Zck)=sh
 refine (optT (take:=fun r=>Zfg r 64) (bs:=tB a) (x:=a.Text) (c:=sh.text) (fun s R=>Znb sh ⟨a.Kind,0,0,0,0,0,s,[]⟩ R) (fun m=>?_) (fun m=>?_) p b).trans ?_
 ·subst k;rw[tB,if_pos (of_decide_eq_true m)];exact Z0o C (by decide)
 ·subst k
  have t:=of_decide_eq_false m
  rw[tB,if_neg t,h.t0 t];exact⟨rfl,rfl⟩
 have e3:Znb sh ⟨a.Kind,0,0,0,0,0,a.Text,[]⟩ ⟨X,((i+(W a.Kind.toNat).length+(tB a).length:Nat):Int)⟩=Zld sh ⟨a.Kind,0,a.Low,a.High,0,0,a.Text,[]⟩ ⟨X,((i+(W a.Kind.toNat).length+(tB a).length+(bB a).length:Nat):Int)⟩:=by
  unfold Znb
  subst k
  simp only[]
  unfold bB at n⊢
  by_cases w:a.Kind=4
  ·rw[if_pos w]at n⊢
   rw[if_pos (decide_eq_true w)]
   rw[Zb4i]at n
   refine (Zpg (Z0l h.low.1 h.low.2) p n (fun x R=>(Zfh R).bind fun r17=>Zld _ ⟨a.Kind,0,x,r17.1,0,0,a.Text,[]⟩ r17.2)).trans ?_
   refine (Zpg (Z0l h.high.1 h.high.2) p (Zd7 n) (fun x R=>Zld _ ⟨a.Kind,0,a.Low,x,0,0,a.Text,[]⟩ R)).trans ?_
   simp only[Zb4c,Zb5c]
  ·rw[if_neg w,if_neg (by simpa using w),(h.b0 w).1,(h.b0 w).2];rfl
 rw[e3]
 unfold Zld
 refine (optT (take:=Zfh) (bs:=nB a) (x:=a.Num) (c:=sh.num) (fun s R=>Zo9 sh ⟨a.Kind,s,a.Low,a.High,0,0,a.Text,[]⟩ R) (fun m=>?_) (fun m=>?_) p d).trans ?_
 ·subst k;rw[nB,if_pos (of_decide_eq_true m)];exact Z0l h.num.1 h.num.2
 ·subst k
  have t:=of_decide_eq_false m
  rw[nB,if_neg t,h.n0 t];exact⟨rfl,rfl⟩
 unfold Zo9
 refine (optT (take:=Zht) (bs:=rB a) (x:=a.Real) (c:=sh.real) (fun s R=>Zo5 sh ⟨a.Kind,a.Num,a.Low,a.High,s,0,a.Text,[]⟩ R) (fun m=>?_) (fun m=>?_) p f).trans ?_
 ·subst k;rw[rB,if_pos (of_decide_eq_true m)];exact Z5q h.real.1 h.real.2
 ·subst k
  have t:=of_decide_eq_false m
  rw[rB,if_neg t,h.r0 t];exact⟨rfl,rfl⟩
 have fin:∀R,Zle a R=some (a,R):=fun R=>by
  unfold Zle
  rw[m,Zb4b,if_neg (by simp)];rfl
 unfold Zo5
 unfold lB at q
 by_cases u:8≤a.Kind
 ·obtain⟨c1,c2,c3⟩:=h.cap u
  have c4:=c3.1
  rw[if_pos u]at q
  simp only[Zb4i]at q
  subst k
  rw[if_pos (decide_eq_true u)]
  have j:((a.Cap.toNat:Nat):Int)=a.Cap:=by omega
  refine (Zpg (Zop (v:=a.Cap.toNat) (l:=32) (by omega) (by decide)) p q (fun x R=>(Zea R (32:Int)).bind fun r34=>((Zg5 r34 (Zb4p (r34.1-(0:Int))+1) ⟨a.Kind,a.Num,a.Low,a.High,a.Real,x,a.Text,[]⟩ (0:Int) r34.2).bind fun z50=>match z50 with | (y48,y49)=>(Zle y48 y49)))).trans ?_
  have g:=Zd7 q
  refine (Zpg (Zop (v:=a.List.length) (l:=32) (by omega) (by decide)) p g (fun x R=>(Zg5 (x,R) (Zb4p (x-(0:Int))+1) ⟨a.Kind,a.Num,a.Low,a.High,a.Real,((a.Cap.toNat:Nat):Int),a.Text,[]⟩ (0:Int) R).bind fun z50=>match z50 with | (y48,y49)=>(Zle y48 y49))).trans ?_
  have o:=Zd7 g
  rw[j,show (Zb4p ((a.List.length:Int)-(0:Int))+1)=a.List.length+1 by omega]
  refine (congrArg (fun z=>Option.bind z _) (Zbfq rfl c3 (r34:=((a.List.length:Int),_)) rfl p a.List.length 0 _ ⟨a.Kind,a.Num,a.Low,a.High,a.Real,a.Cap,a.Text,[]⟩ post (by omega) rfl (by simp) (by rw[Zb4n];exact o))).trans ?_
  rw[Zb4b]
  refine (fin _).trans ?_
  unfold recB lB
  rw[if_pos u,Zb4n]
  simp only[Zb4c,Zb5c]
 ·subst k
  rw[if_neg (by simpa using u)]
  obtain⟨g1,g2⟩:=h.l0 u
  have e:(⟨a.Kind,a.Num,a.Low,a.High,a.Real,0,a.Text,[]⟩:Zb)=a:=by
   cases a;simp only[]at g1 g2;subst g1 g2;rfl
  rw[e]
  refine (fin _).trans ?_
  unfold recB lB
  rw[if_neg u,Zb4v]
  simp only[Zb4c,Zb5c]
variable {r:Zb} {a:Zw}
theorem Z9q {l:Zet} {c:Int} (h1:1≤c) (h2:c≤32):cut l 0 (min (l.length:Int) c)=some (l.take c.toNat):=by
 unfold cut
 rw[if_pos (by omega)]
 simp only[Int.toNat_zero,Zb4n,Zb52]
 congr 1
 rcases Int.le_total (l.length:Int) c with h | h
 ·rw[Int.min_eq_left h,Zb45,Zb4o (Zb57 _),Zb4o (by omega)]
 ·rw[Int.min_eq_right h]
theorem Zbhz (h:a.Kind=21) (m:RecW r) (hg:Zd0 r) (hk:r.Kind=9) (w:ActW a):Chg r a:=by
 have hl:=m.len
 obtain⟨c1,c2,c3⟩:=Z6z hg (by omega)
 have e1:Zbz a.Kind r a default=Zoc r a default:=by rw[h];rfl
 have e2:Zch r a=(Zho r.List ({Score:=a.X,Name:=a.S}:Zn) false).bind fun r63=>(if (decide (r.Cap<(r63.length:Int)))then ((cut r63 (0:Int) r.Cap).bind fun c66=>(Zf8 r c66))else (Zf8 r r63)):=by unfold Zch Zc6;rw[h];rfl
 have t:({Score:=a.X,Name:=a.S}:Zn).Score<W64:=w.ok.2
 have z:=Zus (Zfb {Score:=a.X,Name:=a.S} false) r.List
 unfold Chg
 rw[e1,e2]
 unfold Zoc
 rw[Z6x w.ok.2 m.ok.sc (by omega),Zbdq t m.ok.sc (by omega),Zwh (by omega)]
 simp only[Zb4b]
 have fin:∀L:Zet,L=r.List.take (pre (Zfb {Score:=a.X,Name:=a.S} false) r.List)++[{Score:=a.X,Name:=a.S}]++r.List.drop (pre (Zfb {Score:=a.X,Name:=a.S} false) r.List)→layL {Score:=a.X,Name:=a.S} false r.List=L →
   ∃c r' o,((Zc3 r.List ((pre (Zfb {Score:=a.X,Name:=a.S} false) r.List:Nat):Int) ([({Score:=a.X,Name:=a.S}:Zn)]:List Zn)).bind fun r16=>((cut r16 (0:Int) (min (r16.length:Int) r.Cap)).bind fun c18=>(some ((0:Int),({r with List:=c18}),(default:Zm)))))=some (c,r',o) ∧
    (if (decide (r.Cap<((layL {Score:=a.X,Name:=a.S} false r.List).length:Int)))=true then ((cut (layL {Score:=a.X,Name:=a.S} false r.List) (0:Int) r.Cap).bind fun c66=>(Zf8 r c66))else (Zf8 r (layL {Score:=a.X,Name:=a.S} false r.List)))=some (if c=0 then (r',o)else (r,ans c))∧RecW r'∧RecW o.Rec∧(c=0→o.Code=0∧o.Num=0):=by
  intro L u n
  have d:L.length=r.List.length+1:=by rw[u];simp;omega
  have x:∀e∈L,e.Score<W64:=fun e k=>by
   rw[u]at k
   simp only[Zb46,Zb41]at k
   rcases k with (k | rfl) | k
   ·exact m.ok.sc e (Zb43 k)
   ·exact t
   ·exact m.ok.sc e (Zb5e k)
  rw[n]
  unfold Zc3 Zf8 Zbf
  rw[if_pos ⟨by omega,by omega,by simp,by simp;omega⟩]
  simp only[Zb4b,Zb45]
  rw[←u,Z9q c1 c2]
  refine⟨0,{r with List:=L.take r.Cap.toNat},ans 0,rfl,?_,m.withList (by simp;omega) (fun e k=>x e (Zb43 k)),Zem,fun _=>⟨rfl,rfl⟩⟩
  by_cases q:decide (r.Cap<(L.length:Int))=true
  ·rw[if_pos q]
   have:r.Cap<(L.length:Int):=of_decide_eq_true q
   unfold cut
   rw[if_pos (by omega)]
   simp
  ·rw[if_neg q]
   have:¬r.Cap<(L.length:Int):=fun h=>q (decide_eq_true h)
   rw[Zb4o (by omega)];rfl
 by_cases p:pre (Zfb {Score:=a.X,Name:=a.S} false) r.List<r.List.length
 ·have v:decide (((pre (Zfb {Score:=a.X,Name:=a.S} false) r.List:Nat):Int)<(r.List.length:Int))=true:=by simpa using p
  have y:=Z4c (Zb4g p)
  have b:Zej r.List[pre (Zfb {Score:=a.X,Name:=a.S} false) r.List] {Score:=a.X,Name:=a.S}=false:=y
  have s:=Zbc1 b
  rw[v,Zc0 p]
  simp only[gd_t,Zb4b,Zb4t]
  rw[Zvq t (m.ok.sc _ (Zb4m p))]
  simp only[Zb4b]
  by_cases hs:(!Zej {Score:=a.X,Name:=a.S} r.List[pre (Zfb {Score:=a.X,Name:=a.S} false) r.List])=true
  ·rw[if_pos hs]
   have n:layL {Score:=a.X,Name:=a.S} false r.List=r.List:=by
    unfold layL
    rw[Zb4g p]
    simp only
    rw[if_pos (by rw[←s];exact hs),Zb4v,Zb58]
   rw[n,if_neg (by simp;omega)]
   exact⟨0,r,_,rfl,rfl,m,Zem,fun _=>⟨rfl,rfl⟩⟩
  ·rw[if_neg hs]
   refine fin _ rfl ?_
   unfold layL
   rw[Zb4g p]
   simp only
   rw[if_neg (by rw[←s];exact hs)]
 ·have v:decide (((pre (Zfb {Score:=a.X,Name:=a.S} false) r.List:Nat):Int)<(r.List.length:Int))=false:=by simpa using p
  rw[v]
  simp only[gd_f,Zb4b,Zb4s,Zb4d,if_false]
  refine fin _ rfl ?_
  unfold layL
  rw[List.getElem?_eq_none (by omega),Zb4o (by omega),Zb4k (by omega),Zb4v]
theorem Z0j {k:Int} (h1:1≤k) (h2:k≤21):∃on,Zqv k=some on∧Zgh k=some on∧(k≤4→on=0)∧(5≤k→on≠0)∧((k=10∨k=11)→on=4)∧((k=18∨k=19∨k=20)→on=8)∧(k=21→on=9) ∧
  ((k=5∨k=6)→on=1)∧(k=7→on=2)∧((k=8∨k=9)→on=3)∧(k=12→on=4)∧(k=13→on=5)∧(k=14→on=6)∧((k=15∨k=16∨k=17)→on=7):=by
 have h:k=1∨k=2∨k=3∨k=4∨k=5∨k=6∨k=7∨k=8∨k=9∨k=10∨k=11∨k=12∨k=13∨k=14∨k=15∨k=16∨k=17∨k=18∨k=19∨k=20∨k=21:=by omega
 rcases h with rfl | rfl | rfl | rfl | rfl | rfl | rfl | rfl | rfl | rfl | rfl | rfl | rfl | rfl | rfl | rfl | rfl | rfl | rfl | rfl | rfl
 all_goals first
  | exact⟨0,by kernel_rfl,by kernel_rfl,by decide⟩
  | exact⟨1,by kernel_rfl,by kernel_rfl,by decide⟩
  | exact⟨2,by kernel_rfl,by kernel_rfl,by decide⟩
  | exact⟨3,by kernel_rfl,by kernel_rfl,by decide⟩
  | exact⟨4,by kernel_rfl,by kernel_rfl,by decide⟩
  | exact⟨5,by kernel_rfl,by kernel_rfl,by decide⟩
  | exact⟨6,by kernel_rfl,by kernel_rfl,by decide⟩
  | exact⟨7,by kernel_rfl,by kernel_rfl,by decide⟩
  | exact⟨8,by kernel_rfl,by kernel_rfl,by decide⟩
  | exact⟨9,by kernel_rfl,by kernel_rfl,by decide⟩
theorem Zbdy (h5:5≤a.Kind) (p:a.Kind≤21) (m:RecW r) (hg:Zd0 r) (q:Zqv a.Kind=some r.Kind) (n:ActW a):Chg r a:=by
 obtain⟨on,o1,_,_,_,k10,k18,k21,_⟩:=Z0j (k:=a.Kind) (by omega) p
 rw[q]at o1
 obtain rfl:=Zb4e.inj o1
 have s:a.Kind=5∨a.Kind=6∨a.Kind=7∨a.Kind=8∨a.Kind=9∨a.Kind=10∨a.Kind=11∨a.Kind=12∨a.Kind=13∨a.Kind=14∨a.Kind=15∨a.Kind=16∨a.Kind=17∨a.Kind=18∨a.Kind=19∨a.Kind=20∨a.Kind=21:=by omega
 rcases s with h | h | h | h | h | h | h | h | h | h | h | h | h | h | h | h | h
 ·exact Zbm8 h m
 ·exact Zbky h m
 ·exact Zbmw h m
 ·exact Zbjv h m n
 ·exact Z6u (.inl h) m
 ·exact Zbqc h m hg (k10 (.inl h)) n
 ·exact Zbnf h m hg (k10 (.inr h)) n
 ·exact Z6u (.inr h) m
 ·exact Zbhu h m hg n
 ·exact Zbir h m hg n
 ·exact Zbia h m
 ·exact Zbip h m
 ·exact Zbni h m n
 ·exact Zbjo h m hg (k18 (.inl h))
 ·exact Z6r h m hg (k18 (.inr (.inl h)))
 ·exact Zbon h m hg (k18 (.inr (.inr h)))
 ·exact Zbhz h m hg (k21 h) n
structure ActIn (a:Zw):Prop where
 ok:Z2w a
 n:I64 a.N
 mkr:RecW a.Make
theorem ActIn.w {a:Zw} (h:ActIn a) {c:Int} (k:1≤a.Kind∧a.Kind≤21∧a.X=Zcs a.X∧a.S.size≤64∧((a.Kind=10∨a.Kind=11)→0≤a.N∧a.N≤2305843009213693952)∧(a.Kind=1→Zeg a.Make=some 0)∧(¬(5≤a.Kind∧a.Kind≤6)→a.S.size≤16)∧sEq a.Key ⟨#[]⟩=false∧a.Key.size≤24):ActW a :=
 ⟨h.ok,h.n,h.mkr,k.2.2.1,k.2.2.2.2.1,k.2.2.2.1,k.2.2.2.2.2.2.1⟩
theorem Zbc8 {there:Bool} {r:Zb} {c:Int} (k:c≠0) {on:Int} (m:Zgh a.Kind=some on):Zfr there a r c=some (r,there,ans c):=by
 have h:(c==0)=false:=by simpa using k
 have n:(c !=0)=true:=by simpa using k
 unfold Zfr
 simp only[h,Zb4s,Zb4d,if_false]
 unfold Zhx
 simp only[h,Zb4s,Zb4d,if_false]
 unfold Zhy
 rw[m]
 simp only[h,Zb4s,Zb4d,if_false,Zb4b]
 unfold Zhz
 rw[if_pos n]
theorem Zbnj (k:Int):∃on,Zgh k=some on:=by
 by_cases h:k<0∨21<k
 ·exact⟨0,by unfold Zgh;rw[if_pos (by simpa using h)]⟩
 ·by_cases m:k=0
  ·exact⟨0,by rw[m];kernel_rfl⟩
  ·obtain⟨on,_,n,_⟩:=Z0j (k:=k) (by omega) (by omega)
   exact⟨on,n⟩
theorem Zbfr {r:Zb} {there:Bool} {a:Zw} (d:RecW r) (p:ActIn a):∃x is out,Zon r there a=some (x,is,out)∧Zky r there a=some (x,is,out)∧RecW x∧RecW out.Rec:=by
 suffices hs:∀r0:Zb,RecW r0→∃x is out,Zjc there a r0=some (x,is,out)∧Zhu there a r0=some (x,is,out)∧RecW x∧RecW out.Rec by
  unfold Zon Zky
  cases there
  ·exact hs _ Zem
  ·exact hs r d
 intro r0 k
 unfold Zjc Zhu
 rw[Zoa k.len,Zvu k.len]
 obtain⟨c,e,f,g⟩:=Zri p.ok
 obtain⟨on,y⟩:=Zbnj a.Kind
 rw[e,f]
 simp only[Zb4b]
 by_cases m:c=0
 ·subst m
  have q:=g rfl
  have i:=p.w (c:=0) q
  obtain⟨on2,o1,o2,o3,o4,_⟩:=Z0j q.1 q.2.1
  have main:(there=true→Zd0 r0)→∃x is out,Zjb there a r0=some (x,is,out)∧Zfr there a r0 0=some (x,is,out)∧RecW x∧RecW out.Rec:=by
   intro hg
   unfold Zjb Zi3 Zfr Zhx Zhy
   rw[o1,o2,Zoa k.len,Zoa p.mkr.len]
   unfold Zhz
   rw[Zvu k.len,Zvu p.mkr.len]
   simp only[Zb4b]
   by_cases k1:a.Kind=1
   ·rw[k1,o3 (by omega)]
    cases there
    ·exact⟨a.Make,true,ans 0,rfl,rfl,p.mkr,Zem⟩
    ·exact⟨r0,true,ans 7,rfl,rfl,k,Zem⟩
   ·by_cases k3:a.Kind=3
    ·rw[k3,o3 (by omega)]
     cases there
     ·exact⟨r0,false,{ans 0 with Num:=r0.Kind},rfl,rfl,k,Zem⟩
     ·exact⟨r0,true,{ans 0 with Num:=r0.Kind},rfl,rfl,k,Zem⟩
    ·by_cases k2:a.Kind=2
     ·rw[k2,o3 (by omega)]
      cases there
      ·exact⟨r0,false,ans 6,rfl,rfl,k,Zem⟩
      ·exact⟨zrc,false,ans 0,rfl,rfl,Zem,Zem⟩
     ·by_cases k4:a.Kind=4
      ·rw[k4,o3 (by omega)]
       cases there
       ·exact⟨r0,false,ans 6,rfl,rfl,k,Zem⟩
       ·exact⟨r0,true,{ans 0 with Rec:=r0},rfl,rfl,k,k⟩
      ·have v:5≤a.Kind:=by omega
       have b1:(a.Kind==1)=false:=by simpa using k1
       have b2:(a.Kind==2)=false:=by simpa using k2
       have b3:(a.Kind==3)=false:=by simpa using k3
       have b4:(a.Kind==4)=false:=by simpa using k4
       have b1':(a.Kind !=1)=true:=by simpa using k1
       have b3':(a.Kind !=3)=true:=by simpa using k3
       have bo:(on2 !=0)=true:=by simpa using o4 v
       simp only[b1,b2,b3,b4,b1',b3',bo,Zb4s,Zb6y,Bool.and_true,Zb4t,Zb4d,if_false,beq_self_eq_true]
       cases there
       ·exact⟨r0,false,ans 6,rfl,rfl,k,Zem⟩
       ·simp only[Zb4z,Zb4d,if_false,Zb6y,Zb4s,beq_self_eq_true,Zb4t]
        by_cases s:(on2 !=r0.Kind)=true
        ·rw[if_pos s,if_pos s]
         exact⟨r0,true,ans 5,rfl,rfl,k,Zem⟩
        ·rw[if_neg s,if_neg s,if_pos ⟨v,q.2.1⟩]
         have z:on2=r0.Kind:=by simpa using s
         obtain⟨c,r',o,e1,e2,w1,w2,_⟩:=Zbdy v q.2.1 k (hg rfl) (by rw[←z];exact o1) i
         rw[e1,e2]
         simp only[Zb4b]
         by_cases m:c=0
         ·subst m
          exact⟨r',true,o,rfl,rfl,w1,w2⟩
         ·have n:(c !=0)=true:=by simpa using m
          rw[if_pos n,if_neg m]
          exact⟨r0,true,ans c,rfl,rfl,k,Zem⟩
  have z1:((0:Int)!=0)=false:=rfl
  have z2:((0:Int)==0)=true:=rfl
  rw[z1,z2]
  simp only[Zb4d,if_false,Zb4t]
  by_cases t:there=true
  ·rw[if_pos t,if_pos t]
   obtain⟨c2,g1,g2⟩:=Zp4 k.ok
   rw[g1,g2]
   simp only[Zb4b]
   by_cases u:c2=0
   ·subst u
    rw[z1]
    exact main fun _=>(Zqg k.ok).1 g1
   ·have n:(c2 !=0)=true:=by simpa using u
    rw[if_pos n,Zbc8 u o2]
    exact⟨r0,there,ans c2,rfl,rfl,k,Zem⟩
  ·rw[if_neg t,if_neg t]
   exact main fun h=>absurd h t
 ·have n:(c !=0)=true:=by simpa using m
  have b:(c==0)=false:=by simpa using m
  rw[if_pos n,b]
  simp only[Zb4s,Zb4d,if_false]
  rw[Zbc8 m y]
  exact⟨r0,there,ans c,rfl,rfl,k,Zem⟩
def af (k c:Int):Bool:=((Znm k).bind fun q=>Zb8 q c).getD false
def kOk (k:Int):Bool:=match Znm k with
 | none=>false
 | some q=>!sEq q.word ⟨#[]⟩&&((Zb8 q 110).isSome&&((Zb8 q 120).isSome&&((Zb8 q 115).isSome&&((Zb8 q 109==some (k==1))&&(Zq7 q==some (if 5≤k∧k≤6 then 64 else 16))))))
theorem Zbm3:∀k:Nat,k<21→kOk ((k+1:Nat):Int)=true:=by decide +kernel
structure AF (k:Int) (q:Zds):Prop where
 of:Znm k=some q
 word:sEq q.word ⟨#[]⟩=false
 n:Zb8 q 110=some (af k 110)
 x:Zb8 q 120=some (af k 120)
 s:Zb8 q 115=some (af k 115)
 m:Zb8 q 109=some (k==1)
 most:Zq7 q=some (if 5≤k∧k≤6 then 64 else 16)
theorem Zbf3 {k:Int} (h1:1≤k) (h2:k≤21):∃q,AF k q:=by
 have h:=Zbm3 (k-1).toNat (by omega)
 rw[show (((k-1).toNat+1:Nat):Int)=k by omega]at h
 unfold kOk at h
 cases m:Znm k with
 | none=>rw[m]at h;cases h
 | some q =>
  rw[m]at h
  simp only[Zb5a,Bool.not_eq_true',beq_iff_eq]at h
  obtain⟨g1,g2,g3,g4,g5,g6⟩:=h
  have e:∀c,(Zb8 q c).isSome=true→Zb8 q c=some (af k c):=fun c n=>by
   unfold af
   rw[m,Zb4b]
   cases p:Zb8 q c with
   | none=>rw[p]at n;cases n
   | some z=>rfl
  exact⟨q,m,g1,e _ g2,e _ g3,e _ g4,g5,g6⟩
theorem Zbgz {n x s m o1 k1 k2:Bool} {c:Int} {a:Zw} (h:actD n x s m o1 k1 k2 c a=0):(((n||a.N==0)&&(x||decide (keyf a.X=keyf 0)))&&(s||sEq a.S ⟨#[]⟩)&&(m||Zpc a.Make zrc))=true:=by
 unfold actD at h
 revert h
 generalize (sEq a.Key ⟨#[]⟩||decide ((24:Int)<a.Key.size))=b1
 generalize (((n||a.N==0)&&(x||decide (keyf a.X=keyf 0)))&&(s||sEq a.S ⟨#[]⟩)&&(m||Zpc a.Make zrc))=b2
 cases b1 <;> cases b2 <;> simp
theorem Zbhw {x:Nat} (h:keyf x=keyf 0):x=0:=by
 unfold keyf at h
 rw[if_neg (show ¬isn 0 by decide),if_neg (show ¬TOP≤0 by decide)]at h
 split at h
 ·exact absurd h (by decide)
 ·split at h
  ·unfold TOP at *;omega
  ·omega
theorem Zbqu {r:Zb} (h:Zpc r zrc=true):r=zrc:=by
 unfold Zpc at h
 simp only[Zb5a,beq_iff_eq,decide_eq_true_eq]at h
 obtain⟨⟨⟨⟨⟨⟨⟨n,p⟩,q⟩,s⟩,v⟩,t⟩,w⟩,x⟩:=h
 have u:=Zbhw v
 have k:=Z5l w
 have m:=Zz1 x
 cases r
 simp only[]at n p q s t u k m
 subst n p q s t u k
 rw[List.eq_nil_of_length_eq_zero m]
structure AB (a:Zw):Prop where
 k1:1≤a.Kind
 k21:a.Kind≤21
 key:a.Key.size≤24
 num:-9223372036854775808≤a.N∧a.N≤9223372036854775807
 n0:af a.Kind 110=false→a.N=0
 x:a.X<W64∧a.X=Zcs a.X
 x0:af a.Kind 120=false→a.X=0
 s:a.S.size≤(if 5≤a.Kind∧a.Kind≤6 then 64 else 16)
 s0:af a.Kind 115=false→a.S=ByteArray.empty
 mkr:(a.Kind==1)=true→RB1 a.Make∧Zeg a.Make=some 0
 m0:(a.Kind==1)=false→a.Make=zrc
theorem Zbsv {a:Zw} (k:ActIn a) (r:Ze7 a=some 0):AB a:=by
 obtain⟨c,e1,_,e3⟩:=Zri k.ok
 rw[r]at e1
 obtain rfl:=Zb4e.inj e1
 obtain⟨k1,k21,xc,s64,_,mk,s16,_,key⟩:=e3 rfl
 obtain⟨q,p⟩:=Zbf3 k1 k21
 obtain⟨c2,t,_⟩:=Zp4 k.ok.1
 have hs:=Z56 (w:=q.word) (on:=q.on) (has:=q.has) k.ok t p.of p.word p.n p.x p.s p.m
 rw[r]at hs
 have u:=Zbgz (Zb4e.inj hs).symm
 simp only[Zb5a]at u
 obtain⟨⟨⟨b1,b2⟩,b3⟩,b4⟩:=u
 have v:=k.n
 unfold I64 at v
 refine⟨k1,k21,key,v,fun h=>?_,⟨k.ok.2,xc⟩,fun h=>?_,?_,fun h=>?_,fun h=>?_,fun h=>?_⟩
 ·rw[h]at b1;simpa using b1
 ·rw[h]at b2;exact Zbhw (by simpa using b2)
 ·split
  ·exact s64
  ·rename_i h;exact s16 h
 ·rw[h]at b3;exact Z5l (by simpa using b3)
 ·have:=mk (by simpa using h)
  exact⟨Zbrk k.mkr ((Zqg k.mkr.ok).1 this),this⟩
 ·rw[h]at b4;exact Zbqu (by simpa using b4)
def aN (a:Zw):List Int:=if af a.Kind 110=true then W (zig a.N)else []
def aX (a:Zw):List Int:=if af a.Kind 120=true then F8 a.X else []
def aS (a:Zw):List Int:=if af a.Kind 115=true then W a.S.size++bts a.S else []
def aM (a:Zw):List Int:=if (a.Kind==1)=true then recB a.Make else []
def actB (a:Zw):List Int:=W a.Kind.toNat++(fl a.Must++((W a.Key.size++bts a.Key)++(aN a++(aX a++(aS a++aM a)))))
theorem Zbjt {a:Zw} (h:AB a):1≤(actB a).length∧(actB a).length≤2200:=by
 have h1:=Znk a.Kind.toNat
 have h2:=Znk a.Key.size
 have h3:(fl a.Must).length=1:=by cases a.Must <;> rfl
 have h4:(aN a).length≤10:=by
  unfold aN;split
  ·have:=Znk (zig a.N);omega
  ·simp
 have h5:(aX a).length≤8:=by unfold aX;split <;> simp[Zzk]
 have h6:(aS a).length≤74:=by
  unfold aS;split
  ·have:=Znk a.S.size
   have hs:=h.s
   split at hs <;> simp only[Zb4c,Zo3] <;> omega
  ·simp
 have h7:(aM a).length≤2000:=by
  unfold aM;split
  ·rename_i k;exact Zbjk (h.mkr k).1
  ·simp
 have h8:=h.key
 unfold actB
 simp only[Zb4c,Zo3]
 omega
theorem Zbk7 {a:Zw} (h:AB a):Puts (fun w=>Zrd w a) (actB a):=fun b r=>by
 show Zrd _ a=_
 obtain⟨q,p⟩:=Zbf3 h.k1 h.k21
 have k1:=h.k1;have k21:=h.k21
 have t:Zb56.wrap a.Kind=((a.Kind.toNat:Nat):Int):=by rw[wru (by omega) (by omega)];omega
 have u:a.Key.size<1000000:=by have:=h.key;omega
 have y:a.S.size<1000000:=by have:=h.s;split at this <;> omega
 unfold actB at r⊢
 simp only[Zb4c]at r
 unfold Zrd
 rw[p.of,Zb4b,t]
 refine (Zoq (Zrz (v:=a.Kind.toNat) (by omega)) (by omega) _).trans ?_
 refine (Zoq (Zbim a.Must) (by simp only[Zb4c];omega) _).trans ?_
 refine (Zoq (Z33 u) (by simp only[Zb4c];omega) _).trans ?_
 rw[p.n,Zb4b]
 refine (optP (put:=fun w=>Zg2 w a.N) (bs:=aN a) (fun k=>?_) (fun k=>?_) (by simp only[Zb4c];omega) (Znu a q)).trans ?_
 ·rw[aN,if_pos k];exact Z39 h.num.1 h.num.2
 ·rw[aN,if_neg (by simp[k])]
 unfold Znu
 rw[p.x,Zb4b]
 refine (optP (put:=fun w=>Zg1 w a.X) (bs:=aX a) (fun k=>?_) (fun k=>?_) (by simp only[Zb4c];omega) (Znn a q)).trans ?_
 ·rw[aX,if_pos k];exact Z8i h.x.1 h.x.2
 ·rw[aX,if_neg (by simp[k])]
 unfold Znn
 rw[p.s,Zb4b]
 refine (optP (put:=fun w=>Zg0 w a.S) (bs:=aS a) (fun k=>?_) (fun k=>?_) (by simp only[Zb4c];omega) (Znv a q)).trans ?_
 ·rw[aS,if_pos k];exact Z33 y
 ·rw[aS,if_neg (by simp[k])]
 unfold Znv
 rw[p.m,Zb4b]
 refine (optP (put:=fun w=>Zsg w a.Make) (bs:=aM a) (fun k=>?_) (fun k=>?_) (by simp only[Zb4c];omega) Znw).trans ?_
 ·rw[aM,if_pos k];exact Zbkm (h.mkr k).1
 ·rw[aM,if_neg (by simp[k])]
 unfold Znw
 simp only[Zb4i]
theorem Zbh9 {a:Zw} (h:AB a) (k:Ze7 a=some 0):Zrn Zuh (actB a) a:=fun X i post p g=>by
 obtain⟨q,t⟩:=Zbf3 h.k1 h.k21
 have k1:=h.k1;have k21:=h.k21
 have j:((a.Kind.toNat:Nat):Int)=a.Kind:=by omega
 have e:(a.Key.size:Int)≤24:=by have:=h.key;omega
 have u:X.drop i=W a.Kind.toNat++(fl a.Must++((W a.Key.size++bts a.Key)++(aN a++(aX a++(aS a++(aM a++post)))))):=by rw[g];unfold actB;simp only[Zb4i]
 have w:=Zd7 u
 have y:=Zd7 w
 have z:=Zd7 y
 have b:=Zd7 z
 have c:=Zd7 b
 have f:=Zd7 c
 unfold Zuh
 refine (Zpg (Zop (v:=a.Kind.toNat) (l:=21) (by omega) (by decide)) p u (fun x R=>if (({(default:Zw)with Kind:=x}:Zw).Kind==(0:Int))then ((Zd2 R (5:Int)).bind fun r4=>(Znc (x,R) r4))else (Znc (x,R) R))).trans ?_
 simp only[j]
 rw[if_neg (by simp;omega)]
 unfold Znc
 simp only[]
 rw[t.of,Zb4b]
 refine (Zpg (Zbfo a.Must) p w (fun x R=>(Zfg R (24:Int)).bind fun r11=>((Zb8 q (110:Int)).bind fun r13=>(if r13 then ((Zfh r11.2).bind fun r16=>(Ziq q ⟨a.Kind,r11.1,r16.1,0,ByteArray.empty,zrc,x⟩ r16.2))else (Ziq q ⟨a.Kind,r11.1,0,0,ByteArray.empty,zrc,x⟩ r11.2))))).trans ?_
 refine (Zpg (Z0o e (by decide)) p y (fun x R=>((Zb8 q (110:Int)).bind fun r13=>(if r13 then ((Zfh R).bind fun r16=>(Ziq q ⟨a.Kind,x,r16.1,0,ByteArray.empty,zrc,a.Must⟩ r16.2))else (Ziq q ⟨a.Kind,x,0,0,ByteArray.empty,zrc,a.Must⟩ R))))).trans ?_
 rw[t.n,Zb4b]
 refine (optT (take:=Zfh) (bs:=aN a) (x:=a.N) (fun s R=>Ziq q ⟨a.Kind,a.Key,s,0,ByteArray.empty,zrc,a.Must⟩ R) (fun k=>?_) (fun k=>?_) p z).trans ?_
 ·rw[aN,if_pos k];exact Z0l h.num.1 h.num.2
 ·rw[aN,if_neg (by simp[k]),h.n0 k];exact⟨rfl,rfl⟩
 unfold Ziq
 rw[t.x,Zb4b]
 refine (optT (take:=Zht) (bs:=aX a) (x:=a.X) (fun s R=>Zoy q ⟨a.Kind,a.Key,a.N,s,ByteArray.empty,zrc,a.Must⟩ R) (fun k=>?_) (fun k=>?_) p b).trans ?_
 ·rw[aX,if_pos k];exact Z5q h.x.1 h.x.2
 ·rw[aX,if_neg (by simp[k]),h.x0 k];exact⟨rfl,rfl⟩
 unfold Zoy
 rw[t.s,t.most,Zb4b]
 refine (optT (take:=fun r=>(some (if 5≤a.Kind∧a.Kind≤6 then (64:Int)else 16)).bind fun l=>Zfg r l) (bs:=aS a) (x:=a.S) (fun s R=>Zo6 q ⟨a.Kind,a.Key,a.N,a.X,s,zrc,a.Must⟩ R) (fun k=>?_) (fun k=>?_) p c).trans ?_
 ·rw[aS,if_pos k]
  have hs:=h.s
  refine Z0o ?_ ?_
  ·split at hs
   ·rename_i d;rw[if_pos d];omega
   ·rename_i d;rw[if_neg d];omega
  ·split <;> decide
 ·rw[aS,if_neg (by simp[k]),h.s0 k];exact⟨rfl,rfl⟩
 unfold Zo6
 rw[t.m,Zb4b]
 refine (optT (take:=Zsk) (bs:=aM a) (x:=a.Make) (fun s R=>Zoz ⟨a.Kind,a.Key,a.N,a.X,a.S,s,a.Must⟩ R) (fun k=>?_) (fun k=>?_) p f).trans ?_
 ·rw[aM,if_pos k];exact Zbhf (h.mkr k).1 (h.mkr k).2
 ·rw[aM,if_neg (by simp[k]),h.m0 k];exact⟨rfl,rfl⟩
 unfold Zoz
 rw[show Ze7 ⟨a.Kind,a.Key,a.N,a.X,a.S,a.Make,a.Must⟩=some 0 from k,Zb4b,if_neg (by simp)]
 unfold Zqt actB
 simp only[Zb4c,Zb5c]
abbrev KV:=ByteArray×Zb
def toL:shelf_nodeT→List KV
 | .nil=>[]
 | .node k r l rr _=>toL l++(k,r)::toL rr
def Szd:shelf_nodeT→Prop
 | .nil=>True
 | .node k r l rr s=>Szd l∧Szd rr∧s=(((toL l).length+(toL rr).length+1:Nat):Int)
def Srt (l:List KV):Prop:=l.Pairwise fun p q=>sLt p.1 q.1=true
theorem Znf {t:shelf_nodeT} (h:Szd t):Zdp t=some ((toL t).length:Int):=by
 cases t with
 | nil=>rfl
 | node k r l rr s =>
  obtain⟨_,_,m⟩:=h
  simp[Zdp,shelf_nodeT.isNil,shelf_nodeT.un,toL,m]
  omega
theorem Zbnk {k:ByteArray} {x:Zb} {l r:shelf_nodeT} (h:Szd l) (m:Szd r) (bl:(toL l).length<1099511627776) (br:(toL r).length<1099511627776) :
  Ze3 k x l r=some (.node k x l r (((toL l).length+(toL r).length+1:Nat):Int)):=by
 unfold Ze3
 rw[Znf h,Znf m]
 simp only[Zb4b,shelf_node.up]
 rw[wr (x:=(toL l).length+(toL r).length) (by omega) (by omega),wr (by omega) (by omega)]
 rfl
theorem Zlm {k:ByteArray} {x:Zb} {l r:shelf_nodeT} (h:Szd l) (m:Szd r) (bl:(toL l).length<1099511627776) (br:(toL r).length<1099511627776) :
  ∃t,Ze3 k x l r=some t∧Szd t∧toL t=toL l++(k,x)::toL r:=⟨_,Zbnk h m bl br,⟨h,m,rfl⟩,rfl⟩
def Ztl (a b:shelf_nodeT):Bool:=decide (3*((toL b).length+1)<(toL a).length+1)
theorem Z9g {a b:shelf_nodeT} (h:Szd a) (k:Szd b) (ba:(toL a).length<1099511627776) (bb:(toL b).length<1099511627776):Zlh a b=some (Ztl a b):=by
 unfold Zlh Ztl
 rw[Znf h,Znf k]
 simp only[Zb4b]
 rw[wr (x:=((toL b).length:Int)+1) (by omega) (by omega),wr (x:=((toL a).length:Int)+1) (by omega) (by omega),wr (by omega) (by omega)]
 congr 1
 apply decide_eq_decide.2
 omega
theorem Z4l {t:shelf_nodeT} (h:0<(toL t).length):∃k r l rr s,t=.node k r l rr s:=by
 cases t with
 | nil=>simp[toL]at h
 | node k r l rr s=>exact⟨k,r,l,rr,s,rfl⟩
theorem Zwu {k:ByteArray} {x:Zb} {l r:shelf_nodeT} (p:Szd l) (q:Szd r) (bl:(toL l).length<1099511627776) (br:(toL r).length<1099511627776) (bs:(toL l).length+(toL r).length+1<1099511627776) :
  ∃t,Zk7 k x l r=some t∧Szd t∧toL t=toL l++(k,x)::toL r:=by
 unfold Zk7
 rw[Z9g q p br bl,Z9g p q bl br]
 simp only[Zb4b]
 by_cases s:Ztl r l=true
 ·have n:0<(toL r).length:=by
   unfold Ztl at s
   have:=of_decide_eq_true s
   omega
  obtain⟨rk,rx,rl,rr,rs,rfl⟩:=Z4l n
  obtain⟨s1,s2,s3⟩:=q
  have e:(toL (shelf_nodeT.node rk rx rl rr rs)).length=(toL rl).length+(toL rr).length+1:=by simp[toL];omega
  rw[e]at br bs
  simp only[s,gd_t,shelf_nodeT.un,Zb4b,if_true]
  rw[Znf s1,Znf s2]
  simp only[Zb4b,Zb4t]
  by_cases h:(decide (Zb4j.wrap (((toL rl).length:Int)+1)<Zb4j.wrap (2*Zb4j.wrap (((toL rr).length:Int)+1))))=true
  ·rw[if_pos h]
   obtain⟨t1,e1,z1,l1⟩:=Zlm (k:=k) (x:=x) p s1 bl (by omega)
   have b1:(toL t1).length<1099511627776:=by rw[l1];simp;omega
   obtain⟨t2,e2,z2,l2⟩:=Zlm (k:=rk) (x:=rx) z1 s2 b1 (by omega)
   exact⟨t2,by rw[e1];simp only[Zb4b];rw[e2];rfl,z2,by rw[l2,l1];simp[toL]⟩
  ·rw[if_neg h]
   have m:0<(toL rl).length:=by
    rw[wr (x:=((toL rr).length:Int)+1) (by omega) (by omega),wr (x:=((toL rl).length:Int)+1) (by omega) (by omega),wr (by omega) (by omega)]at h
    have:¬((toL rl).length:Int)+1<2*((toL rr).length+1):=by simpa using h
    omega
   obtain⟨lk,lx,ll,lr,ls,rfl⟩:=Z4l m
   obtain⟨q1,q2,q3⟩:=s1
   have e':(toL (shelf_nodeT.node lk lx ll lr ls)).length=(toL ll).length+(toL lr).length+1:=by simp[toL];omega
   rw[e']at br bs
   simp only[shelf_nodeT.un,Zb4b]
   obtain⟨t1,e1,z1,l1⟩:=Zlm (k:=k) (x:=x) p q1 bl (by omega)
   obtain⟨t2,e2,z2,l2⟩:=Zlm (k:=rk) (x:=rx) q2 s2 (by omega) (by omega)
   have b1:(toL t1).length<1099511627776:=by rw[l1];simp;omega
   have b2:(toL t2).length<1099511627776:=by rw[l2];simp;omega
   obtain⟨t3,e3,z3,l3⟩:=Zlm (k:=lk) (x:=lx) z1 z2 b1 b2
   exact⟨t3,by rw[e1];simp only[Zb4b];rw[e2];simp only[Zb4b];rw[e3];rfl,z3,by rw[l3,l1,l2];simp[toL]⟩
 ·have v:Ztl r l=false:=by simpa using s
  simp only[v,gd_f,Zb4b,Zb4s,Zb4d,if_false]
  by_cases u:Ztl l r=true
  ·have n:0<(toL l).length:=by
    unfold Ztl at u
    have:=of_decide_eq_true u
    omega
   obtain⟨rk,rx,rl,rr,rs,rfl⟩:=Z4l n
   obtain⟨s1,s2,s3⟩:=p
   have e:(toL (shelf_nodeT.node rk rx rl rr rs)).length=(toL rl).length+(toL rr).length+1:=by simp[toL];omega
   rw[e]at bl bs
   simp only[u,gd_t,shelf_nodeT.un,Zb4b,if_true]
   rw[Znf s2,Znf s1]
   simp only[Zdp,shelf_nodeT.isNil,if_true,Zb4b,Zb4t]
   by_cases h:(decide (Zb4j.wrap (((toL rr).length:Int)+1)<Zb4j.wrap (2*Zb4j.wrap (((toL rl).length:Int)+1))))=true
   ·rw[if_pos h]
    obtain⟨t1,e1,z1,l1⟩:=Zlm (k:=k) (x:=x) s2 q (by omega) br
    have b1:(toL t1).length<1099511627776:=by rw[l1];simp;omega
    obtain⟨t2,e2,z2,l2⟩:=Zlm (k:=rk) (x:=rx) s1 z1 (by omega) b1
    exact⟨t2,by rw[e1];simp only[Zb4b];rw[e2];rfl,z2,by rw[l2,l1];simp[toL]⟩
   ·rw[if_neg h]
    have m:0<(toL rr).length:=by
     rw[wr (x:=((toL rl).length:Int)+1) (by omega) (by omega),wr (x:=((toL rr).length:Int)+1) (by omega) (by omega),wr (by omega) (by omega)]at h
     have:¬((toL rr).length:Int)+1<2*((toL rl).length+1):=by simpa using h
     omega
    obtain⟨lk,lx,ll,lr,ls,rfl⟩:=Z4l m
    obtain⟨q1,q2,q3⟩:=s2
    have e':(toL (shelf_nodeT.node lk lx ll lr ls)).length=(toL ll).length+(toL lr).length+1:=by simp[toL];omega
    rw[e']at bl bs
    simp only[shelf_nodeT.un,Zb4b]
    obtain⟨t1,e1,z1,l1⟩:=Zlm (k:=rk) (x:=rx) s1 q1 (by omega) (by omega)
    obtain⟨t2,e2,z2,l2⟩:=Zlm (k:=k) (x:=x) q2 q (by omega) br
    have b1:(toL t1).length<1099511627776:=by rw[l1];simp;omega
    have b2:(toL t2).length<1099511627776:=by rw[l2];simp;omega
    obtain⟨t3,e3,z3,l3⟩:=Zlm (k:=lk) (x:=lx) z1 z2 b1 b2
    exact⟨t3,by rw[e1];simp only[Zb4b];rw[e2];simp only[Zb4b];rw[e3];rfl,z3,by rw[l3,l1,l2];simp[toL]⟩
  ·have w:Ztl l r=false:=by simpa using u
   simp only[w,gd_f,Zb4b,Zb4s,Zb4d,if_false]
   obtain⟨t1,e1,z1,l1⟩:=Zlm (k:=k) (x:=x) p q bl br
   exact⟨t1,by rw[e1];simp[Zdp,shelf_nodeT.isNil,shelf_nodeT.un,Zb4b,gd],z1,l1⟩
def insL (k:ByteArray) (x:Zb):List KV→List KV
 | []=>[(k,x)]
 | p::l=>if sLt k p.1 then (k,x)::p::l else if sEq k p.1 then (k,x)::l else p::insL k x l
def delL (k:ByteArray):List KV→List KV
 | []=>[]
 | p::l=>if sEq k p.1 then l else p::delL k l
theorem Zui (k:ByteArray) (x:Zb):∀l:List KV,(insL k x l).length≤l.length+1
 | []=>by simp[insL]
 | p::l=>by
  have:=Zui k x l
  simp only[insL]
  split
  ·simp
  ·split <;> simp <;> omega
theorem Zw5 (k:ByteArray):∀l:List KV,(delL k l).length≤l.length
 | []=>by simp[delL]
 | p::l=>by
  have:=Zw5 k l
  simp only[delL]
  split <;> simp <;> omega
theorem Zbdw {k:ByteArray} {x:Zb} {p:KV} {B:List KV} (h:sLt k p.1=true):∀A:List KV,insL k x (A++p::B)=insL k x A++p::B
 | []=>by simp[insL,h]
 | q::A=>by
  simp only[Zb48,insL]
  split
  ·rfl
  ·split
   ·rfl
   ·rw[Zbdw h A];rfl
theorem Zzi {k:ByteArray} {x:Zb} {B:List KV}:∀A:List KV,(∀q∈A,sLt q.1 k=true)→insL k x (A++B)=A++insL k x B
 | [],_=>rfl
 | q::A,h=>by
  have m:=h q (by simp)
  have n:sLt k q.1=false:=Z2b m
  have p:sEq k q.1=false:=Zge.2 (fun e=>Zrr m e.symm)
  simp only[Zb48,insL,n,p,Zb4d,if_false]
  rw[Zzi A fun q m=>h q (by simp[m])]
theorem Zbn0 {k:ByteArray} {x:Zb} {p:KV} {B:List KV} (h:k=p.1):insL k x (p::B)=(k,x)::B:=by
 simp[insL,h,Zrj,Zh2]
theorem Zbn4 {k:ByteArray} {x:Zb} {p:KV} {B:List KV} (h:sLt p.1 k=true):insL k x (p::B)=p::insL k x B:=by
 have m:sLt k p.1=false:=Z2b h
 have n:sEq k p.1=false:=Zge.2 (fun e=>Zrr h e.symm)
 simp[insL,m,n]
theorem Zxy {k:ByteArray}:∀l:List KV,(∀q∈l,q.1≠k)→delL k l=l
 | [],_=>rfl
 | p::l,h=>by
  have:sEq k p.1=false:=Zge.2 (fun e=>h p (by simp) e.symm)
  simp only[delL,this,Zb4d,if_false]
  rw[Zxy l fun q m=>h q (by simp[m])]
theorem Zbdg {k:ByteArray} {p:KV} {B:List KV} (h:sLt k p.1=true) (m:∀q∈B,sLt p.1 q.1=true):∀A:List KV,delL k (A++p::B)=delL k A++p::B
 | []=>by
  have n:sEq k p.1=false:=Zge.2 (Zrr h)
  simp only[Zb4y,delL,n,Zb4d,if_false]
  rw[Zxy B fun q r e=>by
   have:=Zih h (m q r)
   rw[e,Zrj]at this;cases this]
 | q::A=>by
  simp only[Zb48,delL]
  split
  ·rfl
  ·rw[Zbdg h m A];rfl
theorem Zy5 {k:ByteArray} {B:List KV}:∀A:List KV,(∀q∈A,sLt q.1 k=true)→delL k (A++B)=A++delL k B
 | [],_=>rfl
 | q::A,h=>by
  have m:=h q (by simp)
  have n:sEq k q.1=false:=Zge.2 (fun e=>Zrr m e.symm)
  simp only[Zb48,delL,n,Zb4d,if_false]
  rw[Zy5 A fun q m=>h q (by simp[m])]
theorem Z5u {A B:List KV} {p:KV} (h:Srt (A++p::B)):Srt A∧Srt B∧(∀q∈A,sLt q.1 p.1=true)∧(∀q∈B,sLt p.1 q.1=true):=by
 obtain⟨k,m,n⟩:=Zb5q.1 h
 obtain⟨r,s⟩:=Zb4u.1 m
 exact⟨k,s,fun q t=>n q t p (by simp),r⟩
theorem Zz7 {k:ByteArray} {x:Zb}:∀{l:List KV} {q:KV},q∈insL k x l→q=(k,x)∨q∈l
 | [],q,h=>by simp[insL]at h;exact .inl h
 | p::l,q,h=>by
  simp only[insL]at h
  split at h
  ·rcases Zb42.1 h with h | h
   ·exact .inl h
   ·exact .inr h
  ·split at h
   ·rcases Zb42.1 h with h | h
    ·exact .inl h
    ·exact .inr (Zb44 _ h)
   ·rcases Zb42.1 h with h | h
    ·exact .inr (by simp[h])
    ·rcases Zz7 h with h | h
     ·exact .inl h
     ·exact .inr (Zb44 _ h)
theorem Z0b {k:ByteArray}:∀{l:List KV} {q:KV},q∈delL k l→q∈l
 | [],q,h=>by simp[delL]at h
 | p::l,q,h=>by
  simp only[delL]at h
  split at h
  ·exact Zb44 _ h
  ·rcases Zb42.1 h with h | h
   ·simp[h]
   ·exact Zb44 _ (Z0b h)
theorem Zbdn {k:ByteArray} {x:Zb}:∀{l:List KV},Srt l→Srt (insL k x l)
 | [],_=>List.pairwise_singleton ..
 | p::l,h=>by
  obtain⟨s,t⟩:=Zb4u.1 h
  simp only[insL]
  split
  ·rename_i r
   refine Zb4u.2 ⟨fun q m=>?_,h⟩
   rcases Zb42.1 m with rfl | m
   ·exact r
   ·exact Zih r (s q m)
  ·rename_i r
   split
   ·rename_i n
    have n:=Zko.1 n
    exact Zb4u.2 ⟨fun q m=>by rw[n];exact s q m,t⟩
   ·rename_i n
    have u:sLt p.1 k=true:=Zsm (by simpa using r) (fun e=>n (Zko.2 e))
    refine Zb4u.2 ⟨fun q m=>?_,Zbdn t⟩
    rcases Zz7 m with rfl | m
    ·exact u
    ·exact s q m
theorem Zbdc {k:ByteArray}:∀{l:List KV},Srt l→Srt (delL k l)
 | [],h=>h
 | p::l,h=>by
  obtain⟨n,m⟩:=Zb4u.1 h
  simp only[delL]
  split
  ·exact m
  ·exact Zb4u.2 ⟨fun q r=>n q (Z0b r),Zbdc m⟩
theorem Zbbj:∀(n:Nat) (t:shelf_nodeT) (k:ByteArray) (x:Zb),t.hh<n→Szd t→Srt (toL t)→(toL t).length+2<1099511627776 →
  ∃t',Zhp n t k x=some t'∧Szd t'∧toL t'=insL k x (toL t)
 | 0,t,k,x,h,_,_,_=>by omega
 | n+1,.nil,k,x,_,_,_,_=>by
  obtain⟨t1,e1,z1,l1⟩:=Zlm (k:=k) (x:=x) (l:=.nil) (r:=.nil) trivial trivial (by simp[toL]) (by simp[toL])
  refine⟨t1,?_,z1,by rw[l1];rfl⟩
  simp only[Zhp,Zlt,shelf_nodeT.isNil,if_true]
  rw[e1];rfl
 | n+1,.node nk nx l r s,k,x,hh,a,hs,y=>by
  obtain⟨z1,z2,z3⟩:=a
  simp only[toL]at hs y
  obtain⟨s1,s2,sA,sB⟩:=Z5u hs
  have p:(toL l++(nk,nx)::toL r).length=(toL l).length+(toL r).length+1:=by simp;omega
  rw[p]at y
  simp only[shelf_nodeT.hh]at hh
  simp only[Zhp,Zlt,shelf_nodeT.isNil,shelf_nodeT.un,Zb4d,if_false,Zb4b]
  by_cases m:sLt k nk=true
  ·rw[if_pos m]
   obtain⟨t1,e1,y1,l1⟩:=Zbbj n l k x (by omega) z1 s1 (by omega)
   have b1:=Zui k x (toL l)
   rw[←l1]at b1
   obtain⟨t2,e2,y2,l2⟩:=Zwu (k:=nk) (x:=nx) y1 z2 (by omega) (by omega) (by omega)
   refine⟨t2,by rw[e1];simp only[Zb4b];rw[e2];rfl,y2,?_⟩
   rw[l2,l1];simp only[toL];rw[Zbdw (by exact m)]
  ·rw[if_neg m]
   by_cases u:k=nk
   ·subst u
    have v:(!(sLt k k||sEq k k))=false:=by simp[Zh2]
    rw[v]
    simp only[Zb4d,if_false]
    obtain⟨t1,e1,y1,l1⟩:=Zlm (k:=k) (x:=x) z1 z2 (by omega) (by omega)
    refine⟨t1,by rw[e1];rfl,y1,?_⟩
    rw[l1];simp only[toL]
    rw[Zzi _ (fun q w=>sA q w),Zbn0 rfl]
   ·have z:sLt nk k=true:=Zsm (by simpa using m) u
    have v:(!(sLt k nk||sEq k nk))=true:=by simp[Zge.2 u];simpa using m
    rw[v]
    simp only[if_true]
    obtain⟨t1,e1,y1,l1⟩:=Zbbj n r k x (by omega) z2 s2 (by omega)
    have b1:=Zui k x (toL r)
    rw[←l1]at b1
    obtain⟨t2,e2,y2,l2⟩:=Zwu (k:=nk) (x:=nx) z1 y1 (by omega) (by omega) (by omega)
    refine⟨t2,by rw[e1];simp only[Zb4b];rw[e2];rfl,y2,?_⟩
    rw[l2,l1];simp only[toL]
    rw[Zzi _ (fun q w=>Zih (sA q w) z),Zbn4 z]
theorem Zbd4 {t:shelf_nodeT} {k:ByteArray} {x:Zb} (h:Szd t) (hs:Srt (toL t)) (m:(toL t).length+2<1099511627776) :
  ∃t',Zsh t k x=some t'∧Szd t'∧toL t'=insL k x (toL t):=Zbbj _ t k x (Zb5j _) h hs m
theorem Zbax:∀(n:Nat) (t:shelf_nodeT),t.hh<n→t.isNil=false→∃t' k x l r s B,Zhc n t=some t'∧t'=.node k x l r s∧toL t=(k,x)::B
 | 0,t,h,_=>by omega
 | n+1,.nil,_,h=>by cases h
 | n+1,.node k x l r s,hh,_=>by
  simp only[shelf_nodeT.hh]at hh
  simp only[Zhc,shelf_nodeT.un,Zb4b]
  cases l with
  | nil=>exact⟨_,k,x,.nil,r,s,toL r,rfl,rfl,rfl⟩
  | node k2 x2 l2 r2 s2 =>
   obtain⟨t',k',x',l',r',s',B,e1,e2,e3⟩:=Zbax n (.node k2 x2 l2 r2 s2) (by omega) rfl
   exact⟨t',k',x',l',r',s',B++(k,x)::toL r,by simp[shelf_nodeT.isNil];exact e1,e2,by
    simp only[toL]at e3⊢
    rw[e3];rfl⟩
theorem Z2v:∀(n:Nat) (t:shelf_nodeT) (k:ByteArray),t.hh<n→Szd t→Srt (toL t)→(toL t).length+2<1099511627776 →
  ∃t',Zie n t k=some t'∧Szd t'∧toL t'=delL k (toL t)
 | 0,t,k,h,_,_,_=>by omega
 | n+1,.nil,k,_,_,_,_=>⟨.nil,rfl,trivial,rfl⟩
 | n+1,.node nk nx l r s,k,hh,f,hs,c=>by
  obtain⟨z1,z2,z3⟩:=f
  simp only[toL]at hs c
  obtain⟨s1,s2,sA,sB⟩:=Z5u hs
  have z:(toL l++(nk,nx)::toL r).length=(toL l).length+(toL r).length+1:=by simp;omega
  rw[z]at c
  simp only[shelf_nodeT.hh]at hh
  simp only[Zie,Zol,shelf_nodeT.isNil,shelf_nodeT.un,Zb4d,if_false,Zb4b]
  by_cases u:sLt k nk=true
  ·rw[if_pos u]
   obtain⟨t1,e1,y1,l1⟩:=Z2v n l k (by omega) z1 s1 (by omega)
   have b1:=Zw5 k (toL l)
   rw[←l1]at b1
   obtain⟨t2,e2,y2,l2⟩:=Zwu (k:=nk) (x:=nx) y1 z2 (by omega) (by omega) (by omega)
   refine⟨t2,by rw[e1];simp only[Zb4b];rw[e2];rfl,y2,?_⟩
   rw[l2,l1];simp only[toL];rw[Zbdg (by exact u) (fun q v=>sB q v)]
  ·rw[if_neg u]
   by_cases w:k=nk
   ·subst w
    have a:(!(sLt k k||sEq k k))=false:=by simp[Zh2]
    rw[a]
    simp only[Zb4d,if_false]
    have m:delL k (toL l++(k,nx)::toL r)=toL l++toL r:=by
     rw[Zy5 _ (fun q v=>sA q v)]
     simp[delL,Zh2]
    cases p:l with
    | nil=>exact⟨r,by simp[shelf_nodeT.isNil,shelf_nodeT.un],z2,by show toL r=delL k (toL .nil++(k,nx)::toL r);rw[←p,m,p];rfl⟩
    | node k2 x2 l2 r2 q2 =>
     cases y:r with
     | nil=>exact⟨l,by simp[shelf_nodeT.isNil,shelf_nodeT.un,p],z1,by rw[←p,←y];show toL l=delL k (toL l++(k,nx)::toL r);rw[m,y];simp[toL]⟩
     | node k3 x3 l3 r3 q3 =>
      rw[←p,←y]
      have d:r.isNil=false:=by rw[y];rfl
      have e:l.isNil=false:=by rw[p];rfl
      obtain⟨t',k',x',l',r',s',B,e1,e2,e3⟩:=Zbax (r.hh+1) r (Zb5j _) d
      subst e2
      have g:Zl5 r=some (.node k' x' l' r' s'):=by
       unfold Zl5;rw[e1];rfl
      obtain⟨t1,c1,y1,l1⟩:=Z2v n r k' (by omega) z2 s2 (by omega)
      have b:toL t1=B:=by rw[l1,e3];simp[delL,Zh2]
      have j:B.length+1=(toL r).length:=by rw[e3];simp
      obtain⟨t2,c2,y2,l2⟩:=Zwu (k:=k') (x:=x') z1 y1 (by omega) (by rw[b];omega) (by rw[b];omega)
      refine⟨t2,?_,y2,?_⟩
      ·simp only[g,Zb4b,shelf_nodeT.un,c1,c2]
       show (if l.isNil=true then some r else if r.isNil=true then some l else some t2)=some t2
       rw[d,e];rfl
      ·show toL t2=delL k (toL l++(k,nx)::toL r)
       rw[m,l2,b,e3]
   ·have i:sLt nk k=true:=Zsm (by simpa using u) w
    have a:(!(sLt k nk||sEq k nk))=true:=by simp[Zge.2 w];simpa using u
    rw[a]
    simp only[if_true]
    obtain⟨t1,e1,y1,l1⟩:=Z2v n r k (by omega) z2 s2 (by omega)
    have b1:=Zw5 k (toL r)
    rw[←l1]at b1
    obtain⟨t2,e2,y2,l2⟩:=Zwu (k:=nk) (x:=nx) z1 y1 (by omega) (by omega) (by omega)
    refine⟨t2,by rw[e1];simp only[Zb4b];rw[e2];rfl,y2,?_⟩
    rw[l2,l1];simp only[toL]
    rw[Zy5 _ (fun q v=>Zih (sA q v) i)]
    simp[delL,Zge.2 w]
theorem Zbol {t:shelf_nodeT} {k:ByteArray} (h:Szd t) (hs:Srt (toL t)) (m:(toL t).length+2<1099511627776) :
  ∃t',Zr8 t k=some t'∧Szd t'∧toL t'=delL k (toL t):=Z2v _ t k (Zb5j _) h hs m
def lk (k:ByteArray):List KV→Option Zb
 | []=>none
 | p::l=>if sEq k p.1 then some p.2 else lk k l
def rk (k:ByteArray):List KV→Nat
 | []=>0
 | p::l=>if sLt p.1 k then rk k l+1 else 0
theorem Z2l {k:ByteArray}:∀{l:List KV},(∀q∈l,q.1≠k)→lk k l=none
 | [],_=>rfl
 | p::l,h=>by
  have:sEq k p.1=false:=Zge.2 (fun e=>h p (by simp) e.symm)
  simp only[lk,this,Zb4d,if_false]
  exact Z2l fun q m=>h q (by simp[m])
theorem Zbmp {k:ByteArray} {p:KV} {B:List KV} (h:sLt k p.1=true) (m:∀q∈B,sLt p.1 q.1=true):∀A:List KV,lk k (A++p::B)=lk k A
 | []=>by
  have n:sEq k p.1=false:=Zge.2 (Zrr h)
  simp only[Zb4y,lk,n,Zb4d,if_false]
  exact Z2l fun q r e=>by
   have:=Zih h (m q r)
   rw[e,Zrj]at this;cases this
 | q::A=>by
  simp only[Zb48,lk]
  split
  ·rfl
  ·exact Zbmp h m A
theorem Z4t {k:ByteArray} {B:List KV}:∀A:List KV,(∀q∈A,sLt q.1 k=true)→lk k (A++B)=lk k B
 | [],_=>rfl
 | q::A,h=>by
  have m:=h q (by simp)
  have n:sEq k q.1=false:=Zge.2 (fun e=>Zrr m e.symm)
  simp only[Zb48,lk,n,Zb4d,if_false]
  exact Z4t A fun q m=>h q (by simp[m])
theorem Z79 (k:ByteArray):∀l:List KV,rk k l≤l.length
 | []=>by simp[rk]
 | p::l=>by
  have:=Z79 k l
  simp only[rk]
  split <;> simp <;> omega
def Cl (x:Zb):Prop:=x.List.length≤1000
theorem Zw9 {x:Zb} (h:Cl x):Zh4 x=some x:=by
 unfold Zh4 Zco
 unfold Cl at h
 rw[if_pos (by omega)]
 rfl
abbrev zrec:Zb:={Kind:=0,Num:=0,Low:=0,High:=0,Real:=0,Cap:=0,Text:=ByteArray.empty,List:=[]}
def getR:Option Zb→Zb×Bool
 | some r=>(r,true)
 | none=>(zrec,false)
def getE (x:Zb):Option Zb→(Zb×Bool)⊕Zb
 | some r=>.inl (r,true)
 | none=>.inr x
theorem Z2h (k:ByteArray) (x:Zb):∀(n:Nat) (t:shelf_nodeT),t.hh<n→Srt (toL t)→(∀q∈toL t,Cl q.2)→Zfv k n x t=some (getE x (lk k (toL t)))
 | 0,t,h,_,_=>by omega
 | n+1,.nil,_,_,_=>rfl
 | n+1,.node nk nx l r s,hh,hs,u=>by
  simp only[toL]at hs u
  obtain⟨s1,s2,sA,sB⟩:=Z5u hs
  simp only[shelf_nodeT.hh]at hh
  simp only[Zfv,shelf_nodeT.isNil,shelf_nodeT.un,Zb4r,if_true,Zb4b,Zkk,toL]
  by_cases p:sLt k nk=true
  ·rw[if_pos p,Z2h k x n l (by omega) s1 (fun q m=>u q (by simp[m])),Zbmp (by exact p) (fun q m=>sB q m)]
  ·rw[if_neg p]
   by_cases v:k=nk
   ·subst v
    have w:(!(sLt k k||sEq k k))=false:=by simp[Zh2]
    rw[w]
    simp only[Zb4d,if_false]
    rw[Zw9 (u (k,nx) (by simp)),Z4t _ (fun q m=>sA q m)]
    simp[lk,Zh2,getE]
   ·have y:sLt nk k=true:=Zsm (by simpa using p) v
    have w:(!(sLt k nk||sEq k nk))=true:=by simp[Zge.2 v];simpa using p
    rw[w]
    simp only[if_true]
    rw[Z2h k x n r (by omega) s2 (fun q m=>u q (by simp[m])),Z4t _ (fun q m=>Zih (sA q m) y)]
    simp[lk,Zge.2 v]
theorem Zbpv {s:Z4} {k:ByteArray} (hs:Srt (toL s.top)) (h:∀q∈toL s.top,Cl q.2):Zh6 s k=some (getR (lk k (toL s.top))):=by
 unfold Zh6
 rw[Z2h k _ _ _ (Zb5j _) hs h]
 cases lk k (toL s.top) <;> rfl
def atE (x:Zb):Option KV→(ByteArray×Zb×Bool)⊕Zb
 | some p=>.inl (p.1,p.2,true)
 | none=>.inr x
theorem Zbe8 {α:Type} {A B:List α} {i:Int} (h:i<A.length):idx (A++B) i=idx A i:=by
 unfold idx
 split
 ·rw[Zb5f (by omega)]
 ·rfl
theorem Zbcv {α:Type} {A B:List α} {p:α}:idx (A++p::B) (A.length:Int)=some p:=by
 rw[idxn];simp
theorem Zbfz {α:Type} {A B:List α} {p:α} {i:Int} (h:(A.length:Int)<i):idx (A++p::B) i=idx B (i-(A.length+1)):=by
 unfold idx
 rw[if_pos (by omega),if_pos (by omega),Zb5d (by omega)]
 rw[show i.toNat-A.length=(i-(A.length+1)).toNat+1 by omega,Zb54]
theorem Z5r (x:Zb):∀(n:Nat) (t:shelf_nodeT) (i:Int),t.hh<n→Szd t→(toL t).length+2<1099511627776→-1099511627776<i→i<1099511627776→(∀q∈toL t,Cl q.2)→Ze9 n i x t=some (atE x (idx (toL t) i))
 | 0,t,i,h,_,_,_,_,_=>by omega
 | n+1,.nil,i,_,_,_,_,_,_=>by
  simp only[Ze9,shelf_nodeT.isNil,toL]
  have y:idx ([]:List KV) i=none:=by
   unfold idx
   split <;> simp
  rw[y]
  rfl
 | n+1,.node nk nx l r s,i,hh,z,w,i1,i2,k=>by
  obtain⟨z1,z2,z3⟩:=z
  simp only[toL]at w k
  have m:(toL l++(nk,nx)::toL r).length=(toL l).length+(toL r).length+1:=by simp;omega
  rw[m]at w
  simp only[shelf_nodeT.hh]at hh
  simp only[Ze9,shelf_nodeT.isNil,shelf_nodeT.un,Zb4r,if_true,Zb4b,Zk1,toL]
  rw[Znf z1]
  simp only[Zb4b]
  by_cases p:i<(toL l).length
  ·rw[if_pos (by simpa using p),Z5r x n l i (by omega) z1 (by omega) i1 i2 (fun q u=>k q (by simp[u])),Zbe8 p]
  ·rw[if_neg (by simpa using p)]
   by_cases v:((toL l).length:Int)<i
   ·rw[if_pos (by simpa using v),wr (x:=((toL l).length:Int)+1) (by omega) (by omega),wr (by omega) (by omega),Z5r x n r _ (by omega) z2 (by omega) (by omega) (by omega) (fun q u=>k q (by simp[u])),Zbfz v]
   ·rw[if_neg (by simpa using v),Zw9 (k (nk,nx) (by simp))]
    have:i=(toL l).length:=by omega
    subst this
    rw[Zbcv];rfl
def atR:Option KV→ByteArray×Zb×Bool
 | some p=>(p.1,p.2,true)
 | none=>(⟨#[]⟩,zrec,false)
theorem Zbrh {s:Z4} {i:Int} (h:Szd s.top) (k:(toL s.top).length+2<1099511627776) (i1:-1099511627776<i) (i2:i<1099511627776) (m:∀q∈toL s.top,Cl q.2):Znr s i=some (atR (idx (toL s.top) i)):=by
 unfold Znr
 rw[Z5r _ _ _ _ (Zb5j _) h k i1 i2 m]
 cases idx (toL s.top) i <;> rfl
theorem Zs5 {k:ByteArray} (x:Zb):∀{l:List KV},Srt l →
  (∃p,l[rk k l]?=some p∧p.1=k∧lk k l=some p.2∧insL k x l=l.take (rk k l)++(k,x)::l.drop (rk k l+1)∧delL k l=l.take (rk k l)++l.drop (rk k l+1)) ∨
  ((∀p,l[rk k l]?=some p→p.1≠k)∧lk k l=none∧insL k x l=l.take (rk k l)++(k,x)::l.drop (rk k l)∧delL k l=l)
 | [],_=>.inr ⟨fun p h=>by simp at h,rfl,rfl,rfl⟩
 | p::l,hs=>by
  obtain⟨t,u⟩:=Zb4u.1 hs
  by_cases h:sLt p.1 k=true
  ·have e1:sLt k p.1=false:=Z2b h
   have e2:sEq k p.1=false:=Zge.2 (fun e=>Zrr h e.symm)
   simp only[rk,h,if_true,lk,insL,delL,e1,e2,Zb4d,if_false,Zb54,List.take_succ_cons,List.drop_succ_cons]
   rcases Zs5 x u with ⟨q,a1,a2,a3,a4,a5⟩ | ⟨a1,a2,a3,a4⟩
   ·exact .inl ⟨q,a1,a2,a3,by rw[a4];rfl,by rw[a5];rfl⟩
   ·exact .inr ⟨a1,a2,by rw[a3];rfl,by rw[a4]⟩
  ·have h':sLt p.1 k=false:=by simpa using h
   simp only[rk,h',Zb4d,if_false]
   by_cases m:k=p.1
   ·left
    exact⟨p,rfl,m.symm,by simp[lk,m,Zh2],by simp[insL,m,Zrj,Zh2],by simp[delL,m,Zh2]⟩
   ·right
    have r:sLt k p.1=true:=Zsm h' (fun e=>m e.symm)
    have s:∀q∈l,q.1≠k:=fun q n e=>by
     have:=Zih r (t q n)
     rw[e,Zrj]at this;cases this
    refine⟨fun q n e=>?_,?_,by simp[insL,r],?_⟩
    ·simp at n;subst n;exact m e.symm
    ·simp only[lk,Zge.2 m,Zb4d,if_false];exact Z2l s
    ·simp only[delL,Zge.2 m,Zb4d,if_false];rw[Zxy l s]
def kv (p:Zb2):KV:=(p.Key,p.Rec)
def pl (t:Zk):List KV:=t.L.map kv
theorem Zuc (t:Zk) (i:Nat):(pl t)[i]?=(t.L[i]?).map kv:=by simp[pl]
theorem Zii (t:Zk):(pl t).length=t.L.length:=by simp[pl]
theorem Z6i {t:Zk} {k:ByteArray} (u:t.L.length<1099511627776):∀(n i:Nat),i+n=t.L.length →
  Zd6 t k (n+1) (i:Int)=some ((i+rk k ((pl t).drop i):Nat):Int)
 | 0,i,h=>by
  have q:decide ((i:Int)<(t.L.length:Int))=false:=by simp;omega
  rw[Zd6,q,Zb4k (by rw[Zii];omega)]
  simp[gd,rk]
 | n+1,i,h=>by
  have q:decide ((i:Int)<(t.L.length:Int))=true:=by simp;omega
  have r:i<t.L.length:=by omega
  have s:i<(pl t).length:=by rw[Zii];exact r
  rw[Zd6,q,Zc0 r,Zb4h s,wr1 (by omega)]
  have hg:(pl t)[i]=kv t.L[i]:=by simp[pl]
  rw[hg]
  simp only[gd_t,Zb4b,Zb4t,rk]
  by_cases p:sLt t.L[i].Key k=true
  ·have m:sLt (kv t.L[i]).1 k=true:=p
   rw[if_pos p,if_pos m,Z6i u n (i+1) (by omega)]
   congr 2;omega
  ·have m:¬sLt (kv t.L[i]).1 k=true:=p
   rw[if_neg p,if_neg m];rfl
theorem Z2d {t:Zk} {k:ByteArray} (h:t.L.length<1099511627776):Zfw t k=some (rk k (pl t):Int):=by
 unfold Zfw
 have:=Z6i (k:=k) h t.L.length 0 (by omega)
 rw[show ((0:Nat):Int)=0 from rfl]at this
 rw[show (Zb4p ((t.L.length:Int)-(0:Int))+1)=t.L.length+1 by omega,this]
 simp
structure Rel (s:Z4) (t:Zk) (n:Nat):Prop where
 top:toL s.top=pl t
 sz:Szd s.top
 srt:Srt (pl t)
 len:t.L.length≤n
 room:s.room=t.Room
 ok:∀q∈pl t,Zla q.2∧q.2.List.length≤100
theorem Rel.cl {s:Z4} {t:Zk} {n:Nat} (h:Rel s t n):∀q∈toL s.top,Cl q.2:=fun q k=>by
 rw[h.top]at k
 have:=(h.ok q k).2
 unfold Cl;omega
theorem Rel.mono {s:Z4} {t:Zk} {n m:Nat} (h:Rel s t n) (k:n≤m):Rel s t m:=⟨h.top,h.sz,h.srt,Nat.le_trans h.len k,h.room,h.ok⟩
theorem Rel.tl {s:Z4} {t:Zk} {n:Nat} (h:Rel s t n):(toL s.top).length=t.L.length:=by rw[h.top,Zii]
theorem Zboj (r:Int):Rel {top:=.nil,room:=r} {L:=[],Room:=r} 0:=⟨rfl,trivial,Zb5m.nil,Zb57 _,rfl,fun q h=>by simp[pl]at h⟩
theorem Zboe {s:Z4} {t:Zk} {n:Nat} (h:Rel s t n) (hn:n<1000000) (k:ByteArray):Zil t k=some (getR (lk k (pl t))):=by
 have hb:=h.len
 unfold Zil
 rw[Z2d (by omega)]
 simp only[Zb4b]
 have q:=Z79 k (pl t)
 rw[Zii]at q
 by_cases r:rk k (pl t)<t.L.length
 ·have m:decide (((rk k (pl t):Nat):Int)<(t.L.length:Int))=true:=by simp;omega
  rw[m,Zc0 r]
  simp only[gd_t,Zb4b,Zb4t]
  have hg:(pl t)[rk k (pl t)]?=some (kv t.L[rk k (pl t)]):=by rw[Zuc,Zb4g r];rfl
  rcases Zs5 default h.srt with ⟨p,a1,a2,a3,_,_⟩ | ⟨a1,a2,_,_⟩
  ·rw[hg]at a1
   obtain rfl:=Zb4e.inj a1
   have:sEq (t.L[rk k (pl t)]).Key k=true:=Zko.2 a2
   rw[if_pos this,a3];rfl
  ·have:sEq (t.L[rk k (pl t)]).Key k=false:=Zge.2 (a1 _ hg)
   rw[if_neg (by simp[this]),a2];rfl
 ·have m:decide (((rk k (pl t):Nat):Int)<(t.L.length:Int))=false:=by simp;omega
  rw[m]
  simp only[gd_f,Zb4b,Zb4s,Zb4d,if_false]
  rcases Zs5 (k:=k) default h.srt with ⟨p,a1,_⟩ | ⟨_,a2,_,_⟩
  ·have:=(Zb4q.1 a1).1
   rw[Zii]at this;omega
  ·rw[a2];rfl
theorem Zz2 {s:Z4} {t:Zk} {n:Nat} (h:Rel s t n) (k:ByteArray):Zh6 s k=some (getR (lk k (pl t))):=by
 rw[Zbpv (by rw[h.top];exact h.srt) h.cl,h.top]
theorem Z4y {s:Z4} {t:Zk} {n:Nat} (h:Rel s t n):Zks s=some (t.L.length:Int):=by
 unfold Zks
 rw[Znf h.sz,h.tl];rfl
theorem Z2j (t:Zk) (i:Nat):(t.L.take i).map kv=(pl t).take i:=by simp[pl]
theorem Z2c (t:Zk) (i:Nat):(t.L.drop i).map kv=(pl t).drop i:=by simp[pl]
theorem Zbbu {s:Z4} {t:Zk} {n:Nat} (h:Rel s t n) (hn:n<1000000) (k:ByteArray):∃s' t' b,Zix s k=some (s',b)∧Zim t k=some (t',b)∧Rel s' t' n∧(pl t'=pl t∨pl t'=delL k (pl t)):=by
 have hb:=h.len
 have w:=Z79 k (pl t)
 rw[Zii]at w
 unfold Zix Zim
 rw[Zz2 h,Z2d (by omega)]
 simp only[Zb4b]
 rcases Zs5 default h.srt with ⟨p,a1,a2,a3,_,a5⟩ | ⟨a1,a2,_,a4⟩
 ·have r:rk k (pl t)<t.L.length:=by
   have:=(Zb4q.1 a1).1
   rwa [Zii]at this
  rw[a3]
  have u:decide ((t.L.length:Int)≤((rk k (pl t):Nat):Int))=false:=by simp;omega
  have hg:(pl t)[rk k (pl t)]?=some (kv t.L[rk k (pl t)]):=by rw[Zuc,Zb4g r];rfl
  rw[hg]at a1
  obtain rfl:=Zb4e.inj a1
  have v:sEq (t.L[rk k (pl t)]).Key k=true:=Zko.2 a2
  rw[u,Zc0 r]
  obtain⟨t1,c1,z1,l1⟩:=Zbol (k:=k) h.sz (by rw[h.top];exact h.srt) (by rw[h.tl];omega)
  rw[c1]
  simp only[getR,Zb4z,Zb4d,if_false,Zb4b,Zb4r,gd_t,v,Bool.or_false,Zb5r]
  rw[show (0:Int)=((0:Nat):Int) from rfl,Zkw (by omega) (by omega),wr1 (by omega),Zkw (by omega) (by omega)]
  simp only[Zb4b,Zb4y,Zb4n,Zb52,Zb5b,Zb53]
  have y:(Zb6e (t.L.length-(rk k (pl t)+1)) (Zb5o (rk k (pl t)+1) t.L))=Zb5o (rk k (pl t)+1) t.L:=Zb4o (by simp)
  rw[y,if_pos (by simp;omega),if_pos (by simp;omega)]
  have m:pl {L:=Zb6e (rk k (pl t)) t.L++Zb5o (rk k (pl t)+1) t.L,Room:=t.Room}=delL k (pl t):=by
   rw[a5,←Z2j,←Z2c,←Zb5s];rfl
  refine⟨_,_,true,rfl,rfl,⟨?_,z1,?_,?_,h.room,?_⟩,.inr m⟩
  ·rw[m,l1,h.top]
  ·rw[m];exact Zbdc h.srt
  ·simp;omega
  ·intro q x
   rw[m]at x
   exact h.ok q (Z0b x)
 ·rw[a2]
  simp only[getR,Zb4r,if_true]
  by_cases r:rk k (pl t)<t.L.length
  ·have u:decide ((t.L.length:Int)≤((rk k (pl t):Nat):Int))=false:=by simp;omega
   have hg:(pl t)[rk k (pl t)]?=some (kv t.L[rk k (pl t)]):=by rw[Zuc,Zb4g r];rfl
   have v:sEq (t.L[rk k (pl t)]).Key k=false:=Zge.2 (a1 _ hg)
   rw[u,Zc0 r]
   simp only[Zb4r,gd_t,Zb4b,v,Zb5k,if_true]
   exact⟨s,t,false,rfl,rfl,h,.inl rfl⟩
  ·have u:decide ((t.L.length:Int)≤((rk k (pl t):Nat):Int))=true:=by simp;omega
   rw[u]
   simp only[Zb4z,gd_f,Zb4b,Zb5i,if_true]
   exact⟨s,t,false,rfl,rfl,h,.inl rfl⟩
theorem Zbgt (k:ByteArray):sEq k (⟨#[]⟩:ByteArray)=decide ((k.size:Int)<1):=by
 by_cases h:k=⟨#[]⟩
 ·subst h;rw[Zh2];decide
 ·rw[Zge.2 h]
  have:k.size≠0:=fun e=>h (by
   apply ByteArray.ext
   exact Array.size_eq_zero_iff.1 e)
  simp;omega
theorem Z9f {s:Z4} {t:Zk} {n:Nat} (h:Rel s t n) (hn:n<1000000) (k:ByteArray) {x:Zb} (g:Zla x) (i:x.List.length≤100) :
  ∃s' t' c,Zgj s k x=some (s',c)∧Zhi t k x=some (t',c)∧Rel s' t' (n+1)∧(pl t'=pl t∨(pl t'=insL k x (pl t)∧Zeg x=some 0∧¬(k.size:Int)<1∧¬(24:Int)<(k.size:Int))):=by
 have hb:=h.len
 have j:=Z79 k (pl t)
 rw[Zii]at j
 obtain⟨c,l,o⟩:=Zp4 g
 unfold Zgj Zhi
 rw[l,o,Zz2 h,Z2d (by omega),Z4y h,Zw9 (by unfold Cl;omega),Zbgt,h.room]
 by_cases v:(decide ((k.size:Int)<1)||decide ((24:Int)<(k.size:Int)))=true
 ·rw[if_pos v,if_pos v]
  exact⟨s,t,1,rfl,rfl,h.mono (by omega),.inl rfl⟩
 ·rw[if_neg v,if_neg v]
  simp only[Zb4b]
  by_cases w:(c !=0)=true
  ·rw[if_pos w,if_pos w]
   exact⟨s,t,c,rfl,rfl,h.mono (by omega),.inl rfl⟩
  ·rw[if_neg w,if_neg w]
   obtain⟨t1,e1,z1,l1⟩:=Zbd4 (k:=k) (x:=x) h.sz (by rw[h.top];exact h.srt) (by rw[h.tl];omega)
   rw[e1]
   have A:c=0:=by simpa using w
   have B:¬(k.size:Int)<1:=fun h'=>v (by simp[h'])
   have C:¬(24:Int)<(k.size:Int):=fun h'=>v (by simp[h'])
   have b:∀L':List Zb2,L'.map kv=insL k x (pl t)→Rel {top:=t1,room:=t.Room} {L:=L',Room:=t.Room} (n+1)∧(pl {L:=L',Room:=t.Room}=pl t∨(pl {L:=L',Room:=t.Room}=insL k x (pl t)∧some c=some (0:Int)∧¬(k.size:Int)<1∧¬(24:Int)<(k.size:Int))):=fun L' D=>by
    have u:pl {L:=L',Room:=t.Room}=insL k x (pl t):=D
    refine⟨⟨by rw[u,l1,h.top],z1,by rw[u];exact Zbdn h.srt,?_,rfl,?_⟩,.inr ⟨u,by rw[A],B,C⟩⟩
    ·have:=Zui k x (pl t)
     rw[←D,Zii]at this
     simp at this
     show L'.length≤n+1
     omega
    ·intro q z
     rw[u]at z
     rcases Zz7 z with rfl | z
     ·exact⟨g,i⟩
     ·exact h.ok q z
   rcases Zs5 x h.srt with ⟨p,a1,a2,a3,a4,_⟩ | ⟨a1,a2,a3,_⟩
   ·have m:rk k (pl t)<t.L.length:=by
     have:=(Zb4q.1 a1).1
     rwa [Zii]at this
    have r:decide (((rk k (pl t):Nat):Int)<(t.L.length:Int))=true:=by simp;omega
    have hg:(pl t)[rk k (pl t)]?=some (kv t.L[rk k (pl t)]):=by rw[Zuc,Zb4g m];rfl
    rw[hg]at a1
    obtain rfl:=Zb4e.inj a1
    have d:sEq (t.L[rk k (pl t)]).Key k=true:=Zko.2 a2
    rw[a3,r,Zc0 m]
    simp only[getR,Zb4z,Zb4s,Zb4d,if_false,gd_f,gd_t,Zb4b,d,Bool.and_self,Zb4t,if_true]
    rw[show (0:Int)=((0:Nat):Int) from rfl,Zkw (by omega) (by omega),wr1 (by omega)]
    simp only[Zb4b,Zb4y,Zb4n,Zb52,Zb5b,Zb53,Zgc]
    rw[if_pos (by simp;omega),if_pos (by simp;omega),Zkw (by omega) (by omega)]
    have f:(Zb6e (t.L.length-(rk k (pl t)+1)) (Zb5o (rk k (pl t)+1) t.L))=Zb5o (rk k (pl t)+1) t.L:=Zb4o (by simp)
    simp only[Zb4b,f,Zb4y]
    rw[if_pos (by simp;omega)]
    refine⟨_,_,0,rfl,rfl,b _ ?_⟩
    rw[a4];simp[Z2j,Z2c,kv,pl]
   ·rw[a2]
    simp only[getR,Zb4r,gd_t,Zb4b,Zb4t]
    have y:(decide (((rk k (pl t):Nat):Int)<(t.L.length:Int))&&sEq (((gd (decide (((rk k (pl t):Nat):Int)<(t.L.length:Int))) (idx t.L ((rk k (pl t):Nat):Int))).getD default).Key) k)=false:=by
     by_cases m:rk k (pl t)<t.L.length
     ·have hg:(pl t)[rk k (pl t)]?=some (kv t.L[rk k (pl t)]):=by rw[Zuc,Zb4g m];rfl
      have d:sEq (t.L[rk k (pl t)]).Key k=false:=Zge.2 (a1 _ hg)
      have r:decide (((rk k (pl t):Nat):Int)<(t.L.length:Int))=true:=by simp;omega
      rw[r,Zc0 m]
      simp[gd,d]
     ·have r:decide (((rk k (pl t):Nat):Int)<(t.L.length:Int))=false:=by simp;omega
      rw[r];rfl
    have E:∃e,gd (decide (((rk k (pl t):Nat):Int)<(t.L.length:Int))) (idx t.L ((rk k (pl t):Nat):Int))=some e:=by
     by_cases m:rk k (pl t)<t.L.length
     ·rw[Zc0 m]
      cases decide (((rk k (pl t):Nat):Int)<(t.L.length:Int)) <;> exact⟨_,rfl⟩
     ·have r:decide (((rk k (pl t):Nat):Int)<(t.L.length:Int))=false:=by simp;omega
      rw[r];exact⟨_,rfl⟩
    obtain⟨e,F⟩:=E
    rw[F]at y⊢
    simp only[Option.getD_some]at y
    simp only[Zb4b,y,Zb4r,Zb4t]
    by_cases a:decide (t.Room≤(t.L.length:Int))=true
    ·rw[if_pos a,if_pos a]
     exact⟨s,t,8,rfl,rfl,h.mono (by omega),.inl rfl⟩
    ·rw[if_neg a,if_neg a]
     rw[show (0:Int)=((0:Nat):Int) from rfl,Zkw (by omega) (by omega)]
     simp only[Zb4b,Zb4y,Zb4n,Zb52,Zb5b,Zb53,Zgc,Zb4d,if_false]
     rw[if_pos (by simp;omega),if_pos (by simp;omega),Zkw (by omega) (by omega)]
     have f:(Zb6e (t.L.length-rk k (pl t)) (Zb5o (rk k (pl t)) t.L))=Zb5o (rk k (pl t)) t.L:=Zb4o (by simp)
     simp only[Zb4b,f,Zb4y]
     rw[if_pos (by simp;omega)]
     refine⟨_,_,0,rfl,rfl,b _ ?_⟩
     rw[a3];simp[Z2j,Z2c,kv,pl]
theorem Z9h:∀l:List Zn,eqL l l=true
 | []=>rfl
 | x::l=>by simp[eqL,eqI,Zh2,Z9h l]
theorem Zben (a:Zb):Zpc a a=true:=by simp[Zpc,Zh2,Z9h]
theorem Zbdv {s:Z4} {t:Zk} {m:Nat} (h:Rel s t m) (q:m<1000000):∀(n i:Nat),i+n=t.L.length→Zg8 s t (n+1) (i:Int)=some (.inr ())
 | 0,i,r=>by
  rw[Zg8,if_neg (by simp;omega)]
 | n+1,i,r=>by
  have hb:=h.len
  have k:i<t.L.length:=by omega
  rw[Zg8,if_pos (by simp;omega),Zc0 k,Zbrh h.sz (by rw[h.tl];omega) (by omega) (by omega) h.cl,wr1 (by omega),h.top,idxn,Zuc,Zb4g k]
  have u:kv t.L[i]∈pl t:=by
   have:(pl t)[i]?=some (kv t.L[i]):=by rw[Zuc,Zb4g k];rfl
   exact List.mem_of_getElem? this
  have p:Zla (t.L[i]).Rec:=(h.ok _ u).1
  simp only[Option.map_some,atR,kv,Zb4b,Zb4z,Zh2,Zb5r,Zb4r,gd_t]
  rw[Z6y p p,Zben]
  simp only[Zb4b,Zb4z,Zb5k,Zb4d,if_false]
  exact Zbdv h q n (i+1) (by omega)
theorem Zbtc {s:Z4} {t:Zk} {m:Nat} (h:Rel s t m) (k:m<1000000):Zno s t=some 1:=by
 unfold Zno
 rw[Z4y h]
 simp only[Zb4b,bne_self_eq_false,Zb4r,gd_t,Zjl,h.room,Zb5r,Zb4d,if_false]
 have:=Zbdv h k t.L.length 0 (by omega)
 rw[show ((0:Nat):Int)=0 from rfl]at this
 rw[show (Zb4p ((t.L.length:Int)-(0:Int))+1)=t.L.length+1 by omega,this]
 rfl
theorem Zbn6 {x:Zb} (h:Zq2 x):x.List.length≤9223372036854775807:=by
 obtain⟨_,_,_,_,_,_,_,k,_⟩:=h
 simp only[maxLen]at k;omega
theorem Zbdk {x:Zb} (h:Zq2 x) (hl:x.List.length≤100):RecW x:=by
 obtain⟨k,m,n,p,q,_,_,h8,r⟩:=h
 exact⟨⟨q,by omega,fun e s=>(r e s).1⟩,m,n,p,k,by omega⟩
theorem Zbld {a:Zw} (h:Zqk a) (k:a.Make.List.length≤100):ActIn a:=by
 obtain⟨_,_,n,p,_,m,_⟩:=h
 exact⟨⟨(Zbdk m k).ok,p⟩,n,Zbdk m k⟩
theorem Zbtg {a:Zw} (h:Zqk a):∃c,Zm3 a=some c∧(c=0∨c=1)∧(c=0→a.Make.List.length≤100):=by
 obtain⟨c,e1,e2,e3⟩:=Zbr7 (Zbn6 h.2.2.2.2.2.1)
 unfold Zm3
 rw[e1]
 by_cases k:(decide ((200:Int)<(a.Key.size:Int))||decide ((1000:Int)<(a.S.size:Int)))=true
 ·rw[k];exact⟨1,rfl,.inr rfl,fun h=>by cases h⟩
 ·have m:=Zb6k.2 k
  rw[m]
  rcases e2 with rfl | rfl
  ·exact⟨0,rfl,.inl rfl,fun _=>e3 rfl⟩
  ·exact⟨1,rfl,.inr rfl,fun h=>by cases h⟩
def Zbf4 (r0:Zb) (there:Bool) (a:Zw) (z:Zb×Bool×Zm):Prop :=
 (∃c,c≠0∧z=(r0,there,ans c))∨(Ze7 a=some 0∧ActW a∧(there=true→Zd0 r0) ∧
  ((a.Kind=1∧there=false∧Zd0 a.Make∧z=(a.Make,true,ans 0))∨(a.Kind=2∧there=true∧z=(zrc,false,ans 0))∨(a.Kind=3∧z=(r0,there,{ans 0 with Num:=r0.Kind}))∨(a.Kind=4∧there=true∧z=(r0,true,{ans 0 with Rec:=r0})) ∨
   (5≤a.Kind∧a.Kind≤21∧there=true∧Zqv a.Kind=some r0.Kind∧∃r' o,Zbz a.Kind r0 a default=some (0,r',o)∧o.Code=0∧o.Num=0∧RecW r'∧RecW o.Rec∧z=(r',true,o))))
theorem Zbco {r:Zb} {there:Bool} {a:Zw} (d:RecW r) (u:ActIn a):∃z,Zon r there a=some z∧Zbf4 (if there=true then r else zrc) there a z:=by
 suffices hs:∀r0:Zb,RecW r0→∃z,Zjc there a r0=some z∧Zbf4 r0 there a z by
  unfold Zon
  cases there
  ·exact hs _ Zem
  ·exact hs r d
 intro r0 k
 unfold Zjc
 rw[Zoa k.len]
 obtain⟨c,q,h2,e⟩:=Zri u.ok
 rw[q]
 simp only[Zb4b]
 by_cases n:c=0
 ·subst n
  have p:=e rfl
  have s:=u.w (c:=0) p
  obtain⟨on2,o1,o2,o3,o4,_⟩:=Z0j p.1 p.2.1
  have main:(there=true→Zd0 r0)→∃z,Zjb there a r0=some z∧Zbf4 r0 there a z:=by
   intro hg
   unfold Zjb Zi3
   rw[o1,Zoa k.len,Zoa u.mkr.len]
   simp only[Zb4b]
   by_cases k1:a.Kind=1
   ·have f:Zd0 a.Make:=(Zqg u.mkr.ok).1 (p.2.2.2.2.2.1 k1)
    rw[k1]
    cases there
    ·exact⟨_,rfl,.inr ⟨q,s,hg,.inl ⟨k1,rfl,f,rfl⟩⟩⟩
    ·exact⟨_,rfl,.inl ⟨7,by decide,rfl⟩⟩
   ·by_cases k3:a.Kind=3
    ·rw[k3]
     exact⟨_,rfl,.inr ⟨q,s,hg,.inr (.inr (.inl ⟨k3,rfl⟩))⟩⟩
    ·by_cases k2:a.Kind=2
     ·rw[k2]
      cases there
      ·exact⟨_,rfl,.inl ⟨6,by decide,rfl⟩⟩
      ·exact⟨_,rfl,.inr ⟨q,s,hg,.inr (.inl ⟨k2,rfl,rfl⟩)⟩⟩
     ·by_cases k4:a.Kind=4
      ·rw[k4]
       cases there
       ·exact⟨_,rfl,.inl ⟨6,by decide,rfl⟩⟩
       ·exact⟨_,rfl,.inr ⟨q,s,hg,.inr (.inr (.inr (.inl ⟨k4,rfl,rfl⟩)))⟩⟩
      ·have x:5≤a.Kind:=by omega
       have b1:(a.Kind==1)=false:=by simpa using k1
       have b2:(a.Kind==2)=false:=by simpa using k2
       have b3:(a.Kind==3)=false:=by simpa using k3
       have b4:(a.Kind==4)=false:=by simpa using k4
       simp only[b1,b2,b3,b4,Zb4s,Zb4d,if_false]
       cases there
       ·exact⟨_,rfl,.inl ⟨6,by decide,rfl⟩⟩
       ·simp only[Zb4z,Zb4d,if_false]
        by_cases y:(on2 !=r0.Kind)=true
        ·rw[if_pos y]
         exact⟨_,rfl,.inl ⟨5,by decide,rfl⟩⟩
        ·rw[if_neg y,if_pos ⟨x,p.2.1⟩]
         have v:on2=r0.Kind:=by simpa using y
         obtain⟨c,r',o,e1,e2,w1,w2,w3⟩:=Zbdy x p.2.1 k (hg rfl) (by rw[←v];exact o1) s
         rw[e1]
         simp only[Zb4b]
         by_cases n:c=0
         ·subst n
          exact⟨(r',true,o),rfl,.inr ⟨q,s,hg,.inr (.inr (.inr (.inr ⟨x,p.2.1,rfl,by rw[←v];exact o1,r',o,e1,(w3 rfl).1,(w3 rfl).2,w1,w2,rfl⟩)))⟩⟩
         ·have m:(c !=0)=true:=by simpa using n
          rw[if_pos m]
          exact⟨_,rfl,.inl ⟨c,n,rfl⟩⟩
  have z1:((0:Int)!=0)=false:=rfl
  rw[z1]
  simp only[Zb4d,if_false]
  by_cases b:there=true
  ·rw[if_pos b]
   obtain⟨c2,g1,g2⟩:=Zp4 k.ok
   rw[g1]
   simp only[Zb4b]
   by_cases t:c2=0
   ·subst t
    rw[z1]
    exact main fun _=>(Zqg k.ok).1 g1
   ·have m:(c2 !=0)=true:=by simpa using t
    rw[if_pos m]
    exact⟨_,rfl,.inl ⟨c2,t,rfl⟩⟩
  ·rw[if_neg b]
   exact main fun h=>absurd h b
 ·have m:(c !=0)=true:=by simpa using n
  rw[if_pos m]
  exact⟨_,rfl,.inl ⟨c,n,rfl⟩⟩
theorem Zbbn {f:Zn→Bool} {l:Zet}:∀y∈l.take (pre f l),f y=true:=fun y m=>by
 obtain⟨k,n,rfl⟩:=Zb5h m
 rw[Zb5n]at n
 obtain⟨e,h,p⟩:=Zbbw (f:=f) (l:=l) (k:=k) (by omega)
 rw[Zb4g (by omega)]at h
 rw[List.getElem_take]
 obtain rfl:=Zb4e.inj h
 exact p
variable {r r' r'':Zb} {a:Zw} {o o':Zm} {c:Int}
theorem Zw1 {r:Zb} {m:Int} (hg:Zd0 r) (n:2≤r.Kind∧r.Kind≤4) (k:r.Kind=4→r.Low≤m∧m≤r.High):Zd0 {r with Num:=m}:=by
 obtain⟨g1,g2,g3,g4,g5,g6,g7⟩:=hg
 refine⟨g1,g2,?_,g4,fun h=>⟨(g5 h).1,(g5 h).2.1,(k h).1,(k h).2⟩,g6,g7⟩
 unfold Zjd at *
 have:decide (2≤r.Kind∧r.Kind≤4)=true:=decide_eq_true n
 simp only[this,Zb5i]at *
 exact g3
theorem Zu9 {a b c:Zn} (h:Zej a b=true) (k:Zej b c=true):Zej a c=true:=by
 unfold Zej at *
 by_cases n:keyf a.Score=keyf b.Score
 ·rw[if_pos n]at h
  by_cases m:keyf b.Score=keyf c.Score
  ·rw[if_pos m]at k
   rw[if_pos (n.trans m)];exact Zih h k
  ·rw[if_neg m]at k
   rw[if_neg (by rw[n];exact m),n];exact k
 ·rw[if_neg n]at h
  have h':=of_decide_eq_true h
  by_cases m:keyf b.Score=keyf c.Score
  ·rw[if_neg (by rw[←m];exact n),←m];exact h
  ·rw[if_neg m]at k
   have k':=of_decide_eq_true k
   rw[if_neg (by omega)];exact decide_eq_true (by omega)
def BS (l:Zet):Prop:=l.Pairwise fun p q=>Zej p q=true
def Zzl (k:Int) (e:Zn):Prop:=e.Name.size≤16∧(k=8→keyf e.Score=keyf 0)∧e.Score=Zcs e.Score
theorem Ztx {k:Int} {l:Zet} {i:Nat} {x:Zn} (h:l[i]?=some x):Zj7 k l i=0↔Zzl k x∧(0<i→k=8→sLt ((l[i-1]?).getD default).Name x.Name=true)∧(0<i→k=9→Zej ((l[i-1]?).getD default) x=true):=by
 unfold Zj7 Zzl
 rw[h]
 simp only[]
 by_cases s:(16:Int)<x.Name.size
 ·rw[if_pos s];exact⟨fun h=>(by cases h),fun h=>by omega⟩
 ·rw[if_neg s]
  by_cases p:(k=8∧keyf x.Score≠keyf 0)∨x.Score≠Zcs x.Score
  ·rw[if_pos p]
   refine⟨fun h=>(by cases h),fun h=>?_⟩
   rcases p with ⟨a,b⟩ | b
   ·exact absurd (h.1.2.1 a) b
   ·exact absurd h.1.2.2 b
  ·rw[if_neg p]
   have e1:k=8→keyf x.Score=keyf 0:=fun t=>Classical.byContradiction fun q=>p (.inl ⟨t,q⟩)
   have e2:x.Score=Zcs x.Score:=Classical.byContradiction fun q=>p (.inr q)
   by_cases m:0<i∧k=8∧sLt ((l[i-1]?).getD default).Name x.Name=false
   ·rw[if_pos m]
    refine⟨fun h=>(by cases h),fun h=>?_⟩
    have:=h.2.1 m.1 m.2.1
    rw[m.2.2]at this;cases this
   ·rw[if_neg m]
    have e3:0<i→k=8→sLt ((l[i-1]?).getD default).Name x.Name=true:=fun a b=>by
     cases r:sLt ((l[i-1]?).getD default).Name x.Name
     ·exact absurd ⟨a,b,r⟩ m
     ·rfl
    by_cases n:0<i∧k=9∧Zej ((l[i-1]?).getD default) x=false
    ·rw[if_pos n]
     refine⟨fun h=>(by cases h),fun h=>?_⟩
     have:=h.2.2 n.1 n.2.1
     rw[n.2.2]at this;cases this
    ·rw[if_neg n]
     refine⟨fun _=>⟨⟨by omega,e1,e2⟩,e3,fun a b=>?_⟩,fun _=>rfl⟩
     cases r:Zej ((l[i-1]?).getD default) x
     ·exact absurd ⟨a,b,r⟩ n
     ·rfl
theorem Zba4 {R:Zn→Zn→Prop} (k:∀{a b c},R a b→R b c→R a c) {l:Zet} (step:∀i,i+1<l.length→R ((l[i]?).getD default) ((l[i+1]?).getD default)):l.Pairwise R:=by
 have far:∀d i,i+d+1<l.length→R ((l[i]?).getD default) ((l[i+d+1]?).getD default):=by
  intro d
  induction d with
  | zero=>intro i h;exact step i h
  | succ d ih=>intro i h;exact k (ih i (by omega)) (step (i+d+1) (by omega))
 refine Zb5z.2 fun i j m n p=>?_
 have:=far (j-i-1) i (by omega)
 rw[show i+(j-i-1)+1=j by omega,Zb4g m,Zb4g n]at this
 exact this
theorem Z80 {R:Zn→Zn→Prop} {l:Zet} (h:l.Pairwise R) {i:Nat} {x:Zn} (k:l[i]?=some x) (hi:0<i):R ((l[i-1]?).getD default) x:=by
 obtain⟨m,rfl⟩:=Zb4q.1 k
 rw[Zb4g (by omega)]
 exact Zb5z.1 h _ _ (by omega) m (by omega)
theorem Z55 {k:Int} {l:Zet}:(∀i,i<l.length→Zj7 k l i=0)↔(∀e∈l,Zzl k e)∧(k=8→NS l)∧(k=9→BS l):=by
 constructor
 ·intro h
  refine⟨fun e s=>?_,fun n=>?_,fun n=>?_⟩
  ·obtain⟨i,m,rfl⟩:=Zb5h s
   exact ((Ztx (Zb4g m)).1 (h i m)).1
  ·refine Zba4 (R:=fun p q=>sLt p.Name q.Name=true) (fun a b=>Zih a b) fun i m=>?_
   have:=((Ztx (Zb4g m)).1 (h (i+1) m)).2.1 (by omega) n
   rw[Zb4g m];exact this
  ·refine Zba4 (R:=fun p q=>Zej p q=true) (fun a b=>Zu9 a b) fun i m=>?_
   have:=((Ztx (Zb4g m)).1 (h (i+1) m)).2.2 (by omega) n
   rw[Zb4g m];exact this
 ·intro ⟨t,u,v⟩ i m
  have r:=Zb4g m
  exact (Ztx r).2 ⟨t _ (Zb4m m),fun a b=>Z80 (R:=fun p q=>sLt p.Name q.Name=true) (u b) r a,fun a b=>Z80 (R:=fun p q=>Zej p q=true) (v b) r a⟩
theorem Z93 {r:Zb} (h:Zd0 r) (k:8≤r.Kind):1≤r.Cap∧r.Cap≤32∧(r.List.length:Int)≤r.Cap∧(∀e∈r.List,Zzl r.Kind e)∧(r.Kind=8→NS r.List)∧(r.Kind=9→BS r.List):=by
 obtain⟨a,b,c,d⟩:=h.2.2.2.2.2.2 k
 exact⟨a,b,c,Z55.1 d⟩
theorem Ztn {r:Zb} {l:Zet} (h:Zd0 r) (k:8≤r.Kind) (m:(l.length:Int)≤r.Cap) (n:∀e∈l,Zzl r.Kind e) (p:r.Kind=8→NS l) (q:r.Kind=9→BS l):Zd0 {r with List:=l}:=by
 obtain⟨g1,g2,g3,g4,g5,g6,g7⟩:=h
 refine⟨g1,g2,?_,g4,g5,g6,fun k=>⟨(g7 k).1,(g7 k).2.1,m,Z55.2 ⟨n,p,q⟩⟩⟩
 unfold Zjd at *
 have:decide (8≤r.Kind)=true:=decide_eq_true k
 simp only[this,Zb5i]at *
 exact g3
theorem Zx3 {r:Zb} {t:ByteArray} (h:Zd0 r) (k:r.Kind=1) (m:t.size≤64):Zd0 {r with Text:=t}:=by
 obtain⟨g1,g2,g3,g4,g5,g6,g7⟩:=h
 refine⟨g1,g2,?_,m,g5,g6,g7⟩
 unfold Zjd at *
 have:decide (r.Kind=1)=true:=decide_eq_true k
 simp only[this,Zb5i,Zb4t]at *
 exact g3
theorem Z7a {r:Zb} {x:Nat} (h:Zd0 r) (k:5≤r.Kind∧r.Kind≤7) (m:x=Zcs x):Zd0 {r with Real:=x}:=by
 obtain⟨g1,g2,g3,g4,g5,g6,g7⟩:=h
 refine⟨g1,g2,?_,g4,g5,m,g7⟩
 unfold Zjd at *
 have:decide (5≤r.Kind∧r.Kind≤7)=true:=decide_eq_true k
 simp only[this,Zb5i]at *
 exact g3
variable {r r':Zb} {a:Zw} {o:Zm}
theorem Zs4 {ψ:Nat→Nat→Option Nat} (hg:Zd0 r) (k:5≤r.Kind∧r.Kind≤7) (hψ:∀m,ψ r.Real a.X=some m→m=Zcs m) (e:Zbz a.Kind r a default=Zgi ψ r a default) (h:Zbz a.Kind r a default=some (0,r',o)):Zd0 r':=by
 rw[e]at h
 unfold Zgi at h
 obtain⟨m,m1,m2⟩:=Zb4f.1 h
 simp only[Zb4e.injEq,Zb47.injEq]at m2
 obtain⟨_,rfl,_⟩:=m2
 exact Z7a hg k (hψ m m1)
theorem Zbic (h:a.Kind=18) (c:RecW r) (hg:Zd0 r) (w:r.Kind=8) (d:ActW a) (m:Zbz a.Kind r a default=some (0,r',o)):Zd0 r':=by
 have e:Zbz a.Kind r a default=Zpt r a default:=by rw[h];rfl
 obtain⟨c1,c2,c3,c4,c5,_⟩:=Z93 hg (by omega)
 have hs:=c5 w
 have hl:=c.len
 have g:=Zus (fun e=>sLt e.Name a.S) r.List
 rw[e]at m
 unfold Zpt at m
 rw[Zt5 hs (by omega),Zwh (by omega)]at m
 simp only[Zb4b]at m
 by_cases t:isAt a.S r.List=true
 ·rw[if_pos t]at m
  simp only[Zb4e.injEq,Zb47.injEq,true_and]at m
  rw[←m.1];exact hg
 ·rw[if_neg t]at m
  by_cases z:decide (r.Cap≤(r.List.length:Int))=true
  ·rw[if_pos z]at m;cases m
  ·rw[if_neg z]at m
   have l:¬r.Cap≤(r.List.length:Int):=by simpa using z
   unfold Zc3 at m
   rw[if_pos ⟨by omega,by omega,by simp,by simp;omega⟩]at m
   simp only[Zb4b,Zb4e.injEq,Zb47.injEq,true_and,Zb45]at m
   obtain⟨rfl,_⟩:=m
   have n:∀y∈r.List.drop (pre (fun e=>sLt e.Name a.S) r.List),sLt a.S y.Name=true:=fun y p=>by
    obtain⟨k,w,rfl⟩:=Zb5h p
    rw[Zb6p]at w
    rw[List.getElem_drop]
    have b:=Z1q (s:=a.S) hs (k:=pre (fun e=>sLt e.Name a.S) r.List+k) (by omega)
    rw[show decide (pre (fun e=>sLt e.Name a.S) r.List+k<pre (fun e=>sLt e.Name a.S) r.List)=false by simp]at b
    refine Zsm b fun i=>?_
    have u:=Z10 (s:=a.S) hs
    rw[show isAt a.S r.List=false by simpa using t,List.any_eq_false]at u
    exact u _ (Zb4m _) (Zko.2 i)
   refine Ztn hg (by omega) (by simp;omega) (fun e q=>?_) (fun _=>?_) (fun h=>by omega)
   ·simp only[Zb46,Zb41]at q
    rcases q with (q | rfl) | q
    ·exact c4 e (Zb43 q)
    ·exact⟨d.s16 (by omega),fun _=>rfl,by kernel_rfl⟩
    ·exact c4 e (Zb5e q)
   ·unfold NS at *
    rw[Zb4i,Zb5q]
    refine⟨hs.sublist (Zb5w _ _),?_,fun x j y p=>?_⟩
    ·rw[Zb5p,Zb4u]
     exact⟨n,hs.sublist (Zb5x _ _)⟩
    ·have v:sLt x.Name a.S=true:=Zbbn (f:=fun e=>sLt e.Name a.S) x j
     rcases Zb46.1 p with p | p
     ·rw[Zb41.1 p];exact v
     ·exact Zih v (n y p)
theorem Zbe5 (h:a.Kind=19) (k:RecW r) (hg:Zd0 r) (m:r.Kind=8) (p:Zbz a.Kind r a default=some (0,r',o)):Zd0 r':=by
 obtain⟨c1,c2,c3,c4,c5,_⟩:=Z93 hg (by omega)
 have hl:=k.len
 obtain⟨c,x,y,d1,d2,_⟩:=Z6r h k hg m
 rw[p]at d1
 simp only[Zb4e.injEq,Zb47.injEq]at d1
 obtain⟨rfl,rfl,rfl⟩:=d1
 have e2:Zch r a=(Zeb r a (Zb4p ((r.List.length:Int)-(0:Int))+1) ([]:List Zn) (0:Int)).bind fun z57=>match z57 with | y56=>(Zbf ({r with List:=y56}) (ans 0)):=by unfold Zch Zc6;rw[h];rfl
 have n:=Zvb (a:=a) (a0:=r) (by omega) r.List.length 0 [] (by omega) (by simp)
 rw[show ((0:Nat):Int)=0 from rfl]at n
 rw[e2,show (Zb4p ((r.List.length:Int)-(0:Int))+1)=r.List.length+1 by omega,n,Zb4n,Zb4y]at d2
 simp only[Zb4b,Zbf,if_true,Zb4e.injEq,Zb47.injEq]at d2
 obtain⟨rfl,_⟩:=d2
 have s:=List.length_filter_le (fun e:Zn=>!sEq e.Name a.S) r.List
 exact Ztn hg (by omega) (by omega) (fun e q=>c4 e (List.mem_filter.1 q).1) (fun _=>Zb5m.sublist List.filter_sublist (c5 m)) (fun h=>by omega)
theorem Zbgc (h:a.Kind=21) (b:RecW r) (hg:Zd0 r) (g:r.Kind=9) (v:ActW a) (k:Zbz a.Kind r a default=some (0,r',o)):Zd0 r':=by
 have e:Zbz a.Kind r a default=Zoc r a default:=by rw[h];rfl
 obtain⟨c1,c2,c3,c4,_,c6⟩:=Z93 hg (by omega)
 have hs:=c6 g
 have hl:=b.len
 have i:=Zus (Zfb {Score:=a.X,Name:=a.S} false) r.List
 rw[e]at k
 unfold Zoc at k
 rw[Z6x v.ok.2 b.ok.sc (by omega),Zwh (by omega)]at k
 simp only[Zb4b]at k
 obtain⟨e9,g9,k⟩:=Zb4f.1 k
 obtain⟨r11,g11,k⟩:=Zb4f.1 k
 split at k
 ·simp only[Zb4e.injEq,Zb47.injEq,true_and]at k
  rw[←k.1];exact hg
 ·rename_i s
  unfold Zc3 at k
  rw[if_pos ⟨by omega,by omega,by simp,by simp;omega⟩]at k
  simp only[Zb4b]at k
  rw[Z9q c1 c2]at k
  simp only[Zb4b,Zb4e.injEq,Zb47.injEq,true_and,Zb45]at k
  obtain⟨rfl,_⟩:=k
  have n:∀y∈r.List.drop (pre (Zfb {Score:=a.X,Name:=a.S} false) r.List),Zej {Score:=a.X,Name:=a.S} y=true:=fun y m=>by
   have u:pre (Zfb {Score:=a.X,Name:=a.S} false) r.List<r.List.length:=by
    have:=List.length_pos_of_mem m
    rw[Zb6p]at this;omega
   have c:decide (((pre (Zfb {Score:=a.X,Name:=a.S} false) r.List:Nat):Int)<(r.List.length:Int))=true:=by simpa using u
   rw[c,Zc0 u]at g9
   simp only[gd_t,Zb4e.injEq]at g9
   subst g9
   rw[c]at g11 s
   simp only[gd_t]at g11
   rw[Zvq v.ok.2 (b.ok.sc _ (Zb4m u))]at g11
   have d:Zej {Score:=a.X,Name:=a.S} r.List[pre (Zfb {Score:=a.X,Name:=a.S} false) r.List]=true:=by
    have:=Zb4e.inj g11
    rw[←this]at s
    simpa using s
   rw[Zb4h u]at m
   rcases Zb42.1 m with rfl | m
   ·exact d
   ·refine Zu9 d ?_
    have w:(r.List.drop (pre (Zfb {Score:=a.X,Name:=a.S} false) r.List)).Pairwise fun p q=>Zej p q=true:=Zb5m.sublist (Zb5x _ _) hs
    rw[Zb4h u,Zb4u]at w
    exact w.1 y m
  refine Ztn hg (by omega) (by rw[Zb5n];omega) (fun e t=>?_) (fun h=>by omega) (fun _=>?_)
  ·have t:=Zb43 t
   simp only[Zb46,Zb41]at t
   rcases t with (t | rfl) | t
   ·exact c4 e (Zb43 t)
   ·exact⟨v.s16 (by omega),fun h=>by omega,v.xc⟩
   ·exact c4 e (Zb5e t)
  ·refine Zb5m.sublist (Zb5w _ _) ?_
   rw[Zb4i,Zb5q]
   refine⟨List.Pairwise.sublist (Zb5w _ _) hs,?_,fun x j y m=>?_⟩
   ·rw[Zb5p,Zb4u]
    exact⟨n,Zb5m.sublist (Zb5x _ _) hs⟩
   ·have z:Zej x {Score:=a.X,Name:=a.S}=true:=Zbbn (f:=Zfb {Score:=a.X,Name:=a.S} false) x j
    rcases Zb46.1 m with m | m
    ·rw[Zb41.1 m];exact z
    ·exact Zu9 z (n y m)
theorem Zk3 {k on:Int} {c:Int} (h:Zqv k=some on) (e:Zqv k=some c):on=c:=Zb4e.inj (h.symm.trans e)
theorem Zbks (h5:5≤a.Kind) (b:a.Kind≤21) (n:Zqv a.Kind=some r.Kind) (u:RecW r) (hg:Zd0 r) (q:ActW a) (k:Zbz a.Kind r a default=some (0,r',o)):Zd0 r':=by
 have real:∀{m:Nat},m=r.Real∨m=a.X→m=Zcs m:=fun {m} h=>by
  rcases h with rfl | rfl
  ·exact Ztk hg
  ·exact q.xc
 have z:a.Kind=5∨a.Kind=6∨a.Kind=7∨a.Kind=8∨a.Kind=9∨a.Kind=10∨a.Kind=11∨a.Kind=12∨a.Kind=13∨a.Kind=14∨a.Kind=15∨a.Kind=16∨a.Kind=17∨a.Kind=18∨a.Kind=19∨a.Kind=20∨a.Kind=21:=by omega
 rcases z with h | h | h | h | h | h | h | h | h | h | h | h | h | h | h | h | h
 ·have e:Zbz a.Kind r a default=Znt r a default:=by rw[h];rfl
  rw[e]at k
  simp only[Znt,Zb4e.injEq,Zb47.injEq,true_and]at k
  rw[←k.1]
  exact Zx3 hg (Zk3 n (by rw[h];kernel_rfl)) q.s64
 ·have e:Zbz a.Kind r a default=Zj3 r a default:=by rw[h];rfl
  rw[e]at k
  simp only[Zj3,Zoa u.len,Zb4b,Zb4e.injEq,Zb47.injEq,true_and]at k
  rw[←k.1]
  exact Zx3 hg (Zk3 n (by rw[h];kernel_rfl)) q.s64
 ·have e:Zbz a.Kind r a default=Znq r a default:=by rw[h];rfl
  rw[e]at k
  simp only[Znq,Zb4e.injEq,Zb47.injEq,true_and]at k
  rw[←k.1]
  have p:r.Kind=2:=Zk3 n (by rw[h];kernel_rfl)
  exact Zw1 hg (by omega) (fun h=>by omega)
 ·have e:Zbz a.Kind r a default=Zpx r a default:=by rw[h];rfl
  rw[e]at k
  unfold Zpx at k
  split at k
  ·cases k
  ·simp only[Zb4e.injEq,Zb47.injEq,true_and]at k
   rw[←k.1]
   have p:r.Kind=3:=Zk3 n (by rw[h];kernel_rfl)
   exact Zw1 hg (by omega) (fun h=>by omega)
 ·have e:Zbz a.Kind r a default=Zfn r a default:=by rw[h];rfl
  rw[e]at k
  unfold Zfn at k
  split at k
  ·cases k
  ·simp only[Zb4e.injEq,Zb47.injEq,true_and]at k
   rw[←k.1];exact hg
 ·have e:Zbz a.Kind r a default=Zjm r a default:=by rw[h];rfl
  have p:r.Kind=4:=Zk3 n (by rw[h];kernel_rfl)
  obtain⟨p1,p2,p3,p4⟩:=Z71 hg p
  obtain⟨q1,q2⟩:=q.inout (.inl h)
  rw[e]at k
  unfold Zjm at k
  rw[wr (x:=r.High-r.Num) (by omega) (by omega),wr (x:=r.Num+a.N) (by omega) (by omega)]at k
  split at k
  ·cases k
  ·rename_i s
   have v:¬(r.High-r.Num<a.N):=by simpa using s
   simp only[Zb4e.injEq,Zb47.injEq,true_and]at k
   rw[←k.1]
   exact Zw1 hg (by omega) (fun _=>by omega)
 ·have e:Zbz a.Kind r a default=Zjo r a default:=by rw[h];rfl
  have p:r.Kind=4:=Zk3 n (by rw[h];kernel_rfl)
  obtain⟨p1,p2,p3,p4⟩:=Z71 hg p
  obtain⟨q1,q2⟩:=q.inout (.inr h)
  rw[e]at k
  unfold Zjo at k
  rw[wr (x:=r.Num-r.Low) (by omega) (by omega),wr (x:=r.Num-a.N) (by omega) (by omega)]at k
  split at k
  ·cases k
  ·rename_i s
   have v:¬(r.Num-r.Low<a.N):=by simpa using s
   simp only[Zb4e.injEq,Zb47.injEq,true_and]at k
   rw[←k.1]
   exact Zw1 hg (by omega) (fun _=>by omega)
 ·have e:Zbz a.Kind r a default=Zfn r a default:=by rw[h];rfl
  rw[e]at k
  unfold Zfn at k
  split at k
  ·cases k
  ·simp only[Zb4e.injEq,Zb47.injEq,true_and]at k
   rw[←k.1];exact hg
 ·have p:r.Kind=5:=Zk3 n (by rw[h];kernel_rfl)
  refine Zs4 (ψ:=fun x y=>Zp9 x y) hg (by omega) (fun m t=>?_) (by rw[h];rfl) k
  obtain⟨m',e1,_,e2⟩:=Z9v u.ok.real q.ok.2 (Ztk hg) q.xc
  have:m=m':=Zb4e.inj (t.symm.trans e1)
  exact real (this▸e2)
 ·have p:r.Kind=6:=Zk3 n (by rw[h];kernel_rfl)
  refine Zs4 (ψ:=fun x y=>Zqc x y) hg (by omega) (fun m t=>?_) (by rw[h];rfl) k
  obtain⟨m',e1,_,e2⟩:=Z9a u.ok.real q.ok.2 (Ztk hg) q.xc
  have:m=m':=Zb4e.inj (t.symm.trans e1)
  exact real (this▸e2)
 ·have p:r.Kind=7:=Zk3 n (by rw[h];kernel_rfl)
  refine Zs4 (ψ:=fun x y=>Zlq x y) hg (by omega) (fun m t=>?_) (by rw[h];rfl) k
  have w:=Zbdp r.Real a.X
  have:Zlq r.Real a.X=some (Zcs (fadd r.Real a.X)):=by unfold Zlq;rw[Zng w];rfl
  have:m=Zcs (fadd r.Real a.X):=Zb4e.inj (t.symm.trans this)
  rw[this,Z1e]
 ·have p:r.Kind=7:=Zk3 n (by rw[h];kernel_rfl)
  refine Zs4 (ψ:=fun x y=>Zkb x y) hg (by omega) (fun m t=>?_) (by rw[h];rfl) k
  have w:=Zbdx r.Real a.X
  have:Zkb r.Real a.X=some (Zcs (fmul r.Real a.X)):=by unfold Zkb;rw[Zng w];rfl
  have:m=Zcs (fmul r.Real a.X):=Zb4e.inj (t.symm.trans this)
  rw[this,Z1e]
 ·have p:r.Kind=7:=Zk3 n (by rw[h];kernel_rfl)
  refine Zs4 (ψ:=fun x y=>Zjk x y) hg (by omega) (fun m t=>?_) (by rw[h];rfl) k
  exact real (.inr (Zb4e.inj t).symm)
 ·exact Zbic h u hg (Zk3 n (by rw[h];kernel_rfl)) q k
 ·exact Zbe5 h u hg (Zk3 n (by rw[h];kernel_rfl)) k
 ·have p:r.Kind=8:=Zk3 n (by rw[h];kernel_rfl)
  have e:Zbz a.Kind r a default=Zh0 r a default:=by rw[h];rfl
  have hl:=u.len
  rw[e]at k
  unfold Zh0 at k
  rw[Zt5 (Zru hg p) (by omega)]at k
  simp only[Zb4b]at k
  split at k
  ·cases k
  ·simp only[Zb4e.injEq,Zb47.injEq,true_and]at k
   rw[←k.1];exact hg
 ·exact Zbgc h u hg (Zk3 n (by rw[h];kernel_rfl)) q k
theorem Zbfe (m:a.Kind=9∨a.Kind=12∨a.Kind=20) (p:RecW r) (hg:Zd0 r) (n:Zqv a.Kind=some r.Kind) (k:Zbz a.Kind r a default=some (0,r',o)):r'=r:=by
 rcases m with h | h | h
 ·have e:Zbz a.Kind r a default=Zfn r a default:=by rw[h];rfl
  rw[e]at k
  unfold Zfn at k
  split at k
  ·cases k
  ·simp only[Zb4e.injEq,Zb47.injEq,true_and]at k
   exact k.1.symm
 ·have e:Zbz a.Kind r a default=Zfn r a default:=by rw[h];rfl
  rw[e]at k
  unfold Zfn at k
  split at k
  ·cases k
  ·simp only[Zb4e.injEq,Zb47.injEq,true_and]at k
   exact k.1.symm
 ·have m:r.Kind=8:=Zk3 n (by rw[h];kernel_rfl)
  have e:Zbz a.Kind r a default=Zh0 r a default:=by rw[h];rfl
  have hl:=p.len
  rw[e]at k
  unfold Zh0 at k
  rw[Zt5 (Zru hg m) (by omega)]at k
  simp only[Zb4b]at k
  split at k
  ·cases k
  ·simp only[Zb4e.injEq,Zb47.injEq,true_and]at k
   exact k.1.symm
structure Zbnl (t:Bool) (r:Zb):Prop where
 w:RecW r
 good:t=true→Zd0 r
 zero:t=false→r=zrc
theorem Zzb {k:ByteArray} {r:Zb} {l:List KV} (hs:Srt l) (h:lk k l=some r):insL k r l=l:=by
 rcases Zs5 r hs with ⟨p,a1,a2,a3,a4,_⟩ | ⟨_,a2,_⟩
 ·rw[a4]
  rw[h]at a3
  obtain rfl:=Zb4e.inj a3
  have e:(k,p.2)=p:=by rw[←a2]
  rw[e]
  obtain⟨m,n⟩:=Zb4q.1 a1
  have:=Zb58 (rk k l) l
  rw[Zb4h m,n]at this
  exact this
 ·rw[h]at a2;cases a2
theorem Zbhj {k:ByteArray} {r:Zb}:∀{l:List KV},lk k l=some r→(k,r)∈l
 | [],h=>by cases h
 | p::l,h=>by
  simp only[lk]at h
  split at h
  ·rename_i m
   obtain rfl:=Zb4e.inj h
   have:=Zko.1 m
   subst this
   exact Zb5t ..
  ·exact Zb44 _ (Zbhj h)
theorem Z3z {r:Zb} (h:Zd0 r):r.List.length≤32:=by
 by_cases m:8≤r.Kind
 ·have:=h.2.2.2.2.2.2 m
  omega
 ·have k:=h.2.2.1
  have n:decide (8≤r.Kind)=false:=by simpa using m
  rw[n]at k
  simp only[Zjd,Zb5k,Zb5a,beq_iff_eq]at k
  have:=k.2.2
  omega
theorem Zmy {s s':Z4} {k:ByteArray} {x:Zb} {c:Int} (h:Zgj s k x=some (s',c)):s'.room=s.room:=by
 unfold Zgj at h
 split at h
 ·cases h;rfl
 ·obtain⟨_,_,h⟩:=Zb4f.1 h
  split at h
  ·cases h;rfl
  ·obtain⟨_,_,h⟩:=Zb4f.1 h
   obtain⟨_,_,h⟩:=Zb4f.1 h
   split at h
   ·cases h;rfl
   ·obtain⟨_,_,h⟩:=Zb4f.1 h
    obtain⟨_,_,h⟩:=Zb4f.1 h
    cases h;rfl
theorem Zzv {s s':Z4} {k:ByteArray} {b:Bool} (h:Zix s k=some (s',b)):s'.room=s.room:=by
 unfold Zix at h
 obtain⟨_,_,h⟩:=Zb4f.1 h
 split at h
 ·cases h;rfl
 ·obtain⟨_,_,h⟩:=Zb4f.1 h
  cases h;rfl
theorem Z95 {s s':Z4} {t:Zk} {n:Nat} (h:Rel s t n) (hn:n<1000000) {k:ByteArray} {x:Zb} {c:Int} (e:Zgj s k x=some (s',c)) (q:Zeg x=some 0) (hx:x.List.length≤100) (u:sEq k ⟨#[]⟩=false) (w:k.size≤24) :
  (((lk k (pl t)).isSome=true∨(t.L.length:Int)<t.Room)→c=0∧toL s'.top=insL k x (pl t))∧((lk k (pl t)).isNone=true→t.Room≤(t.L.length:Int)→c=8∧s'=s):=by
 have hb:=h.len
 obtain⟨t1,q1,_,q3⟩:=Zbd4 (k:=k) (x:=x) h.sz (by rw[h.top];exact h.srt) (by rw[h.tl];omega)
 unfold Zgj at e
 rw[u,q,Zz2 h,Z4y h,Zw9 (by unfold Cl;omega)]at e
 have v:decide ((24:Int)<(k.size:Int))=false:=by simp;omega
 rw[v]at e
 simp only[Zb5r,Zb4d,if_false,Zb4b,bne_self_eq_false]at e
 cases p:lk k (pl t)with
 | none =>
  rw[p]at e
  simp only[getR,Zb4r,gd_t,Zb4b,Zb4t,h.room]at e
  by_cases m:t.Room≤(t.L.length:Int)
  ·rw[if_pos (by simpa using m)]at e
   cases e
   refine⟨fun h=>?_,fun _ _=>⟨rfl,rfl⟩⟩
   rcases h with h | h
   ·cases h
   ·omega
  ·rw[if_neg (by simpa using m),q1]at e
   cases e
   exact⟨fun _=>⟨rfl,by rw[←h.top];exact q3⟩,fun _ h=>absurd h m⟩
 | some r =>
  rw[p]at e
  simp only[getR,Zb4z,gd_f,Zb4b,Zb4s,Zb4d,if_false]at e
  rw[q1]at e
  cases e
  exact⟨fun _=>⟨rfl,by rw[←h.top];exact q3⟩,fun h=>by cases h⟩
structure FR (s:Z4) (t:Zk) (n:Nat):Prop where
 rel:Rel s t n
 good:∀q∈pl t,RecW q.2∧Zd0 q.2
 fit:(t.L.length:Int)≤t.Room
theorem Zbjn {k:ByteArray} {x r:Zb} {l:List KV} (hs:Srt l) (h:lk k l=some r):(insL k x l).length=l.length:=by
 rcases Zs5 x hs with ⟨p,a1,a2,a3,a4,_⟩ | ⟨_,a2,_⟩
 ·rw[a4]
  have:=(Zb4q.1 a1).1
  simp;omega
 ·rw[h]at a2;cases a2
theorem FR.mono {s:Z4} {t:Zk} {n m:Nat} (h:FR s t n) (k:n≤m):FR s t m:=⟨h.rel.mono k,h.good,h.fit⟩
theorem Zbpc {s:Z4} {t t':Zk} {n:Nat} (h:Rel s t n) (k:pl t'=pl t) (m:t'.Room=t.Room):Rel s t' n :=
 ⟨h.top.trans k.symm,h.sz,by rw[k];exact h.srt,by rw[←Zii,k,Zii];exact h.len,h.room.trans m.symm,by rw[k];exact h.ok⟩
theorem Z0h {s:Z4} {t t':Zk} {n:Nat} (h:FR s t n) (k:pl t'=pl t) (m:t'.Room=t.Room):FR s t' n :=
 ⟨Zbpc h.rel k m,by rw[k];exact h.good,by rw[m,←Zii,k,Zii];exact h.fit⟩
theorem Zbpl {s s':Z4} {t t':Zk} {n m:Nat} {k:ByteArray} {x:Zb} (h:FR s t n) (v:Rel s' t' m) (z:RecW x) (hg:Zd0 x) (p:(lk k (pl t)).isSome=true∨(t.L.length:Int)<t.Room) (w:pl t'=insL k x (pl t)) (y:t'.Room=t.Room):FR s' t' m:=⟨v,fun q u=>by
 rw[w]at u
 rcases Zz7 u with rfl | u
 ·exact⟨z,hg⟩
 ·exact h.good q u,by
 have a:=h.fit
 rw[y,←Zii,w]
 have b:=Zui k x (pl t)
 rw[Zii]at b
 rcases p with p | p
 ·obtain⟨r,v⟩:=Option.isSome_iff_exists.1 p
  rw[Zbjn h.rel.srt v,Zii];exact a
 ·omega⟩
theorem Zbov {a:Zw} (n:ActIn a) (h:Ze7 a=some 0):sEq a.Key ⟨#[]⟩=false∧a.Key.size≤24:=by
 obtain⟨c,k,_,m⟩:=Zri n.ok
 rw[h]at k
 obtain rfl:=Zb4e.inj k
 exact⟨(m rfl).2.2.2.2.2.2.2.1,(m rfl).2.2.2.2.2.2.2.2⟩
theorem Zv2 {d:Zbj} (m:∀a∈d.Acts,ActIn a) (q:d.Acts.length≤12):∀(n i:Nat),i+n=d.Acts.length →
  ∃z,Zed d (n+1) (i:Int)=some z∧Zfo d (n+1) (i:Int)=some z∧(z=.inr ()∨∃c at_,z=.inl (c,at_)∧c≠0)
 | 0,i,h=>by
  rw[Zed,Zfo,if_neg (by simp;omega),if_neg (by simp;omega)]
  exact⟨_,rfl,rfl,.inl rfl⟩
 | n+1,i,h=>by
  have p:i<d.Acts.length:=by omega
  obtain⟨c,e1,e2,_⟩:=Zri (m _ (Zb4m p)).ok
  rw[Zed,Zfo,if_pos (by simp;omega),if_pos (by simp;omega),Zc0 p,wr1 (by omega)]
  simp only[Zb4b]
  rw[e1,e2]
  simp only[Zb4b]
  by_cases k:(c !=0)=true
  ·rw[if_pos k,if_pos k]
   exact⟨_,rfl,rfl,.inr ⟨_,_,rfl,by simpa using k⟩⟩
  ·rw[if_neg k,if_neg k]
   exact Zv2 m q n (i+1) (by omega)
theorem Z1m {d:Zbj} (k:∀a∈d.Acts,ActIn a):∃c at_,Zhw d=some (c,at_)∧Zkz d=some (c,at_)∧(c=0→1≤d.Acts.length∧d.Acts.length≤12):=by
 unfold Zhw Zkz
 by_cases h:d.Acts.length<1∨12<d.Acts.length
 ·rw[if_pos (by rw[Zb40,beq_iff_eq,decide_eq_true_eq];omega),if_pos (by rw[Zb40,decide_eq_true_eq,decide_eq_true_eq];omega)]
  exact⟨_,_,rfl,rfl,fun h=>by cases h⟩
 ·rw[if_neg (by rw[Zb40,beq_iff_eq,decide_eq_true_eq];omega),if_neg (by rw[Zb40,decide_eq_true_eq,decide_eq_true_eq];omega)]
  obtain⟨z,e1,e2,m⟩:=Zv2 k (by omega) d.Acts.length 0 (by omega)
  rw[show ((0:Nat):Int)=0 from rfl]at e1 e2
  rw[show (Zb4p ((d.Acts.length:Int)-(0:Int))+1)=d.Acts.length+1 by omega,e1,e2]
  rcases m with rfl | ⟨c,at_,rfl,n⟩
  ·exact⟨_,_,rfl,rfl,fun _=>by omega⟩
  ·exact⟨_,_,rfl,rfl,fun h=>absurd h n⟩
def Z4k (L:List Zm):Prop:=∀a∈L,RecW a.Rec
theorem Zbft {L:List Zm} {a:Zm} (h:Z4k L) (m:RecW a.Rec):Z4k (L++[a]):=fun b k=>by
 rcases Zb46.1 k with k | k
 ·exact h b k
 ·rw[Zb41.1 k];exact m
def Zbhr (R:Zbl):Prop:=R.Answers.length≤12∧Z4k R.Answers
def Z8r (L:List Zbl):Prop:=∀R∈L,Zbhr R
theorem Z6t {d:Zbj} (r:d.Acts.length≤40) (q:∀a∈d.Acts,Zqk a):∀(n i:Nat),i+n=d.Acts.length→Zfk d (n+1) (i:Int)=some (.inl 1)∨(Zfk d (n+1) (i:Int)=some (.inr ())∧∀a∈d.Acts.drop i,a.Make.List.length≤100)
 | 0,i,h=>by
  right
  rw[Zfk,if_neg (by simp;omega),Zb4k (by omega)]
  exact⟨rfl,fun o k=>by cases k⟩
 | n+1,i,h=>by
  have m:i<d.Acts.length:=by omega
  obtain⟨c,e1,e2,e3⟩:=Zbtg (q _ (Zb4m m))
  rw[Zfk,if_pos (by simp;omega),Zc0 m,wr1 (by omega)]
  simp only[Zb4b]
  rw[e1]
  rcases e2 with rfl | rfl
  ·simp only[Zb6z,decide_false,Zb4d,if_false,Zb4b]
   rcases Z6t r q n (i+1) (by omega)with p | ⟨p,s⟩
   ·exact .inl p
   ·right
    refine⟨p,fun o k=>?_⟩
    rw[Zb4h m]at k
    rcases Zb42.1 k with rfl | k
    ·exact e3 rfl
    ·exact s o k
  ·left;rfl
theorem big8 {d:Zbj} (m:Zlg d):∃c,Zmz d=some c∧(c=0∨c=1)∧(c=0→d.Acts.length≤40∧∀a∈d.Acts,ActIn a):=by
 unfold Zmz
 by_cases h:40<d.Acts.length
 ·rw[if_pos (by simp;omega)];exact⟨1,rfl,.inr rfl,fun h=>by cases h⟩
 ·rw[if_neg (by simp;omega),show (Zb4p ((d.Acts.length:Int)-(0:Int))+1)=d.Acts.length+1 by omega]
  have:=Z6t (d:=d) (by omega) m.2 d.Acts.length 0 (by omega)
  rw[show ((0:Nat):Int)=0 from rfl]at this
  rcases this with k | ⟨k,p⟩
  ·rw[k];exact⟨1,rfl,.inr rfl,fun h=>by cases h⟩
  ·rw[k];exact⟨0,rfl,.inl rfl,fun _=>⟨by omega,fun a n=>Zbld (m.2 a n) (p a n)⟩⟩
theorem Z21 {l:List Zbj} (r:l.length≤40) (q:∀d∈l,Zlg d):∀(n i:Nat),i+n=l.length→Zfq l (n+1) (i:Int)=some (.inl 1)∨(Zfq l (n+1) (i:Int)=some (.inr ())∧∀d∈l.drop i,d.Acts.length≤40∧∀a∈d.Acts,ActIn a)
 | 0,i,h=>by
  right
  rw[Zfq,if_neg (by simp;omega),Zb4k (by omega)]
  exact⟨rfl,fun o k=>by cases k⟩
 | n+1,i,h=>by
  have m:i<l.length:=by omega
  obtain⟨c,e1,e2,e3⟩:=big8 (q _ (Zb4m m))
  rw[Zfq,if_pos (by simp;omega),Zc0 m,wr1 (by omega)]
  simp only[Zb4b]
  rw[e1]
  rcases e2 with rfl | rfl
  ·simp only[Zb6z,decide_false,Zb4d,if_false,Zb4b]
   rcases Z21 r q n (i+1) (by omega)with p | ⟨p,s⟩
   ·exact .inl p
   ·right
    refine⟨p,fun o k=>?_⟩
    rw[Zb4h m]at k
    rcases Zb42.1 k with rfl | k
    ·exact e3 rfl
    ·exact s o k
  ·left;rfl
theorem Zbr2 {l:List Zbj} (m:∀d∈l,Zlg d):∃c,Zmi l=some c∧(c=0∨c=1)∧(c=0→l.length≤40∧∀d∈l,d.Acts.length≤40∧∀a∈d.Acts,ActIn a):=by
 unfold Zmi
 by_cases h:40<l.length
 ·rw[if_pos (by simp;omega)];exact⟨1,rfl,.inr rfl,fun h=>by cases h⟩
 ·rw[if_neg (by simp;omega),show (Zb4p ((l.length:Int)-(0:Int))+1)=l.length+1 by omega]
  have:=Z21 (l:=l) (by omega) m l.length 0 (by omega)
  rw[show ((0:Nat):Int)=0 from rfl]at this
  rcases this with k | ⟨k,n⟩
  ·rw[k];exact⟨1,rfl,.inr rfl,fun h=>by cases h⟩
  ·rw[k];exact⟨0,rfl,.inl rfl,fun _=>⟨by omega,n⟩⟩
structure DB (d:Zbj):Prop where
 l1:1≤d.Acts.length
 l12:d.Acts.length≤12
 ab:∀a∈d.Acts,AB a∧Ze7 a=some 0
theorem Z2f {α:Type} {f:α→List Int} {m:Nat}:∀(l:List α),(∀a∈l,(f a).length≤m)→(l.flatMap f).length≤l.length*m
 | [],h=>by simp
 | a::l,h=>by
  have h1:=h a (Zb5t ..)
  have h2:=Z2f l fun x k=>h x (Zb44 _ k)
  simp only[Zb4w,Zb4c,Zb51,Nat.add_mul]
  omega
def Zvf (d:Zbj):List Int:=W d.Acts.length++d.Acts.flatMap actB
theorem Zbhs {d:Zbj} (h:DB d):(Zvf d).length≤30000:=by
 have h1:=Znk d.Acts.length
 have h2:=Z2f d.Acts (f:=actB) (m:=2200) fun a k=>(Zbjt (h.ab a k).1).2
 have h3:d.Acts.length*2200≤12*2200:=Zb6d _ h.l12
 unfold Zvf
 simp only[Zb4c]
 omega
theorem Zba7 {d:Zbj}:∀(n i:Nat),i+n=d.Acts.length→d.Acts.length≤12→(∀a∈d.Acts,ActIn a)→Zed d (n+1) (i:Int)=some (.inr ())→∀a∈d.Acts.drop i,Ze7 a=some 0
 | 0,i,h,r,m,e=>fun a k=>by rw[Zb4k (by omega)]at k;cases k
 | n+1,i,h,r,m,e=>fun a k=>by
  have p:i<d.Acts.length:=by omega
  obtain⟨c,e1,_⟩:=Zri (m _ (Zb4m p)).ok
  rw[Zed,if_pos (by simp;omega),Zc0 p,wr1 (by omega),Zb4b,e1,Zb4b]at e
  by_cases q:(c !=0)=true
  ·rw[if_pos q]at e;cases e
  ·rw[if_neg q]at e
   rw[Zb4h p]at k
   rcases Zb42.1 k with rfl | k
   ·have:c=0:=by simpa using q
    rw[e1,this]
   ·exact Zba7 n (i+1) (by omega) r m e a k
theorem Z6a {d:Zbj} (p:d.Acts.length≤12):∀(n i:Nat),i+n=d.Acts.length→(∀a∈d.Acts,Ze7 a=some 0)→Zed d (n+1) (i:Int)=some (.inr ())
 | 0,i,h,k=>by rw[Zed,if_neg (by simp;omega)]
 | n+1,i,h,k=>by
  have m:i<d.Acts.length:=by omega
  rw[Zed,if_pos (by simp;omega),Zc0 m,wr1 (by omega),Zb4b,k _ (Zb4m m),Zb4b,if_neg (by simp)]
  exact Z6a p n (i+1) (by omega) k
theorem Zbbb {d:Zbj} (h:∀a∈d.Acts,ActIn a):(∃c at_,Zhw d=some (c,at_)∧c≠0)∨(DB d∧∃at_,Zhw d=some (0,at_)):=by
 obtain⟨c,at_,e1,_,e3⟩:=Z1m h
 by_cases m:c=0
 ·subst m
  obtain⟨l1,l2⟩:=e3 rfl
  refine .inr ⟨⟨l1,l2,?_⟩,at_,e1⟩
  unfold Zhw at e1
  rw[if_neg (by rw[Zb40,beq_iff_eq,decide_eq_true_eq];omega)]at e1
  obtain⟨z,f1,_,p⟩:=Zv2 h (by omega) d.Acts.length 0 (by omega)
  rw[show ((0:Nat):Int)=0 from rfl]at f1
  rw[show (Zb4p ((d.Acts.length:Int)-(0:Int))+1)=d.Acts.length+1 by omega,f1]at e1
  rcases p with rfl | ⟨c',a',rfl,n⟩
  ·have:=Zba7 d.Acts.length 0 (by omega) l2 h (by rw[show ((0:Nat):Int)=0 from rfl];exact f1)
   rw[Zb4n]at this
   exact fun a k=>⟨Zbsv (h a k) (this a k),this a k⟩
  ·rw[Zb4b]at e1
   have:=congrArg Prod.fst (Zb4e.inj e1)
   exact absurd this n
 ·exact .inl ⟨c,at_,e1,m⟩
theorem Zbg9 {d:Zbj} (h:DB d):Zhw d=some (0,0):=by
 unfold Zhw
 have l1:=h.l1;have l2:=h.l12
 rw[if_neg (by rw[Zb40,beq_iff_eq,decide_eq_true_eq];omega),show (Zb4p ((d.Acts.length:Int)-(0:Int))+1)=d.Acts.length+1 by omega]
 have:=Z6a h.l12 d.Acts.length 0 (by omega) fun a k=>(h.ab a k).2
 rw[show ((0:Nat):Int)=0 from rfl]at this
 rw[this];rfl
theorem Zbbp {d:Zbj} (h:DB d):∀(n i:Nat) (b:List Int),i+n=d.Acts.length→b.length+((d.Acts.drop i).flatMap actB).length≤1000000000→Zi9 d (n+1) (i:Int) ⟨b⟩=some ⟨b++(d.Acts.drop i).flatMap actB⟩
 | 0,i,b,p,k=>by rw[Zi9,if_neg (by simp;omega),Zb4k (by omega)];simp
 | n+1,i,b,p,k=>by
  have m:i<d.Acts.length:=by omega
  have hl:=h.l12
  rw[Zb4h m]at k⊢
  simp only[Zb4w,Zb4c]at k⊢
  rw[Zi9,if_pos (by simp;omega),Zc0 m,Zb4b]
  refine (Zoq (Zbk7 (h.ab _ (Zb4m m)).1) (by omega) _).trans ?_
  rw[wr1 (by omega)]
  refine (Zbbp h n (i+1) _ (by omega) ?_).trans ?_
  ·simp only[Zb4c];omega
  ·simp only[Zb4i]
theorem Zbhp {d:Zbj} (h:DB d):Puts (fun w=>Zp8 w d) (Zvf d):=fun b k=>by
 show Zp8 _ d=_
 unfold Zvf at k⊢
 simp only[Zb4c]at k
 have hl:=h.l12
 unfold Zp8
 rw[wru (x:=(d.Acts.length:Int)) (by omega) (by omega),show (Zb4p ((d.Acts.length:Int)-(0:Int))+1)=d.Acts.length+1 by omega]
 refine (Zoq (Zrz (v:=d.Acts.length) (by omega)) (by omega) _).trans ?_
 have:=Zbbp h d.Acts.length 0 (b++W d.Acts.length) (by omega) (by simp only[Zb4c,Zb4n];omega)
 rw[show ((0:Nat):Int)=0 from rfl,Zb4n]at this
 rw[this,Zb4b,Zb4i]
theorem Z50 {d:Zbj} (h:DB d) {X:List Int} {R:Zh} (q:X.length≤1000000000):∀(n i p:Nat) (post:List Int),i+n=d.Acts.length→X.drop p=(d.Acts.drop i).flatMap actB++post →
  Zi2 ((d.Acts.length:Int),R) (n+1) ⟨d.Acts.take i⟩ (i:Int) ⟨X,(p:Int)⟩=some (d,⟨X,((p+((d.Acts.drop i).flatMap actB).length:Nat):Int)⟩)
 | 0,i,p,post,r,k=>by
  rw[Zi2,if_neg (by simp;omega),Zb4k (by omega),Zb4o (by omega)];simp
 | n+1,i,p,post,r,k=>by
  have m:i<d.Acts.length:=by omega
  have hl:=h.l12
  obtain⟨g1,g2⟩:=h.ab _ (Zb4m m)
  rw[Zb4h m]at k⊢
  simp only[Zb4w,Zb4i]at k
  rw[Zi2,if_pos (by simp;omega)]
  refine (Zpg (Zbh9 g1 g2) q k (fun x R'=>if ((d.Acts.take i).length+([x]:List Zw).length)*152≤140737488355328 then (Zi2 ((d.Acts.length:Int),R) (n+1)) ⟨d.Acts.take i++[x]⟩ (Zb4j.wrap ((i:Int)+1)) R' else none)).trans ?_
  rw[if_pos (by simp;omega),wr1 (by omega),Zb5g m]
  refine (Z50 h q n (i+1) _ post (by omega) (Zd7 k)).trans ?_
  simp only[Zb4w,Zb4c,Zb5c]
theorem Zbfh {d:Zbj} (h:DB d):Zrn Zth (Zvf d) d:=fun X i post m k=>by
 have hl:=h.l12;have n:=h.l1
 unfold Zvf at k⊢
 rw[Zb4i]at k
 unfold Zth
 refine (Zpg (Zop (v:=d.Acts.length) (l:=12) (by omega) (by decide)) m k (fun x R=>if (x==(0:Int))then ((Zd2 R (1:Int)).bind fun r4=>(Zls (x,R) r4))else (Zls (x,R) R))).trans ?_
 rw[if_neg (by rw[beq_iff_eq];omega)]
 unfold Zls
 simp only[]
 rw[show (Zb4p ((d.Acts.length:Int)-(0:Int))+1)=d.Acts.length+1 by omega]
 have:=Z50 h (R:=⟨X,((i+(W d.Acts.length).length:Nat):Int)⟩) m d.Acts.length 0 (i+(W d.Acts.length).length) post (by omega) (by rw[Zb4n];exact Zd7 k)
 rw[show ((0:Nat):Int)=0 from rfl,Zb4n,Zb59]at this
 rw[show (default:Zbj)=⟨[]⟩ from rfl,this,Zb4b]
 simp only[Zb4c,Zb5c]
def Zly (l:List Zbj):List Int:=l.flatMap Zvf
def lotB (x:Zbc):List Int:=W x.Number.toNat++(W x.Deals.length++Zly x.Deals)
theorem Z6k {x:Zbc} (p:x.Deals.length≤32) (h:∀d∈x.Deals,DB d):∀(n i:Nat) (b:List Int),i+n=x.Deals.length→b.length+(Zly (x.Deals.drop i)).length≤1000000000→Zif x (n+1) (i:Int) ⟨b⟩=some ⟨b++Zly (x.Deals.drop i)⟩
 | 0,i,b,q,k=>by rw[Zif,if_neg (by simp;omega),Zb4k (by omega)];simp[Zly]
 | n+1,i,b,q,k=>by
  have m:i<x.Deals.length:=by omega
  rw[Zb4h m]at k⊢
  simp only[Zly,Zb4w,Zb4c]at k⊢
  rw[Zif,if_pos (by simp;omega),Zc0 m,Zb4b]
  refine (Zoq (Zbhp (h _ (Zb4m m))) (by omega) _).trans ?_
  rw[wr1 (by omega)]
  refine (Z6k p h n (i+1) _ (by omega) ?_).trans ?_
  ·simp only[Zb4c,Zly];omega
  ·simp only[Zb4i,Zly]
theorem Zbj4 {x:Zbc} (k:x.Deals.length≤32) (h:∀d∈x.Deals,DB d):(lotB x).length≤1000000:=by
 have h1:=Znk x.Number.toNat
 have h2:=Znk x.Deals.length
 have h3:=Z2f x.Deals (f:=Zvf) (m:=30000) fun d n=>Zbhs (h d n)
 have h4:x.Deals.length*30000≤32*30000:=Zb6d _ k
 unfold lotB Zly
 simp only[Zb4c]
 omega
theorem Zxc {x:Zbc} (hn:1≤x.Number) (p:x.Number≤1099511627776) (m:x.Deals.length≤32) (h:∀d∈x.Deals,DB d):Zo7 x=some (lotB x):=by
 have k:=Zbj4 m h
 unfold lotB at k⊢
 simp only[Zb4c]at k
 unfold Zo7
 have n:Zb56.wrap x.Number=((x.Number.toNat:Nat):Int):=by rw[wru (by omega) (by omega)];omega
 rw[n,wru (x:=(x.Deals.length:Int)) (by omega) (by omega),show (Zb4p ((x.Deals.length:Int)-(0:Int))+1)=x.Deals.length+1 by omega]
 refine (Zoq (Zrz (v:=x.Number.toNat) (by omega)) (by simp only[Zb5b];omega) _).trans ?_
 refine (Zoq (Zrz (v:=x.Deals.length) (by omega)) (by simp only[Zb4c,Zb5b];omega) _).trans ?_
 have:=Z6k m h x.Deals.length 0 ([]++W x.Number.toNat++W x.Deals.length) (by omega) (by simp only[Zb4c,Zb5b,Zb4n];omega)
 rw[show ((0:Nat):Int)=0 from rfl,Zb4n]at this
 rw[this,Zb4b]
 simp only[]
 unfold Znh
 rw[if_pos (by simp only[Zb4c,Zb5b];omega)]
 simp only[Zb4b,Zb4y,Zb4i]
theorem Z1j {x:Zbc} (s:x.Deals.length≤32) (h:∀d∈x.Deals,∀a∈d.Acts,ActIn a):∀(n i:Nat),i+n=x.Deals.length→(∃c at_,Zez x (n+1) (i:Int)=some (.inl (c,at_))∧c≠0)∨(Zez x (n+1) (i:Int)=some (.inr ())∧∀d∈x.Deals.drop i,DB d)
 | 0,i,t=>by
  right
  rw[Zez,if_neg (by simp;omega),Zb4k (by omega)]
  exact⟨rfl,fun d m=>by cases m⟩
 | n+1,i,t=>by
  have p:i<x.Deals.length:=by omega
  rw[Zez,if_pos (by simp;omega),Zc0 p,Zb4b,wr1 (by omega),Zb4h p]
  rcases Zbbb (h _ (Zb4m p))with ⟨c,a,e,r⟩ | ⟨m,a,e⟩
  ·rw[e,Zb4b,if_pos (by simpa using r)]
   exact .inl ⟨c,_,rfl,r⟩
  ·rw[e,Zb4b,if_neg (by simp)]
   rcases Z1j s h n (i+1) (by omega)with q | ⟨q,u⟩
   ·exact .inl q
   ·refine .inr ⟨q,fun d k=>?_⟩
    rcases Zb42.1 k with rfl | k
    ·exact m
    ·exact u d k
structure LB (x:Zbc):Prop where
 n1:1≤x.Number
 n2:x.Number≤1099511627776
 l:x.Deals.length≤32
 db:∀d∈x.Deals,DB d
 short:(lotB x).length≤2048
theorem Zbp3 {x:Zbc} (h:∀d∈x.Deals,∀a∈d.Acts,ActIn a):∃c at_,Zja x=some (c,at_)∧(c=0→at_=0∧LB x):=by
 unfold Zja
 by_cases m:x.Number<1∨1099511627776<x.Number
 ·rw[if_pos (by simpa using m)];exact⟨_,_,rfl,fun h=>by cases h⟩
 rw[if_neg (by simpa using m)]
 by_cases hl:32<x.Deals.length
 ·rw[if_pos (by simp;omega)];exact⟨_,_,rfl,fun h=>by cases h⟩
 rw[if_neg (by simp;omega),show (Zb4p ((x.Deals.length:Int)-(0:Int))+1)=x.Deals.length+1 by omega]
 have:=Z1j (x:=x) (by omega) h x.Deals.length 0 (by omega)
 rw[show ((0:Nat):Int)=0 from rfl]at this
 rcases this with ⟨c,a,e,n⟩ | ⟨e,k⟩
 ·rw[e,Zb4b];exact⟨c,a,rfl,fun h=>absurd h n⟩
 ·rw[Zb4n]at k
  rw[e,Zb4b]
  simp only[]
  rw[Zxc (by omega) (by omega) (by omega) k,Zb4b]
  by_cases hs:2048<(lotB x).length
  ·rw[if_pos (by simp;omega)];exact⟨_,_,rfl,fun h=>by cases h⟩
  ·rw[if_neg (by simp;omega)];exact⟨_,_,rfl,fun _=>⟨rfl,by omega,by omega,by omega,k,by omega⟩⟩
theorem Z8o {x:Zbc} (m:x.Deals.length≤32) (h:∀d∈x.Deals,DB d):∀(n i:Nat),i+n=x.Deals.length→Zez x (n+1) (i:Int)=some (.inr ())
 | 0,i,p=>by rw[Zez,if_neg (by simp;omega)]
 | n+1,i,p=>by
  have k:i<x.Deals.length:=by omega
  rw[Zez,if_pos (by simp;omega),Zc0 k,Zb4b,wr1 (by omega),Zbg9 (h _ (Zb4m k)),Zb4b,if_neg (by simp)]
  exact Z8o m h n (i+1) (by omega)
theorem Z6e {x:Zbc} (h:LB x):Zja x=some (0,0):=by
 have n1:=h.n1;have n2:=h.n2;have l:=h.l;have s:=h.short
 unfold Zja
 rw[if_neg (by simp;omega),if_neg (by simp;omega),show (Zb4p ((x.Deals.length:Int)-(0:Int))+1)=x.Deals.length+1 by omega]
 have:=Z8o l h.db x.Deals.length 0 (by omega)
 rw[show ((0:Nat):Int)=0 from rfl]at this
 rw[this,Zb4b]
 simp only[]
 rw[Zxc n1 n2 l h.db,Zb4b,if_neg (by simp;omega)]
theorem Zbiv {x:Zbc} (h:LB x):Zte x=some (lotB x):=by
 unfold Zte
 rw[Z6e h,Zb4b,if_neg (by simp),Zxc h.n1 h.n2 h.l h.db];rfl
theorem Z4b {x:Zbc} (h:LB x) {X:List Int} {R:Zh} (q:X.length≤1000000000):∀(n i p:Nat) (post:List Int),i+n=x.Deals.length→X.drop p=Zly (x.Deals.drop i)++post →
  Zir ((x.Deals.length:Int),R) (n+1) ⟨x.Number,x.Deals.take i⟩ ⟨X,(p:Int)⟩ (i:Int)=some (x,⟨X,((p+(Zly (x.Deals.drop i)).length:Nat):Int)⟩)
 | 0,i,p,post,r,k=>by
  rw[Zir,if_neg (by simp;omega),Zb4k (by omega),Zb4o (by omega)];simp[Zly]
 | n+1,i,p,post,r,k=>by
  have m:i<x.Deals.length:=by omega
  have hl:=h.l
  rw[Zb4h m]at k⊢
  simp only[Zly,Zb4w,Zb4i]at k
  rw[Zir,if_pos (by simp;omega)]
  refine (Zpg (Zbfh (h.db _ (Zb4m m))) q k (fun y R'=>if ((x.Deals.take i).length+([y]:List Zbj).length)*24≤140737488355328 then (Zir ((x.Deals.length:Int),R) (n+1)) ⟨x.Number,x.Deals.take i++[y]⟩ R' (Zb4j.wrap ((i:Int)+1))else none)).trans ?_
  rw[if_pos (by simp;omega),wr1 (by omega),Zb5g m]
  refine (Z4b h q n (i+1) _ post (by omega) (Zd7 k)).trans ?_
  simp only[Zly,Zb4w,Zb4c,Zb5c]
theorem Zbmv {x:Zbc} (h:LB x):Zuz (lotB x)=some (x,⟨0,0⟩):=by
 have n1:=h.n1;have n2:=h.n2;have l:=h.l;have s:=h.short
 have t:((x.Number.toNat:Nat):Int)=x.Number:=by omega
 generalize p:lotB x=X
 rw[p]at s
 have m:X.drop 0=W x.Number.toNat++(W x.Deals.length++(Zly x.Deals++[])):=by rw[Zb4n,←p,Zb4v];rfl
 have k:X.length≤1000000000:=by omega
 unfold Zuz Z12
 rw[Zb4b]
 refine (Zpg (Zop (v:=x.Number.toNat) (l:=1099511627776) (by omega) (by decide)) k m (fun y R=>if (({(default:Zbc)with Number:=y}:Zbc).Number==(0:Int))then ((Zd2 R (1:Int)).bind fun r6=>(Znd (y,R) r6))else (Znd (y,R) R))).trans ?_
 simp only[t]
 rw[if_neg (by simp;omega)]
 unfold Znd
 have n:=Zd7 m
 refine (Zpg (Zop (v:=x.Deals.length) (l:=32) (by omega) (by decide)) k n (fun y R=>(Zir (y,R) (Zb4p (y-(0:Int))+1) ⟨x.Number,[]⟩ R (0:Int)).bind fun z20=>match z20 with | (y18,y19)=>((Zja y18).bind fun r21=>(if (r21.1 !=(0:Int))then ((Zd2 y19 r21.1).bind fun r24=>(Zne y18 r24))else (Zne y18 y19))))).trans ?_
 have r:=Zd7 n
 rw[show (Zb4p ((x.Deals.length:Int)-(0:Int))+1)=x.Deals.length+1 by omega]
 have:=Z4b h (R:=⟨X,((0+(W x.Number.toNat).length+(W x.Deals.length).length:Nat):Int)⟩) k x.Deals.length 0 (0+(W x.Number.toNat).length+(W x.Deals.length).length) [] (by omega) (by rw[Zb4n];exact r)
 rw[show ((0:Nat):Int)=0 from rfl,Zb4n,Zb59]at this
 rw[this,Zb4b]
 simp only[]
 rw[Z6e h,Zb4b,if_neg (by simp)]
 unfold Zne Zpf Zju
 have q:0+(W x.Number.toNat).length+(W x.Deals.length).length+(Zly x.Deals).length=X.length:=by
  rw[←p];unfold lotB;simp only[Zb4c];omega
 rw[q,Zb4b]
 simp only[]
 rw[if_neg (by rw[decide_eq_true_eq,Int.sub_self];decide)]
 rfl
def N14 (o:Option Int):Prop:=∀c,o=some c→c≠14
theorem Zbmj {k:Int} (h:k≠14):N14 (some k):=fun c e=>by rw[←Zb4e.inj e];exact h
theorem Zblq {α:Type} {o:Option α} {f:α→Option Int} (h:∀x,N14 (f x)):N14 (o.bind f):=fun c e=>by
 obtain⟨x,_,k⟩:=Zb4f.1 e
 exact h x c k
theorem Zblx {o:Option Int} (h:N14 o):N14 (o.bind fun r=>some r):=fun c e=>by
 obtain⟨x,k,m⟩:=Zb4f.1 e
 rw[←Zb4e.inj m];exact h x k
theorem Zbl7 {p:Prop} [Decidable p] {x y:Option Int} (h1:N14 x) (h2:N14 y):N14 (if p then x else y):=by
 split <;> assumption
theorem Zbbe {k:Int} {l:List Zn}:∀(n:Nat) (i c:Int),Zgf k l n i=some (.inl c)→c≠14
 | 0,i,c,h=>by rw[Zgf]at h;cases h
 | n+1,i,c,h=>by
  rw[Zgf]at h
  split at h
  ·obtain⟨e,_,h⟩:=Zb4f.1 h
   split at h
   ·obtain rfl:=Zb6a.inj (Zb4e.inj h);decide
   ·obtain⟨e2,_,h⟩:=Zb4f.1 h
    obtain⟨e3,_,h⟩:=Zb4f.1 h
    split at h
    ·obtain rfl:=Zb6a.inj (Zb4e.inj h);decide
    ·obtain⟨e4,_,h⟩:=Zb4f.1 h
     split at h
     ·obtain rfl:=Zb6a.inj (Zb4e.inj h);decide
     ·obtain⟨e5,_,h⟩:=Zb4f.1 h
      obtain⟨e6,_,h⟩:=Zb4f.1 h
      split at h
      ·obtain rfl:=Zb6a.inj (Zb4e.inj h);decide
      ·exact Zbbe n _ c h
  ·cases Zb4e.inj h
theorem Zbcc {k:Int} {l:List Zn}:N14 (Zpq k l):=fun c h=>by
 unfold Zpq at h
 obtain⟨z,n,m⟩:=Zb4f.1 h
 cases z with
 | inl r=>rw[←Zb4e.inj m];exact Zbbe _ _ r n
 | inr u=>rw[←Zb4e.inj m];decide
theorem Zbcl (r:Zb):N14 (Zeg r):=by
 unfold Zeg
 repeat first | exact Zbmj (by decide) | exact Zblx Zbcc | refine Zblq fun _=>?_ | refine Zbl7 ?_ ?_
theorem Zbb6 (a:Zw):N14 (Ze7 a):=by
 unfold Ze7
 repeat first | exact Zbmj (by decide) | exact Zblx (Zbcl _) | refine Zblq fun _=>?_ | refine Zbl7 ?_ ?_
theorem Zx2 {d:Zbj}:∀(n:Nat) (i:Int) (q:Int×Int),Zed d n i=some (.inl q)→q.1≠14
 | 0,i,q,h=>by rw[Zed]at h;cases h
 | n+1,i,q,h=>by
  rw[Zed]at h
  split at h
  ·obtain⟨e,_,h⟩:=Zb4f.1 h
   obtain⟨c,k,h⟩:=Zb4f.1 h
   split at h
   ·obtain rfl:=Zb6a.inj (Zb4e.inj h);exact Zbb6 _ _ k
   ·exact Zx2 n _ q h
  ·cases Zb4e.inj h
theorem Zbb0 {d:Zbj} {q:Int×Int} (h:Zhw d=some q):q.1≠14:=by
 unfold Zhw at h
 split at h
 ·rw[←Zb4e.inj h];decide
 ·obtain⟨z,m,k⟩:=Zb4f.1 h
  cases z with
  | inl r=>rw[←Zb4e.inj k];exact Zx2 _ _ _ m
  | inr u=>rw[←Zb4e.inj k];decide
theorem Zys {x:Zbc}:∀(n:Nat) (i:Int) (q:Int×Int),Zez x n i=some (.inl q)→q.1≠14
 | 0,i,q,h=>by rw[Zez]at h;cases h
 | n+1,i,q,h=>by
  rw[Zez]at h
  split at h
  ·obtain⟨e,_,h⟩:=Zb4f.1 h
   obtain⟨c,k,h⟩:=Zb4f.1 h
   split at h
   ·obtain rfl:=Zb6a.inj (Zb4e.inj h);have:=Zbb0 k;exact this
   ·exact Zys n _ q h
  ·cases Zb4e.inj h
theorem Zbc6 {x:Zbc} {q:Int×Int} (h:Zja x=some q):q.1≠14:=by
 unfold Zja at h
 split at h
 ·rw[←Zb4e.inj h];decide
 split at h
 ·rw[←Zb4e.inj h];decide
 obtain⟨z,n,m⟩:=Zb4f.1 h
 cases z with
 | inl r=>rw[←Zb4e.inj m];exact Zys _ _ _ n
 | inr u =>
  obtain⟨w,_,k⟩:=Zb4f.1 m
  split at k
  ·rw[←Zb4e.inj k];decide
  ·rw[←Zb4e.inj k];decide
def Zk6 (p:Nat) (g:Nat→List Int) (j:Nat):List Zo:=(List.range j).map fun i=>⟨((p+i:Nat):Int),g i⟩
theorem Zxu (p:Nat) (g:Nat→List Int) (j:Nat):Zk6 p g (j+1)=Zk6 p g j++[⟨((p+j:Nat):Int),g j⟩]:=by simp[Zk6,List.range_succ]
theorem Zvj (p:Nat) (g:Nat→List Int) (j:Nat):(Zk6 p g j).length=j:=by simp[Zk6]
theorem Zbaq {p n j:Nat} {g:Nat→List Int} (h:p+j≤n):InR n (Zk6 p g j):=fun w k=>by
 obtain⟨i,m,rfl⟩:=Zb6f.1 k
 have:=List.mem_range.1 m
 simp only;omega
theorem Zbf2 (ws vs:List Zo) (f:List (List Int)):Zl4 (ws++vs) f=Zl4 vs (Zl4 ws f):=by simp[Zl4]
theorem Z1o {p:Nat} {g:Nat→List Int} {f:List (List Int)}:∀(j x:Nat),p+j≤f.length→(Zl4 (Zk6 p g j) f)[x]?=if p≤x∧x<p+j then some (g (x-p))else f[x]?
 | 0,x,_=>by rw[if_neg (by omega)];rfl
 | j+1,x,h=>by
  have ih:=Z1o (g:=g) j x (show p+j≤f.length by omega)
  rw[Zxu,Zbf2]
  show ((Zl4 (Zk6 p g j) f).set (((p+j:Nat):Int)).toNat (g j))[x]?=_
  rw[Zb45,Zb6l,ih,Z34]
  by_cases k:p+j=x
  ·rw[if_pos k,if_pos (by omega),if_pos (by omega),show x-p=j by omega]
  ·rw[if_neg k]
   by_cases m:p≤x∧x<p+j
   ·rw[if_pos m,if_pos (by omega)]
   ·rw[if_neg m,if_neg (by omega)]
theorem Z30 (kept:List Int):∀(ws vs:List Zo) (i:Nat) (f:List (List Int)),Zkh kept i (ws++vs) f=Zkh kept (i+ws.length) vs (Zkh kept i ws f)
 | [],vs,i,f=>rfl
 | w::ws,vs,i,f=>by
  rw[Zb48,Zkh,Z30 kept ws vs (i+1),Zkh,Zb51,show i+1+ws.length=i+(ws.length+1) by omega]
theorem Zvz {kept:List Int} {p:Nat} {g:Nat→List Int} {f:List (List Int)}:∀(j x:Nat),p+j≤f.length→(Zkh kept 0 (Zk6 p g j) f)[x]?=if p≤x∧x<p+j then some (Zi0 (f[x]?.getD []) 0 ((g (x-p)).take (kn kept (x-p))))else f[x]?
 | 0,x,_=>by rw[if_neg (by omega)];rfl
 | j+1,x,h=>by
  have ih:=Zvz (kept:=kept) (g:=g) j x (show p+j≤f.length by omega)
  have ih2:=Zvz (kept:=kept) (p:=p) (g:=g) (f:=f) j (p+j) (by omega)
  rw[if_neg (by omega)]at ih2
  rw[Zxu,Z30,Zvj,Zb53]
  show ((Zkh kept 0 (Zk6 p g j) f).set (((p+j:Nat):Int)).toNat (Zi0 ((Zkh kept 0 (Zk6 p g j) f)[(((p+j:Nat):Int)).toNat]?.getD []) 0 ((g j).take (kn kept j))))[x]?=_
  rw[Zb45,ih2,Zb6l,ih,Zxx]
  by_cases k:p+j=x
  ·subst k
   rw[if_pos rfl,if_pos (by omega),if_pos (by omega),Zb5l]
  ·rw[if_neg k]
   by_cases m:p≤x∧x<p+j
   ·rw[if_pos m,if_pos (by omega)]
   ·rw[if_neg m,if_neg (by omega)]
structure Up (f:List (List Int)) (p:Nat) (b:List Int) (j:Nat) (x:Ze):Prop where
 firm:x.firm=f
 up:x.down=false
 l0:0≤x.left
 l1:x.left≤9223372036854775807
 pend:x.pending=Zk6 p (sect b) j
theorem Z1i {f:List (List Int)} {p:Nat} {b:List Int} {z:Int} (u:f.length=500) (v:need b.length≤64) (w:p+need b.length≤500):∀(m i:Nat) (x:Ze),i+m=need b.length→Up f p b i x →
  (∃x',Ze5 b (z,⟨(),A0,(p:Int)⟩) ((need b.length:Nat):Int) (m+1) (i:Int) x=some (.inr x')∧Up f p b (need b.length) x') ∨
  (∃j x',j≤need b.length∧Ze5 b (z,⟨(),A0,(p:Int)⟩) ((need b.length:Nat):Int) (m+1) (i:Int) x=some (.inl (14,(⟨(),A0,(p:Int)⟩,x')))∧x'.firm=f∧x'.pending=Zk6 p (sect b) j)
 | 0,i,x,h,k=>by
  left
  rw[Ze5,if_neg (by simp;omega)]
  exact⟨x,rfl,by rw[show need b.length=i by omega];exact k⟩
 | m+1,i,x,h,k=>by
  have y:b.length≤60*need b.length:=by unfold need;omega
  have r:p+i<x.firm.length:=by rw[k.firm];omega
  have d:x.pending.length=i:=by rw[k.pend,Zvj]
  have a:cut b (min ((i:Int)*60) (b.length:Int)) (min (((i+1:Nat):Int)*60) (b.length:Int))=some (Zm2 b i):=by
   rw[show min ((i:Int)*60) (b.length:Int)=((min (60*i) b.length:Nat):Int) by omega,show min (((i+1:Nat):Int)*60) (b.length:Int)=((min (60*(i+1)) b.length:Nat):Int) by omega,Zkw (by omega) (by omega)]
   congr 1
   unfold Zm2
   by_cases c:60*i≤b.length
   ·rw[Zb6u c]
    by_cases s:60*(i+1)≤b.length
    ·rw[Zb6u s];congr 1;omega
    ·rw[Zb6q (by omega),Zb4o (by simp),Zb4o (by simp;omega)]
   ·rw[Zb6q (show b.length≤60*i by omega),Zb4k (Zb57 _),Zb4k (show b.length≤60*i by omega)];simp
  have t:IntKind.u8.wrap (((need b.length:Nat):Int)-1-(i:Int))=((need b.length-1-i:Nat):Int):=by
   simp only[IntKind.wrap,IntKind.bits,IntKind.signed,Zb4s,Zb4d,if_false]
   omega
  rw[Ze5,if_pos (by simp;omega),wr (show -9223372036854775808≤(i:Int)*60 by omega) (by omega),wr1 (by omega),wr (show -9223372036854775808≤((i+1:Nat):Int)*60 by omega) (by omega),a,Zb4b,wr (show -9223372036854775808≤((need b.length:Nat):Int)-1 by omega) (by omega),wr (show -9223372036854775808≤((need b.length:Nat):Int)-1-(i:Int) by omega) (by omega),t,if_pos (by simp[Zs9];omega),Zb5p,Zbmz (by simp[Zs9];omega),Zb4b]
  simp only[Int.zero_add]
  rw[wr (show -9223372036854775808≤(p:Int) by omega) (by omega),wr (show -9223372036854775808≤(p:Int)+(i:Int) by omega) (by omega),show (p:Int)+(i:Int)=((p+i:Nat):Int) by omega,Z6m k.up r (by omega) k.l0 k.l1,Zb4b]
  have n:(Zsx x (p+i) (sec (((need b.length-1-i:Nat):Int)::Zm2 b i))).pending=Zk6 p (sect b) (i+1):=by
   rw[Zxu,←k.pend];rfl
  have h0:=k.l0;have h1:=k.l1
  by_cases q:x.left=1
  ·rw[if_pos q,if_pos (by simp)]
   exact .inr ⟨i+1,_,by omega,rfl,k.firm,n⟩
  ·rw[if_neg q,if_neg (by simp)]
   refine Z1i u v w m (i+1) _ (by omega) ⟨k.firm,by simp[Zsx,q],?_,?_,n⟩
   ·show 0≤(if 0<x.left then x.left-1 else x.left);split <;> omega
   ·show (if 0<x.left then x.left-1 else x.left)≤_;split <;> omega
theorem Zbie {f:List (List Int)} {p:Nat} {x:Ze} {l:Zbc} (u:f.length=500) (hp:p≤500) (m:Up f p [] 0 x) (g:∀d∈l.Deals,∀a∈d.Acts,ActIn a) :
  (∃c,c≠0∧c≠14∧Zm5 (⟨(),l.Number⟩,(⟨(),A0,(p:Int)⟩,x)) l=some (c,(⟨(),l.Number⟩,(⟨(),A0,(p:Int)⟩,x)))) ∨
  (LB l∧p+need (lotB l).length≤500∧((∃x',Zm5 (⟨(),l.Number⟩,(⟨(),A0,(p:Int)⟩,x)) l=some (0,(⟨(),l.Number+1⟩,(⟨(),A0,((p+need (lotB l).length:Nat):Int)⟩,x')))∧Up (f.take p++(secs (lotB l)++f.drop (p+need (lotB l).length))) (p+need (lotB l).length) [] 0 x') ∨
   (∃j x',j≤need (lotB l).length∧Zm5 (⟨(),l.Number⟩,(⟨(),A0,(p:Int)⟩,x)) l=some (14,(⟨(),l.Number⟩,(⟨(),A0,(p:Int)⟩,x')))∧x'.firm=f∧x'.pending=Zk6 p (sect (lotB l)) j))):=by
 unfold Zm5
 rw[if_neg (by simp)]
 obtain⟨c,at_,e1,e2⟩:=Zbp3 g
 rw[e1,Zb4b]
 by_cases q:c=0
 ·subst q
  obtain⟨rfl,n⟩:=e2 rfl
  rw[if_neg (by simp),Zbiv n,Zb4b]
  have hs:=n.short
  have r:need (lotB l).length≤64:=by unfold need;omega
  unfold Zom Zll Zqh
  simp only[]
  rw[m.up,Zb4b,if_neg (by simp),if_neg (by simp;omega),Zbeg (by omega),Zb4b,Zb4b]
  simp only[]
  rw[wr (show -9223372036854775808≤(500:Int)-(p:Int) by omega) (by omega)]
  by_cases k:(500:Int)-(p:Int)<((need (lotB l).length:Nat):Int)
  ·rw[if_pos (by simpa using k),Zb4b,if_pos (by simp)]
   exact .inl ⟨8,by decide,by decide,rfl⟩
  ·rw[if_neg (by simpa using k),Zb4b,show (Zb4p (((need (lotB l).length:Nat):Int)-0)+1)=need (lotB l).length+1 by omega]
   refine .inr ⟨n,by omega,?_⟩
   have v:Up f p (lotB l) 0 x:=⟨m.firm,m.up,m.l0,m.l1,by rw[m.pend];rfl⟩
   rcases Z1i (z:=(500:Int)-(p:Int)) u r (by omega) (need (lotB l).length) 0 x (by omega) v with ⟨x',e,h⟩ | ⟨j,x',o,e,w,y⟩
   ·rw[show ((0:Nat):Int)=0 from rfl]at e
    rw[e]
    simp only[Zb4b]
    rw[if_neg (by simp),wr (show -9223372036854775808≤(p:Int)+((need (lotB l).length:Nat):Int) by omega) (by omega)]
    have b:InR x'.firm.length x'.pending:=by rw[h.firm,h.pend,u];exact Zbaq (by omega)
    have A:=n.n1;have B:=n.n2
    unfold Zqb
    simp only[]
    rw[Z8l h.up (by rw[h.pend,Zvj];omega) b]
    simp only[Zb4b]
    rw[if_neg (by simp),wr (show -9223372036854775808≤l.Number+1 by omega) (by omega),show (p:Int)+((need (lotB l).length:Nat):Int)=((p+need (lotB l).length:Nat):Int) by omega]
    refine .inl ⟨_,rfl,?_,h.up,h.l0,h.l1,rfl⟩
    show Zl4 x'.pending x'.firm=_
    rw[h.pend,h.firm]
    apply Zb5y
    intro i
    rw[Z1o _ _ (by omega),Zb49,Zb5n,show min p f.length=p by omega]
    by_cases s:i<p
    ·rw[if_neg (by omega),if_pos s,List.getElem?_take,if_pos s]
    ·rw[if_neg s,Zb49,Zl6]
     by_cases t:i-p<need (lotB l).length
     ·rw[if_pos (by omega),if_pos t,Z2p t]
     ·rw[if_neg (by omega),if_neg t,Zb5u,show p+need (lotB l).length+(i-p-need (lotB l).length)=i by omega]
   ·rw[show ((0:Nat):Int)=0 from rfl]at e
    rw[e]
    simp only[Zb4b]
    rw[if_pos (by simp)]
    exact .inr ⟨j,x',o,rfl,w,y⟩
 ·rw[if_pos (by simpa using q)]
  exact .inl ⟨c,q,Zbc6 e1,rfl⟩
theorem Zbi2 {s:Z4} {t:Zk} {n:Nat} (h:FR s t n) (v:n<1000000) {a:Zw} (e:ActIn a) :
  ∃s' t' out,Zuw s a=some (s',out)∧Zmk t a=some (t',out)∧FR s' t' (n+1)∧RecW out.Rec∧t'.Room=t.Room:=by
 obtain⟨r,there,hg,m,f,B⟩:∃r there,getR (lk a.Key (pl t))=(r,there)∧Zbnl there r∧(there=true→lk a.Key (pl t)=some r)∧(there=false→lk a.Key (pl t)=none):=by
  cases k:lk a.Key (pl t)with
  | none=>exact⟨_,_,rfl,⟨Zem,fun h=>(by cases h),fun _=>rfl⟩,fun h=>(by cases h),fun _=>rfl⟩
  | some r =>
   obtain⟨g1,g2⟩:=h.good _ (Zbhj k)
   exact⟨_,_,rfl,⟨g1,fun _=>g2,fun h=>(by cases h)⟩,fun _=>rfl,fun h=>(by cases h)⟩
 obtain⟨x,is,out,e1,e2,w1,w2⟩:=Zbfr (there:=there) m.w e
 obtain⟨z,e3,hs⟩:=Zbco (there:=there) m.w e
 have F:(if there=true then r else zrc)=r:=by
  cases there
  ·exact (m.zero rfl).symm
  ·rfl
 rw[F]at hs
 rw[e1]at e3
 obtain rfl:=Zb4e.inj e3
 unfold Zuw Zmk
 rw[Zz2 h.rel,Zboe h.rel v,hg]
 simp only[Zb4b]
 rw[e1,e2]
 simp only[Zb4b,Zvv]
 rcases hs with ⟨c,M,p⟩ | ⟨N,O,h3,hs⟩
 ·obtain⟨rfl,rfl,rfl⟩:x=r∧is=there∧out=ans c:=by simpa using p
  have G:(c !=0)=true:=by simpa using M
  simp only[G,Zb4z,gd_f,Zb4b,Zb5i,if_true]
  exact⟨s,t,_,rfl,rfl,h.mono (by omega),w2,rfl⟩
 obtain⟨k1,k2⟩:=Zbov e N
 have u:∀{y:Zb},RecW y→Zd0 y→((lk a.Key (pl t)).isSome=true∨(t.L.length:Int)<t.Room)→∃s' t',Zgj s a.Key y=some (s',0)∧Zhi t a.Key y=some (t',0)∧FR s' t' (n+1)∧pl t'=insL a.Key y (pl t):=fun {y} D g H=>by
  have I:=Z3z g
  obtain⟨s',t',c,f1,f2,f3,_⟩:=Z9f h.rel v a.Key D.ok (by omega)
  obtain⟨rfl,i⟩:=(Z95 h.rel v f1 ((Zqg D.ok).2 g) (by omega) k1 k2).1 H
  rw[f3.top]at i
  exact⟨s',t',f1,f2,Zbpl h f3 D g H i (by rw[←f3.room,Zmy f1,h.rel.room]),i⟩
 rcases hs with ⟨d,rfl,j,p⟩ | ⟨d,rfl,p⟩ | ⟨d,p⟩ | ⟨d,rfl,p⟩ | ⟨k5,k21,rfl,kon,r',o,q1,q2,q3,q4,q5,p⟩
 ·
  obtain⟨rfl,rfl,rfl⟩:x=a.Make∧is=true∧out=ans 0:=by simpa using p
  have k:=B rfl
  rw[d]
  simp only[bne_self_eq_false,Zb4r,gd_t,Zb4b,show ((((((1:Int)==3)||((1:Int)==4))||((1:Int)==9))||((1:Int)==12))||((1:Int)==20))=false from rfl,Zb5r,Zb4d,if_false,Zb4z,beq_self_eq_true,Zb4t]
  by_cases E:t.Room≤(t.L.length:Int)
  ·rw[if_pos (by simpa using E)]
   have I:=Z3z j
   obtain⟨s',t',c,f1,f2,f3,_⟩:=Z9f h.rel v a.Key e.mkr.ok (by omega)
   obtain⟨rfl,rfl⟩:=(Z95 h.rel v f1 ((Zqg e.mkr.ok).2 j) (by omega) k1 k2).2 (by rw[k];rfl) E
   rw[f1]
   exact⟨s',t,_,rfl,rfl,h.mono (by omega),Zem,rfl⟩
  ·rw[if_neg (by simpa using E)]
   obtain⟨s',t',f1,f2,f3,_⟩:=u e.mkr j (.inr (by omega))
   rw[f1,f2]
   exact⟨s',t',_,rfl,rfl,f3,Zem,by rw[←f3.rel.room,Zmy f1,h.rel.room]⟩
 ·
  obtain⟨rfl,rfl,rfl⟩:x=zrc∧is=false∧out=ans 0:=by simpa using p
  rw[d]
  obtain⟨s',t',b,f1,f2,f3,f4⟩:=Zbbu h.rel v a.Key
  rw[f1,f2]
  have C:t'.Room=t.Room:=by rw[←f3.room,Zzv f1,h.rel.room]
  have P:=h.fit
  refine⟨s',t',ans 0,rfl,rfl,⟨f3.mono (by omega),fun q A=>?_,?_⟩,Zem,C⟩
  ·rcases f4 with f4 | f4
   ·rw[f4]at A;exact h.good q A
   ·rw[f4]at A;exact h.good q (Z0b A)
  ·rw[C,←Zii]
   rcases f4 with f4 | f4
   ·rw[f4,Zii];exact P
   ·have:=Zw5 a.Key (pl t)
    rw[Zii]at this
    rw[f4];omega
 ·
  obtain⟨rfl,rfl,rfl⟩:x=r∧is=there∧out={ans 0 with Num:=r.Kind}:=by simpa using p
  rw[d]
  cases is with
  | true =>
   have k:=f rfl
   obtain⟨s',t',f1,f2,f3,f4⟩:=u m.w (m.good rfl) (.inl (by rw[k];rfl))
   rw[f2]
   rw[Zzb h.rel.srt k]at f4
   exact⟨s,t',_,rfl,rfl,(Z0h h f4 (by rw[←f3.rel.room,Zmy f1,h.rel.room])).mono (by omega),Zem,by rw[←f3.rel.room,Zmy f1,h.rel.room]⟩
  | false =>
   have k:=B rfl
   obtain⟨s',t',b,f1,f2,f3,f4⟩:=Zbbu h.rel v a.Key
   rw[f2]
   have i:pl t'=pl t:=by
    rcases f4 with f4 | f4
    ·exact f4
    ·rcases Zs5 x h.rel.srt with ⟨_,_,_,a3,_⟩ | ⟨_,_,_,a4⟩
     ·rw[k]at a3;cases a3
     ·rw[f4,a4]
   exact⟨s,t',_,rfl,rfl,(Z0h h i (by rw[←f3.room,Zzv f1,h.rel.room])).mono (by omega),Zem,by rw[←f3.room,Zzv f1,h.rel.room]⟩
 ·
  obtain⟨rfl,rfl,rfl⟩:x=r∧is=true∧out={ans 0 with Rec:=r}:=by simpa using p
  rw[d]
  have k:=f rfl
  obtain⟨s',t',f1,f2,f3,f4⟩:=u m.w (m.good rfl) (.inl (by rw[k];rfl))
  rw[f2]
  rw[Zzb h.rel.srt k]at f4
  exact⟨s,t',_,rfl,rfl,(Z0h h f4 (by rw[←f3.rel.room,Zmy f1,h.rel.room])).mono (by omega),m.w,by rw[←f3.rel.room,Zmy f1,h.rel.room]⟩
 ·
  obtain⟨rfl,rfl,rfl⟩:x=r'∧is=true∧out=o:=by simpa using p
  have k:=f rfl
  have J:Zd0 x:=Zbks k5 k21 kon m.w (m.good rfl) O q1
  obtain⟨s',t',f1,f2,f3,f4⟩:=u q4 J (.inl (by rw[k];rfl))
  have K:(a.Kind==1)=false:=by simp;omega
  rw[q2,K]
  simp only[bne_self_eq_false,Zb4r,gd_t,Zb4b,Zb5k,Zb4d,if_false,Zb4z,Zb4s]
  rw[f1,f2]
  by_cases l:(((((a.Kind==(3:Int))||(a.Kind==(4:Int)))||(a.Kind==(9:Int)))||(a.Kind==(12:Int)))||(a.Kind==(20:Int)))=true
  ·rw[if_pos l]
   have Q:x=r:=by
    refine Zbfe ?_ m.w (m.good rfl) kon q1
    simp only[Zb40,beq_iff_eq]at l
    omega
   subst Q
   rw[Zzb h.rel.srt k]at f4
   exact⟨s,t',_,rfl,rfl,(Z0h h f4 (by rw[←f3.rel.room,Zmy f1,h.rel.room])).mono (by omega),q5,by rw[←f3.rel.room,Zmy f1,h.rel.room]⟩
  ·rw[if_neg l]
   exact⟨s',t',_,rfl,rfl,f3,q5,by rw[←f3.rel.room,Zmy f1,h.rel.room]⟩
theorem Zbfd {ε β:Type} (e:Zw) (out:Zm) (i:Int) (F:Ze1→Option β) (R:Zm→Option β) :
  Z90 (Zqs e out i) F ((Ztb e out i).bind R)=if (e.Must&&(out.Code !=0))=true then F {code:=out.Code,at_:=i} else R out:=by
 unfold Zqs Ztb
 by_cases h:(e.Must&&(out.Code !=0))=true
 ·rw[if_pos h,if_pos h,if_pos h];rfl
 ·rw[if_neg h,if_neg h,if_neg h];rfl
theorem Z8b {d:Zbj} (x:∀a∈d.Acts,ActIn a) (c:d.Acts.length≤12) {s0:Z4} {t0:Zk}:∀(n i:Nat) {s:Z4} {t:Zk} {m:Nat} {L:List Zm},i+n=d.Acts.length→FR s t m→m+n<1000000→L.length=i→Z4k L →
  (∃R:Zbl,R.Code≠0∧R.Answers=[]∧Zj4 s0 d (n+1) {Code:=0,At:=0,Answers:=L} s (i:Int)=some (.inl (s0,R))∧Zfs t0 d (n+1) default default t L (i:Int)=some (.inl (t0,R))) ∨
  (∃s' t' L',Zj4 s0 d (n+1) {Code:=0,At:=0,Answers:=L} s (i:Int)=some (.inr ({Code:=0,At:=0,Answers:=L'},s'))∧Zfs t0 d (n+1) default default t L (i:Int)=some (.inr (default,default,t',L'))∧FR s' t' (m+n)∧Z4k L'∧L'.length=d.Acts.length∧t'.Room=t.Room)
 | 0,i,s,t,m,L,h,r,e,f,u=>by
  right
  rw[Zj4,Zfs,if_neg (by simp;omega),if_neg (by simp;omega)]
  exact⟨s,t,L,rfl,rfl,r,u,by omega,rfl⟩
 | n+1,i,s,t,m,L,h,r,e,f,u=>by
  have k:i<d.Acts.length:=by omega
  obtain⟨s',t',out,e1,e2,y,g,z⟩:=Zbi2 r (by omega) (x _ (Zb4m k))
  rw[Zj4,Zfs,if_pos (by simp;omega),if_pos (by simp;omega),Zc0 k,wr1 (by omega)]
  simp only[Zb4b]
  rw[e1,e2]
  simp only[Zb4b,Zbfd (ε:=Unit)]
  have hg:(gd (out.Code !=0) (some d.Acts[i]))=some (if (out.Code !=0)=true then d.Acts[i]else default):=Zwk _ _
  rw[hg]
  simp only[Zb4b]
  have j:((out.Code !=0)&&(if (out.Code !=0)=true then d.Acts[i]else default).Must)=((d.Acts[i]).Must&&(out.Code !=0)):=by
   cases hz:(out.Code !=0)
   ·simp
   ·simp
  rw[j]
  by_cases p:((d.Acts[i]).Must&&(out.Code !=0))=true
  ·rw[if_pos p,if_pos p]
   left
   have b:out.Code≠0:=by
    have:=(Zb5a _ _▸p:_∧_).2
    simpa using this
   exact⟨_,b,rfl,rfl,rfl⟩
  ·rw[if_neg p,if_neg p]
   have q:(L.length+[out].length)*104≤140737488355328:=by simp;omega
   rw[if_pos q,if_pos q]
   have:=Z8b x c (s0:=s0) (t0:=t0) n (i+1) (L:=L++[out]) (by omega) y (by omega) (by simp;omega) (Zbft u g)
   rcases this with ⟨R,l,k,v,w⟩ | ⟨s2,t2,L2,k,v,w,o,A,B⟩
   ·exact .inl ⟨R,l,k,v,w⟩
   ·exact .inr ⟨s2,t2,L2,k,v,w.mono (by omega),o,A,B.trans z⟩
theorem Zbj0 {s:Z4} {t:Zk} {n:Nat} (h:FR s t n) (hn:n+12<1000000) {d:Zbj} (w:∀a∈d.Acts,ActIn a) :
  ∃s' t' R,Zuo s d=some (s',R)∧Zme t d=some (t',R)∧FR s' t' (n+12)∧Zbhr R∧(R.Code≠0→s'=s∧t'=t∧R.Answers=[])∧(R.Code=0→R.At=0∧R.Answers.length=d.Acts.length)∧t'.Room=t.Room:=by
 obtain⟨c,at_,e1,e2,x⟩:=Z1m w
 unfold Zuo Zme
 rw[e1,e2]
 simp only[Zb4b]
 by_cases k:(c !=0)=true
 ·rw[if_pos k,if_pos k]
  exact⟨s,t,_,rfl,rfl,h.mono (by omega),⟨by simp,fun a m=>by cases m⟩,fun _=>⟨rfl,rfl,rfl⟩,fun p=>absurd p (by simpa using k),rfl⟩
 ·rw[if_neg k,if_neg k]
  have y:=x (by simpa using k)
  have:=Z8b w y.2 (s0:=s) (t0:=t) d.Acts.length 0 (L:=[]) (by omega) h (by omega) rfl (fun a m=>by cases m)
  rw[show ((0:Nat):Int)=0 from rfl]at this
  rw[show (Zb4p ((d.Acts.length:Int)-(0:Int))+1)=d.Acts.length+1 by omega]
  have q:(default:Zbl)={Code:=0,At:=0,Answers:=[]}:=rfl
  rcases this with ⟨R,k,r,u,v⟩ | ⟨s2,t2,L2,r,u,v,z,b,e⟩
  ·rw[v]
   rw[q,u]
   exact⟨s,t,R,rfl,rfl,h.mono (by omega),⟨by rw[r];simp,by rw[r];intro a m;cases m⟩,fun _=>⟨rfl,rfl,r⟩,fun p=>absurd p k,rfl⟩
  ·rw[u]
   rw[q,r]
   exact⟨s2,t2,_,rfl,rfl,v.mono (by omega),⟨by show L2.length≤12;omega,z⟩,fun p=>absurd rfl p,fun _=>⟨rfl,b⟩,e⟩
theorem Zbat {l:List Zbj} (x:l.length≤1000) (u:∀d∈l,∀a∈d.Acts,ActIn a):∀(n i:Nat) {s:Z4} {t:Zk} {m:Nat} {L:List Zbl},i+n=l.length→FR s t m→m+12*n<900000→L.length=i→Z8r L →
  ∃s' t' L',Zli l (n+1) s L (i:Int)=some (s',L')∧Zgs l (n+1) t L (i:Int)=some (t',L')∧FR s' t' (m+12*n)∧Z8r L'∧L'.length=l.length
 | 0,i,s,t,m,L,h,q,y,b,r=>by
  rw[Zli,Zgs,if_neg (by simp;omega),if_neg (by simp;omega)]
  exact⟨s,t,L,rfl,rfl,q,r,by omega⟩
 | n+1,i,s,t,m,L,h,q,y,b,r=>by
  have v:i<l.length:=by omega
  obtain⟨s',t',R,e1,e2,w,c,_⟩:=Zbj0 q (by omega) (u _ (Zb4m v))
  rw[Zli,Zgs,if_pos (by simp;omega),if_pos (by simp;omega),Zc0 v,wr1 (by omega)]
  simp only[Zb4b]
  rw[e1,e2]
  simp only[Zb4b]
  have k:(L.length+[R].length)*40≤140737488355328:=by simp;omega
  rw[if_pos k,if_pos k]
  obtain⟨s2,t2,L2,g1,g2,g3,g4,g5⟩:=Zbat x u n (i+1) (L:=L++[R]) (by omega) w (by omega) (by simp;omega) (fun z p=>by
   rcases Zb46.1 p with p | p
   ·exact r z p
   ·rw[Zb41.1 p];exact c)
  exact⟨s2,t2,L2,g1,g2,g3.mono (by omega),g4,g5⟩
theorem Zbjw {s:Z4} {t:Zk} {n:Nat} (h:FR s t n) (hn:n≤100000) {l:List Zbj} (hl:l.length≤40) (k:∀d∈l,∀a∈d.Acts,ActIn a) :
  ∃s' t' L,Zph s l=some (s',L)∧Ziw t l=some (t',L)∧FR s' t' (n+480)∧Z8r L∧L.length=l.length:=by
 obtain⟨s',t',L,e1,e2,e3,e4,e5⟩:=Zbat (by omega) k l.length 0 (L:=[]) (by omega) h (by omega) rfl (fun z m=>by cases m)
 rw[show ((0:Nat):Int)=0 from rfl]at e1 e2
 unfold Zph Ziw
 rw[show (Zb4p ((l.length:Int)-(0:Int))+1)=l.length+1 by omega,e1,e2]
 exact⟨s',t',L,rfl,rfl,e3.mono (by omega),e4,e5⟩
def fAll:List Zbc→Z4→Option Z4
 | [],s=>some s
 | l::ls,s=>(Zph s l.Deals).bind fun r=>fAll ls r.1
theorem Z9u:∀(ls ms:List Zbc) (s:Z4),fAll (ls++ms) s=(fAll ls s).bind fun s=>fAll ms s
 | [],ms,s=>rfl
 | l::ls,ms,s=>by
  simp only[Zb48,fAll]
  cases h:Zph s l.Deals with
  | none=>rfl
  | some r=>simp only[Zb4b];exact Z9u ls ms r.1
def Chain (s0:Z4) (ls:List Zbc) (all:List Zk):Prop :=
 all.length=ls.length+1∧∀k,k≤ls.length→∃s t,fAll (ls.take k) s0=some s∧all[k]?=some t∧FR s t (480*k)
theorem Chain.snoc {s0:Z4} {ls:List Zbc} {all:List Zk} (h:Chain s0 ls all) (w:ls.length≤10) {l:Zbc} (p:l.Deals.length≤40) (q:∀d∈l.Deals,∀a∈d.Acts,ActIn a) {t:Zk} (r:all[ls.length]?=some t):∃t' L,Ziw t l.Deals=some (t',L)∧Chain s0 (ls++[l]) (all++[t']):=by
 obtain⟨s,t2,e1,e2,u⟩:=h.2 ls.length (Zb57 _)
 rw[r]at e2
 obtain rfl:=Zb4e.inj e2
 rw[List.take_length]at e1
 obtain⟨s',t',L,f1,f2,f3,_,_⟩:=Zbjw u (by omega) p q
 refine⟨t',L,f2,by simp[h.1],fun k v=>?_⟩
 rw[Zb4c,Zb6b]at v
 by_cases m:k≤ls.length
 ·obtain⟨s1,t1,g1,g2,g3⟩:=h.2 k m
  refine⟨s1,t1,by rw[List.take_append_of_le_length m];exact g1,?_,g3⟩
  rw[Zb5f (by rw[h.1];omega)];exact g2
 ·have n:k=ls.length+1:=by omega
  subst n
  refine⟨s',t',?_,?_,f3.mono (by omega)⟩
  ·rw[Zb4o (by simp),Z9u,e1,Zb4b]
   simp only[fAll,f1,Zb4b]
  ·rw[Zb5d (by rw[h.1];omega),h.1,Zb60];rfl
theorem Chain.pre {s0:Z4} {ls ms:List Zbc} {all:List Zk} (h:Chain s0 (ls++ms) all):∃s t,fAll ls s0=some s∧all[ls.length]?=some t∧FR s t (480*ls.length):=by
 obtain⟨s,t,e1,e2,e3⟩:=h.2 ls.length (by simp)
 rw[Zb6v rfl]at e1
 exact⟨s,t,e1,e2,e3⟩
def Goods (ls:List Zbc):Prop:=∀(k:Nat) (l:Zbc),ls[k]?=some l→LB l∧l.Number=1+(k:Int)
theorem Goods.snoc {ls:List Zbc} {l:Zbc} (h:Goods ls) (p:LB l) (q:l.Number=1+(ls.length:Int)):Goods (ls++[l]):=fun k x m=>by
 rw[Zb49]at m
 split at m
 ·exact h k x m
 ·rename_i hk
  have n:k-ls.length=0:=by
   have:=(Zb4q.1 m).1
   simp at this;omega
  rw[n]at m
  obtain rfl:=Zb4e.inj m
  exact⟨p,by rw[q];omega⟩
theorem Goods.pre {ls ms:List Zbc} (h:Goods (ls++ms)):Goods ls:=fun k x m=>h k x (by rw[Zb5f (Zb4q.1 m).1];exact m)
theorem Goods.need {ls:List Zbc} (h:Goods ls):∀b∈ls.map lotB,need b.length≤64:=fun b m=>by
 obtain⟨l,n,rfl⟩:=Zb6f.1 m
 obtain⟨k,p,e⟩:=Zb5h n
 have:=(h k l (by rw[Zb4g p,e])).1.short
 unfold CL.need;omega
structure Zyj (s0:Z4) (ls L:List Zbc) (all:List Zk) (d:Ze):Prop where
 n10:ls.length≤10
 good:Goods (ls++L)
 chain:Chain s0 (ls++L) all
 room:(flat (ls.map lotB)).length≤500
 firm:d.firm=flat (ls.map lotB)++Zb4x (500-(flat (ls.map lotB)).length) Zfl
 pend:(L=[]∧d.pending=[])∨∃l j,L=[l]∧(flat (ls.map lotB)).length+need (lotB l).length≤500∧j≤need (lotB l).length∧d.pending=Zk6 (flat (ls.map lotB)).length (sect (lotB l)) j
theorem Z6l {ls:List Zbc} (h:Goods ls) (p:ls.length≤500) {z:Int×(Zb4×Ze)}:∀(n i:Nat),i+n=ls.length→Zlc 1 (ls.map lotB,z) (n+1) (ls.take i) (i:Int)=some (.inr ls)
 | 0,i,q=>by
  rw[Zlc,if_neg (by simp;omega),Zb4o (by omega)]
 | n+1,i,q=>by
  have k:i<ls.length:=by omega
  obtain⟨r,s⟩:=h i ls[i] (Zb4g k)
  have m:idx (ls.map lotB) (i:Int)=some (lotB ls[i]):=by
   rw[Zc0 (by simpa using k)];simp
  rw[Zlc,if_pos (by simp;omega)]
  simp only[]
  rw[m,Zb4b,Zbmv r,Zb4b,wr (show -9223372036854775808≤(1:Int)+(i:Int) by omega) (by omega),if_neg (by simp[s]),if_pos (by simp;omega),wr1 (by omega)]
  simp only[]
  rw[Zb5g k]
  exact Z6l h p n (i+1) (by omega)
theorem Zt0 {d:Ze} {tl:List (List Int)} {ls:List Zbc} (h:Goods ls) (q:d.down=false) (r:d.pending=[]) (m:d.firm.length=500) (s:d.left=0) (n:d.firm=flat (ls.map lotB)++tl) (hs:Zi7 d A0 (((flat (ls.map lotB)).length:Nat):Int)=some ([],0,0)) :
  ∃u,Zq5 d A0 1=some (ls,0,(⟨(),1+(ls.length:Int)⟩,(⟨(),A0,(((flat (ls.map lotB)).length:Nat):Int)⟩,⟨flat (ls.map lotB)++Zb4x (500-(flat (ls.map lotB)).length) Zfl,[],0,false,u⟩))):=by
 have k:=congrArg List.length n
 have p:=Z5n (ls.map lotB)
 rw[m,Zb4c]at k
 rw[Zb6w]at p
 obtain⟨u,t⟩:=Zbcb q r m s h.need n hs
 refine⟨u,?_⟩
 unfold Zq5
 rw[if_neg (by decide),t,Zb4b,if_neg (by simp)]
 have:=Z6l h (by omega) (z:=(0,(⟨(),A0,(((flat (ls.map lotB)).length:Nat):Int)⟩,⟨flat (ls.map lotB)++Zb4x (500-(flat (ls.map lotB)).length) Zfl,[],0,false,u⟩))) ls.length 0 (by omega)
 rw[show ((0:Nat):Int)=0 from rfl,Zb59]at this
 simp only[Zb6w]
 rw[show (Zb4p ((ls.length:Int)-(0:Int))+1)=ls.length+1 by omega,this,Zb4b]
 simp only[]
 rw[wr (by omega) (by omega)]
theorem Z11 {d:Ze} {p:Nat} (k:d.down=false) (m:d.pending=[]) (n:d.firm.length=500) (q:p≤500) (r:p=500∨d.firm[p]?=some Zfl):Zi7 d A0 (p:Int)=some ([],0,0) :=
 Z8x (b:=[]) (j:=0) k m n (by decide) (by decide) q (fun i hi=>by omega) (r.imp id fun h=>⟨Zfl,h,Zvw,Zbav⟩)
theorem Zzz {n:Nat} {x:List (List Int)} (h:x.length≤n):(x++Zb4x (n-x.length) Zfl).length=n:=by simp;omega
theorem Zbfa {s0:Z4} {ls L:List Zbc} {all:List Zk} {d:Ze} {kept:List Int} (h:Zyj s0 ls L all d) :
  ∃d' ms X,Zkr d kept=some d'∧Zq5 d' A0 1=some (ms,0,X)∧(ms=ls∨ms=ls++L):=by
 obtain⟨V,hg,hc,z,k,g⟩:=h
 have a:d.firm.length=500:=by rw[k];exact Zzz z
 generalize t:(flat (ls.map lotB)).length=p at *
 rcases g with ⟨rfl,v⟩ | ⟨l,j,rfl,hr,hj,v⟩
 ·rw[Z6s (by rw[v];simp) (by rw[v];intro w h;cases h) (by rw[v];intro w h;cases h),v]
  rw[Zb4v]at hg
  have:=Zt0 (d:=⟨d.firm,[],0,false,d.writes⟩) hg rfl rfl a rfl k (Z11 rfl rfl a (by rw[t];exact z) (by
   rw[t]
   by_cases B:p=500
   ·exact .inl B
   ·right
    show d.firm[p]?=_
    rw[k,Zb5d (by omega),t,Zb60,Zb55,if_pos (by omega)]))
  obtain⟨u,c⟩:=this
  exact⟨_,_,_,rfl,c,.inl rfl⟩
 ·have W:d.pending.length=j:=by rw[v,Zvj]
  have G:=(hg ls.length l (by simp)).1
  have Y:=G.short
  have C:need (lotB l).length≤64:=by unfold need;omega
  rw[Z6s (by omega) (by rw[v];intro w S;obtain⟨i,_,rfl⟩:=Zb6f.1 S;exact Zu0 _ _) (by rw[v,a];exact Zbaq (by omega)),v]
  have n:∀x,x<500→(Zkh kept 0 (Zk6 p (sect (lotB l)) j) d.firm)[x]?=if x<p then (flat (ls.map lotB))[x]? else if x<p+j then some (torn (kn kept (x-p)) (sect (lotB l) (x-p)))else some Zfl:=by
   intro x hx
   rw[Zvz _ _ (by omega)]
   have H:p≤x→d.firm[x]?=some Zfl:=fun h=>by rw[k,Zb5d (by omega),t,Zb55,if_pos (by omega)]
   by_cases r:x<p
   ·rw[if_neg (by omega),if_pos r,k,Zb5f (by omega)]
   ·rw[if_neg r,H (by omega)]
    by_cases q:x<p+j
    ·rw[if_pos (by omega),if_pos q];rfl
    ·rw[if_neg (by omega),if_neg q]
  have y:(Zkh kept 0 (Zk6 p (sect (lotB l)) j) d.firm).length=500:=by rw[Zxx,a]
  generalize Zkh kept 0 (Zk6 p (sect (lotB l)) j) d.firm=F at n y
  have T:F=flat (ls.map lotB)++F.drop p:=by
   apply Zb5y
   intro x
   rw[Zb49]
   by_cases r:x<p
   ·rw[if_pos (by omega),n x (by omega),if_pos r]
   ·rw[if_neg (by omega),Zb5u,t,show p+(x-p)=x by omega]
  by_cases f:j=need (lotB l).length∧∀i,i<j→kn kept i=64
  ·obtain⟨I,U⟩:=f
   have J:F=flat ((ls++[l]).map lotB)++F.drop (p+j):=by
    rw[Zb5s,Z1y,Zb5v,Z17]
    apply Zb5y
    intro x
    rw[Zb49,Zb4c,Zl6,t,Zb5u]
    by_cases r:x<p+j
    ·rw[if_pos (by omega),Zb49,t,n x (by omega)]
     by_cases q:x<p
     ·rw[if_pos q,if_pos q]
     ·rw[if_neg q,if_neg q,if_pos r,U _ (by omega),Zbar (Zu0 _ _),Z2p (by omega)]
    ·rw[if_neg (by omega),show p+j+(x-(p+need (lotB l).length))=x by omega]
   have K:(flat ((ls++[l]).map lotB)).length=p+j:=by rw[Zb5s,Z1y,Zb5v,Z17,Zb4c,Zl6,t,I]
   have:=Zt0 (d:=⟨F,[],0,false,d.writes⟩) hg rfl rfl y rfl J (by
    rw[K]
    refine Z11 rfl rfl y (by omega) ?_
    by_cases B:p+j=500
    ·exact .inl B
    ·right
     show F[p+j]?=_
     rw[n _ (by omega),if_neg (by omega),if_neg (by omega)])
   obtain⟨u,c⟩:=this
   exact⟨_,_,_,rfl,c,.inr rfl⟩
  ·
   have M:∃i,(i<need (lotB l).length∧¬(i<j∧kn kept i=64))∧∀m,m<i→m<j∧kn kept m=64:=by
    have:∃i,i<need (lotB l).length∧¬(i<j∧kn kept i=64):=Classical.byContradiction fun N=>f (by
     have r:∀i,i<need (lotB l).length→i<j∧kn kept i=64:=fun i o=>Classical.byContradiction fun h=>N ⟨i,o,h⟩
     have q:=Zxz (lotB l).length
     have D:=(r (need (lotB l).length-1) (by omega)).1
     exact⟨by omega,fun i o=>(r i (by omega)).2⟩)
    obtain⟨i,o⟩:=this
    induction i using Nat.strongRecOn with
    | _ i ih =>
     by_cases A:∃m,m<i∧¬(m<j∧kn kept m=64)
     ·obtain⟨m,r,q⟩:=A
      exact ih m r ⟨by omega,q⟩
     ·exact⟨i,o,fun m O=>Classical.byContradiction fun h=>A ⟨m,O,h⟩⟩
   obtain⟨i,⟨P,Q⟩,R⟩:=M
   have E:p+i=500∨∃s,F[p+i]?=some s∧s.length=64∧s[63]?≠some 1:=by
    right
    rw[n _ (by omega),if_neg (by omega)]
    by_cases q:i<j
    ·rw[if_pos (by omega),Zb5l]
     have D:=Zbrt kept i
     have h4:kn kept i≠64:=fun e=>Q ⟨q,e⟩
     exact⟨_,rfl,Zbk6 (Zu0 _ _),Zbki (Zu0 _ _) (by omega)⟩
    ·rw[if_neg (by omega)]
     exact⟨Zfl,rfl,Zvw,Zbav⟩
   have:=Zt0 (d:=⟨F,[],0,false,d.writes⟩) (ls:=ls) hg.pre rfl rfl y rfl T (by
    rw[t]
    refine Z8x (b:=lotB l) (j:=i) rfl rfl y C P (by omega) (fun m A=>?_) E
    have D:=R m A
    show F[p+m]?=_
    rw[n _ (by omega),if_neg (by omega),if_pos (by omega),Zb5l,D.2,Zbar (Zu0 _ _)])
   obtain⟨u,c⟩:=this
   exact⟨_,_,_,rfl,c,.inl rfl⟩
theorem Z2n {a1:List (List Zbj)} (g:a1.length≤10) (z:∀e0∈a1,∀e1∈e0,Zlg e1) {s0:Z4}:∀(n i:Nat) (ls:List Zbc) (all:List Zk) (x:Ze),i+n=a1.length→ls.length≤i→Zyj s0 ls [] all x→Up (flat (ls.map lotB)++Zb4x (500-(flat (ls.map lotB)).length) Zfl) (flat (ls.map lotB)).length [] 0 x →
  Zcz a1 (n+1) all (ls.length:Int) (i:Int) (⟨(),1+(ls.length:Int)⟩,(⟨(),A0,(((flat (ls.map lotB)).length:Nat):Int)⟩,x))=some (.inl true) ∨
  ∃ls' L' all' X,Zcz a1 (n+1) all (ls.length:Int) (i:Int) (⟨(),1+(ls.length:Int)⟩,(⟨(),A0,(((flat (ls.map lotB)).length:Nat):Int)⟩,x))=some (.inr (all',(ls'.length:Int),X))∧Zyj s0 ls' L' all' X.2.2
 | 0,i,ls,all,x,J,o,m,a=>by
  right
  rw[Zcz,if_neg (by simp;omega)]
  exact⟨ls,[],all,_,rfl,m⟩
 | n+1,i,ls,all,x,J,o,m,a=>by
  have A:i<a1.length:=by omega
  obtain⟨c,e1,e2,e3⟩:=Zbr2 (z _ (Zb4m A))
  rw[Zcz,if_pos (by simp;omega),Zc0 A,Zb4b,e1,Zb4b]
  rcases e2 with rfl | rfl
  ·obtain⟨B,v⟩:=e3 rfl
   rw[if_neg (by simp)]
   unfold Zrx
   simp only[Zb4b]
   have b:all.length=ls.length+1:=by have:=m.chain.1;simpa using this
   obtain⟨t0,p⟩:∃t0,all[ls.length]?=some t0:=⟨_,Zb4g (by omega)⟩
   have C:Chain s0 ls all:=by have:=m.chain;rwa [Zb4v]at this
   have D:Goods ls:=by have:=m.good;rwa [Zb4v]at this
   have r:idx all (Zb4j.wrap ((all.length:Int)-1))=all[ls.length]?:=by
    rw[b,wr (by omega) (by omega),show (((ls.length+1:Nat):Int)-1)=(ls.length:Int) by omega,idxn]
   have h:=m.room
   have E:(flat (ls.map lotB)++Zb4x (500-(flat (ls.map lotB)).length) Zfl).length=500:=Zzz h
   rcases Zbie (l:=⟨1+(ls.length:Int),a1[i]⟩) E h a (fun d f=>(v d f).2)with ⟨c,c0,c14,e⟩ | ⟨K,F,t⟩
   ·rw[e,Zb4b,if_neg (by simp[c0,c14])]
    unfold Zgg Zhj
    rw[if_neg (by simp[c14]),if_neg (by simp[c0]),wr1 (by omega)]
    exact Z2n g z n (i+1) ls all x (by omega) (by omega) m a
   ·obtain⟨t',R,f1,f2⟩:=C.snoc (l:=⟨1+(ls.length:Int),a1[i]⟩) (by omega) B (fun d f=>(v d f).2) p
    have f1:Ziw t0 a1[i]=some (t',R):=f1
    have w:=D.snoc K rfl
    rcases t with ⟨x',e,k⟩ | ⟨j,x',L,e,G,H⟩
    ·rw[e,Zb4b,if_pos (by simp),r,p,Zb4b,f1,Zb4b,if_pos (by simp;omega)]
     unfold Zgg Zhj
     rw[if_neg (by simp),if_pos (by simp),wr1 (by omega),wr1 (by omega)]
     have y:(flat ((ls++[(⟨1+(ls.length:Int),a1[i]⟩:Zbc)]).map lotB))=flat (ls.map lotB)++secs (lotB ⟨1+(ls.length:Int),a1[i]⟩):=by rw[Zb5s,Z1y,Zb5v,Z17]
     have q:(flat ((ls++[(⟨1+(ls.length:Int),a1[i]⟩:Zbc)]).map lotB)).length=(flat (ls.map lotB)).length+need (lotB ⟨1+(ls.length:Int),a1[i]⟩).length:=by rw[y,Zb4c,Zl6]
     have u:((flat (ls.map lotB)++Zb4x (500-(flat (ls.map lotB)).length) Zfl).take (flat (ls.map lotB)).length++(secs (lotB ⟨1+(ls.length:Int),a1[i]⟩)++(flat (ls.map lotB)++Zb4x (500-(flat (ls.map lotB)).length) Zfl).drop ((flat (ls.map lotB)).length+need (lotB ⟨1+(ls.length:Int),a1[i]⟩).length)))=flat ((ls++[(⟨1+(ls.length:Int),a1[i]⟩:Zbc)]).map lotB)++Zb4x (500-(flat ((ls++[(⟨1+(ls.length:Int),a1[i]⟩:Zbc)]).map lotB)).length) Zfl:=by
      rw[q,y,Zb6v rfl,Zb4i]
      congr 2
      rw[List.drop_append,Zb4k (by omega),Zb4y,List.drop_replicate]
      congr 1;omega
     rw[u]at k
     rw[←q]at k
     have I:Zyj s0 (ls++[⟨1+(ls.length:Int),a1[i]⟩]) [] (all++[t']) x':=⟨by simp;omega,by rw[Zb4v];exact w,by rw[Zb4v];exact f2,by rw[q];exact F,k.firm,.inl ⟨rfl,k.pend⟩⟩
     have s:=Z2n g z n (i+1) _ _ x' (by omega) (by simp;omega) I k
     rw[Zb4c,Zb6b,q]at s
     rw[show (1:Int)+(ls.length:Int)+1=1+((ls.length+1:Nat):Int) by omega]
     exact s
    ·rw[e,Zb4b,if_pos (by simp),r,p,Zb4b,f1,Zb4b,if_pos (by simp;omega)]
     unfold Zgg
     rw[if_pos (by simp)]
     exact .inr ⟨ls,[⟨1+(ls.length:Int),a1[i]⟩],_,_,rfl,by omega,w,f2,h,G,.inr ⟨_,j,rfl,F,L,H⟩⟩
  ·left;rw[if_pos (by decide)]
theorem Z57 {r:List Zbc×Int×(Zdo×(Zb4×Ze))} (m:r.1.length≤100):∀(n i:Nat) (s:Z4),i+n=r.1.length→Ze6 r (n+1) s (i:Int)=fAll (r.1.drop i) s
 | 0,i,s,p=>by rw[Ze6,if_neg (by simp;omega),Zb4k (by omega)];rfl
 | n+1,i,s,p=>by
  have k:i<r.1.length:=by omega
  rw[Ze6,if_pos (by simp;omega),Zc0 k,Zb4b,Zb4h k,wr1 (by omega)]
  simp only[fAll]
  cases h:Zph s r.1[i].Deals with
  | none=>rfl
  | some q=>simp only[Zb4b];exact Z57 m n (i+1) q.1 (by omega)
theorem WholeLog_true (a0:Int) (a1:List (List Zbj)) (a2:Zel) (I:((Zb4j).min≤a0∧a0≤(Zb4j).max)) (i:(a1.length≤maxLen∧∀e0∈a1,(e0.length≤maxLen∧∀e1∈e0,(Zlg e1)))) (o:Zts a2):Zmr a0 a1 a2=some true:=by
 have z:Zn8 61=some 2:=Zbeg (n:=61) (by decide)
 have A:Zpy 2=some (⟨.nil,2⟩,0):=rfl
 have B:Zx1 500=some (0,⟨List.replicate 500 Zfl,[],0,false,0⟩):=rfl
 unfold Zmr
 rw[A,Zb4b]
 unfold Zjl
 simp only[Zb4b,bne_self_eq_false,Zb4r,gd_t,Zb5k,z]
 rw[if_neg (by decide)]
 by_cases hg:(((decide (a0<(1:Int)))||(decide ((4096:Int)<a0)))||(decide ((10:Int)<(a1.length:Int))))=true
 ·rw[hg]
  simp only[Zb4z,gd_f,Zb4b,Zb5i,if_true]
 rw[Zb6k.2 hg]
 unfold Zmd
 simp only[Zb4r,gd_t,Zb4b,Zb5k]
 by_cases w:decide ((300:Int)<(a2.Kept.length:Int))=true
 ·rw[if_pos w]
 rw[if_neg w,B,Zb4b]
 simp only[Zb40,decide_eq_true_eq,not_or]at hg
 have v:Goods []:=fun k l h=>by simp at h
 obtain⟨u,E⟩:=Zt0 (d:=⟨List.replicate 500 Zfl,[],0,false,0⟩) (tl:=Zb4x 500 Zfl) v rfl rfl Zb6c rfl rfl (Z11 (p:=0) rfl rfl Zb6c (by omega) (.inr rfl))
 simp only[]
 rw[E,Zb4b,if_neg (by simp)]
 unfold Zpb
 simp only[Zb4b]
 obtain⟨⟨J,C⟩,_⟩:=o
 have a:(Zb4j).max=9223372036854775807:=by decide
 rw[a]at C
 have b:Zpy a0=some (⟨.nil,a0⟩,0):=by
  unfold Zpy
  rw[if_neg (by simp;omega)]
 have c:Chain ⟨.nil,a0⟩ [] [⟨[],a0⟩]:=⟨rfl,fun k w=>by
  obtain rfl:k=0:=by simpa using w
  exact⟨⟨.nil,a0⟩,⟨[],a0⟩,rfl,rfl,⟨Zboj a0,fun q F=>by simp[pl]at F,by simp;omega⟩⟩⟩
 have x:=Z2n (a1:=a1) (by omega) (fun e0 G=>(i.2 e0 G).2) (s0:=⟨.nil,a0⟩) a1.length 0 [] [⟨[],a0⟩] ⟨List.replicate 500 Zfl,[],max a2.At 0,false,u⟩ (by omega) (by simp) ⟨by simp,v,c,by simp[flat],rfl,.inl ⟨rfl,rfl⟩⟩ ⟨rfl,rfl,by show 0≤max a2.At 0;omega,by show max a2.At 0≤_;omega,rfl⟩
 rw[show (Zb4p ((a1.length:Int)-(0:Int))+1)=a1.length+1 by omega]
 have D:Zcz a1 (a1.length+1) [⟨[],a0⟩] 0 0 (⟨(),1+((([]:List Zbc).length:Nat):Int)⟩,(⟨(),A0,(((flat (([]:List Zbc).map lotB)).length:Nat):Int)⟩,⟨flat (([]:List Zbc).map lotB)++Zb4x (500-(flat (([]:List Zbc).map lotB)).length) Zfl,[],max a2.At 0,false,u⟩))=some (.inl true)∨∃ls' L' all' X,Zcz a1 (a1.length+1) [⟨[],a0⟩] 0 0 (⟨(),1+((([]:List Zbc).length:Nat):Int)⟩,(⟨(),A0,(((flat (([]:List Zbc).map lotB)).length:Nat):Int)⟩,⟨flat (([]:List Zbc).map lotB)++Zb4x (500-(flat (([]:List Zbc).map lotB)).length) Zfl,[],max a2.At 0,false,u⟩))=some (.inr (all',(ls'.length:Int),X))∧Zyj ⟨.nil,a0⟩ ls' L' all' X.2.2:=x
 rcases D with e | ⟨ls,L,all,X,e,m⟩
 ·rw[e];rfl
 rw[e,Zb4b]
 simp only[]
 obtain⟨d',ms,Y,c1,c2,c3⟩:=Zbfa (kept:=a2.Kept) m
 rw[c1,Zb4b,c2,Zb4b,b,Zb4b]
 simp only[]
 have K:=m.n10
 have f:=m.chain.1
 have g:∃s t,fAll ms ⟨.nil,a0⟩=some s∧all[ms.length]?=some t∧FR s t (480*ms.length):=by
  rcases c3 with rfl | rfl
  ·exact m.chain.pre
  ·have:=m.chain
   rw[←Zb4v (ls++L)]at this
   exact this.pre
 have M:L.length≤1:=by
  rcases m.pend with ⟨rfl,_⟩ | ⟨l,j,rfl,_⟩ <;> simp
 have N:ls.length≤ms.length∧ms.length<all.length:=by
  rw[f]
  rcases c3 with rfl | rfl <;> simp <;> omega
 have H:ms.length≤11:=by
  rcases c3 with rfl | rfl
  ·omega
  ·rw[Zb4c];omega
 obtain⟨s,t,g1,g2,g3⟩:=g
 have y:=Z57 (r:=(ms,0,Y)) (by show ms.length≤100;omega) ms.length 0 ⟨.nil,a0⟩ (by show 0+ms.length=ms.length;omega)
 rw[show ((0:Nat):Int)=0 from rfl,Zb4n]at y
 rw[show (Zb4p ((ms.length:Int)-(0:Int))+1)=ms.length+1 by omega,y]
 rw[g1,Zb4b]
 have t1:decide ((ls.length:Int)≤(ms.length:Int))=true:=by simp;omega
 have t2:decide ((ms.length:Int)<(all.length:Int))=true:=by simp;omega
 simp only[beq_self_eq_true,Zb4t,t1,t2,gd_t]
 rw[idxn,g2,Zb4b,Zbtc g3.rel (by omega)]
 rfl
end Go.CL
namespace Go.CL
open Go Go.RowKit Go.Proofs Go.ChangeShapes Go.WideShapes Go.ChangeAt
theorem Zbk1:ownKnob Zb4l.godebug=none:=by kernel_rfl
theorem Zyh:laidOutB Zb4l=true:=by kernel_rfl
theorem op_3:Opn Zb4l 3 (Kd.int .i64) (fun x=>((Zb4j).min≤x∧x≤(Zb4j).max)):=Zbdu Zb6r (by kernel_rfl)
theorem op_9:Opn Zb4l 9 Kd.str (fun x=>(x.size≤maxLen)):=Zbm9 Zb6s (by kernel_rfl)
theorem op_2:Opn Zb4l 2 (Kd.int .i64) (fun x=>((Zb4j).min≤x∧x≤(Zb4j).max)):=Zbdu Tryz.underlying2 (by kernel_rfl)
theorem Zbfi:Opn Zb4l 97 Kd.flt (fun x=>(x<2^64)):=Zbm4 Tryz.underlying97 (by kernel_rfl)
theorem Zbqv:Opn Zb4l 139 Zy Zv1:=⟨by kernel_rfl,fun hg h=>by
 obtain⟨hl,n,hf⟩:=Zrl Zb6g h
 obtain⟨y0,h0⟩:=hf 0 _ rfl
 obtain⟨v0,k0,w0⟩:=Zbfi.op hg h0
 obtain⟨y1,h1⟩:=hf 1 _ rfl
 obtain⟨v1,k1,w1⟩:=op_9.op hg h1
 refine⟨⟨v0,v1⟩,⟨hl.trans (by kernel_rfl),(Qc.2 ⟨k0,(Qc.2 ⟨k1,(fun _ h=>by cases h)⟩)⟩)⟩,w0,w1⟩,fun h=>Zta Zb6g h⟩
theorem Zbro:Opn Zb4l 98 Zy.sl (fun x=>(x.length≤maxLen∧∀e0∈x,(Zv1 e0))):=Zzd Tryz.underlying98 (by kernel_rfl) Zbqv (by decide)
theorem Zbp0:Opn Zb4l 100 Zg Zq2:=⟨by kernel_rfl,fun hg h=>by
 obtain⟨hl,n,hf⟩:=Zrl Zb6h h
 obtain⟨y0,h0⟩:=hf 0 _ rfl
 obtain⟨v0,k0,w0⟩:=op_3.op hg h0
 obtain⟨y1,h1⟩:=hf 1 _ rfl
 obtain⟨v1,k1,w1⟩:=op_2.op hg h1
 obtain⟨y2,h2⟩:=hf 2 _ rfl
 obtain⟨v2,k2,w2⟩:=op_2.op hg h2
 obtain⟨y3,h3⟩:=hf 3 _ rfl
 obtain⟨v3,k3,w3⟩:=op_2.op hg h3
 obtain⟨y4,h4⟩:=hf 4 _ rfl
 obtain⟨v4,k4,w4⟩:=Zbfi.op hg h4
 obtain⟨y5,h5⟩:=hf 5 _ rfl
 obtain⟨v5,k5,w5⟩:=op_3.op hg h5
 obtain⟨y6,h6⟩:=hf 6 _ rfl
 obtain⟨v6,k6,w6⟩:=op_9.op hg h6
 obtain⟨y7,h7⟩:=hf 7 _ rfl
 obtain⟨v7,k7,w7⟩:=Zbro.op hg h7
 refine⟨⟨v0,v1,v2,v3,v4,v5,v6,v7⟩,⟨hl.trans (by kernel_rfl),(Qc.2 ⟨k0,(Qc.2 ⟨k1,(Qc.2 ⟨k2,(Qc.2 ⟨k3,(Qc.2 ⟨k4,(Qc.2 ⟨k5,(Qc.2 ⟨k6,(Qc.2 ⟨k7,(fun _ h=>by cases h)⟩)⟩)⟩)⟩)⟩)⟩)⟩)⟩)⟩,w0,w1,w2,w3,w4,w5,w6,w7⟩,fun h=>Zta Zb6h h⟩
theorem op_4:Opn Zb4l 4 Kd.bool (fun x=>True):=Zbkj Zb6t (by kernel_rfl)
theorem Zbpk:Opn Zb4l 117 Z6 Zqk:=⟨by kernel_rfl,fun hg h=>by
 obtain⟨hl,n,hf⟩:=Zrl Zb6i h
 obtain⟨y0,h0⟩:=hf 0 _ rfl
 obtain⟨v0,k0,w0⟩:=op_3.op hg h0
 obtain⟨y1,h1⟩:=hf 1 _ rfl
 obtain⟨v1,k1,w1⟩:=op_9.op hg h1
 obtain⟨y2,h2⟩:=hf 2 _ rfl
 obtain⟨v2,k2,w2⟩:=op_2.op hg h2
 obtain⟨y3,h3⟩:=hf 3 _ rfl
 obtain⟨v3,k3,w3⟩:=Zbfi.op hg h3
 obtain⟨y4,h4⟩:=hf 4 _ rfl
 obtain⟨v4,k4,w4⟩:=op_9.op hg h4
 obtain⟨y5,h5⟩:=hf 5 _ rfl
 obtain⟨v5,k5,w5⟩:=Zbp0.op hg h5
 obtain⟨y6,h6⟩:=hf 6 _ rfl
 obtain⟨v6,k6,w6⟩:=op_4.op hg h6
 refine⟨⟨v0,v1,v2,v3,v4,v5,v6⟩,⟨hl.trans (by kernel_rfl),(Qc.2 ⟨k0,(Qc.2 ⟨k1,(Qc.2 ⟨k2,(Qc.2 ⟨k3,(Qc.2 ⟨k4,(Qc.2 ⟨k5,(Qc.2 ⟨k6,(fun _ h=>by cases h)⟩)⟩)⟩)⟩)⟩)⟩)⟩)⟩,w0,w1,w2,w3,w4,w5,w6⟩,fun h=>Zta Zb6i h⟩
theorem Zbtl:Opn Zb4l 77 Z6.sl (fun x=>(x.length≤maxLen∧∀e0∈x,(Zqk e0))):=Zzd Tryz.underlying77 (by kernel_rfl) Zbpk (by decide)
theorem Zbsm:Opn Zb4l 79 Zb1 Zlg:=⟨by kernel_rfl,fun hg h=>by
 obtain⟨hl,n,hf⟩:=Zrl Zb6m h
 obtain⟨y0,h0⟩:=hf 0 _ rfl
 obtain⟨v0,k0,w0⟩:=Zbtl.op hg h0
 refine⟨⟨v0⟩,⟨hl.trans (by kernel_rfl),(Qc.2 ⟨k0,(fun _ h=>by cases h)⟩)⟩,w0⟩,fun h=>Zta Zb6m h⟩
theorem Zbrw:Opn Zb4l 49 Zb1.sl (fun x=>(x.length≤maxLen∧∀e0∈x,(Zlg e0))):=Zzd Tryz.underlying49 (by kernel_rfl) Zbsm (by decide)
theorem Zbr1:Opn Zb4l 22 Zb1.sl.sl (fun x=>(x.length≤maxLen∧∀e0∈x,(e0.length≤maxLen∧∀e1∈e0,(Zlg e1)))):=Zzd Tryz.underlying22 (by kernel_rfl) Zbrw (by decide)
theorem Zbrq:Opn Zb4l 23 (Kd.int .i64).sl (fun x=>(x.length≤maxLen∧∀e0∈x,((Zb4j).min≤e0∧e0≤(Zb4j).max))):=Zzd Tryz.underlying23 (by kernel_rfl) op_3 (by decide)
theorem Zbs3:Opn Zb4l 25 Zes Zts:=⟨by kernel_rfl,fun hg h=>by
 obtain⟨hl,n,hf⟩:=Zrl Zb6n h
 obtain⟨y0,h0⟩:=hf 0 _ rfl
 obtain⟨v0,k0,w0⟩:=op_3.op hg h0
 obtain⟨y1,h1⟩:=hf 1 _ rfl
 obtain⟨v1,k1,w1⟩:=Zbrq.op hg h1
 refine⟨⟨v0,v1⟩,⟨hl.trans (by kernel_rfl),(Qc.2 ⟨k0,(Qc.2 ⟨k1,(fun _ h=>by cases h)⟩)⟩)⟩,w0,w1⟩,fun h=>Zta Zb6n h⟩
theorem Zbml:Det Zb4l 9:=Zbn5 Zb6s
theorem Zbse:Det Zb4l 3:=Zbm0 Zb6r
theorem Zbn9:Det Zb4l 177:=Zbes Tryz.underlying177 (fun i f h=>match i,f,h with
 | 0,_,h=>by obtain rfl:=Zb4e.inj h;exact Zbml
 | 1,_,h=>by obtain rfl:=Zb4e.inj h;exact Zbse
 | 2,_,h=>by obtain rfl:=Zb4e.inj h;exact Zbml
 | _+3,_,h=>by cases h) (by kernel_rfl)
theorem Zbmx:Det Zb4l 203:=Zboa Tryz.underlying203 Zbn9 (by kernel_rfl)
theorem WholeLog_met (os : Os) (args : Array Value) : laidMetH Zb4l [("moiety/act.kinds", Go.Proofs.YtajhikgoibmpcaaGreatDoor.Rows.laid_moiety_act_kinds)] ((World.doorLaid Zb4l 400 os).forCall (fun _ _ => 0) ⟨#[], args, []⟩).memory :=
 laidMetH_of_parts3 (fuel:=8) (laidMet_of_run' 8 (by kernel_rfl) (by kernel_rfl)) (by kernel_rfl) (by kernel_rfl)
theorem WholeLog_gl {W : World} (h : laidMetH Zb4l [("moiety/act.kinds", Go.Proofs.YtajhikgoibmpcaaGreatDoor.Rows.laid_moiety_act_kinds)] W) : GLok W (fun b _ => b < W.heap.size) := by
 have g0 := Zbj8 (P := Zb4l) (nm := "moiety/act.kinds") (d := Go.Proofs.YtajhikgoibmpcaaGreatDoor.Rows.laid_moiety_act_kinds) (g := 0) (t := 203) (W := W) (w0 := W) (cells := [.string ⟨#[]⟩, .int .i64 (0), .string ⟨#[]⟩, .string ⟨#[110, 101, 119]⟩, .int .i64 (0), .string ⟨#[109]⟩, .string ⟨#[100, 114, 111, 112]⟩, .int .i64 (0), .string ⟨#[]⟩, .string ⟨#[105, 115]⟩, .int .i64 (0), .string ⟨#[]⟩, .string ⟨#[108, 111, 111, 107]⟩, .int .i64 (0), .string ⟨#[]⟩, .string ⟨#[112, 117, 116]⟩, .int .i64 (1), .string ⟨#[115]⟩, .string ⟨#[115, 119, 97, 112]⟩, .int .i64 (1), .string ⟨#[115]⟩, .string ⟨#[97, 100, 100]⟩, .int .i64 (2), .string ⟨#[110]⟩, .string ⟨#[112, 108, 117, 115]⟩, .int .i64 (3), .string ⟨#[110]⟩, .string ⟨#[114, 101, 97, 99, 104]⟩, .int .i64 (3), .string ⟨#[110]⟩, .string ⟨#[105, 110]⟩, .int .i64 (4), .string ⟨#[110]⟩, .string ⟨#[111, 117, 116]⟩, .int .i64 (4), .string ⟨#[110]⟩, .string ⟨#[101, 110, 111, 117, 103, 104]⟩, .int .i64 (4), .string ⟨#[110]⟩, .string ⟨#[114, 97, 105, 115, 101]⟩, .int .i64 (5), .string ⟨#[120]⟩, .string ⟨#[108, 111, 119, 101, 114]⟩, .int .i64 (6), .string ⟨#[120]⟩, .string ⟨#[115, 104, 105, 102, 116]⟩, .int .i64 (7), .string ⟨#[120]⟩, .string ⟨#[115, 99, 97, 108, 101]⟩, .int .i64 (7), .string ⟨#[120]⟩, .string ⟨#[102, 105, 120]⟩, .int .i64 (7), .string ⟨#[120]⟩, .string ⟨#[106, 111, 105, 110]⟩, .int .i64 (8), .string ⟨#[115]⟩, .string ⟨#[108, 101, 97, 118, 101]⟩, .int .i64 (8), .string ⟨#[115]⟩, .string ⟨#[104, 97, 115]⟩, .int .i64 (8), .string ⟨#[115]⟩, .string ⟨#[111, 102, 102, 101, 114]⟩, .int .i64 (9), .string ⟨#[120, 115]⟩]) (fu := 8) (by kernel_rfl) (by kernel_rfl) Zbmx (by kernel_rfl) (by kernel_rfl) h
 intro e he i v hv
 rcases Zb42.1 he with rfl | he
 ·exact⟨(Zyy (g0 i v hv)).2,g0 i v hv⟩
 cases he
theorem WholeLog_ret (os:Os) (started:os.Started) (H:Type) (enc:TypeId×Value→H) :
  ReturnsInHanded {} Zb6j os 3 .any (fun w args => (Go.Proofs.YtajhikgoibmpcaaGreatDoor.Rows.wholeLogSpec.pre enc Zb4l Zb50 [] false w args ∧ laidMetH Zb4l [("moiety/act.kinds", Go.Proofs.YtajhikgoibmpcaaGreatDoor.Rows.laid_moiety_act_kinds)] w) ∧ sizedMet enc Zb4l Zb50 (OpenSpec.ofChange Go.Proofs.YtajhikgoibmpcaaGreatDoor.Rows.wholeLogSpec) false w args) (Go.Proofs.YtajhikgoibmpcaaGreatDoor.Rows.wholeLogSpec.post enc Zb4l Zb50 false true false false) := by
 refine returnsInHanded_of_change_and (C := Zb6j) (X := fun w _ => laidMetH Zb4l [("moiety/act.kinds", Go.Proofs.YtajhikgoibmpcaaGreatDoor.Rows.laid_moiety_act_kinds)] w) (fun _ _ _ hh h => h.of_heap hh) Zbk1 started (by kernel_rfl) Zb6x
  (ChangeSpec.witness_shaped (enc := enc) (C := Zb6j) (os := os) (X := fun w _ => laidMetH Zb4l [("moiety/act.kinds", Go.Proofs.YtajhikgoibmpcaaGreatDoor.Rows.laid_moiety_act_kinds)] w) false (World.doorLaid Zb4l 400 os) #[.int .i64 0, .slice none 0 0, .agg #[.int .i64 0, .slice none 0 0]] 8 rfl (World.shaped_of_RefB (by kernel_rfl) (by kernel_rfl)) (by kernel_rfl) (by kernel_rfl) (by kernel_rfl) (WholeLog_met os _)) ?_
 intro W base args ds gs before hval0 hW hcnd _ hL _
 have hval:∀(j:Nat) t v,Zb50.params[j]?=some t→args[j]?=some v→Value.okWide Zb4l W .any base t v:=hval0
 have hW':=hW
 obtain⟨p,q,hA0,hV,rfl,hfz,hnd⟩:=hW
 have hA:DataW.TrodAll enc Zb4l W 0 (fun _=>true) true Zb50.params.toList args.toList ds p:=hA0
 rw[Zb61]at hA hval
 obtain⟨v0,v1,v2,d0,d1,d2,p0,p1,p2,rfl,rfl,rfl,h0,h1,h2⟩:=trodAll_three hA
 obtain⟨rfl,rfl⟩:=trodVars_none hV
 simp only[Zb4v]at hW'
 have hg:GLok W (fun b _=>b<W.heap.size):=(WholeLog_gl hL)
 have hk0:=h0
 obtain⟨a0,q0,w0⟩:=Zbbm op_3 hg h0 (hval 0 3 v0 rfl rfl)
 have hk1:=h1
 obtain⟨a1,q1,w1⟩:=Zbbm Zbr1 hg h1 (hval 1 22 v1 rfl rfl)
 have hk2:=h2
 obtain⟨a2,q2,w2⟩:=Zbbm Zbs3 hg h2 (hval 2 25 v2 rfl rfl)
 refine (Zwq a0 a1 a2 (WholeLog_true a0 a1 a2 w0 w1 w2) (GW W hg) [v0,v1,v2] (Zsv q0 (Zsv q1 (Zsv q2 Zf9)))).mono fun e W' ⟨g',v,he,hw,hs,hq⟩=>?_
 subst he;subst hw
 rw[Zms.1 hq]
 have hbel:=Zbjg hs
 have hlt:∀x∈(p0++p1++p2),x.block<W.heap.size:=fun x hx=>by simpa using hW'.lt x hx
 exact⟨_,rfl,Z67 (pv:=[]) hW' hbel (trodAll_mk1 (shut_bool Zb6t true)) (trodAll_mk3 (Below.trod Zyh (by kernel_rfl) (of_decide_eq_true (by kernel_rfl)) hk0 hbel (fun x hx=>hlt x (by simp[hx]))) (Below.trod Zyh (by kernel_rfl) (of_decide_eq_true (by kernel_rfl)) hk1 hbel (fun x hx=>hlt x (by simp[hx]))) (Below.trod Zyh (by kernel_rfl) (of_decide_eq_true (by kernel_rfl)) hk2 hbel (fun x hx=>hlt x (by simp[hx])))) rfl⟩
theorem WholeLog_holds:Go.Proofs.YtajhikgoibmpcaaGreatDoor.Rows.WholeLogSaid :=
 OpenClaim.holds_of_wide 3 Zb50 rfl rfl rfl rfl rfl rfl rfl ⟨rfl,rfl,rfl,rfl,rfl⟩ rfl rfl rfl rfl rfl (by kernel_rfl) Zb6x (by kernel_rfl)
  (of_decide_eq_true (by kernel_rfl)) (by unfold Func.isWrapper;first | (rw[if_pos (by decide +kernel)];kernel_rfl) | (rw[if_neg (by decide +kernel)];exact⟨rfl,rfl⟩))
  (fun os started H enc _=>WholeLog_ret os started H enc)
theorem WholeLog_card:Go.Proofs.YtajhikgoibmpcaaGreatDoor.Rows.WholeLogCardSaid :=
 Claim7.holds_tied_plain_at .later [] [.data] true (true, "9d4d0ae94c3849315b37836a36c3037acbe13676671a5c8aaeb9b8eafc43fcab") true
  WholeLog_holds (fun _ h=>by cases h) (by kernel_rfl) (fun _ h=>by cases h) Go.Proofs.YtajhikgoibmpcaaGreatDoor.wholeLog_row_tie rfl ⟨rfl,rfl⟩ (by kernel_rfl) rfl
  (fun f fn hf hfn=>by
   obtain rfl : f = 3 := Zb4e.inj ((show Zb4l.funcNamed "moiety/moietytop.WholeLog" = some 3 by kernel_rfl).symm.trans hf) |>.symm
   obtain rfl:fn=Zb50:=(Zb4e.inj (Zb6x.symm.trans hfn)).symm
   exact⟨by kernel_rfl,fun j t ht=>by
    rw[Zb61]at ht
    have hm:t∈[3,22,25]:=by simpa using Array.mem_of_getElem? ht
    have hall:(([3,22,25]:List TypeId).all fun u=>!Zb4l.wantsStandIn u)=true:=by kernel_rfl
    exact (show Zb4l.wantsStandIn t=false by simpa using List.all_eq_true.1 hall t hm)⟩)
  (by kernel_rfl)
end Go.CL
