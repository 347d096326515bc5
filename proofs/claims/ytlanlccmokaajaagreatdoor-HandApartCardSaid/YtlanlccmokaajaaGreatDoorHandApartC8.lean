/- A part of the proof of HandApart. -/
import Derived.Test.YtlanlccmokaajaaGreatDoorHandApartC7
import Derived.Test.YtlanlccmokaajaaGreatDoorRows
import Derived.Test.YtlanlccmokaajaaGreatDoorCards
import Derived.Test.YtlanlccmokaajaaGreatDoorTie
import Derived.SevenTiedAt
set_option linter.unusedVariables false
set_option linter.unusedSimpArgs false
set_option maxRecDepth 100000
namespace Go.CL
open Go
theorem Zqr {r:Zb} {a:Zn} (hr:RecW r) (hg:Zcl r) (ha:ActIn a):∃ c,Zf1 a=some c ∧ (c ≠ 0 → Zc0 r true a=some (r,true,ans c)) ∧
  (c=0 → 1 ≤ a.Kind ∧ a.Kind ≤ 21 ∧ ActW a ∧ ∃ on,Zik a.Kind=some on ∧ (a.Kind=1 → Zc0 r true a=some (r,true,ans 7)) ∧ (a.Kind=2 → Zc0 r true a=some (zrc,false,ans 0)) ∧
   (a.Kind=3 → Zc0 r true a=some (r,true,{ ans 0 with Num:=r.Kind })) ∧ (a.Kind=4 → Zc0 r true a=some (r,true,{ ans 0 with Rec:=r })) ∧ (5 ≤ a.Kind → on ≠ r.Kind → Zc0 r true a=some (r,true,ans 5)) ∧
   (5 ≤ a.Kind → on=r.Kind → ∃ c r' o,Zbb a.Kind r a default=some (c,r',o) ∧ RecW r' ∧ RecW o.Rec ∧ (c=0 → o.Code=0 ∧ o.Num=0) ∧ Zc0 r true a=some (if c=0 then (r',true,o) else (r,true,ans c)))):=by
 obtain ⟨c,h1,_,h3⟩:=Zpu ha.ok
 have z1:((0:Int) != 0)=false:=rfl
 refine ⟨c,h1,fun hc=>?_,fun hc=>?_⟩
 ·show Zfd true a r=_
  unfold Zfd
  rw [Zib hr.len,h1]
  simp only [Option.bind_some]
  rw [if_pos (by simpa using hc)]
  rfl
 ·subst hc
  have hf:=h3 rfl
  have hw:=ha.w (c:=0) hf
  obtain ⟨on,o1,_⟩:=Zqb hf.1 hf.2.1
  have e1:Zc0 r true a=Zgj true a r:=by
   show Zfd true a r=_
   unfold Zfd
   rw [Zib hr.len,h1]
   simp only [Option.bind_some,z1,Bool.false_eq_true,if_false,if_true]
   rw [(Ziw hr.ok).2 hg]
   simp only [Option.bind_some,z1,Bool.false_eq_true,if_false]
  refine ⟨hf.1,hf.2.1,hw,on,o1,?_⟩
  rw [e1]
  unfold Zgj Zg2
  rw [o1,Zib hr.len,Zib ha.mkr.len]
  simp only [Option.bind_some]
  refine ⟨fun k=>by rw [k];rfl,fun k=>by rw [k];rfl,fun k=>by rw [k];rfl,fun k=>by rw [k];rfl,fun k hn=>?_,fun k hn=>?_⟩
  all_goals
   have b1:(a.Kind == 1)=false:=by simp;omega
   have b2:(a.Kind == 2)=false:=by simp;omega
   have b3:(a.Kind == 3)=false:=by simp;omega
   have b4:(a.Kind == 4)=false:=by simp;omega
   simp only [b1,b2,b3,b4,Bool.false_and,Bool.false_eq_true,if_false,Bool.not_true]
  ·rw [if_pos (by simpa using hn)]
  ·rw [if_neg (by simpa using hn),if_pos ⟨k,hf.2.1⟩]
   obtain ⟨c,r',o,e1,_,w1,w2,w3⟩:=Zvb k hf.2.1 hr hg (by rw [← hn];exact o1) hw
   rw [e1]
   refine ⟨c,r',o,rfl,w1,w2,w3,?_⟩
   simp only [Option.bind_some]
   by_cases hc:c=0
   ·subst hc;rfl
   ·rw [if_pos (by simpa using hc),if_neg hc]
def eff (r:Zb) (a:Zn):Zb :=
 if a.Kind=7 ∨ a.Kind=8 ∨ a.Kind=10 then { r with Num:=IntKind.i64.wrap (r.Num + a.N) }
 else if a.Kind=11 then { r with Num:=IntKind.i64.wrap (r.Num - a.N) }
 else if a.Kind=13 then { r with Real:=if keyf r.Real < keyf a.X then a.X else r.Real }
 else if a.Kind=14 then { r with Real:=if keyf a.X < keyf r.Real then a.X else r.Real }
 else if a.Kind=18 then { r with List:=layL { Score:=0,Name:=a.S } true r.List }
 else if a.Kind=19 then { r with List:=r.List.filter fun e=>!sEq e.Name a.S }
 else if a.Kind=21 then { r with List:=(layL { Score:=a.X,Name:=a.S } false r.List).take r.Cap.toNat }
 else r
def Zni (k:Int):Prop:=k=7 ∨ k=8 ∨ k=10 ∨ k=11 ∨ k=13 ∨ k=14 ∨ k=18 ∨ k=19 ∨ k=21
structure Fits (r:Zb) (a:Zn):Prop where
 plus:a.Kind=8 → -9223372036854775808 ≤ r.Num + a.N ∧ r.Num + a.N ≤ 9223372036854775807
 inn:a.Kind=10 → r.Num + a.N ≤ r.High
 out:a.Kind=11 → r.Low ≤ r.Num - a.N
 join:a.Kind=18 → isAt a.S r.List=true ∨ (r.List.length:Int) < r.Cap
theorem Z1g (r:Zb) (a:Zn):(eff r a).Kind=r.Kind ∧ (eff r a).Cap=r.Cap ∧ (eff r a).Low=r.Low ∧ (eff r a).High=r.High ∧ (eff r a).Text=r.Text:=by
 unfold eff
 repeat' split
 all_goals exact ⟨rfl,rfl,rfl,rfl,rfl⟩
theorem Zbbu {a b:Nat} (ha:a < W64) (hb:b < W64):Zh3 a b=some (if keyf a < keyf b then b else a):=by
 unfold Zh3
 rw [Znl ha hb]
 by_cases h:keyf a < keyf b <;> simp [h]
theorem Zbbr {a b:Nat} (ha:a < W64) (hb:b < W64):Zh0 a b=some (if keyf b < keyf a then b else a):=by
 unfold Zh0
 rw [Znl hb ha]
 by_cases h:keyf b < keyf a <;> simp [h]
theorem Zbci {r:Zb} {a:Zn} (hr:RecW r) (hg:Zcl r) (ha:ActW a) (hk:Zni a.Kind) (hon:Zik a.Kind=some r.Kind) (hf:Fits r a):Zbj r a=some (eff r a,ans 0):=by
 have hlen:=hr.len
 obtain ⟨on,o1,_,_,_,k10,k18,k21,_⟩:=Zqb (k:=a.Kind) (by unfold Zni at hk;omega) (by unfold Zni at hk;omega)
 rw [hon] at o1
 obtain rfl:=Option.some.inj o1
 rcases hk with h | h | h | h | h | h | h | h | h
 ·unfold Zbj eff;rw [h];rfl
 ·have e2:Zbj r a=(Zhd r.Num a.N).bind fun r7=>(if r7 then (Z1 r (ans 9)) else (Z1 { r with Num:=IntKind.i64.wrap (r.Num + a.N) } (ans 0))):=by unfold Zbj;rw [h];rfl
  obtain ⟨f1,f2⟩:=hf.plus h
  have hn:=ha.n
  have hrn:=hr.num
  unfold I64 at hn hrn
  have ho:((((decide ((0:Int) < r.Num)) && (decide ((0:Int) < a.N))) && (decide ((IntKind.i64.wrap (r.Num + a.N)) < (0:Int)))) || (((decide (r.Num < (0:Int))) && (decide (a.N < (0:Int)))) && (decide ((0:Int) ≤ (IntKind.i64.wrap (r.Num + a.N))))))=false:=by
   rw [wr f1 f2,Bool.eq_false_iff]
   simp only [ne_eq,Bool.or_eq_true,Bool.and_eq_true,decide_eq_true_eq]
   omega
  rw [e2]
  unfold Zhd
  rw [ho]
  unfold eff Z1
  rw [h];rfl
 ·have e2:Zbj r a=(if (decide (r.High < IntKind.i64.wrap (r.Num + a.N))) then (Z1 r (ans 9)) else (Z1 { r with Num:=IntKind.i64.wrap (r.Num + a.N) } (ans 0))):=by unfold Zbj Zb1;rw [h];rfl
  obtain ⟨p1,p2,p3,p4⟩:=Zvh hg (k10 (.inl h))
  obtain ⟨n1,n2⟩:=ha.inout (.inl h)
  have f:=hf.inn h
  rw [e2,if_neg (by rw [wr (by omega) (by omega)];simp;omega)]
  unfold eff Z1
  rw [h];rfl
 ·have e2:Zbj r a=(if (decide (IntKind.i64.wrap (r.Num - a.N) < r.Low)) then (Z1 r (ans 10)) else (Z1 { r with Num:=IntKind.i64.wrap (r.Num - a.N) } (ans 0))):=by unfold Zbj Zb1;rw [h];rfl
  obtain ⟨p1,p2,p3,p4⟩:=Zvh hg (k10 (.inr h))
  obtain ⟨n1,n2⟩:=ha.inout (.inr h)
  have f:=hf.out h
  rw [e2,if_neg (by rw [wr (by omega) (by omega)];simp;omega)]
  unfold eff Z1
  rw [h];rfl
 ·unfold Zbj Zb1 eff;rw [h,Zbbu hr.ok.real ha.ok.2];rfl
 ·unfold Zbj Zb1 eff;rw [h,Zbbr hr.ok.real ha.ok.2];rfl
 ·have e2:Zbj r a=(Zf7 r.List a.S).bind fun r40=>(if ((!r40) && (decide (r.Cap ≤ (r.List.length:Int)))) then (Z1 r (ans 8)) else ((Zey r.List ({ Score:=(0:Nat),Name:=a.S }:Zh) true).bind fun r43=>(Z1 ({ r with List:=r43 }) (ans 0)))):=by unfold Zbj Zb1;rw [h];rfl
  have hs:=Zm4 hg (k18 (.inl h))
  have hff:((!isAt a.S r.List) && (decide (r.Cap ≤ (r.List.length:Int))))=false:=by
   rcases hf.join h with f | f
   ·rw [f];rfl
   ·rw [show decide (r.Cap ≤ (r.List.length:Int))=false by simp;omega,Bool.and_false]
  rw [e2,Z2e (by omega),Zsb hs,Zuv (show (0:Nat) < W64 by decide) hr.ok.sc (by omega)]
  simp only [Option.bind_some]
  rw [hff]
  unfold eff Z1
  rw [h];rfl
 ·have e2:Zbj r a=(Zdf r a (Int.toNat ((r.List.length:Int) - (0:Int)) + 1) ([]:List Zh) (0:Int)).bind fun z57=>match z57 with | y56=>(Z1 ({ r with List:=y56 }) (ans 0)):=by unfold Zbj Zb1;rw [h];rfl
  have hq:=Zpo (a:=a) (a0:=r) (by omega) r.List.length 0 [] (by omega) (by simp)
  rw [show ((0:Nat):Int)=0 from rfl] at hq
  rw [e2,show (Int.toNat ((r.List.length:Int) - (0:Int)) + 1)=r.List.length + 1 by omega,hq,List.drop_zero,List.nil_append]
  unfold eff Z1
  rw [h];rfl
 ·have e2:Zbj r a=(Zey r.List ({ Score:=a.X,Name:=a.S }:Zh) false).bind fun r63=>(if (decide (r.Cap < (r63.length:Int))) then ((cut r63 (0:Int) r.Cap).bind fun c66=>(Zdq r c66)) else (Zdq r r63)):=by unfold Zbj Zb1;rw [h];rfl
  obtain ⟨c1,c2,c3⟩:=Zt7 hg (by omega)
  rw [e2,Zuv ha.ok.2 hr.ok.sc (by omega)]
  simp only [Option.bind_some]
  have he:eff r a={ r with List:=(layL { Score:=a.X,Name:=a.S } false r.List).take r.Cap.toNat }:=by unfold eff;rw [h];rfl
  rw [he]
  by_cases hc:r.Cap < ((layL { Score:=a.X,Name:=a.S } false r.List).length:Int)
  ·rw [if_pos (by simpa using hc)]
   unfold cut
   rw [if_pos (by omega)]
   simp only [Option.bind_some,Zdq,Z1,Int.toNat_zero,List.drop_zero,Nat.sub_zero]
  ·rw [if_neg (by simpa using hc),List.take_of_length_le (by omega)]
   rfl
theorem Z45 {r:Zb} {a:Zn} (hr:RecW r) (hg:Zcl r) (ha:ActW a) (hk:Zni a.Kind) (hon:Zik a.Kind=some r.Kind) (hf:Fits r a):Zbb a.Kind r a default=some (0,eff r a,ans 0) ∧ RecW (eff r a) ∧ Zcl (eff r a):=by
 obtain ⟨c,r',o,e1,e2,w1,_⟩:=Zvb (by unfold Zni at hk;omega) (by unfold Zni at hk;omega) hr hg hon ha
 rw [Zbci hr hg ha hk hon hf] at e2
 by_cases hc:c=0
 ·subst hc
  rw [if_pos rfl] at e2
  simp only [Option.some.injEq,Prod.mk.injEq] at e2
  obtain ⟨rfl,rfl⟩:=e2
  exact ⟨e1,w1,Zqm (by unfold Zni at hk;omega) (by unfold Zni at hk;omega) hon hr hg ha e1⟩
 ·rw [if_neg hc] at e2
  simp only [Option.some.injEq,Prod.mk.injEq,Zd.mk.injEq] at e2
  exact absurd e2.2.1.symm hc
theorem Zq4 {r:Zb} {a:Zn} (hr:RecW r) (hg:Zcl r) (ha:ActIn a) (h0:Zf1 a=some 0) (hk:Zni a.Kind) (hon:Zik a.Kind=some r.Kind) (hf:Fits r a):Zc0 r true a=some (eff r a,true,ans 0) ∧ RecW (eff r a) ∧ Zcl (eff r a):=by
 have h5:5 ≤ a.Kind:=by unfold Zni at hk;omega
 obtain ⟨c,h1,_,h3⟩:=Zqr hr hg ha
 rw [h0] at h1
 obtain rfl:=Option.some.inj h1
 obtain ⟨_,_,hw,on,o1,_,_,_,_,_,h4⟩:=h3 rfl
 rw [hon] at o1
 obtain ⟨c,r',o,e1,_,_,_,e2⟩:=h4 h5 (Option.some.inj o1).symm
 obtain ⟨e3,w,g⟩:=Z45 hr hg hw hk hon hf
 rw [e3] at e1
 simp only [Option.some.injEq,Prod.mk.injEq] at e1
 obtain ⟨rfl,rfl,rfl⟩:=e1
 exact ⟨by rw [e2];rfl,w,g⟩
def ins (lt same:Zh → Zh → Bool) (x:Zh):Zc8 → Zc8
 | []=>[x]
 | e :: r=>if lt e x then e :: ins lt same x r else if same e x then e :: r else x :: e :: r
theorem Zm0 (x:Zh) (nm:Bool):∀ l:Zc8,layL x nm l=ins (fun e x=>Zds x nm e) (fun e x=>Zhx x nm e) x l
 | []=>rfl
 | e :: r=>by
  have ih:=Zm0 x nm r
  unfold layL at ih ⊢
  simp only [pre,ins]
  by_cases h:Zds x nm e=true
  ·simp only [h,if_true,List.getElem?_cons_succ,List.take_succ_cons,List.drop_succ_cons]
   rw [← ih]
   cases r[pre (Zds x nm) r]? <;> rfl
  ·simp only [h,if_false,List.getElem?_cons_zero,List.take_zero,List.drop_zero,List.nil_append,Bool.false_eq_true]
   by_cases hs:Zhx x nm e=true
   ·simp [hs]
   ·simp [hs]
structure Ord (lt same:Zh → Zh → Bool):Prop where
 trans:∀ {a b c},lt a b=true → lt b c=true → lt a c=true
 asym:∀ {a b},lt a b=true → lt b a=false
 ns:∀ {a b},lt a b=true → same a b=false ∧ same b a=false
 tri:∀ {a b},lt a b=false → lt b a=false → same a b=true
 cong:∀ {a b c},same a b=true → lt b c=true → lt a c=true
theorem Z1h {lt same:Zh → Zh → Bool} (h:Ord lt same) {x y:Zh} (hxy:lt x y=true):∀ l:Zc8,ins lt same x (ins lt same y l)=ins lt same y (ins lt same x l)
 | []=>by simp [ins,hxy,h.asym hxy,(h.ns hxy).2]
 | e :: r=>by
  have ih:=Z1h h hxy r
  by_cases h1:lt e x=true
  ·have h2:=h.trans h1 hxy
   simp only [ins,h1,h2,if_true,ih]
  ·have h1':lt e x=false:=by simpa using h1
   by_cases h2:same e x=true
   ·have h3:=h.cong h2 hxy
    simp only [ins,h1',h2,h3,if_true,Bool.false_eq_true,if_false]
   ·have h2':same e x=false:=by simpa using h2
    have h3:lt x e=true:=by
     cases hq:lt x e
     ·exact absurd (h.tri h1' hq) h2
     ·rfl
    have hl:ins lt same x (e :: r)=x :: e :: r:=by simp [ins,h1',h2']
    have hd:∀ z s,lt x z=true → ins lt same x (z :: s)=x :: z :: s:=fun z s hz=>by simp [ins,h.asym hz,(h.ns hz).2]
    rw [hl]
    have hr:ins lt same y (x :: e :: r)=x :: ins lt same y (e :: r):=by simp [ins,hxy]
    rw [hr]
    by_cases h4:lt e y=true
    ·have:ins lt same y (e :: r)=e :: ins lt same y r:=by simp [ins,h4]
     rw [this,hd _ _ h3]
    ·have h4':lt e y=false:=by simpa using h4
     by_cases h5:same e y=true
     ·have:ins lt same y (e :: r)=e :: r:=by simp [ins,h4',h5]
      rw [this,hd _ _ h3]
     ·have:ins lt same y (e :: r)=y :: e :: r:=by simp [ins,h4',h5]
      rw [this,hd _ _ hxy]
theorem Z05 {lt same:Zh → Zh → Bool} (h:Ord lt same) {x y:Zh} (he:same x y=true → x=y) (l:Zc8):ins lt same x (ins lt same y l)=ins lt same y (ins lt same x l):=by
 by_cases h1:lt x y=true
 ·exact Z1h h h1 l
 ·by_cases h2:lt y x=true
  ·exact (Z1h h h2 l).symm
  ·rw [he (h.tri (by simpa using h1) (by simpa using h2))]
theorem Zwg {lt same:Zh → Zh → Bool} (y:Zh):∀ (n:Nat) (l:Zc8),(ins lt same y (l.take n)).take n=(ins lt same y l).take n
 | 0,_=>by simp
 | n + 1,[]=>by simp
 | n + 1,e :: r=>by
  simp only [List.take_succ_cons,ins]
  split
  ·simp only [List.take_succ_cons,Zwg y n r]
  ·split
   ·simp [List.take_take]
   ·cases n with
    | zero=>simp
    | succ m=>simp [List.take_take]
theorem Z3r (a:Zh):Zcs a a=false:=by unfold Zcs;rw [if_pos rfl,Zho]
theorem Z6m:Ord (fun e x=>Zds x true e) (fun e x=>Zhx x true e) where
 trans h k:=Zgg h k
 asym h:=Zsj h
 ns {a b} h:=by
  have h:sLt a.Name b.Name=true:=h
  simp [Zhx,Zeq.2 (Zms h),Zeq.2 (fun e=>Zms h e.symm)]
 tri {a b} h k:=by
  have h:sLt a.Name b.Name=false:=h
  have k:sLt b.Name a.Name=false:=k
  have:a.Name=b.Name:=Classical.byContradiction fun hn=>by rw [Zm6 h hn] at k;cases k
  simp [Zhx,this,Zdp]
 cong {a b c} h k:=by
  have h:(sEq a.Name b.Name && (true || decide (keyf a.Score=keyf b.Score)))=true:=h
  have h:sEq a.Name b.Name=true:=by simpa using h
  have k:sLt b.Name c.Name=true:=k
  show sLt a.Name c.Name=true
  rw [Zcx.1 h];exact k
theorem Zsa {a b:Zh}:Zhx b false a=true ↔ a.Name=b.Name ∧ keyf a.Score=keyf b.Score:=by
 unfold Zhx
 rw [Bool.and_eq_true,Zcx]
 simp
theorem Z8n:Ord (fun e x=>Zds x false e) (fun e x=>Zhx x false e) where
 trans h k:=Zmo h k
 asym {a b} h:=by
  have h:Zcs a b=true:=h
  show Zcs b a=false
  cases hq:Zcs b a
  ·rfl
  ·have:=Zmo h hq
   rw [Z3r] at this;cases this
 ns {a b} h:=by
  have h:Zcs a b=true:=h
  constructor
  ·show Zhx b false a=false
   rw [Bool.eq_false_iff]
   intro hs
   obtain ⟨h1,h2⟩:=Zsa.1 hs
   unfold Zcs at h
   rw [if_pos h2,h1,Zho] at h;cases h
  ·show Zhx a false b=false
   rw [Bool.eq_false_iff]
   intro hs
   obtain ⟨h1,h2⟩:=Zsa.1 hs
   unfold Zcs at h
   rw [if_pos h2.symm,h1,Zho] at h;cases h
 tri {a b} h k:=by
  have h:Zcs a b=false:=h
  have k:Zcs b a=false:=k
  show Zhx b false a=true
  rw [← Zvw h,k];rfl
 cong {a b c} h k:=by
  obtain ⟨h1,h2⟩:=Zsa.1 h
  have k:Zcs b c=true:=k
  show Zcs a c=true
  unfold Zcs at k ⊢
  rw [h1,h2];exact k
theorem Zwt {a b:Nat} (ha:a < W64) (hb:b < W64) (ca:a=Zb9 a) (cb:b=Zb9 b) (h:keyf a=keyf b):a=b:=by
 have hW:W64=18446744073709551616:=rfl
 have hT:TOP=9223372036854775808:=rfl
 have hI:INF=9218868437227405312:=rfl
 have hn:∀ z,z < W64 → z=Zb9 z → isn z → z=NANB:=fun z _ hz h=>by rw [hz];unfold Zb9;rw [if_pos h]
 have key:∀ z,z < W64 → ¬ isn z → keyf z ≠ 18444492273895866369:=fun z hz hzn=>by
  have h2:¬ INF < z % TOP:=hzn
  rw [hT] at h2
  unfold keyf
  rw [if_neg hzn]
  split <;> omega
 by_cases na:isn a
 ·by_cases nb:isn b
  ·rw [hn a ha ca na,hn b hb cb nb]
  ·exact absurd (by rw [← h];unfold keyf;rw [if_pos na]) (key b hb nb)
 ·by_cases nb:isn b
  ·exact absurd (by rw [h];unfold keyf;rw [if_pos nb]) (key a ha na)
  ·unfold keyf at h
   rw [if_neg na,if_neg nb] at h
   split at h <;> split at h <;> omega
theorem Zyj (s t:ByteArray) (l:Zc8):layL { Score:=0,Name:=s } true (layL { Score:=0,Name:=t } true l)=layL { Score:=0,Name:=t } true (layL { Score:=0,Name:=s } true l):=by
 rw [Zm0,Zm0,Zm0,Zm0]
 refine Z05 Z6m (fun h=>?_) l
 have h:(sEq s t && (true || decide (keyf 0=keyf 0)))=true:=h
 have h:sEq s t=true:=by simpa using h
 rw [Zcx.1 h]
theorem Z0e {x y:Zh} (hx:x.Score < W64) (hy:y.Score < W64) (cx:x.Score=Zb9 x.Score) (cy:y.Score=Zb9 y.Score) (n:Nat) (l:Zc8):(layL x false ((layL y false l).take n)).take n=(layL y false ((layL x false l).take n)).take n:=by
 rw [Zm0,Zm0,Zm0,Zm0,Zwg,Zwg]
 rw [Z05 Z8n (x:=x) (y:=y) (fun h=>?_) l]
 obtain ⟨h1,h2⟩:=Zsa.1 h
 have h3:=Zwt hx hy cx cy h2
 obtain ⟨x1,x2⟩:=x
 obtain ⟨y1,y2⟩:=y
 have h1:x2=y2:=h1
 have h3:x1=y1:=h3
 rw [h1,h3]
theorem Zu5 {r:Zb} {a:Zn} (h:a.Kind=7 ∨ a.Kind=8 ∨ a.Kind=10):eff r a={ r with Num:=IntKind.i64.wrap (r.Num + a.N) }:=if_pos h
theorem Zu1 {r:Zb} {a:Zn} (h:a.Kind=13):eff r a={ r with Real:=if keyf r.Real < keyf a.X then a.X else r.Real }:=by unfold eff;rw [h];rfl
theorem Zve {r:Zb} {a:Zn} (h:a.Kind=14):eff r a={ r with Real:=if keyf a.X < keyf r.Real then a.X else r.Real }:=by unfold eff;rw [h];rfl
theorem Zs1 {r:Zb} {a:Zn} (h:a.Kind=18):eff r a={ r with List:=layL { Score:=0,Name:=a.S } true r.List }:=by unfold eff;rw [h];rfl
theorem Zra {r:Zb} {a:Zn} (h:a.Kind=19):eff r a={ r with List:=r.List.filter fun e=>!sEq e.Name a.S }:=by unfold eff;rw [h];rfl
theorem Zq7 {r:Zb} {a:Zn} (h:a.Kind=21):eff r a={ r with List:=(layL { Score:=a.X,Name:=a.S } false r.List).take r.Cap.toNat }:=by unfold eff;rw [h];rfl
def fmx (x y:Nat):Nat:=if keyf x < keyf y then y else x
def fmn (x y:Nat):Nat:=if keyf y < keyf x then y else x
theorem Z83 {x y:Nat} (hx:x < W64) (hy:y < W64) (cx:x=Zb9 x) (cy:y=Zb9 y) (z:Nat):fmx (fmx z x) y=fmx (fmx z y) x:=by
 have e:=Zwt hx hy cx cy
 unfold fmx
 by_cases c1:keyf z < keyf x <;> by_cases c2:keyf z < keyf y <;> simp only [c1,c2,if_true,if_false]
 ·by_cases c3:keyf x < keyf y
  ·rw [if_pos c3,if_neg (by omega)]
  ·rw [if_neg c3]
   by_cases c4:keyf y < keyf x
   ·rw [if_pos c4]
   ·rw [if_neg c4];exact e (by omega)
 ·rw [if_neg (by omega)]
 ·rw [if_neg (by omega)]
theorem Z8j {x y:Nat} (hx:x < W64) (hy:y < W64) (cx:x=Zb9 x) (cy:y=Zb9 y) (z:Nat):fmn (fmn z x) y=fmn (fmn z y) x:=by
 have e:=Zwt hx hy cx cy
 unfold fmn
 by_cases c1:keyf x < keyf z <;> by_cases c2:keyf y < keyf z <;> simp only [c1,c2,if_true,if_false]
 ·by_cases c3:keyf y < keyf x
  ·rw [if_pos c3,if_neg (by omega)]
  ·rw [if_neg c3]
   by_cases c4:keyf x < keyf y
   ·rw [if_pos c4]
   ·rw [if_neg c4];exact e (by omega)
 ·rw [if_neg (by omega)]
 ·rw [if_neg (by omega)]
theorem Z8a {r:Zb} {a b:Zn} (ha:ActW a) (hb:ActW b) (hk:a.Kind=7 ∨ a.Kind=13 ∨ a.Kind=14 ∨ a.Kind=18 ∨ a.Kind=19 ∨ a.Kind=21) (he:b.Kind=a.Kind):eff (eff r a) b=eff (eff r b) a:=by
 rcases hk with h | h | h | h | h | h <;> rw [h] at he
 ·rw [Zu5 (.inl h),Zu5 (.inl he),Zu5 (.inl h),Zu5 (.inl he)]
  have:IntKind.i64.wrap (IntKind.i64.wrap (r.Num + a.N) + b.N)=IntKind.i64.wrap (IntKind.i64.wrap (r.Num + b.N) + a.N):=by
   simp only [IntKind.wrap_i64];omega
  simp only [this]
 ·rw [Zu1 h,Zu1 he,Zu1 h,Zu1 he]
  exact congrArg (fun z=>({ r with Real:=z }:Zb)) (Z83 ha.ok.2 hb.ok.2 ha.xc hb.xc r.Real)
 ·rw [Zve h,Zve he,Zve h,Zve he]
  exact congrArg (fun z=>({ r with Real:=z }:Zb)) (Z8j ha.ok.2 hb.ok.2 ha.xc hb.xc r.Real)
 ·rw [Zs1 h,Zs1 he,Zs1 h,Zs1 he]
  exact congrArg (fun z=>({ r with List:=z }:Zb)) (Zyj b.S a.S r.List)
 ·rw [Zra h,Zra he,Zra h,Zra he]
  refine congrArg (fun z=>({ r with List:=z }:Zb)) ?_
  show List.filter _ (List.filter _ _)=List.filter _ (List.filter _ _)
  rw [List.filter_filter,List.filter_filter]
  congr 1
  funext e
  exact Bool.and_comm _ _
 ·rw [Zq7 h,Zq7 he,Zq7 h,Zq7 he]
  exact congrArg (fun z=>({ r with List:=z }:Zb)) (Z0e (x:={ Score:=b.X,Name:=b.S }) (y:={ Score:=a.X,Name:=a.S }) hb.ok.2 ha.ok.2 hb.xc ha.xc r.Cap.toNat r.List)
abbrev KV:=ByteArray × Zb
def toL:shelf_nodeT → List KV
 | .nil=>[]
 | .node k r l rr _=>toL l ++ (k,r) :: toL rr
def Szd:shelf_nodeT → Prop
 | .nil=>True
 | .node k r l rr s=>Szd l ∧ Szd rr ∧ s=(((toL l).length + (toL rr).length + 1:Nat):Int)
def Srt (l:List KV):Prop:=l.Pairwise fun p q=>sLt p.1 q.1=true
theorem Zk2 {t:shelf_nodeT} (h:Szd t):Zcy t=some ((toL t).length:Int):=by
 cases t with
 | nil=>rfl
 | node k r l rr s =>
  obtain ⟨_,_,h3⟩:=h
  simp [Zcy,shelf_nodeT.isNil,shelf_nodeT.un,toL,h3]
  omega
theorem Zbbt {k:ByteArray} {x:Zb} {l r:shelf_nodeT} (hl:Szd l) (hr:Szd r) (bl:(toL l).length < 1099511627776) (br:(toL r).length < 1099511627776) :
  Zd8 k x l r=some (.node k x l r (((toL l).length + (toL r).length + 1:Nat):Int)):=by
 unfold Zd8
 rw [Zk2 hl,Zk2 hr]
 simp only [Option.bind_some,shelf_node.up]
 rw [wr (x:=(toL l).length + (toL r).length) (by omega) (by omega),wr (by omega) (by omega)]
 rfl
theorem Zj1 {k:ByteArray} {x:Zb} {l r:shelf_nodeT} (hl:Szd l) (hr:Szd r) (bl:(toL l).length < 1099511627776) (br:(toL r).length < 1099511627776) :
  ∃ t,Zd8 k x l r=some t ∧ Szd t ∧ toL t=toL l ++ (k,x) :: toL r:=⟨_,Zbbt hl hr bl br,⟨hl,hr,rfl⟩,rfl⟩
def Zpt (a b:shelf_nodeT):Bool:=decide (3 * ((toL b).length + 1) < (toL a).length + 1)
theorem Z2u {a b:shelf_nodeT} (ha:Szd a) (hb:Szd b) (ba:(toL a).length < 1099511627776) (bb:(toL b).length < 1099511627776):Zjz a b=some (Zpt a b):=by
 unfold Zjz Zpt
 rw [Zk2 ha,Zk2 hb]
 simp only [Option.bind_some]
 rw [wr (x:=((toL b).length:Int) + 1) (by omega) (by omega),wr (x:=((toL a).length:Int) + 1) (by omega) (by omega),wr (by omega) (by omega)]
 congr 1
 apply decide_eq_decide.2
 omega
theorem Zxj {t:shelf_nodeT} (h:0 < (toL t).length):∃ k r l rr s,t=.node k r l rr s:=by
 cases t with
 | nil=>simp [toL] at h
 | node k r l rr s=>exact ⟨k,r,l,rr,s,rfl⟩
theorem Zr9 {k:ByteArray} {x:Zb} {l r:shelf_nodeT} (hl:Szd l) (hr:Szd r) (bl:(toL l).length < 1099511627776) (br:(toL r).length < 1099511627776) (bs:(toL l).length + (toL r).length + 1 < 1099511627776) :
  ∃ t,Zjs k x l r=some t ∧ Szd t ∧ toL t=toL l ++ (k,x) :: toL r:=by
 unfold Zjs
 rw [Z2u hr hl br bl,Z2u hl hr bl br]
 simp only [Option.bind_some]
 by_cases h1:Zpt r l=true
 ·have hlen:0 < (toL r).length:=by
   unfold Zpt at h1
   have:=of_decide_eq_true h1
   omega
  obtain ⟨rk,rx,rl,rr,rs,rfl⟩:=Zxj hlen
  obtain ⟨s1,s2,s3⟩:=hr
  have e:(toL (shelf_nodeT.node rk rx rl rr rs)).length=(toL rl).length + (toL rr).length + 1:=by simp [toL];omega
  rw [e] at br bs
  simp only [h1,gd_t,shelf_nodeT.un,Option.bind_some,if_true]
  rw [Zk2 s1,Zk2 s2]
  simp only [Option.bind_some,Bool.true_and]
  by_cases h2:(decide (IntKind.i64.wrap (((toL rl).length:Int) + 1) < IntKind.i64.wrap (2 * IntKind.i64.wrap (((toL rr).length:Int) + 1))))=true
  ·rw [if_pos h2]
   obtain ⟨t1,e1,z1,l1⟩:=Zj1 (k:=k) (x:=x) hl s1 bl (by omega)
   have b1:(toL t1).length < 1099511627776:=by rw [l1];simp;omega
   obtain ⟨t2,e2,z2,l2⟩:=Zj1 (k:=rk) (x:=rx) z1 s2 b1 (by omega)
   exact ⟨t2,by rw [e1];simp only [Option.bind_some];rw [e2];rfl,z2,by rw [l2,l1];simp [toL]⟩
  ·rw [if_neg h2]
   have hlen2:0 < (toL rl).length:=by
    rw [wr (x:=((toL rr).length:Int) + 1) (by omega) (by omega),wr (x:=((toL rl).length:Int) + 1) (by omega) (by omega),wr (by omega) (by omega)] at h2
    have:¬ ((toL rl).length:Int) + 1 < 2 * ((toL rr).length + 1):=by simpa using h2
    omega
   obtain ⟨lk,lx,ll,lr,ls,rfl⟩:=Zxj hlen2
   obtain ⟨q1,q2,q3⟩:=s1
   have e':(toL (shelf_nodeT.node lk lx ll lr ls)).length=(toL ll).length + (toL lr).length + 1:=by simp [toL];omega
   rw [e'] at br bs
   simp only [shelf_nodeT.un,Option.bind_some]
   obtain ⟨t1,e1,z1,l1⟩:=Zj1 (k:=k) (x:=x) hl q1 bl (by omega)
   obtain ⟨t2,e2,z2,l2⟩:=Zj1 (k:=rk) (x:=rx) q2 s2 (by omega) (by omega)
   have b1:(toL t1).length < 1099511627776:=by rw [l1];simp;omega
   have b2:(toL t2).length < 1099511627776:=by rw [l2];simp;omega
   obtain ⟨t3,e3,z3,l3⟩:=Zj1 (k:=lk) (x:=lx) z1 z2 b1 b2
   exact ⟨t3,by rw [e1];simp only [Option.bind_some];rw [e2];simp only [Option.bind_some];rw [e3];rfl,z3,by rw [l3,l1,l2];simp [toL]⟩
 ·have h1':Zpt r l=false:=by simpa using h1
  simp only [h1',gd_f,Option.bind_some,Bool.false_and,Bool.false_eq_true,if_false]
  by_cases h3:Zpt l r=true
  ·have hlen:0 < (toL l).length:=by
    unfold Zpt at h3
    have:=of_decide_eq_true h3
    omega
   obtain ⟨rk,rx,rl,rr,rs,rfl⟩:=Zxj hlen
   obtain ⟨s1,s2,s3⟩:=hl
   have e:(toL (shelf_nodeT.node rk rx rl rr rs)).length=(toL rl).length + (toL rr).length + 1:=by simp [toL];omega
   rw [e] at bl bs
   simp only [h3,gd_t,shelf_nodeT.un,Option.bind_some,if_true]
   rw [Zk2 s2,Zk2 s1]
   simp only [Zcy,shelf_nodeT.isNil,if_true,Option.bind_some,Bool.true_and]
   by_cases h2:(decide (IntKind.i64.wrap (((toL rr).length:Int) + 1) < IntKind.i64.wrap (2 * IntKind.i64.wrap (((toL rl).length:Int) + 1))))=true
   ·rw [if_pos h2]
    obtain ⟨t1,e1,z1,l1⟩:=Zj1 (k:=k) (x:=x) s2 hr (by omega) br
    have b1:(toL t1).length < 1099511627776:=by rw [l1];simp;omega
    obtain ⟨t2,e2,z2,l2⟩:=Zj1 (k:=rk) (x:=rx) s1 z1 (by omega) b1
    exact ⟨t2,by rw [e1];simp only [Option.bind_some];rw [e2];rfl,z2,by rw [l2,l1];simp [toL]⟩
   ·rw [if_neg h2]
    have hlen2:0 < (toL rr).length:=by
     rw [wr (x:=((toL rl).length:Int) + 1) (by omega) (by omega),wr (x:=((toL rr).length:Int) + 1) (by omega) (by omega),wr (by omega) (by omega)] at h2
     have:¬ ((toL rr).length:Int) + 1 < 2 * ((toL rl).length + 1):=by simpa using h2
     omega
    obtain ⟨lk,lx,ll,lr,ls,rfl⟩:=Zxj hlen2
    obtain ⟨q1,q2,q3⟩:=s2
    have e':(toL (shelf_nodeT.node lk lx ll lr ls)).length=(toL ll).length + (toL lr).length + 1:=by simp [toL];omega
    rw [e'] at bl bs
    simp only [shelf_nodeT.un,Option.bind_some]
    obtain ⟨t1,e1,z1,l1⟩:=Zj1 (k:=rk) (x:=rx) s1 q1 (by omega) (by omega)
    obtain ⟨t2,e2,z2,l2⟩:=Zj1 (k:=k) (x:=x) q2 hr (by omega) br
    have b1:(toL t1).length < 1099511627776:=by rw [l1];simp;omega
    have b2:(toL t2).length < 1099511627776:=by rw [l2];simp;omega
    obtain ⟨t3,e3,z3,l3⟩:=Zj1 (k:=lk) (x:=lx) z1 z2 b1 b2
    exact ⟨t3,by rw [e1];simp only [Option.bind_some];rw [e2];simp only [Option.bind_some];rw [e3];rfl,z3,by rw [l3,l1,l2];simp [toL]⟩
  ·have h3':Zpt l r=false:=by simpa using h3
   simp only [h3',gd_f,Option.bind_some,Bool.false_and,Bool.false_eq_true,if_false]
   obtain ⟨t1,e1,z1,l1⟩:=Zj1 (k:=k) (x:=x) hl hr bl br
   exact ⟨t1,by rw [e1];simp [Zcy,shelf_nodeT.isNil,shelf_nodeT.un,Option.bind_some,gd],z1,l1⟩
def insL (k:ByteArray) (x:Zb):List KV → List KV
 | []=>[(k,x)]
 | p :: l=>if sLt k p.1 then (k,x) :: p :: l else if sEq k p.1 then (k,x) :: l else p :: insL k x l
def delL (k:ByteArray):List KV → List KV
 | []=>[]
 | p :: l=>if sEq k p.1 then l else p :: delL k l
theorem Zq2 (k:ByteArray) (x:Zb):∀ l:List KV,(insL k x l).length ≤ l.length + 1
 | []=>by simp [insL]
 | p :: l=>by
  have:=Zq2 k x l
  simp only [insL]
  split
  ·simp
  ·split <;> simp <;> omega
theorem Zou (k:ByteArray):∀ l:List KV,(delL k l).length ≤ l.length
 | []=>by simp [delL]
 | p :: l=>by
  have:=Zou k l
  simp only [delL]
  split <;> simp <;> omega
theorem Z3x {k:ByteArray} {x:Zb} {p:KV} {B:List KV} (h:sLt k p.1=true):∀ A:List KV,insL k x (A ++ p :: B)=insL k x A ++ p :: B
 | []=>by simp [insL,h]
 | q :: A=>by
  simp only [List.cons_append,insL]
  split
  ·rfl
  ·split
   ·rfl
   ·rw [Z3x h A];rfl
theorem Zty {k:ByteArray} {x:Zb} {B:List KV}:∀ A:List KV,(∀ q ∈ A,sLt q.1 k=true) → insL k x (A ++ B)=A ++ insL k x B
 | [],_=>rfl
 | q :: A,h=>by
  have hq:=h q (by simp)
  have h1:sLt k q.1=false:=Zsj hq
  have h2:sEq k q.1=false:=Zeq.2 (fun e=>Zms hq e.symm)
  simp only [List.cons_append,insL,h1,h2,Bool.false_eq_true,if_false]
  rw [Zty A fun q hq=>h q (by simp [hq])]
theorem Zbby {k:ByteArray} {x:Zb} {p:KV} {B:List KV} (h:k=p.1):insL k x (p :: B)=(k,x) :: B:=by
 simp [insL,h,Zho,Zdp]
theorem Zbaz {k:ByteArray} {x:Zb} {p:KV} {B:List KV} (h:sLt p.1 k=true):insL k x (p :: B)=p :: insL k x B:=by
 have h1:sLt k p.1=false:=Zsj h
 have h2:sEq k p.1=false:=Zeq.2 (fun e=>Zms h e.symm)
 simp [insL,h1,h2]
theorem Zsp {k:ByteArray}:∀ l:List KV,(∀ q ∈ l,q.1 ≠ k) → delL k l=l
 | [],_=>rfl
 | p :: l,h=>by
  have:sEq k p.1=false:=Zeq.2 (fun e=>h p (by simp) e.symm)
  simp only [delL,this,Bool.false_eq_true,if_false]
  rw [Zsp l fun q hq=>h q (by simp [hq])]
theorem Z4i {k:ByteArray} {p:KV} {B:List KV} (h:sLt k p.1=true) (hB:∀ q ∈ B,sLt p.1 q.1=true):∀ A:List KV,delL k (A ++ p :: B)=delL k A ++ p :: B
 | []=>by
  have h1:sEq k p.1=false:=Zeq.2 (Zms h)
  simp only [List.nil_append,delL,h1,Bool.false_eq_true,if_false]
  rw [Zsp B fun q hq e=>by
   have:=Zgg h (hB q hq)
   rw [e,Zho] at this;cases this]
 | q :: A=>by
  simp only [List.cons_append,delL]
  split
  ·rfl
  ·rw [Z4i h hB A];rfl
theorem Zui {k:ByteArray} {B:List KV}:∀ A:List KV,(∀ q ∈ A,sLt q.1 k=true) → delL k (A ++ B)=A ++ delL k B
 | [],_=>rfl
 | q :: A,h=>by
  have hq:=h q (by simp)
  have h2:sEq k q.1=false:=Zeq.2 (fun e=>Zms hq e.symm)
  simp only [List.cons_append,delL,h2,Bool.false_eq_true,if_false]
  rw [Zui A fun q hq=>h q (by simp [hq])]
theorem Zx7 {A B:List KV} {p:KV} (h:Srt (A ++ p :: B)):Srt A ∧ Srt B ∧ (∀ q ∈ A,sLt q.1 p.1=true) ∧ (∀ q ∈ B,sLt p.1 q.1=true):=by
 obtain ⟨h1,h2,h3⟩:=List.pairwise_append.1 h
 obtain ⟨h4,h5⟩:=List.pairwise_cons.1 h2
 exact ⟨h1,h5,fun q hq=>h3 q hq p (by simp),h4⟩
theorem Zrr {k:ByteArray} {x:Zb}:∀ {l:List KV} {q:KV},q ∈ insL k x l → q=(k,x) ∨ q ∈ l
 | [],q,h=>by simp [insL] at h;exact .inl h
 | p :: l,q,h=>by
  simp only [insL] at h
  split at h
  ·rcases List.mem_cons.1 h with h | h
   ·exact .inl h
   ·exact .inr h
  ·split at h
   ·rcases List.mem_cons.1 h with h | h
    ·exact .inl h
    ·exact .inr (List.mem_cons_of_mem _ h)
   ·rcases List.mem_cons.1 h with h | h
    ·exact .inr (by simp [h])
    ·rcases Zrr h with h | h
     ·exact .inl h
     ·exact .inr (List.mem_cons_of_mem _ h)
theorem Zoy {k:ByteArray}:∀ {l:List KV} {q:KV},q ∈ delL k l → q ∈ l
 | [],q,h=>by simp [delL] at h
 | p :: l,q,h=>by
  simp only [delL] at h
  split at h
  ·exact List.mem_cons_of_mem _ h
  ·rcases List.mem_cons.1 h with h | h
   ·simp [h]
   ·exact List.mem_cons_of_mem _ (Zoy h)
theorem Zuz {k:ByteArray} {x:Zb}:∀ {l:List KV},Srt l → Srt (insL k x l)
 | [],_=>List.pairwise_singleton ..
 | p :: l,h=>by
  obtain ⟨h1,h2⟩:=List.pairwise_cons.1 h
  simp only [insL]
  split
  ·rename_i hk
   refine List.pairwise_cons.2 ⟨fun q hq=>?_,h⟩
   rcases List.mem_cons.1 hq with rfl | hq
   ·exact hk
   ·exact Zgg hk (h1 q hq)
  ·rename_i hk
   split
   ·rename_i he
    have he:=Zcx.1 he
    exact List.pairwise_cons.2 ⟨fun q hq=>by rw [he];exact h1 q hq,h2⟩
   ·rename_i he
    have hlt:sLt p.1 k=true:=Zm6 (by simpa using hk) (fun e=>he (Zcx.2 e))
    refine List.pairwise_cons.2 ⟨fun q hq=>?_,Zuz h2⟩
    rcases Zrr hq with rfl | hq
    ·exact hlt
    ·exact h1 q hq
theorem Zvf {k:ByteArray}:∀ {l:List KV},Srt l → Srt (delL k l)
 | [],h=>h
 | p :: l,h=>by
  obtain ⟨h1,h2⟩:=List.pairwise_cons.1 h
  simp only [delL]
  split
  ·exact h2
  ·exact List.pairwise_cons.2 ⟨fun q hq=>h1 q (Zoy hq),Zvf h2⟩
theorem Z1n:∀ (n:Nat) (t:shelf_nodeT) (k:ByteArray) (x:Zb),t.hh < n → Szd t → Srt (toL t) → (toL t).length + 2 < 1099511627776 →
  ∃ t',Zgh n t k x=some t' ∧ Szd t' ∧ toL t'=insL k x (toL t)
 | 0,t,k,x,h,_,_,_=>by omega
 | n + 1,.nil,k,x,_,_,_,_=>by
  obtain ⟨t1,e1,z1,l1⟩:=Zj1 (k:=k) (x:=x) (l:=.nil) (r:=.nil) trivial trivial (by simp [toL]) (by simp [toL])
  refine ⟨t1,?_,z1,by rw [l1];rfl⟩
  simp only [Zgh,Zj8,shelf_nodeT.isNil,if_true]
  rw [e1];rfl
 | n + 1,.node nk nx l r s,k,x,hh,hz,hs,hb=>by
  obtain ⟨z1,z2,z3⟩:=hz
  simp only [toL] at hs hb
  obtain ⟨s1,s2,sA,sB⟩:=Zx7 hs
  have hlen:(toL l ++ (nk,nx) :: toL r).length=(toL l).length + (toL r).length + 1:=by simp;omega
  rw [hlen] at hb
  simp only [shelf_nodeT.hh] at hh
  simp only [Zgh,Zj8,shelf_nodeT.isNil,shelf_nodeT.un,Bool.false_eq_true,if_false,Option.bind_some]
  by_cases h1:sLt k nk=true
  ·rw [if_pos h1]
   obtain ⟨t1,e1,y1,l1⟩:=Z1n n l k x (by omega) z1 s1 (by omega)
   have b1:=Zq2 k x (toL l)
   rw [← l1] at b1
   obtain ⟨t2,e2,y2,l2⟩:=Zr9 (k:=nk) (x:=nx) y1 z2 (by omega) (by omega) (by omega)
   refine ⟨t2,by rw [e1];simp only [Option.bind_some];rw [e2];rfl,y2,?_⟩
   rw [l2,l1];simp only [toL];rw [Z3x (by exact h1)]
  ·rw [if_neg h1]
   by_cases h2:k=nk
   ·subst h2
    have he:(!(sLt k k || sEq k k))=false:=by simp [Zdp]
    rw [he]
    simp only [Bool.false_eq_true,if_false]
    obtain ⟨t1,e1,y1,l1⟩:=Zj1 (k:=k) (x:=x) z1 z2 (by omega) (by omega)
    refine ⟨t1,by rw [e1];rfl,y1,?_⟩
    rw [l1];simp only [toL]
    rw [Zty _ (fun q hq=>sA q hq),Zbby rfl]
   ·have h3:sLt nk k=true:=Zm6 (by simpa using h1) h2
    have he:(!(sLt k nk || sEq k nk))=true:=by simp [Zeq.2 h2];simpa using h1
    rw [he]
    simp only [if_true]
    obtain ⟨t1,e1,y1,l1⟩:=Z1n n r k x (by omega) z2 s2 (by omega)
    have b1:=Zq2 k x (toL r)
    rw [← l1] at b1
    obtain ⟨t2,e2,y2,l2⟩:=Zr9 (k:=nk) (x:=nx) z1 y1 (by omega) (by omega) (by omega)
    refine ⟨t2,by rw [e1];simp only [Option.bind_some];rw [e2];rfl,y2,?_⟩
    rw [l2,l1];simp only [toL]
    rw [Zty _ (fun q hq=>Zgg (sA q hq) h3),Zbaz h3]
theorem Z4w {t:shelf_nodeT} {k:ByteArray} {x:Zb} (hz:Szd t) (hs:Srt (toL t)) (hb:(toL t).length + 2 < 1099511627776) :
  ∃ t',Zo0 t k x=some t' ∧ Szd t' ∧ toL t'=insL k x (toL t):=Z1n _ t k x (Nat.lt_succ_self _) hz hs hb
theorem Z2q:∀ (n:Nat) (t:shelf_nodeT),t.hh < n → t.isNil=false → ∃ t' k x l r s B,Zf5 n t=some t' ∧ t'=.node k x l r s ∧ toL t=(k,x) :: B
 | 0,t,h,_=>by omega
 | n + 1,.nil,_,h=>by cases h
 | n + 1,.node k x l r s,hh,_=>by
  simp only [shelf_nodeT.hh] at hh
  simp only [Zf5,shelf_nodeT.un,Option.bind_some]
  cases l with
  | nil=>exact ⟨_,k,x,.nil,r,s,toL r,rfl,rfl,rfl⟩
  | node k2 x2 l2 r2 s2 =>
   obtain ⟨t',k',x',l',r',s',B,e1,e2,e3⟩:=Z2q n (.node k2 x2 l2 r2 s2) (by omega) rfl
   exact ⟨t',k',x',l',r',s',B ++ (k,x) :: toL r,by simp [shelf_nodeT.isNil];exact e1,e2,by
    simp only [toL] at e3 ⊢
    rw [e3];rfl⟩
theorem Zxn:∀ (n:Nat) (t:shelf_nodeT) (k:ByteArray),t.hh < n → Szd t → Srt (toL t) → (toL t).length + 2 < 1099511627776 →
  ∃ t',Zhc n t k=some t' ∧ Szd t' ∧ toL t'=delL k (toL t)
 | 0,t,k,h,_,_,_=>by omega
 | n + 1,.nil,k,_,_,_,_=>⟨.nil,rfl,trivial,rfl⟩
 | n + 1,.node nk nx l r s,k,hh,hz,hs,hb=>by
  obtain ⟨z1,z2,z3⟩:=hz
  simp only [toL] at hs hb
  obtain ⟨s1,s2,sA,sB⟩:=Zx7 hs
  have hlen:(toL l ++ (nk,nx) :: toL r).length=(toL l).length + (toL r).length + 1:=by simp;omega
  rw [hlen] at hb
  simp only [shelf_nodeT.hh] at hh
  simp only [Zhc,Zlq,shelf_nodeT.isNil,shelf_nodeT.un,Bool.false_eq_true,if_false,Option.bind_some]
  by_cases h1:sLt k nk=true
  ·rw [if_pos h1]
   obtain ⟨t1,e1,y1,l1⟩:=Zxn n l k (by omega) z1 s1 (by omega)
   have b1:=Zou k (toL l)
   rw [← l1] at b1
   obtain ⟨t2,e2,y2,l2⟩:=Zr9 (k:=nk) (x:=nx) y1 z2 (by omega) (by omega) (by omega)
   refine ⟨t2,by rw [e1];simp only [Option.bind_some];rw [e2];rfl,y2,?_⟩
   rw [l2,l1];simp only [toL];rw [Z4i (by exact h1) (fun q hq=>sB q hq)]
  ·rw [if_neg h1]
   by_cases h2:k=nk
   ·subst h2
    have he:(!(sLt k k || sEq k k))=false:=by simp [Zdp]
    rw [he]
    simp only [Bool.false_eq_true,if_false]
    have hdel:delL k (toL l ++ (k,nx) :: toL r)=toL l ++ toL r:=by
     rw [Zui _ (fun q hq=>sA q hq)]
     simp [delL,Zdp]
    cases hl:l with
    | nil=>exact ⟨r,by simp [shelf_nodeT.isNil,shelf_nodeT.un],z2,by show toL r=delL k (toL .nil ++ (k,nx) :: toL r);rw [← hl,hdel,hl];rfl⟩
    | node k2 x2 l2 r2 q2 =>
     cases hr:r with
     | nil=>exact ⟨l,by simp [shelf_nodeT.isNil,shelf_nodeT.un,hl],z1,by rw [← hl,← hr];show toL l=delL k (toL l ++ (k,nx) :: toL r);rw [hdel,hr];simp [toL]⟩
     | node k3 x3 l3 r3 q3 =>
      rw [← hl,← hr]
      have hn:r.isNil=false:=by rw [hr];rfl
      have hn1:l.isNil=false:=by rw [hl];rfl
      obtain ⟨t',k',x',l',r',s',B,e1,e2,e3⟩:=Z2q (r.hh + 1) r (Nat.lt_succ_self _) hn
      subst e2
      have hf:Zj3 r=some (.node k' x' l' r' s'):=by
       unfold Zj3;rw [e1];rfl
      obtain ⟨t1,c1,y1,l1⟩:=Zxn n r k' (by omega) z2 s2 (by omega)
      have hB:toL t1=B:=by rw [l1,e3];simp [delL,Zdp]
      have hBl:B.length + 1=(toL r).length:=by rw [e3];simp
      obtain ⟨t2,c2,y2,l2⟩:=Zr9 (k:=k') (x:=x') z1 y1 (by omega) (by rw [hB];omega) (by rw [hB];omega)
      refine ⟨t2,?_,y2,?_⟩
      ·simp only [hf,Option.bind_some,shelf_nodeT.un,c1,c2]
       show (if l.isNil=true then some r else if r.isNil=true then some l else some t2)=some t2
       rw [hn,hn1];rfl
      ·show toL t2=delL k (toL l ++ (k,nx) :: toL r)
       rw [hdel,l2,hB,e3]
   ·have h3:sLt nk k=true:=Zm6 (by simpa using h1) h2
    have he:(!(sLt k nk || sEq k nk))=true:=by simp [Zeq.2 h2];simpa using h1
    rw [he]
    simp only [if_true]
    obtain ⟨t1,e1,y1,l1⟩:=Zxn n r k (by omega) z2 s2 (by omega)
    have b1:=Zou k (toL r)
    rw [← l1] at b1
    obtain ⟨t2,e2,y2,l2⟩:=Zr9 (k:=nk) (x:=nx) z1 y1 (by omega) (by omega) (by omega)
    refine ⟨t2,by rw [e1];simp only [Option.bind_some];rw [e2];rfl,y2,?_⟩
    rw [l2,l1];simp only [toL]
    rw [Zui _ (fun q hq=>Zgg (sA q hq) h3)]
    simp [delL,Zeq.2 h2]
theorem Z4l {t:shelf_nodeT} {k:ByteArray} (hz:Szd t) (hs:Srt (toL t)) (hb:(toL t).length + 2 < 1099511627776) :
  ∃ t',Zor t k=some t' ∧ Szd t' ∧ toL t'=delL k (toL t):=Zxn _ t k (Nat.lt_succ_self _) hz hs hb
def lk (k:ByteArray):List KV → Option Zb
 | []=>none
 | p :: l=>if sEq k p.1 then some p.2 else lk k l
def rk (k:ByteArray):List KV → Nat
 | []=>0
 | p :: l=>if sLt p.1 k then rk k l + 1 else 0
theorem Zml {k:ByteArray}:∀ {l:List KV},(∀ q ∈ l,q.1 ≠ k) → lk k l=none
 | [],_=>rfl
 | p :: l,h=>by
  have:sEq k p.1=false:=Zeq.2 (fun e=>h p (by simp) e.symm)
  simp only [lk,this,Bool.false_eq_true,if_false]
  exact Zml fun q hq=>h q (by simp [hq])
theorem Zbad {k:ByteArray} {p:KV} {B:List KV} (h:sLt k p.1=true) (hB:∀ q ∈ B,sLt p.1 q.1=true):∀ A:List KV,lk k (A ++ p :: B)=lk k A
 | []=>by
  have h1:sEq k p.1=false:=Zeq.2 (Zms h)
  simp only [List.nil_append,lk,h1,Bool.false_eq_true,if_false]
  exact Zml fun q hq e=>by
   have:=Zgg h (hB q hq)
   rw [e,Zho] at this;cases this
 | q :: A=>by
  simp only [List.cons_append,lk]
  split
  ·rfl
  ·exact Zbad h hB A
theorem Zyw {k:ByteArray} {B:List KV}:∀ A:List KV,(∀ q ∈ A,sLt q.1 k=true) → lk k (A ++ B)=lk k B
 | [],_=>rfl
 | q :: A,h=>by
  have hq:=h q (by simp)
  have h2:sEq k q.1=false:=Zeq.2 (fun e=>Zms hq e.symm)
  simp only [List.cons_append,lk,h2,Bool.false_eq_true,if_false]
  exact Zyw A fun q hq=>h q (by simp [hq])
theorem Zu3 (k:ByteArray):∀ l:List KV,rk k l ≤ l.length
 | []=>by simp [rk]
 | p :: l=>by
  have:=Zu3 k l
  simp only [rk]
  split <;> simp <;> omega
def Cl (x:Zb):Prop:=x.List.length ≤ 1000
theorem Zta {x:Zb} (h:Cl x):Ze4 x=some x:=by
 unfold Ze4 Zbz
 unfold Cl at h
 rw [if_pos (by omega)]
 rfl
abbrev zrec:Zb:={ Kind:=0,Num:=0,Low:=0,High:=0,Real:=0,Cap:=0,Text:=ByteArray.empty,List:=[] }
def getR:Option Zb → Zb × Bool
 | some r=>(r,true)
 | none=>(zrec,false)
def getE (x:Zb):Option Zb → (Zb × Bool) ⊕ Zb
 | some r=>.inl (r,true)
 | none=>.inr x
theorem Zwl (k:ByteArray) (x:Zb):∀ (n:Nat) (t:shelf_nodeT),t.hh < n → Srt (toL t) → (∀ q ∈ toL t,Cl q.2) → Zel k n x t=some (getE x (lk k (toL t)))
 | 0,t,h,_,_=>by omega
 | n + 1,.nil,_,_,_=>rfl
 | n + 1,.node nk nx l r s,hh,hs,hc=>by
  simp only [toL] at hs hc
  obtain ⟨s1,s2,sA,sB⟩:=Zx7 hs
  simp only [shelf_nodeT.hh] at hh
  simp only [Zel,shelf_nodeT.isNil,shelf_nodeT.un,Bool.not_false,if_true,Option.bind_some,Zi2,toL]
  by_cases h1:sLt k nk=true
  ·rw [if_pos h1,Zwl k x n l (by omega) s1 (fun q hq=>hc q (by simp [hq])),Zbad (by exact h1) (fun q hq=>sB q hq)]
  ·rw [if_neg h1]
   by_cases h2:k=nk
   ·subst h2
    have he:(!(sLt k k || sEq k k))=false:=by simp [Zdp]
    rw [he]
    simp only [Bool.false_eq_true,if_false]
    rw [Zta (hc (k,nx) (by simp)),Zyw _ (fun q hq=>sA q hq)]
    simp [lk,Zdp,getE]
   ·have h3:sLt nk k=true:=Zm6 (by simpa using h1) h2
    have he:(!(sLt k nk || sEq k nk))=true:=by simp [Zeq.2 h2];simpa using h1
    rw [he]
    simp only [if_true]
    rw [Zwl k x n r (by omega) s2 (fun q hq=>hc q (by simp [hq])),Zyw _ (fun q hq=>Zgg (sA q hq) h3)]
    simp [lk,Zeq.2 h2]
theorem Zbcr {s:Zk} {k:ByteArray} (hs:Srt (toL s.top)) (hc:∀ q ∈ toL s.top,Cl q.2):Zem s k=some (getR (lk k (toL s.top))):=by
 unfold Zem
 rw [Zwl k _ _ _ (Nat.lt_succ_self _) hs hc]
 cases lk k (toL s.top) <;> rfl
def atE (x:Zb):Option KV → (ByteArray × Zb × Bool) ⊕ Zb
 | some p=>.inl (p.1,p.2,true)
 | none=>.inr x
theorem Z5o {α:Type} {A B:List α} {i:Int} (h:i < A.length):idx (A ++ B) i=idx A i:=by
 unfold idx
 split
 ·rw [List.getElem?_append_left (by omega)]
 ·rfl
theorem Z29 {α:Type} {A B:List α} {p:α}:idx (A ++ p :: B) (A.length:Int)=some p:=by
 rw [idxn];simp
theorem Z5k {α:Type} {A B:List α} {p:α} {i:Int} (h:(A.length:Int) < i):idx (A ++ p :: B) i=idx B (i - (A.length + 1)):=by
 unfold idx
 rw [if_pos (by omega),if_pos (by omega),List.getElem?_append_right (by omega)]
 rw [show i.toNat - A.length=(i - (A.length + 1)).toNat + 1 by omega,List.getElem?_cons_succ]
theorem Zyq (x:Zb):∀ (n:Nat) (t:shelf_nodeT) (i:Int),t.hh < n → Szd t → (toL t).length + 2 < 1099511627776 → -1099511627776 < i → i < 1099511627776 → (∀ q ∈ toL t,Cl q.2) → Zd9 n i x t=some (atE x (idx (toL t) i))
 | 0,t,i,h,_,_,_,_,_=>by omega
 | n + 1,.nil,i,_,_,_,_,_,_=>by
  simp only [Zd9,shelf_nodeT.isNil,toL]
  have hn:idx ([]:List KV) i=none:=by
   unfold idx
   split <;> simp
  rw [hn]
  rfl
 | n + 1,.node nk nx l r s,i,hh,hz,hb,i1,i2,hc=>by
  obtain ⟨z1,z2,z3⟩:=hz
  simp only [toL] at hb hc
  have hlen:(toL l ++ (nk,nx) :: toL r).length=(toL l).length + (toL r).length + 1:=by simp;omega
  rw [hlen] at hb
  simp only [shelf_nodeT.hh] at hh
  simp only [Zd9,shelf_nodeT.isNil,shelf_nodeT.un,Bool.not_false,if_true,Option.bind_some,Zjn,toL]
  rw [Zk2 z1]
  simp only [Option.bind_some]
  by_cases h1:i < (toL l).length
  ·rw [if_pos (by simpa using h1),Zyq x n l i (by omega) z1 (by omega) i1 i2 (fun q hq=>hc q (by simp [hq])),Z5o h1]
  ·rw [if_neg (by simpa using h1)]
   by_cases h2:((toL l).length:Int) < i
   ·rw [if_pos (by simpa using h2),wr (x:=((toL l).length:Int) + 1) (by omega) (by omega),wr (by omega) (by omega),Zyq x n r _ (by omega) z2 (by omega) (by omega) (by omega) (fun q hq=>hc q (by simp [hq])),Z5k h2]
   ·rw [if_neg (by simpa using h2),Zta (hc (nk,nx) (by simp))]
    have:i=(toL l).length:=by omega
    subst this
    rw [Z29];rfl
def atR:Option KV → ByteArray × Zb × Bool
 | some p=>(p.1,p.2,true)
 | none=>(⟨#[]⟩,zrec,false)
theorem Zbe2 {s:Zk} {i:Int} (hz:Szd s.top) (hb:(toL s.top).length + 2 < 1099511627776) (i1:-1099511627776 < i) (i2:i < 1099511627776) (hc:∀ q ∈ toL s.top,Cl q.2):Zio s i=some (atR (idx (toL s.top) i)):=by
 unfold Zio
 rw [Zyq _ _ _ _ (Nat.lt_succ_self _) hz hb i1 i2 hc]
 cases idx (toL s.top) i <;> rfl
theorem Zlu {k:ByteArray} (x:Zb):∀ {l:List KV},Srt l →
  (∃ p,l[rk k l]?=some p ∧ p.1=k ∧ lk k l=some p.2 ∧ insL k x l=l.take (rk k l) ++ (k,x) :: l.drop (rk k l + 1) ∧ delL k l=l.take (rk k l) ++ l.drop (rk k l + 1)) ∨
  ((∀ p,l[rk k l]?=some p → p.1 ≠ k) ∧ lk k l=none ∧ insL k x l=l.take (rk k l) ++ (k,x) :: l.drop (rk k l) ∧ delL k l=l)
 | [],_=>.inr ⟨fun p h=>by simp at h,rfl,rfl,rfl⟩
 | p :: l,hs=>by
  obtain ⟨h1,h2⟩:=List.pairwise_cons.1 hs
  by_cases h:sLt p.1 k=true
  ·have e1:sLt k p.1=false:=Zsj h
   have e2:sEq k p.1=false:=Zeq.2 (fun e=>Zms h e.symm)
   simp only [rk,h,if_true,lk,insL,delL,e1,e2,Bool.false_eq_true,if_false,List.getElem?_cons_succ,List.take_succ_cons,List.drop_succ_cons]
   rcases Zlu x h2 with ⟨q,a1,a2,a3,a4,a5⟩ | ⟨a1,a2,a3,a4⟩
   ·exact .inl ⟨q,a1,a2,a3,by rw [a4];rfl,by rw [a5];rfl⟩
   ·exact .inr ⟨a1,a2,by rw [a3];rfl,by rw [a4]⟩
  ·have h':sLt p.1 k=false:=by simpa using h
   simp only [rk,h',Bool.false_eq_true,if_false]
   by_cases he:k=p.1
   ·left
    exact ⟨p,rfl,he.symm,by simp [lk,he,Zdp],by simp [insL,he,Zho,Zdp],by simp [delL,he,Zdp]⟩
   ·right
    have hlt:sLt k p.1=true:=Zm6 h' (fun e=>he e.symm)
    have hne:∀ q ∈ l,q.1 ≠ k:=fun q hq e=>by
     have:=Zgg hlt (h1 q hq)
     rw [e,Zho] at this;cases this
    refine ⟨fun q hq e=>?_,?_,by simp [insL,hlt],?_⟩
    ·simp at hq;subst hq;exact he e.symm
    ·simp only [lk,Zeq.2 he,Bool.false_eq_true,if_false];exact Zml hne
    ·simp only [delL,Zeq.2 he,Bool.false_eq_true,if_false];rw [Zsp l hne]
def kv (p:Zbg):KV:=(p.Key,p.Rec)
def pl (t:Zf):List KV:=t.L.map kv
theorem Zqt (t:Zf) (i:Nat):(pl t)[i]?=(t.L[i]?).map kv:=by simp [pl]
theorem Zeo (t:Zf):(pl t).length=t.L.length:=by simp [pl]
theorem Zzb {t:Zf} {k:ByteArray} (hb:t.L.length < 1099511627776):∀ (n i:Nat),i + n=t.L.length →
  Zdo t k (n + 1) (i:Int)=some ((i + rk k ((pl t).drop i):Nat):Int)
 | 0,i,h=>by
  have hd:decide ((i:Int) < (t.L.length:Int))=false:=by simp;omega
  rw [Zdo,hd,List.drop_of_length_le (by rw [Zeo];omega)]
  simp [gd,rk]
 | n + 1,i,h=>by
  have hd:decide ((i:Int) < (t.L.length:Int))=true:=by simp;omega
  have hi:i < t.L.length:=by omega
  have hi':i < (pl t).length:=by rw [Zeo];exact hi
  rw [Zdo,hd,Zc1 hi,List.drop_eq_getElem_cons hi',wr1 (by omega)]
  have hg:(pl t)[i]=kv t.L[i]:=by simp [pl]
  rw [hg]
  simp only [gd_t,Option.bind_some,Bool.true_and,rk]
  by_cases hk:sLt t.L[i].Key k=true
  ·have hk':sLt (kv t.L[i]).1 k=true:=hk
   rw [if_pos hk,if_pos hk',Zzb hb n (i + 1) (by omega)]
   congr 2;omega
  ·have hk':¬ sLt (kv t.L[i]).1 k=true:=hk
   rw [if_neg hk,if_neg hk'];rfl
theorem Zwo {t:Zf} {k:ByteArray} (hb:t.L.length < 1099511627776):Zez t k=some (rk k (pl t):Int):=by
 unfold Zez
 have:=Zzb (k:=k) hb t.L.length 0 (by omega)
 rw [show ((0:Nat):Int)=0 from rfl] at this
 rw [show (Int.toNat ((t.L.length:Int) - (0:Int)) + 1)=t.L.length + 1 by omega,this]
 simp
structure Rel (s:Zk) (t:Zf) (n:Nat):Prop where
 top:toL s.top=pl t
 sz:Szd s.top
 srt:Srt (pl t)
 len:t.L.length ≤ n
 room:s.room=t.Room
 ok:∀ q ∈ pl t,Zi4 q.2 ∧ q.2.List.length ≤ 100
theorem Rel.cl {s:Zk} {t:Zf} {n:Nat} (h:Rel s t n):∀ q ∈ toL s.top,Cl q.2:=fun q hq=>by
 rw [h.top] at hq
 have:=(h.ok q hq).2
 unfold Cl;omega
theorem Rel.mono {s:Zk} {t:Zf} {n m:Nat} (h:Rel s t n) (hm:n ≤ m):Rel s t m:=⟨h.top,h.sz,h.srt,Nat.le_trans h.len hm,h.room,h.ok⟩
theorem Rel.tl {s:Zk} {t:Zf} {n:Nat} (h:Rel s t n):(toL s.top).length=t.L.length:=by rw [h.top,Zeo]
theorem Zbap (r:Int):Rel { top:=.nil,room:=r } { L:=[],Room:=r } 0:=⟨rfl,trivial,List.Pairwise.nil,Nat.le_refl _,rfl,fun q h=>by simp [pl] at h⟩
theorem Zbaw {s:Zk} {t:Zf} {n:Nat} (h:Rel s t n) (hn:n < 1000000) (k:ByteArray):Zhi t k=some (getR (lk k (pl t))):=by
 have hb:=h.len
 unfold Zhi
 rw [Zwo (by omega)]
 simp only [Option.bind_some]
 have hle:=Zu3 k (pl t)
 rw [Zeo] at hle
 by_cases hi:rk k (pl t) < t.L.length
 ·have hd:decide (((rk k (pl t):Nat):Int) < (t.L.length:Int))=true:=by simp;omega
  rw [hd,Zc1 hi]
  simp only [gd_t,Option.bind_some,Bool.true_and]
  have hg:(pl t)[rk k (pl t)]?=some (kv t.L[rk k (pl t)]):=by rw [Zqt,List.getElem?_eq_getElem hi];rfl
  rcases Zlu default h.srt with ⟨p,a1,a2,a3,_,_⟩ | ⟨a1,a2,_,_⟩
  ·rw [hg] at a1
   obtain rfl:=Option.some.inj a1
   have:sEq (t.L[rk k (pl t)]).Key k=true:=Zcx.2 a2
   rw [if_pos this,a3];rfl
  ·have:sEq (t.L[rk k (pl t)]).Key k=false:=Zeq.2 (a1 _ hg)
   rw [if_neg (by simp [this]),a2];rfl
 ·have hd:decide (((rk k (pl t):Nat):Int) < (t.L.length:Int))=false:=by simp;omega
  rw [hd]
  simp only [gd_f,Option.bind_some,Bool.false_and,Bool.false_eq_true,if_false]
  rcases Zlu (k:=k) default h.srt with ⟨p,a1,_⟩ | ⟨_,a2,_,_⟩
  ·have:=(List.getElem?_eq_some_iff.1 a1).1
   rw [Zeo] at this;omega
  ·rw [a2];rfl
theorem Zno {s:Zk} {t:Zf} {n:Nat} (h:Rel s t n) (k:ByteArray):Zem s k=some (getR (lk k (pl t))):=by
 rw [Zbcr (by rw [h.top];exact h.srt) h.cl,h.top]
theorem Zyu {s:Zk} {t:Zf} {n:Nat} (h:Rel s t n):Zf8 s=some (t.L.length:Int):=by
 unfold Zf8
 rw [Zk2 h.sz,h.tl];rfl
theorem Zwe (t:Zf) (i:Nat):(t.L.take i).map kv=(pl t).take i:=by simp [pl]
theorem Zwc (t:Zf) (i:Nat):(t.L.drop i).map kv=(pl t).drop i:=by simp [pl]
theorem Zsx {s:Zk} {t:Zf} {n:Nat} (h:Rel s t n) (hn:n < 1000000) (k:ByteArray):∃ s' t' b,Zen s k=some (s',b) ∧ Zhp t k=some (t',b) ∧ Rel s' t' n ∧ (pl t'=pl t ∨ pl t'=delL k (pl t)):=by
 have hb:=h.len
 have hle:=Zu3 k (pl t)
 rw [Zeo] at hle
 unfold Zen Zhp
 rw [Zno h,Zwo (by omega)]
 simp only [Option.bind_some]
 rcases Zlu default h.srt with ⟨p,a1,a2,a3,_,a5⟩ | ⟨a1,a2,_,a4⟩
 ·have hi:rk k (pl t) < t.L.length:=by
   have:=(List.getElem?_eq_some_iff.1 a1).1
   rwa [Zeo] at this
  rw [a3]
  have hd:decide ((t.L.length:Int) ≤ ((rk k (pl t):Nat):Int))=false:=by simp;omega
  have hg:(pl t)[rk k (pl t)]?=some (kv t.L[rk k (pl t)]):=by rw [Zqt,List.getElem?_eq_getElem hi];rfl
  rw [hg] at a1
  obtain rfl:=Option.some.inj a1
  have he:sEq (t.L[rk k (pl t)]).Key k=true:=Zcx.2 a2
  rw [hd,Zc1 hi]
  obtain ⟨t1,c1,z1,l1⟩:=Z4l (k:=k) h.sz (by rw [h.top];exact h.srt) (by rw [h.tl];omega)
  rw [c1]
  simp only [getR,Bool.not_true,Bool.false_eq_true,if_false,Option.bind_some,Bool.not_false,gd_t,he,Bool.or_false,Bool.or_self]
  rw [show (0:Int)=((0:Nat):Int) from rfl,Zoo (by omega) (by omega),wr1 (by omega),Zoo (by omega) (by omega)]
  simp only [Option.bind_some,List.nil_append,List.drop_zero,Nat.sub_zero,List.length_nil,Nat.zero_add]
  have ht:(List.take (t.L.length - (rk k (pl t) + 1)) (List.drop (rk k (pl t) + 1) t.L))=List.drop (rk k (pl t) + 1) t.L:=List.take_of_length_le (by simp)
  rw [ht,if_pos (by simp;omega),if_pos (by simp;omega)]
  have hpl:pl { L:=List.take (rk k (pl t)) t.L ++ List.drop (rk k (pl t) + 1) t.L,Room:=t.Room }=delL k (pl t):=by
   rw [a5,← Zwe,← Zwc,← List.map_append];rfl
  refine ⟨_,_,true,rfl,rfl,⟨?_,z1,?_,?_,h.room,?_⟩,.inr hpl⟩
  ·rw [hpl,l1,h.top]
  ·rw [hpl];exact Zvf h.srt
  ·simp;omega
  ·intro q hq
   rw [hpl] at hq
   exact h.ok q (Zoy hq)
 ·rw [a2]
  simp only [getR,Bool.not_false,if_true]
  by_cases hi:rk k (pl t) < t.L.length
  ·have hd:decide ((t.L.length:Int) ≤ ((rk k (pl t):Nat):Int))=false:=by simp;omega
   have hg:(pl t)[rk k (pl t)]?=some (kv t.L[rk k (pl t)]):=by rw [Zqt,List.getElem?_eq_getElem hi];rfl
   have he:sEq (t.L[rk k (pl t)]).Key k=false:=Zeq.2 (a1 _ hg)
   rw [hd,Zc1 hi]
   simp only [Bool.not_false,gd_t,Option.bind_some,he,Bool.false_or,if_true]
   exact ⟨s,t,false,rfl,rfl,h,.inl rfl⟩
  ·have hd:decide ((t.L.length:Int) ≤ ((rk k (pl t):Nat):Int))=true:=by simp;omega
   rw [hd]
   simp only [Bool.not_true,gd_f,Option.bind_some,Bool.true_or,if_true]
   exact ⟨s,t,false,rfl,rfl,h,.inl rfl⟩
theorem Zzx (k:ByteArray):sEq k (⟨#[]⟩:ByteArray)=decide ((k.size:Int) < 1):=by
 by_cases h:k=⟨#[]⟩
 ·subst h;rw [Zdp];decide
 ·rw [Zeq.2 h]
  have:k.size ≠ 0:=fun e=>h (by
   apply ByteArray.ext
   exact Array.size_eq_zero_iff.1 e)
  simp;omega
theorem Zox {s:Zk} {t:Zf} {n:Nat} (h:Rel s t n) (hn:n < 1000000) (k:ByteArray) {x:Zb} (hx:Zi4 x) (hx2:x.List.length ≤ 100) :
  ∃ s' t' c,Zdc s k x=some (s',c) ∧ Zff t k x=some (t',c) ∧ Rel s' t' (n + 1) ∧ (pl t'=pl t ∨ (pl t'=insL k x (pl t) ∧ Ze6 x=some 0 ∧ ¬ (k.size:Int) < 1 ∧ ¬ (24:Int) < (k.size:Int))):=by
 have hb:=h.len
 have hle:=Zu3 k (pl t)
 rw [Zeo] at hle
 obtain ⟨c,hc1,hc2⟩:=Zn9 hx
 unfold Zdc Zff
 rw [hc1,hc2,Zno h,Zwo (by omega),Zyu h,Zta (by unfold Cl;omega),Zzx,h.room]
 by_cases h1:(decide ((k.size:Int) < 1) || decide ((24:Int) < (k.size:Int)))=true
 ·rw [if_pos h1,if_pos h1]
  exact ⟨s,t,1,rfl,rfl,h.mono (by omega),.inl rfl⟩
 ·rw [if_neg h1,if_neg h1]
  simp only [Option.bind_some]
  by_cases h2:(c != 0)=true
  ·rw [if_pos h2,if_pos h2]
   exact ⟨s,t,c,rfl,rfl,h.mono (by omega),.inl rfl⟩
  ·rw [if_neg h2,if_neg h2]
   obtain ⟨t1,e1,z1,l1⟩:=Z4w (k:=k) (x:=x) h.sz (by rw [h.top];exact h.srt) (by rw [h.tl];omega)
   rw [e1]
   have h20:c=0:=by simpa using h2
   have h11:¬ (k.size:Int) < 1:=fun h'=>h1 (by simp [h'])
   have h12:¬ (24:Int) < (k.size:Int):=fun h'=>h1 (by simp [h'])
   have hmk:∀ L':List Zbg,L'.map kv=insL k x (pl t) → Rel { top:=t1,room:=t.Room } { L:=L',Room:=t.Room } (n + 1) ∧ (pl { L:=L',Room:=t.Room }=pl t ∨ (pl { L:=L',Room:=t.Room }=insL k x (pl t) ∧ some c=some (0:Int) ∧ ¬ (k.size:Int) < 1 ∧ ¬ (24:Int) < (k.size:Int))):=fun L' hL=>by
    have hpl:pl { L:=L',Room:=t.Room }=insL k x (pl t):=hL
    refine ⟨⟨by rw [hpl,l1,h.top],z1,by rw [hpl];exact Zuz h.srt,?_,rfl,?_⟩,.inr ⟨hpl,by rw [h20],h11,h12⟩⟩
    ·have:=Zq2 k x (pl t)
     rw [← hL,Zeo] at this
     simp at this
     show L'.length ≤ n + 1
     omega
    ·intro q hq
     rw [hpl] at hq
     rcases Zrr hq with rfl | hq
     ·exact ⟨hx,hx2⟩
     ·exact h.ok q hq
   rcases Zlu x h.srt with ⟨p,a1,a2,a3,a4,_⟩ | ⟨a1,a2,a3,_⟩
   ·have hi:rk k (pl t) < t.L.length:=by
     have:=(List.getElem?_eq_some_iff.1 a1).1
     rwa [Zeo] at this
    have hd:decide (((rk k (pl t):Nat):Int) < (t.L.length:Int))=true:=by simp;omega
    have hg:(pl t)[rk k (pl t)]?=some (kv t.L[rk k (pl t)]):=by rw [Zqt,List.getElem?_eq_getElem hi];rfl
    rw [hg] at a1
    obtain rfl:=Option.some.inj a1
    have he:sEq (t.L[rk k (pl t)]).Key k=true:=Zcx.2 a2
    rw [a3,hd,Zc1 hi]
    simp only [getR,Bool.not_true,Bool.false_and,Bool.false_eq_true,if_false,gd_f,gd_t,Option.bind_some,he,Bool.and_self,Bool.true_and,if_true]
    rw [show (0:Int)=((0:Nat):Int) from rfl,Zoo (by omega) (by omega),wr1 (by omega)]
    simp only [Option.bind_some,List.nil_append,List.drop_zero,Nat.sub_zero,List.length_nil,Nat.zero_add,Zfj]
    rw [if_pos (by simp;omega),if_pos (by simp;omega),Zoo (by omega) (by omega)]
    have ht:(List.take (t.L.length - (rk k (pl t) + 1)) (List.drop (rk k (pl t) + 1) t.L))=List.drop (rk k (pl t) + 1) t.L:=List.take_of_length_le (by simp)
    simp only [Option.bind_some,ht,List.nil_append]
    rw [if_pos (by simp;omega)]
    refine ⟨_,_,0,rfl,rfl,hmk _ ?_⟩
    rw [a4];simp [Zwe,Zwc,kv,pl]
   ·rw [a2]
    simp only [getR,Bool.not_false,gd_t,Option.bind_some,Bool.true_and]
    have hne:(decide (((rk k (pl t):Nat):Int) < (t.L.length:Int)) && sEq (((gd (decide (((rk k (pl t):Nat):Int) < (t.L.length:Int))) (idx t.L ((rk k (pl t):Nat):Int))).getD default).Key) k)=false:=by
     by_cases hi:rk k (pl t) < t.L.length
     ·have hg:(pl t)[rk k (pl t)]?=some (kv t.L[rk k (pl t)]):=by rw [Zqt,List.getElem?_eq_getElem hi];rfl
      have he:sEq (t.L[rk k (pl t)]).Key k=false:=Zeq.2 (a1 _ hg)
      have hd:decide (((rk k (pl t):Nat):Int) < (t.L.length:Int))=true:=by simp;omega
      rw [hd,Zc1 hi]
      simp [gd,he]
     ·have hd:decide (((rk k (pl t):Nat):Int) < (t.L.length:Int))=false:=by simp;omega
      rw [hd];rfl
    have hex:∃ e,gd (decide (((rk k (pl t):Nat):Int) < (t.L.length:Int))) (idx t.L ((rk k (pl t):Nat):Int))=some e:=by
     by_cases hi:rk k (pl t) < t.L.length
     ·rw [Zc1 hi]
      cases decide (((rk k (pl t):Nat):Int) < (t.L.length:Int)) <;> exact ⟨_,rfl⟩
     ·have hd:decide (((rk k (pl t):Nat):Int) < (t.L.length:Int))=false:=by simp;omega
      rw [hd];exact ⟨_,rfl⟩
    obtain ⟨e,hee⟩:=hex
    rw [hee] at hne ⊢
    simp only [Option.getD_some] at hne
    simp only [Option.bind_some,hne,Bool.not_false,Bool.true_and]
    by_cases h5:decide (t.Room ≤ (t.L.length:Int))=true
    ·rw [if_pos h5,if_pos h5]
     exact ⟨s,t,8,rfl,rfl,h.mono (by omega),.inl rfl⟩
    ·rw [if_neg h5,if_neg h5]
     rw [show (0:Int)=((0:Nat):Int) from rfl,Zoo (by omega) (by omega)]
     simp only [Option.bind_some,List.nil_append,List.drop_zero,Nat.sub_zero,List.length_nil,Nat.zero_add,Zfj,Bool.false_eq_true,if_false]
     rw [if_pos (by simp;omega),if_pos (by simp;omega),Zoo (by omega) (by omega)]
     have ht:(List.take (t.L.length - rk k (pl t)) (List.drop (rk k (pl t)) t.L))=List.drop (rk k (pl t)) t.L:=List.take_of_length_le (by simp)
     simp only [Option.bind_some,ht,List.nil_append]
     rw [if_pos (by simp;omega)]
     refine ⟨_,_,0,rfl,rfl,hmk _ ?_⟩
     rw [a3];simp [Zwe,Zwc,kv,pl]
theorem Z2h:∀ l:List Zh,eqL l l=true
 | []=>rfl
 | x :: l=>by simp [eqL,eqI,Zdp,Z2h l]
theorem Z54 (a:Zb):Zmz a a=true:=by simp [Zmz,Zdp,Z2h]
theorem Z3z {s:Zk} {t:Zf} {m:Nat} (h:Rel s t m) (hm:m < 1000000):∀ (n i:Nat),i + n=t.L.length → Zfz s t (n + 1) (i:Int)=some (.inr ())
 | 0,i,hi=>by
  rw [Zfz,if_neg (by simp;omega)]
 | n + 1,i,hi=>by
  have hb:=h.len
  have h1:i < t.L.length:=by omega
  rw [Zfz,if_pos (by simp;omega),Zc1 h1,Zbe2 h.sz (by rw [h.tl];omega) (by omega) (by omega) h.cl,wr1 (by omega),h.top,idxn,Zqt,List.getElem?_eq_getElem h1]
  have hq:kv t.L[i] ∈ pl t:=by
   have:(pl t)[i]?=some (kv t.L[i]):=by rw [Zqt,List.getElem?_eq_getElem h1];rfl
   exact List.mem_of_getElem? this
  have hr:Zi4 (t.L[i]).Rec:=(h.ok _ hq).1
  simp only [Option.map_some,atR,kv,Option.bind_some,Bool.not_true,Zdp,Bool.or_self,Bool.not_false,gd_t]
  rw [Zt4 hr hr,Z54]
  simp only [Option.bind_some,Bool.not_true,Bool.false_or,Bool.false_eq_true,if_false]
  exact Z3z h hm n (i + 1) (by omega)
theorem Zbeo {s:Zk} {t:Zf} {m:Nat} (h:Rel s t m) (hm:m < 1000000):Zir s t=some 1:=by
 unfold Zir
 rw [Zyu h]
 simp only [Option.bind_some,bne_self_eq_false,Bool.not_false,gd_t,Zlo,h.room,Bool.or_self,Bool.false_eq_true,if_false]
 have:=Z3z h hm t.L.length 0 (by omega)
 rw [show ((0:Nat):Int)=0 from rfl] at this
 rw [show (Int.toNat ((t.L.length:Int) - (0:Int)) + 1)=t.L.length + 1 by omega,this]
 rfl
theorem Zuo {k:ByteArray} {r:Zb} {l:List KV} (hs:Srt l) (h:lk k l=some r):insL k r l=l:=by
 rcases Zlu r hs with ⟨p,a1,a2,a3,a4,_⟩ | ⟨_,a2,_⟩
 ·rw [a4]
  rw [h] at a3
  obtain rfl:=Option.some.inj a3
  have e:(k,p.2)=p:=by rw [← a2]
  rw [e]
  obtain ⟨hlt,hp⟩:=List.getElem?_eq_some_iff.1 a1
  have:=List.take_append_drop (rk k l) l
  rw [List.drop_eq_getElem_cons hlt,hp] at this
  exact this
 ·rw [h] at a2;cases a2
theorem Zto {k:ByteArray} {r:Zb}:∀ {l:List KV},lk k l=some r → (k,r) ∈ l
 | [],h=>by cases h
 | p :: l,h=>by
  simp only [lk] at h
  split at h
  ·rename_i he
   obtain rfl:=Option.some.inj h
   have:=Zcx.1 he
   subst this
   exact List.mem_cons_self ..
  ·exact List.mem_cons_of_mem _ (Zto h)
theorem Zn5 {r:Zb} (h:Zcl r):r.List.length ≤ 32:=by
 by_cases hk:8 ≤ r.Kind
 ·have:=h.2.2.2.2.2.2 hk
  omega
 ·have h1:=h.2.2.1
  have h8:decide (8 ≤ r.Kind)=false:=by simpa using hk
  rw [h8] at h1
  simp only [Zix,Bool.false_or,Bool.and_eq_true,beq_iff_eq] at h1
  have:=h1.2.2
  omega
theorem Zia {s s':Zk} {k:ByteArray} {x:Zb} {c:Int} (h:Zdc s k x=some (s',c)):s'.room=s.room:=by
 unfold Zdc at h
 split at h
 ·cases h;rfl
 ·obtain ⟨_,_,h⟩:=Option.bind_eq_some_iff.1 h
  split at h
  ·cases h;rfl
  ·obtain ⟨_,_,h⟩:=Option.bind_eq_some_iff.1 h
   obtain ⟨_,_,h⟩:=Option.bind_eq_some_iff.1 h
   split at h
   ·cases h;rfl
   ·obtain ⟨_,_,h⟩:=Option.bind_eq_some_iff.1 h
    obtain ⟨_,_,h⟩:=Option.bind_eq_some_iff.1 h
    cases h;rfl
theorem Zph {s s':Zk} {k:ByteArray} {b:Bool} (h:Zen s k=some (s',b)):s'.room=s.room:=by
 unfold Zen at h
 obtain ⟨_,_,h⟩:=Option.bind_eq_some_iff.1 h
 split at h
 ·cases h;rfl
 ·obtain ⟨_,_,h⟩:=Option.bind_eq_some_iff.1 h
  cases h;rfl
theorem Zop {s s':Zk} {t:Zf} {n:Nat} (h:Rel s t n) (hn:n < 1000000) {k:ByteArray} {x:Zb} {c:Int} (e:Zdc s k x=some (s',c)) (hc:Ze6 x=some 0) (hx:x.List.length ≤ 100) (hk:sEq k ⟨#[]⟩=false) (hk2:k.size ≤ 24) :
  (((lk k (pl t)).isSome=true ∨ (t.L.length:Int) < t.Room) → c=0 ∧ toL s'.top=insL k x (pl t)) ∧ ((lk k (pl t)).isNone=true → t.Room ≤ (t.L.length:Int) → c=8 ∧ s'=s):=by
 have hb:=h.len
 obtain ⟨t1,q1,_,q3⟩:=Z4w (k:=k) (x:=x) h.sz (by rw [h.top];exact h.srt) (by rw [h.tl];omega)
 unfold Zdc at e
 rw [hk,hc,Zno h,Zyu h,Zta (by unfold Cl;omega)] at e
 have hd:decide ((24:Int) < (k.size:Int))=false:=by simp;omega
 rw [hd] at e
 simp only [Bool.or_self,Bool.false_eq_true,if_false,Option.bind_some,bne_self_eq_false] at e
 cases hl:lk k (pl t) with
 | none =>
  rw [hl] at e
  simp only [getR,Bool.not_false,gd_t,Option.bind_some,Bool.true_and,h.room] at e
  by_cases hr:t.Room ≤ (t.L.length:Int)
  ·rw [if_pos (by simpa using hr)] at e
   cases e
   refine ⟨fun h=>?_,fun _ _=>⟨rfl,rfl⟩⟩
   rcases h with h | h
   ·cases h
   ·omega
  ·rw [if_neg (by simpa using hr),q1] at e
   cases e
   exact ⟨fun _=>⟨rfl,by rw [← h.top];exact q3⟩,fun _ h=>absurd h hr⟩
 | some r =>
  rw [hl] at e
  simp only [getR,Bool.not_true,gd_f,Option.bind_some,Bool.false_and,Bool.false_eq_true,if_false] at e
  rw [q1] at e
  cases e
  exact ⟨fun _=>⟨rfl,by rw [← h.top];exact q3⟩,fun h=>by cases h⟩
structure FR (s:Zk) (t:Zf) (n:Nat):Prop where
 rel:Rel s t n
 good:∀ q ∈ pl t,RecW q.2 ∧ Zcl q.2
 fit:(t.L.length:Int) ≤ t.Room
theorem Z02 {k:ByteArray} {x r:Zb} {l:List KV} (hs:Srt l) (h:lk k l=some r):(insL k x l).length=l.length:=by
 rcases Zlu x hs with ⟨p,a1,a2,a3,a4,_⟩ | ⟨_,a2,_⟩
 ·rw [a4]
  have:=(List.getElem?_eq_some_iff.1 a1).1
  simp;omega
 ·rw [h] at a2;cases a2
theorem FR.mono {s:Zk} {t:Zf} {n m:Nat} (h:FR s t n) (hm:n ≤ m):FR s t m:=⟨h.rel.mono hm,h.good,h.fit⟩
theorem Z7f {s:Zk} {t t':Zf} {n:Nat} (h:Rel s t n) (hp:pl t'=pl t) (hr:t'.Room=t.Room):Rel s t' n :=
 ⟨h.top.trans hp.symm,h.sz,by rw [hp];exact h.srt,by rw [← Zeo,hp,Zeo];exact h.len,h.room.trans hr.symm,by rw [hp];exact h.ok⟩
theorem Zr4 {s:Zk} {t t':Zf} {n:Nat} (h:FR s t n) (hp:pl t'=pl t) (hr:t'.Room=t.Room):FR s t' n :=
 ⟨Z7f h.rel hp hr,by rw [hp];exact h.good,by rw [hr,← Zeo,hp,Zeo];exact h.fit⟩
theorem Zxi {s s':Zk} {t t':Zf} {n m:Nat} {k:ByteArray} {x:Zb} (h:FR s t n) (hr:Rel s' t' m) (hw:RecW x) (hg:Zcl x) (ho:(lk k (pl t)).isSome=true ∨ (t.L.length:Int) < t.Room) (hp:pl t'=insL k x (pl t)) (hro:t'.Room=t.Room):FR s' t' m:=⟨hr,fun q hq=>by
 rw [hp] at hq
 rcases Zrr hq with rfl | hq
 ·exact ⟨hw,hg⟩
 ·exact h.good q hq,by
 have hf:=h.fit
 rw [hro,← Zeo,hp]
 have hl:=Zq2 k x (pl t)
 rw [Zeo] at hl
 rcases ho with ho | ho
 ·obtain ⟨r,hr⟩:=Option.isSome_iff_exists.1 ho
  rw [Z02 h.rel.srt hr,Zeo];exact hf
 ·omega⟩
theorem Z1u {a:Zn} (ha:ActIn a) (h:Zf1 a=some 0):sEq a.Key ⟨#[]⟩=false ∧ a.Key.size ≤ 24:=by
 obtain ⟨c,h1,_,h3⟩:=Zpu ha.ok
 rw [h] at h1
 obtain rfl:=Option.some.inj h1
 exact ⟨(h3 rfl).2.2.2.2.2.2.2.1,(h3 rfl).2.2.2.2.2.2.2.2⟩
theorem Zxt (k k':ByteArray) (x:Zb):∀ l:List KV,lk k (insL k' x l)=if sEq k k'=true then some x else lk k l
 | []=>rfl
 | p :: l=>by
  simp only [insL]
  by_cases h1:sLt k' p.1=true
  ·rw [if_pos h1];simp only [lk]
  ·rw [if_neg h1]
   by_cases h2:sEq k' p.1=true
   ·rw [if_pos h2]
    have e:=Zcx.1 h2
    simp only [lk,← e]
    by_cases h3:sEq k k'=true
    ·rw [if_pos h3,if_pos h3]
    ·rw [if_neg h3,if_neg h3,if_neg h3]
   ·rw [if_neg h2]
    simp only [lk,Zxt k k' x l]
    by_cases h3:sEq k p.1=true
    ·have h4:¬ sEq k k'=true:=fun h=>h2 (by rw [← Zcx.1 h];exact h3)
     rw [if_pos h3,if_neg h4,if_pos h3]
    ·rw [if_neg h3,if_neg h3]
theorem Ztv (k k':ByteArray):∀ {l:List KV},Srt l → lk k (delL k' l)=if sEq k k'=true then none else lk k l
 | [],_=>by simp [delL,lk]
 | p :: l,hs=>by
  obtain ⟨h1,h2⟩:=List.pairwise_cons.1 hs
  simp only [delL]
  by_cases h:sEq k' p.1=true
  ·rw [if_pos h]
   have e:=Zcx.1 h
   by_cases h3:sEq k k'=true
   ·rw [if_pos h3]
    refine Zml fun q hq e2=>?_
    have:=h1 q hq
    rw [e2,Zcx.1 h3,e,Zho] at this;cases this
   ·rw [if_neg h3]
    simp only [lk,← e]
    rw [if_neg h3]
  ·rw [if_neg h]
   simp only [lk,Ztv k k' h2]
   by_cases h3:sEq k p.1=true
   ·have h4:¬ sEq k k'=true:=fun h5=>h (by rw [← Zcx.1 h5];exact h3)
    rw [if_pos h3,if_neg h4,if_pos h3]
   ·rw [if_neg h3,if_neg h3]
theorem Zr5:∀ {A B:List KV},Srt A → Srt B → (∀ k,lk k A=lk k B) → A=B
 | [],[],_,_,_=>rfl
 | [],q :: B,_,_,h=>by have:=h q.1;simp [lk,Zdp] at this
 | p :: A,[],_,_,h=>by have:=h p.1;simp [lk,Zdp] at this
 | p :: A,q :: B,hA,hB,h=>by
  obtain ⟨a1,a2⟩:=List.pairwise_cons.1 hA
  obtain ⟨b1,b2⟩:=List.pairwise_cons.1 hB
  have far:∀ {k:ByteArray} {z:KV} {Z:List KV},(∀ q ∈ Z,sLt z.1 q.1=true) → sLt k z.1=true → lk k (z :: Z)=none:=fun {k z Z} hz hk=>by
   refine Zml fun q hq e=>?_
   rcases List.mem_cons.1 hq with rfl | hq
   ·rw [e,Zho] at hk;cases hk
   ·have:=Zgg hk (hz q hq)
    rw [e,Zho] at this;cases this
  have hp:=h p.1
  have hq:=h q.1
  have e:p.1=q.1:=Classical.byContradiction fun hn=>by
   cases hlt:sLt p.1 q.1
   ·have:=far a1 (Zm6 hlt hn)
    rw [this] at hq
    simp [lk,Zdp] at hq
   ·have:=far b1 hlt
    rw [this] at hp
    simp [lk,Zdp] at hp
  have e2:p.2=q.2:=by
   simp only [lk,e,Zdp,if_true] at hp
   exact Option.some.inj hp
  have e3:A=B:=Zr5 a2 b2 fun k=>by
   by_cases hk:sEq k p.1=true
   ·have ek:=Zcx.1 hk
    have n1:lk k A=none:=Zml fun z hz e4=>by
     have:=a1 z hz
     rw [e4,ek,Zho] at this;cases this
    have n2:lk k B=none:=Zml fun z hz e4=>by
     have:=b1 z hz
     rw [e4,ek,e,Zho] at this;cases this
    rw [n1,n2]
   ·have:=h k
    simp only [lk] at this
    rw [if_neg hk,if_neg (by rw [← e];exact hk)] at this
    exact this
  obtain ⟨p1,p2⟩:=p
  obtain ⟨q1,q2⟩:=q
  have e:p1=q1:=e
  have e2:p2=q2:=e2
  rw [e,e2,e3]
def upd (k:ByteArray) (o:Option Zb) (l:List KV):List KV:=match o with
 | some x=>insL k x l
 | none=>delL k l
theorem Zkg {k:ByteArray} {o:Option Zb} {l:List KV} (h:Srt l):Srt (upd k o l):=by
 cases o with
 | none=>exact Zvf h
 | some x=>exact Zuz h
theorem Zli {k k':ByteArray} {o:Option Zb} {l:List KV} (h:Srt l):lk k (upd k' o l)=if sEq k k'=true then o else lk k l:=by
 cases o with
 | none=>exact Ztv k k' h
 | some x=>exact Zxt k k' x l
theorem Z2f {k:ByteArray} {l:List KV} (h:Srt l):upd k (lk k l) l=l:=Zr5 (Zkg h) h fun z=>by
 rw [Zli h]
 split
 ·rename_i he;rw [Zcx.1 he]
 ·rfl
theorem Z4f {k:ByteArray} {o o':Option Zb} {l:List KV} (h:Srt l):upd k o (upd k o' l)=upd k o l:=Zr5 (Zkg (Zkg h)) (Zkg h) fun z=>by
 rw [Zli (Zkg h),Zli h,Zli h]
 split <;> rfl
theorem Z8c {k k':ByteArray} {o o':Option Zb} {l:List KV} (h:Srt l) (hn:k ≠ k'):upd k o (upd k' o' l)=upd k' o' (upd k o l):=Zr5 (Zkg (Zkg h)) (Zkg (Zkg h)) fun z=>by
 rw [Zli (Zkg h),Zli h,Zli (Zkg h),Zli h]
 by_cases h1:sEq z k=true
 ·have h2:¬ sEq z k'=true:=fun h2=>hn ((Zcx.1 h1).symm.trans (Zcx.1 h2))
  rw [if_pos h1,if_neg h2,if_pos h1]
 ·rw [if_neg h1,if_neg h1]
theorem Zbb0 {k:ByteArray} {o:Option Zb} {l:List KV} (h:Srt l) (he:o.isSome=(lk k l).isSome):(upd k o l).length=l.length:=by
 cases o with
 | none =>
  have hl:lk k l=none:=by cases hq:lk k l with | none=>rfl | some r=>rw [hq] at he;cases he
  have:=Z2f (k:=k) h
  rw [hl] at this
  rw [this]
 | some x =>
  obtain ⟨r,hr⟩:=Option.isSome_iff_exists.1 he.symm
  exact Z02 h hr
theorem Zbai {k:ByteArray} {o:Option Zb} {l:List KV} {q:KV} (h:q ∈ upd k o l):q ∈ l ∨ ∃ x,o=some x ∧ q=(k,x):=by
 cases o with
 | none=>exact .inl (Zoy h)
 | some x =>
  rcases Zrr h with rfl | h
  ·exact .inr ⟨x,rfl,rfl⟩
  ·exact .inl h
def ap (o:Option Zb) (a:Zn):Option (Option Zb × Zd):=(Zc0 (getR o).1 (getR o).2 a).bind fun z=>some (if z.2.2.Code=0 then (if z.2.1=true then some z.1 else none) else o,z.2.2)
def OkO (o:Option Zb):Prop:=∀ r,o=some r → RecW r ∧ Zcl r
theorem Zpq {ψ:Nat → Nat → Option Nat} {r r':Zb} {a:Zn} {d o:Zd} {c:Int} (h1:Zc9 ψ r a d=some (c,r',o)):r'.Kind=r.Kind:=by
 unfold Zc9 at h1
 obtain ⟨m,_,h1⟩:=Option.bind_eq_some_iff.1 h1
 simp only [Option.some.injEq,Prod.mk.injEq] at h1
 rw [← h1.2.1]
theorem Z3t {r r':Zb} {a:Zn} {o:Zd} {c:Int} (h5:5 ≤ a.Kind) (h21:a.Kind ≤ 21) (h1:Zbb a.Kind r a default=some (c,r',o)):r'.Kind=r.Kind:=by
 have hk':a.Kind=5 ∨ a.Kind=6 ∨ a.Kind=7 ∨ a.Kind=8 ∨ a.Kind=9 ∨ a.Kind=10 ∨ a.Kind=11 ∨ a.Kind=12 ∨ a.Kind=13 ∨ a.Kind=14 ∨ a.Kind=15 ∨ a.Kind=16 ∨ a.Kind=17 ∨ a.Kind=18 ∨ a.Kind=19 ∨ a.Kind=20 ∨ a.Kind=21:=by omega
 have two:∀ {b:Bool} {u v:Int × Zb × Zd},(if b=true then some u else some v)=some (c,r',o) → u.2.1.Kind=r.Kind → v.2.1.Kind=r.Kind → r'.Kind=r.Kind:=fun {b u v} h hu hv=>by
  split at h
  ·obtain rfl:=Option.some.inj h;exact hu
  ·obtain rfl:=Option.some.inj h;exact hv
 rcases hk' with h | h | h | h | h | h | h | h | h | h | h | h | h | h | h | h | h
 ·have e:Zbb a.Kind r a default=Zit r a default:=by rw [h];rfl
  rw [e] at h1
  simp only [Zit,Option.some.injEq,Prod.mk.injEq] at h1
  rw [← h1.2.1]
 ·have e:Zbb a.Kind r a default=Zgs r a default:=by rw [h];rfl
  rw [e] at h1
  unfold Zgs at h1
  obtain ⟨m,_,h1⟩:=Option.bind_eq_some_iff.1 h1
  simp only [Option.some.injEq,Prod.mk.injEq] at h1
  rw [← h1.2.1]
 ·have e:Zbb a.Kind r a default=Zim r a default:=by rw [h];rfl
  rw [e] at h1
  simp only [Zim,Option.some.injEq,Prod.mk.injEq] at h1
  rw [← h1.2.1]
 ·have e:Zbb a.Kind r a default=Zlj r a default:=by rw [h];rfl
  rw [e] at h1
  exact two h1 rfl rfl
 ·have e:Zbb a.Kind r a default=Zd3 r a default:=by rw [h];rfl
  rw [e] at h1
  exact two h1 rfl rfl
 ·have e:Zbb a.Kind r a default=Zhn r a default:=by rw [h];rfl
  rw [e] at h1
  exact two h1 rfl rfl
 ·have e:Zbb a.Kind r a default=Zhh r a default:=by rw [h];rfl
  rw [e] at h1
  exact two h1 rfl rfl
 ·have e:Zbb a.Kind r a default=Zd3 r a default:=by rw [h];rfl
  rw [e] at h1
  exact two h1 rfl rfl
 ·have e:Zbb a.Kind r a default=Zc9 (fun x y=>Zl3 x y) r a default:=by rw [h];rfl
  rw [e] at h1;exact Zpq h1
 ·have e:Zbb a.Kind r a default=Zc9 (fun x y=>Zl2 x y) r a default:=by rw [h];rfl
  rw [e] at h1;exact Zpq h1
 ·have e:Zbb a.Kind r a default=Zc9 (fun x y=>Zje x y) r a default:=by rw [h];rfl
  rw [e] at h1;exact Zpq h1
 ·have e:Zbb a.Kind r a default=Zc9 (fun x y=>Zic x y) r a default:=by rw [h];rfl
  rw [e] at h1;exact Zpq h1
 ·have e:Zbb a.Kind r a default=Zc9 (fun x y=>Zhg x y) r a default:=by rw [h];rfl
  rw [e] at h1;exact Zpq h1
 ·have e:Zbb a.Kind r a default=Zkr r a default:=by rw [h];rfl
  rw [e] at h1
  unfold Zkr at h1
  obtain ⟨r1,_,h1⟩:=Option.bind_eq_some_iff.1 h1
  split at h1
  ·obtain ⟨rfl,rfl,rfl⟩:=by simpa using h1
   rfl
  ·split at h1
   ·obtain ⟨rfl,rfl,rfl⟩:=by simpa using h1
    rfl
   ·obtain ⟨r5,_,h1⟩:=Option.bind_eq_some_iff.1 h1
    obtain ⟨r7,_,h1⟩:=Option.bind_eq_some_iff.1 h1
    simp only [Option.some.injEq,Prod.mk.injEq] at h1
    rw [← h1.2.1]
 ·have e:Zbb a.Kind r a default=Zin r a default:=by rw [h];rfl
  rw [e] at h1
  unfold Zin Zjh at h1
  obtain ⟨r1,_,h1⟩:=Option.bind_eq_some_iff.1 h1
  split at h1
  ·obtain ⟨r5,_,h1⟩:=Option.bind_eq_some_iff.1 h1
   obtain ⟨r7,_,h1⟩:=Option.bind_eq_some_iff.1 h1
   simp only [Option.some.injEq,Prod.mk.injEq] at h1
   rw [← h1.2.1]
  ·obtain ⟨rfl,rfl,rfl⟩:=by simpa using h1
   rfl
 ·have e:Zbb a.Kind r a default=Zfh r a default:=by rw [h];rfl
  rw [e] at h1
  unfold Zfh at h1
  obtain ⟨r1,_,h1⟩:=Option.bind_eq_some_iff.1 h1
  exact two h1 rfl rfl
 ·have e:Zbb a.Kind r a default=Zjt r a default:=by rw [h];rfl
  rw [e] at h1
  unfold Zjt at h1
  obtain ⟨z,_,h1⟩:=Option.bind_eq_some_iff.1 h1
  obtain ⟨e9,_,h1⟩:=Option.bind_eq_some_iff.1 h1
  obtain ⟨r11,_,h1⟩:=Option.bind_eq_some_iff.1 h1
  split at h1
  ·obtain ⟨rfl,rfl,rfl⟩:=by simpa using h1
   rfl
  ·obtain ⟨r14,_,h1⟩:=Option.bind_eq_some_iff.1 h1
   obtain ⟨r16,_,h1⟩:=Option.bind_eq_some_iff.1 h1
   obtain ⟨c18,_,h1⟩:=Option.bind_eq_some_iff.1 h1
   simp only [Option.some.injEq,Prod.mk.injEq] at h1
   rw [← h1.2.1]
theorem Zyh {a:Zn} (ha:ActIn a) (hk:a.Kind ≠ 1):∃ x,ap none a=some (none,x) ∧ RecW x.Rec:=by
 obtain ⟨z,e,hs⟩:=Zk7 (there:=false) Zcm ha
 have e:Zc0 zrec false a=some z:=e
 simp only [ap,getR,e,Option.bind_some]
 rcases hs with ⟨c,hc,rfl⟩ | ⟨h1,h2,h3,⟨k,k2,k3,rfl⟩ | ⟨k,k2,rfl⟩ | ⟨k,rfl⟩ | ⟨k,k2,rfl⟩ | ⟨k,k2,k3,k4,r',o,q1,q2,q3,q4,q5,rfl⟩⟩
 ·exact ⟨ans c,by simp [hc],Zcm⟩
 ·exact absurd k hk
 ·cases k2
 ·exact ⟨_,rfl,Zcm⟩
 ·cases k2
 ·cases k3
theorem Zyb {r:Zb} {a:Zn} (hr:RecW r) (hg:Zcl r) (ha:ActIn a) (h1:a.Kind ≠ 1) (h2:a.Kind ≠ 2):∃ r1 x,Zc0 r true a=some (r1,true,x) ∧ ap (some r) a=some (some r1,x) ∧ RecW r1 ∧ Zcl r1 ∧ r1.Kind=r.Kind ∧ RecW x.Rec:=by
 obtain ⟨z,e,hs⟩:=Zk7 (there:=true) hr ha
 rw [if_pos rfl] at hs
 have e':Zc0 (getR (some r)).1 (getR (some r)).2 a=some z:=e
 unfold ap
 rw [e',e]
 rcases hs with ⟨c,hc,rfl⟩ | ⟨h1',h2',h3,⟨k,k2,k3,rfl⟩ | ⟨k,k2,rfl⟩ | ⟨k,rfl⟩ | ⟨k,k2,rfl⟩ | ⟨k,k2,k3,k4,r',o,q1,q2,q3,q4,q5,rfl⟩⟩
 ·exact ⟨r,ans c,rfl,by simp [hc],hr,hg,rfl,Zcm⟩
 ·exact absurd k h1
 ·exact absurd k h2
 ·exact ⟨r,_,rfl,rfl,hr,hg,rfl,Zcm⟩
 ·exact ⟨r,_,rfl,rfl,hr,hg,rfl,hr⟩
 ·exact ⟨r',o,rfl,by simp [q2],q4,Zqm k k2 k4 hr hg h2' q1,Z3t k k2 q1,q5⟩
theorem Zw9 {r r1:Zb} {a:Zn} {x:Zd} (hr:RecW r) (hg:Zcl r) (ha:ActIn a) (h1:a.Kind ≠ 1) (h2:a.Kind ≠ 2) (h:Zc0 r true a=some (r1,true,x)):ap (some r) a=some (some r1,x):=by
 obtain ⟨r2,y,e1,e2,_⟩:=Zyb hr hg ha h1 h2
 rw [h] at e1
 simp only [Option.some.injEq,Prod.mk.injEq,true_and] at e1
 obtain ⟨rfl,rfl⟩:=e1
 exact e2
theorem Zwk {r:Zb} {a:Zn} (hr:RecW r) (hg:Zcl r) (ha:ActIn a) (h1:a.Kind ≠ 1) (h2:a.Kind ≠ 2) :
  (∃ x,∀ r',RecW r' → Zcl r' → r'.Kind=r.Kind → Zc0 r' true a=some (r',true,x)) ∨ (Ze2 a.Kind=true ∧ a.Kind ≠ 3 ∧ (a.Kind ≠ 4 → Zik a.Kind=some r.Kind) ∧ ∃ x,Zc0 r true a=some (r,true,x)) ∨
   (Ze2 a.Kind=false ∧ Zf1 a=some 0 ∧ ActW a ∧ Zik a.Kind=some r.Kind ∧ 5 ≤ a.Kind ∧ a.Kind ≤ 21):=by
 obtain ⟨c,hc,hc1,hc2⟩:=Zqr hr hg ha
 by_cases c0:c=0
 ·subst c0
  obtain ⟨l1,l2,hw,on,o1,_,_,k3,k4,k5,k6⟩:=hc2 rfl
  by_cases h3:a.Kind=3
  ·left
   refine ⟨{ ans 0 with Num:=r.Kind },fun r' hr' hg' hk=>?_⟩
   obtain ⟨c,hc',_,hc2'⟩:=Zqr hr' hg' ha
   rw [hc] at hc'
   obtain rfl:=Option.some.inj hc'
   obtain ⟨_,_,_,_,_,_,_,k3',_⟩:=hc2' rfl
   rw [k3' h3,hk]
  ·by_cases h4:a.Kind=4
   ·right;left
    exact ⟨by rw [h4];rfl,h3,fun h=>absurd h4 h,_,k4 h4⟩
   ·have h5:5 ≤ a.Kind:=by
     clear k3 k4 k5 k6 hc1 hc2
     omega
    by_cases hon:on=r.Kind
    ·right
     by_cases hrd:Ze2 a.Kind=true
     ·left
      refine ⟨hrd,h3,fun _=>by rw [o1,hon],?_⟩
      obtain ⟨c,r',o,e1,_,_,_,e2⟩:=k6 h5 hon
      by_cases hz:c=0
      ·subst hz
       have:r'=r:=Zp2 (by unfold Ze2 at hrd;simp only [Bool.or_eq_true,beq_iff_eq] at hrd;omega) hr hg (by rw [o1,hon]) e1
       subst this
       exact ⟨o,e2⟩
      ·rw [if_neg hz] at e2
       exact ⟨_,e2⟩
     ·right
      exact ⟨by simpa using hrd,hc,hw,by rw [o1,hon],h5,l2⟩
    ·left
     refine ⟨ans 5,fun r' hr' hg' hk=>?_⟩
     obtain ⟨c,hc',_,hc2'⟩:=Zqr hr' hg' ha
     rw [hc] at hc'
     obtain rfl:=Option.some.inj hc'
     obtain ⟨_,_,_,on',o1',_,_,_,_,k5',_⟩:=hc2' rfl
     rw [o1] at o1'
     obtain rfl:=Option.some.inj o1'
     exact k5' h5 (by rw [hk];exact hon)
 ·left
  refine ⟨ans c,fun r' hr' hg' hk=>?_⟩
  obtain ⟨c',hc',hc1',_⟩:=Zqr hr' hg' ha
  rw [hc] at hc'
  obtain rfl:=Option.some.inj hc'
  exact hc1' c0
def KC (k l:Int):Prop:=3 ≤ k ∧ k ≤ 21 ∧ 3 ≤ l ∧ l ≤ 21 ∧ ((Ze2 k=true ∧ Ze2 l=true) ∨ k=3 ∨ l=3 ∨ (k ≠ 4 ∧ l ≠ 4 ∧ (Zik k ≠ Zik l ∨ (k=l ∧ (k=7 ∨ k=13 ∨ k=14 ∨ k=19 ∨ k=21)))))
theorem Zbay {o o1 o2:Option Zb} {a b:Zn} {xa xb:Zd} (ho:OkO o) (ha:ActIn a) (hb:ActIn b) (hk:KC a.Kind b.Kind) (e1:ap o a=some (o1,xa)) (e2:ap o b=some (o2,xb)):∃ o3,ap o1 b=some (o3,xb) ∧ ap o2 a=some (o3,xa):=by
 obtain ⟨l1,l2,l3,l4,hk⟩:=hk
 cases o with
 | none =>
  obtain ⟨x,f1,_⟩:=Zyh ha (by omega)
  obtain ⟨y,f2,_⟩:=Zyh hb (by omega)
  rw [f1] at e1
  rw [f2] at e2
  simp only [Option.some.injEq,Prod.mk.injEq] at e1 e2
  obtain ⟨rfl,rfl⟩:=e1
  obtain ⟨rfl,rfl⟩:=e2
  exact ⟨none,f2,f1⟩
 | some r =>
  obtain ⟨hr,hg⟩:=ho r rfl
  obtain ⟨r1,x,p1,p2,p3,p4,p5,_⟩:=Zyb hr hg ha (by omega) (by omega)
  obtain ⟨r2,y,q1,q2,q3,q4,q5,_⟩:=Zyb hr hg hb (by omega) (by omega)
  rw [p2] at e1
  rw [q2] at e2
  simp only [Option.some.injEq,Prod.mk.injEq] at e1 e2
  obtain ⟨rfl,rfl⟩:=e1
  obtain ⟨rfl,rfl⟩:=e2
  have quiet:∀ {a:Zn} {x x':Zd} {r1:Zb},Zc0 r true a=some (r1,true,x) → Zc0 r true a=some (r,true,x') → r1=r ∧ x=x':=fun h h'=>by
   rw [h] at h'
   simpa using h'
  rcases Zwk hr hg ha (by omega) (by omega) with ⟨x',hs⟩ | ⟨a1,a2,a3,x',a4⟩ | ⟨a1,a2,a3,a4,a5,a6⟩
  ·obtain ⟨rfl,rfl⟩:=quiet p1 (hs r hr hg rfl)
   exact ⟨some r2,q2,Zw9 q3 q4 ha (by omega) (by omega) (hs r2 q3 q4 q5)⟩
  ·rcases Zwk hr hg hb (by omega) (by omega) with ⟨y',hs⟩ | ⟨b1,b2,b3,y',b4⟩ | ⟨b1,b2,b3,b4,b5,b6⟩
   ·obtain ⟨rfl,rfl⟩:=quiet q1 (hs r hr hg rfl)
    exact ⟨some r1,Zw9 p3 p4 hb (by omega) (by omega) (hs r1 p3 p4 p5),p2⟩
   ·obtain ⟨rfl,rfl⟩:=quiet p1 a4
    obtain ⟨rfl,rfl⟩:=quiet q1 b4
    exact ⟨_,q2,p2⟩
   ·exfalso
    rcases hk with ⟨_,h⟩ | h | h | ⟨h1,h2,h3 | ⟨h3,_⟩⟩
    ·rw [b1] at h;cases h
    ·exact a2 h
    ·rw [h] at b1;cases b1
    ·exact h3 ((a3 h1).trans b4.symm)
    ·rw [h3,b1] at a1;cases a1
  ·rcases Zwk hr hg hb (by omega) (by omega) with ⟨y',hs⟩ | ⟨b1,b2,b3,y',b4⟩ | ⟨b1,b2,b3,b4,b5,b6⟩
   ·obtain ⟨rfl,rfl⟩:=quiet q1 (hs r hr hg rfl)
    exact ⟨some r1,Zw9 p3 p4 hb (by omega) (by omega) (hs r1 p3 p4 p5),p2⟩
   ·exfalso
    rcases hk with ⟨h,_⟩ | h | h | ⟨h1,h2,h3 | ⟨h3,_⟩⟩
    ·rw [a1] at h;cases h
    ·rw [h] at a1;cases a1
    ·exact b2 h
    ·exact h3 (a4.trans (b3 h2).symm)
    ·rw [← h3,a1] at b1;cases b1
   ·have hkk:a.Kind=b.Kind ∧ (a.Kind=7 ∨ a.Kind=13 ∨ a.Kind=14 ∨ a.Kind=19 ∨ a.Kind=21):=by
     rcases hk with ⟨h,_⟩ | h | h | ⟨h1,h2,h3 | h3⟩
     ·rw [a1] at h;cases h
     ·rw [h] at a1;cases a1
     ·rw [h] at b1;cases b1
     ·exact absurd (a4.trans b4.symm) h3
     ·exact h3
    obtain ⟨hke,hkk⟩:=hkk
    have fit:∀ (r:Zb) (a:Zn),(a.Kind=7 ∨ a.Kind=13 ∨ a.Kind=14 ∨ a.Kind=19 ∨ a.Kind=21) → Fits r a:=fun r a h=>⟨fun h=>by omega,fun h=>by omega,fun h=>by omega,fun h=>by omega⟩
    have dr:∀ {k:Int},(k=7 ∨ k=13 ∨ k=14 ∨ k=19 ∨ k=21) → Zni k:=fun h=>by unfold Zni;omega
    have hkb:b.Kind=7 ∨ b.Kind=13 ∨ b.Kind=14 ∨ b.Kind=19 ∨ b.Kind=21:=by omega
    obtain ⟨f1,f2,f3⟩:=Zq4 hr hg ha a2 (dr hkk) a4 (fit r a hkk)
    obtain ⟨g1,g2,g3⟩:=Zq4 hr hg hb b2 (dr hkb) b4 (fit r b hkb)
    rw [p1] at f1
    rw [q1] at g1
    simp only [Option.some.injEq,Prod.mk.injEq,true_and] at f1 g1
    obtain ⟨rfl,rfl⟩:=f1
    obtain ⟨rfl,rfl⟩:=g1
    obtain ⟨f4,_⟩:=Zq4 f2 f3 hb b2 (dr hkb) (by rw [(Z1g r a).1];exact b4) (fit _ b hkb)
    obtain ⟨g4,_⟩:=Zq4 g2 g3 ha a2 (dr hkk) (by rw [(Z1g r b).1];exact a4) (fit _ a hkk)
    have hc:=Z8a (r:=r) a3 b3 (by omega) hke.symm
    rw [← hc] at g4
    exact ⟨_,Zw9 f2 f3 hb (by omega) (by omega) f4,Zw9 g2 g3 ha (by omega) (by omega) g4⟩
theorem Zrl {d:Z9} (hd:∀ a ∈ d.Acts,ActIn a) (hl:d.Acts.length ≤ 12):∀ (n i:Nat),i + n=d.Acts.length →
  ∃ z,Zgk d (n + 1) (i:Int)=some z ∧ Zet d (n + 1) (i:Int)=some z ∧ (z=.inr () ∨ ∃ c at_,z=.inl (c,at_) ∧ c ≠ 0)
 | 0,i,h=>by
  rw [Zgk,Zet,if_neg (by simp;omega),if_neg (by simp;omega)]
  exact ⟨_,rfl,rfl,.inl rfl⟩
 | n + 1,i,h=>by
  have h1:i < d.Acts.length:=by omega
  obtain ⟨c,e1,e2,_⟩:=Zpu (hd _ (List.getElem_mem h1)).ok
  rw [Zgk,Zet,if_pos (by simp;omega),if_pos (by simp;omega),Zc1 h1,wr1 (by omega)]
  simp only [Option.bind_some]
  rw [e1,e2]
  simp only [Option.bind_some]
  by_cases hc:(c != 0)=true
  ·rw [if_pos hc,if_pos hc]
   exact ⟨_,rfl,rfl,.inr ⟨_,_,rfl,by simpa using hc⟩⟩
  ·rw [if_neg hc,if_neg hc]
   exact Zrl hd hl n (i + 1) (by omega)
theorem Zng {d:Z9} (hd:∀ a ∈ d.Acts,ActIn a):∃ c at_,Zgq d=some (c,at_) ∧ Zjp d=some (c,at_) ∧ (c=0 → 1 ≤ d.Acts.length ∧ d.Acts.length ≤ 12):=by
 unfold Zgq Zjp
 by_cases h:d.Acts.length < 1 ∨ 12 < d.Acts.length
 ·rw [if_pos (by rw [Bool.or_eq_true,beq_iff_eq,decide_eq_true_eq];omega),if_pos (by rw [Bool.or_eq_true,decide_eq_true_eq,decide_eq_true_eq];omega)]
  exact ⟨_,_,rfl,rfl,fun h=>by cases h⟩
 ·rw [if_neg (by rw [Bool.or_eq_true,beq_iff_eq,decide_eq_true_eq];omega),if_neg (by rw [Bool.or_eq_true,decide_eq_true_eq,decide_eq_true_eq];omega)]
  obtain ⟨z,e1,e2,hz⟩:=Zrl hd (by omega) d.Acts.length 0 (by omega)
  rw [show ((0:Nat):Int)=0 from rfl] at e1 e2
  rw [show (Int.toNat ((d.Acts.length:Int) - (0:Int)) + 1)=d.Acts.length + 1 by omega,e1,e2]
  rcases hz with rfl | ⟨c,at_,rfl,hc⟩
  ·exact ⟨_,_,rfl,rfl,fun _=>by omega⟩
  ·exact ⟨_,_,rfl,rfl,fun h=>absurd h hc⟩
def Zo6 (L:List Zd):Prop:=∀ a ∈ L,RecW a.Rec
theorem Zxf {L:List Zd} {a:Zd} (h:Zo6 L) (ha:RecW a.Rec):Zo6 (L ++ [a]):=fun b hb=>by
 rcases List.mem_append.1 hb with hb | hb
 ·exact h b hb
 ·rw [List.mem_singleton.1 hb];exact ha
def Ztq (R:Zs):Prop:=R.Answers.length ≤ 12 ∧ Zo6 R.Answers
def Z67 (L:List Zs):Prop:=∀ R ∈ L,Ztq R
theorem Zzs {d:Z9} (hl:d.Acts.length ≤ 40) (hw:∀ a ∈ d.Acts,Zm8 a):∀ (n i:Nat),i + n=d.Acts.length → Zeh d (n + 1) (i:Int)=some (.inl 1) ∨ (Zeh d (n + 1) (i:Int)=some (.inr ()) ∧ ∀ a ∈ d.Acts.drop i,a.Make.List.length ≤ 100)
 | 0,i,h=>by
  right
  rw [Zeh,if_neg (by simp;omega),List.drop_of_length_le (by omega)]
  exact ⟨rfl,fun o ho=>by cases ho⟩
 | n + 1,i,h=>by
  have h1:i < d.Acts.length:=by omega
  obtain ⟨c,e1,e2,e3⟩:=Zbfv (hw _ (List.getElem_mem h1))
  rw [Zeh,if_pos (by simp;omega),Zc1 h1,wr1 (by omega)]
  simp only [Option.bind_some]
  rw [e1]
  rcases e2 with rfl | rfl
  ·simp only [Int.lt_irrefl,decide_false,Bool.false_eq_true,if_false,Option.bind_some]
   rcases Zzs hl hw n (i + 1) (by omega) with h2 | ⟨h2,h3⟩
   ·exact .inl h2
   ·right
    refine ⟨h2,fun o ho=>?_⟩
    rw [List.drop_eq_getElem_cons h1] at ho
    rcases List.mem_cons.1 ho with rfl | ho
    ·exact e3 rfl
    ·exact h3 o ho
  ·left;rfl
theorem big8 {d:Z9} (hw:Zl7 d):∃ c,Zkk d=some c ∧ (c=0 ∨ c=1) ∧ (c=0 → d.Acts.length ≤ 40 ∧ ∀ a ∈ d.Acts,ActIn a):=by
 unfold Zkk
 by_cases h:40 < d.Acts.length
 ·rw [if_pos (by simp;omega)];exact ⟨1,rfl,.inr rfl,fun h=>by cases h⟩
 ·rw [if_neg (by simp;omega),show (Int.toNat ((d.Acts.length:Int) - (0:Int)) + 1)=d.Acts.length + 1 by omega]
  have:=Zzs (d:=d) (by omega) hw.2 d.Acts.length 0 (by omega)
  rw [show ((0:Nat):Int)=0 from rfl] at this
  rcases this with h1 | ⟨h1,h2⟩
  ·rw [h1];exact ⟨1,rfl,.inr rfl,fun h=>by cases h⟩
  ·rw [h1];exact ⟨0,rfl,.inl rfl,fun _=>⟨by omega,fun a ha=>Z82 (hw.2 a ha) (h2 a ha)⟩⟩
theorem Zxv {l:List Z9} (hl:l.length ≤ 40) (hw:∀ d ∈ l,Zl7 d):∀ (n i:Nat),i + n=l.length → Zep l (n + 1) (i:Int)=some (.inl 1) ∨ (Zep l (n + 1) (i:Int)=some (.inr ()) ∧ ∀ d ∈ l.drop i,d.Acts.length ≤ 40 ∧ ∀ a ∈ d.Acts,ActIn a)
 | 0,i,h=>by
  right
  rw [Zep,if_neg (by simp;omega),List.drop_of_length_le (by omega)]
  exact ⟨rfl,fun o ho=>by cases ho⟩
 | n + 1,i,h=>by
  have h1:i < l.length:=by omega
  obtain ⟨c,e1,e2,e3⟩:=big8 (hw _ (List.getElem_mem h1))
  rw [Zep,if_pos (by simp;omega),Zc1 h1,wr1 (by omega)]
  simp only [Option.bind_some]
  rw [e1]
  rcases e2 with rfl | rfl
  ·simp only [Int.lt_irrefl,decide_false,Bool.false_eq_true,if_false,Option.bind_some]
   rcases Zxv hl hw n (i + 1) (by omega) with h2 | ⟨h2,h3⟩
   ·exact .inl h2
   ·right
    refine ⟨h2,fun o ho=>?_⟩
    rw [List.drop_eq_getElem_cons h1] at ho
    rcases List.mem_cons.1 ho with rfl | ho
    ·exact e3 rfl
    ·exact h3 o ho
  ·left;rfl
theorem Zbem {l:List Z9} (hw:∀ d ∈ l,Zl7 d):∃ c,Zk0 l=some c ∧ (c=0 ∨ c=1) ∧ (c=0 → l.length ≤ 40 ∧ ∀ d ∈ l,d.Acts.length ≤ 40 ∧ ∀ a ∈ d.Acts,ActIn a):=by
 unfold Zk0
 by_cases h:40 < l.length
 ·rw [if_pos (by simp;omega)];exact ⟨1,rfl,.inr rfl,fun h=>by cases h⟩
 ·rw [if_neg (by simp;omega),show (Int.toNat ((l.length:Int) - (0:Int)) + 1)=l.length + 1 by omega]
  have:=Zxv (l:=l) (by omega) hw l.length 0 (by omega)
  rw [show ((0:Nat):Int)=0 from rfl] at this
  rcases this with h1 | ⟨h1,h2⟩
  ·rw [h1];exact ⟨1,rfl,.inr rfl,fun h=>by cases h⟩
  ·rw [h1];exact ⟨0,rfl,.inl rfl,fun _=>⟨by omega,h2⟩⟩
theorem Zxx {l:List Zbg} (hl:l.length ≤ 60) (hw:∀ p ∈ l,Zif p) {z:Zk} {r:Int}:∀ (n i:Nat) {s:Zk} {t:Zf},i + n=l.length → FR s t i → t.Room=r →
  (∃ s',Zd4 l (n + 1) z s t (i:Int)=some (.inl (s',none))) ∨ (∃ s' t',Zd4 l (n + 1) z s t (i:Int)=some (.inr (z,s',t')) ∧ FR s' t' 60 ∧ t'.Room=r)
 | 0,i,s,t,h,hf,hr=>by
  right
  rw [Zd4,if_neg (by simp;omega)]
  exact ⟨s,t,rfl,hf.mono (by omega),hr⟩
 | n + 1,i,s,t,h,hf,hr=>by
  have h1:i < l.length:=by omega
  have hm:=hw _ (List.getElem_mem h1)
  obtain ⟨c,e1,e2,e3⟩:=Z9o (Z4e hm.2)
  rw [Zd4,if_pos (by simp;omega),Zc1 h1,wr1 (by omega)]
  simp only [Option.bind_some]
  rw [e1]
  by_cases hk:decide ((100:Int) < ((l[i]).Key.size:Int))=true
  ·rw [hk];left;exact ⟨s,rfl⟩
  ·rw [Bool.eq_false_iff.2 hk]
   simp only [Bool.not_false,gd_t,Option.bind_some,Bool.false_or]
   rcases e2 with rfl | rfl
   ·simp only [Int.lt_irrefl,decide_false,Bool.false_eq_true,if_false]
    have hx:RecW (l[i]).Rec:=Zyx hm.2 (e3 rfl)
    obtain ⟨s',t',c,f1,f2,f3,f4⟩:=Zox hf.rel (by omega) (l[i]).Key hx.ok (e3 rfl)
    rw [f1,f2]
    simp only [Option.bind_some]
    have hro:t'.Room=t.Room:=by rw [← f3.room,Zia f1,hf.rel.room]
    refine Zxx hl hw n (i + 1) (by omega) ?_ (by rw [hro,hr])
    rcases f4 with f4 | ⟨f4,f5,f6,f7⟩
    ·have:=Zr4 hf f4 hro
     exact ⟨f3,this.good,this.fit⟩
    ·refine Zxi hf f3 hx ((Ziw hx.ok).1 f5) ?_ f4 hro
     refine Classical.byContradiction fun hno=>?_
     have h1:(lk (l[i]).Key (pl t)).isNone=true:=by
      cases hz:lk (l[i]).Key (pl t) with
      | none=>rfl
      | some r=>exact absurd (.inl (by rw [hz];rfl)) hno
     have h2:t.Room ≤ (t.L.length:Int):=Int.not_lt.1 fun h=>hno (.inr h)
     have hk1:sEq (l[i]).Key ⟨#[]⟩=false:=by
      rw [Zzx];simpa using f6
     obtain ⟨_,hs⟩:=(Zop hf.rel (by omega) f1 f5 (e3 rfl) hk1 (by omega)).2 h1 h2
     subst hs
     have ht:=f3.top
     rw [hf.rel.top,f4] at ht
     rcases Zlu (k:=(l[i]).Key) (l[i]).Rec hf.rel.srt with ⟨p,_,_,a3,_⟩ | ⟨_,_,a3,_⟩
     ·rw [a3] at h1;cases h1
     ·have hle:=congrArg List.length ht
      rw [a3] at hle
      have hrk:=Zu3 (l[i]).Key (pl t)
      simp at hle
      omega
   ·left;exact ⟨s,rfl⟩
theorem Z71 {r:Int} {l:List Zbg} (hw:∀ p ∈ l,Zif p):(∃ s,Zh7 r l=some (s,none)) ∨ (∃ s t,Zh7 r l=some (s,some t) ∧ FR s t 60 ∧ t.Room=r ∧ 1 ≤ r ∧ r ≤ 4096):=by
 unfold Zh7 Zpl
 by_cases hr:r < 1 ∨ 4096 < r
 ·rw [if_pos (by simpa using hr)]
  left;exact ⟨_,rfl⟩
 ·rw [if_neg (by simpa using hr)]
  simp only [Option.bind_some,bne_self_eq_false,Bool.false_or]
  by_cases hl:60 < l.length
  ·rw [if_pos (by simp;omega)];left;exact ⟨_,rfl⟩
  ·rw [if_neg (by simp;omega),show (Int.toNat ((l.length:Int) - (0:Int)) + 1)=l.length + 1 by omega]
   have:=Zxx (l:=l) (by omega) hw (z:=default) (r:=r) l.length 0 (by omega) ⟨Zbap r,fun q hq=>by simp [pl] at hq,by simp;omega⟩ rfl
   rw [show ((0:Nat):Int)=0 from rfl] at this
   rcases this with ⟨s',e⟩ | ⟨s',t',e,e2,e3⟩
   ·rw [e];left;exact ⟨_,rfl⟩
   ·rw [e];right;exact ⟨s',t',rfl,e2,e3,by omega,by omega⟩
def Zf6 (R:Int) (L:List KV) (a:Zn):Option (List KV × Zd):=(ap (lk a.Key L) a).bind fun z=>if (lk a.Key L).isNone=true ∧ z.1.isSome=true ∧ R ≤ (L.length:Int) then some (L,ans 8) else some (upd a.Key z.1 L,z.2)
structure InvK (L:List KV):Prop where
 srt:Srt L
 ok:∀ q ∈ L,RecW q.2 ∧ Zcl q.2
theorem InvK.at_ {L:List KV} (h:InvK L) (k:ByteArray):OkO (lk k L):=fun r hr=>h.ok _ (Zto hr)
theorem Zpa {o:Option Zb} {a:Zn} (ho:OkO o) (ha:ActIn a):∃ o1 x,ap o a=some (o1,x) ∧ OkO o1 ∧ RecW x.Rec ∧ (a.Kind ≠ 1 → a.Kind ≠ 2 → o1.isSome=o.isSome):=by
 cases o with
 | none =>
  obtain ⟨z,e,hs⟩:=Zk7 (there:=false) Zcm ha
  have e:Zc0 zrec false a=some z:=e
  simp only [ap,getR,e,Option.bind_some]
  rcases hs with ⟨c,hc,rfl⟩ | ⟨h1,h2,h3,⟨k,k2,k3,rfl⟩ | ⟨k,k2,rfl⟩ | ⟨k,rfl⟩ | ⟨k,k2,rfl⟩ | ⟨k,k2,k3,k4,r',o,q1,q2,q3,q4,q5,rfl⟩⟩
  ·exact ⟨none,ans c,by simp [hc],fun r h=>(by cases h),Zcm,fun _ _=>rfl⟩
  ·exact ⟨some a.Make,ans 0,rfl,fun r h=>(by obtain rfl:=Option.some.inj h;exact ⟨ha.mkr,k3⟩),Zcm,fun h=>absurd k h⟩
  ·cases k2
  ·exact ⟨none,_,rfl,fun r h=>(by cases h),Zcm,fun _ _=>rfl⟩
  ·cases k2
  ·cases k3
 | some r =>
  obtain ⟨hr,hg⟩:=ho r rfl
  obtain ⟨z,e,hs⟩:=Zk7 (there:=true) hr ha
  rw [if_pos rfl] at hs
  simp only [ap,getR,e,Option.bind_some]
  have self:OkO (some r):=ho
  rcases hs with ⟨c,hc,rfl⟩ | ⟨h1,h2,h3,⟨k,k2,k3,rfl⟩ | ⟨k,k2,rfl⟩ | ⟨k,rfl⟩ | ⟨k,k2,rfl⟩ | ⟨k,k2,k3,k4,r',o,q1,q2,q3,q4,q5,rfl⟩⟩
  ·exact ⟨some r,ans c,by simp [hc],self,Zcm,fun _ _=>rfl⟩
  ·cases k2
  ·exact ⟨none,ans 0,rfl,fun r h=>(by cases h),Zcm,fun _ h=>absurd k h⟩
  ·exact ⟨some r,_,rfl,self,Zcm,fun _ _=>rfl⟩
  ·exact ⟨some r,_,rfl,self,hr,fun _ _=>rfl⟩
  ·exact ⟨some r',o,by simp [q2],fun x h=>(by obtain rfl:=Option.some.inj h;exact ⟨q4,Zqm k k2 k4 hr hg h2 q1⟩),q5,fun _ _=>rfl⟩
theorem Zpp {R:Int} {L:List KV} {a:Zn} {o1:Option Zb} {x:Zd} (e:ap (lk a.Key L) a=some (o1,x)) (hs:o1.isSome=(lk a.Key L).isSome):Zf6 R L a=some (upd a.Key o1 L,x):=by
 unfold Zf6
 rw [e]
 simp only [Option.bind_some]
 rw [if_neg]
 rintro ⟨h1,h2,_⟩
 rw [hs] at h2
 cases hq:lk a.Key L <;> simp [hq] at h1 h2
theorem Zy3 {R:Int} {L:List KV} {a:Zn} {x:Zd} (hs:Srt L) (e:ap (lk a.Key L) a=some (lk a.Key L,x)):Zf6 R L a=some (L,x):=by
 rw [Zpp e rfl,Z2f hs]
theorem Zss {R:Int} {L:List KV} {a:Zn} (h:InvK L) (ha:ActIn a):∃ L' x,Zf6 R L a=some (L',x) ∧ InvK L' ∧ RecW x.Rec:=by
 obtain ⟨o1,x,e,h1,h2,_⟩:=Zpa (h.at_ a.Key) ha
 unfold Zf6
 rw [e]
 simp only [Option.bind_some]
 split
 ·exact ⟨L,ans 8,rfl,h,Zcm⟩
 ·refine ⟨_,_,rfl,⟨Zkg h.srt,fun q hq=>?_⟩,h2⟩
  rcases Zbai hq with hq | ⟨x,hx,rfl⟩
  ·exact h.ok q hq
  ·exact h1 x hx
def Zlb (a:Zn):Prop:=a.Kind=1 ∨ a.Kind=2
theorem Zxb {R:Int} {L La Lb:List KV} {a b:Zn} {xa xb:Zd} (h:InvK L) (ha:ActIn a) (hb:ActIn b) (hk:a.Key ≠ b.Key) (hrb:¬ Zlb b) (e1:Zf6 R L a=some (La,xa)) (e2:Zf6 R L b=some (Lb,xb)) :
  ∃ L',Zf6 R La b=some (L',xb) ∧ Zf6 R Lb a=some (L',xa):=by
 obtain ⟨oa,ya,fa,_⟩:=Zpa (h.at_ a.Key) ha
 obtain ⟨ob,yb,fb,_,_,sb⟩:=Zpa (h.at_ b.Key) hb
 have sb:=sb (fun h=>hrb (.inl h)) (fun h=>hrb (.inr h))
 have e2':=e2
 rw [Zpp fb sb] at e2
 simp only [Option.some.injEq,Prod.mk.injEq] at e2
 obtain ⟨rfl,rfl⟩:=e2
 have hla:lk a.Key (upd b.Key ob L)=lk a.Key L:=by rw [Zli h.srt,if_neg (fun e=>hk (Zcx.1 e))]
 have hlen:=Zbb0 (k:=b.Key) (o:=ob) h.srt sb
 have e3:Zf6 R (upd b.Key ob L) a=if (lk a.Key L).isNone=true ∧ oa.isSome=true ∧ R ≤ (L.length:Int) then some (upd b.Key ob L,ans 8) else some (upd a.Key oa (upd b.Key ob L),ya):=by
  unfold Zf6
  rw [hla,fa,hlen]
  rfl
 have e1':Zf6 R L a=if (lk a.Key L).isNone=true ∧ oa.isSome=true ∧ R ≤ (L.length:Int) then some (L,ans 8) else some (upd a.Key oa L,ya):=by
  unfold Zf6
  rw [fa]
  rfl
 rw [e1'] at e1
 rw [e3]
 by_cases hf:(lk a.Key L).isNone=true ∧ oa.isSome=true ∧ R ≤ (L.length:Int)
 ·rw [if_pos hf] at e1 ⊢
  simp only [Option.some.injEq,Prod.mk.injEq] at e1
  obtain ⟨rfl,rfl⟩:=e1
  exact ⟨_,e2',rfl⟩
 ·rw [if_neg hf] at e1 ⊢
  simp only [Option.some.injEq,Prod.mk.injEq] at e1
  obtain ⟨rfl,rfl⟩:=e1
  have hlb:lk b.Key (upd a.Key oa L)=lk b.Key L:=by rw [Zli h.srt,if_neg (fun e=>hk (Zcx.1 e).symm)]
  refine ⟨_,Zpp (by rw [hlb];exact fb) (by rw [hlb];exact sb),?_⟩
  rw [Z8c h.srt (fun e=>hk e.symm)]
theorem Z7b {R:Int} {L La Lb:List KV} {a b:Zn} {xa xb:Zd} (h:InvK L) (ha:ActIn a) (hb:ActIn b) (hc:a.Key ≠ b.Key ∨ KC a.Kind b.Kind) (hr:¬ (Zlb a ∧ Zlb b)) (e1:Zf6 R L a=some (La,xa)) (e2:Zf6 R L b=some (Lb,xb)) :
  ∃ L',Zf6 R La b=some (L',xb) ∧ Zf6 R Lb a=some (L',xa):=by
 by_cases hk:a.Key=b.Key
 ·have hc:KC a.Kind b.Kind:=by
   rcases hc with hc | hc
   ·exact absurd hk hc
   ·exact hc
  obtain ⟨oa,ya,fa,ga,_,sa⟩:=Zpa (h.at_ a.Key) ha
  obtain ⟨ob,yb,fb,gb,_,sb⟩:=Zpa (h.at_ b.Key) hb
  have c1:=hc.1
  have c2:=hc.2.2.1
  have sa:=sa (by omega) (by omega)
  have sb:=sb (by omega) (by omega)
  rw [Zpp fa sa] at e1
  rw [Zpp fb sb] at e2
  simp only [Option.some.injEq,Prod.mk.injEq] at e1 e2
  obtain ⟨rfl,rfl⟩:=e1
  obtain ⟨rfl,rfl⟩:=e2
  obtain ⟨o3,f3,f4⟩:=Zbay (h.at_ a.Key) ha hb hc fa (by rw [hk];exact fb)
  have la:lk b.Key (upd a.Key oa L)=oa:=by rw [Zli h.srt,if_pos (Zcx.2 hk.symm)]
  have lb:lk a.Key (upd b.Key ob L)=ob:=by rw [Zli h.srt,if_pos (Zcx.2 hk)]
  obtain ⟨o4,_,f5,_,_,s5⟩:=Zpa ga hb
  rw [f3] at f5
  obtain ⟨rfl,rfl⟩:=by simpa using f5
  obtain ⟨o4,_,f6,_,_,s6⟩:=Zpa gb ha
  rw [f4] at f6
  obtain ⟨rfl,rfl⟩:=by simpa using f6
  refine ⟨upd a.Key o3 L,?_,?_⟩
  ·rw [Zpp (by rw [la];exact f3) (by rw [la];exact s5 (by omega) (by omega)),← hk,Z4f h.srt]
  ·rw [Zpp (by rw [lb];exact f4) (by rw [lb];exact s6 (by omega) (by omega)),← hk,Z4f h.srt]
 ·by_cases hrb:Zlb b
  ·obtain ⟨L',h1,h2⟩:=Zxb h hb ha (fun e=>hk e.symm) (fun h=>hr ⟨h,hrb⟩) e2 e1
   exact ⟨L',h2,h1⟩
  ·exact Zxb h ha hb hk hrb e1 e2
def runK (R:Int):List Zn → List KV → Option (List KV × List Zd × Int)
 | [],L=>some (L,[],0)
 | a :: r,L=>(Zf6 R L a).bind fun z=>if (a.Must && (z.2.Code != 0))=true then some (z.1,[],z.2.Code) else (runK R r z.1).bind fun w=>some (w.1,z.2 :: w.2.1,w.2.2)
def OkP (a b:Zn):Prop:=(a.Key ≠ b.Key ∨ KC a.Kind b.Kind) ∧ ¬ (Zlb a ∧ Zlb b)
theorem Zyf {R:Int}:∀ {A:List Zn} {L:List KV},InvK L → (∀ a ∈ A,ActIn a) → ∃ L' xs c,runK R A L=some (L',xs,c) ∧ InvK L'
 | [],L,h,_=>⟨L,[],0,rfl,h⟩
 | a :: A,L,h,hA=>by
  obtain ⟨La,xa,s1,i1,_⟩:=Zss (R:=R) h (hA a (List.mem_cons_self ..))
  rw [runK,s1]
  simp only [Option.bind_some]
  split
  ·exact ⟨_,_,_,rfl,i1⟩
  ·obtain ⟨L',xs,c,e,i2⟩:=Zyf i1 (fun a ha=>hA a (List.mem_cons_of_mem _ ha))
   rw [e]
   exact ⟨_,_,_,rfl,i2⟩
theorem Zy9 {R:Int} {b:Zn} (hb:ActIn b):∀ {A:List Zn} {L Lb L1:List KV} {xs:List Zd} {c:Int} {xb:Zd},InvK L → (∀ a ∈ A,ActIn a) → (∀ a ∈ A,OkP a b) → runK R A L=some (L1,xs,c) → Zf6 R L b=some (Lb,xb) →
  ∃ L',runK R A Lb=some (L',xs,c) ∧ Zf6 R L1 b=some (L',xb)
 | [],L,Lb,L1,xs,c,xb,h,_,_,e1,e2=>by
  cases e1
  exact ⟨Lb,rfl,e2⟩
 | a :: A,L,Lb,L1,xs,c,xb,h,hA,hp,e1,e2=>by
  have ha:=hA a (List.mem_cons_self ..)
  obtain ⟨La,xa,s1,i1,_⟩:=Zss (R:=R) h ha
  obtain ⟨p1,p2⟩:=hp a (List.mem_cons_self ..)
  obtain ⟨M,c1,c2⟩:=Z7b h ha hb p1 p2 s1 e2
  rw [runK,s1] at e1
  rw [runK,c2]
  simp only [Option.bind_some] at e1 ⊢
  by_cases hm:(a.Must && (xa.Code != 0))=true
  ·rw [if_pos hm] at e1 ⊢
   cases e1
   exact ⟨M,rfl,c1⟩
  ·rw [if_neg hm] at e1 ⊢
   obtain ⟨⟨w1,w2,w3⟩,r1,e1⟩:=Option.bind_eq_some_iff.1 e1
   cases e1
   obtain ⟨L',d1,d2⟩:=Zy9 hb i1 (fun a ha=>hA a (List.mem_cons_of_mem _ ha)) (fun a ha=>hp a (List.mem_cons_of_mem _ ha)) r1 c1
   rw [d1]
   exact ⟨L',rfl,d2⟩
theorem Z19 {R:Int} {A:List Zn} (hA:∀ a ∈ A,ActIn a):∀ {B:List Zn} {L LA LB:List KV} {xs ys:List Zd} {c d:Int},InvK L → (∀ b ∈ B,ActIn b) → (∀ a ∈ A,∀ b ∈ B,OkP a b) → runK R A L=some (LA,xs,c) → runK R B L=some (LB,ys,d) →
  ∃ L',runK R A LB=some (L',xs,c) ∧ runK R B LA=some (L',ys,d)
 | [],L,LA,LB,xs,ys,c,d,h,_,_,e1,e2=>by
  cases e2
  exact ⟨LA,e1,rfl⟩
 | b :: B,L,LA,LB,xs,ys,c,d,h,hB,hp,e1,e2=>by
  have hb:=hB b (List.mem_cons_self ..)
  obtain ⟨Lb,xb,s1,i1,_⟩:=Zss (R:=R) h hb
  obtain ⟨M,c1,c2⟩:=Zy9 hb h hA (fun a ha=>hp a ha b (List.mem_cons_self ..)) e1 s1
  rw [runK,s1] at e2
  rw [runK,c2]
  simp only [Option.bind_some] at e2 ⊢
  by_cases hm:(b.Must && (xb.Code != 0))=true
  ·rw [if_pos hm] at e2 ⊢
   cases e2
   exact ⟨M,c1,rfl⟩
  ·rw [if_neg hm] at e2 ⊢
   obtain ⟨⟨w1,w2,w3⟩,r1,e2⟩:=Option.bind_eq_some_iff.1 e2
   cases e2
   obtain ⟨L',d1,d2⟩:=Z19 hA i1 (fun b hb=>hB b (List.mem_cons_of_mem _ hb)) (fun a ha b hb=>hp a ha b (List.mem_cons_of_mem _ hb)) c1 r1
   rw [d2]
   exact ⟨L',d1,rfl⟩
def oneK (R:Int) (L:List KV) (d:Z9):Option (List KV × Zs):=(Zgq d).bind fun z=>if (z.1 != 0)=true then some (L,{ Code:=z.1,At:=z.2,Answers:=[] }) else (runK R d.Acts L).bind fun w=>if w.2.2=0 then some (w.1,{ Code:=0,At:=0,Answers:=w.2.1 }) else some (L,{ Code:=w.2.2,At:=((w.2.1.length + 1:Nat):Int),Answers:=[] })
theorem Z8r {R:Int} {L LA LB:List KV} {A B:Z9} {x y:Zs} (h:InvK L) (hA:∀ a ∈ A.Acts,ActIn a) (hB:∀ b ∈ B.Acts,ActIn b) (hp:∀ a ∈ A.Acts,∀ b ∈ B.Acts,OkP a b) (e1:oneK R L A=some (LA,x)) (e2:oneK R L B=some (LB,y)) :
  ∃ L',oneK R LA B=some (L',y) ∧ oneK R LB A=some (L',x):=by
 obtain ⟨cA,aA,kA,_⟩:=Zng hA
 obtain ⟨cB,aB,kB,_⟩:=Zng hB
 obtain ⟨wA,xs,c,rA,_⟩:=Zyf (R:=R) h hA
 obtain ⟨wB,ys,d,rB,_⟩:=Zyf (R:=R) h hB
 obtain ⟨L',f1,f2⟩:=Z19 hA h hB hp rA rB
 have gA:∀ {M N:List KV} {zs:List Zd} {k:Int},runK R A.Acts M=some (N,zs,k) → oneK R M A=if (cA != 0)=true then some (M,{ Code:=cA,At:=aA,Answers:=[] }) else if k=0 then some (N,{ Code:=0,At:=0,Answers:=zs }) else some (M,{ Code:=k,At:=((zs.length + 1:Nat):Int),Answers:=[] }):=fun {M N zs k} e=>by
  unfold oneK
  rw [kA,e]
  rfl
 have gB:∀ {M N:List KV} {zs:List Zd} {k:Int},runK R B.Acts M=some (N,zs,k) → oneK R M B=if (cB != 0)=true then some (M,{ Code:=cB,At:=aB,Answers:=[] }) else if k=0 then some (N,{ Code:=0,At:=0,Answers:=zs }) else some (M,{ Code:=k,At:=((zs.length + 1:Nat):Int),Answers:=[] }):=fun {M N zs k} e=>by
  unfold oneK
  rw [kB,e]
  rfl
 have e1':=e1
 have e2':=e2
 rw [gA rA] at e1
 rw [gB rB] at e2
 by_cases a0:(cA != 0)=true
 ·rw [if_pos a0] at e1
  cases e1
  refine ⟨LB,e2',?_⟩
  unfold oneK
  rw [kA]
  simp only [Option.bind_some]
  rw [if_pos a0]
 ·rw [if_neg a0] at e1
  by_cases b0:(cB != 0)=true
  ·rw [if_pos b0] at e2
   cases e2
   refine ⟨LA,?_,e1'⟩
   unfold oneK
   rw [kB]
   simp only [Option.bind_some]
   rw [if_pos b0]
  ·rw [if_neg b0] at e2
   by_cases hc:c=0
   ·rw [if_pos hc] at e1
    cases e1
    by_cases hd:d=0
    ·rw [if_pos hd] at e2
     cases e2
     exact ⟨L',by rw [gB f2,if_neg b0,if_pos hd],by rw [gA f1,if_neg a0,if_pos hc]⟩
    ·rw [if_neg hd] at e2
     cases e2
     exact ⟨_,by rw [gB f2,if_neg b0,if_neg hd],e1'⟩
   ·rw [if_neg hc] at e1
    cases e1
    by_cases hd:d=0
    ·rw [if_pos hd] at e2
     cases e2
     exact ⟨_,e2',by rw [gA f1,if_neg a0,if_neg hc]⟩
    ·rw [if_neg hd] at e2
     cases e2
     exact ⟨L,e2',e1'⟩
theorem Z4g {s s':Zk} {t:Zf} {n:Nat} (h:Rel s t n) (hn:n < 1000000) {k:ByteArray} {b:Bool} (e:Zen s k=some (s',b)):toL s'.top=delL k (pl t):=by
 have hb:=h.len
 unfold Zen at e
 rw [Zno h] at e
 simp only [Option.bind_some] at e
 rcases Zlu default h.srt with ⟨p,a1,a2,a3,_,a5⟩ | ⟨a1,a2,_,a4⟩
 ·rw [a3] at e
  obtain ⟨t1,c1,z1,l1⟩:=Z4l (k:=k) h.sz (by rw [h.top];exact h.srt) (by rw [h.tl];omega)
  rw [c1] at e
  simp only [getR,Bool.not_true,Bool.false_eq_true,if_false,Option.bind_some,Option.some.injEq,Prod.mk.injEq] at e
  rw [← e.1,← h.top]
  exact l1
 ·rw [a2] at e
  simp only [getR,Bool.not_false,if_true,Option.some.injEq,Prod.mk.injEq] at e
  rw [← e.1,a4]
  exact h.top
theorem FR.inv {s:Zk} {t:Zf} {n:Nat} (h:FR s t n):InvK (pl t):=⟨h.rel.srt,h.good⟩
theorem Zzr {s:Zk} {t:Zf} {n:Nat} (h:FR s t n) (hn:n < 1000000) {a:Zn} (ha:ActIn a) :
  ∃ s' t' out,Znm s a=some (s',out) ∧ FR s' t' (n + 1) ∧ t'.Room=t.Room ∧ RecW out.Rec ∧ Zf6 t.Room (pl t) a=some (pl t',out):=by
 obtain ⟨r,there,hg,hi,hl1,hl2⟩:∃ r there,getR (lk a.Key (pl t))=(r,there) ∧ Z39 there r ∧ (there=true → lk a.Key (pl t)=some r) ∧ (there=false → lk a.Key (pl t)=none):=by
  cases hl:lk a.Key (pl t) with
  | none=>exact ⟨_,_,rfl,⟨Zcm,fun h=>(by cases h),fun _=>rfl⟩,fun h=>(by cases h),fun _=>rfl⟩
  | some r =>
   obtain ⟨g1,g2⟩:=h.good _ (Zto hl)
   exact ⟨_,_,rfl,⟨g1,fun _=>g2,fun h=>(by cases h)⟩,fun _=>rfl,fun h=>(by cases h)⟩
 obtain ⟨z,e3,hs⟩:=Zk7 (there:=there) hi.w ha
 have hr0:(if there=true then r else zrc)=r:=by
  cases there
  ·exact (hi.zero rfl).symm
  ·rfl
 rw [hr0] at hs
 have hap:ap (lk a.Key (pl t)) a=some (if z.2.2.Code=0 then (if z.2.1=true then some z.1 else none) else lk a.Key (pl t),z.2.2):=by
  unfold ap
  rw [hg,e3]
  rfl
 have hlk:lk a.Key (pl t)=if there=true then some r else none:=by
  cases there
  ·exact hl2 rfl
  ·exact hl1 rfl
 unfold Znm
 rw [Zno h.rel,hg]
 simp only [Option.bind_some]
 rw [e3]
 simp only [Option.bind_some,Zjy]
 have same:∀ x,z.2.2=x → (x.Code ≠ 0 ∨ z.2.1=there ∧ z.1=r) → Zf6 t.Room (pl t) a=some (pl t,x):=fun x hx hc=>by
  refine Zy3 h.rel.srt ?_
  rw [hap,hx]
  by_cases h0:x.Code=0
  ·rw [if_pos h0]
   obtain ⟨h1,h2⟩:=hc.resolve_left (fun h=>h h0)
   rw [h1,h2,hlk]
  ·rw [if_neg h0]
 rcases hs with ⟨c,hc,rfl⟩ | ⟨h1,h2,h3,hs⟩
 ·have hc':(c != 0)=true:=by simpa using hc
  simp only [hc',Bool.not_true,gd_f,Option.bind_some,Bool.true_or,if_true]
  exact ⟨s,t,ans c,rfl,h.mono (by omega),rfl,Zcm,same _ rfl (.inl hc)⟩
 obtain ⟨k1,k2⟩:=Z1u ha h1
 have hset:∀ {y:Zb},RecW y → Zcl y → ((lk a.Key (pl t)).isSome=true ∨ (t.L.length:Int) < t.Room) → ∃ s' t',Zdc s a.Key y=some (s',0) ∧ FR s' t' (n + 1) ∧ pl t'=insL a.Key y (pl t) ∧ t'.Room=t.Room:=fun {y} hw hgy ho=>by
  have hsh:=Zn5 hgy
  obtain ⟨s',t',c,f1,f2,f3,_⟩:=Zox h.rel hn a.Key hw.ok (by omega)
  obtain ⟨rfl,hp⟩:=(Zop h.rel hn f1 ((Ziw hw.ok).2 hgy) (by omega) k1 k2).1 ho
  rw [f3.top] at hp
  have hro:t'.Room=t.Room:=by rw [← f3.room,Zia f1,h.rel.room]
  exact ⟨s',t',f1,Zxi h f3 hw hgy ho hp hro,hp,hro⟩
 rcases hs with ⟨hk,rfl,hmk,rfl⟩ | ⟨hk,rfl,rfl⟩ | ⟨hk,rfl⟩ | ⟨hk,rfl,rfl⟩ | ⟨k5,k21,rfl,kon,r',o,q1,q2,q3,q4,q5,rfl⟩
 ·
  have hl:=hl2 rfl
  rw [hk]
  simp only [bne_self_eq_false,Bool.not_false,gd_t,Option.bind_some,show ((((((1:Int) == 3) || ((1:Int) == 4)) || ((1:Int) == 9)) || ((1:Int) == 12)) || ((1:Int) == 20))=false from rfl,Bool.or_self,Bool.false_eq_true,if_false,Bool.not_true]
  have hap:ap (lk a.Key (pl t)) a=some (some a.Make,ans 0):=hap
  by_cases hr:t.Room ≤ (t.L.length:Int)
  ·have hsh:=Zn5 hmk
   obtain ⟨s',t',c,f1,f2,f3,_⟩:=Zox h.rel hn a.Key ha.mkr.ok (by omega)
   obtain ⟨rfl,rfl⟩:=(Zop h.rel hn f1 ((Ziw ha.mkr.ok).2 hmk) (by omega) k1 k2).2 (by rw [hl];rfl) hr
   rw [f1]
   refine ⟨s',t,ans 8,rfl,h.mono (by omega),rfl,Zcm,?_⟩
   unfold Zf6
   rw [hap]
   simp only [Option.bind_some]
   rw [if_pos ⟨by rw [hl];rfl,rfl,by rw [Zeo];exact hr⟩]
  ·obtain ⟨s',t',f1,f3,f4,f5⟩:=hset ha.mkr hmk (.inr (by omega))
   rw [f1]
   refine ⟨s',t',ans 0,rfl,f3,f5,Zcm,?_⟩
   unfold Zf6
   rw [hap]
   simp only [Option.bind_some]
   rw [if_neg (by rw [Zeo];omega),f4]
   rfl
 ·
  rw [hk]
  obtain ⟨s',t',b,f1,f2,f3,f4⟩:=Zsx h.rel hn a.Key
  have hd:=Z4g h.rel hn f1
  rw [f3.top] at hd
  rw [f1]
  have hro:t'.Room=t.Room:=by rw [← f3.room,Zph f1,h.rel.room]
  have hf:=h.fit
  refine ⟨s',t',ans 0,rfl,⟨f3.mono (by omega),fun q hq=>?_,?_⟩,hro,Zcm,?_⟩
  ·rw [hd] at hq;exact h.good q (Zoy hq)
  ·have:=Zou a.Key (pl t)
   rw [Zeo] at this
   rw [hro,← Zeo,hd];omega
  ·unfold Zf6
   have hap:ap (lk a.Key (pl t)) a=some (none,ans 0):=hap
   rw [hap,hl1 rfl,hd]
   rfl
 ·
  rw [hk]
  exact ⟨s,t,_,rfl,h.mono (by omega),rfl,Zcm,same _ rfl (.inr ⟨rfl,rfl⟩)⟩
 ·
  rw [hk]
  exact ⟨s,t,_,rfl,h.mono (by omega),rfl,hi.w,same _ rfl (.inr ⟨rfl,rfl⟩)⟩
 ·
  have hl:=hl1 rfl
  have hgx:Zcl r':=Zqm k5 k21 kon hi.w (hi.good rfl) h2 q1
  rw [q2]
  simp only [bne_self_eq_false,Bool.not_false,gd_t,Option.bind_some,Bool.false_or,Bool.false_eq_true,if_false,Bool.not_true,Bool.false_and]
  by_cases hrd:(((((a.Kind == (3:Int)) || (a.Kind == (4:Int))) || (a.Kind == (9:Int))) || (a.Kind == (12:Int))) || (a.Kind == (20:Int)))=true
  ·rw [if_pos hrd]
   have hx:r'=r:=by
    refine Zp2 ?_ hi.w (hi.good rfl) kon q1
    simp only [Bool.or_eq_true,beq_iff_eq] at hrd
    omega
   subst hx
   exact ⟨s,t,o,rfl,h.mono (by omega),rfl,q5,same _ rfl (.inr ⟨rfl,rfl⟩)⟩
  ·rw [if_neg hrd]
   obtain ⟨s',t',f1,f3,f4,f5⟩:=hset q4 hgx (.inl (by rw [hl];rfl))
   rw [f1]
   have hap:ap (lk a.Key (pl t)) a=some (some r',o):=by rw [hap];simp [q2]
   refine ⟨s',t',o,rfl,f3,f5,q5,?_⟩
   rw [Zpp hap (by rw [hl];rfl),f4]
   rfl
def hasB (sp:List ByteArray) (k:ByteArray):Bool:=sp.any fun x=>sEq k x
theorem Zxl {sp:List ByteArray} {k:ByteArray} (hl:sp.length ≤ 1000):∀ (n i:Nat),i + n=sp.length →
  (Zcv sp k (n + 1) (i:Int)=some (.inr ()) ∧ hasB (sp.drop i) k=false) ∨ (∃ j:Nat,Zcv sp k (n + 1) (i:Int)=some (.inl (j:Int)) ∧ hasB (sp.drop i) k=true)
 | 0,i,h=>by
  rw [Zcv,if_neg (by simp;omega),List.drop_of_length_le (by omega)]
  exact .inl ⟨rfl,rfl⟩
 | n + 1,i,h=>by
  have h1:i < sp.length:=by omega
  rw [Zcv,if_pos (by simp;omega),Zc1 h1,wr1 (by omega),List.drop_eq_getElem_cons h1]
  simp only [Option.bind_some,hasB,List.any_cons]
  by_cases hq:sEq k sp[i]=true
  ·rw [if_pos hq,hq];exact .inr ⟨i,rfl,rfl⟩
  ·rw [if_neg hq,Bool.eq_false_iff.2 hq,Bool.false_or]
   exact Zxl hl n (i + 1) (by omega)
theorem Zri {sp:List ByteArray} (k:ByteArray) (hl:sp.length ≤ 1000):Zdi sp k=some (hasB sp k):=by
 unfold Zdi Zg8
 rw [show (Int.toNat ((sp.length:Int) - (0:Int)) + 1)=sp.length + 1 by omega]
 have:=Zxl (k:=k) hl sp.length 0 (by omega)
 rw [show ((0:Nat):Int)=0 from rfl,List.drop_zero] at this
 rcases this with ⟨e1,e2⟩ | ⟨j,e1,e2⟩
 ·rw [e1,e2];rfl
 ·rw [e1,e2];simp
def Zq3 (R:Int) (sp:List ByteArray) (L:List KV) (a:Zn):Option (List KV × Zd):=if hasB sp a.Key=true then some (L,default) else Zf6 R L a
def runS (R:Int) (sp:List ByteArray):List Zn → List KV → Option (List KV × List Zd × Int)
 | [],L=>some (L,[],0)
 | a :: r,L=>(Zq3 R sp L a).bind fun z=>if (a.Must && (z.2.Code != 0))=true then some (z.1,[],z.2.Code) else (runS R sp r z.1).bind fun w=>some (w.1,z.2 :: w.2.1,w.2.2)
def oneS (R:Int) (sp:List ByteArray) (L:List KV) (d:Z9):Option (List KV × Zs):=(Zgq d).bind fun z=>if (z.1 != 0)=true then some (L,{ Code:=z.1,At:=z.2,Answers:=[] }) else (runS R sp d.Acts L).bind fun w=>if w.2.2=0 then some (w.1,{ Code:=0,At:=0,Answers:=w.2.1 }) else some (L,{ Code:=w.2.2,At:=((w.2.1.length + 1:Nat):Int),Answers:=[] })
theorem Z6h (R:Int):Zq3 R []=Zf6 R:=rfl
theorem Z1o (R:Int):∀ (A:List Zn) (L:List KV),runS R [] A L=runK R A L
 | [],L=>rfl
 | a :: A,L=>by
  have ih:=Z1o R A
  unfold runS runK
  simp only [Z6h,ih]
theorem Zq1 (R:Int) (L:List KV) (d:Z9):oneS R [] L d=oneK R L d:=by
 unfold oneS oneK
 simp only [Z1o]
theorem Zzz {R:Int} {sp:List ByteArray} {L:List KV} {a:Zn} (h:InvK L) (ha:ActIn a):∃ L' x,Zq3 R sp L a=some (L',x) ∧ InvK L' ∧ RecW x.Rec:=by
 unfold Zq3
 split
 ·exact ⟨L,_,rfl,h,Zcm⟩
 ·exact Zss h ha
theorem Zsv {R:Int} {sp:List ByteArray}:∀ {A:List Zn} {L:List KV},InvK L → (∀ a ∈ A,ActIn a) → ∃ L' xs c,runS R sp A L=some (L',xs,c) ∧ InvK L' ∧ Zo6 xs ∧ (c=0 → xs.length=A.length) ∧ (c ≠ 0 → xs.length < A.length)
 | [],L,h,_=>⟨L,[],0,rfl,h,fun a ha=>(by cases ha),fun _=>rfl,fun h=>absurd rfl h⟩
 | a :: A,L,h,hA=>by
  obtain ⟨La,xa,s1,i1,i2⟩:=Zzz (R:=R) (sp:=sp) h (hA a (List.mem_cons_self ..))
  rw [runS,s1]
  simp only [Option.bind_some]
  split
  ·rename_i hc
   have hne:xa.Code ≠ 0:=by
    have:=(Bool.and_eq_true _ _ ▸ hc:_ ∧ _).2
    simpa using this
   exact ⟨_,_,_,rfl,i1,fun a ha=>(by cases ha),fun h=>absurd h hne,fun _=>by simp⟩
  ·obtain ⟨L',xs,c,e,j1,j2,j3,j4⟩:=Zsv i1 (fun a ha=>hA a (List.mem_cons_of_mem _ ha))
   rw [e]
   refine ⟨_,_,_,rfl,j1,fun y hy=>?_,fun h=>by simp [j3 h],fun h=>by have:=j4 h;simp;omega⟩
   rcases List.mem_cons.1 hy with rfl | hy
   ·exact i2
   ·exact j2 y hy
structure HandGo (h:Zw) (d:Z9) (sp:List ByteArray) (R:Int) (Lf:List KV) (Q:Zs) (n m:Nat):Prop where
 hd:h.d=d
 hsp:h.split=sp
 st:(∃ t xs ys L1 c,FR h.now t n ∧ t.Room=R ∧ h.out={ Code:=0,At:=0,Answers:=xs } ∧ h.over=decide (xs.length=d.Acts.length) ∧ xs.length ≤ d.Acts.length ∧ runS R sp (d.Acts.drop xs.length) (pl t)=some (L1,ys,c) ∧ (c=0 → Q={ Code:=0,At:=0,Answers:=xs ++ ys } ∧ Lf=L1) ∧ (c ≠ 0 → Q={ Code:=c,At:=(((xs ++ ys).length + 1:Nat):Int),Answers:=[] }) ∧ Zo6 xs ∧ m=ys.length + (if c=0 then 0 else 1)) ∨
  (Q.Code ≠ 0 ∧ h.over=true ∧ h.out=Q ∧ Q.Answers=[] ∧ m=0)
theorem Zt5 {h:Zw} {d:Z9} {sp:List ByteArray} {R:Int} {Lf:List KV} {Q:Zs} {n m:Nat} (hd:∀ a ∈ d.Acts,ActIn a) (hl:d.Acts.length ≤ 1000) (hs:sp.length ≤ 1000) (H:HandGo h d sp R Lf Q n m) (hn:n < 1000000) :
  (m=0 ∧ h.over=true ∧ Zfg h=some (h,false)) ∨ (∃ h' m',m=m' + 1 ∧ h.over=false ∧ Zfg h=some (h',true) ∧ HandGo h' d sp R Lf Q (n + 1) m'):=by
 obtain ⟨e1,e2,H⟩:=H
 obtain ⟨hd',hsp',now,out,over⟩:=h
 simp only at e1 e2 H
 subst e1 e2
 rcases H with ⟨t,xs,ys,L1,c,hf,hr,rfl,hov,hx,hrun,q1,q2,hA,rfl⟩ | ⟨q1,rfl,rfl,q2,rfl⟩
 ·by_cases hxl:xs.length=hd'.Acts.length
  ·rw [decide_eq_true hxl] at hov
   subst hov
   rw [List.drop_of_length_le (by omega)] at hrun
   cases hrun
   exact .inl ⟨rfl,rfl,rfl⟩
  ·rw [decide_eq_false hxl] at hov
   subst hov
   right
   have h1:xs.length < hd'.Acts.length:=by omega
   have ha:=hd _ (List.getElem_mem h1)
   rw [List.drop_eq_getElem_cons h1,runS] at hrun
   obtain ⟨s',t',x,f1,f2,f3,f4,f5⟩:∃ s' t' x,Zj7 { d:=hd',split:=hsp',now:=now,out:={ Code:=0,At:=0,Answers:=xs },over:=false }=Zh9 { d:=hd',split:=hsp',now:=now,out:={ Code:=0,At:=0,Answers:=xs },over:=false } hd'.Acts[xs.length] x { d:=hd',split:=hsp',now:=s',out:={ Code:=0,At:=0,Answers:=xs },over:=false } ∧ FR s' t' (n + 1) ∧ t'.Room=R ∧ RecW x.Rec ∧ Zq3 R hsp' (pl t) hd'.Acts[xs.length]=some (pl t',x):=by
    unfold Zj7
    simp only [Bool.false_eq_true,if_false]
    rw [Zc1 h1]
    simp only [Option.bind_some]
    rw [Zri _ hs]
    simp only [Option.bind_some]
    unfold Zq3
    by_cases hb:hasB hsp' (hd'.Acts[xs.length]).Key=true
    ·rw [hb]
     exact ⟨now,t,default,rfl,hf.mono (by omega),hr,Zcm,rfl⟩
    ·rw [if_neg hb,Bool.eq_false_iff.2 hb]
     obtain ⟨s',t',x,g1,g2,g3,g4,g5⟩:=Zzr hf hn ha
     rw [hr] at g5
     refine ⟨s',t',x,?_,g2,g3.trans hr,g4,g5⟩
     simp only [Bool.not_false,if_true]
     rw [g1]
     rfl
   rw [f5] at hrun
   simp only [Option.bind_some] at hrun
   unfold Zfg
   rw [f1]
   unfold Zh9
   by_cases hm:((hd'.Acts[xs.length]).Must && (x.Code != 0))=true
   ·rw [if_pos hm] at hrun ⊢
    simp only [Option.some.injEq,Prod.mk.injEq] at hrun
    obtain ⟨rfl,rfl,rfl⟩:=hrun
    have hne:x.Code ≠ 0:=by
     have:=(Bool.and_eq_true _ _ ▸ hm:_ ∧ _).2
     simpa using this
    have hq:=q2 hne
    refine ⟨_,0,by simp [hne],rfl,rfl,rfl,rfl,.inr ⟨by rw [hq];exact hne,rfl,?_,by rw [hq],rfl⟩⟩
    rw [hq]
    simp only [List.append_nil]
    rw [wr1 (by omega)]
   ·rw [if_neg hm] at hrun ⊢
    obtain ⟨⟨w1,w2,w3⟩,r1,hrun⟩:=Option.bind_eq_some_iff.1 hrun
    simp only [Option.some.injEq,Prod.mk.injEq] at hrun
    obtain ⟨rfl,rfl,rfl⟩:=hrun
    have hlen:(xs.length + [x].length) * 104 ≤ 140737488355328:=by simp;omega
    simp only
    rw [if_pos hlen]
    refine ⟨_,w2.length + (if w3=0 then 0 else 1),by simp;omega,trivial,rfl,rfl,rfl,.inl ⟨t',xs ++ [x],w2,w1,w3,f2,f3,rfl,?_,by simp;omega,?_,?_,?_,Zxf hA f4,rfl⟩⟩
    ·show ((IntKind.i64.wrap ((xs.length:Int) + 1)) == ((hd'.Acts.length:Int)))=_
     rw [wr1 (by omega)]
     by_cases h2:xs.length + 1=hd'.Acts.length
     ·rw [decide_eq_true (by simp;omega)]
      rw [beq_iff_eq];omega
     ·rw [decide_eq_false (by simp;omega)]
      rw [beq_eq_false_iff_ne];omega
    ·rw [show (xs ++ [x]).length=xs.length + 1 by simp]
     exact r1
    ·intro hc
     obtain ⟨g1,g2⟩:=q1 hc
     exact ⟨by rw [g1];simp,g2⟩
    ·intro hc
     rw [q2 hc];simp
 ·exact .inl ⟨rfl,rfl,rfl⟩
theorem HandGo.mono {h:Zw} {d:Z9} {sp:List ByteArray} {R:Int} {Lf:List KV} {Q:Zs} {n n' m:Nat} (H:HandGo h d sp R Lf Q n m) (hn:n ≤ n'):HandGo h d sp R Lf Q n' m:=by
 obtain ⟨e1,e2,H⟩:=H
 refine ⟨e1,e2,?_⟩
 rcases H with ⟨t,xs,ys,L1,c,hf,H⟩ | H
 ·exact .inl ⟨t,xs,ys,L1,c,hf.mono hn,H⟩
 ·exact .inr H
theorem Z17 {d:Z9} {sp:List ByteArray} {R:Int} {Lf:List KV} {Q:Zs} (hd:∀ a ∈ d.Acts,ActIn a) (hl:d.Acts.length ≤ 1000) (hs:sp.length ≤ 1000):∀ (m f i:Nat) {h:Zw} {n:Nat},HandGo h d sp R Lf Q n m → m ≤ f → i + m ≤ 12 → n + m < 1000000 → ∃ h',Zfn (f + 1) h (i:Int)=some (h',((i + m:Nat):Int)) ∧ HandGo h' d sp R Lf Q (n + m) 0
 | 0,f,i,h,n,H,_,hi,hn=>by
  rcases Zt5 hd hl hs H (by omega) with ⟨_,_,e⟩ | ⟨_,_,e,_⟩
  ·have hd:decide ((i:Int) < 20)=true:=by simp;omega
   refine ⟨h,?_,H⟩
   rw [Zfn,hd,gd_t,e]
   rfl
  ·omega
 | m + 1,f + 1,i,h,n,H,hf,hi,hn=>by
  rcases Zt5 hd hl hs H (by omega) with ⟨e,_⟩ | ⟨h',m',e,_,e2,H'⟩
  ·omega
  ·obtain rfl:m'=m:=by omega
   obtain ⟨h2,g1,g2⟩:=Z17 hd hl hs m' f (i + 1) H' (by omega) (by omega) (by omega)
   have hd:decide ((i:Int) < 20)=true:=by simp;omega
   refine ⟨h2,?_,g2.mono (by omega)⟩
   rw [Zfn,hd,gd_t,e2]
   simp only [Option.bind_some,Bool.and_self,if_true]
   rw [wr1 (by omega),g1]
   congr 3
   omega
theorem Z16 {h:Zw} {d:Z9} {sp:List ByteArray} {R:Int} {Lf:List KV} {Q:Zs} {n m:Nat} (hd:∀ a ∈ d.Acts,ActIn a) (hl:d.Acts.length ≤ 1000) (hs:sp.length ≤ 1000) (H:HandGo h d sp R Lf Q n m) (hm:m ≤ 12) (hn:n < 900000):∃ h',Zkj h=some (h',(m:Int)) ∧ HandGo h' d sp R Lf Q (n + 12) 0:=by
 obtain ⟨h',e1,e2⟩:=Z17 hd hl hs m 20 0 H (by omega) (by omega) (by omega)
 refine ⟨h',?_,e2.mono (by omega)⟩
 unfold Zkj Zla
 rw [show (Int.toNat ((20:Int) - (0:Int)) + 1)=20 + 1 by rfl]
 rw [show ((0:Nat):Int)=0 from rfl] at e1
 rw [e1]
 simp
theorem HandGo.done {h:Zw} {d:Z9} {sp:List ByteArray} {R:Int} {Lf:List KV} {Q:Zs} {n:Nat} (hd:∀ a ∈ d.Acts,ActIn a) (H:HandGo h d sp R Lf Q n 0) :
  h.over=true ∧ h.out=Q ∧ Zo6 Q.Answers ∧ (Q.Answers ≠ [] → Q.Answers.length=d.Acts.length) ∧ (Q.Code=0 → Q.At=0 ∧ Q.Answers.length=d.Acts.length ∧ ∃ t,FR h.now t n ∧ t.Room=R ∧ pl t=Lf):=by
 obtain ⟨e1,e2,H⟩:=H
 rcases H with ⟨t,xs,ys,L1,c,hf,hr,ho,hov,hx,hrun,q1,q2,hA,hm⟩ | ⟨q1,q2,q3,q4,_⟩
 ·have hc:c=0:=Classical.byContradiction fun h=>by rw [if_neg h] at hm;omega
  subst hc
  have hy:ys=[]:=List.length_eq_zero_iff.1 (by simpa using hm.symm)
  subst hy
  obtain ⟨rfl,rfl⟩:=q1 rfl
  obtain ⟨L',zs,c,r1,_,_,r2,_⟩:=Zsv (R:=R) (sp:=sp) (A:=d.Acts.drop xs.length) hf.inv (fun a ha=>hd a (List.mem_of_mem_drop ha))
  rw [hrun] at r1
  simp only [Option.some.injEq,Prod.mk.injEq] at r1
  obtain ⟨rfl,rfl,rfl⟩:=r1
  have hlen:=r2 rfl
  simp at hlen
  have hxl:xs.length=d.Acts.length:=by omega
  rw [decide_eq_true hxl] at hov
  rw [List.drop_of_length_le (by omega)] at hrun
  cases hrun
  simp only [List.append_nil]
  exact ⟨hov,ho,hA,fun _=>hxl,fun _=>⟨trivial,hxl,t,hf,hr,rfl⟩⟩
 ·rw [q4]
  exact ⟨q2,q3,fun a ha=>(by cases ha),fun h=>absurd rfl h,fun h=>absurd h q1⟩
theorem Zbbh {Q:Zs} (hl:Q.Answers.length ≤ 1000) (hA:Zo6 Q.Answers):Zpm Q=some Q:=by
 unfold Zpm
 rw [if_pos ⟨by omega,List.all_eq_true.2 fun a ha=>by have:=(hA a ha).len;simp;omega⟩]
theorem Zvx {h:Zw} {d:Z9} {sp:List ByteArray} {R:Int} {Lf:List KV} {Q:Zs} {n:Nat} (hd:∀ a ∈ d.Acts,ActIn a) (hl:d.Acts.length ≤ 1000) (H:HandGo h d sp R Lf Q n 0):Zha h=some (Q,true) ∧ Ztq Q=(Q.Answers.length ≤ 12 ∧ Zo6 Q.Answers) ∧ Zj0 h=some true:=by
 obtain ⟨e1,e2,e3,e4,_⟩:=H.done hd
 refine ⟨?_,rfl,by unfold Zj0;rw [e1]⟩
 unfold Zha
 rw [e1,e2,Zbbh _ e3]
 ·rfl
 ·by_cases hq:Q.Answers=[]
  ·rw [hq];simp
  ·rw [e4 hq];exact hl
theorem Zzu {d:Z9} (hd:∀ a ∈ d.Acts,ActIn a) (hl:d.Acts.length ≤ 1000):Zm3 d=some d:=by
 unfold Zm3
 rw [if_pos ⟨by omega,List.all_eq_true.2 fun a ha=>by have:=(hd a ha).mkr.len;simp;omega⟩]
theorem Z09 {d:Z9} {s:Zk} {sp:List ByteArray} {t:Zf} {n:Nat} (hf:FR s t n) (hd:∀ a ∈ d.Acts,ActIn a) (hl:d.Acts.length ≤ 1000) (hs:sp.length ≤ 1000) :
  ∃ h Lf Q m,Zme d s sp=some h ∧ oneS t.Room sp (pl t) d=some (Lf,Q) ∧ HandGo h d sp t.Room Lf Q n m ∧ m ≤ 12 ∧ (Q.Code=0 → ∃ at_,Zgq d=some (0,at_)) ∧ (∀ at_,Zgq d=some (0,at_) → (Q.Code=0 → m=d.Acts.length) ∧ (Q.Code ≠ 0 → Q.At=(m:Int))):=by
 obtain ⟨c,at_,e1,_,hc⟩:=Zng hd
 unfold Zme oneS
 rw [Zzu hd hl,e1]
 unfold Zg9
 rw [if_pos (by omega)]
 simp only [Option.bind_some]
 by_cases h0:(c != 0)=true
 ·rw [if_pos h0,if_pos h0]
  have hne:c ≠ 0:=by simpa using h0
  exact ⟨_,_,_,0,rfl,rfl,⟨rfl,rfl,.inr ⟨hne,rfl,rfl,rfl,rfl⟩⟩,by omega,fun h=>absurd h hne,fun a h=>by
   simp only [Option.some.injEq,Prod.mk.injEq] at h
   exact absurd h.1 hne⟩
 ·rw [if_neg h0,if_neg h0]
  obtain rfl:c=0:=by simpa using h0
  have hl2:=hc rfl
  obtain ⟨L',ys,k,r1,_,_,r3,r4⟩:=Zsv (R:=t.Room) (sp:=sp) (A:=d.Acts) hf.inv hd
  rw [r1]
  simp only [Option.bind_some]
  by_cases hk:k=0
  ·rw [if_pos hk]
   subst hk
   have:=r3 rfl
   refine ⟨_,_,_,ys.length,rfl,rfl,⟨rfl,rfl,.inl ⟨t,[],ys,L',0,hf,rfl,rfl,?_,Nat.zero_le _,r1,fun _=>⟨rfl,rfl⟩,fun h=>absurd rfl h,fun a ha=>(by cases ha),rfl⟩⟩,by omega,fun _=>⟨_,rfl⟩,fun _ _=>⟨fun _=>this,fun h=>absurd rfl h⟩⟩
   exact (decide_eq_false (by simp;omega)).symm
  ·rw [if_neg hk]
   have:=r4 hk
   refine ⟨_,_,_,ys.length + 1,rfl,rfl,⟨rfl,rfl,.inl ⟨t,[],ys,L',k,hf,rfl,rfl,?_,Nat.zero_le _,r1,fun h=>absurd h hk,fun _=>rfl,fun a ha=>(by cases ha),by rw [if_neg hk]⟩⟩,by omega,fun h=>absurd h hk,fun _ _=>⟨fun h=>absurd h hk,fun _=>rfl⟩⟩
   exact (decide_eq_false (by simp;omega)).symm
theorem Z8m {o:Option Zb} {a:Zn} (ho:OkO o) (ha:ActIn a) (hk:Ze2 a.Kind=true):∃ x,ap o a=some (o,x):=by
 have hk:a.Kind=3 ∨ a.Kind=4 ∨ a.Kind=9 ∨ a.Kind=12 ∨ a.Kind=20:=by
  unfold Ze2 at hk
  simp only [Bool.or_eq_true,beq_iff_eq] at hk
  omega
 cases o with
 | none =>
  obtain ⟨x,e,_⟩:=Zyh ha (by omega)
  exact ⟨x,e⟩
 | some r =>
  obtain ⟨hr,hg⟩:=ho r rfl
  obtain ⟨z,e,hs⟩:=Zk7 (there:=true) hr ha
  rw [if_pos rfl] at hs
  simp only [ap,getR,e,Option.bind_some]
  rcases hs with ⟨c,hc,rfl⟩ | ⟨h1,h2,h3,⟨k,k2,k3,rfl⟩ | ⟨k,k2,rfl⟩ | ⟨k,rfl⟩ | ⟨k,k2,rfl⟩ | ⟨k,k2,k3,k4,r',o,q1,q2,q3,q4,q5,rfl⟩⟩
  ·exact ⟨ans c,by simp [hc]⟩
  ·cases k2
  ·omega
  ·exact ⟨_,rfl⟩
  ·exact ⟨_,rfl⟩
  ·have:r'=r:=Zp2 (by omega) hr hg k4 q1
   subst this
   exact ⟨o,by simp [q2]⟩
theorem Z8b {R:Int} {sp:List ByteArray} {L L':List KV} {a:Zn} {x:Zd} (h:InvK L) (ha:ActIn a) (e:Zq3 R sp L a=some (L',x)) {z:ByteArray} (hz:z=a.Key → (hasB sp a.Key || Ze2 a.Kind)=true):lk z L'=lk z L:=by
 unfold Zq3 at e
 by_cases hb:hasB sp a.Key=true
 ·rw [if_pos hb] at e
  cases e
  rfl
 ·rw [if_neg hb] at e
  by_cases hrd:Ze2 a.Kind=true
  ·obtain ⟨y,e1⟩:=Z8m (h.at_ a.Key) ha hrd
   rw [Zy3 h.srt e1] at e
   cases e
   rfl
  ·have hz:z ≠ a.Key:=fun he=>by
    have:=hz he
    rw [Bool.eq_false_iff.2 hb,Bool.eq_false_iff.2 hrd] at this
    cases this
   obtain ⟨o1,y,e1,_⟩:=Zpa (h.at_ a.Key) ha
   unfold Zf6 at e
   rw [e1] at e
   simp only [Option.bind_some] at e
   split at e
   ·cases e;rfl
   ·cases e
    rw [Zli h.srt,if_neg (fun he=>hz (Zcx.1 he))]
def Zgb (sp:List ByteArray) (A:List Zn):List ByteArray:=(A.filter fun a=>!(hasB sp a.Key || Ze2 a.Kind)).map (·.Key)
def Zlg (sp:List ByteArray) (A:List Zn):List Zn:=A.filter fun a=>hasB sp a.Key
theorem Zbd0 {sp:List ByteArray} {a:Zn} {A:List Zn} (h:hasB sp a.Key=true):Zlg sp (a :: A)=a :: Zlg sp A:=by simp [Zlg,h]
theorem Z1i {sp:List ByteArray} {a:Zn} {A:List Zn} (h:hasB sp a.Key=false):Zlg sp (a :: A)=Zlg sp A:=by simp [Zlg,h]
theorem Z9u {sp:List ByteArray} {a:Zn} {A:List Zn} (h:(hasB sp a.Key || Ze2 a.Kind)=true):Zgb sp (a :: A)=Zgb sp A:=by
 unfold Zgb
 rw [List.filter_cons_of_neg (by rw [h];simp)]
theorem Zbdi {sp:List ByteArray} {a:Zn} {A:List Zn} (h:(hasB sp a.Key || Ze2 a.Kind)=false):Zgb sp (a :: A)=a.Key :: Zgb sp A:=by
 unfold Zgb
 rw [List.filter_cons_of_pos (by rw [h];rfl),List.map_cons]
theorem Z35 {R:Int} {sp:List ByteArray}:∀ {A:List Zn} {L L':List KV} {xs:List Zd} {c:Int},InvK L → (∀ a ∈ A,ActIn a) → runS R sp A L=some (L',xs,c) → ∀ z,z ∉ Zgb sp A → lk z L'=lk z L
 | [],L,L',xs,c,h,_,e,z,_=>by cases e;rfl
 | a :: A,L,L',xs,c,h,hA,e,z,hz=>by
  have ha:=hA a (List.mem_cons_self ..)
  obtain ⟨La,xa,s1,i1,i2⟩:=Zzz (R:=R) (sp:=sp) h ha
  rw [runS,s1] at e
  simp only [Option.bind_some] at e
  have h1:lk z La=lk z L:=Z8b h ha s1 fun he=>by
   cases hq:(hasB sp a.Key || Ze2 a.Kind) with
   | true=>rfl
   | false =>
    refine absurd ?_ hz
    unfold Zgb
    rw [List.filter_cons_of_pos (by rw [hq];rfl),List.map_cons,he]
    exact List.mem_cons_self ..
  have hz2:z ∉ Zgb sp A:=fun hm=>hz (by
   unfold Zgb at hm ⊢
   obtain ⟨b,hb,rfl⟩:=List.mem_map.1 hm
   exact List.mem_map.2 ⟨b,by
    obtain ⟨b1,b2⟩:=List.mem_filter.1 hb
    exact List.mem_filter.2 ⟨List.mem_cons_of_mem _ b1,b2⟩,rfl⟩)
  split at e
  ·cases e;exact h1
  ·obtain ⟨⟨w1,w2,w3⟩,r1,e⟩:=Option.bind_eq_some_iff.1 e
   simp only [Option.some.injEq,Prod.mk.injEq] at e
   obtain ⟨rfl,_,_⟩:=e
   rw [Z35 i1 (fun a ha=>hA a (List.mem_cons_of_mem _ ha)) r1 z hz2,h1]
theorem Zbbl {k:ByteArray} {l:List KV} (hs:Srt l) (h:(lk k l).isSome=true):(delL k l).length + 1=l.length:=by
 rcases Zlu zrc hs with ⟨p,a1,_,_,_,a5⟩ | ⟨_,a2,_⟩
 ·have:=(List.getElem?_eq_some_iff.1 a1).1
  rw [a5]
  simp
  omega
 ·rw [a2] at h;cases h
theorem Z3y:∀ {A B:List KV},Srt A → Srt B → (∀ k,(lk k A).isSome=true → (lk k B).isSome=true) → A.length ≤ B.length
 | [],B,_,_,_=>Nat.zero_le _
 | p :: A,B,hA,hB,h=>by
  obtain ⟨a1,a2⟩:=List.pairwise_cons.1 hA
  have h1:=Zbbl hB (h p.1 (by simp [lk,Zdp]))
  have:=Z3y a2 (Zvf (k:=p.1) hB) fun k hk=>by
   rw [Ztv k p.1 hB]
   by_cases he:sEq k p.1=true
   ·rw [Zml fun q hq e=>?_] at hk
    ·cases hk
    ·have:=a1 q hq
     rw [e,Zcx.1 he,Zho] at this;cases this
   ·rw [if_neg he]
    refine h k ?_
    simp only [lk]
    rw [if_neg he]
    exact hk
  simp only [List.length_cons]
  omega
theorem Z8p {A B:List KV} {k:ByteArray} (hA:Srt A) (hB:Srt B) (h:∀ k,(lk k A).isSome=true → (lk k B).isSome=true) (h1:lk k A=none) (h2:(lk k B).isSome=true):A.length < B.length:=by
 have:=Z3y (Zuz (k:=k) (x:=zrc) hA) hB fun z hz=>by
  rw [Zxt] at hz
  by_cases he:sEq z k=true
  ·rw [Zcx.1 he];exact h2
  ·rw [if_neg he] at hz
   exact h z hz
 rcases Zlu zrc hA with ⟨p,_,_,a3,_⟩ | ⟨_,_,a3,_⟩
 ·rw [h1] at a3;cases a3
 ·rw [a3] at this
  have hr:=Zu3 k A
  simp at this
  omega
theorem Zbav {s:Zk} {t:Zf} {n:Nat} (h:FR s t n) (hn:n < 1000000) (k:ByteArray):∃ s' t' b,Zen s k=some (s',b) ∧ FR s' t' n ∧ pl t'=delL k (pl t) ∧ t'.Room=t.Room:=by
 obtain ⟨s',t',b,f1,f2,f3,f4⟩:=Zsx h.rel hn k
 have hd:=Z4g h.rel hn f1
 rw [f3.top] at hd
 have hro:t'.Room=t.Room:=by rw [← f3.room,Zph f1,h.rel.room]
 have hf:=h.fit
 refine ⟨s',t',b,f1,⟨f3,fun q hq=>?_,?_⟩,hd,hro⟩
 ·rw [hd] at hq;exact h.good q (Zoy hq)
 ·have:=Zou k (pl t)
  rw [Zeo] at this
  rw [hro,← Zeo,hd];omega
theorem Zba0 {s:Zk} {t:Zf} {n:Nat} (h:FR s t n) (hn:n < 1000000) {k:ByteArray} {y:Zb} (hw:RecW y) (hg:Zcl y) (k1:sEq k ⟨#[]⟩=false) (k2:k.size ≤ 24) (ho:(lk k (pl t)).isSome=true ∨ (t.L.length:Int) < t.Room) :
  ∃ s' t',Zdc s k y=some (s',0) ∧ FR s' t' (n + 1) ∧ pl t'=insL k y (pl t) ∧ t'.Room=t.Room:=by
 have hsh:=Zn5 hg
 obtain ⟨s',t',c,f1,f2,f3,_⟩:=Zox h.rel hn k hw.ok (by omega)
 obtain ⟨rfl,hp⟩:=(Zop h.rel hn f1 ((Ziw hw.ok).2 hg) (by omega) k1 k2).1 ho
 rw [f3.top] at hp
 have hro:t'.Room=t.Room:=by rw [← f3.room,Zia f1,h.rel.room]
 exact ⟨s',t',f1,Zxi h f3 hw hg ho hp hro,hp,hro⟩
theorem Zqz {d:Z9} (hl:d.Acts.length ≤ 12):∀ (n i:Nat),i + n=d.Acts.length → Zgk d (n + 1) (i:Int)=some (.inr ()) → ∀ a ∈ d.Acts.drop i,Zf1 a=some 0
 | 0,i,h,_,a,ha=>by
  rw [List.drop_of_length_le (by omega)] at ha;cases ha
 | n + 1,i,h,e,a,ha=>by
  have h1:i < d.Acts.length:=by omega
  rw [Zgk,if_pos (by simp;omega),Zc1 h1,wr1 (by omega)] at e
  simp only [Option.bind_some] at e
  obtain ⟨c,e1,e⟩:=Option.bind_eq_some_iff.1 e
  by_cases hc:(c != 0)=true
  ·rw [if_pos hc] at e;cases e
  ·rw [if_neg hc] at e
   rw [List.drop_eq_getElem_cons h1] at ha
   rcases List.mem_cons.1 ha with rfl | ha
   ·rw [e1]
    have:c=0:=by simpa using hc
    rw [this]
   ·exact Zqz hl n (i + 1) (by omega) e a ha
theorem Z3b {d:Z9} {at_:Int} (hd:∀ a ∈ d.Acts,ActIn a) (e:Zgq d=some (0,at_)):d.Acts.length ≤ 12 ∧ ∀ a ∈ d.Acts,Zf1 a=some 0:=by
 obtain ⟨c,at2,e1,_,hc⟩:=Zng hd
 rw [e] at e1
 simp only [Option.some.injEq,Prod.mk.injEq] at e1
 have hl:=hc e1.1.symm
 refine ⟨hl.2,?_⟩
 unfold Zgq at e
 rw [if_neg (by rw [Bool.or_eq_true,beq_iff_eq,decide_eq_true_eq];omega),show (Int.toNat ((d.Acts.length:Int) - (0:Int)) + 1)=d.Acts.length + 1 by omega] at e
 obtain ⟨z,ez,e⟩:=Option.bind_eq_some_iff.1 e
 have hz:z=.inr ():=by
  rcases z with ⟨c,b⟩ | u
  ·simp only [Option.some.injEq,Prod.mk.injEq] at e
   obtain ⟨z2,f1,_,f3⟩:=Zrl hd hl.2 d.Acts.length 0 (by omega)
   rw [show ((0:Nat):Int)=0 from rfl,ez] at f1
   simp only [Option.some.injEq] at f1
   subst f1
   rcases f3 with f3 | ⟨c2,a2,f3,f4⟩
   ·cases f3
   ·simp only [Sum.inl.injEq,Prod.mk.injEq] at f3
    exact absurd (f3.1.symm.trans e.1) f4
  ·rfl
 subst hz
 exact Zqz hl.2 d.Acts.length 0 (by omega) ez
theorem Zvd {h:Zw} (hl:h.d.Acts.length ≤ 1000) (hs:h.split.length ≤ 1000):∀ (n i:Nat) (xs:List Zn) (ks:List ByteArray),i + n=h.d.Acts.length → xs.length ≤ i → ks.length ≤ i → Zdl h (n + 1) xs ks (i:Int)=some (xs ++ Zlg h.split (h.d.Acts.drop i),ks ++ Zgb h.split (h.d.Acts.drop i))
 | 0,i,xs,ks,hi,_,_=>by
  rw [Zdl,if_neg (by simp;omega),List.drop_of_length_le (by omega)]
  simp [Zlg,Zgb]
 | n + 1,i,xs,ks,hi,h2,h3=>by
  have h1:i < h.d.Acts.length:=by omega
  rw [Zdl,if_pos (by simp;omega),Zc1 h1,List.drop_eq_getElem_cons h1]
  simp only [Option.bind_some]
  rw [Zri _ hs]
  simp only [Option.bind_some,Zgy,wr1 (show i < 9223372036854775807 by omega)]
  by_cases hb:hasB h.split (h.d.Acts[i]).Key=true
  ·rw [if_pos hb,if_pos (by simp;omega),Zvd hl hs n (i + 1) _ _ (by omega) (by simp;omega) (by omega)]
   rw [Zbd0 hb,Z9u (by rw [hb];rfl),List.append_assoc]
   rfl
  ·rw [if_neg hb]
   have hb':=Bool.eq_false_iff.2 hb
   simp only [Zjy,Option.bind_some]
   by_cases hrd:Ze2 (h.d.Acts[i]).Kind=true
   ·have hrd':=hrd
    unfold Ze2 at hrd'
    rw [hrd']
    simp only [Bool.not_true,Bool.false_eq_true,if_false]
    rw [Zvd hl hs n (i + 1) _ _ (by omega) (by omega) (by omega)]
    rw [Z1i hb',Z9u (by rw [hrd,hb'];rfl)]
   ·have hrd1:=Bool.eq_false_iff.2 hrd
    have hrd':=hrd1
    unfold Ze2 at hrd'
    rw [hrd']
    simp only [Bool.not_false,if_true]
    rw [if_pos (by simp;omega),Zvd hl hs n (i + 1) _ _ (by omega) (by omega) (by simp;omega)]
    rw [Z1i hb',Zbdi (by rw [hrd1,hb'];rfl),List.append_assoc]
    rfl
theorem Zx9 {h:Zw} {tn:Zf} {nn:Nat} (hnow:FR h.now tn nn) {K:List ByteArray} (hl:K.length ≤ 1000):∀ (n i:Nat) {s:Zk} {t:Zf} {m:Nat},i + n=K.length → FR s t m → m < 1000000 →
  ∃ s' t',Zd0 h K (n + 1) s (i:Int)=some s' ∧ FR s' t' m ∧ t'.Room=t.Room ∧ (∀ z,z ∈ K.drop i → lk z (pl tn)=none → lk z (pl t')=none) ∧ (∀ z,¬ (z ∈ K.drop i ∧ lk z (pl tn)=none) → lk z (pl t')=lk z (pl t))
 | 0,i,s,t,m,hi,hf,hm=>by
  rw [Zd0,if_neg (by simp;omega),List.drop_of_length_le (by omega)]
  exact ⟨s,t,rfl,hf,rfl,fun z hz=>(by cases hz),fun z _=>rfl⟩
 | n + 1,i,s,t,m,hi,hf,hm=>by
  have h1:i < K.length:=by omega
  rw [Zd0,if_pos (by simp;omega),Zc1 h1,List.drop_eq_getElem_cons h1]
  simp only [Option.bind_some]
  rw [Zno hnow.rel]
  simp only [Option.bind_some,Zij,wr1 (show i < 9223372036854775807 by omega)]
  cases hk:lk K[i] (pl tn) with
  | none =>
   simp only [getR,Bool.not_false,if_true]
   obtain ⟨s1,t1,b,f1,f2,f3,f4⟩:=Zbav hf hm K[i]
   rw [f1]
   simp only [Option.bind_some]
   obtain ⟨s',t',g1,g2,g3,g4,g5⟩:=Zx9 hnow hl n (i + 1) (by omega) f2 hm
   refine ⟨s',t',g1,g2,g3.trans f4,fun z hz hn=>?_,fun z hz=>?_⟩
   ·by_cases hr:z ∈ K.drop (i + 1)
    ·exact g4 z hr hn
    ·rw [g5 z (fun h=>hr h.1),f3,Ztv z _ hf.rel.srt]
     rcases List.mem_cons.1 hz with rfl | hz
     ·rw [Zdp];rfl
     ·exact absurd hz hr
   ·rw [g5 z (fun h=>hz ⟨List.mem_cons_of_mem _ h.1,h.2⟩),f3,Ztv z _ hf.rel.srt,if_neg]
    intro he
    exact hz ⟨by rw [Zcx.1 he];exact List.mem_cons_self ..,by rw [Zcx.1 he];exact hk⟩
  | some r =>
   simp only [getR,Bool.not_true,Bool.false_eq_true,if_false]
   obtain ⟨s',t',g1,g2,g3,g4,g5⟩:=Zx9 hnow hl n (i + 1) (by omega) hf hm
   refine ⟨s',t',g1,g2,g3,fun z hz hn=>?_,fun z hz=>?_⟩
   ·rcases List.mem_cons.1 hz with rfl | hz
    ·rw [hk] at hn;cases hn
    ·exact g4 z hz hn
   ·exact g5 z (fun h=>hz ⟨List.mem_cons_of_mem _ h.1,h.2⟩)
theorem Zyo {h:Zw} {tn:Zf} {nn:Nat} (hnow:FR h.now tn nn) {K:List ByteArray} (hl:K.length ≤ 1000) {T:List KV} {R:Int} (hT:Srt T) (hTR:(T.length:Int) ≤ R) (hTK:∀ z ∈ K,lk z T=lk z (pl tn)) (hok:∀ k ∈ K,sEq k ⟨#[]⟩=false ∧ k.size ≤ 24):∀ (n i:Nat) {s:Zk} {t:Zf} {m:Nat},i + n=K.length → FR s t m → m + n < 1000000 → t.Room=R → (∀ z,(lk z (pl t)).isSome=true → (lk z T).isSome=true) →
  ∃ s' t',Zdz h K (n + 1) s (i:Int)=some s' ∧ FR s' t' (m + n) ∧ t'.Room=R ∧ (∀ z,z ∈ K.drop i → (lk z (pl tn)).isSome=true → lk z (pl t')=lk z (pl tn)) ∧ (∀ z,¬ (z ∈ K.drop i ∧ (lk z (pl tn)).isSome=true) → lk z (pl t')=lk z (pl t))
 | 0,i,s,t,m,hi,hf,hm,hr,_=>by
  rw [Zdz,if_neg (by simp;omega),List.drop_of_length_le (by omega)]
  exact ⟨s,t,rfl,hf,hr,fun z hz=>(by cases hz),fun z _=>rfl⟩
 | n + 1,i,s,t,m,hi,hf,hm,hr,hsub=>by
  have h1:i < K.length:=by omega
  have hKi:=List.getElem_mem h1
  rw [Zdz,if_pos (by simp;omega),Zc1 h1,List.drop_eq_getElem_cons h1]
  simp only [Option.bind_some]
  rw [Zno hnow.rel]
  simp only [Option.bind_some,Zil,wr1 (show i < 9223372036854775807 by omega)]
  cases hk:lk K[i] (pl tn) with
  | none =>
   simp only [getR,Bool.false_eq_true,if_false]
   obtain ⟨s',t',g1,g2,g3,g4,g5⟩:=Zyo hnow hl hT hTR hTK hok n (i + 1) (by omega) hf (by omega) hr hsub
   refine ⟨s',t',g1,g2.mono (by omega),g3,fun z hz hn=>?_,fun z hz=>?_⟩
   ·rcases List.mem_cons.1 hz with rfl | hz
    ·rw [hk] at hn;cases hn
    ·exact g4 z hz hn
   ·exact g5 z (fun h=>hz ⟨List.mem_cons_of_mem _ h.1,h.2⟩)
  | some r =>
   simp only [getR,if_true]
   obtain ⟨hw,hg⟩:=hnow.good _ (Zto hk)
   have hTk:lk K[i] T=some r:=by rw [hTK _ hKi,hk]
   obtain ⟨s1,t1,f1,f2,f3,f4⟩:=Zba0 hf (by omega) hw hg (hok _ hKi).1 (hok _ hKi).2 (by
    cases hc:lk K[i] (pl t) with
    | some _=>exact .inl rfl
    | none =>
     right
     have:=Z8p hf.rel.srt hT hsub hc (by rw [hTk];rfl)
     rw [Zeo] at this
     omega)
   rw [f1]
   simp only [Option.bind_some]
   have hl1:∀ z,lk z (pl t1)=if sEq z K[i]=true then some r else lk z (pl t):=fun z=>by rw [f3,Zxt]
   obtain ⟨s',t',g1,g2,g3,g4,g5⟩:=Zyo hnow hl hT hTR hTK hok n (i + 1) (by omega) f2 (by omega) (f4.trans hr) (fun z hz=>by
    rw [hl1] at hz
    by_cases he:sEq z K[i]=true
    ·rw [Zcx.1 he,hTk];rfl
    ·rw [if_neg he] at hz
     exact hsub z hz)
   refine ⟨s',t',g1,g2.mono (by omega),g3,fun z hz hn=>?_,fun z hz=>?_⟩
   ·by_cases hr2:z ∈ K.drop (i + 1)
    ·exact g4 z hr2 hn
    ·rcases List.mem_cons.1 hz with rfl | hz
     ·rw [g5 _ (fun h=>hr2 h.1),hl1,Zdp,hk];rfl
     ·exact absurd hz hr2
   ·rw [g5 z (fun h=>hz ⟨List.mem_cons_of_mem _ h.1,h.2⟩),hl1,if_neg]
    intro he
    exact hz ⟨by rw [Zcx.1 he];exact List.mem_cons_self ..,by rw [Zcx.1 he,hk];rfl⟩
theorem Zzm {h:Zw} {s:Zk} (hc:h.over=false ∨ h.out.Code ≠ 0):Zde h s=some (s,[]):=by
 unfold Zde
 rw [if_pos]
 rcases hc with hc | hc
 ·rw [hc];rfl
 ·simp [hc]
theorem Zvv {h:Zw} {d:Z9} {sp:List ByteArray} {R:Int} {Lf:List KV} {Q:Zs} {n:Nat} (hd:∀ a ∈ d.Acts,ActIn a) (hs:sp.length ≤ 1000) (H:HandGo h d sp R Lf Q n 0) (hq:Q.Code=0) {at_:Int} (hc:Zgq d=some (0,at_)) {s:Zk} {t:Zf} {m:Nat} (hf:FR s t m) (hm:m < 900000) (hr:t.Room=R)
  {T:List KV} (hT:Srt T) (hTR:(T.length:Int) ≤ R) (h1:∀ z ∈ Zgb sp d.Acts,lk z T=lk z Lf) (h2:∀ z,z ∉ Zgb sp d.Acts → lk z T=lk z (pl t)) :
  ∃ s' t',Zde h s=some (s',Zlg sp d.Acts) ∧ FR s' t' (m + 12) ∧ pl t'=T ∧ t'.Room=R:=by
 obtain ⟨hl,hca⟩:=Z3b hd hc
 obtain ⟨e1,e2,_,_,e3⟩:=H.done hd
 obtain ⟨_,_,tn,f1,f2,f3⟩:=e3 hq
 have hhd:=H.hd
 have hhs:=H.hsp
 have hKl:(Zgb sp d.Acts).length ≤ 12:=by
  unfold Zgb
  rw [List.length_map]
  exact Nat.le_trans (List.length_filter_le ..) hl
 have hok:∀ k ∈ Zgb sp d.Acts,sEq k ⟨#[]⟩=false ∧ k.size ≤ 24:=fun k hk=>by
  obtain ⟨a,ha,rfl⟩:=List.mem_map.1 hk
  have ha:=(List.mem_filter.1 ha).1
  exact Z1u (hd a ha) (hca a ha)
 subst f3
 unfold Zde
 rw [e1,e2,hq]
 simp only [Bool.not_true,bne_self_eq_false,Bool.or_self,Bool.false_eq_true,if_false]
 have c1:=Zvd (h:=h) (by rw [hhd];omega) (by rw [hhs];exact hs) d.Acts.length 0 [] [] (by rw [hhd];omega) (by simp) (by simp)
 rw [hhd,hhs,List.drop_zero,List.nil_append,List.nil_append,show ((0:Nat):Int)=0 from rfl] at c1
 rw [hhd,show (Int.toNat ((d.Acts.length:Int) - (0:Int)) + 1)=d.Acts.length + 1 by omega,c1]
 simp only [Option.bind_some]
 obtain ⟨s1,t1,g1,g2,g3,g4,g5⟩:=Zx9 f1 (K:=Zgb sp d.Acts) (by omega) (Zgb sp d.Acts).length 0 (by omega) hf (by omega)
 rw [show ((0:Nat):Int)=0 from rfl] at g1
 rw [show (Int.toNat (((Zgb sp d.Acts).length:Int) - (0:Int)) + 1)=(Zgb sp d.Acts).length + 1 by omega,g1]
 simp only [Option.bind_some]
 rw [List.drop_zero] at g4 g5
 obtain ⟨s2,t2,k1,k2,k3,k4,k5⟩:=Zyo f1 (K:=Zgb sp d.Acts) (by omega) hT hTR h1 hok (Zgb sp d.Acts).length 0 (by omega) g2 (by omega) (g3.trans hr) (fun z hz=>by
  by_cases hk:z ∈ Zgb sp d.Acts
  ·rw [h1 z hk]
   cases hn:lk z (pl tn) with
   | some _=>rfl
   | none=>rw [g4 z hk hn] at hz;cases hz
  ·rw [h2 z hk,← g5 z (fun h=>hk h.1)];exact hz)
 rw [show ((0:Nat):Int)=0 from rfl] at k1
 rw [k1]
 simp only [Option.bind_some]
 rw [List.drop_zero] at k4 k5
 have hsa:∀ a ∈ Zlg sp d.Acts,ActIn a:=fun a ha=>hd a (List.mem_filter.1 ha).1
 rw [Zzu (d:={ Acts:=Zlg sp d.Acts }) hsa (Nat.le_trans (List.length_filter_le ..) (by omega))]
 refine ⟨s2,t2,rfl,k2.mono (by omega),Zr5 k2.rel.srt hT fun z=>?_,k3⟩
 by_cases hk:z ∈ Zgb sp d.Acts
 ·cases hn:lk z (pl tn) with
  | some r=>rw [k4 z hk (by rw [hn];rfl),h1 z hk]
  | none=>rw [k5 z (fun h=>by rw [hn] at h;cases h.2),g4 z hk hn,h1 z hk,hn]
 ·rw [k5 z (fun h=>hk h.1),g5 z (fun h=>hk h.1),h2 z hk]
structure SOk (s:Zk):Prop where
 sz:Szd s.top
 srt:Srt (toL s.top)
 len:(toL s.top).length < 1000000
 ok:∀ q ∈ toL s.top,Zi4 q.2 ∧ q.2.List.length ≤ 100
theorem SOk.cl {s:Zk} (h:SOk s):∀ q ∈ toL s.top,Cl q.2:=fun q hq=>by
 have:=(h.ok q hq).2
 unfold Cl;omega
theorem Zrb {R:Int} {sp:List ByteArray} {L Lf:List KV} {d:Z9} {Q:Zs} (e:oneS R sp L d=some (Lf,Q)) (hq:Q.Code=0):(∃ at_,Zgq d=some (0,at_)) ∧ runS R sp d.Acts L=some (Lf,Q.Answers,0) ∧ Q={ Code:=0,At:=0,Answers:=Q.Answers }:=by
 unfold oneS at e
 obtain ⟨⟨c,at_⟩,e1,e⟩:=Option.bind_eq_some_iff.1 e
 by_cases h0:(c != 0)=true
 ·rw [if_pos h0] at e
  cases e
  exact absurd hq (by simpa using h0)
 ·rw [if_neg h0] at e
  obtain rfl:c=0:=by simpa using h0
  obtain ⟨⟨w1,w2,w3⟩,r1,e⟩:=Option.bind_eq_some_iff.1 e
  by_cases hw:w3=0
  ·rw [if_pos hw] at e
   simp only [Option.some.injEq,Prod.mk.injEq] at e
   obtain ⟨rfl,rfl⟩:=e
   subst hw
   exact ⟨⟨_,e1⟩,r1,rfl⟩
  ·rw [if_neg hw] at e
   simp only [Option.some.injEq,Prod.mk.injEq] at e
   obtain ⟨rfl,rfl⟩:=e
   exact absurd hq hw
theorem Zsg {R:Int} {sp:List ByteArray} {L Lf:List KV} {d:Z9} {Q:Zs} (e:oneS R sp L d=some (Lf,Q)) (hq:Q.Code ≠ 0):Lf=L ∧ Q.Answers=[]:=by
 unfold oneS at e
 obtain ⟨⟨c,at_⟩,e1,e⟩:=Option.bind_eq_some_iff.1 e
 by_cases h0:(c != 0)=true
 ·rw [if_pos h0] at e
  cases e
  exact ⟨rfl,rfl⟩
 ·rw [if_neg h0] at e
  obtain ⟨⟨w1,w2,w3⟩,r1,e⟩:=Option.bind_eq_some_iff.1 e
  by_cases hw:w3=0
  ·rw [if_pos hw] at e
   cases e
   exact absurd rfl hq
  ·rw [if_neg hw] at e
   cases e
   exact ⟨rfl,rfl⟩
theorem Zu2 {R:Int} {sp:List ByteArray} {L Lf:List KV} {d:Z9} {Q:Zs} (h:InvK L) (hd:∀ a ∈ d.Acts,ActIn a) (e:oneS R sp L d=some (Lf,Q)):∀ z,z ∉ Zgb sp d.Acts → lk z Lf=lk z L:=fun z hz=>by
 by_cases hq:Q.Code=0
 ·exact Z35 h hd (Zrb e hq).2.1 z hz
 ·rw [(Zsg e hq).1]
theorem Z2t {h:Zw} {d:Z9} {sp:List ByteArray} {R:Int} {Lf:List KV} {Q:Zs} {n:Nat} (hd:∀ a ∈ d.Acts,ActIn a) (hs:sp.length ≤ 1000) (H:HandGo h d sp R Lf Q n 0) {s:Zk} {t:Zf} {m:Nat} (hf:FR s t m) (hm:m < 900000) (hr:t.Room=R) (e:oneS R sp (pl t) d=some (Lf,Q)) :
  ∃ s' t',Zde h s=some (s',if Q.Code=0 then Zlg sp d.Acts else []) ∧ FR s' t' (m + 12) ∧ pl t'=Lf ∧ t'.Room=R:=by
 by_cases hq:Q.Code=0
 ·obtain ⟨_,_,_,_,e3⟩:=H.done hd
  obtain ⟨_,_,tn,f1,f2,f3⟩:=e3 hq
  obtain ⟨⟨at_,hc⟩,_⟩:=Zrb e hq
  have hfit:=f1.fit
  have hsrt:=f1.rel.srt
  rw [f3] at hsrt
  rw [← Zeo,f3,f2] at hfit
  rw [if_pos hq]
  exact Zvv hd hs H hq hc hf hm hr hsrt hfit (fun _ _=>rfl) (Zu2 hf.inv hd e)
 ·obtain ⟨_,e2,_⟩:=H.done hd
  rw [if_neg hq,Zzm (.inr (by rw [e2];exact hq))]
  exact ⟨s,t,rfl,hf.mono (by omega),(Zsg e hq).1.symm,hr⟩
theorem Z9x {s:Zk} {t t':Zf} {m:Nat} (h:FR s t m) (hm:m < 1000000) (e:pl t'=pl t) (hr:t'.Room=t.Room):Zir s t'=some 1:=Zbeo (Z7f h.rel e hr) hm
theorem Z56:∀ A:List Zn,Zlg [] A=[]
 | []=>rfl
 | a :: A=>by rw [Z1i rfl];exact Z56 A
theorem Z88:Zkp=some true:=by kernel_rfl
theorem Z6t {s:Zk} {t:Zf} {n:Nat} (h:FR s t n) (hn:n < 1000000) {a:Zn} (ha:ActIn a) :
  ∃ s' t' out,Znm s a=some (s',out) ∧ Zi8 t a=some (t',out) ∧ FR s' t' (n + 1) ∧ RecW out.Rec ∧ t'.Room=t.Room:=by
 obtain ⟨r,there,hg,hi,hl1,hl2⟩:∃ r there,getR (lk a.Key (pl t))=(r,there) ∧ Z39 there r ∧ (there=true → lk a.Key (pl t)=some r) ∧ (there=false → lk a.Key (pl t)=none):=by
  cases hl:lk a.Key (pl t) with
  | none=>exact ⟨_,_,rfl,⟨Zcm,fun h=>(by cases h),fun _=>rfl⟩,fun h=>(by cases h),fun _=>rfl⟩
  | some r =>
   obtain ⟨g1,g2⟩:=h.good _ (Zto hl)
   exact ⟨_,_,rfl,⟨g1,fun _=>g2,fun h=>(by cases h)⟩,fun _=>rfl,fun h=>(by cases h)⟩
 obtain ⟨x,is,out,e1,e2,w1,w2⟩:=Z5w (there:=there) hi.w ha
 obtain ⟨z,e3,hs⟩:=Zk7 (there:=there) hi.w ha
 have hr0:(if there=true then r else zrc)=r:=by
  cases there
  ·exact (hi.zero rfl).symm
  ·rfl
 rw [hr0] at hs
 rw [e1] at e3
 obtain rfl:=Option.some.inj e3
 unfold Znm Zi8
 rw [Zno h.rel,Zbaw h.rel hn,hg]
 simp only [Option.bind_some]
 rw [e1,e2]
 simp only [Option.bind_some,Zjy]
 rcases hs with ⟨c,hc,hz⟩ | ⟨h1,h2,h3,hs⟩
 ·obtain ⟨rfl,rfl,rfl⟩:x=r ∧ is=there ∧ out=ans c:=by simpa using hz
  have hc':(c != 0)=true:=by simpa using hc
  simp only [hc',Bool.not_true,gd_f,Option.bind_some,Bool.true_or,if_true]
  exact ⟨s,t,_,rfl,rfl,h.mono (by omega),w2,rfl⟩
 obtain ⟨k1,k2⟩:=Z1u ha h1
 have hset:∀ {y:Zb},RecW y → Zcl y → ((lk a.Key (pl t)).isSome=true ∨ (t.L.length:Int) < t.Room) → ∃ s' t',Zdc s a.Key y=some (s',0) ∧ Zff t a.Key y=some (t',0) ∧ FR s' t' (n + 1) ∧ pl t'=insL a.Key y (pl t):=fun {y} hw hgy ho=>by
  have hsh:=Zn5 hgy
  obtain ⟨s',t',c,f1,f2,f3,_⟩:=Zox h.rel hn a.Key hw.ok (by omega)
  obtain ⟨rfl,hp⟩:=(Zop h.rel hn f1 ((Ziw hw.ok).2 hgy) (by omega) k1 k2).1 ho
  rw [f3.top] at hp
  exact ⟨s',t',f1,f2,Zxi h f3 hw hgy ho hp (by rw [← f3.room,Zia f1,h.rel.room]),hp⟩
 rcases hs with ⟨hk,rfl,hmk,hz⟩ | ⟨hk,rfl,hz⟩ | ⟨hk,hz⟩ | ⟨hk,rfl,hz⟩ | ⟨k5,k21,rfl,kon,r',o,q1,q2,q3,q4,q5,hz⟩
 ·
  obtain ⟨rfl,rfl,rfl⟩:x=a.Make ∧ is=true ∧ out=ans 0:=by simpa using hz
  have hl:=hl2 rfl
  rw [hk]
  simp only [bne_self_eq_false,Bool.not_false,gd_t,Option.bind_some,show ((((((1:Int) == 3) || ((1:Int) == 4)) || ((1:Int) == 9)) || ((1:Int) == 12)) || ((1:Int) == 20))=false from rfl,Bool.or_self,Bool.false_eq_true,if_false,Bool.not_true,beq_self_eq_true,Bool.true_and]
  by_cases hr:t.Room ≤ (t.L.length:Int)
  ·rw [if_pos (by simpa using hr)]
   have hsh:=Zn5 hmk
   obtain ⟨s',t',c,f1,f2,f3,_⟩:=Zox h.rel hn a.Key ha.mkr.ok (by omega)
   obtain ⟨rfl,rfl⟩:=(Zop h.rel hn f1 ((Ziw ha.mkr.ok).2 hmk) (by omega) k1 k2).2 (by rw [hl];rfl) hr
   rw [f1]
   exact ⟨s',t,_,rfl,rfl,h.mono (by omega),Zcm,rfl⟩
  ·rw [if_neg (by simpa using hr)]
   obtain ⟨s',t',f1,f2,f3,_⟩:=hset ha.mkr hmk (.inr (by omega))
   rw [f1,f2]
   exact ⟨s',t',_,rfl,rfl,f3,Zcm,by rw [← f3.rel.room,Zia f1,h.rel.room]⟩
 ·
  obtain ⟨rfl,rfl,rfl⟩:x=zrc ∧ is=false ∧ out=ans 0:=by simpa using hz
  rw [hk]
  obtain ⟨s',t',b,f1,f2,f3,f4⟩:=Zsx h.rel hn a.Key
  rw [f1,f2]
  have hro:t'.Room=t.Room:=by rw [← f3.room,Zph f1,h.rel.room]
  have hf:=h.fit
  refine ⟨s',t',ans 0,rfl,rfl,⟨f3.mono (by omega),fun q hq=>?_,?_⟩,Zcm,hro⟩
  ·rcases f4 with f4 | f4
   ·rw [f4] at hq;exact h.good q hq
   ·rw [f4] at hq;exact h.good q (Zoy hq)
  ·rw [hro,← Zeo]
   rcases f4 with f4 | f4
   ·rw [f4,Zeo];exact hf
   ·have:=Zou a.Key (pl t)
    rw [Zeo] at this
    rw [f4];omega
 ·
  obtain ⟨rfl,rfl,rfl⟩:x=r ∧ is=there ∧ out={ ans 0 with Num:=r.Kind }:=by simpa using hz
  rw [hk]
  cases is with
  | true =>
   have hl:=hl1 rfl
   obtain ⟨s',t',f1,f2,f3,f4⟩:=hset hi.w (hi.good rfl) (.inl (by rw [hl];rfl))
   rw [f2]
   rw [Zuo h.rel.srt hl] at f4
   exact ⟨s,t',_,rfl,rfl,(Zr4 h f4 (by rw [← f3.rel.room,Zia f1,h.rel.room])).mono (by omega),Zcm,by rw [← f3.rel.room,Zia f1,h.rel.room]⟩
  | false =>
   have hl:=hl2 rfl
   obtain ⟨s',t',b,f1,f2,f3,f4⟩:=Zsx h.rel hn a.Key
   rw [f2]
   have hp:pl t'=pl t:=by
    rcases f4 with f4 | f4
    ·exact f4
    ·rcases Zlu x h.rel.srt with ⟨_,_,_,a3,_⟩ | ⟨_,_,_,a4⟩
     ·rw [hl] at a3;cases a3
     ·rw [f4,a4]
   exact ⟨s,t',_,rfl,rfl,(Zr4 h hp (by rw [← f3.room,Zph f1,h.rel.room])).mono (by omega),Zcm,by rw [← f3.room,Zph f1,h.rel.room]⟩
 ·
  obtain ⟨rfl,rfl,rfl⟩:x=r ∧ is=true ∧ out={ ans 0 with Rec:=r }:=by simpa using hz
  rw [hk]
  have hl:=hl1 rfl
  obtain ⟨s',t',f1,f2,f3,f4⟩:=hset hi.w (hi.good rfl) (.inl (by rw [hl];rfl))
  rw [f2]
  rw [Zuo h.rel.srt hl] at f4
  exact ⟨s,t',_,rfl,rfl,(Zr4 h f4 (by rw [← f3.rel.room,Zia f1,h.rel.room])).mono (by omega),hi.w,by rw [← f3.rel.room,Zia f1,h.rel.room]⟩
 ·
  obtain ⟨rfl,rfl,rfl⟩:x=r' ∧ is=true ∧ out=o:=by simpa using hz
  have hl:=hl1 rfl
  have hgx:Zcl x:=Zqm k5 k21 kon hi.w (hi.good rfl) h2 q1
  obtain ⟨s',t',f1,f2,f3,f4⟩:=hset q4 hgx (.inl (by rw [hl];rfl))
  have hk1:(a.Kind == 1)=false:=by simp;omega
  rw [q2,hk1]
  simp only [bne_self_eq_false,Bool.not_false,gd_t,Option.bind_some,Bool.false_or,Bool.false_eq_true,if_false,Bool.not_true,Bool.false_and]
  rw [f1,f2]
  by_cases hrd:(((((a.Kind == (3:Int)) || (a.Kind == (4:Int))) || (a.Kind == (9:Int))) || (a.Kind == (12:Int))) || (a.Kind == (20:Int)))=true
  ·rw [if_pos hrd]
   have hx:x=r:=by
    refine Zp2 ?_ hi.w (hi.good rfl) kon q1
    simp only [Bool.or_eq_true,beq_iff_eq] at hrd
    omega
   subst hx
   rw [Zuo h.rel.srt hl] at f4
   exact ⟨s,t',_,rfl,rfl,(Zr4 h f4 (by rw [← f3.rel.room,Zia f1,h.rel.room])).mono (by omega),q5,by rw [← f3.rel.room,Zia f1,h.rel.room]⟩
  ·rw [if_neg hrd]
   exact ⟨s',t',_,rfl,rfl,f3,q5,by rw [← f3.rel.room,Zia f1,h.rel.room]⟩
theorem Z6d {s:Zk} {t:Zf} {n:Nat} (h:FR s t n) (hn:n < 1000000) {a:Zn} (ha:ActIn a):∃ s' t' out,Zi8 t a=some (t',out) ∧ FR s' t' (n + 1) ∧ t'.Room=t.Room ∧ RecW out.Rec ∧ Zf6 t.Room (pl t) a=some (pl t',out):=by
 obtain ⟨s1,t1,o1,e1,e2,e3,e4,e5⟩:=Z6t h hn ha
 obtain ⟨s2,t2,o2,g1,g2,g3,g4,g5⟩:=Zzr h hn ha
 rw [e1] at g1
 simp only [Option.some.injEq,Prod.mk.injEq] at g1
 obtain ⟨rfl,rfl⟩:=g1
 have:pl t2=pl t1:=g2.rel.top.symm.trans e3.rel.top
 rw [this] at g5
 exact ⟨s1,t1,o1,e2,e3,e5,e4,g5⟩
theorem Zz1 {d:Z9} (hd:∀ a ∈ d.Acts,ActIn a) (hl:d.Acts.length ≤ 12) {t0:Zf}:∀ (n i:Nat) {s:Zk} {t:Zf} {m:Nat} {L:List Zd},i + n=d.Acts.length → FR s t m → m + n < 1000000 → L.length=i → Zo6 L →
  ∃ L' xs c,runK t.Room (d.Acts.drop i) (pl t)=some (L',xs,c) ∧
   ((c ≠ 0 ∧ Zes t0 d (n + 1) default default t L (i:Int)=some (.inl (t0,{ Code:=c,At:=((L.length + xs.length + 1:Nat):Int),Answers:=[] }))) ∨
    (c=0 ∧ ∃ s' t',Zes t0 d (n + 1) default default t L (i:Int)=some (.inr (default,default,t',L ++ xs)) ∧ FR s' t' (m + n) ∧ t'.Room=t.Room ∧ pl t'=L' ∧ Zo6 (L ++ xs) ∧ (L ++ xs).length=d.Acts.length))
 | 0,i,s,t,m,L,h,hf,hm,hL,hA=>by
  rw [Zes,if_neg (by simp;omega),List.drop_of_length_le (by omega)]
  exact ⟨pl t,[],0,rfl,.inr ⟨rfl,s,t,by rw [List.append_nil],hf,rfl,rfl,by rw [List.append_nil];exact hA,by rw [List.append_nil];omega⟩⟩
 | n + 1,i,s,t,m,L,h,hf,hm,hL,hA=>by
  have h1:i < d.Acts.length:=by omega
  obtain ⟨s',t',out,e1,hf',hro,hw,e2⟩:=Z6d hf (by omega) (hd _ (List.getElem_mem h1))
  rw [Zes,if_pos (by simp;omega),Zc1 h1,wr1 (by omega),List.drop_eq_getElem_cons h1,runK,e2]
  simp only [Option.bind_some]
  rw [e1]
  simp only [Option.bind_some]
  have hg:(gd (out.Code != 0) (some d.Acts[i]))=some (if (out.Code != 0)=true then d.Acts[i] else default):=Znt _ _
  rw [hg]
  simp only [Option.bind_some]
  have hb:((out.Code != 0) && (if (out.Code != 0)=true then d.Acts[i] else default).Must)=((d.Acts[i]).Must && (out.Code != 0)):=by
   cases hz:(out.Code != 0)
   ·simp
   ·simp
  rw [hb]
  by_cases hc:((d.Acts[i]).Must && (out.Code != 0))=true
  ·rw [if_pos hc,if_pos hc]
   have hne:out.Code ≠ 0:=by
    have:=(Bool.and_eq_true _ _ ▸ hc:_ ∧ _).2
    simpa using this
   subst hL
   exact ⟨_,_,_,rfl,.inl ⟨hne,rfl⟩⟩
  ·rw [if_neg hc,if_neg hc]
   have hlen:(L.length + [out].length) * 104 ≤ 140737488355328:=by simp;omega
   rw [if_pos hlen]
   obtain ⟨L',xs,c,r1,r2⟩:=Zz1 hd hl (t0:=t0) n (i + 1) (L:=L ++ [out]) (by omega) hf' (by omega) (by simp;omega) (Zxf hA hw)
   rw [hro] at r1
   rw [r1]
   refine ⟨L',out :: xs,c,rfl,?_⟩
   rcases r2 with ⟨hc0,r2⟩ | ⟨hc0,s2,t2,r2,r3,r4,r5,r6,r7⟩
   ·refine .inl ⟨hc0,?_⟩
    rw [r2]
    have:(L ++ [out]).length + xs.length + 1=L.length + (out :: xs).length + 1:=by simp;omega
    rw [this]
   ·have ha:L ++ [out] ++ xs=L ++ out :: xs:=by simp
    rw [ha] at r2 r6 r7
    exact .inr ⟨hc0,s2,t2,r2,r3.mono (by omega),r4.trans hro,r5,r6,r7⟩
theorem rone {s:Zk} {t:Zf} {n:Nat} (h:FR s t n) (hn:n + 12 < 1000000) {d:Z9} (hd:∀ a ∈ d.Acts,ActIn a) :
  ∃ s' t' R,Zh2 t d=some (t',R) ∧ FR s' t' (n + 12) ∧ t'.Room=t.Room ∧ Ztq R ∧ oneK t.Room (pl t) d=some (pl t',R):=by
 obtain ⟨c,at_,e1,e2,hc⟩:=Zng hd
 unfold Zh2 oneK
 rw [e1,e2]
 simp only [Option.bind_some]
 by_cases h0:(c != 0)=true
 ·rw [if_pos h0,if_pos h0]
  exact ⟨s,t,_,rfl,h.mono (by omega),rfl,⟨by simp,fun a ha=>by cases ha⟩,rfl⟩
 ·rw [if_neg h0,if_neg h0]
  have hl:=hc (by simpa using h0)
  obtain ⟨L',xs,k,r1,r2⟩:=Zz1 hd hl.2 (t0:=t) d.Acts.length 0 (L:=[]) (by omega) h (by omega) rfl (fun a ha=>by cases ha)
  rw [show ((0:Nat):Int)=0 from rfl] at r2
  rw [List.drop_zero] at r1
  rw [show (Int.toNat ((d.Acts.length:Int) - (0:Int)) + 1)=d.Acts.length + 1 by omega,r1]
  simp only [Option.bind_some]
  rcases r2 with ⟨hk,r2⟩ | ⟨hk,s2,t2,r2,r3,r4,r5,r6,r7⟩
  ·rw [r2,if_neg hk]
   exact ⟨s,t,_,rfl,h.mono (by omega),rfl,⟨by simp,fun a ha=>by cases ha⟩,by simp⟩
  ·rw [r2,if_pos hk]
   exact ⟨s2,t2,_,rfl,r3.mono (by omega),r4,⟨by rw [r7];exact hl.2,r6⟩,by rw [r5];rfl⟩
theorem Zv0 {R:Zs} (hR:Ztq R):∀ (n i:Nat),i + n=R.Answers.length → Zer R R (n + 1) (i:Int)=some (.inr ())
 | 0,i,h=>by rw [Zer,if_neg (by simp;omega)]
 | n + 1,i,h=>by
  have hl:=hR.1
  have h1:i < R.Answers.length:=by omega
  have hw:=hR.2 _ (List.getElem_mem h1)
  rw [Zer,if_pos (by simp;omega),Zc1 h1,wr1 (by omega)]
  simp only [Option.bind_some]
  rw [Zbcb hw hw]
  simp only [beq_self_eq_true,Zbdv,Bool.and_self,Option.bind_some,Bool.not_true,Bool.false_eq_true,if_false]
  exact Zv0 hR n (i + 1) (by omega)
theorem Zbdc {R:Zs} (hR:Ztq R):Zjg R R=some true:=by
 unfold Zjg
 simp only [bne_self_eq_false,Bool.or_self,Bool.false_eq_true,if_false]
 have:=Zv0 hR R.Answers.length 0 (by omega)
 rw [show ((0:Nat):Int)=0 from rfl] at this
 rw [show (Int.toNat ((R.Answers.length:Int) - (0:Int)) + 1)=R.Answers.length + 1 by omega,this]
 rfl
theorem Ztr {L:List Zs} (hl:L.length ≤ 1000) (hR:Z67 L):∀ (n i:Nat),i + n=L.length → Zei L L (n + 1) (i:Int)=some (.inr ())
 | 0,i,h=>by rw [Zei,if_neg (by simp;omega)]
 | n + 1,i,h=>by
  have h1:i < L.length:=by omega
  rw [Zei,if_pos (by simp;omega),Zc1 h1,wr1 (by omega)]
  simp only [Option.bind_some]
  rw [Zbdc (hR _ (List.getElem_mem h1))]
  simp only [Option.bind_some,Bool.not_true,Bool.false_eq_true,if_false]
  exact Ztr hl hR n (i + 1) (by omega)
theorem Zbba {L:List Zs} (hl:L.length ≤ 1000) (hR:Z67 L):Zji L L=some true:=by
 unfold Zji
 simp only [bne_self_eq_false,Bool.false_eq_true,if_false]
 have:=Ztr hl hR L.length 0 (by omega)
 rw [show ((0:Nat):Int)=0 from rfl] at this
 rw [show (Int.toNat ((L.length:Int) - (0:Int)) + 1)=L.length + 1 by omega,this]
 rfl
theorem Zzv {d:Z9} (hl:d.Acts.length ≤ 1000):∀ (n i:Nat),i + n=d.Acts.length →
  (Zcf d.Acts (fun y0=>Zjb y0) (n + 1) (i:Int)=some (.inr ()) ∧ ∀ a ∈ d.Acts.drop i,¬ Zlb a) ∨
   (∃ k:Nat,Zcf d.Acts (fun y0=>Zjb y0) (n + 1) (i:Int)=some (.inl (k:Int)))
 | 0,i,h=>by
  rw [Zcf,if_neg (by simp;omega),List.drop_of_length_le (by omega)]
  exact .inl ⟨rfl,fun a ha=>by cases ha⟩
 | n + 1,i,h=>by
  have h1:i < d.Acts.length:=by omega
  rw [Zcf,if_pos (by simp;omega),Zc1 h1,wr1 (by omega)]
  simp only [Option.bind_some,Zjb]
  by_cases hk:((d.Acts[i].Kind == (1:Int)) || (d.Acts[i].Kind == (2:Int)))=true
  ·rw [if_pos hk]
   exact .inr ⟨i,rfl⟩
  ·rw [if_neg hk]
   rcases Zzv hl n (i + 1) (by omega) with ⟨g1,g2⟩ | ⟨k,g1⟩
   ·refine .inl ⟨g1,fun a ha=>?_⟩
    rw [List.drop_eq_getElem_cons h1] at ha
    rcases List.mem_cons.1 ha with rfl | ha
    ·intro hr
     apply hk
     unfold Zlb at hr
     simpa using hr
    ·exact g2 a ha
   ·exact .inr ⟨k,g1⟩
theorem Z1r {d:Z9} (hl:d.Acts.length ≤ 1000):∃ b,Zl6 d=some b ∧ (b=false → ∀ a ∈ d.Acts,¬ Zlb a):=by
 have:=Zzv hl d.Acts.length 0 (by omega)
 rw [show ((0:Nat):Int)=0 from rfl,List.drop_zero] at this
 unfold Zl6 Ze0 Zfu
 rw [show (Int.toNat ((d.Acts.length:Int) - (0:Int)) + 1)=d.Acts.length + 1 by omega]
 rcases this with ⟨g1,g2⟩ | ⟨k,g1⟩
 ·rw [g1]
  exact ⟨false,rfl,fun _=>g2⟩
 ·rw [g1]
  refine ⟨true,?_,fun h=>by cases h⟩
  have:decide ((0:Int) ≤ (k:Int))=true:=decide_eq_true (by omega)
  simp only [Option.bind_some,this]
def OkM (a b:Zn):Prop:=a.Key=b.Key → Ze2 a.Kind=true ∧ Ze2 b.Kind=true
theorem Z9g {y:Z9} (hl:y.Acts.length ≤ 1000) (a:Zn):∀ (n i:Nat),i + n=y.Acts.length →
  Zht y [] a (n + 1) (i:Int)=some (.inl true) ∨ (Zht y [] a (n + 1) (i:Int)=some (.inr ()) ∧ ∀ b ∈ y.Acts.drop i,OkM a b)
 | 0,i,h=>by
  rw [Zht,if_neg (by simp;omega),List.drop_of_length_le (by omega)]
  exact .inr ⟨rfl,fun a ha=>by cases ha⟩
 | n + 1,i,h=>by
  have h1:i < y.Acts.length:=by omega
  have hr:∀ k,Zjy k=some (Ze2 k):=fun _=>rfl
  rw [Zht,if_pos (by simp;omega),Zc1 h1,wr1 (by omega)]
  simp only [Option.bind_some]
  rw [hr,Znt]
  simp only [Option.bind_some]
  rw [hr,Znt]
  simp only [Option.bind_some]
  rw [Zri _ (by simp),Znt]
  simp only [Option.bind_some]
  have hf:hasB [] a.Key=false:=rfl
  rw [hf]
  by_cases hc:(sEq a.Key (y.Acts[i]).Key && !(Ze2 a.Kind && Ze2 (y.Acts[i]).Kind))=true
  ·left
   rw [if_pos]
   revert hc
   cases sEq a.Key (y.Acts[i]).Key <;> cases Ze2 a.Kind <;> cases Ze2 (y.Acts[i]).Kind <;> simp
  ·rw [if_neg (by revert hc;cases sEq a.Key (y.Acts[i]).Key <;> cases Ze2 a.Kind <;> cases Ze2 (y.Acts[i]).Kind <;> simp)]
   rcases Z9g hl a n (i + 1) (by omega) with g | ⟨g1,g2⟩
   ·exact .inl g
   ·refine .inr ⟨g1,fun b hb=>?_⟩
    rw [List.drop_eq_getElem_cons h1] at hb
    rcases List.mem_cons.1 hb with rfl | hb
    ·intro he
     have hk:sEq a.Key (y.Acts[i]).Key=true:=Zcx.2 he
     rw [hk] at hc
     simpa using hc
    ·exact g2 b hb
theorem Z94 {x y:Z9} (hx:x.Acts.length ≤ 1000) (hy:y.Acts.length ≤ 1000):∀ (n i:Nat),i + n=x.Acts.length →
  Zhw x y [] (n + 1) (i:Int)=some (.inl true) ∨ (Zhw x y [] (n + 1) (i:Int)=some (.inr ()) ∧ ∀ a ∈ x.Acts.drop i,∀ b ∈ y.Acts,OkM a b)
 | 0,i,h=>by
  rw [Zhw,if_neg (by simp;omega),List.drop_of_length_le (by omega)]
  exact .inr ⟨rfl,fun a ha=>by cases ha⟩
 | n + 1,i,h=>by
  have h1:i < x.Acts.length:=by omega
  rw [Zhw,if_pos (by simp;omega),Zc1 h1,wr1 (by omega)]
  simp only [Option.bind_some]
  have:=Z9g hy x.Acts[i] y.Acts.length 0 (by omega)
  rw [show ((0:Nat):Int)=0 from rfl,List.drop_zero] at this
  rw [show (Int.toNat ((y.Acts.length:Int) - (0:Int)) + 1)=y.Acts.length + 1 by omega]
  rcases this with g | ⟨g,g0⟩
  ·rw [g];exact .inl rfl
  ·rw [g]
   simp only [Option.bind_some]
   rcases Z94 hx hy n (i + 1) (by omega) with g | ⟨g1,g2⟩
   ·exact .inl g
   ·refine .inr ⟨g1,fun a ha=>?_⟩
    rw [List.drop_eq_getElem_cons h1] at ha
    rcases List.mem_cons.1 ha with rfl | ha
    ·exact g0
    ·exact g2 a ha
theorem Zbcv {x y:Z9} (hx:x.Acts.length ≤ 1000) (hy:y.Acts.length ≤ 1000):∃ b,Zpn x y []=some b ∧ (b=false → ∀ a ∈ x.Acts,∀ b ∈ y.Acts,OkM a b ∧ ¬ (Zlb a ∧ Zlb b)):=by
 have:=Z94 hx hy x.Acts.length 0 (by omega)
 rw [show ((0:Nat):Int)=0 from rfl,List.drop_zero] at this
 unfold Zpn
 rw [show (Int.toNat ((x.Acts.length:Int) - (0:Int)) + 1)=x.Acts.length + 1 by omega]
 rcases this with g | ⟨g,g0⟩
 ·rw [g];exact ⟨true,rfl,fun h=>by cases h⟩
 ·rw [g]
  obtain ⟨p,p1,p2⟩:=Z1r hx
  obtain ⟨q,q1,q2⟩:=Z1r hy
  simp only [Option.bind_some]
  rw [p1]
  simp only [Option.bind_some]
  rw [q1]
  cases p with
  | false=>exact ⟨false,rfl,fun _ a ha b hb=>⟨g0 a ha b hb,fun h=>p2 rfl a ha h.1⟩⟩
  | true =>
   cases q with
   | false=>exact ⟨false,rfl,fun _ a ha b hb=>⟨g0 a ha b hb,fun h=>q2 rfl b hb h.2⟩⟩
   | true=>exact ⟨true,rfl,fun h=>by cases h⟩
theorem Zbd8 {a b:Zn} (h:OkM a b) (hr:¬ (Zlb a ∧ Zlb b)):OkP a b:=by
 refine ⟨?_,hr⟩
 by_cases hk:a.Key=b.Key
 ·obtain ⟨h1,h2⟩:=h hk
  right
  have f:∀ {k:Int},Ze2 k=true → 3 ≤ k ∧ k ≤ 21:=fun {k} h=>by
   unfold Ze2 at h
   simp only [Bool.or_eq_true,beq_iff_eq] at h
   omega
  exact ⟨(f h1).1,(f h1).2,(f h2).1,(f h2).2,.inl ⟨h1,h2⟩⟩
 ·exact .inl hk
theorem Z8y {x y:Z9} (h:∀ a ∈ x.Acts,∀ b ∈ y.Acts,OkM a b):∀ z,z ∈ Zgb [] x.Acts → z ∉ Zgb [] y.Acts:=fun z h1 h2=>by
 obtain ⟨a,ha,rfl⟩:=List.mem_map.1 h1
 obtain ⟨b,hb,e⟩:=List.mem_map.1 h2
 obtain ⟨a1,a2⟩:=List.mem_filter.1 ha
 obtain ⟨b1,b2⟩:=List.mem_filter.1 hb
 have:=h a a1 b b1 e.symm
 rw [this.1] at a2
 simp at a2
theorem Z2n {R:Int} {sp:List ByteArray} {L Lf:List KV} {d:Z9} {Q:Zs} (h:InvK L) (hd:∀ a ∈ d.Acts,ActIn a) (e:oneS R sp L d=some (Lf,Q)):InvK Lf:=by
 by_cases hq:Q.Code=0
 ·obtain ⟨_,e2,_⟩:=Zrb e hq
  obtain ⟨L',xs,c,r1,r2,_⟩:=Zsv (R:=R) (sp:=sp) h hd
  rw [e2] at r1
  simp only [Option.some.injEq,Prod.mk.injEq] at r1
  rw [r1.1]
  exact r2
 ·rw [(Zsg e hq).1]
  exact h
theorem Zzl {h:Zw} {d:Z9} {R:Int} {Lf T:List KV} {Q:Zs} {n:Nat} (hd:∀ a ∈ d.Acts,ActIn a) (H:HandGo h d [] R Lf Q n 0) {s:Zk} {t:Zf} {m:Nat} (hf:FR s t m) (hm:m < 900000) (hr:t.Room=R) (hT:Srt T) (hTR:(T.length:Int) ≤ R) (e:oneS R [] (pl t) d=some (T,Q)) (h1:∀ z ∈ Zgb [] d.Acts,lk z T=lk z Lf) :
  ∃ s' t',Zde h s=some (s',[]) ∧ FR s' t' (m + 12) ∧ pl t'=T ∧ t'.Room=R:=by
 by_cases hq:Q.Code=0
 ·obtain ⟨⟨at_,hc⟩,_⟩:=Zrb e hq
  have:=Zvv hd (by simp) H hq hc hf hm hr hT hTR h1 (Zu2 hf.inv hd e)
  rw [Z56] at this
  exact this
 ·obtain ⟨_,e2,_⟩:=H.done hd
  rw [Zzm (.inr (by rw [e2];exact hq))]
  exact ⟨s,t,rfl,hf.mono (by omega),(Zsg e hq).1.symm,hr⟩
theorem Z37 {h:Zw} {d:Z9} {sp:List ByteArray} {R:Int} {Lf:List KV} {Q:Zs} {n m:Nat} (hd:∀ a ∈ d.Acts,ActIn a) (hl:d.Acts.length ≤ 1000) (hs:sp.length ≤ 1000) (H:HandGo h d sp R Lf Q n m) (hn:n < 1000000):∃ h' b m',Zfg h=some (h',b) ∧ HandGo h' d sp R Lf Q (n + 1) m' ∧ m' ≤ m:=by
 rcases Zt5 hd hl hs H hn with ⟨_,_,e⟩ | ⟨h',m',e1,_,e2,e3⟩
 ·exact ⟨h,false,m,e,H.mono (by omega),Nat.le_refl _⟩
 ·exact ⟨h',true,m',e2,e3,by omega⟩
theorem Zwa {x y:Z9} {R:Int} {LA LB:List KV} {A B:Zs} (hx:∀ a ∈ x.Acts,ActIn a) (hxl:x.Acts.length ≤ 1000) (hy:∀ a ∈ y.Acts,ActIn a) (hyl:y.Acts.length ≤ 1000) {W:List Bool} (hw:W.length ≤ 1000):∀ (n i:Nat) {h k:Zw} {p m m':Nat},i + n=W.length → HandGo h x [] R LA A p m → HandGo k y [] R LB B p m' → p + n < 1000000 → m ≤ 12 → m' ≤ 12 →
  ∃ h' k' m2 m3,Zc2 W (n + 1) h k (i:Int)=some (h',k') ∧ HandGo h' x [] R LA A (p + n) m2 ∧ HandGo k' y [] R LB B (p + n) m3 ∧ m2 ≤ 12 ∧ m3 ≤ 12
 | 0,i,h,k,p,m,m',hi,H,K,_,h1,h2=>by
  rw [Zc2,if_neg (by simp;omega)]
  exact ⟨h,k,m,m',rfl,H,K,h1,h2⟩
 | n + 1,i,h,k,p,m,m',hi,H,K,hp,h1,h2=>by
  have hlt:i < W.length:=by omega
  rw [Zc2,if_pos (by simp;omega),Zc1 hlt]
  simp only [Option.bind_some,Zgi,wr1 (show i < 9223372036854775807 by omega)]
  by_cases hb:W[i]=true
  ·rw [if_pos hb]
   obtain ⟨h',b,m2,e1,e2,e3⟩:=Z37 hx hxl (by simp) H (by omega)
   rw [e1]
   simp only [Option.bind_some]
   obtain ⟨h2,k2,a,b,f1,f2,f3,f4,f5⟩:=Zwa hx hxl hy hyl hw n (i + 1) (by omega) e2 (K.mono (Nat.le_succ p)) (by omega) (by omega) h2
   exact ⟨h2,k2,a,b,f1,f2.mono (by omega),f3.mono (by omega),f4,f5⟩
  ·rw [if_neg hb]
   obtain ⟨k',b,m2,e1,e2,e3⟩:=Z37 hy hyl (by simp) K (by omega)
   rw [e1]
   simp only [Option.bind_some]
   obtain ⟨h2,k2,a,b,f1,f2,f3,f4,f5⟩:=Zwa hx hxl hy hyl hw n (i + 1) (by omega) (H.mono (Nat.le_succ p)) e2 (by omega) h1 (by omega)
   exact ⟨h2,k2,a,b,f1,f2.mono (by omega),f3.mono (by omega),f4,f5⟩
theorem Z78 {s s1 s2:Zf} {d e:Z9} {x y:Zs} (h1:Zh2 s d=some (s1,x)) (h2:Zh2 s1 e=some (s2,y)):Zki s [d,e]=some (s2,[x,y]):=by
 unfold Zki
 show (Zej [d,e] 3 s [] 0).bind _=_
 have i0:idx [d,e] (0:Int)=some d:=rfl
 have i1:idx [d,e] (1:Int)=some e:=rfl
 have w1:IntKind.i64.wrap ((0:Int) + 1)=1:=by decide
 have w2:IntKind.i64.wrap ((1:Int) + 1)=2:=by decide
 rw [Zej,if_pos (show decide (((0:Int)) < (([d,e]:List Z9).length:Int))=true from rfl),i0]
 simp only [Option.bind_some]
 rw [h1]
 simp only [Option.bind_some]
 rw [if_pos (by simp),w1,Zej,if_pos (show decide (((1:Int)) < (([d,e]:List Z9).length:Int))=true from rfl),i1]
 simp only [Option.bind_some]
 rw [h2]
 simp only [Option.bind_some]
 rw [if_pos (by simp),w2,Zej,if_neg (by simp)]
 rfl
theorem HandApart_true (a0:List Zbg) (a1:List Z9) (a2:List Bool) (w0:a0.length ≤ maxLen ∧ ∀ e0 ∈ a0,Zif e0) (w1:a1.length=2 ∧ ∀ e0 ∈ a1,Zl7 e0) (w2:a2.length ≤ maxLen ∧ ∀ e0 ∈ a2,True):Zi5 a0 a1 a2=some true:=by
 obtain ⟨hl2,hw2⟩:=w1
 obtain ⟨x,y,rfl⟩:∃ x y,a1=[x,y]:=by
  match a1,hl2 with
  | [x,y],_=>exact ⟨x,y,rfl⟩
 have i0:idx [x,y] (0:Int)=some x:=rfl
 have i1:idx [x,y] (1:Int)=some y:=rfl
 unfold Zi5
 rw [Z88]
 simp only [Option.bind_some,Bool.not_true,Bool.false_eq_true,if_false]
 rcases Z71 (r:=6) w0.2 with ⟨s,e⟩ | ⟨s,t,e,hf,hr,_⟩
 ·rw [e];rfl
 ·rw [e]
  obtain ⟨c,e1,e2,e3⟩:=Zbem hw2
  simp only [Option.bind_some,Option.isNone_some,Bool.not_false,gd_t,Bool.false_or]
  rw [e1]
  rcases e2 with rfl | rfl
  ·simp only [Option.bind_some,Int.lt_irrefl,decide_false,Bool.false_or]
   by_cases h60:60 < a2.length
   ·have hd:decide ((60:Int) < (a2.length:Int))=true:=decide_eq_true (by omega)
    rw [hd];rfl
   ·have hd:decide ((60:Int) < (a2.length:Int))=false:=decide_eq_false (by omega)
    obtain ⟨_,hds⟩:=e3 rfl
    obtain ⟨lx,hx⟩:=hds x (by simp)
    obtain ⟨ly,hy⟩:=hds y (by simp)
    obtain ⟨b,c1,c2⟩:=Zbcv (x:=x) (y:=y) (by omega) (by omega)
    simp only [hd,Bool.not_false,gd_t,i0,i1,Option.bind_some,c1,Bool.false_or]
    cases b with
    | true=>rfl
    | false =>
     simp only [Bool.false_eq_true,if_false]
     have hp:=c2 rfl
     have hok:∀ a ∈ x.Acts,∀ b ∈ y.Acts,OkP a b:=fun a ha b hb=>Zbd8 (hp a ha b hb).1 (hp a ha b hb).2
     have hkeys:=Z8y (x:=x) (y:=y) fun a ha b hb=>(hp a ha b hb).1
     obtain ⟨h,LA,A,m,g1,g2,g3,g4,_⟩:=Z09 (sp:=[]) hf hx (by omega) (by simp)
     obtain ⟨k,LB,B,m',k1,k2,k3,k4,_⟩:=Z09 (sp:=[]) hf hy (by omega) (by simp)
     obtain ⟨h',k',m2,m3,f1,f2,f3,f4,f5⟩:=Zwa hx (by omega) hy (by omega) (W:=a2) (by omega) a2.length 0 (by omega) g3 k3 (by omega) g4 k4
     obtain ⟨h2,p1,p2⟩:=Z16 hx (by omega) (by simp) f2 f4 (by omega)
     obtain ⟨k2',q1,q2⟩:=Z16 hy (by omega) (by simp) f3 f5 (by omega)
     obtain ⟨sA,tA,RA,r1,r2,r3,r4,r5⟩:=rone hf (by omega) hx
     obtain ⟨sC,tC,RC,t1,t2,t3,t4,t5⟩:=rone r2 (by omega) hy
     have gA:=g2
     have gB:=k2
     rw [Zq1] at gA gB
     rw [r5] at gA
     simp only [Option.some.injEq,Prod.mk.injEq] at gA
     obtain ⟨hLA,rfl⟩:=gA
     obtain ⟨L',o1,o2⟩:=Z8r hf.inv hx hy hok r5 gB
     rw [r3,o1] at t5
     simp only [Option.some.injEq,Prod.mk.injEq] at t5
     obtain ⟨hL',rfl⟩:=t5
     have hsrt:Srt L':=by rw [hL'];exact t2.rel.srt
     have hfit:(L'.length:Int) ≤ t.Room:=by
      have:=t2.fit
      rw [← Zeo,← hL',t3,r3] at this
      exact this
     have iA:=Z2n hf.inv hx g2
     have iB:=Z2n hf.inv hy k2
     obtain ⟨s1,u1,a1,a2',a3,a4⟩:=Z2t hx (by simp) p2 hf (by omega) rfl g2
     obtain ⟨s2,u2,b1,b2,b3,b4⟩:=Zzl (T:=L') hy q2 a2' (by omega) a4 hsrt hfit (by rw [Zq1,a3,← hLA];exact o1) (fun z hz=>Zu2 (sp:=[]) (R:=t.Room) (Q:=RA) iB hx (by rw [Zq1];exact o2) z (fun h=>hkeys z h hz))
     obtain ⟨s3,u3,c1',c2',c3,c4⟩:=Z2t hy (by simp) q2 hf (by omega) rfl k2
     obtain ⟨s4,u4,d1,d2,d3,d4⟩:=Zzl (T:=L') hx p2 c2' (by omega) c4 hsrt hfit (by rw [Zq1,c3];exact o2) (fun z hz=>Zu2 (sp:=[]) (R:=t.Room) (Q:=B) iA hy (by rw [Zq1,← hLA];exact o1) z (fun h=>hkeys z hz h))
     obtain ⟨v1,_,_⟩:=Zvx hx (by omega) p2
     obtain ⟨v2,_,_⟩:=Zvx hy (by omega) q2
     rw [show ((0:Nat):Int)=0 from rfl] at f1
     rw [g1]
     simp only [Option.bind_some]
     rw [k1]
     simp only [Option.bind_some]
     rw [show (Int.toNat ((a2.length:Int) - (0:Int)) + 1)=a2.length + 1 by omega,f1]
     simp only [Option.bind_some]
     rw [p1]
     simp only [Option.bind_some]
     rw [q1]
     simp only [Option.bind_some]
     rw [a1]
     simp only [Option.bind_some]
     rw [b1]
     simp only [Option.bind_some]
     rw [c1']
     simp only [Option.bind_some]
     rw [d1]
     simp only [Option.bind_some]
     rw [Z78 r1 t1]
     simp only [Option.bind_some]
     rw [v1]
     simp only [Option.bind_some]
     rw [v2]
     simp only [Option.bind_some]
     rw [Zbba (L:=[RA,B]) (by simp) (fun z hz=>by
      rcases List.mem_cons.1 hz with rfl | hz
      ·exact r4
      ·rw [List.mem_singleton.1 hz];exact t4)]
     simp only [Option.bind_some,gd_t]
     rw [Z9x b2 (by omega) (by rw [b3,hL']) (by rw [t3,r3,b4])]
     simp only [Option.bind_some,beq_self_eq_true,Bool.and_self,gd_t]
     rw [Z9x d2 (by omega) (by rw [d3,hL']) (by rw [t3,r3,d4])]
     rfl
  ·rfl
end Go.CL
namespace Go.CL
open Go Go.RowKit Go.Proofs Go.ChangeShapes Go.WideShapes Go.ChangeAt
theorem Z8i:ownKnob Tryz.prog.godebug=none:=by kernel_rfl
theorem Zuq:laidOutB Tryz.prog=true:=by kernel_rfl
theorem op_9:Opn Tryz.prog 9 Kd.str (fun x=>(x.size ≤ maxLen)):=Zbbn Tryz.underlying9 (by kernel_rfl)
theorem op_3:Opn Tryz.prog 3 (Kd.int .i64) (fun x=>((IntKind.i64).min ≤ x ∧ x ≤ (IntKind.i64).max)):=Z4s Tryz.underlying3 (by kernel_rfl)
theorem op_2:Opn Tryz.prog 2 (Kd.int .i64) (fun x=>((IntKind.i64).min ≤ x ∧ x ≤ (IntKind.i64).max)):=Z4s Tryz.underlying2 (by kernel_rfl)
theorem Z5b:Opn Tryz.prog 35 Kd.flt (fun x=>(x < 2 ^ 64)):=Zbbc Tryz.underlying35 (by kernel_rfl)
theorem Zbb8:Opn Tryz.prog 116 Z2 Zrn:=⟨by kernel_rfl,fun hg h=>by
 obtain ⟨hl,n,hf⟩:=Zn2 Tryz.underlying116 h
 obtain ⟨y0,h0⟩:=hf 0 _ rfl
 obtain ⟨v0,k0,w0⟩:=Z5b.op hg h0
 obtain ⟨y1,h1⟩:=hf 1 _ rfl
 obtain ⟨v1,k1,w1⟩:=op_9.op hg h1
 refine ⟨⟨v0,v1⟩,⟨hl.trans (by kernel_rfl),(Qc.2 ⟨k0,(Qc.2 ⟨k1,(fun _ h=>by cases h)⟩)⟩)⟩,w0,w1⟩,fun h=>Zpd Tryz.underlying116 h⟩
theorem Zbex:Opn Tryz.prog 36 Z2.sl (fun x=>(x.length ≤ maxLen ∧ ∀ e0 ∈ x,(Zrn e0))):=Zxs Tryz.underlying36 (by kernel_rfl) Zbb8 (by decide)
theorem Z95:Opn Tryz.prog 38 Ze Zlx:=⟨by kernel_rfl,fun hg h=>by
 obtain ⟨hl,n,hf⟩:=Zn2 Tryz.underlying38 h
 obtain ⟨y0,h0⟩:=hf 0 _ rfl
 obtain ⟨v0,k0,w0⟩:=op_3.op hg h0
 obtain ⟨y1,h1⟩:=hf 1 _ rfl
 obtain ⟨v1,k1,w1⟩:=op_2.op hg h1
 obtain ⟨y2,h2⟩:=hf 2 _ rfl
 obtain ⟨v2,k2,w2⟩:=op_2.op hg h2
 obtain ⟨y3,h3⟩:=hf 3 _ rfl
 obtain ⟨v3,k3,w3⟩:=op_2.op hg h3
 obtain ⟨y4,h4⟩:=hf 4 _ rfl
 obtain ⟨v4,k4,w4⟩:=Z5b.op hg h4
 obtain ⟨y5,h5⟩:=hf 5 _ rfl
 obtain ⟨v5,k5,w5⟩:=op_3.op hg h5
 obtain ⟨y6,h6⟩:=hf 6 _ rfl
 obtain ⟨v6,k6,w6⟩:=op_9.op hg h6
 obtain ⟨y7,h7⟩:=hf 7 _ rfl
 obtain ⟨v7,k7,w7⟩:=Zbex.op hg h7
 refine ⟨⟨v0,v1,v2,v3,v4,v5,v6,v7⟩,⟨hl.trans (by kernel_rfl),(Qc.2 ⟨k0,(Qc.2 ⟨k1,(Qc.2 ⟨k2,(Qc.2 ⟨k3,(Qc.2 ⟨k4,(Qc.2 ⟨k5,(Qc.2 ⟨k6,(Qc.2 ⟨k7,(fun _ h=>by cases h)⟩)⟩)⟩)⟩)⟩)⟩)⟩)⟩)⟩,w0,w1,w2,w3,w4,w5,w6,w7⟩,fun h=>Zpd Tryz.underlying38 h⟩
theorem Zbf0:Opn Tryz.prog 85 Zb6 Zif:=⟨by kernel_rfl,fun hg h=>by
 obtain ⟨hl,n,hf⟩:=Zn2 Tryz.underlying85 h
 obtain ⟨y0,h0⟩:=hf 0 _ rfl
 obtain ⟨v0,k0,w0⟩:=op_9.op hg h0
 obtain ⟨y1,h1⟩:=hf 1 _ rfl
 obtain ⟨v1,k1,w1⟩:=Z95.op hg h1
 refine ⟨⟨v0,v1⟩,⟨hl.trans (by kernel_rfl),(Qc.2 ⟨k0,(Qc.2 ⟨k1,(fun _ h=>by cases h)⟩)⟩)⟩,w0,w1⟩,fun h=>Zpd Tryz.underlying85 h⟩
theorem Zbe7:Opn Tryz.prog 22 Zb6.sl (fun x=>(x.length ≤ maxLen ∧ ∀ e0 ∈ x,(Zif e0))):=Zxs Tryz.underlying22 (by kernel_rfl) Zbf0 (by decide)
theorem op_4:Opn Tryz.prog 4 Kd.bool (fun x=>True):=Z85 Tryz.underlying4 (by kernel_rfl)
theorem Zbe6:Opn Tryz.prog 40 Z0 Zm8:=⟨by kernel_rfl,fun hg h=>by
 obtain ⟨hl,n,hf⟩:=Zn2 Tryz.underlying40 h
 obtain ⟨y0,h0⟩:=hf 0 _ rfl
 obtain ⟨v0,k0,w0⟩:=op_3.op hg h0
 obtain ⟨y1,h1⟩:=hf 1 _ rfl
 obtain ⟨v1,k1,w1⟩:=op_9.op hg h1
 obtain ⟨y2,h2⟩:=hf 2 _ rfl
 obtain ⟨v2,k2,w2⟩:=op_2.op hg h2
 obtain ⟨y3,h3⟩:=hf 3 _ rfl
 obtain ⟨v3,k3,w3⟩:=Z5b.op hg h3
 obtain ⟨y4,h4⟩:=hf 4 _ rfl
 obtain ⟨v4,k4,w4⟩:=op_9.op hg h4
 obtain ⟨y5,h5⟩:=hf 5 _ rfl
 obtain ⟨v5,k5,w5⟩:=Z95.op hg h5
 obtain ⟨y6,h6⟩:=hf 6 _ rfl
 obtain ⟨v6,k6,w6⟩:=op_4.op hg h6
 refine ⟨⟨v0,v1,v2,v3,v4,v5,v6⟩,⟨hl.trans (by kernel_rfl),(Qc.2 ⟨k0,(Qc.2 ⟨k1,(Qc.2 ⟨k2,(Qc.2 ⟨k3,(Qc.2 ⟨k4,(Qc.2 ⟨k5,(Qc.2 ⟨k6,(fun _ h=>by cases h)⟩)⟩)⟩)⟩)⟩)⟩)⟩)⟩,w0,w1,w2,w3,w4,w5,w6⟩,fun h=>Zpd Tryz.underlying40 h⟩
theorem Zbe1:Opn Tryz.prog 23 Z0.sl (fun x=>(x.length ≤ maxLen ∧ ∀ e0 ∈ x,(Zm8 e0))):=Zxs Tryz.underlying23 (by kernel_rfl) Zbe6 (by decide)
theorem Zbfo:Opn Tryz.prog 25 Zbq Zl7:=⟨by kernel_rfl,fun hg h=>by
 obtain ⟨hl,n,hf⟩:=Zn2 Tryz.underlying25 h
 obtain ⟨y0,h0⟩:=hf 0 _ rfl
 obtain ⟨v0,k0,w0⟩:=Zbe1.op hg h0
 refine ⟨⟨v0⟩,⟨hl.trans (by kernel_rfl),(Qc.2 ⟨k0,(fun _ h=>by cases h)⟩)⟩,w0⟩,fun h=>Zpd Tryz.underlying25 h⟩
theorem Zbea:Opn Tryz.prog 69 (Kd.arr 2 Zbq) (fun x=>(x.length=2 ∧ ∀ e0 ∈ x,(Zl7 e0))):=Zbat Tryz.underlying69 (by kernel_rfl) Zbfo (by decide)
theorem Zbd5:Opn Tryz.prog 70 Kd.bool.sl (fun x=>(x.length ≤ maxLen ∧ ∀ e0 ∈ x,True)):=Zxs Tryz.underlying70 (by kernel_rfl) op_4 (by decide)
theorem Z9l:Det Tryz.prog 9:=Zbbx Tryz.underlying9
theorem Zbfq:Det Tryz.prog 3:=Zbaj Tryz.underlying3
theorem Zbb1:Det Tryz.prog 145:=Z5d Tryz.underlying145 (fun i f h=>match i,f,h with
 | 0,_,h=>by obtain rfl:=Option.some.inj h;exact Z9l
 | 1,_,h=>by obtain rfl:=Option.some.inj h;exact Zbfq
 | 2,_,h=>by obtain rfl:=Option.some.inj h;exact Z9l
 | _ + 3,_,h=>by cases h) (by kernel_rfl)
theorem Zbbw:Det Tryz.prog 164:=Zbbp Tryz.underlying164 Zbb1 (by kernel_rfl)
theorem HandApart_met (os : Os) (args : Array Value) : laidMetH Tryz.prog [("moiety/act.kinds", Go.Proofs.YtlanlccmokaajaaGreatDoor.Rows.laid_moiety_act_kinds)] ((World.doorLaid Tryz.prog 400 os).forCall (fun _ _ => 0) ⟨#[], args, []⟩).memory :=
 laidMetH_of_parts3 (fuel:=8) (laidMet_of_run' 8 (by kernel_rfl) (by kernel_rfl)) (by kernel_rfl) (by kernel_rfl)
theorem HandApart_gl {W : World} (h : laidMetH Tryz.prog [("moiety/act.kinds", Go.Proofs.YtlanlccmokaajaaGreatDoor.Rows.laid_moiety_act_kinds)] W) : GLok W (fun b _ => b < W.heap.size) := by
 have g0 := Z80 (P := Tryz.prog) (nm := "moiety/act.kinds") (d := Go.Proofs.YtlanlccmokaajaaGreatDoor.Rows.laid_moiety_act_kinds) (g := 0) (t := 164) (W := W) (w0 := W) (cells := [.string ⟨#[]⟩, .int .i64 (0), .string ⟨#[]⟩, .string ⟨#[110, 101, 119]⟩, .int .i64 (0), .string ⟨#[109]⟩, .string ⟨#[100, 114, 111, 112]⟩, .int .i64 (0), .string ⟨#[]⟩, .string ⟨#[105, 115]⟩, .int .i64 (0), .string ⟨#[]⟩, .string ⟨#[108, 111, 111, 107]⟩, .int .i64 (0), .string ⟨#[]⟩, .string ⟨#[112, 117, 116]⟩, .int .i64 (1), .string ⟨#[115]⟩, .string ⟨#[115, 119, 97, 112]⟩, .int .i64 (1), .string ⟨#[115]⟩, .string ⟨#[97, 100, 100]⟩, .int .i64 (2), .string ⟨#[110]⟩, .string ⟨#[112, 108, 117, 115]⟩, .int .i64 (3), .string ⟨#[110]⟩, .string ⟨#[114, 101, 97, 99, 104]⟩, .int .i64 (3), .string ⟨#[110]⟩, .string ⟨#[105, 110]⟩, .int .i64 (4), .string ⟨#[110]⟩, .string ⟨#[111, 117, 116]⟩, .int .i64 (4), .string ⟨#[110]⟩, .string ⟨#[101, 110, 111, 117, 103, 104]⟩, .int .i64 (4), .string ⟨#[110]⟩, .string ⟨#[114, 97, 105, 115, 101]⟩, .int .i64 (5), .string ⟨#[120]⟩, .string ⟨#[108, 111, 119, 101, 114]⟩, .int .i64 (6), .string ⟨#[120]⟩, .string ⟨#[115, 104, 105, 102, 116]⟩, .int .i64 (7), .string ⟨#[120]⟩, .string ⟨#[115, 99, 97, 108, 101]⟩, .int .i64 (7), .string ⟨#[120]⟩, .string ⟨#[102, 105, 120]⟩, .int .i64 (7), .string ⟨#[120]⟩, .string ⟨#[106, 111, 105, 110]⟩, .int .i64 (8), .string ⟨#[115]⟩, .string ⟨#[108, 101, 97, 118, 101]⟩, .int .i64 (8), .string ⟨#[115]⟩, .string ⟨#[104, 97, 115]⟩, .int .i64 (8), .string ⟨#[115]⟩, .string ⟨#[111, 102, 102, 101, 114]⟩, .int .i64 (9), .string ⟨#[120, 115]⟩]) (fu := 8) (by kernel_rfl) (by kernel_rfl) Zbbw (by kernel_rfl) (by kernel_rfl) h
 intro e he i v hv
 rcases List.mem_cons.1 he with rfl | he
 ·exact ⟨(Zud (g0 i v hv)).2,g0 i v hv⟩
 cases he
theorem HandApart_ret (os:Os) (started:os.Started) (H:Type) (enc:TypeId × Value → H) :
  ReturnsInHanded {} Tryz.checked os 6 .any (fun w args => (Go.Proofs.YtlanlccmokaajaaGreatDoor.Rows.handApartSpec.pre enc Tryz.prog Tryz.f6 [] false w args ∧ laidMetH Tryz.prog [("moiety/act.kinds", Go.Proofs.YtlanlccmokaajaaGreatDoor.Rows.laid_moiety_act_kinds)] w) ∧ sizedMet enc Tryz.prog Tryz.f6 (OpenSpec.ofChange Go.Proofs.YtlanlccmokaajaaGreatDoor.Rows.handApartSpec) false w args) (Go.Proofs.YtlanlccmokaajaaGreatDoor.Rows.handApartSpec.post enc Tryz.prog Tryz.f6 false true false false) := by
 refine returnsInHanded_of_change_and (C := Tryz.checked) (X := fun w _ => laidMetH Tryz.prog [("moiety/act.kinds", Go.Proofs.YtlanlccmokaajaaGreatDoor.Rows.laid_moiety_act_kinds)] w) (fun _ _ _ hh h => h.of_heap hh) Z8i started (by kernel_rfl) Tryz.func6
  (ChangeSpec.witness_shaped (enc := enc) (C := Tryz.checked) (os := os) (X := fun w _ => laidMetH Tryz.prog [("moiety/act.kinds", Go.Proofs.YtlanlccmokaajaaGreatDoor.Rows.laid_moiety_act_kinds)] w) false (World.doorLaid Tryz.prog 400 os) #[.slice none 0 0, .agg #[.slice none 0 0, .slice none 0 0], .slice none 0 0] 8 rfl (World.shaped_of_RefB (by kernel_rfl) (by kernel_rfl)) (by kernel_rfl) (by kernel_rfl) (by kernel_rfl) (HandApart_met os _)) ?_
 intro W base args ds gs before hval0 hW hcnd _ hL _
 have hval:∀ (j:Nat) t v,Tryz.f6.params[j]?=some t → args[j]?=some v → Value.okWide Tryz.prog W .any base t v:=hval0
 have hW':=hW
 obtain ⟨p,q,hA0,hV,rfl,hfz,hnd⟩:=hW
 have hA:DataW.TrodAll enc Tryz.prog W 0 (fun _=>true) true Tryz.f6.params.toList args.toList ds p:=hA0
 rw [Tryz.params6] at hA hval
 obtain ⟨v0,v1,v2,d0,d1,d2,p0,p1,p2,rfl,rfl,rfl,h0,h1,h2⟩:=trodAll_three hA
 obtain ⟨rfl,rfl⟩:=trodVars_none hV
 simp only [List.append_nil] at hW'
 have hg:GLok W (fun b _=>b < W.heap.size):=(HandApart_gl hL)
 have hk0:=h0
 obtain ⟨a0,q0,w0⟩:=Z1v Zbe7 hg h0 (hval 0 22 v0 rfl rfl)
 have hk1:=h1
 obtain ⟨a1,q1,w1⟩:=Z1v Zbea hg h1 (hval 1 69 v1 rfl rfl)
 have hk2:=h2
 obtain ⟨a2,q2,w2⟩:=Z1v Zbd5 hg h2 (hval 2 70 v2 rfl rfl)
 refine (Zqy a0 a1 a2 (HandApart_true a0 a1 a2 w0 w1 w2) (GW W hg) [v0,v1,v2] (Zo8 q0 (Zo8 q1 (Zo8 q2 Zfa)))).mono fun e W' ⟨g',v,he,hw,hs,hq⟩=>?_
 subst he;subst hw
 rw [Zky.1 hq]
 have hbel:=Z76 hs
 have hlt:∀ x ∈ (p0 ++ p1 ++ p2),x.block < W.heap.size:=fun x hx=>by simpa using hW'.lt x hx
 exact ⟨_,rfl,Z0i (pv:=[]) hW' hbel (trodAll_mk1 (shut_bool Tryz.underlying4 true)) (trodAll_mk3 (Below.trod Zuq (by kernel_rfl) (of_decide_eq_true (by kernel_rfl)) hk0 hbel (fun x hx=>hlt x (by simp [hx]))) (Below.trod Zuq (by kernel_rfl) (of_decide_eq_true (by kernel_rfl)) hk1 hbel (fun x hx=>hlt x (by simp [hx]))) (Below.trod Zuq (by kernel_rfl) (of_decide_eq_true (by kernel_rfl)) hk2 hbel (fun x hx=>hlt x (by simp [hx])))) rfl⟩
theorem HandApart_holds:Go.Proofs.YtlanlccmokaajaaGreatDoor.Rows.HandApartSaid :=
 OpenClaim.holds_of_wide 6 Tryz.f6 rfl rfl rfl rfl rfl rfl rfl ⟨rfl,rfl,rfl,rfl,rfl⟩ rfl rfl rfl rfl rfl (by kernel_rfl) Tryz.func6 (by kernel_rfl)
  (of_decide_eq_true (by kernel_rfl)) (by unfold Func.isWrapper;first | (rw [if_pos (by decide +kernel)];kernel_rfl) | (rw [if_neg (by decide +kernel)];exact ⟨rfl,rfl⟩))
  (fun os started H enc _=>HandApart_ret os started H enc)
theorem HandApart_card:Go.Proofs.YtlanlccmokaajaaGreatDoor.Rows.HandApartCardSaid :=
 Claim7.holds_tied_plain_at .later [] [.data] true (true, "742167b159ec3a4f522c33c9de0194a4b520730ba2e9e03a283e4a3108c93551") false
  HandApart_holds (fun _ h=>by cases h) (by kernel_rfl) (fun _ h=>by cases h) Go.Proofs.YtlanlccmokaajaaGreatDoor.handApart_row_tie rfl ⟨rfl,rfl⟩ (by kernel_rfl) rfl
  (fun f fn hf hfn=>by
   obtain rfl : f = 6 := Option.some.inj ((show Tryz.prog.funcNamed "moiety/moietylaw15.HandApart" = some 6 by kernel_rfl).symm.trans hf) |>.symm
   obtain rfl:fn=Tryz.f6:=(Option.some.inj (Tryz.func6.symm.trans hfn)).symm
   exact ⟨by kernel_rfl,fun j t ht=>by
    rw [Tryz.params6] at ht
    have hm:t ∈ [22,69,70]:=by simpa using Array.mem_of_getElem? ht
    have hall:(([22,69,70]:List TypeId).all fun u=>!Tryz.prog.wantsStandIn u)=true:=by kernel_rfl
    exact (show Tryz.prog.wantsStandIn t=false by simpa using List.all_eq_true.1 hall t hm)⟩)
  (by kernel_rfl)
end Go.CL
