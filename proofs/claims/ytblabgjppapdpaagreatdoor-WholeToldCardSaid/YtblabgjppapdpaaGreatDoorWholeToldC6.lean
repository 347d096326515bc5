/- A part of the proof of WholeTold. -/
import Derived.Test.YtblabgjppapdpaaGreatDoorWholeToldC5
import Derived.Test.YtblabgjppapdpaaGreatDoorRows
import Derived.Test.YtblabgjppapdpaaGreatDoorCards
import Derived.Test.YtblabgjppapdpaaGreatDoorTie
import Derived.SevenTiedAt
set_option linter.unusedVariables false
set_option linter.unusedSimpArgs false
set_option maxRecDepth 100000
namespace Go.CL
open Go
abbrev W64:Nat:=18446744073709551616
structure Zf3 (a:Zb):Prop where
 real:a.Real < W64
 len:a.List.length < 4611686018427387904
 sc:∀ e ∈ a.List,e.Score < W64
def Zld (a b:Zu):Bool:=if keyf a.Score=keyf b.Score then sLt a.Name b.Name else decide (keyf b.Score < keyf a.Score)
theorem Z01 {a b:Zu} (ha:a.Score < W64) (hb:b.Score < W64):Zk4 a b=some (Zld a b):=by
 unfold Zk4 Zld
 rw [Zoi ha hb,Z5r hb ha]
 by_cases h:keyf a.Score=keyf b.Score <;> simp [h]
theorem Z2l {a b:Zu} (ha:a.Score < W64) (hb:b.Score < W64):Zgi a b=some (Zld a b):=by
 unfold Zgi Zld
 rw [Zr0 hb ha,Zow ha hb]
 by_cases h:keyf a.Score=keyf b.Score
 ·simp [h]
 ·by_cases h2:keyf b.Score < keyf a.Score <;> simp [h,h2]
theorem Zyq {a:Nat} (ha:a < W64):Zft a=some (decide (keyf a=keyf 0)):=by
 unfold Zft
 rw [Zow ha (by decide)]
 rfl
def Zh8 (k:Int) (l:List Zu) (i:Nat):Int :=
 match l[i]? with
 | none=>0
 | some x =>
  let p:=(l[i - 1]?).getD default
  if (16:Int) < x.Name.size then 3
  else if (k=8 ∧ keyf x.Score ≠ keyf 0) ∨ x.Score ≠ Zc2 x.Score then 4
  else if 0 < i ∧ k=8 ∧ sLt p.Name x.Name=false then 4
  else if 0 < i ∧ k=9 ∧ Zld p x=false then 4
  else 0
theorem Z15 {k:Int} {l:List Zu} {i n:Nat} (hi:i < l.length) (hl:l.length < 4611686018427387904) (hs:∀ e ∈ l,e.Score < W64) :
  Zez k l (n + 1) (i:Int)=if Zh8 k l i=0 then Zez k l n ((i + 1:Nat):Int) else some (.inl (Zh8 k l i)):=by
 have hx:l[i].Score < W64:=hs _ (List.getElem_mem hi)
 rw [Zez,if_pos (by simp;omega),Zfr hi,wr1 (by omega)]
 simp only [Option.bind_some]
 rw [Zoi hx (by decide),Zuf hx]
 simp only [Zh8,List.getElem?_eq_getElem hi]
 by_cases h1:(16:Int) < l[i].Name.size
 ·simp [h1]
 ·simp only [h1,decide_false,if_false,Bool.false_eq_true]
  have hz:((0:Nat):Int)=0:=rfl
  by_cases h0:0 < i
  ·have hp:i - 1 < l.length:=by omega
   have hps:l[i - 1].Score < W64:=hs _ (List.getElem_mem hp)
   have hd:(decide ((0:Int) < (i:Int)))=true:=by simp;omega
   rw [hd,wrm (by omega) h0,Zfr hp]
   simp only [List.getElem?_eq_getElem hp,Option.getD_some,h0,true_and,Bool.true_and]
   by_cases h8:k=8
   ·subst h8
    simp only [beq_self_eq_true,gd_t,Option.bind_some,true_and,Bool.true_and]
    by_cases hk:keyf l[i].Score=keyf 0
    ·by_cases hc:l[i].Score=Zc2 l[i].Score
     ·simp [hk,← hc,gd]
      cases sLt l[i - 1].Name l[i].Name <;> simp
     ·simp [hk,hc,gd]
    ·simp [hk,gd]
   ·have h8':(k == 8)=false:=by simpa using h8
    simp only [h8',h8,gd_f,gd_t,Option.bind_some,false_and,false_or,Bool.false_and,Bool.not_false,Bool.false_or]
    by_cases hc:l[i].Score=Zc2 l[i].Score
    ·by_cases h9:k=9
     ·subst h9
      simp [← hc,gd,Z01 hps hx]
      cases Zld l[i - 1] l[i] <;> simp
     ·simp [← hc,gd,h9]
    ·simp [hc]
  ·have h00:i=0:=by omega
   subst h00
   simp only [Nat.lt_irrefl,false_and,if_false,Int.ofNat_zero,Int.lt_irrefl,decide_false,Bool.false_and,gd_f,Option.bind_some,Int.natCast_zero]
   by_cases h8:k=8
   ·subst h8
    simp only [beq_self_eq_true,gd_t,Option.bind_some,true_and,Bool.true_and]
    by_cases hk:keyf l[0].Score=keyf 0
    ·by_cases hc:l[0].Score=Zc2 l[0].Score
     ·simp [hk,← hc,gd]
     ·simp [hk,hc,gd]
    ·simp [hk,gd]
   ·have h8':(k == 8)=false:=by simpa using h8
    simp only [h8',h8,gd_f,gd_t,Option.bind_some,false_and,false_or,Bool.false_and,Bool.not_false,Bool.false_or]
    by_cases hc:l[0].Score=Zc2 l[0].Score
    ·simp [← hc,gd]
    ·simp [hc]
theorem Z2r {k:Int} {l:List Zu} {i:Nat} (hi:i < l.length) (hl:l.length < 4611686018427387904) (hs:∀ e ∈ l,e.Score < W64):Zg1 k l (i:Int)=some (Zh8 k l i):=by
 have hx:l[i].Score < W64:=hs _ (List.getElem_mem hi)
 unfold Zg1
 rw [Zfr hi]
 simp only [Option.bind_some]
 rw [Zyq hx,Zs6 hx]
 simp only [Zh8,List.getElem?_eq_getElem hi]
 by_cases h1:(16:Int) < l[i].Name.size
 ·simp [h1]
 ·simp only [h1,decide_false,if_false,Bool.false_eq_true]
  by_cases h0:0 < i
  ·have hp:i - 1 < l.length:=by omega
   have hps:l[i - 1].Score < W64:=hs _ (List.getElem_mem hp)
   have hd:(decide ((0:Int) < (i:Int)))=true:=by simp;omega
   rw [hd,wrm (by omega) h0,Zfr hp]
   simp only [List.getElem?_eq_getElem hp,Option.getD_some,h0,true_and,Bool.true_and]
   by_cases h8:k=8
   ·subst h8
    simp only [beq_self_eq_true,gd_t,Option.bind_some,true_and,Bool.true_and]
    by_cases hk:keyf l[i].Score=keyf 0
    ·by_cases hc:l[i].Score=Zc2 l[i].Score
     ·simp [hk,← hc,gd]
      cases sLt l[i - 1].Name l[i].Name <;> simp
     ·simp [hk,hc,gd]
    ·simp [hk,gd]
   ·have h8':(k == 8)=false:=by simpa using h8
    simp only [h8',h8,gd_f,gd_t,Option.bind_some,false_and,false_or,Bool.false_and,Bool.not_false,Bool.false_or]
    by_cases hc:l[i].Score=Zc2 l[i].Score
    ·by_cases h9:k=9
     ·subst h9
      simp [← hc,gd,Z2l hps hx]
      cases Zld l[i - 1] l[i] <;> simp
     ·simp [← hc,gd,h9]
    ·simp [hc]
  ·have h00:i=0:=by omega
   subst h00
   simp only [Nat.lt_irrefl,false_and,if_false,Int.ofNat_zero,Int.lt_irrefl,decide_false,Bool.false_and,gd_f,Option.bind_some,Int.natCast_zero]
   by_cases h8:k=8
   ·subst h8
    simp only [beq_self_eq_true,gd_t,Option.bind_some,true_and,Bool.true_and]
    by_cases hk:keyf l[0].Score=keyf 0
    ·by_cases hc:l[0].Score=Zc2 l[0].Score
     ·simp [hk,← hc,gd]
     ·simp [hk,hc,gd]
    ·simp [hk,gd]
   ·have h8':(k == 8)=false:=by simpa using h8
    simp only [h8',h8,gd_f,gd_t,Option.bind_some,false_and,false_or,Bool.false_and,Bool.not_false,Bool.false_or]
    by_cases hc:l[0].Score=Zc2 l[0].Score
    ·simp [← hc,gd]
    ·simp [hc]
def Zhr (k:Int) (l:List Zu):Nat → Nat → Int
 | _,0=>0
 | i,n + 1=>if Zh8 k l i=0 then Zhr k l (i + 1) n else Zh8 k l i
def endC (c:Int):Int ⊕ Unit:=if c=0 then .inr () else .inl c
theorem Zr5 {k:Int} {l:List Zu} {i n:Nat} (h:Zh8 k l i=0):Zhr k l i (n + 1)=Zhr k l (i + 1) n:=by simp [Zhr,h]
theorem Zr2 {k:Int} {l:List Zu} {i n:Nat} (h:¬ Zh8 k l i=0):Zhr k l i (n + 1)=Zh8 k l i:=by simp [Zhr,h]
theorem Z1h {c:Int} (h:¬ c=0):endC c=.inl c:=if_neg h
theorem Zs3 {k:Int} {l:List Zu} (hl:l.length < 4611686018427387904) (hs:∀ e ∈ l,e.Score < W64):∀ (n i:Nat),i + n=l.length →
  Zez k l (n + 1) (i:Int)=some (endC (Zhr k l i n))
 | 0,i,h=>by
  rw [Zez,if_neg (by simp;omega)]
  rfl
 | n + 1,i,h=>by
  rw [Z15 (by omega) hl hs]
  by_cases hc:Zh8 k l i=0
  ·rw [if_pos hc,Zr5 hc,Zs3 hl hs n (i + 1) (by omega)]
  ·rw [if_neg hc,Zr2 hc,Z1h hc]
theorem Z3p {k:Int} {l:List Zu} (hl:l.length < 4611686018427387904) (hs:∀ e ∈ l,e.Score < W64):Zl9 k l=some (Zhr k l 0 l.length):=by
 unfold Zl9
 rw [show (Int.toNat ((l.length:Int) - (0:Int)) + 1)=l.length + 1 by omega,show (0:Int)=((0:Nat):Int) from rfl,Zs3 hl hs l.length 0 (by omega)]
 unfold endC
 by_cases h:Zhr k l 0 l.length=0 <;> simp [h]
theorem Zrs {a:Zb} (ha:Zf3 a):∀ (n i:Nat),i + n=a.List.length →
  Zdf a (n + 1) (i:Int)=some (endC (Zhr a.Kind a.List i n))
 | 0,i,h=>by
  rw [Zdf,if_neg (by simp;omega)]
  rfl
 | n + 1,i,h=>by
  have hl:=ha.len
  rw [Zdf,if_pos (by simp;omega),Z2r (by omega) hl ha.sc,wr1 (by omega)]
  simp only [Option.bind_some]
  by_cases hc:Zh8 a.Kind a.List i=0
  ·rw [if_neg (by simp [hc]),Zr5 hc,Zrs ha n (i + 1) (by omega)]
  ·rw [if_pos (by simp [hc]),Zr2 hc,Z1h hc]
def Zhq (t n b r l:Bool) (a:Zb):Bool:=(t || sEq a.Text ⟨#[]⟩) && (n || a.Num == 0) && (b || (a.Low == 0 && a.High == 0)) && (r || decide (keyf a.Real=keyf 0)) && (l || (a.Cap == 0 && (a.List.length:Int) == 0))
theorem Z5f {a:Zb} (ha:Zf3 a) (t n b r l:Bool):Zna a ⟨t,n,b,r,l⟩=some (Zhq t n b r l a):=by
 unfold Zna Zhq
 rw [Zoi ha.real (by decide)]
 simp only
 generalize sEq a.Text ⟨#[]⟩=x1
 generalize (a.Num == 0)=x2
 generalize (a.Low == 0)=x3
 generalize (a.High == 0)=x4
 generalize decide (keyf a.Real=keyf 0)=x5
 generalize (a.Cap == 0)=x6
 generalize ((a.List.length:Int) == 0)=x7
 revert t n b r l x1 x2 x3 x4 x5 x6 x7
 decide
theorem Z5i {a:Zb} (ha:Zf3 a) {s:ByteArray} {t n b r l:Bool} (h:Zcf s (Int.toNat ((s.size:Int) - (0:Int)) + 1) false false false false false 0=some (t,n,b,r,l)):Zg5 a s=some (Zhq t n b r l a):=by
 unfold Zg5 Zhq
 rw [h,Zyq ha.real]
 simp only [Option.bind_some,bne]
 generalize sEq a.Text ⟨#[]⟩=x1
 generalize (a.Num == 0)=x2
 generalize (a.Low == 0)=x3
 generalize (a.High == 0)=x4
 generalize decide (keyf a.Real=keyf 0)=x5
 generalize (a.Cap == 0)=x6
 generalize ((a.List.length:Int) == 0)=x7
 clear h
 revert t n b r l x1 x2 x3 x4 x5 x6 x7
 decide
theorem Z79:Zcf ⟨#[116]⟩ (Int.toNat (((⟨#[116]⟩:ByteArray).size:Int) - (0:Int)) + 1) false false false false false 0=some (true,false,false,false,false):=by kernel_rfl
theorem Z4d:Zcf ⟨#[110]⟩ (Int.toNat (((⟨#[110]⟩:ByteArray).size:Int) - (0:Int)) + 1) false false false false false 0=some (false,true,false,false,false):=by kernel_rfl
theorem Z7c:Zcf ⟨#[110,98]⟩ (Int.toNat (((⟨#[110,98]⟩:ByteArray).size:Int) - (0:Int)) + 1) false false false false false 0=some (false,true,true,false,false):=by kernel_rfl
theorem Zzk:Zcf ⟨#[114]⟩ (Int.toNat (((⟨#[114]⟩:ByteArray).size:Int) - (0:Int)) + 1) false false false false false 0=some (false,false,false,true,false):=by kernel_rfl
theorem Z34:Zcf ⟨#[108]⟩ (Int.toNat (((⟨#[108]⟩:ByteArray).size:Int) - (0:Int)) + 1) false false false false false 0=some (false,false,false,false,true):=by kernel_rfl
def Zoq (t n b r l:Bool) (a:Zb):Int :=
 if Zhq t n b r l a=false then 4
 else if (64:Int) < a.Text.size then 3
 else if b=true ∧ (a.Low < -2305843009213693952 ∨ 2305843009213693952 < a.High ∨ a.Num < a.Low ∨ a.High < a.Num) then 1
 else if a.Real ≠ Zc2 a.Real then 4
 else if l=false then 0
 else if a.Cap < 1 ∨ 32 < a.Cap then 1
 else if a.Cap < a.List.length then 8
 else Zhr a.Kind a.List 0 a.List.length
theorem Zfe {a:Zb} (ha:Zf3 a) {t n b r l:Bool} (hk:¬ (a.Kind ≤ 0 ∨ 10 ≤ a.Kind)) (hs:Zdp a.Kind=some ⟨t,n,b,r,l⟩):Zcv a=some (Zoq t n b r l a):=by
 unfold Zcv Zoq
 rw [hs]
 simp only [Option.bind_some]
 rw [Z5f ha,Zuf ha.real,Z3p ha.len ha.sc]
 simp only [Option.bind_some]
 rw [if_neg (by simpa using hk)]
 by_cases h1:Zhq t n b r l a=false
 ·rw [if_pos h1,if_pos (by simp [h1])]
 ·rw [if_neg h1,if_neg (by simpa using h1)]
  by_cases h2:(64:Int) < a.Text.size
  ·rw [if_pos h2,if_pos (by simpa using h2)]
  ·rw [if_neg h2,if_neg (by simpa using h2)]
   by_cases h3:b=true ∧ (a.Low < -2305843009213693952 ∨ 2305843009213693952 < a.High ∨ a.Num < a.Low ∨ a.High < a.Num)
   ·rw [if_pos h3,if_pos (by simpa [or_assoc] using h3)]
   ·rw [if_neg h3,if_neg (by simpa [or_assoc] using h3)]
    by_cases h4:a.Real=Zc2 a.Real
    ·rw [if_neg (show ¬ (a.Real ≠ Zc2 a.Real) from fun h=>h h4),decide_eq_true h4]
     simp only [Bool.not_true,Bool.false_eq_true,if_false]
     cases l
     ·simp
     ·simp only [Bool.not_true,Bool.false_eq_true,if_false,Bool.true_eq_false]
      by_cases h5:a.Cap < 1 ∨ 32 < a.Cap
      ·rw [if_pos h5,if_pos (by simpa using h5)]
      ·rw [if_neg h5,if_neg (by simpa using h5)]
       by_cases h6:a.Cap < a.List.length
       ·rw [if_pos h6,if_pos (by simpa using h6)]
       ·rw [if_neg h6,if_neg (by simpa using h6)]
    ·rw [if_pos (show a.Real ≠ Zc2 a.Real from h4),decide_eq_false h4]
     rfl
theorem Z00:Zdp 1=some ⟨true,false,false,false,false⟩:=by kernel_rfl
theorem Z1j:Zdp 2=some ⟨false,true,false,false,false⟩:=by kernel_rfl
theorem Z0p:Zdp 3=some ⟨false,true,false,false,false⟩:=by kernel_rfl
theorem Z0z:Zdp 4=some ⟨false,true,true,false,false⟩:=by kernel_rfl
theorem Z0q:Zdp 5=some ⟨false,false,false,true,false⟩:=by kernel_rfl
theorem Z0f:Zdp 6=some ⟨false,false,false,true,false⟩:=by kernel_rfl
theorem Z14:Zdp 7=some ⟨false,false,false,true,false⟩:=by kernel_rfl
theorem Z0a:Zdp 8=some ⟨false,false,false,false,true⟩:=by kernel_rfl
theorem Z11:Zdp 9=some ⟨false,false,false,false,true⟩:=by kernel_rfl
def Zqo (t n b r l:Bool) (k:Int) (a:Zb):Int :=
 if Zhq t n b r l a=false then 4
 else if k=1 ∧ (64:Int) < a.Text.size then 3
 else if k=4 ∧ (a.Low < -2305843009213693952 ∨ 2305843009213693952 < a.High ∨ a.Num < a.Low ∨ a.High < a.Num) then 1
 else if a.Real ≠ Zc2 a.Real then 4
 else if k < 8 then 0
 else if a.Cap < 1 ∨ 32 < a.Cap then 1
 else if a.Cap < a.List.length then 8
 else Zhr a.Kind a.List 0 a.List.length
theorem Zfl {a:Zb} (ha:Zf3 a) {t n b r l:Bool} {s:ByteArray} (hk:¬ (a.Kind < 1 ∨ 9 < a.Kind)) (hf:Zhu a.Kind=some s)
  (ho:Zcf s (Int.toNat ((s.size:Int) - (0:Int)) + 1) false false false false false 0=some (t,n,b,r,l)):Zd7 a=some (Zqo t n b r l a.Kind a):=by
 unfold Zd7 Zqo
 have hw:IntKind.i64.wrap (0 - (2305843009213693952:Int))=-2305843009213693952:=by decide
 rw [hf,Zs6 ha.real,hw,show (Int.toNat ((a.List.length:Int) - (0:Int)) + 1)=a.List.length + 1 by omega]
 have hloop:=Zrs ha a.List.length 0 (by omega)
 rw [show ((0:Nat):Int)=0 from rfl] at hloop
 rw [hloop]
 simp only [Option.bind_some]
 rw [if_neg (by simpa using hk),Z5i ha ho]
 simp only [Option.bind_some]
 by_cases h1:Zhq t n b r l a=false
 ·rw [if_pos h1,if_pos (by simp [h1])]
 ·rw [if_neg h1,if_neg (by simpa using h1)]
  by_cases h2:a.Kind=1 ∧ (64:Int) < a.Text.size
  ·rw [if_pos h2,if_pos (by simpa using h2)]
  ·rw [if_neg h2,if_neg (by simpa using h2)]
   by_cases h3:a.Kind=4 ∧ (a.Low < -2305843009213693952 ∨ 2305843009213693952 < a.High ∨ a.Num < a.Low ∨ a.High < a.Num)
   ·rw [if_pos h3,if_pos (by simpa [or_assoc] using h3)]
   ·rw [if_neg h3,if_neg (by simpa [or_assoc] using h3)]
    by_cases h4:a.Real=Zc2 a.Real
    ·rw [if_neg (show ¬ (a.Real ≠ Zc2 a.Real) from fun h=>h h4),decide_eq_true h4]
     simp only [Bool.not_true,Bool.false_eq_true,if_false]
     by_cases h7:a.Kind < 8
     ·rw [if_pos h7,if_pos (by simpa using h7)]
     ·rw [if_neg h7,if_neg (by simpa using h7)]
      by_cases h5:a.Cap < 1 ∨ 32 < a.Cap
      ·rw [if_pos h5,if_pos (by simpa using h5)]
      ·rw [if_neg h5,if_neg (by simpa using h5)]
       by_cases h6:a.Cap < a.List.length
       ·rw [if_pos h6,if_pos (by simpa using h6)]
       ·rw [if_neg h6,if_neg (by simpa using h6)]
        unfold endC
        by_cases h:Zhr a.Kind a.List 0 a.List.length=0 <;> simp [h]
    ·rw [if_pos (show a.Real ≠ Zc2 a.Real from h4),decide_eq_false h4]
     rfl
theorem Z4u {t n b r l:Bool} {a:Zb} (h:¬ Zhq t n b r l a=false) (ht:t=false):a.Text.size=0:=by
 subst ht
 have:Zhq false n b r l a=true:=by simpa using h
 unfold Zhq at this
 simp only [Bool.false_or,Bool.and_eq_true] at this
 have:=Ziu.1 this.1.1.1.1
 rw [this];rfl
theorem D_eq (t n b r l:Bool) (k:Int) (a:Zb) (ht:t=true ↔ k=1) (hb:b=true ↔ k=4) (hl:l=false ↔ k < 8):Zqo t n b r l k a=Zoq t n b r l a:=by
 unfold Zqo Zoq
 by_cases h1:Zhq t n b r l a=false
 ·rw [if_pos h1,if_pos h1]
 ·rw [if_neg h1,if_neg h1]
  have e2:(k=1 ∧ (64:Int) < a.Text.size) ↔ (64:Int) < a.Text.size:=by
   constructor
   ·exact fun h=>h.2
   ·intro h
    refine ⟨ht.1 ?_,h⟩
    cases t
    ·have:=Z4u h1 rfl;omega
    ·rfl
  simp only [e2,hb,hl]
theorem Zsj {a:Zb} (ha:Zf3 a):∃ c,Zcv a=some c ∧ Zd7 a=some c:=by
 by_cases hk:a.Kind ≤ 0 ∨ 10 ≤ a.Kind
 ·refine ⟨5,?_,?_⟩
  ·unfold Zcv
   have hs:∃ s,Zdp a.Kind=some s:=by
    have h1:¬ a.Kind=1:=by omega
    have h2:¬ a.Kind=2:=by omega
    have h3:¬ a.Kind=3:=by omega
    have h4:¬ a.Kind=4:=by omega
    have h5:¬ a.Kind=5:=by omega
    have h6:¬ a.Kind=6:=by omega
    have h7:¬ a.Kind=7:=by omega
    have h8:¬ a.Kind=8:=by omega
    have h9:¬ a.Kind=9:=by omega
    exact ⟨⟨false,false,false,false,false⟩,by simp [Zdp,Zi9,Zhj,Zi8,h1,h2,h3,h4,h5,h6,h7,h8,h9]⟩
   obtain ⟨s,hs⟩:=hs
   rw [hs]
   simp only [Option.bind_some]
   rw [if_pos (by simpa using hk)]
  ·unfold Zd7
   rw [if_pos (by simp;omega)]
 ·have hk2:¬ (a.Kind < 1 ∨ 9 < a.Kind):=by omega
  have hk':a.Kind=1 ∨ a.Kind=2 ∨ a.Kind=3 ∨ a.Kind=4 ∨ a.Kind=5 ∨ a.Kind=6 ∨ a.Kind=7 ∨ a.Kind=8 ∨ a.Kind=9:=by omega
  rcases hk' with h | h | h | h | h | h | h | h | h
  ·exact ⟨_,Zfe ha hk (by rw [h];exact Z00),by rw [Zfl ha hk2 (by rw [h];kernel_rfl) Z79,D_eq _ _ _ _ _ _ _ (by simp [h]) (by simp [h]) (by simp [h])]⟩
  ·exact ⟨_,Zfe ha hk (by rw [h];exact Z1j),by rw [Zfl ha hk2 (by rw [h];kernel_rfl) Z4d,D_eq _ _ _ _ _ _ _ (by simp [h]) (by simp [h]) (by simp [h])]⟩
  ·exact ⟨_,Zfe ha hk (by rw [h];exact Z0p),by rw [Zfl ha hk2 (by rw [h];kernel_rfl) Z4d,D_eq _ _ _ _ _ _ _ (by simp [h]) (by simp [h]) (by simp [h])]⟩
  ·exact ⟨_,Zfe ha hk (by rw [h];exact Z0z),by rw [Zfl ha hk2 (by rw [h];kernel_rfl) Z7c,D_eq _ _ _ _ _ _ _ (by simp [h]) (by simp [h]) (by simp [h])]⟩
  ·exact ⟨_,Zfe ha hk (by rw [h];exact Z0q),by rw [Zfl ha hk2 (by rw [h];kernel_rfl) Zzk,D_eq _ _ _ _ _ _ _ (by simp [h]) (by simp [h]) (by simp [h])]⟩
  ·exact ⟨_,Zfe ha hk (by rw [h];exact Z0f),by rw [Zfl ha hk2 (by rw [h];kernel_rfl) Zzk,D_eq _ _ _ _ _ _ _ (by simp [h]) (by simp [h]) (by simp [h])]⟩
  ·exact ⟨_,Zfe ha hk (by rw [h];exact Z14),by rw [Zfl ha hk2 (by rw [h];kernel_rfl) Zzk,D_eq _ _ _ _ _ _ _ (by simp [h]) (by simp [h]) (by simp [h])]⟩
  ·exact ⟨_,Zfe ha hk (by rw [h];exact Z0a),by rw [Zfl ha hk2 (by rw [h];kernel_rfl) Z34,D_eq _ _ _ _ _ _ _ (by simp [h]) (by simp [h]) (by simp [h])]⟩
  ·exact ⟨_,Zfe ha hk (by rw [h];exact Z11),by rw [Zfl ha hk2 (by rw [h];kernel_rfl) Z34,D_eq _ _ _ _ _ _ _ (by simp [h]) (by simp [h]) (by simp [h])]⟩
def endB:Bool → Bool ⊕ Unit
 | true=>.inr ()
 | false=>.inl false
def eqI (x y:Zu):Bool:=sEq x.Name y.Name && decide (keyf x.Score=keyf y.Score)
def eqL:List Zu → List Zu → Bool
 | [],[]=>true
 | x :: xs,y :: ys=>eqI x y && eqL xs ys
 | _,_=>false
def Znl (a b:Zb):Bool:=(a.Kind == b.Kind) && (a.Num == b.Num) && (a.Low == b.Low) && (a.High == b.High) && decide (keyf a.Real=keyf b.Real) && (a.Cap == b.Cap) && sEq a.Text b.Text && eqL a.List b.List
theorem Zto:∀ {a b:List Zu},eqL a b=true → a.length=b.length
 | [],[],_=>rfl
 | x :: xs,y :: ys,h=>by
  simp only [eqL,Bool.and_eq_true] at h
  simp [Zto h.2]
 | [],_ :: _,h=>by simp [eqL] at h
 | _ :: _,[],h=>by simp [eqL] at h
theorem Z2e {x y:Zu} (hx:x.Score < W64) (hy:y.Score < W64):Zhw x y=some (eqI x y):=by
 unfold Zhw eqI
 rw [Zoi hx hy]
 cases sEq x.Name y.Name <;> simp [gd]
theorem Zxj {a b:List Zu} (ha:∀ e ∈ a,e.Score < W64) (hb:∀ e ∈ b,e.Score < W64) (hl:a.length < 4611686018427387904) (he:a.length=b.length):∀ (n i:Nat),i + n=a.length →
  Zbj a b (fun y0 y1=>Zhw y0 y1) (n + 1) (i:Int)=some (endB (eqL (a.drop i) (b.drop i)))
 | 0,i,h=>by
  rw [Zbj,if_neg (by simp;omega),List.drop_of_length_le (by omega),List.drop_of_length_le (by omega)]
  rfl
 | n + 1,i,h=>by
  have h1:i < a.length:=by omega
  have h2:i < b.length:=by omega
  rw [Zbj,if_pos (by simp;omega),Zfr h1,Zfr h2,wr1 (by omega)]
  simp only [Option.bind_some]
  rw [Z2e (ha _ (List.getElem_mem h1)) (hb _ (List.getElem_mem h2)),List.drop_eq_getElem_cons h1,List.drop_eq_getElem_cons h2]
  simp only [Option.bind_some,eqL]
  cases hq:eqI a[i] b[i]
  ·simp [endB]
  ·simp only [Bool.not_true,Bool.false_eq_true,if_false,Bool.true_and]
   exact Zxj ha hb hl he n (i + 1) (by omega)
theorem Z6k {a b:List Zu} (ha:∀ e ∈ a,e.Score < W64) (hb:∀ e ∈ b,e.Score < W64) (hl:a.length < 4611686018427387904):Zb2 a b (fun y0 y1=>Zhw y0 y1)=some (eqL a b):=by
 unfold Zb2
 by_cases he:a.length=b.length
 ·rw [if_neg (by simp;omega),show (Int.toNat ((a.length:Int) - (0:Int)) + 1)=a.length + 1 by omega]
  have:=Zxj ha hb hl he a.length 0 (by omega)
  rw [show ((0:Nat):Int)=0 from rfl] at this
  rw [this]
  simp only [List.drop_zero]
  cases eqL a b <;> simp [endB]
 ·rw [if_pos (by simp;omega)]
  cases h:eqL a b
  ·rfl
  ·exact absurd (Zto h) he
theorem Z3e {a b:Zb} (ha:Zf3 a) (hb:Zf3 b):Zll a b=some (Znl a b):=by
 unfold Zll Znl
 rw [Zoi ha.real hb.real,Z6k ha.sc hb.sc ha.len]
 generalize (a.Kind == b.Kind)=x1
 generalize (a.Num == b.Num)=x2
 generalize (a.Low == b.Low)=x3
 generalize (a.High == b.High)=x4
 generalize decide (keyf a.Real=keyf b.Real)=x5
 generalize (a.Cap == b.Cap)=x6
 generalize sEq a.Text b.Text=x7
 generalize eqL a.List b.List=x8
 revert x1 x2 x3 x4 x5 x6 x7 x8
 decide
theorem Zsl {a b:Zb} (ha:Zf3 a) (hb:Zf3 b) (he:a.List.length=b.List.length):∀ (n i:Nat),i + n=a.List.length →
  Zdn a b (n + 1) (i:Int)=some (endB (eqL (a.List.drop i) (b.List.drop i)))
 | 0,i,h=>by
  rw [Zdn,if_neg (by simp;omega),List.drop_of_length_le (by omega),List.drop_of_length_le (by omega)]
  rfl
 | n + 1,i,h=>by
  have h1:i < a.List.length:=by omega
  have h2:i < b.List.length:=by omega
  have hl:=ha.len
  have hs1:=ha.sc _ (List.getElem_mem h1)
  have hs2:=hb.sc _ (List.getElem_mem h2)
  rw [Zdn,if_pos (by simp;omega),Zfr h1,Zfr h2,wr1 (by omega),List.drop_eq_getElem_cons h1,List.drop_eq_getElem_cons h2]
  simp only [Option.bind_some,eqL,eqI]
  cases hn:sEq a.List[i].Name b.List[i].Name
  ·simp [gd,endB]
  ·simp only [Bool.not_true,Bool.not_false,gd_t,Option.bind_some]
   rw [Zow hs1 hs2]
   simp only [Option.bind_some,Bool.false_or,Bool.true_and]
   by_cases hk:keyf a.List[i].Score=keyf b.List[i].Score
   ·simp only [hk,decide_true,Bool.not_true,Bool.false_eq_true,if_false,Bool.true_and]
    exact Zsl ha hb he n (i + 1) (by omega)
   ·simp [hk,endB]
theorem Z0c {a b:Zb} (ha:Zf3 a) (hb:Zf3 b):Zg3 a b=some (Znl a b):=by
 unfold Zg3 Znl
 rw [Zow ha.real hb.real]
 by_cases he:a.List.length=b.List.length
 ·have:=Zsl ha hb he a.List.length 0 (by omega)
  rw [show ((0:Nat):Int)=0 from rfl] at this
  rw [show (Int.toNat ((a.List.length:Int) - (0:Int)) + 1)=a.List.length + 1 by omega,this]
  have hn:((a.List.length:Int) != (b.List.length:Int))=false:=by simp;omega
  rw [hn]
  simp only [List.drop_zero,bne]
  generalize (a.Kind == b.Kind)=x1
  generalize (a.Num == b.Num)=x2
  generalize (a.Low == b.Low)=x3
  generalize (a.High == b.High)=x4
  generalize decide (keyf a.Real=keyf b.Real)=x5
  generalize (a.Cap == b.Cap)=x6
  generalize sEq a.Text b.Text=x7
  generalize eqL a.List b.List=x8
  clear this hn he
  revert x1 x2 x3 x4 x5 x6 x7 x8
  decide
 ·have h8:eqL a.List b.List=false:=by
   cases h:eqL a.List b.List
   ·rfl
   ·exact absurd (Zto h) he
  have hn:((a.List.length:Int) != (b.List.length:Int))=true:=by simp;omega
  rw [hn,h8]
  simp only [bne,Bool.or_true,Option.bind_some,if_true,Bool.and_false,ite_self]
theorem Zs7 {a:Zb} (hl:a.List.length ≤ 9223372036854775807):∀ (n i:Nat),i + n=a.List.length → ∃ z,Zdv a (n + 1) (i:Int)=some z ∧ (z=.inl 1 ∨ z=.inr ())
 | 0,i,h=>by
  rw [Zdv,if_neg (by simp;omega)]
  exact ⟨_,rfl,.inr rfl⟩
 | n + 1,i,h=>by
  rw [Zdv,if_pos (by simp;omega),Zfr (by omega),wr1 (by omega)]
  simp only [Option.bind_some]
  split
  ·exact ⟨_,rfl,.inl rfl⟩
  ·exact Zs7 hl n (i + 1) (by omega)
theorem Zzw {a:Zb} (hl:a.List.length ≤ 9223372036854775807):∃ c,Zgb a=some c ∧ (c=0 ∨ c=1) ∧ (c=0 → a.List.length ≤ 100):=by
 unfold Zgb
 by_cases h:(100:Int) < a.List.length ∨ (1000:Int) < a.Text.size
 ·rw [if_pos (by simpa using h)]
  exact ⟨1,rfl,.inr rfl,fun h=>by cases h⟩
 ·rw [if_neg (by simpa using h),show (Int.toNat ((a.List.length:Int) - (0:Int)) + 1)=a.List.length + 1 by omega]
  obtain ⟨z,hz,hc⟩:=Zs7 hl a.List.length 0 (by omega)
  rw [show ((0:Nat):Int)=0 from rfl] at hz
  rw [hz]
  rcases hc with rfl | rfl
  ·exact ⟨1,rfl,.inr rfl,fun h=>by cases h⟩
  ·exact ⟨0,rfl,.inl rfl,fun _=>by omega⟩
abbrev KV:=ByteArray × Zb
def toL:shelf_nodeT → List KV
 | .nil=>[]
 | .node k r l rr _=>toL l ++ (k,r) :: toL rr
def Szd:shelf_nodeT → Prop
 | .nil=>True
 | .node k r l rr s=>Szd l ∧ Szd rr ∧ s=(((toL l).length + (toL rr).length + 1:Nat):Int)
def Srt (l:List KV):Prop:=l.Pairwise fun p q=>sLt p.1 q.1=true
theorem Zfv {t:shelf_nodeT} (h:Szd t):Zb8 t=some ((toL t).length:Int):=by
 cases t with
 | nil=>rfl
 | node k r l rr s =>
  obtain ⟨_,_,h3⟩:=h
  simp [Zb8,shelf_nodeT.isNil,shelf_nodeT.un,toL,h3]
  omega
theorem Z5k {k:ByteArray} {x:Zb} {l r:shelf_nodeT} (hl:Szd l) (hr:Szd r) (bl:(toL l).length < 1099511627776) (br:(toL r).length < 1099511627776) :
  Zda k x l r=some (.node k x l r (((toL l).length + (toL r).length + 1:Nat):Int)):=by
 unfold Zda
 rw [Zfv hl,Zfv hr]
 simp only [Option.bind_some,shelf_node.up]
 rw [wr (x:=(toL l).length + (toL r).length) (by omega) (by omega),wr (by omega) (by omega)]
 rfl
theorem Zgy {k:ByteArray} {x:Zb} {l r:shelf_nodeT} (hl:Szd l) (hr:Szd r) (bl:(toL l).length < 1099511627776) (br:(toL r).length < 1099511627776) :
  ∃ t,Zda k x l r=some t ∧ Szd t ∧ toL t=toL l ++ (k,x) :: toL r:=⟨_,Z5k hl hr bl br,⟨hl,hr,rfl⟩,rfl⟩
def Zlw (a b:shelf_nodeT):Bool:=decide (3 * ((toL b).length + 1) < (toL a).length + 1)
theorem Zw5 {a b:shelf_nodeT} (ha:Szd a) (hb:Szd b) (ba:(toL a).length < 1099511627776) (bb:(toL b).length < 1099511627776):Zgs a b=some (Zlw a b):=by
 unfold Zgs Zlw
 rw [Zfv ha,Zfv hb]
 simp only [Option.bind_some]
 rw [wr (x:=((toL b).length:Int) + 1) (by omega) (by omega),wr (x:=((toL a).length:Int) + 1) (by omega) (by omega),wr (by omega) (by omega)]
 congr 1
 apply decide_eq_decide.2
 omega
theorem Ztc {t:shelf_nodeT} (h:0 < (toL t).length):∃ k r l rr s,t=.node k r l rr s:=by
 cases t with
 | nil=>simp [toL] at h
 | node k r l rr s=>exact ⟨k,r,l,rr,s,rfl⟩
theorem Zy0 {k:ByteArray} {x:Zb} {l r:shelf_nodeT} (hl:Szd l) (hr:Szd r) (bl:(toL l).length < 1099511627776) (br:(toL r).length < 1099511627776) (bs:(toL l).length + (toL r).length + 1 < 1099511627776) :
  ∃ t,Zj8 k x l r=some t ∧ Szd t ∧ toL t=toL l ++ (k,x) :: toL r:=by
 unfold Zj8
 rw [Zw5 hr hl br bl,Zw5 hl hr bl br]
 simp only [Option.bind_some]
 by_cases h1:Zlw r l=true
 ·have hlen:0 < (toL r).length:=by
   unfold Zlw at h1
   have:=of_decide_eq_true h1
   omega
  obtain ⟨rk,rx,rl,rr,rs,rfl⟩:=Ztc hlen
  obtain ⟨s1,s2,s3⟩:=hr
  have e:(toL (shelf_nodeT.node rk rx rl rr rs)).length=(toL rl).length + (toL rr).length + 1:=by simp [toL];omega
  rw [e] at br bs
  simp only [h1,gd_t,shelf_nodeT.un,Option.bind_some,if_true]
  rw [Zfv s1,Zfv s2]
  simp only [Option.bind_some,Bool.true_and]
  by_cases h2:(decide (IntKind.i64.wrap (((toL rl).length:Int) + 1) < IntKind.i64.wrap (2 * IntKind.i64.wrap (((toL rr).length:Int) + 1))))=true
  ·rw [if_pos h2]
   obtain ⟨t1,e1,z1,l1⟩:=Zgy (k:=k) (x:=x) hl s1 bl (by omega)
   have b1:(toL t1).length < 1099511627776:=by rw [l1];simp;omega
   obtain ⟨t2,e2,z2,l2⟩:=Zgy (k:=rk) (x:=rx) z1 s2 b1 (by omega)
   exact ⟨t2,by rw [e1];simp only [Option.bind_some];rw [e2];rfl,z2,by rw [l2,l1];simp [toL]⟩
  ·rw [if_neg h2]
   have hlen2:0 < (toL rl).length:=by
    rw [wr (x:=((toL rr).length:Int) + 1) (by omega) (by omega),wr (x:=((toL rl).length:Int) + 1) (by omega) (by omega),wr (by omega) (by omega)] at h2
    have:¬ ((toL rl).length:Int) + 1 < 2 * ((toL rr).length + 1):=by simpa using h2
    omega
   obtain ⟨lk,lx,ll,lr,ls,rfl⟩:=Ztc hlen2
   obtain ⟨q1,q2,q3⟩:=s1
   have e':(toL (shelf_nodeT.node lk lx ll lr ls)).length=(toL ll).length + (toL lr).length + 1:=by simp [toL];omega
   rw [e'] at br bs
   simp only [shelf_nodeT.un,Option.bind_some]
   obtain ⟨t1,e1,z1,l1⟩:=Zgy (k:=k) (x:=x) hl q1 bl (by omega)
   obtain ⟨t2,e2,z2,l2⟩:=Zgy (k:=rk) (x:=rx) q2 s2 (by omega) (by omega)
   have b1:(toL t1).length < 1099511627776:=by rw [l1];simp;omega
   have b2:(toL t2).length < 1099511627776:=by rw [l2];simp;omega
   obtain ⟨t3,e3,z3,l3⟩:=Zgy (k:=lk) (x:=lx) z1 z2 b1 b2
   exact ⟨t3,by rw [e1];simp only [Option.bind_some];rw [e2];simp only [Option.bind_some];rw [e3];rfl,z3,by rw [l3,l1,l2];simp [toL]⟩
 ·have h1':Zlw r l=false:=by simpa using h1
  simp only [h1',gd_f,Option.bind_some,Bool.false_and,Bool.false_eq_true,if_false]
  by_cases h3:Zlw l r=true
  ·have hlen:0 < (toL l).length:=by
    unfold Zlw at h3
    have:=of_decide_eq_true h3
    omega
   obtain ⟨rk,rx,rl,rr,rs,rfl⟩:=Ztc hlen
   obtain ⟨s1,s2,s3⟩:=hl
   have e:(toL (shelf_nodeT.node rk rx rl rr rs)).length=(toL rl).length + (toL rr).length + 1:=by simp [toL];omega
   rw [e] at bl bs
   simp only [h3,gd_t,shelf_nodeT.un,Option.bind_some,if_true]
   rw [Zfv s2,Zfv s1]
   simp only [Zb8,shelf_nodeT.isNil,if_true,Option.bind_some,Bool.true_and]
   by_cases h2:(decide (IntKind.i64.wrap (((toL rr).length:Int) + 1) < IntKind.i64.wrap (2 * IntKind.i64.wrap (((toL rl).length:Int) + 1))))=true
   ·rw [if_pos h2]
    obtain ⟨t1,e1,z1,l1⟩:=Zgy (k:=k) (x:=x) s2 hr (by omega) br
    have b1:(toL t1).length < 1099511627776:=by rw [l1];simp;omega
    obtain ⟨t2,e2,z2,l2⟩:=Zgy (k:=rk) (x:=rx) s1 z1 (by omega) b1
    exact ⟨t2,by rw [e1];simp only [Option.bind_some];rw [e2];rfl,z2,by rw [l2,l1];simp [toL]⟩
   ·rw [if_neg h2]
    have hlen2:0 < (toL rr).length:=by
     rw [wr (x:=((toL rl).length:Int) + 1) (by omega) (by omega),wr (x:=((toL rr).length:Int) + 1) (by omega) (by omega),wr (by omega) (by omega)] at h2
     have:¬ ((toL rr).length:Int) + 1 < 2 * ((toL rl).length + 1):=by simpa using h2
     omega
    obtain ⟨lk,lx,ll,lr,ls,rfl⟩:=Ztc hlen2
    obtain ⟨q1,q2,q3⟩:=s2
    have e':(toL (shelf_nodeT.node lk lx ll lr ls)).length=(toL ll).length + (toL lr).length + 1:=by simp [toL];omega
    rw [e'] at bl bs
    simp only [shelf_nodeT.un,Option.bind_some]
    obtain ⟨t1,e1,z1,l1⟩:=Zgy (k:=rk) (x:=rx) s1 q1 (by omega) (by omega)
    obtain ⟨t2,e2,z2,l2⟩:=Zgy (k:=k) (x:=x) q2 hr (by omega) br
    have b1:(toL t1).length < 1099511627776:=by rw [l1];simp;omega
    have b2:(toL t2).length < 1099511627776:=by rw [l2];simp;omega
    obtain ⟨t3,e3,z3,l3⟩:=Zgy (k:=lk) (x:=lx) z1 z2 b1 b2
    exact ⟨t3,by rw [e1];simp only [Option.bind_some];rw [e2];simp only [Option.bind_some];rw [e3];rfl,z3,by rw [l3,l1,l2];simp [toL]⟩
  ·have h3':Zlw l r=false:=by simpa using h3
   simp only [h3',gd_f,Option.bind_some,Bool.false_and,Bool.false_eq_true,if_false]
   obtain ⟨t1,e1,z1,l1⟩:=Zgy (k:=k) (x:=x) hl hr bl br
   exact ⟨t1,by rw [e1];simp [Zb8,shelf_nodeT.isNil,shelf_nodeT.un,Option.bind_some,gd],z1,l1⟩
def insL (k:ByteArray) (x:Zb):List KV → List KV
 | []=>[(k,x)]
 | p :: l=>if sLt k p.1 then (k,x) :: p :: l else if sEq k p.1 then (k,x) :: l else p :: insL k x l
def delL (k:ByteArray):List KV → List KV
 | []=>[]
 | p :: l=>if sEq k p.1 then l else p :: delL k l
theorem Zm1 (k:ByteArray) (x:Zb):∀ l:List KV,(insL k x l).length ≤ l.length + 1
 | []=>by simp [insL]
 | p :: l=>by
  have:=Zm1 k x l
  simp only [insL]
  split
  ·simp
  ·split <;> simp <;> omega
theorem Zyg {k:ByteArray} {x:Zb} {p:KV} {B:List KV} (h:sLt k p.1=true):∀ A:List KV,insL k x (A ++ p :: B)=insL k x A ++ p :: B
 | []=>by simp [insL,h]
 | q :: A=>by
  simp only [List.cons_append,insL]
  split
  ·rfl
  ·split
   ·rfl
   ·rw [Zyg h A];rfl
theorem Znu {k:ByteArray} {x:Zb} {B:List KV}:∀ A:List KV,(∀ q ∈ A,sLt q.1 k=true) → insL k x (A ++ B)=A ++ insL k x B
 | [],_=>rfl
 | q :: A,h=>by
  have hq:=h q (by simp)
  have h1:sLt k q.1=false:=Zr6 hq
  have h2:sEq k q.1=false:=Zgh.2 (fun e=>Zor hq e.symm)
  simp only [List.cons_append,insL,h1,h2,Bool.false_eq_true,if_false]
  rw [Znu A fun q hq=>h q (by simp [hq])]
theorem Z5q {k:ByteArray} {x:Zb} {p:KV} {B:List KV} (h:k=p.1):insL k x (p :: B)=(k,x) :: B:=by
 simp [insL,h,Zml,Zej]
theorem Z40 {k:ByteArray} {x:Zb} {p:KV} {B:List KV} (h:sLt p.1 k=true):insL k x (p :: B)=p :: insL k x B:=by
 have h1:sLt k p.1=false:=Zr6 h
 have h2:sEq k p.1=false:=Zgh.2 (fun e=>Zor h e.symm)
 simp [insL,h1,h2]
theorem Zsm {k:ByteArray}:∀ l:List KV,(∀ q ∈ l,q.1 ≠ k) → delL k l=l
 | [],_=>rfl
 | p :: l,h=>by
  have:sEq k p.1=false:=Zgh.2 (fun e=>h p (by simp) e.symm)
  simp only [delL,this,Bool.false_eq_true,if_false]
  rw [Zsm l fun q hq=>h q (by simp [hq])]
theorem Ztf {A B:List KV} {p:KV} (h:Srt (A ++ p :: B)):Srt A ∧ Srt B ∧ (∀ q ∈ A,sLt q.1 p.1=true) ∧ (∀ q ∈ B,sLt p.1 q.1=true):=by
 obtain ⟨h1,h2,h3⟩:=List.pairwise_append.1 h
 obtain ⟨h4,h5⟩:=List.pairwise_cons.1 h2
 exact ⟨h1,h5,fun q hq=>h3 q hq p (by simp),h4⟩
theorem Zop {k:ByteArray} {x:Zb}:∀ {l:List KV} {q:KV},q ∈ insL k x l → q=(k,x) ∨ q ∈ l
 | [],q,h=>by simp [insL] at h;exact .inl h
 | p :: l,q,h=>by
  simp only [insL] at h
  split at h
  ·rcases List.mem_cons.1 h with h | h
   ·exact .inl h
   ·exact .inr h
  ·split at h
   ·rcases List.mem_cons.1 h with h | h
    ·exact .inl h
    ·exact .inr (List.mem_cons_of_mem _ h)
   ·rcases List.mem_cons.1 h with h | h
    ·exact .inr (by simp [h])
    ·rcases Zop h with h | h
     ·exact .inl h
     ·exact .inr (List.mem_cons_of_mem _ h)
theorem Zyv {k:ByteArray} {x:Zb}:∀ {l:List KV},Srt l → Srt (insL k x l)
 | [],_=>List.pairwise_singleton ..
 | p :: l,h=>by
  obtain ⟨h1,h2⟩:=List.pairwise_cons.1 h
  simp only [insL]
  split
  ·rename_i hk
   refine List.pairwise_cons.2 ⟨fun q hq=>?_,h⟩
   rcases List.mem_cons.1 hq with rfl | hq
   ·exact hk
   ·exact Zkv hk (h1 q hq)
  ·rename_i hk
   split
   ·rename_i he
    have he:=Ziu.1 he
    exact List.pairwise_cons.2 ⟨fun q hq=>by rw [he];exact h1 q hq,h2⟩
   ·rename_i he
    have hlt:sLt p.1 k=true:=Zq2 (by simpa using hk) (fun e=>he (Ziu.2 e))
    refine List.pairwise_cons.2 ⟨fun q hq=>?_,Zyv h2⟩
    rcases Zop hq with rfl | hq
    ·exact hlt
    ·exact h1 q hq
theorem Zwq:∀ (n:Nat) (t:shelf_nodeT) (k:ByteArray) (x:Zb),t.hh < n → Szd t → Srt (toL t) → (toL t).length + 2 < 1099511627776 →
  ∃ t',Zei n t k x=some t' ∧ Szd t' ∧ toL t'=insL k x (toL t)
 | 0,t,k,x,h,_,_,_=>by omega
 | n + 1,.nil,k,x,_,_,_,_=>by
  obtain ⟨t1,e1,z1,l1⟩:=Zgy (k:=k) (x:=x) (l:=.nil) (r:=.nil) trivial trivial (by simp [toL]) (by simp [toL])
  refine ⟨t1,?_,z1,by rw [l1];rfl⟩
  simp only [Zei,Zg9,shelf_nodeT.isNil,if_true]
  rw [e1];rfl
 | n + 1,.node nk nx l r s,k,x,hh,hz,hs,hb=>by
  obtain ⟨z1,z2,z3⟩:=hz
  simp only [toL] at hs hb
  obtain ⟨s1,s2,sA,sB⟩:=Ztf hs
  have hlen:(toL l ++ (nk,nx) :: toL r).length=(toL l).length + (toL r).length + 1:=by simp;omega
  rw [hlen] at hb
  simp only [shelf_nodeT.hh] at hh
  simp only [Zei,Zg9,shelf_nodeT.isNil,shelf_nodeT.un,Bool.false_eq_true,if_false,Option.bind_some]
  by_cases h1:sLt k nk=true
  ·rw [if_pos h1]
   obtain ⟨t1,e1,y1,l1⟩:=Zwq n l k x (by omega) z1 s1 (by omega)
   have b1:=Zm1 k x (toL l)
   rw [← l1] at b1
   obtain ⟨t2,e2,y2,l2⟩:=Zy0 (k:=nk) (x:=nx) y1 z2 (by omega) (by omega) (by omega)
   refine ⟨t2,by rw [e1];simp only [Option.bind_some];rw [e2];rfl,y2,?_⟩
   rw [l2,l1];simp only [toL];rw [Zyg (by exact h1)]
  ·rw [if_neg h1]
   by_cases h2:k=nk
   ·subst h2
    have he:(!(sLt k k || sEq k k))=false:=by simp [Zej]
    rw [he]
    simp only [Bool.false_eq_true,if_false]
    obtain ⟨t1,e1,y1,l1⟩:=Zgy (k:=k) (x:=x) z1 z2 (by omega) (by omega)
    refine ⟨t1,by rw [e1];rfl,y1,?_⟩
    rw [l1];simp only [toL]
    rw [Znu _ (fun q hq=>sA q hq),Z5q rfl]
   ·have h3:sLt nk k=true:=Zq2 (by simpa using h1) h2
    have he:(!(sLt k nk || sEq k nk))=true:=by simp [Zgh.2 h2];simpa using h1
    rw [he]
    simp only [if_true]
    obtain ⟨t1,e1,y1,l1⟩:=Zwq n r k x (by omega) z2 s2 (by omega)
    have b1:=Zm1 k x (toL r)
    rw [← l1] at b1
    obtain ⟨t2,e2,y2,l2⟩:=Zy0 (k:=nk) (x:=nx) z1 y1 (by omega) (by omega) (by omega)
    refine ⟨t2,by rw [e1];simp only [Option.bind_some];rw [e2];rfl,y2,?_⟩
    rw [l2,l1];simp only [toL]
    rw [Znu _ (fun q hq=>Zkv (sA q hq) h3),Z40 h3]
theorem Zt3 {t:shelf_nodeT} {k:ByteArray} {x:Zb} (hz:Szd t) (hs:Srt (toL t)) (hb:(toL t).length + 2 < 1099511627776) :
  ∃ t',Zlc t k x=some t' ∧ Szd t' ∧ toL t'=insL k x (toL t):=Zwq _ t k x (Nat.lt_succ_self _) hz hs hb
def lk (k:ByteArray):List KV → Option Zb
 | []=>none
 | p :: l=>if sEq k p.1 then some p.2 else lk k l
def rk (k:ByteArray):List KV → Nat
 | []=>0
 | p :: l=>if sLt p.1 k then rk k l + 1 else 0
theorem Zpp {k:ByteArray}:∀ {l:List KV},(∀ q ∈ l,q.1 ≠ k) → lk k l=none
 | [],_=>rfl
 | p :: l,h=>by
  have:sEq k p.1=false:=Zgh.2 (fun e=>h p (by simp) e.symm)
  simp only [lk,this,Bool.false_eq_true,if_false]
  exact Zpp fun q hq=>h q (by simp [hq])
theorem Z35 {k:ByteArray} {p:KV} {B:List KV} (h:sLt k p.1=true) (hB:∀ q ∈ B,sLt p.1 q.1=true):∀ A:List KV,lk k (A ++ p :: B)=lk k A
 | []=>by
  have h1:sEq k p.1=false:=Zgh.2 (Zor h)
  simp only [List.nil_append,lk,h1,Bool.false_eq_true,if_false]
  exact Zpp fun q hq e=>by
   have:=Zkv h (hB q hq)
   rw [e,Zml] at this;cases this
 | q :: A=>by
  simp only [List.cons_append,lk]
  split
  ·rfl
  ·exact Z35 h hB A
theorem Ztu {k:ByteArray} {B:List KV}:∀ A:List KV,(∀ q ∈ A,sLt q.1 k=true) → lk k (A ++ B)=lk k B
 | [],_=>rfl
 | q :: A,h=>by
  have hq:=h q (by simp)
  have h2:sEq k q.1=false:=Zgh.2 (fun e=>Zor hq e.symm)
  simp only [List.cons_append,lk,h2,Bool.false_eq_true,if_false]
  exact Ztu A fun q hq=>h q (by simp [hq])
theorem Zv1 (k:ByteArray):∀ l:List KV,rk k l ≤ l.length
 | []=>by simp [rk]
 | p :: l=>by
  have:=Zv1 k l
  simp only [rk]
  split <;> simp <;> omega
def Cl (x:Zb):Prop:=x.List.length ≤ 1000
theorem Zm0 {x:Zb} (h:Cl x):Zfc x=some x:=by
 unfold Zfc Zdj
 unfold Cl at h
 rw [if_pos (by omega)]
 rfl
abbrev zrec:Zb:={ Kind:=0,Num:=0,Low:=0,High:=0,Real:=0,Cap:=0,Text:=ByteArray.empty,List:=[] }
def getR:Option Zb → Zb × Bool
 | some r=>(r,true)
 | none=>(zrec,false)
def getE (x:Zb):Option Zb → (Zb × Bool) ⊕ Zb
 | some r=>.inl (r,true)
 | none=>.inr x
theorem Zr7 (k:ByteArray) (x:Zb):∀ (n:Nat) (t:shelf_nodeT),t.hh < n → Srt (toL t) → (∀ q ∈ toL t,Cl q.2) → Zdh k n x t=some (getE x (lk k (toL t)))
 | 0,t,h,_,_=>by omega
 | n + 1,.nil,_,_,_=>rfl
 | n + 1,.node nk nx l r s,hh,hs,hc=>by
  simp only [toL] at hs hc
  obtain ⟨s1,s2,sA,sB⟩:=Ztf hs
  simp only [shelf_nodeT.hh] at hh
  simp only [Zdh,shelf_nodeT.isNil,shelf_nodeT.un,Bool.not_false,if_true,Option.bind_some,Zf4,toL]
  by_cases h1:sLt k nk=true
  ·rw [if_pos h1,Zr7 k x n l (by omega) s1 (fun q hq=>hc q (by simp [hq])),Z35 (by exact h1) (fun q hq=>sB q hq)]
  ·rw [if_neg h1]
   by_cases h2:k=nk
   ·subst h2
    have he:(!(sLt k k || sEq k k))=false:=by simp [Zej]
    rw [he]
    simp only [Bool.false_eq_true,if_false]
    rw [Zm0 (hc (k,nx) (by simp)),Ztu _ (fun q hq=>sA q hq)]
    simp [lk,Zej,getE]
   ·have h3:sLt nk k=true:=Zq2 (by simpa using h1) h2
    have he:(!(sLt k nk || sEq k nk))=true:=by simp [Zgh.2 h2];simpa using h1
    rw [he]
    simp only [if_true]
    rw [Zr7 k x n r (by omega) s2 (fun q hq=>hc q (by simp [hq])),Ztu _ (fun q hq=>Zkv (sA q hq) h3)]
    simp [lk,Zgh.2 h2]
theorem Zwz {s:Zj} {k:ByteArray} (hs:Srt (toL s.top)) (hc:∀ q ∈ toL s.top,Cl q.2):Zfj s k=some (getR (lk k (toL s.top))):=by
 unfold Zfj
 rw [Zr7 k _ _ _ (Nat.lt_succ_self _) hs hc]
 cases lk k (toL s.top) <;> rfl
def atE (x:Zb):Option KV → (ByteArray × Zb × Bool) ⊕ Zb
 | some p=>.inl (p.1,p.2,true)
 | none=>.inr x
theorem Zzn {α:Type} {A B:List α} {i:Int} (h:i < A.length):idx (A ++ B) i=idx A i:=by
 unfold idx
 split
 ·rw [List.getElem?_append_left (by omega)]
 ·rfl
theorem Zxz {α:Type} {A B:List α} {p:α}:idx (A ++ p :: B) (A.length:Int)=some p:=by
 rw [idxn];simp
theorem Zzf {α:Type} {A B:List α} {p:α} {i:Int} (h:(A.length:Int) < i):idx (A ++ p :: B) i=idx B (i - (A.length + 1)):=by
 unfold idx
 rw [if_pos (by omega),if_pos (by omega),List.getElem?_append_right (by omega)]
 rw [show i.toNat - A.length=(i - (A.length + 1)).toNat + 1 by omega,List.getElem?_cons_succ]
theorem Ztt (x:Zb):∀ (n:Nat) (t:shelf_nodeT) (i:Int),t.hh < n → Szd t → (toL t).length + 2 < 1099511627776 → -1099511627776 < i → i < 1099511627776 → (∀ q ∈ toL t,Cl q.2) → Zdd n i x t=some (atE x (idx (toL t) i))
 | 0,t,i,h,_,_,_,_,_=>by omega
 | n + 1,.nil,i,_,_,_,_,_,_=>by
  simp only [Zdd,shelf_nodeT.isNil,toL]
  have hn:idx ([]:List KV) i=none:=by
   unfold idx
   split <;> simp
  rw [hn]
  rfl
 | n + 1,.node nk nx l r s,i,hh,hz,hb,i1,i2,hc=>by
  obtain ⟨z1,z2,z3⟩:=hz
  simp only [toL] at hb hc
  have hlen:(toL l ++ (nk,nx) :: toL r).length=(toL l).length + (toL r).length + 1:=by simp;omega
  rw [hlen] at hb
  simp only [shelf_nodeT.hh] at hh
  simp only [Zdd,shelf_nodeT.isNil,shelf_nodeT.un,Bool.not_false,if_true,Option.bind_some,Zgm,toL]
  rw [Zfv z1]
  simp only [Option.bind_some]
  by_cases h1:i < (toL l).length
  ·rw [if_pos (by simpa using h1),Ztt x n l i (by omega) z1 (by omega) i1 i2 (fun q hq=>hc q (by simp [hq])),Zzn h1]
  ·rw [if_neg (by simpa using h1)]
   by_cases h2:((toL l).length:Int) < i
   ·rw [if_pos (by simpa using h2),wr (x:=((toL l).length:Int) + 1) (by omega) (by omega),wr (by omega) (by omega),Ztt x n r _ (by omega) z2 (by omega) (by omega) (by omega) (fun q hq=>hc q (by simp [hq])),Zzf h2]
   ·rw [if_neg (by simpa using h2),Zm0 (hc (nk,nx) (by simp))]
    have:i=(toL l).length:=by omega
    subst this
    rw [Zxz];rfl
def atR:Option KV → ByteArray × Zb × Bool
 | some p=>(p.1,p.2,true)
 | none=>(⟨#[]⟩,zrec,false)
theorem Zvz {s:Zj} {i:Int} (hz:Szd s.top) (hb:(toL s.top).length + 2 < 1099511627776) (i1:-1099511627776 < i) (i2:i < 1099511627776) (hc:∀ q ∈ toL s.top,Cl q.2):Zen s i=some (atR (idx (toL s.top) i)):=by
 unfold Zen
 rw [Ztt _ _ _ _ (Nat.lt_succ_self _) hz hb i1 i2 hc]
 cases idx (toL s.top) i <;> rfl
theorem Zqj {k:ByteArray} (x:Zb):∀ {l:List KV},Srt l →
  (∃ p,l[rk k l]?=some p ∧ p.1=k ∧ lk k l=some p.2 ∧ insL k x l=l.take (rk k l) ++ (k,x) :: l.drop (rk k l + 1) ∧ delL k l=l.take (rk k l) ++ l.drop (rk k l + 1)) ∨
  ((∀ p,l[rk k l]?=some p → p.1 ≠ k) ∧ lk k l=none ∧ insL k x l=l.take (rk k l) ++ (k,x) :: l.drop (rk k l) ∧ delL k l=l)
 | [],_=>.inr ⟨fun p h=>by simp at h,rfl,rfl,rfl⟩
 | p :: l,hs=>by
  obtain ⟨h1,h2⟩:=List.pairwise_cons.1 hs
  by_cases h:sLt p.1 k=true
  ·have e1:sLt k p.1=false:=Zr6 h
   have e2:sEq k p.1=false:=Zgh.2 (fun e=>Zor h e.symm)
   simp only [rk,h,if_true,lk,insL,delL,e1,e2,Bool.false_eq_true,if_false,List.getElem?_cons_succ,List.take_succ_cons,List.drop_succ_cons]
   rcases Zqj x h2 with ⟨q,a1,a2,a3,a4,a5⟩ | ⟨a1,a2,a3,a4⟩
   ·exact .inl ⟨q,a1,a2,a3,by rw [a4];rfl,by rw [a5];rfl⟩
   ·exact .inr ⟨a1,a2,by rw [a3];rfl,by rw [a4]⟩
  ·have h':sLt p.1 k=false:=by simpa using h
   simp only [rk,h',Bool.false_eq_true,if_false]
   by_cases he:k=p.1
   ·left
    exact ⟨p,rfl,he.symm,by simp [lk,he,Zej],by simp [insL,he,Zml,Zej],by simp [delL,he,Zej]⟩
   ·right
    have hlt:sLt k p.1=true:=Zq2 h' (fun e=>he e.symm)
    have hne:∀ q ∈ l,q.1 ≠ k:=fun q hq e=>by
     have:=Zkv hlt (h1 q hq)
     rw [e,Zml] at this;cases this
    refine ⟨fun q hq e=>?_,?_,by simp [insL,hlt],?_⟩
    ·simp at hq;subst hq;exact he e.symm
    ·simp only [lk,Zgh.2 he,Bool.false_eq_true,if_false];exact Zpp hne
    ·simp only [delL,Zgh.2 he,Bool.false_eq_true,if_false];rw [Zsm l hne]
def kv (p:Z3):KV:=(p.Key,p.Rec)
def pl (t:Zn):List KV:=t.L.map kv
theorem Zs1 (t:Zn) (i:Nat):(pl t)[i]?=(t.L[i]?).map kv:=by simp [pl]
theorem Zgl (t:Zn):(pl t).length=t.L.length:=by simp [pl]
theorem Zua {t:Zn} {k:ByteArray} (hb:t.L.length < 1099511627776):∀ (n i:Nat),i + n=t.L.length →
  Zcn t k (n + 1) (i:Int)=some ((i + rk k ((pl t).drop i):Nat):Int)
 | 0,i,h=>by
  have hd:decide ((i:Int) < (t.L.length:Int))=false:=by simp;omega
  rw [Zcn,hd,List.drop_of_length_le (by rw [Zgl];omega)]
  simp [gd,rk]
 | n + 1,i,h=>by
  have hd:decide ((i:Int) < (t.L.length:Int))=true:=by simp;omega
  have hi:i < t.L.length:=by omega
  have hi':i < (pl t).length:=by rw [Zgl];exact hi
  rw [Zcn,hd,Zfr hi,List.drop_eq_getElem_cons hi',wr1 (by omega)]
  have hg:(pl t)[i]=kv t.L[i]:=by simp [pl]
  rw [hg]
  simp only [gd_t,Option.bind_some,Bool.true_and,rk]
  by_cases hk:sLt t.L[i].Key k=true
  ·have hk':sLt (kv t.L[i]).1 k=true:=hk
   rw [if_pos hk,if_pos hk',Zua hb n (i + 1) (by omega)]
   congr 2;omega
  ·have hk':¬ sLt (kv t.L[i]).1 k=true:=hk
   rw [if_neg hk,if_neg hk'];rfl
theorem Z3h {t:Zn} {k:ByteArray} (hb:t.L.length < 1099511627776):Zey t k=some (rk k (pl t):Int):=by
 unfold Zey
 have:=Zua (k:=k) hb t.L.length 0 (by omega)
 rw [show ((0:Nat):Int)=0 from rfl] at this
 rw [show (Int.toNat ((t.L.length:Int) - (0:Int)) + 1)=t.L.length + 1 by omega,this]
 simp
structure Rel (s:Zj) (t:Zn) (n:Nat):Prop where
 top:toL s.top=pl t
 sz:Szd s.top
 srt:Srt (pl t)
 len:t.L.length ≤ n
 room:s.room=t.Room
 ok:∀ q ∈ pl t,Zf3 q.2 ∧ q.2.List.length ≤ 100
theorem Rel.cl {s:Zj} {t:Zn} {n:Nat} (h:Rel s t n):∀ q ∈ toL s.top,Cl q.2:=fun q hq=>by
 rw [h.top] at hq
 have:=(h.ok q hq).2
 unfold Cl;omega
theorem Rel.mono {s:Zj} {t:Zn} {n m:Nat} (h:Rel s t n) (hm:n ≤ m):Rel s t m:=⟨h.top,h.sz,h.srt,Nat.le_trans h.len hm,h.room,h.ok⟩
theorem Rel.tl {s:Zj} {t:Zn} {n:Nat} (h:Rel s t n):(toL s.top).length=t.L.length:=by rw [h.top,Zgl]
theorem Zyh (r:Int):Rel { top:=.nil,room:=r } { L:=[],Room:=r } 0:=⟨rfl,trivial,List.Pairwise.nil,Nat.le_refl _,rfl,fun q h=>by simp [pl] at h⟩
theorem Zy3 {s:Zj} {t:Zn} {n:Nat} (h:Rel s t n) (k:ByteArray):Zfj s k=some (getR (lk k (pl t))):=by
 rw [Zwz (by rw [h.top];exact h.srt) h.cl,h.top]
theorem Zqu {s:Zj} {t:Zn} {n:Nat} (h:Rel s t n):Zc7 s=some (t.L.length:Int):=by
 unfold Zc7
 rw [Zfv h.sz,h.tl];rfl
theorem Zws (t:Zn) (i:Nat):(t.L.take i).map kv=(pl t).take i:=by simp [pl]
theorem Zwi (t:Zn) (i:Nat):(t.L.drop i).map kv=(pl t).drop i:=by simp [pl]
theorem Zl5 (k:ByteArray):sEq k (⟨#[]⟩:ByteArray)=decide ((k.size:Int) < 1):=by
 by_cases h:k=⟨#[]⟩
 ·subst h;rw [Zej];decide
 ·rw [Zgh.2 h]
  have:k.size ≠ 0:=fun e=>h (by
   apply ByteArray.ext
   exact Array.size_eq_zero_iff.1 e)
  simp;omega
theorem Zw0 {s:Zj} {t:Zn} {n:Nat} (h:Rel s t n) (hn:n < 1000000) (k:ByteArray) {x:Zb} (hx:Zf3 x) (hx2:x.List.length ≤ 100) :
  ∃ s' t' c,Zc6 s k x=some (s',c) ∧ Zfd t k x=some (t',c) ∧ Rel s' t' (n + 1) ∧ (pl t'=pl t ∨ (pl t'=insL k x (pl t) ∧ Zcv x=some 0 ∧ ¬ (k.size:Int) < 1 ∧ ¬ (24:Int) < (k.size:Int))):=by
 have hb:=h.len
 have hle:=Zv1 k (pl t)
 rw [Zgl] at hle
 obtain ⟨c,hc1,hc2⟩:=Zsj hx
 unfold Zc6 Zfd
 rw [hc1,hc2,Zy3 h,Z3h (by omega),Zqu h,Zm0 (by unfold Cl;omega),Zl5,h.room]
 by_cases h1:(decide ((k.size:Int) < 1) || decide ((24:Int) < (k.size:Int)))=true
 ·rw [if_pos h1,if_pos h1]
  exact ⟨s,t,1,rfl,rfl,h.mono (by omega),.inl rfl⟩
 ·rw [if_neg h1,if_neg h1]
  simp only [Option.bind_some]
  by_cases h2:(c != 0)=true
  ·rw [if_pos h2,if_pos h2]
   exact ⟨s,t,c,rfl,rfl,h.mono (by omega),.inl rfl⟩
  ·rw [if_neg h2,if_neg h2]
   obtain ⟨t1,e1,z1,l1⟩:=Zt3 (k:=k) (x:=x) h.sz (by rw [h.top];exact h.srt) (by rw [h.tl];omega)
   rw [e1]
   have h20:c=0:=by simpa using h2
   have h11:¬ (k.size:Int) < 1:=fun h'=>h1 (by simp [h'])
   have h12:¬ (24:Int) < (k.size:Int):=fun h'=>h1 (by simp [h'])
   have hmk:∀ L':List Z3,L'.map kv=insL k x (pl t) → Rel { top:=t1,room:=t.Room } { L:=L',Room:=t.Room } (n + 1) ∧ (pl { L:=L',Room:=t.Room }=pl t ∨ (pl { L:=L',Room:=t.Room }=insL k x (pl t) ∧ some c=some (0:Int) ∧ ¬ (k.size:Int) < 1 ∧ ¬ (24:Int) < (k.size:Int))):=fun L' hL=>by
    have hpl:pl { L:=L',Room:=t.Room }=insL k x (pl t):=hL
    refine ⟨⟨by rw [hpl,l1,h.top],z1,by rw [hpl];exact Zyv h.srt,?_,rfl,?_⟩,.inr ⟨hpl,by rw [h20],h11,h12⟩⟩
    ·have:=Zm1 k x (pl t)
     rw [← hL,Zgl] at this
     simp at this
     show L'.length ≤ n + 1
     omega
    ·intro q hq
     rw [hpl] at hq
     rcases Zop hq with rfl | hq
     ·exact ⟨hx,hx2⟩
     ·exact h.ok q hq
   rcases Zqj x h.srt with ⟨p,a1,a2,a3,a4,_⟩ | ⟨a1,a2,a3,_⟩
   ·have hi:rk k (pl t) < t.L.length:=by
     have:=(List.getElem?_eq_some_iff.1 a1).1
     rwa [Zgl] at this
    have hd:decide (((rk k (pl t):Nat):Int) < (t.L.length:Int))=true:=by simp;omega
    have hg:(pl t)[rk k (pl t)]?=some (kv t.L[rk k (pl t)]):=by rw [Zs1,List.getElem?_eq_getElem hi];rfl
    rw [hg] at a1
    obtain rfl:=Option.some.inj a1
    have he:sEq (t.L[rk k (pl t)]).Key k=true:=Ziu.2 a2
    rw [a3,hd,Zfr hi]
    simp only [getR,Bool.not_true,Bool.false_and,Bool.false_eq_true,if_false,gd_f,gd_t,Option.bind_some,he,Bool.and_self,Bool.true_and,if_true]
    rw [show (0:Int)=((0:Nat):Int) from rfl,Zm8 (by omega) (by omega),wr1 (by omega)]
    simp only [Option.bind_some,List.nil_append,List.drop_zero,Nat.sub_zero,List.length_nil,Nat.zero_add,Zds]
    rw [if_pos (by simp;omega),if_pos (by simp;omega),Zm8 (by omega) (by omega)]
    have ht:(List.take (t.L.length - (rk k (pl t) + 1)) (List.drop (rk k (pl t) + 1) t.L))=List.drop (rk k (pl t) + 1) t.L:=List.take_of_length_le (by simp)
    simp only [Option.bind_some,ht,List.nil_append]
    rw [if_pos (by simp;omega)]
    refine ⟨_,_,0,rfl,rfl,hmk _ ?_⟩
    rw [a4];simp [Zws,Zwi,kv,pl]
   ·rw [a2]
    simp only [getR,Bool.not_false,gd_t,Option.bind_some,Bool.true_and]
    have hne:(decide (((rk k (pl t):Nat):Int) < (t.L.length:Int)) && sEq (((gd (decide (((rk k (pl t):Nat):Int) < (t.L.length:Int))) (idx t.L ((rk k (pl t):Nat):Int))).getD default).Key) k)=false:=by
     by_cases hi:rk k (pl t) < t.L.length
     ·have hg:(pl t)[rk k (pl t)]?=some (kv t.L[rk k (pl t)]):=by rw [Zs1,List.getElem?_eq_getElem hi];rfl
      have he:sEq (t.L[rk k (pl t)]).Key k=false:=Zgh.2 (a1 _ hg)
      have hd:decide (((rk k (pl t):Nat):Int) < (t.L.length:Int))=true:=by simp;omega
      rw [hd,Zfr hi]
      simp [gd,he]
     ·have hd:decide (((rk k (pl t):Nat):Int) < (t.L.length:Int))=false:=by simp;omega
      rw [hd];rfl
    have hex:∃ e,gd (decide (((rk k (pl t):Nat):Int) < (t.L.length:Int))) (idx t.L ((rk k (pl t):Nat):Int))=some e:=by
     by_cases hi:rk k (pl t) < t.L.length
     ·rw [Zfr hi]
      cases decide (((rk k (pl t):Nat):Int) < (t.L.length:Int)) <;> exact ⟨_,rfl⟩
     ·have hd:decide (((rk k (pl t):Nat):Int) < (t.L.length:Int))=false:=by simp;omega
      rw [hd];exact ⟨_,rfl⟩
    obtain ⟨e,hee⟩:=hex
    rw [hee] at hne ⊢
    simp only [Option.getD_some] at hne
    simp only [Option.bind_some,hne,Bool.not_false,Bool.true_and]
    by_cases h5:decide (t.Room ≤ (t.L.length:Int))=true
    ·rw [if_pos h5,if_pos h5]
     exact ⟨s,t,8,rfl,rfl,h.mono (by omega),.inl rfl⟩
    ·rw [if_neg h5,if_neg h5]
     rw [show (0:Int)=((0:Nat):Int) from rfl,Zm8 (by omega) (by omega)]
     simp only [Option.bind_some,List.nil_append,List.drop_zero,Nat.sub_zero,List.length_nil,Nat.zero_add,Zds,Bool.false_eq_true,if_false]
     rw [if_pos (by simp;omega),if_pos (by simp;omega),Zm8 (by omega) (by omega)]
     have ht:(List.take (t.L.length - rk k (pl t)) (List.drop (rk k (pl t)) t.L))=List.drop (rk k (pl t)) t.L:=List.take_of_length_le (by simp)
     simp only [Option.bind_some,ht,List.nil_append]
     rw [if_pos (by simp;omega)]
     refine ⟨_,_,0,rfl,rfl,hmk _ ?_⟩
     rw [a3];simp [Zws,Zwi,kv,pl]
theorem Zw2:∀ l:List Zu,eqL l l=true
 | []=>rfl
 | x :: l=>by simp [eqL,eqI,Zej,Zw2 l]
theorem Zs8 (a:Zb):Znl a a=true:=by simp [Znl,Zej,Zw2]
theorem Zza {s:Zj} {t:Zn} {m:Nat} (h:Rel s t m) (hm:m < 1000000):∀ (n i:Nat),i + n=t.L.length → Zd9 s t (n + 1) (i:Int)=some (.inr ())
 | 0,i,hi=>by
  rw [Zd9,if_neg (by simp;omega)]
 | n + 1,i,hi=>by
  have hb:=h.len
  have h1:i < t.L.length:=by omega
  rw [Zd9,if_pos (by simp;omega),Zfr h1,Zvz h.sz (by rw [h.tl];omega) (by omega) (by omega) h.cl,wr1 (by omega),h.top,idxn,Zs1,List.getElem?_eq_getElem h1]
  have hq:kv t.L[i] ∈ pl t:=by
   have:(pl t)[i]?=some (kv t.L[i]):=by rw [Zs1,List.getElem?_eq_getElem h1];rfl
   exact List.mem_of_getElem? this
  have hr:Zf3 (t.L[i]).Rec:=(h.ok _ hq).1
  simp only [Option.map_some,atR,kv,Option.bind_some,Bool.not_true,Zej,Bool.or_self,Bool.not_false,gd_t]
  rw [Z0c hr hr,Zs8]
  simp only [Option.bind_some,Bool.not_true,Bool.false_or,Bool.false_eq_true,if_false]
  exact Zza h hm n (i + 1) (by omega)
theorem Z7h {s:Zj} {t:Zn} {m:Nat} (h:Rel s t m) (hm:m < 1000000):Zip s t=some 1:=by
 unfold Zip
 rw [Zqu h]
 simp only [Option.bind_some,bne_self_eq_false,Bool.not_false,gd_t,Ziz,h.room,Bool.or_self,Bool.false_eq_true,if_false]
 have:=Zza h hm t.L.length 0 (by omega)
 rw [show ((0:Nat):Int)=0 from rfl] at this
 rw [show (Int.toNat ((t.L.length:Int) - (0:Int)) + 1)=t.L.length + 1 by omega,this]
 rfl
def Z4r (a:Zr):Prop:=Zf3 a.Make ∧ a.X < W64
abbrev Z4p:=List Zu
def pre (f:Zu → Bool):Z4p → Nat
 | []=>0
 | e :: r=>if f e then pre f r + 1 else 0
theorem Zrn {k:Int} {l:Z4p}:∀ (n i:Nat),Zhr k l i n=0 ↔ ∀ j,i ≤ j → j < i + n → Zh8 k l j=0
 | 0,i=>⟨fun _ j h1 h2=>by omega,fun _=>rfl⟩
 | n + 1,i=>by
  by_cases h:Zh8 k l i=0
  ·rw [Zr5 h,Zrn n (i + 1)]
   constructor
   ·intro hh j h1 h2
    by_cases e:j=i
    ·rw [e];exact h
    ·exact hh j (by omega) (by omega)
   ·intro hh j h1 h2;exact hh j (by omega) (by omega)
  ·rw [Zr2 h]
   exact ⟨fun e=>absurd e h,fun hh=>absurd (hh i (Nat.le_refl _) (by omega)) h⟩
theorem Zri {t n b r l:Bool} {a:Zb}:Zoq t n b r l a=0 ↔ Zhq t n b r l a=true ∧ a.Text.size ≤ 64 ∧ (b=true → -2305843009213693952 ≤ a.Low ∧ a.High ≤ 2305843009213693952 ∧ a.Low ≤ a.Num ∧ a.Num ≤ a.High) ∧ a.Real=Zc2 a.Real ∧ (l=true → 1 ≤ a.Cap ∧ a.Cap ≤ 32 ∧ (a.List.length:Int) ≤ a.Cap ∧ ∀ i,i < a.List.length → Zh8 a.Kind a.List i=0):=by
 unfold Zoq
 by_cases h1:Zhq t n b r l a=false
 ·rw [if_pos h1,h1];simp
 ·have h1':Zhq t n b r l a=true:=by simpa using h1
  rw [if_neg h1,h1']
  by_cases h2:(64:Int) < a.Text.size
  ·rw [if_pos h2];exact ⟨fun h=>absurd h (by decide),fun h=>by omega⟩
  ·rw [if_neg h2]
   by_cases h3:b=true ∧ (a.Low < -2305843009213693952 ∨ 2305843009213693952 < a.High ∨ a.Num < a.Low ∨ a.High < a.Num)
   ·rw [if_pos h3];exact ⟨fun h=>absurd h (by decide),fun h=>by have:=h.2.2.1 h3.1;omega⟩
   ·rw [if_neg h3]
    by_cases h4:a.Real=Zc2 a.Real
    ·rw [if_neg (fun h=>h h4)]
     cases l
     ·rw [if_pos rfl]
      refine ⟨fun _=>⟨rfl,by omega,fun hb=>?_,h4,fun h=>absurd h (by decide)⟩,fun _=>rfl⟩
      have:¬ (a.Low < -2305843009213693952 ∨ 2305843009213693952 < a.High ∨ a.Num < a.Low ∨ a.High < a.Num):=fun h=>h3 ⟨hb,h⟩
      omega
     ·rw [if_neg (by decide)]
      by_cases h5:a.Cap < 1 ∨ 32 < a.Cap
      ·rw [if_pos h5];exact ⟨fun h=>absurd h (by decide),fun h=>by have:=h.2.2.2.2 rfl;omega⟩
      ·rw [if_neg h5]
       by_cases h6:a.Cap < a.List.length
       ·rw [if_pos h6];exact ⟨fun h=>absurd h (by decide),fun h=>by have:=h.2.2.2.2 rfl;omega⟩
       ·rw [if_neg h6,Zrn]
        constructor
        ·intro h
         refine ⟨rfl,by omega,fun hb=>?_,h4,fun _=>⟨by omega,by omega,by omega,fun i hi=>h i (Nat.zero_le _) (by omega)⟩⟩
         have:¬ (a.Low < -2305843009213693952 ∨ 2305843009213693952 < a.High ∨ a.Num < a.Low ∨ a.High < a.Num):=fun h=>h3 ⟨hb,h⟩
         omega
        ·intro h j _ hj
         exact (h.2.2.2.2 rfl).2.2.2 j (by omega)
    ·rw [if_pos h4];exact ⟨fun h=>absurd h (by decide),fun h=>absurd h.2.2.2.1 h4⟩
def Zqp (a:Zb):Prop:=1 ≤ a.Kind ∧ a.Kind ≤ 9 ∧ Zhq (decide (a.Kind=1)) (decide (2 ≤ a.Kind ∧ a.Kind ≤ 4)) (decide (a.Kind=4)) (decide (5 ≤ a.Kind ∧ a.Kind ≤ 7)) (decide (8 ≤ a.Kind)) a=true ∧ a.Text.size ≤ 64 ∧ (a.Kind=4 → -2305843009213693952 ≤ a.Low ∧ a.High ≤ 2305843009213693952 ∧ a.Low ≤ a.Num ∧ a.Num ≤ a.High) ∧ a.Real=Zc2 a.Real ∧
 (8 ≤ a.Kind → 1 ≤ a.Cap ∧ a.Cap ≤ 32 ∧ (a.List.length:Int) ≤ a.Cap ∧ ∀ i,i < a.List.length → Zh8 a.Kind a.List i=0)
theorem Ztd {a:Zb} (ha:Zf3 a):Zcv a=some 0 ↔ Zqp a:=by
 by_cases hk:a.Kind ≤ 0 ∨ 10 ≤ a.Kind
 ·have:Zcv a ≠ some 0:=by
   obtain ⟨c,hc,hc2⟩:=Zsj ha
   unfold Zd7 at hc2
   rw [if_pos (by simp;omega)] at hc2
   rw [hc,← hc2];decide
  exact ⟨fun h=>absurd h this,fun h=>by obtain ⟨h1,h2,_⟩:=h;omega⟩
 ·have fin:∀ {t n b r l:Bool},Zdp a.Kind=some ⟨t,n,b,r,l⟩ → t=decide (a.Kind=1) → n=decide (2 ≤ a.Kind ∧ a.Kind ≤ 4) → b=decide (a.Kind=4) → r=decide (5 ≤ a.Kind ∧ a.Kind ≤ 7) → l=decide (8 ≤ a.Kind) → (Zcv a=some 0 ↔ Zqp a):=by
   intro t n b r l hs h1 h2 h3 h4 h5
   rw [Zfe ha hk hs]
   constructor
   ·intro h
    obtain ⟨g1,g2,g3,g4,g5⟩:=Zri.1 (Option.some.inj h)
    refine ⟨by omega,by omega,by rw [← h1,← h2,← h3,← h4,← h5];exact g1,g2,fun hk4=>g3 (by rw [h3];simpa using hk4),g4,fun hk8=>g5 (by rw [h5];simpa using hk8)⟩
   ·rintro ⟨_,_,g1,g2,g3,g4,g5⟩
    congr 1
    exact Zri.2 ⟨by rw [h1,h2,h3,h4,h5];exact g1,g2,fun hb=>g3 (by rw [h3] at hb;simpa using hb),g4,fun hb=>g5 (by rw [h5] at hb;simpa using hb)⟩
  have hk':a.Kind=1 ∨ a.Kind=2 ∨ a.Kind=3 ∨ a.Kind=4 ∨ a.Kind=5 ∨ a.Kind=6 ∨ a.Kind=7 ∨ a.Kind=8 ∨ a.Kind=9:=by omega
  rcases hk' with h | h | h | h | h | h | h | h | h <;> rw [h] at fin
  ·exact fin Z00 rfl rfl rfl rfl rfl
  ·exact fin Z1j rfl rfl rfl rfl rfl
  ·exact fin Z0p rfl rfl rfl rfl rfl
  ·exact fin Z0z rfl rfl rfl rfl rfl
  ·exact fin Z0q rfl rfl rfl rfl rfl
  ·exact fin Z0f rfl rfl rfl rfl rfl
  ·exact fin Z14 rfl rfl rfl rfl rfl
  ·exact fin Z0a rfl rfl rfl rfl rfl
  ·exact fin Z11 rfl rfl rfl rfl rfl
def I64 (x:Int):Prop:=-9223372036854775808 ≤ x ∧ x ≤ 9223372036854775807
structure RecW (r:Zb):Prop where
 ok:Zf3 r
 num:I64 r.Num
 low:I64 r.Low
 high:I64 r.High
 kind:I64 r.Kind
 len:r.List.length ≤ 1000
structure ActW (a:Zr):Prop where
 ok:Z4r a
 n:I64 a.N
 mkr:RecW a.Make
 xc:a.X=Zc2 a.X
 inout:(a.Kind=10 ∨ a.Kind=11) → 0 ≤ a.N ∧ a.N ≤ 2305843009213693952
 s64:a.S.size ≤ 64
 s16:¬ (5 ≤ a.Kind ∧ a.Kind ≤ 6) → a.S.size ≤ 16
theorem Zug {r:Zb} (h:r.List.length ≤ 1000):Zfc r=some r:=by
 unfold Zfc Zdj
 rw [if_pos (by omega)];rfl
variable {r:Zb} {a:Zr}
variable {r:Zb} {a:Zr}
structure ActIn (a:Zr):Prop where
 ok:Z4r a
 n:I64 a.N
 mkr:RecW a.Make
theorem ActIn.w {a:Zr} (h:ActIn a) {c:Int} (hc:1 ≤ a.Kind ∧ a.Kind ≤ 21 ∧ a.X=Zc2 a.X ∧ a.S.size ≤ 64 ∧ ((a.Kind=10 ∨ a.Kind=11) → 0 ≤ a.N ∧ a.N ≤ 2305843009213693952) ∧ (a.Kind=1 → Zcv a.Make=some 0) ∧ (¬ (5 ≤ a.Kind ∧ a.Kind ≤ 6) → a.S.size ≤ 16) ∧ sEq a.Key ⟨#[]⟩=false ∧ a.Key.size ≤ 24):ActW a :=
 ⟨h.ok,h.n,h.mkr,hc.2.2.1,hc.2.2.2.2.1,hc.2.2.2.1,hc.2.2.2.2.2.2.1⟩
theorem Zy7 {x:Zb} (h:Zkr x):x.List.length ≤ 9223372036854775807:=by
 obtain ⟨_,_,_,_,_,_,_,h8,_⟩:=h
 simp only [maxLen] at h8;omega
theorem Zyx {x:Zb} (h:Zkr x) (hl:x.List.length ≤ 100):RecW x:=by
 obtain ⟨h1,h2,h3,h4,h5,_,_,h8,h9⟩:=h
 exact ⟨⟨h5,by omega,fun e he=>(h9 e he).1⟩,h2,h3,h4,h1,by omega⟩
theorem Zu1 {s s':Zj} {k:ByteArray} {x:Zb} {c:Int} (h:Zc6 s k x=some (s',c)):s'.room=s.room:=by
 unfold Zc6 at h
 split at h
 ·cases h;rfl
 ·obtain ⟨_,_,h⟩:=Option.bind_eq_some_iff.1 h
  split at h
  ·cases h;rfl
  ·obtain ⟨_,_,h⟩:=Option.bind_eq_some_iff.1 h
   obtain ⟨_,_,h⟩:=Option.bind_eq_some_iff.1 h
   split at h
   ·cases h;rfl
   ·obtain ⟨_,_,h⟩:=Option.bind_eq_some_iff.1 h
    obtain ⟨_,_,h⟩:=Option.bind_eq_some_iff.1 h
    cases h;rfl
theorem Zw6 {s s':Zj} {t:Zn} {n:Nat} (h:Rel s t n) (hn:n < 1000000) {k:ByteArray} {x:Zb} {c:Int} (e:Zc6 s k x=some (s',c)) (hc:Zcv x=some 0) (hx:x.List.length ≤ 100) (hk:sEq k ⟨#[]⟩=false) (hk2:k.size ≤ 24) :
  (((lk k (pl t)).isSome=true ∨ (t.L.length:Int) < t.Room) → c=0 ∧ toL s'.top=insL k x (pl t)) ∧ ((lk k (pl t)).isNone=true → t.Room ≤ (t.L.length:Int) → c=8 ∧ s'=s):=by
 have hb:=h.len
 obtain ⟨t1,q1,_,q3⟩:=Zt3 (k:=k) (x:=x) h.sz (by rw [h.top];exact h.srt) (by rw [h.tl];omega)
 unfold Zc6 at e
 rw [hk,hc,Zy3 h,Zqu h,Zm0 (by unfold Cl;omega)] at e
 have hd:decide ((24:Int) < (k.size:Int))=false:=by simp;omega
 rw [hd] at e
 simp only [Bool.or_self,Bool.false_eq_true,if_false,Option.bind_some,bne_self_eq_false] at e
 cases hl:lk k (pl t) with
 | none =>
  rw [hl] at e
  simp only [getR,Bool.not_false,gd_t,Option.bind_some,Bool.true_and,h.room] at e
  by_cases hr:t.Room ≤ (t.L.length:Int)
  ·rw [if_pos (by simpa using hr)] at e
   cases e
   refine ⟨fun h=>?_,fun _ _=>⟨rfl,rfl⟩⟩
   rcases h with h | h
   ·cases h
   ·omega
  ·rw [if_neg (by simpa using hr),q1] at e
   cases e
   exact ⟨fun _=>⟨rfl,by rw [← h.top];exact q3⟩,fun _ h=>absurd h hr⟩
 | some r =>
  rw [hl] at e
  simp only [getR,Bool.not_true,gd_f,Option.bind_some,Bool.false_and,Bool.false_eq_true,if_false] at e
  rw [q1] at e
  cases e
  exact ⟨fun _=>⟨rfl,by rw [← h.top];exact q3⟩,fun h=>by cases h⟩
structure FR (s:Zj) (t:Zn) (n:Nat):Prop where
 rel:Rel s t n
 good:∀ q ∈ pl t,RecW q.2 ∧ Zqp q.2
 fit:(t.L.length:Int) ≤ t.Room
theorem Z3g {k:ByteArray} {x r:Zb} {l:List KV} (hs:Srt l) (h:lk k l=some r):(insL k x l).length=l.length:=by
 rcases Zqj x hs with ⟨p,a1,a2,a3,a4,_⟩ | ⟨_,a2,_⟩
 ·rw [a4]
  have:=(List.getElem?_eq_some_iff.1 a1).1
  simp;omega
 ·rw [h] at a2;cases a2
theorem FR.mono {s:Zj} {t:Zn} {n m:Nat} (h:FR s t n) (hm:n ≤ m):FR s t m:=⟨h.rel.mono hm,h.good,h.fit⟩
theorem Z60 {s:Zj} {t t':Zn} {n:Nat} (h:Rel s t n) (hp:pl t'=pl t) (hr:t'.Room=t.Room):Rel s t' n :=
 ⟨h.top.trans hp.symm,h.sz,by rw [hp];exact h.srt,by rw [← Zgl,hp,Zgl];exact h.len,h.room.trans hr.symm,by rw [hp];exact h.ok⟩
theorem Zy6 {s:Zj} {t t':Zn} {n:Nat} (h:FR s t n) (hp:pl t'=pl t) (hr:t'.Room=t.Room):FR s t' n :=
 ⟨Z60 h.rel hp hr,by rw [hp];exact h.good,by rw [hr,← Zgl,hp,Zgl];exact h.fit⟩
theorem Z1g {s s':Zj} {t t':Zn} {n m:Nat} {k:ByteArray} {x:Zb} (h:FR s t n) (hr:Rel s' t' m) (hw:RecW x) (hg:Zqp x) (ho:(lk k (pl t)).isSome=true ∨ (t.L.length:Int) < t.Room) (hp:pl t'=insL k x (pl t)) (hro:t'.Room=t.Room):FR s' t' m:=⟨hr,fun q hq=>by
 rw [hp] at hq
 rcases Zop hq with rfl | hq
 ·exact ⟨hw,hg⟩
 ·exact h.good q hq,by
 have hf:=h.fit
 rw [hro,← Zgl,hp]
 have hl:=Zm1 k x (pl t)
 rw [Zgl] at hl
 rcases ho with ho | ho
 ·obtain ⟨r,hr⟩:=Option.isSome_iff_exists.1 ho
  rw [Z3g h.rel.srt hr,Zgl];exact hf
 ·omega⟩
theorem Zo5 {l:List Z3} (hl:l.length ≤ 60) (hw:∀ p ∈ l,Zea p) {z:Zj} {r:Int}:∀ (n i:Nat) {s:Zj} {t:Zn},i + n=l.length → FR s t i → t.Room=r →
  (∃ s',Zcb l (n + 1) z s t (i:Int)=some (.inl (s',none))) ∨ (∃ s' t',Zcb l (n + 1) z s t (i:Int)=some (.inr (z,s',t')) ∧ FR s' t' 60 ∧ t'.Room=r)
 | 0,i,s,t,h,hf,hr=>by
  right
  rw [Zcb,if_neg (by simp;omega)]
  exact ⟨s,t,rfl,hf.mono (by omega),hr⟩
 | n + 1,i,s,t,h,hf,hr=>by
  have h1:i < l.length:=by omega
  have hm:=hw _ (List.getElem_mem h1)
  obtain ⟨c,e1,e2,e3⟩:=Zzw (Zy7 hm.2)
  rw [Zcb,if_pos (by simp;omega),Zfr h1,wr1 (by omega)]
  simp only [Option.bind_some]
  rw [e1]
  by_cases hk:decide ((100:Int) < ((l[i]).Key.size:Int))=true
  ·rw [hk];left;exact ⟨s,rfl⟩
  ·rw [Bool.eq_false_iff.2 hk]
   simp only [Bool.not_false,gd_t,Option.bind_some,Bool.false_or]
   rcases e2 with rfl | rfl
   ·simp only [Int.lt_irrefl,decide_false,Bool.false_eq_true,if_false]
    have hx:RecW (l[i]).Rec:=Zyx hm.2 (e3 rfl)
    obtain ⟨s',t',c,f1,f2,f3,f4⟩:=Zw0 hf.rel (by omega) (l[i]).Key hx.ok (e3 rfl)
    rw [f1,f2]
    simp only [Option.bind_some]
    have hro:t'.Room=t.Room:=by rw [← f3.room,Zu1 f1,hf.rel.room]
    refine Zo5 hl hw n (i + 1) (by omega) ?_ (by rw [hro,hr])
    rcases f4 with f4 | ⟨f4,f5,f6,f7⟩
    ·have:=Zy6 hf f4 hro
     exact ⟨f3,this.good,this.fit⟩
    ·refine Z1g hf f3 hx ((Ztd hx.ok).1 f5) ?_ f4 hro
     refine Classical.byContradiction fun hno=>?_
     have h1:(lk (l[i]).Key (pl t)).isNone=true:=by
      cases hz:lk (l[i]).Key (pl t) with
      | none=>rfl
      | some r=>exact absurd (.inl (by rw [hz];rfl)) hno
     have h2:t.Room ≤ (t.L.length:Int):=Int.not_lt.1 fun h=>hno (.inr h)
     have hk1:sEq (l[i]).Key ⟨#[]⟩=false:=by
      rw [Zl5];simpa using f6
     obtain ⟨_,hs⟩:=(Zw6 hf.rel (by omega) f1 f5 (e3 rfl) hk1 (by omega)).2 h1 h2
     subst hs
     have ht:=f3.top
     rw [hf.rel.top,f4] at ht
     rcases Zqj (k:=(l[i]).Key) (l[i]).Rec hf.rel.srt with ⟨p,_,_,a3,_⟩ | ⟨_,_,a3,_⟩
     ·rw [a3] at h1;cases h1
     ·have hle:=congrArg List.length ht
      rw [a3] at hle
      have hrk:=Zv1 (l[i]).Key (pl t)
      simp at hle
      omega
   ·left;exact ⟨s,rfl⟩
theorem Z27 {r:Int} {l:List Z3} (hw:∀ p ∈ l,Zea p):(∃ s,Zd8 r l=some (s,none)) ∨ (∃ s t,Zd8 r l=some (s,some t) ∧ FR s t 60 ∧ t.Room=r ∧ 1 ≤ r ∧ r ≤ 4096):=by
 unfold Zd8 Ziy
 by_cases hr:r < 1 ∨ 4096 < r
 ·rw [if_pos (by simpa using hr)]
  left;exact ⟨_,rfl⟩
 ·rw [if_neg (by simpa using hr)]
  simp only [Option.bind_some,bne_self_eq_false,Bool.false_or]
  by_cases hl:60 < l.length
  ·rw [if_pos (by simp;omega)];left;exact ⟨_,rfl⟩
  ·rw [if_neg (by simp;omega),show (Int.toNat ((l.length:Int) - (0:Int)) + 1)=l.length + 1 by omega]
   have:=Zo5 (l:=l) (by omega) hw (z:=default) (r:=r) l.length 0 (by omega) ⟨Zyh r,fun q hq=>by simp [pl] at hq,by simp;omega⟩ rfl
   rw [show ((0:Nat):Int)=0 from rfl] at this
   rcases this with ⟨s',e⟩ | ⟨s',t',e,e2,e3⟩
   ·rw [e];left;exact ⟨_,rfl⟩
   ·rw [e];right;exact ⟨s',t',rfl,e2,e3,by omega,by omega⟩
theorem Zyk {x:Nat} (h:keyf x=keyf 0):x=0:=by
 unfold keyf at h
 rw [if_neg (show ¬ isn 0 by decide),if_neg (show ¬ TOP ≤ 0 by decide)] at h
 split at h
 ·exact absurd h (by decide)
 ·split at h
  ·unfold TOP at *;omega
  ·omega
def ItOk (nine:Bool) (l:List Zu):Prop:=l.length ≤ 32 ∧ ∀ e ∈ l,e.Name.size ≤ 16 ∧ e.Score < W64 ∧ e.Score=Zc2 e.Score ∧ (nine=false → e.Score=0)
structure RT (a:Zb):Prop where
 k1:1 ≤ a.Kind
 k9:a.Kind ≤ 9
 text:a.Text.size ≤ 64
 t0:a.Kind ≠ 1 → a.Text=ByteArray.empty
 low:-9223372036854775808 ≤ a.Low ∧ a.Low ≤ 9223372036854775807
 high:-9223372036854775808 ≤ a.High ∧ a.High ≤ 9223372036854775807
 b0:a.Kind ≠ 4 → a.Low=0 ∧ a.High=0
 num:-9223372036854775808 ≤ a.Num ∧ a.Num ≤ 9223372036854775807
 n0:¬ (2 ≤ a.Kind ∧ a.Kind ≤ 4) → a.Num=0
 real:a.Real < W64 ∧ a.Real=Zc2 a.Real
 r0:¬ (5 ≤ a.Kind ∧ a.Kind ≤ 7) → a.Real=0
 cap:8 ≤ a.Kind → 1 ≤ a.Cap ∧ a.Cap ≤ 32 ∧ ItOk (a.Kind == 9) a.List
 l0:¬ 8 ≤ a.Kind → a.Cap=0 ∧ a.List=[]
theorem Z5d {s:ByteArray} (h:sEq s ⟨#[]⟩=true):s=ByteArray.empty:=Ziu.1 h
theorem Z8e {a:Zb} (hw:RecW a) (hg:Zqp a):RT a:=by
 obtain ⟨k1,k9,ho,ht,hb,hr,hl⟩:=hg
 simp only [Zhq,Bool.and_eq_true,Bool.or_eq_true,decide_eq_true_eq,beq_iff_eq] at ho
 obtain ⟨⟨⟨⟨o1,o2⟩,o3⟩,o4⟩,o5⟩:=ho
 have wl:=hw.low;have wh:=hw.high;have wn:=hw.num
 unfold I64 at wl wh wn
 refine ⟨k1,k9,ht,fun h=>?_,by omega,by omega,fun h=>?_,by omega,fun h=>?_,⟨hw.ok.real,hr⟩,fun h=>?_,fun h=>?_,fun h=>?_⟩
 ·rcases o1 with o1 | o1
  ·exact absurd o1 h
  ·exact Z5d o1
 ·rcases o3 with o3 | o3
  ·exact absurd o3 h
  ·exact o3
 ·rcases o2 with o2 | o2
  ·exact absurd o2 h
  ·exact o2
 ·rcases o4 with o4 | o4
  ·exact absurd o4 h
  ·exact Zyk o4
 ·obtain ⟨c1,c2,c3,c4⟩:=hl h
  refine ⟨by omega,c2,by omega,fun e he=>?_⟩
  obtain ⟨i,hi,rfl⟩:=List.getElem_of_mem he
  have hs:=hw.ok.sc _ he
  have hc:=c4 i hi
  unfold Zh8 at hc
  rw [List.getElem?_eq_getElem hi] at hc
  simp only [] at hc
  split at hc
  ·cases hc
  rename_i n1
  split at hc
  ·cases hc
  rename_i n2
  have n3:(a.List[i]).Score=Zc2 (a.List[i]).Score:=Classical.byContradiction fun h=>n2 (.inr h)
  refine ⟨by omega,hs,n3,fun h9=>Zyk (Classical.byContradiction fun h=>n2 (.inl ⟨?_,h⟩))⟩
  have:a.Kind ≠ 9:=by simpa using h9
  omega
 ·rcases o5 with o5 | o5
  ·exact absurd o5 h
  ·exact ⟨o5.1,by have:=o5.2;simpa using this⟩
def Zso (k:Int):List UInt8:=(Znr[k.toNat]?.getD ⟨#[]⟩).data.toList
def itW (nine:Bool) (e:Zu):List (List UInt8):=(if nine=true then [Zfh e.Score] else []) ++ [wB e.Name]
def Zcs (a:Zb):List (List UInt8) :=
 if a.Kind=1 then [wB a.Text] else if a.Kind=4 then [Lib.itoa a.Low,Lib.itoa a.High,Lib.itoa a.Num] else if a.Kind ≤ 4 then [Lib.itoa a.Num] else
 if a.Kind ≤ 7 then [Zfh a.Real] else Lib.itoa a.Cap :: a.List.flatMap (itW (a.Kind == 9))
def recW (a:Zb):List (List UInt8):=Zso a.Kind :: Zcs a
def WOk (w:List UInt8):Prop:=w.length ≤ 200 ∧ (32:UInt8) ∉ w ∧ (59:UInt8) ∉ w
theorem Zud (x:Nat):∀ c ∈ Zfh x,Znw c:=by
 intro c hc
 unfold Zfh at hc
 rcases List.mem_append.1 hc with hc | hc
 ·rw [List.eq_of_mem_replicate hc];exact .inl (by decide)
 ·exact Zt2 _ _ c hc
theorem Zv2 (x:Nat):WOk (Zfh x):=by
 refine ⟨by rw [Zqi];decide,fun h=>?_,fun h=>?_⟩
 ·have:=Zud x _ h;revert this;unfold Znw;decide
 ·have:=Zud x _ h;revert this;unfold Znw;decide
theorem Zmq {n:Int} (h1:-9223372036854775808 ≤ n) (h2:n ≤ 9223372036854775807):WOk (Lib.itoa n):=by
 obtain ⟨a,b⟩:=Zwy h1 h2
 refine ⟨by omega,fun h=>?_,fun h=>?_⟩
 ·have:=b _ h;revert this;decide
 ·have:=b _ h;revert this;decide
theorem Ztb (c:UInt8):(32:UInt8) ∉ Zc0 c ∧ (59:UInt8) ∉ Zc0 c:=by
 have key:∀ n:Nat,n < 256 → (32:UInt8) ∉ Zc0 (UInt8.ofNat n) ∧ (59:UInt8) ∉ Zc0 (UInt8.ofNat n):=by decide +kernel
 have:=key c.toNat c.toNat_lt
 rwa [Zxo] at this
theorem Zr8 {s:ByteArray} (h:s.size ≤ 64):WOk (wB s):=by
 have hl:=Z0r s
 refine ⟨by omega,?_,?_⟩ <;>
 ·unfold wB
  split
  ·decide
  ·intro hm
   obtain ⟨c,_,hc⟩:=List.mem_flatMap.1 hm
   first | exact (Ztb c).1 hc | exact (Ztb c).2 hc
theorem Zmg {k:Int} (h1:1 ≤ k) (h9:k ≤ 9):k=1 ∨ k=2 ∨ k=3 ∨ k=4 ∨ k=5 ∨ k=6 ∨ k=7 ∨ k=8 ∨ k=9:=by omega
theorem Zxl {k:Int} (h1:1 ≤ k) (h9:k ≤ 9):WOk (Zso k) ∧ Zm9 k=some (nb (Zso k)):=by
 unfold WOk
 rcases Zmg h1 h9 with rfl | rfl | rfl | rfl | rfl | rfl | rfl | rfl | rfl <;> exact ⟨by decide,rfl⟩
theorem Zwh {nine:Bool} {l:List Zu} (h:ItOk nine l):(∀ w ∈ l.flatMap (itW nine),WOk w) ∧ (l.flatMap (itW nine)).length ≤ 2 * l.length:=by
 refine ⟨fun w hw=>?_,?_⟩
 ·obtain ⟨e,he,hw⟩:=List.mem_flatMap.1 hw
  have:=(h.2 e he).1
  unfold itW at hw
  rcases List.mem_append.1 hw with hw | hw
  ·split at hw
   ·rw [List.mem_singleton.1 hw];exact Zv2 _
   ·simp at hw
  ·rw [List.mem_singleton.1 hw];exact Zr8 (by omega)
 ·have:∀ l:List Zu,(l.flatMap (itW nine)).length ≤ 2 * l.length:=by
   intro l
   induction l with
   | nil=>simp
   | cons e l ih =>
    simp only [List.flatMap_cons,List.length_append,List.length_cons]
    have:(itW nine e).length ≤ 2:=by unfold itW;split <;> simp
    omega
  exact this l
theorem Zol {a:Zb} (h:RT a):(∀ w ∈ recW a,WOk w) ∧ (recW a).length ≤ 66:=by
 obtain ⟨k,_⟩:=Zxl h.k1 h.k9
 unfold recW
 have hf:(∀ w ∈ Zcs a,WOk w) ∧ (Zcs a).length ≤ 65:=by
  unfold Zcs
  have hl:=h.low;have hh:=h.high;have hn:=h.num
  split
  ·exact ⟨fun w hw=>by rw [List.mem_singleton.1 hw];exact Zr8 h.text,by simp⟩
  split
  ·refine ⟨fun w hw=>?_,by simp⟩
   simp only [List.mem_cons,List.not_mem_nil,or_false] at hw
   rcases hw with rfl | rfl | rfl
   ·exact Zmq hl.1 hl.2
   ·exact Zmq hh.1 hh.2
   ·exact Zmq hn.1 hn.2
  split
  ·exact ⟨fun w hw=>by rw [List.mem_singleton.1 hw];exact Zmq hn.1 hn.2,by simp⟩
  split
  ·exact ⟨fun w hw=>by rw [List.mem_singleton.1 hw];exact Zv2 _,by simp⟩
  ·obtain ⟨c1,c2,c3⟩:=h.cap (by omega)
   obtain ⟨i1,i2⟩:=Zwh c3
   have:=c3.1
   refine ⟨fun w hw=>?_,by rw [List.length_cons];omega⟩
   rcases List.mem_cons.1 hw with rfl | hw
   ·exact Zmq (by omega) (by omega)
   ·exact i1 w hw
 refine ⟨fun w hw=>?_,by rw [List.length_cons];omega⟩
 rcases List.mem_cons.1 hw with rfl | hw
 ·exact k
 ·exact hf.1 w hw
theorem Zox:∀ (ws:List (List UInt8)),(∀ w ∈ ws,WOk w) → (Lib.join ws [32]).length ≤ 201 * ws.length
 | [],_=>by simp [Lib.join,List.intercalate]
 | [w],h=>by rw [Zm3];have:=(h w (by simp)).1;simp;omega
 | w :: v :: ws,h=>by
  have h1:=(h w (by simp)).1
  have h2:=Zox (v :: ws) (fun x hx=>h x (List.mem_cons_of_mem _ hx))
  rw [Zju]
  simp only [List.length_append,List.length_cons,List.length_nil] at *
  omega
theorem Zui (c:UInt8) (hc:c ≠ 32):∀ (ws:List (List UInt8)),(∀ w ∈ ws,c ∉ w) → c ∉ Lib.join ws [32]
 | [],_=>by simp [Lib.join,List.intercalate]
 | [w],h=>by rw [Zm3];exact h w (by simp)
 | w :: v :: ws,h=>by
  have h1:=h w (by simp)
  have h2:=Zui c hc (v :: ws) (fun x hx=>h x (List.mem_cons_of_mem _ hx))
  rw [Zju]
  simp only [List.mem_append,List.mem_singleton,not_or]
  exact ⟨⟨h1,hc⟩,h2⟩
theorem Zzt {ws:List (List UInt8)} (h:ws.length ≤ 1000) (hw:∀ w ∈ ws,WOk w):Zg2 (ws.map nb) (⟨#[32]⟩:ByteArray)=some (nb (Lib.join ws [32])):=by
 have e:(ws.map nb).map (·.data.toList)=ws:=by
  rw [List.map_map]
  have:((fun x:ByteArray=>x.data.toList) ∘ nb)=id:=by funext x;rfl
  rw [this,List.map_id]
 have hl:=Zox ws hw
 unfold Zg2
 rw [e,show (⟨#[32]⟩:ByteArray).data.toList=[32] from rfl,if_pos ⟨by simp;omega,by omega⟩]
 rfl
theorem Zrw {a:Zb} {nine:Bool} (hk:(a.Kind == 9)=nine) (hl:ItOk nine a.List):∀ (n i:Nat) (acc:List (List UInt8)),i + n=a.List.length → acc.length + 2 * n ≤ 1000 → Zd6 a (n + 1) (acc.map nb) (i:Int)=some ((acc ++ (a.List.drop i).flatMap (itW nine)).map nb)
 | 0,i,acc,h,hb=>by
  rw [Zd6,if_neg (by simp;omega),List.drop_of_length_le (by omega)];simp
 | n + 1,i,acc,h,hb=>by
  have h1:i < a.List.length:=by omega
  have hl1:=hl.1
  obtain ⟨g1,g2,g3,g4⟩:=hl.2 _ (List.getElem_mem h1)
  rw [List.drop_eq_getElem_cons h1,List.flatMap_cons,Zd6,if_pos (by simp;omega),Zfr h1,Option.bind_some,hk]
  cases nine with
  | true =>
   rw [if_pos rfl,Zlu g2 g3,Option.bind_some,if_pos (by simp;omega)]
   unfold Zg0
   rw [Zl6 (by omega),Option.bind_some,if_pos (by simp;omega),wr1 (by omega)]
   have:=Zrw hk hl n (i + 1) (acc ++ [Zfh (a.List[i]).Score,wB (a.List[i]).Name]) (by omega) (by simp;omega)
   rw [List.map_append] at this
   rw [List.append_assoc]
   refine this.trans ?_
   rw [List.append_assoc]
   rfl
  | false =>
   rw [if_neg (by simp)]
   unfold Zg0
   rw [Zl6 (by omega),Option.bind_some,if_pos (by simp;omega),wr1 (by omega)]
   have:=Zrw hk hl n (i + 1) (acc ++ [wB (a.List[i]).Name]) (by omega) (by simp;omega)
   rw [List.map_append] at this
   refine this.trans ?_
   rw [List.append_assoc]
   rfl
theorem Z2c {ws:List (List UInt8)} (h:ws.length ≤ 1000) (hw:∀ w ∈ ws,WOk w):Zd4 (ws.map nb)=some (nb (Lib.join ws [32])):=by
 unfold Zd4
 rw [Zzt h hw]
 rfl
theorem Zwf {a:Zb} (hc:Zcv a=some 0) (h:RT a):Zib a=some (nb (Lib.join (recW a) [32])):=by
 obtain ⟨o1,o2⟩:=Zol h
 have hj:=Z2c (by omega) o1
 obtain ⟨_,hn⟩:=Zxl h.k1 h.k9
 unfold Zib
 rw [hc,Option.bind_some,if_neg (by decide),hn,Option.bind_some]
 unfold recW at hj ⊢
 have hl:=h.low;have hh:=h.high;have hu:=h.num
 have ht:=h.text
 have hr:=h.real
 rcases Zmg h.k1 h.k9 with hk | hk | hk | hk | hk | hk | hk | hk | hk
 ·have hf:Zcs a=[wB a.Text]:=by unfold Zcs;rw [if_pos hk]
  rw [hf] at hj ⊢
  rw [if_pos (by rw [hk];rfl),Zl6 (by omega),Option.bind_some,if_pos (by simp)]
  exact hj
 ·have hf:Zcs a=[Lib.itoa a.Num]:=by unfold Zcs;rw [if_neg (by omega),if_neg (by omega),if_pos (by omega)]
  rw [hf] at hj ⊢
  rw [if_neg (by rw [hk];decide),if_pos (by rw [hk];rfl)]
  unfold Zfa
  rw [if_pos (by rw [hk];rfl),Zjv hu.1 hu.2,Option.bind_some,if_pos (by simp)]
  exact hj
 ·have hf:Zcs a=[Lib.itoa a.Num]:=by unfold Zcs;rw [if_neg (by omega),if_neg (by omega),if_pos (by omega)]
  rw [hf] at hj ⊢
  rw [if_neg (by rw [hk];decide),if_neg (by rw [hk];decide)]
  unfold Zfa
  rw [if_pos (by rw [hk];rfl),Zjv hu.1 hu.2,Option.bind_some,if_pos (by simp)]
  exact hj
 ·have hf:Zcs a=[Lib.itoa a.Low,Lib.itoa a.High,Lib.itoa a.Num]:=by unfold Zcs;rw [if_neg (by omega),if_pos hk]
  rw [hf] at hj ⊢
  rw [if_neg (by rw [hk];decide),if_neg (by rw [hk];decide)]
  unfold Zfa
  rw [if_neg (by rw [hk];decide),if_pos (by rw [hk];rfl),Zjv hl.1 hl.2,Option.bind_some,Zjv hh.1 hh.2,Option.bind_some,Zjv hu.1 hu.2,Option.bind_some,if_pos (by simp)]
  exact hj
 all_goals
  rw [if_neg (by rw [hk];decide),if_neg (by rw [hk];decide)]
  unfold Zfa
  rw [if_neg (by rw [hk];decide),if_neg (by rw [hk];decide)]
 ·have hf:Zcs a=[Zfh a.Real]:=by unfold Zcs;rw [if_neg (by omega),if_neg (by omega),if_neg (by omega),if_pos (by omega)]
  rw [hf] at hj ⊢
  rw [if_pos (by rw [hk];rfl)]
  unfold Zep
  rw [if_pos (by rw [hk];rfl),Zlu hr.1 hr.2,Option.bind_some,if_pos (by simp)]
  exact hj
 ·have hf:Zcs a=[Zfh a.Real]:=by unfold Zcs;rw [if_neg (by omega),if_neg (by omega),if_neg (by omega),if_pos (by omega)]
  rw [hf] at hj ⊢
  rw [if_neg (by rw [hk];decide),if_pos (by rw [hk];rfl)]
  unfold Zep
  rw [if_pos (by rw [hk];rfl),Zlu hr.1 hr.2,Option.bind_some,if_pos (by simp)]
  exact hj
 ·have hf:Zcs a=[Zfh a.Real]:=by unfold Zcs;rw [if_neg (by omega),if_neg (by omega),if_neg (by omega),if_pos (by omega)]
  rw [hf] at hj ⊢
  rw [if_neg (by rw [hk];decide),if_neg (by rw [hk];decide)]
  unfold Zep
  rw [if_pos (by rw [hk];rfl),Zlu hr.1 hr.2,Option.bind_some,if_pos (by simp)]
  exact hj
 all_goals
  have hf:Zcs a=Lib.itoa a.Cap :: a.List.flatMap (itW (a.Kind == 9)):=by unfold Zcs;rw [if_neg (by omega),if_neg (by omega),if_neg (by omega),if_neg (by omega)]
  rw [hf] at hj ⊢
  rw [if_neg (by rw [hk];decide),if_neg (by rw [hk];decide)]
  unfold Zep
  obtain ⟨c1,c2,c3⟩:=h.cap (by omega)
  have hq:=c3.1
  have:=Zrw rfl c3 a.List.length 0 [Zso a.Kind,Lib.itoa a.Cap] (by omega) (by simp;omega)
  rw [if_neg (by rw [hk];decide),Zjv (by omega) (by omega),Option.bind_some,if_pos (by simp),show (Int.toNat ((a.List.length:Int) - (0:Int)) + 1)=a.List.length + 1 by omega]
  refine Eq.trans (congrArg (fun q=>Option.bind q fun z48=>match z48 with | y47=>(Zd4 y47)) this) ?_
  exact hj
theorem Zuh {nine:Bool}:∀ (l:List Zu) (n:Nat) (y:Zb),((y.Kind == 9)=nine) → ItOk nine l → l.length < n → y.List.length + l.length ≤ 1000 → Zca n y ⟨(l.flatMap (itW nine)).map nb⟩=some ({ y with List:=y.List ++ l },⟨[]⟩)
 | [],0,y,_,_,h,_=>by simp at h
 | [],n + 1,y,_,_,h,_=>by rw [Zca,if_neg (by simp)];simp
 | e :: l,0,y,_,_,h,_=>by simp at h
 | e :: l,n + 1,y,hk,hl,h,hb=>by
  obtain ⟨g1,g2,g3,g4⟩:=hl.2 e (List.mem_cons_self ..)
  have hl2:ItOk nine l:=⟨by have:=hl.1;simp at this;omega,fun x hx=>hl.2 x (List.mem_cons_of_mem _ hx)⟩
  have hll:=(Zwh hl2).2
  have:=hl2.1
  simp only [List.length_cons] at h hb
  have hfin:(if (y.List.length + ([e]:List Zu).length) * 24 ≤ 140737488355328 then Zca n ({ y with List:=(y.List ++ ([e]:List Zu)) }:Zb) ⟨(l.flatMap (itW nine)).map nb⟩ else none)=some ({ y with List:=y.List ++ e :: l },⟨[]⟩):=by
   rw [if_pos (by simp;omega)]
   have:=Zuh l n { y with List:=y.List ++ [e] } hk hl2 (by omega) (by simp;omega)
   refine this.trans ?_
   simp only [List.append_assoc]
   rfl
  rw [List.flatMap_cons,Zca,if_pos (by unfold itW;simp;omega),hk]
  cases nine with
  | true =>
   rw [if_pos rfl]
   show (Zeu ⟨nb (Zfh e.Score) :: nb (wB e.Name) :: (l.flatMap (itW true)).map nb⟩).bind _=_
   rw [Znm g2 g3 _ (by simp only [List.length_cons,List.length_map];omega),Option.bind_some]
   unfold Zd0
   rw [Znn (by omega) _ (by simp only [List.length_cons,List.length_map];omega),Option.bind_some]
   exact hfin
  | false =>
   rw [if_neg (by simp)]
   show Zd0 y (Zca n) default ⟨nb (wB e.Name) :: (l.flatMap (itW false)).map nb⟩=_
   unfold Zd0
   rw [Znn (by omega) _ (by simp only [List.length_cons,List.length_map];omega),Option.bind_some]
   have he:({ (default:Zu) with Name:=e.Name }:Zu)=e:=by
    have:=g4 rfl
    cases e
    simp only [] at this ⊢
    rw [this]
    rfl
   rw [he]
   exact hfin
theorem Z12 {k:Int} (h1:1 ≤ k) (h9:k ≤ 9) (r:Z0):Zdk (nb (Zso k),r) (Int.toNat ((10:Int) - (1:Int)) + 1) (default:Zb) (1:Int) r=some ({ (default:Zb) with Kind:=k },r):=by
 rcases Zmg h1 h9 with rfl | rfl | rfl | rfl | rfl | rfl | rfl | rfl | rfl <;> kernel_rfl
theorem Zly {a:Zb} {k n lo hi c:Int} {r:Nat} {t:ByteArray} {l:List Zu} (h1:a.Kind=k) (h2:a.Num=n) (h3:a.Low=lo) (h4:a.High=hi) (h5:a.Real=r) (h6:a.Cap=c) (h7:a.Text=t) (h8:a.List=l):(⟨k,n,lo,hi,r,c,t,l⟩:Zb)=a:=by subst h1 h2 h3 h4 h5 h6 h7 h8;rfl
theorem Z3w {a:Zb} (h:RT a):Zgj ⟨(recW a).map nb⟩=some (a,⟨[]⟩):=by
 obtain ⟨o1,o2⟩:=Zol h
 unfold Zgj
 unfold recW at o2 ⊢
 rw [List.length_cons] at o2
 rw [List.map_cons,Zl0 _ _ (by simp;omega),Option.bind_some]
 simp only []
 rw [Z12 h.k1 h.k9,Option.bind_some]
 simp only []
 have hl:=h.low;have hh:=h.high;have hu:=h.num
 have ht:=h.text
 have hr:=h.real
 have t0:=h.t0;have b0:=h.b0;have n0:=h.n0;have r0:=h.r0;have l0:=h.l0
 have hk0:=h.k1
 rw [if_neg (by simp;omega)]
 have hend:∀ b:Zb,b=a → Zc1 b ⟨[]⟩=some (a,⟨[]⟩):=by rintro b rfl;rfl
 have hd:(default:Zb)=⟨0,0,0,0,0,0,ByteArray.empty,[]⟩:=rfl
 rcases Zmg h.k1 h.k9 with hk | hk | hk | hk | hk | hk | hk | hk | hk
 ·have hf:Zcs a=[wB a.Text]:=by unfold Zcs;rw [if_pos hk]
  rw [if_pos (by rw [hk];rfl),hf,List.map_cons,List.map_nil,Znn (by omega) _ (by simp),Option.bind_some]
  refine hend _ ?_
  obtain ⟨b1,b2⟩:=b0 (by omega)
  obtain ⟨l1,l2⟩:=l0 (by omega)
  rw [hd]
  have n1:=n0 (by omega)
  have r1:=r0 (by omega)
  exact Zly (by first | rfl | assumption) (by first | rfl | assumption) (by first | rfl | assumption) (by first | rfl | assumption) (by first | rfl | assumption) (by first | rfl | assumption) (by first | rfl | assumption) (by first | rfl | assumption)
 ·have hf:Zcs a=[Lib.itoa a.Num]:=by unfold Zcs;rw [if_neg (by omega),if_neg (by omega),if_pos (by omega)]
  rw [if_neg (by rw [hk];decide),if_pos (by rw [hk];rfl)]
  unfold Zdg
  rw [if_pos (by rw [hk];rfl),hf,List.map_cons,List.map_nil,Zlf hu.1 hu.2 _ (by simp),Option.bind_some]
  refine hend _ ?_
  obtain ⟨b1,b2⟩:=b0 (by omega)
  obtain ⟨l1,l2⟩:=l0 (by omega)
  rw [hd]
  have n1:=t0 (by omega)
  have r1:=r0 (by omega)
  exact Zly (by first | rfl | assumption) (by first | rfl | assumption) (by first | rfl | assumption) (by first | rfl | assumption) (by first | rfl | assumption) (by first | rfl | assumption) (by first | rfl | assumption) (by first | rfl | assumption)
 ·have hf:Zcs a=[Lib.itoa a.Num]:=by unfold Zcs;rw [if_neg (by omega),if_neg (by omega),if_pos (by omega)]
  rw [if_neg (by rw [hk];decide),if_neg (by rw [hk];decide)]
  unfold Zdg
  rw [if_pos (by rw [hk];rfl),hf,List.map_cons,List.map_nil,Zlf hu.1 hu.2 _ (by simp),Option.bind_some]
  refine hend _ ?_
  obtain ⟨b1,b2⟩:=b0 (by omega)
  obtain ⟨l1,l2⟩:=l0 (by omega)
  rw [hd]
  have n1:=t0 (by omega)
  have r1:=r0 (by omega)
  exact Zly (by first | rfl | assumption) (by first | rfl | assumption) (by first | rfl | assumption) (by first | rfl | assumption) (by first | rfl | assumption) (by first | rfl | assumption) (by first | rfl | assumption) (by first | rfl | assumption)
 ·have hf:Zcs a=[Lib.itoa a.Low,Lib.itoa a.High,Lib.itoa a.Num]:=by unfold Zcs;rw [if_neg (by omega),if_pos hk]
  rw [if_neg (by rw [hk];decide),if_neg (by rw [hk];decide)]
  unfold Zdg
  rw [if_neg (by rw [hk];decide),if_pos (by rw [hk];rfl),hf]
  simp only [List.map_cons,List.map_nil]
  rw [Zlf hl.1 hl.2 _ (by simp),Option.bind_some]
  simp only []
  rw [Zlf hh.1 hh.2 _ (by simp),Option.bind_some]
  simp only []
  rw [Zlf hu.1 hu.2 _ (by simp),Option.bind_some]
  refine hend _ ?_
  obtain ⟨l1,l2⟩:=l0 (by omega)
  rw [hd]
  have n1:=t0 (by omega)
  have r1:=r0 (by omega)
  exact Zly (by first | rfl | assumption) (by first | rfl | assumption) (by first | rfl | assumption) (by first | rfl | assumption) (by first | rfl | assumption) (by first | rfl | assumption) (by first | rfl | assumption) (by first | rfl | assumption)
 all_goals
  rw [if_neg (by rw [hk];decide),if_neg (by rw [hk];decide)]
  unfold Zdg
  rw [if_neg (by rw [hk];decide),if_neg (by rw [hk];decide)]
 ·have hf:Zcs a=[Zfh a.Real]:=by unfold Zcs;rw [if_neg (by omega),if_neg (by omega),if_neg (by omega),if_pos (by omega)]
  rw [if_pos (by rw [hk];rfl)]
  unfold Zc3
  rw [if_pos (by rw [hk];rfl),hf,List.map_cons,List.map_nil,Znm hr.1 hr.2 _ (by simp),Option.bind_some]
  refine hend _ ?_
  obtain ⟨b1,b2⟩:=b0 (by omega)
  obtain ⟨l1,l2⟩:=l0 (by omega)
  rw [hd]
  have n1:=t0 (by omega)
  have r1:=n0 (by omega)
  exact Zly (by first | rfl | assumption) (by first | rfl | assumption) (by first | rfl | assumption) (by first | rfl | assumption) (by first | rfl | assumption) (by first | rfl | assumption) (by first | rfl | assumption) (by first | rfl | assumption)
 ·have hf:Zcs a=[Zfh a.Real]:=by unfold Zcs;rw [if_neg (by omega),if_neg (by omega),if_neg (by omega),if_pos (by omega)]
  rw [if_neg (by rw [hk];decide),if_pos (by rw [hk];rfl)]
  unfold Zc3
  rw [if_pos (by rw [hk];rfl),hf,List.map_cons,List.map_nil,Znm hr.1 hr.2 _ (by simp),Option.bind_some]
  refine hend _ ?_
  obtain ⟨b1,b2⟩:=b0 (by omega)
  obtain ⟨l1,l2⟩:=l0 (by omega)
  rw [hd]
  have n1:=t0 (by omega)
  have r1:=n0 (by omega)
  exact Zly (by first | rfl | assumption) (by first | rfl | assumption) (by first | rfl | assumption) (by first | rfl | assumption) (by first | rfl | assumption) (by first | rfl | assumption) (by first | rfl | assumption) (by first | rfl | assumption)
 ·have hf:Zcs a=[Zfh a.Real]:=by unfold Zcs;rw [if_neg (by omega),if_neg (by omega),if_neg (by omega),if_pos (by omega)]
  rw [if_neg (by rw [hk];decide),if_neg (by rw [hk];decide)]
  unfold Zc3
  rw [if_pos (by rw [hk];rfl),hf,List.map_cons,List.map_nil,Znm hr.1 hr.2 _ (by simp),Option.bind_some]
  refine hend _ ?_
  obtain ⟨b1,b2⟩:=b0 (by omega)
  obtain ⟨l1,l2⟩:=l0 (by omega)
  rw [hd]
  have n1:=t0 (by omega)
  have r1:=n0 (by omega)
  exact Zly (by first | rfl | assumption) (by first | rfl | assumption) (by first | rfl | assumption) (by first | rfl | assumption) (by first | rfl | assumption) (by first | rfl | assumption) (by first | rfl | assumption) (by first | rfl | assumption)
 all_goals
  have hf:Zcs a=Lib.itoa a.Cap :: a.List.flatMap (itW (a.Kind == 9)):=by unfold Zcs;rw [if_neg (by omega),if_neg (by omega),if_neg (by omega),if_neg (by omega)]
  rw [if_neg (by rw [hk];decide),if_neg (by rw [hk];decide)]
  unfold Zc3
  obtain ⟨c1,c2,c3⟩:=h.cap (by omega)
  obtain ⟨i1,i2⟩:=Zwh c3
  have hq:=c3.1
  rw [if_neg (by rw [hk];decide),hf,List.map_cons,Zlf (by omega) (by omega) _ (by simp only [List.length_cons,List.length_map];omega),Option.bind_some,if_neg (by simp;omega)]
  unfold Zgq
  have hlen:a.List.length ≤ (a.List.flatMap (itW (a.Kind == 9))).length:=by
   have:∀ l:List Zu,l.length ≤ (l.flatMap (itW (a.Kind == 9))).length:=by
    intro l
    induction l with
    | nil=>simp
    | cons e l ih =>
     simp only [List.flatMap_cons,List.length_append,List.length_cons]
     have:1 ≤ (itW (a.Kind == 9) e).length:=by unfold itW;simp
     omega
   exact this _
  have:=Zuh (nine:=(a.Kind == 9)) a.List (Int.toNat ((((a.List.flatMap (itW (a.Kind == 9))).map nb).length:Int) - (0:Int)) + 1) { { (default:Zb) with Kind:=a.Kind } with Cap:=a.Cap } rfl c3 (by simp only [List.length_map];omega) (by rw [hd];simp;omega)
  refine Eq.trans (congrArg (fun q=>Option.bind q fun z52=>match z52 with | (y50,y51)=>(Zc1 y50 y51)) this) ?_
  refine hend _ ?_
  obtain ⟨b1,b2⟩:=b0 (by omega)
  rw [hd]
  have n1:=t0 (by omega)
  have r1:=n0 (by omega)
  have r2:=r0 (by omega)
  exact Zly (by first | rfl | assumption) (by first | rfl | assumption) (by first | rfl | assumption) (by first | rfl | assumption) (by first | rfl | assumption) (by first | rfl | assumption) (by first | rfl | assumption) (by first | rfl | assumption)
def eqS:List KV → List KV → Bool
 | [],[]=>true
 | p :: l,q :: m=>sEq p.1 q.1 && Znl p.2 q.2 && eqS l m
 | _,_=>false
theorem Zyl:∀ {a b:List KV},eqS a b=true → a.length=b.length
 | [],[],_=>rfl
 | x :: xs,y :: ys,h=>by
  simp only [eqS,Bool.and_eq_true] at h
  simp [Zyl h.2]
 | [],_ :: _,h=>by simp [eqS] at h
 | _ :: _,[],h=>by simp [eqS] at h
theorem Zwt:∀ l:List KV,eqS l l=true
 | []=>rfl
 | p :: l=>by simp [eqS,Zej,Zs8,Zwt l]
structure SOk (s:Zj):Prop where
 sz:Szd s.top
 srt:Srt (toL s.top)
 len:(toL s.top).length < 1000000
 ok:∀ q ∈ toL s.top,Zf3 q.2 ∧ q.2.List.length ≤ 100
theorem SOk.cl {s:Zj} (h:SOk s):∀ q ∈ toL s.top,Cl q.2:=fun q hq=>by
 have:=(h.ok q hq).2
 unfold Cl;omega
theorem Rel.sok {s:Zj} {t:Zn} {n:Nat} (h:Rel s t n) (hn:n < 1000000):SOk s :=
 ⟨h.sz,by rw [h.top];exact h.srt,by rw [h.tl];have:=h.len;omega,by rw [h.top];exact h.ok⟩
theorem Zux {a b:Zj} (ha:SOk a) (hb:SOk b) (he:(toL a.top).length=(toL b.top).length):∀ (n i:Nat),i + n=(toL a.top).length →
  Zfp a b ((toL a.top).length:Int) (n + 1) (i:Int)=some (endB (eqS ((toL a.top).drop i) ((toL b.top).drop i)))
 | 0,i,h=>by
  rw [Zfp,if_neg (by simp;omega),List.drop_of_length_le (by omega),List.drop_of_length_le (by omega)]
  rfl
 | n + 1,i,h=>by
  have la:=ha.len
  have h1:i < (toL a.top).length:=by omega
  have h2:i < (toL b.top).length:=by omega
  rw [Zfp,if_pos (by simp;omega),Zvz ha.sz (by omega) (by omega) (by omega) ha.cl,Zvz hb.sz (by omega) (by omega) (by omega) hb.cl,idxn,idxn,List.getElem?_eq_getElem h1,List.getElem?_eq_getElem h2,wr1 (by omega),List.drop_eq_getElem_cons h1,List.drop_eq_getElem_cons h2]
  have r1:=(ha.ok _ (List.getElem_mem h1)).1
  have r2:=(hb.ok _ (List.getElem_mem h2)).1
  simp only [atR,Option.bind_some,eqS]
  cases hk:sEq (toL a.top)[i].1 (toL b.top)[i].1
  ·simp [gd,endB]
  ·simp only [Bool.not_true,Bool.not_false,gd_t]
   rw [Z3e r1 r2]
   simp only [Option.bind_some,Bool.false_or,Bool.true_and]
   cases hs:Znl (toL a.top)[i].2 (toL b.top)[i].2
   ·simp [endB]
   ·simp only [Bool.not_true,Bool.false_eq_true,if_false,Bool.true_and]
    exact Zux ha hb he n (i + 1) (by omega)
theorem Z3q {a b:Zj} (ha:SOk a) (hb:SOk b):Zj2 a b=some (eqS (toL a.top) (toL b.top)):=by
 have la:=ha.len
 have lb:=hb.len
 unfold Zj2 Zc7
 rw [Zfv ha.sz,Zfv hb.sz]
 simp only [Option.bind_some]
 by_cases he:(toL a.top).length=(toL b.top).length
 ·rw [if_neg (by simp;omega)]
  have:=Zux ha hb he (toL a.top).length 0 (by omega)
  rw [show ((0:Nat):Int)=0 from rfl] at this
  rw [show (Int.toNat (((toL a.top).length:Int) - (0:Int)) + 1)=(toL a.top).length + 1 by omega,this]
  simp only [List.drop_zero]
  cases eqS (toL a.top) (toL b.top) <;> rfl
 ·rw [if_pos (by simp;omega)]
  cases h:eqS (toL a.top) (toL b.top)
  ·rfl
  ·exact absurd (Zyl h) he
def Good (q:KV):Prop:=Zcv q.2=some 0 ∧ ¬ (q.1.size:Int) < 1 ∧ ¬ (24:Int) < (q.1.size:Int)
theorem Z3k {s:Zj} (h:SOk s) {k:ByteArray} {x:Zb} (hg:Good (k,x)) (hx:Zf3 x) (hx2:x.List.length ≤ 100) (hl:lk k (toL s.top)=none) (hr:((toL s.top).length:Int) < s.room) :
  ∃ s',Zc6 s k x=some (s',0) ∧ toL s'.top=insL k x (toL s.top) ∧ Szd s'.top ∧ s'.room=s.room:=by
 have la:=h.len
 obtain ⟨t1,e1,z1,l1⟩:=Zt3 (k:=k) (x:=x) h.sz h.srt (by omega)
 refine ⟨{ top:=t1,room:=s.room },?_,l1,z1,rfl⟩
 unfold Zc6 Zc7
 rw [hg.1,Zwz h.srt h.cl,hl,Zfv h.sz,Zm0 (by unfold Cl;omega),Zl5,if_neg (by simp [hg.2.1,hg.2.2])]
 simp only [Option.bind_some,bne_self_eq_false,Bool.false_eq_true,if_false,getR,Bool.not_false,gd_t,Bool.true_and]
 rw [if_neg (by simp;omega),e1]
 rfl
def newA (k:ByteArray) (r:Zb):Zr:={ Kind:=(1:Int),Key:=k,N:=(0:Int),X:=(0:Nat),S:=ByteArray.empty,Make:=r,Must:=true }
def newK:Zcr:={ word:=⟨#[110,101,119]⟩,on:=0,has:=⟨#[109]⟩ }
theorem of_1:Zne 1=some newK:=by kernel_rfl
theorem Z3a (k:ByteArray) (r:Zb):Zov (newA k r) newK=some true:=by kernel_rfl
theorem Zlt {k:ByteArray} {r:Zb} (hc:Zcv r=some 0) (hk:sEq k ⟨#[]⟩=false) (hk2:k.size ≤ 24):Zf7 (newA k r)=some 0:=by
 unfold Zf7
 rw [show (newA k r).Kind=1 from rfl,of_1,Option.bind_some,show sEq newK.word ⟨#[]⟩=false from by kernel_rfl,if_neg (by simp),show (newA k r).Key=k from rfl,hk,if_neg (by simp;omega),Z3a,Option.bind_some,if_neg (by simp)]
 rw [show Zo2 newK=some 16 from rfl,Option.bind_some,show (newA k r).S=ByteArray.empty from rfl,if_neg (by decide),show ((1:Int) == 10 || (1:Int) == 11)=false from rfl,Bool.false_and,if_neg (by simp),show (newA k r).X=0 from rfl,show Zhl 0=some true from by kernel_rfl,Option.bind_some,if_neg (by simp),if_pos (by rfl),show (newA k r).Make=r from rfl,hc]
 rfl
theorem Zut:Zes 1 110=some false:=by kernel_rfl
theorem Zt8:Zes 1 120=some false:=by kernel_rfl
theorem Zuc:Zes 1 115=some false:=by kernel_rfl
theorem Zt9:Zes 1 109=some true:=by kernel_rfl
def Zpg (k:ByteArray) (r:Zb):List (List UInt8):=[33,110,101,119] :: wB k :: recW r
def Zht (k:ByteArray) (r:Zb):List UInt8:=Lib.join (Zpg k r) [32]
theorem Zyu (k:ByteArray) (r:Zb):Zht k r=[33,110,101,119,32] ++ wB k ++ [32] ++ Lib.join (recW r) [32]:=by
 unfold Zht Zpg recW
 rw [Zju,Zju]
 simp
theorem Zxr {k:ByteArray} {r:Zb} (hk2:k.size ≤ 24) (hr:RT r):(∀ w ∈ Zpg k r,WOk w) ∧ (Zpg k r).length ≤ 68:=by
 obtain ⟨o1,o2⟩:=Zol hr
 refine ⟨fun w hw=>?_,by unfold Zpg;simp;omega⟩
 unfold Zpg at hw
 rcases List.mem_cons.1 hw with rfl | hw
 ·unfold WOk;decide
 rcases List.mem_cons.1 hw with rfl | hw
 ·exact Zr8 (by omega)
 ·exact o1 w hw
theorem Zqt {k:ByteArray} {r:Zb} (hk2:k.size ≤ 24) (hr:RT r):(Zht k r).length ≤ 13668 ∧ (59:UInt8) ∉ Zht k r:=by
 obtain ⟨o1,o2⟩:=Zxr hk2 hr
 have:=Zox _ o1
 exact ⟨by unfold Zht;omega,Zui 59 (by decide) _ fun w hw=>(o1 w hw).2.2⟩
theorem bb (l:List UInt8):(⟨l.toArray⟩:ByteArray)=nb l:=rfl
theorem Z24 {k:ByteArray} {r:Zb} (hc:Zcv r=some 0) (hr:RT r) (hk:sEq k ⟨#[]⟩=false) (hk2:k.size ≤ 24):Zm4 (newA k r)=some (nb (Zht k r)):=by
 have hl:=(Zqt hk2 hr).1
 rw [Zyu] at hl ⊢
 simp only [List.length_append,List.length_cons,List.length_nil] at hl
 have e1:(⟨#[110,101,119]⟩:ByteArray)=nb [110,101,119]:=rfl
 have e2:(⟨#[32]⟩:ByteArray)=nb [32]:=rfl
 have e3:(⟨#[33]⟩:ByteArray)=nb [33]:=rfl
 unfold Zm4
 rw [Zlt hc hk hk2,Option.bind_some,if_neg (by decide),show (newA k r).Kind=1 from rfl,show Zm5 1=some ⟨#[110,101,119]⟩ from by kernel_rfl,Option.bind_some,if_pos (by decide),show (newA k r).Key=k from rfl,Zl6 (by omega),Option.bind_some,e1,e2,e3,Zhp,Zhp,Zhp]
 rw [if_pos (by simp only [Zdx,List.length_append,List.length_cons,List.length_nil];omega),if_pos (show (newA k r).Must=true from rfl),if_pos (by simp only [Zdx,List.length_append,List.length_cons,List.length_nil];omega)]
 unfold Zkh
 rw [show (newA k r).Kind=1 from rfl,Zut,Option.bind_some,if_neg (by simp)]
 unfold Zko
 rw [show (newA k r).Kind=1 from rfl,Zt8,Option.bind_some,if_neg (by simp)]
 unfold Zkq
 rw [show (newA k r).Kind=1 from rfl,Zuc,Option.bind_some,if_neg (by simp)]
 unfold Zkm
 rw [show (newA k r).Kind=1 from rfl,Zt9,Option.bind_some,if_pos rfl,show (newA k r).Make=r from rfl,Zwf hc hr,Option.bind_some,e2,Zhp,Zhp]
 rw [if_pos (by simp only [Zdx,List.length_append,List.length_cons,List.length_nil];omega),if_pos (by simp only [Zdx,List.length_append,List.length_cons,List.length_nil];omega)]
 unfold Zkj
 simp
theorem Zn0 {a:Zr} (h:Zf7 a=some 0):Zho { Acts:=[a] }=some (0,0):=by
 unfold Zho
 rw [if_neg (by simp),show (Int.toNat ((([a]:List Zr).length:Int) - (0:Int)) + 1)=2 from rfl,Zge,if_pos (by simp),show idx ([a]:List Zr) 0=some a from rfl,Option.bind_some,h,Option.bind_some,if_neg (by decide),show IntKind.i64.wrap ((0:Int) + 1)=1 by decide,Zge,if_neg (by simp)]
 rfl
theorem Z0o {k:ByteArray} {r:Zb} (hc:Zcv r=some 0) (hr:RT r) (hk:sEq k ⟨#[]⟩=false) (hk2:k.size ≤ 24):Zjz { Acts:=[newA k r] }=some (nb (Zht k r)):=by
 have hl:=(Zqt hk2 hr).1
 unfold Zjz
 rw [Zn0 (Zlt hc hk hk2),Option.bind_some,if_neg (by decide),show (Int.toNat ((([newA k r]:List Zr).length:Int) - (0:Int)) + 1)=2 from rfl,Zg7,if_pos (by simp),show idx ([newA k r]:List Zr) 0=some (newA k r) from rfl,Option.bind_some,Z24 hc hr hk hk2,Option.bind_some,if_pos (by simp),show IntKind.i64.wrap ((0:Int) + 1)=1 by decide,Zg7,if_neg (by simp),Option.bind_some,List.nil_append]
 simp only []
 unfold Zg2
 rw [List.map_cons,List.map_nil,Zlp,Zm3,if_pos ⟨by simp,by omega⟩]
 rfl
theorem Z3y {k:ByteArray} {r:Zb} (hc:Zcv r=some 0) (hr:RT r) (hk:sEq k ⟨#[]⟩=false) (hk2:k.size ≤ 24):Zj1 (nb (Zht k r))=some (newA k r,0):=by
 have hl:=(Zqt hk2 hr).1
 obtain ⟨o1,o2⟩:=Zxr hk2 hr
 have hsp:Ze0 (nb (Zht k r)) (⟨#[32]⟩:ByteArray)=some ((Zpg k r).map nb):=Zxw (fun v hv=>(o1 v hv).2.1) (by show (Zht k r).length < _;omega)
 have o3:(recW r).length ≤ 66:=(Zol hr).2
 unfold Zj1
 rw [hsp,Option.bind_some]
 show (Zdu ⟨nb [33,110,101,119] :: nb (wB k) :: (recW r).map nb⟩).bind _=_
 rw [Zl0 _ _ (by simp;omega),Option.bind_some]
 simp only []
 rw [show Zih (nb [33,110,101,119]) (⟨#[33]⟩:ByteArray)=some (nb [110,101,119],true) from by kernel_rfl,Option.bind_some]
 rw [show Zer (nb [110,101,119],true) (Int.toNat ((22:Int) - (1:Int)) + 1) ({ Kind:=(0:Int),Key:=ByteArray.empty,N:=(0:Int),X:=(0:Nat),S:=ByteArray.empty,Make:=(default:Zb),Must:=(nb [110,101,119],true).2 }:Zr) (1:Int)=some { Kind:=(1:Int),Key:=ByteArray.empty,N:=(0:Int),X:=(0:Nat),S:=ByteArray.empty,Make:=(default:Zb),Must:=true } from by kernel_rfl,Option.bind_some]
 simp only []
 rw [if_neg (by decide)]
 unfold Zjn
 simp only []
 rw [Znn (by omega) _ (by simp;omega),Option.bind_some]
 simp only []
 rw [Zut,Option.bind_some,if_neg (by simp)]
 unfold Zh0
 simp only []
 rw [Zt8,Option.bind_some,if_neg (by simp)]
 unfold Zhs
 simp only []
 rw [Zuc,Option.bind_some,if_neg (by simp)]
 unfold Zhx
 simp only []
 rw [Zt9,Option.bind_some,if_pos rfl,Z3w hr,Option.bind_some]
 simp only []
 unfold Zhy
 rw [if_neg (by simp)]
 unfold Zjo
 have:=Zlt hc hk hk2
 unfold newA at this
 rw [this,Option.bind_some,if_neg (by decide)]
 rfl
theorem Z0s {k:ByteArray} {r:Zb} (hc:Zcv r=some 0) (hr:RT r) (hk:sEq k ⟨#[]⟩=false) (hk2:k.size ≤ 24):Zhh (nb (Zht k r))=some ({ Acts:=[newA k r] },0):=by
 obtain ⟨hl,hf⟩:=Zqt hk2 hr
 unfold Zhh
 rw [Zzp hf (by omega),Option.bind_some,show (Int.toNat ((([nb (Zht k r)]:List ByteArray).length:Int) - (0:Int)) + 1)=2 from rfl,Ze2,if_pos (by simp),show idx ([nb (Zht k r)]:List ByteArray) 0=some (nb (Zht k r)) from rfl,Option.bind_some,Z3y hc hr hk hk2,Option.bind_some,if_neg (show ¬ ((0:Int) != 0)=true by decide),if_pos (by show (([]:List Zr).length + 1) * 152 ≤ _;decide),show IntKind.i64.wrap ((0:Int) + 1)=1 by decide,Ze2,if_neg (by simp),Option.bind_some]
 show (Zho { Acts:=[newA k r] }).bind _=_
 rw [Zn0 (Zlt hc hk hk2)]
 rfl
theorem Z3c {k:ByteArray} {r:Zb} (hr:r.List.length ≤ 9223372036854775807):∃ c,Zgd { Acts:=[newA k r] }=some c:=by
 obtain ⟨c,e,_⟩:=Zzw hr
 have h4:∃ c,Zh2 (newA k r)=some c:=by
  unfold Zh2
  rw [show (newA k r).Make=r from rfl,e]
  cases (decide ((200:Int) < ((newA k r).Key.size:Int)) || decide ((1000:Int) < ((newA k r).S.size:Int)))
  ·simp only [Bool.not_false,gd_t,Option.bind_some];split <;> exact ⟨_,rfl⟩
  ·simp only [Bool.not_true,gd_f,Option.bind_some];split <;> exact ⟨_,rfl⟩
 obtain ⟨c4,e4⟩:=h4
 unfold Zgd
 rw [if_neg (by simp),show (Int.toNat ((([newA k r]:List Zr).length:Int) - (0:Int)) + 1)=2 from rfl,Zeg,if_pos (by simp),show idx ([newA k r]:List Zr) 0=some (newA k r) from rfl,Option.bind_some,e4,Option.bind_some]
 split
 ·exact ⟨_,rfl⟩
 ·rw [show IntKind.i64.wrap ((0:Int) + 1)=1 by decide,Zeg,if_neg (by simp)]
  exact ⟨_,rfl⟩
theorem Zno {l:List Z3} (hl:l.length ≤ 60) (hw:∀ p ∈ l,Zea p) {z:Zj}:∀ (n i:Nat) {s:Zj} {t:Zn},i + n=l.length → FR s t i → (∀ q ∈ pl t,Good q) → ∀ {s' t'},Zcb l (n + 1) z s t (i:Int)=some (.inr (z,s',t')) → ∀ q ∈ pl t',Good q
 | 0,i,s,t,h,hf,hg,s',t',e=>by
  rw [Zcb,if_neg (by simp;omega)] at e
  cases e
  exact hg
 | n + 1,i,s,t,h,hf,hg,s',t',e=>by
  have h1:i < l.length:=by omega
  have hm:=hw _ (List.getElem_mem h1)
  obtain ⟨c,e1,e2,e3⟩:=Zzw (Zy7 hm.2)
  rw [Zcb,if_pos (by simp;omega),Zfr h1,wr1 (by omega)] at e
  simp only [Option.bind_some] at e
  rw [e1] at e
  by_cases hk:decide ((100:Int) < ((l[i]).Key.size:Int))=true
  ·rw [hk] at e;cases e
  ·rw [Bool.eq_false_iff.2 hk] at e
   simp only [Bool.not_false,gd_t,Option.bind_some,Bool.false_or] at e
   rcases e2 with rfl | rfl
   ·simp only [Int.lt_irrefl,decide_false,Bool.false_eq_true,if_false] at e
    have hx:RecW (l[i]).Rec:=Zyx hm.2 (e3 rfl)
    obtain ⟨s1,t1,c,f1,f2,f3,f4⟩:=Zw0 hf.rel (by omega) (l[i]).Key hx.ok (e3 rfl)
    rw [f1,f2] at e
    simp only [Option.bind_some] at e
    have hro:t1.Room=t.Room:=by rw [← f3.room,Zu1 f1,hf.rel.room]
    refine Zno hl hw n (i + 1) (by omega) ?_ ?_ e
    ·rcases f4 with f4 | ⟨f4,f5,f6,f7⟩
     ·have:=Zy6 hf f4 hro
      exact ⟨f3,this.good,this.fit⟩
     ·refine Z1g hf f3 hx ((Ztd hx.ok).1 f5) ?_ f4 hro
      refine Classical.byContradiction fun hno=>?_
      have h1:(lk (l[i]).Key (pl t)).isNone=true:=by
       cases hz:lk (l[i]).Key (pl t) with
       | none=>rfl
       | some r=>exact absurd (.inl (by rw [hz];rfl)) hno
      have h2:t.Room ≤ (t.L.length:Int):=Int.not_lt.1 fun h=>hno (.inr h)
      have hk1:sEq (l[i]).Key ⟨#[]⟩=false:=by
       rw [Zl5];simpa using f6
      obtain ⟨_,hs⟩:=(Zw6 hf.rel (by omega) f1 f5 (e3 rfl) hk1 (by omega)).2 h1 h2
      subst hs
      have ht:=f3.top
      rw [hf.rel.top,f4] at ht
      rcases Zqj (k:=(l[i]).Key) (l[i]).Rec hf.rel.srt with ⟨p,_,_,a3,_⟩ | ⟨_,_,a3,_⟩
      ·rw [a3] at h1;cases h1
      ·have hle:=congrArg List.length ht
       rw [a3] at hle
       have hrk:=Zv1 (l[i]).Key (pl t)
       simp at hle
       omega
    ·rcases f4 with f4 | ⟨f4,f5,f6,f7⟩
     ·rw [f4];exact hg
     ·rw [f4]
      intro q hq
      rcases Zop hq with rfl | hq
      ·exact ⟨f5,f6,f7⟩
      ·exact hg q hq
   ·cases e
theorem Zzu {r:Int} {l:List Z3} (hw:∀ p ∈ l,Zea p) {s:Zj} {t:Zn} (e:Zd8 r l=some (s,some t)):∀ q ∈ pl t,Good q:=by
 unfold Zd8 Ziy at e
 by_cases hr:r < 1 ∨ 4096 < r
 ·rw [if_pos (by simpa using hr)] at e
  cases e
 ·rw [if_neg (by simpa using hr)] at e
  simp only [Option.bind_some,bne_self_eq_false,Bool.false_or] at e
  by_cases hl:60 < l.length
  ·rw [if_pos (by simp;omega)] at e;cases e
  ·rw [if_neg (by simp;omega),show (Int.toNat ((l.length:Int) - (0:Int)) + 1)=l.length + 1 by omega] at e
   have hf:FR { top:=.nil,room:=r } { L:=[],Room:=r } 0:=⟨Zyh r,fun q hq=>by simp [pl] at hq,by simp;omega⟩
   have h1:=Zo5 (l:=l) (by omega) hw (z:=default) (r:=r) l.length 0 (by omega) hf rfl
   have h2:=@Zno l (by omega) hw default l.length 0 _ _ (by omega) hf (fun q hq=>by simp [pl] at hq)
   rw [show ((0:Nat):Int)=0 from rfl] at h1 h2
   rcases h1 with ⟨s',e1⟩ | ⟨s',t',e1,e2,e3⟩
   ·rw [e1] at e;cases e
   ·rw [e1] at e
    have:=h2 e1
    cases e
    exact this
theorem Zz5 {k:ByteArray} {r:Zb} (x:Zb) (hc:Zf7 (newA k r)=some 0) (hl:r.List.length ≤ 1000):Zk1 x false (newA k r)=some (r,true,{ Code:=0,Num:=0,Rec:=default }):=by
 unfold Zk1
 rw [if_pos (show (!false)=true from rfl)]
 unfold Zi5
 rw [Zug (by simp),Option.bind_some,hc,Option.bind_some,if_neg (by decide),if_neg (by simp)]
 unfold Zi6
 rw [show (newA k r).Kind=1 from rfl,Bool.and_false,if_neg (by simp),if_pos (show ((1:Int) == 1)=true from rfl),show (newA k r).Make=r from rfl,Zug hl]
 rfl
theorem Z3d {s:Zj} (h:SOk s) {k:ByteArray} {r:Zb} (hg:Good (k,r)) (hx:Zf3 r) (hx2:r.List.length ≤ 100) (hl:lk k (toL s.top)=none) (hr:((toL s.top).length:Int) < s.room) (hc:Zf7 (newA k r)=some 0) :
  ∃ s' R,Zlk s { Acts:=[newA k r] }=some (s',R) ∧ R.Code=0 ∧ toL s'.top=insL k r (toL s.top) ∧ Szd s'.top ∧ s'.room=s.room:=by
 obtain ⟨s',e1,e2,e3,e4⟩:=Z3k h hg hx hx2 hl hr
 have ha:Zmu s (newA k r)=some (s',{ Code:=0,Num:=0,Rec:=default }):=by
  unfold Zmu
  rw [show (newA k r).Key=k from rfl,Zwz h.srt h.cl,hl,Option.bind_some]
  simp only [getR]
  rw [Zz5 _ hc (by omega),Option.bind_some]
  simp only []
  rw [show (newA k r).Kind=1 from rfl,show Znf 1=some false from by kernel_rfl,show (!((0:Int) != 0))=true from rfl,gd_t,Option.bind_some,if_neg (by simp),if_neg (by simp),e1,Option.bind_some,if_neg (by simp)]
 refine ⟨s',{ (default:Zbv) with Answers:=[{ Code:=0,Num:=0,Rec:=default }] },?_,rfl,e2,e3,e4⟩
 unfold Zlk
 rw [Zn0 hc,Option.bind_some,if_neg (by simp),show (Int.toNat ((([newA k r]:List Zr).length:Int) - (0:Int)) + 1)=2 from rfl,Zid,if_pos (by simp),show idx ([newA k r]:List Zr) 0=some (newA k r) from rfl,Option.bind_some,ha,Option.bind_some]
 simp only []
 have hm1:Zki (newA k r) { Code:=0,Num:=0,Rec:=default } (IntKind.i64.wrap ((0:Int) + 1))=none:=by unfold Zki;rw [if_neg (by simp)];rfl
 have hm2:Zlv (newA k r) { Code:=0,Num:=0,Rec:=default } (IntKind.i64.wrap ((0:Int) + 1))=some { Code:=0,Num:=0,Rec:=default }:=by unfold Zlv;rw [if_neg (by simp)];rfl
 rw [hm1,hm2]
 unfold Zxq
 simp only [Option.bind_some]
 rw [if_pos (by show (([]:List Zbb).length + 1) * 104 ≤ _;decide),show IntKind.i64.wrap ((0:Int) + 1)=1 by decide,Zid,if_neg (by simp),Option.bind_some]
 rfl
theorem Z18 {k:ByteArray} {r:Zb} {u:Zj} (h:SOk u) (hw:RecW r) (hgr:Zqp r) (hg:Good (k,r)) (hx2:r.List.length ≤ 100) (hl:lk k (toL u.top)=none) (hr:((toL u.top).length:Int) < u.room) :
  ∃ u' R c,Zjz { Acts:=[newA k r] }=some (nb (Zht k r)) ∧ Zfw k=some (nb (wB k)) ∧ Zib r=some (nb (Lib.join (recW r) [32])) ∧ Zhh (nb (Zht k r))=some ({ Acts:=[newA k r] },0) ∧ Zgd { Acts:=[newA k r] }=some c ∧ Zlk u { Acts:=[newA k r] }=some (u',R) ∧ R.Code=0 ∧ toL u'.top=insL k r (toL u.top) ∧ Szd u'.top ∧ u'.room=u.room ∧ (nb (wB k)).size ≤ 100 ∧ (nb (Lib.join (recW r) [32])).size ≤ 100000:=by
 have hrt:=Z8e hw hgr
 have hk:sEq k ⟨#[]⟩=false:=by rw [Zl5];simpa using hg.2.1
 have hk2:k.size ≤ 24:=by have:=hg.2.2;simp only [] at this;omega
 have hc:=Zlt hg.1 hk hk2
 obtain ⟨u',R,f1,f2,f3,f4,f5⟩:=Z3d h hg hw.ok hx2 hl hr hc
 obtain ⟨c,hb⟩:=Z3c (k:=k) (r:=r) (by omega)
 obtain ⟨o1,o2⟩:=Zol hrt
 have hj:=Zox _ o1
 have hwl:=Z0r k
 exact ⟨u',R,c,Z0o hg.1 hrt hk hk2,Z7d (by omega),Zwf hg.1 hrt,Z0s hg.1 hrt hk hk2,hb,f1,f2,f3,f4,f5,by rw [Zdx];omega,by rw [Zdx];omega⟩
theorem Zuv {s:Zj} {t:Zn} (h:FR s t 60) (hg:∀ q ∈ pl t,Good q):∀ (n i:Nat) (u:Zj),i + n=t.L.length → toL u.top=(pl t).take i → Szd u.top → u.room=t.Room →
  ∃ u',Zc4 (s,some t) (t.L.length:Int) (n + 1) u (i:Int)=some (.inr u') ∧ toL u'.top=pl t ∧ Szd u'.top ∧ u'.room=t.Room
 | 0,i,u,hi,ht,hz,hr=>by
  rw [Zc4,if_neg (by simp;omega)]
  refine ⟨u,rfl,?_,hz,hr⟩
  rw [ht,List.take_of_length_le (by rw [Zgl];omega)]
 | n + 1,i,u,hi,ht,hz,hr=>by
  have hb:=h.rel.len
  have h1:i < t.L.length:=by omega
  have h1':i < (pl t).length:=by rw [Zgl];exact h1
  have g1:(pl t)[i]=kv t.L[i]:=by simp [pl]
  have hmem:kv t.L[i] ∈ pl t:=by rw [← g1];exact List.getElem_mem h1'
  have htk:(pl t).take (i + 1)=(pl t).take i ++ [kv t.L[i]]:=by rw [← g1];exact (List.take_append_getElem h1').symm
  have hsub:∀ q ∈ toL u.top,q ∈ pl t:=fun q hq=>by rw [ht] at hq;exact List.mem_of_mem_take hq
  have hlen:(toL u.top).length=i:=by rw [ht,List.length_take,Zgl];omega
  have hsrt:Srt ((pl t).take (i + 1)):=List.Pairwise.sublist (List.take_sublist _ _) h.rel.srt
  rw [htk] at hsrt
  obtain ⟨s1,_,s3,_⟩:=Ztf (A:=(pl t).take i) (p:=kv t.L[i]) (B:=[]) hsrt
  have hok:SOk u:=⟨hz,by rw [ht];exact s1,by omega,fun q hq=>h.rel.ok q (hsub q hq)⟩
  have hlk:lk (t.L[i]).Key (toL u.top)=none:=Zpp fun q hq e=>by
   rw [ht] at hq
   exact Zor (s3 q hq) e
  obtain ⟨u',R,c,e1,e2,e3,e4,e5,e6,e7,e8,e9,e10,e11,e12⟩:=Z18 hok (h.good _ hmem).1 (h.good _ hmem).2 (hg _ hmem) (h.rel.ok _ hmem).2 (k:=(t.L[i]).Key) (r:=(t.L[i]).Rec) hlk (by rw [hlen,hr];have:=h.fit;omega)
  have hins:toL u'.top=(pl t).take (i + 1):=by
   rw [e8,ht,htk]
   have:=Znu (k:=(t.L[i]).Key) (x:=(t.L[i]).Rec) (B:=[]) ((pl t).take i) s3
   rw [List.append_nil] at this
   exact this
  have hat:Zen s (i:Int)=some ((t.L[i]).Key,(t.L[i]).Rec,true):=by
   rw [Zvz h.rel.sz (by rw [h.rel.tl];omega) (by omega) (by omega) h.rel.cl,h.rel.top,Zfr h1',g1]
   rfl
  have hs5:(⟨#[33,110,101,119,32]⟩:ByteArray)=nb [33,110,101,119,32]:=rfl
  have hs1:(⟨#[32]⟩:ByteArray)=nb [32]:=rfl
  rw [Zdx] at e11 e12
  rw [Zc4,if_pos (by simp;omega)]
  simp only []
  rw [hat,Option.bind_some]
  simp only []
  have e1':Zjz { Acts:=[{ Kind:=(1:Int),Key:=(t.L[i]).Key,N:=(0:Int),X:=(0:Nat),S:=ByteArray.empty,Make:=(t.L[i]).Rec,Must:=true }] }=some (nb (Zht (t.L[i]).Key (t.L[i]).Rec)):=e1
  rw [e1',Option.bind_some,e2,Option.bind_some,e3,hs5,hs1,Zhp,Zhp,if_pos (by rw [Zdx,Zdx];simp;omega),if_pos (by rw [Zdx,Zdx];simp;omega),Option.bind_some,Zhp,if_pos (by rw [Zdx,Zdx];simp;omega),← Zyu,if_neg (by rw [Zej];simp),e4,Option.bind_some]
  simp only []
  rw [show (!((0:Int) != 0))=true from rfl,gd_t,e5,Option.bind_some,if_neg (by simp),e6,Option.bind_some]
  simp only []
  rw [e7,if_neg (by simp),wr1 (by omega)]
  exact Zuv h hg n (i + 1) u' (by omega) hins e9 (by rw [e10,hr])
theorem WholeTold_true (a0:Int) (a1:List Z3) (w0:(IntKind.i64).min ≤ a0 ∧ a0 ≤ (IntKind.i64).max) (w1:a1.length ≤ maxLen ∧ ∀ e0 ∈ a1,Zea e0):Zhf a0 a1=some true:=by
 have t1:Zgv (⟨#[]⟩:ByteArray)=some ⟨#[37]⟩:=Zl6 (s:=⟨#[]⟩) (by decide)
 have t2:Zfx (-3:Int)=some ⟨#[45,51]⟩:=(Zjv (n:=-3) (by decide) (by decide)).trans (by
  have:Lib.itoa (-3)=[45,51]:=by decide +kernel
  rw [this];rfl)
 unfold Zhf
 rw [t1,Option.bind_some,Zej,show (!(!true))=true from rfl,gd_t,t2,Option.bind_some,Zej,if_neg (by simp)]
 rcases Z27 (r:=a0) w1.2 with ⟨s,e⟩ | ⟨s,t,e,hf,hr,r1,r2⟩
 ·rw [e];rfl
 ·have hg:=Zzu w1.2 e
  have hb:=hf.rel.len
  rw [e,Option.bind_some,if_neg (by simp)]
  have hn:∃ b,Ziy a0=some ({ top:=.nil,room:=a0 },b):=by unfold Ziy;rw [if_neg (by simp;omega)];exact ⟨_,rfl⟩
  obtain ⟨b,hn⟩:=hn
  rw [hn,Option.bind_some]
  simp only []
  rw [Zqu hf.rel,Option.bind_some,show (Int.toNat ((t.L.length:Int) - (0:Int)) + 1)=t.L.length + 1 by omega]
  obtain ⟨u',e1,e2,e3,e4⟩:=Zuv hf hg t.L.length 0 { top:=.nil,room:=a0 } (by omega) (by rw [List.take_zero];rfl) trivial hr.symm
  rw [show ((0:Nat):Int)=0 from rfl] at e1
  rw [e1,Option.bind_some]
  simp only []
  have hrel:Rel u' t 60:=⟨e2,e3,hf.rel.srt,hf.rel.len,e4,hf.rel.ok⟩
  have hs:Zj2 s u'=some true:=by
   rw [Z3q (hf.rel.sok (by decide)) (hrel.sok (by decide)),hf.rel.top,e2,Zwt]
  rw [hs,Option.bind_some,gd_t,Option.bind_some,gd_t,Z7h hrel (by decide)]
  rfl
end Go.CL
namespace Go.CL
open Go Go.RowKit Go.Proofs Go.ChangeShapes Go.WideShapes Go.ChangeAt
theorem Z3r:ownKnob Tryz.prog.godebug=none:=by kernel_rfl
theorem Zuu:laidOutB Tryz.prog=true:=by kernel_rfl
theorem op_3:Opn Tryz.prog 3 (Kd.int .i64) (fun x=>((IntKind.i64).min ≤ x ∧ x ≤ (IntKind.i64).max)):=Zzb Tryz.underlying3 (by kernel_rfl)
theorem op_9:Opn Tryz.prog 9 Kd.str (fun x=>(x.size ≤ maxLen)):=Z42 Tryz.underlying9 (by kernel_rfl)
theorem op_2:Opn Tryz.prog 2 (Kd.int .i64) (fun x=>((IntKind.i64).min ≤ x ∧ x ≤ (IntKind.i64).max)):=Zzb Tryz.underlying2 (by kernel_rfl)
theorem Z31:Opn Tryz.prog 35 Kd.flt (fun x=>(x < 2 ^ 64)):=Z6b Tryz.underlying35 (by kernel_rfl)
theorem Z7w:Opn Tryz.prog 90 Zy Zn1:=⟨by kernel_rfl,fun hg h=>by
 obtain ⟨hl,n,hf⟩:=Zpl Tryz.underlying90 h
 obtain ⟨y0,h0⟩:=hf 0 _ rfl
 obtain ⟨v0,k0,w0⟩:=Z31.op hg h0
 obtain ⟨y1,h1⟩:=hf 1 _ rfl
 obtain ⟨v1,k1,w1⟩:=op_9.op hg h1
 refine ⟨⟨v0,v1⟩,⟨hl.trans (by kernel_rfl),(Qc.2 ⟨k0,(Qc.2 ⟨k1,(fun _ h=>by cases h)⟩)⟩)⟩,w0,w1⟩,fun h=>Zqa Tryz.underlying90 h⟩
theorem Z76:Opn Tryz.prog 36 Zy.sl (fun x=>(x.length ≤ maxLen ∧ ∀ e0 ∈ x,(Zn1 e0))):=Z0y Tryz.underlying36 (by kernel_rfl) Z7w (by decide)
theorem Z7v:Opn Tryz.prog 38 Ze Zkr:=⟨by kernel_rfl,fun hg h=>by
 obtain ⟨hl,n,hf⟩:=Zpl Tryz.underlying38 h
 obtain ⟨y0,h0⟩:=hf 0 _ rfl
 obtain ⟨v0,k0,w0⟩:=op_3.op hg h0
 obtain ⟨y1,h1⟩:=hf 1 _ rfl
 obtain ⟨v1,k1,w1⟩:=op_2.op hg h1
 obtain ⟨y2,h2⟩:=hf 2 _ rfl
 obtain ⟨v2,k2,w2⟩:=op_2.op hg h2
 obtain ⟨y3,h3⟩:=hf 3 _ rfl
 obtain ⟨v3,k3,w3⟩:=op_2.op hg h3
 obtain ⟨y4,h4⟩:=hf 4 _ rfl
 obtain ⟨v4,k4,w4⟩:=Z31.op hg h4
 obtain ⟨y5,h5⟩:=hf 5 _ rfl
 obtain ⟨v5,k5,w5⟩:=op_3.op hg h5
 obtain ⟨y6,h6⟩:=hf 6 _ rfl
 obtain ⟨v6,k6,w6⟩:=op_9.op hg h6
 obtain ⟨y7,h7⟩:=hf 7 _ rfl
 obtain ⟨v7,k7,w7⟩:=Z76.op hg h7
 refine ⟨⟨v0,v1,v2,v3,v4,v5,v6,v7⟩,⟨hl.trans (by kernel_rfl),(Qc.2 ⟨k0,(Qc.2 ⟨k1,(Qc.2 ⟨k2,(Qc.2 ⟨k3,(Qc.2 ⟨k4,(Qc.2 ⟨k5,(Qc.2 ⟨k6,(Qc.2 ⟨k7,(fun _ h=>by cases h)⟩)⟩)⟩)⟩)⟩)⟩)⟩)⟩)⟩,w0,w1,w2,w3,w4,w5,w6,w7⟩,fun h=>Zqa Tryz.underlying38 h⟩
theorem Z7e:Opn Tryz.prog 73 Zbr Zea:=⟨by kernel_rfl,fun hg h=>by
 obtain ⟨hl,n,hf⟩:=Zpl Tryz.underlying73 h
 obtain ⟨y0,h0⟩:=hf 0 _ rfl
 obtain ⟨v0,k0,w0⟩:=op_9.op hg h0
 obtain ⟨y1,h1⟩:=hf 1 _ rfl
 obtain ⟨v1,k1,w1⟩:=Z7v.op hg h1
 refine ⟨⟨v0,v1⟩,⟨hl.trans (by kernel_rfl),(Qc.2 ⟨k0,(Qc.2 ⟨k1,(fun _ h=>by cases h)⟩)⟩)⟩,w0,w1⟩,fun h=>Zqa Tryz.underlying73 h⟩
theorem Z7t:Opn Tryz.prog 22 Zbr.sl (fun x=>(x.length ≤ maxLen ∧ ∀ e0 ∈ x,(Zea e0))):=Z0y Tryz.underlying22 (by kernel_rfl) Z7e (by decide)
theorem Z7r:Det Tryz.prog 5:=Zt5 Tryz.underlying5
theorem Z5j:Det Tryz.prog 219:=Ztp Tryz.underlying219 Z7r (by kernel_rfl)
theorem Z5h:Det Tryz.prog 122:=Zt5 Tryz.underlying122
theorem Z44:Det Tryz.prog 184:=Ztp Tryz.underlying184 Z5h (by kernel_rfl)
theorem Z38:Det Tryz.prog 9:=Z4w Tryz.underlying9
theorem Z7y:Det Tryz.prog 3:=Zt5 Tryz.underlying3
theorem Z5t:Det Tryz.prog 156:=Zzy Tryz.underlying156 (fun i f h=>match i,f,h with
 | 0,_,h=>by obtain rfl:=Option.some.inj h;exact Z38
 | 1,_,h=>by obtain rfl:=Option.some.inj h;exact Z7y
 | 2,_,h=>by obtain rfl:=Option.some.inj h;exact Z38
 | _ + 3,_,h=>by cases h) (by kernel_rfl)
theorem Z47:Det Tryz.prog 189:=Ztp Tryz.underlying189 Z5t (by kernel_rfl)
theorem WholeTold_met (os : Os) (args : Array Value) : laidMetH Tryz.prog [("math/bits.deBruijn32tab", Go.Proofs.YtblabgjppapdpaaGreatDoor.Rows.laid_math_bits_deBruijn32tab), ("math/bits.deBruijn64tab", Go.Proofs.YtblabgjppapdpaaGreatDoor.Rows.laid_math_bits_deBruijn64tab), ("internal/strconv.uint64pow10", Go.Proofs.YtblabgjppapdpaaGreatDoor.Rows.laid_internal_strconv_uint64pow10), ("unicode/utf8.acceptRanges", Go.Proofs.YtblabgjppapdpaaGreatDoor.Rows.laid_unicode_utf8_acceptRanges), ("strconv.ErrRange", Go.Proofs.YtblabgjppapdpaaGreatDoor.Rows.laid_strconv_ErrRange), ("strconv.ErrSyntax", Go.Proofs.YtblabgjppapdpaaGreatDoor.Rows.laid_strconv_ErrSyntax), ("moiety/act.kinds", Go.Proofs.YtblabgjppapdpaaGreatDoor.Rows.laid_moiety_act_kinds), ("unicode/utf8.first", Go.Proofs.YtblabgjppapdpaaGreatDoor.Rows.laid_unicode_utf8_first)] ((World.laidAll Tryz.prog os [("math/bits.deBruijn32tab", Go.Proofs.YtblabgjppapdpaaGreatDoor.Rows.laid_math_bits_deBruijn32tab), ("math/bits.deBruijn64tab", Go.Proofs.YtblabgjppapdpaaGreatDoor.Rows.laid_math_bits_deBruijn64tab), ("internal/strconv.uint64pow10", Go.Proofs.YtblabgjppapdpaaGreatDoor.Rows.laid_internal_strconv_uint64pow10), ("unicode/utf8.acceptRanges", Go.Proofs.YtblabgjppapdpaaGreatDoor.Rows.laid_unicode_utf8_acceptRanges), ("strconv.ErrRange", Go.Proofs.YtblabgjppapdpaaGreatDoor.Rows.laid_strconv_ErrRange), ("strconv.ErrSyntax", Go.Proofs.YtblabgjppapdpaaGreatDoor.Rows.laid_strconv_ErrSyntax), ("moiety/act.kinds", Go.Proofs.YtblabgjppapdpaaGreatDoor.Rows.laid_moiety_act_kinds), ("unicode/utf8.first", Go.Proofs.YtblabgjppapdpaaGreatDoor.Rows.laid_unicode_utf8_first)]).forCall (fun _ _ => 0) ⟨#[], args, []⟩).memory :=
 by rw [MakeChecks.laidMetH_plain _ _ _ (by kernel_rfl)];exact laidMet_laidAll _ (by kernel_rfl) (by kernel_rfl)
theorem WholeTold_gl {W : World} (h : laidMetH Tryz.prog [("math/bits.deBruijn32tab", Go.Proofs.YtblabgjppapdpaaGreatDoor.Rows.laid_math_bits_deBruijn32tab), ("math/bits.deBruijn64tab", Go.Proofs.YtblabgjppapdpaaGreatDoor.Rows.laid_math_bits_deBruijn64tab), ("internal/strconv.uint64pow10", Go.Proofs.YtblabgjppapdpaaGreatDoor.Rows.laid_internal_strconv_uint64pow10), ("unicode/utf8.acceptRanges", Go.Proofs.YtblabgjppapdpaaGreatDoor.Rows.laid_unicode_utf8_acceptRanges), ("strconv.ErrRange", Go.Proofs.YtblabgjppapdpaaGreatDoor.Rows.laid_strconv_ErrRange), ("strconv.ErrSyntax", Go.Proofs.YtblabgjppapdpaaGreatDoor.Rows.laid_strconv_ErrSyntax), ("moiety/act.kinds", Go.Proofs.YtblabgjppapdpaaGreatDoor.Rows.laid_moiety_act_kinds), ("unicode/utf8.first", Go.Proofs.YtblabgjppapdpaaGreatDoor.Rows.laid_unicode_utf8_first)] W) (hsh : W.ShapedOpen Tryz.prog) : GLok W (fun b _ => b < W.heap.size) := by
 have g0 := Zr4 (P := Tryz.prog) (nm := "internal/strconv.uint64pow10") (d := Go.Proofs.YtblabgjppapdpaaGreatDoor.Rows.laid_internal_strconv_uint64pow10) (g := 0) (t := 184) (W := W) (w0 := W) (cells := [.int .u64 (1), .int .u64 (10), .int .u64 (100), .int .u64 (1000), .int .u64 (10000), .int .u64 (100000), .int .u64 (1000000), .int .u64 (10000000), .int .u64 (100000000), .int .u64 (1000000000), .int .u64 (10000000000), .int .u64 (100000000000), .int .u64 (1000000000000), .int .u64 (10000000000000), .int .u64 (100000000000000), .int .u64 (1000000000000000), .int .u64 (10000000000000000), .int .u64 (100000000000000000), .int .u64 (1000000000000000000), .int .u64 (10000000000000000000)]) (fu := 8) (by kernel_rfl) (by kernel_rfl) Z44 (by kernel_rfl) (by kernel_rfl) ((show ([("math/bits.deBruijn32tab", Go.Proofs.YtblabgjppapdpaaGreatDoor.Rows.laid_math_bits_deBruijn32tab), ("math/bits.deBruijn64tab", Go.Proofs.YtblabgjppapdpaaGreatDoor.Rows.laid_math_bits_deBruijn64tab), ("internal/strconv.uint64pow10", Go.Proofs.YtblabgjppapdpaaGreatDoor.Rows.laid_internal_strconv_uint64pow10), ("unicode/utf8.acceptRanges", Go.Proofs.YtblabgjppapdpaaGreatDoor.Rows.laid_unicode_utf8_acceptRanges), ("strconv.ErrRange", Go.Proofs.YtblabgjppapdpaaGreatDoor.Rows.laid_strconv_ErrRange), ("strconv.ErrSyntax", Go.Proofs.YtblabgjppapdpaaGreatDoor.Rows.laid_strconv_ErrSyntax), ("moiety/act.kinds", Go.Proofs.YtblabgjppapdpaaGreatDoor.Rows.laid_moiety_act_kinds), ("unicode/utf8.first", Go.Proofs.YtblabgjppapdpaaGreatDoor.Rows.laid_unicode_utf8_first)] : List (String × DataW Unit)).filter (fun x => x.1 == "internal/strconv.uint64pow10") = [("internal/strconv.uint64pow10", Go.Proofs.YtblabgjppapdpaaGreatDoor.Rows.laid_internal_strconv_uint64pow10)] by kernel_rfl) ▸ laidMetH.filter (fun x => x.1 == "internal/strconv.uint64pow10") h)
 have g1 := Zr4 (P := Tryz.prog) (nm := "moiety/act.kinds") (d := Go.Proofs.YtblabgjppapdpaaGreatDoor.Rows.laid_moiety_act_kinds) (g := 1) (t := 189) (W := W) (w0 := W) (cells := [.string ⟨#[]⟩, .int .i64 (0), .string ⟨#[]⟩, .string ⟨#[110, 101, 119]⟩, .int .i64 (0), .string ⟨#[109]⟩, .string ⟨#[100, 114, 111, 112]⟩, .int .i64 (0), .string ⟨#[]⟩, .string ⟨#[105, 115]⟩, .int .i64 (0), .string ⟨#[]⟩, .string ⟨#[108, 111, 111, 107]⟩, .int .i64 (0), .string ⟨#[]⟩, .string ⟨#[112, 117, 116]⟩, .int .i64 (1), .string ⟨#[115]⟩, .string ⟨#[115, 119, 97, 112]⟩, .int .i64 (1), .string ⟨#[115]⟩, .string ⟨#[97, 100, 100]⟩, .int .i64 (2), .string ⟨#[110]⟩, .string ⟨#[112, 108, 117, 115]⟩, .int .i64 (3), .string ⟨#[110]⟩, .string ⟨#[114, 101, 97, 99, 104]⟩, .int .i64 (3), .string ⟨#[110]⟩, .string ⟨#[105, 110]⟩, .int .i64 (4), .string ⟨#[110]⟩, .string ⟨#[111, 117, 116]⟩, .int .i64 (4), .string ⟨#[110]⟩, .string ⟨#[101, 110, 111, 117, 103, 104]⟩, .int .i64 (4), .string ⟨#[110]⟩, .string ⟨#[114, 97, 105, 115, 101]⟩, .int .i64 (5), .string ⟨#[120]⟩, .string ⟨#[108, 111, 119, 101, 114]⟩, .int .i64 (6), .string ⟨#[120]⟩, .string ⟨#[115, 104, 105, 102, 116]⟩, .int .i64 (7), .string ⟨#[120]⟩, .string ⟨#[115, 99, 97, 108, 101]⟩, .int .i64 (7), .string ⟨#[120]⟩, .string ⟨#[102, 105, 120]⟩, .int .i64 (7), .string ⟨#[120]⟩, .string ⟨#[106, 111, 105, 110]⟩, .int .i64 (8), .string ⟨#[115]⟩, .string ⟨#[108, 101, 97, 118, 101]⟩, .int .i64 (8), .string ⟨#[115]⟩, .string ⟨#[104, 97, 115]⟩, .int .i64 (8), .string ⟨#[115]⟩, .string ⟨#[111, 102, 102, 101, 114]⟩, .int .i64 (9), .string ⟨#[120, 115]⟩]) (fu := 8) (by kernel_rfl) (by kernel_rfl) Z47 (by kernel_rfl) (by kernel_rfl) ((show ([("math/bits.deBruijn32tab", Go.Proofs.YtblabgjppapdpaaGreatDoor.Rows.laid_math_bits_deBruijn32tab), ("math/bits.deBruijn64tab", Go.Proofs.YtblabgjppapdpaaGreatDoor.Rows.laid_math_bits_deBruijn64tab), ("internal/strconv.uint64pow10", Go.Proofs.YtblabgjppapdpaaGreatDoor.Rows.laid_internal_strconv_uint64pow10), ("unicode/utf8.acceptRanges", Go.Proofs.YtblabgjppapdpaaGreatDoor.Rows.laid_unicode_utf8_acceptRanges), ("strconv.ErrRange", Go.Proofs.YtblabgjppapdpaaGreatDoor.Rows.laid_strconv_ErrRange), ("strconv.ErrSyntax", Go.Proofs.YtblabgjppapdpaaGreatDoor.Rows.laid_strconv_ErrSyntax), ("moiety/act.kinds", Go.Proofs.YtblabgjppapdpaaGreatDoor.Rows.laid_moiety_act_kinds), ("unicode/utf8.first", Go.Proofs.YtblabgjppapdpaaGreatDoor.Rows.laid_unicode_utf8_first)] : List (String × DataW Unit)).filter (fun x => x.1 == "moiety/act.kinds") = [("moiety/act.kinds", Go.Proofs.YtblabgjppapdpaaGreatDoor.Rows.laid_moiety_act_kinds)] by kernel_rfl) ▸ laidMetH.filter (fun x => x.1 == "moiety/act.kinds") h)
 have g2 := Zr4 (P := Tryz.prog) (nm := "math/bits.deBruijn64tab") (d := Go.Proofs.YtblabgjppapdpaaGreatDoor.Rows.laid_math_bits_deBruijn64tab) (g := 5) (t := 219) (W := W) (w0 := W) (cells := [.int .u8 (0), .int .u8 (1), .int .u8 (56), .int .u8 (2), .int .u8 (57), .int .u8 (49), .int .u8 (28), .int .u8 (3), .int .u8 (61), .int .u8 (58), .int .u8 (42), .int .u8 (50), .int .u8 (38), .int .u8 (29), .int .u8 (17), .int .u8 (4), .int .u8 (62), .int .u8 (47), .int .u8 (59), .int .u8 (36), .int .u8 (45), .int .u8 (43), .int .u8 (51), .int .u8 (22), .int .u8 (53), .int .u8 (39), .int .u8 (33), .int .u8 (30), .int .u8 (24), .int .u8 (18), .int .u8 (12), .int .u8 (5), .int .u8 (63), .int .u8 (55), .int .u8 (48), .int .u8 (27), .int .u8 (60), .int .u8 (41), .int .u8 (37), .int .u8 (16), .int .u8 (46), .int .u8 (35), .int .u8 (44), .int .u8 (21), .int .u8 (52), .int .u8 (32), .int .u8 (23), .int .u8 (11), .int .u8 (54), .int .u8 (26), .int .u8 (40), .int .u8 (15), .int .u8 (34), .int .u8 (20), .int .u8 (31), .int .u8 (10), .int .u8 (25), .int .u8 (14), .int .u8 (19), .int .u8 (9), .int .u8 (13), .int .u8 (8), .int .u8 (7), .int .u8 (6)]) (fu := 8) (by kernel_rfl) (by kernel_rfl) Z5j (by kernel_rfl) (by kernel_rfl) ((show ([("math/bits.deBruijn32tab", Go.Proofs.YtblabgjppapdpaaGreatDoor.Rows.laid_math_bits_deBruijn32tab), ("math/bits.deBruijn64tab", Go.Proofs.YtblabgjppapdpaaGreatDoor.Rows.laid_math_bits_deBruijn64tab), ("internal/strconv.uint64pow10", Go.Proofs.YtblabgjppapdpaaGreatDoor.Rows.laid_internal_strconv_uint64pow10), ("unicode/utf8.acceptRanges", Go.Proofs.YtblabgjppapdpaaGreatDoor.Rows.laid_unicode_utf8_acceptRanges), ("strconv.ErrRange", Go.Proofs.YtblabgjppapdpaaGreatDoor.Rows.laid_strconv_ErrRange), ("strconv.ErrSyntax", Go.Proofs.YtblabgjppapdpaaGreatDoor.Rows.laid_strconv_ErrSyntax), ("moiety/act.kinds", Go.Proofs.YtblabgjppapdpaaGreatDoor.Rows.laid_moiety_act_kinds), ("unicode/utf8.first", Go.Proofs.YtblabgjppapdpaaGreatDoor.Rows.laid_unicode_utf8_first)] : List (String × DataW Unit)).filter (fun x => x.1 == "math/bits.deBruijn64tab") = [("math/bits.deBruijn64tab", Go.Proofs.YtblabgjppapdpaaGreatDoor.Rows.laid_math_bits_deBruijn64tab)] by kernel_rfl) ▸ laidMetH.filter (fun x => x.1 == "math/bits.deBruijn64tab") h)
 refine ⟨fun e he i v hv=>?_,fun b hb=>?_,fun e he=>?_⟩
 ·rcases List.mem_cons.1 he with rfl | he
  ·exact ⟨(Zj0 ((g0 i).trans hv)).2,(g0 i).trans hv⟩
  rcases List.mem_cons.1 he with rfl | he
  ·exact ⟨(Zj0 ((g1 i).trans hv)).2,(g1 i).trans hv⟩
  rcases List.mem_cons.1 he with rfl | he
  ·exact ⟨(Zj0 ((g2 i).trans hv)).2,(g2 i).trans hv⟩
  cases he
 ·rcases List.mem_cons.1 hb with rfl | hb
  ·obtain ⟨m,hm⟩:=cell_of_shapedOpen_int (P:=Tryz.prog) (g:=3) (t:=3) (zero:=#[.int .i64 0]) hsh (of_decide_eq_true (by kernel_rfl)) (by kernel_rfl) rfl (by kernel_rfl) (by kernel_rfl) Tryz.underlying3
   exact ⟨(Zj0 hm).2,m,hm⟩
  cases hb
 ·rcases List.mem_cons.1 he with rfl | he
  ·exact ⟨(Zj0 (g0 0)).2,g0 20⟩
  cases he
theorem WholeTold_ret (os:Os) (started:os.Started) (H:Type) (enc:TypeId × Value → H) :
  ReturnsInHanded {} Tryz.checked os 3 .any (fun w args => (Go.Proofs.YtblabgjppapdpaaGreatDoor.Rows.wholeToldSpec.pre enc Tryz.prog Tryz.f3 [] false w args ∧ laidMetH Tryz.prog [("math/bits.deBruijn32tab", Go.Proofs.YtblabgjppapdpaaGreatDoor.Rows.laid_math_bits_deBruijn32tab), ("math/bits.deBruijn64tab", Go.Proofs.YtblabgjppapdpaaGreatDoor.Rows.laid_math_bits_deBruijn64tab), ("internal/strconv.uint64pow10", Go.Proofs.YtblabgjppapdpaaGreatDoor.Rows.laid_internal_strconv_uint64pow10), ("unicode/utf8.acceptRanges", Go.Proofs.YtblabgjppapdpaaGreatDoor.Rows.laid_unicode_utf8_acceptRanges), ("strconv.ErrRange", Go.Proofs.YtblabgjppapdpaaGreatDoor.Rows.laid_strconv_ErrRange), ("strconv.ErrSyntax", Go.Proofs.YtblabgjppapdpaaGreatDoor.Rows.laid_strconv_ErrSyntax), ("moiety/act.kinds", Go.Proofs.YtblabgjppapdpaaGreatDoor.Rows.laid_moiety_act_kinds), ("unicode/utf8.first", Go.Proofs.YtblabgjppapdpaaGreatDoor.Rows.laid_unicode_utf8_first)] w) ∧ sizedMet enc Tryz.prog Tryz.f3 (OpenSpec.ofChange Go.Proofs.YtblabgjppapdpaaGreatDoor.Rows.wholeToldSpec) false w args) (Go.Proofs.YtblabgjppapdpaaGreatDoor.Rows.wholeToldSpec.post enc Tryz.prog Tryz.f3 false true false false) := by
 refine Zu8 (C := Tryz.checked) (X := fun w _ => laidMetH Tryz.prog [("math/bits.deBruijn32tab", Go.Proofs.YtblabgjppapdpaaGreatDoor.Rows.laid_math_bits_deBruijn32tab), ("math/bits.deBruijn64tab", Go.Proofs.YtblabgjppapdpaaGreatDoor.Rows.laid_math_bits_deBruijn64tab), ("internal/strconv.uint64pow10", Go.Proofs.YtblabgjppapdpaaGreatDoor.Rows.laid_internal_strconv_uint64pow10), ("unicode/utf8.acceptRanges", Go.Proofs.YtblabgjppapdpaaGreatDoor.Rows.laid_unicode_utf8_acceptRanges), ("strconv.ErrRange", Go.Proofs.YtblabgjppapdpaaGreatDoor.Rows.laid_strconv_ErrRange), ("strconv.ErrSyntax", Go.Proofs.YtblabgjppapdpaaGreatDoor.Rows.laid_strconv_ErrSyntax), ("moiety/act.kinds", Go.Proofs.YtblabgjppapdpaaGreatDoor.Rows.laid_moiety_act_kinds), ("unicode/utf8.first", Go.Proofs.YtblabgjppapdpaaGreatDoor.Rows.laid_unicode_utf8_first)] w) (fun _ _ _ hh h => h.of_heap hh) Z3r started (by kernel_rfl) Tryz.func3
  (ChangeSpec.witness_shaped (enc := enc) (C := Tryz.checked) (os := os) (X := fun w _ => laidMetH Tryz.prog [("math/bits.deBruijn32tab", Go.Proofs.YtblabgjppapdpaaGreatDoor.Rows.laid_math_bits_deBruijn32tab), ("math/bits.deBruijn64tab", Go.Proofs.YtblabgjppapdpaaGreatDoor.Rows.laid_math_bits_deBruijn64tab), ("internal/strconv.uint64pow10", Go.Proofs.YtblabgjppapdpaaGreatDoor.Rows.laid_internal_strconv_uint64pow10), ("unicode/utf8.acceptRanges", Go.Proofs.YtblabgjppapdpaaGreatDoor.Rows.laid_unicode_utf8_acceptRanges), ("strconv.ErrRange", Go.Proofs.YtblabgjppapdpaaGreatDoor.Rows.laid_strconv_ErrRange), ("strconv.ErrSyntax", Go.Proofs.YtblabgjppapdpaaGreatDoor.Rows.laid_strconv_ErrSyntax), ("moiety/act.kinds", Go.Proofs.YtblabgjppapdpaaGreatDoor.Rows.laid_moiety_act_kinds), ("unicode/utf8.first", Go.Proofs.YtblabgjppapdpaaGreatDoor.Rows.laid_unicode_utf8_first)] w) false (World.laidAll Tryz.prog os [("math/bits.deBruijn32tab", Go.Proofs.YtblabgjppapdpaaGreatDoor.Rows.laid_math_bits_deBruijn32tab), ("math/bits.deBruijn64tab", Go.Proofs.YtblabgjppapdpaaGreatDoor.Rows.laid_math_bits_deBruijn64tab), ("internal/strconv.uint64pow10", Go.Proofs.YtblabgjppapdpaaGreatDoor.Rows.laid_internal_strconv_uint64pow10), ("unicode/utf8.acceptRanges", Go.Proofs.YtblabgjppapdpaaGreatDoor.Rows.laid_unicode_utf8_acceptRanges), ("strconv.ErrRange", Go.Proofs.YtblabgjppapdpaaGreatDoor.Rows.laid_strconv_ErrRange), ("strconv.ErrSyntax", Go.Proofs.YtblabgjppapdpaaGreatDoor.Rows.laid_strconv_ErrSyntax), ("moiety/act.kinds", Go.Proofs.YtblabgjppapdpaaGreatDoor.Rows.laid_moiety_act_kinds), ("unicode/utf8.first", Go.Proofs.YtblabgjppapdpaaGreatDoor.Rows.laid_unicode_utf8_first)]) #[.int .i64 0, .slice none 0 0] 8 (World.laidAll_os _ _ _) (World.shaped_of_ZipB (by kernel_rfl) (by kernel_rfl)) (by kernel_rfl) (by kernel_rfl) (by kernel_rfl) (WholeTold_met os _)) ?_
 intro W base args ds gs before hval0 hW hcnd hL hsh
 have hval:∀ (j:Nat) t v,Tryz.f3.params[j]?=some t → args[j]?=some v → Value.okWide Tryz.prog W .any base t v:=hval0
 have hW':=hW
 obtain ⟨p,q,hA0,hV,rfl,hfz,hnd⟩:=hW
 have hA:DataW.TrodAll enc Tryz.prog W 0 (fun _=>true) true Tryz.f3.params.toList args.toList ds p:=hA0
 rw [Tryz.params3] at hA hval
 obtain ⟨v0,v1,d0,d1,p0,p1,rfl,rfl,rfl,h0,h1⟩:=trodAll_two hA
 obtain ⟨rfl,rfl⟩:=trodVars_none hV
 simp only [List.append_nil] at hW'
 have hg:GLok W (fun b _=>b < W.heap.size):=(WholeTold_gl hL hsh)
 have hk0:=h0
 obtain ⟨a0,q0,w0⟩:=Z1i op_3 hg h0 (hval 0 3 v0 rfl rfl)
 have hk1:=h1
 obtain ⟨a1,q1,w1⟩:=Z1i Z7t hg h1 (hval 1 22 v1 rfl rfl)
 refine (Zn3 a0 a1 (WholeTold_true a0 a1 w0 w1) (GW W hg) [v0,v1] (Znz q0 (Znz q1 Zo1))).mono fun e W' ⟨g',v,he,hw,hs,hq⟩=>?_
 subst he;subst hw
 rw [Zgt.1 hq]
 have hbel:=Z3t hs
 have hlt:∀ x ∈ (p0 ++ p1),x.block < W.heap.size:=fun x hx=>by simpa using hW'.lt x hx
 exact ⟨_,rfl,Zu2 (pv:=[]) hW' hbel (trodAll_mk1 (shut_bool Tryz.underlying4 true)) (trodAll_mk2 (Below.trod Zuu (by kernel_rfl) (of_decide_eq_true (by kernel_rfl)) hk0 hbel (fun x hx=>hlt x (by simp [hx]))) (Below.trod Zuu (by kernel_rfl) (of_decide_eq_true (by kernel_rfl)) hk1 hbel (fun x hx=>hlt x (by simp [hx])))) rfl⟩
theorem WholeTold_holds:Go.Proofs.YtblabgjppapdpaaGreatDoor.Rows.WholeToldSaid :=
 OpenClaim.holds_of_wide 3 Tryz.f3 rfl rfl rfl rfl rfl rfl rfl ⟨rfl,rfl,rfl,rfl,rfl⟩ rfl rfl rfl rfl rfl (by kernel_rfl) Tryz.func3 (by kernel_rfl)
  (of_decide_eq_true (by kernel_rfl)) (by unfold Func.isWrapper;first | (rw [if_pos (by decide +kernel)];kernel_rfl) | (rw [if_neg (by decide +kernel)];exact ⟨rfl,rfl⟩))
  (fun os started H enc _=>WholeTold_ret os started H enc)
theorem WholeTold_card:Go.Proofs.YtblabgjppapdpaaGreatDoor.Rows.WholeToldCardSaid :=
 Claim7.holds_tied_plain_at .later [] [.data, .data, .data, .data, .sentinel, .sentinel, .data, .pinned] true (true, "9a1e838c36377a229eb526b9611afc3140f6145a2bb861637a095d6f2f31c7fd") true
  WholeTold_holds (fun _ h=>by cases h) (by kernel_rfl) (fun _ h=>by cases h) Go.Proofs.YtblabgjppapdpaaGreatDoor.wholeTold_row_tie rfl ⟨rfl,rfl⟩ (by kernel_rfl) rfl
  (fun f fn hf hfn=>by
   obtain rfl : f = 3 := Option.some.inj ((show Tryz.prog.funcNamed "moiety/moietytop.WholeTold" = some 3 by kernel_rfl).symm.trans hf) |>.symm
   obtain rfl:fn=Tryz.f3:=(Option.some.inj (Tryz.func3.symm.trans hfn)).symm
   exact ⟨by kernel_rfl,fun j t ht=>by
    rw [Tryz.params3] at ht
    have hm:t ∈ [3,22]:=by simpa using Array.mem_of_getElem? ht
    have hall:(([3,22]:List TypeId).all fun u=>!Tryz.prog.wantsStandIn u)=true:=by kernel_rfl
    exact (show Tryz.prog.wantsStandIn t=false by simpa using List.all_eq_true.1 hall t hm)⟩)
  (by kernel_rfl)
end Go.CL
