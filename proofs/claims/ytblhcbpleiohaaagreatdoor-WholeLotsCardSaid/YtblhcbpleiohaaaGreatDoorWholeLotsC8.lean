/- A part of the proof of WholeLots. -/
import Derived.Test.YtblhcbpleiohaaaGreatDoorWholeLotsC7
import Derived.Test.YtblhcbpleiohaaaGreatDoorRows
import Derived.Test.YtblhcbpleiohaaaGreatDoorCards
import Derived.Test.YtblhcbpleiohaaaGreatDoorTie
import Derived.SevenTiedAt
set_option linter.unusedVariables false
set_option linter.unusedSimpArgs false
set_option maxRecDepth 100000
namespace Go.CL
open Go
theorem Zbaa {l:List Zu} (hl:l.length ≤ 40) (h:∀ d ∈ l,DIn d) {s0:Zp} {t0:Zx} (h0:FR s0 t0 60) {k0:Int} (hk1:1 ≤ k0) (hk2:k0 ≤ 549755813888):∀ (n i:Nat) (k:Int) (s:Zp) (L:List Z7),l.length + 1 ≤ n + i → i ≤ l.length → k0 ≤ k → k ≤ k0 + i → runF (l.take i) s0=some (s,L) → L.length=i →
  ∃ k' s' i' L',i' ≤ l.length ∧ Zey (n + 1) k s (l.drop i) (i:Int) L=some (.inr (k',s',l.drop i',(i':Nat),L')) ∧ runF (l.take i') s0=some (s',L') ∧ (i' < l.length → ∃ c a,Zgg ⟨k',(l.drop i').take 1⟩=some (c,a) ∧ c ≠ 0):=by
 intro n
 induction n with
 | zero=>intro i k s L hn hi;omega
 | succ n ih =>
  intro i k s L hn hi hk hk' hr hL
  have hd:∀ d ∈ l.drop i,DIn d:=fun d hd=>h d (List.mem_of_mem_drop hd)
  have hlen:(l.drop i).length=l.length - i:=List.length_drop
  obtain ⟨m,hm,e,h1,h2⟩:=Zbfb (k:=k) (l:=l.drop i) (by omega) hd
  have hml:((l.drop i).take m).length=m:=by rw [List.length_take];omega
  rw [Zey,e,Option.bind_some]
  simp only []
  rw [hml]
  by_cases h0m:m=0
  ·subst h0m
   rw [if_pos (by simp)]
   exact ⟨k,s,i,L,hi,rfl,hr,fun hlt=>h2 (by omega)⟩
  ·have hb:LB ⟨k,(l.drop i).take m⟩:=h1.resolve_left h0m
   rw [if_neg (by simp;omega),Z2a hb,Option.bind_some,Zbgu hb,Option.bind_some]
   have hs:Zik ⟨k,(l.drop i).take m⟩ ⟨k,(l.drop i).take m⟩=some true:=Zbhw hb fun d hx=>(hd d (List.mem_of_mem_take hx)).2
   simp only [bne_self_eq_false,Bool.not_false,gd_t]
   rw [hs,Option.bind_some]
   have hsum:IntKind.i64.wrap ((m:Int) + (((l.drop i).drop m).length:Int))=((l.drop i).length:Int):=by
    have e2:((l.drop i).drop m).length=(l.drop i).length - m:=List.length_drop
    rw [e2,wr (by omega) (by omega)];omega
   rw [hsum]
   simp only [bne_self_eq_false,Bool.not_true,Bool.or_self,Bool.false_eq_true,if_false]
   rw [Z32 (by rw [hml];omega)]
   have htot:∃ s' t' L',runF (l.take (i + m)) s0=some (s',L') ∧ FR s' t' (60 + 12 * (l.take (i + m)).length) ∧ Zyt L' ∧ L'.length=(l.take (i + m)).length:=Zyh (l.take (i + m)) h0 (by simp;omega) fun d hx=>(h d (List.mem_of_mem_take hx)).2
   obtain ⟨s',t',L',f1,f2,f3,f4⟩:=htot
   have f5:=f1
   rw [show l.take (i + m)=l.take i ++ (l.drop i).take m from List.take_add,Zxc,hr,Option.bind_some] at f1
   simp only [] at f1
   cases hq:runF ((l.drop i).take m) s with
   | none=>rw [hq] at f1;cases f1
   | some q =>
    rw [hq,Option.bind_some] at f1
    obtain ⟨g1,g2⟩:=Prod.mk.inj (Option.some.inj f1)
    simp only [Option.bind_some]
    have hlL:L.length + q.2.length=i + m:=by
     have:=congrArg List.length g2
     rw [List.length_append,f4,List.length_take] at this
     omega
    rw [if_pos (by omega),g1,g2,wr (by omega) (by omega),show IntKind.i64.wrap ((i:Int) + (m:Int))=((i + m:Nat):Int) by rw [wr (by omega) (by omega)];omega,List.drop_drop]
    exact ih (i + m) (k + 1) s' L' (by omega) (by omega) (by omega) (by omega) f5 (by rw [f4,List.length_take];omega)
theorem WholeLots_true (a0:Int) (a1:List Zbj) (a2:List Zu) (w0:(IntKind.i64).min ≤ a0 ∧ a0 ≤ (IntKind.i64).max) (w1:a1.length ≤ maxLen ∧ ∀ e0 ∈ a1,Zh9 e0) (w2:a2.length ≤ maxLen ∧ ∀ e0 ∈ a2,Zm1 e0):Zkl a0 a1 a2=some true:=by
 have hb:LB ⟨1,[]⟩:=⟨by decide,by decide,by decide,fun d hd=>(by cases hd),by decide⟩
 unfold Zkl
 rw [Zvq hb,Z2a hb,Option.bind_some]
 simp only [bne_self_eq_false,Bool.not_false,gd_t,Option.bind_some,Bool.false_or]
 rw [if_neg (by decide)]
 rcases Zbdc (r:=8) w1.2 with ⟨s,e⟩ | ⟨s,t,e,hf,hr,_⟩
 ·rw [e];rfl
 rw [e]
 obtain ⟨c,e1,e2,e3⟩:=Zbkd w2.2
 simp only [Option.bind_some,Option.isNone_some,Bool.not_false,gd_t,Bool.false_or]
 rw [e1]
 rcases e2 with rfl | rfl
 ·simp only [Option.bind_some,Int.lt_irrefl,decide_false,Bool.false_or]
  by_cases hk:(decide (a0 < 1) || decide (549755813888 < a0))=true
  ·rw [if_pos hk]
  rw [if_neg hk]
  simp only [Bool.or_eq_true,decide_eq_true_eq] at hk
  obtain ⟨hl,hd⟩:=e3 rfl
  obtain ⟨k',s',i',L',hi,g1,g2,g3⟩:=Zbaa hl hd hf (k0:=a0) (by omega) (by omega) (a2.length + 1) 0 a0 s [] (by omega) (by omega) (by omega) (by omega) rfl rfl
  rw [show ((0:Nat):Int)=0 from rfl,List.drop_zero] at g1
  rw [g1,Option.bind_some]
  simp only []
  rw [show (0:Int)=((0:Nat):Int) from rfl,Zlh (by omega) hi,Option.bind_some,List.drop_zero,Nat.sub_zero,Z32 (by rw [List.length_take];omega),g2,Option.bind_some]
  obtain ⟨s2,t2,L2,f1,f2,f3,f4⟩:=Zyh (a2.take i') hf (by rw [List.length_take];omega) fun d hx=>(hd d (List.mem_of_mem_take hx)).2
  rw [g2] at f1
  obtain ⟨rfl,rfl⟩:=Prod.mk.inj (Option.some.inj f1)
  have fin:Zfx s' L' (s',L')=some true:=by
   unfold Zfx
   simp only []
   rw [Zbkm f2 (by rw [List.length_take];omega),Zbgx (by rw [f4,List.length_take];omega) f3]
   rfl
  by_cases hz:i' < a2.length
  ·obtain ⟨c,a,q1,q2⟩:=g3 hz
   rw [if_pos (by simp;omega),show (1:Int)=((1:Nat):Int) from rfl,Zlh (by omega) (by simp;omega),Option.bind_some,List.drop_zero,Nat.sub_zero,q1,Option.bind_some,if_neg (by simpa using q2)]
   exact fin
  ·rw [if_neg (by simp;omega)]
   exact fin
 ·rfl
end Go.CL
namespace Go.CL
open Go Go.RowKit Go.Proofs Go.ChangeShapes Go.WideShapes Go.ChangeAt
theorem Zbby:ownKnob Tryz.prog.godebug=none:=by kernel_rfl
theorem Zvf:laidOutB Tryz.prog=true:=by kernel_rfl
theorem op_3:Opn Tryz.prog 3 (Kd.int .i64) (fun x=>((IntKind.i64).min ≤ x ∧ x ≤ (IntKind.i64).max)):=Z7e Tryz.underlying3 (by kernel_rfl)
theorem op_9:Opn Tryz.prog 9 Kd.str (fun x=>(x.size ≤ maxLen)):=Zbf1 Tryz.underlying9 (by kernel_rfl)
theorem op_2:Opn Tryz.prog 2 (Kd.int .i64) (fun x=>((IntKind.i64).min ≤ x ∧ x ≤ (IntKind.i64).max)):=Z7e Tryz.underlying2 (by kernel_rfl)
theorem Z9i:Opn Tryz.prog 59 Kd.flt (fun x=>(x < 2 ^ 64)):=Zbfo Tryz.underlying59 (by kernel_rfl)
theorem Zbh5:Opn Tryz.prog 100 Zz Zss:=⟨by kernel_rfl,fun hg h=>by
 obtain ⟨hl,n,hf⟩:=Zpf Tryz.underlying100 h
 obtain ⟨y0,h0⟩:=hf 0 _ rfl
 obtain ⟨v0,k0,w0⟩:=Z9i.op hg h0
 obtain ⟨y1,h1⟩:=hf 1 _ rfl
 obtain ⟨v1,k1,w1⟩:=op_9.op hg h1
 refine ⟨⟨v0,v1⟩,⟨hl.trans (by kernel_rfl),(Qc.2 ⟨k0,(Qc.2 ⟨k1,(fun _ h=>by cases h)⟩)⟩)⟩,w0,w1⟩,fun h=>Zq3 Tryz.underlying100 h⟩
theorem Zbj7:Opn Tryz.prog 60 Zz.sl (fun x=>(x.length ≤ maxLen ∧ ∀ e0 ∈ x,(Zss e0))):=Zyq Tryz.underlying60 (by kernel_rfl) Zbh5 (by decide)
theorem Zbd5:Opn Tryz.prog 62 Zf Zms:=⟨by kernel_rfl,fun hg h=>by
 obtain ⟨hl,n,hf⟩:=Zpf Tryz.underlying62 h
 obtain ⟨y0,h0⟩:=hf 0 _ rfl
 obtain ⟨v0,k0,w0⟩:=op_3.op hg h0
 obtain ⟨y1,h1⟩:=hf 1 _ rfl
 obtain ⟨v1,k1,w1⟩:=op_2.op hg h1
 obtain ⟨y2,h2⟩:=hf 2 _ rfl
 obtain ⟨v2,k2,w2⟩:=op_2.op hg h2
 obtain ⟨y3,h3⟩:=hf 3 _ rfl
 obtain ⟨v3,k3,w3⟩:=op_2.op hg h3
 obtain ⟨y4,h4⟩:=hf 4 _ rfl
 obtain ⟨v4,k4,w4⟩:=Z9i.op hg h4
 obtain ⟨y5,h5⟩:=hf 5 _ rfl
 obtain ⟨v5,k5,w5⟩:=op_3.op hg h5
 obtain ⟨y6,h6⟩:=hf 6 _ rfl
 obtain ⟨v6,k6,w6⟩:=op_9.op hg h6
 obtain ⟨y7,h7⟩:=hf 7 _ rfl
 obtain ⟨v7,k7,w7⟩:=Zbj7.op hg h7
 refine ⟨⟨v0,v1,v2,v3,v4,v5,v6,v7⟩,⟨hl.trans (by kernel_rfl),(Qc.2 ⟨k0,(Qc.2 ⟨k1,(Qc.2 ⟨k2,(Qc.2 ⟨k3,(Qc.2 ⟨k4,(Qc.2 ⟨k5,(Qc.2 ⟨k6,(Qc.2 ⟨k7,(fun _ h=>by cases h)⟩)⟩)⟩)⟩)⟩)⟩)⟩)⟩)⟩,w0,w1,w2,w3,w4,w5,w6,w7⟩,fun h=>Zq3 Tryz.underlying62 h⟩
theorem Zbkf:Opn Tryz.prog 64 Zck Zh9:=⟨by kernel_rfl,fun hg h=>by
 obtain ⟨hl,n,hf⟩:=Zpf Tryz.underlying64 h
 obtain ⟨y0,h0⟩:=hf 0 _ rfl
 obtain ⟨v0,k0,w0⟩:=op_9.op hg h0
 obtain ⟨y1,h1⟩:=hf 1 _ rfl
 obtain ⟨v1,k1,w1⟩:=Zbd5.op hg h1
 refine ⟨⟨v0,v1⟩,⟨hl.trans (by kernel_rfl),(Qc.2 ⟨k0,(Qc.2 ⟨k1,(fun _ h=>by cases h)⟩)⟩)⟩,w0,w1⟩,fun h=>Zq3 Tryz.underlying64 h⟩
theorem Zbjl:Opn Tryz.prog 22 Zck.sl (fun x=>(x.length ≤ maxLen ∧ ∀ e0 ∈ x,(Zh9 e0))):=Zyq Tryz.underlying22 (by kernel_rfl) Zbkf (by decide)
theorem op_4:Opn Tryz.prog 4 Kd.bool (fun x=>True):=Zbdp Tryz.underlying4 (by kernel_rfl)
theorem Zbju:Opn Tryz.prog 90 Zy Znu:=⟨by kernel_rfl,fun hg h=>by
 obtain ⟨hl,n,hf⟩:=Zpf Tryz.underlying90 h
 obtain ⟨y0,h0⟩:=hf 0 _ rfl
 obtain ⟨v0,k0,w0⟩:=op_3.op hg h0
 obtain ⟨y1,h1⟩:=hf 1 _ rfl
 obtain ⟨v1,k1,w1⟩:=op_9.op hg h1
 obtain ⟨y2,h2⟩:=hf 2 _ rfl
 obtain ⟨v2,k2,w2⟩:=op_2.op hg h2
 obtain ⟨y3,h3⟩:=hf 3 _ rfl
 obtain ⟨v3,k3,w3⟩:=Z9i.op hg h3
 obtain ⟨y4,h4⟩:=hf 4 _ rfl
 obtain ⟨v4,k4,w4⟩:=op_9.op hg h4
 obtain ⟨y5,h5⟩:=hf 5 _ rfl
 obtain ⟨v5,k5,w5⟩:=Zbd5.op hg h5
 obtain ⟨y6,h6⟩:=hf 6 _ rfl
 obtain ⟨v6,k6,w6⟩:=op_4.op hg h6
 refine ⟨⟨v0,v1,v2,v3,v4,v5,v6⟩,⟨hl.trans (by kernel_rfl),(Qc.2 ⟨k0,(Qc.2 ⟨k1,(Qc.2 ⟨k2,(Qc.2 ⟨k3,(Qc.2 ⟨k4,(Qc.2 ⟨k5,(Qc.2 ⟨k6,(fun _ h=>by cases h)⟩)⟩)⟩)⟩)⟩)⟩)⟩)⟩,w0,w1,w2,w3,w4,w5,w6⟩,fun h=>Zq3 Tryz.underlying90 h⟩
theorem Zbi2:Opn Tryz.prog 51 Zy.sl (fun x=>(x.length ≤ maxLen ∧ ∀ e0 ∈ x,(Znu e0))):=Zyq Tryz.underlying51 (by kernel_rfl) Zbju (by decide)
theorem Zbko:Opn Tryz.prog 53 Zbb Zm1:=⟨by kernel_rfl,fun hg h=>by
 obtain ⟨hl,n,hf⟩:=Zpf Tryz.underlying53 h
 obtain ⟨y0,h0⟩:=hf 0 _ rfl
 obtain ⟨v0,k0,w0⟩:=Zbi2.op hg h0
 refine ⟨⟨v0⟩,⟨hl.trans (by kernel_rfl),(Qc.2 ⟨k0,(fun _ h=>by cases h)⟩)⟩,w0⟩,fun h=>Zq3 Tryz.underlying53 h⟩
theorem Zbjc:Opn Tryz.prog 23 Zbb.sl (fun x=>(x.length ≤ maxLen ∧ ∀ e0 ∈ x,(Zm1 e0))):=Zyq Tryz.underlying23 (by kernel_rfl) Zbko (by decide)
theorem Zbeq:Det Tryz.prog 9:=Zbe9 Tryz.underlying9
theorem Zbj1:Det Tryz.prog 3:=Zbe8 Tryz.underlying3
theorem Zbfj:Det Tryz.prog 129:=Z9l Tryz.underlying129 (fun i f h=>match i,f,h with
 | 0,_,h=>by obtain rfl:=Option.some.inj h;exact Zbeq
 | 1,_,h=>by obtain rfl:=Option.some.inj h;exact Zbj1
 | 2,_,h=>by obtain rfl:=Option.some.inj h;exact Zbeq
 | _ + 3,_,h=>by cases h) (by kernel_rfl)
theorem Zbgd:Det Tryz.prog 158:=Zbfn Tryz.underlying158 Zbfj (by kernel_rfl)
theorem WholeLots_met (os : Os) (args : Array Value) : laidMetH Tryz.prog [("moiety/act.kinds", Go.Proofs.YtblhcbpleiohaaaGreatDoor.Rows.laid_moiety_act_kinds)] ((World.doorLaid Tryz.prog 400 os).forCall (fun _ _ => 0) ⟨#[], args, []⟩).memory :=
 laidMetH_of_parts3 (fuel:=8) (laidMet_of_run' 8 (by kernel_rfl) (by kernel_rfl)) (by kernel_rfl) (by kernel_rfl)
theorem WholeLots_gl {W : World} (h : laidMetH Tryz.prog [("moiety/act.kinds", Go.Proofs.YtblhcbpleiohaaaGreatDoor.Rows.laid_moiety_act_kinds)] W) : GLok W (fun b _ => b < W.heap.size) := by
 have g0 := Zbb2 (P := Tryz.prog) (nm := "moiety/act.kinds") (d := Go.Proofs.YtblhcbpleiohaaaGreatDoor.Rows.laid_moiety_act_kinds) (g := 0) (t := 158) (W := W) (w0 := W) (cells := [.string ⟨#[]⟩, .int .i64 (0), .string ⟨#[]⟩, .string ⟨#[110, 101, 119]⟩, .int .i64 (0), .string ⟨#[109]⟩, .string ⟨#[100, 114, 111, 112]⟩, .int .i64 (0), .string ⟨#[]⟩, .string ⟨#[105, 115]⟩, .int .i64 (0), .string ⟨#[]⟩, .string ⟨#[108, 111, 111, 107]⟩, .int .i64 (0), .string ⟨#[]⟩, .string ⟨#[112, 117, 116]⟩, .int .i64 (1), .string ⟨#[115]⟩, .string ⟨#[115, 119, 97, 112]⟩, .int .i64 (1), .string ⟨#[115]⟩, .string ⟨#[97, 100, 100]⟩, .int .i64 (2), .string ⟨#[110]⟩, .string ⟨#[112, 108, 117, 115]⟩, .int .i64 (3), .string ⟨#[110]⟩, .string ⟨#[114, 101, 97, 99, 104]⟩, .int .i64 (3), .string ⟨#[110]⟩, .string ⟨#[105, 110]⟩, .int .i64 (4), .string ⟨#[110]⟩, .string ⟨#[111, 117, 116]⟩, .int .i64 (4), .string ⟨#[110]⟩, .string ⟨#[101, 110, 111, 117, 103, 104]⟩, .int .i64 (4), .string ⟨#[110]⟩, .string ⟨#[114, 97, 105, 115, 101]⟩, .int .i64 (5), .string ⟨#[120]⟩, .string ⟨#[108, 111, 119, 101, 114]⟩, .int .i64 (6), .string ⟨#[120]⟩, .string ⟨#[115, 104, 105, 102, 116]⟩, .int .i64 (7), .string ⟨#[120]⟩, .string ⟨#[115, 99, 97, 108, 101]⟩, .int .i64 (7), .string ⟨#[120]⟩, .string ⟨#[102, 105, 120]⟩, .int .i64 (7), .string ⟨#[120]⟩, .string ⟨#[106, 111, 105, 110]⟩, .int .i64 (8), .string ⟨#[115]⟩, .string ⟨#[108, 101, 97, 118, 101]⟩, .int .i64 (8), .string ⟨#[115]⟩, .string ⟨#[104, 97, 115]⟩, .int .i64 (8), .string ⟨#[115]⟩, .string ⟨#[111, 102, 102, 101, 114]⟩, .int .i64 (9), .string ⟨#[120, 115]⟩]) (fu := 8) (by kernel_rfl) (by kernel_rfl) Zbgd (by kernel_rfl) (by kernel_rfl) h
 intro e he i v hv
 rcases List.mem_cons.1 he with rfl | he
 ·exact ⟨(Zvp (g0 i v hv)).2,g0 i v hv⟩
 cases he
theorem WholeLots_ret (os:Os) (started:os.Started) (H:Type) (enc:TypeId × Value → H) :
  ReturnsInHanded {} Tryz.checked os 3 .any (fun w args => (Go.Proofs.YtblhcbpleiohaaaGreatDoor.Rows.wholeLotsSpec.pre enc Tryz.prog Tryz.f3 [] false w args ∧ laidMetH Tryz.prog [("moiety/act.kinds", Go.Proofs.YtblhcbpleiohaaaGreatDoor.Rows.laid_moiety_act_kinds)] w) ∧ sizedMet enc Tryz.prog Tryz.f3 (OpenSpec.ofChange Go.Proofs.YtblhcbpleiohaaaGreatDoor.Rows.wholeLotsSpec) false w args) (Go.Proofs.YtblhcbpleiohaaaGreatDoor.Rows.wholeLotsSpec.post enc Tryz.prog Tryz.f3 false true false false) := by
 refine returnsInHanded_of_change_and (C := Tryz.checked) (X := fun w _ => laidMetH Tryz.prog [("moiety/act.kinds", Go.Proofs.YtblhcbpleiohaaaGreatDoor.Rows.laid_moiety_act_kinds)] w) (fun _ _ _ hh h => h.of_heap hh) Zbby started (by kernel_rfl) Tryz.func3
  (ChangeSpec.witness_shaped (enc := enc) (C := Tryz.checked) (os := os) (X := fun w _ => laidMetH Tryz.prog [("moiety/act.kinds", Go.Proofs.YtblhcbpleiohaaaGreatDoor.Rows.laid_moiety_act_kinds)] w) false (World.doorLaid Tryz.prog 400 os) #[.int .i64 0, .slice none 0 0, .slice none 0 0] 8 rfl (World.shaped_of_RefB (by kernel_rfl) (by kernel_rfl)) (by kernel_rfl) (by kernel_rfl) (by kernel_rfl) (WholeLots_met os _)) ?_
 intro W base args ds gs before hval0 hW hcnd _ hL _
 have hval:∀ (j:Nat) t v,Tryz.f3.params[j]?=some t → args[j]?=some v → Value.okWide Tryz.prog W .any base t v:=hval0
 have hW':=hW
 obtain ⟨p,q,hA0,hV,rfl,hfz,hnd⟩:=hW
 have hA:DataW.TrodAll enc Tryz.prog W 0 (fun _=>true) true Tryz.f3.params.toList args.toList ds p:=hA0
 rw [Tryz.params3] at hA hval
 obtain ⟨v0,v1,v2,d0,d1,d2,p0,p1,p2,rfl,rfl,rfl,h0,h1,h2⟩:=trodAll_three hA
 obtain ⟨rfl,rfl⟩:=trodVars_none hV
 simp only [List.append_nil] at hW'
 have hg:GLok W (fun b _=>b < W.heap.size):=(WholeLots_gl hL)
 have hk0:=h0
 obtain ⟨a0,q0,w0⟩:=Z4u op_3 hg h0 (hval 0 3 v0 rfl rfl)
 have hk1:=h1
 obtain ⟨a1,q1,w1⟩:=Z4u Zbjl hg h1 (hval 1 22 v1 rfl rfl)
 have hk2:=h2
 obtain ⟨a2,q2,w2⟩:=Z4u Zbjc hg h2 (hval 2 23 v2 rfl rfl)
 refine (Zsu a0 a1 a2 (WholeLots_true a0 a1 a2 w0 w1 w2) (GW W hg) [v0,v1,v2] (Zqm q0 (Zqm q1 (Zqm q2 Ze7)))).mono fun e W' ⟨g',v,he,hw,hs,hq⟩=>?_
 subst he;subst hw
 rw [Ziz.1 hq]
 have hbel:=Zbds hs
 have hlt:∀ x ∈ (p0 ++ p1 ++ p2),x.block < W.heap.size:=fun x hx=>by simpa using hW'.lt x hx
 exact ⟨_,rfl,Z2p (pv:=[]) hW' hbel (trodAll_mk1 (shut_bool Tryz.underlying4 true)) (trodAll_mk3 (Below.trod Zvf (by kernel_rfl) (of_decide_eq_true (by kernel_rfl)) hk0 hbel (fun x hx=>hlt x (by simp [hx]))) (Below.trod Zvf (by kernel_rfl) (of_decide_eq_true (by kernel_rfl)) hk1 hbel (fun x hx=>hlt x (by simp [hx]))) (Below.trod Zvf (by kernel_rfl) (of_decide_eq_true (by kernel_rfl)) hk2 hbel (fun x hx=>hlt x (by simp [hx])))) rfl⟩
theorem WholeLots_holds:Go.Proofs.YtblhcbpleiohaaaGreatDoor.Rows.WholeLotsSaid :=
 OpenClaim.holds_of_wide 3 Tryz.f3 rfl rfl rfl rfl rfl rfl rfl ⟨rfl,rfl,rfl,rfl,rfl⟩ rfl rfl rfl rfl rfl (by kernel_rfl) Tryz.func3 (by kernel_rfl)
  (of_decide_eq_true (by kernel_rfl)) (by unfold Func.isWrapper;first | (rw [if_pos (by decide +kernel)];kernel_rfl) | (rw [if_neg (by decide +kernel)];exact ⟨rfl,rfl⟩))
  (fun os started H enc _=>WholeLots_ret os started H enc)
theorem WholeLots_card:Go.Proofs.YtblhcbpleiohaaaGreatDoor.Rows.WholeLotsCardSaid :=
 Claim7.holds_tied_plain_at .later [] [.data] true (true, "f30dbc4d923b01fbf9a87c362bddbd2c56186ddf642bb9eb44814d45f1547a81") true
  WholeLots_holds (fun _ h=>by cases h) (by kernel_rfl) (fun _ h=>by cases h) Go.Proofs.YtblhcbpleiohaaaGreatDoor.wholeLots_row_tie rfl ⟨rfl,rfl⟩ (by kernel_rfl) rfl
  (fun f fn hf hfn=>by
   obtain rfl : f = 3 := Option.some.inj ((show Tryz.prog.funcNamed "moiety/moietytop.WholeLots" = some 3 by kernel_rfl).symm.trans hf) |>.symm
   obtain rfl:fn=Tryz.f3:=(Option.some.inj (Tryz.func3.symm.trans hfn)).symm
   exact ⟨by kernel_rfl,fun j t ht=>by
    rw [Tryz.params3] at ht
    have hm:t ∈ [3,22,23]:=by simpa using Array.mem_of_getElem? ht
    have hall:(([3,22,23]:List TypeId).all fun u=>!Tryz.prog.wantsStandIn u)=true:=by kernel_rfl
    exact (show Tryz.prog.wantsStandIn t=false by simpa using List.all_eq_true.1 hall t hm)⟩)
  (by kernel_rfl)
end Go.CL
