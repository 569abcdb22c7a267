import Derived.Test.YtohcgenhhgipcaaGa
namespace Go.Proofs.Ytohcgenhhgipcaa.PA
open Go.RowKit Go.Shelf Go.Proofs.YtohcgenhhgipcaaW.PrintWords Go.Proofs.YtohcgenhhgipcaaW.PrintLast Go.Proofs.YtohcgenhhgipcaaW.PrintMore
set_option linter.unusedVariables false
set_option linter.unusedSimpArgs false

/-! The checks of a truck and of stones -/
set_option maxHeartbeats 400000 in
theorem c60_any (x : S64) (w : World) (hs : x.f0.size ≤ 9223372036854775807) : Calls Try.prog 60 #[.agg #[.string x.f0,.int .i64 x.f1,.int .i64 x.f2]] w fun e w'=>e = .returned (.bool (!lexName x.f0)) ∧ Below w.heap.size w w':=by
 have hl:=fun W=>lexName_any x.f0 W hs
 generalize lexName x.f0 = q at hl ⊢;have HL:=aside hl;clear hl hs
 go_enter Try.func60,Try.ntmps60
 go_wp2_with (go_at_call 59;refine (HL.out _).mono ?_;rintro e w1 ⟨rfl,hb⟩)
 go_ret
 exact ⟨rfl,(((Below.refl _ _).alloc (Nat.le_refl _) _).trans (hb.mono (by simp)))⟩
def badC (x : S64) : Bool:=decide (x.f1 < 1) || (decide (30000 < x.f1) || (decide (x.f2 < 1) || decide (1000000000 < x.f2)))
set_option maxHeartbeats 400000 in
theorem c62_any (x : S64) (w : World) : Calls Try.prog 62 #[.agg #[.string x.f0,.int .i64 x.f1,.int .i64 x.f2]] w fun e w'=>e = .returned (.bool (badC x)) ∧ Below w.heap.size w w':=by
 unfold badC
 by_cases h1 : x.f1 < 1
 ·go_enter Try.func62,Try.ntmps62
  go_wp2
  go_ret
  exact ⟨ok_bool (by first|rfl|simp [h1]),(Below.refl _ _).alloc (Nat.le_refl _) _⟩
 ·by_cases h2 : 30000 < x.f1
  ·go_enter Try.func62,Try.ntmps62
   go_wp2
   go_ret
   exact ⟨ok_bool (by first|rfl|simp [h2]),(Below.refl _ _).alloc (Nat.le_refl _) _⟩
  ·by_cases h3 : x.f2 < 1
   ·go_enter Try.func62,Try.ntmps62
    go_wp2
    go_ret
    exact ⟨ok_bool (by first|rfl|simp [h3]),(Below.refl _ _).alloc (Nat.le_refl _) _⟩
   ·have H1:=aside h1;have H2:=aside h2;have H3:=aside h3
    go_enter Try.func62,Try.ntmps62
    go_wp2
    go_ret
    exact ⟨ok_bool (by have a1:=H1.out;have a2:=H2.out;have a3:=H3.out;first|rfl|(simp [a1,a2,a3])|(rw [Bool.eq_iff_iff];simp;omega)),(Below.refl _ _).alloc (Nat.le_refl _) _⟩
def placeB (n : Int) : Bool:=decide (-30000 ≤ n) && decide (n ≤ 60000)
set_option maxHeartbeats 400000 in
theorem c73_any (n : Int) (w : World) : Calls Try.prog 73 #[.int .i64 n] w fun e w'=>e = .returned (.bool (placeB n)) ∧ w = w':=by
 unfold placeB
 by_cases h1 : -30000 ≤ n
 ·go_enter Try.func73,Try.ntmps73
  go_wp2
  go_ret
  exact ⟨ok_bool (by rw [Bool.eq_iff_iff];simp [h1]),rfl⟩
 ·go_enter Try.func73,Try.ntmps73
  go_wp2
  go_ret
  exact ⟨ok_bool (by rw [Bool.eq_iff_iff];simp;omega),rfl⟩
/-- an axle's numbers are out of range -/
def axB (e n : Int) : Bool:=decide (e < 0) || (decide (n < e) || decide (1000000000 < n))
theorem index22 (a b : Int) (w : World) :
  (Instr.index 22 (.agg #[.int .i64 a,.int .i64 b]) (.int .i64 0)).run Try.prog w = .ok (.int .i64 a) w ∧ (Instr.index 22 (.agg #[.int .i64 a,.int .i64 b]) (.int .i64 1)).run Try.prog w = .ok (.int .i64 b) w:=by
 have ha : ∀ w,(isAgg 2).run Try.prog w = .ok false w:=by
  intro w
  unfold isAgg
  rw [Sem.run_bind,run_underlying Try.underlying2 w];rfl
 constructor
 ·simp [Instr.index,asIntOf,run_underlying Try.underlying22,part,Sem.run_bind,ha]
 ·simp [Instr.index,asIntOf,run_underlying Try.underlying22,part,Sem.run_bind,ha]
def trkB (t : S24) : Bool := !axB t.f5.f0 t.f4.f0 && (!axB t.f5.f1 t.f4.f1 && (decide (1 ≤ t.f1) && (decide (t.f1 ≤ 30000) && (placeB t.f2 && (placeB t.f3 && decide (t.f2 < t.f3))))))
set_option maxRecDepth 100000 in
set_option maxHeartbeats 2000000 in
theorem truck_any (t : S24) (w : World) : Calls Try.prog 61 #[.agg #[.string t.f0,.int .i64 t.f1,.int .i64 t.f2,.int .i64 t.f3,.int .i64 t.f4.f0,.int .i64 t.f4.f1,.int .i64 t.f5.f0,.int .i64 t.f5.f1]] w fun e w'=>e = .returned (.bool (trkB t)) ∧ Below w.heap.size w w':=by
 obtain ⟨nm,ln,fr,re,⟨l0,l1⟩,⟨e0,e1⟩⟩ := t
 obtain ⟨r,hr⟩ : ∃ r,trkB ⟨nm,ln,fr,re,⟨l0,l1⟩,⟨e0,e1⟩⟩ = r:=⟨_,rfl⟩
 rw [hr];have hr' : (!axB e0 l0 && (!axB e1 l1 && (decide (1 ≤ ln) && (decide (ln ≤ 30000) && (placeB fr && (placeB re && decide (fr < re))))))) = r:=hr
 dsimp only
 have HR:=aside hr'
 have hix0:=fun W=>(index22 l0 l1 W).1
 have hix1:=fun W=>(index22 l0 l1 W).2
 clear hr hr'
 go_enter Try.func61,Try.ntmps61
 go_wp2
 go_loopg [8] 2 (fun gg v wr=>∃ n : Nat,n ≤ 2 ∧ 2 - n ≤ gg ∧ v = .int .i64 n ∧ Aside ((1 ≤ n → axB e0 l0 = false) ∧ (2 ≤ n → axB e1 l1 = false)) ∧ wr = w.alloc (.cells #[.string nm,.int .i64 ln,.int .i64 fr,.int .i64 re,.int .i64 l0,.int .i64 l1,.int .i64 e0,.int .i64 e1] 24))
 case atStart=>exact ⟨0,by omega,by omega,rfl,(show Aside _ from ⟨fun h=>absurd h (by omega),fun h=>absurd h (by omega)⟩),rfl⟩
 case round =>
  obtain ⟨n,hn,hg,rfl,A1,rfl⟩ := hrel;have bel : Below w.heap.size w (w.alloc (.cells #[.string nm,.int .i64 ln,.int .i64 fr,.int .i64 re,.int .i64 l0,.int .i64 l1,.int .i64 e0,.int .i64 e1] 24)):=(Below.refl _ _).alloc (Nat.le_refl _) _;have BE:=aside bel;clear bel
  rcases (show n = 0 ∨ n = 1 ∨ n = 2 by omega) with rfl|rfl|rfl
  ·obtain ⟨q,hq⟩ : ∃ q,axB e0 l0 = q:=⟨_,rfl⟩
   have HQ:=aside hq
   have fin : q = true → r = false:=fun h=>by rw [← HR.out,HQ.out,h];rfl
   have FI:=aside fin;clear hq fin;by_cases h1 : e0 < 0
   ·have : q = true:=by rw [← HQ.out];simp [axB,h1]
    obtain rfl:=FI.out this
    go_wp2
    go_ret
    exact ⟨rfl,BE.out⟩
   ·by_cases h2 : l0 < e0
    ·have : q = true:=by rw [← HQ.out];simp [axB,h2]
     obtain rfl:=FI.out this
     go_wp2
     go_ret
     exact ⟨rfl,BE.out⟩
    ·by_cases h3 : 1000000000 < l0
     ·have : q = true:=by rw [← HQ.out];simp [axB,h3]
      obtain rfl:=FI.out this
      go_wp2
      go_ret
      exact ⟨rfl,BE.out⟩
     ·have : q = false:=by rw [← HQ.out];simp [axB,h1,h2,h3]
      have HF:=aside (HQ.out.trans this)
      go_wp2
      go_roundg 1
      case measure=>omega
      case rel=>exact ⟨1,by omega,by omega,by go_num,(show Aside _ from ⟨fun _=>HF.out,fun h=>absurd h (by omega)⟩),rfl⟩
  ·obtain ⟨q,hq⟩ : ∃ q,axB e1 l1 = q:=⟨_,rfl⟩
   have HQ:=aside hq
   have fin : q = true → r = false:=fun h=>by rw [← HR.out,HQ.out,h];simp
   have FI:=aside fin;clear hq fin;by_cases h1 : e1 < 0
   ·have : q = true:=by rw [← HQ.out];simp [axB,h1]
    obtain rfl:=FI.out this
    go_wp2
    go_ret
    exact ⟨rfl,BE.out⟩
   ·by_cases h2 : l1 < e1
    ·have : q = true:=by rw [← HQ.out];simp [axB,h2]
     obtain rfl:=FI.out this
     go_wp2
     go_ret
     exact ⟨rfl,BE.out⟩
    ·by_cases h3 : 1000000000 < l1
     ·have : q = true:=by rw [← HQ.out];simp [axB,h3]
      obtain rfl:=FI.out this
      go_wp2
      go_ret
      exact ⟨rfl,BE.out⟩
     ·have : q = false:=by rw [← HQ.out];simp [axB,h1,h2,h3]
      have HF:=aside (HQ.out.trans this)
      go_wp2
      go_roundg 0
      case measure=>omega
      case rel=>exact ⟨2,by omega,by omega,by go_num,(show Aside _ from ⟨fun _=>A1.out.1 (by omega),fun _=>HF.out⟩),rfl⟩
  ·have hz : r = (decide (1 ≤ ln) && (decide (ln ≤ 30000) && (placeB fr && (placeB re && decide (fr < re))))) := by
    rw [← HR.out,A1.out.1 (by omega),A1.out.2 (by omega)];rfl
   have HZ:=aside hz;clear hz
   have P1:=fun W=>c73_any fr W
   have P2:=fun W=>c73_any re W
   obtain ⟨pf,hpf⟩ : ∃ b,placeB fr = b:=⟨_,rfl⟩
   obtain ⟨pr,hpr⟩ : ∃ b,placeB re = b:=⟨_,rfl⟩
   rw [hpf] at P1;rw [hpr] at P2;have HF:=aside hpf;have HG:=aside hpr;have C1:=aside P1;have C2:=aside P2
   clear P1 P2 hpf hpr;by_cases h1 : 1 ≤ ln
   ·by_cases h2 : ln ≤ 30000
    ·cases pf with
     | false =>
      have hz : r = false:=by rw [HZ.out,HF.out];simp
      subst hz
      go_wp2_with (first|(go_at_call 73;refine (C1.out _).mono ?_;rintro e w1 ⟨rfl,rfl⟩))
      go_ret
      exact ⟨rfl,BE.out⟩
     | true =>
      cases pr with
      | false =>
       have hz : r = false:=by rw [HZ.out,HG.out];simp
       subst hz
       go_wp2_with (go_at_call 73;first|(refine (C1.out _).mono ?_;rintro e w1 ⟨rfl,rfl⟩)|(refine (C2.out _).mono ?_;rintro e w1 ⟨rfl,rfl⟩))
       go_ret
       exact ⟨rfl,BE.out⟩
      | true =>
       have hz : r = decide (fr < re):=by rw [HZ.out,HF.out,HG.out];simp [h1,h2]
       have HZ2:=aside hz;clear hz
       go_wp2_with (go_at_call 73;first|(refine (C1.out _).mono ?_;rintro e w1 ⟨rfl,rfl⟩)|(refine (C2.out _).mono ?_;rintro e w1 ⟨rfl,rfl⟩))
       go_ret
       exact ⟨ok_bool HZ2.out.symm,BE.out⟩
    ·have hz : r = false:=by rw [HZ.out];simp [h2]
     subst hz
     go_wp2
     go_ret
     exact ⟨rfl,BE.out⟩
   ·have hz : r = false:=by rw [HZ.out];simp [h1]
    subst hz
    go_wp2
    go_ret
    exact ⟨rfl,BE.out⟩
theorem eg60 : ∀ args w,(callFunc 60 args).run Try.prog w = .ok (.enter 60 args) w:=enters_of Try.func60 (by kernel_rfl) rfl
theorem eg62 : ∀ args w,(callFunc 62 args).run Try.prog w = .ok (.enter 62 args) w:=enters_of Try.func62 (by kernel_rfl) rfl
end Go.Proofs.Ytohcgenhhgipcaa.PA
