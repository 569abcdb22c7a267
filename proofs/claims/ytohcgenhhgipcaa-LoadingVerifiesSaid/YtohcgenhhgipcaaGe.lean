import Derived.Test.YtohcgenhhgipcaaGc
import Derived.BigQuiet
namespace Go.Proofs.Ytohcgenhhgipcaa.PA
open Go.RowKit Go.Shelf Go.Proofs.YtohcgenhhgipcaaW.PrintWords Go.Proofs.YtohcgenhhgipcaaW.PrintLast Go.Proofs.YtohcgenhhgipcaaW.PrintMore
set_option linter.unusedVariables false
set_option linter.unusedSimpArgs false

/-! The reference's truck -/
def inB (n a b : Int) : Bool:=decide (a ≤ n) && decide (n ≤ b)
set_option maxHeartbeats 400000 in
theorem in_any (n a b : Int) (w : World) : Calls Try.prog 36 #[.int .i64 n,.int .i64 a,.int .i64 b] w fun e w'=>e = .returned (.bool (inB n a b)) ∧ w' = w:=by
 unfold inB
 by_cases h1 : a ≤ n
 ·go_enter Try.func36,Try.ntmps36
  go_wp2
  go_ret
  exact ⟨ok_bool (by rw [Bool.eq_iff_iff];simp [h1]),rfl⟩
 ·go_enter Try.func36,Try.ntmps36
  go_wp2
  go_ret
  exact ⟨ok_bool (by rw [Bool.eq_iff_iff];simp;omega),rfl⟩
theorem cellB {W : World} {b ty : Nat} {cs : Array Value} (h : W.heap[b]? = some (.cells cs ty (0,0))) (i : Nat) (v : Value) (hv : cs[i]? = some v) : W.cell? ⟨b,i,none⟩ = some v:=by
 simp [World.cell?,h,hv]
theorem inq {a b c : Int} {q : Bool} {w : World} {n : Nat} (h : inB a b c = q) : Calls Try.prog 36 #[.int .i64 a,.int .i64 b,.int .i64 c] (w.drewN n) fun e w'=>e = .returned (.bool q) ∧ ∃ m,w' = w.drewN m:=h ▸ Calls.quiet_of_same (in_any a b c _)
def axI (e n : Int) : Bool:=inB n 0 1000000000 && inB e 0 n
def rtB (t : S24) : Bool:=inB t.f1 1 30000 && (inB t.f2 (-30000) 60000 && (inB t.f3 (-30000) 60000 && decide (t.f2 < t.f3)))
def rtR (t : S24) : Nat → Bool
 | 0=>rtB t
 | 1=>rtB t && axI t.f5.f0 t.f4.f0
 | _=>(rtB t && axI t.f5.f0 t.f4.f0) && axI t.f5.f1 t.f4.f1
theorem below_dN {w W : World} (h : Below w.heap.size w W) (n : Nat) : Below w.heap.size w (W.drewN n):=h.trans (Below.mono ⟨rfl,rfl,rfl,Nat.le_refl _,fun _ _=>rfl⟩ h.size)
set_option maxRecDepth 100000 in
set_option maxHeartbeats 4000000 in
theorem rtruck_any (t : S24) (w : World) : Calls Try.prog 35 #[e24 t] w fun e w'=>e = .returned (.bool (rtR t 2)) ∧ Below w.heap.size w w':=by
 obtain ⟨nm,ln,fr,re,⟨l0,l1⟩,⟨e0,e1⟩⟩ := t
 unfold e24
 obtain ⟨R,hR⟩ : ∃ R,rtR ⟨nm,ln,fr,re,⟨l0,l1⟩,⟨e0,e1⟩⟩ = R:=⟨_,rfl⟩
 have r0 : (inB ln 1 30000 && (inB fr (-30000) 60000 && (inB re (-30000) 60000 && decide (fr < re)))) = R 0:=by rw [← hR];rfl
 have r1 : (R 0 && (inB l0 0 1000000000 && inB e0 0 l0)) = R 1:=by rw [← hR];rfl
 have r2 : (R 1 && (inB l1 0 1000000000 && inB e1 0 l1)) = R 2:=by rw [← hR];rfl
 rw [hR]
 dsimp only
 have Q0:=aside r0;have Q1:=aside r1;have Q2:=aside r2;clear r0 r1 r2 hR;have bel : Below w.heap.size w (w.alloc (.cells #[.string nm,.int .i64 ln,.int .i64 fr,.int .i64 re,.int .i64 l0,.int .i64 l1,.int .i64 e0,.int .i64 e1] 24)):=(Below.refl _ _).alloc (Nat.le_refl _) _;have BE:=aside bel;clear bel
 go_enter Try.func35,Try.ntmps35
 go_upto_region 1 with fail
 go_cut [3] from 5 to 24 (fun v3 wx=>v3 = .bool (R 0) ∧ wx = w.alloc (.cells #[.string nm,.int .i64 ln,.int .i64 fr,.int .i64 re,.int .i64 l0,.int .i64 l1,.int .i64 e0,.int .i64 e1] 24))
 case first =>
  cases p1 : inB ln 1 30000
  ·have P1:=aside p1;clear p1
   go_wp2_with (go_at_call 36;refine (in_any _ _ _ _).mono ?_;rintro e w1 ⟨rfl,rfl⟩;first|rw [P1.out])
   go_meet
   exact ⟨by rw [← Q0.out,P1.out];rfl,rfl⟩
  ·have P1:=aside p1;clear p1
   cases p2 : inB fr (-30000) 60000
   ·have P2:=aside p2;clear p2
    go_wp2_with (go_at_call 36;refine (in_any _ _ _ _).mono ?_;rintro e w1 ⟨rfl,rfl⟩;first|rw [P1.out]|rw [P2.out])
    go_meet
    exact ⟨by rw [← Q0.out,P1.out,P2.out];rfl,rfl⟩
   ·have P2:=aside p2;clear p2
    cases p3 : inB re (-30000) 60000
    ·have P3:=aside p3;clear p3
     go_wp2_with (go_at_call 36;refine (in_any _ _ _ _).mono ?_;rintro e w1 ⟨rfl,rfl⟩;first|rw [P1.out]|rw [P2.out]|rw [P3.out])
     go_meet
     exact ⟨by rw [← Q0.out,P1.out,P2.out,P3.out];rfl,rfl⟩
    ·have P3:=aside p3;clear p3
     go_wp2_with (go_at_call 36;refine (in_any _ _ _ _).mono ?_;rintro e w1 ⟨rfl,rfl⟩;first|rw [P1.out]|rw [P2.out]|rw [P3.out])
     go_meet
     exact ⟨by rw [← Q0.out,P1.out,P2.out,P3.out];rfl,rfl⟩
 case rest =>
  obtain ⟨rfl,rfl⟩ := hcut
  go_wp2
  go_loopg [3,4] 2 (fun gg v3 v4 wr=>∃ n : Nat,n ≤ 2 ∧ 2 - n ≤ gg ∧ v3 = .bool (R n) ∧ v4 = .int .i64 n ∧ Aside (Below w.heap.size w wr) ∧ Aside (wr.heap[w.heap.size]? = some (.cells #[.string nm,.int .i64 ln,.int .i64 fr,.int .i64 re,.int .i64 l0,.int .i64 l1,.int .i64 e0,.int .i64 e1] 24 (0,0))))
  case atStart=>exact ⟨0,by omega,by omega,rfl,rfl,BE,(show Aside _ from blk_new _ _)⟩
  case round =>
   obtain ⟨n,hn,hg,rfl,rfl,BB,HC⟩ := hrel
   rcases (show n = 0 ∨ n = 1 ∨ n = 2 by omega) with rfl|rfl|rfl
   ·go_upto_region 5 with fail
    have hq1:=cellB HC.out 4 (.int .i64 l0) rfl;have hq2:=cellB HC.out 6 (.int .i64 e0) rfl
    cases r0 : R 0
    ·have Q3:=aside r0;clear r0
     go_quiet (fail)
     go_wp2
     go_roundg 1
     case measure=>omega
     case rel=>exact ⟨1,by omega,by omega,by rw [← Q1.out,Q3.out];rfl,by go_num,(show Aside _ from below_dN BB.out _),(show Aside _ from (by first|exact HC.out|(rw [← HC.out];rfl)))⟩
    ·have Q3:=aside r0;clear r0
     cases p4 : inB l0 0 1000000000
     ·have P4:=aside p4;clear p4
      go_quiet ((go_at_call 36;first|exact inq P4.out|exact inq P5.out))
      go_wp2
      go_roundg 1
      case measure=>omega
      case rel=>exact ⟨1,by omega,by omega,by rw [← Q1.out,Q3.out,P4.out];rfl,by go_num,(show Aside _ from below_dN BB.out _),(show Aside _ from (by first|exact HC.out|(rw [← HC.out];rfl)))⟩
     ·have P4:=aside p4;clear p4
      cases p5 : inB e0 0 l0
      ·have P5:=aside p5;clear p5
       go_quiet ((go_at_call 36;first|exact inq P4.out|exact inq P5.out))
       go_wp2
       go_roundg 1
       case measure=>omega
       case rel=>exact ⟨1,by omega,by omega,by rw [← Q1.out,Q3.out,P4.out,P5.out];rfl,by go_num,(show Aside _ from below_dN BB.out _),(show Aside _ from (by first|exact HC.out|(rw [← HC.out];rfl)))⟩
      ·have P5:=aside p5;clear p5
       go_quiet ((go_at_call 36;first|exact inq P4.out|exact inq P5.out))
       go_wp2
       go_roundg 1
       case measure=>omega
       case rel=>exact ⟨1,by omega,by omega,by rw [← Q1.out,Q3.out,P4.out,P5.out];rfl,by go_num,(show Aside _ from below_dN BB.out _),(show Aside _ from (by first|exact HC.out|(rw [← HC.out];rfl)))⟩
   ·go_upto_region 5 with fail
    have hq1:=cellB HC.out 5 (.int .i64 l1) rfl;have hq2:=cellB HC.out 7 (.int .i64 e1) rfl
    cases r0 : R 1
    ·have Q3:=aside r0;clear r0
     go_quiet (fail)
     go_wp2
     go_roundg 0
     case measure=>omega
     case rel=>exact ⟨2,by omega,by omega,by rw [← Q2.out,Q3.out];rfl,by go_num,(show Aside _ from below_dN BB.out _),(show Aside _ from (by first|exact HC.out|(rw [← HC.out];rfl)))⟩
    ·have Q3:=aside r0;clear r0
     cases p4 : inB l1 0 1000000000
     ·have P4:=aside p4;clear p4
      go_quiet ((go_at_call 36;first|exact inq P4.out|exact inq P5.out))
      go_wp2
      go_roundg 0
      case measure=>omega
      case rel=>exact ⟨2,by omega,by omega,by rw [← Q2.out,Q3.out,P4.out];rfl,by go_num,(show Aside _ from below_dN BB.out _),(show Aside _ from (by first|exact HC.out|(rw [← HC.out];rfl)))⟩
     ·have P4:=aside p4;clear p4
      cases p5 : inB e1 0 l1
      ·have P5:=aside p5;clear p5
       go_quiet ((go_at_call 36;first|exact inq P4.out|exact inq P5.out))
       go_wp2
       go_roundg 0
       case measure=>omega
       case rel=>exact ⟨2,by omega,by omega,by rw [← Q2.out,Q3.out,P4.out,P5.out];rfl,by go_num,(show Aside _ from below_dN BB.out _),(show Aside _ from (by first|exact HC.out|(rw [← HC.out];rfl)))⟩
      ·have P5:=aside p5;clear p5
       go_quiet ((go_at_call 36;first|exact inq P4.out|exact inq P5.out))
       go_wp2
       go_roundg 0
       case measure=>omega
       case rel=>exact ⟨2,by omega,by omega,by rw [← Q2.out,Q3.out,P4.out,P5.out];rfl,by go_num,(show Aside _ from below_dN BB.out _),(show Aside _ from (by first|exact HC.out|(rw [← HC.out];rfl)))⟩
   ·go_wp2
    go_ret
    exact ⟨rfl,BB.out⟩
end Go.Proofs.Ytohcgenhhgipcaa.PA
