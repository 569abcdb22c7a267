import Derived.Test.YtbggjmdelnmilaaPAx18
import Derived.Test.YtbggjmdelnmilaaPAx20
import Derived.Test.YtbggjmdelnmilaaPAx74
import Derived.Test.YtbggjmdelnmilaaPAx75
namespace Go.Proofs.Ytbggjmdelnmilaa.PA
open Go.RowKit Go.Proofs.YtbggjmdelnmilaaW.PrintWords Go.Proofs.YtbggjmdelnmilaaW.PrintLast Go.Proofs.YtbggjmdelnmilaaW.PrintMore
attribute [local go_sem] max2_int min2_int max_two min_two max_three min_three max_four min_four
set_option linter.unusedVariables false
set_option linter.unusedSimpArgs false
attribute [local go_sem high] eqA32
mutual
def gangsawlaw31_OffcutServes.j0 : Nat → List (S39) → List (S26) → Int → Int → Bool → Option (Bool)
 | 0,_,_,_,_,_=>none
 | k + 1,x0,x1,x2,x3,x34=>if x34 = true then (some true) else ((gangsawlaw31_all.f k x1).bind fun t616=>((offcut_Serve.f k x0 t616 x2 x3).bind fun bt619=>((gangsawref31_Taking.f k x0 x1 x2 x3).bind fun t629=>(if t629 = 0 then ((gangsawref31_Serve.f k x0 x1 x2 x3).bind fun bt630=>(if bt619.2.2.2 = bt630.2.2.2 then ((gangsawref31_Same.f k bt619.1 bt630.1).bind fun t640=>(if t640 = true then (if (bt619.2.1.length : Int) = (bt630.2.1.length : Int) then (gangsawlaw31_OffcutServes.j1 k bt619.2.1 bt619.2.2.1 bt630.2.1 bt630.2.2.1 ((bt619.2.2.1.length : Int) != (bt630.2.2.1.length : Int))) else (gangsawlaw31_OffcutServes.j1 k bt619.2.1 bt619.2.2.1 bt630.2.1 bt630.2.2.1 true)) else (gangsawlaw31_OffcutServes.j1 k bt619.2.1 bt619.2.2.1 bt630.2.1 bt630.2.2.1 true))) else (gangsawlaw31_OffcutServes.j1 k bt619.2.1 bt619.2.2.1 bt630.2.1 bt630.2.2.1 true))) else (if bt619.2.2.2 = t629 then (if (bt619.1.length : Int) = 0 then (if (bt619.2.1.length : Int) = 0 then (some ((bt619.2.2.1.length : Int) == 0)) else (none)) else (none)) else (none))))))
def gangsawlaw31_OffcutServes.j1 : Nat → List (S32) → List ByteArray → List (S71) → List ByteArray → Bool → Option (Bool)
 | 0,_,_,_,_,_=>none
 | k + 1,x10,x11,x15,x16,x103=>if x103 = true then (none) else (gangsawlaw31_OffcutServes.l0 k x10 x11 x15 x16 0)
def gangsawlaw31_OffcutServes.l0 : Nat → List (S32) → List ByteArray → List (S71) → List ByteArray → Int → Option (Bool)
 | 0,_,_,_,_,_=>none
 | k + 1,x10,x11,x15,x16,x18=>if x18 < (x10.length : Int) then (if 0 ≤ x18 then (if x18 < (x15.length : Int) then (if (!((((rd_T32 x10 x18).f0).toList) == (((rd_T71 x15 x18).f0).toList)) || (!((((rd_T32 x10 x18).f1).toList) == (((rd_T71 x15 x18).f1).toList)) || (!(((rd_T32 x10 x18).f2) == ((rd_T71 x15 x18).f2))))) = true then (none) else (gangsawlaw31_OffcutServes.l0 k x10 x11 x15 x16 (wrap64 (x18 + 1)))) else (none)) else (none)) else (gangsawlaw31_OffcutServes.l1 k x11 x16 0)
def gangsawlaw31_OffcutServes.l1 : Nat → List ByteArray → List ByteArray → Int → Option (Bool)
 | 0,_,_,_=>none
 | k + 1,x11,x16,x19=>if x19 < (x11.length : Int) then (if 0 ≤ x19 then (if x19 < (x16.length : Int) then (if (rdOf ByteArray.empty x11 x19).toList = (rdOf ByteArray.empty x16 x19).toList then (gangsawlaw31_OffcutServes.l1 k x11 x16 (wrap64 (x19 + 1))) else (none)) else (none)) else (none)) else (some true)
end
def gangsawlaw31_OffcutServes.f (k : Nat) (l0 : List (S39)) (l1 : List (S26)) (a2 : Int) (a3 : Int) : Option (Bool):=(gangsawlaw31_awake.f k).bind fun t613=>(if t613 = true then ((gangsawref31_Small.f k l0 12).bind fun t614=>(if t614 = true then ((gangsawref31_Few.f k l1 8).bind fun t615=>(if t615 = true then (gangsawlaw31_OffcutServes.j0 k l0 l1 a2 a3 false) else (gangsawlaw31_OffcutServes.j0 k l0 l1 a2 a3 (decide ((l1.length : Int) ≤ 256))))) else (gangsawlaw31_OffcutServes.j0 k l0 l1 a2 a3 true))) else (none))
set_option maxHeartbeats 8000000 in
set_option maxRecDepth 100000 in
theorem gangsawlaw31_OffcutServes.calls (k : Nat) (A0 : Option Addr) (c0 : Nat) (l0 : List (S39)) (A1 : Option Addr) (c1 : Nat) (l1 : List (S26)) (a2 : Int) (a3 : Int) (r : Bool) (w : World) (hr0 : Kd.C k39 w A0 l0.length l0) (hc0 : l0.length ≤ c0) (hr1 : Kd.C k26 w A1 l1.length l1) (hc1 : l1.length ≤ c1) (h : gangsawlaw31_OffcutServes.f k l0 l1 a2 a3 = some r) :
  Calls Try.prog 9 #[.slice A0 l0.length c0,.slice A1 l1.length c1,.int .i64 a2,.int .i64 a3] w fun e w'=>e = .returned (.bool r) ∧ Below w.heap.size w w':=by
 have hu32:=Try.underlying32;have HR0:=am hr0;have HC0:=am hc0;clear hr0 hc0;have HR1:=am hr1;have HC1:=am hc1;clear hr1 hc1;have HB:=am (Below.refl w.heap.size w);have H : ((gangsawlaw31_awake.f k).bind fun t613=>(if t613 = true then ((gangsawref31_Small.f k l0 12).bind fun t614=>(if t614 = true then ((gangsawref31_Few.f k l1 8).bind fun t615=>(if t615 = true then (gangsawlaw31_OffcutServes.j0 k l0 l1 a2 a3 false) else (gangsawlaw31_OffcutServes.j0 k l0 l1 a2 a3 (decide ((l1.length : Int) ≤ 256))))) else (gangsawlaw31_OffcutServes.j0 k l0 l1 a2 a3 true))) else (none))) = some r:=h;clear h;replace H:=Option.bind_eq_some_iff.mp H;obtain ⟨t613,A50,H⟩ := H;replace H : (if t613 = true then ((gangsawref31_Small.f k l0 12).bind fun t614=>(if t614 = true then ((gangsawref31_Few.f k l1 8).bind fun t615=>(if t615 = true then (gangsawlaw31_OffcutServes.j0 k l0 l1 a2 a3 false) else (gangsawlaw31_OffcutServes.j0 k l0 l1 a2 a3 (decide ((l1.length : Int) ≤ 256))))) else (gangsawlaw31_OffcutServes.j0 k l0 l1 a2 a3 true))) else (none)) = some r:=H;have A5:=am A50;clear A50;by_cases c6 : t613 = true
 ·subst c6
  have H1 : ((gangsawref31_Small.f k l0 12).bind fun t614=>(if t614 = true then ((gangsawref31_Few.f k l1 8).bind fun t615=>(if t615 = true then (gangsawlaw31_OffcutServes.j0 k l0 l1 a2 a3 false) else (gangsawlaw31_OffcutServes.j0 k l0 l1 a2 a3 (decide ((l1.length : Int) ≤ 256))))) else (gangsawlaw31_OffcutServes.j0 k l0 l1 a2 a3 true))) = some r:=by rw [if_pos rfl] at H;exact H
  clear H;have H:=H1;clear H1;have HC7:=am H;clear H
  go_enter Try.func9,Try.ntmps9
  go_upto_region 3 with (first|(go_at_call 11;(with_reducible refine (gangsawlaw31_awake.calls k  true _ A5.out).mono ?_);rintro e w8 ⟨rfl,hb⟩;replace HB:=bsa HB hb;(try clear hb)))
  repeat (go_quiet (first|(go_at_call 11;(with_reducible refine (gangsawlaw31_awake.calls k  true _ A5.out).mono ?_);rintro e w8 ⟨rfl,hb⟩;replace HB:=bsa HB hb;(try clear hb)));go_upto_region 3 with (first|(go_at_call 11;(with_reducible refine (gangsawlaw31_awake.calls k  true _ A5.out).mono ?_);rintro e w8 ⟨rfl,hb⟩;replace HB:=bsa HB hb;(try clear hb))))
  (try simp only [Act.put,sA,s0,sS])
  go_cut [34] (fun v34 wc=>∃ (kq : Nat) (x34_6 : Bool),v34 = .bool x34_6 ∧ Aside0 (gangsawlaw31_OffcutServes.j0 kq l0 l1 a2 a3 x34_6 = some r) ∧ Aside0 (kq ≤ k) ∧ Aside0 (Below w.heap.size w wc))
  case first =>
   have H:=HC7.out;clear HC7;replace H:=Option.bind_eq_some_iff.mp H;obtain ⟨t614,A90,H⟩ := H;replace H : (if t614 = true then ((gangsawref31_Few.f k l1 8).bind fun t615=>(if t615 = true then (gangsawlaw31_OffcutServes.j0 k l0 l1 a2 a3 false) else (gangsawlaw31_OffcutServes.j0 k l0 l1 a2 a3 (decide ((l1.length : Int) ≤ 256))))) else (gangsawlaw31_OffcutServes.j0 k l0 l1 a2 a3 true)) = some r:=H;have A9:=am A90;clear A90;by_cases c10 : t614 = true
   ·subst c10
    have H1 : ((gangsawref31_Few.f k l1 8).bind fun t615=>(if t615 = true then (gangsawlaw31_OffcutServes.j0 k l0 l1 a2 a3 false) else (gangsawlaw31_OffcutServes.j0 k l0 l1 a2 a3 (decide ((l1.length : Int) ≤ 256))))) = some r:=by rw [if_pos rfl] at H;exact H
    clear H;have H:=H1;clear H1;replace H:=Option.bind_eq_some_iff.mp H;obtain ⟨t615,A110,H⟩ := H;replace H : (if t615 = true then (gangsawlaw31_OffcutServes.j0 k l0 l1 a2 a3 false) else (gangsawlaw31_OffcutServes.j0 k l0 l1 a2 a3 (decide ((l1.length : Int) ≤ 256)))) = some r:=H;have A11:=am A110;clear A110;by_cases c12 : t615 = true
    ·subst c12
     have H1 : (gangsawlaw31_OffcutServes.j0 k l0 l1 a2 a3 false) = some r:=by rw [if_pos rfl] at H;exact H
     clear H;have H:=H1;clear H1;have H':=am H;clear H
     go_wp2_with (first|(go_at_call 12;(with_reducible refine (gangsawref31_Small.calls k _ _ l0 12 true _ ?side1 ?side2 A9.out).mono ?_);(case side1=>exact cq HR0.out HB.out);(case side2=>exact HC0.out);rintro e w' ⟨rfl,⟨nd,rfl⟩⟩;(try first|exact ⟨rfl,_,World.drewN_drewN ..⟩|exact ⟨rfl,_,dm⟩))|(go_at_call 13;(with_reducible refine (gangsawref31_Few.calls k _ _ l1 8 true _ ?side1 ?side2 A11.out).mono ?_);(case side1=>repeat (first|exact (kB HR1.out (bh HB))|(with_reducible first|apply kA|apply kN|apply kD)));(case side2=>exact HC1.out);rintro e w' ⟨rfl,⟨nd,rfl⟩⟩;(try first|exact ⟨rfl,_,World.drewN_drewN ..⟩|exact ⟨rfl,_,dm⟩)))
     repeat (go_quiet (first|(go_at_call 12;(with_reducible refine (gangsawref31_Small.calls k _ _ l0 12 true _ ?side1 ?side2 A9.out).mono ?_);(case side1=>exact cq HR0.out HB.out);(case side2=>exact HC0.out);rintro e w' ⟨rfl,⟨nd,rfl⟩⟩;(try first|exact ⟨rfl,_,World.drewN_drewN ..⟩|exact ⟨rfl,_,dm⟩))|(go_at_call 13;(with_reducible refine (gangsawref31_Few.calls k _ _ l1 8 true _ ?side1 ?side2 A11.out).mono ?_);(case side1=>repeat (first|exact (kB HR1.out (bh HB))|(with_reducible first|apply kA|apply kN|apply kD)));(case side2=>exact HC1.out);rintro e w' ⟨rfl,⟨nd,rfl⟩⟩;(try first|exact ⟨rfl,_,World.drewN_drewN ..⟩|exact ⟨rfl,_,dm⟩)));try go_wp2_with (first|(go_at_call 12;(with_reducible refine (gangsawref31_Small.calls k _ _ l0 12 true _ ?side1 ?side2 A9.out).mono ?_);(case side1=>exact cq HR0.out HB.out);(case side2=>exact HC0.out);rintro e w' ⟨rfl,⟨nd,rfl⟩⟩;(try first|exact ⟨rfl,_,World.drewN_drewN ..⟩|exact ⟨rfl,_,dm⟩))|(go_at_call 13;(with_reducible refine (gangsawref31_Few.calls k _ _ l1 8 true _ ?side1 ?side2 A11.out).mono ?_);(case side1=>repeat (first|exact (kB HR1.out (bh HB))|(with_reducible first|apply kA|apply kN|apply kD)));(case side2=>exact HC1.out);rintro e w' ⟨rfl,⟨nd,rfl⟩⟩;(try first|exact ⟨rfl,_,World.drewN_drewN ..⟩|exact ⟨rfl,_,dm⟩))))
     go_meet
     case rel=>exact ⟨_,(false),(by first|rfl|(simp;done)|(simp [*];done)),H',⟨by first|omega|exact Nat.le_refl _⟩,⟨bh HB⟩⟩
    ·replace c12:=Bool.eq_false_iff.mpr c12;subst c12
     have H1 : (gangsawlaw31_OffcutServes.j0 k l0 l1 a2 a3 (decide ((l1.length : Int) ≤ 256))) = some r:=by rw [if_neg (show ¬ (false = true) by decide)] at H;exact H
     clear H;have H:=H1;clear H1;have H':=am H;clear H
     go_wp2_with (first|(go_at_call 12;(with_reducible refine (gangsawref31_Small.calls k _ _ l0 12 true _ ?side1 ?side2 A9.out).mono ?_);(case side1=>exact cq HR0.out HB.out);(case side2=>exact HC0.out);rintro e w' ⟨rfl,⟨nd,rfl⟩⟩;(try first|exact ⟨rfl,_,World.drewN_drewN ..⟩|exact ⟨rfl,_,dm⟩))|(go_at_call 13;(with_reducible refine (gangsawref31_Few.calls k _ _ l1 8 false _ ?side1 ?side2 A11.out).mono ?_);(case side1=>repeat (first|exact (kB HR1.out (bh HB))|(with_reducible first|apply kA|apply kN|apply kD)));(case side2=>exact HC1.out);rintro e w' ⟨rfl,⟨nd,rfl⟩⟩;(try first|exact ⟨rfl,_,World.drewN_drewN ..⟩|exact ⟨rfl,_,dm⟩)))
     repeat (go_quiet (first|(go_at_call 12;(with_reducible refine (gangsawref31_Small.calls k _ _ l0 12 true _ ?side1 ?side2 A9.out).mono ?_);(case side1=>exact cq HR0.out HB.out);(case side2=>exact HC0.out);rintro e w' ⟨rfl,⟨nd,rfl⟩⟩;(try first|exact ⟨rfl,_,World.drewN_drewN ..⟩|exact ⟨rfl,_,dm⟩))|(go_at_call 13;(with_reducible refine (gangsawref31_Few.calls k _ _ l1 8 false _ ?side1 ?side2 A11.out).mono ?_);(case side1=>repeat (first|exact (kB HR1.out (bh HB))|(with_reducible first|apply kA|apply kN|apply kD)));(case side2=>exact HC1.out);rintro e w' ⟨rfl,⟨nd,rfl⟩⟩;(try first|exact ⟨rfl,_,World.drewN_drewN ..⟩|exact ⟨rfl,_,dm⟩)));try go_wp2_with (first|(go_at_call 12;(with_reducible refine (gangsawref31_Small.calls k _ _ l0 12 true _ ?side1 ?side2 A9.out).mono ?_);(case side1=>exact cq HR0.out HB.out);(case side2=>exact HC0.out);rintro e w' ⟨rfl,⟨nd,rfl⟩⟩;(try first|exact ⟨rfl,_,World.drewN_drewN ..⟩|exact ⟨rfl,_,dm⟩))|(go_at_call 13;(with_reducible refine (gangsawref31_Few.calls k _ _ l1 8 false _ ?side1 ?side2 A11.out).mono ?_);(case side1=>repeat (first|exact (kB HR1.out (bh HB))|(with_reducible first|apply kA|apply kN|apply kD)));(case side2=>exact HC1.out);rintro e w' ⟨rfl,⟨nd,rfl⟩⟩;(try first|exact ⟨rfl,_,World.drewN_drewN ..⟩|exact ⟨rfl,_,dm⟩))))
     go_meet
     case rel=>exact ⟨_,(decide ((l1.length : Int) ≤ 256)),(by first|rfl|(simp;done)|(simp [*];done)),H',⟨by first|omega|exact Nat.le_refl _⟩,⟨bh HB⟩⟩
   ·replace c10:=Bool.eq_false_iff.mpr c10;subst c10
    have H1 : (gangsawlaw31_OffcutServes.j0 k l0 l1 a2 a3 true) = some r:=by rw [if_neg (show ¬ (false = true) by decide)] at H;exact H
    clear H;have H:=H1;clear H1;have H':=am H;clear H
    go_wp2_with (first|(go_at_call 12;(with_reducible refine (gangsawref31_Small.calls k _ _ l0 12 false _ ?side1 ?side2 A9.out).mono ?_);(case side1=>exact cq HR0.out HB.out);(case side2=>exact HC0.out);rintro e w' ⟨rfl,⟨nd,rfl⟩⟩;(try first|exact ⟨rfl,_,World.drewN_drewN ..⟩|exact ⟨rfl,_,dm⟩)))
    repeat (go_quiet (first|(go_at_call 12;(with_reducible refine (gangsawref31_Small.calls k _ _ l0 12 false _ ?side1 ?side2 A9.out).mono ?_);(case side1=>exact cq HR0.out HB.out);(case side2=>exact HC0.out);rintro e w' ⟨rfl,⟨nd,rfl⟩⟩;(try first|exact ⟨rfl,_,World.drewN_drewN ..⟩|exact ⟨rfl,_,dm⟩)));try go_wp2_with (first|(go_at_call 12;(with_reducible refine (gangsawref31_Small.calls k _ _ l0 12 false _ ?side1 ?side2 A9.out).mono ?_);(case side1=>exact cq HR0.out HB.out);(case side2=>exact HC0.out);rintro e w' ⟨rfl,⟨nd,rfl⟩⟩;(try first|exact ⟨rfl,_,World.drewN_drewN ..⟩|exact ⟨rfl,_,dm⟩))))
    go_meet
    case rel=>exact ⟨_,(true),(by first|rfl|(simp;done)|(simp [*];done)),H',⟨by first|omega|exact Nat.le_refl _⟩,⟨bh HB⟩⟩
  case rest =>
   clear HC7
   try clear c1
   try clear p2
   try clear c6
   try clear c9
   try clear c10
   try clear c12
   obtain ⟨kq,x34_6,rfl,HA,HJ6,HB⟩ := hcut
   cases kq with
   | zero=>exact absurd HA.out (by simp [gangsawlaw31_OffcutServes.j0])
   | succ kj6 =>
    have H:=HA.out;clear HA;simp only [gangsawlaw31_OffcutServes.j0] at H;by_cases c13 : x34_6 = true
    ·subst c13
     have H1 : (some true) = some r:=by rw [if_pos rfl] at H;exact H
     clear H;have H:=H1;clear H1;obtain rfl:=Option.some.inj H
     go_wp2
     repeat (go_quiet (fail);try go_wp2)
     go_ret
     exact ⟨by first|rfl|(simp [errW_none,errW_some] <;> rfl)|(simp [*,errW_none,errW_some] <;> rfl),bh HB⟩
    ·replace c13:=Bool.eq_false_iff.mpr c13;subst c13
     have H1 : ((gangsawlaw31_all.f kj6 l1).bind fun t616=>((offcut_Serve.f kj6 l0 t616 a2 a3).bind fun bt619=>((gangsawref31_Taking.f kj6 l0 l1 a2 a3).bind fun t629=>(if t629 = 0 then ((gangsawref31_Serve.f kj6 l0 l1 a2 a3).bind fun bt630=>(if bt619.2.2.2 = bt630.2.2.2 then ((gangsawref31_Same.f kj6 bt619.1 bt630.1).bind fun t640=>(if t640 = true then (if (bt619.2.1.length : Int) = (bt630.2.1.length : Int) then (gangsawlaw31_OffcutServes.j1 kj6 bt619.2.1 bt619.2.2.1 bt630.2.1 bt630.2.2.1 ((bt619.2.2.1.length : Int) != (bt630.2.2.1.length : Int))) else (gangsawlaw31_OffcutServes.j1 kj6 bt619.2.1 bt619.2.2.1 bt630.2.1 bt630.2.2.1 true)) else (gangsawlaw31_OffcutServes.j1 kj6 bt619.2.1 bt619.2.2.1 bt630.2.1 bt630.2.2.1 true))) else (gangsawlaw31_OffcutServes.j1 kj6 bt619.2.1 bt619.2.2.1 bt630.2.1 bt630.2.2.1 true))) else (if bt619.2.2.2 = t629 then (if (bt619.1.length : Int) = 0 then (if (bt619.2.1.length : Int) = 0 then (some ((bt619.2.2.1.length : Int) == 0)) else (none)) else (none)) else (none)))))) = some r:=by rw [if_neg (show ¬ (false = true) by decide)] at H;exact H
     clear H;have H:=H1;clear H1;replace H:=Option.bind_eq_some_iff.mp H;obtain ⟨t616,A140,H⟩ := H;replace H : ((offcut_Serve.f kj6 l0 t616 a2 a3).bind fun bt619=>((gangsawref31_Taking.f kj6 l0 l1 a2 a3).bind fun t629=>(if t629 = 0 then ((gangsawref31_Serve.f kj6 l0 l1 a2 a3).bind fun bt630=>(if bt619.2.2.2 = bt630.2.2.2 then ((gangsawref31_Same.f kj6 bt619.1 bt630.1).bind fun t640=>(if t640 = true then (if (bt619.2.1.length : Int) = (bt630.2.1.length : Int) then (gangsawlaw31_OffcutServes.j1 kj6 bt619.2.1 bt619.2.2.1 bt630.2.1 bt630.2.2.1 ((bt619.2.2.1.length : Int) != (bt630.2.2.1.length : Int))) else (gangsawlaw31_OffcutServes.j1 kj6 bt619.2.1 bt619.2.2.1 bt630.2.1 bt630.2.2.1 true)) else (gangsawlaw31_OffcutServes.j1 kj6 bt619.2.1 bt619.2.2.1 bt630.2.1 bt630.2.2.1 true))) else (gangsawlaw31_OffcutServes.j1 kj6 bt619.2.1 bt619.2.2.1 bt630.2.1 bt630.2.2.1 true))) else (if bt619.2.2.2 = t629 then (if (bt619.1.length : Int) = 0 then (if (bt619.2.1.length : Int) = 0 then (some ((bt619.2.2.1.length : Int) == 0)) else (none)) else (none)) else (none))))) = some r:=H;have A14:=am A140;clear A140;replace H:=Option.bind_eq_some_iff.mp H;obtain ⟨⟨t619,t622,t625,t628⟩,A150,H⟩ := H;replace H : ((gangsawref31_Taking.f kj6 l0 l1 a2 a3).bind fun t629=>(if t629 = 0 then ((gangsawref31_Serve.f kj6 l0 l1 a2 a3).bind fun bt630=>(if t628 = bt630.2.2.2 then ((gangsawref31_Same.f kj6 t619 bt630.1).bind fun t640=>(if t640 = true then (if (t622.length : Int) = (bt630.2.1.length : Int) then (gangsawlaw31_OffcutServes.j1 kj6 t622 t625 bt630.2.1 bt630.2.2.1 ((t625.length : Int) != (bt630.2.2.1.length : Int))) else (gangsawlaw31_OffcutServes.j1 kj6 t622 t625 bt630.2.1 bt630.2.2.1 true)) else (gangsawlaw31_OffcutServes.j1 kj6 t622 t625 bt630.2.1 bt630.2.2.1 true))) else (gangsawlaw31_OffcutServes.j1 kj6 t622 t625 bt630.2.1 bt630.2.2.1 true))) else (if t628 = t629 then (if (t619.length : Int) = 0 then (if (t622.length : Int) = 0 then (some ((t625.length : Int) == 0)) else (none)) else (none)) else (none)))) = some r:=H;have A15:=am A150;clear A150;replace H:=Option.bind_eq_some_iff.mp H;obtain ⟨t629,A160,H⟩ := H;replace H : (if t629 = 0 then ((gangsawref31_Serve.f kj6 l0 l1 a2 a3).bind fun bt630=>(if t628 = bt630.2.2.2 then ((gangsawref31_Same.f kj6 t619 bt630.1).bind fun t640=>(if t640 = true then (if (t622.length : Int) = (bt630.2.1.length : Int) then (gangsawlaw31_OffcutServes.j1 kj6 t622 t625 bt630.2.1 bt630.2.2.1 ((t625.length : Int) != (bt630.2.2.1.length : Int))) else (gangsawlaw31_OffcutServes.j1 kj6 t622 t625 bt630.2.1 bt630.2.2.1 true)) else (gangsawlaw31_OffcutServes.j1 kj6 t622 t625 bt630.2.1 bt630.2.2.1 true))) else (gangsawlaw31_OffcutServes.j1 kj6 t622 t625 bt630.2.1 bt630.2.2.1 true))) else (if t628 = t629 then (if (t619.length : Int) = 0 then (if (t622.length : Int) = 0 then (some ((t625.length : Int) == 0)) else (none)) else (none)) else (none))) = some r:=H;have A16:=am A160;clear A160;by_cases c17 : t629 = 0
     ·rw [if_pos c17] at H;have c17b0 : (t629 == 0) = true:=beq_iff_eq.mpr c17;have c17b1 : (t629 != 0) = false:=bne_eq_false_iff_eq.mpr c17;clear c17;replace H:=Option.bind_eq_some_iff.mp H;obtain ⟨⟨t630,t633,t636,t639⟩,A180,H⟩ := H;replace H : (if t628 = t639 then ((gangsawref31_Same.f kj6 t619 t630).bind fun t640=>(if t640 = true then (if (t622.length : Int) = (t633.length : Int) then (gangsawlaw31_OffcutServes.j1 kj6 t622 t625 t633 t636 ((t625.length : Int) != (t636.length : Int))) else (gangsawlaw31_OffcutServes.j1 kj6 t622 t625 t633 t636 true)) else (gangsawlaw31_OffcutServes.j1 kj6 t622 t625 t633 t636 true))) else (gangsawlaw31_OffcutServes.j1 kj6 t622 t625 t633 t636 true)) = some r:=H;have A18:=am A180;clear A180;have HC19:=am H;clear H
      go_upto_region 10 with (first|(go_at_call 19;(with_reducible refine (gangsawlaw31_all.calls kj6 _ _ l1 t616 _ ?side1 ?side2 A14.out).mono ?_);(case side1=>exact cq HR1.out HB.out);(case side2=>exact HC1.out);rintro e w20 ⟨v617,rfl,ho0,hb⟩;have HO618:=am (Kd.R_lower ho0 (sz HB));replace HB:=bsa HB hb;(try clear hb);(try clear ho0);obtain ⟨Ao21,co21,eo21⟩ := Kd.R_slice HO618.out;subst eo21)|(go_at_call 18;(with_reducible refine (offcut_Serve.calls kj6 (fun k_=>k_ < w.heap.size) _ _ l0 _ _ t616 a2 a3 t619 t622 t625 t628 _ ?side1 ?side2 ?side3 A15.out).mono ?_);(case side1=>exact Kd.V_mk HC0.out (Kd.F_below (Kd.C_F k39_heap HR0.out) (bh HB)));(case side2=>exact cr (Kd.R_reads' HO618.out).2.2);(case side3=>exact (Kd.R_reads' HO618.out).2.1);rintro e w22 ⟨v620,v623,v626,rfl,ho0,ho1,ho2,hb⟩;have HO621:=lw ho0 HB;have HO624:=lw ho1 HB;have HO627:=lw ho2 HB;replace HO618:=rba HO618 hb;replace HB:=bsa HB hb;(try clear hb);(try clear ho0);(try clear ho1);(try clear ho2))|(go_at_call 31;(with_reducible refine (gangsawref31_Taking.calls kj6 _ _ l0 _ _ l1 a2 a3 t629 _ ?side1 ?side2 ?side3 ?side4 A16.out).mono ?_);(case side1=>exact cq HR0.out HB.out);(case side2=>exact HC0.out);(case side3=>exact cq HR1.out HB.out);(case side4=>exact HC1.out);rintro e w23 ⟨rfl,hb⟩;replace HO618:=rba HO618 hb;replace HO621:=rba HO621 hb;replace HO624:=rba HO624 hb;replace HO627:=rba HO627 hb;replace HB:=bsa HB hb;(try clear hb))|(go_at_call 33;(with_reducible refine (gangsawref31_Serve.calls kj6 (fun k_=>k_ < w.heap.size) _ _ l0 _ _ l1 a2 a3 t630 t633 t636 t639 _ ?side1 ?side2 ?side3 A18.out).mono ?_);(case side1=>exact Kd.V_mk HC0.out (Kd.F_below (Kd.C_F k39_heap HR0.out) (bh HB)));(case side2=>exact cq HR1.out HB.out);(case side3=>exact HC1.out);rintro e w24 ⟨v631,v634,v637,rfl,ho0,ho1,ho2,hb⟩;have HO632:=am (Kd.V_lower (Kd.V_mono (ok':=fun k_=>some k_ ≠ (v634 : Value).ownBlock ∧ some k_ ≠ (v637 : Value).ownBlock ∧ some k_ ≠ (.slice Ao21 t616.length co21 : Value).ownBlock ∧ some k_ ≠ (v620 : Value).ownBlock ∧ some k_ ≠ (v623 : Value).ownBlock ∧ some k_ ≠ (v626 : Value).ownBlock) ho0 (fun k_ hk_=>⟨hk_.2.1,hk_.2.2,Or.elim hk_.1 (fun hs_=>fun e_=>Nat.not_le.2 hs_ (Kd.R_base HO618.out k_ e_.symm)) (fun hn_=>(Kd.fresh' (Kd.R_lt (rq HO618.out)) k_ hn_)),Or.elim hk_.1 (fun hs_=>fun e_=>Nat.not_le.2 hs_ (Kd.R_base HO621.out k_ e_.symm)) (fun hn_=>(Kd.fresh' (Kd.R_lt (rq HO621.out)) k_ hn_)),Or.elim hk_.1 (fun hs_=>fun e_=>Nat.not_le.2 hs_ (Kd.R_base HO624.out k_ e_.symm)) (fun hn_=>(Kd.fresh' (Kd.R_lt (rq HO624.out)) k_ hn_)),Or.elim hk_.1 (fun hs_=>fun e_=>Nat.not_le.2 hs_ (Kd.R_base HO627.out k_ e_.symm)) (fun hn_=>(Kd.fresh' (Kd.R_lt (rq HO627.out)) k_ hn_))⟩)) (sz HB));have HO635:=lw ho1 HB;have HO638:=am (Kd.R_lower (Kd.R_new' (Kd.R_mono (ok':=fun k_=>True) ho2 (fun _ hk_=>trivial)) (Kd.R_lt (rq HO627.out))) (sz HB));replace HO618:=rba HO618 hb;replace HO621:=rba HO621 hb;replace HO624:=rba HO624 hb;replace HO627:=am (Kd.R_elder' (rq HO627.out) (Kd.R_base ho2) hb);replace HB:=bsa HB hb;(try clear hb);(try clear ho0);(try clear ho1);(try clear ho2)))
      repeat (go_quiet (first|(go_at_call 19;(with_reducible refine (gangsawlaw31_all.calls kj6 _ _ l1 t616 _ ?side1 ?side2 A14.out).mono ?_);(case side1=>exact cq HR1.out HB.out);(case side2=>exact HC1.out);rintro e w20 ⟨v617,rfl,ho0,hb⟩;have HO618:=am (Kd.R_lower ho0 (sz HB));replace HB:=bsa HB hb;(try clear hb);(try clear ho0);obtain ⟨Ao21,co21,eo21⟩ := Kd.R_slice HO618.out;subst eo21)|(go_at_call 18;(with_reducible refine (offcut_Serve.calls kj6 (fun k_=>k_ < w.heap.size) _ _ l0 _ _ t616 a2 a3 t619 t622 t625 t628 _ ?side1 ?side2 ?side3 A15.out).mono ?_);(case side1=>exact Kd.V_mk HC0.out (Kd.F_below (Kd.C_F k39_heap HR0.out) (bh HB)));(case side2=>exact cr (Kd.R_reads' HO618.out).2.2);(case side3=>exact (Kd.R_reads' HO618.out).2.1);rintro e w22 ⟨v620,v623,v626,rfl,ho0,ho1,ho2,hb⟩;have HO621:=lw ho0 HB;have HO624:=lw ho1 HB;have HO627:=lw ho2 HB;replace HO618:=rba HO618 hb;replace HB:=bsa HB hb;(try clear hb);(try clear ho0);(try clear ho1);(try clear ho2))|(go_at_call 31;(with_reducible refine (gangsawref31_Taking.calls kj6 _ _ l0 _ _ l1 a2 a3 t629 _ ?side1 ?side2 ?side3 ?side4 A16.out).mono ?_);(case side1=>exact cq HR0.out HB.out);(case side2=>exact HC0.out);(case side3=>exact cq HR1.out HB.out);(case side4=>exact HC1.out);rintro e w23 ⟨rfl,hb⟩;replace HO618:=rba HO618 hb;replace HO621:=rba HO621 hb;replace HO624:=rba HO624 hb;replace HO627:=rba HO627 hb;replace HB:=bsa HB hb;(try clear hb))|(go_at_call 33;(with_reducible refine (gangsawref31_Serve.calls kj6 (fun k_=>k_ < w.heap.size) _ _ l0 _ _ l1 a2 a3 t630 t633 t636 t639 _ ?side1 ?side2 ?side3 A18.out).mono ?_);(case side1=>exact Kd.V_mk HC0.out (Kd.F_below (Kd.C_F k39_heap HR0.out) (bh HB)));(case side2=>exact cq HR1.out HB.out);(case side3=>exact HC1.out);rintro e w24 ⟨v631,v634,v637,rfl,ho0,ho1,ho2,hb⟩;have HO632:=am (Kd.V_lower (Kd.V_mono (ok':=fun k_=>some k_ ≠ (v634 : Value).ownBlock ∧ some k_ ≠ (v637 : Value).ownBlock ∧ some k_ ≠ (.slice Ao21 t616.length co21 : Value).ownBlock ∧ some k_ ≠ (v620 : Value).ownBlock ∧ some k_ ≠ (v623 : Value).ownBlock ∧ some k_ ≠ (v626 : Value).ownBlock) ho0 (fun k_ hk_=>⟨hk_.2.1,hk_.2.2,Or.elim hk_.1 (fun hs_=>fun e_=>Nat.not_le.2 hs_ (Kd.R_base HO618.out k_ e_.symm)) (fun hn_=>(Kd.fresh' (Kd.R_lt (rq HO618.out)) k_ hn_)),Or.elim hk_.1 (fun hs_=>fun e_=>Nat.not_le.2 hs_ (Kd.R_base HO621.out k_ e_.symm)) (fun hn_=>(Kd.fresh' (Kd.R_lt (rq HO621.out)) k_ hn_)),Or.elim hk_.1 (fun hs_=>fun e_=>Nat.not_le.2 hs_ (Kd.R_base HO624.out k_ e_.symm)) (fun hn_=>(Kd.fresh' (Kd.R_lt (rq HO624.out)) k_ hn_)),Or.elim hk_.1 (fun hs_=>fun e_=>Nat.not_le.2 hs_ (Kd.R_base HO627.out k_ e_.symm)) (fun hn_=>(Kd.fresh' (Kd.R_lt (rq HO627.out)) k_ hn_))⟩)) (sz HB));have HO635:=lw ho1 HB;have HO638:=am (Kd.R_lower (Kd.R_new' (Kd.R_mono (ok':=fun k_=>True) ho2 (fun _ hk_=>trivial)) (Kd.R_lt (rq HO627.out))) (sz HB));replace HO618:=rba HO618 hb;replace HO621:=rba HO621 hb;replace HO624:=rba HO624 hb;replace HO627:=am (Kd.R_elder' (rq HO627.out) (Kd.R_base ho2) hb);replace HB:=bsa HB hb;(try clear hb);(try clear ho0);(try clear ho1);(try clear ho2)));go_upto_region 10 with (first|(go_at_call 19;(with_reducible refine (gangsawlaw31_all.calls kj6 _ _ l1 t616 _ ?side1 ?side2 A14.out).mono ?_);(case side1=>exact cq HR1.out HB.out);(case side2=>exact HC1.out);rintro e w20 ⟨v617,rfl,ho0,hb⟩;have HO618:=am (Kd.R_lower ho0 (sz HB));replace HB:=bsa HB hb;(try clear hb);(try clear ho0);obtain ⟨Ao21,co21,eo21⟩ := Kd.R_slice HO618.out;subst eo21)|(go_at_call 18;(with_reducible refine (offcut_Serve.calls kj6 (fun k_=>k_ < w.heap.size) _ _ l0 _ _ t616 a2 a3 t619 t622 t625 t628 _ ?side1 ?side2 ?side3 A15.out).mono ?_);(case side1=>exact Kd.V_mk HC0.out (Kd.F_below (Kd.C_F k39_heap HR0.out) (bh HB)));(case side2=>exact cr (Kd.R_reads' HO618.out).2.2);(case side3=>exact (Kd.R_reads' HO618.out).2.1);rintro e w22 ⟨v620,v623,v626,rfl,ho0,ho1,ho2,hb⟩;have HO621:=lw ho0 HB;have HO624:=lw ho1 HB;have HO627:=lw ho2 HB;replace HO618:=rba HO618 hb;replace HB:=bsa HB hb;(try clear hb);(try clear ho0);(try clear ho1);(try clear ho2))|(go_at_call 31;(with_reducible refine (gangsawref31_Taking.calls kj6 _ _ l0 _ _ l1 a2 a3 t629 _ ?side1 ?side2 ?side3 ?side4 A16.out).mono ?_);(case side1=>exact cq HR0.out HB.out);(case side2=>exact HC0.out);(case side3=>exact cq HR1.out HB.out);(case side4=>exact HC1.out);rintro e w23 ⟨rfl,hb⟩;replace HO618:=rba HO618 hb;replace HO621:=rba HO621 hb;replace HO624:=rba HO624 hb;replace HO627:=rba HO627 hb;replace HB:=bsa HB hb;(try clear hb))|(go_at_call 33;(with_reducible refine (gangsawref31_Serve.calls kj6 (fun k_=>k_ < w.heap.size) _ _ l0 _ _ l1 a2 a3 t630 t633 t636 t639 _ ?side1 ?side2 ?side3 A18.out).mono ?_);(case side1=>exact Kd.V_mk HC0.out (Kd.F_below (Kd.C_F k39_heap HR0.out) (bh HB)));(case side2=>exact cq HR1.out HB.out);(case side3=>exact HC1.out);rintro e w24 ⟨v631,v634,v637,rfl,ho0,ho1,ho2,hb⟩;have HO632:=am (Kd.V_lower (Kd.V_mono (ok':=fun k_=>some k_ ≠ (v634 : Value).ownBlock ∧ some k_ ≠ (v637 : Value).ownBlock ∧ some k_ ≠ (.slice Ao21 t616.length co21 : Value).ownBlock ∧ some k_ ≠ (v620 : Value).ownBlock ∧ some k_ ≠ (v623 : Value).ownBlock ∧ some k_ ≠ (v626 : Value).ownBlock) ho0 (fun k_ hk_=>⟨hk_.2.1,hk_.2.2,Or.elim hk_.1 (fun hs_=>fun e_=>Nat.not_le.2 hs_ (Kd.R_base HO618.out k_ e_.symm)) (fun hn_=>(Kd.fresh' (Kd.R_lt (rq HO618.out)) k_ hn_)),Or.elim hk_.1 (fun hs_=>fun e_=>Nat.not_le.2 hs_ (Kd.R_base HO621.out k_ e_.symm)) (fun hn_=>(Kd.fresh' (Kd.R_lt (rq HO621.out)) k_ hn_)),Or.elim hk_.1 (fun hs_=>fun e_=>Nat.not_le.2 hs_ (Kd.R_base HO624.out k_ e_.symm)) (fun hn_=>(Kd.fresh' (Kd.R_lt (rq HO624.out)) k_ hn_)),Or.elim hk_.1 (fun hs_=>fun e_=>Nat.not_le.2 hs_ (Kd.R_base HO627.out k_ e_.symm)) (fun hn_=>(Kd.fresh' (Kd.R_lt (rq HO627.out)) k_ hn_))⟩)) (sz HB));have HO635:=lw ho1 HB;have HO638:=am (Kd.R_lower (Kd.R_new' (Kd.R_mono (ok':=fun k_=>True) ho2 (fun _ hk_=>trivial)) (Kd.R_lt (rq HO627.out))) (sz HB));replace HO618:=rba HO618 hb;replace HO621:=rba HO621 hb;replace HO624:=rba HO624 hb;replace HO627:=am (Kd.R_elder' (rq HO627.out) (Kd.R_base ho2) hb);replace HB:=bsa HB hb;(try clear hb);(try clear ho0);(try clear ho1);(try clear ho2))))
      (try simp only [Act.put,sA,s0,sS])
      go_cut [103] (fun v103 wc=>∃ (kq : Nat) (x103_18 : Bool),v103 = .bool x103_18 ∧ Aside0 (gangsawlaw31_OffcutServes.j1 kq t622 t625 t633 t636 x103_18 = some r) ∧ Aside0 (kq ≤ kj6) ∧ Aside0 (Kd.R k32 32 wc w.heap.size (fun _=>True) v623 t622) ∧ Aside0 (Kd.R Kd.string 9 wc w.heap.size (fun k_=>some k_ ≠ (v637 : Value).ownBlock) v626 t625) ∧ Aside0 (Kd.R k71 71 wc w.heap.size (fun _=>True) v634 t633) ∧ Aside0 (Kd.R Kd.string 9 wc w.heap.size (fun k_=>some k_ ≠ (v626 : Value).ownBlock) v637 t636) ∧ Aside0 (Below w.heap.size w wc))
      case first =>
       have H:=HC19.out;clear HC19;by_cases c25 : t628 = t639
       ·rw [if_pos c25] at H;have c25b0 : (t628 == t639) = true:=beq_iff_eq.mpr c25;have c25b1 : (t628 != t639) = false:=bne_eq_false_iff_eq.mpr c25;clear c25;(first|rw [c25b0]|(simp only [i64_w,i32_w];rw [c25b0])|skip)
        replace H:=Option.bind_eq_some_iff.mp H;obtain ⟨t640,A260,H⟩ := H;replace H : (if t640 = true then (if (t622.length : Int) = (t633.length : Int) then (gangsawlaw31_OffcutServes.j1 kj6 t622 t625 t633 t636 ((t625.length : Int) != (t636.length : Int))) else (gangsawlaw31_OffcutServes.j1 kj6 t622 t625 t633 t636 true)) else (gangsawlaw31_OffcutServes.j1 kj6 t622 t625 t633 t636 true)) = some r:=H;have A26:=am A260;clear A260;by_cases c27 : t640 = true
        ·subst c27
         have H1 : (if (t622.length : Int) = (t633.length : Int) then (gangsawlaw31_OffcutServes.j1 kj6 t622 t625 t633 t636 ((t625.length : Int) != (t636.length : Int))) else (gangsawlaw31_OffcutServes.j1 kj6 t622 t625 t633 t636 true)) = some r:=by rw [if_pos rfl] at H;exact H
         clear H;have H:=H1;clear H1;by_cases c28 : (t622.length : Int) = (t633.length : Int)
         ·rw [if_pos c28] at H;have c28b0 : ((t622.length : Int) == (t633.length : Int)) = true:=beq_iff_eq.mpr c28;have c28b1 : ((t622.length : Int) != (t633.length : Int)) = false:=bne_eq_false_iff_eq.mpr c28
          have c28b2 : (t622.length == t633.length) = true:=by first|simpa using c28|(simp at c28 ⊢;omega)
          clear c28;have H':=am H;clear H;obtain ⟨Ao29,co29,eo29⟩ := Kd.R_slice HO621.out;subst eo29;obtain ⟨Ao30,co30,eo30⟩ := Kd.V_slice HO632.out;subst eo30
          go_wp2_with (first|(go_at_call 28;(with_reducible refine (gangsawref31_Same.calls kj6 _ _ t619 _ _ t630 true _ ?side1 ?side2 ?side3 ?side4 A26.out).mono ?_);(case side1=>exact cr (Kd.R_reads' HO621.out).2.2);(case side2=>exact (Kd.R_reads' HO621.out).2.1);(case side3=>exact cr (Kd.V_reads' HO632.out).2.2);(case side4=>exact (Kd.V_reads' HO632.out).2.1);rintro e w' ⟨rfl,⟨nd,rfl⟩⟩;(try first|exact ⟨rfl,_,World.drewN_drewN ..⟩|exact ⟨rfl,_,dm⟩);obtain ⟨Ao31,co31,eo31⟩ := Kd.R_slice HO624.out;subst eo31;obtain ⟨Ao32,co32,eo32⟩ := Kd.R_slice HO635.out;subst eo32;obtain ⟨Ao33,co33,eo33⟩ := Kd.R_slice HO627.out;subst eo33;obtain ⟨Ao34,co34,eo34⟩ := Kd.R_slice HO638.out;subst eo34))
          repeat (go_quiet (first|(go_at_call 28;(with_reducible refine (gangsawref31_Same.calls kj6 _ _ t619 _ _ t630 true _ ?side1 ?side2 ?side3 ?side4 A26.out).mono ?_);(case side1=>exact cr (Kd.R_reads' HO621.out).2.2);(case side2=>exact (Kd.R_reads' HO621.out).2.1);(case side3=>exact cr (Kd.V_reads' HO632.out).2.2);(case side4=>exact (Kd.V_reads' HO632.out).2.1);rintro e w' ⟨rfl,⟨nd,rfl⟩⟩;(try first|exact ⟨rfl,_,World.drewN_drewN ..⟩|exact ⟨rfl,_,dm⟩);obtain ⟨Ao31,co31,eo31⟩ := Kd.R_slice HO624.out;subst eo31;obtain ⟨Ao32,co32,eo32⟩ := Kd.R_slice HO635.out;subst eo32;obtain ⟨Ao33,co33,eo33⟩ := Kd.R_slice HO627.out;subst eo33;obtain ⟨Ao34,co34,eo34⟩ := Kd.R_slice HO638.out;subst eo34));try go_wp2_with (first|(go_at_call 28;(with_reducible refine (gangsawref31_Same.calls kj6 _ _ t619 _ _ t630 true _ ?side1 ?side2 ?side3 ?side4 A26.out).mono ?_);(case side1=>exact cr (Kd.R_reads' HO621.out).2.2);(case side2=>exact (Kd.R_reads' HO621.out).2.1);(case side3=>exact cr (Kd.V_reads' HO632.out).2.2);(case side4=>exact (Kd.V_reads' HO632.out).2.1);rintro e w' ⟨rfl,⟨nd,rfl⟩⟩;(try first|exact ⟨rfl,_,World.drewN_drewN ..⟩|exact ⟨rfl,_,dm⟩);obtain ⟨Ao31,co31,eo31⟩ := Kd.R_slice HO624.out;subst eo31;obtain ⟨Ao32,co32,eo32⟩ := Kd.R_slice HO635.out;subst eo32;obtain ⟨Ao33,co33,eo33⟩ := Kd.R_slice HO627.out;subst eo33;obtain ⟨Ao34,co34,eo34⟩ := Kd.R_slice HO638.out;subst eo34)))
          go_meet
          case rel=>exact ⟨_,(((t625.length : Int) != (t636.length : Int))),(by first|rfl|(simp;done)|(simp [*];done)),H',⟨by have:=HJ6.out;first|omega|exact Nat.le_refl _⟩,⟨rq HO624.out⟩,⟨by (with_reducible repeat (first|apply rA|apply rN|apply rD));exact Kd.R_mono HO627.out (fun _ hk=>hk.2)⟩,⟨rq HO635.out⟩,⟨by (with_reducible repeat (first|apply rA|apply rN|apply rD));exact Kd.R_mono HO638.out (fun _ hk=>hk.2)⟩,⟨bh HB⟩⟩
         ·rw [if_neg c28] at H;have c28b0 : ((t622.length : Int) == (t633.length : Int)) = false:=beq_eq_false_iff_ne.mpr c28;have c28b1 : ((t622.length : Int) != (t633.length : Int)) = true:=bne_iff_ne.mpr c28
          have c28b2 : (t622.length == t633.length) = false:=by first|simpa using c28|(simp at c28 ⊢;omega)
          have H':=am H;clear H;obtain ⟨Ao35,co35,eo35⟩ := Kd.R_slice HO621.out;subst eo35;obtain ⟨Ao36,co36,eo36⟩ := Kd.V_slice HO632.out;subst eo36
          go_wp2_with (first|(go_at_call 28;(with_reducible refine (gangsawref31_Same.calls kj6 _ _ t619 _ _ t630 true _ ?side1 ?side2 ?side3 ?side4 A26.out).mono ?_);(case side1=>exact cr (Kd.R_reads' HO621.out).2.2);(case side2=>exact (Kd.R_reads' HO621.out).2.1);(case side3=>exact cr (Kd.V_reads' HO632.out).2.2);(case side4=>exact (Kd.V_reads' HO632.out).2.1);rintro e w' ⟨rfl,⟨nd,rfl⟩⟩;(try first|exact ⟨rfl,_,World.drewN_drewN ..⟩|exact ⟨rfl,_,dm⟩);obtain ⟨Ao37,co37,eo37⟩ := Kd.R_slice HO624.out;subst eo37;obtain ⟨Ao38,co38,eo38⟩ := Kd.R_slice HO635.out;subst eo38))
          repeat (go_quiet (first|(go_at_call 28;(with_reducible refine (gangsawref31_Same.calls kj6 _ _ t619 _ _ t630 true _ ?side1 ?side2 ?side3 ?side4 A26.out).mono ?_);(case side1=>exact cr (Kd.R_reads' HO621.out).2.2);(case side2=>exact (Kd.R_reads' HO621.out).2.1);(case side3=>exact cr (Kd.V_reads' HO632.out).2.2);(case side4=>exact (Kd.V_reads' HO632.out).2.1);rintro e w' ⟨rfl,⟨nd,rfl⟩⟩;(try first|exact ⟨rfl,_,World.drewN_drewN ..⟩|exact ⟨rfl,_,dm⟩);obtain ⟨Ao37,co37,eo37⟩ := Kd.R_slice HO624.out;subst eo37;obtain ⟨Ao38,co38,eo38⟩ := Kd.R_slice HO635.out;subst eo38));try go_wp2_with (first|(go_at_call 28;(with_reducible refine (gangsawref31_Same.calls kj6 _ _ t619 _ _ t630 true _ ?side1 ?side2 ?side3 ?side4 A26.out).mono ?_);(case side1=>exact cr (Kd.R_reads' HO621.out).2.2);(case side2=>exact (Kd.R_reads' HO621.out).2.1);(case side3=>exact cr (Kd.V_reads' HO632.out).2.2);(case side4=>exact (Kd.V_reads' HO632.out).2.1);rintro e w' ⟨rfl,⟨nd,rfl⟩⟩;(try first|exact ⟨rfl,_,World.drewN_drewN ..⟩|exact ⟨rfl,_,dm⟩);obtain ⟨Ao37,co37,eo37⟩ := Kd.R_slice HO624.out;subst eo37;obtain ⟨Ao38,co38,eo38⟩ := Kd.R_slice HO635.out;subst eo38)))
          go_meet
          case rel=>exact ⟨_,(true),(by first|rfl|(simp;done)|(simp [*];done)),H',⟨by have:=HJ6.out;first|omega|exact Nat.le_refl _⟩,⟨rq HO624.out⟩,⟨by (with_reducible repeat (first|apply rA|apply rN|apply rD));exact Kd.R_mono HO627.out (fun _ hk=>hk.2)⟩,⟨rq HO635.out⟩,⟨by (with_reducible repeat (first|apply rA|apply rN|apply rD));exact Kd.R_mono HO638.out (fun _ hk=>hk.2)⟩,⟨bh HB⟩⟩
        ·replace c27:=Bool.eq_false_iff.mpr c27;subst c27
         have H1 : (gangsawlaw31_OffcutServes.j1 kj6 t622 t625 t633 t636 true) = some r:=by rw [if_neg (show ¬ (false = true) by decide)] at H;exact H
         clear H;have H:=H1;clear H1;have H':=am H;clear H;obtain ⟨Ao39,co39,eo39⟩ := Kd.R_slice HO621.out;subst eo39;obtain ⟨Ao40,co40,eo40⟩ := Kd.V_slice HO632.out;subst eo40
         go_wp2_with (first|(go_at_call 28;(with_reducible refine (gangsawref31_Same.calls kj6 _ _ t619 _ _ t630 false _ ?side1 ?side2 ?side3 ?side4 A26.out).mono ?_);(case side1=>exact cr (Kd.R_reads' HO621.out).2.2);(case side2=>exact (Kd.R_reads' HO621.out).2.1);(case side3=>exact cr (Kd.V_reads' HO632.out).2.2);(case side4=>exact (Kd.V_reads' HO632.out).2.1);rintro e w' ⟨rfl,⟨nd,rfl⟩⟩;(try first|exact ⟨rfl,_,World.drewN_drewN ..⟩|exact ⟨rfl,_,dm⟩)))
         repeat (go_quiet (first|(go_at_call 28;(with_reducible refine (gangsawref31_Same.calls kj6 _ _ t619 _ _ t630 false _ ?side1 ?side2 ?side3 ?side4 A26.out).mono ?_);(case side1=>exact cr (Kd.R_reads' HO621.out).2.2);(case side2=>exact (Kd.R_reads' HO621.out).2.1);(case side3=>exact cr (Kd.V_reads' HO632.out).2.2);(case side4=>exact (Kd.V_reads' HO632.out).2.1);rintro e w' ⟨rfl,⟨nd,rfl⟩⟩;(try first|exact ⟨rfl,_,World.drewN_drewN ..⟩|exact ⟨rfl,_,dm⟩)));try go_wp2_with (first|(go_at_call 28;(with_reducible refine (gangsawref31_Same.calls kj6 _ _ t619 _ _ t630 false _ ?side1 ?side2 ?side3 ?side4 A26.out).mono ?_);(case side1=>exact cr (Kd.R_reads' HO621.out).2.2);(case side2=>exact (Kd.R_reads' HO621.out).2.1);(case side3=>exact cr (Kd.V_reads' HO632.out).2.2);(case side4=>exact (Kd.V_reads' HO632.out).2.1);rintro e w' ⟨rfl,⟨nd,rfl⟩⟩;(try first|exact ⟨rfl,_,World.drewN_drewN ..⟩|exact ⟨rfl,_,dm⟩))))
         go_meet
         case rel=>exact ⟨_,(true),(by first|rfl|(simp;done)|(simp [*];done)),H',⟨by have:=HJ6.out;first|omega|exact Nat.le_refl _⟩,⟨rq HO624.out⟩,⟨by (with_reducible repeat (first|apply rA|apply rN|apply rD));exact Kd.R_mono HO627.out (fun _ hk=>hk.2)⟩,⟨rq HO635.out⟩,⟨by (with_reducible repeat (first|apply rA|apply rN|apply rD));exact Kd.R_mono HO638.out (fun _ hk=>hk.2)⟩,⟨bh HB⟩⟩
       ·rw [if_neg c25] at H;have c25b0 : (t628 == t639) = false:=beq_eq_false_iff_ne.mpr c25;have c25b1 : (t628 != t639) = true:=bne_iff_ne.mpr c25;(first|rw [c25b0]|(simp only [i64_w,i32_w];rw [c25b0])|skip);have H':=am H;clear H
        go_wp2
        repeat (go_quiet (fail);try go_wp2)
        go_meet
        case rel=>exact ⟨_,(true),(by first|rfl|(simp;done)|(simp [*];done)),H',⟨by have:=HJ6.out;first|omega|exact Nat.le_refl _⟩,⟨rq HO624.out⟩,⟨by (with_reducible repeat (first|apply rA|apply rN|apply rD));exact Kd.R_mono HO627.out (fun _ hk=>hk.2)⟩,⟨rq HO635.out⟩,⟨by (with_reducible repeat (first|apply rA|apply rN|apply rD));exact Kd.R_mono HO638.out (fun _ hk=>hk.2)⟩,⟨bh HB⟩⟩
      case rest =>
       clear HC19
       try clear c1
       try clear c2
       try clear p2
       try clear c6
       try clear c9
       try clear c10
       try clear c12
       try clear c13
       try clear c17
       try clear c17b0
       try clear c17b1
       try clear c25
       try clear c25b0
       try clear c25b1
       try clear c27
       try clear c28
       try clear c28b0
       try clear c28b1
       try clear c28b2
       try clear p2
       obtain ⟨kq,x103_18,rfl,HA,HJ18,HO_10,HO_11,HO_15,HO_16,HB⟩ := hcut
       cases kq with
       | zero=>exact absurd HA.out (by simp [gangsawlaw31_OffcutServes.j1])
       | succ kj18 =>
        have H:=HA.out;clear HA;simp only [gangsawlaw31_OffcutServes.j1] at H;by_cases c41 : x103_18 = true
        ·subst c41
         have H1 : (none) = some r:=by rw [if_pos rfl] at H;exact H
         clear H;have H:=H1;clear H1;exact absurd H (by simp)
        ·replace c41:=Bool.eq_false_iff.mpr c41;subst c41
         have H1 : (gangsawlaw31_OffcutServes.l0 kj18 t622 t625 t633 t636 0) = some r:=by rw [if_neg (show ¬ (false = true) by decide)] at H;exact H
         clear H;have H:=H1;clear H1;have H':=am H;clear H
         go_wp2
         repeat (go_quiet (fail);try go_wp2)
         go_loopg [18] kj18 (fun kq v18 w'=>∃ (x18_3 : Int),v18 = .int .i64 x18_3 ∧ Aside0 (gangsawlaw31_OffcutServes.l0 kq t622 t625 t633 t636 x18_3 = some r) ∧ Aside0 (kq ≤ kj18) ∧ Aside0 (Kd.R k32 32 w' w.heap.size (fun _=>True) v623 t622) ∧ Aside0 (Kd.R Kd.string 9 w' w.heap.size (fun k_=>some k_ ≠ (v637 : Value).ownBlock) v626 t625) ∧ Aside0 (Kd.R k71 71 w' w.heap.size (fun _=>True) v634 t633) ∧ Aside0 (Kd.R Kd.string 9 w' w.heap.size (fun k_=>some k_ ≠ (v626 : Value).ownBlock) v637 t636) ∧ Aside0 (Below w.heap.size w w'))
         case atStart=>exact ⟨(0),(by first|rfl|(simp;done)|(simp [*];done)),H',⟨Nat.le_refl _⟩,⟨rq HO_10.out⟩,⟨rq HO_11.out⟩,⟨rq HO_15.out⟩,⟨rq HO_16.out⟩,⟨bh HB⟩⟩
         case round =>
          clear H'
          try clear c1
          try clear c2
          try clear p2
          try clear c4
          try clear c6
          try clear c9
          try clear c10
          try clear c12
          try clear c13
          try clear c17
          try clear c17b0
          try clear c17b1
          try clear c25
          try clear c25b0
          try clear c25b1
          try clear c27
          try clear c28
          try clear c28b0
          try clear c28b1
          try clear c28b2
          try clear c41
          try clear p2
          obtain ⟨x18_3,rfl,HA,HK3,HO_10,HO_11,HO_15,HO_16,HB⟩ := hrel
          cases gk with
          | zero=>exact absurd HA.out (by simp [gangsawlaw31_OffcutServes.l0])
          | succ k3 =>
           have H:=HA.out;clear HA;simp only [gangsawlaw31_OffcutServes.l0] at H;by_cases c42 : x18_3 < (t622.length : Int)
           ·rw [if_pos c42] at H;have c42b0 : decide (x18_3 < (t622.length : Int)) = true:=decide_eq_true c42;clear c42;by_cases c43 : 0 ≤ x18_3
            ·rw [if_pos c43] at H;have c43b0 : decide (0 ≤ x18_3) = true:=decide_eq_true c43;clear c43;by_cases c44 : x18_3 < (t633.length : Int)
             ·rw [if_pos c44] at H;have c44b0 : decide (x18_3 < (t633.length : Int)) = true:=decide_eq_true c44;clear c44;by_cases c45 : (!((((rd_T32 t622 x18_3).f0).toList) == (((rd_T71 t633 x18_3).f0).toList)) || (!((((rd_T32 t622 x18_3).f1).toList) == (((rd_T71 t633 x18_3).f1).toList)) || (!(((rd_T32 t622 x18_3).f2) == ((rd_T71 t633 x18_3).f2))))) = true
              (rw [if_pos c45] at H;exact absurd H (by simp))
              ·rw [if_neg c45] at H
               have c45b0 : (!((((rd_T32 t622 x18_3).f0).toList) == (((rd_T71 t633 x18_3).f0).toList)) || (!((((rd_T32 t622 x18_3).f1).toList) == (((rd_T71 t633 x18_3).f1).toList)) || (!(((rd_T32 t622 x18_3).f2) == ((rd_T71 t633 x18_3).f2))))) = false:=by simpa using c45
               clear c45;have H':=am H;clear H;obtain ⟨Ao46,co46,eo46⟩ := Kd.R_slice HO_10.out;subst eo46;have p641 : 0 ≤ (x18_3 : Int):=dt;have q641 : x18_3 < (t622.length : Int):=dt;obtain ⟨ad641,e641,hx641_0,hx641_1,hx641_2⟩ := at_T32 (Kd.R_reads' HO_10.out).2.2 x18_3 p641 q641
               cases e641
               replace p641:=eq_true p641;replace q641:=eq_true q641;obtain ⟨Ao47,co47,eo47⟩ := Kd.R_slice HO_15.out;subst eo47;have p642 : 0 ≤ (x18_3 : Int):=dt;have q642 : x18_3 < (t633.length : Int):=dt;obtain ⟨ad642,e642,hx642_0,hx642_1,hx642_2⟩ := at_T71 (Kd.R_reads' HO_15.out).2.2 x18_3 p642 q642
               cases e642
               replace p642:=eq_true p642;replace q642:=eq_true q642;have p643 : 0 ≤ (x18_3 : Int):=dt;have q643 : x18_3 < (t633.length : Int):=dt;obtain ⟨ad643,e643,hx643_0,hx643_1,hx643_2⟩ := at_T71 (Kd.R_reads' HO_15.out).2.2 x18_3 p643 q643
               obtain rfl : ad642 = ad643:=(by injection e643)
               replace p643:=eq_true p643;replace q643:=eq_true q643;have p644 : 0 ≤ (x18_3 : Int):=dt;have q644 : x18_3 < (t633.length : Int):=dt;obtain ⟨ad644,e644,hx644_0,hx644_1,hx644_2⟩ := at_T71 (Kd.R_reads' HO_15.out).2.2 x18_3 p644 q644
               obtain rfl : ad642 = ad644:=(by injection e644)
               replace p644:=eq_true p644;replace q644:=eq_true q644
               go_wp2
               repeat (go_quiet (fail);try go_wp2)
               go_roundg k3
               case measure=>have:=HJ6.out;have:=HJ18.out;have:=HK3.out;omega
               case rel=>exact ⟨(wrap64 (x18_3 + 1)),(by first|rfl|(simp;done)|(simp [*];done)),H',⟨by have:=HJ6.out;have:=HJ18.out;have:=HK3.out;omega⟩,⟨rq HO_10.out⟩,⟨rq HO_11.out⟩,⟨rq HO_15.out⟩,⟨rq HO_16.out⟩,⟨bh HB⟩⟩
             (rw [if_neg c44] at H;exact absurd H (by simp))
            (rw [if_neg c43] at H;exact absurd H (by simp))
           ·rw [if_neg c42] at H;have c42b0 : decide (x18_3 < (t622.length : Int)) = false:=decide_eq_false c42;clear c42;have H':=am H;clear H;obtain ⟨Ao48,co48,eo48⟩ := Kd.R_slice HO_10.out;subst eo48
            go_wp2
            repeat (go_quiet (fail);try go_wp2)
            go_loopg [19] k3 (fun kq v19 w'=>∃ (x19_4 : Int),v19 = .int .i64 x19_4 ∧ Aside0 (gangsawlaw31_OffcutServes.l1 kq t625 t636 x19_4 = some r) ∧ Aside0 (kq ≤ k3) ∧ Aside0 (Kd.R Kd.string 9 w' w.heap.size (fun k_=>some k_ ≠ (v637 : Value).ownBlock) v626 t625) ∧ Aside0 (Kd.R Kd.string 9 w' w.heap.size (fun k_=>some k_ ≠ (v626 : Value).ownBlock) v637 t636) ∧ Aside0 (Below w.heap.size w w'))
            case atStart=>exact ⟨(0),(by first|rfl|(simp;done)|(simp [*];done)),H',⟨Nat.le_refl _⟩,⟨rq HO_11.out⟩,⟨rq HO_16.out⟩,⟨bh HB⟩⟩
            case round =>
             clear H'
             try clear c1
             try clear c2
             try clear p2
             try clear c4
             try clear c6
             try clear p6
             try clear q6
             try clear hx6
             try clear c9
             try clear c10
             try clear c12
             try clear c13
             try clear c17
             try clear c17b0
             try clear c17b1
             try clear c25
             try clear c25b0
             try clear c25b1
             try clear c27
             try clear c28
             try clear c28b0
             try clear c28b1
             try clear c28b2
             try clear c41
             try clear c42
             try clear c42b0
             try clear c43
             try clear c43b0
             try clear c44
             try clear c44b0
             try clear c45
             try clear c45b0
             try clear hx641_0
             try clear hx641_1
             try clear hx641_2
             try clear hx642_0
             try clear hx642_1
             try clear hx642_2
             try clear hx643_0
             try clear hx643_1
             try clear hx643_2
             try clear hx644_0
             try clear hx644_1
             try clear hx644_2
             try clear p2
             try clear p641
             try clear p642
             try clear p643
             try clear p644
             try clear q641
             try clear q642
             try clear q643
             try clear q644
             obtain ⟨x19_4,rfl,HA,HK4,HO_11,HO_16,HB⟩ := hrel
             cases gk with
             | zero=>exact absurd HA.out (by simp [gangsawlaw31_OffcutServes.l1])
             | succ k4 =>
              have H:=HA.out;clear HA;simp only [gangsawlaw31_OffcutServes.l1] at H;by_cases c49 : x19_4 < (t625.length : Int)
              ·rw [if_pos c49] at H;have c49b0 : decide (x19_4 < (t625.length : Int)) = true:=decide_eq_true c49;clear c49;by_cases c50 : 0 ≤ x19_4
               ·rw [if_pos c50] at H;have c50b0 : decide (0 ≤ x19_4) = true:=decide_eq_true c50;clear c50;by_cases c51 : x19_4 < (t636.length : Int)
                ·rw [if_pos c51] at H;have c51b0 : decide (x19_4 < (t636.length : Int)) = true:=decide_eq_true c51;clear c51;by_cases c52 : (rdOf ByteArray.empty t625 x19_4).toList = (rdOf ByteArray.empty t636 x19_4).toList
                 ·rw [if_pos c52] at H;have c52b0 : ((rdOf ByteArray.empty t625 x19_4).toList == (rdOf ByteArray.empty t636 x19_4).toList) = true:=beq_iff_eq.mpr c52;have c52b1 : ((rdOf ByteArray.empty t625 x19_4).toList != (rdOf ByteArray.empty t636 x19_4).toList) = false:=bne_eq_false_iff_eq.mpr c52;clear c52;have H':=am H;clear H;obtain ⟨Ao53,co53,eo53⟩ := Kd.R_slice HO_11.out;subst eo53;have p645 : 0 ≤ (x19_4 : Int):=dt;have q645 : x19_4 < (t625.length : Int):=dt;obtain ⟨ad645,e645,hx645_0⟩ := Kd.at_string (Kd.R_reads' HO_11.out).2.2 x19_4 p645 q645
                  cases e645
                  replace p645:=eq_true p645;replace q645:=eq_true q645;obtain ⟨Ao54,co54,eo54⟩ := Kd.R_slice HO_16.out;subst eo54;have p646 : 0 ≤ (x19_4 : Int):=dt;have q646 : x19_4 < (t636.length : Int):=dt;obtain ⟨ad646,e646,hx646_0⟩ := Kd.at_string (Kd.R_reads' HO_16.out).2.2 x19_4 p646 q646
                  cases e646
                  replace p646:=eq_true p646;replace q646:=eq_true q646
                  go_wp2
                  repeat (go_quiet (fail);try go_wp2)
                  go_roundg k4
                  case measure=>have:=HJ6.out;have:=HJ18.out;have:=HK3.out;have:=HK4.out;omega
                  case rel=>exact ⟨(wrap64 (x19_4 + 1)),(by first|rfl|(simp;done)|(simp [*];done)),H',⟨by have:=HJ6.out;have:=HJ18.out;have:=HK3.out;have:=HK4.out;omega⟩,⟨rq HO_11.out⟩,⟨rq HO_16.out⟩,⟨bh HB⟩⟩
                 (rw [if_neg c52] at H;exact absurd H (by simp))
                (rw [if_neg c51] at H;exact absurd H (by simp))
               (rw [if_neg c50] at H;exact absurd H (by simp))
              ·rw [if_neg c49] at H;have c49b0 : decide (x19_4 < (t625.length : Int)) = false:=decide_eq_false c49;clear c49;obtain rfl:=Option.some.inj H;obtain ⟨Ao55,co55,eo55⟩ := Kd.R_slice HO_11.out;subst eo55
               go_wp2
               repeat (go_quiet (fail);try go_wp2)
               go_ret
               exact ⟨by first|rfl|(simp [errW_none,errW_some] <;> rfl)|(simp [*,errW_none,errW_some] <;> rfl),bh HB⟩
     ·rw [if_neg c17] at H;have c17b0 : (t629 == 0) = false:=beq_eq_false_iff_ne.mpr c17;have c17b1 : (t629 != 0) = true:=bne_iff_ne.mpr c17;by_cases c56 : t628 = t629
      ·rw [if_pos c56] at H;have c56b0 : (t628 == t629) = true:=beq_iff_eq.mpr c56;have c56b1 : (t628 != t629) = false:=bne_eq_false_iff_eq.mpr c56;clear c56;by_cases c57 : (t619.length : Int) = 0
       ·rw [if_pos c57] at H;have c57b0 : ((t619.length : Int) == 0) = true:=beq_iff_eq.mpr c57;have c57b1 : ((t619.length : Int) != 0) = false:=bne_eq_false_iff_eq.mpr c57;clear c57;by_cases c58 : (t622.length : Int) = 0
        ·rw [if_pos c58] at H;have c58b0 : ((t622.length : Int) == 0) = true:=beq_iff_eq.mpr c58;have c58b1 : ((t622.length : Int) != 0) = false:=bne_eq_false_iff_eq.mpr c58;clear c58;obtain rfl:=Option.some.inj H
         go_wp2_with (first|(go_at_call 19;(with_reducible refine (gangsawlaw31_all.calls kj6 _ _ l1 t616 _ ?side1 ?side2 A14.out).mono ?_);(case side1=>exact cq HR1.out HB.out);(case side2=>exact HC1.out);rintro e w59 ⟨v617,rfl,ho0,hb⟩;have HO618:=am (Kd.R_lower ho0 (sz HB));replace HB:=bsa HB hb;(try clear hb);(try clear ho0);obtain ⟨Ao60,co60,eo60⟩ := Kd.R_slice HO618.out;subst eo60)|(go_at_call 18;(with_reducible refine (offcut_Serve.calls kj6 (fun k_=>k_ < w.heap.size) _ _ l0 _ _ t616 a2 a3 t619 t622 t625 t628 _ ?side1 ?side2 ?side3 A15.out).mono ?_);(case side1=>exact Kd.V_mk HC0.out (Kd.F_below (Kd.C_F k39_heap HR0.out) (bh HB)));(case side2=>exact cr (Kd.R_reads' HO618.out).2.2);(case side3=>exact (Kd.R_reads' HO618.out).2.1);rintro e w61 ⟨v620,v623,v626,rfl,ho0,ho1,ho2,hb⟩;have HO621:=lw ho0 HB;have HO624:=lw ho1 HB;have HO627:=lw ho2 HB;replace HO618:=rba HO618 hb;replace HB:=bsa HB hb;(try clear hb);(try clear ho0);(try clear ho1);(try clear ho2))|(go_at_call 31;(with_reducible refine (gangsawref31_Taking.calls kj6 _ _ l0 _ _ l1 a2 a3 t629 _ ?side1 ?side2 ?side3 ?side4 A16.out).mono ?_);(case side1=>exact cq HR0.out HB.out);(case side2=>exact HC0.out);(case side3=>exact cq HR1.out HB.out);(case side4=>exact HC1.out);rintro e w62 ⟨rfl,hb⟩;replace HO618:=rba HO618 hb;replace HO621:=rba HO621 hb;replace HO624:=rba HO624 hb;replace HO627:=rba HO627 hb;replace HB:=bsa HB hb;(try clear hb);obtain ⟨Ao63,co63,eo63⟩ := Kd.R_slice HO621.out;subst eo63;obtain ⟨Ao64,co64,eo64⟩ := Kd.R_slice HO624.out;subst eo64;obtain ⟨Ao65,co65,eo65⟩ := Kd.R_slice HO627.out;subst eo65))
         repeat (go_quiet (first|(go_at_call 19;(with_reducible refine (gangsawlaw31_all.calls kj6 _ _ l1 t616 _ ?side1 ?side2 A14.out).mono ?_);(case side1=>exact cq HR1.out HB.out);(case side2=>exact HC1.out);rintro e w59 ⟨v617,rfl,ho0,hb⟩;have HO618:=am (Kd.R_lower ho0 (sz HB));replace HB:=bsa HB hb;(try clear hb);(try clear ho0);obtain ⟨Ao60,co60,eo60⟩ := Kd.R_slice HO618.out;subst eo60)|(go_at_call 18;(with_reducible refine (offcut_Serve.calls kj6 (fun k_=>k_ < w.heap.size) _ _ l0 _ _ t616 a2 a3 t619 t622 t625 t628 _ ?side1 ?side2 ?side3 A15.out).mono ?_);(case side1=>exact Kd.V_mk HC0.out (Kd.F_below (Kd.C_F k39_heap HR0.out) (bh HB)));(case side2=>exact cr (Kd.R_reads' HO618.out).2.2);(case side3=>exact (Kd.R_reads' HO618.out).2.1);rintro e w61 ⟨v620,v623,v626,rfl,ho0,ho1,ho2,hb⟩;have HO621:=lw ho0 HB;have HO624:=lw ho1 HB;have HO627:=lw ho2 HB;replace HO618:=rba HO618 hb;replace HB:=bsa HB hb;(try clear hb);(try clear ho0);(try clear ho1);(try clear ho2))|(go_at_call 31;(with_reducible refine (gangsawref31_Taking.calls kj6 _ _ l0 _ _ l1 a2 a3 t629 _ ?side1 ?side2 ?side3 ?side4 A16.out).mono ?_);(case side1=>exact cq HR0.out HB.out);(case side2=>exact HC0.out);(case side3=>exact cq HR1.out HB.out);(case side4=>exact HC1.out);rintro e w62 ⟨rfl,hb⟩;replace HO618:=rba HO618 hb;replace HO621:=rba HO621 hb;replace HO624:=rba HO624 hb;replace HO627:=rba HO627 hb;replace HB:=bsa HB hb;(try clear hb);obtain ⟨Ao63,co63,eo63⟩ := Kd.R_slice HO621.out;subst eo63;obtain ⟨Ao64,co64,eo64⟩ := Kd.R_slice HO624.out;subst eo64;obtain ⟨Ao65,co65,eo65⟩ := Kd.R_slice HO627.out;subst eo65));try go_wp2_with (first|(go_at_call 19;(with_reducible refine (gangsawlaw31_all.calls kj6 _ _ l1 t616 _ ?side1 ?side2 A14.out).mono ?_);(case side1=>exact cq HR1.out HB.out);(case side2=>exact HC1.out);rintro e w59 ⟨v617,rfl,ho0,hb⟩;have HO618:=am (Kd.R_lower ho0 (sz HB));replace HB:=bsa HB hb;(try clear hb);(try clear ho0);obtain ⟨Ao60,co60,eo60⟩ := Kd.R_slice HO618.out;subst eo60)|(go_at_call 18;(with_reducible refine (offcut_Serve.calls kj6 (fun k_=>k_ < w.heap.size) _ _ l0 _ _ t616 a2 a3 t619 t622 t625 t628 _ ?side1 ?side2 ?side3 A15.out).mono ?_);(case side1=>exact Kd.V_mk HC0.out (Kd.F_below (Kd.C_F k39_heap HR0.out) (bh HB)));(case side2=>exact cr (Kd.R_reads' HO618.out).2.2);(case side3=>exact (Kd.R_reads' HO618.out).2.1);rintro e w61 ⟨v620,v623,v626,rfl,ho0,ho1,ho2,hb⟩;have HO621:=lw ho0 HB;have HO624:=lw ho1 HB;have HO627:=lw ho2 HB;replace HO618:=rba HO618 hb;replace HB:=bsa HB hb;(try clear hb);(try clear ho0);(try clear ho1);(try clear ho2))|(go_at_call 31;(with_reducible refine (gangsawref31_Taking.calls kj6 _ _ l0 _ _ l1 a2 a3 t629 _ ?side1 ?side2 ?side3 ?side4 A16.out).mono ?_);(case side1=>exact cq HR0.out HB.out);(case side2=>exact HC0.out);(case side3=>exact cq HR1.out HB.out);(case side4=>exact HC1.out);rintro e w62 ⟨rfl,hb⟩;replace HO618:=rba HO618 hb;replace HO621:=rba HO621 hb;replace HO624:=rba HO624 hb;replace HO627:=rba HO627 hb;replace HB:=bsa HB hb;(try clear hb);obtain ⟨Ao63,co63,eo63⟩ := Kd.R_slice HO621.out;subst eo63;obtain ⟨Ao64,co64,eo64⟩ := Kd.R_slice HO624.out;subst eo64;obtain ⟨Ao65,co65,eo65⟩ := Kd.R_slice HO627.out;subst eo65)))
         go_ret
         exact ⟨by first|rfl|(simp [errW_none,errW_some] <;> rfl)|(simp [*,errW_none,errW_some] <;> rfl),bh HB⟩
        (rw [if_neg c58] at H;exact absurd H (by simp))
       (rw [if_neg c57] at H;exact absurd H (by simp))
      (rw [if_neg c56] at H;exact absurd H (by simp))
 ·replace c6:=Bool.eq_false_iff.mpr c6;subst c6
  have H1 : (none) = some r:=by rw [if_neg (show ¬ (false = true) by decide)] at H;exact H
  clear H;have H:=H1;clear H1;exact absurd H (by simp)
end Go.Proofs.Ytbggjmdelnmilaa.PA
