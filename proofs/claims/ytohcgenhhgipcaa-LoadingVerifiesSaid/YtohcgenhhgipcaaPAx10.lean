import Derived.Test.YtohcgenhhgipcaaPAx0
namespace Go.Proofs.Ytohcgenhhgipcaa.PA
open Go.RowKit Go.Proofs.YtohcgenhhgipcaaW.PrintWords Go.Proofs.YtohcgenhhgipcaaW.PrintLast Go.Proofs.YtohcgenhhgipcaaW.PrintMore
attribute [local go_sem] max2_int min2_int max_two min_two max_three min_three max_four min_four   -- for this text's walks alone
set_option linter.unusedVariables false
set_option linter.unusedSimpArgs false

def gangsawlaw54_few.f (l0 : List (S65)) : Option (Bool):=if (l0.length : Int) ≤ 12 then (some true) else (if (l0.length : Int) > 64 then (some (decide ((l0.length : Int) ≤ 100))) else (some false))
set_option maxHeartbeats 8000000 in
set_option maxRecDepth 100000 in
theorem gangsawlaw54_few.calls (A0 : Option Addr) (c0 : Nat) (l0 : List (S65)) (r : Bool) (w : World) (hr0 : Kd.C k65 w A0 l0.length l0) (hc0 : l0.length ≤ c0) (h : gangsawlaw54_few.f l0 = some r) :
  Calls Try.prog 11 #[.slice A0 l0.length c0] w fun e w'=>e = .returned (.bool r) ∧ Drawn0 w w':=by
 have HR0:=am hr0;have HC0:=am hc0;clear hr0 hc0;have H : (if (l0.length : Int) ≤ 12 then (some true) else (if (l0.length : Int) > 64 then (some (decide ((l0.length : Int) ≤ 100))) else (some false))) = some r:=h;clear h;by_cases c2 : (l0.length : Int) ≤ 12
 ·rw [if_pos c2] at H;have c2b0 : decide ((l0.length : Int) ≤ 12) = true:=decide_eq_true c2;have c2b1 : decide (l0.length ≤ 12) = true:=decide_eq_true (by omega);clear c2;obtain rfl:=Option.some.inj H
  go_enter Try.func11,Try.ntmps11
  go_wp2
  go_ret
  exact ⟨by first|rfl|(simp;done)|(simp [*];done),by repeat (first|exact Drawn0.refl _|apply Drawn0.step)⟩
 ·rw [if_neg c2] at H;have c2b0 : decide ((l0.length : Int) ≤ 12) = false:=decide_eq_false c2;have c2b1 : decide (l0.length ≤ 12) = false:=decide_eq_false (by omega);clear c2;by_cases c3 : (l0.length : Int) > 64
  ·rw [if_pos c3] at H;have c3b0 : decide (64 < (l0.length : Int)) = true:=decide_eq_true c3;have c3b1 : decide (64 < l0.length) = true:=decide_eq_true (by omega);clear c3;obtain rfl:=Option.some.inj H
   go_enter Try.func11,Try.ntmps11
   go_wp2
   go_ret
   exact ⟨by first|rfl|(simp;done)|(simp [*];done),by repeat (first|exact Drawn0.refl _|apply Drawn0.step)⟩
  ·rw [if_neg c3] at H;have c3b0 : decide (64 < (l0.length : Int)) = false:=decide_eq_false c3;have c3b1 : decide (64 < l0.length) = false:=decide_eq_false (by omega);clear c3;obtain rfl:=Option.some.inj H
   go_enter Try.func11,Try.ntmps11
   go_wp2
   go_ret
   exact ⟨by first|rfl|(simp;done)|(simp [*];done),by repeat (first|exact Drawn0.refl _|apply Drawn0.step)⟩

def gangsawlaw54_ours.l0 : Nat → List (S65) → List (S64) → Int → Option ((List (S64)))
 | 0,_,_,_=>none
 | k + 1,x0,x3,x4=>if x4 < (x0.length : Int) then (if 0 ≤ x4 then (if x3.length < 4398046511104 then (gangsawlaw54_ours.l0 k x0 (x3 ++ [(⟨(rd_T65 x0 x4).f0,(rd_T65 x0 x4).f1,(rd_T65 x0 x4).f2⟩ : S64)]) (wrap64 (x4 + 1))) else (none)) else (none)) else (some x3)
def gangsawlaw54_ours.f (k : Nat) (l0 : List (S65)) : Option ((List (S64))):=gangsawlaw54_ours.l0 k l0 ([] : List (S64)) 0
set_option maxHeartbeats 8000000 in
set_option maxRecDepth 100000 in
theorem gangsawlaw54_ours.calls (k : Nat) (A0 : Option Addr) (c0 : Nat) (l0 : List (S65)) (r : List (S64)) (w : World) (hr0 : Kd.C k65 w A0 l0.length l0) (hc0 : l0.length ≤ c0) (h : gangsawlaw54_ours.f k l0 = some r) :
  Calls Try.prog 13 #[.slice A0 l0.length c0] w fun e w'=>∃ v0_ : Value,e = .returned (v0_) ∧ Kd.R k64 64 w' w.heap.size (fun _=>True) v0_ r ∧ Below w.heap.size w w':=by
 have hu65:=Try.underlying65;have HR0:=am hr0;have HC0:=am hc0;clear hr0 hc0;have HB:=am (Below.refl w.heap.size w);have H : (gangsawlaw54_ours.l0 k l0 ([] : List (S64)) 0) = some r:=h;clear h;have H':=am H;clear H
 go_enter Try.func13,Try.ntmps13
 go_wp2
 go_loopg [3,4] k (fun kq v3 v4 w'=>∃ (x3_1 : List (S64)) (x4_1 : Int),v4 = .int .i64 x4_1 ∧ Aside0 (gangsawlaw54_ours.l0 kq l0 x3_1 x4_1 = some r) ∧ Aside0 (kq ≤ k) ∧ Aside0 (Kd.R k64 64 w' w.heap.size (fun _=>True) v3 x3_1) ∧ Aside0 (Below w.heap.size w w'))
 case atStart=>exact ⟨(([] : List (S64))),(0),(by first|rfl|(simp;done)|(simp [*];done)),H',⟨Nat.le_refl _⟩,⟨by first|exact Kd.R_nil _ _ _ _ _|exact Kd.N_nil _ _ _ _ _|exact Kd.V_nil _ _ _ _ _|exact Kd.Q_nil _ _ _ _ _|exact Kd.S_nil _ _ _ _ _⟩,⟨by repeat (first|(with_reducible first|exact HB.out|apply lA|apply lN|apply lD)|exact HB.out)⟩⟩
 case round =>
  clear H'
  try clear c1
  obtain ⟨x3_1,x4_1,rfl,HA,HK1,HO_3,HB⟩ := hrel
  cases gk with
  | zero=>exact absurd HA.out (by simp [gangsawlaw54_ours.l0])
  | succ k1 =>
   have H:=HA.out;clear HA;simp only [gangsawlaw54_ours.l0] at H;by_cases c2 : x4_1 < (l0.length : Int)
   ·rw [if_pos c2] at H;have c2b0 : decide (x4_1 < (l0.length : Int)) = true:=decide_eq_true c2;clear c2;by_cases c3 : 0 ≤ x4_1
    ·rw [if_pos c3] at H;have c3b0 : decide (0 ≤ x4_1) = true:=decide_eq_true c3;clear c3;by_cases c4 : x3_1.length < 4398046511104
     ·rw [if_pos c4] at H;have LMc4:=am c4;clear c4
      obtain ⟨y232,hy232⟩ : ∃ y_ : List (S64),y_ = (x3_1 ++ [(⟨(rd_T65 l0 x4_1).f0,(rd_T65 l0 x4_1).f1,(rd_T65 l0 x4_1).f2⟩ : S64)]):=⟨_,rfl⟩
      replace H : (gangsawlaw54_ours.l0 k1 l0 y232 (wrap64 (x4_1 + 1))) = some r:=by first|(rw [hy232];with_reducible exact H)|(have H2_:=(Option.bind_some _ _).symm.trans H;rw [hy232];with_reducible exact H2_)|(have H2_:=(Option.bind_some _ _).symm.trans H;with_reducible exact H2_)|with_reducible exact H|(rw [hy232];exact H)|exact H
      have Ny232:=am hy232;clear hy232;have H':=am H;clear H;have p231 : 0 ≤ (x4_1 : Int):=of_decide_eq_true (by first|(with_reducible assumption)|assumption);have q231 : x4_1 < (l0.length : Int):=of_decide_eq_true (by first|(with_reducible assumption)|assumption);obtain ⟨ad231,e231,hx231_0,hx231_1,hx231_2⟩ := at_T65 HR0.out x4_1 p231 q231
      cases e231
      replace hx231_0:=(HB.out.cell (World.block_lt_of_cell? w _ hx231_0)).trans hx231_0;replace hx231_1:=(HB.out.cell (World.block_lt_of_cell? w _ hx231_1)).trans hx231_1;replace hx231_2:=(HB.out.cell (World.block_lt_of_cell? w _ hx231_2)).trans hx231_2;replace p231:=eq_true p231;replace q231:=eq_true q231
      go_wp2_with (first|((with_reducible refine gate_builtin (b:=.append) (xs:=#[.tmp 11,.tmp 16]) rfl ?_);at_builtin;refine Kd.R_append k64 (w0:=w) w.heap.size rfl (.tmp 11) (.tmp 16) 31 64 (.agg #[(.string ⟨#[]⟩),(.int .i64 0),(.int .i64 0)]) 32 rfl Try.underlying31 info64 rfl (by decide) (by omega) u3 x3_1 (⟨(rd_T65 l0 x4_1).f0,(rd_T65 l0 x4_1).f1,(rd_T65 l0 x4_1).f2⟩ : S64) [.string ((rd_T65 l0 x4_1).f0),.int .i64 ((rd_T65 l0 x4_1).f1),.int .i64 ((rd_T65 l0 x4_1).f2)] (fun _=>True) (fun _=>False) rfl rfl ?aP (fun _ hk=>hk.elim) ?aF ?aO ?aB ?aS ?aL ?_;(case aP=>exact k64_mkM _ _ _ (⟨(rd_T65 l0 x4_1).f0,(rd_T65 l0 x4_1).f1,(rd_T65 l0 x4_1).f2⟩ : S64));(case aB=>exact (by repeat (first|(with_reducible first|exact HB.out|apply lA|apply lN|apply lD)|exact HB.out)));(case aF=>exact (fun _ _=>trivial));(case aO=>exact (by (with_reducible repeat (first|apply rA|apply rN|apply rD));exact HO_3.out));(case aS=>exact (below_size (by repeat (first|(with_reducible first|exact HB.out|apply lA|apply lN|apply lD)|exact HB.out))));(case aL=>have:=LMc4.out;omega);intro v233 w5 ho hb hg hat;rw [← Ny232.out] at ho;have n0_:=am (hb);have n1_:=am (ho);clear HB;clear HO_3;have HB:=n0_;have HO234:=n1_;clear n0_ n1_;clear ho hb hg hat))
      go_roundg k1
      case measure=>have:=HK1.out;omega
      case rel=>exact ⟨(y232),(wrap64 (x4_1 + 1)),(by first|rfl|(simp;done)|(simp [*];done)),H',⟨by have:=HK1.out;omega⟩,⟨by (with_reducible repeat (first|apply rA|apply rN|apply rD));exact HO234.out⟩,⟨by repeat (first|(with_reducible first|exact HB.out|apply lA|apply lN|apply lD)|exact HB.out)⟩⟩
     (rw [if_neg c4] at H;exact absurd H (by simp))
    (rw [if_neg c3] at H;exact absurd H (by simp))
   ·rw [if_neg c2] at H;have c2b0 : decide (x4_1 < (l0.length : Int)) = false:=decide_eq_false c2;clear c2;obtain rfl:=Option.some.inj H
    go_wp2
    go_ret
    exact ⟨_,by first|rfl|(simp [errW_none,errW_some] <;> rfl)|(simp [*,errW_none,errW_some] <;> rfl),by (with_reducible repeat (first|apply rA|apply rN|apply rD));exact HO_3.out,by repeat (first|(with_reducible first|exact HB.out|apply lA|apply lN|apply lD)|exact HB.out)⟩

def gangsawref09_letter.f (a0 : Int) : Option (Bool):=if a0 ≥ 97 then (if a0 ≤ 122 then (some true) else (if a0 ≥ 65 then (some (decide (a0 ≤ 90))) else (some false))) else (if a0 ≥ 65 then (some (decide (a0 ≤ 90))) else (some false))
set_option maxHeartbeats 8000000 in
set_option maxRecDepth 100000 in
theorem gangsawref09_letter.calls (a0 : Int) (r : Bool) (w : World) (h : gangsawref09_letter.f a0 = some r) :
  Calls Try.prog 65 #[.int .u8 a0] w fun e w'=>e = .returned (.bool r) ∧ Drawn0 w w':=by
 have H : (if a0 ≥ 97 then (if a0 ≤ 122 then (some true) else (if a0 ≥ 65 then (some (decide (a0 ≤ 90))) else (some false))) else (if a0 ≥ 65 then (some (decide (a0 ≤ 90))) else (some false))) = some r:=h;clear h;by_cases c2 : a0 ≥ 97
 ·rw [if_pos c2] at H;have c2b0 : decide (97 ≤ a0) = true:=decide_eq_true c2;clear c2;by_cases c3 : a0 ≤ 122
  ·rw [if_pos c3] at H;have c3b0 : decide (a0 ≤ 122) = true:=decide_eq_true c3;clear c3;obtain rfl:=Option.some.inj H
   go_enter Try.func65,Try.ntmps65
   go_wp2
   go_ret
   exact ⟨by first|rfl|(simp;done)|(simp [*];done),by repeat (first|exact Drawn0.refl _|apply Drawn0.step)⟩
  ·rw [if_neg c3] at H;have c3b0 : decide (a0 ≤ 122) = false:=decide_eq_false c3;clear c3;by_cases c4 : a0 ≥ 65
   ·rw [if_pos c4] at H;have c4b0 : decide (65 ≤ a0) = true:=decide_eq_true c4;clear c4;obtain rfl:=Option.some.inj H
    go_enter Try.func65,Try.ntmps65
    go_wp2
    go_ret
    exact ⟨by first|rfl|(simp;done)|(simp [*];done),by repeat (first|exact Drawn0.refl _|apply Drawn0.step)⟩
   ·rw [if_neg c4] at H;have c4b0 : decide (65 ≤ a0) = false:=decide_eq_false c4;clear c4;obtain rfl:=Option.some.inj H
    go_enter Try.func65,Try.ntmps65
    go_wp2
    go_ret
    exact ⟨by first|rfl|(simp;done)|(simp [*];done),by repeat (first|exact Drawn0.refl _|apply Drawn0.step)⟩
 ·rw [if_neg c2] at H;have c2b0 : decide (97 ≤ a0) = false:=decide_eq_false c2;clear c2;by_cases c5 : a0 ≥ 65
  ·rw [if_pos c5] at H;have c5b0 : decide (65 ≤ a0) = true:=decide_eq_true c5;clear c5;obtain rfl:=Option.some.inj H
   go_enter Try.func65,Try.ntmps65
   go_wp2
   go_ret
   exact ⟨by first|rfl|(simp;done)|(simp [*];done),by repeat (first|exact Drawn0.refl _|apply Drawn0.step)⟩
  ·rw [if_neg c5] at H;have c5b0 : decide (65 ≤ a0) = false:=decide_eq_false c5;clear c5;obtain rfl:=Option.some.inj H
   go_enter Try.func65,Try.ntmps65
   go_wp2
   go_ret
   exact ⟨by first|rfl|(simp;done)|(simp [*];done),by repeat (first|exact Drawn0.refl _|apply Drawn0.step)⟩

def gangsawref09_digit.f (a0 : Int) : Option (Bool):=if a0 ≥ 48 then (some (decide (a0 ≤ 57))) else (some false)
set_option maxHeartbeats 8000000 in
set_option maxRecDepth 100000 in
theorem gangsawref09_digit.calls (a0 : Int) (r : Bool) (w : World) (h : gangsawref09_digit.f a0 = some r) :
  Calls Try.prog 74 #[.int .u8 a0] w fun e w'=>e = .returned (.bool r) ∧ Drawn0 w w':=by
 have H : (if a0 ≥ 48 then (some (decide (a0 ≤ 57))) else (some false)) = some r:=h;clear h;by_cases c2 : a0 ≥ 48
 ·rw [if_pos c2] at H;have c2b0 : decide (48 ≤ a0) = true:=decide_eq_true c2;clear c2;obtain rfl:=Option.some.inj H
  go_enter Try.func74,Try.ntmps74
  go_wp2
  go_ret
  exact ⟨by first|rfl|(simp;done)|(simp [*];done),by repeat (first|exact Drawn0.refl _|apply Drawn0.step)⟩
 ·rw [if_neg c2] at H;have c2b0 : decide (48 ≤ a0) = false:=decide_eq_false c2;clear c2;obtain rfl:=Option.some.inj H
  go_enter Try.func74,Try.ntmps74
  go_wp2
  go_ret
  exact ⟨by first|rfl|(simp;done)|(simp [*];done),by repeat (first|exact Drawn0.refl _|apply Drawn0.step)⟩

def gangsawref09_part.f (a0 : Int) : Option (Bool):=(gangsawref09_digit.f a0).bind fun t235=>(if t235 = true then (some true) else ((gangsawref09_letter.f a0).bind fun t236=>(if t236 = true then (some true) else (some (a0 == 95)))))
set_option maxHeartbeats 8000000 in
set_option maxRecDepth 100000 in
theorem gangsawref09_part.calls (a0 : Int) (r : Bool) (w : World) (h : gangsawref09_part.f a0 = some r) :
  Calls Try.prog 64 #[.int .u8 a0] w fun e w'=>e = .returned (.bool r) ∧ Drawn0 w w':=by
 have H : ((gangsawref09_digit.f a0).bind fun t235=>(if t235 = true then (some true) else ((gangsawref09_letter.f a0).bind fun t236=>(if t236 = true then (some true) else (some (a0 == 95)))))) = some r:=h;clear h;replace H:=Option.bind_eq_some_iff.mp H;obtain ⟨t235,A20,H⟩ := H;replace H : (if t235 = true then (some true) else ((gangsawref09_letter.f a0).bind fun t236=>(if t236 = true then (some true) else (some (a0 == 95))))) = some r:=H;have A2:=am A20;clear A20;by_cases c3 : t235 = true
 ·subst c3
  have H1 : (some true) = some r:=by rw [if_pos rfl] at H;exact H
  clear H;have H:=H1;clear H1;obtain rfl:=Option.some.inj H
  go_enter Try.func64,Try.ntmps64
  go_wp2_with (first|((with_reducible refine gate_callee (f:=74) rfl ?_);refine goesL_ (some 4) rfl rfl Try.func74 (by kernel_rfl) rfl #[.int .u8 a0] rfl (by (try simp only [mT,mC,mN]);first|done|rfl|(simp only [lDr,lTk];rfl)) ?_;(with_reducible refine (gangsawref09_digit.calls a0 true _ A2.out).mono ?_);rintro e w' ⟨rfl,⟨nd,rfl⟩⟩;refine ⟨_,rfl, ?_⟩))
  go_ret
  exact ⟨by first|rfl|(simp;done)|(simp [*];done),by repeat (first|exact Drawn0.refl _|apply Drawn0.step)⟩
 ·replace c3:=Bool.eq_false_iff.mpr c3;subst c3
  have H1 : ((gangsawref09_letter.f a0).bind fun t236=>(if t236 = true then (some true) else (some (a0 == 95)))) = some r:=by rw [if_neg (show ¬ (false = true) by decide)] at H;exact H
  clear H;have H:=H1;clear H1;replace H:=Option.bind_eq_some_iff.mp H;obtain ⟨t236,A40,H⟩ := H;replace H : (if t236 = true then (some true) else (some (a0 == 95))) = some r:=H;have A4:=am A40;clear A40;by_cases c5 : t236 = true
  ·subst c5
   have H1 : (some true) = some r:=by rw [if_pos rfl] at H;exact H
   clear H;have H:=H1;clear H1;obtain rfl:=Option.some.inj H
   go_enter Try.func64,Try.ntmps64
   go_wp2_with (first|((with_reducible refine gate_callee (f:=74) rfl ?_);refine goesL_ (some 4) rfl rfl Try.func74 (by kernel_rfl) rfl #[.int .u8 a0] rfl (by (try simp only [mT,mC,mN]);first|done|rfl|(simp only [lDr,lTk];rfl)) ?_;(with_reducible refine (gangsawref09_digit.calls a0 false _ A2.out).mono ?_);rintro e w' ⟨rfl,⟨nd,rfl⟩⟩;refine ⟨_,rfl, ?_⟩)|(go_at_call 65;(with_reducible refine (gangsawref09_letter.calls a0 true _ A4.out).mono ?_);rintro e w' ⟨rfl,⟨nd,rfl⟩⟩))
   go_ret
   exact ⟨by first|rfl|(simp;done)|(simp [*];done),by repeat (first|exact Drawn0.refl _|apply Drawn0.step)⟩
  ·replace c5:=Bool.eq_false_iff.mpr c5;subst c5
   have H1 : (some (a0 == 95)) = some r:=by rw [if_neg (show ¬ (false = true) by decide)] at H;exact H
   clear H;have H:=H1;clear H1;obtain rfl:=Option.some.inj H
   go_enter Try.func64,Try.ntmps64
   go_wp2_with (first|((with_reducible refine gate_callee (f:=74) rfl ?_);refine goesL_ (some 4) rfl rfl Try.func74 (by kernel_rfl) rfl #[.int .u8 a0] rfl (by (try simp only [mT,mC,mN]);first|done|rfl|(simp only [lDr,lTk];rfl)) ?_;(with_reducible refine (gangsawref09_digit.calls a0 false _ A2.out).mono ?_);rintro e w' ⟨rfl,⟨nd,rfl⟩⟩;refine ⟨_,rfl, ?_⟩)|(go_at_call 65;(with_reducible refine (gangsawref09_letter.calls a0 false _ A4.out).mono ?_);rintro e w' ⟨rfl,⟨nd,rfl⟩⟩))
   go_ret
   exact ⟨by first|rfl|(simp;done)|(simp [*];done),by repeat (first|exact Drawn0.refl _|apply Drawn0.step)⟩

def gangsawref09_Name.l0 : Nat → ByteArray → Int → Option (Bool)
 | 0,_,_=>none
 | k + 1,x0,x3=>if x3 < (x0.size : Int) then (if 0 ≤ x3 then ((gangsawref09_part.f (bt x0 x3)).bind fun t237=>(if t237 = true then (if (bt x0 x3) ≥ 65 then (if (bt x0 x3) ≤ 90 then (some false) else (if x3 = 0 then ((gangsawref09_letter.f (bt x0 x3)).bind fun t238=>(if t238 = true then (gangsawref09_Name.l0 k x0 (wrap64 (x3 + 1))) else (some false))) else (gangsawref09_Name.l0 k x0 (wrap64 (x3 + 1))))) else (if x3 = 0 then ((gangsawref09_letter.f (bt x0 x3)).bind fun t239=>(if t239 = true then (gangsawref09_Name.l0 k x0 (wrap64 (x3 + 1))) else (some false))) else (gangsawref09_Name.l0 k x0 (wrap64 (x3 + 1))))) else (some false))) else (none)) else (if (x0.size : Int) ≥ 1 then (some (decide ((x0.size : Int) ≤ 24))) else (some false))
def gangsawref09_Name.f (k : Nat) (a0 : ByteArray) : Option (Bool):=gangsawref09_Name.l0 k a0 0
set_option maxHeartbeats 8000000 in
set_option maxRecDepth 100000 in
theorem gangsawref09_Name.calls (k : Nat) (a0 : ByteArray) (r : Bool) (w : World) (h : gangsawref09_Name.f k a0 = some r) :
  Calls Try.prog 34 #[.string a0] w fun e w'=>e = .returned (.bool r) ∧ Drawn0 w w':=by
 have H : (gangsawref09_Name.l0 k a0 0) = some r:=h;clear h;have H':=am H;clear H
 go_enter Try.func34,Try.ntmps34
 go_wp2
 go_loopg [3] k (fun kq v3 w'=>∃ (x3_1 : Int),v3 = .int .i64 x3_1 ∧ Aside0 (gangsawref09_Name.l0 kq a0 x3_1 = some r) ∧ Aside0 (kq ≤ k) ∧ Drawn0 w w')
 case atStart=>exact ⟨(0),(by first|rfl|(simp;done)|(simp [*];done)),H',⟨Nat.le_refl _⟩,by repeat (first|exact Drawn0.refl _|apply Drawn0.step)⟩
 case round =>
  clear H';obtain ⟨x3_1,rfl,HA,HK1,⟨m1,rfl⟩⟩ := hrel
  cases gk with
  | zero=>exact absurd HA.out (by simp [gangsawref09_Name.l0])
  | succ k1 =>
   have H:=HA.out;clear HA;simp only [gangsawref09_Name.l0] at H;by_cases c2 : x3_1 < (a0.size : Int)
   ·rw [if_pos c2] at H;have c2b0 : decide (x3_1 < (a0.size : Int)) = true:=decide_eq_true c2;clear c2;by_cases c3 : 0 ≤ x3_1
    ·rw [if_pos c3] at H;have c3b0 : decide (0 ≤ x3_1) = true:=decide_eq_true c3;clear c3;replace H:=Option.bind_eq_some_iff.mp H;obtain ⟨t237,A50,H⟩ := H;replace H : (if t237 = true then (if (bt a0 x3_1) ≥ 65 then (if (bt a0 x3_1) ≤ 90 then (some false) else (if x3_1 = 0 then ((gangsawref09_letter.f (bt a0 x3_1)).bind fun t238=>(if t238 = true then (gangsawref09_Name.l0 k1 a0 (wrap64 (x3_1 + 1))) else (some false))) else (gangsawref09_Name.l0 k1 a0 (wrap64 (x3_1 + 1))))) else (if x3_1 = 0 then ((gangsawref09_letter.f (bt a0 x3_1)).bind fun t239=>(if t239 = true then (gangsawref09_Name.l0 k1 a0 (wrap64 (x3_1 + 1))) else (some false))) else (gangsawref09_Name.l0 k1 a0 (wrap64 (x3_1 + 1))))) else (some false)) = some r:=H;have A5:=am A50;clear A50;by_cases c6 : t237 = true
     ·subst c6
      have H1 : (if (bt a0 x3_1) ≥ 65 then (if (bt a0 x3_1) ≤ 90 then (some false) else (if x3_1 = 0 then ((gangsawref09_letter.f (bt a0 x3_1)).bind fun t238=>(if t238 = true then (gangsawref09_Name.l0 k1 a0 (wrap64 (x3_1 + 1))) else (some false))) else (gangsawref09_Name.l0 k1 a0 (wrap64 (x3_1 + 1))))) else (if x3_1 = 0 then ((gangsawref09_letter.f (bt a0 x3_1)).bind fun t239=>(if t239 = true then (gangsawref09_Name.l0 k1 a0 (wrap64 (x3_1 + 1))) else (some false))) else (gangsawref09_Name.l0 k1 a0 (wrap64 (x3_1 + 1))))) = some r:=by rw [if_pos rfl] at H;exact H
      clear H;have H:=H1;clear H1;by_cases c8 : (bt a0 x3_1) ≥ 65
      ·rw [if_pos c8] at H;have c8b0 : decide (65 ≤ (bt a0 x3_1)) = true:=decide_eq_true c8;clear c8;by_cases c10 : (bt a0 x3_1) ≤ 90
       ·rw [if_pos c10] at H;have c10b0 : decide ((bt a0 x3_1) ≤ 90) = true:=decide_eq_true c10;clear c10;obtain rfl:=Option.some.inj H;have p4 : 0 ≤ (x3_1 : Int):=of_decide_eq_true (by first|(with_reducible assumption)|assumption);have q4 : x3_1 < (a0.size : Int):=of_decide_eq_true (by first|(with_reducible assumption)|assumption);have hx4:=bt_at a0 x3_1;replace p4:=eq_true p4;replace q4:=eq_true q4
        go_wp2_with (first|((with_reducible refine gate_callee (f:=64) rfl ?_);refine goesL_ (some 13) rfl rfl Try.func64 (by kernel_rfl) rfl #[.int .u8 (bt a0 x3_1)] rfl (by (try simp only [mT,mC,mN]);first|done|rfl|(simp only [lDr,lTk];rfl)) ?_;(with_reducible refine (gangsawref09_part.calls (bt a0 x3_1) true _ A5.out).mono ?_);rintro e w' ⟨rfl,⟨nd,rfl⟩⟩;refine ⟨_,rfl, ?_⟩;have p7 : 0 ≤ (x3_1 : Int):=of_decide_eq_true (by first|(with_reducible assumption)|assumption);have q7 : x3_1 < (a0.size : Int):=of_decide_eq_true (by first|(with_reducible assumption)|assumption);have hx7:=bt_at a0 x3_1;replace p7:=eq_true p7;replace q7:=eq_true q7;have p9 : 0 ≤ (x3_1 : Int):=of_decide_eq_true (by first|(with_reducible assumption)|assumption);have q9 : x3_1 < (a0.size : Int):=of_decide_eq_true (by first|(with_reducible assumption)|assumption);have hx9:=bt_at a0 x3_1;replace p9:=eq_true p9;replace q9:=eq_true q9))
        go_ret
        exact ⟨by first|rfl|(simp;done)|(simp [*];done),by repeat (first|exact Drawn0.refl _|apply Drawn0.step)⟩
       ·rw [if_neg c10] at H;have c10b0 : decide ((bt a0 x3_1) ≤ 90) = false:=decide_eq_false c10;clear c10;by_cases c11 : x3_1 = 0
        ·rw [if_pos c11] at H;have c11b0 : (x3_1 == 0) = true:=beq_iff_eq.mpr c11;have c11b1 : (x3_1 != 0) = false:=bne_eq_false_iff_eq.mpr c11;clear c11;replace H:=Option.bind_eq_some_iff.mp H;obtain ⟨t238,A130,H⟩ := H;replace H : (if t238 = true then (gangsawref09_Name.l0 k1 a0 (wrap64 (x3_1 + 1))) else (some false)) = some r:=H;have A13:=am A130;clear A130;by_cases c14 : t238 = true
         ·subst c14
          have H1 : (gangsawref09_Name.l0 k1 a0 (wrap64 (x3_1 + 1))) = some r:=by rw [if_pos rfl] at H;exact H
          clear H;have H:=H1;clear H1;have H':=am H;clear H;have p4 : 0 ≤ (x3_1 : Int):=of_decide_eq_true (by first|(with_reducible assumption)|assumption);have q4 : x3_1 < (a0.size : Int):=of_decide_eq_true (by first|(with_reducible assumption)|assumption);have hx4:=bt_at a0 x3_1;replace p4:=eq_true p4;replace q4:=eq_true q4
          go_wp2_with (first|((with_reducible refine gate_callee (f:=64) rfl ?_);refine goesL_ (some 13) rfl rfl Try.func64 (by kernel_rfl) rfl #[.int .u8 (bt a0 x3_1)] rfl (by (try simp only [mT,mC,mN]);first|done|rfl|(simp only [lDr,lTk];rfl)) ?_;(with_reducible refine (gangsawref09_part.calls (bt a0 x3_1) true _ A5.out).mono ?_);rintro e w' ⟨rfl,⟨nd,rfl⟩⟩;refine ⟨_,rfl, ?_⟩;have p7 : 0 ≤ (x3_1 : Int):=of_decide_eq_true (by first|(with_reducible assumption)|assumption);have q7 : x3_1 < (a0.size : Int):=of_decide_eq_true (by first|(with_reducible assumption)|assumption);have hx7:=bt_at a0 x3_1;replace p7:=eq_true p7;replace q7:=eq_true q7;have p9 : 0 ≤ (x3_1 : Int):=of_decide_eq_true (by first|(with_reducible assumption)|assumption);have q9 : x3_1 < (a0.size : Int):=of_decide_eq_true (by first|(with_reducible assumption)|assumption);have hx9:=bt_at a0 x3_1;replace p9:=eq_true p9;replace q9:=eq_true q9;have p12 : 0 ≤ (x3_1 : Int):=of_decide_eq_true (by first|(with_reducible assumption)|assumption);have q12 : x3_1 < (a0.size : Int):=of_decide_eq_true (by first|(with_reducible assumption)|assumption);have hx12:=bt_at a0 x3_1;replace p12:=eq_true p12;replace q12:=eq_true q12)|(go_at_call 65;(with_reducible refine (gangsawref09_letter.calls (bt a0 x3_1) true _ A13.out).mono ?_);rintro e w' ⟨rfl,⟨nd,rfl⟩⟩))
          go_roundg k1
          case measure=>have:=HK1.out;omega
          case rel=>exact ⟨(wrap64 (x3_1 + 1)),(by first|rfl|(simp;done)|(simp [*];done)),H',⟨by have:=HK1.out;omega⟩,by repeat (first|exact Drawn0.refl _|apply Drawn0.step)⟩
         ·replace c14:=Bool.eq_false_iff.mpr c14;subst c14
          have H1 : (some false) = some r:=by rw [if_neg (show ¬ (false = true) by decide)] at H;exact H
          clear H;have H:=H1;clear H1;obtain rfl:=Option.some.inj H;have p4 : 0 ≤ (x3_1 : Int):=of_decide_eq_true (by first|(with_reducible assumption)|assumption);have q4 : x3_1 < (a0.size : Int):=of_decide_eq_true (by first|(with_reducible assumption)|assumption);have hx4:=bt_at a0 x3_1;replace p4:=eq_true p4;replace q4:=eq_true q4
          go_wp2_with (first|((with_reducible refine gate_callee (f:=64) rfl ?_);refine goesL_ (some 13) rfl rfl Try.func64 (by kernel_rfl) rfl #[.int .u8 (bt a0 x3_1)] rfl (by (try simp only [mT,mC,mN]);first|done|rfl|(simp only [lDr,lTk];rfl)) ?_;(with_reducible refine (gangsawref09_part.calls (bt a0 x3_1) true _ A5.out).mono ?_);rintro e w' ⟨rfl,⟨nd,rfl⟩⟩;refine ⟨_,rfl, ?_⟩;have p7 : 0 ≤ (x3_1 : Int):=of_decide_eq_true (by first|(with_reducible assumption)|assumption);have q7 : x3_1 < (a0.size : Int):=of_decide_eq_true (by first|(with_reducible assumption)|assumption);have hx7:=bt_at a0 x3_1;replace p7:=eq_true p7;replace q7:=eq_true q7;have p9 : 0 ≤ (x3_1 : Int):=of_decide_eq_true (by first|(with_reducible assumption)|assumption);have q9 : x3_1 < (a0.size : Int):=of_decide_eq_true (by first|(with_reducible assumption)|assumption);have hx9:=bt_at a0 x3_1;replace p9:=eq_true p9;replace q9:=eq_true q9;have p12 : 0 ≤ (x3_1 : Int):=of_decide_eq_true (by first|(with_reducible assumption)|assumption);have q12 : x3_1 < (a0.size : Int):=of_decide_eq_true (by first|(with_reducible assumption)|assumption);have hx12:=bt_at a0 x3_1;replace p12:=eq_true p12;replace q12:=eq_true q12)|(go_at_call 65;(with_reducible refine (gangsawref09_letter.calls (bt a0 x3_1) false _ A13.out).mono ?_);rintro e w' ⟨rfl,⟨nd,rfl⟩⟩))
          go_ret
          exact ⟨by first|rfl|(simp;done)|(simp [*];done),by repeat (first|exact Drawn0.refl _|apply Drawn0.step)⟩
        ·rw [if_neg c11] at H;have c11b0 : (x3_1 == 0) = false:=beq_eq_false_iff_ne.mpr c11;have c11b1 : (x3_1 != 0) = true:=bne_iff_ne.mpr c11;have H':=am H;clear H;have p4 : 0 ≤ (x3_1 : Int):=of_decide_eq_true (by first|(with_reducible assumption)|assumption);have q4 : x3_1 < (a0.size : Int):=of_decide_eq_true (by first|(with_reducible assumption)|assumption);have hx4:=bt_at a0 x3_1;replace p4:=eq_true p4;replace q4:=eq_true q4
         go_wp2_with (first|((with_reducible refine gate_callee (f:=64) rfl ?_);refine goesL_ (some 13) rfl rfl Try.func64 (by kernel_rfl) rfl #[.int .u8 (bt a0 x3_1)] rfl (by (try simp only [mT,mC,mN]);first|done|rfl|(simp only [lDr,lTk];rfl)) ?_;(with_reducible refine (gangsawref09_part.calls (bt a0 x3_1) true _ A5.out).mono ?_);rintro e w' ⟨rfl,⟨nd,rfl⟩⟩;refine ⟨_,rfl, ?_⟩;have p7 : 0 ≤ (x3_1 : Int):=of_decide_eq_true (by first|(with_reducible assumption)|assumption);have q7 : x3_1 < (a0.size : Int):=of_decide_eq_true (by first|(with_reducible assumption)|assumption);have hx7:=bt_at a0 x3_1;replace p7:=eq_true p7;replace q7:=eq_true q7;have p9 : 0 ≤ (x3_1 : Int):=of_decide_eq_true (by first|(with_reducible assumption)|assumption);have q9 : x3_1 < (a0.size : Int):=of_decide_eq_true (by first|(with_reducible assumption)|assumption);have hx9:=bt_at a0 x3_1;replace p9:=eq_true p9;replace q9:=eq_true q9))
         go_roundg k1
         case measure=>have:=HK1.out;omega
         case rel=>exact ⟨(wrap64 (x3_1 + 1)),(by first|rfl|(simp;done)|(simp [*];done)),H',⟨by have:=HK1.out;omega⟩,by repeat (first|exact Drawn0.refl _|apply Drawn0.step)⟩
      ·rw [if_neg c8] at H;have c8b0 : decide (65 ≤ (bt a0 x3_1)) = false:=decide_eq_false c8;clear c8;by_cases c15 : x3_1 = 0
       ·rw [if_pos c15] at H;have c15b0 : (x3_1 == 0) = true:=beq_iff_eq.mpr c15;have c15b1 : (x3_1 != 0) = false:=bne_eq_false_iff_eq.mpr c15;clear c15;replace H:=Option.bind_eq_some_iff.mp H;obtain ⟨t239,A170,H⟩ := H;replace H : (if t239 = true then (gangsawref09_Name.l0 k1 a0 (wrap64 (x3_1 + 1))) else (some false)) = some r:=H;have A17:=am A170;clear A170;by_cases c18 : t239 = true
        ·subst c18
         have H1 : (gangsawref09_Name.l0 k1 a0 (wrap64 (x3_1 + 1))) = some r:=by rw [if_pos rfl] at H;exact H
         clear H;have H:=H1;clear H1;have H':=am H;clear H;have p4 : 0 ≤ (x3_1 : Int):=of_decide_eq_true (by first|(with_reducible assumption)|assumption);have q4 : x3_1 < (a0.size : Int):=of_decide_eq_true (by first|(with_reducible assumption)|assumption);have hx4:=bt_at a0 x3_1;replace p4:=eq_true p4;replace q4:=eq_true q4
         go_wp2_with (first|((with_reducible refine gate_callee (f:=64) rfl ?_);refine goesL_ (some 13) rfl rfl Try.func64 (by kernel_rfl) rfl #[.int .u8 (bt a0 x3_1)] rfl (by (try simp only [mT,mC,mN]);first|done|rfl|(simp only [lDr,lTk];rfl)) ?_;(with_reducible refine (gangsawref09_part.calls (bt a0 x3_1) true _ A5.out).mono ?_);rintro e w' ⟨rfl,⟨nd,rfl⟩⟩;refine ⟨_,rfl, ?_⟩;have p7 : 0 ≤ (x3_1 : Int):=of_decide_eq_true (by first|(with_reducible assumption)|assumption);have q7 : x3_1 < (a0.size : Int):=of_decide_eq_true (by first|(with_reducible assumption)|assumption);have hx7:=bt_at a0 x3_1;replace p7:=eq_true p7;replace q7:=eq_true q7;have p16 : 0 ≤ (x3_1 : Int):=of_decide_eq_true (by first|(with_reducible assumption)|assumption);have q16 : x3_1 < (a0.size : Int):=of_decide_eq_true (by first|(with_reducible assumption)|assumption);have hx16:=bt_at a0 x3_1;replace p16:=eq_true p16;replace q16:=eq_true q16)|(go_at_call 65;(with_reducible refine (gangsawref09_letter.calls (bt a0 x3_1) true _ A17.out).mono ?_);rintro e w' ⟨rfl,⟨nd,rfl⟩⟩))
         go_roundg k1
         case measure=>have:=HK1.out;omega
         case rel=>exact ⟨(wrap64 (x3_1 + 1)),(by first|rfl|(simp;done)|(simp [*];done)),H',⟨by have:=HK1.out;omega⟩,by repeat (first|exact Drawn0.refl _|apply Drawn0.step)⟩
        ·replace c18:=Bool.eq_false_iff.mpr c18;subst c18
         have H1 : (some false) = some r:=by rw [if_neg (show ¬ (false = true) by decide)] at H;exact H
         clear H;have H:=H1;clear H1;obtain rfl:=Option.some.inj H;have p4 : 0 ≤ (x3_1 : Int):=of_decide_eq_true (by first|(with_reducible assumption)|assumption);have q4 : x3_1 < (a0.size : Int):=of_decide_eq_true (by first|(with_reducible assumption)|assumption);have hx4:=bt_at a0 x3_1;replace p4:=eq_true p4;replace q4:=eq_true q4
         go_wp2_with (first|((with_reducible refine gate_callee (f:=64) rfl ?_);refine goesL_ (some 13) rfl rfl Try.func64 (by kernel_rfl) rfl #[.int .u8 (bt a0 x3_1)] rfl (by (try simp only [mT,mC,mN]);first|done|rfl|(simp only [lDr,lTk];rfl)) ?_;(with_reducible refine (gangsawref09_part.calls (bt a0 x3_1) true _ A5.out).mono ?_);rintro e w' ⟨rfl,⟨nd,rfl⟩⟩;refine ⟨_,rfl, ?_⟩;have p7 : 0 ≤ (x3_1 : Int):=of_decide_eq_true (by first|(with_reducible assumption)|assumption);have q7 : x3_1 < (a0.size : Int):=of_decide_eq_true (by first|(with_reducible assumption)|assumption);have hx7:=bt_at a0 x3_1;replace p7:=eq_true p7;replace q7:=eq_true q7;have p16 : 0 ≤ (x3_1 : Int):=of_decide_eq_true (by first|(with_reducible assumption)|assumption);have q16 : x3_1 < (a0.size : Int):=of_decide_eq_true (by first|(with_reducible assumption)|assumption);have hx16:=bt_at a0 x3_1;replace p16:=eq_true p16;replace q16:=eq_true q16)|(go_at_call 65;(with_reducible refine (gangsawref09_letter.calls (bt a0 x3_1) false _ A17.out).mono ?_);rintro e w' ⟨rfl,⟨nd,rfl⟩⟩))
         go_ret
         exact ⟨by first|rfl|(simp;done)|(simp [*];done),by repeat (first|exact Drawn0.refl _|apply Drawn0.step)⟩
       ·rw [if_neg c15] at H;have c15b0 : (x3_1 == 0) = false:=beq_eq_false_iff_ne.mpr c15;have c15b1 : (x3_1 != 0) = true:=bne_iff_ne.mpr c15;have H':=am H;clear H;have p4 : 0 ≤ (x3_1 : Int):=of_decide_eq_true (by first|(with_reducible assumption)|assumption);have q4 : x3_1 < (a0.size : Int):=of_decide_eq_true (by first|(with_reducible assumption)|assumption);have hx4:=bt_at a0 x3_1;replace p4:=eq_true p4;replace q4:=eq_true q4
        go_wp2_with (first|((with_reducible refine gate_callee (f:=64) rfl ?_);refine goesL_ (some 13) rfl rfl Try.func64 (by kernel_rfl) rfl #[.int .u8 (bt a0 x3_1)] rfl (by (try simp only [mT,mC,mN]);first|done|rfl|(simp only [lDr,lTk];rfl)) ?_;(with_reducible refine (gangsawref09_part.calls (bt a0 x3_1) true _ A5.out).mono ?_);rintro e w' ⟨rfl,⟨nd,rfl⟩⟩;refine ⟨_,rfl, ?_⟩;have p7 : 0 ≤ (x3_1 : Int):=of_decide_eq_true (by first|(with_reducible assumption)|assumption);have q7 : x3_1 < (a0.size : Int):=of_decide_eq_true (by first|(with_reducible assumption)|assumption);have hx7:=bt_at a0 x3_1;replace p7:=eq_true p7;replace q7:=eq_true q7))
        go_roundg k1
        case measure=>have:=HK1.out;omega
        case rel=>exact ⟨(wrap64 (x3_1 + 1)),(by first|rfl|(simp;done)|(simp [*];done)),H',⟨by have:=HK1.out;omega⟩,by repeat (first|exact Drawn0.refl _|apply Drawn0.step)⟩
     ·replace c6:=Bool.eq_false_iff.mpr c6;subst c6
      have H1 : (some false) = some r:=by rw [if_neg (show ¬ (false = true) by decide)] at H;exact H
      clear H;have H:=H1;clear H1;obtain rfl:=Option.some.inj H;have p4 : 0 ≤ (x3_1 : Int):=of_decide_eq_true (by first|(with_reducible assumption)|assumption);have q4 : x3_1 < (a0.size : Int):=of_decide_eq_true (by first|(with_reducible assumption)|assumption);have hx4:=bt_at a0 x3_1;replace p4:=eq_true p4;replace q4:=eq_true q4
      go_wp2_with (first|((with_reducible refine gate_callee (f:=64) rfl ?_);refine goesL_ (some 13) rfl rfl Try.func64 (by kernel_rfl) rfl #[.int .u8 (bt a0 x3_1)] rfl (by (try simp only [mT,mC,mN]);first|done|rfl|(simp only [lDr,lTk];rfl)) ?_;(with_reducible refine (gangsawref09_part.calls (bt a0 x3_1) false _ A5.out).mono ?_);rintro e w' ⟨rfl,⟨nd,rfl⟩⟩;refine ⟨_,rfl, ?_⟩))
      go_ret
      exact ⟨by first|rfl|(simp;done)|(simp [*];done),by repeat (first|exact Drawn0.refl _|apply Drawn0.step)⟩
    (rw [if_neg c3] at H;exact absurd H (by simp))
   ·rw [if_neg c2] at H;have c2b0 : decide (x3_1 < (a0.size : Int)) = false:=decide_eq_false c2;clear c2;by_cases c19 : (a0.size : Int) ≥ 1
    ·rw [if_pos c19] at H;have c19b0 : decide (1 ≤ (a0.size : Int)) = true:=decide_eq_true c19;have c19b1 : decide (1 ≤ a0.size) = true:=decide_eq_true (by omega);clear c19;obtain rfl:=Option.some.inj H
     go_wp2
     go_ret
     exact ⟨by first|rfl|(simp;done)|(simp [*];done),by repeat (first|exact Drawn0.refl _|apply Drawn0.step)⟩
    ·rw [if_neg c19] at H;have c19b0 : decide (1 ≤ (a0.size : Int)) = false:=decide_eq_false c19;have c19b1 : decide (1 ≤ a0.size) = false:=decide_eq_false (by omega);clear c19;obtain rfl:=Option.some.inj H
     go_wp2
     go_ret
     exact ⟨by first|rfl|(simp;done)|(simp [*];done),by repeat (first|exact Drawn0.refl _|apply Drawn0.step)⟩

def gangsawref54_in.f (a0 : Int) (a1 : Int) (a2 : Int) : Option (Bool):=if a1 ≤ a0 then (some (decide (a0 ≤ a2))) else (some false)
set_option maxHeartbeats 8000000 in
set_option maxRecDepth 100000 in
theorem gangsawref54_in.calls (a0 : Int) (a1 : Int) (a2 : Int) (r : Bool) (w : World) (h : gangsawref54_in.f a0 a1 a2 = some r) :
  Calls Try.prog 36 #[.int .i64 a0,.int .i64 a1,.int .i64 a2] w fun e w'=>e = .returned (.bool r) ∧ Drawn0 w w':=by
 have H : (if a1 ≤ a0 then (some (decide (a0 ≤ a2))) else (some false)) = some r:=h;clear h;by_cases c4 : a1 ≤ a0
 ·rw [if_pos c4] at H;have c4b0 : decide (a1 ≤ a0) = true:=decide_eq_true c4;clear c4;obtain rfl:=Option.some.inj H
  go_enter Try.func36,Try.ntmps36
  go_wp2
  go_ret
  exact ⟨by first|rfl|(simp;done)|(simp [*];done),by repeat (first|exact Drawn0.refl _|apply Drawn0.step)⟩
 ·rw [if_neg c4] at H;have c4b0 : decide (a1 ≤ a0) = false:=decide_eq_false c4;clear c4;obtain rfl:=Option.some.inj H
  go_enter Try.func36,Try.ntmps36
  go_wp2
  go_ret
  exact ⟨by first|rfl|(simp;done)|(simp [*];done),by repeat (first|exact Drawn0.refl _|apply Drawn0.step)⟩

-- GIVEN: function 35 (gangsawref54_truck)

end Go.Proofs.Ytohcgenhhgipcaa.PA
