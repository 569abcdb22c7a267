import Derived.Test.YtnjikioimompnaaPAx0
namespace Go.Proofs.Ytnjikioimompnaa.PA
open Go.RowKit Go.Proofs.YtnjikioimompnaaW.PrintWords Go.Proofs.YtnjikioimompnaaW.PrintLast Go.Proofs.YtnjikioimompnaaW.PrintMore
attribute [local go_sem] max2_int min2_int max_two min_two max_three min_three max_four min_four
set_option linter.unusedVariables false
set_option linter.unusedSimpArgs false
def gangsawref39_lead.j0 : Nat → Int → Int → Int → Int → Option (Int × Int)
 | 0,_,_,_,_=>none
 | k + 1,x1,x8,x473000,x473001=>if x1 = 0 then (some (wrap64 ((wrap64 (-x8)) * x473001),x473000)) else (if x1 = 1 then (some (wrap64 (x8 * x473001),wrap64 (-x473000))) else (if x1 = 2 then (some (wrap64 (x8 * x473000),x473001)) else (some (wrap64 ((wrap64 (-x8)) * x473000),wrap64 (-x473001)))))
def gangsawref39_lead.f (k : Nat) (a0_0 : Int) (a0_1 : Int) (a1 : Int) (a2 : Bool) : Option (Int × Int):=if a2 = true then (gangsawref39_lead.j0 k a1 (-1) a0_0 a0_1) else (gangsawref39_lead.j0 k a1 1 a0_0 a0_1)
set_option maxHeartbeats 8000000 in
set_option maxRecDepth 100000 in
theorem gangsawref39_lead.calls (k : Nat) (a0_0 : Int) (a0_1 : Int) (a1 : Int) (a2 : Bool) (r1 : Int) (r2 : Int) (w : World) (h : gangsawref39_lead.f k a0_0 a0_1 a1 a2 = some (r1, r2)) :
  Calls Try.prog 73 #[.agg #[.int .i64 a0_0,.int .i64 a0_1],.int .i64 a1,.bool a2] w fun e w'=>e = .returned (.tuple #[.int .i64 r1,.int .i64 r2]) ∧ Below w.heap.size w w':=by
 have hu31:=Try.underlying31;have HB:=am (Below.refl w.heap.size w);have H : (if a2 = true then (gangsawref39_lead.j0 k a1 (-1) a0_0 a0_1) else (gangsawref39_lead.j0 k a1 1 a0_0 a0_1)) = some (r1,r2):=h;clear h;have HC4:=am H;clear H
 go_enter Try.func73,Try.ntmps73
 go_upto_if 9 with (first|((with_reducible refine gate_dst (N:=3) rfl ?_);refine box_event ?hg (N:=3) ?hd (cs:=#[.int .i64 a0_0,.int .i64 a0_1]) (t:=31) ?hr ?_;(case hd=>rfl);(case hg=>rfl);(case hr=>first|(go_simp;done)|(go_simp;rfl));intro gb472 hg w5 hbox hb;have BK472:=am hbox;have GW472:=bza HB hg;have GE472:=bza HB hg;replace HB:=bsa HB hb;clear hb hbox hg))
 repeat (go_quiet (first|((with_reducible refine gate_dst (N:=3) rfl ?_);refine box_event ?hg (N:=3) ?hd (cs:=#[.int .i64 a0_0,.int .i64 a0_1]) (t:=31) ?hr ?_;(case hd=>rfl);(case hg=>rfl);(case hr=>first|(go_simp;done)|(go_simp;rfl));intro gb472 hg w5 hbox hb;have BK472:=am hbox;have GW472:=bza HB hg;have GE472:=bza HB hg;replace HB:=bsa HB hb;clear hb hbox hg));go_upto_if 9 with (first|((with_reducible refine gate_dst (N:=3) rfl ?_);refine box_event ?hg (N:=3) ?hd (cs:=#[.int .i64 a0_0,.int .i64 a0_1]) (t:=31) ?hr ?_;(case hd=>rfl);(case hg=>rfl);(case hr=>first|(go_simp;done)|(go_simp;rfl));intro gb472 hg w5 hbox hb;have BK472:=am hbox;have GW472:=bza HB hg;have GE472:=bza HB hg;replace HB:=bsa HB hb;clear hb hbox hg)))
 (try simp only [Act.put,sA,s0,sS])
 go_cut [8] (fun v8 wc=>∃ (kq : Nat) (x8_3 : Int),v8 = .int .i64 x8_3 ∧ Aside0 (gangsawref39_lead.j0 kq a1 x8_3 a0_0 a0_1 = some (r1,r2)) ∧ Aside0 (kq ≤ k) ∧ Aside0 (wc.heap[gb472]? = some (.cells #[.int .i64 a0_0,.int .i64 a0_1] 31 (0,0))) ∧ Aside0 (Below w.heap.size w wc))
 case first =>
  have H:=HC4.out;clear HC4;by_cases c6 : a2 = true
  ·subst c6
   have H1 : (gangsawref39_lead.j0 k a1 (-1) a0_0 a0_1) = some (r1,r2):=by rw [if_pos rfl] at H;exact H
   clear H;have H:=H1;clear H1;have H':=am H;clear H
   go_wp2
   repeat (go_quiet (fail);try go_wp2)
   go_meet
   case rel=>exact ⟨_,((-1)),(by first|rfl|(simp;done)|(simp [*];done)),H',⟨by first|omega|exact Nat.le_refl _⟩,⟨bq BK472.out⟩,⟨by repeat (first|(with_reducible first|exact HB.out|apply lA|apply lN|apply lD|refine lS ?_ GE472.out)|exact HB.out)⟩⟩
  ·replace c6:=Bool.eq_false_iff.mpr c6;subst c6
   have H1 : (gangsawref39_lead.j0 k a1 1 a0_0 a0_1) = some (r1,r2):=by rw [if_neg (show ¬ (false = true) by decide)] at H;exact H
   clear H;have H:=H1;clear H1;have H':=am H;clear H
   go_wp2
   repeat (go_quiet (fail);try go_wp2)
   go_meet
   case rel=>exact ⟨_,(1),(by first|rfl|(simp;done)|(simp [*];done)),H',⟨by first|omega|exact Nat.le_refl _⟩,⟨bq BK472.out⟩,⟨by repeat (first|(with_reducible first|exact HB.out|apply lA|apply lN|apply lD|refine lS ?_ GE472.out)|exact HB.out)⟩⟩
 case rest =>
  clear HC4
  try clear p2
  try clear c6
  obtain ⟨kq,x8_3,rfl,HA,HJ3,BK472,HB⟩ := hcut
  cases kq with
  | zero=>exact absurd HA.out (by simp [gangsawref39_lead.j0])
  | succ kj3 =>
   have H:=HA.out;clear HA;simp only [gangsawref39_lead.j0] at H;by_cases c7 : a1 = 0
   ·rw [if_pos c7] at H;have c7b0 : (a1 == 0) = true:=beq_iff_eq.mpr c7;have c7b1 : (a1 != 0) = false:=bne_eq_false_iff_eq.mpr c7;clear c7;simp only [Option.some.injEq,Prod.mk.injEq] at H;obtain ⟨rfl,rfl⟩ := H;obtain ⟨hcz8_0,hcz8_1,hfz8_0,hfz8_1⟩ := c2_ BK472.out
    go_wp2
    repeat (go_quiet (fail);try go_wp2)
    go_ret2
    exact ⟨by first|rfl|(simp [errW_none,errW_some] <;> rfl)|(simp [*,errW_none,errW_some] <;> rfl),by repeat (first|(with_reducible first|exact HB.out|apply lA|apply lN|apply lD|refine lS ?_ GE472.out)|exact HB.out)⟩
   ·rw [if_neg c7] at H;have c7b0 : (a1 == 0) = false:=beq_eq_false_iff_ne.mpr c7;have c7b1 : (a1 != 0) = true:=bne_iff_ne.mpr c7;by_cases c9 : a1 = 1
    ·rw [if_pos c9] at H;have c9b0 : (a1 == 1) = true:=beq_iff_eq.mpr c9;have c9b1 : (a1 != 1) = false:=bne_eq_false_iff_eq.mpr c9;clear c9;simp only [Option.some.injEq,Prod.mk.injEq] at H;obtain ⟨rfl,rfl⟩ := H;obtain ⟨hcz10_0,hcz10_1,hfz10_0,hfz10_1⟩ := c2_ BK472.out
     go_wp2
     repeat (go_quiet (fail);try go_wp2)
     go_ret2
     exact ⟨by first|rfl|(simp [errW_none,errW_some] <;> rfl)|(simp [*,errW_none,errW_some] <;> rfl),by repeat (first|(with_reducible first|exact HB.out|apply lA|apply lN|apply lD|refine lS ?_ GE472.out)|exact HB.out)⟩
    ·rw [if_neg c9] at H;have c9b0 : (a1 == 1) = false:=beq_eq_false_iff_ne.mpr c9;have c9b1 : (a1 != 1) = true:=bne_iff_ne.mpr c9;by_cases c11 : a1 = 2
     ·rw [if_pos c11] at H;have c11b0 : (a1 == 2) = true:=beq_iff_eq.mpr c11;have c11b1 : (a1 != 2) = false:=bne_eq_false_iff_eq.mpr c11;clear c11;simp only [Option.some.injEq,Prod.mk.injEq] at H;obtain ⟨rfl,rfl⟩ := H;obtain ⟨hcz12_0,hcz12_1,hfz12_0,hfz12_1⟩ := c2_ BK472.out
      go_wp2
      repeat (go_quiet (fail);try go_wp2)
      go_ret2
      exact ⟨by first|rfl|(simp [errW_none,errW_some] <;> rfl)|(simp [*,errW_none,errW_some] <;> rfl),by repeat (first|(with_reducible first|exact HB.out|apply lA|apply lN|apply lD|refine lS ?_ GE472.out)|exact HB.out)⟩
     ·rw [if_neg c11] at H;have c11b0 : (a1 == 2) = false:=beq_eq_false_iff_ne.mpr c11;have c11b1 : (a1 != 2) = true:=bne_iff_ne.mpr c11;simp only [Option.some.injEq,Prod.mk.injEq] at H;obtain ⟨rfl,rfl⟩ := H;obtain ⟨hcz13_0,hcz13_1,hfz13_0,hfz13_1⟩ := c2_ BK472.out
      go_wp2
      repeat (go_quiet (fail);try go_wp2)
      go_ret2
      exact ⟨by first|rfl|(simp [errW_none,errW_some] <;> rfl)|(simp [*,errW_none,errW_some] <;> rfl),by repeat (first|(with_reducible first|exact HB.out|apply lA|apply lN|apply lD|refine lS ?_ GE472.out)|exact HB.out)⟩
def gangsawref39_extreme.l0 : Nat → List (S31) → Int → Bool → Int → Int → Option (Int)
 | 0,_,_,_,_,_=>none
 | k + 1,x0,x1,x2,x7,x8=>if x8 < (x0.length : Int) then (if 0 ≤ x8 then ((gangsawref39_lead.f k ((rd_T31 x0 x8).f0) ((rd_T31 x0 x8).f1) x1 x2).bind fun bt474=>(if 0 ≤ x7 then (if x7 < (x0.length : Int) then ((gangsawref39_lead.f k ((rd_T31 x0 x7).f0) ((rd_T31 x0 x7).f1) x1 x2).bind fun bt477=>(if bt474.1 > bt477.1 then (gangsawref39_extreme.l0 k x0 x1 x2 x8 (wrap64 (x8 + 1))) else (if bt474.1 = bt477.1 then (if bt474.2 > bt477.2 then (gangsawref39_extreme.l0 k x0 x1 x2 x8 (wrap64 (x8 + 1))) else (gangsawref39_extreme.l0 k x0 x1 x2 x7 (wrap64 (x8 + 1)))) else (gangsawref39_extreme.l0 k x0 x1 x2 x7 (wrap64 (x8 + 1)))))) else (none)) else (none))) else (none)) else (some x7)
def gangsawref39_extreme.f (k : Nat) (l0 : List (S31)) (a1 : Int) (a2 : Bool) : Option (Int):=gangsawref39_extreme.l0 k l0 a1 a2 0 1
set_option maxHeartbeats 8000000 in
set_option maxRecDepth 100000 in
theorem gangsawref39_extreme.calls (k : Nat) (A0 : Option Addr) (c0 : Nat) (l0 : List (S31)) (a1 : Int) (a2 : Bool) (r : Int) (w : World) (hr0 : Kd.C k31 w A0 l0.length l0) (hc0 : l0.length ≤ c0) (h : gangsawref39_extreme.f k l0 a1 a2 = some r) :
  Calls Try.prog 49 #[.slice A0 l0.length c0,.int .i64 a1,.bool a2] w fun e w'=>e = .returned (.int .i64 r) ∧ Below w.heap.size w w':=by
 have hu31:=Try.underlying31;have HR0:=am hr0;have HC0:=am hc0;clear hr0 hc0;have HB:=am (Below.refl w.heap.size w);have H : (gangsawref39_extreme.l0 k l0 a1 a2 0 1) = some r:=h;clear h;have H':=am H;clear H
 go_enter Try.func49,Try.ntmps49
 go_wp2
 go_loopg [7,8] k (fun kq v7 v8 w'=>∃ (x7_1 : Int) (x8_1 : Int),v7 = .int .i64 x7_1 ∧ v8 = .int .i64 x8_1 ∧ Aside0 (gangsawref39_extreme.l0 kq l0 a1 a2 x7_1 x8_1 = some r) ∧ Aside0 (kq ≤ k) ∧ Aside0 (Below w.heap.size w w'))
 case atStart=>exact ⟨(0),(1),(by first|rfl|(simp;done)|(simp [*];done)),(by first|rfl|(simp;done)|(simp [*];done)),H',⟨Nat.le_refl _⟩,⟨by repeat (first|(with_reducible first|exact HB.out|apply lA|apply lN|apply lD)|exact HB.out)⟩⟩
 case round =>
  clear H'
  try clear p2
  obtain ⟨x7_1,x8_1,rfl,rfl,HA,HK1,HB⟩ := hrel
  cases gk with
  | zero=>exact absurd HA.out (by simp [gangsawref39_extreme.l0])
  | succ k1 =>
   have H:=HA.out;clear HA;simp only [gangsawref39_extreme.l0] at H;by_cases c4 : x8_1 < (l0.length : Int)
   ·rw [if_pos c4] at H;have c4b0 : decide (x8_1 < (l0.length : Int)) = true:=decide_eq_true c4;clear c4;by_cases c5 : 0 ≤ x8_1
    ·rw [if_pos c5] at H;have c5b0 : decide (0 ≤ x8_1) = true:=decide_eq_true c5;clear c5;replace H:=Option.bind_eq_some_iff.mp H;obtain ⟨⟨t474,t475⟩,A60,H⟩ := H;replace H : (if 0 ≤ x7_1 then (if x7_1 < (l0.length : Int) then ((gangsawref39_lead.f k1 ((rd_T31 l0 x7_1).f0) ((rd_T31 l0 x7_1).f1) a1 a2).bind fun bt477=>(if t474 > bt477.1 then (gangsawref39_extreme.l0 k1 l0 a1 a2 x8_1 (wrap64 (x8_1 + 1))) else (if t474 = bt477.1 then (if t475 > bt477.2 then (gangsawref39_extreme.l0 k1 l0 a1 a2 x8_1 (wrap64 (x8_1 + 1))) else (gangsawref39_extreme.l0 k1 l0 a1 a2 x7_1 (wrap64 (x8_1 + 1)))) else (gangsawref39_extreme.l0 k1 l0 a1 a2 x7_1 (wrap64 (x8_1 + 1)))))) else (none)) else (none)) = some r:=H;have A6:=am A60;clear A60;by_cases c7 : 0 ≤ x7_1
     ·rw [if_pos c7] at H;have c7b0 : decide (0 ≤ x7_1) = true:=decide_eq_true c7;clear c7;by_cases c8 : x7_1 < (l0.length : Int)
      ·rw [if_pos c8] at H;have c8b0 : decide (x7_1 < (l0.length : Int)) = true:=decide_eq_true c8;clear c8;replace H:=Option.bind_eq_some_iff.mp H;obtain ⟨⟨t477,t478⟩,A90,H⟩ := H;replace H : (if t474 > t477 then (gangsawref39_extreme.l0 k1 l0 a1 a2 x8_1 (wrap64 (x8_1 + 1))) else (if t474 = t477 then (if t475 > t478 then (gangsawref39_extreme.l0 k1 l0 a1 a2 x8_1 (wrap64 (x8_1 + 1))) else (gangsawref39_extreme.l0 k1 l0 a1 a2 x7_1 (wrap64 (x8_1 + 1)))) else (gangsawref39_extreme.l0 k1 l0 a1 a2 x7_1 (wrap64 (x8_1 + 1))))) = some r:=H;have A9:=am A90;clear A90;by_cases c10 : t474 > t477
       ·rw [if_pos c10] at H;have c10b0 : decide (t477 < t474) = true:=decide_eq_true c10;clear c10;have H':=am H;clear H;have p473 : 0 ≤ (x8_1 : Int):=of_decide_eq_true (by first|(with_reducible assumption)|assumption);have q473 : x8_1 < (l0.length : Int):=of_decide_eq_true (by first|(with_reducible assumption)|assumption);obtain ⟨ad473,e473,hx473_0,hx473_1⟩ := at_T31 HR0.out x8_1 p473 q473
        cases e473
        replace hx473_0:=(HB.out.cell (World.block_lt_of_cell? w _ hx473_0)).trans hx473_0;replace hx473_1:=(HB.out.cell (World.block_lt_of_cell? w _ hx473_1)).trans hx473_1;replace p473:=eq_true p473;replace q473:=eq_true q473
        go_wp2_with (first|((with_reducible refine gate_callee (f:=73) rfl ?_);refine goesL_ (some 26) rfl rfl Try.func73 (by kernel_rfl) rfl #[.agg #[.int .i64 ((rd_T31 l0 x8_1).f0),.int .i64 ((rd_T31 l0 x8_1).f1)],.int .i64 a1,.bool a2] rfl (by (try simp only [mT,mC,mN]);first|done|rfl|(simp only [lDr,lTk];rfl)) ?_;(with_reducible refine (gangsawref39_lead.calls k1 ((rd_T31 l0 x8_1).f0) ((rd_T31 l0 x8_1).f1) a1 a2 t474 t475 _ A6.out).mono ?_);rintro e w11 ⟨rfl,hb⟩;refine ⟨_,rfl, ?_⟩;replace HB:=bsa HB hb;(try clear hb);(try clear hb2);(try clear hk);(try clear hi);have p476 : 0 ≤ (x7_1 : Int):=of_decide_eq_true (by first|(with_reducible assumption)|assumption);have q476 : x7_1 < (l0.length : Int):=of_decide_eq_true (by first|(with_reducible assumption)|assumption);obtain ⟨ad476,e476,hx476_0,hx476_1⟩ := at_T31 HR0.out x7_1 p476 q476;obtain rfl : ad473 = ad476:=(by injection e476);replace hx476_0:=(HB.out.cell (World.block_lt_of_cell? w _ hx476_0)).trans hx476_0;replace hx476_1:=(HB.out.cell (World.block_lt_of_cell? w _ hx476_1)).trans hx476_1;replace p476:=eq_true p476;replace q476:=eq_true q476)|((with_reducible refine gate_callee (f:=73) rfl ?_);refine goesL_ (some 36) rfl rfl Try.func73 (by kernel_rfl) rfl #[.agg #[.int .i64 ((rd_T31 l0 x7_1).f0),.int .i64 ((rd_T31 l0 x7_1).f1)],.int .i64 a1,.bool a2] rfl (by (try simp only [mT,mC,mN]);first|done|rfl|(simp only [lDr,lTk];rfl)) ?_;(with_reducible refine (gangsawref39_lead.calls k1 ((rd_T31 l0 x7_1).f0) ((rd_T31 l0 x7_1).f1) a1 a2 t477 t478 _ A9.out).mono ?_);rintro e w12 ⟨rfl,hb⟩;refine ⟨_,rfl, ?_⟩;replace HB:=bsa HB hb;(try clear hb);(try clear hb2);(try clear hk);(try clear hi)))
        go_roundg k1
        case measure=>have:=HK1.out;omega
        case rel=>exact ⟨(x8_1),(wrap64 (x8_1 + 1)),(by first|rfl|(simp;done)|(simp [*];done)),(by first|rfl|(simp;done)|(simp [*];done)),H',⟨by have:=HK1.out;omega⟩,⟨by repeat (first|(with_reducible first|exact HB.out|apply lA|apply lN|apply lD)|exact HB.out)⟩⟩
       ·rw [if_neg c10] at H;have c10b0 : decide (t477 < t474) = false:=decide_eq_false c10;clear c10;by_cases c13 : t474 = t477
        ·rw [if_pos c13] at H;have c13b0 : (t474 == t477) = true:=beq_iff_eq.mpr c13;have c13b1 : (t474 != t477) = false:=bne_eq_false_iff_eq.mpr c13;clear c13;by_cases c14 : t475 > t478
         ·rw [if_pos c14] at H;have c14b0 : decide (t478 < t475) = true:=decide_eq_true c14;clear c14;have H':=am H;clear H;have p473 : 0 ≤ (x8_1 : Int):=of_decide_eq_true (by first|(with_reducible assumption)|assumption);have q473 : x8_1 < (l0.length : Int):=of_decide_eq_true (by first|(with_reducible assumption)|assumption);obtain ⟨ad473,e473,hx473_0,hx473_1⟩ := at_T31 HR0.out x8_1 p473 q473
          cases e473
          replace hx473_0:=(HB.out.cell (World.block_lt_of_cell? w _ hx473_0)).trans hx473_0;replace hx473_1:=(HB.out.cell (World.block_lt_of_cell? w _ hx473_1)).trans hx473_1;replace p473:=eq_true p473;replace q473:=eq_true q473
          go_wp2_with (first|((with_reducible refine gate_callee (f:=73) rfl ?_);refine goesL_ (some 26) rfl rfl Try.func73 (by kernel_rfl) rfl #[.agg #[.int .i64 ((rd_T31 l0 x8_1).f0),.int .i64 ((rd_T31 l0 x8_1).f1)],.int .i64 a1,.bool a2] rfl (by (try simp only [mT,mC,mN]);first|done|rfl|(simp only [lDr,lTk];rfl)) ?_;(with_reducible refine (gangsawref39_lead.calls k1 ((rd_T31 l0 x8_1).f0) ((rd_T31 l0 x8_1).f1) a1 a2 t474 t475 _ A6.out).mono ?_);rintro e w15 ⟨rfl,hb⟩;refine ⟨_,rfl, ?_⟩;replace HB:=bsa HB hb;(try clear hb);(try clear hb2);(try clear hk);(try clear hi);have p476 : 0 ≤ (x7_1 : Int):=of_decide_eq_true (by first|(with_reducible assumption)|assumption);have q476 : x7_1 < (l0.length : Int):=of_decide_eq_true (by first|(with_reducible assumption)|assumption);obtain ⟨ad476,e476,hx476_0,hx476_1⟩ := at_T31 HR0.out x7_1 p476 q476;obtain rfl : ad473 = ad476:=(by injection e476);replace hx476_0:=(HB.out.cell (World.block_lt_of_cell? w _ hx476_0)).trans hx476_0;replace hx476_1:=(HB.out.cell (World.block_lt_of_cell? w _ hx476_1)).trans hx476_1;replace p476:=eq_true p476;replace q476:=eq_true q476)|((with_reducible refine gate_callee (f:=73) rfl ?_);refine goesL_ (some 36) rfl rfl Try.func73 (by kernel_rfl) rfl #[.agg #[.int .i64 ((rd_T31 l0 x7_1).f0),.int .i64 ((rd_T31 l0 x7_1).f1)],.int .i64 a1,.bool a2] rfl (by (try simp only [mT,mC,mN]);first|done|rfl|(simp only [lDr,lTk];rfl)) ?_;(with_reducible refine (gangsawref39_lead.calls k1 ((rd_T31 l0 x7_1).f0) ((rd_T31 l0 x7_1).f1) a1 a2 t477 t478 _ A9.out).mono ?_);rintro e w16 ⟨rfl,hb⟩;refine ⟨_,rfl, ?_⟩;replace HB:=bsa HB hb;(try clear hb);(try clear hb2);(try clear hk);(try clear hi)))
          go_roundg k1
          case measure=>have:=HK1.out;omega
          case rel=>exact ⟨(x8_1),(wrap64 (x8_1 + 1)),(by first|rfl|(simp;done)|(simp [*];done)),(by first|rfl|(simp;done)|(simp [*];done)),H',⟨by have:=HK1.out;omega⟩,⟨by repeat (first|(with_reducible first|exact HB.out|apply lA|apply lN|apply lD)|exact HB.out)⟩⟩
         ·rw [if_neg c14] at H;have c14b0 : decide (t478 < t475) = false:=decide_eq_false c14;clear c14;have H':=am H;clear H;have p473 : 0 ≤ (x8_1 : Int):=of_decide_eq_true (by first|(with_reducible assumption)|assumption);have q473 : x8_1 < (l0.length : Int):=of_decide_eq_true (by first|(with_reducible assumption)|assumption);obtain ⟨ad473,e473,hx473_0,hx473_1⟩ := at_T31 HR0.out x8_1 p473 q473
          cases e473
          replace hx473_0:=(HB.out.cell (World.block_lt_of_cell? w _ hx473_0)).trans hx473_0;replace hx473_1:=(HB.out.cell (World.block_lt_of_cell? w _ hx473_1)).trans hx473_1;replace p473:=eq_true p473;replace q473:=eq_true q473
          go_wp2_with (first|((with_reducible refine gate_callee (f:=73) rfl ?_);refine goesL_ (some 26) rfl rfl Try.func73 (by kernel_rfl) rfl #[.agg #[.int .i64 ((rd_T31 l0 x8_1).f0),.int .i64 ((rd_T31 l0 x8_1).f1)],.int .i64 a1,.bool a2] rfl (by (try simp only [mT,mC,mN]);first|done|rfl|(simp only [lDr,lTk];rfl)) ?_;(with_reducible refine (gangsawref39_lead.calls k1 ((rd_T31 l0 x8_1).f0) ((rd_T31 l0 x8_1).f1) a1 a2 t474 t475 _ A6.out).mono ?_);rintro e w17 ⟨rfl,hb⟩;refine ⟨_,rfl, ?_⟩;replace HB:=bsa HB hb;(try clear hb);(try clear hb2);(try clear hk);(try clear hi);have p476 : 0 ≤ (x7_1 : Int):=of_decide_eq_true (by first|(with_reducible assumption)|assumption);have q476 : x7_1 < (l0.length : Int):=of_decide_eq_true (by first|(with_reducible assumption)|assumption);obtain ⟨ad476,e476,hx476_0,hx476_1⟩ := at_T31 HR0.out x7_1 p476 q476;obtain rfl : ad473 = ad476:=(by injection e476);replace hx476_0:=(HB.out.cell (World.block_lt_of_cell? w _ hx476_0)).trans hx476_0;replace hx476_1:=(HB.out.cell (World.block_lt_of_cell? w _ hx476_1)).trans hx476_1;replace p476:=eq_true p476;replace q476:=eq_true q476)|((with_reducible refine gate_callee (f:=73) rfl ?_);refine goesL_ (some 36) rfl rfl Try.func73 (by kernel_rfl) rfl #[.agg #[.int .i64 ((rd_T31 l0 x7_1).f0),.int .i64 ((rd_T31 l0 x7_1).f1)],.int .i64 a1,.bool a2] rfl (by (try simp only [mT,mC,mN]);first|done|rfl|(simp only [lDr,lTk];rfl)) ?_;(with_reducible refine (gangsawref39_lead.calls k1 ((rd_T31 l0 x7_1).f0) ((rd_T31 l0 x7_1).f1) a1 a2 t477 t478 _ A9.out).mono ?_);rintro e w18 ⟨rfl,hb⟩;refine ⟨_,rfl, ?_⟩;replace HB:=bsa HB hb;(try clear hb);(try clear hb2);(try clear hk);(try clear hi)))
          go_roundg k1
          case measure=>have:=HK1.out;omega
          case rel=>exact ⟨(x7_1),(wrap64 (x8_1 + 1)),(by first|rfl|(simp;done)|(simp [*];done)),(by first|rfl|(simp;done)|(simp [*];done)),H',⟨by have:=HK1.out;omega⟩,⟨by repeat (first|(with_reducible first|exact HB.out|apply lA|apply lN|apply lD)|exact HB.out)⟩⟩
        ·rw [if_neg c13] at H;have c13b0 : (t474 == t477) = false:=beq_eq_false_iff_ne.mpr c13;have c13b1 : (t474 != t477) = true:=bne_iff_ne.mpr c13;have H':=am H;clear H;have p473 : 0 ≤ (x8_1 : Int):=of_decide_eq_true (by first|(with_reducible assumption)|assumption);have q473 : x8_1 < (l0.length : Int):=of_decide_eq_true (by first|(with_reducible assumption)|assumption);obtain ⟨ad473,e473,hx473_0,hx473_1⟩ := at_T31 HR0.out x8_1 p473 q473
         cases e473
         replace hx473_0:=(HB.out.cell (World.block_lt_of_cell? w _ hx473_0)).trans hx473_0;replace hx473_1:=(HB.out.cell (World.block_lt_of_cell? w _ hx473_1)).trans hx473_1;replace p473:=eq_true p473;replace q473:=eq_true q473
         go_wp2_with (first|((with_reducible refine gate_callee (f:=73) rfl ?_);refine goesL_ (some 26) rfl rfl Try.func73 (by kernel_rfl) rfl #[.agg #[.int .i64 ((rd_T31 l0 x8_1).f0),.int .i64 ((rd_T31 l0 x8_1).f1)],.int .i64 a1,.bool a2] rfl (by (try simp only [mT,mC,mN]);first|done|rfl|(simp only [lDr,lTk];rfl)) ?_;(with_reducible refine (gangsawref39_lead.calls k1 ((rd_T31 l0 x8_1).f0) ((rd_T31 l0 x8_1).f1) a1 a2 t474 t475 _ A6.out).mono ?_);rintro e w19 ⟨rfl,hb⟩;refine ⟨_,rfl, ?_⟩;replace HB:=bsa HB hb;(try clear hb);(try clear hb2);(try clear hk);(try clear hi);have p476 : 0 ≤ (x7_1 : Int):=of_decide_eq_true (by first|(with_reducible assumption)|assumption);have q476 : x7_1 < (l0.length : Int):=of_decide_eq_true (by first|(with_reducible assumption)|assumption);obtain ⟨ad476,e476,hx476_0,hx476_1⟩ := at_T31 HR0.out x7_1 p476 q476;obtain rfl : ad473 = ad476:=(by injection e476);replace hx476_0:=(HB.out.cell (World.block_lt_of_cell? w _ hx476_0)).trans hx476_0;replace hx476_1:=(HB.out.cell (World.block_lt_of_cell? w _ hx476_1)).trans hx476_1;replace p476:=eq_true p476;replace q476:=eq_true q476)|((with_reducible refine gate_callee (f:=73) rfl ?_);refine goesL_ (some 36) rfl rfl Try.func73 (by kernel_rfl) rfl #[.agg #[.int .i64 ((rd_T31 l0 x7_1).f0),.int .i64 ((rd_T31 l0 x7_1).f1)],.int .i64 a1,.bool a2] rfl (by (try simp only [mT,mC,mN]);first|done|rfl|(simp only [lDr,lTk];rfl)) ?_;(with_reducible refine (gangsawref39_lead.calls k1 ((rd_T31 l0 x7_1).f0) ((rd_T31 l0 x7_1).f1) a1 a2 t477 t478 _ A9.out).mono ?_);rintro e w20 ⟨rfl,hb⟩;refine ⟨_,rfl, ?_⟩;replace HB:=bsa HB hb;(try clear hb);(try clear hb2);(try clear hk);(try clear hi)))
         go_roundg k1
         case measure=>have:=HK1.out;omega
         case rel=>exact ⟨(x7_1),(wrap64 (x8_1 + 1)),(by first|rfl|(simp;done)|(simp [*];done)),(by first|rfl|(simp;done)|(simp [*];done)),H',⟨by have:=HK1.out;omega⟩,⟨by repeat (first|(with_reducible first|exact HB.out|apply lA|apply lN|apply lD)|exact HB.out)⟩⟩
      (rw [if_neg c8] at H;exact absurd H (by simp))
     (rw [if_neg c7] at H;exact absurd H (by simp))
    (rw [if_neg c5] at H;exact absurd H (by simp))
   ·rw [if_neg c4] at H;have c4b0 : decide (x8_1 < (l0.length : Int)) = false:=decide_eq_false c4;clear c4;obtain rfl:=Option.some.inj H
    go_wp2
    go_ret
    exact ⟨by first|rfl|(simp [errW_none,errW_some] <;> rfl)|(simp [*,errW_none,errW_some] <;> rfl),by repeat (first|(with_reducible first|exact HB.out|apply lA|apply lN|apply lD)|exact HB.out)⟩
def gangsawref39_prevents.f (a0_0 : Int) (a0_1 : Int) (a1_0 : Int) (a1_1 : Int) (a2 : Int) : Option (Bool):=if a2 = 0 then (some (decide (a1_1 < a0_1))) else (if a2 = 1 then (some (decide (a1_1 > a0_1))) else (if a2 = 2 then (some (decide (a1_0 > a0_0))) else (some (decide (a1_0 < a0_0)))))
set_option maxHeartbeats 8000000 in
set_option maxRecDepth 100000 in
theorem gangsawref39_prevents.calls (a0_0 : Int) (a0_1 : Int) (a1_0 : Int) (a1_1 : Int) (a2 : Int) (r : Bool) (w : World) (h : gangsawref39_prevents.f a0_0 a0_1 a1_0 a1_1 a2 = some r) :
  Calls Try.prog 50 #[.agg #[.int .i64 a0_0,.int .i64 a0_1],.agg #[.int .i64 a1_0,.int .i64 a1_1],.int .i64 a2] w fun e w'=>e = .returned (.bool r) ∧ Below w.heap.size w w':=by
 have hu31:=Try.underlying31;have HB:=am (Below.refl w.heap.size w);have H : (if a2 = 0 then (some (decide (a1_1 < a0_1))) else (if a2 = 1 then (some (decide (a1_1 > a0_1))) else (if a2 = 2 then (some (decide (a1_0 > a0_0))) else (some (decide (a1_0 < a0_0)))))) = some r:=h;clear h;by_cases c4 : a2 = 0
 ·rw [if_pos c4] at H;have c4b0 : (a2 == 0) = true:=beq_iff_eq.mpr c4;have c4b1 : (a2 != 0) = false:=bne_eq_false_iff_eq.mpr c4;clear c4;obtain rfl:=Option.some.inj H
  go_enter Try.func50,Try.ntmps50
  go_wp2_with (first|((with_reducible refine gate_dst (N:=3) rfl ?_);refine box_event ?hg (N:=3) ?hd (cs:=#[.int .i64 a0_0,.int .i64 a0_1]) (t:=31) ?hr ?_;(case hd=>rfl);(case hg=>rfl);(case hr=>first|(go_simp;done)|(go_simp;rfl));intro gb479 hg w5 hbox hb;have BK479:=am hbox;have GW479:=bza HB hg;have GE479:=bza HB hg;replace HB:=bsa HB hb;clear hb hbox hg)|((with_reducible refine gate_dst (N:=4) rfl ?_);refine box_event ?hg (N:=4) ?hd (cs:=#[.int .i64 a1_0,.int .i64 a1_1]) (t:=31) ?hr ?_;(case hd=>rfl);(case hg=>rfl);(case hr=>first|(go_simp;done)|(go_simp;rfl));intro gb480 hg w6 hbox hb;have BK480:=am hbox;have GW480:=bza HB hg;have GE480:=bza HB hg;have NB479_480:=bla BK479 hg;have NB480_479:=bga BK479 hg;replace BK479:=bba BK479 hb;replace HB:=bsa HB hb;clear hb hbox hg;have hnb7:=NB480_479.out;have hnc7:=NB479_480.out;obtain ⟨hcz8_0,hcz8_1,hfz8_0,hfz8_1⟩ := c2_ BK480.out;obtain ⟨hcz9_0,hcz9_1,hfz9_0,hfz9_1⟩ := c2_ BK479.out))
  go_ret
  exact ⟨by first|rfl|(simp [errW_none,errW_some] <;> rfl)|(simp [*,errW_none,errW_some] <;> rfl),by repeat (first|(with_reducible first|exact HB.out|apply lA|apply lN|apply lD|refine lS ?_ GE479.out|refine lS ?_ GE480.out)|exact HB.out)⟩
 ·rw [if_neg c4] at H;have c4b0 : (a2 == 0) = false:=beq_eq_false_iff_ne.mpr c4;have c4b1 : (a2 != 0) = true:=bne_iff_ne.mpr c4;by_cases c10 : a2 = 1
  ·rw [if_pos c10] at H;have c10b0 : (a2 == 1) = true:=beq_iff_eq.mpr c10;have c10b1 : (a2 != 1) = false:=bne_eq_false_iff_eq.mpr c10;clear c10;obtain rfl:=Option.some.inj H
   go_enter Try.func50,Try.ntmps50
   go_wp2_with (first|((with_reducible refine gate_dst (N:=3) rfl ?_);refine box_event ?hg (N:=3) ?hd (cs:=#[.int .i64 a0_0,.int .i64 a0_1]) (t:=31) ?hr ?_;(case hd=>rfl);(case hg=>rfl);(case hr=>first|(go_simp;done)|(go_simp;rfl));intro gb479 hg w11 hbox hb;have BK479:=am hbox;have GW479:=bza HB hg;have GE479:=bza HB hg;replace HB:=bsa HB hb;clear hb hbox hg)|((with_reducible refine gate_dst (N:=4) rfl ?_);refine box_event ?hg (N:=4) ?hd (cs:=#[.int .i64 a1_0,.int .i64 a1_1]) (t:=31) ?hr ?_;(case hd=>rfl);(case hg=>rfl);(case hr=>first|(go_simp;done)|(go_simp;rfl));intro gb480 hg w12 hbox hb;have BK480:=am hbox;have GW480:=bza HB hg;have GE480:=bza HB hg;have NB479_480:=bla BK479 hg;have NB480_479:=bga BK479 hg;replace BK479:=bba BK479 hb;replace HB:=bsa HB hb;clear hb hbox hg;have hnb13:=NB480_479.out;have hnc13:=NB479_480.out;obtain ⟨hcz14_0,hcz14_1,hfz14_0,hfz14_1⟩ := c2_ BK480.out;obtain ⟨hcz15_0,hcz15_1,hfz15_0,hfz15_1⟩ := c2_ BK479.out))
   go_ret
   exact ⟨by first|rfl|(simp [errW_none,errW_some] <;> rfl)|(simp [*,errW_none,errW_some] <;> rfl),by repeat (first|(with_reducible first|exact HB.out|apply lA|apply lN|apply lD|refine lS ?_ GE479.out|refine lS ?_ GE480.out)|exact HB.out)⟩
  ·rw [if_neg c10] at H;have c10b0 : (a2 == 1) = false:=beq_eq_false_iff_ne.mpr c10;have c10b1 : (a2 != 1) = true:=bne_iff_ne.mpr c10;by_cases c16 : a2 = 2
   ·rw [if_pos c16] at H;have c16b0 : (a2 == 2) = true:=beq_iff_eq.mpr c16;have c16b1 : (a2 != 2) = false:=bne_eq_false_iff_eq.mpr c16;clear c16;obtain rfl:=Option.some.inj H
    go_enter Try.func50,Try.ntmps50
    go_wp2_with (first|((with_reducible refine gate_dst (N:=3) rfl ?_);refine box_event ?hg (N:=3) ?hd (cs:=#[.int .i64 a0_0,.int .i64 a0_1]) (t:=31) ?hr ?_;(case hd=>rfl);(case hg=>rfl);(case hr=>first|(go_simp;done)|(go_simp;rfl));intro gb479 hg w17 hbox hb;have BK479:=am hbox;have GW479:=bza HB hg;have GE479:=bza HB hg;replace HB:=bsa HB hb;clear hb hbox hg)|((with_reducible refine gate_dst (N:=4) rfl ?_);refine box_event ?hg (N:=4) ?hd (cs:=#[.int .i64 a1_0,.int .i64 a1_1]) (t:=31) ?hr ?_;(case hd=>rfl);(case hg=>rfl);(case hr=>first|(go_simp;done)|(go_simp;rfl));intro gb480 hg w18 hbox hb;have BK480:=am hbox;have GW480:=bza HB hg;have GE480:=bza HB hg;have NB479_480:=bla BK479 hg;have NB480_479:=bga BK479 hg;replace BK479:=bba BK479 hb;replace HB:=bsa HB hb;clear hb hbox hg;have hnb19:=NB480_479.out;have hnc19:=NB479_480.out;obtain ⟨hcz20_0,hcz20_1,hfz20_0,hfz20_1⟩ := c2_ BK480.out;obtain ⟨hcz21_0,hcz21_1,hfz21_0,hfz21_1⟩ := c2_ BK479.out))
    go_ret
    exact ⟨by first|rfl|(simp [errW_none,errW_some] <;> rfl)|(simp [*,errW_none,errW_some] <;> rfl),by repeat (first|(with_reducible first|exact HB.out|apply lA|apply lN|apply lD|refine lS ?_ GE479.out|refine lS ?_ GE480.out)|exact HB.out)⟩
   ·rw [if_neg c16] at H;have c16b0 : (a2 == 2) = false:=beq_eq_false_iff_ne.mpr c16;have c16b1 : (a2 != 2) = true:=bne_iff_ne.mpr c16;obtain rfl:=Option.some.inj H
    go_enter Try.func50,Try.ntmps50
    go_wp2_with (first|((with_reducible refine gate_dst (N:=3) rfl ?_);refine box_event ?hg (N:=3) ?hd (cs:=#[.int .i64 a0_0,.int .i64 a0_1]) (t:=31) ?hr ?_;(case hd=>rfl);(case hg=>rfl);(case hr=>first|(go_simp;done)|(go_simp;rfl));intro gb479 hg w22 hbox hb;have BK479:=am hbox;have GW479:=bza HB hg;have GE479:=bza HB hg;replace HB:=bsa HB hb;clear hb hbox hg)|((with_reducible refine gate_dst (N:=4) rfl ?_);refine box_event ?hg (N:=4) ?hd (cs:=#[.int .i64 a1_0,.int .i64 a1_1]) (t:=31) ?hr ?_;(case hd=>rfl);(case hg=>rfl);(case hr=>first|(go_simp;done)|(go_simp;rfl));intro gb480 hg w23 hbox hb;have BK480:=am hbox;have GW480:=bza HB hg;have GE480:=bza HB hg;have NB479_480:=bla BK479 hg;have NB480_479:=bga BK479 hg;replace BK479:=bba BK479 hb;replace HB:=bsa HB hb;clear hb hbox hg;have hnb24:=NB480_479.out;have hnc24:=NB479_480.out;obtain ⟨hcz25_0,hcz25_1,hfz25_0,hfz25_1⟩ := c2_ BK480.out;obtain ⟨hcz26_0,hcz26_1,hfz26_0,hfz26_1⟩ := c2_ BK479.out))
    go_ret
    exact ⟨by first|rfl|(simp [errW_none,errW_some] <;> rfl)|(simp [*,errW_none,errW_some] <;> rfl),by repeat (first|(with_reducible first|exact HB.out|apply lA|apply lN|apply lD|refine lS ?_ GE479.out|refine lS ?_ GE480.out)|exact HB.out)⟩
def gangsawref39_Undercut.l0 : Nat → List (S31) → Int → Int → Int → Option (Int)
 | 0,_,_,_,_=>none
 | k + 1,x0,x1,x5,x6=>if x6 = x5 then (some (-1)) else (if 0 ≤ x6 then (if x6 < (x0.length : Int) then (if (x0.length : Int) = 0 then (none) else (if 0 ≤ (Int.tmod (wrap64 (x6 + 1)) (x0.length : Int)) then (if (Int.tmod (wrap64 (x6 + 1)) (x0.length : Int)) < (x0.length : Int) then ((gangsawref39_prevents.f ((rd_T31 x0 x6).f0) ((rd_T31 x0 x6).f1) ((rd_T31 x0 (Int.tmod (wrap64 (x6 + 1)) (x0.length : Int))).f0) ((rd_T31 x0 (Int.tmod (wrap64 (x6 + 1)) (x0.length : Int))).f1) x1).bind fun t485=>(if t485 = true then (some x6) else (gangsawref39_Undercut.l0 k x0 x1 x5 (Int.tmod (wrap64 (x6 + 1)) (x0.length : Int))))) else (none)) else (none))) else (none)) else (none))
def gangsawref39_Undercut.f (k : Nat) (l0 : List (S31)) (a1 : Int) : Option (Int):=(gangsawref39_extreme.f k l0 a1 true).bind fun t481=>((gangsawref39_extreme.f k l0 a1 false).bind fun t482=>(gangsawref39_Undercut.l0 k l0 a1 t481 t482))
def gangsawref39_Undercut.T5 : Bool × List (List Nat × List Nat):=(true,[([],[]),([],[]),([0,1],[0,1]),([2],[2]),([],[]),([],[]),([5],[5]),([],[]),([7],[7]),([6,8],[6,8]),([4,9],[4,9]),([10],[10]),([],[]),([3,11,12],[3,11,12])])
def gangsawref39_Undercut.B5 : List Nat:=[0,0,3,7,0,0,32,0,128,480,1008,2032,0,8191]
theorem gangsawref39_Undercut.tab5 : rtab .any (opsOf Try.f29 5) = gangsawref39_Undercut.T5:=by kernel_rfl
theorem gangsawref39_Undercut.bits5 : waitsOk gangsawref39_Undercut.T5.2 gangsawref39_Undercut.B5 = true:=by kernel_rfl
set_option maxHeartbeats 8000000 in
set_option maxRecDepth 100000 in
theorem gangsawref39_Undercut.calls (k : Nat) (A0 : Option Addr) (c0 : Nat) (l0 : List (S31)) (a1 : Int) (r : Int) (w : World) (hr0 : Kd.C k31 w A0 l0.length l0) (hc0 : l0.length ≤ c0) (h : gangsawref39_Undercut.f k l0 a1 = some r) :
  Calls Try.prog 29 #[.slice A0 l0.length c0,.int .i64 a1] w fun e w'=>e = .returned (.int .i64 r) ∧ Below w.heap.size w w':=by
 have hu31:=Try.underlying31;have HR0:=am hr0;have HC0:=am hc0;clear hr0 hc0;have HB:=am (Below.refl w.heap.size w);have H : ((gangsawref39_extreme.f k l0 a1 true).bind fun t481=>((gangsawref39_extreme.f k l0 a1 false).bind fun t482=>(gangsawref39_Undercut.l0 k l0 a1 t481 t482))) = some r:=h;clear h;replace H:=Option.bind_eq_some_iff.mp H;obtain ⟨t481,A30,H⟩ := H;replace H : ((gangsawref39_extreme.f k l0 a1 false).bind fun t482=>(gangsawref39_Undercut.l0 k l0 a1 t481 t482)) = some r:=H;have A3:=am A30;clear A30;replace H:=Option.bind_eq_some_iff.mp H;obtain ⟨t482,A40,H⟩ := H;replace H : (gangsawref39_Undercut.l0 k l0 a1 t481 t482) = some r:=H;have A4:=am A40;clear A40;have H':=am H;clear H
 go_enter Try.func29,Try.ntmps29
 go_wp2_with (first|((with_reducible refine gate_callee (f:=49) rfl ?_);refine goesL_ (some 9) rfl rfl Try.func49 (by kernel_rfl) rfl #[.slice A0 l0.length c0,.int .i64 a1,.bool true] rfl (by (try simp only [mT,mC,mN]);first|done|rfl|(simp only [lDr,lTk];rfl)) ?_;(with_reducible refine (gangsawref39_extreme.calls k _ _ l0 a1 true t481 _ ?side1 ?side2 A3.out).mono ?_);(case side1=>repeat (first|exact HR0.out|(with_reducible first|apply kA|apply kN|apply kD)));(case side2=>exact HC0.out);rintro e w5 ⟨rfl,hb⟩;refine ⟨_,rfl, ?_⟩;replace HB:=bsa HB hb;(try clear hb);(try clear hb2);(try clear hk);(try clear hi))|((with_reducible refine gate_callee (f:=49) rfl ?_);refine goesL_ (some 12) rfl rfl Try.func49 (by kernel_rfl) rfl #[.slice A0 l0.length c0,.int .i64 a1,.bool false] rfl (by (try simp only [mT,mC,mN]);first|done|rfl|(simp only [lDr,lTk];rfl)) ?_;(with_reducible refine (gangsawref39_extreme.calls k _ _ l0 a1 false t482 _ ?side1 ?side2 A4.out).mono ?_);(case side1=>exact cq HR0.out HB.out);(case side2=>exact HC0.out);rintro e w6 ⟨rfl,hb⟩;refine ⟨_,rfl, ?_⟩;replace HB:=bsa HB hb;(try clear hb);(try clear hb2);(try clear hk);(try clear hi)))
 go_loopg [6] k (fun kq v6 w'=>∃ (x6_1 : Int),v6 = .int .i64 x6_1 ∧ Aside0 (gangsawref39_Undercut.l0 kq l0 a1 t481 x6_1 = some r) ∧ Aside0 (kq ≤ k) ∧ Aside0 (Below w.heap.size w w'))
 case atStart=>exact ⟨(t482),(by first|rfl|(simp;done)|(simp [*];done)),H',⟨Nat.le_refl _⟩,⟨by repeat (first|(with_reducible first|exact HB.out|apply lA|apply lN|apply lD)|exact HB.out)⟩⟩
 case round =>
  clear H'
  try clear c2
  try clear p2
  try clear c4
  obtain ⟨x6_1,rfl,HA,HK1,HB⟩ := hrel
  cases gk with
  | zero=>exact absurd HA.out (by simp [gangsawref39_Undercut.l0])
  | succ k1 =>
   have H:=HA.out;clear HA;simp only [gangsawref39_Undercut.l0] at H;by_cases c7 : x6_1 = t481
   ·rw [if_pos c7] at H;have c7b0 : (x6_1 == t481) = true:=beq_iff_eq.mpr c7;have c7b1 : (x6_1 != t481) = false:=bne_eq_false_iff_eq.mpr c7;clear c7;obtain rfl:=Option.some.inj H
    go_wp2
    go_ret
    exact ⟨by first|rfl|(simp [errW_none,errW_some] <;> rfl)|(simp [*,errW_none,errW_some] <;> rfl),by repeat (first|(with_reducible first|exact HB.out|apply lA|apply lN|apply lD)|exact HB.out)⟩
   ·rw [if_neg c7] at H;have c7b0 : (x6_1 == t481) = false:=beq_eq_false_iff_ne.mpr c7;have c7b1 : (x6_1 != t481) = true:=bne_iff_ne.mpr c7;by_cases c8 : 0 ≤ x6_1
    ·rw [if_pos c8] at H;have c8b0 : decide (0 ≤ x6_1) = true:=decide_eq_true c8;clear c8;by_cases c9 : x6_1 < (l0.length : Int)
     ·rw [if_pos c9] at H;have c9b0 : decide (x6_1 < (l0.length : Int)) = true:=decide_eq_true c9;clear c9;by_cases c10 : (l0.length : Int) = 0
      (rw [if_pos c10] at H;exact absurd H (by simp))
      ·rw [if_neg c10] at H;have c10b0 : ((l0.length : Int) == 0) = false:=beq_eq_false_iff_ne.mpr c10;have c10b1 : ((l0.length : Int) != 0) = true:=bne_iff_ne.mpr c10
       have c10b2 : ¬ (l0 = []):=fun h_=>c10 (by rw [h_];rfl)
       obtain ⟨ji11,hji11⟩ : ∃ j_ : Int,(Int.tmod (wrap64 (x6_1 + 1)) (l0.length : Int)) = j_:=⟨_,rfl⟩
       replace H : (if 0 ≤ (ji11) then (if (ji11) < (l0.length : Int) then ((gangsawref39_prevents.f ((rd_T31 l0 x6_1).f0) ((rd_T31 l0 x6_1).f1) ((rd_T31 l0 (ji11)).f0) ((rd_T31 l0 (ji11)).f1) a1).bind fun t485=>(if t485 = true then (some x6_1) else (gangsawref39_Undercut.l0 k1 l0 a1 t481 ji11))) else (none)) else (none)) = some r:=by first|(rw [hji11] at H;exact H)|(simp only [hji11] at H ⊢;exact H)
       by_cases c12 : 0 ≤ (ji11)
       ·rw [if_pos c12] at H;have c12b0 : decide (0 ≤ (ji11)) = true:=decide_eq_true c12;clear c12;by_cases c13 : (ji11) < (l0.length : Int)
        ·rw [if_pos c13] at H;have c13b0 : decide ((ji11) < (l0.length : Int)) = true:=decide_eq_true c13;clear c13;replace H:=Option.bind_eq_some_iff.mp H;obtain ⟨t485,A140,H⟩ := H;replace H : (if t485 = true then (some x6_1) else (gangsawref39_Undercut.l0 k1 l0 a1 t481 ji11)) = some r:=H;have A14:=am A140;clear A140;by_cases c15 : t485 = true
         ·subst c15
          have H1 : (some x6_1) = some r:=by rw [if_pos rfl] at H;exact H
          clear H;have H:=H1;clear H1;obtain rfl:=Option.some.inj H
          try go_wp2
          replace HB:=hda HB;have p483 : 0 ≤ (x6_1 : Int):=of_decide_eq_true (by first|(with_reducible assumption)|assumption);have q483 : x6_1 < (l0.length : Int):=of_decide_eq_true (by first|(with_reducible assumption)|assumption);obtain ⟨ad483,e483,hx483_0,hx483_1⟩ := at_T31 HR0.out x6_1 p483 q483;have hw483_1:=hx483_1;have hw483_0:=hx483_0
          cases e483
          replace hx483_0:=(HB.out.cell (World.block_lt_of_cell? w _ hx483_0)).trans hx483_0;replace hx483_1:=(HB.out.cell (World.block_lt_of_cell? w _ hx483_1)).trans hx483_1;replace p483:=eq_true p483;replace q483:=eq_true q483;have p484 : 0 ≤ ((ji11) : Int):=of_decide_eq_true (by first|(with_reducible assumption)|assumption);have q484 : (ji11) < (l0.length : Int):=of_decide_eq_true (by first|(with_reducible assumption)|assumption);obtain ⟨ad484,e484,hx484_0,hx484_1⟩ := at_T31 HR0.out (ji11) p484 q484;have hw484_1:=hx484_1;have hw484_0:=hx484_0
          obtain rfl : ad483 = ad484:=(by injection e484)
          replace hx484_0:=(HB.out.cell (World.block_lt_of_cell? w _ hx484_0)).trans hx484_0;replace hx484_1:=(HB.out.cell (World.block_lt_of_cell? w _ hx484_1)).trans hx484_1;replace p484:=eq_true p484;replace q484:=eq_true q484
          refine start_ (n:=14) (S:=fun w'=>w'.cell? (ad483.add ((x6_1).toNat * 2)) = some (.int .i64 ((rd_T31 l0 x6_1).f0)) ∧ w'.cell? ⟨(ad483.add ((x6_1).toNat * 2)).block,(ad483.add ((x6_1).toNat * 2)).off + 1,none⟩ = some (.int .i64 ((rd_T31 l0 x6_1).f1)) ∧ w'.cell? (ad483.add (((ji11)).toNat * 2)) = some (.int .i64 ((rd_T31 l0 (ji11)).f0)) ∧ w'.cell? ⟨(ad483.add (((ji11)).toNat * 2)).block,(ad483.add (((ji11)).toNat * 2)).off + 1,none⟩ = some (.int .i64 ((rd_T31 l0 (ji11)).f1))) (ds:=[]) #[f_,f_,f_,f_,f_,f_,f_,f_,f_,f_,f_,f_,f_,f_] (by kernel_rfl) rfl rfl ⟨((HB.out.cell (World.block_lt_of_cell? w _ hw483_0)).trans hw483_0),((HB.out.cell (World.block_lt_of_cell? w _ hw483_1)).trans hw483_1),((HB.out.cell (World.block_lt_of_cell? w _ hw484_0)).trans hw484_0),((HB.out.cell (World.block_lt_of_cell? w _ hw484_1)).trans hw484_1)⟩ (fun hHeld=>?_);refine with_tabW gangsawref39_Undercut.tab5 gangsawref39_Undercut.bits5 (fun HT_ HW_=>?_)
          generalize wr.drew = w16 at HB hx483_0 hx483_1 hx484_0 hx484_1 hHeld ⊢
          refine pu_ HT_ 0 21 (mk_ 14 1) ?_
          refine pu_ HT_ 1 22 (mk_ 14 3) ?_
          refine pu_ HT_ 2 23 (mk_ 14 7) ?_
          refine pu_ HT_ 4 25 (mk_ 14 23) ?_
          refine pu_ HT_ 5 26 (mk_ 14 55) ?_
          refine pu_ HT_ 6 27 (mk_ 14 119) ?_
          refine pu_ HT_ 7 28 (mk_ 14 247) ?_
          refine pu_ HT_ 8 29 (mk_ 14 503) ?_
          refine pu_ HT_ 9 30 (mk_ 14 1015) ?_
          refine pu_ HT_ 10 31 (mk_ 14 2039) ?_
          refine pu_ HT_ 12 33 (mk_ 14 6135) ?_
          refine ta4_ HT_ HW_ 3 24 (mk_ 14 6143) hHeld ?_
          refine ta4_ HT_ HW_ 11 32 (mk_ 14 8191) hHeld ?_
          refine one_ (i:=13) (N:=some 34) (mk_ 14 16383) rfl rfl (one_of HT_.out (by kernel_rfl)) (by decide) (fun K hK=>?_);refine goes_ Try.func50 (by kernel_rfl) rfl #[.agg #[.int .i64 ((rd_T31 l0 x6_1).f0),.int .i64 ((rd_T31 l0 x6_1).f1)],.agg #[.int .i64 ((rd_T31 l0 (ji11)).f0),.int .i64 ((rd_T31 l0 (ji11)).f1)],.int .i64 a1] (by rfl) rfl rfl (by (try simp only [mT,mC,mN]);first|done|(simp only [hji11];rfl)|rfl|(simp only [lDr,lTk];rfl)) ?_
          with_reducible refine (gangsawref39_prevents.calls ((rd_T31 l0 x6_1).f0) ((rd_T31 l0 x6_1).f1) ((rd_T31 l0 (ji11)).f0) ((rd_T31 l0 (ji11)).f1) a1 true _ A14.out).mono ?_
          rintro e w17 ⟨rfl,hb⟩;refine ⟨_,rfl, ?_⟩;replace HB:=bsa HB hb;(try clear hb);(try clear hb2);(try clear hk);(try clear hi)
          refine hK.out _ _ ⟨((HB.out.cell (World.block_lt_of_cell? w _ hw483_0)).trans hw483_0),((HB.out.cell (World.block_lt_of_cell? w _ hw483_1)).trans hw483_1),((HB.out.cell (World.block_lt_of_cell? w _ hw484_0)).trans hw484_0),((HB.out.cell (World.block_lt_of_cell? w _ hw484_1)).trans hw484_1)⟩ (fun hHeld=>?_)
          clear hK K
          refine nm_ 34 ?_
          refine done_ (done_of HT_.out (by kernel_rfl)) ?_
          try go_wp2
          go_ret
          exact ⟨by first|rfl|(simp [errW_none,errW_some] <;> rfl)|(simp only [← hji11];first|rfl|(simp [errW_none,errW_some] <;> rfl))|(simp [*,errW_none,errW_some] <;> rfl),by repeat (first|(with_reducible first|exact HB.out|apply lA|apply lN|apply lD)|exact HB.out)⟩
         ·replace c15:=Bool.eq_false_iff.mpr c15;subst c15
          have H1 : (gangsawref39_Undercut.l0 k1 l0 a1 t481 ji11) = some r:=by rw [if_neg (show ¬ (false = true) by decide)] at H;exact H
          clear H;have H:=H1;clear H1;have H':=am H;clear H
          try go_wp2
          replace HB:=hda HB;have p483 : 0 ≤ (x6_1 : Int):=of_decide_eq_true (by first|(with_reducible assumption)|assumption);have q483 : x6_1 < (l0.length : Int):=of_decide_eq_true (by first|(with_reducible assumption)|assumption);obtain ⟨ad483,e483,hx483_0,hx483_1⟩ := at_T31 HR0.out x6_1 p483 q483;have hw483_1:=hx483_1;have hw483_0:=hx483_0
          cases e483
          replace hx483_0:=(HB.out.cell (World.block_lt_of_cell? w _ hx483_0)).trans hx483_0;replace hx483_1:=(HB.out.cell (World.block_lt_of_cell? w _ hx483_1)).trans hx483_1;replace p483:=eq_true p483;replace q483:=eq_true q483;have p484 : 0 ≤ ((ji11) : Int):=of_decide_eq_true (by first|(with_reducible assumption)|assumption);have q484 : (ji11) < (l0.length : Int):=of_decide_eq_true (by first|(with_reducible assumption)|assumption);obtain ⟨ad484,e484,hx484_0,hx484_1⟩ := at_T31 HR0.out (ji11) p484 q484;have hw484_1:=hx484_1;have hw484_0:=hx484_0
          obtain rfl : ad483 = ad484:=(by injection e484)
          replace hx484_0:=(HB.out.cell (World.block_lt_of_cell? w _ hx484_0)).trans hx484_0;replace hx484_1:=(HB.out.cell (World.block_lt_of_cell? w _ hx484_1)).trans hx484_1;replace p484:=eq_true p484;replace q484:=eq_true q484
          refine start_ (n:=14) (S:=fun w'=>w'.cell? (ad483.add ((x6_1).toNat * 2)) = some (.int .i64 ((rd_T31 l0 x6_1).f0)) ∧ w'.cell? ⟨(ad483.add ((x6_1).toNat * 2)).block,(ad483.add ((x6_1).toNat * 2)).off + 1,none⟩ = some (.int .i64 ((rd_T31 l0 x6_1).f1)) ∧ w'.cell? (ad483.add (((ji11)).toNat * 2)) = some (.int .i64 ((rd_T31 l0 (ji11)).f0)) ∧ w'.cell? ⟨(ad483.add (((ji11)).toNat * 2)).block,(ad483.add (((ji11)).toNat * 2)).off + 1,none⟩ = some (.int .i64 ((rd_T31 l0 (ji11)).f1))) (ds:=[]) #[f_,f_,f_,f_,f_,f_,f_,f_,f_,f_,f_,f_,f_,f_] (by kernel_rfl) rfl rfl ⟨((HB.out.cell (World.block_lt_of_cell? w _ hw483_0)).trans hw483_0),((HB.out.cell (World.block_lt_of_cell? w _ hw483_1)).trans hw483_1),((HB.out.cell (World.block_lt_of_cell? w _ hw484_0)).trans hw484_0),((HB.out.cell (World.block_lt_of_cell? w _ hw484_1)).trans hw484_1)⟩ (fun hHeld=>?_);refine with_tabW gangsawref39_Undercut.tab5 gangsawref39_Undercut.bits5 (fun HT_ HW_=>?_)
          generalize wr.drew = w18 at HB hx483_0 hx483_1 hx484_0 hx484_1 hHeld ⊢
          refine pu_ HT_ 0 21 (mk_ 14 1) ?_
          refine pu_ HT_ 1 22 (mk_ 14 3) ?_
          refine pu_ HT_ 2 23 (mk_ 14 7) ?_
          refine pu_ HT_ 4 25 (mk_ 14 23) ?_
          refine pu_ HT_ 5 26 (mk_ 14 55) ?_
          refine pu_ HT_ 6 27 (mk_ 14 119) ?_
          refine pu_ HT_ 7 28 (mk_ 14 247) ?_
          refine pu_ HT_ 8 29 (mk_ 14 503) ?_
          refine pu_ HT_ 9 30 (mk_ 14 1015) ?_
          refine pu_ HT_ 10 31 (mk_ 14 2039) ?_
          refine pu_ HT_ 12 33 (mk_ 14 6135) ?_
          refine ta4_ HT_ HW_ 3 24 (mk_ 14 6143) hHeld ?_
          refine ta4_ HT_ HW_ 11 32 (mk_ 14 8191) hHeld ?_
          refine one_ (i:=13) (N:=some 34) (mk_ 14 16383) rfl rfl (one_of HT_.out (by kernel_rfl)) (by decide) (fun K hK=>?_);refine goes_ Try.func50 (by kernel_rfl) rfl #[.agg #[.int .i64 ((rd_T31 l0 x6_1).f0),.int .i64 ((rd_T31 l0 x6_1).f1)],.agg #[.int .i64 ((rd_T31 l0 (ji11)).f0),.int .i64 ((rd_T31 l0 (ji11)).f1)],.int .i64 a1] (by rfl) rfl rfl (by (try simp only [mT,mC,mN]);first|done|(simp only [hji11];rfl)|rfl|(simp only [lDr,lTk];rfl)) ?_
          with_reducible refine (gangsawref39_prevents.calls ((rd_T31 l0 x6_1).f0) ((rd_T31 l0 x6_1).f1) ((rd_T31 l0 (ji11)).f0) ((rd_T31 l0 (ji11)).f1) a1 false _ A14.out).mono ?_
          rintro e w19 ⟨rfl,hb⟩;refine ⟨_,rfl, ?_⟩;replace HB:=bsa HB hb;(try clear hb);(try clear hb2);(try clear hk);(try clear hi)
          refine hK.out _ _ ⟨((HB.out.cell (World.block_lt_of_cell? w _ hw483_0)).trans hw483_0),((HB.out.cell (World.block_lt_of_cell? w _ hw483_1)).trans hw483_1),((HB.out.cell (World.block_lt_of_cell? w _ hw484_0)).trans hw484_0),((HB.out.cell (World.block_lt_of_cell? w _ hw484_1)).trans hw484_1)⟩ (fun hHeld=>?_)
          clear hK K
          refine nm_ 34 ?_
          refine done_ (done_of HT_.out (by kernel_rfl)) ?_
          try go_wp2
          go_roundg k1
          case measure=>have:=HK1.out;omega
          case rel=>exact ⟨(ji11),(by first|rfl|(simp;done)|(simp only [← hji11] <;> (first|rfl|simp))|(simp [*];done)),H',⟨by have:=HK1.out;omega⟩,⟨by repeat (first|(with_reducible first|exact HB.out|apply lA|apply lN|apply lD)|exact HB.out)⟩⟩
        (rw [if_neg c13] at H;exact absurd H (by simp))
       (rw [if_neg c12] at H;exact absurd H (by simp))
     (rw [if_neg c9] at H;exact absurd H (by simp))
    (rw [if_neg c8] at H;exact absurd H (by simp))
end Go.Proofs.Ytnjikioimompnaa.PA
