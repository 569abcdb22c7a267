import Derived.Test.YtnjikioimompnaaPAx13
import Derived.Test.YtnjikioimompnaaPAx9
namespace Go.Proofs.Ytnjikioimompnaa.PA
open Go.RowKit Go.Proofs.YtnjikioimompnaaW.PrintWords Go.Proofs.YtnjikioimompnaaW.PrintLast Go.Proofs.YtnjikioimompnaaW.PrintMore
attribute [local go_sem] max2_int min2_int max_two min_two max_three min_three max_four min_four
set_option linter.unusedVariables false
set_option linter.unusedSimpArgs false
attribute [local go_sem high] eqA31
mutual
def gangsawref39_Check.j0 : Nat → List (S31) → Bool → Option (Int)
 | 0,_,_=>none
 | k + 1,x3,x19=>if x19 = true then (some 1) else (gangsawref39_Check.l0 k x3 0)
def gangsawref39_Check.l0 : Nat → List (S31) → Int → Option (Int)
 | 0,_,_=>none
 | k + 1,x3,x4=>if x4 < (x3.length : Int) then (if 0 ≤ x4 then ((gangsawref03_InPoint.f ((rd_T31 x3 x4).f0) ((rd_T31 x3 x4).f1)).bind fun t372=>(if t372 = true then (gangsawref39_Check.l0 k x3 (wrap64 (x4 + 1))) else (some 6))) else (none)) else (gangsawref39_Check.l1 k x3 0)
def gangsawref39_Check.l1 : Nat → List (S31) → Int → Option (Int)
 | 0,_,_=>none
 | k + 1,x3,x5=>if x5 < (x3.length : Int) then (if 0 ≤ x5 then (if (x3.length : Int) = 0 then (none) else (if 0 ≤ (Int.tmod (wrap64 (x5 + 1)) (x3.length : Int)) then (if (Int.tmod (wrap64 (x5 + 1)) (x3.length : Int)) < (x3.length : Int) then (if (((rd_T31 x3 x5).f0) == ((rd_T31 x3 (Int.tmod (wrap64 (x5 + 1)) (x3.length : Int))).f0) && (((rd_T31 x3 x5).f1) == ((rd_T31 x3 (Int.tmod (wrap64 (x5 + 1)) (x3.length : Int))).f1))) = true then (some 5) else (gangsawref39_Check.l1 k x3 (wrap64 (x5 + 1)))) else (none)) else (none))) else (none)) else ((gangsawref39_simple.f k x3).bind fun t375=>(if t375 = true then ((gangsawref39_Area.f k x3).bind fun t376=>(if t376 ≤ 0 then (some 1) else (some 0))) else (some 11)))
end
def gangsawref39_Check.f (k : Nat) (a0_0 : ByteArray) (l0_1 : List (S31)) : Option (Int):=(gangsawref19_Name.f k a0_0).bind fun t370=>(if t370 = true then (if (l0_1.length : Int) < 3 then (gangsawref39_Check.j0 k l0_1 true) else (gangsawref39_Check.j0 k l0_1 (decide ((l0_1.length : Int) > 64)))) else (some 4))
set_option maxHeartbeats 8000000 in
set_option maxRecDepth 100000 in
theorem gangsawref39_Check.calls (k : Nat) (a0_0 : ByteArray) (A0_1 : Option Addr) (c0_1 : Nat) (l0_1 : List (S31)) (r : Int) (w : World) (hr0_1 : Kd.C k31 w A0_1 l0_1.length l0_1) (hc0_1 : l0_1.length ≤ c0_1) (h : gangsawref39_Check.f k a0_0 l0_1 = some r) :
  Calls Try.prog 13 #[.agg #[.string a0_0,.slice A0_1 l0_1.length c0_1]] w fun e w'=>e = .returned (.int .i64 r) ∧ Below w.heap.size w w':=by
 have hu25:=Try.underlying25;have hu31:=Try.underlying31;have HR0_1:=am hr0_1;have HC0_1:=am hc0_1;clear hr0_1 hc0_1;have HB:=am (Below.refl w.heap.size w);have H : ((gangsawref19_Name.f k a0_0).bind fun t370=>(if t370 = true then (if (l0_1.length : Int) < 3 then (gangsawref39_Check.j0 k l0_1 true) else (gangsawref39_Check.j0 k l0_1 (decide ((l0_1.length : Int) > 64)))) else (some 4))) = some r:=h;clear h;replace H:=Option.bind_eq_some_iff.mp H;obtain ⟨t370,A20,H⟩ := H;replace H : (if t370 = true then (if (l0_1.length : Int) < 3 then (gangsawref39_Check.j0 k l0_1 true) else (gangsawref39_Check.j0 k l0_1 (decide ((l0_1.length : Int) > 64)))) else (some 4)) = some r:=H;have A2:=am A20;clear A20;by_cases c3 : t370 = true
 ·subst c3
  have H1 : (if (l0_1.length : Int) < 3 then (gangsawref39_Check.j0 k l0_1 true) else (gangsawref39_Check.j0 k l0_1 (decide ((l0_1.length : Int) > 64)))) = some r:=by rw [if_pos rfl] at H;exact H
  clear H;have H:=H1;clear H1;have HC4:=am H;clear H
  go_enter Try.func13,Try.ntmps13
  go_upto_region 4 with (first|((with_reducible refine gate_dst (N:=1) rfl ?_);(try (refine gate_guard (by rfl) ?_;dsimp only));refine box_event ?hg (N:=1) ?hd (cs:=#[.string a0_0,.slice A0_1 l0_1.length c0_1]) (t:=25) ?hr ?_;(case hd=>rfl);(case hg=>rfl);(case hr=>first|(go_simp;done)|(go_simp;rfl));intro gb369 hg w5 hbox hb;have BK369:=am hbox;have GW369:=bza HB hg;have GE369:=bza HB hg;replace HB:=bsa HB hb;clear hb hbox hg;obtain ⟨hcz6_0,hcz6_1,hfz6_0,hfz6_1⟩ := c2_ BK369.out)|(go_at_call 33;(with_reducible refine (gangsawref19_Name.calls k a0_0 true _ A2.out).mono ?_);rintro e w' ⟨rfl,⟨nd,rfl⟩⟩;(try first|exact ⟨rfl,_,World.drewN_drewN _ _ _⟩|exact ⟨rfl,_,Eq.trans (World.drewN_drewN _ _ _) (congrArg (World.drewN _) (Nat.add_assoc _ _ _))⟩)))
  repeat (go_quiet (first|((with_reducible refine gate_dst (N:=1) rfl ?_);(try (refine gate_guard (by rfl) ?_;dsimp only));refine box_event ?hg (N:=1) ?hd (cs:=#[.string a0_0,.slice A0_1 l0_1.length c0_1]) (t:=25) ?hr ?_;(case hd=>rfl);(case hg=>rfl);(case hr=>first|(go_simp;done)|(go_simp;rfl));intro gb369 hg w5 hbox hb;have BK369:=am hbox;have GW369:=bza HB hg;have GE369:=bza HB hg;replace HB:=bsa HB hb;clear hb hbox hg;obtain ⟨hcz6_0,hcz6_1,hfz6_0,hfz6_1⟩ := c2_ BK369.out)|(go_at_call 33;(with_reducible refine (gangsawref19_Name.calls k a0_0 true _ A2.out).mono ?_);rintro e w' ⟨rfl,⟨nd,rfl⟩⟩;(try first|exact ⟨rfl,_,World.drewN_drewN _ _ _⟩|exact ⟨rfl,_,Eq.trans (World.drewN_drewN _ _ _) (congrArg (World.drewN _) (Nat.add_assoc _ _ _))⟩)));go_upto_region 4 with (first|((with_reducible refine gate_dst (N:=1) rfl ?_);(try (refine gate_guard (by rfl) ?_;dsimp only));refine box_event ?hg (N:=1) ?hd (cs:=#[.string a0_0,.slice A0_1 l0_1.length c0_1]) (t:=25) ?hr ?_;(case hd=>rfl);(case hg=>rfl);(case hr=>first|(go_simp;done)|(go_simp;rfl));intro gb369 hg w5 hbox hb;have BK369:=am hbox;have GW369:=bza HB hg;have GE369:=bza HB hg;replace HB:=bsa HB hb;clear hb hbox hg;obtain ⟨hcz6_0,hcz6_1,hfz6_0,hfz6_1⟩ := c2_ BK369.out)|(go_at_call 33;(with_reducible refine (gangsawref19_Name.calls k a0_0 true _ A2.out).mono ?_);rintro e w' ⟨rfl,⟨nd,rfl⟩⟩;(try first|exact ⟨rfl,_,World.drewN_drewN _ _ _⟩|exact ⟨rfl,_,Eq.trans (World.drewN_drewN _ _ _) (congrArg (World.drewN _) (Nat.add_assoc _ _ _))⟩))))
  (try simp only [Act.put,sA,s0,sS])
  go_cut [19] (fun v19 wc=>∃ (kq : Nat) (x19_3 : Bool),v19 = .bool x19_3 ∧ Aside0 (gangsawref39_Check.j0 kq l0_1 x19_3 = some r) ∧ Aside0 (kq ≤ k) ∧ Aside0 (wc.heap[gb369]? = some (.cells #[.string a0_0,(.slice A0_1 l0_1.length c0_1)] 25 (0,0))) ∧ Aside0 (Below w.heap.size w wc))
  case first =>
   have H:=HC4.out;clear HC4;by_cases c7 : (l0_1.length : Int) < 3
   ·rw [if_pos c7] at H;have c7b0 : decide ((l0_1.length : Int) < 3) = true:=decide_eq_true c7;have c7b1 : decide (l0_1.length < 3) = true:=decide_eq_true (by omega);clear c7;(first|rw [c7b0]|(simp only [i64_w,i32_w];rw [c7b0])|skip);have H':=am H;clear H
    go_wp2
    repeat (go_quiet (fail);try go_wp2)
    go_meet
    case rel=>exact ⟨_,(true),(by first|rfl|(simp;done)|(simp [*];done)),H',⟨by first|omega|exact Nat.le_refl _⟩,⟨bq BK369.out⟩,⟨by repeat (first|(with_reducible first|exact HB.out|apply lA|apply lN|apply lD|refine lS ?_ GE369.out)|exact HB.out)⟩⟩
   ·rw [if_neg c7] at H;have c7b0 : decide ((l0_1.length : Int) < 3) = false:=decide_eq_false c7;have c7b1 : decide (l0_1.length < 3) = false:=decide_eq_false (by omega);clear c7;(first|rw [c7b0]|(simp only [i64_w,i32_w];rw [c7b0])|skip);have H':=am H;clear H
    go_wp2
    repeat (go_quiet (fail);try go_wp2)
    go_meet
    case rel=>exact ⟨_,(decide ((l0_1.length : Int) > 64)),(by first|rfl|(simp;done)|(simp [*];done)),H',⟨by first|omega|exact Nat.le_refl _⟩,⟨bq BK369.out⟩,⟨by repeat (first|(with_reducible first|exact HB.out|apply lA|apply lN|apply lD|refine lS ?_ GE369.out)|exact HB.out)⟩⟩
  case rest =>
   clear HC4
   try clear c1
   try clear p2
   try clear c3
   try clear c7
   try clear c7b0
   try clear c7b1
   try clear hcz6_0
   try clear hcz6_1
   try clear hfz6_0
   try clear hfz6_1
   obtain ⟨kq,x19_3,rfl,HA,HJ3,BK369,HB⟩ := hcut
   cases kq with
   | zero=>exact absurd HA.out (by simp [gangsawref39_Check.j0])
   | succ kj3 =>
    have H:=HA.out;clear HA;simp only [gangsawref39_Check.j0] at H;by_cases c8 : x19_3 = true
    ·subst c8
     have H1 : (some 1) = some r:=by rw [if_pos rfl] at H;exact H
     clear H;have H:=H1;clear H1;obtain rfl:=Option.some.inj H
     go_wp2
     repeat (go_quiet (fail);try go_wp2)
     go_ret
     exact ⟨by first|rfl|(simp [errW_none,errW_some] <;> rfl)|(simp [*,errW_none,errW_some] <;> rfl),by repeat (first|(with_reducible first|exact HB.out|apply lA|apply lN|apply lD|refine lS ?_ GE369.out)|exact HB.out)⟩
    ·replace c8:=Bool.eq_false_iff.mpr c8;subst c8
     have H1 : (gangsawref39_Check.l0 kj3 l0_1 0) = some r:=by rw [if_neg (show ¬ (false = true) by decide)] at H;exact H
     clear H;have H:=H1;clear H1;have H':=am H;clear H
     go_wp2
     repeat (go_quiet (fail);try go_wp2)
     go_loopg [4] kj3 (fun kq v4 w'=>∃ (x4_2 : Int),v4 = .int .i64 x4_2 ∧ Aside0 (gangsawref39_Check.l0 kq l0_1 x4_2 = some r) ∧ Aside0 (kq ≤ kj3) ∧ Aside0 (w'.heap[gb369]? = some (.cells #[.string a0_0,(.slice A0_1 l0_1.length c0_1)] 25 (0,0))) ∧ Aside0 (Below w.heap.size w w'))
     case atStart=>exact ⟨(0),(by first|rfl|(simp;done)|(simp [*];done)),H',⟨Nat.le_refl _⟩,⟨bq BK369.out⟩,⟨by repeat (first|(with_reducible first|exact HB.out|apply lA|apply lN|apply lD|refine lS ?_ GE369.out)|exact HB.out)⟩⟩
     case round =>
      clear H'
      try clear c1
      try clear p2
      try clear c3
      try clear c7
      try clear c7b0
      try clear c7b1
      try clear c8
      try clear hcz6_0
      try clear hcz6_1
      try clear hfz6_0
      try clear hfz6_1
      try clear p2
      obtain ⟨x4_2,rfl,HA,HK2,BK369,HB⟩ := hrel
      cases gk with
      | zero=>exact absurd HA.out (by simp [gangsawref39_Check.l0])
      | succ k2 =>
       have H:=HA.out;clear HA;simp only [gangsawref39_Check.l0] at H;by_cases c9 : x4_2 < (l0_1.length : Int)
       ·rw [if_pos c9] at H;have c9b0 : decide (x4_2 < (l0_1.length : Int)) = true:=decide_eq_true c9;clear c9;by_cases c10 : 0 ≤ x4_2
        ·rw [if_pos c10] at H;have c10b0 : decide (0 ≤ x4_2) = true:=decide_eq_true c10;clear c10;replace H:=Option.bind_eq_some_iff.mp H;obtain ⟨t372,A110,H⟩ := H;replace H : (if t372 = true then (gangsawref39_Check.l0 k2 l0_1 (wrap64 (x4_2 + 1))) else (some 6)) = some r:=H;have A11:=am A110;clear A110;by_cases c12 : t372 = true
         ·subst c12
          have H1 : (gangsawref39_Check.l0 k2 l0_1 (wrap64 (x4_2 + 1))) = some r:=by rw [if_pos rfl] at H;exact H
          clear H;have H:=H1;clear H1;have H':=am H;clear H;have p371 : 0 ≤ (x4_2 : Int):=of_decide_eq_true (by first|(with_reducible assumption)|assumption);have q371 : x4_2 < (l0_1.length : Int):=of_decide_eq_true (by first|(with_reducible assumption)|assumption);obtain ⟨ad371,e371,hx371_0,hx371_1⟩ := at_T31 HR0_1.out x4_2 p371 q371
          cases e371
          replace hx371_0:=(HB.out.cell (World.block_lt_of_cell? w _ hx371_0)).trans hx371_0;replace hx371_1:=(HB.out.cell (World.block_lt_of_cell? w _ hx371_1)).trans hx371_1;replace p371:=eq_true p371;replace q371:=eq_true q371
          go_wp2_with (first|(go_at_call 34;(with_reducible refine (gangsawref03_InPoint.calls ((rd_T31 l0_1 x4_2).f0) ((rd_T31 l0_1 x4_2).f1) true _ A11.out).mono ?_);rintro e w13 ⟨rfl,hb⟩;replace BK369:=bba BK369 hb;replace HB:=bsa HB hb;(try clear hb);(try clear hb2);(try clear hk);(try clear hi)))
          repeat (go_quiet (first|(go_at_call 34;(with_reducible refine (gangsawref03_InPoint.calls ((rd_T31 l0_1 x4_2).f0) ((rd_T31 l0_1 x4_2).f1) true _ A11.out).mono ?_);rintro e w13 ⟨rfl,hb⟩;replace BK369:=bba BK369 hb;replace HB:=bsa HB hb;(try clear hb);(try clear hb2);(try clear hk);(try clear hi)));try go_wp2_with (first|(go_at_call 34;(with_reducible refine (gangsawref03_InPoint.calls ((rd_T31 l0_1 x4_2).f0) ((rd_T31 l0_1 x4_2).f1) true _ A11.out).mono ?_);rintro e w13 ⟨rfl,hb⟩;replace BK369:=bba BK369 hb;replace HB:=bsa HB hb;(try clear hb);(try clear hb2);(try clear hk);(try clear hi))))
          go_roundg k2
          case measure=>have:=HJ3.out;have:=HK2.out;omega
          case rel=>exact ⟨(wrap64 (x4_2 + 1)),(by first|rfl|(simp;done)|(simp [*];done)),H',⟨by have:=HJ3.out;have:=HK2.out;omega⟩,⟨bq BK369.out⟩,⟨by repeat (first|(with_reducible first|exact HB.out|apply lA|apply lN|apply lD|refine lS ?_ GE369.out)|exact HB.out)⟩⟩
         ·replace c12:=Bool.eq_false_iff.mpr c12;subst c12
          have H1 : (some 6) = some r:=by rw [if_neg (show ¬ (false = true) by decide)] at H;exact H
          clear H;have H:=H1;clear H1;obtain rfl:=Option.some.inj H;have p371 : 0 ≤ (x4_2 : Int):=of_decide_eq_true (by first|(with_reducible assumption)|assumption);have q371 : x4_2 < (l0_1.length : Int):=of_decide_eq_true (by first|(with_reducible assumption)|assumption);obtain ⟨ad371,e371,hx371_0,hx371_1⟩ := at_T31 HR0_1.out x4_2 p371 q371
          cases e371
          replace hx371_0:=(HB.out.cell (World.block_lt_of_cell? w _ hx371_0)).trans hx371_0;replace hx371_1:=(HB.out.cell (World.block_lt_of_cell? w _ hx371_1)).trans hx371_1;replace p371:=eq_true p371;replace q371:=eq_true q371
          go_wp2_with (first|(go_at_call 34;(with_reducible refine (gangsawref03_InPoint.calls ((rd_T31 l0_1 x4_2).f0) ((rd_T31 l0_1 x4_2).f1) false _ A11.out).mono ?_);rintro e w14 ⟨rfl,hb⟩;replace BK369:=bba BK369 hb;replace HB:=bsa HB hb;(try clear hb);(try clear hb2);(try clear hk);(try clear hi)))
          repeat (go_quiet (first|(go_at_call 34;(with_reducible refine (gangsawref03_InPoint.calls ((rd_T31 l0_1 x4_2).f0) ((rd_T31 l0_1 x4_2).f1) false _ A11.out).mono ?_);rintro e w14 ⟨rfl,hb⟩;replace BK369:=bba BK369 hb;replace HB:=bsa HB hb;(try clear hb);(try clear hb2);(try clear hk);(try clear hi)));try go_wp2_with (first|(go_at_call 34;(with_reducible refine (gangsawref03_InPoint.calls ((rd_T31 l0_1 x4_2).f0) ((rd_T31 l0_1 x4_2).f1) false _ A11.out).mono ?_);rintro e w14 ⟨rfl,hb⟩;replace BK369:=bba BK369 hb;replace HB:=bsa HB hb;(try clear hb);(try clear hb2);(try clear hk);(try clear hi))))
          go_ret
          exact ⟨by first|rfl|(simp [errW_none,errW_some] <;> rfl)|(simp [*,errW_none,errW_some] <;> rfl),by repeat (first|(with_reducible first|exact HB.out|apply lA|apply lN|apply lD|refine lS ?_ GE369.out)|exact HB.out)⟩
        (rw [if_neg c10] at H;exact absurd H (by simp))
       ·rw [if_neg c9] at H;have c9b0 : decide (x4_2 < (l0_1.length : Int)) = false:=decide_eq_false c9;clear c9;have H':=am H;clear H
        go_wp2
        repeat (go_quiet (fail);try go_wp2)
        go_loopg [5] k2 (fun kq v5 w'=>∃ (x5_3 : Int),v5 = .int .i64 x5_3 ∧ Aside0 (gangsawref39_Check.l1 kq l0_1 x5_3 = some r) ∧ Aside0 (kq ≤ k2) ∧ Aside0 (w'.heap[gb369]? = some (.cells #[.string a0_0,(.slice A0_1 l0_1.length c0_1)] 25 (0,0))) ∧ Aside0 (Below w.heap.size w w'))
        case atStart=>exact ⟨(0),(by first|rfl|(simp;done)|(simp [*];done)),H',⟨Nat.le_refl _⟩,⟨bq BK369.out⟩,⟨by repeat (first|(with_reducible first|exact HB.out|apply lA|apply lN|apply lD|refine lS ?_ GE369.out)|exact HB.out)⟩⟩
        case round =>
         clear H'
         try clear c1
         try clear p2
         try clear c3
         try clear p3
         try clear q3
         try clear hx3
         try clear p6
         try clear c7
         try clear c7b0
         try clear c7b1
         try clear c8
         try clear c9
         try clear c9b0
         try clear c10
         try clear c10b0
         try clear c12
         try clear c13
         try clear hcz6_0
         try clear hcz6_1
         try clear hfz6_0
         try clear hfz6_1
         try clear hx371_0
         try clear hx371_1
         try clear p2
         try clear p371
         try clear q371
         obtain ⟨x5_3,rfl,HA,HK3,BK369,HB⟩ := hrel
         cases gk with
         | zero=>exact absurd HA.out (by simp [gangsawref39_Check.l1])
         | succ k3 =>
          have H:=HA.out;clear HA;simp only [gangsawref39_Check.l1] at H;by_cases c15 : x5_3 < (l0_1.length : Int)
          ·rw [if_pos c15] at H;have c15b0 : decide (x5_3 < (l0_1.length : Int)) = true:=decide_eq_true c15;clear c15;by_cases c16 : 0 ≤ x5_3
           ·rw [if_pos c16] at H;have c16b0 : decide (0 ≤ x5_3) = true:=decide_eq_true c16;clear c16;by_cases c17 : (l0_1.length : Int) = 0
            (rw [if_pos c17] at H;exact absurd H (by simp))
            ·rw [if_neg c17] at H;have c17b0 : ((l0_1.length : Int) == 0) = false:=beq_eq_false_iff_ne.mpr c17;have c17b1 : ((l0_1.length : Int) != 0) = true:=bne_iff_ne.mpr c17
             have c17b2 : ¬ (l0_1 = []):=fun h_=>c17 (by rw [h_];rfl)
             obtain ⟨ji18,hji18⟩ : ∃ j_ : Int,(Int.tmod (wrap64 (x5_3 + 1)) (l0_1.length : Int)) = j_:=⟨_,rfl⟩
             replace H : (if 0 ≤ (ji18) then (if (ji18) < (l0_1.length : Int) then (if (((rd_T31 l0_1 x5_3).f0) == ((rd_T31 l0_1 (ji18)).f0) && (((rd_T31 l0_1 x5_3).f1) == ((rd_T31 l0_1 (ji18)).f1))) = true then (some 5) else (gangsawref39_Check.l1 k3 l0_1 (wrap64 (x5_3 + 1)))) else (none)) else (none)) = some r:=by first|(rw [hji18] at H;exact H)|(simp only [hji18] at H ⊢;exact H)
             by_cases c19 : 0 ≤ (ji18)
             ·rw [if_pos c19] at H;have c19b0 : decide (0 ≤ (ji18)) = true:=decide_eq_true c19;clear c19;by_cases c20 : (ji18) < (l0_1.length : Int)
              ·rw [if_pos c20] at H;have c20b0 : decide ((ji18) < (l0_1.length : Int)) = true:=decide_eq_true c20;clear c20;by_cases c21 : (((rd_T31 l0_1 x5_3).f0) == ((rd_T31 l0_1 (ji18)).f0) && (((rd_T31 l0_1 x5_3).f1) == ((rd_T31 l0_1 (ji18)).f1))) = true
               ·rw [if_pos c21] at H;have c21b0 : (((rd_T31 l0_1 x5_3).f0) == ((rd_T31 l0_1 (ji18)).f0) && (((rd_T31 l0_1 x5_3).f1) == ((rd_T31 l0_1 (ji18)).f1))) = true:=c21;(try (have c21b1 : decide (((rd_T31 l0_1 x5_3).f0) = ((rd_T31 l0_1 (ji18)).f0) && (((rd_T31 l0_1 x5_3).f1) == ((rd_T31 l0_1 (ji18)).f1))) = true:=by simpa using c21));(try (have c21b2 : (((rd_T31 l0_1 x5_3).f0) == ((rd_T31 l0_1 (ji18)).f0) && (((rd_T31 l0_1 x5_3).f1) == ((rd_T31 l0_1 (ji18)).f1))) = true:=by simpa using c21));clear c21;obtain rfl:=Option.some.inj H;have p373 : 0 ≤ (x5_3 : Int):=of_decide_eq_true (by first|(with_reducible assumption)|assumption);have q373 : x5_3 < (l0_1.length : Int):=of_decide_eq_true (by first|(with_reducible assumption)|assumption);obtain ⟨ad373,e373,hx373_0,hx373_1⟩ := at_T31 HR0_1.out x5_3 p373 q373
                cases e373
                replace hx373_0:=(HB.out.cell (World.block_lt_of_cell? w _ hx373_0)).trans hx373_0;replace hx373_1:=(HB.out.cell (World.block_lt_of_cell? w _ hx373_1)).trans hx373_1;replace p373:=eq_true p373;replace q373:=eq_true q373;have p374 : 0 ≤ ((ji18) : Int):=of_decide_eq_true (by first|(with_reducible assumption)|assumption);have q374 : (ji18) < (l0_1.length : Int):=of_decide_eq_true (by first|(with_reducible assumption)|assumption);obtain ⟨ad374,e374,hx374_0,hx374_1⟩ := at_T31 HR0_1.out (ji18) p374 q374
                obtain rfl : ad373 = ad374:=(by injection e374)
                replace hx374_0:=(HB.out.cell (World.block_lt_of_cell? w _ hx374_0)).trans hx374_0;replace hx374_1:=(HB.out.cell (World.block_lt_of_cell? w _ hx374_1)).trans hx374_1;replace p374:=eq_true p374;replace q374:=eq_true q374
                go_wp2
                repeat (go_quiet (fail);try go_wp2)
                go_ret
                exact ⟨by first|rfl|(simp [errW_none,errW_some] <;> rfl)|(simp only [← hji18];first|rfl|(simp [errW_none,errW_some] <;> rfl))|(simp [*,errW_none,errW_some] <;> rfl),by repeat (first|(with_reducible first|exact HB.out|apply lA|apply lN|apply lD|refine lS ?_ GE369.out)|exact HB.out)⟩
               ·rw [if_neg c21] at H
                have c21b0 : (((rd_T31 l0_1 x5_3).f0) == ((rd_T31 l0_1 (ji18)).f0) && (((rd_T31 l0_1 x5_3).f1) == ((rd_T31 l0_1 (ji18)).f1))) = false:=by simpa using c21
                (try (have c21b1 : decide (((rd_T31 l0_1 x5_3).f0) = ((rd_T31 l0_1 (ji18)).f0) && (((rd_T31 l0_1 x5_3).f1) == ((rd_T31 l0_1 (ji18)).f1))) = false:=by simpa using c21));(try (have c21b2 : (((rd_T31 l0_1 x5_3).f0) == ((rd_T31 l0_1 (ji18)).f0) && (((rd_T31 l0_1 x5_3).f1) == ((rd_T31 l0_1 (ji18)).f1))) = false:=by simpa using c21));(try (have c21b3 : ¬ (((rd_T31 l0_1 x5_3).f0) = ((rd_T31 l0_1 (ji18)).f0) && (((rd_T31 l0_1 x5_3).f1) == ((rd_T31 l0_1 (ji18)).f1))):=by simpa using c21));clear c21;have H':=am H;clear H;have p373 : 0 ≤ (x5_3 : Int):=of_decide_eq_true (by first|(with_reducible assumption)|assumption);have q373 : x5_3 < (l0_1.length : Int):=of_decide_eq_true (by first|(with_reducible assumption)|assumption);obtain ⟨ad373,e373,hx373_0,hx373_1⟩ := at_T31 HR0_1.out x5_3 p373 q373
                cases e373
                replace hx373_0:=(HB.out.cell (World.block_lt_of_cell? w _ hx373_0)).trans hx373_0;replace hx373_1:=(HB.out.cell (World.block_lt_of_cell? w _ hx373_1)).trans hx373_1;replace p373:=eq_true p373;replace q373:=eq_true q373;have p374 : 0 ≤ ((ji18) : Int):=of_decide_eq_true (by first|(with_reducible assumption)|assumption);have q374 : (ji18) < (l0_1.length : Int):=of_decide_eq_true (by first|(with_reducible assumption)|assumption);obtain ⟨ad374,e374,hx374_0,hx374_1⟩ := at_T31 HR0_1.out (ji18) p374 q374
                obtain rfl : ad373 = ad374:=(by injection e374)
                replace hx374_0:=(HB.out.cell (World.block_lt_of_cell? w _ hx374_0)).trans hx374_0;replace hx374_1:=(HB.out.cell (World.block_lt_of_cell? w _ hx374_1)).trans hx374_1;replace p374:=eq_true p374;replace q374:=eq_true q374
                go_wp2
                repeat (go_quiet (fail);try go_wp2)
                go_roundg k3
                case measure=>have:=HJ3.out;have:=HK2.out;have:=HK3.out;omega
                case rel=>exact ⟨(wrap64 (x5_3 + 1)),(by first|rfl|(simp;done)|(simp [*];done)),H',⟨by have:=HJ3.out;have:=HK2.out;have:=HK3.out;omega⟩,⟨bq BK369.out⟩,⟨by repeat (first|(with_reducible first|exact HB.out|apply lA|apply lN|apply lD|refine lS ?_ GE369.out)|exact HB.out)⟩⟩
              (rw [if_neg c20] at H;exact absurd H (by simp))
             (rw [if_neg c19] at H;exact absurd H (by simp))
           (rw [if_neg c16] at H;exact absurd H (by simp))
          ·rw [if_neg c15] at H;have c15b0 : decide (x5_3 < (l0_1.length : Int)) = false:=decide_eq_false c15;clear c15;replace H:=Option.bind_eq_some_iff.mp H;obtain ⟨t375,A220,H⟩ := H;replace H : (if t375 = true then ((gangsawref39_Area.f k3 l0_1).bind fun t376=>(if t376 ≤ 0 then (some 1) else (some 0))) else (some 11)) = some r:=H;have A22:=am A220;clear A220;by_cases c23 : t375 = true
           ·subst c23
            have H1 : ((gangsawref39_Area.f k3 l0_1).bind fun t376=>(if t376 ≤ 0 then (some 1) else (some 0))) = some r:=by rw [if_pos rfl] at H;exact H
            clear H;have H:=H1;clear H1;replace H:=Option.bind_eq_some_iff.mp H;obtain ⟨t376,A240,H⟩ := H;replace H : (if t376 ≤ 0 then (some 1) else (some 0)) = some r:=H;have A24:=am A240;clear A240;by_cases c25 : t376 ≤ 0
            ·rw [if_pos c25] at H;have c25b0 : decide (t376 ≤ 0) = true:=decide_eq_true c25;clear c25;obtain rfl:=Option.some.inj H
             go_wp2_with (first|(go_at_call 35;(with_reducible refine (gangsawref39_simple.calls k3 _ _ l0_1 true _ ?side1 ?side2 A22.out).mono ?_);(case side1=>exact cq HR0_1.out HB.out);(case side2=>exact HC0_1.out);rintro e w26 ⟨rfl,hb⟩;replace BK369:=bba BK369 hb;replace HB:=bsa HB hb;(try clear hb);(try clear hb2);(try clear hk);(try clear hi))|(go_at_call 19;(with_reducible refine (gangsawref39_Area.calls k3 _ _ l0_1 t376 _ ?side1 ?side2 A24.out).mono ?_);(case side1=>exact cq HR0_1.out HB.out);(case side2=>exact HC0_1.out);rintro e w27 ⟨rfl,hb⟩;replace BK369:=bba BK369 hb;replace HB:=bsa HB hb;(try clear hb);(try clear hb2);(try clear hk);(try clear hi)))
             repeat (go_quiet (first|(go_at_call 35;(with_reducible refine (gangsawref39_simple.calls k3 _ _ l0_1 true _ ?side1 ?side2 A22.out).mono ?_);(case side1=>exact cq HR0_1.out HB.out);(case side2=>exact HC0_1.out);rintro e w26 ⟨rfl,hb⟩;replace BK369:=bba BK369 hb;replace HB:=bsa HB hb;(try clear hb);(try clear hb2);(try clear hk);(try clear hi))|(go_at_call 19;(with_reducible refine (gangsawref39_Area.calls k3 _ _ l0_1 t376 _ ?side1 ?side2 A24.out).mono ?_);(case side1=>exact cq HR0_1.out HB.out);(case side2=>exact HC0_1.out);rintro e w27 ⟨rfl,hb⟩;replace BK369:=bba BK369 hb;replace HB:=bsa HB hb;(try clear hb);(try clear hb2);(try clear hk);(try clear hi)));try go_wp2_with (first|(go_at_call 35;(with_reducible refine (gangsawref39_simple.calls k3 _ _ l0_1 true _ ?side1 ?side2 A22.out).mono ?_);(case side1=>exact cq HR0_1.out HB.out);(case side2=>exact HC0_1.out);rintro e w26 ⟨rfl,hb⟩;replace BK369:=bba BK369 hb;replace HB:=bsa HB hb;(try clear hb);(try clear hb2);(try clear hk);(try clear hi))|(go_at_call 19;(with_reducible refine (gangsawref39_Area.calls k3 _ _ l0_1 t376 _ ?side1 ?side2 A24.out).mono ?_);(case side1=>exact cq HR0_1.out HB.out);(case side2=>exact HC0_1.out);rintro e w27 ⟨rfl,hb⟩;replace BK369:=bba BK369 hb;replace HB:=bsa HB hb;(try clear hb);(try clear hb2);(try clear hk);(try clear hi))))
             go_ret
             exact ⟨by first|rfl|(simp [errW_none,errW_some] <;> rfl)|(simp [*,errW_none,errW_some] <;> rfl),by repeat (first|(with_reducible first|exact HB.out|apply lA|apply lN|apply lD|refine lS ?_ GE369.out)|exact HB.out)⟩
            ·rw [if_neg c25] at H;have c25b0 : decide (t376 ≤ 0) = false:=decide_eq_false c25;clear c25;obtain rfl:=Option.some.inj H
             go_wp2_with (first|(go_at_call 35;(with_reducible refine (gangsawref39_simple.calls k3 _ _ l0_1 true _ ?side1 ?side2 A22.out).mono ?_);(case side1=>exact cq HR0_1.out HB.out);(case side2=>exact HC0_1.out);rintro e w28 ⟨rfl,hb⟩;replace BK369:=bba BK369 hb;replace HB:=bsa HB hb;(try clear hb);(try clear hb2);(try clear hk);(try clear hi))|(go_at_call 19;(with_reducible refine (gangsawref39_Area.calls k3 _ _ l0_1 t376 _ ?side1 ?side2 A24.out).mono ?_);(case side1=>exact cq HR0_1.out HB.out);(case side2=>exact HC0_1.out);rintro e w29 ⟨rfl,hb⟩;replace BK369:=bba BK369 hb;replace HB:=bsa HB hb;(try clear hb);(try clear hb2);(try clear hk);(try clear hi)))
             repeat (go_quiet (first|(go_at_call 35;(with_reducible refine (gangsawref39_simple.calls k3 _ _ l0_1 true _ ?side1 ?side2 A22.out).mono ?_);(case side1=>exact cq HR0_1.out HB.out);(case side2=>exact HC0_1.out);rintro e w28 ⟨rfl,hb⟩;replace BK369:=bba BK369 hb;replace HB:=bsa HB hb;(try clear hb);(try clear hb2);(try clear hk);(try clear hi))|(go_at_call 19;(with_reducible refine (gangsawref39_Area.calls k3 _ _ l0_1 t376 _ ?side1 ?side2 A24.out).mono ?_);(case side1=>exact cq HR0_1.out HB.out);(case side2=>exact HC0_1.out);rintro e w29 ⟨rfl,hb⟩;replace BK369:=bba BK369 hb;replace HB:=bsa HB hb;(try clear hb);(try clear hb2);(try clear hk);(try clear hi)));try go_wp2_with (first|(go_at_call 35;(with_reducible refine (gangsawref39_simple.calls k3 _ _ l0_1 true _ ?side1 ?side2 A22.out).mono ?_);(case side1=>exact cq HR0_1.out HB.out);(case side2=>exact HC0_1.out);rintro e w28 ⟨rfl,hb⟩;replace BK369:=bba BK369 hb;replace HB:=bsa HB hb;(try clear hb);(try clear hb2);(try clear hk);(try clear hi))|(go_at_call 19;(with_reducible refine (gangsawref39_Area.calls k3 _ _ l0_1 t376 _ ?side1 ?side2 A24.out).mono ?_);(case side1=>exact cq HR0_1.out HB.out);(case side2=>exact HC0_1.out);rintro e w29 ⟨rfl,hb⟩;replace BK369:=bba BK369 hb;replace HB:=bsa HB hb;(try clear hb);(try clear hb2);(try clear hk);(try clear hi))))
             go_ret
             exact ⟨by first|rfl|(simp [errW_none,errW_some] <;> rfl)|(simp [*,errW_none,errW_some] <;> rfl),by repeat (first|(with_reducible first|exact HB.out|apply lA|apply lN|apply lD|refine lS ?_ GE369.out)|exact HB.out)⟩
           ·replace c23:=Bool.eq_false_iff.mpr c23;subst c23
            have H1 : (some 11) = some r:=by rw [if_neg (show ¬ (false = true) by decide)] at H;exact H
            clear H;have H:=H1;clear H1;obtain rfl:=Option.some.inj H
            go_wp2_with (first|(go_at_call 35;(with_reducible refine (gangsawref39_simple.calls k3 _ _ l0_1 false _ ?side1 ?side2 A22.out).mono ?_);(case side1=>exact cq HR0_1.out HB.out);(case side2=>exact HC0_1.out);rintro e w30 ⟨rfl,hb⟩;replace BK369:=bba BK369 hb;replace HB:=bsa HB hb;(try clear hb);(try clear hb2);(try clear hk);(try clear hi)))
            repeat (go_quiet (first|(go_at_call 35;(with_reducible refine (gangsawref39_simple.calls k3 _ _ l0_1 false _ ?side1 ?side2 A22.out).mono ?_);(case side1=>exact cq HR0_1.out HB.out);(case side2=>exact HC0_1.out);rintro e w30 ⟨rfl,hb⟩;replace BK369:=bba BK369 hb;replace HB:=bsa HB hb;(try clear hb);(try clear hb2);(try clear hk);(try clear hi)));try go_wp2_with (first|(go_at_call 35;(with_reducible refine (gangsawref39_simple.calls k3 _ _ l0_1 false _ ?side1 ?side2 A22.out).mono ?_);(case side1=>exact cq HR0_1.out HB.out);(case side2=>exact HC0_1.out);rintro e w30 ⟨rfl,hb⟩;replace BK369:=bba BK369 hb;replace HB:=bsa HB hb;(try clear hb);(try clear hb2);(try clear hk);(try clear hi))))
            go_ret
            exact ⟨by first|rfl|(simp [errW_none,errW_some] <;> rfl)|(simp [*,errW_none,errW_some] <;> rfl),by repeat (first|(with_reducible first|exact HB.out|apply lA|apply lN|apply lD|refine lS ?_ GE369.out)|exact HB.out)⟩
 ·replace c3:=Bool.eq_false_iff.mpr c3;subst c3
  have H1 : (some 4) = some r:=by rw [if_neg (show ¬ (false = true) by decide)] at H;exact H
  clear H;have H:=H1;clear H1;obtain rfl:=Option.some.inj H
  go_enter Try.func13,Try.ntmps13
  go_wp2_with (first|((with_reducible refine gate_dst (N:=1) rfl ?_);(try (refine gate_guard (by rfl) ?_;dsimp only));refine box_event ?hg (N:=1) ?hd (cs:=#[.string a0_0,.slice A0_1 l0_1.length c0_1]) (t:=25) ?hr ?_;(case hd=>rfl);(case hg=>rfl);(case hr=>first|(go_simp;done)|(go_simp;rfl));intro gb369 hg w31 hbox hb;have BK369:=am hbox;have GW369:=bza HB hg;have GE369:=bza HB hg;replace HB:=bsa HB hb;clear hb hbox hg;obtain ⟨hcz32_0,hcz32_1,hfz32_0,hfz32_1⟩ := c2_ BK369.out)|(go_at_call 33;(with_reducible refine (gangsawref19_Name.calls k a0_0 false _ A2.out).mono ?_);rintro e w' ⟨rfl,⟨nd,rfl⟩⟩;(try first|exact ⟨rfl,_,World.drewN_drewN _ _ _⟩|exact ⟨rfl,_,Eq.trans (World.drewN_drewN _ _ _) (congrArg (World.drewN _) (Nat.add_assoc _ _ _))⟩)))
  repeat (go_quiet (first|((with_reducible refine gate_dst (N:=1) rfl ?_);(try (refine gate_guard (by rfl) ?_;dsimp only));refine box_event ?hg (N:=1) ?hd (cs:=#[.string a0_0,.slice A0_1 l0_1.length c0_1]) (t:=25) ?hr ?_;(case hd=>rfl);(case hg=>rfl);(case hr=>first|(go_simp;done)|(go_simp;rfl));intro gb369 hg w31 hbox hb;have BK369:=am hbox;have GW369:=bza HB hg;have GE369:=bza HB hg;replace HB:=bsa HB hb;clear hb hbox hg;obtain ⟨hcz32_0,hcz32_1,hfz32_0,hfz32_1⟩ := c2_ BK369.out)|(go_at_call 33;(with_reducible refine (gangsawref19_Name.calls k a0_0 false _ A2.out).mono ?_);rintro e w' ⟨rfl,⟨nd,rfl⟩⟩;(try first|exact ⟨rfl,_,World.drewN_drewN _ _ _⟩|exact ⟨rfl,_,Eq.trans (World.drewN_drewN _ _ _) (congrArg (World.drewN _) (Nat.add_assoc _ _ _))⟩)));try go_wp2_with (first|((with_reducible refine gate_dst (N:=1) rfl ?_);(try (refine gate_guard (by rfl) ?_;dsimp only));refine box_event ?hg (N:=1) ?hd (cs:=#[.string a0_0,.slice A0_1 l0_1.length c0_1]) (t:=25) ?hr ?_;(case hd=>rfl);(case hg=>rfl);(case hr=>first|(go_simp;done)|(go_simp;rfl));intro gb369 hg w31 hbox hb;have BK369:=am hbox;have GW369:=bza HB hg;have GE369:=bza HB hg;replace HB:=bsa HB hb;clear hb hbox hg;obtain ⟨hcz32_0,hcz32_1,hfz32_0,hfz32_1⟩ := c2_ BK369.out)|(go_at_call 33;(with_reducible refine (gangsawref19_Name.calls k a0_0 false _ A2.out).mono ?_);rintro e w' ⟨rfl,⟨nd,rfl⟩⟩;(try first|exact ⟨rfl,_,World.drewN_drewN _ _ _⟩|exact ⟨rfl,_,Eq.trans (World.drewN_drewN _ _ _) (congrArg (World.drewN _) (Nat.add_assoc _ _ _))⟩))))
  go_ret
  exact ⟨by first|rfl|(simp [errW_none,errW_some] <;> rfl)|(simp [*,errW_none,errW_some] <;> rfl),by repeat (first|(with_reducible first|exact HB.out|apply lA|apply lN|apply lD|refine lS ?_ GE369.out)|exact HB.out)⟩
-- GIVEN: function 18 (gangsawref39_Bounds)
end Go.Proofs.Ytnjikioimompnaa.PA
