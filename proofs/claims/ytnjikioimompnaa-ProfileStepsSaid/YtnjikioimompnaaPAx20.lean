-- Written by a program of this session out of the translation,over functions proved by hand.
import Derived.Test.YtnjikioimompnaaPAx0
import Derived.Test.YtnjikioimompnaaPAx7
import Derived.Test.YtnjikioimompnaaPAx8
import Derived.Test.YtnjikioimompnaaPAx10
import Derived.Test.YtnjikioimompnaaPAx16
import Derived.Test.YtnjikioimompnaaGiven
namespace Go.Proofs.Ytnjikioimompnaa.PA
open Go.RowKit Go.Proofs.YtnjikioimompnaaW.PrintWords Go.Proofs.YtnjikioimompnaaW.PrintLast Go.Proofs.YtnjikioimompnaaW.PrintMore
attribute [local go_sem] max2_int min2_int max_two min_two max_three min_three max_four min_four   -- for this text's walks alone
set_option linter.unusedVariables false
set_option linter.unusedSimpArgs false
noncomputable section

mutual
def gangsawref39_Step.j0 : Nat → ByteArray → Int → Int → Int → Bool → Option (ByteArray × (List (S31)) × Int)
 | 0,_,_,_,_,_=>none
 | k + 1,x0,x1,x2,x3,x41=>if x41 = true then (some ((⟨#[]⟩ : ByteArray),([] : List (S31)),6)) else (gangsawref39_Step.l0 k x0 x2 x3 (([(⟨0,0⟩ : S31),(⟨wrap64 (x1 * x2),0⟩ : S31),(⟨wrap64 (x1 * x2),wrap64 (x1 * x3)⟩ : S31)] : List (S31))) (wrap64 (x1 - 1)))
def gangsawref39_Step.l0 : Nat → ByteArray → Int → Int → List (S31) → Int → Option (ByteArray × (List (S31)) × Int)
 | 0,_,_,_,_,_=>none
 | k + 1,x0,x2,x3,x10,x11=>if x11 ≥ 1 then ((some (([(⟨wrap64 (x11 * x2),wrap64 ((wrap64 (x11 + 1)) * x3)⟩ : S31),(⟨wrap64 (x11 * x2),wrap64 (x11 * x3)⟩ : S31)] : List (S31)) : List (S31))).bind fun y504=>(if x10.length + y504.length < 8796093022208 then (gangsawref39_Step.l0 k x0 x2 x3 (x10 ++ y504) (wrap64 (x11 - 1))) else (none))) else (if x10.length < 8796093022208 then (some (x0,(x10 ++ [(⟨0,x3⟩ : S31)]),0)) else (none))
end
def gangsawref39_Step.f (k : Nat) (a0 : ByteArray) (a1 : Int) (a2 : Int) (a3 : Int) : Option (ByteArray × (List (S31)) × Int):=(gangsawref19_Name.f k a0).bind fun t500=>(if t500 = true then (if a1 < 1 then (gangsawref39_Step.j0 k a0 a1 a2 a3 true) else (if a1 > 31 then (gangsawref39_Step.j0 k a0 a1 a2 a3 true) else (if a2 < 1 then (gangsawref39_Step.j0 k a0 a1 a2 a3 true) else (if a3 < 1 then (gangsawref39_Step.j0 k a0 a1 a2 a3 true) else (if a1 = 0 then (none) else (if a2 > (wrap64 (Int.tdiv 1000000 a1)) then (gangsawref39_Step.j0 k a0 a1 a2 a3 true) else (gangsawref39_Step.j0 k a0 a1 a2 a3 (decide (a3 > (wrap64 (Int.tdiv 1000000 a1))))))))))) else (some ((⟨#[]⟩ : ByteArray),([] : List (S31)),4)))
set_option maxHeartbeats 8000000 in
set_option maxRecDepth 100000 in
theorem gangsawref39_Step.calls (k : Nat) (a0 : ByteArray) (a1 : Int) (a2 : Int) (a3 : Int) (r1 : ByteArray) (r2 : List (S31)) (r3 : Int) (w : World) (h : gangsawref39_Step.f k a0 a1 a2 a3 = some (r1,r2,r3)) :
  Calls Try.prog 31 #[.string a0,.int .i64 a1,.int .i64 a2,.int .i64 a3] w fun e w'=>∃ v1_ : Value,e = .returned (.tuple #[.agg #[.string r1,v1_],.int .i64 r3]) ∧ Kd.R k31 31 w' w.heap.size (fun _=>True) v1_ r2 ∧ Below w.heap.size w w':=by
 have hu25:=Try.underlying25
 have hu31:=Try.underlying31
 have HB:=am (Below.refl w.heap.size w)
 have H : ((gangsawref19_Name.f k a0).bind fun t500=>(if t500 = true then (if a1 < 1 then (gangsawref39_Step.j0 k a0 a1 a2 a3 true) else (if a1 > 31 then (gangsawref39_Step.j0 k a0 a1 a2 a3 true) else (if a2 < 1 then (gangsawref39_Step.j0 k a0 a1 a2 a3 true) else (if a3 < 1 then (gangsawref39_Step.j0 k a0 a1 a2 a3 true) else (if a1 = 0 then (none) else (if a2 > (wrap64 (Int.tdiv 1000000 a1)) then (gangsawref39_Step.j0 k a0 a1 a2 a3 true) else (gangsawref39_Step.j0 k a0 a1 a2 a3 (decide (a3 > (wrap64 (Int.tdiv 1000000 a1))))))))))) else (some ((⟨#[]⟩ : ByteArray),([] : List (S31)),4)))) = some (r1,r2,r3):=h
 clear h
 replace H:=Option.bind_eq_some_iff.mp H
 obtain ⟨t500,A50,H⟩ := H
 replace H : (if t500 = true then (if a1 < 1 then (gangsawref39_Step.j0 k a0 a1 a2 a3 true) else (if a1 > 31 then (gangsawref39_Step.j0 k a0 a1 a2 a3 true) else (if a2 < 1 then (gangsawref39_Step.j0 k a0 a1 a2 a3 true) else (if a3 < 1 then (gangsawref39_Step.j0 k a0 a1 a2 a3 true) else (if a1 = 0 then (none) else (if a2 > (wrap64 (Int.tdiv 1000000 a1)) then (gangsawref39_Step.j0 k a0 a1 a2 a3 true) else (gangsawref39_Step.j0 k a0 a1 a2 a3 (decide (a3 > (wrap64 (Int.tdiv 1000000 a1))))))))))) else (some ((⟨#[]⟩ : ByteArray),([] : List (S31)),4))) = some (r1,r2,r3):=H
 have A5:=am A50
 clear A50
 by_cases c6 : t500 = true
 ·subst c6
  have H1 : (if a1 < 1 then (gangsawref39_Step.j0 k a0 a1 a2 a3 true) else (if a1 > 31 then (gangsawref39_Step.j0 k a0 a1 a2 a3 true) else (if a2 < 1 then (gangsawref39_Step.j0 k a0 a1 a2 a3 true) else (if a3 < 1 then (gangsawref39_Step.j0 k a0 a1 a2 a3 true) else (if a1 = 0 then (none) else (if a2 > (wrap64 (Int.tdiv 1000000 a1)) then (gangsawref39_Step.j0 k a0 a1 a2 a3 true) else (gangsawref39_Step.j0 k a0 a1 a2 a3 (decide (a3 > (wrap64 (Int.tdiv 1000000 a1))))))))))) = some (r1,r2,r3):=by rw [if_pos rfl] at H;exact H
  clear H
  have H:=H1
  clear H1
  have HC7:=am H
  clear H
  go_enter Try.func31,Try.ntmps31
  go_upto_region 3 with (first|((with_reducible refine gate_dst (N:=8) rfl ?_);refine box_event ?hg (N:=8) ?hd (cs:=#[.string (⟨#[]⟩ : ByteArray),.slice none 0 0]) (t:=25) ?hr ?_;(case hd=>rfl);(case hg=>rfl);(case hr=>first|(go_simp;done)|(go_simp;rfl));intro gb499 hg w8 hbox hb;have n0_:=am (below_step (by repeat (first|(with_reducible first|exact HB.out|apply lA|apply lN|apply lD)|exact HB.out)) hb);have n1_:=am (hbox);have n2_:=am ((by rw [hg];exact (below_size (by repeat (first|(with_reducible first|exact HB.out|apply lA|apply lN|apply lD)|exact HB.out))) : w.heap.size ≤ gb499));have n3_:=am ((by rw [hg];exact (below_size (by repeat (first|(with_reducible first|exact HB.out|apply lA|apply lN|apply lD)|exact HB.out))) : w.heap.size ≤ gb499));clear HB;have HB:=n0_;have BK499:=n1_;have GW499:=n2_;have GE499:=n3_;clear n0_ n1_ n2_ n3_;clear hb hbox hg)|((with_reducible refine gate_callee (f:=33) rfl ?_);refine goesL_ (some 13) rfl rfl Try.func33 (by kernel_rfl) rfl #[.string a0] rfl (by (try simp only [mT,mC,mN]);first|done|rfl|(simp only [lDr,lTk];rfl)) ?_;(with_reducible refine (gangsawref19_Name.calls k a0 true _ A5.out).mono ?_);rintro e w' ⟨rfl,⟨nd,rfl⟩⟩;refine ⟨_,rfl, ?_⟩))
  (try simp only [Act.put,sA,s0,sS])
  go_cut [41] (fun v41 wc=>∃ (kq : Nat) (x41_6 : Bool),v41 = .bool x41_6 ∧ Aside0 (gangsawref39_Step.j0 kq a0 a1 a2 a3 x41_6 = some (r1,r2,r3)) ∧ Aside0 (kq ≤ k) ∧ Aside0 (wc.heap[gb499]? = some (.cells #[.string (⟨#[]⟩ : ByteArray),(.slice none 0 0)] 25 (0,0))) ∧ Aside0 (Below w.heap.size w wc))
  case first =>
   have H:=HC7.out
   clear HC7
   by_cases c9 : a1 < 1
   ·rw [if_pos c9] at H
    have c9b0 : decide (a1 < 1) = true:=decide_eq_true c9
    clear c9
    (first|rw [c9b0]|(simp only [i64_w,i32_w];rw [c9b0])|skip)
    have H':=am H
    clear H
    go_wp2
    go_meet
    case rel=>exact ⟨_,(true),(by first|rfl|(simp;done)|(simp [*];done)),H',⟨by first|omega|exact Nat.le_refl _⟩,⟨by (with_reducible repeat (first|apply bN|apply bD|apply bA));exact BK499.out⟩,⟨by repeat (first|(with_reducible first|exact HB.out|apply lA|apply lN|apply lD|refine lS ?_ GE499.out)|exact HB.out)⟩⟩
   ·rw [if_neg c9] at H
    have c9b0 : decide (a1 < 1) = false:=decide_eq_false c9
    clear c9
    (first|rw [c9b0]|(simp only [i64_w,i32_w];rw [c9b0])|skip)
    by_cases c10 : a1 > 31
    ·rw [if_pos c10] at H
     have c10b0 : decide (31 < a1) = true:=decide_eq_true c10
     clear c10
     have H':=am H
     clear H
     go_wp2
     go_meet
     case rel=>exact ⟨_,(true),(by first|rfl|(simp;done)|(simp [*];done)),H',⟨by first|omega|exact Nat.le_refl _⟩,⟨by (with_reducible repeat (first|apply bN|apply bD|apply bA));exact BK499.out⟩,⟨by repeat (first|(with_reducible first|exact HB.out|apply lA|apply lN|apply lD|refine lS ?_ GE499.out)|exact HB.out)⟩⟩
    ·rw [if_neg c10] at H
     have c10b0 : decide (31 < a1) = false:=decide_eq_false c10
     clear c10
     by_cases c11 : a2 < 1
     ·rw [if_pos c11] at H
      have c11b0 : decide (a2 < 1) = true:=decide_eq_true c11
      clear c11
      have H':=am H
      clear H
      go_wp2
      go_meet
      case rel=>exact ⟨_,(true),(by first|rfl|(simp;done)|(simp [*];done)),H',⟨by first|omega|exact Nat.le_refl _⟩,⟨by (with_reducible repeat (first|apply bN|apply bD|apply bA));exact BK499.out⟩,⟨by repeat (first|(with_reducible first|exact HB.out|apply lA|apply lN|apply lD|refine lS ?_ GE499.out)|exact HB.out)⟩⟩
     ·rw [if_neg c11] at H
      have c11b0 : decide (a2 < 1) = false:=decide_eq_false c11
      clear c11
      by_cases c12 : a3 < 1
      ·rw [if_pos c12] at H
       have c12b0 : decide (a3 < 1) = true:=decide_eq_true c12
       clear c12
       have H':=am H
       clear H
       go_wp2
       go_meet
       case rel=>exact ⟨_,(true),(by first|rfl|(simp;done)|(simp [*];done)),H',⟨by first|omega|exact Nat.le_refl _⟩,⟨by (with_reducible repeat (first|apply bN|apply bD|apply bA));exact BK499.out⟩,⟨by repeat (first|(with_reducible first|exact HB.out|apply lA|apply lN|apply lD|refine lS ?_ GE499.out)|exact HB.out)⟩⟩
      ·rw [if_neg c12] at H
       have c12b0 : decide (a3 < 1) = false:=decide_eq_false c12
       clear c12
       by_cases c13 : a1 = 0
       ·rw [if_pos c13] at H
        exact absurd H (by simp)
       ·rw [if_neg c13] at H
        have c13b0 : (a1 == 0) = false:=beq_eq_false_iff_ne.mpr c13
        have c13b1 : (a1 != 0) = true:=bne_iff_ne.mpr c13
        by_cases c14 : a2 > (wrap64 (Int.tdiv 1000000 a1))
        ·rw [if_pos c14] at H
         have c14b0 : decide ((wrap64 (Int.tdiv 1000000 a1)) < a2) = true:=decide_eq_true c14
         clear c14
         have H':=am H
         clear H
         go_wp2
         go_meet
         case rel=>exact ⟨_,(true),(by first|rfl|(simp;done)|(simp [*];done)),H',⟨by first|omega|exact Nat.le_refl _⟩,⟨by (with_reducible repeat (first|apply bN|apply bD|apply bA));exact BK499.out⟩,⟨by repeat (first|(with_reducible first|exact HB.out|apply lA|apply lN|apply lD|refine lS ?_ GE499.out)|exact HB.out)⟩⟩
        ·rw [if_neg c14] at H
         have c14b0 : decide ((wrap64 (Int.tdiv 1000000 a1)) < a2) = false:=decide_eq_false c14
         clear c14
         have H':=am H
         clear H
         go_wp2
         go_meet
         case rel=>exact ⟨_,(decide (a3 > (wrap64 (Int.tdiv 1000000 a1)))),(by first|rfl|(simp;done)|(simp [*];done)),H',⟨by first|omega|exact Nat.le_refl _⟩,⟨by (with_reducible repeat (first|apply bN|apply bD|apply bA));exact BK499.out⟩,⟨by repeat (first|(with_reducible first|exact HB.out|apply lA|apply lN|apply lD|refine lS ?_ GE499.out)|exact HB.out)⟩⟩
  case rest =>
   clear HC7
   try clear c1
   try clear p2
   try clear c3
   try clear c6
   try clear p6
   try clear c9
   try clear c9b0
   try clear c10
   try clear c10b0
   try clear c11
   try clear c11b0
   try clear c12
   try clear c12b0
   try clear c13
   try clear c13b0
   try clear c13b1
   try clear c14
   try clear c14b0
   obtain ⟨kq,x41_6,rfl,HA,HJ6,BK499,HB⟩ := hcut
   cases kq with
   | zero=>exact absurd HA.out (by simp [gangsawref39_Step.j0])
   | succ kj6 =>
    have H:=HA.out
    clear HA
    simp only [gangsawref39_Step.j0] at H
    by_cases c15 : x41_6 = true
    ·subst c15
     have H1 : (some ((⟨#[]⟩ : ByteArray),([] : List (S31)),6)) = some (r1,r2,r3):=by rw [if_pos rfl] at H;exact H
     clear H
     have H:=H1
     clear H1
     simp only [Option.some.injEq,Prod.mk.injEq] at H
     obtain ⟨rfl,rfl,rfl⟩ := H
     have hcz16_0 : wc.cell? ⟨gb499,0,none⟩ = some (.string (⟨#[]⟩ : ByteArray)):=(blk_cell BK499.out 0).trans rfl
     have hcz16_1 : wc.cell? ⟨gb499,1,none⟩ = some (.slice none 0 0):=(blk_cell BK499.out 1).trans rfl
     have hfz16_0:=blk_frozen BK499.out 0
     have hfz16_1:=blk_frozen BK499.out 1
     go_wp2
     refine bodyPost_ret (results_ct rfl _ _ gb499 25 #[.string (⟨#[]⟩ : ByteArray),.slice none 0 0] (0,0) _ rfl (by (with_reducible repeat (first|apply bN|apply bD|apply bA));refine blk_put (cs:=#[.string (⟨#[]⟩ : ByteArray),.slice none 0 0]) ?_ 1 _ rfl;(with_reducible repeat (first|apply bN|apply bD|apply bA));refine blk_put (cs:=#[.string (⟨#[]⟩ : ByteArray),.slice none 0 0]) ?_ 0 _ rfl;(with_reducible repeat (first|apply bN|apply bD|apply bA));exact BK499.out) Try.underlying25 rfl (by kernel_rfl)) rfl ?_
     exact ⟨_,by first|rfl|(simp [errW_none,errW_some] <;> rfl)|(simp [*,errW_none,errW_some] <;> rfl),by first|exact Kd.R_nil _ _ _ _ _|exact Kd.N_nil _ _ _ _ _|exact Kd.V_nil _ _ _ _ _|exact Kd.Q_nil _ _ _ _ _|exact Kd.S_nil _ _ _ _ _,by repeat (first|(with_reducible first|exact HB.out|apply lA|apply lN|apply lD|refine lS ?_ GE499.out)|exact HB.out)⟩
    ·replace c15:=Bool.eq_false_iff.mpr c15
     subst c15
     have H1 : (gangsawref39_Step.l0 kj6 a0 a2 a3 (([(⟨0,0⟩ : S31),(⟨wrap64 (a1 * a2),0⟩ : S31),(⟨wrap64 (a1 * a2),wrap64 (a1 * a3)⟩ : S31)] : List (S31))) (wrap64 (a1 - 1))) = some (r1,r2,r3):=by rw [if_neg (show ¬ (false = true) by decide)] at H;exact H
     clear H
     have H:=H1
     clear H1
     obtain ⟨y501,hy501⟩ : ∃ y_ : List (S31),y_ = (([(⟨0,0⟩ : S31),(⟨wrap64 (a1 * a2),0⟩ : S31),(⟨wrap64 (a1 * a2),wrap64 (a1 * a3)⟩ : S31)] : List (S31))):=⟨_,rfl⟩
     replace H : (gangsawref39_Step.l0 kj6 a0 a2 a3 y501 (wrap64 (a1 - 1))) = some (r1,r2,r3):=by first|(rw [hy501];with_reducible exact H)|(have H2_:=(Option.bind_some _ _).symm.trans H;rw [hy501];with_reducible exact H2_)|(have H2_:=(Option.bind_some _ _).symm.trans H;with_reducible exact H2_)|with_reducible exact H|(rw [hy501];exact H)|exact H
     have Ny501:=am hy501
     clear hy501
     have H':=am H
     clear H
     go_wp2_with (first|((with_reducible refine gate_dst (N:=55) rfl ?_);refine Kd.R_lit k31 _ 31 ?hg (N:=55) ?hd (xs:=([(⟨0,0⟩ : S31),(⟨wrap64 (a1 * a2),0⟩ : S31),(⟨wrap64 (a1 * a2),wrap64 (a1 * a3)⟩ : S31)] : List (S31))) (inner:=[.int .i64 0,.int .i64 0,.int .i64 (wrap64 (a1 * a2)),.int .i64 0,.int .i64 (wrap64 (a1 * a2)),.int .i64 (wrap64 (a1 * a3))]) (ok:=fun _=>True) (okp:=fun _=>True) ?hr ?hp (fun _ hk=>hk) trivial (Below.refl _ _) (Nat.le_refl _) (by simp) ?_;(case hd=>rfl);(case hg=>rfl);(case hr=>first|(go_simp;done)|(go_simp;rfl));(case hp=>exact (Reps.c2 (show Kd.M k31 _ _ _ (⟨0,0⟩ : S31) [.int .i64 0,.int .i64 0] from (k31_mkM _ _ _ (⟨0,0⟩ : S31) )) (Reps.c2 (show Kd.M k31 _ _ _ (⟨wrap64 (a1 * a2),0⟩ : S31) [.int .i64 (wrap64 (a1 * a2)),.int .i64 0] from (k31_mkM _ _ _ (⟨wrap64 (a1 * a2),0⟩ : S31) )) (Reps.c2 (show Kd.M k31 _ _ _ (⟨wrap64 (a1 * a2),wrap64 (a1 * a3)⟩ : S31) [.int .i64 (wrap64 (a1 * a2)),.int .i64 (wrap64 (a1 * a3))] from (k31_mkM _ _ _ (⟨wrap64 (a1 * a2),wrap64 (a1 * a3)⟩ : S31) )) (Reps.none _ _)))));intro v502 w17 ho18 hb hg_ hnew_;clear hg_ hnew_;(first|rw [← Ny501.out] at ho18|(simp only [Int.reduceToNat] at ho18;rw [← Ny501.out] at ho18));have n0_:=am (Kd.R_lower ho18 (below_size (by repeat (first|(with_reducible first|exact HB.out|apply lA|apply lN|apply lD|refine lS ?_ GE499.out)|exact HB.out))));have n1_:=am (blk_below (g:=gb499) (o:=.cells #[.string (⟨#[]⟩ : ByteArray),.slice none 0 0] 25 (0,0)) (by (with_reducible repeat (first|apply bN|apply bD|apply bA));exact BK499.out) hb);have n2_:=am (below_step (by repeat (first|(with_reducible first|exact HB.out|apply lA|apply lN|apply lD|refine lS ?_ GE499.out)|exact HB.out)) hb);clear BK499;clear HB;have HO503:=n0_;have BK499:=n1_;have HB:=n2_;clear n0_ n1_ n2_;clear hb ho18))
     go_loopg [10,11] kj6 (fun kq v10 v11 w'=>∃ (x10_2 : List (S31)) (x11_2 : Int),v11 = .int .i64 x11_2 ∧ Aside0 (gangsawref39_Step.l0 kq a0 a2 a3 x10_2 x11_2 = some (r1,r2,r3)) ∧ Aside0 (kq ≤ kj6) ∧ Aside0 (Kd.R k31 31 w' w.heap.size (fun _=>True) v10 x10_2) ∧ Aside0 (w'.heap[gb499]? = some (.cells #[.string (⟨#[]⟩ : ByteArray),(.slice none 0 0)] 25 (0,0))) ∧ Aside0 (Below w.heap.size w w'))
     case atStart=>exact ⟨(y501),(wrap64 (a1 - 1)),(by first|rfl|(simp;done)|(simp [*];done)),H',⟨Nat.le_refl _⟩,⟨by (with_reducible repeat (first|apply rA|apply rN|apply rD));exact HO503.out⟩,⟨by (with_reducible repeat (first|apply bN|apply bD|apply bA));exact BK499.out⟩,⟨by repeat (first|(with_reducible first|exact HB.out|apply lA|apply lN|apply lD|refine lS ?_ GE499.out)|exact HB.out)⟩⟩
     case round =>
      clear H'
      try clear c1
      try clear c2
      try clear p2
      try clear c3
      try clear c6
      try clear p6
      try clear c9
      try clear c9b0
      try clear c10
      try clear c10b0
      try clear c11
      try clear c11b0
      try clear c12
      try clear c12b0
      try clear c13
      try clear c13b0
      try clear c13b1
      try clear c14
      try clear c14b0
      try clear c15
      try clear hcz16_0
      try clear hcz16_1
      try clear hfz16_0
      try clear hfz16_1
      try clear p2
      try clear p6
      obtain ⟨x10_2,x11_2,rfl,HA,HK2,HO_10,BK499,HB⟩ := hrel
      cases gk with
      | zero=>exact absurd HA.out (by simp [gangsawref39_Step.l0])
      | succ k2 =>
       have H:=HA.out
       clear HA
       simp only [gangsawref39_Step.l0] at H
       by_cases c19 : x11_2 ≥ 1
       ·rw [if_pos c19] at H
        have c19b0 : decide (1 ≤ x11_2) = true:=decide_eq_true c19
        clear c19
        obtain ⟨y504,hy504⟩ : ∃ y_ : List (S31),y_ = (([(⟨wrap64 (x11_2 * a2),wrap64 ((wrap64 (x11_2 + 1)) * a3)⟩ : S31),(⟨wrap64 (x11_2 * a2),wrap64 (x11_2 * a3)⟩ : S31)] : List (S31))):=⟨_,rfl⟩
        replace H : (if x10_2.length + y504.length < 8796093022208 then (gangsawref39_Step.l0 k2 a0 a2 a3 (x10_2 ++ y504) (wrap64 (x11_2 - 1))) else (none)) = some (r1,r2,r3):=by first|(rw [hy504];with_reducible exact H)|(have H2_:=(Option.bind_some _ _).symm.trans H;rw [hy504];with_reducible exact H2_)|(have H2_:=(Option.bind_some _ _).symm.trans H;with_reducible exact H2_)|with_reducible exact H|(rw [hy504];exact H)|exact H
        have Ny504:=am hy504
        clear hy504
        by_cases c20 : x10_2.length + y504.length < 8796093022208
        ·rw [if_pos c20] at H
         have LMc20:=am c20
         clear c20
         obtain ⟨y507,hy507⟩ : ∃ y_ : List (S31),y_ = (x10_2 ++ y504):=⟨_,rfl⟩
         replace H : (gangsawref39_Step.l0 k2 a0 a2 a3 y507 (wrap64 (x11_2 - 1))) = some (r1,r2,r3):=by first|(rw [hy507];with_reducible exact H)|(have H2_:=(Option.bind_some _ _).symm.trans H;rw [hy507];with_reducible exact H2_)|(have H2_:=(Option.bind_some _ _).symm.trans H;with_reducible exact H2_)|with_reducible exact H|(rw [hy507];exact H)|exact H
         have Ny507:=am hy507
         clear hy507
         have H':=am H
         clear H
         go_wp2_with (first|((with_reducible refine gate_dst (N:=78) rfl ?_);refine Kd.R_lit k31 _ 31 ?hg (N:=78) ?hd (xs:=([(⟨wrap64 (x11_2 * a2),wrap64 ((wrap64 (x11_2 + 1)) * a3)⟩ : S31),(⟨wrap64 (x11_2 * a2),wrap64 (x11_2 * a3)⟩ : S31)] : List (S31))) (inner:=[.int .i64 (wrap64 (x11_2 * a2)),.int .i64 (wrap64 ((wrap64 (x11_2 + 1)) * a3)),.int .i64 (wrap64 (x11_2 * a2)),.int .i64 (wrap64 (x11_2 * a3))]) (ok:=fun _=>True) (okp:=fun _=>True) ?hr ?hp (fun _ hk=>hk) trivial (Below.refl _ _) (Nat.le_refl _) (by simp) ?_;(case hd=>rfl);(case hg=>rfl);(case hr=>first|(go_simp;done)|(go_simp;rfl));(case hp=>exact (Reps.c2 (show Kd.M k31 _ _ _ (⟨wrap64 (x11_2 * a2),wrap64 ((wrap64 (x11_2 + 1)) * a3)⟩ : S31) [.int .i64 (wrap64 (x11_2 * a2)),.int .i64 (wrap64 ((wrap64 (x11_2 + 1)) * a3))] from (k31_mkM _ _ _ (⟨wrap64 (x11_2 * a2),wrap64 ((wrap64 (x11_2 + 1)) * a3)⟩ : S31) )) (Reps.c2 (show Kd.M k31 _ _ _ (⟨wrap64 (x11_2 * a2),wrap64 (x11_2 * a3)⟩ : S31) [.int .i64 (wrap64 (x11_2 * a2)),.int .i64 (wrap64 (x11_2 * a3))] from (k31_mkM _ _ _ (⟨wrap64 (x11_2 * a2),wrap64 (x11_2 * a3)⟩ : S31) )) (Reps.none _ _))));intro v505 w21 ho22 hb hg_ hnew_;clear hg_ hnew_;(first|rw [← Ny504.out] at ho22|(simp only [Int.reduceToNat] at ho22;rw [← Ny504.out] at ho22));have n0_:=am (Kd.R_elder' (by (with_reducible repeat (first|apply rA|apply rN|apply rD));exact HO_10.out) (Kd.R_base ho22) hb);have n1_:=am (Kd.R_lower (Kd.R_new' ho22 (Kd.R_lt (by (with_reducible repeat (first|apply rA|apply rN|apply rD));exact HO_10.out))) (below_size (by repeat (first|(with_reducible first|exact HB.out|apply lA|apply lN|apply lD|refine lS ?_ GE499.out)|exact HB.out))));have n2_:=am (blk_below (g:=gb499) (o:=.cells #[.string (⟨#[]⟩ : ByteArray),.slice none 0 0] 25 (0,0)) (by (with_reducible repeat (first|apply bN|apply bD|apply bA));exact BK499.out) hb);have n3_:=am (below_step (by repeat (first|(with_reducible first|exact HB.out|apply lA|apply lN|apply lD|refine lS ?_ GE499.out)|exact HB.out)) hb);clear HO_10;clear BK499;clear HB;have HO_10:=n0_;have HO506:=n1_;have BK499:=n2_;have HB:=n3_;clear n0_ n1_ n2_ n3_;clear hb ho22;obtain ⟨Ao24,co24,eo24⟩ := Kd.R_slice HO506.out;subst eo24)|((with_reducible refine gate_builtin (b:=.append) (xs:=#[.tmp 62,.tmp 78]) rfl ?_);at_builtin;refine Kd.R_append_rows k31 (w0:=w) w.heap.size rfl (.tmp 62) (.tmp 78) 23 31 (.agg #[(.int .i64 0),(.int .i64 0)]) 16 rfl Try.underlying23 info31 rfl (by decide) (by omega) u10 x10_2 y504 _ _ _ (fun k_=>some k_ ≠ (.slice Ao24 y504.length co24 : Value).ownBlock) (fun _=>False) rfl rfl ?aO ?aR (fun _ _ h=>h) (fun _ h=>h.elim) ?aF ?aB ?aS ?aL ?_;(case aR=>repeat (first|exact (Kd.R_reads' HO506.out).2.2|(with_reducible first|apply kA|apply kN|apply kD)));(case aB=>exact (by repeat (first|(with_reducible first|exact HB.out|apply lA|apply lN|apply lD|refine lS ?_ GE499.out)|exact HB.out)));(case aF=>exact (fun k_ hk=>Kd.fresh' (Kd.R_lt (by (with_reducible repeat (first|apply rA|apply rN|apply rD));exact HO506.out)) k_ hk));(case aO=>exact (by (with_reducible repeat (first|apply rA|apply rN|apply rD));exact Kd.R_mono HO_10.out (fun _ hk=>hk.2)));(case aS=>exact (below_size (by repeat (first|(with_reducible first|exact HB.out|apply lA|apply lN|apply lD|refine lS ?_ GE499.out)|exact HB.out))));(case aL=>have:=LMc20.out;omega);intro v508 w23 ho hb hg hat;rw [← Ny507.out] at ho;have n0_:=am (blk_grown (g:=gb499) (o:=.cells #[.string (⟨#[]⟩ : ByteArray),.slice none 0 0] 25 (0,0)) (by (with_reducible repeat (first|apply bN|apply bD|apply bA));exact BK499.out) hg (Kd.R_ne HO_10.out BK499.out (by decide)));have n1_:=am (Kd.R_after (ok:=(fun _=>True)) (by (with_reducible repeat (first|apply rA|apply rN|apply rD));exact HO506.out) hg hat);have n2_:=am (hb);have n3_:=am (ho);clear BK499;clear HO506;clear HB;clear HO_10;have BK499:=n0_;have HO506:=n1_;have HB:=n2_;have HO509:=n3_;clear n0_ n1_ n2_ n3_;clear ho hb hg hat))
         go_roundg k2
         case measure=>have:=HJ6.out;have:=HK2.out;omega
         case rel=>exact ⟨(y507),(wrap64 (x11_2 - 1)),(by first|rfl|(simp;done)|(simp [*];done)),H',⟨by have:=HJ6.out;have:=HK2.out;omega⟩,⟨by (with_reducible repeat (first|apply rA|apply rN|apply rD));exact Kd.R_mono HO509.out (fun _ hk=>trivial)⟩,⟨by (with_reducible repeat (first|apply bN|apply bD|apply bA));exact BK499.out⟩,⟨by repeat (first|(with_reducible first|exact HB.out|apply lA|apply lN|apply lD|refine lS ?_ GE499.out)|exact HB.out)⟩⟩
        ·rw [if_neg c20] at H
         exact absurd H (by simp)
       ·rw [if_neg c19] at H
        have c19b0 : decide (1 ≤ x11_2) = false:=decide_eq_false c19
        clear c19
        by_cases c25 : x10_2.length < 8796093022208
        ·rw [if_pos c25] at H
         have LMc25:=am c25
         clear c25
         obtain ⟨y510,hy510⟩ : ∃ y_ : List (S31),y_ = (x10_2 ++ [(⟨0,a3⟩ : S31)]):=⟨_,rfl⟩
         replace H : (some (a0,y510,0)) = some (r1,r2,r3):=by first|(rw [hy510];with_reducible exact H)|(have H2_:=(Option.bind_some _ _).symm.trans H;rw [hy510];with_reducible exact H2_)|(have H2_:=(Option.bind_some _ _).symm.trans H;with_reducible exact H2_)|with_reducible exact H|(rw [hy510];exact H)|exact H
         have Ny510:=am hy510
         clear hy510
         simp only [Option.some.injEq,Prod.mk.injEq] at H
         obtain ⟨rfl,rfl,rfl⟩ := H
         go_wp2_with (first|((with_reducible refine gate_builtin (b:=.append) (xs:=#[.tmp 81,.tmp 84]) rfl ?_);at_builtin;refine Kd.R_append k31 (w0:=w) w.heap.size rfl (.tmp 81) (.tmp 84) 23 31 (.agg #[(.int .i64 0),(.int .i64 0)]) 16 rfl Try.underlying23 info31 rfl (by decide) (by omega) u10 x10_2 (⟨0,a3⟩ : S31) [.int .i64 0,.int .i64 a3] (fun _=>True) (fun _=>False) rfl rfl ?aP (fun _ hk=>hk.elim) ?aF ?aO ?aB ?aS ?aL ?_;(case aP=>exact k31_mkM _ _ _ (⟨0,a3⟩ : S31));(case aB=>exact (by repeat (first|(with_reducible first|exact HB.out|apply lA|apply lN|apply lD|refine lS ?_ GE499.out)|exact HB.out)));(case aF=>exact (fun _ _=>trivial));(case aO=>exact (by (with_reducible repeat (first|apply rA|apply rN|apply rD));exact HO_10.out));(case aS=>exact (below_size (by repeat (first|(with_reducible first|exact HB.out|apply lA|apply lN|apply lD|refine lS ?_ GE499.out)|exact HB.out))));(case aL=>have:=LMc25.out;omega);intro v511 w26 ho hb hg hat;rw [← Ny510.out] at ho;have n0_:=am (blk_grown (g:=gb499) (o:=.cells #[.string (⟨#[]⟩ : ByteArray),.slice none 0 0] 25 (0,0)) (by (with_reducible repeat (first|apply bN|apply bD|apply bA));exact BK499.out) hg (Kd.R_ne HO_10.out BK499.out (by decide)));have n1_:=am (hb);have n2_:=am (ho);clear BK499;clear HB;clear HO_10;have BK499:=n0_;have HB:=n1_;have HO512:=n2_;clear n0_ n1_ n2_;clear ho hb hg hat;obtain ⟨Ao27,co27,eo27⟩ := Kd.R_slice HO512.out;subst eo27;have hcz28_0 : w26.cell? ⟨gb499,0,none⟩ = some (.string (⟨#[]⟩ : ByteArray)):=(blk_cell BK499.out 0).trans rfl;have hcz28_1 : w26.cell? ⟨gb499,1,none⟩ = some (.slice none 0 0):=(blk_cell BK499.out 1).trans rfl;have hfz28_0:=blk_frozen BK499.out 0;have hfz28_1:=blk_frozen BK499.out 1))
         refine bodyPost_ret (results_ct rfl _ _ gb499 25 #[.string a0,.slice Ao27 y510.length co27] (0,0) _ rfl (by (with_reducible repeat (first|apply bN|apply bD|apply bA));refine blk_put (cs:=#[.string a0,.slice none 0 0]) ?_ 1 _ rfl;(with_reducible repeat (first|apply bN|apply bD|apply bA));refine blk_put (cs:=#[.string (⟨#[]⟩ : ByteArray),.slice none 0 0]) ?_ 0 _ rfl;(with_reducible repeat (first|apply bN|apply bD|apply bA));exact BK499.out) Try.underlying25 rfl (by kernel_rfl)) rfl ?_
         exact ⟨_,by first|rfl|(simp [errW_none,errW_some] <;> rfl)|(simp [*,errW_none,errW_some] <;> rfl),by (with_reducible repeat (first|apply rA|apply rN|apply rD));exact Kd.R_mono (Kd.R_far (p:=⟨gb499,1,none⟩) (Kd.R_far (p:=⟨gb499,0,none⟩) (Kd.R_types HO512.out BK499.out (by decide)) (fun _ hk=>hk.2) (.string a0)) (fun _ hk=>hk.2) (.slice Ao27 y510.length co27)) (fun _ hk=>trivial),by repeat (first|(with_reducible first|exact HB.out|apply lA|apply lN|apply lD|refine lS ?_ GE499.out)|exact HB.out)⟩
        ·rw [if_neg c25] at H
         exact absurd H (by simp)
 ·replace c6:=Bool.eq_false_iff.mpr c6
  subst c6
  have H1 : (some ((⟨#[]⟩ : ByteArray),([] : List (S31)),4)) = some (r1,r2,r3):=by rw [if_neg (show ¬ (false = true) by decide)] at H;exact H
  clear H
  have H:=H1
  clear H1
  simp only [Option.some.injEq,Prod.mk.injEq] at H
  obtain ⟨rfl,rfl,rfl⟩ := H
  go_enter Try.func31,Try.ntmps31
  go_wp2_with (first|((with_reducible refine gate_dst (N:=8) rfl ?_);refine box_event ?hg (N:=8) ?hd (cs:=#[.string (⟨#[]⟩ : ByteArray),.slice none 0 0]) (t:=25) ?hr ?_;(case hd=>rfl);(case hg=>rfl);(case hr=>first|(go_simp;done)|(go_simp;rfl));intro gb499 hg w29 hbox hb;have n0_:=am (below_step (by repeat (first|(with_reducible first|exact HB.out|apply lA|apply lN|apply lD)|exact HB.out)) hb);have n1_:=am (hbox);have n2_:=am ((by rw [hg];exact (below_size (by repeat (first|(with_reducible first|exact HB.out|apply lA|apply lN|apply lD)|exact HB.out))) : w.heap.size ≤ gb499));have n3_:=am ((by rw [hg];exact (below_size (by repeat (first|(with_reducible first|exact HB.out|apply lA|apply lN|apply lD)|exact HB.out))) : w.heap.size ≤ gb499));clear HB;have HB:=n0_;have BK499:=n1_;have GW499:=n2_;have GE499:=n3_;clear n0_ n1_ n2_ n3_;clear hb hbox hg)|((with_reducible refine gate_callee (f:=33) rfl ?_);refine goesL_ (some 13) rfl rfl Try.func33 (by kernel_rfl) rfl #[.string a0] rfl (by (try simp only [mT,mC,mN]);first|done|rfl|(simp only [lDr,lTk];rfl)) ?_;(with_reducible refine (gangsawref19_Name.calls k a0 false _ A5.out).mono ?_);rintro e w' ⟨rfl,⟨nd,rfl⟩⟩;refine ⟨_,rfl, ?_⟩;(try (rw [drewN_self w29];generalize hq_ : World.drewN w29 _ = w29;have n0_ : Aside0 (w29.heap[gb499]? = some (.cells #[.string (⟨#[]⟩ : ByteArray),.slice none 0 0] 25 (0,0))):=⟨by rw [← hq_];exact (by (with_reducible repeat (first|apply bN|apply bD|apply bA));exact BK499.out)⟩;have n1_ : Aside0 (Below w.heap.size w w29):=⟨by rw [← hq_];exact (by repeat (first|(with_reducible first|exact HB.out|apply lA|apply lN|apply lD|refine lS ?_ GE499.out)|exact HB.out))⟩;clear BK499 HB hq_;have BK499:=n0_;have HB:=n1_;clear n0_ n1_));have hcz30_0 : w29.cell? ⟨gb499,0,none⟩ = some (.string (⟨#[]⟩ : ByteArray)):=(blk_cell BK499.out 0).trans rfl;have hcz30_1 : w29.cell? ⟨gb499,1,none⟩ = some (.slice none 0 0):=(blk_cell BK499.out 1).trans rfl;have hfz30_0:=blk_frozen BK499.out 0;have hfz30_1:=blk_frozen BK499.out 1))
  refine bodyPost_ret (results_ct rfl _ _ gb499 25 #[.string (⟨#[]⟩ : ByteArray),.slice none 0 0] (0,0) _ rfl (by (with_reducible repeat (first|apply bN|apply bD|apply bA));refine blk_put (cs:=#[.string (⟨#[]⟩ : ByteArray),.slice none 0 0]) ?_ 1 _ rfl;(with_reducible repeat (first|apply bN|apply bD|apply bA));refine blk_put (cs:=#[.string (⟨#[]⟩ : ByteArray),.slice none 0 0]) ?_ 0 _ rfl;(with_reducible repeat (first|apply bN|apply bD|apply bA));exact BK499.out) Try.underlying25 rfl (by kernel_rfl)) rfl ?_
  exact ⟨_,by first|rfl|(simp [errW_none,errW_some] <;> rfl)|(simp [*,errW_none,errW_some] <;> rfl),by first|exact Kd.R_nil _ _ _ _ _|exact Kd.N_nil _ _ _ _ _|exact Kd.V_nil _ _ _ _ _|exact Kd.Q_nil _ _ _ _ _|exact Kd.S_nil _ _ _ _ _,by repeat (first|(with_reducible first|exact HB.out|apply lA|apply lN|apply lD|refine lS ?_ GE499.out)|exact HB.out)⟩

def gangsawlaw39_ProfileSteps.f (k : Nat) (a0 : ByteArray) (a1 : Int) (a2 : Int) (a3 : Int) : Option (Bool):=(gangsawlaw39_awake.f k).bind fun t513=>(if t513 = true then (if (a0.size : Int) > 60 then (some true) else ((profile_Step.f k a0 a1 a2 a3).bind fun bt514=>((gangsawref39_Step.f k a0 a1 a2 a3).bind fun bt520=>(if bt514.2.2 = bt520.2.2 then ((gangsawlaw39_same.f k bt514.1 bt514.2.1 bt520.1 bt520.2.1).bind fun t526=>(some t526)) else (none))))) else (none))
set_option maxHeartbeats 8000000 in
set_option maxRecDepth 100000 in
theorem gangsawlaw39_ProfileSteps.calls (k : Nat) (a0 : ByteArray) (a1 : Int) (a2 : Int) (a3 : Int) (r : Bool) (w : World) (h : gangsawlaw39_ProfileSteps.f k a0 a1 a2 a3 = some r) :
  Calls Try.prog 6 #[.string a0,.int .i64 a1,.int .i64 a2,.int .i64 a3] w fun e w'=>e = .returned (.bool r) ∧ Below w.heap.size w w':=by
 have hu25:=Try.underlying25
 have HB:=am (Below.refl w.heap.size w)
 have H : ((gangsawlaw39_awake.f k).bind fun t513=>(if t513 = true then (if (a0.size : Int) > 60 then (some true) else ((profile_Step.f k a0 a1 a2 a3).bind fun bt514=>((gangsawref39_Step.f k a0 a1 a2 a3).bind fun bt520=>(if bt514.2.2 = bt520.2.2 then ((gangsawlaw39_same.f k bt514.1 bt514.2.1 bt520.1 bt520.2.1).bind fun t526=>(some t526)) else (none))))) else (none))) = some r:=h
 clear h
 replace H:=Option.bind_eq_some_iff.mp H
 obtain ⟨t513,A50,H⟩ := H
 replace H : (if t513 = true then (if (a0.size : Int) > 60 then (some true) else ((profile_Step.f k a0 a1 a2 a3).bind fun bt514=>((gangsawref39_Step.f k a0 a1 a2 a3).bind fun bt520=>(if bt514.2.2 = bt520.2.2 then ((gangsawlaw39_same.f k bt514.1 bt514.2.1 bt520.1 bt520.2.1).bind fun t526=>(some t526)) else (none))))) else (none)) = some r:=H
 have A5:=am A50
 clear A50
 by_cases c6 : t513 = true
 ·subst c6
  have H1 : (if (a0.size : Int) > 60 then (some true) else ((profile_Step.f k a0 a1 a2 a3).bind fun bt514=>((gangsawref39_Step.f k a0 a1 a2 a3).bind fun bt520=>(if bt514.2.2 = bt520.2.2 then ((gangsawlaw39_same.f k bt514.1 bt514.2.1 bt520.1 bt520.2.1).bind fun t526=>(some t526)) else (none))))) = some r:=by rw [if_pos rfl] at H;exact H
  clear H
  have H:=H1
  clear H1
  by_cases c7 : (a0.size : Int) > 60
  ·rw [if_pos c7] at H
   have c7b0 : decide (60 < (a0.size : Int)) = true:=decide_eq_true c7
   have c7b1 : decide (60 < a0.size) = true:=decide_eq_true (by omega)
   clear c7
   obtain rfl:=Option.some.inj H
   go_enter Try.func6,Try.ntmps6
   go_wp2_with (first|((with_reducible refine gate_callee (f:=11) rfl ?_);refine goesL_ (some 13) rfl rfl Try.func11 (by kernel_rfl) rfl #[] rfl (by (try simp only [mT,mC,mN]);first|done|rfl|(simp only [lDr,lTk];rfl)) ?_;(with_reducible refine (gangsawlaw39_awake.calls k  true _ A5.out).mono ?_);rintro e w8 ⟨rfl,hb⟩;refine ⟨_,rfl, ?_⟩;have n0_:=am (below_step (by repeat (first|(with_reducible first|exact HB.out|apply lA|apply lN|apply lD)|exact HB.out)) hb);clear HB;have HB:=n0_;clear n0_;(try clear hb);(try clear hb2);(try clear hk);(try clear hi)))
   go_ret
   exact ⟨by first|rfl|(simp [errW_none,errW_some] <;> rfl)|(simp [*,errW_none,errW_some] <;> rfl),by repeat (first|(with_reducible first|exact HB.out|apply lA|apply lN|apply lD)|exact HB.out)⟩
  ·rw [if_neg c7] at H
   have c7b0 : decide (60 < (a0.size : Int)) = false:=decide_eq_false c7
   have c7b1 : decide (60 < a0.size) = false:=decide_eq_false (by omega)
   clear c7
   replace H:=Option.bind_eq_some_iff.mp H
   obtain ⟨⟨t514,t515,t518⟩,A90,H⟩ := H
   replace H : ((gangsawref39_Step.f k a0 a1 a2 a3).bind fun bt520=>(if t518 = bt520.2.2 then ((gangsawlaw39_same.f k t514 t515 bt520.1 bt520.2.1).bind fun t526=>(some t526)) else (none))) = some r:=H
   have A9:=am A90
   clear A90
   replace H:=Option.bind_eq_some_iff.mp H
   obtain ⟨⟨t520,t521,t524⟩,A100,H⟩ := H
   replace H : (if t518 = t524 then ((gangsawlaw39_same.f k t514 t515 t520 t521).bind fun t526=>(some t526)) else (none)) = some r:=H
   have A10:=am A100
   clear A100
   by_cases c11 : t518 = t524
   ·rw [if_pos c11] at H
    have c11b0 : (t518 == t524) = true:=beq_iff_eq.mpr c11
    have c11b1 : (t518 != t524) = false:=bne_eq_false_iff_eq.mpr c11
    clear c11
    replace H:=Option.bind_eq_some_iff.mp H
    obtain ⟨t526,A120,H⟩ := H
    replace H : (some t526) = some r:=H
    have A12:=am A120
    clear A120
    obtain rfl:=Option.some.inj H
    go_enter Try.func6,Try.ntmps6
    go_wp2_with (first|((with_reducible refine gate_callee (f:=11) rfl ?_);refine goesL_ (some 13) rfl rfl Try.func11 (by kernel_rfl) rfl #[] rfl (by (try simp only [mT,mC,mN]);first|done|rfl|(simp only [lDr,lTk];rfl)) ?_;(with_reducible refine (gangsawlaw39_awake.calls k  true _ A5.out).mono ?_);rintro e w13 ⟨rfl,hb⟩;refine ⟨_,rfl, ?_⟩;have n0_:=am (below_step (by repeat (first|(with_reducible first|exact HB.out|apply lA|apply lN|apply lD)|exact HB.out)) hb);clear HB;have HB:=n0_;clear n0_;(try clear hb);(try clear hb2);(try clear hk);(try clear hi))|((with_reducible refine gate_callee (f:=30) rfl ?_);refine goesL_ (some 23) rfl rfl Try.func30 (by kernel_rfl) rfl #[.string a0,.int .i64 a1,.int .i64 a2,.int .i64 a3] rfl (by (try simp only [mT,mC,mN]);first|done|rfl|(simp only [lDr,lTk];rfl)) ?_;(with_reducible refine (profile_Step.calls k a0 a1 a2 a3 t514 t515 t518 _ A9.out).mono ?_);rintro e w14 ⟨v516,rfl,ho0,hb⟩;refine ⟨_,rfl, ?_⟩;have n0_:=am (Kd.R_lower ho0 (below_size (by repeat (first|(with_reducible first|exact HB.out|apply lA|apply lN|apply lD)|exact HB.out))));have n1_:=am (below_step (by repeat (first|(with_reducible first|exact HB.out|apply lA|apply lN|apply lD)|exact HB.out)) hb);clear HB;have HO517:=n0_;have HB:=n1_;clear n0_ n1_;(try clear hb);(try clear hb2);(try clear hk);(try clear hi);(try clear ho0))|((with_reducible refine gate_dst (N:=9) rfl ?_);refine box_event ?hg (N:=9) ?hd (cs:=#[.string (⟨#[]⟩ : ByteArray),.slice none 0 0]) (t:=25) ?hr ?_;(case hd=>rfl);(case hg=>rfl);(case hr=>first|(go_simp;done)|(go_simp;rfl));intro gb519 hg w15 hbox hb;have n0_:=am (Kd.R_below (by (with_reducible repeat (first|apply rA|apply rN|apply rD));exact HO517.out) hb);have n1_:=am (below_step (by repeat (first|(with_reducible first|exact HB.out|apply lA|apply lN|apply lD)|exact HB.out)) hb);have n2_:=am (hbox);have n3_:=am ((by rw [hg];exact (below_size (by repeat (first|(with_reducible first|exact HB.out|apply lA|apply lN|apply lD)|exact HB.out))) : w.heap.size ≤ gb519));have n4_:=am ((by rw [hg];exact (below_size (by repeat (first|(with_reducible first|exact HB.out|apply lA|apply lN|apply lD)|exact HB.out))) : w.heap.size ≤ gb519));clear HO517;clear HB;have HO517:=n0_;have HB:=n1_;have BK519:=n2_;have GW519:=n3_;have GE519:=n4_;clear n0_ n1_ n2_ n3_ n4_;clear hb hbox hg;have hcz16_0 : w15.cell? ⟨gb519,0,none⟩ = some (.string (⟨#[]⟩ : ByteArray)):=(blk_cell BK519.out 0).trans rfl;have hcz16_1 : w15.cell? ⟨gb519,1,none⟩ = some (.slice none 0 0):=(blk_cell BK519.out 1).trans rfl;have hfz16_0:=blk_frozen BK519.out 0;have hfz16_1:=blk_frozen BK519.out 1;obtain ⟨Ao17,co17,eo17⟩ := Kd.R_slice HO517.out;subst eo17)|((with_reducible refine gate_callee (f:=31) rfl ?_);refine goesL_ (some 31) rfl rfl Try.func31 (by kernel_rfl) rfl #[.string a0,.int .i64 a1,.int .i64 a2,.int .i64 a3] rfl (by (try simp only [mT,mC,mN]);first|done|rfl|(simp only [lDr,lTk];rfl)) ?_;(with_reducible refine (gangsawref39_Step.calls k a0 a1 a2 a3 t520 t521 t524 _ A10.out).mono ?_);rintro e w18 ⟨v522,rfl,ho0,hb⟩;refine ⟨_,rfl, ?_⟩;have n0_:=am (Kd.R_elder' (by (with_reducible repeat (first|apply rA|apply rN|apply rD));exact (Kd.R_mono (Kd.R_far (p:=⟨gb519,1,none⟩) (Kd.R_far (p:=⟨gb519,0,none⟩) (Kd.R_types HO517.out BK519.out (by decide)) (fun _ hk=>hk.2) (.string t514)) (fun _ hk=>hk.2) (.slice Ao17 t515.length co17)) (fun _ h_=>h_.1))) (Kd.R_base ho0) hb);have n1_:=am (Kd.R_lower (Kd.R_new' ho0 (Kd.R_lt (by (with_reducible repeat (first|apply rA|apply rN|apply rD));exact (Kd.R_mono (Kd.R_far (p:=⟨gb519,1,none⟩) (Kd.R_far (p:=⟨gb519,0,none⟩) (Kd.R_types HO517.out BK519.out (by decide)) (fun _ hk=>hk.2) (.string t514)) (fun _ hk=>hk.2) (.slice Ao17 t515.length co17)) (fun _ h_=>h_.1))))) (below_size (by repeat (first|(with_reducible first|exact HB.out|apply lA|apply lN|apply lD|refine lS ?_ GE519.out)|exact HB.out))));have n2_:=am (blk_below (g:=gb519) (o:=.cells #[.string t514,.slice Ao17 t515.length co17] 25 (0,0)) (by (with_reducible repeat (first|apply bN|apply bD|apply bA));refine blk_put (cs:=#[.string t514,.slice none 0 0]) ?_ 1 _ rfl;(with_reducible repeat (first|apply bN|apply bD|apply bA));refine blk_put (cs:=#[.string (⟨#[]⟩ : ByteArray),.slice none 0 0]) ?_ 0 _ rfl;(with_reducible repeat (first|apply bN|apply bD|apply bA));exact BK519.out) hb);have n3_:=am (below_step (by repeat (first|(with_reducible first|exact HB.out|apply lA|apply lN|apply lD|refine lS ?_ GE519.out)|exact HB.out)) hb);clear HO517;clear BK519;clear HB;have HO517:=n0_;have HO523:=n1_;have BK519:=n2_;have HB:=n3_;clear n0_ n1_ n2_ n3_;(try clear hb);(try clear hb2);(try clear hk);(try clear hi);(try clear ho0))|((with_reducible refine gate_dst (N:=11) rfl ?_);refine box_event ?hg (N:=11) ?hd (cs:=#[.string (⟨#[]⟩ : ByteArray),.slice none 0 0]) (t:=25) ?hr ?_;(case hd=>rfl);(case hg=>rfl);(case hr=>first|(go_simp;done)|(go_simp;rfl));intro gb525 hg w19 hbox hb;have n0_:=am (Kd.R_below (by (with_reducible repeat (first|apply rA|apply rN|apply rD));exact HO517.out) hb);have n1_:=am (Kd.R_below (by (with_reducible repeat (first|apply rA|apply rN|apply rD));exact HO523.out) hb);have n2_:=am (blk_below (g:=gb519) (o:=.cells #[.string t514,.slice Ao17 t515.length co17] 25 (0,0)) (by (with_reducible repeat (first|apply bN|apply bD|apply bA));exact BK519.out) hb);have n3_:=am (below_step (by repeat (first|(with_reducible first|exact HB.out|apply lA|apply lN|apply lD|refine lS ?_ GE519.out)|exact HB.out)) hb);have n4_:=am (hbox);have n5_:=am ((by rw [hg];exact (below_size (by repeat (first|(with_reducible first|exact HB.out|apply lA|apply lN|apply lD|refine lS ?_ GE519.out)|exact HB.out))) : w.heap.size ≤ gb525));have n6_:=am ((by rw [hg];exact (below_size (by repeat (first|(with_reducible first|exact HB.out|apply lA|apply lN|apply lD|refine lS ?_ GE519.out)|exact HB.out))) : w.heap.size ≤ gb525));have n7_:=am ((by rw [hg];exact Nat.ne_of_lt (blk_lt (g:=gb519) (o:=.cells #[.string t514,.slice Ao17 t515.length co17] 25 (0,0)) (by (with_reducible repeat (first|apply bN|apply bD|apply bA));exact BK519.out)) : gb519 ≠ gb525));have n8_:=am ((by rw [hg];exact Nat.ne_of_gt (blk_lt (g:=gb519) (o:=.cells #[.string t514,.slice Ao17 t515.length co17] 25 (0,0)) (by (with_reducible repeat (first|apply bN|apply bD|apply bA));exact BK519.out)) : gb525 ≠ gb519));clear HO517;clear HO523;clear BK519;clear HB;have HO517:=n0_;have HO523:=n1_;have BK519:=n2_;have HB:=n3_;have BK525:=n4_;have GW525:=n5_;have GE525:=n6_;have NB519_525:=n7_;have NB525_519:=n8_;clear n0_ n1_ n2_ n3_ n4_ n5_ n6_ n7_ n8_;clear hb hbox hg;have hnb20:=NB525_519.out;have hnc20:=NB519_525.out;have hcz21_0 : w19.cell? ⟨gb525,0,none⟩ = some (.string (⟨#[]⟩ : ByteArray)):=(blk_cell BK525.out 0).trans rfl;have hcz21_1 : w19.cell? ⟨gb525,1,none⟩ = some (.slice none 0 0):=(blk_cell BK525.out 1).trans rfl;have hfz21_0:=blk_frozen BK525.out 0;have hfz21_1:=blk_frozen BK525.out 1;obtain ⟨Ao22,co22,eo22⟩ := Kd.R_slice HO523.out;subst eo22;have hcz23_0 : w19.cell? ⟨gb519,0,none⟩ = some (.string t514):=(blk_cell BK519.out 0).trans rfl;have hcz23_1 : w19.cell? ⟨gb519,1,none⟩ = some (.slice Ao17 t515.length co17):=(blk_cell BK519.out 1).trans rfl;have hfz23_0:=blk_frozen BK519.out 0;have hfz23_1:=blk_frozen BK519.out 1)|(go_at_call 23;(with_reducible refine (gangsawlaw39_same.calls k t514 _ _ t515 t520 _ _ t521 t526 _ ?side1 ?side2 ?side3 ?side4 A12.out).mono ?_);(case side1=>refine (Kd.R_reads' (e:=31) (base:=w.heap.size) (ok:=fun k_=>(True ∧ some k_ ≠ (.slice Ao22 t521.length co22 : Value).ownBlock)) (n:=t515.length) (c:=co17) ?_).2.2;exact (by (with_reducible repeat (first|apply rA|apply rN|apply rD));exact (Kd.R_mono (Kd.R_far (p:=⟨gb525,1,none⟩) (Kd.R_far (p:=⟨gb525,0,none⟩) (Kd.R_types HO517.out BK525.out (by decide)) (fun _ hk=>hk.2) (.string t520)) (fun _ hk=>hk.2) (.slice Ao22 t521.length co22)) (fun _ h_=>h_.1))));(case side2=>exact (Kd.R_reads' HO517.out).2.1);(case side3=>refine (Kd.R_reads' (e:=31) (base:=w.heap.size) (ok:=fun k_=>(True ∧ some k_ ≠ (.slice Ao17 t515.length co17 : Value).ownBlock)) (n:=t521.length) (c:=co22) ?_).2.2;exact (by (with_reducible repeat (first|apply rA|apply rN|apply rD));exact (Kd.R_mono (Kd.R_far (p:=⟨gb525,1,none⟩) (Kd.R_far (p:=⟨gb525,0,none⟩) (Kd.R_types HO523.out BK525.out (by decide)) (fun _ hk=>hk.2) (.string t520)) (fun _ hk=>hk.2) (.slice Ao22 t521.length co22)) (fun _ h_=>h_.1))));(case side4=>exact (Kd.R_reads' HO523.out).2.1);rintro e w24 ⟨rfl,hb⟩;have n0_:=am (Kd.R_below (by (with_reducible repeat (first|apply rA|apply rN|apply rD));exact (Kd.R_mono (Kd.R_far (p:=⟨gb525,1,none⟩) (Kd.R_far (p:=⟨gb525,0,none⟩) (Kd.R_types HO517.out BK525.out (by decide)) (fun _ hk=>hk.2) (.string t520)) (fun _ hk=>hk.2) (.slice Ao22 t521.length co22)) (fun _ h_=>h_.1))) hb);have n1_:=am (Kd.R_below (by (with_reducible repeat (first|apply rA|apply rN|apply rD));exact (Kd.R_mono (Kd.R_far (p:=⟨gb525,1,none⟩) (Kd.R_far (p:=⟨gb525,0,none⟩) (Kd.R_types HO523.out BK525.out (by decide)) (fun _ hk=>hk.2) (.string t520)) (fun _ hk=>hk.2) (.slice Ao22 t521.length co22)) (fun _ h_=>h_.1))) hb);have n2_:=am (blk_below (g:=gb519) (o:=.cells #[.string t514,.slice Ao17 t515.length co17] 25 (0,0)) (by (with_reducible repeat (first|apply bN|apply bD|apply bA));refine blk_far ?_ NB519_525.out _;(with_reducible repeat (first|apply bN|apply bD|apply bA));refine blk_far ?_ NB519_525.out _;(with_reducible repeat (first|apply bN|apply bD|apply bA));exact BK519.out) hb);have n3_:=am (blk_below (g:=gb525) (o:=.cells #[.string t520,.slice Ao22 t521.length co22] 25 (0,0)) (by (with_reducible repeat (first|apply bN|apply bD|apply bA));refine blk_put (cs:=#[.string t520,.slice none 0 0]) ?_ 1 _ rfl;(with_reducible repeat (first|apply bN|apply bD|apply bA));refine blk_put (cs:=#[.string (⟨#[]⟩ : ByteArray),.slice none 0 0]) ?_ 0 _ rfl;(with_reducible repeat (first|apply bN|apply bD|apply bA));exact BK525.out) hb);have n4_:=am (below_step (by repeat (first|(with_reducible first|exact HB.out|apply lA|apply lN|apply lD|refine lS ?_ GE519.out|refine lS ?_ GE525.out)|exact HB.out)) hb);clear HO517;clear HO523;clear BK519;clear BK525;clear HB;have HO517:=n0_;have HO523:=n1_;have BK519:=n2_;have BK525:=n3_;have HB:=n4_;clear n0_ n1_ n2_ n3_ n4_;(try clear hb);(try clear hb2);(try clear hk);(try clear hi)))
    go_ret
    exact ⟨by first|rfl|(simp [errW_none,errW_some] <;> rfl)|(simp [*,errW_none,errW_some] <;> rfl),by repeat (first|(with_reducible first|exact HB.out|apply lA|apply lN|apply lD|refine lS ?_ GE519.out|refine lS ?_ GE525.out)|exact HB.out)⟩
   ·rw [if_neg c11] at H
    exact absurd H (by simp)
 ·replace c6:=Bool.eq_false_iff.mpr c6
  subst c6
  have H1 : (none) = some r:=by rw [if_neg (show ¬ (false = true) by decide)] at H;exact H
  clear H
  have H:=H1
  clear H1
  exact absurd H (by simp)

def gangsawlaw39_ProfileSteps.Pure : Prop := ∀ (a0 : ByteArray) (a1 : Int) (a2 : Int) (a3 : Int),a0.size ≤ 140737488351232 → (Lit.int .i64 a1).wf = true → (Lit.int .i64 a2).wf = true → (Lit.int .i64 a3).wf = true → ∃ k,gangsawlaw39_ProfileSteps.f k a0 a1 a2 a3 = some true
theorem gangsawlaw39_ProfileSteps.walk (P : gangsawlaw39_ProfileSteps.Pure) (a0 : ByteArray) (a1 : Int) (a2 : Int) (a3 : Int) (w : World) (w0 : a0.size ≤ 140737488351232) (w1 : (Lit.int .i64 a1).wf = true) (w2 : (Lit.int .i64 a2).wf = true) (w3 : (Lit.int .i64 a3).wf = true) :
  Calls Try.prog 6 #[.string a0,.int .i64 a1,.int .i64 a2,.int .i64 a3] w fun e w'=>e = .returned (.bool true) ∧ Below w.heap.size w w':=by
 obtain ⟨k,h⟩ := P a0 a1 a2 a3 w0 w1 w2 w3
 refine (gangsawlaw39_ProfileSteps.calls k a0 a1 a2 a3 true w h).mono ?_
 rintro e w' ⟨rfl,hd⟩
 exact ⟨rfl,hd⟩

end
end Go.Proofs.Ytnjikioimompnaa.PA
