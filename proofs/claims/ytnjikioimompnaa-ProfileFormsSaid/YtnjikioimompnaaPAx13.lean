import Derived.Test.YtnjikioimompnaaPAx12
namespace Go.Proofs.Ytnjikioimompnaa.PA
open Go.RowKit Go.Proofs.YtnjikioimompnaaW.PrintWords Go.Proofs.YtnjikioimompnaaW.PrintLast Go.Proofs.YtnjikioimompnaaW.PrintMore
attribute [local go_sem] max2_int min2_int max_two min_two max_three min_three max_four min_four
set_option linter.unusedVariables false
set_option linter.unusedSimpArgs false
mutual
def gangsawref39_simple.l0 : Nat → List (S31) → Int → Int → Option (Bool)
 | 0,_,_,_=>none
 | k + 1,x0,x3,x4=>if x4 < x3 then (gangsawref39_simple.l1 k x0 x3 x4 0) else (some true)
def gangsawref39_simple.l1 : Nat → List (S31) → Int → Int → Int → Option (Bool)
 | 0,_,_,_,_=>none
 | k + 1,x0,x3,x4,x5=>if x5 < x4 then (if (wrap64 (x5 + 1)) = x4 then (gangsawref39_simple.j2 k x0 x3 x4 x5 0 true) else (if x5 = 0 then (gangsawref39_simple.j2 k x0 x3 x4 x5 0 (x4 == (wrap64 (x3 - 1)))) else (gangsawref39_simple.j2 k x0 x3 x4 x5 0 false))) else (gangsawref39_simple.l0 k x0 x3 (wrap64 (x4 + 1)))
def gangsawref39_simple.j2 : Nat → List (S31) → Int → Int → Int → Int → Bool → Option (Bool)
 | 0,_,_,_,_,_,_=>none
 | k + 1,x0,x3,x4,x5,x6,x32=>if x32 = true then (if 0 ≤ x4 then (if x4 < (x0.length : Int) then (if x3 = 0 then (none) else (if 0 ≤ (Int.tmod (wrap64 (x4 + 1)) x3) then (if (Int.tmod (wrap64 (x4 + 1)) x3) < (x0.length : Int) then (if 0 ≤ x5 then (if x5 < (x0.length : Int) then (if 0 ≤ (Int.tmod (wrap64 (x5 + 1)) x3) then (if (Int.tmod (wrap64 (x5 + 1)) x3) < (x0.length : Int) then ((gangsawref03_Meet.f k ((rd_T31 x0 x4).f0) ((rd_T31 x0 x4).f1) ((rd_T31 x0 (Int.tmod (wrap64 (x4 + 1)) x3)).f0) ((rd_T31 x0 (Int.tmod (wrap64 (x4 + 1)) x3)).f1) ((rd_T31 x0 x5).f0) ((rd_T31 x0 x5).f1) ((rd_T31 x0 (Int.tmod (wrap64 (x5 + 1)) x3)).f0) ((rd_T31 x0 (Int.tmod (wrap64 (x5 + 1)) x3)).f1)).bind fun t363=>(if t363 > 1 then (some false) else (gangsawref39_simple.l1 k x0 x3 x4 (wrap64 (x5 + 1))))) else (none)) else (none)) else (none)) else (none)) else (none)) else (none))) else (none)) else (none)) else (if 0 ≤ x4 then (if x4 < (x0.length : Int) then (if x3 = 0 then (none) else (if 0 ≤ (Int.tmod (wrap64 (x4 + 1)) x3) then (if (Int.tmod (wrap64 (x4 + 1)) x3) < (x0.length : Int) then (if 0 ≤ x5 then (if x5 < (x0.length : Int) then (if 0 ≤ (Int.tmod (wrap64 (x5 + 1)) x3) then (if (Int.tmod (wrap64 (x5 + 1)) x3) < (x0.length : Int) then ((gangsawref03_Meet.f k ((rd_T31 x0 x4).f0) ((rd_T31 x0 x4).f1) ((rd_T31 x0 (Int.tmod (wrap64 (x4 + 1)) x3)).f0) ((rd_T31 x0 (Int.tmod (wrap64 (x4 + 1)) x3)).f1) ((rd_T31 x0 x5).f0) ((rd_T31 x0 x5).f1) ((rd_T31 x0 (Int.tmod (wrap64 (x5 + 1)) x3)).f0) ((rd_T31 x0 (Int.tmod (wrap64 (x5 + 1)) x3)).f1)).bind fun t368=>(if t368 > x6 then (some false) else (gangsawref39_simple.l1 k x0 x3 x4 (wrap64 (x5 + 1))))) else (none)) else (none)) else (none)) else (none)) else (none)) else (none))) else (none)) else (none))
end
def gangsawref39_simple.f (k : Nat) (l0 : List (S31)) : Option (Bool):=gangsawref39_simple.l0 k l0 (l0.length : Int) 0
def gangsawref39_simple.T11 : Bool × List (List Nat × List Nat):=(true,[([],[]),([],[]),([0,1],[0,1]),([2],[2]),([],[]),([],[]),([5],[5]),([],[]),([6,7],[6,7]),([4,8],[4,8]),([9],[9]),([],[]),([],[]),([11,12],[11,12]),([13],[13]),([],[]),([],[]),([16],[16]),([],[]),([17,18],[17,18]),([15,19],[15,19]),([20],[20]),([3,10,14,21],[3,10,14,21]),([],[]),([22,23],[22,23])])
def gangsawref39_simple.B11 : List Nat:=[0,0,3,7,0,0,32,0,224,496,1008,0,0,6144,14336,0,0,65536,0,458752,1015808,2064384,4194303,0,16777215]
theorem gangsawref39_simple.tab11 : rtab .any (opsOf Try.f35 11) = gangsawref39_simple.T11:=by kernel_rfl
theorem gangsawref39_simple.bits11 : waitsOk gangsawref39_simple.T11.2 gangsawref39_simple.B11 = true:=by kernel_rfl
set_option maxHeartbeats 8000000 in
set_option maxRecDepth 100000 in
theorem gangsawref39_simple.calls (k : Nat) (A0 : Option Addr) (c0 : Nat) (l0 : List (S31)) (r : Bool) (w : World) (hr0 : Kd.C k31 w A0 l0.length l0) (hc0 : l0.length ≤ c0) (h : gangsawref39_simple.f k l0 = some r) :
  Calls Try.prog 35 #[.slice A0 l0.length c0] w fun e w'=>e = .returned (.bool r) ∧ Below w.heap.size w w':=by
 have hu31:=Try.underlying31;have HR0:=am hr0;have HC0:=am hc0;clear hr0 hc0;have HB:=am (Below.refl w.heap.size w);have H : (gangsawref39_simple.l0 k l0 (l0.length : Int) 0) = some r:=h;clear h;have H':=am H;clear H
 go_enter Try.func35,Try.ntmps35
 go_wp2
 go_loopg [4] k (fun kq v4 w'=>∃ (x4_1 : Int),v4 = .int .i64 x4_1 ∧ Aside0 (gangsawref39_simple.l0 kq l0 (l0.length : Int) x4_1 = some r) ∧ Aside0 (kq ≤ k) ∧ Aside0 (Below w.heap.size w w'))
 case atStart=>exact ⟨(0),(by first|rfl|(simp;done)|(simp [*];done)),H',⟨Nat.le_refl _⟩,⟨by repeat (first|(with_reducible first|exact HB.out|apply lA|apply lN|apply lD)|exact HB.out)⟩⟩
 case round =>
  clear H';obtain ⟨x4_1,rfl,HA,HK1,HB⟩ := hrel
  cases gk with
  | zero=>exact absurd HA.out (by simp [gangsawref39_simple.l0])
  | succ k1 =>
   have H:=HA.out;clear HA;simp only [gangsawref39_simple.l0] at H;by_cases c2 : x4_1 < (l0.length : Int)
   ·rw [if_pos c2] at H;have c2b0 : decide (x4_1 < (l0.length : Int)) = true:=decide_eq_true c2;clear c2;have H':=am H;clear H
    go_wp2
    go_loopg [5] k1 (fun kq v5 w'=>∃ (x5_2 : Int),v5 = .int .i64 x5_2 ∧ Aside0 (gangsawref39_simple.l1 kq l0 (l0.length : Int) x4_1 x5_2 = some r) ∧ Aside0 (kq ≤ k1) ∧ Aside0 (Below w.heap.size w w'))
    case atStart=>exact ⟨(0),(by first|rfl|(simp;done)|(simp [*];done)),H',⟨Nat.le_refl _⟩,⟨by repeat (first|(with_reducible first|exact HB.out|apply lA|apply lN|apply lD)|exact HB.out)⟩⟩
    case round =>
     clear H'
     try clear c2
     try clear c2b0
     try clear p2
     obtain ⟨x5_2,rfl,HA,HK2,HB⟩ := hrel
     cases gk with
     | zero=>exact absurd HA.out (by simp [gangsawref39_simple.l1])
     | succ k2 =>
      have H:=HA.out;clear HA;simp only [gangsawref39_simple.l1] at H;by_cases c3 : x5_2 < x4_1
      ·rw [if_pos c3] at H;have c3b0 : decide (x5_2 < x4_1) = true:=decide_eq_true c3;clear c3;have HC4:=am H;clear H
       go_upto_region 9 with (fail)
       go_cut [32] (fun v32 wc=>∃ (kq : Nat) (x32_3 : Bool),v32 = .bool x32_3 ∧ Aside0 (gangsawref39_simple.j2 kq l0 (l0.length : Int) x4_1 x5_2 0 x32_3 = some r) ∧ Aside0 (kq ≤ k2) ∧ Aside0 (Below w.heap.size w wc))
       case first =>
        have H:=HC4.out;clear HC4;by_cases c5 : (wrap64 (x5_2 + 1)) = x4_1
        ·rw [if_pos c5] at H;have c5b0 : ((wrap64 (x5_2 + 1)) == x4_1) = true:=beq_iff_eq.mpr c5;have c5b1 : ((wrap64 (x5_2 + 1)) != x4_1) = false:=bne_eq_false_iff_eq.mpr c5;clear c5;(first|rw [c5b0]|(simp only [i64_w,i32_w];rw [c5b0])|skip);have H':=am H;clear H
         go_wp2
         go_meet
         case rel=>exact ⟨_,(true),(by first|rfl|(simp;done)|(simp [*];done)),H',⟨by have:=HK1.out;have:=HK2.out;first|omega|exact Nat.le_refl _⟩,⟨by repeat (first|(with_reducible first|exact HB.out|apply lA|apply lN|apply lD)|exact HB.out)⟩⟩
        ·rw [if_neg c5] at H;have c5b0 : ((wrap64 (x5_2 + 1)) == x4_1) = false:=beq_eq_false_iff_ne.mpr c5;have c5b1 : ((wrap64 (x5_2 + 1)) != x4_1) = true:=bne_iff_ne.mpr c5;(first|rw [c5b0]|(simp only [i64_w,i32_w];rw [c5b0])|skip)
         by_cases c6 : x5_2 = 0
         ·rw [if_pos c6] at H;have c6b0 : (x5_2 == 0) = true:=beq_iff_eq.mpr c6;have c6b1 : (x5_2 != 0) = false:=bne_eq_false_iff_eq.mpr c6;clear c6;have H':=am H;clear H
          go_wp2
          go_meet
          case rel=>exact ⟨_,((x4_1 == (wrap64 ((l0.length : Int) - 1)))),(by first|rfl|(simp;done)|(simp [*];done)),H',⟨by have:=HK1.out;have:=HK2.out;first|omega|exact Nat.le_refl _⟩,⟨by repeat (first|(with_reducible first|exact HB.out|apply lA|apply lN|apply lD)|exact HB.out)⟩⟩
         ·rw [if_neg c6] at H;have c6b0 : (x5_2 == 0) = false:=beq_eq_false_iff_ne.mpr c6;have c6b1 : (x5_2 != 0) = true:=bne_iff_ne.mpr c6;have H':=am H;clear H
          go_wp2
          go_meet
          case rel=>exact ⟨_,(false),(by first|rfl|(simp;done)|(simp [*];done)),H',⟨by have:=HK1.out;have:=HK2.out;first|omega|exact Nat.le_refl _⟩,⟨by repeat (first|(with_reducible first|exact HB.out|apply lA|apply lN|apply lD)|exact HB.out)⟩⟩
       case rest =>
        clear HC4
        try clear c2
        try clear c2b0
        try clear p2
        try clear c3
        try clear c3b0
        try clear c5
        try clear c5b0
        try clear c5b1
        try clear c6
        try clear c6b0
        try clear c6b1
        try clear p6
        try clear p2
        obtain ⟨kq,x32_3,rfl,HA,HJ3,HB⟩ := hcut
        cases kq with
        | zero=>exact absurd HA.out (by simp [gangsawref39_simple.j2])
        | succ kj3 =>
         have H:=HA.out;clear HA;simp only [gangsawref39_simple.j2] at H;by_cases c7 : x32_3 = true
         ·subst c7
          have H1 : (if 0 ≤ x4_1 then (if x4_1 < (l0.length : Int) then (if (l0.length : Int) = 0 then (none) else (if 0 ≤ (Int.tmod (wrap64 (x4_1 + 1)) (l0.length : Int)) then (if (Int.tmod (wrap64 (x4_1 + 1)) (l0.length : Int)) < (l0.length : Int) then (if 0 ≤ x5_2 then (if x5_2 < (l0.length : Int) then (if 0 ≤ (Int.tmod (wrap64 (x5_2 + 1)) (l0.length : Int)) then (if (Int.tmod (wrap64 (x5_2 + 1)) (l0.length : Int)) < (l0.length : Int) then ((gangsawref03_Meet.f kj3 ((rd_T31 l0 x4_1).f0) ((rd_T31 l0 x4_1).f1) ((rd_T31 l0 (Int.tmod (wrap64 (x4_1 + 1)) (l0.length : Int))).f0) ((rd_T31 l0 (Int.tmod (wrap64 (x4_1 + 1)) (l0.length : Int))).f1) ((rd_T31 l0 x5_2).f0) ((rd_T31 l0 x5_2).f1) ((rd_T31 l0 (Int.tmod (wrap64 (x5_2 + 1)) (l0.length : Int))).f0) ((rd_T31 l0 (Int.tmod (wrap64 (x5_2 + 1)) (l0.length : Int))).f1)).bind fun t363=>(if t363 > 1 then (some false) else (gangsawref39_simple.l1 kj3 l0 (l0.length : Int) x4_1 (wrap64 (x5_2 + 1))))) else (none)) else (none)) else (none)) else (none)) else (none)) else (none))) else (none)) else (none)) = some r:=by rw [if_pos rfl] at H;exact H
          clear H;have H:=H1;clear H1;by_cases c8 : 0 ≤ x4_1
          ·rw [if_pos c8] at H;have c8b0 : decide (0 ≤ x4_1) = true:=decide_eq_true c8;clear c8;by_cases c9 : x4_1 < (l0.length : Int)
           ·rw [if_pos c9] at H;have c9b0 : decide (x4_1 < (l0.length : Int)) = true:=decide_eq_true c9;clear c9;by_cases c10 : (l0.length : Int) = 0
            (rw [if_pos c10] at H;exact absurd H (by simp))
            ·rw [if_neg c10] at H;have c10b0 : ((l0.length : Int) == 0) = false:=beq_eq_false_iff_ne.mpr c10;have c10b1 : ((l0.length : Int) != 0) = true:=bne_iff_ne.mpr c10
             have c10b2 : ¬ (l0 = []):=fun h_=>c10 (by rw [h_];rfl)
             obtain ⟨ji11,hji11⟩ : ∃ j_ : Int,(Int.tmod (wrap64 (x4_1 + 1)) (l0.length : Int)) = j_:=⟨_,rfl⟩
             replace H : (if 0 ≤ (ji11) then (if (ji11) < (l0.length : Int) then (if 0 ≤ x5_2 then (if x5_2 < (l0.length : Int) then (if 0 ≤ (Int.tmod (wrap64 (x5_2 + 1)) (l0.length : Int)) then (if (Int.tmod (wrap64 (x5_2 + 1)) (l0.length : Int)) < (l0.length : Int) then ((gangsawref03_Meet.f kj3 ((rd_T31 l0 x4_1).f0) ((rd_T31 l0 x4_1).f1) ((rd_T31 l0 (ji11)).f0) ((rd_T31 l0 (ji11)).f1) ((rd_T31 l0 x5_2).f0) ((rd_T31 l0 x5_2).f1) ((rd_T31 l0 (Int.tmod (wrap64 (x5_2 + 1)) (l0.length : Int))).f0) ((rd_T31 l0 (Int.tmod (wrap64 (x5_2 + 1)) (l0.length : Int))).f1)).bind fun t363=>(if t363 > 1 then (some false) else (gangsawref39_simple.l1 kj3 l0 (l0.length : Int) x4_1 (wrap64 (x5_2 + 1))))) else (none)) else (none)) else (none)) else (none)) else (none)) else (none)) = some r:=by first|(rw [hji11] at H;exact H)|(simp only [hji11] at H ⊢;exact H)
             by_cases c12 : 0 ≤ (ji11)
             ·rw [if_pos c12] at H;have c12b0 : decide (0 ≤ (ji11)) = true:=decide_eq_true c12;clear c12;by_cases c13 : (ji11) < (l0.length : Int)
              ·rw [if_pos c13] at H;have c13b0 : decide ((ji11) < (l0.length : Int)) = true:=decide_eq_true c13;clear c13;by_cases c14 : 0 ≤ x5_2
               ·rw [if_pos c14] at H;have c14b0 : decide (0 ≤ x5_2) = true:=decide_eq_true c14;clear c14;by_cases c15 : x5_2 < (l0.length : Int)
                ·rw [if_pos c15] at H;have c15b0 : decide (x5_2 < (l0.length : Int)) = true:=decide_eq_true c15;clear c15
                 obtain ⟨ji16,hji16⟩ : ∃ j_ : Int,(Int.tmod (wrap64 (x5_2 + 1)) (l0.length : Int)) = j_:=⟨_,rfl⟩
                 replace H : (if 0 ≤ (ji16) then (if (ji16) < (l0.length : Int) then ((gangsawref03_Meet.f kj3 ((rd_T31 l0 x4_1).f0) ((rd_T31 l0 x4_1).f1) ((rd_T31 l0 (ji11)).f0) ((rd_T31 l0 (ji11)).f1) ((rd_T31 l0 x5_2).f0) ((rd_T31 l0 x5_2).f1) ((rd_T31 l0 (ji16)).f0) ((rd_T31 l0 (ji16)).f1)).bind fun t363=>(if t363 > 1 then (some false) else (gangsawref39_simple.l1 kj3 l0 (l0.length : Int) x4_1 (wrap64 (x5_2 + 1))))) else (none)) else (none)) = some r:=by first|(rw [hji16] at H;exact H)|(simp only [hji16] at H ⊢;exact H)
                 by_cases c17 : 0 ≤ (ji16)
                 ·rw [if_pos c17] at H;have c17b0 : decide (0 ≤ (ji16)) = true:=decide_eq_true c17;clear c17;by_cases c18 : (ji16) < (l0.length : Int)
                  ·rw [if_pos c18] at H;have c18b0 : decide ((ji16) < (l0.length : Int)) = true:=decide_eq_true c18;clear c18;replace H:=Option.bind_eq_some_iff.mp H;obtain ⟨t363,A190,H⟩ := H;replace H : (if t363 > 1 then (some false) else (gangsawref39_simple.l1 kj3 l0 (l0.length : Int) x4_1 (wrap64 (x5_2 + 1)))) = some r:=H;have A19:=am A190;clear A190;by_cases c20 : t363 > 1
                   ·rw [if_pos c20] at H;have c20b0 : decide (1 < t363) = true:=decide_eq_true c20;clear c20;obtain rfl:=Option.some.inj H
                    try go_wp2
                    replace HB:=hda HB;have p359 : 0 ≤ (x4_1 : Int):=of_decide_eq_true (by first|(with_reducible assumption)|assumption);have q359 : x4_1 < (l0.length : Int):=of_decide_eq_true (by first|(with_reducible assumption)|assumption);obtain ⟨ad359,e359,hx359_0,hx359_1⟩ := at_T31 HR0.out x4_1 p359 q359;have hw359_1:=hx359_1;have hw359_0:=hx359_0
                    cases e359
                    replace hx359_0:=(HB.out.cell (World.block_lt_of_cell? w _ hx359_0)).trans hx359_0;replace hx359_1:=(HB.out.cell (World.block_lt_of_cell? w _ hx359_1)).trans hx359_1;replace p359:=eq_true p359;replace q359:=eq_true q359;have p360 : 0 ≤ ((ji11) : Int):=of_decide_eq_true (by first|(with_reducible assumption)|assumption);have q360 : (ji11) < (l0.length : Int):=of_decide_eq_true (by first|(with_reducible assumption)|assumption);obtain ⟨ad360,e360,hx360_0,hx360_1⟩ := at_T31 HR0.out (ji11) p360 q360;have hw360_1:=hx360_1;have hw360_0:=hx360_0
                    obtain rfl : ad359 = ad360:=(by injection e360)
                    replace hx360_0:=(HB.out.cell (World.block_lt_of_cell? w _ hx360_0)).trans hx360_0;replace hx360_1:=(HB.out.cell (World.block_lt_of_cell? w _ hx360_1)).trans hx360_1;replace p360:=eq_true p360;replace q360:=eq_true q360;have p361 : 0 ≤ (x5_2 : Int):=of_decide_eq_true (by first|(with_reducible assumption)|assumption);have q361 : x5_2 < (l0.length : Int):=of_decide_eq_true (by first|(with_reducible assumption)|assumption);obtain ⟨ad361,e361,hx361_0,hx361_1⟩ := at_T31 HR0.out x5_2 p361 q361;have hw361_1:=hx361_1;have hw361_0:=hx361_0
                    obtain rfl : ad359 = ad361:=(by injection e361)
                    replace hx361_0:=(HB.out.cell (World.block_lt_of_cell? w _ hx361_0)).trans hx361_0;replace hx361_1:=(HB.out.cell (World.block_lt_of_cell? w _ hx361_1)).trans hx361_1;replace p361:=eq_true p361;replace q361:=eq_true q361;have p362 : 0 ≤ ((ji16) : Int):=of_decide_eq_true (by first|(with_reducible assumption)|assumption);have q362 : (ji16) < (l0.length : Int):=of_decide_eq_true (by first|(with_reducible assumption)|assumption);obtain ⟨ad362,e362,hx362_0,hx362_1⟩ := at_T31 HR0.out (ji16) p362 q362;have hw362_1:=hx362_1;have hw362_0:=hx362_0
                    obtain rfl : ad359 = ad362:=(by injection e362)
                    replace hx362_0:=(HB.out.cell (World.block_lt_of_cell? w _ hx362_0)).trans hx362_0;replace hx362_1:=(HB.out.cell (World.block_lt_of_cell? w _ hx362_1)).trans hx362_1;replace p362:=eq_true p362;replace q362:=eq_true q362
                    refine start_ (n:=25) (S:=fun w'=>w'.cell? (ad359.add ((x4_1).toNat * 2)) = some (.int .i64 ((rd_T31 l0 x4_1).f0)) ∧ w'.cell? ⟨(ad359.add ((x4_1).toNat * 2)).block,(ad359.add ((x4_1).toNat * 2)).off + 1,none⟩ = some (.int .i64 ((rd_T31 l0 x4_1).f1)) ∧ w'.cell? (ad359.add (((ji11)).toNat * 2)) = some (.int .i64 ((rd_T31 l0 (ji11)).f0)) ∧ w'.cell? ⟨(ad359.add (((ji11)).toNat * 2)).block,(ad359.add (((ji11)).toNat * 2)).off + 1,none⟩ = some (.int .i64 ((rd_T31 l0 (ji11)).f1)) ∧ w'.cell? (ad359.add ((x5_2).toNat * 2)) = some (.int .i64 ((rd_T31 l0 x5_2).f0)) ∧ w'.cell? ⟨(ad359.add ((x5_2).toNat * 2)).block,(ad359.add ((x5_2).toNat * 2)).off + 1,none⟩ = some (.int .i64 ((rd_T31 l0 x5_2).f1)) ∧ w'.cell? (ad359.add (((ji16)).toNat * 2)) = some (.int .i64 ((rd_T31 l0 (ji16)).f0)) ∧ w'.cell? ⟨(ad359.add (((ji16)).toNat * 2)).block,(ad359.add (((ji16)).toNat * 2)).off + 1,none⟩ = some (.int .i64 ((rd_T31 l0 (ji16)).f1))) (ds:=[]) #[f_,f_,f_,f_,f_,f_,f_,f_,f_,f_,f_,f_,f_,f_,f_,f_,f_,f_,f_,f_,f_,f_,f_,f_,f_] (by kernel_rfl) rfl rfl ⟨((HB.out.cell (World.block_lt_of_cell? w _ hw359_0)).trans hw359_0),((HB.out.cell (World.block_lt_of_cell? w _ hw359_1)).trans hw359_1),((HB.out.cell (World.block_lt_of_cell? w _ hw360_0)).trans hw360_0),((HB.out.cell (World.block_lt_of_cell? w _ hw360_1)).trans hw360_1),((HB.out.cell (World.block_lt_of_cell? w _ hw361_0)).trans hw361_0),((HB.out.cell (World.block_lt_of_cell? w _ hw361_1)).trans hw361_1),((HB.out.cell (World.block_lt_of_cell? w _ hw362_0)).trans hw362_0),((HB.out.cell (World.block_lt_of_cell? w _ hw362_1)).trans hw362_1)⟩ (fun hHeld=>?_);refine with_tabW gangsawref39_simple.tab11 gangsawref39_simple.bits11 (fun HT_ HW_=>?_)
                    generalize wc.drew = w21 at HB hx359_0 hx359_1 hx360_0 hx360_1 hx361_0 hx361_1 hx362_0 hx362_1 hHeld ⊢
                    refine pu_ HT_ 0 33 (mk_ 25 1) ?_
                    refine pu_ HT_ 1 34 (mk_ 25 3) ?_
                    refine pu_ HT_ 2 35 (mk_ 25 7) ?_
                    refine pu_ HT_ 4 37 (mk_ 25 23) ?_
                    refine pu_ HT_ 5 38 (mk_ 25 55) ?_
                    refine pu_ HT_ 6 39 (mk_ 25 119) ?_
                    refine pu_ HT_ 7 40 (mk_ 25 247) ?_
                    refine pu_ HT_ 8 41 (mk_ 25 503) ?_
                    refine pu_ HT_ 9 42 (mk_ 25 1015) ?_
                    refine pu_ HT_ 11 44 (mk_ 25 3063) ?_
                    refine pu_ HT_ 12 45 (mk_ 25 7159) ?_
                    refine pu_ HT_ 13 46 (mk_ 25 15351) ?_
                    refine pu_ HT_ 15 48 (mk_ 25 48119) ?_
                    refine pu_ HT_ 16 49 (mk_ 25 113655) ?_
                    refine pu_ HT_ 17 50 (mk_ 25 244727) ?_
                    refine pu_ HT_ 18 51 (mk_ 25 506871) ?_
                    refine pu_ HT_ 19 52 (mk_ 25 1031159) ?_
                    refine pu_ HT_ 20 53 (mk_ 25 2079735) ?_
                    refine pu_ HT_ 23 56 (mk_ 25 10468343) ?_
                    refine ta8_ HT_ HW_ 3 36 (mk_ 25 10468351) hHeld ?_
                    refine ta8_ HT_ HW_ 10 43 (mk_ 25 10469375) hHeld ?_
                    refine ta8_ HT_ HW_ 14 47 (mk_ 25 10485759) hHeld ?_
                    refine ta8_ HT_ HW_ 21 54 (mk_ 25 12582911) hHeld ?_
                    refine one_ (i:=22) (N:=some 55) (mk_ 25 16777215) rfl rfl (one_of HT_.out (by kernel_rfl)) (by decide) (fun K hK=>?_);refine goes_ Try.func52 (by kernel_rfl) rfl #[.agg #[.int .i64 ((rd_T31 l0 x4_1).f0),.int .i64 ((rd_T31 l0 x4_1).f1)],.agg #[.int .i64 ((rd_T31 l0 (ji11)).f0),.int .i64 ((rd_T31 l0 (ji11)).f1)],.agg #[.int .i64 ((rd_T31 l0 x5_2).f0),.int .i64 ((rd_T31 l0 x5_2).f1)],.agg #[.int .i64 ((rd_T31 l0 (ji16)).f0),.int .i64 ((rd_T31 l0 (ji16)).f1)]] (by rfl) rfl rfl (by (try simp only [mT,mC,mN]);first|done|(simp only [hji11,hji16];rfl)|rfl|(simp only [lDr,lTk];rfl)) ?_
                    with_reducible refine (gangsawref03_Meet.calls kj3 ((rd_T31 l0 x4_1).f0) ((rd_T31 l0 x4_1).f1) ((rd_T31 l0 (ji11)).f0) ((rd_T31 l0 (ji11)).f1) ((rd_T31 l0 x5_2).f0) ((rd_T31 l0 x5_2).f1) ((rd_T31 l0 (ji16)).f0) ((rd_T31 l0 (ji16)).f1) t363 _ A19.out).mono ?_
                    rintro e w22 ⟨rfl,hb⟩;refine ⟨_,rfl, ?_⟩;replace HB:=bsa HB hb;(try clear hb);(try clear hb2);(try clear hk);(try clear hi)
                    refine hK.out _ _ ⟨((HB.out.cell (World.block_lt_of_cell? w _ hw359_0)).trans hw359_0),((HB.out.cell (World.block_lt_of_cell? w _ hw359_1)).trans hw359_1),((HB.out.cell (World.block_lt_of_cell? w _ hw360_0)).trans hw360_0),((HB.out.cell (World.block_lt_of_cell? w _ hw360_1)).trans hw360_1),((HB.out.cell (World.block_lt_of_cell? w _ hw361_0)).trans hw361_0),((HB.out.cell (World.block_lt_of_cell? w _ hw361_1)).trans hw361_1),((HB.out.cell (World.block_lt_of_cell? w _ hw362_0)).trans hw362_0),((HB.out.cell (World.block_lt_of_cell? w _ hw362_1)).trans hw362_1)⟩ (fun hHeld=>?_)
                    clear hK K
                    refine nm_ 55 ?_
                    refine pu_ HT_ 24 57 (mk_ 25 33554431) ?_
                    refine done_ (done_of HT_.out (by kernel_rfl)) ?_
                    try go_wp2
                    go_ret
                    exact ⟨by first|rfl|(simp [errW_none,errW_some] <;> rfl)|(simp only [← hji11,← hji16];first|rfl|(simp [errW_none,errW_some] <;> rfl))|(simp [*,errW_none,errW_some] <;> rfl),by repeat (first|(with_reducible first|exact HB.out|apply lA|apply lN|apply lD)|exact HB.out)⟩
                   ·rw [if_neg c20] at H;have c20b0 : decide (1 < t363) = false:=decide_eq_false c20;clear c20;have H':=am H;clear H
                    try go_wp2
                    replace HB:=hda HB;have p359 : 0 ≤ (x4_1 : Int):=of_decide_eq_true (by first|(with_reducible assumption)|assumption);have q359 : x4_1 < (l0.length : Int):=of_decide_eq_true (by first|(with_reducible assumption)|assumption);obtain ⟨ad359,e359,hx359_0,hx359_1⟩ := at_T31 HR0.out x4_1 p359 q359;have hw359_1:=hx359_1;have hw359_0:=hx359_0
                    cases e359
                    replace hx359_0:=(HB.out.cell (World.block_lt_of_cell? w _ hx359_0)).trans hx359_0;replace hx359_1:=(HB.out.cell (World.block_lt_of_cell? w _ hx359_1)).trans hx359_1;replace p359:=eq_true p359;replace q359:=eq_true q359;have p360 : 0 ≤ ((ji11) : Int):=of_decide_eq_true (by first|(with_reducible assumption)|assumption);have q360 : (ji11) < (l0.length : Int):=of_decide_eq_true (by first|(with_reducible assumption)|assumption);obtain ⟨ad360,e360,hx360_0,hx360_1⟩ := at_T31 HR0.out (ji11) p360 q360;have hw360_1:=hx360_1;have hw360_0:=hx360_0
                    obtain rfl : ad359 = ad360:=(by injection e360)
                    replace hx360_0:=(HB.out.cell (World.block_lt_of_cell? w _ hx360_0)).trans hx360_0;replace hx360_1:=(HB.out.cell (World.block_lt_of_cell? w _ hx360_1)).trans hx360_1;replace p360:=eq_true p360;replace q360:=eq_true q360;have p361 : 0 ≤ (x5_2 : Int):=of_decide_eq_true (by first|(with_reducible assumption)|assumption);have q361 : x5_2 < (l0.length : Int):=of_decide_eq_true (by first|(with_reducible assumption)|assumption);obtain ⟨ad361,e361,hx361_0,hx361_1⟩ := at_T31 HR0.out x5_2 p361 q361;have hw361_1:=hx361_1;have hw361_0:=hx361_0
                    obtain rfl : ad359 = ad361:=(by injection e361)
                    replace hx361_0:=(HB.out.cell (World.block_lt_of_cell? w _ hx361_0)).trans hx361_0;replace hx361_1:=(HB.out.cell (World.block_lt_of_cell? w _ hx361_1)).trans hx361_1;replace p361:=eq_true p361;replace q361:=eq_true q361;have p362 : 0 ≤ ((ji16) : Int):=of_decide_eq_true (by first|(with_reducible assumption)|assumption);have q362 : (ji16) < (l0.length : Int):=of_decide_eq_true (by first|(with_reducible assumption)|assumption);obtain ⟨ad362,e362,hx362_0,hx362_1⟩ := at_T31 HR0.out (ji16) p362 q362;have hw362_1:=hx362_1;have hw362_0:=hx362_0
                    obtain rfl : ad359 = ad362:=(by injection e362)
                    replace hx362_0:=(HB.out.cell (World.block_lt_of_cell? w _ hx362_0)).trans hx362_0;replace hx362_1:=(HB.out.cell (World.block_lt_of_cell? w _ hx362_1)).trans hx362_1;replace p362:=eq_true p362;replace q362:=eq_true q362
                    refine start_ (n:=25) (S:=fun w'=>w'.cell? (ad359.add ((x4_1).toNat * 2)) = some (.int .i64 ((rd_T31 l0 x4_1).f0)) ∧ w'.cell? ⟨(ad359.add ((x4_1).toNat * 2)).block,(ad359.add ((x4_1).toNat * 2)).off + 1,none⟩ = some (.int .i64 ((rd_T31 l0 x4_1).f1)) ∧ w'.cell? (ad359.add (((ji11)).toNat * 2)) = some (.int .i64 ((rd_T31 l0 (ji11)).f0)) ∧ w'.cell? ⟨(ad359.add (((ji11)).toNat * 2)).block,(ad359.add (((ji11)).toNat * 2)).off + 1,none⟩ = some (.int .i64 ((rd_T31 l0 (ji11)).f1)) ∧ w'.cell? (ad359.add ((x5_2).toNat * 2)) = some (.int .i64 ((rd_T31 l0 x5_2).f0)) ∧ w'.cell? ⟨(ad359.add ((x5_2).toNat * 2)).block,(ad359.add ((x5_2).toNat * 2)).off + 1,none⟩ = some (.int .i64 ((rd_T31 l0 x5_2).f1)) ∧ w'.cell? (ad359.add (((ji16)).toNat * 2)) = some (.int .i64 ((rd_T31 l0 (ji16)).f0)) ∧ w'.cell? ⟨(ad359.add (((ji16)).toNat * 2)).block,(ad359.add (((ji16)).toNat * 2)).off + 1,none⟩ = some (.int .i64 ((rd_T31 l0 (ji16)).f1))) (ds:=[]) #[f_,f_,f_,f_,f_,f_,f_,f_,f_,f_,f_,f_,f_,f_,f_,f_,f_,f_,f_,f_,f_,f_,f_,f_,f_] (by kernel_rfl) rfl rfl ⟨((HB.out.cell (World.block_lt_of_cell? w _ hw359_0)).trans hw359_0),((HB.out.cell (World.block_lt_of_cell? w _ hw359_1)).trans hw359_1),((HB.out.cell (World.block_lt_of_cell? w _ hw360_0)).trans hw360_0),((HB.out.cell (World.block_lt_of_cell? w _ hw360_1)).trans hw360_1),((HB.out.cell (World.block_lt_of_cell? w _ hw361_0)).trans hw361_0),((HB.out.cell (World.block_lt_of_cell? w _ hw361_1)).trans hw361_1),((HB.out.cell (World.block_lt_of_cell? w _ hw362_0)).trans hw362_0),((HB.out.cell (World.block_lt_of_cell? w _ hw362_1)).trans hw362_1)⟩ (fun hHeld=>?_);refine with_tabW gangsawref39_simple.tab11 gangsawref39_simple.bits11 (fun HT_ HW_=>?_)
                    generalize wc.drew = w23 at HB hx359_0 hx359_1 hx360_0 hx360_1 hx361_0 hx361_1 hx362_0 hx362_1 hHeld ⊢
                    refine pu_ HT_ 0 33 (mk_ 25 1) ?_
                    refine pu_ HT_ 1 34 (mk_ 25 3) ?_
                    refine pu_ HT_ 2 35 (mk_ 25 7) ?_
                    refine pu_ HT_ 4 37 (mk_ 25 23) ?_
                    refine pu_ HT_ 5 38 (mk_ 25 55) ?_
                    refine pu_ HT_ 6 39 (mk_ 25 119) ?_
                    refine pu_ HT_ 7 40 (mk_ 25 247) ?_
                    refine pu_ HT_ 8 41 (mk_ 25 503) ?_
                    refine pu_ HT_ 9 42 (mk_ 25 1015) ?_
                    refine pu_ HT_ 11 44 (mk_ 25 3063) ?_
                    refine pu_ HT_ 12 45 (mk_ 25 7159) ?_
                    refine pu_ HT_ 13 46 (mk_ 25 15351) ?_
                    refine pu_ HT_ 15 48 (mk_ 25 48119) ?_
                    refine pu_ HT_ 16 49 (mk_ 25 113655) ?_
                    refine pu_ HT_ 17 50 (mk_ 25 244727) ?_
                    refine pu_ HT_ 18 51 (mk_ 25 506871) ?_
                    refine pu_ HT_ 19 52 (mk_ 25 1031159) ?_
                    refine pu_ HT_ 20 53 (mk_ 25 2079735) ?_
                    refine pu_ HT_ 23 56 (mk_ 25 10468343) ?_
                    refine ta8_ HT_ HW_ 3 36 (mk_ 25 10468351) hHeld ?_
                    refine ta8_ HT_ HW_ 10 43 (mk_ 25 10469375) hHeld ?_
                    refine ta8_ HT_ HW_ 14 47 (mk_ 25 10485759) hHeld ?_
                    refine ta8_ HT_ HW_ 21 54 (mk_ 25 12582911) hHeld ?_
                    refine one_ (i:=22) (N:=some 55) (mk_ 25 16777215) rfl rfl (one_of HT_.out (by kernel_rfl)) (by decide) (fun K hK=>?_);refine goes_ Try.func52 (by kernel_rfl) rfl #[.agg #[.int .i64 ((rd_T31 l0 x4_1).f0),.int .i64 ((rd_T31 l0 x4_1).f1)],.agg #[.int .i64 ((rd_T31 l0 (ji11)).f0),.int .i64 ((rd_T31 l0 (ji11)).f1)],.agg #[.int .i64 ((rd_T31 l0 x5_2).f0),.int .i64 ((rd_T31 l0 x5_2).f1)],.agg #[.int .i64 ((rd_T31 l0 (ji16)).f0),.int .i64 ((rd_T31 l0 (ji16)).f1)]] (by rfl) rfl rfl (by (try simp only [mT,mC,mN]);first|done|(simp only [hji11,hji16];rfl)|rfl|(simp only [lDr,lTk];rfl)) ?_
                    with_reducible refine (gangsawref03_Meet.calls kj3 ((rd_T31 l0 x4_1).f0) ((rd_T31 l0 x4_1).f1) ((rd_T31 l0 (ji11)).f0) ((rd_T31 l0 (ji11)).f1) ((rd_T31 l0 x5_2).f0) ((rd_T31 l0 x5_2).f1) ((rd_T31 l0 (ji16)).f0) ((rd_T31 l0 (ji16)).f1) t363 _ A19.out).mono ?_
                    rintro e w24 ⟨rfl,hb⟩;refine ⟨_,rfl, ?_⟩;replace HB:=bsa HB hb;(try clear hb);(try clear hb2);(try clear hk);(try clear hi)
                    refine hK.out _ _ ⟨((HB.out.cell (World.block_lt_of_cell? w _ hw359_0)).trans hw359_0),((HB.out.cell (World.block_lt_of_cell? w _ hw359_1)).trans hw359_1),((HB.out.cell (World.block_lt_of_cell? w _ hw360_0)).trans hw360_0),((HB.out.cell (World.block_lt_of_cell? w _ hw360_1)).trans hw360_1),((HB.out.cell (World.block_lt_of_cell? w _ hw361_0)).trans hw361_0),((HB.out.cell (World.block_lt_of_cell? w _ hw361_1)).trans hw361_1),((HB.out.cell (World.block_lt_of_cell? w _ hw362_0)).trans hw362_0),((HB.out.cell (World.block_lt_of_cell? w _ hw362_1)).trans hw362_1)⟩ (fun hHeld=>?_)
                    clear hK K
                    refine nm_ 55 ?_
                    refine pu_ HT_ 24 57 (mk_ 25 33554431) ?_
                    refine done_ (done_of HT_.out (by kernel_rfl)) ?_
                    try go_wp2
                    go_roundg kj3
                    case measure=>have:=HK1.out;have:=HK2.out;have:=HJ3.out;omega
                    case rel=>exact ⟨(wrap64 (x5_2 + 1)),(by first|rfl|(simp;done)|(simp [*];done)),H',⟨by have:=HK1.out;have:=HK2.out;have:=HJ3.out;omega⟩,⟨by repeat (first|(with_reducible first|exact HB.out|apply lA|apply lN|apply lD)|exact HB.out)⟩⟩
                  (rw [if_neg c18] at H;exact absurd H (by simp))
                 (rw [if_neg c17] at H;exact absurd H (by simp))
                (rw [if_neg c15] at H;exact absurd H (by simp))
               (rw [if_neg c14] at H;exact absurd H (by simp))
              (rw [if_neg c13] at H;exact absurd H (by simp))
             (rw [if_neg c12] at H;exact absurd H (by simp))
           (rw [if_neg c9] at H;exact absurd H (by simp))
          (rw [if_neg c8] at H;exact absurd H (by simp))
         ·replace c7:=Bool.eq_false_iff.mpr c7;subst c7
          have H1 : (if 0 ≤ x4_1 then (if x4_1 < (l0.length : Int) then (if (l0.length : Int) = 0 then (none) else (if 0 ≤ (Int.tmod (wrap64 (x4_1 + 1)) (l0.length : Int)) then (if (Int.tmod (wrap64 (x4_1 + 1)) (l0.length : Int)) < (l0.length : Int) then (if 0 ≤ x5_2 then (if x5_2 < (l0.length : Int) then (if 0 ≤ (Int.tmod (wrap64 (x5_2 + 1)) (l0.length : Int)) then (if (Int.tmod (wrap64 (x5_2 + 1)) (l0.length : Int)) < (l0.length : Int) then ((gangsawref03_Meet.f kj3 ((rd_T31 l0 x4_1).f0) ((rd_T31 l0 x4_1).f1) ((rd_T31 l0 (Int.tmod (wrap64 (x4_1 + 1)) (l0.length : Int))).f0) ((rd_T31 l0 (Int.tmod (wrap64 (x4_1 + 1)) (l0.length : Int))).f1) ((rd_T31 l0 x5_2).f0) ((rd_T31 l0 x5_2).f1) ((rd_T31 l0 (Int.tmod (wrap64 (x5_2 + 1)) (l0.length : Int))).f0) ((rd_T31 l0 (Int.tmod (wrap64 (x5_2 + 1)) (l0.length : Int))).f1)).bind fun t368=>(if t368 > 0 then (some false) else (gangsawref39_simple.l1 kj3 l0 (l0.length : Int) x4_1 (wrap64 (x5_2 + 1))))) else (none)) else (none)) else (none)) else (none)) else (none)) else (none))) else (none)) else (none)) = some r:=by rw [if_neg (show ¬ (false = true) by decide)] at H;exact H
          clear H;have H:=H1;clear H1;by_cases c25 : 0 ≤ x4_1
          ·rw [if_pos c25] at H;have c25b0 : decide (0 ≤ x4_1) = true:=decide_eq_true c25;clear c25;by_cases c26 : x4_1 < (l0.length : Int)
           ·rw [if_pos c26] at H;have c26b0 : decide (x4_1 < (l0.length : Int)) = true:=decide_eq_true c26;clear c26;by_cases c27 : (l0.length : Int) = 0
            (rw [if_pos c27] at H;exact absurd H (by simp))
            ·rw [if_neg c27] at H;have c27b0 : ((l0.length : Int) == 0) = false:=beq_eq_false_iff_ne.mpr c27;have c27b1 : ((l0.length : Int) != 0) = true:=bne_iff_ne.mpr c27
             have c27b2 : ¬ (l0 = []):=fun h_=>c27 (by rw [h_];rfl)
             obtain ⟨ji28,hji28⟩ : ∃ j_ : Int,(Int.tmod (wrap64 (x4_1 + 1)) (l0.length : Int)) = j_:=⟨_,rfl⟩
             replace H : (if 0 ≤ (ji28) then (if (ji28) < (l0.length : Int) then (if 0 ≤ x5_2 then (if x5_2 < (l0.length : Int) then (if 0 ≤ (Int.tmod (wrap64 (x5_2 + 1)) (l0.length : Int)) then (if (Int.tmod (wrap64 (x5_2 + 1)) (l0.length : Int)) < (l0.length : Int) then ((gangsawref03_Meet.f kj3 ((rd_T31 l0 x4_1).f0) ((rd_T31 l0 x4_1).f1) ((rd_T31 l0 (ji28)).f0) ((rd_T31 l0 (ji28)).f1) ((rd_T31 l0 x5_2).f0) ((rd_T31 l0 x5_2).f1) ((rd_T31 l0 (Int.tmod (wrap64 (x5_2 + 1)) (l0.length : Int))).f0) ((rd_T31 l0 (Int.tmod (wrap64 (x5_2 + 1)) (l0.length : Int))).f1)).bind fun t368=>(if t368 > 0 then (some false) else (gangsawref39_simple.l1 kj3 l0 (l0.length : Int) x4_1 (wrap64 (x5_2 + 1))))) else (none)) else (none)) else (none)) else (none)) else (none)) else (none)) = some r:=by first|(rw [hji28] at H;exact H)|(simp only [hji28] at H ⊢;exact H)
             by_cases c29 : 0 ≤ (ji28)
             ·rw [if_pos c29] at H;have c29b0 : decide (0 ≤ (ji28)) = true:=decide_eq_true c29;clear c29;by_cases c30 : (ji28) < (l0.length : Int)
              ·rw [if_pos c30] at H;have c30b0 : decide ((ji28) < (l0.length : Int)) = true:=decide_eq_true c30;clear c30;by_cases c31 : 0 ≤ x5_2
               ·rw [if_pos c31] at H;have c31b0 : decide (0 ≤ x5_2) = true:=decide_eq_true c31;clear c31;by_cases c32 : x5_2 < (l0.length : Int)
                ·rw [if_pos c32] at H;have c32b0 : decide (x5_2 < (l0.length : Int)) = true:=decide_eq_true c32;clear c32
                 obtain ⟨ji33,hji33⟩ : ∃ j_ : Int,(Int.tmod (wrap64 (x5_2 + 1)) (l0.length : Int)) = j_:=⟨_,rfl⟩
                 replace H : (if 0 ≤ (ji33) then (if (ji33) < (l0.length : Int) then ((gangsawref03_Meet.f kj3 ((rd_T31 l0 x4_1).f0) ((rd_T31 l0 x4_1).f1) ((rd_T31 l0 (ji28)).f0) ((rd_T31 l0 (ji28)).f1) ((rd_T31 l0 x5_2).f0) ((rd_T31 l0 x5_2).f1) ((rd_T31 l0 (ji33)).f0) ((rd_T31 l0 (ji33)).f1)).bind fun t368=>(if t368 > 0 then (some false) else (gangsawref39_simple.l1 kj3 l0 (l0.length : Int) x4_1 (wrap64 (x5_2 + 1))))) else (none)) else (none)) = some r:=by first|(rw [hji33] at H;exact H)|(simp only [hji33] at H ⊢;exact H)
                 by_cases c34 : 0 ≤ (ji33)
                 ·rw [if_pos c34] at H;have c34b0 : decide (0 ≤ (ji33)) = true:=decide_eq_true c34;clear c34;by_cases c35 : (ji33) < (l0.length : Int)
                  ·rw [if_pos c35] at H;have c35b0 : decide ((ji33) < (l0.length : Int)) = true:=decide_eq_true c35;clear c35;replace H:=Option.bind_eq_some_iff.mp H;obtain ⟨t368,A360,H⟩ := H;replace H : (if t368 > 0 then (some false) else (gangsawref39_simple.l1 kj3 l0 (l0.length : Int) x4_1 (wrap64 (x5_2 + 1)))) = some r:=H;have A36:=am A360;clear A360;by_cases c37 : t368 > 0
                   ·rw [if_pos c37] at H;have c37b0 : decide (0 < t368) = true:=decide_eq_true c37;clear c37;obtain rfl:=Option.some.inj H
                    try go_wp2
                    replace HB:=hda HB;have p364 : 0 ≤ (x4_1 : Int):=of_decide_eq_true (by first|(with_reducible assumption)|assumption);have q364 : x4_1 < (l0.length : Int):=of_decide_eq_true (by first|(with_reducible assumption)|assumption);obtain ⟨ad364,e364,hx364_0,hx364_1⟩ := at_T31 HR0.out x4_1 p364 q364;have hw364_1:=hx364_1;have hw364_0:=hx364_0
                    cases e364
                    replace hx364_0:=(HB.out.cell (World.block_lt_of_cell? w _ hx364_0)).trans hx364_0;replace hx364_1:=(HB.out.cell (World.block_lt_of_cell? w _ hx364_1)).trans hx364_1;replace p364:=eq_true p364;replace q364:=eq_true q364;have p365 : 0 ≤ ((ji28) : Int):=of_decide_eq_true (by first|(with_reducible assumption)|assumption);have q365 : (ji28) < (l0.length : Int):=of_decide_eq_true (by first|(with_reducible assumption)|assumption);obtain ⟨ad365,e365,hx365_0,hx365_1⟩ := at_T31 HR0.out (ji28) p365 q365;have hw365_1:=hx365_1;have hw365_0:=hx365_0
                    obtain rfl : ad364 = ad365:=(by injection e365)
                    replace hx365_0:=(HB.out.cell (World.block_lt_of_cell? w _ hx365_0)).trans hx365_0;replace hx365_1:=(HB.out.cell (World.block_lt_of_cell? w _ hx365_1)).trans hx365_1;replace p365:=eq_true p365;replace q365:=eq_true q365;have p366 : 0 ≤ (x5_2 : Int):=of_decide_eq_true (by first|(with_reducible assumption)|assumption);have q366 : x5_2 < (l0.length : Int):=of_decide_eq_true (by first|(with_reducible assumption)|assumption);obtain ⟨ad366,e366,hx366_0,hx366_1⟩ := at_T31 HR0.out x5_2 p366 q366;have hw366_1:=hx366_1;have hw366_0:=hx366_0
                    obtain rfl : ad364 = ad366:=(by injection e366)
                    replace hx366_0:=(HB.out.cell (World.block_lt_of_cell? w _ hx366_0)).trans hx366_0;replace hx366_1:=(HB.out.cell (World.block_lt_of_cell? w _ hx366_1)).trans hx366_1;replace p366:=eq_true p366;replace q366:=eq_true q366;have p367 : 0 ≤ ((ji33) : Int):=of_decide_eq_true (by first|(with_reducible assumption)|assumption);have q367 : (ji33) < (l0.length : Int):=of_decide_eq_true (by first|(with_reducible assumption)|assumption);obtain ⟨ad367,e367,hx367_0,hx367_1⟩ := at_T31 HR0.out (ji33) p367 q367;have hw367_1:=hx367_1;have hw367_0:=hx367_0
                    obtain rfl : ad364 = ad367:=(by injection e367)
                    replace hx367_0:=(HB.out.cell (World.block_lt_of_cell? w _ hx367_0)).trans hx367_0;replace hx367_1:=(HB.out.cell (World.block_lt_of_cell? w _ hx367_1)).trans hx367_1;replace p367:=eq_true p367;replace q367:=eq_true q367
                    refine start_ (n:=25) (S:=fun w'=>w'.cell? (ad364.add ((x4_1).toNat * 2)) = some (.int .i64 ((rd_T31 l0 x4_1).f0)) ∧ w'.cell? ⟨(ad364.add ((x4_1).toNat * 2)).block,(ad364.add ((x4_1).toNat * 2)).off + 1,none⟩ = some (.int .i64 ((rd_T31 l0 x4_1).f1)) ∧ w'.cell? (ad364.add (((ji28)).toNat * 2)) = some (.int .i64 ((rd_T31 l0 (ji28)).f0)) ∧ w'.cell? ⟨(ad364.add (((ji28)).toNat * 2)).block,(ad364.add (((ji28)).toNat * 2)).off + 1,none⟩ = some (.int .i64 ((rd_T31 l0 (ji28)).f1)) ∧ w'.cell? (ad364.add ((x5_2).toNat * 2)) = some (.int .i64 ((rd_T31 l0 x5_2).f0)) ∧ w'.cell? ⟨(ad364.add ((x5_2).toNat * 2)).block,(ad364.add ((x5_2).toNat * 2)).off + 1,none⟩ = some (.int .i64 ((rd_T31 l0 x5_2).f1)) ∧ w'.cell? (ad364.add (((ji33)).toNat * 2)) = some (.int .i64 ((rd_T31 l0 (ji33)).f0)) ∧ w'.cell? ⟨(ad364.add (((ji33)).toNat * 2)).block,(ad364.add (((ji33)).toNat * 2)).off + 1,none⟩ = some (.int .i64 ((rd_T31 l0 (ji33)).f1))) (ds:=[]) #[f_,f_,f_,f_,f_,f_,f_,f_,f_,f_,f_,f_,f_,f_,f_,f_,f_,f_,f_,f_,f_,f_,f_,f_,f_] (by kernel_rfl) rfl rfl ⟨((HB.out.cell (World.block_lt_of_cell? w _ hw364_0)).trans hw364_0),((HB.out.cell (World.block_lt_of_cell? w _ hw364_1)).trans hw364_1),((HB.out.cell (World.block_lt_of_cell? w _ hw365_0)).trans hw365_0),((HB.out.cell (World.block_lt_of_cell? w _ hw365_1)).trans hw365_1),((HB.out.cell (World.block_lt_of_cell? w _ hw366_0)).trans hw366_0),((HB.out.cell (World.block_lt_of_cell? w _ hw366_1)).trans hw366_1),((HB.out.cell (World.block_lt_of_cell? w _ hw367_0)).trans hw367_0),((HB.out.cell (World.block_lt_of_cell? w _ hw367_1)).trans hw367_1)⟩ (fun hHeld=>?_);refine with_tabW gangsawref39_simple.tab11 gangsawref39_simple.bits11 (fun HT_ HW_=>?_)
                    generalize wc.drew = w38 at HB hx364_0 hx364_1 hx365_0 hx365_1 hx366_0 hx366_1 hx367_0 hx367_1 hHeld ⊢
                    refine pu_ HT_ 0 33 (mk_ 25 1) ?_
                    refine pu_ HT_ 1 34 (mk_ 25 3) ?_
                    refine pu_ HT_ 2 35 (mk_ 25 7) ?_
                    refine pu_ HT_ 4 37 (mk_ 25 23) ?_
                    refine pu_ HT_ 5 38 (mk_ 25 55) ?_
                    refine pu_ HT_ 6 39 (mk_ 25 119) ?_
                    refine pu_ HT_ 7 40 (mk_ 25 247) ?_
                    refine pu_ HT_ 8 41 (mk_ 25 503) ?_
                    refine pu_ HT_ 9 42 (mk_ 25 1015) ?_
                    refine pu_ HT_ 11 44 (mk_ 25 3063) ?_
                    refine pu_ HT_ 12 45 (mk_ 25 7159) ?_
                    refine pu_ HT_ 13 46 (mk_ 25 15351) ?_
                    refine pu_ HT_ 15 48 (mk_ 25 48119) ?_
                    refine pu_ HT_ 16 49 (mk_ 25 113655) ?_
                    refine pu_ HT_ 17 50 (mk_ 25 244727) ?_
                    refine pu_ HT_ 18 51 (mk_ 25 506871) ?_
                    refine pu_ HT_ 19 52 (mk_ 25 1031159) ?_
                    refine pu_ HT_ 20 53 (mk_ 25 2079735) ?_
                    refine pu_ HT_ 23 56 (mk_ 25 10468343) ?_
                    refine ta8_ HT_ HW_ 3 36 (mk_ 25 10468351) hHeld ?_
                    refine ta8_ HT_ HW_ 10 43 (mk_ 25 10469375) hHeld ?_
                    refine ta8_ HT_ HW_ 14 47 (mk_ 25 10485759) hHeld ?_
                    refine ta8_ HT_ HW_ 21 54 (mk_ 25 12582911) hHeld ?_
                    refine one_ (i:=22) (N:=some 55) (mk_ 25 16777215) rfl rfl (one_of HT_.out (by kernel_rfl)) (by decide) (fun K hK=>?_);refine goes_ Try.func52 (by kernel_rfl) rfl #[.agg #[.int .i64 ((rd_T31 l0 x4_1).f0),.int .i64 ((rd_T31 l0 x4_1).f1)],.agg #[.int .i64 ((rd_T31 l0 (ji28)).f0),.int .i64 ((rd_T31 l0 (ji28)).f1)],.agg #[.int .i64 ((rd_T31 l0 x5_2).f0),.int .i64 ((rd_T31 l0 x5_2).f1)],.agg #[.int .i64 ((rd_T31 l0 (ji33)).f0),.int .i64 ((rd_T31 l0 (ji33)).f1)]] (by rfl) rfl rfl (by (try simp only [mT,mC,mN]);first|done|(simp only [hji28,hji33];rfl)|rfl|(simp only [lDr,lTk];rfl)) ?_
                    with_reducible refine (gangsawref03_Meet.calls kj3 ((rd_T31 l0 x4_1).f0) ((rd_T31 l0 x4_1).f1) ((rd_T31 l0 (ji28)).f0) ((rd_T31 l0 (ji28)).f1) ((rd_T31 l0 x5_2).f0) ((rd_T31 l0 x5_2).f1) ((rd_T31 l0 (ji33)).f0) ((rd_T31 l0 (ji33)).f1) t368 _ A36.out).mono ?_
                    rintro e w39 ⟨rfl,hb⟩;refine ⟨_,rfl, ?_⟩;replace HB:=bsa HB hb;(try clear hb);(try clear hb2);(try clear hk);(try clear hi)
                    refine hK.out _ _ ⟨((HB.out.cell (World.block_lt_of_cell? w _ hw364_0)).trans hw364_0),((HB.out.cell (World.block_lt_of_cell? w _ hw364_1)).trans hw364_1),((HB.out.cell (World.block_lt_of_cell? w _ hw365_0)).trans hw365_0),((HB.out.cell (World.block_lt_of_cell? w _ hw365_1)).trans hw365_1),((HB.out.cell (World.block_lt_of_cell? w _ hw366_0)).trans hw366_0),((HB.out.cell (World.block_lt_of_cell? w _ hw366_1)).trans hw366_1),((HB.out.cell (World.block_lt_of_cell? w _ hw367_0)).trans hw367_0),((HB.out.cell (World.block_lt_of_cell? w _ hw367_1)).trans hw367_1)⟩ (fun hHeld=>?_)
                    clear hK K
                    refine nm_ 55 ?_
                    refine pu_ HT_ 24 57 (mk_ 25 33554431) ?_
                    refine done_ (done_of HT_.out (by kernel_rfl)) ?_
                    try go_wp2
                    go_ret
                    exact ⟨by first|rfl|(simp [errW_none,errW_some] <;> rfl)|(simp only [← hji28,← hji33];first|rfl|(simp [errW_none,errW_some] <;> rfl))|(simp [*,errW_none,errW_some] <;> rfl),by repeat (first|(with_reducible first|exact HB.out|apply lA|apply lN|apply lD)|exact HB.out)⟩
                   ·rw [if_neg c37] at H;have c37b0 : decide (0 < t368) = false:=decide_eq_false c37;clear c37;have H':=am H;clear H
                    try go_wp2
                    replace HB:=hda HB;have p364 : 0 ≤ (x4_1 : Int):=of_decide_eq_true (by first|(with_reducible assumption)|assumption);have q364 : x4_1 < (l0.length : Int):=of_decide_eq_true (by first|(with_reducible assumption)|assumption);obtain ⟨ad364,e364,hx364_0,hx364_1⟩ := at_T31 HR0.out x4_1 p364 q364;have hw364_1:=hx364_1;have hw364_0:=hx364_0
                    cases e364
                    replace hx364_0:=(HB.out.cell (World.block_lt_of_cell? w _ hx364_0)).trans hx364_0;replace hx364_1:=(HB.out.cell (World.block_lt_of_cell? w _ hx364_1)).trans hx364_1;replace p364:=eq_true p364;replace q364:=eq_true q364;have p365 : 0 ≤ ((ji28) : Int):=of_decide_eq_true (by first|(with_reducible assumption)|assumption);have q365 : (ji28) < (l0.length : Int):=of_decide_eq_true (by first|(with_reducible assumption)|assumption);obtain ⟨ad365,e365,hx365_0,hx365_1⟩ := at_T31 HR0.out (ji28) p365 q365;have hw365_1:=hx365_1;have hw365_0:=hx365_0
                    obtain rfl : ad364 = ad365:=(by injection e365)
                    replace hx365_0:=(HB.out.cell (World.block_lt_of_cell? w _ hx365_0)).trans hx365_0;replace hx365_1:=(HB.out.cell (World.block_lt_of_cell? w _ hx365_1)).trans hx365_1;replace p365:=eq_true p365;replace q365:=eq_true q365;have p366 : 0 ≤ (x5_2 : Int):=of_decide_eq_true (by first|(with_reducible assumption)|assumption);have q366 : x5_2 < (l0.length : Int):=of_decide_eq_true (by first|(with_reducible assumption)|assumption);obtain ⟨ad366,e366,hx366_0,hx366_1⟩ := at_T31 HR0.out x5_2 p366 q366;have hw366_1:=hx366_1;have hw366_0:=hx366_0
                    obtain rfl : ad364 = ad366:=(by injection e366)
                    replace hx366_0:=(HB.out.cell (World.block_lt_of_cell? w _ hx366_0)).trans hx366_0;replace hx366_1:=(HB.out.cell (World.block_lt_of_cell? w _ hx366_1)).trans hx366_1;replace p366:=eq_true p366;replace q366:=eq_true q366;have p367 : 0 ≤ ((ji33) : Int):=of_decide_eq_true (by first|(with_reducible assumption)|assumption);have q367 : (ji33) < (l0.length : Int):=of_decide_eq_true (by first|(with_reducible assumption)|assumption);obtain ⟨ad367,e367,hx367_0,hx367_1⟩ := at_T31 HR0.out (ji33) p367 q367;have hw367_1:=hx367_1;have hw367_0:=hx367_0
                    obtain rfl : ad364 = ad367:=(by injection e367)
                    replace hx367_0:=(HB.out.cell (World.block_lt_of_cell? w _ hx367_0)).trans hx367_0;replace hx367_1:=(HB.out.cell (World.block_lt_of_cell? w _ hx367_1)).trans hx367_1;replace p367:=eq_true p367;replace q367:=eq_true q367
                    refine start_ (n:=25) (S:=fun w'=>w'.cell? (ad364.add ((x4_1).toNat * 2)) = some (.int .i64 ((rd_T31 l0 x4_1).f0)) ∧ w'.cell? ⟨(ad364.add ((x4_1).toNat * 2)).block,(ad364.add ((x4_1).toNat * 2)).off + 1,none⟩ = some (.int .i64 ((rd_T31 l0 x4_1).f1)) ∧ w'.cell? (ad364.add (((ji28)).toNat * 2)) = some (.int .i64 ((rd_T31 l0 (ji28)).f0)) ∧ w'.cell? ⟨(ad364.add (((ji28)).toNat * 2)).block,(ad364.add (((ji28)).toNat * 2)).off + 1,none⟩ = some (.int .i64 ((rd_T31 l0 (ji28)).f1)) ∧ w'.cell? (ad364.add ((x5_2).toNat * 2)) = some (.int .i64 ((rd_T31 l0 x5_2).f0)) ∧ w'.cell? ⟨(ad364.add ((x5_2).toNat * 2)).block,(ad364.add ((x5_2).toNat * 2)).off + 1,none⟩ = some (.int .i64 ((rd_T31 l0 x5_2).f1)) ∧ w'.cell? (ad364.add (((ji33)).toNat * 2)) = some (.int .i64 ((rd_T31 l0 (ji33)).f0)) ∧ w'.cell? ⟨(ad364.add (((ji33)).toNat * 2)).block,(ad364.add (((ji33)).toNat * 2)).off + 1,none⟩ = some (.int .i64 ((rd_T31 l0 (ji33)).f1))) (ds:=[]) #[f_,f_,f_,f_,f_,f_,f_,f_,f_,f_,f_,f_,f_,f_,f_,f_,f_,f_,f_,f_,f_,f_,f_,f_,f_] (by kernel_rfl) rfl rfl ⟨((HB.out.cell (World.block_lt_of_cell? w _ hw364_0)).trans hw364_0),((HB.out.cell (World.block_lt_of_cell? w _ hw364_1)).trans hw364_1),((HB.out.cell (World.block_lt_of_cell? w _ hw365_0)).trans hw365_0),((HB.out.cell (World.block_lt_of_cell? w _ hw365_1)).trans hw365_1),((HB.out.cell (World.block_lt_of_cell? w _ hw366_0)).trans hw366_0),((HB.out.cell (World.block_lt_of_cell? w _ hw366_1)).trans hw366_1),((HB.out.cell (World.block_lt_of_cell? w _ hw367_0)).trans hw367_0),((HB.out.cell (World.block_lt_of_cell? w _ hw367_1)).trans hw367_1)⟩ (fun hHeld=>?_);refine with_tabW gangsawref39_simple.tab11 gangsawref39_simple.bits11 (fun HT_ HW_=>?_)
                    generalize wc.drew = w40 at HB hx364_0 hx364_1 hx365_0 hx365_1 hx366_0 hx366_1 hx367_0 hx367_1 hHeld ⊢
                    refine pu_ HT_ 0 33 (mk_ 25 1) ?_
                    refine pu_ HT_ 1 34 (mk_ 25 3) ?_
                    refine pu_ HT_ 2 35 (mk_ 25 7) ?_
                    refine pu_ HT_ 4 37 (mk_ 25 23) ?_
                    refine pu_ HT_ 5 38 (mk_ 25 55) ?_
                    refine pu_ HT_ 6 39 (mk_ 25 119) ?_
                    refine pu_ HT_ 7 40 (mk_ 25 247) ?_
                    refine pu_ HT_ 8 41 (mk_ 25 503) ?_
                    refine pu_ HT_ 9 42 (mk_ 25 1015) ?_
                    refine pu_ HT_ 11 44 (mk_ 25 3063) ?_
                    refine pu_ HT_ 12 45 (mk_ 25 7159) ?_
                    refine pu_ HT_ 13 46 (mk_ 25 15351) ?_
                    refine pu_ HT_ 15 48 (mk_ 25 48119) ?_
                    refine pu_ HT_ 16 49 (mk_ 25 113655) ?_
                    refine pu_ HT_ 17 50 (mk_ 25 244727) ?_
                    refine pu_ HT_ 18 51 (mk_ 25 506871) ?_
                    refine pu_ HT_ 19 52 (mk_ 25 1031159) ?_
                    refine pu_ HT_ 20 53 (mk_ 25 2079735) ?_
                    refine pu_ HT_ 23 56 (mk_ 25 10468343) ?_
                    refine ta8_ HT_ HW_ 3 36 (mk_ 25 10468351) hHeld ?_
                    refine ta8_ HT_ HW_ 10 43 (mk_ 25 10469375) hHeld ?_
                    refine ta8_ HT_ HW_ 14 47 (mk_ 25 10485759) hHeld ?_
                    refine ta8_ HT_ HW_ 21 54 (mk_ 25 12582911) hHeld ?_
                    refine one_ (i:=22) (N:=some 55) (mk_ 25 16777215) rfl rfl (one_of HT_.out (by kernel_rfl)) (by decide) (fun K hK=>?_);refine goes_ Try.func52 (by kernel_rfl) rfl #[.agg #[.int .i64 ((rd_T31 l0 x4_1).f0),.int .i64 ((rd_T31 l0 x4_1).f1)],.agg #[.int .i64 ((rd_T31 l0 (ji28)).f0),.int .i64 ((rd_T31 l0 (ji28)).f1)],.agg #[.int .i64 ((rd_T31 l0 x5_2).f0),.int .i64 ((rd_T31 l0 x5_2).f1)],.agg #[.int .i64 ((rd_T31 l0 (ji33)).f0),.int .i64 ((rd_T31 l0 (ji33)).f1)]] (by rfl) rfl rfl (by (try simp only [mT,mC,mN]);first|done|(simp only [hji28,hji33];rfl)|rfl|(simp only [lDr,lTk];rfl)) ?_
                    with_reducible refine (gangsawref03_Meet.calls kj3 ((rd_T31 l0 x4_1).f0) ((rd_T31 l0 x4_1).f1) ((rd_T31 l0 (ji28)).f0) ((rd_T31 l0 (ji28)).f1) ((rd_T31 l0 x5_2).f0) ((rd_T31 l0 x5_2).f1) ((rd_T31 l0 (ji33)).f0) ((rd_T31 l0 (ji33)).f1) t368 _ A36.out).mono ?_
                    rintro e w41 ⟨rfl,hb⟩;refine ⟨_,rfl, ?_⟩;replace HB:=bsa HB hb;(try clear hb);(try clear hb2);(try clear hk);(try clear hi)
                    refine hK.out _ _ ⟨((HB.out.cell (World.block_lt_of_cell? w _ hw364_0)).trans hw364_0),((HB.out.cell (World.block_lt_of_cell? w _ hw364_1)).trans hw364_1),((HB.out.cell (World.block_lt_of_cell? w _ hw365_0)).trans hw365_0),((HB.out.cell (World.block_lt_of_cell? w _ hw365_1)).trans hw365_1),((HB.out.cell (World.block_lt_of_cell? w _ hw366_0)).trans hw366_0),((HB.out.cell (World.block_lt_of_cell? w _ hw366_1)).trans hw366_1),((HB.out.cell (World.block_lt_of_cell? w _ hw367_0)).trans hw367_0),((HB.out.cell (World.block_lt_of_cell? w _ hw367_1)).trans hw367_1)⟩ (fun hHeld=>?_)
                    clear hK K
                    refine nm_ 55 ?_
                    refine pu_ HT_ 24 57 (mk_ 25 33554431) ?_
                    refine done_ (done_of HT_.out (by kernel_rfl)) ?_
                    try go_wp2
                    go_roundg kj3
                    case measure=>have:=HK1.out;have:=HK2.out;have:=HJ3.out;omega
                    case rel=>exact ⟨(wrap64 (x5_2 + 1)),(by first|rfl|(simp;done)|(simp [*];done)),H',⟨by have:=HK1.out;have:=HK2.out;have:=HJ3.out;omega⟩,⟨by repeat (first|(with_reducible first|exact HB.out|apply lA|apply lN|apply lD)|exact HB.out)⟩⟩
                  (rw [if_neg c35] at H;exact absurd H (by simp))
                 (rw [if_neg c34] at H;exact absurd H (by simp))
                (rw [if_neg c32] at H;exact absurd H (by simp))
               (rw [if_neg c31] at H;exact absurd H (by simp))
              (rw [if_neg c30] at H;exact absurd H (by simp))
             (rw [if_neg c29] at H;exact absurd H (by simp))
           (rw [if_neg c26] at H;exact absurd H (by simp))
          (rw [if_neg c25] at H;exact absurd H (by simp))
      ·rw [if_neg c3] at H;have c3b0 : decide (x5_2 < x4_1) = false:=decide_eq_false c3;clear c3;have H':=am H;clear H
       go_wp2
       go_roundg k2
       case measure=>have:=HK1.out;have:=HK2.out;omega
       case rel=>exact ⟨(wrap64 (x4_1 + 1)),(by first|rfl|(simp;done)|(simp [*];done)),H',⟨by have:=HK1.out;have:=HK2.out;omega⟩,⟨by repeat (first|(with_reducible first|exact HB.out|apply lA|apply lN|apply lD)|exact HB.out)⟩⟩
   ·rw [if_neg c2] at H;have c2b0 : decide (x4_1 < (l0.length : Int)) = false:=decide_eq_false c2;clear c2;obtain rfl:=Option.some.inj H
    go_wp2
    go_ret
    exact ⟨by first|rfl|(simp [errW_none,errW_some] <;> rfl)|(simp [*,errW_none,errW_some] <;> rfl),by repeat (first|(with_reducible first|exact HB.out|apply lA|apply lN|apply lD)|exact HB.out)⟩
end Go.Proofs.Ytnjikioimompnaa.PA
