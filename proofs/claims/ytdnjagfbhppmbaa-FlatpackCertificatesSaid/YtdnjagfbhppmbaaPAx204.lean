-- Written by a program of this session out of the translation, over functions proved by hand.
import Derived.Test.YtdnjagfbhppmbaaPAx0
import Derived.Test.YtdnjagfbhppmbaaPAx2
import Derived.Test.YtdnjagfbhppmbaaPAx3
import Derived.Test.YtdnjagfbhppmbaaPAx225
import Derived.Test.YtdnjagfbhppmbaaGiven
namespace Go.Proofs.Ytdnjagfbhppmbaa.PA
open Go.RowKit Go.Proofs.YtdnjagfbhppmbaaW.PrintWords Go.Proofs.YtdnjagfbhppmbaaW.PrintLast Go.Proofs.YtdnjagfbhppmbaaW.PrintMore
attribute [local go_sem] max2_int min2_int max_two min_two max_three min_three max_four min_four   -- for this text's walks alone
set_option linter.unusedVariables false
set_option linter.unusedSimpArgs false
noncomputable section

/-! ### gangsawlaw25_FlatpackCertificates: function 7 -/
def gangsawlaw25_FlatpackCertificates.f (k : Nat) (a0 : Int) (a1 : Int) (l2 : List (S36)) (a3 : Int) (l4 : List (List Int)) : Option (Bool) := (gangsawlaw25_awake.f k).bind fun t367 => (if t367 = true then ((gangsawref25_Small.f k a0 a1 l2).bind fun t368 => (if t368 = true then ((gangsawref25_Few.f k l4).bind fun t369 => (if t369 = true then ((flatpack_Proves.f a0 a1 l2 a3 l4).bind fun t370 => (if t370 = true then ((flatpack_Best.f a0 a1 l2 a3).bind fun bt371 => (if bt371.2 = 0 then (if (l4.length : Int) = (wrap64 (a0 + 1)) then (if 0 ≤ a0 then (if a0 < (l4.length : Int) then (if ((rd_L5 l4 a0).length : Int) = (wrap64 (a1 + 1)) then (if 0 ≤ a1 then (if a1 < ((rd_L5 l4 a0).length : Int) then (some (decide ((rd (rd_L5 l4 a0) a1) ≥ bt371.1))) else (none)) else (none)) else (none)) else (none)) else (none)) else (none)) else (none))) else (some true))) else (some true))) else (some true))) else (none))
set_option maxHeartbeats 8000000 in
set_option maxRecDepth 100000 in
theorem gangsawlaw25_FlatpackCertificates.calls (k : Nat) (a0 : Int) (a1 : Int) (A2 : Option Addr) (c2 : Nat) (l2 : List (S36)) (a3 : Int) (A4 : Option Addr) (c4 : Nat) (l4 : List (List Int)) (r : Bool) (w : World) (hr2 : Kd.C k36 w A2 l2.length l2) (hc2 : l2.length ≤ c2) (hr4 : Kd.C (Kd.slice 2 (Kd.int .i64)) w A4 l4.length l4) (hc4 : l4.length ≤ c4) (h : gangsawlaw25_FlatpackCertificates.f k a0 a1 l2 a3 l4 = some r) :
    Calls Try.prog 7 #[.int .i64 a0, .int .i64 a1, .slice A2 l2.length c2, .int .i64 a3, .slice A4 l4.length c4] w fun e w' => e = .returned (.bool r) ∧ Below w.heap.size w w' := by
  have HR2 := Aside0.mk hr2
  have HC2 := Aside0.mk hc2
  clear hr2 hc2
  have HR4 := Aside0.mk hr4
  have HC4 := Aside0.mk hc4
  clear hr4 hc4
  have HB := Aside0.mk (Below.refl w.heap.size w)
  have H : ((gangsawlaw25_awake.f k).bind fun t367 => (if t367 = true then ((gangsawref25_Small.f k a0 a1 l2).bind fun t368 => (if t368 = true then ((gangsawref25_Few.f k l4).bind fun t369 => (if t369 = true then ((flatpack_Proves.f a0 a1 l2 a3 l4).bind fun t370 => (if t370 = true then ((flatpack_Best.f a0 a1 l2 a3).bind fun bt371 => (if bt371.2 = 0 then (if (l4.length : Int) = (wrap64 (a0 + 1)) then (if 0 ≤ a0 then (if a0 < (l4.length : Int) then (if ((rd_L5 l4 a0).length : Int) = (wrap64 (a1 + 1)) then (if 0 ≤ a1 then (if a1 < ((rd_L5 l4 a0).length : Int) then (some (decide ((rd (rd_L5 l4 a0) a1) ≥ bt371.1))) else (none)) else (none)) else (none)) else (none)) else (none)) else (none)) else (none))) else (some true))) else (some true))) else (some true))) else (none))) = some r := h
  clear h
  replace H := Option.bind_eq_some_iff.mp H
  obtain ⟨t367, A60, H⟩ := H
  replace H : (if t367 = true then ((gangsawref25_Small.f k a0 a1 l2).bind fun t368 => (if t368 = true then ((gangsawref25_Few.f k l4).bind fun t369 => (if t369 = true then ((flatpack_Proves.f a0 a1 l2 a3 l4).bind fun t370 => (if t370 = true then ((flatpack_Best.f a0 a1 l2 a3).bind fun bt371 => (if bt371.2 = 0 then (if (l4.length : Int) = (wrap64 (a0 + 1)) then (if 0 ≤ a0 then (if a0 < (l4.length : Int) then (if ((rd_L5 l4 a0).length : Int) = (wrap64 (a1 + 1)) then (if 0 ≤ a1 then (if a1 < ((rd_L5 l4 a0).length : Int) then (some (decide ((rd (rd_L5 l4 a0) a1) ≥ bt371.1))) else (none)) else (none)) else (none)) else (none)) else (none)) else (none)) else (none))) else (some true))) else (some true))) else (some true))) else (none)) = some r := H
  have A6 := Aside0.mk A60
  clear A60
  by_cases c7 : t367 = true
  · subst c7
    have H1 : ((gangsawref25_Small.f k a0 a1 l2).bind fun t368 => (if t368 = true then ((gangsawref25_Few.f k l4).bind fun t369 => (if t369 = true then ((flatpack_Proves.f a0 a1 l2 a3 l4).bind fun t370 => (if t370 = true then ((flatpack_Best.f a0 a1 l2 a3).bind fun bt371 => (if bt371.2 = 0 then (if (l4.length : Int) = (wrap64 (a0 + 1)) then (if 0 ≤ a0 then (if a0 < (l4.length : Int) then (if ((rd_L5 l4 a0).length : Int) = (wrap64 (a1 + 1)) then (if 0 ≤ a1 then (if a1 < ((rd_L5 l4 a0).length : Int) then (some (decide ((rd (rd_L5 l4 a0) a1) ≥ bt371.1))) else (none)) else (none)) else (none)) else (none)) else (none)) else (none)) else (none))) else (some true))) else (some true))) else (some true))) = some r := by rw [if_pos rfl] at H; exact H
    clear H
    have H := H1
    clear H1
    replace H := Option.bind_eq_some_iff.mp H
    obtain ⟨t368, A80, H⟩ := H
    replace H : (if t368 = true then ((gangsawref25_Few.f k l4).bind fun t369 => (if t369 = true then ((flatpack_Proves.f a0 a1 l2 a3 l4).bind fun t370 => (if t370 = true then ((flatpack_Best.f a0 a1 l2 a3).bind fun bt371 => (if bt371.2 = 0 then (if (l4.length : Int) = (wrap64 (a0 + 1)) then (if 0 ≤ a0 then (if a0 < (l4.length : Int) then (if ((rd_L5 l4 a0).length : Int) = (wrap64 (a1 + 1)) then (if 0 ≤ a1 then (if a1 < ((rd_L5 l4 a0).length : Int) then (some (decide ((rd (rd_L5 l4 a0) a1) ≥ bt371.1))) else (none)) else (none)) else (none)) else (none)) else (none)) else (none)) else (none))) else (some true))) else (some true))) else (some true)) = some r := H
    have A8 := Aside0.mk A80
    clear A80
    by_cases c9 : t368 = true
    · subst c9
      have H1 : ((gangsawref25_Few.f k l4).bind fun t369 => (if t369 = true then ((flatpack_Proves.f a0 a1 l2 a3 l4).bind fun t370 => (if t370 = true then ((flatpack_Best.f a0 a1 l2 a3).bind fun bt371 => (if bt371.2 = 0 then (if (l4.length : Int) = (wrap64 (a0 + 1)) then (if 0 ≤ a0 then (if a0 < (l4.length : Int) then (if ((rd_L5 l4 a0).length : Int) = (wrap64 (a1 + 1)) then (if 0 ≤ a1 then (if a1 < ((rd_L5 l4 a0).length : Int) then (some (decide ((rd (rd_L5 l4 a0) a1) ≥ bt371.1))) else (none)) else (none)) else (none)) else (none)) else (none)) else (none)) else (none))) else (some true))) else (some true))) = some r := by rw [if_pos rfl] at H; exact H
      clear H
      have H := H1
      clear H1
      replace H := Option.bind_eq_some_iff.mp H
      obtain ⟨t369, A100, H⟩ := H
      replace H : (if t369 = true then ((flatpack_Proves.f a0 a1 l2 a3 l4).bind fun t370 => (if t370 = true then ((flatpack_Best.f a0 a1 l2 a3).bind fun bt371 => (if bt371.2 = 0 then (if (l4.length : Int) = (wrap64 (a0 + 1)) then (if 0 ≤ a0 then (if a0 < (l4.length : Int) then (if ((rd_L5 l4 a0).length : Int) = (wrap64 (a1 + 1)) then (if 0 ≤ a1 then (if a1 < ((rd_L5 l4 a0).length : Int) then (some (decide ((rd (rd_L5 l4 a0) a1) ≥ bt371.1))) else (none)) else (none)) else (none)) else (none)) else (none)) else (none)) else (none))) else (some true))) else (some true)) = some r := H
      have A10 := Aside0.mk A100
      clear A100
      by_cases c11 : t369 = true
      · subst c11
        have H1 : ((flatpack_Proves.f a0 a1 l2 a3 l4).bind fun t370 => (if t370 = true then ((flatpack_Best.f a0 a1 l2 a3).bind fun bt371 => (if bt371.2 = 0 then (if (l4.length : Int) = (wrap64 (a0 + 1)) then (if 0 ≤ a0 then (if a0 < (l4.length : Int) then (if ((rd_L5 l4 a0).length : Int) = (wrap64 (a1 + 1)) then (if 0 ≤ a1 then (if a1 < ((rd_L5 l4 a0).length : Int) then (some (decide ((rd (rd_L5 l4 a0) a1) ≥ bt371.1))) else (none)) else (none)) else (none)) else (none)) else (none)) else (none)) else (none))) else (some true))) = some r := by rw [if_pos rfl] at H; exact H
        clear H
        have H := H1
        clear H1
        replace H := Option.bind_eq_some_iff.mp H
        obtain ⟨t370, A120, H⟩ := H
        replace H : (if t370 = true then ((flatpack_Best.f a0 a1 l2 a3).bind fun bt371 => (if bt371.2 = 0 then (if (l4.length : Int) = (wrap64 (a0 + 1)) then (if 0 ≤ a0 then (if a0 < (l4.length : Int) then (if ((rd_L5 l4 a0).length : Int) = (wrap64 (a1 + 1)) then (if 0 ≤ a1 then (if a1 < ((rd_L5 l4 a0).length : Int) then (some (decide ((rd (rd_L5 l4 a0) a1) ≥ bt371.1))) else (none)) else (none)) else (none)) else (none)) else (none)) else (none)) else (none))) else (some true)) = some r := H
        have A12 := Aside0.mk A120
        clear A120
        by_cases c13 : t370 = true
        · subst c13
          have H1 : ((flatpack_Best.f a0 a1 l2 a3).bind fun bt371 => (if bt371.2 = 0 then (if (l4.length : Int) = (wrap64 (a0 + 1)) then (if 0 ≤ a0 then (if a0 < (l4.length : Int) then (if ((rd_L5 l4 a0).length : Int) = (wrap64 (a1 + 1)) then (if 0 ≤ a1 then (if a1 < ((rd_L5 l4 a0).length : Int) then (some (decide ((rd (rd_L5 l4 a0) a1) ≥ bt371.1))) else (none)) else (none)) else (none)) else (none)) else (none)) else (none)) else (none))) = some r := by rw [if_pos rfl] at H; exact H
          clear H
          have H := H1
          clear H1
          replace H := Option.bind_eq_some_iff.mp H
          obtain ⟨⟨t371, t372⟩, A140, H⟩ := H
          replace H : (if t372 = 0 then (if (l4.length : Int) = (wrap64 (a0 + 1)) then (if 0 ≤ a0 then (if a0 < (l4.length : Int) then (if ((rd_L5 l4 a0).length : Int) = (wrap64 (a1 + 1)) then (if 0 ≤ a1 then (if a1 < ((rd_L5 l4 a0).length : Int) then (some (decide ((rd (rd_L5 l4 a0) a1) ≥ t371))) else (none)) else (none)) else (none)) else (none)) else (none)) else (none)) else (none)) = some r := H
          have A14 := Aside0.mk A140
          clear A140
          by_cases c15 : t372 = 0
          · rw [if_pos c15] at H
            have c15b0 : (t372 == 0) = true := beq_iff_eq.mpr c15
            have c15b1 : (t372 != 0) = false := bne_eq_false_iff_eq.mpr c15
            clear c15
            by_cases c16 : (l4.length : Int) = (wrap64 (a0 + 1))
            · rw [if_pos c16] at H
              have c16b0 : ((l4.length : Int) == (wrap64 (a0 + 1))) = true := beq_iff_eq.mpr c16
              have c16b1 : ((l4.length : Int) != (wrap64 (a0 + 1))) = false := bne_eq_false_iff_eq.mpr c16
              clear c16
              by_cases c17 : 0 ≤ a0
              · rw [if_pos c17] at H
                have c17b0 : decide (0 ≤ a0) = true := decide_eq_true c17
                clear c17
                by_cases c18 : a0 < (l4.length : Int)
                · rw [if_pos c18] at H
                  have c18b0 : decide (a0 < (l4.length : Int)) = true := decide_eq_true c18
                  clear c18
                  by_cases c19 : ((rd_L5 l4 a0).length : Int) = (wrap64 (a1 + 1))
                  · rw [if_pos c19] at H
                    have c19b0 : (((rd_L5 l4 a0).length : Int) == (wrap64 (a1 + 1))) = true := beq_iff_eq.mpr c19
                    have c19b1 : (((rd_L5 l4 a0).length : Int) != (wrap64 (a1 + 1))) = false := bne_eq_false_iff_eq.mpr c19
                    clear c19
                    by_cases c20 : 0 ≤ a1
                    · rw [if_pos c20] at H
                      have c20b0 : decide (0 ≤ a1) = true := decide_eq_true c20
                      clear c20
                      by_cases c21 : a1 < ((rd_L5 l4 a0).length : Int)
                      · rw [if_pos c21] at H
                        have c21b0 : decide (a1 < ((rd_L5 l4 a0).length : Int)) = true := decide_eq_true c21
                        clear c21
                        obtain rfl := Option.some.inj H
                        go_enter Try.func7, Try.ntmps7
                        go_wp2_with (first | ((with_reducible refine gate_callee (f := 11) rfl ?_); refine goesL_ (some 13) rfl rfl Try.func11 (by kernel_rfl) rfl #[] rfl (by (try simp only [List.map_toArray, List.map_cons, List.map_nil]); first | done | rfl | (simp only [List.length_drop, List.length_take]; rfl)) ?_; (with_reducible refine (gangsawlaw25_awake.calls k  true _ A6.out).mono ?_); rintro e w22 ⟨rfl, hb⟩; refine ⟨_, rfl, ?_⟩; have n0_ := Aside0.mk (below_step (by repeat (first | (with_reducible first | exact HB.out | apply below_alloc | apply pw_below_drewN | apply below_drew1) | exact HB.out)) hb); clear HB; have HB := n0_; clear n0_; (try clear hb); (try clear hb2); (try clear hk); (try clear hi)) | ((with_reducible refine gate_callee (f := 12) rfl ?_); refine goesL_ (some 18) rfl rfl Try.func12 (by kernel_rfl) rfl #[.int .i64 a0, .int .i64 a1, .slice A2 l2.length c2] rfl (by (try simp only [List.map_toArray, List.map_cons, List.map_nil]); first | done | rfl | (simp only [List.length_drop, List.length_take]; rfl)) ?_; (with_reducible refine (gangsawref25_Small.calls k a0 a1 _ _ l2 true _ ?side1 ?side2 A8.out).mono ?_); (case side1 => repeat (first | exact (Kd.C_below HR2.out HB.out) | (with_reducible refine Kd.C_alloc ?_ _) | (with_reducible refine Kd.C_drewN ?_ _) | (with_reducible refine Kd.C_drew ?_))); (case side2 => exact HC2.out); rintro e w' ⟨rfl, ⟨nd, rfl⟩⟩; refine ⟨_, rfl, ?_⟩) | (go_at_call 24; (with_reducible refine (gangsawref25_Few.calls k _ _ l4 true _ ?side1 ?side2 A10.out).mono ?_); (case side1 => repeat (first | exact (Kd.C_below HR4.out (by repeat (first | (with_reducible first | exact HB.out | apply below_alloc | apply pw_below_drewN | apply below_drew1) | exact HB.out))) | (with_reducible refine Kd.C_alloc ?_ _) | (with_reducible refine Kd.C_drewN ?_ _) | (with_reducible refine Kd.C_drew ?_))); (case side2 => exact HC4.out); rintro e w' ⟨rfl, ⟨nd, rfl⟩⟩) | (go_at_call 25; (with_reducible refine (flatpack_Proves.calls a0 a1 _ _ l2 a3 _ _ l4 true _ ?side1 ?side2 ?side3 ?side4 A12.out).mono ?_); (case side1 => repeat (first | exact (Kd.C_below HR2.out (by repeat (first | (with_reducible first | exact HB.out | apply below_alloc | apply pw_below_drewN | apply below_drew1) | exact HB.out))) | (with_reducible refine Kd.C_alloc ?_ _) | (with_reducible refine Kd.C_drewN ?_ _) | (with_reducible refine Kd.C_drew ?_))); (case side2 => exact HC2.out); (case side3 => repeat (first | exact (Kd.C_below HR4.out (by repeat (first | (with_reducible first | exact HB.out | apply below_alloc | apply pw_below_drewN | apply below_drew1) | exact HB.out))) | (with_reducible refine Kd.C_alloc ?_ _) | (with_reducible refine Kd.C_drewN ?_ _) | (with_reducible refine Kd.C_drew ?_))); (case side4 => exact HC4.out); rintro e w23 ⟨rfl, hb⟩; have n0_ := Aside0.mk (below_step (by repeat (first | (with_reducible first | exact HB.out | apply below_alloc | apply pw_below_drewN | apply below_drew1) | exact HB.out)) hb); clear HB; have HB := n0_; clear n0_; (try clear hb); (try clear hb2); (try clear hk); (try clear hi)) | ((with_reducible refine gate_callee (f := 17) rfl ?_); refine goesL_ (some 39) rfl rfl Try.func17 (by kernel_rfl) rfl #[.int .i64 a0, .int .i64 a1, .slice A2 l2.length c2, .int .i64 a3] rfl (by (try simp only [List.map_toArray, List.map_cons, List.map_nil]); first | done | rfl | (simp only [List.length_drop, List.length_take]; rfl)) ?_; (with_reducible refine (flatpack_Best.calls a0 a1 _ _ l2 a3 t371 t372 _ ?side1 ?side2 A14.out).mono ?_); (case side1 => repeat (first | exact (Kd.C_below HR2.out HB.out) | (with_reducible refine Kd.C_alloc ?_ _) | (with_reducible refine Kd.C_drewN ?_ _) | (with_reducible refine Kd.C_drew ?_))); (case side2 => exact HC2.out); rintro e w24 ⟨rfl, hb⟩; refine ⟨_, rfl, ?_⟩; have n0_ := Aside0.mk (below_step (by repeat (first | (with_reducible first | exact HB.out | apply below_alloc | apply pw_below_drewN | apply below_drew1) | exact HB.out)) hb); clear HB; have HB := n0_; clear n0_; (try clear hb); (try clear hb2); (try clear hk); (try clear hi); have p373 : 0 ≤ (a0 : Int) := of_decide_eq_true (by first | (with_reducible assumption) | assumption); have q373 : a0 < (l4.length : Int) := of_decide_eq_true (by first | (with_reducible assumption) | assumption); obtain ⟨ad373, A373_0, c373_0, e373, hx373_0, hl373_0, hi373_0⟩ := at_L5 HR4.out a0 p373 q373; cases e373; replace hx373_0 := (HB.out.cell (World.block_lt_of_cell? w _ hx373_0)).trans hx373_0; have HR373_0 := Aside0.mk hi373_0; have HC373_0 := Aside0.mk hl373_0; clear hi373_0 hl373_0; replace p373 := eq_true p373; replace q373 := eq_true q373; have p374 : 0 ≤ (a0 : Int) := of_decide_eq_true (by first | (with_reducible assumption) | assumption); have q374 : a0 < (l4.length : Int) := of_decide_eq_true (by first | (with_reducible assumption) | assumption); obtain ⟨ad374, A374_0, c374_0, e374, hx374_0, hl374_0, hi374_0⟩ := at_L5 HR4.out a0 p374 q374; obtain rfl : ad373 = ad374 := (by injection e374); replace hx374_0 := (HB.out.cell (World.block_lt_of_cell? w _ hx374_0)).trans hx374_0; have HR374_0 := Aside0.mk hi374_0; have HC374_0 := Aside0.mk hl374_0; clear hi374_0 hl374_0; replace p374 := eq_true p374; replace q374 := eq_true q374; have ea_ := Option.some.inj (hx373_0.symm.trans hx374_0); injection ea_ with ea_ en_ ec_; subst ea_; subst ec_; clear en_; have p375 : 0 ≤ (a1 : Int) := of_decide_eq_true (by first | (with_reducible assumption) | assumption); have q375 : a1 < ((rd_L5 l4 a0).length : Int) := of_decide_eq_true (by first | (with_reducible assumption) | assumption); obtain ⟨ad375, e375, hx375_0⟩ := Kd.at_int HR374_0.out a1 p375 q375; cases e375; replace hx375_0 := (HB.out.cell (World.block_lt_of_cell? w _ hx375_0)).trans hx375_0; replace p375 := eq_true p375; replace q375 := eq_true q375))
                        go_ret
                        exact ⟨by first | rfl | (simp [errW_none, errW_some] <;> rfl) | (simp [*, errW_none, errW_some] <;> rfl), by repeat (first | (with_reducible first | exact HB.out | apply below_alloc | apply pw_below_drewN | apply below_drew1) | exact HB.out)⟩
                      · rw [if_neg c21] at H
                        exact absurd H (by simp)
                    · rw [if_neg c20] at H
                      exact absurd H (by simp)
                  · rw [if_neg c19] at H
                    exact absurd H (by simp)
                · rw [if_neg c18] at H
                  exact absurd H (by simp)
              · rw [if_neg c17] at H
                exact absurd H (by simp)
            · rw [if_neg c16] at H
              exact absurd H (by simp)
          · rw [if_neg c15] at H
            exact absurd H (by simp)
        · replace c13 := Bool.eq_false_iff.mpr c13
          subst c13
          have H1 : (some true) = some r := by rw [if_neg (show ¬ (false = true) by decide)] at H; exact H
          clear H
          have H := H1
          clear H1
          obtain rfl := Option.some.inj H
          go_enter Try.func7, Try.ntmps7
          go_wp2_with (first | ((with_reducible refine gate_callee (f := 11) rfl ?_); refine goesL_ (some 13) rfl rfl Try.func11 (by kernel_rfl) rfl #[] rfl (by (try simp only [List.map_toArray, List.map_cons, List.map_nil]); first | done | rfl | (simp only [List.length_drop, List.length_take]; rfl)) ?_; (with_reducible refine (gangsawlaw25_awake.calls k  true _ A6.out).mono ?_); rintro e w25 ⟨rfl, hb⟩; refine ⟨_, rfl, ?_⟩; have n0_ := Aside0.mk (below_step (by repeat (first | (with_reducible first | exact HB.out | apply below_alloc | apply pw_below_drewN | apply below_drew1) | exact HB.out)) hb); clear HB; have HB := n0_; clear n0_; (try clear hb); (try clear hb2); (try clear hk); (try clear hi)) | ((with_reducible refine gate_callee (f := 12) rfl ?_); refine goesL_ (some 18) rfl rfl Try.func12 (by kernel_rfl) rfl #[.int .i64 a0, .int .i64 a1, .slice A2 l2.length c2] rfl (by (try simp only [List.map_toArray, List.map_cons, List.map_nil]); first | done | rfl | (simp only [List.length_drop, List.length_take]; rfl)) ?_; (with_reducible refine (gangsawref25_Small.calls k a0 a1 _ _ l2 true _ ?side1 ?side2 A8.out).mono ?_); (case side1 => repeat (first | exact (Kd.C_below HR2.out HB.out) | (with_reducible refine Kd.C_alloc ?_ _) | (with_reducible refine Kd.C_drewN ?_ _) | (with_reducible refine Kd.C_drew ?_))); (case side2 => exact HC2.out); rintro e w' ⟨rfl, ⟨nd, rfl⟩⟩; refine ⟨_, rfl, ?_⟩) | (go_at_call 24; (with_reducible refine (gangsawref25_Few.calls k _ _ l4 true _ ?side1 ?side2 A10.out).mono ?_); (case side1 => repeat (first | exact (Kd.C_below HR4.out (by repeat (first | (with_reducible first | exact HB.out | apply below_alloc | apply pw_below_drewN | apply below_drew1) | exact HB.out))) | (with_reducible refine Kd.C_alloc ?_ _) | (with_reducible refine Kd.C_drewN ?_ _) | (with_reducible refine Kd.C_drew ?_))); (case side2 => exact HC4.out); rintro e w' ⟨rfl, ⟨nd, rfl⟩⟩) | (go_at_call 25; (with_reducible refine (flatpack_Proves.calls a0 a1 _ _ l2 a3 _ _ l4 false _ ?side1 ?side2 ?side3 ?side4 A12.out).mono ?_); (case side1 => repeat (first | exact (Kd.C_below HR2.out (by repeat (first | (with_reducible first | exact HB.out | apply below_alloc | apply pw_below_drewN | apply below_drew1) | exact HB.out))) | (with_reducible refine Kd.C_alloc ?_ _) | (with_reducible refine Kd.C_drewN ?_ _) | (with_reducible refine Kd.C_drew ?_))); (case side2 => exact HC2.out); (case side3 => repeat (first | exact (Kd.C_below HR4.out (by repeat (first | (with_reducible first | exact HB.out | apply below_alloc | apply pw_below_drewN | apply below_drew1) | exact HB.out))) | (with_reducible refine Kd.C_alloc ?_ _) | (with_reducible refine Kd.C_drewN ?_ _) | (with_reducible refine Kd.C_drew ?_))); (case side4 => exact HC4.out); rintro e w26 ⟨rfl, hb⟩; have n0_ := Aside0.mk (below_step (by repeat (first | (with_reducible first | exact HB.out | apply below_alloc | apply pw_below_drewN | apply below_drew1) | exact HB.out)) hb); clear HB; have HB := n0_; clear n0_; (try clear hb); (try clear hb2); (try clear hk); (try clear hi)))
          go_ret
          exact ⟨by first | rfl | (simp [errW_none, errW_some] <;> rfl) | (simp [*, errW_none, errW_some] <;> rfl), by repeat (first | (with_reducible first | exact HB.out | apply below_alloc | apply pw_below_drewN | apply below_drew1) | exact HB.out)⟩
      · replace c11 := Bool.eq_false_iff.mpr c11
        subst c11
        have H1 : (some true) = some r := by rw [if_neg (show ¬ (false = true) by decide)] at H; exact H
        clear H
        have H := H1
        clear H1
        obtain rfl := Option.some.inj H
        go_enter Try.func7, Try.ntmps7
        go_wp2_with (first | ((with_reducible refine gate_callee (f := 11) rfl ?_); refine goesL_ (some 13) rfl rfl Try.func11 (by kernel_rfl) rfl #[] rfl (by (try simp only [List.map_toArray, List.map_cons, List.map_nil]); first | done | rfl | (simp only [List.length_drop, List.length_take]; rfl)) ?_; (with_reducible refine (gangsawlaw25_awake.calls k  true _ A6.out).mono ?_); rintro e w27 ⟨rfl, hb⟩; refine ⟨_, rfl, ?_⟩; have n0_ := Aside0.mk (below_step (by repeat (first | (with_reducible first | exact HB.out | apply below_alloc | apply pw_below_drewN | apply below_drew1) | exact HB.out)) hb); clear HB; have HB := n0_; clear n0_; (try clear hb); (try clear hb2); (try clear hk); (try clear hi)) | ((with_reducible refine gate_callee (f := 12) rfl ?_); refine goesL_ (some 18) rfl rfl Try.func12 (by kernel_rfl) rfl #[.int .i64 a0, .int .i64 a1, .slice A2 l2.length c2] rfl (by (try simp only [List.map_toArray, List.map_cons, List.map_nil]); first | done | rfl | (simp only [List.length_drop, List.length_take]; rfl)) ?_; (with_reducible refine (gangsawref25_Small.calls k a0 a1 _ _ l2 true _ ?side1 ?side2 A8.out).mono ?_); (case side1 => repeat (first | exact (Kd.C_below HR2.out HB.out) | (with_reducible refine Kd.C_alloc ?_ _) | (with_reducible refine Kd.C_drewN ?_ _) | (with_reducible refine Kd.C_drew ?_))); (case side2 => exact HC2.out); rintro e w' ⟨rfl, ⟨nd, rfl⟩⟩; refine ⟨_, rfl, ?_⟩) | (go_at_call 24; (with_reducible refine (gangsawref25_Few.calls k _ _ l4 false _ ?side1 ?side2 A10.out).mono ?_); (case side1 => repeat (first | exact (Kd.C_below HR4.out (by repeat (first | (with_reducible first | exact HB.out | apply below_alloc | apply pw_below_drewN | apply below_drew1) | exact HB.out))) | (with_reducible refine Kd.C_alloc ?_ _) | (with_reducible refine Kd.C_drewN ?_ _) | (with_reducible refine Kd.C_drew ?_))); (case side2 => exact HC4.out); rintro e w' ⟨rfl, ⟨nd, rfl⟩⟩))
        go_ret
        exact ⟨by first | rfl | (simp [errW_none, errW_some] <;> rfl) | (simp [*, errW_none, errW_some] <;> rfl), by repeat (first | (with_reducible first | exact HB.out | apply below_alloc | apply pw_below_drewN | apply below_drew1) | exact HB.out)⟩
    · replace c9 := Bool.eq_false_iff.mpr c9
      subst c9
      have H1 : (some true) = some r := by rw [if_neg (show ¬ (false = true) by decide)] at H; exact H
      clear H
      have H := H1
      clear H1
      obtain rfl := Option.some.inj H
      go_enter Try.func7, Try.ntmps7
      go_wp2_with (first | ((with_reducible refine gate_callee (f := 11) rfl ?_); refine goesL_ (some 13) rfl rfl Try.func11 (by kernel_rfl) rfl #[] rfl (by (try simp only [List.map_toArray, List.map_cons, List.map_nil]); first | done | rfl | (simp only [List.length_drop, List.length_take]; rfl)) ?_; (with_reducible refine (gangsawlaw25_awake.calls k  true _ A6.out).mono ?_); rintro e w28 ⟨rfl, hb⟩; refine ⟨_, rfl, ?_⟩; have n0_ := Aside0.mk (below_step (by repeat (first | (with_reducible first | exact HB.out | apply below_alloc | apply pw_below_drewN | apply below_drew1) | exact HB.out)) hb); clear HB; have HB := n0_; clear n0_; (try clear hb); (try clear hb2); (try clear hk); (try clear hi)) | ((with_reducible refine gate_callee (f := 12) rfl ?_); refine goesL_ (some 18) rfl rfl Try.func12 (by kernel_rfl) rfl #[.int .i64 a0, .int .i64 a1, .slice A2 l2.length c2] rfl (by (try simp only [List.map_toArray, List.map_cons, List.map_nil]); first | done | rfl | (simp only [List.length_drop, List.length_take]; rfl)) ?_; (with_reducible refine (gangsawref25_Small.calls k a0 a1 _ _ l2 false _ ?side1 ?side2 A8.out).mono ?_); (case side1 => repeat (first | exact (Kd.C_below HR2.out HB.out) | (with_reducible refine Kd.C_alloc ?_ _) | (with_reducible refine Kd.C_drewN ?_ _) | (with_reducible refine Kd.C_drew ?_))); (case side2 => exact HC2.out); rintro e w' ⟨rfl, ⟨nd, rfl⟩⟩; refine ⟨_, rfl, ?_⟩))
      go_ret
      exact ⟨by first | rfl | (simp [errW_none, errW_some] <;> rfl) | (simp [*, errW_none, errW_some] <;> rfl), by repeat (first | (with_reducible first | exact HB.out | apply below_alloc | apply pw_below_drewN | apply below_drew1) | exact HB.out)⟩
  · replace c7 := Bool.eq_false_iff.mpr c7
    subst c7
    have H1 : (none) = some r := by rw [if_neg (show ¬ (false = true) by decide)] at H; exact H
    clear H
    have H := H1
    clear H1
    exact absurd H (by simp)
end
end Go.Proofs.Ytdnjagfbhppmbaa.PA
