import Derived.Test.YtdnjagfbhppmbaaPAx14
namespace Go.Proofs.Ytdnjagfbhppmbaa.PA
open Go.RowKit Go.Proofs.YtdnjagfbhppmbaaW.PrintWords Go.Proofs.YtdnjagfbhppmbaaW.PrintLast Go.Proofs.YtdnjagfbhppmbaaW.PrintMore
attribute [local go_sem] max2_int min2_int max_two min_two max_three min_three max_four min_four
set_option linter.unusedVariables false
set_option linter.unusedSimpArgs false
def gangsawref24_parts.l0 : Nat → List (S59) → List Int → Int → Option (List Int)
 | 0, _, _, _ => none
 | k + 1, x0, x3, x4 => if x4 < (x0.length : Int) then (if 0 ≤ x4 then (if ((rd_T59 x0 x4).f0) = 3 then (if 0 ≤ ((rd_T59 x0 x4).f5) then (if ((rd_T59 x0 x4).f5) < (x3.length : Int) then ((some (x3.set (((rd_T59 x0 x4).f5) : Int).toNat (wrap64 ((rd x3 ((rd_T59 x0 x4).f5)) + 1)) : List Int)).bind fun y403 => (if 0 ≤ ((rd_T59 x0 x4).f6) then (if ((rd_T59 x0 x4).f6) < (x3.length : Int) then (gangsawref24_parts.l0 k x0 (y403.set (((rd_T59 x0 x4).f6) : Int).toNat (wrap64 ((rd y403 ((rd_T59 x0 x4).f6)) + 1))) (wrap64 (x4 + 1))) else (none)) else (none))) else (none)) else (none)) else (gangsawref24_parts.l0 k x0 x3 (wrap64 (x4 + 1)))) else (none)) else (some x3)
def gangsawref24_parts.f (k : Nat) (l0 : List (S59)) : Option (List Int) := if 0 ≤ (l0.length : Int) then (if ((l0.length : Int) : Int).toNat ≤ 35184372088832 then (gangsawref24_parts.l0 k l0 (List.replicate ((l0.length : Int) : Int).toNat 0) 0) else (none)) else (none)
set_option maxHeartbeats 8000000 in
set_option maxRecDepth 100000 in
theorem gangsawref24_parts.calls (k : Nat) (A0 : Option Addr) (c0 : Nat) (l0 : List (S59)) (r : List Int) (w : World) (hr0 : Kd.C k59 w A0 l0.length l0) (hc0 : l0.length ≤ c0) (h : gangsawref24_parts.f k l0 = some r) :
  Calls Try.prog 76 #[.slice A0 l0.length c0] w fun e w' => ∃ v0_ : Value, e = .returned (v0_) ∧ Kd.R (Kd.int .i64) 3 w' w.heap.size (fun _ => True) v0_ r ∧ Below w.heap.size w w' := by
 have HR0 := am hr0;have HC0 := am hc0;clear hr0 hc0;have HB := am (Below.refl w.heap.size w);have H : (if 0 ≤ (l0.length : Int) then (if ((l0.length : Int) : Int).toNat ≤ 35184372088832 then (gangsawref24_parts.l0 k l0 (List.replicate ((l0.length : Int) : Int).toNat 0) 0) else (none)) else (none)) = some r := h;clear h;by_cases c2 : 0 ≤ (l0.length : Int)
 ·rw [if_pos c2] at H;have c2b0 := eq_true c2;have c2b1 : decide (0 ≤ (l0.length : Int)) = true := decide_eq_true c2;clear c2;by_cases c3 : ((l0.length : Int) : Int).toNat ≤ 35184372088832
  ·rw [if_pos c3] at H;have c3b0 := eq_true c3;have c3b1 : decide (((l0.length : Int) : Int).toNat ≤ 35184372088832) = true := decide_eq_true c3;clear c3
   obtain ⟨y397, hy397⟩ : ∃ y_ : List Int, y_ = (List.replicate ((l0.length : Int) : Int).toNat 0) := ⟨_, rfl⟩
   replace H : (gangsawref24_parts.l0 k l0 y397 0) = some r := by first | (rw [hy397]; with_reducible exact H) | (have H2_ := (Option.bind_some _ _).symm.trans H; rw [hy397]; with_reducible exact H2_) | (have H2_ := (Option.bind_some _ _).symm.trans H; with_reducible exact H2_) | with_reducible exact H | (rw [hy397]; exact H) | exact H
   have Ny397 := am hy397;clear hy397;have H' := am H;clear H
   go_enter Try.func76, Try.ntmps76
   go_wp2_with (first | ((with_reducible refine gate_dst (N := 7) rfl ?_); refine Kd.R_make (Kd.int .i64) _ 3 rfl (N := 7) rfl 98 _ _ rfl (l0.length : Int) rfl rfl Try.underlying98 (.int .i64 0) 8 info3 rfl (by decide) (by omega) 0 (ok := fun _ => True) (okp := fun _ => True) rfl (fun _ hk => hk) trivial (of_decide_eq_true (by first | (with_reducible assumption) | assumption)) (Nat.le_trans (Nat.mul_le_mul_right _ (of_decide_eq_true (by first | (with_reducible assumption) | assumption) : (l0.length : Int).toNat ≤ 35184372088832)) (by omega)) (Below.refl _ _) (Nat.le_refl _) ?_; intro v398 w4 ho5 hb hg_ hnew_; clear hg_ hnew_; (first | rw [← Ny397.out] at ho5 | (simp only [Int.reduceToNat] at ho5; rw [← Ny397.out] at ho5)); have HO399 := am (Kd.R_lower ho5 (below_size (by repeat (first|(with_reducible first|exact HB.out|apply lA|apply lN|apply lD)|exact HB.out)))); replace HB := bsa HB hb; clear hb ho5))
   go_loopg [4] k (fun kq v4 w' => ∃ (x3_1 : List Int) (x4_1 : Int), v4 = .int .i64 x4_1 ∧ Aside0 (gangsawref24_parts.l0 kq l0 x3_1 x4_1 = some r) ∧ Aside0 (kq ≤ k) ∧ Aside0 (Kd.R (Kd.int .i64) 3 w' w.heap.size (fun _ => True) v398 x3_1) ∧ Aside0 (Below w.heap.size w w'))
   case atStart => exact ⟨(y397), (0), (by first | rfl | (simp; done) | (simp [*]; done)), H', ⟨Nat.le_refl _⟩, ⟨rq HO399.out⟩, ⟨by repeat (first|(with_reducible first|exact HB.out|apply lA|apply lN|apply lD)|exact HB.out)⟩⟩
   case round =>
    clear H'
    try clear c2
    try clear c2b0
    try clear c2b1
    try clear p2
    try clear c3
    try clear c3b0
    try clear c3b1
    obtain ⟨x3_1, x4_1, rfl, HA, HK1, HO_3, HB⟩ := hrel
    cases gk with
    | zero => exact absurd HA.out (by simp [gangsawref24_parts.l0])
    | succ k1 =>
     have H := HA.out;clear HA;simp only [gangsawref24_parts.l0] at H;by_cases c6 : x4_1 < (l0.length : Int)
     ·rw [if_pos c6] at H;have c6b0 : decide (x4_1 < (l0.length : Int)) = true := decide_eq_true c6;clear c6;by_cases c7 : 0 ≤ x4_1
      ·rw [if_pos c7] at H;have c7b0 : decide (0 ≤ x4_1) = true := decide_eq_true c7;clear c7;by_cases c8 : ((rd_T59 l0 x4_1).f0) = 3
       ·rw [if_pos c8] at H;have c8b0 : (((rd_T59 l0 x4_1).f0) == 3) = true := beq_iff_eq.mpr c8;have c8b1 : (((rd_T59 l0 x4_1).f0) != 3) = false := bne_eq_false_iff_eq.mpr c8;clear c8;by_cases c9 : 0 ≤ ((rd_T59 l0 x4_1).f5)
        ·rw [if_pos c9] at H;have c9b0 : decide (0 ≤ ((rd_T59 l0 x4_1).f5)) = true := decide_eq_true c9;clear c9;by_cases c10 : ((rd_T59 l0 x4_1).f5) < (x3_1.length : Int)
         ·rw [if_pos c10] at H;have c10b0 : decide (((rd_T59 l0 x4_1).f5) < (x3_1.length : Int)) = true := decide_eq_true c10;clear c10
          obtain ⟨y403, hy403⟩ : ∃ y_ : List Int, y_ = (x3_1.set (((rd_T59 l0 x4_1).f5) : Int).toNat (wrap64 ((rd x3_1 ((rd_T59 l0 x4_1).f5)) + 1))) := ⟨_, rfl⟩
          replace H : (if 0 ≤ ((rd_T59 l0 x4_1).f6) then (if ((rd_T59 l0 x4_1).f6) < (x3_1.length : Int) then (gangsawref24_parts.l0 k1 l0 (y403.set (((rd_T59 l0 x4_1).f6) : Int).toNat (wrap64 ((rd y403 ((rd_T59 l0 x4_1).f6)) + 1))) (wrap64 (x4_1 + 1))) else (none)) else (none)) = some r := by first | (rw [hy403]; with_reducible exact H) | (have H2_ := (Option.bind_some _ _).symm.trans H; rw [hy403]; with_reducible exact H2_) | (have H2_ := (Option.bind_some _ _).symm.trans H; with_reducible exact H2_) | with_reducible exact H | (rw [hy403]; exact H) | exact H
          have Ny403 := am hy403;clear hy403;by_cases c12 : 0 ≤ ((rd_T59 l0 x4_1).f6)
          ·rw [if_pos c12] at H;have c12b0 : decide (0 ≤ ((rd_T59 l0 x4_1).f6)) = true := decide_eq_true c12;clear c12;by_cases c13 : ((rd_T59 l0 x4_1).f6) < (x3_1.length : Int)
           ·rw [if_pos c13] at H;have c13b0 : decide (((rd_T59 l0 x4_1).f6) < (x3_1.length : Int)) = true := decide_eq_true c13;clear c13
            obtain ⟨y406, hy406⟩ : ∃ y_ : List Int, y_ = (y403.set (((rd_T59 l0 x4_1).f6) : Int).toNat (wrap64 ((rd y403 ((rd_T59 l0 x4_1).f6)) + 1))) := ⟨_, rfl⟩
            replace H : (gangsawref24_parts.l0 k1 l0 y406 (wrap64 (x4_1 + 1))) = some r := by first | (rw [hy406]; with_reducible exact H) | (have H2_ := (Option.bind_some _ _).symm.trans H; rw [hy406]; with_reducible exact H2_) | (have H2_ := (Option.bind_some _ _).symm.trans H; with_reducible exact H2_) | with_reducible exact H | (rw [hy406]; exact H) | exact H
            have Ny406 := am hy406;clear hy406;have H' := am H;clear H;have p400 : 0 ≤ (x4_1 : Int) := of_decide_eq_true (by first | (with_reducible assumption) | assumption);have q400 : x4_1 < (l0.length : Int) := of_decide_eq_true (by first | (with_reducible assumption) | assumption);obtain ⟨ad400, e400, hx400_0, hx400_1, hx400_2, hx400_3, hx400_4, hx400_5, hx400_6⟩ := at_T59 HR0.out x4_1 p400 q400
            cases e400
            replace hx400_0 := (HB.out.cell (World.block_lt_of_cell? w _ hx400_0)).trans hx400_0;replace hx400_1 := (HB.out.cell (World.block_lt_of_cell? w _ hx400_1)).trans hx400_1;replace hx400_2 := (HB.out.cell (World.block_lt_of_cell? w _ hx400_2)).trans hx400_2;replace hx400_3 := (HB.out.cell (World.block_lt_of_cell? w _ hx400_3)).trans hx400_3;replace hx400_4 := (HB.out.cell (World.block_lt_of_cell? w _ hx400_4)).trans hx400_4;replace hx400_5 := (HB.out.cell (World.block_lt_of_cell? w _ hx400_5)).trans hx400_5;replace hx400_6 := (HB.out.cell (World.block_lt_of_cell? w _ hx400_6)).trans hx400_6;replace p400 := eq_true p400;replace q400 := eq_true q400;have p401 : 0 ≤ (x4_1 : Int) := of_decide_eq_true (by first | (with_reducible assumption) | assumption);have q401 : x4_1 < (l0.length : Int) := of_decide_eq_true (by first | (with_reducible assumption) | assumption);obtain ⟨ad401, e401, hx401_0, hx401_1, hx401_2, hx401_3, hx401_4, hx401_5, hx401_6⟩ := at_T59 HR0.out x4_1 p401 q401
            obtain rfl : ad400 = ad401 := (by injection e401)
            replace hx401_0 := (HB.out.cell (World.block_lt_of_cell? w _ hx401_0)).trans hx401_0;replace hx401_1 := (HB.out.cell (World.block_lt_of_cell? w _ hx401_1)).trans hx401_1;replace hx401_2 := (HB.out.cell (World.block_lt_of_cell? w _ hx401_2)).trans hx401_2;replace hx401_3 := (HB.out.cell (World.block_lt_of_cell? w _ hx401_3)).trans hx401_3;replace hx401_4 := (HB.out.cell (World.block_lt_of_cell? w _ hx401_4)).trans hx401_4;replace hx401_5 := (HB.out.cell (World.block_lt_of_cell? w _ hx401_5)).trans hx401_5;replace hx401_6 := (HB.out.cell (World.block_lt_of_cell? w _ hx401_6)).trans hx401_6;replace p401 := eq_true p401;replace q401 := eq_true q401;obtain ⟨Ao15, co15, eo15⟩ := Kd.R_slice HO_3.out;subst eo15;have p402 : 0 ≤ (((rd_T59 l0 x4_1).f5) : Int) := of_decide_eq_true (by first | (with_reducible assumption) | assumption);have q402 : ((rd_T59 l0 x4_1).f5) < (x3_1.length : Int) := of_decide_eq_true (by first | (with_reducible assumption) | assumption);obtain ⟨ad402, e402, hx402_0⟩ := Kd.at_int (Kd.R_reads' HO_3.out).2.2 ((rd_T59 l0 x4_1).f5) p402 q402
            cases e402
            replace p402 := eq_true p402;replace q402 := eq_true q402;have p11 : 0 ≤ (((rd_T59 l0 x4_1).f5) : Int) := of_decide_eq_true (by first | (with_reducible assumption) | assumption);have q11 : (((rd_T59 l0 x4_1).f5) : Int) < ((x3_1.length : Int) : Int) := of_decide_eq_true (by first | (with_reducible assumption) | assumption);obtain ⟨go11, co11, eo11, gb11, gl11, cl11, HG11⟩ := Kd.R_form HO_3.out (by omega);(first | cases eo11 | (injection eo11 with ea_ en_ ec_; (first | subst ea_ | (injection ea_ with ea_; subst ea_)); subst ec_; clear en_));have GB11 := am gb11;have GG11 := am HG11;clear gb11 gl11 HG11;(first | simp only [add_plain] at hx402_0 | skip);obtain ⟨hx11_0, hf11_0⟩ := Kd.R_celln 0 HO_3.out (((rd_T59 l0 x4_1).f5) : Int) p11 q11;replace p11 := eq_true p11;replace q11 := eq_true q11;have HP16 := Kd.R_putg HO_3.out (((rd_T59 l0 x4_1).f5) : Int) (wrap64 ((rd x3_1 ((rd_T59 l0 x4_1).f5)) + 1))
            go_wp2_with (first | ((with_reducible refine gate_store (t := 3) (p := 29) rfl ?_); refine store_event (t := 3) (p := 29) (v := ?vo_w17) (w1 := (wr.setCell ⟨go11, (((rd_T59 l0 x4_1).f5) : Int).toNat, none⟩ (.int .i64 (wrap64 ((rd x3_1 ((rd_T59 l0 x4_1).f5)) + 1))))) ?hg ?ho ?hn ?hr ?_; (case ho => rfl); (case hg => rfl); (case hn => rfl); (case hr => first | (go_simp; done) | (go_simp; rfl)); intro w17 hw; have hg : wr.grownBy w17 (some go11) := (by rw [hw]; exact HP16.2); have hp_ : Kd.R (Kd.int .i64) 3 w17 w.heap.size (fun _ => True) (.slice (some ⟨go11, 0, none⟩) x3_1.length co15) y403 := (by rw [hw, Ny403.out]; exact HP16.1); clear HP16; replace HO_3 := am hp_; replace HB := am ((by rw [hw]; exact below_set (HB.out) GB11.out : Below w.heap.size w w17)); clear hg hw hp_; have p404 : 0 ≤ (x4_1 : Int) := of_decide_eq_true (by first | (with_reducible assumption) | assumption); have q404 : x4_1 < (l0.length : Int) := of_decide_eq_true (by first | (with_reducible assumption) | assumption); obtain ⟨ad404, e404, hx404_0, hx404_1, hx404_2, hx404_3, hx404_4, hx404_5, hx404_6⟩ := at_T59 HR0.out x4_1 p404 q404; obtain rfl : ad400 = ad404 := (by injection e404); replace hx404_0 := (HB.out.cell (World.block_lt_of_cell? w _ hx404_0)).trans hx404_0; replace hx404_1 := (HB.out.cell (World.block_lt_of_cell? w _ hx404_1)).trans hx404_1; replace hx404_2 := (HB.out.cell (World.block_lt_of_cell? w _ hx404_2)).trans hx404_2; replace hx404_3 := (HB.out.cell (World.block_lt_of_cell? w _ hx404_3)).trans hx404_3; replace hx404_4 := (HB.out.cell (World.block_lt_of_cell? w _ hx404_4)).trans hx404_4; replace hx404_5 := (HB.out.cell (World.block_lt_of_cell? w _ hx404_5)).trans hx404_5; replace hx404_6 := (HB.out.cell (World.block_lt_of_cell? w _ hx404_6)).trans hx404_6; replace p404 := eq_true p404; replace q404 := eq_true q404; have p405 : 0 ≤ (((rd_T59 l0 x4_1).f6) : Int) := of_decide_eq_true (by first | (with_reducible assumption) | assumption); have q405 : ((rd_T59 l0 x4_1).f6) < (y403.length : Int) := (by have h_ : (((rd_T59 l0 x4_1).f6) : Int) < ((x3_1.length : Int) : Int) := of_decide_eq_true (by first | (with_reducible assumption) | assumption); first | (have e_ := (Kd.R_reads' HO_3.out).1; omega) | simpa only [Ny403.out, List.length_set] using h_); have ql405 : ((((rd_T59 l0 x4_1).f6) : Int) < ((x3_1.length : Int) : Int)) = True := eq_true (of_decide_eq_true (by first | (with_reducible assumption) | assumption)); obtain ⟨ad405, e405, hx405_0⟩ := Kd.at_int (Kd.R_reads' HO_3.out).2.2 ((rd_T59 l0 x4_1).f6) p405 q405; obtain rfl : (⟨go11, 0, none⟩ : Addr) = ad405 := (by injection e405); (first | simp only [add_plain] at hx405_0 | simp only [add_at] at hx405_0 | simp only [Addr.add, Nat.zero_add] at hx405_0 | skip); replace p405 := eq_true p405; replace q405 := eq_true q405; have p14 : 0 ≤ (((rd_T59 l0 x4_1).f6) : Int) := of_decide_eq_true (by first | (with_reducible assumption) | assumption); have q14 : (((rd_T59 l0 x4_1).f6) : Int) < ((x3_1.length : Int) : Int) := of_decide_eq_true (by first | (with_reducible assumption) | assumption); obtain ⟨hx14_0, hf14_0⟩ := Kd.R_celln 0 HO_3.out (((rd_T59 l0 x4_1).f6) : Int) p14 q14; replace p14 := eq_true p14; replace q14 := eq_true q14; obtain ⟨hy18_, hz18_⟩ := Kd.R_celln 0 HO_3.out (((rd_T59 l0 x4_1).f6) : Int) (of_decide_eq_true (by first | (with_reducible assumption) | assumption)) (of_decide_eq_true (by first | (with_reducible assumption) | assumption)); have HP18 := Kd.R_putg HO_3.out (((rd_T59 l0 x4_1).f6) : Int) (wrap64 ((rd y403 ((rd_T59 l0 x4_1).f6)) + 1))) | ((with_reducible refine gate_store (t := 3) (p := 39) rfl ?_); refine store_event (t := 3) (p := 39) (v := ?vo_w19) (w1 := (w17.setCell ⟨go11, (((rd_T59 l0 x4_1).f6) : Int).toNat, none⟩ (.int .i64 (wrap64 ((rd y403 ((rd_T59 l0 x4_1).f6)) + 1))))) ?hg ?ho ?hn ?hr ?_; (case ho => rfl); (case hg => rfl); (case hn => rfl); (case hr => first | (go_simp; done) | (go_simp; rfl)); intro w19 hw; have hg : w17.grownBy w19 (some go11) := (by rw [hw]; exact HP18.2); have hp_ : Kd.R (Kd.int .i64) 3 w19 w.heap.size (fun _ => True) (.slice (some ⟨go11, 0, none⟩) x3_1.length co15) y406 := (by rw [hw, Ny406.out]; exact HP18.1); clear HP18; replace HO_3 := am hp_; replace HB := am ((by rw [hw]; exact below_set (HB.out) GB11.out : Below w.heap.size w w19)); clear hg hw hp_))
            go_roundg k1
            case measure => have := HK1.out; omega
            case rel => exact ⟨(y406), (wrap64 (x4_1 + 1)), (by first | rfl | (simp; done) | (simp [*]; done)), H', ⟨by have := HK1.out; omega⟩, ⟨rq HO_3.out⟩, ⟨by repeat (first|(with_reducible first|exact HB.out|apply lA|apply lN|apply lD)|exact HB.out)⟩⟩
           (rw [if_neg c13] at H;exact absurd H (by simp))
          (rw [if_neg c12] at H;exact absurd H (by simp))
         (rw [if_neg c10] at H;exact absurd H (by simp))
        (rw [if_neg c9] at H;exact absurd H (by simp))
       ·rw [if_neg c8] at H;have c8b0 : (((rd_T59 l0 x4_1).f0) == 3) = false := beq_eq_false_iff_ne.mpr c8;have c8b1 : (((rd_T59 l0 x4_1).f0) != 3) = true := bne_iff_ne.mpr c8;have H' := am H;clear H;have p400 : 0 ≤ (x4_1 : Int) := of_decide_eq_true (by first | (with_reducible assumption) | assumption);have q400 : x4_1 < (l0.length : Int) := of_decide_eq_true (by first | (with_reducible assumption) | assumption);obtain ⟨ad400, e400, hx400_0, hx400_1, hx400_2, hx400_3, hx400_4, hx400_5, hx400_6⟩ := at_T59 HR0.out x4_1 p400 q400
        cases e400
        replace hx400_0 := (HB.out.cell (World.block_lt_of_cell? w _ hx400_0)).trans hx400_0;replace hx400_1 := (HB.out.cell (World.block_lt_of_cell? w _ hx400_1)).trans hx400_1;replace hx400_2 := (HB.out.cell (World.block_lt_of_cell? w _ hx400_2)).trans hx400_2;replace hx400_3 := (HB.out.cell (World.block_lt_of_cell? w _ hx400_3)).trans hx400_3;replace hx400_4 := (HB.out.cell (World.block_lt_of_cell? w _ hx400_4)).trans hx400_4;replace hx400_5 := (HB.out.cell (World.block_lt_of_cell? w _ hx400_5)).trans hx400_5;replace hx400_6 := (HB.out.cell (World.block_lt_of_cell? w _ hx400_6)).trans hx400_6;replace p400 := eq_true p400;replace q400 := eq_true q400
        go_wp2
        go_roundg k1
        case measure => have := HK1.out; omega
        case rel => exact ⟨(x3_1), (wrap64 (x4_1 + 1)), (by first | rfl | (simp; done) | (simp [*]; done)), H', ⟨by have := HK1.out; omega⟩, ⟨rq HO_3.out⟩, ⟨by repeat (first|(with_reducible first|exact HB.out|apply lA|apply lN|apply lD)|exact HB.out)⟩⟩
      (rw [if_neg c7] at H;exact absurd H (by simp))
     ·rw [if_neg c6] at H;have c6b0 : decide (x4_1 < (l0.length : Int)) = false := decide_eq_false c6;clear c6;obtain rfl := Option.some.inj H
      go_wp2
      go_ret
      exact ⟨_, by first | rfl | (simp [errW_none, errW_some] <;> rfl) | (simp [*, errW_none, errW_some] <;> rfl), by (with_reducible repeat (first|apply rA|apply rN|apply rD)); exact HO_3.out, by repeat (first|(with_reducible first|exact HB.out|apply lA|apply lN|apply lD)|exact HB.out)⟩
  (rw [if_neg c3] at H;exact absurd H (by simp))
 (rw [if_neg c2] at H;exact absurd H (by simp))
mutual
def gangsawref24_form.l0 : Nat → List (S59) → Int → Option (Int)
 | 0, _, _ => none
 | k + 1, x0, x3 => if x3 < (x0.length : Int) then ((gangsawref24_node.f k x0 x3).bind fun t407 => (if t407 = 0 then (gangsawref24_form.l0 k x0 (wrap64 (x3 + 1))) else (some t407))) else ((gangsawref24_parts.f k x0).bind fun t408 => (gangsawref24_form.l1 k x0 t408 0))
def gangsawref24_form.l1 : Nat → List (S59) → List Int → Int → Option (Int)
 | 0, _, _, _ => none
 | k + 1, x0, x5, x6 => if x6 < (x0.length : Int) then (if 0 ≤ x6 then (if x6 < (x5.length : Int) then (if (rd x5 x6) > 1 then (some 5) else (gangsawref24_form.l1 k x0 x5 (wrap64 (x6 + 1)))) else (none)) else (none)) else (gangsawref24_form.l2 k x0 x5 1)
def gangsawref24_form.l2 : Nat → List (S59) → List Int → Int → Option (Int)
 | 0, _, _, _ => none
 | k + 1, x0, x5, x7 => if x7 < (x0.length : Int) then (if 0 ≤ x7 then (if x7 < (x5.length : Int) then (if (rd x5 x7) = 0 then (some 1) else (gangsawref24_form.l2 k x0 x5 (wrap64 (x7 + 1)))) else (none)) else (none)) else (some 0)
end
def gangsawref24_form.f (k : Nat) (l0 : List (S59)) : Option (Int) := if (l0.length : Int) = 0 then (some 1) else (if (l0.length : Int) > 1024 then (some 7) else (gangsawref24_form.l0 k l0 0))
set_option maxHeartbeats 8000000 in
set_option maxRecDepth 100000 in
theorem gangsawref24_form.calls (k : Nat) (A0 : Option Addr) (c0 : Nat) (l0 : List (S59)) (r : Int) (w : World) (hr0 : Kd.C k59 w A0 l0.length l0) (hc0 : l0.length ≤ c0) (h : gangsawref24_form.f k l0 = some r) :
  Calls Try.prog 63 #[.slice A0 l0.length c0] w fun e w' => e = .returned (.int .i64 r) ∧ Below w.heap.size w w' := by
 have HR0 := am hr0;have HC0 := am hc0;clear hr0 hc0;have HB := am (Below.refl w.heap.size w);have H : (if (l0.length : Int) = 0 then (some 1) else (if (l0.length : Int) > 1024 then (some 7) else (gangsawref24_form.l0 k l0 0))) = some r := h;clear h;by_cases c2 : (l0.length : Int) = 0
 ·rw [if_pos c2] at H;have c2b0 : ((l0.length : Int) == 0) = true := beq_iff_eq.mpr c2;have c2b1 : ((l0.length : Int) != 0) = false := bne_eq_false_iff_eq.mpr c2;clear c2;obtain rfl := Option.some.inj H
  go_enter Try.func63, Try.ntmps63
  go_wp2
  go_ret
  exact ⟨by first | rfl | (simp [errW_none, errW_some] <;> rfl) | (simp [*, errW_none, errW_some] <;> rfl), by repeat (first|(with_reducible first|exact HB.out|apply lA|apply lN|apply lD)|exact HB.out)⟩
 ·rw [if_neg c2] at H;have c2b0 : ((l0.length : Int) == 0) = false := beq_eq_false_iff_ne.mpr c2;have c2b1 : ((l0.length : Int) != 0) = true := bne_iff_ne.mpr c2
  have c2b2 : ¬ (l0 = []) := fun h_ => c2 (by rw [h_]; rfl)
  by_cases c3 : (l0.length : Int) > 1024
  ·rw [if_pos c3] at H;have c3b0 : decide (1024 < (l0.length : Int)) = true := decide_eq_true c3;have c3b1 : decide (1024 < l0.length) = true := decide_eq_true (by omega);clear c3;obtain rfl := Option.some.inj H
   go_enter Try.func63, Try.ntmps63
   go_wp2
   go_ret
   exact ⟨by first | rfl | (simp [errW_none, errW_some] <;> rfl) | (simp [*, errW_none, errW_some] <;> rfl), by repeat (first|(with_reducible first|exact HB.out|apply lA|apply lN|apply lD)|exact HB.out)⟩
  ·rw [if_neg c3] at H;have c3b0 : decide (1024 < (l0.length : Int)) = false := decide_eq_false c3;have c3b1 : decide (1024 < l0.length) = false := decide_eq_false (by omega);clear c3;have H' := am H;clear H
   go_enter Try.func63, Try.ntmps63
   go_wp2
   go_loopg [3] k (fun kq v3 w' => ∃ (x3_1 : Int), v3 = .int .i64 x3_1 ∧ Aside0 (gangsawref24_form.l0 kq l0 x3_1 = some r) ∧ Aside0 (kq ≤ k) ∧ Aside0 (Below w.heap.size w w'))
   case atStart => exact ⟨(0), (by first | rfl | (simp; done) | (simp [*]; done)), H', ⟨Nat.le_refl _⟩, ⟨by repeat (first|(with_reducible first|exact HB.out|apply lA|apply lN|apply lD)|exact HB.out)⟩⟩
   case round =>
    clear H'
    try clear c2
    try clear c2b0
    try clear c2b1
    try clear c2b2
    try clear p2
    try clear c3
    try clear c3b0
    try clear c3b1
    obtain ⟨x3_1, rfl, HA, HK1, HB⟩ := hrel
    cases gk with
    | zero => exact absurd HA.out (by simp [gangsawref24_form.l0])
    | succ k1 =>
     have H := HA.out;clear HA;simp only [gangsawref24_form.l0] at H;by_cases c4 : x3_1 < (l0.length : Int)
     ·rw [if_pos c4] at H;have c4b0 : decide (x3_1 < (l0.length : Int)) = true := decide_eq_true c4;clear c4;replace H := Option.bind_eq_some_iff.mp H;obtain ⟨t407, A50, H⟩ := H;replace H : (if t407 = 0 then (gangsawref24_form.l0 k1 l0 (wrap64 (x3_1 + 1))) else (some t407)) = some r := H;have A5 := am A50;clear A50;by_cases c6 : t407 = 0
      ·rw [if_pos c6] at H;have c6b0 : (t407 == 0) = true := beq_iff_eq.mpr c6;have c6b1 : (t407 != 0) = false := bne_eq_false_iff_eq.mpr c6;clear c6;have H' := am H;clear H
       go_wp2_with (first | ((with_reducible refine gate_callee (f := 75) rfl ?_); refine goesL_ (some 22) rfl rfl Try.func75 (by kernel_rfl) rfl #[.slice A0 l0.length c0, .int .i64 x3_1] rfl (by (try simp only [List.map_toArray, List.map_cons, List.map_nil]); first | done | rfl | (simp only [List.length_drop, List.length_take]; rfl)) ?_; (with_reducible refine (gangsawref24_node.calls k1 _ _ l0 x3_1 t407 _ ?side1 ?side2 A5.out).mono ?_); (case side1 => exact cq HR0.out HB.out); (case side2 => exact HC0.out); rintro e w7 ⟨rfl, hb⟩; refine ⟨_, rfl, ?_⟩; replace HB := bsa HB hb; (try clear hb); (try clear hb2); (try clear hk); (try clear hi)))
       go_roundg k1
       case measure => have := HK1.out; omega
       case rel => exact ⟨(wrap64 (x3_1 + 1)), (by first | rfl | (simp; done) | (simp [*]; done)), H', ⟨by have := HK1.out; omega⟩, ⟨by repeat (first|(with_reducible first|exact HB.out|apply lA|apply lN|apply lD)|exact HB.out)⟩⟩
      ·rw [if_neg c6] at H;have c6b0 : (t407 == 0) = false := beq_eq_false_iff_ne.mpr c6;have c6b1 : (t407 != 0) = true := bne_iff_ne.mpr c6;obtain rfl := Option.some.inj H
       go_wp2_with (first | ((with_reducible refine gate_callee (f := 75) rfl ?_); refine goesL_ (some 22) rfl rfl Try.func75 (by kernel_rfl) rfl #[.slice A0 l0.length c0, .int .i64 x3_1] rfl (by (try simp only [List.map_toArray, List.map_cons, List.map_nil]); first | done | rfl | (simp only [List.length_drop, List.length_take]; rfl)) ?_; (with_reducible refine (gangsawref24_node.calls k1 _ _ l0 x3_1 t407 _ ?side1 ?side2 A5.out).mono ?_); (case side1 => exact cq HR0.out HB.out); (case side2 => exact HC0.out); rintro e w8 ⟨rfl, hb⟩; refine ⟨_, rfl, ?_⟩; replace HB := bsa HB hb; (try clear hb); (try clear hb2); (try clear hk); (try clear hi)))
       go_ret
       exact ⟨by first | rfl | (simp [errW_none, errW_some] <;> rfl) | (simp [*, errW_none, errW_some] <;> rfl), by repeat (first|(with_reducible first|exact HB.out|apply lA|apply lN|apply lD)|exact HB.out)⟩
     ·rw [if_neg c4] at H;have c4b0 : decide (x3_1 < (l0.length : Int)) = false := decide_eq_false c4;clear c4;replace H := Option.bind_eq_some_iff.mp H;obtain ⟨t408, A90, H⟩ := H;replace H : (gangsawref24_form.l1 k1 l0 t408 0) = some r := H;have A9 := am A90;clear A90;have H' := am H;clear H
      go_wp2_with (first | ((with_reducible refine gate_callee (f := 76) rfl ?_); refine goesL_ (some 27) rfl rfl Try.func76 (by kernel_rfl) rfl #[.slice A0 l0.length c0] rfl (by (try simp only [List.map_toArray, List.map_cons, List.map_nil]); first | done | rfl | (simp only [List.length_drop, List.length_take]; rfl)) ?_; (with_reducible refine (gangsawref24_parts.calls k1 _ _ l0 t408 _ ?side1 ?side2 A9.out).mono ?_); (case side1 => exact cq HR0.out HB.out); (case side2 => exact HC0.out); rintro e w10 ⟨v409, rfl, ho0, hb⟩; refine ⟨_, rfl, ?_⟩; have HO410 := am (Kd.R_lower ho0 (below_size (by repeat (first|(with_reducible first|exact HB.out|apply lA|apply lN|apply lD)|exact HB.out)))); replace HB := bsa HB hb; (try clear hb); (try clear hb2); (try clear hk); (try clear hi); (try clear ho0)))
      go_loopg [6] k1 (fun kq v6 w' => ∃ (x6_2 : Int), v6 = .int .i64 x6_2 ∧ Aside0 (gangsawref24_form.l1 kq l0 t408 x6_2 = some r) ∧ Aside0 (kq ≤ k1) ∧ Aside0 (Kd.R (Kd.int .i64) 3 w' w.heap.size (fun _ => True) v409 t408) ∧ Aside0 (Below w.heap.size w w'))
      case atStart => exact ⟨(0), (by first | rfl | (simp; done) | (simp [*]; done)), H', ⟨Nat.le_refl _⟩, ⟨rq HO410.out⟩, ⟨by repeat (first|(with_reducible first|exact HB.out|apply lA|apply lN|apply lD)|exact HB.out)⟩⟩
      case round =>
       clear H'
       try clear c2
       try clear c2b0
       try clear c2b1
       try clear c2b2
       try clear p2
       try clear c3
       try clear c3b0
       try clear c3b1
       try clear c4
       try clear c4b0
       try clear c6
       try clear c6b0
       try clear c6b1
       try clear p6
       try clear c7
       try clear p2
       obtain ⟨x6_2, rfl, HA, HK2, HO_5, HB⟩ := hrel
       cases gk with
       | zero => exact absurd HA.out (by simp [gangsawref24_form.l1])
       | succ k2 =>
        have H := HA.out;clear HA;simp only [gangsawref24_form.l1] at H;by_cases c11 : x6_2 < (l0.length : Int)
        ·rw [if_pos c11] at H;have c11b0 : decide (x6_2 < (l0.length : Int)) = true := decide_eq_true c11;clear c11;by_cases c12 : 0 ≤ x6_2
         ·rw [if_pos c12] at H;have c12b0 : decide (0 ≤ x6_2) = true := decide_eq_true c12;clear c12;by_cases c13 : x6_2 < (t408.length : Int)
          ·rw [if_pos c13] at H;have c13b0 : decide (x6_2 < (t408.length : Int)) = true := decide_eq_true c13;clear c13;by_cases c14 : (rd t408 x6_2) > 1
           ·rw [if_pos c14] at H;have c14b0 : decide (1 < (rd t408 x6_2)) = true := decide_eq_true c14;clear c14;obtain rfl := Option.some.inj H;obtain ⟨Ao15, co15, eo15⟩ := Kd.R_slice HO_5.out;subst eo15;have p411 : 0 ≤ (x6_2 : Int) := of_decide_eq_true (by first | (with_reducible assumption) | assumption);have q411 : x6_2 < (t408.length : Int) := of_decide_eq_true (by first | (with_reducible assumption) | assumption);obtain ⟨ad411, e411, hx411_0⟩ := Kd.at_int (Kd.R_reads' HO_5.out).2.2 x6_2 p411 q411
            cases e411
            replace p411 := eq_true p411;replace q411 := eq_true q411
            go_wp2
            go_ret
            exact ⟨by first | rfl | (simp [errW_none, errW_some] <;> rfl) | (simp [*, errW_none, errW_some] <;> rfl), by repeat (first|(with_reducible first|exact HB.out|apply lA|apply lN|apply lD)|exact HB.out)⟩
           ·rw [if_neg c14] at H;have c14b0 : decide (1 < (rd t408 x6_2)) = false := decide_eq_false c14;clear c14;have H' := am H;clear H;obtain ⟨Ao16, co16, eo16⟩ := Kd.R_slice HO_5.out;subst eo16;have p411 : 0 ≤ (x6_2 : Int) := of_decide_eq_true (by first | (with_reducible assumption) | assumption);have q411 : x6_2 < (t408.length : Int) := of_decide_eq_true (by first | (with_reducible assumption) | assumption);obtain ⟨ad411, e411, hx411_0⟩ := Kd.at_int (Kd.R_reads' HO_5.out).2.2 x6_2 p411 q411
            cases e411
            replace p411 := eq_true p411;replace q411 := eq_true q411
            go_wp2
            go_roundg k2
            case measure => have := HK1.out; have := HK2.out; omega
            case rel => exact ⟨(wrap64 (x6_2 + 1)), (by first | rfl | (simp; done) | (simp [*]; done)), H', ⟨by have := HK1.out; have := HK2.out; omega⟩, ⟨rq HO_5.out⟩, ⟨by repeat (first|(with_reducible first|exact HB.out|apply lA|apply lN|apply lD)|exact HB.out)⟩⟩
          (rw [if_neg c13] at H;exact absurd H (by simp))
         (rw [if_neg c12] at H;exact absurd H (by simp))
        ·rw [if_neg c11] at H;have c11b0 : decide (x6_2 < (l0.length : Int)) = false := decide_eq_false c11;clear c11;have H' := am H;clear H
         go_wp2
         go_loopg [7] k2 (fun kq v7 w' => ∃ (x7_3 : Int), v7 = .int .i64 x7_3 ∧ Aside0 (gangsawref24_form.l2 kq l0 t408 x7_3 = some r) ∧ Aside0 (kq ≤ k2) ∧ Aside0 (Kd.R (Kd.int .i64) 3 w' w.heap.size (fun _ => True) v409 t408) ∧ Aside0 (Below w.heap.size w w'))
         case atStart => exact ⟨(1), (by first | rfl | (simp; done) | (simp [*]; done)), H', ⟨Nat.le_refl _⟩, ⟨rq HO_5.out⟩, ⟨by repeat (first|(with_reducible first|exact HB.out|apply lA|apply lN|apply lD)|exact HB.out)⟩⟩
         case round =>
          clear H'
          try clear c1
          try clear c2
          try clear c2b0
          try clear c2b1
          try clear c2b2
          try clear p2
          try clear c3
          try clear c3b0
          try clear c3b1
          try clear c4
          try clear c4b0
          try clear p4
          try clear q4
          try clear hx4
          try clear c6
          try clear c6b0
          try clear c6b1
          try clear p6
          try clear c7
          try clear c11
          try clear c11b0
          try clear c12
          try clear c12b0
          try clear c13
          try clear c13b0
          try clear c14
          try clear c14b0
          try clear hx411_0
          try clear p2
          try clear p411
          try clear p6
          try clear q411
          obtain ⟨x7_3, rfl, HA, HK3, HO_5, HB⟩ := hrel
          cases gk with
          | zero => exact absurd HA.out (by simp [gangsawref24_form.l2])
          | succ k3 =>
           have H := HA.out;clear HA;simp only [gangsawref24_form.l2] at H;by_cases c17 : x7_3 < (l0.length : Int)
           ·rw [if_pos c17] at H;have c17b0 : decide (x7_3 < (l0.length : Int)) = true := decide_eq_true c17;clear c17;by_cases c18 : 0 ≤ x7_3
            ·rw [if_pos c18] at H;have c18b0 : decide (0 ≤ x7_3) = true := decide_eq_true c18;clear c18;by_cases c19 : x7_3 < (t408.length : Int)
             ·rw [if_pos c19] at H;have c19b0 : decide (x7_3 < (t408.length : Int)) = true := decide_eq_true c19;clear c19;by_cases c20 : (rd t408 x7_3) = 0
              ·rw [if_pos c20] at H;have c20b0 : ((rd t408 x7_3) == 0) = true := beq_iff_eq.mpr c20;have c20b1 : ((rd t408 x7_3) != 0) = false := bne_eq_false_iff_eq.mpr c20;clear c20;obtain rfl := Option.some.inj H;obtain ⟨Ao21, co21, eo21⟩ := Kd.R_slice HO_5.out;subst eo21;have p412 : 0 ≤ (x7_3 : Int) := of_decide_eq_true (by first | (with_reducible assumption) | assumption);have q412 : x7_3 < (t408.length : Int) := of_decide_eq_true (by first | (with_reducible assumption) | assumption);obtain ⟨ad412, e412, hx412_0⟩ := Kd.at_int (Kd.R_reads' HO_5.out).2.2 x7_3 p412 q412
               cases e412
               replace p412 := eq_true p412;replace q412 := eq_true q412
               go_wp2
               go_ret
               exact ⟨by first | rfl | (simp [errW_none, errW_some] <;> rfl) | (simp [*, errW_none, errW_some] <;> rfl), by repeat (first|(with_reducible first|exact HB.out|apply lA|apply lN|apply lD)|exact HB.out)⟩
              ·rw [if_neg c20] at H;have c20b0 : ((rd t408 x7_3) == 0) = false := beq_eq_false_iff_ne.mpr c20;have c20b1 : ((rd t408 x7_3) != 0) = true := bne_iff_ne.mpr c20;have H' := am H;clear H;obtain ⟨Ao22, co22, eo22⟩ := Kd.R_slice HO_5.out;subst eo22;have p412 : 0 ≤ (x7_3 : Int) := of_decide_eq_true (by first | (with_reducible assumption) | assumption);have q412 : x7_3 < (t408.length : Int) := of_decide_eq_true (by first | (with_reducible assumption) | assumption);obtain ⟨ad412, e412, hx412_0⟩ := Kd.at_int (Kd.R_reads' HO_5.out).2.2 x7_3 p412 q412
               cases e412
               replace p412 := eq_true p412;replace q412 := eq_true q412
               go_wp2
               go_roundg k3
               case measure => have := HK1.out; have := HK2.out; have := HK3.out; omega
               case rel => exact ⟨(wrap64 (x7_3 + 1)), (by first | rfl | (simp; done) | (simp [*]; done)), H', ⟨by have := HK1.out; have := HK2.out; have := HK3.out; omega⟩, ⟨rq HO_5.out⟩, ⟨by repeat (first|(with_reducible first|exact HB.out|apply lA|apply lN|apply lD)|exact HB.out)⟩⟩
             (rw [if_neg c19] at H;exact absurd H (by simp))
            (rw [if_neg c18] at H;exact absurd H (by simp))
           ·rw [if_neg c17] at H;have c17b0 : decide (x7_3 < (l0.length : Int)) = false := decide_eq_false c17;clear c17;obtain rfl := Option.some.inj H
            go_wp2
            go_ret
            exact ⟨by first | rfl | (simp [errW_none, errW_some] <;> rfl) | (simp [*, errW_none, errW_some] <;> rfl), by repeat (first|(with_reducible first|exact HB.out|apply lA|apply lN|apply lD)|exact HB.out)⟩
def gangsawref24_with.f (a0_0 : Int) (a0_1 : Int) (a0_2 : Int) (a1 : Int) (a2 : Int) : Option (Int × Int × Int) := if a1 = 0 then (some (a2, a0_1, a0_2)) else (if a1 = 1 then (some (a0_0, a2, a0_2)) else (some (a0_0, a0_1, a2)))
set_option maxHeartbeats 8000000 in
set_option maxRecDepth 100000 in
theorem gangsawref24_with.calls (a0_0 : Int) (a0_1 : Int) (a0_2 : Int) (a1 : Int) (a2 : Int) (r1 : Int) (r2 : Int) (r3 : Int) (w : World) (h : gangsawref24_with.f a0_0 a0_1 a0_2 a1 a2 = some (r1, r2, r3)) :
  Calls Try.prog 89 #[.agg #[.int .i64 a0_0, .int .i64 a0_1, .int .i64 a0_2], .int .i64 a1, .int .i64 a2] w fun e w' => e = .returned (.agg #[.int .i64 r1, .int .i64 r2, .int .i64 r3]) ∧ Below w.heap.size w w' := by
 have hu34 := Try.underlying34;have HB := am (Below.refl w.heap.size w);have H : (if a1 = 0 then (some (a2, a0_1, a0_2)) else (if a1 = 1 then (some (a0_0, a2, a0_2)) else (some (a0_0, a0_1, a2)))) = some (r1, r2, r3) := h;clear h;by_cases c4 : a1 = 0
 ·rw [if_pos c4] at H;have c4b0 : (a1 == 0) = true := beq_iff_eq.mpr c4;have c4b1 : (a1 != 0) = false := bne_eq_false_iff_eq.mpr c4;clear c4;simp only [Option.some.injEq, Prod.mk.injEq] at H;obtain ⟨rfl, rfl, rfl⟩ := H
  go_enter Try.func89, Try.ntmps89
  go_wp2_with (first | ((with_reducible refine gate_dst (N := 3) rfl ?_); refine box_event ?hg (N := 3) ?hd (cs := #[.int .i64 a0_0, .int .i64 a0_1, .int .i64 a0_2]) (t := 34) ?hr ?_; (case hd => rfl); (case hg => rfl); (case hr => first | (go_simp; done) | (go_simp; rfl)); intro gb413 hg w5 hbox hb; have BK413 := am hbox; have GW413 := bza HB hg; have GE413 := bza HB hg; replace HB := bsa HB hb; clear hb hbox hg) | ((with_reducible refine gate_dst (N := 6) rfl ?_); refine box_event ?hg (N := 6) ?hd (cs := #[.int .i64 0, .int .i64 0, .int .i64 0]) (t := 34) ?hr ?_; (case hd => rfl); (case hg => rfl); (case hr => first | (go_simp; done) | (go_simp; rfl)); intro gb414 hg w6 hbox hb; have BK414 := am hbox; have GW414 := bza HB hg; have GE414 := bza HB hg; have NB413_414 := bla BK413 hg; have NB414_413 := bga BK413 hg; replace BK413 := bba BK413 hb; replace HB := bsa HB hb; clear hb hbox hg; have hnb7 := NB413_414.out; have hnc7 := NB414_413.out; obtain ⟨hcz8_0, hcz8_1, hcz8_2, hfz8_0, hfz8_1, hfz8_2⟩ := c3_ BK413.out; obtain ⟨hcz9_0, hcz9_1, hcz9_2, hfz9_0, hfz9_1, hfz9_2⟩ := c3_ BK414.out))
  refine bodyPost_ret (results_cell_row rfl _ _ gb414 34 #[.int .i64 a2, .int .i64 a0_1, .int .i64 a0_2] (0, 0) _ rfl (by (with_reducible repeat (first|apply bN|apply bD|apply bA)); refine blk_put (cs := #[.int .i64 a2, .int .i64 a0_1, .int .i64 0]) ?_ 2 _ rfl; (with_reducible repeat (first|apply bN|apply bD|apply bA)); refine blk_put (cs := #[.int .i64 a2, .int .i64 0, .int .i64 0]) ?_ 1 _ rfl; (with_reducible repeat (first|apply bN|apply bD|apply bA)); refine blk_put (cs := #[.int .i64 0, .int .i64 0, .int .i64 0]) ?_ 0 _ rfl; (with_reducible repeat (first|apply bN|apply bD|apply bA)); refine blk_far ?_ NB414_413.out _; (with_reducible repeat (first|apply bN|apply bD|apply bA)); exact BK414.out) Try.underlying34 rfl (by kernel_rfl)) rfl ?_
  exact ⟨by first | rfl | (simp [errW_none, errW_some] <;> rfl) | (simp [*, errW_none, errW_some] <;> rfl), by repeat (first|(with_reducible first|exact HB.out|apply lA|apply lN|apply lD|refine lS ?_ GE413.out|refine lS ?_ GE414.out)|exact HB.out)⟩
 ·rw [if_neg c4] at H;have c4b0 : (a1 == 0) = false := beq_eq_false_iff_ne.mpr c4;have c4b1 : (a1 != 0) = true := bne_iff_ne.mpr c4;by_cases c10 : a1 = 1
  ·rw [if_pos c10] at H;have c10b0 : (a1 == 1) = true := beq_iff_eq.mpr c10;have c10b1 : (a1 != 1) = false := bne_eq_false_iff_eq.mpr c10;clear c10;simp only [Option.some.injEq, Prod.mk.injEq] at H;obtain ⟨rfl, rfl, rfl⟩ := H
   go_enter Try.func89, Try.ntmps89
   go_wp2_with (first | ((with_reducible refine gate_dst (N := 3) rfl ?_); refine box_event ?hg (N := 3) ?hd (cs := #[.int .i64 a0_0, .int .i64 a0_1, .int .i64 a0_2]) (t := 34) ?hr ?_; (case hd => rfl); (case hg => rfl); (case hr => first | (go_simp; done) | (go_simp; rfl)); intro gb413 hg w11 hbox hb; have BK413 := am hbox; have GW413 := bza HB hg; have GE413 := bza HB hg; replace HB := bsa HB hb; clear hb hbox hg) | ((with_reducible refine gate_dst (N := 6) rfl ?_); refine box_event ?hg (N := 6) ?hd (cs := #[.int .i64 0, .int .i64 0, .int .i64 0]) (t := 34) ?hr ?_; (case hd => rfl); (case hg => rfl); (case hr => first | (go_simp; done) | (go_simp; rfl)); intro gb414 hg w12 hbox hb; have BK414 := am hbox; have GW414 := bza HB hg; have GE414 := bza HB hg; have NB413_414 := bla BK413 hg; have NB414_413 := bga BK413 hg; replace BK413 := bba BK413 hb; replace HB := bsa HB hb; clear hb hbox hg; have hnb13 := NB413_414.out; have hnc13 := NB414_413.out; obtain ⟨hcz14_0, hcz14_1, hcz14_2, hfz14_0, hfz14_1, hfz14_2⟩ := c3_ BK413.out; obtain ⟨hcz15_0, hcz15_1, hcz15_2, hfz15_0, hfz15_1, hfz15_2⟩ := c3_ BK414.out))
   refine bodyPost_ret (results_cell_row rfl _ _ gb414 34 #[.int .i64 a0_0, .int .i64 a2, .int .i64 a0_2] (0, 0) _ rfl (by (with_reducible repeat (first|apply bN|apply bD|apply bA)); refine blk_put (cs := #[.int .i64 a0_0, .int .i64 a2, .int .i64 0]) ?_ 2 _ rfl; (with_reducible repeat (first|apply bN|apply bD|apply bA)); refine blk_put (cs := #[.int .i64 a0_0, .int .i64 0, .int .i64 0]) ?_ 1 _ rfl; (with_reducible repeat (first|apply bN|apply bD|apply bA)); refine blk_put (cs := #[.int .i64 0, .int .i64 0, .int .i64 0]) ?_ 0 _ rfl; (with_reducible repeat (first|apply bN|apply bD|apply bA)); refine blk_far ?_ NB414_413.out _; (with_reducible repeat (first|apply bN|apply bD|apply bA)); exact BK414.out) Try.underlying34 rfl (by kernel_rfl)) rfl ?_
   exact ⟨by first | rfl | (simp [errW_none, errW_some] <;> rfl) | (simp [*, errW_none, errW_some] <;> rfl), by repeat (first|(with_reducible first|exact HB.out|apply lA|apply lN|apply lD|refine lS ?_ GE413.out|refine lS ?_ GE414.out)|exact HB.out)⟩
  ·rw [if_neg c10] at H;have c10b0 : (a1 == 1) = false := beq_eq_false_iff_ne.mpr c10;have c10b1 : (a1 != 1) = true := bne_iff_ne.mpr c10;simp only [Option.some.injEq, Prod.mk.injEq] at H;obtain ⟨rfl, rfl, rfl⟩ := H
   go_enter Try.func89, Try.ntmps89
   go_wp2_with (first | ((with_reducible refine gate_dst (N := 3) rfl ?_); refine box_event ?hg (N := 3) ?hd (cs := #[.int .i64 a0_0, .int .i64 a0_1, .int .i64 a0_2]) (t := 34) ?hr ?_; (case hd => rfl); (case hg => rfl); (case hr => first | (go_simp; done) | (go_simp; rfl)); intro gb413 hg w16 hbox hb; have BK413 := am hbox; have GW413 := bza HB hg; have GE413 := bza HB hg; replace HB := bsa HB hb; clear hb hbox hg) | ((with_reducible refine gate_dst (N := 6) rfl ?_); refine box_event ?hg (N := 6) ?hd (cs := #[.int .i64 0, .int .i64 0, .int .i64 0]) (t := 34) ?hr ?_; (case hd => rfl); (case hg => rfl); (case hr => first | (go_simp; done) | (go_simp; rfl)); intro gb414 hg w17 hbox hb; have BK414 := am hbox; have GW414 := bza HB hg; have GE414 := bza HB hg; have NB413_414 := bla BK413 hg; have NB414_413 := bga BK413 hg; replace BK413 := bba BK413 hb; replace HB := bsa HB hb; clear hb hbox hg; have hnb18 := NB413_414.out; have hnc18 := NB414_413.out; obtain ⟨hcz19_0, hcz19_1, hcz19_2, hfz19_0, hfz19_1, hfz19_2⟩ := c3_ BK413.out; obtain ⟨hcz20_0, hcz20_1, hcz20_2, hfz20_0, hfz20_1, hfz20_2⟩ := c3_ BK414.out))
   refine bodyPost_ret (results_cell_row rfl _ _ gb414 34 #[.int .i64 a0_0, .int .i64 a0_1, .int .i64 a2] (0, 0) _ rfl (by (with_reducible repeat (first|apply bN|apply bD|apply bA)); refine blk_put (cs := #[.int .i64 a0_0, .int .i64 a0_1, .int .i64 0]) ?_ 2 _ rfl; (with_reducible repeat (first|apply bN|apply bD|apply bA)); refine blk_put (cs := #[.int .i64 a0_0, .int .i64 0, .int .i64 0]) ?_ 1 _ rfl; (with_reducible repeat (first|apply bN|apply bD|apply bA)); refine blk_put (cs := #[.int .i64 0, .int .i64 0, .int .i64 0]) ?_ 0 _ rfl; (with_reducible repeat (first|apply bN|apply bD|apply bA)); refine blk_far ?_ NB414_413.out _; (with_reducible repeat (first|apply bN|apply bD|apply bA)); exact BK414.out) Try.underlying34 rfl (by kernel_rfl)) rfl ?_
   exact ⟨by first | rfl | (simp [errW_none, errW_some] <;> rfl) | (simp [*, errW_none, errW_some] <;> rfl), by repeat (first|(with_reducible first|exact HB.out|apply lA|apply lN|apply lD|refine lS ?_ GE413.out|refine lS ?_ GE414.out)|exact HB.out)⟩
end Go.Proofs.Ytdnjagfbhppmbaa.PA
