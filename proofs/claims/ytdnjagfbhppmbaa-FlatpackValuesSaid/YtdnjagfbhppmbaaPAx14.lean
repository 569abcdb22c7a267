import Derived.Test.YtdnjagfbhppmbaaPAx13
import Derived.Test.YtdnjagfbhppmbaaPAx3
namespace Go.Proofs.Ytdnjagfbhppmbaa.PA
open Go.RowKit Go.Proofs.YtdnjagfbhppmbaaW.PrintWords Go.Proofs.YtdnjagfbhppmbaaW.PrintLast Go.Proofs.YtdnjagfbhppmbaaW.PrintMore
attribute [local go_sem] max2_int min2_int max_two min_two max_three min_three max_four min_four
set_option linter.unusedVariables false
set_option linter.unusedSimpArgs false
theorem emp_ne (l : List UInt8) : l.isEmpty = !(l != []) := by cases l <;> rfl
mutual
def gangsawref24_node.j0 : Nat → List (S59) → Int → Bool → Int → ByteArray → Int → Int → Int → Int → Int → Option (Int)
 | 0, _, _, _, _, _, _, _, _, _, _ => none
 | k + 1, x0, x1, x17, x393000, x393001, x393002, x393003, x393004, x393005, x393006 => if x17 = true then (some 1) else (if x393000 = 3 then (gangsawref24_node.j1 k x0 x1 false x393000 x393001 x393002 x393003 x393004 x393005 x393006) else (if x393002 = 0 then (if x393003 = 0 then (if x393004 = 0 then (if x393005 = 0 then (gangsawref24_node.j1 k x0 x1 (x393006 != 0) x393000 x393001 x393002 x393003 x393004 x393005 x393006) else (gangsawref24_node.j1 k x0 x1 true x393000 x393001 x393002 x393003 x393004 x393005 x393006)) else (gangsawref24_node.j1 k x0 x1 true x393000 x393001 x393002 x393003 x393004 x393005 x393006)) else (gangsawref24_node.j1 k x0 x1 true x393000 x393001 x393002 x393003 x393004 x393005 x393006)) else (gangsawref24_node.j1 k x0 x1 true x393000 x393001 x393002 x393003 x393004 x393005 x393006)))
def gangsawref24_node.j1 : Nat → List (S59) → Int → Bool → Int → ByteArray → Int → Int → Int → Int → Int → Option (Int)
 | 0, _, _, _, _, _, _, _, _, _, _ => none
 | k + 1, x0, x1, x45, x393000, x393001, x393002, x393003, x393004, x393005, x393006 => if x45 = true then (some 1) else (if x393000 = 3 then (gangsawref24_node.j2 k x0 x1 (x393001.toList != ([] : List UInt8)) x393000 x393001 x393002 x393003 x393004 x393005 x393006) else (if x393000 = 0 then (gangsawref24_node.j2 k x0 x1 (x393001.toList != ([] : List UInt8)) x393000 x393001 x393002 x393003 x393004 x393005 x393006) else (gangsawref24_node.j2 k x0 x1 false x393000 x393001 x393002 x393003 x393004 x393005 x393006)))
def gangsawref24_node.j2 : Nat → List (S59) → Int → Bool → Int → ByteArray → Int → Int → Int → Int → Int → Option (Int)
 | 0, _, _, _, _, _, _, _, _, _, _ => none
 | k + 1, x0, x1, x58, x393000, x393001, x393002, x393003, x393004, x393005, x393006 => if x58 = true then (some 1) else (if x393000 = 3 then (if x393002 < 0 then (gangsawref24_node.j3 k true x393000 x393001 x393002 x393003 x393004 x393005 x393006) else (if x393002 > 2 then (gangsawref24_node.j3 k true x393000 x393001 x393002 x393003 x393004 x393005 x393006) else ((gangsawref24_part.f x0 x1 x393005).bind fun t393 => (if t393 = true then ((gangsawref24_part.f x0 x1 x393006).bind fun t394 => (gangsawref24_node.j3 k (!t394) x393000 x393001 x393002 x393003 x393004 x393005 x393006)) else (gangsawref24_node.j3 k true x393000 x393001 x393002 x393003 x393004 x393005 x393006))))) else (gangsawref24_node.j3 k false x393000 x393001 x393002 x393003 x393004 x393005 x393006))
def gangsawref24_node.j3 : Nat → Bool → Int → ByteArray → Int → Int → Int → Int → Int → Option (Int)
 | 0, _, _, _, _, _, _, _, _ => none
 | k + 1, x87, x393000, x393001, x393002, x393003, x393004, x393005, x393006 => if x87 = true then (some 1) else (if x393000 = 1 then ((gangsawref09_Name.f k x393001).bind fun t395 => (gangsawref24_node.j4 k (!t395) x393000 x393001 x393002 x393003 x393004 x393005 x393006)) else (if x393000 = 2 then ((gangsawref09_Name.f k x393001).bind fun t396 => (gangsawref24_node.j4 k (!t396) x393000 x393001 x393002 x393003 x393004 x393005 x393006)) else (gangsawref24_node.j4 k false x393000 x393001 x393002 x393003 x393004 x393005 x393006)))
def gangsawref24_node.j4 : Nat → Bool → Int → ByteArray → Int → Int → Int → Int → Int → Option (Int)
 | 0, _, _, _, _, _, _, _, _ => none
 | k + 1, x101, x393000, x393001, x393002, x393003, x393004, x393005, x393006 => if x101 = true then (some 4) else (if x393000 = 3 then (if x393004 < 0 then (some 6) else (if x393004 > 1000 then (some 6) else (some 0))) else (some 0))
end
def gangsawref24_node.f (k : Nat) (l0 : List (S59)) (a1 : Int) : Option (Int) := if 0 ≤ a1 then (if a1 < (l0.length : Int) then (if ((rd_T59 l0 a1).f0) < 0 then (gangsawref24_node.j0 k l0 a1 true ((rd_T59 l0 a1).f0) ((rd_T59 l0 a1).f1) ((rd_T59 l0 a1).f2) ((rd_T59 l0 a1).f3) ((rd_T59 l0 a1).f4) ((rd_T59 l0 a1).f5) ((rd_T59 l0 a1).f6)) else (gangsawref24_node.j0 k l0 a1 (decide (((rd_T59 l0 a1).f0) > 3)) ((rd_T59 l0 a1).f0) ((rd_T59 l0 a1).f1) ((rd_T59 l0 a1).f2) ((rd_T59 l0 a1).f3) ((rd_T59 l0 a1).f4) ((rd_T59 l0 a1).f5) ((rd_T59 l0 a1).f6))) else (none)) else (none)
set_option maxHeartbeats 8000000 in
set_option maxRecDepth 100000 in
theorem gangsawref24_node.calls (k : Nat) (A0 : Option Addr) (c0 : Nat) (l0 : List (S59)) (a1 : Int) (r : Int) (w : World) (hr0 : Kd.C k59 w A0 l0.length l0) (hc0 : l0.length ≤ c0) (h : gangsawref24_node.f k l0 a1 = some r) :
  Calls Try.prog 75 #[.slice A0 l0.length c0, .int .i64 a1] w fun e w' => e = .returned (.int .i64 r) ∧ Below w.heap.size w w' := by
 have hu59 := Try.underlying59;have HR0 := am hr0;have HC0 := am hc0;clear hr0 hc0;have HB := am (Below.refl w.heap.size w);have H : (if 0 ≤ a1 then (if a1 < (l0.length : Int) then (if ((rd_T59 l0 a1).f0) < 0 then (gangsawref24_node.j0 k l0 a1 true ((rd_T59 l0 a1).f0) ((rd_T59 l0 a1).f1) ((rd_T59 l0 a1).f2) ((rd_T59 l0 a1).f3) ((rd_T59 l0 a1).f4) ((rd_T59 l0 a1).f5) ((rd_T59 l0 a1).f6)) else (gangsawref24_node.j0 k l0 a1 (decide (((rd_T59 l0 a1).f0) > 3)) ((rd_T59 l0 a1).f0) ((rd_T59 l0 a1).f1) ((rd_T59 l0 a1).f2) ((rd_T59 l0 a1).f3) ((rd_T59 l0 a1).f4) ((rd_T59 l0 a1).f5) ((rd_T59 l0 a1).f6))) else (none)) else (none)) = some r := h;clear h;by_cases c3 : 0 ≤ a1
 ·rw [if_pos c3] at H;have c3b0 : decide (0 ≤ a1) = true := decide_eq_true c3;clear c3;by_cases c4 : a1 < (l0.length : Int)
  ·rw [if_pos c4] at H;have c4b0 : decide (a1 < (l0.length : Int)) = true := decide_eq_true c4;clear c4;have HC5 := am H;clear H;have p391 : 0 ≤ (a1 : Int) := of_decide_eq_true (by first | (with_reducible assumption) | assumption);have q391 : a1 < (l0.length : Int) := of_decide_eq_true (by first | (with_reducible assumption) | assumption);obtain ⟨ad391, e391, hx391_0, hx391_1, hx391_2, hx391_3, hx391_4, hx391_5, hx391_6⟩ := at_T59 HR0.out a1 p391 q391
   cases e391
   replace p391 := eq_true p391;replace q391 := eq_true q391
   go_enter Try.func75, Try.ntmps75
   go_upto_region 2 with (first | ((with_reducible refine gate_dst (N := 5) rfl ?_); refine box_event ?hg (N := 5) ?hd (cs := #[.int .i64 0, .string (⟨#[]⟩ : ByteArray), .int .i64 0, .int .i64 0, .int .i64 0, .int .i64 0, .int .i64 0]) (t := 59) ?hr ?_; (case hd => rfl); (case hg => rfl); (case hr => first | (go_simp; done) | (go_simp; rfl)); intro gb392 hg w6 hbox hb; have BK392 := am hbox; have GW392 := bza HB hg; have GE392 := bza HB hg; replace HB := bsa HB hb; clear hb hbox hg; obtain ⟨hcz7_0, hcz7_1, hcz7_2, hcz7_3, hcz7_4, hcz7_5, hcz7_6, hfz7_0, hfz7_1, hfz7_2, hfz7_3, hfz7_4, hfz7_5, hfz7_6⟩ := c7_ BK392.out))
   (try simp only [Act.put, List.setIfInBounds_toArray, List.set_cons_zero, List.set_cons_succ])
   go_cut [17] (fun v17 wc => ∃ (kq : Nat) (x17_4 : Bool), v17 = .bool x17_4 ∧ Aside0 (gangsawref24_node.j0 kq l0 a1 x17_4 ((rd_T59 l0 a1).f0) ((rd_T59 l0 a1).f1) ((rd_T59 l0 a1).f2) ((rd_T59 l0 a1).f3) ((rd_T59 l0 a1).f4) ((rd_T59 l0 a1).f5) ((rd_T59 l0 a1).f6) = some r) ∧ Aside0 (kq ≤ k) ∧ Aside0 (wc.heap[gb392]? = some (.cells #[.int .i64 ((rd_T59 l0 a1).f0), .string ((rd_T59 l0 a1).f1), .int .i64 ((rd_T59 l0 a1).f2), .int .i64 ((rd_T59 l0 a1).f3), .int .i64 ((rd_T59 l0 a1).f4), .int .i64 ((rd_T59 l0 a1).f5), .int .i64 ((rd_T59 l0 a1).f6)] 59 (0, 0))) ∧ Aside0 (Below w.heap.size w wc))
   case first =>
    have H := HC5.out;clear HC5;by_cases c8 : ((rd_T59 l0 a1).f0) < 0
    ·rw [if_pos c8] at H;have c8b0 : decide (((rd_T59 l0 a1).f0) < 0) = true := decide_eq_true c8;clear c8;(first | rw [c8b0] | (simp only [i64_w, i32_w]; rw [c8b0]) | skip);have H' := am H;clear H;obtain ⟨hcz9_0, hcz9_1, hcz9_2, hcz9_3, hcz9_4, hcz9_5, hcz9_6, hfz9_0, hfz9_1, hfz9_2, hfz9_3, hfz9_4, hfz9_5, hfz9_6⟩ := c7_ BK392.out
     go_wp2
     go_meet
     case rel => exact ⟨_, (true), (by first | rfl | (simp; done) | (simp [*]; done)), H', ⟨by first | omega | exact Nat.le_refl _⟩, ⟨by (with_reducible repeat (first|apply bN|apply bD|apply bA)); refine blk_put (cs := #[.int .i64 ((rd_T59 l0 a1).f0), .string ((rd_T59 l0 a1).f1), .int .i64 ((rd_T59 l0 a1).f2), .int .i64 ((rd_T59 l0 a1).f3), .int .i64 ((rd_T59 l0 a1).f4), .int .i64 ((rd_T59 l0 a1).f5), .int .i64 0]) ?_ 6 _ rfl; (with_reducible repeat (first|apply bN|apply bD|apply bA)); refine blk_put (cs := #[.int .i64 ((rd_T59 l0 a1).f0), .string ((rd_T59 l0 a1).f1), .int .i64 ((rd_T59 l0 a1).f2), .int .i64 ((rd_T59 l0 a1).f3), .int .i64 ((rd_T59 l0 a1).f4), .int .i64 0, .int .i64 0]) ?_ 5 _ rfl; (with_reducible repeat (first|apply bN|apply bD|apply bA)); refine blk_put (cs := #[.int .i64 ((rd_T59 l0 a1).f0), .string ((rd_T59 l0 a1).f1), .int .i64 ((rd_T59 l0 a1).f2), .int .i64 ((rd_T59 l0 a1).f3), .int .i64 0, .int .i64 0, .int .i64 0]) ?_ 4 _ rfl; (with_reducible repeat (first|apply bN|apply bD|apply bA)); refine blk_put (cs := #[.int .i64 ((rd_T59 l0 a1).f0), .string ((rd_T59 l0 a1).f1), .int .i64 ((rd_T59 l0 a1).f2), .int .i64 0, .int .i64 0, .int .i64 0, .int .i64 0]) ?_ 3 _ rfl; (with_reducible repeat (first|apply bN|apply bD|apply bA)); refine blk_put (cs := #[.int .i64 ((rd_T59 l0 a1).f0), .string ((rd_T59 l0 a1).f1), .int .i64 0, .int .i64 0, .int .i64 0, .int .i64 0, .int .i64 0]) ?_ 2 _ rfl; (with_reducible repeat (first|apply bN|apply bD|apply bA)); refine blk_put (cs := #[.int .i64 ((rd_T59 l0 a1).f0), .string (⟨#[]⟩ : ByteArray), .int .i64 0, .int .i64 0, .int .i64 0, .int .i64 0, .int .i64 0]) ?_ 1 _ rfl; (with_reducible repeat (first|apply bN|apply bD|apply bA)); refine blk_put (cs := #[.int .i64 0, .string (⟨#[]⟩ : ByteArray), .int .i64 0, .int .i64 0, .int .i64 0, .int .i64 0, .int .i64 0]) ?_ 0 _ rfl; (with_reducible repeat (first|apply bN|apply bD|apply bA)); exact BK392.out⟩, ⟨by repeat (first|(with_reducible first|exact HB.out|apply lA|apply lN|apply lD|refine lS ?_ GE392.out)|exact HB.out)⟩⟩
    ·rw [if_neg c8] at H;have c8b0 : decide (((rd_T59 l0 a1).f0) < 0) = false := decide_eq_false c8;clear c8;(first | rw [c8b0] | (simp only [i64_w, i32_w]; rw [c8b0]) | skip);have H' := am H;clear H;obtain ⟨hcz10_0, hcz10_1, hcz10_2, hcz10_3, hcz10_4, hcz10_5, hcz10_6, hfz10_0, hfz10_1, hfz10_2, hfz10_3, hfz10_4, hfz10_5, hfz10_6⟩ := c7_ BK392.out
     go_wp2
     go_meet
     case rel => exact ⟨_, (decide (((rd_T59 l0 a1).f0) > 3)), (by first | rfl | (simp; done) | (simp [*]; done)), H', ⟨by first | omega | exact Nat.le_refl _⟩, ⟨by (with_reducible repeat (first|apply bN|apply bD|apply bA)); refine blk_put (cs := #[.int .i64 ((rd_T59 l0 a1).f0), .string ((rd_T59 l0 a1).f1), .int .i64 ((rd_T59 l0 a1).f2), .int .i64 ((rd_T59 l0 a1).f3), .int .i64 ((rd_T59 l0 a1).f4), .int .i64 ((rd_T59 l0 a1).f5), .int .i64 0]) ?_ 6 _ rfl; (with_reducible repeat (first|apply bN|apply bD|apply bA)); refine blk_put (cs := #[.int .i64 ((rd_T59 l0 a1).f0), .string ((rd_T59 l0 a1).f1), .int .i64 ((rd_T59 l0 a1).f2), .int .i64 ((rd_T59 l0 a1).f3), .int .i64 ((rd_T59 l0 a1).f4), .int .i64 0, .int .i64 0]) ?_ 5 _ rfl; (with_reducible repeat (first|apply bN|apply bD|apply bA)); refine blk_put (cs := #[.int .i64 ((rd_T59 l0 a1).f0), .string ((rd_T59 l0 a1).f1), .int .i64 ((rd_T59 l0 a1).f2), .int .i64 ((rd_T59 l0 a1).f3), .int .i64 0, .int .i64 0, .int .i64 0]) ?_ 4 _ rfl; (with_reducible repeat (first|apply bN|apply bD|apply bA)); refine blk_put (cs := #[.int .i64 ((rd_T59 l0 a1).f0), .string ((rd_T59 l0 a1).f1), .int .i64 ((rd_T59 l0 a1).f2), .int .i64 0, .int .i64 0, .int .i64 0, .int .i64 0]) ?_ 3 _ rfl; (with_reducible repeat (first|apply bN|apply bD|apply bA)); refine blk_put (cs := #[.int .i64 ((rd_T59 l0 a1).f0), .string ((rd_T59 l0 a1).f1), .int .i64 0, .int .i64 0, .int .i64 0, .int .i64 0, .int .i64 0]) ?_ 2 _ rfl; (with_reducible repeat (first|apply bN|apply bD|apply bA)); refine blk_put (cs := #[.int .i64 ((rd_T59 l0 a1).f0), .string (⟨#[]⟩ : ByteArray), .int .i64 0, .int .i64 0, .int .i64 0, .int .i64 0, .int .i64 0]) ?_ 1 _ rfl; (with_reducible repeat (first|apply bN|apply bD|apply bA)); refine blk_put (cs := #[.int .i64 0, .string (⟨#[]⟩ : ByteArray), .int .i64 0, .int .i64 0, .int .i64 0, .int .i64 0, .int .i64 0]) ?_ 0 _ rfl; (with_reducible repeat (first|apply bN|apply bD|apply bA)); exact BK392.out⟩, ⟨by repeat (first|(with_reducible first|exact HB.out|apply lA|apply lN|apply lD|refine lS ?_ GE392.out)|exact HB.out)⟩⟩
   case rest =>
    clear HC5
    try clear p2
    try clear c3
    try clear c3b0
    try clear p3
    try clear q3
    try clear hx3
    try clear c4
    try clear c4b0
    try clear c7
    try clear c8
    try clear c8b0
    try clear hcz10_0
    try clear hcz10_1
    try clear hcz10_2
    try clear hcz10_3
    try clear hcz10_4
    try clear hcz10_5
    try clear hcz10_6
    try clear hcz7_0
    try clear hcz7_1
    try clear hcz7_2
    try clear hcz7_3
    try clear hcz7_4
    try clear hcz7_5
    try clear hcz7_6
    try clear hcz9_0
    try clear hcz9_1
    try clear hcz9_2
    try clear hcz9_3
    try clear hcz9_4
    try clear hcz9_5
    try clear hcz9_6
    try clear hfz10_0
    try clear hfz10_1
    try clear hfz10_2
    try clear hfz10_3
    try clear hfz10_4
    try clear hfz10_5
    try clear hfz10_6
    try clear hfz7_0
    try clear hfz7_1
    try clear hfz7_2
    try clear hfz7_3
    try clear hfz7_4
    try clear hfz7_5
    try clear hfz7_6
    try clear hfz9_0
    try clear hfz9_1
    try clear hfz9_2
    try clear hfz9_3
    try clear hfz9_4
    try clear hfz9_5
    try clear hfz9_6
    try clear hx391_0
    try clear hx391_1
    try clear hx391_2
    try clear hx391_3
    try clear hx391_4
    try clear hx391_5
    try clear hx391_6
    try clear p391
    try clear q391
    obtain ⟨kq, x17_4, rfl, HA, HJ4, BK392, HB⟩ := hcut
    cases kq with
    | zero => exact absurd HA.out (by simp [gangsawref24_node.j0])
    | succ kj4 =>
     have H := HA.out;clear HA;simp only [gangsawref24_node.j0] at H;by_cases c11 : x17_4 = true
     ·subst c11
      have H1 : (some 1) = some r := by rw [if_pos rfl] at H; exact H
      clear H;have H := H1;clear H1;obtain rfl := Option.some.inj H
      go_wp2
      go_ret
      exact ⟨by first | rfl | (simp [errW_none, errW_some] <;> rfl) | (simp [*, errW_none, errW_some] <;> rfl), by repeat (first|(with_reducible first|exact HB.out|apply lA|apply lN|apply lD|refine lS ?_ GE392.out)|exact HB.out)⟩
     ·replace c11 := Bool.eq_false_iff.mpr c11;subst c11
      have H1 : (if ((rd_T59 l0 a1).f0) = 3 then (gangsawref24_node.j1 kj4 l0 a1 false ((rd_T59 l0 a1).f0) ((rd_T59 l0 a1).f1) ((rd_T59 l0 a1).f2) ((rd_T59 l0 a1).f3) ((rd_T59 l0 a1).f4) ((rd_T59 l0 a1).f5) ((rd_T59 l0 a1).f6)) else (if ((rd_T59 l0 a1).f2) = 0 then (if ((rd_T59 l0 a1).f3) = 0 then (if ((rd_T59 l0 a1).f4) = 0 then (if ((rd_T59 l0 a1).f5) = 0 then (gangsawref24_node.j1 kj4 l0 a1 (((rd_T59 l0 a1).f6) != 0) ((rd_T59 l0 a1).f0) ((rd_T59 l0 a1).f1) ((rd_T59 l0 a1).f2) ((rd_T59 l0 a1).f3) ((rd_T59 l0 a1).f4) ((rd_T59 l0 a1).f5) ((rd_T59 l0 a1).f6)) else (gangsawref24_node.j1 kj4 l0 a1 true ((rd_T59 l0 a1).f0) ((rd_T59 l0 a1).f1) ((rd_T59 l0 a1).f2) ((rd_T59 l0 a1).f3) ((rd_T59 l0 a1).f4) ((rd_T59 l0 a1).f5) ((rd_T59 l0 a1).f6))) else (gangsawref24_node.j1 kj4 l0 a1 true ((rd_T59 l0 a1).f0) ((rd_T59 l0 a1).f1) ((rd_T59 l0 a1).f2) ((rd_T59 l0 a1).f3) ((rd_T59 l0 a1).f4) ((rd_T59 l0 a1).f5) ((rd_T59 l0 a1).f6))) else (gangsawref24_node.j1 kj4 l0 a1 true ((rd_T59 l0 a1).f0) ((rd_T59 l0 a1).f1) ((rd_T59 l0 a1).f2) ((rd_T59 l0 a1).f3) ((rd_T59 l0 a1).f4) ((rd_T59 l0 a1).f5) ((rd_T59 l0 a1).f6))) else (gangsawref24_node.j1 kj4 l0 a1 true ((rd_T59 l0 a1).f0) ((rd_T59 l0 a1).f1) ((rd_T59 l0 a1).f2) ((rd_T59 l0 a1).f3) ((rd_T59 l0 a1).f4) ((rd_T59 l0 a1).f5) ((rd_T59 l0 a1).f6)))) = some r := by rw [if_neg (show ¬ (false = true) by decide)] at H; exact H
      clear H;have H := H1;clear H1;have HC12 := am H;clear H
      go_upto_region 4 with (fail)
      go_cut [45] (fun v45 wc => ∃ (kq : Nat) (x45_11 : Bool), v45 = .bool x45_11 ∧ Aside0 (gangsawref24_node.j1 kq l0 a1 x45_11 ((rd_T59 l0 a1).f0) ((rd_T59 l0 a1).f1) ((rd_T59 l0 a1).f2) ((rd_T59 l0 a1).f3) ((rd_T59 l0 a1).f4) ((rd_T59 l0 a1).f5) ((rd_T59 l0 a1).f6) = some r) ∧ Aside0 (kq ≤ kj4) ∧ Aside0 (wc.heap[gb392]? = some (.cells #[.int .i64 ((rd_T59 l0 a1).f0), .string ((rd_T59 l0 a1).f1), .int .i64 ((rd_T59 l0 a1).f2), .int .i64 ((rd_T59 l0 a1).f3), .int .i64 ((rd_T59 l0 a1).f4), .int .i64 ((rd_T59 l0 a1).f5), .int .i64 ((rd_T59 l0 a1).f6)] 59 (0, 0))) ∧ Aside0 (Below w.heap.size w wc))
      case first =>
       have H := HC12.out;clear HC12;by_cases c13 : ((rd_T59 l0 a1).f0) = 3
       ·rw [if_pos c13] at H;have c13b0 : (((rd_T59 l0 a1).f0) == 3) = true := beq_iff_eq.mpr c13;have c13b1 : (((rd_T59 l0 a1).f0) != 3) = false := bne_eq_false_iff_eq.mpr c13;clear c13;(first | rw [c13b0] | (simp only [i64_w, i32_w]; rw [c13b0]) | skip);have H' := am H;clear H;obtain ⟨hcz14_0, hcz14_1, hcz14_2, hcz14_3, hcz14_4, hcz14_5, hcz14_6, hfz14_0, hfz14_1, hfz14_2, hfz14_3, hfz14_4, hfz14_5, hfz14_6⟩ := c7_ BK392.out
        go_wp2
        go_meet
        case rel => exact ⟨_, (false), (by first | rfl | (simp; done) | (simp [*]; done)), H', ⟨by have := HJ4.out; first | omega | exact Nat.le_refl _⟩, ⟨bq BK392.out⟩, ⟨by repeat (first|(with_reducible first|exact HB.out|apply lA|apply lN|apply lD|refine lS ?_ GE392.out)|exact HB.out)⟩⟩
       ·rw [if_neg c13] at H;have c13b0 : (((rd_T59 l0 a1).f0) == 3) = false := beq_eq_false_iff_ne.mpr c13;have c13b1 : (((rd_T59 l0 a1).f0) != 3) = true := bne_iff_ne.mpr c13;(first | rw [c13b0] | (simp only [i64_w, i32_w]; rw [c13b0]) | skip)
        by_cases c15 : ((rd_T59 l0 a1).f2) = 0
        ·rw [if_pos c15] at H;have c15b0 : (((rd_T59 l0 a1).f2) == 0) = true := beq_iff_eq.mpr c15;have c15b1 : (((rd_T59 l0 a1).f2) != 0) = false := bne_eq_false_iff_eq.mpr c15;clear c15;by_cases c16 : ((rd_T59 l0 a1).f3) = 0
         ·rw [if_pos c16] at H;have c16b0 : (((rd_T59 l0 a1).f3) == 0) = true := beq_iff_eq.mpr c16;have c16b1 : (((rd_T59 l0 a1).f3) != 0) = false := bne_eq_false_iff_eq.mpr c16;clear c16;by_cases c17 : ((rd_T59 l0 a1).f4) = 0
          ·rw [if_pos c17] at H;have c17b0 : (((rd_T59 l0 a1).f4) == 0) = true := beq_iff_eq.mpr c17;have c17b1 : (((rd_T59 l0 a1).f4) != 0) = false := bne_eq_false_iff_eq.mpr c17;clear c17;by_cases c18 : ((rd_T59 l0 a1).f5) = 0
           ·rw [if_pos c18] at H;have c18b0 : (((rd_T59 l0 a1).f5) == 0) = true := beq_iff_eq.mpr c18;have c18b1 : (((rd_T59 l0 a1).f5) != 0) = false := bne_eq_false_iff_eq.mpr c18;clear c18;have H' := am H;clear H;obtain ⟨hcz19_0, hcz19_1, hcz19_2, hcz19_3, hcz19_4, hcz19_5, hcz19_6, hfz19_0, hfz19_1, hfz19_2, hfz19_3, hfz19_4, hfz19_5, hfz19_6⟩ := c7_ BK392.out
            go_wp2
            go_meet
            case rel => exact ⟨_, ((((rd_T59 l0 a1).f6) != 0)), (by first | rfl | (simp; done) | (simp [*]; done)), H', ⟨by have := HJ4.out; first | omega | exact Nat.le_refl _⟩, ⟨bq BK392.out⟩, ⟨by repeat (first|(with_reducible first|exact HB.out|apply lA|apply lN|apply lD|refine lS ?_ GE392.out)|exact HB.out)⟩⟩
           ·rw [if_neg c18] at H;have c18b0 : (((rd_T59 l0 a1).f5) == 0) = false := beq_eq_false_iff_ne.mpr c18;have c18b1 : (((rd_T59 l0 a1).f5) != 0) = true := bne_iff_ne.mpr c18;have H' := am H;clear H;obtain ⟨hcz20_0, hcz20_1, hcz20_2, hcz20_3, hcz20_4, hcz20_5, hcz20_6, hfz20_0, hfz20_1, hfz20_2, hfz20_3, hfz20_4, hfz20_5, hfz20_6⟩ := c7_ BK392.out
            go_wp2
            go_meet
            case rel => exact ⟨_, (true), (by first | rfl | (simp; done) | (simp [*]; done)), H', ⟨by have := HJ4.out; first | omega | exact Nat.le_refl _⟩, ⟨bq BK392.out⟩, ⟨by repeat (first|(with_reducible first|exact HB.out|apply lA|apply lN|apply lD|refine lS ?_ GE392.out)|exact HB.out)⟩⟩
          ·rw [if_neg c17] at H;have c17b0 : (((rd_T59 l0 a1).f4) == 0) = false := beq_eq_false_iff_ne.mpr c17;have c17b1 : (((rd_T59 l0 a1).f4) != 0) = true := bne_iff_ne.mpr c17;have H' := am H;clear H;obtain ⟨hcz21_0, hcz21_1, hcz21_2, hcz21_3, hcz21_4, hcz21_5, hcz21_6, hfz21_0, hfz21_1, hfz21_2, hfz21_3, hfz21_4, hfz21_5, hfz21_6⟩ := c7_ BK392.out
           go_wp2
           go_meet
           case rel => exact ⟨_, (true), (by first | rfl | (simp; done) | (simp [*]; done)), H', ⟨by have := HJ4.out; first | omega | exact Nat.le_refl _⟩, ⟨bq BK392.out⟩, ⟨by repeat (first|(with_reducible first|exact HB.out|apply lA|apply lN|apply lD|refine lS ?_ GE392.out)|exact HB.out)⟩⟩
         ·rw [if_neg c16] at H;have c16b0 : (((rd_T59 l0 a1).f3) == 0) = false := beq_eq_false_iff_ne.mpr c16;have c16b1 : (((rd_T59 l0 a1).f3) != 0) = true := bne_iff_ne.mpr c16;have H' := am H;clear H;obtain ⟨hcz22_0, hcz22_1, hcz22_2, hcz22_3, hcz22_4, hcz22_5, hcz22_6, hfz22_0, hfz22_1, hfz22_2, hfz22_3, hfz22_4, hfz22_5, hfz22_6⟩ := c7_ BK392.out
          go_wp2
          go_meet
          case rel => exact ⟨_, (true), (by first | rfl | (simp; done) | (simp [*]; done)), H', ⟨by have := HJ4.out; first | omega | exact Nat.le_refl _⟩, ⟨bq BK392.out⟩, ⟨by repeat (first|(with_reducible first|exact HB.out|apply lA|apply lN|apply lD|refine lS ?_ GE392.out)|exact HB.out)⟩⟩
        ·rw [if_neg c15] at H;have c15b0 : (((rd_T59 l0 a1).f2) == 0) = false := beq_eq_false_iff_ne.mpr c15;have c15b1 : (((rd_T59 l0 a1).f2) != 0) = true := bne_iff_ne.mpr c15;have H' := am H;clear H;obtain ⟨hcz23_0, hcz23_1, hcz23_2, hcz23_3, hcz23_4, hcz23_5, hcz23_6, hfz23_0, hfz23_1, hfz23_2, hfz23_3, hfz23_4, hfz23_5, hfz23_6⟩ := c7_ BK392.out
         go_wp2
         go_meet
         case rel => exact ⟨_, (true), (by first | rfl | (simp; done) | (simp [*]; done)), H', ⟨by have := HJ4.out; first | omega | exact Nat.le_refl _⟩, ⟨bq BK392.out⟩, ⟨by repeat (first|(with_reducible first|exact HB.out|apply lA|apply lN|apply lD|refine lS ?_ GE392.out)|exact HB.out)⟩⟩
      case rest =>
       clear HC12
       try clear c1
       try clear p2
       try clear c3
       try clear c3b0
       try clear p3
       try clear q3
       try clear hx3
       try clear c4
       try clear c4b0
       try clear c7
       try clear c8
       try clear c8b0
       try clear c11
       try clear c13
       try clear c13b0
       try clear c13b1
       try clear c15
       try clear c15b0
       try clear c15b1
       try clear c16
       try clear c16b0
       try clear c16b1
       try clear c17
       try clear c17b0
       try clear c17b1
       try clear c18
       try clear c18b0
       try clear c18b1
       try clear hcz10_0
       try clear hcz10_1
       try clear hcz10_2
       try clear hcz10_3
       try clear hcz10_4
       try clear hcz10_5
       try clear hcz10_6
       try clear hcz14_0
       try clear hcz14_1
       try clear hcz14_2
       try clear hcz14_3
       try clear hcz14_4
       try clear hcz14_5
       try clear hcz14_6
       try clear hcz19_0
       try clear hcz19_1
       try clear hcz19_2
       try clear hcz19_3
       try clear hcz19_4
       try clear hcz19_5
       try clear hcz19_6
       try clear hcz20_0
       try clear hcz20_1
       try clear hcz20_2
       try clear hcz20_3
       try clear hcz20_4
       try clear hcz20_5
       try clear hcz20_6
       try clear hcz21_0
       try clear hcz21_1
       try clear hcz21_2
       try clear hcz21_3
       try clear hcz21_4
       try clear hcz21_5
       try clear hcz21_6
       try clear hcz22_0
       try clear hcz22_1
       try clear hcz22_2
       try clear hcz22_3
       try clear hcz22_4
       try clear hcz22_5
       try clear hcz22_6
       try clear hcz23_0
       try clear hcz23_1
       try clear hcz23_2
       try clear hcz23_3
       try clear hcz23_4
       try clear hcz23_5
       try clear hcz23_6
       try clear hcz7_0
       try clear hcz7_1
       try clear hcz7_2
       try clear hcz7_3
       try clear hcz7_4
       try clear hcz7_5
       try clear hcz7_6
       try clear hcz9_0
       try clear hcz9_1
       try clear hcz9_2
       try clear hcz9_3
       try clear hcz9_4
       try clear hcz9_5
       try clear hcz9_6
       try clear hfz10_0
       try clear hfz10_1
       try clear hfz10_2
       try clear hfz10_3
       try clear hfz10_4
       try clear hfz10_5
       try clear hfz10_6
       try clear hfz14_0
       try clear hfz14_1
       try clear hfz14_2
       try clear hfz14_3
       try clear hfz14_4
       try clear hfz14_5
       try clear hfz14_6
       try clear hfz19_0
       try clear hfz19_1
       try clear hfz19_2
       try clear hfz19_3
       try clear hfz19_4
       try clear hfz19_5
       try clear hfz19_6
       try clear hfz20_0
       try clear hfz20_1
       try clear hfz20_2
       try clear hfz20_3
       try clear hfz20_4
       try clear hfz20_5
       try clear hfz20_6
       try clear hfz21_0
       try clear hfz21_1
       try clear hfz21_2
       try clear hfz21_3
       try clear hfz21_4
       try clear hfz21_5
       try clear hfz21_6
       try clear hfz22_0
       try clear hfz22_1
       try clear hfz22_2
       try clear hfz22_3
       try clear hfz22_4
       try clear hfz22_5
       try clear hfz22_6
       try clear hfz23_0
       try clear hfz23_1
       try clear hfz23_2
       try clear hfz23_3
       try clear hfz23_4
       try clear hfz23_5
       try clear hfz23_6
       try clear hfz7_0
       try clear hfz7_1
       try clear hfz7_2
       try clear hfz7_3
       try clear hfz7_4
       try clear hfz7_5
       try clear hfz7_6
       try clear hfz9_0
       try clear hfz9_1
       try clear hfz9_2
       try clear hfz9_3
       try clear hfz9_4
       try clear hfz9_5
       try clear hfz9_6
       try clear hx391_0
       try clear hx391_1
       try clear hx391_2
       try clear hx391_3
       try clear hx391_4
       try clear hx391_5
       try clear hx391_6
       try clear p2
       try clear p3
       try clear p391
       try clear q3
       try clear q391
       obtain ⟨kq, x45_11, rfl, HA, HJ11, BK392, HB⟩ := hcut
       cases kq with
       | zero => exact absurd HA.out (by simp [gangsawref24_node.j1])
       | succ kj11 =>
        have H := HA.out;clear HA;simp only [gangsawref24_node.j1] at H;by_cases c24 : x45_11 = true
        ·subst c24
         have H1 : (some 1) = some r := by rw [if_pos rfl] at H; exact H
         clear H;have H := H1;clear H1;obtain rfl := Option.some.inj H
         go_wp2
         go_ret
         exact ⟨by first | rfl | (simp [errW_none, errW_some] <;> rfl) | (simp [*, errW_none, errW_some] <;> rfl), by repeat (first|(with_reducible first|exact HB.out|apply lA|apply lN|apply lD|refine lS ?_ GE392.out)|exact HB.out)⟩
        ·replace c24 := Bool.eq_false_iff.mpr c24;subst c24
         have H1 : (if ((rd_T59 l0 a1).f0) = 3 then (gangsawref24_node.j2 kj11 l0 a1 (((rd_T59 l0 a1).f1).toList != ([] : List UInt8)) ((rd_T59 l0 a1).f0) ((rd_T59 l0 a1).f1) ((rd_T59 l0 a1).f2) ((rd_T59 l0 a1).f3) ((rd_T59 l0 a1).f4) ((rd_T59 l0 a1).f5) ((rd_T59 l0 a1).f6)) else (if ((rd_T59 l0 a1).f0) = 0 then (gangsawref24_node.j2 kj11 l0 a1 (((rd_T59 l0 a1).f1).toList != ([] : List UInt8)) ((rd_T59 l0 a1).f0) ((rd_T59 l0 a1).f1) ((rd_T59 l0 a1).f2) ((rd_T59 l0 a1).f3) ((rd_T59 l0 a1).f4) ((rd_T59 l0 a1).f5) ((rd_T59 l0 a1).f6)) else (gangsawref24_node.j2 kj11 l0 a1 false ((rd_T59 l0 a1).f0) ((rd_T59 l0 a1).f1) ((rd_T59 l0 a1).f2) ((rd_T59 l0 a1).f3) ((rd_T59 l0 a1).f4) ((rd_T59 l0 a1).f5) ((rd_T59 l0 a1).f6)))) = some r := by rw [if_neg (show ¬ (false = true) by decide)] at H; exact H
         clear H;have H := H1;clear H1;have HC25 := am H;clear H
         go_upto_region 6 with (fail)
         go_cut [58] (fun v58 wc => ∃ (kq : Nat) (x58_24 : Bool), v58 = .bool x58_24 ∧ Aside0 (gangsawref24_node.j2 kq l0 a1 x58_24 ((rd_T59 l0 a1).f0) ((rd_T59 l0 a1).f1) ((rd_T59 l0 a1).f2) ((rd_T59 l0 a1).f3) ((rd_T59 l0 a1).f4) ((rd_T59 l0 a1).f5) ((rd_T59 l0 a1).f6) = some r) ∧ Aside0 (kq ≤ kj11) ∧ Aside0 (wc.heap[gb392]? = some (.cells #[.int .i64 ((rd_T59 l0 a1).f0), .string ((rd_T59 l0 a1).f1), .int .i64 ((rd_T59 l0 a1).f2), .int .i64 ((rd_T59 l0 a1).f3), .int .i64 ((rd_T59 l0 a1).f4), .int .i64 ((rd_T59 l0 a1).f5), .int .i64 ((rd_T59 l0 a1).f6)] 59 (0, 0))) ∧ Aside0 (Below w.heap.size w wc))
         case first =>
          have H := HC25.out;clear HC25;by_cases c26 : ((rd_T59 l0 a1).f0) = 3
          ·rw [if_pos c26] at H;have c26b0 : (((rd_T59 l0 a1).f0) == 3) = true := beq_iff_eq.mpr c26;have c26b1 : (((rd_T59 l0 a1).f0) != 3) = false := bne_eq_false_iff_eq.mpr c26;clear c26;(first | rw [c26b0] | (simp only [i64_w, i32_w]; rw [c26b0]) | skip);have H' := am H;clear H;obtain ⟨hcz27_0, hcz27_1, hcz27_2, hcz27_3, hcz27_4, hcz27_5, hcz27_6, hfz27_0, hfz27_1, hfz27_2, hfz27_3, hfz27_4, hfz27_5, hfz27_6⟩ := c7_ BK392.out
           go_wp2
           go_meet
           case rel => exact ⟨_, ((((rd_T59 l0 a1).f1).toList != ([] : List UInt8))), (by first | rfl | (simp; done) | (simp [*]; done) | (simp; exact emp_ne _)), H', ⟨by have := HJ4.out; have := HJ11.out; first | omega | exact Nat.le_refl _⟩, ⟨bq BK392.out⟩, ⟨by repeat (first|(with_reducible first|exact HB.out|apply lA|apply lN|apply lD|refine lS ?_ GE392.out)|exact HB.out)⟩⟩
          ·rw [if_neg c26] at H;have c26b0 : (((rd_T59 l0 a1).f0) == 3) = false := beq_eq_false_iff_ne.mpr c26;have c26b1 : (((rd_T59 l0 a1).f0) != 3) = true := bne_iff_ne.mpr c26;(first | rw [c26b0] | (simp only [i64_w, i32_w]; rw [c26b0]) | skip)
           by_cases c28 : ((rd_T59 l0 a1).f0) = 0
           ·rw [if_pos c28] at H;have c28b0 : (((rd_T59 l0 a1).f0) == 0) = true := beq_iff_eq.mpr c28;have c28b1 : (((rd_T59 l0 a1).f0) != 0) = false := bne_eq_false_iff_eq.mpr c28;clear c28;have H' := am H;clear H;obtain ⟨hcz29_0, hcz29_1, hcz29_2, hcz29_3, hcz29_4, hcz29_5, hcz29_6, hfz29_0, hfz29_1, hfz29_2, hfz29_3, hfz29_4, hfz29_5, hfz29_6⟩ := c7_ BK392.out
            go_wp2
            go_meet
            case rel => exact ⟨_, ((((rd_T59 l0 a1).f1).toList != ([] : List UInt8))), (by first | rfl | (simp; done) | (simp [*]; done) | (simp; exact emp_ne _)), H', ⟨by have := HJ4.out; have := HJ11.out; first | omega | exact Nat.le_refl _⟩, ⟨bq BK392.out⟩, ⟨by repeat (first|(with_reducible first|exact HB.out|apply lA|apply lN|apply lD|refine lS ?_ GE392.out)|exact HB.out)⟩⟩
           ·rw [if_neg c28] at H;have c28b0 : (((rd_T59 l0 a1).f0) == 0) = false := beq_eq_false_iff_ne.mpr c28;have c28b1 : (((rd_T59 l0 a1).f0) != 0) = true := bne_iff_ne.mpr c28;have H' := am H;clear H;obtain ⟨hcz30_0, hcz30_1, hcz30_2, hcz30_3, hcz30_4, hcz30_5, hcz30_6, hfz30_0, hfz30_1, hfz30_2, hfz30_3, hfz30_4, hfz30_5, hfz30_6⟩ := c7_ BK392.out
            go_wp2
            go_meet
            case rel => exact ⟨_, (false), (by first | rfl | (simp; done) | (simp [*]; done)), H', ⟨by have := HJ4.out; have := HJ11.out; first | omega | exact Nat.le_refl _⟩, ⟨bq BK392.out⟩, ⟨by repeat (first|(with_reducible first|exact HB.out|apply lA|apply lN|apply lD|refine lS ?_ GE392.out)|exact HB.out)⟩⟩
         case rest =>
          clear HC25
          try clear c1
          try clear c2
          try clear p2
          try clear c3
          try clear c3b0
          try clear p3
          try clear q3
          try clear hx3
          try clear c4
          try clear c4b0
          try clear c7
          try clear c8
          try clear c8b0
          try clear c11
          try clear c13
          try clear c13b0
          try clear c13b1
          try clear c15
          try clear c15b0
          try clear c15b1
          try clear c16
          try clear c16b0
          try clear c16b1
          try clear c17
          try clear c17b0
          try clear c17b1
          try clear c18
          try clear c18b0
          try clear c18b1
          try clear c24
          try clear c26
          try clear c26b0
          try clear c26b1
          try clear c28
          try clear c28b0
          try clear c28b1
          try clear hcz10_0
          try clear hcz10_1
          try clear hcz10_2
          try clear hcz10_3
          try clear hcz10_4
          try clear hcz10_5
          try clear hcz10_6
          try clear hcz14_0
          try clear hcz14_1
          try clear hcz14_2
          try clear hcz14_3
          try clear hcz14_4
          try clear hcz14_5
          try clear hcz14_6
          try clear hcz19_0
          try clear hcz19_1
          try clear hcz19_2
          try clear hcz19_3
          try clear hcz19_4
          try clear hcz19_5
          try clear hcz19_6
          try clear hcz20_0
          try clear hcz20_1
          try clear hcz20_2
          try clear hcz20_3
          try clear hcz20_4
          try clear hcz20_5
          try clear hcz20_6
          try clear hcz21_0
          try clear hcz21_1
          try clear hcz21_2
          try clear hcz21_3
          try clear hcz21_4
          try clear hcz21_5
          try clear hcz21_6
          try clear hcz22_0
          try clear hcz22_1
          try clear hcz22_2
          try clear hcz22_3
          try clear hcz22_4
          try clear hcz22_5
          try clear hcz22_6
          try clear hcz23_0
          try clear hcz23_1
          try clear hcz23_2
          try clear hcz23_3
          try clear hcz23_4
          try clear hcz23_5
          try clear hcz23_6
          try clear hcz27_0
          try clear hcz27_1
          try clear hcz27_2
          try clear hcz27_3
          try clear hcz27_4
          try clear hcz27_5
          try clear hcz27_6
          try clear hcz29_0
          try clear hcz29_1
          try clear hcz29_2
          try clear hcz29_3
          try clear hcz29_4
          try clear hcz29_5
          try clear hcz29_6
          try clear hcz30_0
          try clear hcz30_1
          try clear hcz30_2
          try clear hcz30_3
          try clear hcz30_4
          try clear hcz30_5
          try clear hcz30_6
          try clear hcz7_0
          try clear hcz7_1
          try clear hcz7_2
          try clear hcz7_3
          try clear hcz7_4
          try clear hcz7_5
          try clear hcz7_6
          try clear hcz9_0
          try clear hcz9_1
          try clear hcz9_2
          try clear hcz9_3
          try clear hcz9_4
          try clear hcz9_5
          try clear hcz9_6
          try clear hfz10_0
          try clear hfz10_1
          try clear hfz10_2
          try clear hfz10_3
          try clear hfz10_4
          try clear hfz10_5
          try clear hfz10_6
          try clear hfz14_0
          try clear hfz14_1
          try clear hfz14_2
          try clear hfz14_3
          try clear hfz14_4
          try clear hfz14_5
          try clear hfz14_6
          try clear hfz19_0
          try clear hfz19_1
          try clear hfz19_2
          try clear hfz19_3
          try clear hfz19_4
          try clear hfz19_5
          try clear hfz19_6
          try clear hfz20_0
          try clear hfz20_1
          try clear hfz20_2
          try clear hfz20_3
          try clear hfz20_4
          try clear hfz20_5
          try clear hfz20_6
          try clear hfz21_0
          try clear hfz21_1
          try clear hfz21_2
          try clear hfz21_3
          try clear hfz21_4
          try clear hfz21_5
          try clear hfz21_6
          try clear hfz22_0
          try clear hfz22_1
          try clear hfz22_2
          try clear hfz22_3
          try clear hfz22_4
          try clear hfz22_5
          try clear hfz22_6
          try clear hfz23_0
          try clear hfz23_1
          try clear hfz23_2
          try clear hfz23_3
          try clear hfz23_4
          try clear hfz23_5
          try clear hfz23_6
          try clear hfz27_0
          try clear hfz27_1
          try clear hfz27_2
          try clear hfz27_3
          try clear hfz27_4
          try clear hfz27_5
          try clear hfz27_6
          try clear hfz29_0
          try clear hfz29_1
          try clear hfz29_2
          try clear hfz29_3
          try clear hfz29_4
          try clear hfz29_5
          try clear hfz29_6
          try clear hfz30_0
          try clear hfz30_1
          try clear hfz30_2
          try clear hfz30_3
          try clear hfz30_4
          try clear hfz30_5
          try clear hfz30_6
          try clear hfz7_0
          try clear hfz7_1
          try clear hfz7_2
          try clear hfz7_3
          try clear hfz7_4
          try clear hfz7_5
          try clear hfz7_6
          try clear hfz9_0
          try clear hfz9_1
          try clear hfz9_2
          try clear hfz9_3
          try clear hfz9_4
          try clear hfz9_5
          try clear hfz9_6
          try clear hx391_0
          try clear hx391_1
          try clear hx391_2
          try clear hx391_3
          try clear hx391_4
          try clear hx391_5
          try clear hx391_6
          try clear p2
          try clear p3
          try clear p391
          try clear q3
          try clear q391
          obtain ⟨kq, x58_24, rfl, HA, HJ24, BK392, HB⟩ := hcut
          cases kq with
          | zero => exact absurd HA.out (by simp [gangsawref24_node.j2])
          | succ kj24 =>
           have H := HA.out;clear HA;simp only [gangsawref24_node.j2] at H;by_cases c31 : x58_24 = true
           ·subst c31
            have H1 : (some 1) = some r := by rw [if_pos rfl] at H; exact H
            clear H;have H := H1;clear H1;obtain rfl := Option.some.inj H
            go_wp2
            go_ret
            exact ⟨by first | rfl | (simp [errW_none, errW_some] <;> rfl) | (simp [*, errW_none, errW_some] <;> rfl), by repeat (first|(with_reducible first|exact HB.out|apply lA|apply lN|apply lD|refine lS ?_ GE392.out)|exact HB.out)⟩
           ·replace c31 := Bool.eq_false_iff.mpr c31;subst c31
            have H1 : (if ((rd_T59 l0 a1).f0) = 3 then (if ((rd_T59 l0 a1).f2) < 0 then (gangsawref24_node.j3 kj24 true ((rd_T59 l0 a1).f0) ((rd_T59 l0 a1).f1) ((rd_T59 l0 a1).f2) ((rd_T59 l0 a1).f3) ((rd_T59 l0 a1).f4) ((rd_T59 l0 a1).f5) ((rd_T59 l0 a1).f6)) else (if ((rd_T59 l0 a1).f2) > 2 then (gangsawref24_node.j3 kj24 true ((rd_T59 l0 a1).f0) ((rd_T59 l0 a1).f1) ((rd_T59 l0 a1).f2) ((rd_T59 l0 a1).f3) ((rd_T59 l0 a1).f4) ((rd_T59 l0 a1).f5) ((rd_T59 l0 a1).f6)) else ((gangsawref24_part.f l0 a1 ((rd_T59 l0 a1).f5)).bind fun t393 => (if t393 = true then ((gangsawref24_part.f l0 a1 ((rd_T59 l0 a1).f6)).bind fun t394 => (gangsawref24_node.j3 kj24 (!t394) ((rd_T59 l0 a1).f0) ((rd_T59 l0 a1).f1) ((rd_T59 l0 a1).f2) ((rd_T59 l0 a1).f3) ((rd_T59 l0 a1).f4) ((rd_T59 l0 a1).f5) ((rd_T59 l0 a1).f6))) else (gangsawref24_node.j3 kj24 true ((rd_T59 l0 a1).f0) ((rd_T59 l0 a1).f1) ((rd_T59 l0 a1).f2) ((rd_T59 l0 a1).f3) ((rd_T59 l0 a1).f4) ((rd_T59 l0 a1).f5) ((rd_T59 l0 a1).f6)))))) else (gangsawref24_node.j3 kj24 false ((rd_T59 l0 a1).f0) ((rd_T59 l0 a1).f1) ((rd_T59 l0 a1).f2) ((rd_T59 l0 a1).f3) ((rd_T59 l0 a1).f4) ((rd_T59 l0 a1).f5) ((rd_T59 l0 a1).f6))) = some r := by rw [if_neg (show ¬ (false = true) by decide)] at H; exact H
            clear H;have H := H1;clear H1;have HC32 := am H;clear H
            go_upto_region 8 with (fail)
            go_cut [87] (fun v87 wc => ∃ (kq : Nat) (x87_31 : Bool), v87 = .bool x87_31 ∧ Aside0 (gangsawref24_node.j3 kq x87_31 ((rd_T59 l0 a1).f0) ((rd_T59 l0 a1).f1) ((rd_T59 l0 a1).f2) ((rd_T59 l0 a1).f3) ((rd_T59 l0 a1).f4) ((rd_T59 l0 a1).f5) ((rd_T59 l0 a1).f6) = some r) ∧ Aside0 (kq ≤ kj24) ∧ Aside0 (wc.heap[gb392]? = some (.cells #[.int .i64 ((rd_T59 l0 a1).f0), .string ((rd_T59 l0 a1).f1), .int .i64 ((rd_T59 l0 a1).f2), .int .i64 ((rd_T59 l0 a1).f3), .int .i64 ((rd_T59 l0 a1).f4), .int .i64 ((rd_T59 l0 a1).f5), .int .i64 ((rd_T59 l0 a1).f6)] 59 (0, 0))) ∧ Aside0 (Below w.heap.size w wc))
            case first =>
             have H := HC32.out;clear HC32;by_cases c33 : ((rd_T59 l0 a1).f0) = 3
             ·rw [if_pos c33] at H;have c33b0 : (((rd_T59 l0 a1).f0) == 3) = true := beq_iff_eq.mpr c33;have c33b1 : (((rd_T59 l0 a1).f0) != 3) = false := bne_eq_false_iff_eq.mpr c33;clear c33;(first | rw [c33b0] | (simp only [i64_w, i32_w]; rw [c33b0]) | skip)
              by_cases c34 : ((rd_T59 l0 a1).f2) < 0
              ·rw [if_pos c34] at H;have c34b0 : decide (((rd_T59 l0 a1).f2) < 0) = true := decide_eq_true c34;clear c34;have H' := am H;clear H;obtain ⟨hcz35_0, hcz35_1, hcz35_2, hcz35_3, hcz35_4, hcz35_5, hcz35_6, hfz35_0, hfz35_1, hfz35_2, hfz35_3, hfz35_4, hfz35_5, hfz35_6⟩ := c7_ BK392.out
               go_wp2
               go_meet
               case rel => exact ⟨_, (true), (by first | rfl | (simp; done) | (simp [*]; done)), H', ⟨by have := HJ4.out; have := HJ11.out; have := HJ24.out; first | omega | exact Nat.le_refl _⟩, ⟨bq BK392.out⟩, ⟨by repeat (first|(with_reducible first|exact HB.out|apply lA|apply lN|apply lD|refine lS ?_ GE392.out)|exact HB.out)⟩⟩
              ·rw [if_neg c34] at H;have c34b0 : decide (((rd_T59 l0 a1).f2) < 0) = false := decide_eq_false c34;clear c34;by_cases c36 : ((rd_T59 l0 a1).f2) > 2
               ·rw [if_pos c36] at H;have c36b0 : decide (2 < ((rd_T59 l0 a1).f2)) = true := decide_eq_true c36;clear c36;have H' := am H;clear H;obtain ⟨hcz37_0, hcz37_1, hcz37_2, hcz37_3, hcz37_4, hcz37_5, hcz37_6, hfz37_0, hfz37_1, hfz37_2, hfz37_3, hfz37_4, hfz37_5, hfz37_6⟩ := c7_ BK392.out
                go_wp2
                go_meet
                case rel => exact ⟨_, (true), (by first | rfl | (simp; done) | (simp [*]; done)), H', ⟨by have := HJ4.out; have := HJ11.out; have := HJ24.out; first | omega | exact Nat.le_refl _⟩, ⟨bq BK392.out⟩, ⟨by repeat (first|(with_reducible first|exact HB.out|apply lA|apply lN|apply lD|refine lS ?_ GE392.out)|exact HB.out)⟩⟩
               ·rw [if_neg c36] at H;have c36b0 : decide (2 < ((rd_T59 l0 a1).f2)) = false := decide_eq_false c36;clear c36;replace H := Option.bind_eq_some_iff.mp H;obtain ⟨t393, A380, H⟩ := H;replace H : (if t393 = true then ((gangsawref24_part.f l0 a1 ((rd_T59 l0 a1).f6)).bind fun t394 => (gangsawref24_node.j3 kj24 (!t394) ((rd_T59 l0 a1).f0) ((rd_T59 l0 a1).f1) ((rd_T59 l0 a1).f2) ((rd_T59 l0 a1).f3) ((rd_T59 l0 a1).f4) ((rd_T59 l0 a1).f5) ((rd_T59 l0 a1).f6))) else (gangsawref24_node.j3 kj24 true ((rd_T59 l0 a1).f0) ((rd_T59 l0 a1).f1) ((rd_T59 l0 a1).f2) ((rd_T59 l0 a1).f3) ((rd_T59 l0 a1).f4) ((rd_T59 l0 a1).f5) ((rd_T59 l0 a1).f6))) = some r := H;have A38 := am A380;clear A380;by_cases c39 : t393 = true
                ·subst c39
                 have H1 : ((gangsawref24_part.f l0 a1 ((rd_T59 l0 a1).f6)).bind fun t394 => (gangsawref24_node.j3 kj24 (!t394) ((rd_T59 l0 a1).f0) ((rd_T59 l0 a1).f1) ((rd_T59 l0 a1).f2) ((rd_T59 l0 a1).f3) ((rd_T59 l0 a1).f4) ((rd_T59 l0 a1).f5) ((rd_T59 l0 a1).f6))) = some r := by rw [if_pos rfl] at H; exact H
                 clear H;have H := H1;clear H1;replace H := Option.bind_eq_some_iff.mp H;obtain ⟨t394, A400, H⟩ := H;replace H : (gangsawref24_node.j3 kj24 (!t394) ((rd_T59 l0 a1).f0) ((rd_T59 l0 a1).f1) ((rd_T59 l0 a1).f2) ((rd_T59 l0 a1).f3) ((rd_T59 l0 a1).f4) ((rd_T59 l0 a1).f5) ((rd_T59 l0 a1).f6)) = some r := H;have A40 := am A400;clear A400;have H' := am H;clear H;obtain ⟨hcz41_0, hcz41_1, hcz41_2, hcz41_3, hcz41_4, hcz41_5, hcz41_6, hfz41_0, hfz41_1, hfz41_2, hfz41_3, hfz41_4, hfz41_5, hfz41_6⟩ := c7_ BK392.out
                 go_wp2_with (first | (go_at_call 88; (with_reducible refine (gangsawref24_part.calls _ _ l0 a1 ((rd_T59 l0 a1).f5) true _ ?side1 ?side2 A38.out).mono ?_); (case side1 => exact cq HR0.out HB.out); (case side2 => exact HC0.out); rintro e w' ⟨rfl, ⟨nd, rfl⟩⟩) | (go_at_call 88; (with_reducible refine (gangsawref24_part.calls _ _ l0 a1 ((rd_T59 l0 a1).f6) t394 _ ?side1 ?side2 A40.out).mono ?_); (case side1 => repeat (first | exact (Kd.C_below HR0.out (by repeat (first|(with_reducible first|exact HB.out|apply lA|apply lN|apply lD|refine lS ?_ GE392.out)|exact HB.out))) | (with_reducible refine Kd.C_alloc ?_ _) | (with_reducible refine Kd.C_drewN ?_ _) | (with_reducible refine Kd.C_drew ?_))); (case side2 => exact HC0.out); rintro e w' ⟨rfl, ⟨nd, rfl⟩⟩))
                 go_meet
                 case rel => exact ⟨_, (!t394), (by first | rfl | (simp; done) | (simp [*]; done)), H', ⟨by have := HJ4.out; have := HJ11.out; have := HJ24.out; first | omega | exact Nat.le_refl _⟩, ⟨bq BK392.out⟩, ⟨by repeat (first|(with_reducible first|exact HB.out|apply lA|apply lN|apply lD|refine lS ?_ GE392.out)|exact HB.out)⟩⟩
                ·replace c39 := Bool.eq_false_iff.mpr c39;subst c39
                 have H1 : (gangsawref24_node.j3 kj24 true ((rd_T59 l0 a1).f0) ((rd_T59 l0 a1).f1) ((rd_T59 l0 a1).f2) ((rd_T59 l0 a1).f3) ((rd_T59 l0 a1).f4) ((rd_T59 l0 a1).f5) ((rd_T59 l0 a1).f6)) = some r := by rw [if_neg (show ¬ (false = true) by decide)] at H; exact H
                 clear H;have H := H1;clear H1;have H' := am H;clear H;obtain ⟨hcz42_0, hcz42_1, hcz42_2, hcz42_3, hcz42_4, hcz42_5, hcz42_6, hfz42_0, hfz42_1, hfz42_2, hfz42_3, hfz42_4, hfz42_5, hfz42_6⟩ := c7_ BK392.out
                 go_wp2_with (first | (go_at_call 88; (with_reducible refine (gangsawref24_part.calls _ _ l0 a1 ((rd_T59 l0 a1).f5) false _ ?side1 ?side2 A38.out).mono ?_); (case side1 => exact cq HR0.out HB.out); (case side2 => exact HC0.out); rintro e w' ⟨rfl, ⟨nd, rfl⟩⟩))
                 go_meet
                 case rel => exact ⟨_, (true), (by first | rfl | (simp; done) | (simp [*]; done)), H', ⟨by have := HJ4.out; have := HJ11.out; have := HJ24.out; first | omega | exact Nat.le_refl _⟩, ⟨bq BK392.out⟩, ⟨by repeat (first|(with_reducible first|exact HB.out|apply lA|apply lN|apply lD|refine lS ?_ GE392.out)|exact HB.out)⟩⟩
             ·rw [if_neg c33] at H;have c33b0 : (((rd_T59 l0 a1).f0) == 3) = false := beq_eq_false_iff_ne.mpr c33;have c33b1 : (((rd_T59 l0 a1).f0) != 3) = true := bne_iff_ne.mpr c33;(first | rw [c33b0] | (simp only [i64_w, i32_w]; rw [c33b0]) | skip);have H' := am H;clear H;obtain ⟨hcz43_0, hcz43_1, hcz43_2, hcz43_3, hcz43_4, hcz43_5, hcz43_6, hfz43_0, hfz43_1, hfz43_2, hfz43_3, hfz43_4, hfz43_5, hfz43_6⟩ := c7_ BK392.out
              go_wp2
              go_meet
              case rel => exact ⟨_, (false), (by first | rfl | (simp; done) | (simp [*]; done)), H', ⟨by have := HJ4.out; have := HJ11.out; have := HJ24.out; first | omega | exact Nat.le_refl _⟩, ⟨bq BK392.out⟩, ⟨by repeat (first|(with_reducible first|exact HB.out|apply lA|apply lN|apply lD|refine lS ?_ GE392.out)|exact HB.out)⟩⟩
            case rest =>
             clear HC32
             try clear c1
             try clear c2
             try clear p2
             try clear c3
             try clear c3b0
             try clear p3
             try clear q3
             try clear hx3
             try clear c4
             try clear c4b0
             try clear c7
             try clear c8
             try clear c8b0
             try clear c11
             try clear c13
             try clear c13b0
             try clear c13b1
             try clear c15
             try clear c15b0
             try clear c15b1
             try clear c16
             try clear c16b0
             try clear c16b1
             try clear c17
             try clear c17b0
             try clear c17b1
             try clear c18
             try clear c18b0
             try clear c18b1
             try clear c24
             try clear c26
             try clear c26b0
             try clear c26b1
             try clear c28
             try clear c28b0
             try clear c28b1
             try clear c31
             try clear c33
             try clear c33b0
             try clear c33b1
             try clear c34
             try clear c34b0
             try clear c36
             try clear c36b0
             try clear c39
             try clear p39
             try clear q39
             try clear hx39
             try clear hcz10_0
             try clear hcz10_1
             try clear hcz10_2
             try clear hcz10_3
             try clear hcz10_4
             try clear hcz10_5
             try clear hcz10_6
             try clear hcz14_0
             try clear hcz14_1
             try clear hcz14_2
             try clear hcz14_3
             try clear hcz14_4
             try clear hcz14_5
             try clear hcz14_6
             try clear hcz19_0
             try clear hcz19_1
             try clear hcz19_2
             try clear hcz19_3
             try clear hcz19_4
             try clear hcz19_5
             try clear hcz19_6
             try clear hcz20_0
             try clear hcz20_1
             try clear hcz20_2
             try clear hcz20_3
             try clear hcz20_4
             try clear hcz20_5
             try clear hcz20_6
             try clear hcz21_0
             try clear hcz21_1
             try clear hcz21_2
             try clear hcz21_3
             try clear hcz21_4
             try clear hcz21_5
             try clear hcz21_6
             try clear hcz22_0
             try clear hcz22_1
             try clear hcz22_2
             try clear hcz22_3
             try clear hcz22_4
             try clear hcz22_5
             try clear hcz22_6
             try clear hcz23_0
             try clear hcz23_1
             try clear hcz23_2
             try clear hcz23_3
             try clear hcz23_4
             try clear hcz23_5
             try clear hcz23_6
             try clear hcz27_0
             try clear hcz27_1
             try clear hcz27_2
             try clear hcz27_3
             try clear hcz27_4
             try clear hcz27_5
             try clear hcz27_6
             try clear hcz29_0
             try clear hcz29_1
             try clear hcz29_2
             try clear hcz29_3
             try clear hcz29_4
             try clear hcz29_5
             try clear hcz29_6
             try clear hcz30_0
             try clear hcz30_1
             try clear hcz30_2
             try clear hcz30_3
             try clear hcz30_4
             try clear hcz30_5
             try clear hcz30_6
             try clear hcz35_0
             try clear hcz35_1
             try clear hcz35_2
             try clear hcz35_3
             try clear hcz35_4
             try clear hcz35_5
             try clear hcz35_6
             try clear hcz37_0
             try clear hcz37_1
             try clear hcz37_2
             try clear hcz37_3
             try clear hcz37_4
             try clear hcz37_5
             try clear hcz37_6
             try clear hcz41_0
             try clear hcz41_1
             try clear hcz41_2
             try clear hcz41_3
             try clear hcz41_4
             try clear hcz41_5
             try clear hcz41_6
             try clear hcz42_0
             try clear hcz42_1
             try clear hcz42_2
             try clear hcz42_3
             try clear hcz42_4
             try clear hcz42_5
             try clear hcz42_6
             try clear hcz43_0
             try clear hcz43_1
             try clear hcz43_2
             try clear hcz43_3
             try clear hcz43_4
             try clear hcz43_5
             try clear hcz43_6
             try clear hcz7_0
             try clear hcz7_1
             try clear hcz7_2
             try clear hcz7_3
             try clear hcz7_4
             try clear hcz7_5
             try clear hcz7_6
             try clear hcz9_0
             try clear hcz9_1
             try clear hcz9_2
             try clear hcz9_3
             try clear hcz9_4
             try clear hcz9_5
             try clear hcz9_6
             try clear hfz10_0
             try clear hfz10_1
             try clear hfz10_2
             try clear hfz10_3
             try clear hfz10_4
             try clear hfz10_5
             try clear hfz10_6
             try clear hfz14_0
             try clear hfz14_1
             try clear hfz14_2
             try clear hfz14_3
             try clear hfz14_4
             try clear hfz14_5
             try clear hfz14_6
             try clear hfz19_0
             try clear hfz19_1
             try clear hfz19_2
             try clear hfz19_3
             try clear hfz19_4
             try clear hfz19_5
             try clear hfz19_6
             try clear hfz20_0
             try clear hfz20_1
             try clear hfz20_2
             try clear hfz20_3
             try clear hfz20_4
             try clear hfz20_5
             try clear hfz20_6
             try clear hfz21_0
             try clear hfz21_1
             try clear hfz21_2
             try clear hfz21_3
             try clear hfz21_4
             try clear hfz21_5
             try clear hfz21_6
             try clear hfz22_0
             try clear hfz22_1
             try clear hfz22_2
             try clear hfz22_3
             try clear hfz22_4
             try clear hfz22_5
             try clear hfz22_6
             try clear hfz23_0
             try clear hfz23_1
             try clear hfz23_2
             try clear hfz23_3
             try clear hfz23_4
             try clear hfz23_5
             try clear hfz23_6
             try clear hfz27_0
             try clear hfz27_1
             try clear hfz27_2
             try clear hfz27_3
             try clear hfz27_4
             try clear hfz27_5
             try clear hfz27_6
             try clear hfz29_0
             try clear hfz29_1
             try clear hfz29_2
             try clear hfz29_3
             try clear hfz29_4
             try clear hfz29_5
             try clear hfz29_6
             try clear hfz30_0
             try clear hfz30_1
             try clear hfz30_2
             try clear hfz30_3
             try clear hfz30_4
             try clear hfz30_5
             try clear hfz30_6
             try clear hfz35_0
             try clear hfz35_1
             try clear hfz35_2
             try clear hfz35_3
             try clear hfz35_4
             try clear hfz35_5
             try clear hfz35_6
             try clear hfz37_0
             try clear hfz37_1
             try clear hfz37_2
             try clear hfz37_3
             try clear hfz37_4
             try clear hfz37_5
             try clear hfz37_6
             try clear hfz41_0
             try clear hfz41_1
             try clear hfz41_2
             try clear hfz41_3
             try clear hfz41_4
             try clear hfz41_5
             try clear hfz41_6
             try clear hfz42_0
             try clear hfz42_1
             try clear hfz42_2
             try clear hfz42_3
             try clear hfz42_4
             try clear hfz42_5
             try clear hfz42_6
             try clear hfz43_0
             try clear hfz43_1
             try clear hfz43_2
             try clear hfz43_3
             try clear hfz43_4
             try clear hfz43_5
             try clear hfz43_6
             try clear hfz7_0
             try clear hfz7_1
             try clear hfz7_2
             try clear hfz7_3
             try clear hfz7_4
             try clear hfz7_5
             try clear hfz7_6
             try clear hfz9_0
             try clear hfz9_1
             try clear hfz9_2
             try clear hfz9_3
             try clear hfz9_4
             try clear hfz9_5
             try clear hfz9_6
             try clear hx391_0
             try clear hx391_1
             try clear hx391_2
             try clear hx391_3
             try clear hx391_4
             try clear hx391_5
             try clear hx391_6
             try clear p2
             try clear p3
             try clear p391
             try clear q3
             try clear q391
             obtain ⟨kq, x87_31, rfl, HA, HJ31, BK392, HB⟩ := hcut
             cases kq with
             | zero => exact absurd HA.out (by simp [gangsawref24_node.j3])
             | succ kj31 =>
              have H := HA.out;clear HA;simp only [gangsawref24_node.j3] at H;by_cases c44 : x87_31 = true
              ·subst c44
               have H1 : (some 1) = some r := by rw [if_pos rfl] at H; exact H
               clear H;have H := H1;clear H1;obtain rfl := Option.some.inj H
               go_wp2
               go_ret
               exact ⟨by first | rfl | (simp [errW_none, errW_some] <;> rfl) | (simp [*, errW_none, errW_some] <;> rfl), by repeat (first|(with_reducible first|exact HB.out|apply lA|apply lN|apply lD|refine lS ?_ GE392.out)|exact HB.out)⟩
              ·replace c44 := Bool.eq_false_iff.mpr c44;subst c44
               have H1 : (if ((rd_T59 l0 a1).f0) = 1 then ((gangsawref09_Name.f kj31 ((rd_T59 l0 a1).f1)).bind fun t395 => (gangsawref24_node.j4 kj31 (!t395) ((rd_T59 l0 a1).f0) ((rd_T59 l0 a1).f1) ((rd_T59 l0 a1).f2) ((rd_T59 l0 a1).f3) ((rd_T59 l0 a1).f4) ((rd_T59 l0 a1).f5) ((rd_T59 l0 a1).f6))) else (if ((rd_T59 l0 a1).f0) = 2 then ((gangsawref09_Name.f kj31 ((rd_T59 l0 a1).f1)).bind fun t396 => (gangsawref24_node.j4 kj31 (!t396) ((rd_T59 l0 a1).f0) ((rd_T59 l0 a1).f1) ((rd_T59 l0 a1).f2) ((rd_T59 l0 a1).f3) ((rd_T59 l0 a1).f4) ((rd_T59 l0 a1).f5) ((rd_T59 l0 a1).f6))) else (gangsawref24_node.j4 kj31 false ((rd_T59 l0 a1).f0) ((rd_T59 l0 a1).f1) ((rd_T59 l0 a1).f2) ((rd_T59 l0 a1).f3) ((rd_T59 l0 a1).f4) ((rd_T59 l0 a1).f5) ((rd_T59 l0 a1).f6)))) = some r := by rw [if_neg (show ¬ (false = true) by decide)] at H; exact H
               clear H;have H := H1;clear H1;have HC45 := am H;clear H
               go_upto_region 10 with (fail)
               go_cut [101] (fun v101 wc => ∃ (kq : Nat) (x101_44 : Bool), v101 = .bool x101_44 ∧ Aside0 (gangsawref24_node.j4 kq x101_44 ((rd_T59 l0 a1).f0) ((rd_T59 l0 a1).f1) ((rd_T59 l0 a1).f2) ((rd_T59 l0 a1).f3) ((rd_T59 l0 a1).f4) ((rd_T59 l0 a1).f5) ((rd_T59 l0 a1).f6) = some r) ∧ Aside0 (kq ≤ kj31) ∧ Aside0 (wc.heap[gb392]? = some (.cells #[.int .i64 ((rd_T59 l0 a1).f0), .string ((rd_T59 l0 a1).f1), .int .i64 ((rd_T59 l0 a1).f2), .int .i64 ((rd_T59 l0 a1).f3), .int .i64 ((rd_T59 l0 a1).f4), .int .i64 ((rd_T59 l0 a1).f5), .int .i64 ((rd_T59 l0 a1).f6)] 59 (0, 0))) ∧ Aside0 (Below w.heap.size w wc))
               case first =>
                have H := HC45.out;clear HC45;by_cases c46 : ((rd_T59 l0 a1).f0) = 1
                ·rw [if_pos c46] at H;have c46b0 : (((rd_T59 l0 a1).f0) == 1) = true := beq_iff_eq.mpr c46;have c46b1 : (((rd_T59 l0 a1).f0) != 1) = false := bne_eq_false_iff_eq.mpr c46;clear c46;(first | rw [c46b0] | (simp only [i64_w, i32_w]; rw [c46b0]) | skip);replace H := Option.bind_eq_some_iff.mp H;obtain ⟨t395, A470, H⟩ := H;replace H : (gangsawref24_node.j4 kj31 (!t395) ((rd_T59 l0 a1).f0) ((rd_T59 l0 a1).f1) ((rd_T59 l0 a1).f2) ((rd_T59 l0 a1).f3) ((rd_T59 l0 a1).f4) ((rd_T59 l0 a1).f5) ((rd_T59 l0 a1).f6)) = some r := H;have A47 := am A470;clear A470;have H' := am H;clear H;obtain ⟨hcz48_0, hcz48_1, hcz48_2, hcz48_3, hcz48_4, hcz48_5, hcz48_6, hfz48_0, hfz48_1, hfz48_2, hfz48_3, hfz48_4, hfz48_5, hfz48_6⟩ := c7_ BK392.out
                 go_wp2_with (first | (go_at_call 33; (with_reducible refine (gangsawref09_Name.calls kj31 ((rd_T59 l0 a1).f1) t395 _ A47.out).mono ?_); rintro e w' ⟨rfl, ⟨nd, rfl⟩⟩))
                 go_meet
                 case rel => exact ⟨_, (!t395), (by first | rfl | (simp; done) | (simp [*]; done)), H', ⟨by have := HJ4.out; have := HJ11.out; have := HJ24.out; have := HJ31.out; first | omega | exact Nat.le_refl _⟩, ⟨bq BK392.out⟩, ⟨by repeat (first|(with_reducible first|exact HB.out|apply lA|apply lN|apply lD|refine lS ?_ GE392.out)|exact HB.out)⟩⟩
                ·rw [if_neg c46] at H;have c46b0 : (((rd_T59 l0 a1).f0) == 1) = false := beq_eq_false_iff_ne.mpr c46;have c46b1 : (((rd_T59 l0 a1).f0) != 1) = true := bne_iff_ne.mpr c46;(first | rw [c46b0] | (simp only [i64_w, i32_w]; rw [c46b0]) | skip)
                 by_cases c49 : ((rd_T59 l0 a1).f0) = 2
                 ·rw [if_pos c49] at H;have c49b0 : (((rd_T59 l0 a1).f0) == 2) = true := beq_iff_eq.mpr c49;have c49b1 : (((rd_T59 l0 a1).f0) != 2) = false := bne_eq_false_iff_eq.mpr c49;clear c49;replace H := Option.bind_eq_some_iff.mp H;obtain ⟨t396, A500, H⟩ := H;replace H : (gangsawref24_node.j4 kj31 (!t396) ((rd_T59 l0 a1).f0) ((rd_T59 l0 a1).f1) ((rd_T59 l0 a1).f2) ((rd_T59 l0 a1).f3) ((rd_T59 l0 a1).f4) ((rd_T59 l0 a1).f5) ((rd_T59 l0 a1).f6)) = some r := H;have A50 := am A500;clear A500;have H' := am H;clear H;obtain ⟨hcz51_0, hcz51_1, hcz51_2, hcz51_3, hcz51_4, hcz51_5, hcz51_6, hfz51_0, hfz51_1, hfz51_2, hfz51_3, hfz51_4, hfz51_5, hfz51_6⟩ := c7_ BK392.out
                  go_wp2_with (first | (go_at_call 33; (with_reducible refine (gangsawref09_Name.calls kj31 ((rd_T59 l0 a1).f1) t396 _ A50.out).mono ?_); rintro e w' ⟨rfl, ⟨nd, rfl⟩⟩))
                  go_meet
                  case rel => exact ⟨_, (!t396), (by first | rfl | (simp; done) | (simp [*]; done)), H', ⟨by have := HJ4.out; have := HJ11.out; have := HJ24.out; have := HJ31.out; first | omega | exact Nat.le_refl _⟩, ⟨bq BK392.out⟩, ⟨by repeat (first|(with_reducible first|exact HB.out|apply lA|apply lN|apply lD|refine lS ?_ GE392.out)|exact HB.out)⟩⟩
                 ·rw [if_neg c49] at H;have c49b0 : (((rd_T59 l0 a1).f0) == 2) = false := beq_eq_false_iff_ne.mpr c49;have c49b1 : (((rd_T59 l0 a1).f0) != 2) = true := bne_iff_ne.mpr c49;have H' := am H;clear H;obtain ⟨hcz52_0, hcz52_1, hcz52_2, hcz52_3, hcz52_4, hcz52_5, hcz52_6, hfz52_0, hfz52_1, hfz52_2, hfz52_3, hfz52_4, hfz52_5, hfz52_6⟩ := c7_ BK392.out
                  go_wp2
                  go_meet
                  case rel => exact ⟨_, (false), (by first | rfl | (simp; done) | (simp [*]; done)), H', ⟨by have := HJ4.out; have := HJ11.out; have := HJ24.out; have := HJ31.out; first | omega | exact Nat.le_refl _⟩, ⟨bq BK392.out⟩, ⟨by repeat (first|(with_reducible first|exact HB.out|apply lA|apply lN|apply lD|refine lS ?_ GE392.out)|exact HB.out)⟩⟩
               case rest =>
                clear HC45
                try clear c1
                try clear c2
                try clear p2
                try clear c3
                try clear c3b0
                try clear p3
                try clear q3
                try clear hx3
                try clear c4
                try clear c4b0
                try clear c7
                try clear c8
                try clear c8b0
                try clear c11
                try clear c13
                try clear c13b0
                try clear c13b1
                try clear c15
                try clear c15b0
                try clear c15b1
                try clear c16
                try clear c16b0
                try clear c16b1
                try clear c17
                try clear c17b0
                try clear c17b1
                try clear c18
                try clear c18b0
                try clear c18b1
                try clear c24
                try clear c26
                try clear c26b0
                try clear c26b1
                try clear c28
                try clear c28b0
                try clear c28b1
                try clear c31
                try clear c33
                try clear c33b0
                try clear c33b1
                try clear c34
                try clear c34b0
                try clear c36
                try clear c36b0
                try clear c39
                try clear p39
                try clear q39
                try clear hx39
                try clear c44
                try clear c46
                try clear c46b0
                try clear c46b1
                try clear c49
                try clear c49b0
                try clear c49b1
                try clear hcz10_0
                try clear hcz10_1
                try clear hcz10_2
                try clear hcz10_3
                try clear hcz10_4
                try clear hcz10_5
                try clear hcz10_6
                try clear hcz14_0
                try clear hcz14_1
                try clear hcz14_2
                try clear hcz14_3
                try clear hcz14_4
                try clear hcz14_5
                try clear hcz14_6
                try clear hcz19_0
                try clear hcz19_1
                try clear hcz19_2
                try clear hcz19_3
                try clear hcz19_4
                try clear hcz19_5
                try clear hcz19_6
                try clear hcz20_0
                try clear hcz20_1
                try clear hcz20_2
                try clear hcz20_3
                try clear hcz20_4
                try clear hcz20_5
                try clear hcz20_6
                try clear hcz21_0
                try clear hcz21_1
                try clear hcz21_2
                try clear hcz21_3
                try clear hcz21_4
                try clear hcz21_5
                try clear hcz21_6
                try clear hcz22_0
                try clear hcz22_1
                try clear hcz22_2
                try clear hcz22_3
                try clear hcz22_4
                try clear hcz22_5
                try clear hcz22_6
                try clear hcz23_0
                try clear hcz23_1
                try clear hcz23_2
                try clear hcz23_3
                try clear hcz23_4
                try clear hcz23_5
                try clear hcz23_6
                try clear hcz27_0
                try clear hcz27_1
                try clear hcz27_2
                try clear hcz27_3
                try clear hcz27_4
                try clear hcz27_5
                try clear hcz27_6
                try clear hcz29_0
                try clear hcz29_1
                try clear hcz29_2
                try clear hcz29_3
                try clear hcz29_4
                try clear hcz29_5
                try clear hcz29_6
                try clear hcz30_0
                try clear hcz30_1
                try clear hcz30_2
                try clear hcz30_3
                try clear hcz30_4
                try clear hcz30_5
                try clear hcz30_6
                try clear hcz35_0
                try clear hcz35_1
                try clear hcz35_2
                try clear hcz35_3
                try clear hcz35_4
                try clear hcz35_5
                try clear hcz35_6
                try clear hcz37_0
                try clear hcz37_1
                try clear hcz37_2
                try clear hcz37_3
                try clear hcz37_4
                try clear hcz37_5
                try clear hcz37_6
                try clear hcz41_0
                try clear hcz41_1
                try clear hcz41_2
                try clear hcz41_3
                try clear hcz41_4
                try clear hcz41_5
                try clear hcz41_6
                try clear hcz42_0
                try clear hcz42_1
                try clear hcz42_2
                try clear hcz42_3
                try clear hcz42_4
                try clear hcz42_5
                try clear hcz42_6
                try clear hcz43_0
                try clear hcz43_1
                try clear hcz43_2
                try clear hcz43_3
                try clear hcz43_4
                try clear hcz43_5
                try clear hcz43_6
                try clear hcz48_0
                try clear hcz48_1
                try clear hcz48_2
                try clear hcz48_3
                try clear hcz48_4
                try clear hcz48_5
                try clear hcz48_6
                try clear hcz51_0
                try clear hcz51_1
                try clear hcz51_2
                try clear hcz51_3
                try clear hcz51_4
                try clear hcz51_5
                try clear hcz51_6
                try clear hcz52_0
                try clear hcz52_1
                try clear hcz52_2
                try clear hcz52_3
                try clear hcz52_4
                try clear hcz52_5
                try clear hcz52_6
                try clear hcz7_0
                try clear hcz7_1
                try clear hcz7_2
                try clear hcz7_3
                try clear hcz7_4
                try clear hcz7_5
                try clear hcz7_6
                try clear hcz9_0
                try clear hcz9_1
                try clear hcz9_2
                try clear hcz9_3
                try clear hcz9_4
                try clear hcz9_5
                try clear hcz9_6
                try clear hfz10_0
                try clear hfz10_1
                try clear hfz10_2
                try clear hfz10_3
                try clear hfz10_4
                try clear hfz10_5
                try clear hfz10_6
                try clear hfz14_0
                try clear hfz14_1
                try clear hfz14_2
                try clear hfz14_3
                try clear hfz14_4
                try clear hfz14_5
                try clear hfz14_6
                try clear hfz19_0
                try clear hfz19_1
                try clear hfz19_2
                try clear hfz19_3
                try clear hfz19_4
                try clear hfz19_5
                try clear hfz19_6
                try clear hfz20_0
                try clear hfz20_1
                try clear hfz20_2
                try clear hfz20_3
                try clear hfz20_4
                try clear hfz20_5
                try clear hfz20_6
                try clear hfz21_0
                try clear hfz21_1
                try clear hfz21_2
                try clear hfz21_3
                try clear hfz21_4
                try clear hfz21_5
                try clear hfz21_6
                try clear hfz22_0
                try clear hfz22_1
                try clear hfz22_2
                try clear hfz22_3
                try clear hfz22_4
                try clear hfz22_5
                try clear hfz22_6
                try clear hfz23_0
                try clear hfz23_1
                try clear hfz23_2
                try clear hfz23_3
                try clear hfz23_4
                try clear hfz23_5
                try clear hfz23_6
                try clear hfz27_0
                try clear hfz27_1
                try clear hfz27_2
                try clear hfz27_3
                try clear hfz27_4
                try clear hfz27_5
                try clear hfz27_6
                try clear hfz29_0
                try clear hfz29_1
                try clear hfz29_2
                try clear hfz29_3
                try clear hfz29_4
                try clear hfz29_5
                try clear hfz29_6
                try clear hfz30_0
                try clear hfz30_1
                try clear hfz30_2
                try clear hfz30_3
                try clear hfz30_4
                try clear hfz30_5
                try clear hfz30_6
                try clear hfz35_0
                try clear hfz35_1
                try clear hfz35_2
                try clear hfz35_3
                try clear hfz35_4
                try clear hfz35_5
                try clear hfz35_6
                try clear hfz37_0
                try clear hfz37_1
                try clear hfz37_2
                try clear hfz37_3
                try clear hfz37_4
                try clear hfz37_5
                try clear hfz37_6
                try clear hfz41_0
                try clear hfz41_1
                try clear hfz41_2
                try clear hfz41_3
                try clear hfz41_4
                try clear hfz41_5
                try clear hfz41_6
                try clear hfz42_0
                try clear hfz42_1
                try clear hfz42_2
                try clear hfz42_3
                try clear hfz42_4
                try clear hfz42_5
                try clear hfz42_6
                try clear hfz43_0
                try clear hfz43_1
                try clear hfz43_2
                try clear hfz43_3
                try clear hfz43_4
                try clear hfz43_5
                try clear hfz43_6
                try clear hfz48_0
                try clear hfz48_1
                try clear hfz48_2
                try clear hfz48_3
                try clear hfz48_4
                try clear hfz48_5
                try clear hfz48_6
                try clear hfz51_0
                try clear hfz51_1
                try clear hfz51_2
                try clear hfz51_3
                try clear hfz51_4
                try clear hfz51_5
                try clear hfz51_6
                try clear hfz52_0
                try clear hfz52_1
                try clear hfz52_2
                try clear hfz52_3
                try clear hfz52_4
                try clear hfz52_5
                try clear hfz52_6
                try clear hfz7_0
                try clear hfz7_1
                try clear hfz7_2
                try clear hfz7_3
                try clear hfz7_4
                try clear hfz7_5
                try clear hfz7_6
                try clear hfz9_0
                try clear hfz9_1
                try clear hfz9_2
                try clear hfz9_3
                try clear hfz9_4
                try clear hfz9_5
                try clear hfz9_6
                try clear hx391_0
                try clear hx391_1
                try clear hx391_2
                try clear hx391_3
                try clear hx391_4
                try clear hx391_5
                try clear hx391_6
                try clear p2
                try clear p3
                try clear p39
                try clear p391
                try clear q3
                try clear q39
                try clear q391
                obtain ⟨kq, x101_44, rfl, HA, HJ44, BK392, HB⟩ := hcut
                cases kq with
                | zero => exact absurd HA.out (by simp [gangsawref24_node.j4])
                | succ kj44 =>
                 have H := HA.out;clear HA;simp only [gangsawref24_node.j4] at H;by_cases c53 : x101_44 = true
                 ·subst c53
                  have H1 : (some 4) = some r := by rw [if_pos rfl] at H; exact H
                  clear H;have H := H1;clear H1;obtain rfl := Option.some.inj H
                  go_wp2
                  go_ret
                  exact ⟨by first | rfl | (simp [errW_none, errW_some] <;> rfl) | (simp [*, errW_none, errW_some] <;> rfl), by repeat (first|(with_reducible first|exact HB.out|apply lA|apply lN|apply lD|refine lS ?_ GE392.out)|exact HB.out)⟩
                 ·replace c53 := Bool.eq_false_iff.mpr c53;subst c53
                  have H1 : (if ((rd_T59 l0 a1).f0) = 3 then (if ((rd_T59 l0 a1).f4) < 0 then (some 6) else (if ((rd_T59 l0 a1).f4) > 1000 then (some 6) else (some 0))) else (some 0)) = some r := by rw [if_neg (show ¬ (false = true) by decide)] at H; exact H
                  clear H;have H := H1;clear H1;by_cases c54 : ((rd_T59 l0 a1).f0) = 3
                  ·rw [if_pos c54] at H;have c54b0 : (((rd_T59 l0 a1).f0) == 3) = true := beq_iff_eq.mpr c54;have c54b1 : (((rd_T59 l0 a1).f0) != 3) = false := bne_eq_false_iff_eq.mpr c54;clear c54;by_cases c55 : ((rd_T59 l0 a1).f4) < 0
                   ·rw [if_pos c55] at H;have c55b0 : decide (((rd_T59 l0 a1).f4) < 0) = true := decide_eq_true c55;clear c55;obtain rfl := Option.some.inj H;obtain ⟨hcz56_0, hcz56_1, hcz56_2, hcz56_3, hcz56_4, hcz56_5, hcz56_6, hfz56_0, hfz56_1, hfz56_2, hfz56_3, hfz56_4, hfz56_5, hfz56_6⟩ := c7_ BK392.out
                    go_wp2
                    go_ret
                    exact ⟨by first | rfl | (simp [errW_none, errW_some] <;> rfl) | (simp [*, errW_none, errW_some] <;> rfl), by repeat (first|(with_reducible first|exact HB.out|apply lA|apply lN|apply lD|refine lS ?_ GE392.out)|exact HB.out)⟩
                   ·rw [if_neg c55] at H;have c55b0 : decide (((rd_T59 l0 a1).f4) < 0) = false := decide_eq_false c55;clear c55;by_cases c57 : ((rd_T59 l0 a1).f4) > 1000
                    ·rw [if_pos c57] at H;have c57b0 : decide (1000 < ((rd_T59 l0 a1).f4)) = true := decide_eq_true c57;clear c57;obtain rfl := Option.some.inj H;obtain ⟨hcz58_0, hcz58_1, hcz58_2, hcz58_3, hcz58_4, hcz58_5, hcz58_6, hfz58_0, hfz58_1, hfz58_2, hfz58_3, hfz58_4, hfz58_5, hfz58_6⟩ := c7_ BK392.out
                     go_wp2
                     go_ret
                     exact ⟨by first | rfl | (simp [errW_none, errW_some] <;> rfl) | (simp [*, errW_none, errW_some] <;> rfl), by repeat (first|(with_reducible first|exact HB.out|apply lA|apply lN|apply lD|refine lS ?_ GE392.out)|exact HB.out)⟩
                    ·rw [if_neg c57] at H;have c57b0 : decide (1000 < ((rd_T59 l0 a1).f4)) = false := decide_eq_false c57;clear c57;obtain rfl := Option.some.inj H;obtain ⟨hcz59_0, hcz59_1, hcz59_2, hcz59_3, hcz59_4, hcz59_5, hcz59_6, hfz59_0, hfz59_1, hfz59_2, hfz59_3, hfz59_4, hfz59_5, hfz59_6⟩ := c7_ BK392.out
                     go_wp2
                     go_ret
                     exact ⟨by first | rfl | (simp [errW_none, errW_some] <;> rfl) | (simp [*, errW_none, errW_some] <;> rfl), by repeat (first|(with_reducible first|exact HB.out|apply lA|apply lN|apply lD|refine lS ?_ GE392.out)|exact HB.out)⟩
                  ·rw [if_neg c54] at H;have c54b0 : (((rd_T59 l0 a1).f0) == 3) = false := beq_eq_false_iff_ne.mpr c54;have c54b1 : (((rd_T59 l0 a1).f0) != 3) = true := bne_iff_ne.mpr c54;obtain rfl := Option.some.inj H;obtain ⟨hcz60_0, hcz60_1, hcz60_2, hcz60_3, hcz60_4, hcz60_5, hcz60_6, hfz60_0, hfz60_1, hfz60_2, hfz60_3, hfz60_4, hfz60_5, hfz60_6⟩ := c7_ BK392.out
                   go_wp2
                   go_ret
                   exact ⟨by first | rfl | (simp [errW_none, errW_some] <;> rfl) | (simp [*, errW_none, errW_some] <;> rfl), by repeat (first|(with_reducible first|exact HB.out|apply lA|apply lN|apply lD|refine lS ?_ GE392.out)|exact HB.out)⟩
  (rw [if_neg c4] at H;exact absurd H (by simp))
 (rw [if_neg c3] at H;exact absurd H (by simp))
end Go.Proofs.Ytdnjagfbhppmbaa.PA
