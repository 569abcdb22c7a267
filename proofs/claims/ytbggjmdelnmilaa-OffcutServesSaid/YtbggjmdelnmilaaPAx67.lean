import Derived.Test.YtbggjmdelnmilaaPAx0
namespace Go.Proofs.Ytbggjmdelnmilaa.PA
open Go.RowKit Go.Proofs.YtbggjmdelnmilaaW.PrintWords Go.Proofs.YtbggjmdelnmilaaW.PrintLast Go.Proofs.YtbggjmdelnmilaaW.PrintMore
attribute [local go_sem] max2_int min2_int max_two min_two max_three min_three max_four min_four
set_option linter.unusedVariables false
set_option linter.unusedSimpArgs false
-- GIVEN: function 17 (offcut_Check)
-- NOT PRINTED: function 88 (offcut_Want_88)
-- NOT PRINTED: function 81 (offcut_Want_81)
-- GIVEN: function 63 (offcut_wanted)
def offcut_contains.f (a0_0 : Int) (a0_1 : Int) (a0_2 : Int) (a1_0 : Int) (a1_1 : Int) (a1_2 : Int) : Option (Bool):=if a1_0 ≤ a0_0 then (if a1_1 ≤ a0_1 then (some (decide (a1_2 ≤ a0_2))) else (some false)) else (some false)
set_option maxHeartbeats 8000000 in
set_option maxRecDepth 100000 in
theorem offcut_contains.calls (a0_0 : Int) (a0_1 : Int) (a0_2 : Int) (a1_0 : Int) (a1_1 : Int) (a1_2 : Int) (r : Bool) (w : World) (h : offcut_contains.f a0_0 a0_1 a0_2 a1_0 a1_1 a1_2 = some r) :
  Calls Try.prog 78 #[.agg #[.int .i64 a0_0,.int .i64 a0_1,.int .i64 a0_2],.agg #[.int .i64 a1_0,.int .i64 a1_1,.int .i64 a1_2]] w fun e w'=>e = .returned (.bool r) ∧ Below w.heap.size w w':=by
 have hu24:=Try.underlying24;have HB:=am (Below.refl w.heap.size w);have H : (if a1_0 ≤ a0_0 then (if a1_1 ≤ a0_1 then (some (decide (a1_2 ≤ a0_2))) else (some false)) else (some false)) = some r:=h;clear h;by_cases c3 : a1_0 ≤ a0_0
 ·rw [if_pos c3] at H;have c3b0 : decide (a1_0 ≤ a0_0) = true:=decide_eq_true c3;clear c3;by_cases c4 : a1_1 ≤ a0_1
  ·rw [if_pos c4] at H;have c4b0 : decide (a1_1 ≤ a0_1) = true:=decide_eq_true c4;clear c4;obtain rfl:=Option.some.inj H
   go_enter Try.func78,Try.ntmps78
   go_wp2_with (first|((with_reducible refine gate_dst (N:=2) rfl ?_);refine be 2 24 (cs:=#[.int .i64 a0_0,.int .i64 a0_1,.int .i64 a0_2]) ?_;intro gb104 hg w5 hbox hb;have BK104:=am hbox;have GW104:=bza HB hg;have GE104:=bza HB hg;replace HB:=bsa HB hb;clear hb hbox hg)|((with_reducible refine gate_dst (N:=3) rfl ?_);refine be 3 24 (cs:=#[.int .i64 a1_0,.int .i64 a1_1,.int .i64 a1_2]) ?_;intro gb105 hg w6 hbox hb;have BK105:=am hbox;have GW105:=bza HB hg;have GE105:=bza HB hg;have NB104_105:=bla BK104 hg;have NB105_104:=bga BK104 hg;replace BK104:=bba BK104 hb;replace HB:=bsa HB hb;clear hb hbox hg;have hnb7:=NB105_104.out;have hnc7:=NB104_105.out;obtain ⟨hcz8_0,hcz8_1,hcz8_2,hfz8_0,hfz8_1,hfz8_2⟩ := c3_ BK105.out;obtain ⟨hcz9_0,hcz9_1,hcz9_2,hfz9_0,hfz9_1,hfz9_2⟩ := c3_ BK104.out))
   go_ret
   exact ⟨by first|rfl|(simp [errW_none,errW_some] <;> rfl)|(simp [*,errW_none,errW_some] <;> rfl),by repeat (first|(with_reducible first|exact HB.out|apply lA|apply lN|apply lD|refine lS ?_ GE104.out|refine lS ?_ GE105.out)|exact HB.out)⟩
  ·rw [if_neg c4] at H;have c4b0 : decide (a1_1 ≤ a0_1) = false:=decide_eq_false c4;clear c4;obtain rfl:=Option.some.inj H
   go_enter Try.func78,Try.ntmps78
   go_wp2_with (first|((with_reducible refine gate_dst (N:=2) rfl ?_);refine be 2 24 (cs:=#[.int .i64 a0_0,.int .i64 a0_1,.int .i64 a0_2]) ?_;intro gb104 hg w10 hbox hb;have BK104:=am hbox;have GW104:=bza HB hg;have GE104:=bza HB hg;replace HB:=bsa HB hb;clear hb hbox hg)|((with_reducible refine gate_dst (N:=3) rfl ?_);refine be 3 24 (cs:=#[.int .i64 a1_0,.int .i64 a1_1,.int .i64 a1_2]) ?_;intro gb105 hg w11 hbox hb;have BK105:=am hbox;have GW105:=bza HB hg;have GE105:=bza HB hg;have NB104_105:=bla BK104 hg;have NB105_104:=bga BK104 hg;replace BK104:=bba BK104 hb;replace HB:=bsa HB hb;clear hb hbox hg;have hnb12:=NB105_104.out;have hnc12:=NB104_105.out;obtain ⟨hcz13_0,hcz13_1,hcz13_2,hfz13_0,hfz13_1,hfz13_2⟩ := c3_ BK105.out;obtain ⟨hcz14_0,hcz14_1,hcz14_2,hfz14_0,hfz14_1,hfz14_2⟩ := c3_ BK104.out))
   go_ret
   exact ⟨by first|rfl|(simp [errW_none,errW_some] <;> rfl)|(simp [*,errW_none,errW_some] <;> rfl),by repeat (first|(with_reducible first|exact HB.out|apply lA|apply lN|apply lD|refine lS ?_ GE104.out|refine lS ?_ GE105.out)|exact HB.out)⟩
 ·rw [if_neg c3] at H;have c3b0 : decide (a1_0 ≤ a0_0) = false:=decide_eq_false c3;clear c3;obtain rfl:=Option.some.inj H
  go_enter Try.func78,Try.ntmps78
  go_wp2_with (first|((with_reducible refine gate_dst (N:=2) rfl ?_);refine be 2 24 (cs:=#[.int .i64 a0_0,.int .i64 a0_1,.int .i64 a0_2]) ?_;intro gb104 hg w15 hbox hb;have BK104:=am hbox;have GW104:=bza HB hg;have GE104:=bza HB hg;replace HB:=bsa HB hb;clear hb hbox hg)|((with_reducible refine gate_dst (N:=3) rfl ?_);refine be 3 24 (cs:=#[.int .i64 a1_0,.int .i64 a1_1,.int .i64 a1_2]) ?_;intro gb105 hg w16 hbox hb;have BK105:=am hbox;have GW105:=bza HB hg;have GE105:=bza HB hg;have NB104_105:=bla BK104 hg;have NB105_104:=bga BK104 hg;replace BK104:=bba BK104 hb;replace HB:=bsa HB hb;clear hb hbox hg;have hnb17:=NB105_104.out;have hnc17:=NB104_105.out;obtain ⟨hcz18_0,hcz18_1,hcz18_2,hfz18_0,hfz18_1,hfz18_2⟩ := c3_ BK105.out;obtain ⟨hcz19_0,hcz19_1,hcz19_2,hfz19_0,hfz19_1,hfz19_2⟩ := c3_ BK104.out))
  go_ret
  exact ⟨by first|rfl|(simp [errW_none,errW_some] <;> rfl)|(simp [*,errW_none,errW_some] <;> rfl),by repeat (first|(with_reducible first|exact HB.out|apply lA|apply lN|apply lD|refine lS ?_ GE104.out|refine lS ?_ GE105.out)|exact HB.out)⟩
def offcut_swap.f (a0_0 : Int) (a0_1 : Int) (a0_2 : Int) : Option (Int × Int × Int):=some (a0_1,a0_0,a0_2)
set_option maxHeartbeats 8000000 in
set_option maxRecDepth 100000 in
theorem offcut_swap.calls (a0_0 : Int) (a0_1 : Int) (a0_2 : Int) (r1 : Int) (r2 : Int) (r3 : Int) (w : World) (h : offcut_swap.f a0_0 a0_1 a0_2 = some (r1, r2, r3)) :
  Calls Try.prog 79 #[.agg #[.int .i64 a0_0,.int .i64 a0_1,.int .i64 a0_2]] w fun e w'=>e = .returned (.agg #[.int .i64 r1,.int .i64 r2,.int .i64 r3]) ∧ Below w.heap.size w w':=by
 have hu24:=Try.underlying24;have HB:=am (Below.refl w.heap.size w);have H : (some (a0_1,a0_0,a0_2)) = some (r1,r2,r3):=h;clear h;simp only [Option.some.injEq,Prod.mk.injEq] at H;obtain ⟨rfl,rfl,rfl⟩ := H
 go_enter Try.func79,Try.ntmps79
 go_wp2_with (first|((with_reducible refine gate_dst (N:=1) rfl ?_);refine be 1 24 (cs:=#[.int .i64 a0_0,.int .i64 a0_1,.int .i64 a0_2]) ?_;intro gb106 hg w2 hbox hb;have BK106:=am hbox;have GW106:=bza HB hg;have GE106:=bza HB hg;replace HB:=bsa HB hb;clear hb hbox hg)|((with_reducible refine gate_dst (N:=2) rfl ?_);refine be 2 24 (cs:=#[.int .i64 0,.int .i64 0,.int .i64 0]) ?_;intro gb107 hg w3 hbox hb;have BK107:=am hbox;have GW107:=bza HB hg;have GE107:=bza HB hg;have NB106_107:=bla BK106 hg;have NB107_106:=bga BK106 hg;replace BK106:=bba BK106 hb;replace HB:=bsa HB hb;clear hb hbox hg;have hnb4:=NB106_107.out;have hnc4:=NB107_106.out;obtain ⟨hcz5_0,hcz5_1,hcz5_2,hfz5_0,hfz5_1,hfz5_2⟩ := c3_ BK106.out;obtain ⟨hcz6_0,hcz6_1,hcz6_2,hfz6_0,hfz6_1,hfz6_2⟩ := c3_ BK107.out))
 refine bodyPost_ret (results_cell_row rfl _ _ gb107 24 #[.int .i64 a0_1,.int .i64 a0_0,.int .i64 a0_2] (0,0) _ rfl (by refine bp (cs:=#[.int .i64 a0_1,.int .i64 a0_0,.int .i64 0]) ?_ 2;refine bp (cs:=#[.int .i64 a0_1,.int .i64 0,.int .i64 0]) ?_ 1;refine bp (cs:=#[.int .i64 0,.int .i64 0,.int .i64 0]) ?_ 0;exact bq BK107.out) Try.underlying24 rfl (by kernel_rfl)) rfl ?_
 exact ⟨by first|rfl|(simp [errW_none,errW_some] <;> rfl)|(simp [*,errW_none,errW_some] <;> rfl),by repeat (first|(with_reducible first|exact HB.out|apply lA|apply lN|apply lD|refine lS ?_ GE106.out|refine lS ?_ GE107.out)|exact HB.out)⟩
end Go.Proofs.Ytbggjmdelnmilaa.PA
