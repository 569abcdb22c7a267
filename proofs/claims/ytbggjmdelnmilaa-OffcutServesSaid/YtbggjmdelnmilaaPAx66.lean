import Derived.Test.YtbggjmdelnmilaaPAx0
namespace Go.Proofs.Ytbggjmdelnmilaa.PA
open Go.RowKit Go.Proofs.YtbggjmdelnmilaaW.PrintWords Go.Proofs.YtbggjmdelnmilaaW.PrintLast Go.Proofs.YtbggjmdelnmilaaW.PrintMore
attribute [local go_sem] max2_int min2_int max_two min_two max_three min_three max_four min_four
set_option linter.unusedVariables false
set_option linter.unusedSimpArgs false
def offcut_sides.f (a0_0 : Int) (a0_1 : Int) (a0_2 : Int) : Option (Int × Int × Int):=some (a0_0,a0_1,a0_2)
set_option maxHeartbeats 8000000 in
set_option maxRecDepth 100000 in
theorem offcut_sides.calls (a0_0 : Int) (a0_1 : Int) (a0_2 : Int) (r1 : Int) (r2 : Int) (r3 : Int) (w : World) (h : offcut_sides.f a0_0 a0_1 a0_2 = some (r1, r2, r3)) :
  Calls Try.prog 66 #[.agg #[.int .i64 a0_0,.int .i64 a0_1,.int .i64 a0_2]] w fun e w'=>e = .returned (.agg #[.int .i64 r1,.int .i64 r2,.int .i64 r3]) ∧ Below w.heap.size w w':=by
 have hu24:=Try.underlying24;have hu98:=Try.underlying98;have HB:=am (Below.refl w.heap.size w);have H : (some (a0_0,a0_1,a0_2)) = some (r1,r2,r3):=h;clear h;simp only [Option.some.injEq,Prod.mk.injEq] at H;obtain ⟨rfl,rfl,rfl⟩ := H
 go_enter Try.func66,Try.ntmps66
 go_wp2_with (first|((with_reducible refine gate_dst (N:=1) rfl ?_);refine be 1 24 (cs:=#[.int .i64 a0_0,.int .i64 a0_1,.int .i64 a0_2]) ?_;intro gb123 hg w2 hbox hb;have BK123:=am hbox;have GW123:=bza HB hg;have GE123:=bza HB hg;replace HB:=bsa HB hb;clear hb hbox hg)|((with_reducible refine gate_dst (N:=2) rfl ?_);refine be 2 98 (cs:=#[.int .i64 0,.int .i64 0,.int .i64 0]) ?_;intro gb124 hg w3 hbox hb;have BK124:=am hbox;have GW124:=bza HB hg;have GE124:=bza HB hg;have NB123_124:=bla BK123 hg;have NB124_123:=bga BK123 hg;replace BK123:=bba BK123 hb;replace HB:=bsa HB hb;clear hb hbox hg;have hnb4:=NB123_124.out;have hnc4:=NB124_123.out;obtain ⟨hcz5_0,hcz5_1,hcz5_2,hfz5_0,hfz5_1,hfz5_2⟩ := c3_ BK123.out;obtain ⟨hcz6_0,hcz6_1,hcz6_2,hfz6_0,hfz6_1,hfz6_2⟩ := c3_ BK124.out))
 refine bodyPost_ret (results_cell_row rfl _ _ gb124 98 #[.int .i64 a0_0,.int .i64 a0_1,.int .i64 a0_2] (0,0) _ rfl (by refine bp (cs:=#[.int .i64 a0_0,.int .i64 a0_1,.int .i64 0]) ?_ 2;refine bp (cs:=#[.int .i64 a0_0,.int .i64 0,.int .i64 0]) ?_ 1;refine bp (cs:=#[.int .i64 0,.int .i64 0,.int .i64 0]) ?_ 0;exact bq BK124.out) Try.underlying98 rfl (by kernel_rfl)) rfl ?_
 exact ⟨by first|rfl|(simp [errW_none,errW_some] <;> rfl)|(simp [*,errW_none,errW_some] <;> rfl),by repeat (first|(with_reducible first|exact HB.out|apply lA|apply lN|apply lD|refine lS ?_ GE123.out|refine lS ?_ GE124.out)|exact HB.out)⟩
-- GIVEN: function 54 (offcut_rest)
-- NOT PRINTED: function 74 (lexer_run)
-- NOT PRINTED: function 42 (lexer_Name)
-- NOT PRINTED: function 55 (offcut_nameless)
-- NOT PRINTED: function 64 (api_Remnant_64)
-- NOT PRINTED: function 68 (api_Remnant_68)
-- NOT PRINTED: function 69 (api_Remnant_69)
-- NOT PRINTED: function 85 (api_Remnant_85)
end Go.Proofs.Ytbggjmdelnmilaa.PA
