import Derived.Test.YtnjikioimompnaaPAx1
import Derived.Test.YtnjikioimompnaaPAx2
namespace Go.Proofs.Ytnjikioimompnaa.PA
open Go.RowKit Go.Proofs.YtnjikioimompnaaW.PrintWords Go.Proofs.YtnjikioimompnaaW.PrintLast Go.Proofs.YtnjikioimompnaaW.PrintMore
attribute [local go_sem] max2_int min2_int max_two min_two max_three min_three max_four min_four
set_option linter.unusedVariables false
set_option linter.unusedSimpArgs false
noncomputable section
attribute [local go_sem high] eqA31
def vector_Meet.j0 : Nat → Int → Int → Bool → Int → Int → Int → Int → Int → Int → Int → Int → Option (Int × Int)
 | 0,_,_,_,_,_,_,_,_,_,_,_=>none
 | k + 1,x11,x12,x53,x124000,x124001,x125000,x125001,x126000,x126001,x127000,x127001=>if x53 = true then (if x124000 = x125000 then ((vector_common.f x124001 x125001 x126001 x127001).bind fun t138=>(some (t138,0))) else ((vector_common.f x124000 x125000 x126000 x127000).bind fun t137=>(some (t137,0)))) else (if (wrap64 (x11 * x12)) ≤ 0 then ((vector_turn.f x126000 x126001 x127000 x127001 x124000 x124001).bind fun t139=>((vector_turn.f x126000 x126001 x127000 x127001 x125000 x125001).bind fun t140=>((vector_one.f (decide ((wrap64 (t139 * t140)) ≤ 0))).bind fun t141=>(some (t141,0))))) else ((vector_one.f false).bind fun t142=>(some (t142,0))))
def vector_Meet.f (k : Nat) (a0_0 : Int) (a0_1 : Int) (a1_0 : Int) (a1_1 : Int) (a2_0 : Int) (a2_1 : Int) (a3_0 : Int) (a3_1 : Int) : Option (Int × Int):=(vector_points.f k (([(⟨a0_0,a0_1⟩ : S31),(⟨a1_0,a1_1⟩ : S31),(⟨a2_0,a2_1⟩ : S31),(⟨a3_0,a3_1⟩ : S31)] : List (S31)))).bind fun t130=>(if t130 = 0 then (if (a0_0 == a1_0 && (a0_1 == a1_1)) = true then ((vector_on.f a2_0 a2_1 a3_0 a3_1 a0_0 a0_1).bind fun t131=>((vector_one.f t131).bind fun t132=>(some (t132,0)))) else (if (a2_0 == a3_0 && (a2_1 == a3_1)) = true then ((vector_on.f a0_0 a0_1 a1_0 a1_1 a2_0 a2_1).bind fun t133=>((vector_one.f t133).bind fun t134=>(some (t134,0)))) else ((vector_turn.f a0_0 a0_1 a1_0 a1_1 a2_0 a2_1).bind fun t135=>((vector_turn.f a0_0 a0_1 a1_0 a1_1 a3_0 a3_1).bind fun t136=>(if t135 = 0 then (vector_Meet.j0 k t135 t136 (t136 == 0) a0_0 a0_1 a1_0 a1_1 a2_0 a2_1 a3_0 a3_1) else (vector_Meet.j0 k t135 t136 false a0_0 a0_1 a1_0 a1_1 a2_0 a2_1 a3_0 a3_1)))))) else (some (0,t130)))
theorem vector_Meet.mono_l : ∀ k,(∀ y0 y1 y2 y3 y4 y5 y6 y7 y8 y9 y10,LeO (vector_Meet.j0 k y0 y1 y2 y3 y4 y5 y6 y7 y8 y9 y10) (vector_Meet.j0 (k + 1) y0 y1 y2 y3 y4 y5 y6 y7 y8 y9 y10))
 | 0=>fun _ _ _ _ _ _ _ _ _ _ _ r h=>by simp [vector_Meet.j0] at h
 | k + 1=>by
  have ih0:=vector_Meet.mono_l k
  ·intro y0 y1 y2 y3 y4 y5 y6 y7 y8 y9 y10
   unfold vector_Meet.j0
   repeat' first
   | (with_reducible exact ih0 _ _ _ _ _ _ _ _ _ _ _)
   | (with_reducible exact vector_points.mono _ _)
   | (with_reducible exact LeO.refl _)
   | (with_reducible exact LeO.none _)
   | (with_reducible refine LeO.ite ?_ ?_)
   | (with_reducible refine LeO.bind ?_ (fun _=>?_))
   | exact ih0 _ _ _ _ _ _ _ _ _ _ _
   | exact vector_points.mono _ _
   | exact LeO.none _
   | refine LeO.ite ?_ ?_
   | refine LeO.bind ?_ (fun _=>?_)
theorem vector_Meet.mono : ∀ a0 a1 a2 a3 a4 a5 a6 a7 k,LeO (vector_Meet.f k a0 a1 a2 a3 a4 a5 a6 a7) (vector_Meet.f (k + 1) a0 a1 a2 a3 a4 a5 a6 a7):=by
 intro a0 a1 a2 a3 a4 a5 a6 a7 k;have ih0:=vector_Meet.mono_l k
 unfold vector_Meet.f
 repeat' first
   | (with_reducible exact ih0 _ _ _ _ _ _ _ _ _ _ _)
   | (with_reducible exact vector_points.mono _ _)
   | (with_reducible exact LeO.refl _)
   | (with_reducible exact LeO.none _)
   | (with_reducible refine LeO.ite ?_ ?_)
   | (with_reducible refine LeO.bind ?_ (fun _=>?_))
   | exact ih0 _ _ _ _ _ _ _ _ _ _ _
   | exact vector_points.mono _ _
   | exact LeO.none _
   | refine LeO.ite ?_ ?_
   | refine LeO.bind ?_ (fun _=>?_)
def vector_Meet.T8 : Bool × List (List Nat × List Nat):=(true,[([],[]),([],[]),([],[]),([0,1,2],[0,1,2]),([],[]),([],[]),([],[]),([4,5,6,3],[4,5,6]),([3,7,0,1,2,3],[3]),([7,8,0,1,2,3,4,5,6,7,8],[7])])
def vector_Meet.B8 : List Nat:=[0,0,0,7,0,0,0,127,255,511]
theorem vector_Meet.tab8 : rtab .any (opsOf Try.f57 8) = vector_Meet.T8:=by kernel_rfl
theorem vector_Meet.bits8 : waitsOk vector_Meet.T8.2 vector_Meet.B8 = true:=by kernel_rfl
def vector_Meet.T13 : Bool × List (List Nat × List Nat):=(true,[([],[]),([],[]),([0,1],[0,1]),([2],[2]),([3],[3]),([4],[4]),([4],[4]),([4],[4]),([5,6,7,4,4],[4,5,6,7]),([4],[4]),([4],[4]),([4],[4]),([9,10,11,8,4],[4,9,10,11]),([8,12,4],[4,8,12]),([13,4],[4,13]),([4,14],[4,14]),([15,12],[15]),([16,16,0,1,2,3,4,5,6,7,8,9,10,11,12,13,14,15,16],[16]),([17,0,1,2,3,4,5,6,7,8,9,10,11,12,13,14,15,16,17],[])])
def vector_Meet.B13 : List Nat:=[0,0,3,7,15,31,31,31,255,31,31,31,4095,8191,16383,32767,65535,131071,262143]
theorem vector_Meet.tab13 : rtab .any (opsOf Try.f57 13) = vector_Meet.T13:=by kernel_rfl
theorem vector_Meet.bits13 : waitsOk vector_Meet.T13.2 vector_Meet.B13 = true:=by kernel_rfl
set_option maxHeartbeats 8000000 in
set_option maxRecDepth 100000 in
theorem vector_Meet.calls (k : Nat) (a0_0 : Int) (a0_1 : Int) (a1_0 : Int) (a1_1 : Int) (a2_0 : Int) (a2_1 : Int) (a3_0 : Int) (a3_1 : Int) (r1 : Int) (r2 : Int) (w : World) (h : vector_Meet.f k a0_0 a0_1 a1_0 a1_1 a2_0 a2_1 a3_0 a3_1 = some (r1, r2)) :
  Calls Try.prog 57 #[.agg #[.int .i64 a0_0,.int .i64 a0_1],.agg #[.int .i64 a1_0,.int .i64 a1_1],.agg #[.int .i64 a2_0,.int .i64 a2_1],.agg #[.int .i64 a3_0,.int .i64 a3_1]] w fun e w'=>e = .returned (.tuple #[.int .i64 r1,.int .i64 r2]) ∧ Below w.heap.size w w':=by
 have hu31:=Try.underlying31;have HB:=am (Below.refl w.heap.size w);have H : ((vector_points.f k (([(⟨a0_0,a0_1⟩ : S31),(⟨a1_0,a1_1⟩ : S31),(⟨a2_0,a2_1⟩ : S31),(⟨a3_0,a3_1⟩ : S31)] : List (S31)))).bind fun t130=>(if t130 = 0 then (if (a0_0 == a1_0 && (a0_1 == a1_1)) = true then ((vector_on.f a2_0 a2_1 a3_0 a3_1 a0_0 a0_1).bind fun t131=>((vector_one.f t131).bind fun t132=>(some (t132,0)))) else (if (a2_0 == a3_0 && (a2_1 == a3_1)) = true then ((vector_on.f a0_0 a0_1 a1_0 a1_1 a2_0 a2_1).bind fun t133=>((vector_one.f t133).bind fun t134=>(some (t134,0)))) else ((vector_turn.f a0_0 a0_1 a1_0 a1_1 a2_0 a2_1).bind fun t135=>((vector_turn.f a0_0 a0_1 a1_0 a1_1 a3_0 a3_1).bind fun t136=>(if t135 = 0 then (vector_Meet.j0 k t135 t136 (t136 == 0) a0_0 a0_1 a1_0 a1_1 a2_0 a2_1 a3_0 a3_1) else (vector_Meet.j0 k t135 t136 false a0_0 a0_1 a1_0 a1_1 a2_0 a2_1 a3_0 a3_1)))))) else (some (0,t130)))) = some (r1,r2):=h;clear h
 obtain ⟨y127,hy127⟩ : ∃ y_ : List (S31),y_ = (([(⟨a0_0,a0_1⟩ : S31),(⟨a1_0,a1_1⟩ : S31),(⟨a2_0,a2_1⟩ : S31),(⟨a3_0,a3_1⟩ : S31)] : List (S31))):=⟨_,rfl⟩
 replace H : ((vector_points.f k y127).bind fun t130=>(if t130 = 0 then (if (a0_0 == a1_0 && (a0_1 == a1_1)) = true then ((vector_on.f a2_0 a2_1 a3_0 a3_1 a0_0 a0_1).bind fun t131=>((vector_one.f t131).bind fun t132=>(some (t132,0)))) else (if (a2_0 == a3_0 && (a2_1 == a3_1)) = true then ((vector_on.f a0_0 a0_1 a1_0 a1_1 a2_0 a2_1).bind fun t133=>((vector_one.f t133).bind fun t134=>(some (t134,0)))) else ((vector_turn.f a0_0 a0_1 a1_0 a1_1 a2_0 a2_1).bind fun t135=>((vector_turn.f a0_0 a0_1 a1_0 a1_1 a3_0 a3_1).bind fun t136=>(if t135 = 0 then (vector_Meet.j0 k t135 t136 (t136 == 0) a0_0 a0_1 a1_0 a1_1 a2_0 a2_1 a3_0 a3_1) else (vector_Meet.j0 k t135 t136 false a0_0 a0_1 a1_0 a1_1 a2_0 a2_1 a3_0 a3_1)))))) else (some (0,t130)))) = some (r1,r2):=by first|(rw [hy127];with_reducible exact H)|(have H2_:=(Option.bind_some _ _).symm.trans H;rw [hy127];with_reducible exact H2_)|(have H2_:=(Option.bind_some _ _).symm.trans H;with_reducible exact H2_)|with_reducible exact H|(rw [hy127];exact H)|exact H
 have Ny127:=am hy127;clear hy127;replace H:=Option.bind_eq_some_iff.mp H;obtain ⟨t130,A50,H⟩ := H;replace H : (if t130 = 0 then (if (a0_0 == a1_0 && (a0_1 == a1_1)) = true then ((vector_on.f a2_0 a2_1 a3_0 a3_1 a0_0 a0_1).bind fun t131=>((vector_one.f t131).bind fun t132=>(some (t132,0)))) else (if (a2_0 == a3_0 && (a2_1 == a3_1)) = true then ((vector_on.f a0_0 a0_1 a1_0 a1_1 a2_0 a2_1).bind fun t133=>((vector_one.f t133).bind fun t134=>(some (t134,0)))) else ((vector_turn.f a0_0 a0_1 a1_0 a1_1 a2_0 a2_1).bind fun t135=>((vector_turn.f a0_0 a0_1 a1_0 a1_1 a3_0 a3_1).bind fun t136=>(if t135 = 0 then (vector_Meet.j0 k t135 t136 (t136 == 0) a0_0 a0_1 a1_0 a1_1 a2_0 a2_1 a3_0 a3_1) else (vector_Meet.j0 k t135 t136 false a0_0 a0_1 a1_0 a1_1 a2_0 a2_1 a3_0 a3_1)))))) else (some (0,t130))) = some (r1,r2):=H;have A5:=am A50;clear A50;by_cases c6 : t130 = 0
 ·rw [if_pos c6] at H;have c6b0 : (t130 == 0) = true:=beq_iff_eq.mpr c6;have c6b1 : (t130 != 0) = false:=bne_eq_false_iff_eq.mpr c6;clear c6;by_cases c7 : (a0_0 == a1_0 && (a0_1 == a1_1)) = true
  ·rw [if_pos c7] at H;have c7b0 : (a0_0 == a1_0 && (a0_1 == a1_1)) = true:=c7;(try (have c7b1 : decide (a0_0 = a1_0 && (a0_1 == a1_1)) = true:=by simpa using c7));(try (have c7b2 : (a0_0 == a1_0 && (a0_1 == a1_1)) = true:=by simpa using c7));clear c7;replace H:=Option.bind_eq_some_iff.mp H;obtain ⟨t131,A80,H⟩ := H;replace H : ((vector_one.f t131).bind fun t132=>(some (t132,0))) = some (r1,r2):=H;have A8:=am A80;clear A80;replace H:=Option.bind_eq_some_iff.mp H;obtain ⟨t132,A90,H⟩ := H;replace H : (some (t132,0)) = some (r1,r2):=H;have A9:=am A90;clear A90;simp only [Option.some.injEq,Prod.mk.injEq] at H;obtain ⟨rfl,rfl⟩ := H
   go_enter Try.func57,Try.ntmps57
   go_wp2_with (first|((with_reducible refine gate_dst (N:=4) rfl ?_);refine box_event ?hg (N:=4) ?hd (cs:=#[.int .i64 a0_0,.int .i64 a0_1]) (t:=31) ?hr ?_;(case hd=>rfl);(case hg=>rfl);(case hr=>first|(go_simp;done)|(go_simp;rfl));intro gb123 hg w10 hbox hb;have BK123:=am hbox;have GW123:=bza HB hg;have GE123:=bza HB hg;replace HB:=bsa HB hb;clear hb hbox hg)|((with_reducible refine gate_dst (N:=5) rfl ?_);refine box_event ?hg (N:=5) ?hd (cs:=#[.int .i64 a1_0,.int .i64 a1_1]) (t:=31) ?hr ?_;(case hd=>rfl);(case hg=>rfl);(case hr=>first|(go_simp;done)|(go_simp;rfl));intro gb124 hg w11 hbox hb;have BK124:=am hbox;have GW124:=bza HB hg;have GE124:=bza HB hg;have NB123_124:=bla BK123 hg;have NB124_123:=bga BK123 hg;replace BK123:=bba BK123 hb;replace HB:=bsa HB hb;clear hb hbox hg)|((with_reducible refine gate_dst (N:=6) rfl ?_);refine box_event ?hg (N:=6) ?hd (cs:=#[.int .i64 a2_0,.int .i64 a2_1]) (t:=31) ?hr ?_;(case hd=>rfl);(case hg=>rfl);(case hr=>first|(go_simp;done)|(go_simp;rfl));intro gb125 hg w12 hbox hb;have BK125:=am hbox;have GW125:=bza HB hg;have GE125:=bza HB hg;have NB123_125:=bla BK123 hg;have NB125_123:=bga BK123 hg;have NB124_125:=bla BK124 hg;have NB125_124:=bga BK124 hg;replace BK123:=bba BK123 hb;replace BK124:=bba BK124 hb;replace HB:=bsa HB hb;clear hb hbox hg)|((with_reducible refine gate_dst (N:=7) rfl ?_);refine box_event ?hg (N:=7) ?hd (cs:=#[.int .i64 a3_0,.int .i64 a3_1]) (t:=31) ?hr ?_;(case hd=>rfl);(case hg=>rfl);(case hr=>first|(go_simp;done)|(go_simp;rfl));intro gb126 hg w13 hbox hb;have BK126:=am hbox;have GW126:=bza HB hg;have GE126:=bza HB hg;have NB123_126:=bla BK123 hg;have NB126_123:=bga BK123 hg;have NB124_126:=bla BK124 hg;have NB126_124:=bga BK124 hg;have NB125_126:=bla BK125 hg;have NB126_125:=bga BK125 hg;replace BK123:=bba BK123 hb;replace BK124:=bba BK124 hb;replace BK125:=bba BK125 hb;replace HB:=bsa HB hb;clear hb hbox hg;have hnb14:=NB123_124.out;have hnc14:=NB124_123.out;have hnb15:=NB123_125.out;have hnc15:=NB125_123.out;have hnb16:=NB123_126.out;have hnc16:=NB126_123.out;obtain ⟨hcz17_0,hcz17_1,hfz17_0,hfz17_1⟩ := c2_ BK123.out;have hnb18:=NB124_125.out;have hnc18:=NB125_124.out;have hnb19:=NB124_126.out;have hnc19:=NB126_124.out;obtain ⟨hcz20_0,hcz20_1,hfz20_0,hfz20_1⟩ := c2_ BK124.out;have hnb21:=NB125_126.out;have hnc21:=NB126_125.out;obtain ⟨hcz22_0,hcz22_1,hfz22_0,hfz22_1⟩ := c2_ BK125.out;obtain ⟨hcz23_0,hcz23_1,hfz23_0,hfz23_1⟩ := c2_ BK126.out)|((with_reducible refine gate_dst (N:=17) rfl ?_);refine Kd.R_lit k31 _ 31 ?hg (N:=17) ?hd (xs:=([(⟨a0_0,a0_1⟩ : S31),(⟨a1_0,a1_1⟩ : S31),(⟨a2_0,a2_1⟩ : S31),(⟨a3_0,a3_1⟩ : S31)] : List (S31))) (inner:=[.int .i64 a0_0,.int .i64 a0_1,.int .i64 a1_0,.int .i64 a1_1,.int .i64 a2_0,.int .i64 a2_1,.int .i64 a3_0,.int .i64 a3_1]) (ok:=fun _=>True) (okp:=fun _=>True) ?hr ?hp (fun _ hk=>hk) trivial (Below.refl _ _) (Nat.le_refl _) (by simp) ?_;(case hd=>rfl);(case hg=>rfl);(case hr=>first|(go_simp;done)|(go_simp;rfl));(case hp=>exact (Reps.c2 (show Kd.M k31 _ _ _ (⟨a0_0,a0_1⟩ : S31) [.int .i64 a0_0,.int .i64 a0_1] from (k31_mkM _ _ _ (⟨a0_0,a0_1⟩ : S31) )) (Reps.c2 (show Kd.M k31 _ _ _ (⟨a1_0,a1_1⟩ : S31) [.int .i64 a1_0,.int .i64 a1_1] from (k31_mkM _ _ _ (⟨a1_0,a1_1⟩ : S31) )) (Reps.c2 (show Kd.M k31 _ _ _ (⟨a2_0,a2_1⟩ : S31) [.int .i64 a2_0,.int .i64 a2_1] from (k31_mkM _ _ _ (⟨a2_0,a2_1⟩ : S31) )) (Reps.c2 (show Kd.M k31 _ _ _ (⟨a3_0,a3_1⟩ : S31) [.int .i64 a3_0,.int .i64 a3_1] from (k31_mkM _ _ _ (⟨a3_0,a3_1⟩ : S31) )) (Reps.none _ _))))));intro v128 w24 ho25 hb hg_ hnew_;clear hg_ hnew_;(first|rw [← Ny127.out] at ho25|(simp only [Int.reduceToNat] at ho25;rw [← Ny127.out] at ho25));have HO129:=am (Kd.R_lower (Kd.R_newB (Kd.R_newB (Kd.R_newB (Kd.R_newB ho25 (g:=gb123) (o:=.cells #[.int .i64 a0_0,.int .i64 a0_1] 31 (0,0)) (bq BK123.out)) (g:=gb124) (o:=.cells #[.int .i64 a1_0,.int .i64 a1_1] 31 (0,0)) (bq BK124.out)) (g:=gb125) (o:=.cells #[.int .i64 a2_0,.int .i64 a2_1] 31 (0,0)) (bq BK125.out)) (g:=gb126) (o:=.cells #[.int .i64 a3_0,.int .i64 a3_1] 31 (0,0)) (bq BK126.out)) (below_size (by repeat (first|(with_reducible first|exact HB.out|apply lA|apply lN|apply lD|refine lS ?_ GE123.out|refine lS ?_ GE124.out|refine lS ?_ GE125.out|refine lS ?_ GE126.out)|exact HB.out))));replace BK123:=bba BK123 hb;replace BK124:=bba BK124 hb;replace BK125:=bba BK125 hb;replace BK126:=bba BK126 hb;replace HB:=bsa HB hb;clear hb ho25;obtain ⟨Ao26,co26,eo26⟩ := Kd.R_slice HO129.out;subst eo26)|((with_reducible refine gate_callee (f:=79) rfl ?_);refine goesL_ (some 18) rfl rfl Try.func79 (by kernel_rfl) rfl #[.slice Ao26 y127.length co26] rfl (by (try simp only [mT,mC,mN]);first|done|rfl|(simp only [lDr,lTk];rfl)) ?_;(with_reducible refine (vector_points.calls k _ _ y127 t130 _ ?side1 ?side2 A5.out).mono ?_);(case side1=>exact cr (Kd.R_reads' HO129.out).2.2);(case side2=>exact (Kd.R_reads' HO129.out).2.1);rintro e w27 ⟨rfl,hb⟩;refine ⟨_,rfl, ?_⟩;replace HO129:=rba HO129 hb;replace BK123:=bba BK123 hb;replace BK124:=bba BK124 hb;replace BK125:=bba BK125 hb;replace BK126:=bba BK126 hb;replace HB:=bsa HB hb;(try clear hb);(try clear hb2);(try clear hk);(try clear hi);obtain ⟨hcz28_0,hcz28_1,hfz28_0,hfz28_1⟩ := c2_ BK123.out;obtain ⟨hcz29_0,hcz29_1,hfz29_0,hfz29_1⟩ := c2_ BK124.out;obtain ⟨hcz30_0,hcz30_1,hfz30_0,hfz30_1⟩ := c2_ BK125.out;obtain ⟨hcz31_0,hcz31_1,hfz31_0,hfz31_1⟩ := c2_ BK126.out)|((with_reducible refine gate_callee (f:=81) rfl ?_);refine goesL_ (some 29) rfl rfl Try.func81 (by kernel_rfl) rfl #[.agg #[.int .i64 a2_0,.int .i64 a2_1],.agg #[.int .i64 a3_0,.int .i64 a3_1],.agg #[.int .i64 a0_0,.int .i64 a0_1]] rfl (by (try simp only [mT,mC,mN]);first|done|rfl|(simp only [lDr,lTk];rfl)) ?_;(with_reducible refine (vector_on.calls a2_0 a2_1 a3_0 a3_1 a0_0 a0_1 t131 _ A8.out).mono ?_);rintro e w32 ⟨rfl,hb⟩;refine ⟨_,rfl, ?_⟩;replace HO129:=rba HO129 hb;replace BK123:=bba BK123 hb;replace BK124:=bba BK124 hb;replace BK125:=bba BK125 hb;replace BK126:=bba BK126 hb;replace HB:=bsa HB hb;(try clear hb);(try clear hb2);(try clear hk);(try clear hi))|((with_reducible refine gate_callee (f:=80) rfl ?_);refine goesL_ (some 30) rfl rfl Try.func80 (by kernel_rfl) rfl #[.bool t131] rfl (by (try simp only [mT,mC,mN]);first|done|rfl|(simp only [lDr,lTk];rfl)) ?_;(with_reducible refine (vector_one.calls t131 t132 _ A9.out).mono ?_);rintro e w' ⟨rfl,⟨nd,rfl⟩⟩;refine ⟨_,rfl, ?_⟩))
   go_ret2
   exact ⟨by first|rfl|(simp [errW_none,errW_some] <;> rfl)|(simp [*,errW_none,errW_some] <;> rfl),by repeat (first|(with_reducible first|exact HB.out|apply lA|apply lN|apply lD|refine lS ?_ GE123.out|refine lS ?_ GE124.out|refine lS ?_ GE125.out|refine lS ?_ GE126.out)|exact HB.out)⟩
  ·rw [if_neg c7] at H
   have c7b0 : (a0_0 == a1_0 && (a0_1 == a1_1)) = false:=by simpa using c7
   (try (have c7b1 : decide (a0_0 = a1_0 && (a0_1 == a1_1)) = false:=by simpa using c7));(try (have c7b2 : (a0_0 == a1_0 && (a0_1 == a1_1)) = false:=by simpa using c7));(try (have c7b3 : ¬ (a0_0 = a1_0 && (a0_1 == a1_1)):=by simpa using c7))
   clear c7;by_cases c33 : (a2_0 == a3_0 && (a2_1 == a3_1)) = true
   ·rw [if_pos c33] at H;have c33b0 : (a2_0 == a3_0 && (a2_1 == a3_1)) = true:=c33;(try (have c33b1 : decide (a2_0 = a3_0 && (a2_1 == a3_1)) = true:=by simpa using c33));(try (have c33b2 : (a2_0 == a3_0 && (a2_1 == a3_1)) = true:=by simpa using c33));clear c33;replace H:=Option.bind_eq_some_iff.mp H;obtain ⟨t133,A340,H⟩ := H;replace H : ((vector_one.f t133).bind fun t134=>(some (t134,0))) = some (r1,r2):=H;have A34:=am A340;clear A340;replace H:=Option.bind_eq_some_iff.mp H;obtain ⟨t134,A350,H⟩ := H;replace H : (some (t134,0)) = some (r1,r2):=H;have A35:=am A350;clear A350;simp only [Option.some.injEq,Prod.mk.injEq] at H;obtain ⟨rfl,rfl⟩ := H
    go_enter Try.func57,Try.ntmps57
    go_wp2_with (first|((with_reducible refine gate_dst (N:=4) rfl ?_);refine box_event ?hg (N:=4) ?hd (cs:=#[.int .i64 a0_0,.int .i64 a0_1]) (t:=31) ?hr ?_;(case hd=>rfl);(case hg=>rfl);(case hr=>first|(go_simp;done)|(go_simp;rfl));intro gb123 hg w36 hbox hb;have BK123:=am hbox;have GW123:=bza HB hg;have GE123:=bza HB hg;replace HB:=bsa HB hb;clear hb hbox hg)|((with_reducible refine gate_dst (N:=5) rfl ?_);refine box_event ?hg (N:=5) ?hd (cs:=#[.int .i64 a1_0,.int .i64 a1_1]) (t:=31) ?hr ?_;(case hd=>rfl);(case hg=>rfl);(case hr=>first|(go_simp;done)|(go_simp;rfl));intro gb124 hg w37 hbox hb;have BK124:=am hbox;have GW124:=bza HB hg;have GE124:=bza HB hg;have NB123_124:=bla BK123 hg;have NB124_123:=bga BK123 hg;replace BK123:=bba BK123 hb;replace HB:=bsa HB hb;clear hb hbox hg)|((with_reducible refine gate_dst (N:=6) rfl ?_);refine box_event ?hg (N:=6) ?hd (cs:=#[.int .i64 a2_0,.int .i64 a2_1]) (t:=31) ?hr ?_;(case hd=>rfl);(case hg=>rfl);(case hr=>first|(go_simp;done)|(go_simp;rfl));intro gb125 hg w38 hbox hb;have BK125:=am hbox;have GW125:=bza HB hg;have GE125:=bza HB hg;have NB123_125:=bla BK123 hg;have NB125_123:=bga BK123 hg;have NB124_125:=bla BK124 hg;have NB125_124:=bga BK124 hg;replace BK123:=bba BK123 hb;replace BK124:=bba BK124 hb;replace HB:=bsa HB hb;clear hb hbox hg)|((with_reducible refine gate_dst (N:=7) rfl ?_);refine box_event ?hg (N:=7) ?hd (cs:=#[.int .i64 a3_0,.int .i64 a3_1]) (t:=31) ?hr ?_;(case hd=>rfl);(case hg=>rfl);(case hr=>first|(go_simp;done)|(go_simp;rfl));intro gb126 hg w39 hbox hb;have BK126:=am hbox;have GW126:=bza HB hg;have GE126:=bza HB hg;have NB123_126:=bla BK123 hg;have NB126_123:=bga BK123 hg;have NB124_126:=bla BK124 hg;have NB126_124:=bga BK124 hg;have NB125_126:=bla BK125 hg;have NB126_125:=bga BK125 hg;replace BK123:=bba BK123 hb;replace BK124:=bba BK124 hb;replace BK125:=bba BK125 hb;replace HB:=bsa HB hb;clear hb hbox hg;have hnb40:=NB123_124.out;have hnc40:=NB124_123.out;have hnb41:=NB123_125.out;have hnc41:=NB125_123.out;have hnb42:=NB123_126.out;have hnc42:=NB126_123.out;obtain ⟨hcz43_0,hcz43_1,hfz43_0,hfz43_1⟩ := c2_ BK123.out;have hnb44:=NB124_125.out;have hnc44:=NB125_124.out;have hnb45:=NB124_126.out;have hnc45:=NB126_124.out;obtain ⟨hcz46_0,hcz46_1,hfz46_0,hfz46_1⟩ := c2_ BK124.out;have hnb47:=NB125_126.out;have hnc47:=NB126_125.out;obtain ⟨hcz48_0,hcz48_1,hfz48_0,hfz48_1⟩ := c2_ BK125.out;obtain ⟨hcz49_0,hcz49_1,hfz49_0,hfz49_1⟩ := c2_ BK126.out)|((with_reducible refine gate_dst (N:=17) rfl ?_);refine Kd.R_lit k31 _ 31 ?hg (N:=17) ?hd (xs:=([(⟨a0_0,a0_1⟩ : S31),(⟨a1_0,a1_1⟩ : S31),(⟨a2_0,a2_1⟩ : S31),(⟨a3_0,a3_1⟩ : S31)] : List (S31))) (inner:=[.int .i64 a0_0,.int .i64 a0_1,.int .i64 a1_0,.int .i64 a1_1,.int .i64 a2_0,.int .i64 a2_1,.int .i64 a3_0,.int .i64 a3_1]) (ok:=fun _=>True) (okp:=fun _=>True) ?hr ?hp (fun _ hk=>hk) trivial (Below.refl _ _) (Nat.le_refl _) (by simp) ?_;(case hd=>rfl);(case hg=>rfl);(case hr=>first|(go_simp;done)|(go_simp;rfl));(case hp=>exact (Reps.c2 (show Kd.M k31 _ _ _ (⟨a0_0,a0_1⟩ : S31) [.int .i64 a0_0,.int .i64 a0_1] from (k31_mkM _ _ _ (⟨a0_0,a0_1⟩ : S31) )) (Reps.c2 (show Kd.M k31 _ _ _ (⟨a1_0,a1_1⟩ : S31) [.int .i64 a1_0,.int .i64 a1_1] from (k31_mkM _ _ _ (⟨a1_0,a1_1⟩ : S31) )) (Reps.c2 (show Kd.M k31 _ _ _ (⟨a2_0,a2_1⟩ : S31) [.int .i64 a2_0,.int .i64 a2_1] from (k31_mkM _ _ _ (⟨a2_0,a2_1⟩ : S31) )) (Reps.c2 (show Kd.M k31 _ _ _ (⟨a3_0,a3_1⟩ : S31) [.int .i64 a3_0,.int .i64 a3_1] from (k31_mkM _ _ _ (⟨a3_0,a3_1⟩ : S31) )) (Reps.none _ _))))));intro v128 w50 ho51 hb hg_ hnew_;clear hg_ hnew_;(first|rw [← Ny127.out] at ho51|(simp only [Int.reduceToNat] at ho51;rw [← Ny127.out] at ho51));have HO129:=am (Kd.R_lower (Kd.R_newB (Kd.R_newB (Kd.R_newB (Kd.R_newB ho51 (g:=gb123) (o:=.cells #[.int .i64 a0_0,.int .i64 a0_1] 31 (0,0)) (bq BK123.out)) (g:=gb124) (o:=.cells #[.int .i64 a1_0,.int .i64 a1_1] 31 (0,0)) (bq BK124.out)) (g:=gb125) (o:=.cells #[.int .i64 a2_0,.int .i64 a2_1] 31 (0,0)) (bq BK125.out)) (g:=gb126) (o:=.cells #[.int .i64 a3_0,.int .i64 a3_1] 31 (0,0)) (bq BK126.out)) (below_size (by repeat (first|(with_reducible first|exact HB.out|apply lA|apply lN|apply lD|refine lS ?_ GE123.out|refine lS ?_ GE124.out|refine lS ?_ GE125.out|refine lS ?_ GE126.out)|exact HB.out))));replace BK123:=bba BK123 hb;replace BK124:=bba BK124 hb;replace BK125:=bba BK125 hb;replace BK126:=bba BK126 hb;replace HB:=bsa HB hb;clear hb ho51;obtain ⟨Ao52,co52,eo52⟩ := Kd.R_slice HO129.out;subst eo52)|((with_reducible refine gate_callee (f:=79) rfl ?_);refine goesL_ (some 18) rfl rfl Try.func79 (by kernel_rfl) rfl #[.slice Ao52 y127.length co52] rfl (by (try simp only [mT,mC,mN]);first|done|rfl|(simp only [lDr,lTk];rfl)) ?_;(with_reducible refine (vector_points.calls k _ _ y127 t130 _ ?side1 ?side2 A5.out).mono ?_);(case side1=>exact cr (Kd.R_reads' HO129.out).2.2);(case side2=>exact (Kd.R_reads' HO129.out).2.1);rintro e w53 ⟨rfl,hb⟩;refine ⟨_,rfl, ?_⟩;replace HO129:=rba HO129 hb;replace BK123:=bba BK123 hb;replace BK124:=bba BK124 hb;replace BK125:=bba BK125 hb;replace BK126:=bba BK126 hb;replace HB:=bsa HB hb;(try clear hb);(try clear hb2);(try clear hk);(try clear hi);obtain ⟨hcz54_0,hcz54_1,hfz54_0,hfz54_1⟩ := c2_ BK123.out;obtain ⟨hcz55_0,hcz55_1,hfz55_0,hfz55_1⟩ := c2_ BK124.out;obtain ⟨hcz56_0,hcz56_1,hfz56_0,hfz56_1⟩ := c2_ BK125.out;obtain ⟨hcz57_0,hcz57_1,hfz57_0,hfz57_1⟩ := c2_ BK126.out)|((with_reducible refine gate_callee (f:=81) rfl ?_);refine goesL_ (some 38) rfl rfl Try.func81 (by kernel_rfl) rfl #[.agg #[.int .i64 a0_0,.int .i64 a0_1],.agg #[.int .i64 a1_0,.int .i64 a1_1],.agg #[.int .i64 a2_0,.int .i64 a2_1]] rfl (by (try simp only [mT,mC,mN]);first|done|rfl|(simp only [lDr,lTk];rfl)) ?_;(with_reducible refine (vector_on.calls a0_0 a0_1 a1_0 a1_1 a2_0 a2_1 t133 _ A34.out).mono ?_);rintro e w58 ⟨rfl,hb⟩;refine ⟨_,rfl, ?_⟩;replace HO129:=rba HO129 hb;replace BK123:=bba BK123 hb;replace BK124:=bba BK124 hb;replace BK125:=bba BK125 hb;replace BK126:=bba BK126 hb;replace HB:=bsa HB hb;(try clear hb);(try clear hb2);(try clear hk);(try clear hi))|((with_reducible refine gate_callee (f:=80) rfl ?_);refine goesL_ (some 39) rfl rfl Try.func80 (by kernel_rfl) rfl #[.bool t133] rfl (by (try simp only [mT,mC,mN]);first|done|rfl|(simp only [lDr,lTk];rfl)) ?_;(with_reducible refine (vector_one.calls t133 t134 _ A35.out).mono ?_);rintro e w' ⟨rfl,⟨nd,rfl⟩⟩;refine ⟨_,rfl, ?_⟩))
    go_ret2
    exact ⟨by first|rfl|(simp [errW_none,errW_some] <;> rfl)|(simp [*,errW_none,errW_some] <;> rfl),by repeat (first|(with_reducible first|exact HB.out|apply lA|apply lN|apply lD|refine lS ?_ GE123.out|refine lS ?_ GE124.out|refine lS ?_ GE125.out|refine lS ?_ GE126.out)|exact HB.out)⟩
   ·rw [if_neg c33] at H
    have c33b0 : (a2_0 == a3_0 && (a2_1 == a3_1)) = false:=by simpa using c33
    (try (have c33b1 : decide (a2_0 = a3_0 && (a2_1 == a3_1)) = false:=by simpa using c33));(try (have c33b2 : (a2_0 == a3_0 && (a2_1 == a3_1)) = false:=by simpa using c33));(try (have c33b3 : ¬ (a2_0 = a3_0 && (a2_1 == a3_1)):=by simpa using c33));clear c33;replace H:=Option.bind_eq_some_iff.mp H;obtain ⟨t135,A590,H⟩ := H;replace H : ((vector_turn.f a0_0 a0_1 a1_0 a1_1 a3_0 a3_1).bind fun t136=>(if t135 = 0 then (vector_Meet.j0 k t135 t136 (t136 == 0) a0_0 a0_1 a1_0 a1_1 a2_0 a2_1 a3_0 a3_1) else (vector_Meet.j0 k t135 t136 false a0_0 a0_1 a1_0 a1_1 a2_0 a2_1 a3_0 a3_1))) = some (r1,r2):=H;have A59:=am A590;clear A590;replace H:=Option.bind_eq_some_iff.mp H;obtain ⟨t136,A600,H⟩ := H;replace H : (if t135 = 0 then (vector_Meet.j0 k t135 t136 (t136 == 0) a0_0 a0_1 a1_0 a1_1 a2_0 a2_1 a3_0 a3_1) else (vector_Meet.j0 k t135 t136 false a0_0 a0_1 a1_0 a1_1 a2_0 a2_1 a3_0 a3_1)) = some (r1,r2):=H;have A60:=am A600;clear A600;have HC61:=am H;clear H
    go_enter Try.func57,Try.ntmps57
    try go_wp2_with (first|((with_reducible refine gate_dst (N:=4) rfl ?_);refine box_event ?hg (N:=4) ?hd (cs:=#[.int .i64 a0_0,.int .i64 a0_1]) (t:=31) ?hr ?_;(case hd=>rfl);(case hg=>rfl);(case hr=>first|(go_simp;done)|(go_simp;rfl));intro gb123 hg w62 hbox hb;have BK123:=am hbox;have GW123:=bza HB hg;have GE123:=bza HB hg;replace HB:=bsa HB hb;clear hb hbox hg)|((with_reducible refine gate_dst (N:=5) rfl ?_);refine box_event ?hg (N:=5) ?hd (cs:=#[.int .i64 a1_0,.int .i64 a1_1]) (t:=31) ?hr ?_;(case hd=>rfl);(case hg=>rfl);(case hr=>first|(go_simp;done)|(go_simp;rfl));intro gb124 hg w63 hbox hb;have BK124:=am hbox;have GW124:=bza HB hg;have GE124:=bza HB hg;have NB123_124:=bla BK123 hg;have NB124_123:=bga BK123 hg;replace BK123:=bba BK123 hb;replace HB:=bsa HB hb;clear hb hbox hg)|((with_reducible refine gate_dst (N:=6) rfl ?_);refine box_event ?hg (N:=6) ?hd (cs:=#[.int .i64 a2_0,.int .i64 a2_1]) (t:=31) ?hr ?_;(case hd=>rfl);(case hg=>rfl);(case hr=>first|(go_simp;done)|(go_simp;rfl));intro gb125 hg w64 hbox hb;have BK125:=am hbox;have GW125:=bza HB hg;have GE125:=bza HB hg;have NB123_125:=bla BK123 hg;have NB125_123:=bga BK123 hg;have NB124_125:=bla BK124 hg;have NB125_124:=bga BK124 hg;replace BK123:=bba BK123 hb;replace BK124:=bba BK124 hb;replace HB:=bsa HB hb;clear hb hbox hg)|((with_reducible refine gate_dst (N:=7) rfl ?_);refine box_event ?hg (N:=7) ?hd (cs:=#[.int .i64 a3_0,.int .i64 a3_1]) (t:=31) ?hr ?_;(case hd=>rfl);(case hg=>rfl);(case hr=>first|(go_simp;done)|(go_simp;rfl));intro gb126 hg w65 hbox hb;have BK126:=am hbox;have GW126:=bza HB hg;have GE126:=bza HB hg;have NB123_126:=bla BK123 hg;have NB126_123:=bga BK123 hg;have NB124_126:=bla BK124 hg;have NB126_124:=bga BK124 hg;have NB125_126:=bla BK125 hg;have NB126_125:=bga BK125 hg;replace BK123:=bba BK123 hb;replace BK124:=bba BK124 hb;replace BK125:=bba BK125 hb;replace HB:=bsa HB hb;clear hb hbox hg;have hnb66:=NB123_124.out;have hnc66:=NB124_123.out;have hnb67:=NB123_125.out;have hnc67:=NB125_123.out;have hnb68:=NB123_126.out;have hnc68:=NB126_123.out;obtain ⟨hcz69_0,hcz69_1,hfz69_0,hfz69_1⟩ := c2_ BK123.out;have hnb70:=NB124_125.out;have hnc70:=NB125_124.out;have hnb71:=NB124_126.out;have hnc71:=NB126_124.out;obtain ⟨hcz72_0,hcz72_1,hfz72_0,hfz72_1⟩ := c2_ BK124.out;have hnb73:=NB125_126.out;have hnc73:=NB126_125.out;obtain ⟨hcz74_0,hcz74_1,hfz74_0,hfz74_1⟩ := c2_ BK125.out;obtain ⟨hcz75_0,hcz75_1,hfz75_0,hfz75_1⟩ := c2_ BK126.out)|((with_reducible refine gate_dst (N:=17) rfl ?_);refine Kd.R_lit k31 _ 31 ?hg (N:=17) ?hd (xs:=([(⟨a0_0,a0_1⟩ : S31),(⟨a1_0,a1_1⟩ : S31),(⟨a2_0,a2_1⟩ : S31),(⟨a3_0,a3_1⟩ : S31)] : List (S31))) (inner:=[.int .i64 a0_0,.int .i64 a0_1,.int .i64 a1_0,.int .i64 a1_1,.int .i64 a2_0,.int .i64 a2_1,.int .i64 a3_0,.int .i64 a3_1]) (ok:=fun _=>True) (okp:=fun _=>True) ?hr ?hp (fun _ hk=>hk) trivial (Below.refl _ _) (Nat.le_refl _) (by simp) ?_;(case hd=>rfl);(case hg=>rfl);(case hr=>first|(go_simp;done)|(go_simp;rfl));(case hp=>exact (Reps.c2 (show Kd.M k31 _ _ _ (⟨a0_0,a0_1⟩ : S31) [.int .i64 a0_0,.int .i64 a0_1] from (k31_mkM _ _ _ (⟨a0_0,a0_1⟩ : S31) )) (Reps.c2 (show Kd.M k31 _ _ _ (⟨a1_0,a1_1⟩ : S31) [.int .i64 a1_0,.int .i64 a1_1] from (k31_mkM _ _ _ (⟨a1_0,a1_1⟩ : S31) )) (Reps.c2 (show Kd.M k31 _ _ _ (⟨a2_0,a2_1⟩ : S31) [.int .i64 a2_0,.int .i64 a2_1] from (k31_mkM _ _ _ (⟨a2_0,a2_1⟩ : S31) )) (Reps.c2 (show Kd.M k31 _ _ _ (⟨a3_0,a3_1⟩ : S31) [.int .i64 a3_0,.int .i64 a3_1] from (k31_mkM _ _ _ (⟨a3_0,a3_1⟩ : S31) )) (Reps.none _ _))))));intro v128 w76 ho77 hb hg_ hnew_;clear hg_ hnew_;(first|rw [← Ny127.out] at ho77|(simp only [Int.reduceToNat] at ho77;rw [← Ny127.out] at ho77));have HO129:=am (Kd.R_lower (Kd.R_newB (Kd.R_newB (Kd.R_newB (Kd.R_newB ho77 (g:=gb123) (o:=.cells #[.int .i64 a0_0,.int .i64 a0_1] 31 (0,0)) (bq BK123.out)) (g:=gb124) (o:=.cells #[.int .i64 a1_0,.int .i64 a1_1] 31 (0,0)) (bq BK124.out)) (g:=gb125) (o:=.cells #[.int .i64 a2_0,.int .i64 a2_1] 31 (0,0)) (bq BK125.out)) (g:=gb126) (o:=.cells #[.int .i64 a3_0,.int .i64 a3_1] 31 (0,0)) (bq BK126.out)) (below_size (by repeat (first|(with_reducible first|exact HB.out|apply lA|apply lN|apply lD|refine lS ?_ GE123.out|refine lS ?_ GE124.out|refine lS ?_ GE125.out|refine lS ?_ GE126.out)|exact HB.out))));replace BK123:=bba BK123 hb;replace BK124:=bba BK124 hb;replace BK125:=bba BK125 hb;replace BK126:=bba BK126 hb;replace HB:=bsa HB hb;clear hb ho77;obtain ⟨Ao78,co78,eo78⟩ := Kd.R_slice HO129.out;subst eo78)|((with_reducible refine gate_callee (f:=79) rfl ?_);refine goesL_ (some 18) rfl rfl Try.func79 (by kernel_rfl) rfl #[.slice Ao78 y127.length co78] rfl (by (try simp only [mT,mC,mN]);first|done|rfl|(simp only [lDr,lTk];rfl)) ?_;(with_reducible refine (vector_points.calls k _ _ y127 t130 _ ?side1 ?side2 A5.out).mono ?_);(case side1=>exact cr (Kd.R_reads' HO129.out).2.2);(case side2=>exact (Kd.R_reads' HO129.out).2.1);rintro e w79 ⟨rfl,hb⟩;refine ⟨_,rfl, ?_⟩;replace HO129:=rba HO129 hb;replace BK123:=bba BK123 hb;replace BK124:=bba BK124 hb;replace BK125:=bba BK125 hb;replace BK126:=bba BK126 hb;replace HB:=bsa HB hb;(try clear hb);(try clear hb2);(try clear hk);(try clear hi);obtain ⟨hcz80_0,hcz80_1,hfz80_0,hfz80_1⟩ := c2_ BK123.out;obtain ⟨hcz81_0,hcz81_1,hfz81_0,hfz81_1⟩ := c2_ BK124.out;obtain ⟨hcz82_0,hcz82_1,hfz82_0,hfz82_1⟩ := c2_ BK125.out;obtain ⟨hcz83_0,hcz83_1,hfz83_0,hfz83_1⟩ := c2_ BK126.out))
    replace HO129:=am (Kd.R_drew HO129.out);replace BK123:=bda BK123;replace BK124:=bda BK124;replace BK125:=bda BK125;replace BK126:=bda BK126;replace HB:=hda HB
    refine start_ (n:=10) (S:=fun w'=>w'.cell? ⟨gb123,0,none⟩ = some (.int .i64 a0_0) ∧ w'.cell? ⟨gb123,1,none⟩ = some (.int .i64 a0_1) ∧ w'.cell? ⟨gb124,0,none⟩ = some (.int .i64 a1_0) ∧ w'.cell? ⟨gb124,1,none⟩ = some (.int .i64 a1_1) ∧ w'.cell? ⟨gb125,0,none⟩ = some (.int .i64 a2_0) ∧ w'.cell? ⟨gb125,1,none⟩ = some (.int .i64 a2_1) ∧ w'.cell? ⟨gb126,0,none⟩ = some (.int .i64 a3_0) ∧ w'.cell? ⟨gb126,1,none⟩ = some (.int .i64 a3_1)) (ds:=[]) #[f_,f_,f_,f_,f_,f_,f_,f_,f_,f_] (by kernel_rfl) rfl rfl ⟨(blk_cell BK123.out 0).trans rfl,(blk_cell BK123.out 1).trans rfl,(blk_cell BK124.out 0).trans rfl,(blk_cell BK124.out 1).trans rfl,(blk_cell BK125.out 0).trans rfl,(blk_cell BK125.out 1).trans rfl,(blk_cell BK126.out 0).trans rfl,(blk_cell BK126.out 1).trans rfl⟩ (fun hHeld=>?_);refine with_tabW vector_Meet.tab8 vector_Meet.bits8 (fun HT_ HW_=>?_)
    generalize w79.drew = w84 at HO129 BK123 BK124 BK125 BK126 HB hHeld ⊢
    refine ta8_ HT_ HW_ 0 40 (mk_ 10 1) hHeld ?_
    refine ta8_ HT_ HW_ 1 41 (mk_ 10 3) hHeld ?_
    refine ta8_ HT_ HW_ 2 42 (mk_ 10 7) hHeld ?_
    refine ta8_ HT_ HW_ 4 44 (mk_ 10 23) hHeld ?_
    refine ta8_ HT_ HW_ 5 45 (mk_ 10 55) hHeld ?_
    refine ta8_ HT_ HW_ 6 46 (mk_ 10 119) hHeld ?_
    refine one_ (i:=3) (N:=some 43) (mk_ 10 127) rfl rfl (one_of HT_.out (by kernel_rfl)) (by decide) (fun K hK=>?_);refine goes_ Try.func82 (by kernel_rfl) rfl #[.agg #[.int .i64 a0_0,.int .i64 a0_1],.agg #[.int .i64 a1_0,.int .i64 a1_1],.agg #[.int .i64 a2_0,.int .i64 a2_1]] (by rfl) rfl rfl (by (try simp only [mT,mC,mN]);first|done|rfl|(simp only [lDr,lTk];rfl)) ?_
    with_reducible refine (vector_turn.calls a0_0 a0_1 a1_0 a1_1 a2_0 a2_1 t135 _ A59.out).mono ?_
    rintro e w85 ⟨rfl,hb⟩;refine ⟨_,rfl, ?_⟩;replace HO129:=rba HO129 hb;replace BK123:=bba BK123 hb;replace BK124:=bba BK124 hb;replace BK125:=bba BK125 hb;replace BK126:=bba BK126 hb;replace HB:=bsa HB hb;(try clear hb);(try clear hb2);(try clear hk);(try clear hi)
    refine hK.out _ _ ⟨(blk_cell BK123.out 0).trans rfl,(blk_cell BK123.out 1).trans rfl,(blk_cell BK124.out 0).trans rfl,(blk_cell BK124.out 1).trans rfl,(blk_cell BK125.out 0).trans rfl,(blk_cell BK125.out 1).trans rfl,(blk_cell BK126.out 0).trans rfl,(blk_cell BK126.out 1).trans rfl⟩ (fun hHeld=>?_)
    clear hK K
    refine nm_ 43 ?_
    refine one_ (i:=7) (N:=some 47) (mk_ 10 255) rfl rfl (one_of HT_.out (by kernel_rfl)) (by decide) (fun K hK=>?_);refine goes_ Try.func82 (by kernel_rfl) rfl #[.agg #[.int .i64 a0_0,.int .i64 a0_1],.agg #[.int .i64 a1_0,.int .i64 a1_1],.agg #[.int .i64 a3_0,.int .i64 a3_1]] (by rfl) rfl rfl (by (try simp only [mT,mC,mN]);first|done|rfl|(simp only [lDr,lTk];rfl)) ?_
    with_reducible refine (vector_turn.calls a0_0 a0_1 a1_0 a1_1 a3_0 a3_1 t136 _ A60.out).mono ?_
    rintro e w86 ⟨rfl,hb⟩;refine ⟨_,rfl, ?_⟩;replace HO129:=rba HO129 hb;replace BK123:=bba BK123 hb;replace BK124:=bba BK124 hb;replace BK125:=bba BK125 hb;replace BK126:=bba BK126 hb;replace HB:=bsa HB hb;(try clear hb);(try clear hb2);(try clear hk);(try clear hi)
    refine hK.out _ _ ⟨(blk_cell BK123.out 0).trans rfl,(blk_cell BK123.out 1).trans rfl,(blk_cell BK124.out 0).trans rfl,(blk_cell BK124.out 1).trans rfl,(blk_cell BK125.out 0).trans rfl,(blk_cell BK125.out 1).trans rfl,(blk_cell BK126.out 0).trans rfl,(blk_cell BK126.out 1).trans rfl⟩ (fun hHeld=>?_)
    clear hK K
    refine nm_ 47 ?_
    refine pu_ HT_ 8 11 (mk_ 10 511) ?_
    refine pu_ HT_ 9 12 (mk_ 10 1023) ?_
    refine done_ (done_of HT_.out (by kernel_rfl)) ?_
    go_upto_region 9 with (fail)
    go_cut [53] (fun v53 wc=>∃ (kq : Nat) (x53_60 : Bool),v53 = .bool x53_60 ∧ Aside0 (vector_Meet.j0 kq t135 t136 x53_60 a0_0 a0_1 a1_0 a1_1 a2_0 a2_1 a3_0 a3_1 = some (r1,r2)) ∧ Aside0 (kq ≤ k) ∧ Aside0 (wc.heap[gb123]? = some (.cells #[.int .i64 a0_0,.int .i64 a0_1] 31 (0,0))) ∧ Aside0 (wc.heap[gb124]? = some (.cells #[.int .i64 a1_0,.int .i64 a1_1] 31 (0,0))) ∧ Aside0 (wc.heap[gb125]? = some (.cells #[.int .i64 a2_0,.int .i64 a2_1] 31 (0,0))) ∧ Aside0 (wc.heap[gb126]? = some (.cells #[.int .i64 a3_0,.int .i64 a3_1] 31 (0,0))) ∧ Aside0 (Below w.heap.size w wc))
    case first =>
     have H:=HC61.out;clear HC61;by_cases c87 : t135 = 0
     ·rw [if_pos c87] at H;have c87b0 : (t135 == 0) = true:=beq_iff_eq.mpr c87;have c87b1 : (t135 != 0) = false:=bne_eq_false_iff_eq.mpr c87;clear c87;(first|rw [c87b0]|(simp only [i64_w,i32_w];rw [c87b0])|skip);have H':=am H;clear H
      go_wp2
      go_meet
      case rel=>exact ⟨_,((t136 == 0)),(by first|rfl|(simp;done)|(simp [*];done)),H',⟨by first|omega|exact Nat.le_refl _⟩,⟨bq BK123.out⟩,⟨bq BK124.out⟩,⟨bq BK125.out⟩,⟨bq BK126.out⟩,⟨by repeat (first|(with_reducible first|exact HB.out|apply lA|apply lN|apply lD|refine lS ?_ GE123.out|refine lS ?_ GE124.out|refine lS ?_ GE125.out|refine lS ?_ GE126.out)|exact HB.out)⟩⟩
     ·rw [if_neg c87] at H;have c87b0 : (t135 == 0) = false:=beq_eq_false_iff_ne.mpr c87;have c87b1 : (t135 != 0) = true:=bne_iff_ne.mpr c87;(first|rw [c87b0]|(simp only [i64_w,i32_w];rw [c87b0])|skip);have H':=am H;clear H
      go_wp2
      go_meet
      case rel=>exact ⟨_,(false),(by first|rfl|(simp;done)|(simp [*];done)),H',⟨by first|omega|exact Nat.le_refl _⟩,⟨bq BK123.out⟩,⟨bq BK124.out⟩,⟨bq BK125.out⟩,⟨bq BK126.out⟩,⟨by repeat (first|(with_reducible first|exact HB.out|apply lA|apply lN|apply lD|refine lS ?_ GE123.out|refine lS ?_ GE124.out|refine lS ?_ GE125.out|refine lS ?_ GE126.out)|exact HB.out)⟩⟩
    case rest =>
     clear HC61
     try clear c1
     try clear c2
     try clear p2
     try clear c3
     try clear c4
     try clear c5
     try clear c6
     try clear c6b0
     try clear c6b1
     try clear c7
     try clear c7b0
     try clear c7b1
     try clear c7b2
     try clear c8
     try clear c14
     try clear c15
     try clear c16
     try clear c18
     try clear c19
     try clear c21
     try clear c33
     try clear c33b0
     try clear c33b1
     try clear c33b2
     try clear c40
     try clear c41
     try clear c42
     try clear c44
     try clear c45
     try clear c47
     try clear c57
     try clear c66
     try clear c67
     try clear c68
     try clear c70
     try clear c71
     try clear c73
     try clear c79
     try clear c80
     try clear c81
     try clear c82
     try clear c87
     try clear c87b0
     try clear c87b1
     try clear hcz17_0
     try clear hcz17_1
     try clear hcz20_0
     try clear hcz20_1
     try clear hcz22_0
     try clear hcz22_1
     try clear hcz23_0
     try clear hcz23_1
     try clear hcz28_0
     try clear hcz28_1
     try clear hcz29_0
     try clear hcz29_1
     try clear hcz30_0
     try clear hcz30_1
     try clear hcz31_0
     try clear hcz31_1
     try clear hcz43_0
     try clear hcz43_1
     try clear hcz46_0
     try clear hcz46_1
     try clear hcz48_0
     try clear hcz48_1
     try clear hcz49_0
     try clear hcz49_1
     try clear hcz54_0
     try clear hcz54_1
     try clear hcz55_0
     try clear hcz55_1
     try clear hcz56_0
     try clear hcz56_1
     try clear hcz57_0
     try clear hcz57_1
     try clear hcz69_0
     try clear hcz69_1
     try clear hcz72_0
     try clear hcz72_1
     try clear hcz74_0
     try clear hcz74_1
     try clear hcz75_0
     try clear hcz75_1
     try clear hcz80_0
     try clear hcz80_1
     try clear hcz81_0
     try clear hcz81_1
     try clear hcz82_0
     try clear hcz82_1
     try clear hcz83_0
     try clear hcz83_1
     try clear hfz17_0
     try clear hfz17_1
     try clear hfz20_0
     try clear hfz20_1
     try clear hfz22_0
     try clear hfz22_1
     try clear hfz23_0
     try clear hfz23_1
     try clear hfz28_0
     try clear hfz28_1
     try clear hfz29_0
     try clear hfz29_1
     try clear hfz30_0
     try clear hfz30_1
     try clear hfz31_0
     try clear hfz31_1
     try clear hfz43_0
     try clear hfz43_1
     try clear hfz46_0
     try clear hfz46_1
     try clear hfz48_0
     try clear hfz48_1
     try clear hfz49_0
     try clear hfz49_1
     try clear hfz54_0
     try clear hfz54_1
     try clear hfz55_0
     try clear hfz55_1
     try clear hfz56_0
     try clear hfz56_1
     try clear hfz57_0
     try clear hfz57_1
     try clear hfz69_0
     try clear hfz69_1
     try clear hfz72_0
     try clear hfz72_1
     try clear hfz74_0
     try clear hfz74_1
     try clear hfz75_0
     try clear hfz75_1
     try clear hfz80_0
     try clear hfz80_1
     try clear hfz81_0
     try clear hfz81_1
     try clear hfz82_0
     try clear hfz82_1
     try clear hfz83_0
     try clear hfz83_1
     obtain ⟨kq,x53_60,rfl,HA,HJ60,BK123,BK124,BK125,BK126,HB⟩ := hcut
     cases kq with
     | zero=>exact absurd HA.out (by simp [vector_Meet.j0])
     | succ kj60 =>
      have H:=HA.out;clear HA;simp only [vector_Meet.j0] at H;by_cases c88 : x53_60 = true
      ·subst c88
       have H1 : (if a0_0 = a1_0 then ((vector_common.f a0_1 a1_1 a2_1 a3_1).bind fun t138=>(some (t138,0))) else ((vector_common.f a0_0 a1_0 a2_0 a3_0).bind fun t137=>(some (t137,0)))) = some (r1,r2):=by rw [if_pos rfl] at H;exact H
       clear H;have H:=H1;clear H1;by_cases c89 : a0_0 = a1_0
       ·rw [if_pos c89] at H;have c89b0 : (a0_0 == a1_0) = true:=beq_iff_eq.mpr c89;have c89b1 : (a0_0 != a1_0) = false:=bne_eq_false_iff_eq.mpr c89;clear c89;replace H:=Option.bind_eq_some_iff.mp H;obtain ⟨t138,A900,H⟩ := H;replace H : (some (t138,0)) = some (r1,r2):=H;have A90:=am A900;clear A900;simp only [Option.some.injEq,Prod.mk.injEq] at H;obtain ⟨rfl,rfl⟩ := H;have hnb91:=NB123_124.out;have hnc91:=NB124_123.out;have hnb92:=NB123_125.out;have hnc92:=NB125_123.out;have hnb93:=NB123_126.out;have hnc93:=NB126_123.out;obtain ⟨hcz94_0,hcz94_1,hfz94_0,hfz94_1⟩ := c2_ BK123.out;have hnb95:=NB124_125.out;have hnc95:=NB125_124.out;have hnb96:=NB124_126.out;have hnc96:=NB126_124.out;obtain ⟨hcz97_0,hcz97_1,hfz97_0,hfz97_1⟩ := c2_ BK124.out;have hnb98:=NB125_126.out;have hnc98:=NB126_125.out;obtain ⟨hcz99_0,hcz99_1,hfz99_0,hfz99_1⟩ := c2_ BK125.out;obtain ⟨hcz100_0,hcz100_1,hfz100_0,hfz100_1⟩ := c2_ BK126.out
        go_wp2_with (first|((with_reducible refine gate_callee (f:=83) rfl ?_);refine goesL_ (some 76) rfl rfl Try.func83 (by kernel_rfl) rfl #[.int .i64 a0_1,.int .i64 a1_1,.int .i64 a2_1,.int .i64 a3_1] rfl (by (try simp only [mT,mC,mN]);first|done|rfl|(simp only [lDr,lTk];rfl)) ?_;(with_reducible refine (vector_common.calls a0_1 a1_1 a2_1 a3_1 t138 _ A90.out).mono ?_);rintro e w101 ⟨rfl,hb⟩;refine ⟨_,rfl, ?_⟩;replace BK123:=bba BK123 hb;replace BK124:=bba BK124 hb;replace BK125:=bba BK125 hb;replace BK126:=bba BK126 hb;replace HB:=bsa HB hb;(try clear hb);(try clear hb2);(try clear hk);(try clear hi)))
        go_ret2
        exact ⟨by first|rfl|(simp [errW_none,errW_some] <;> rfl)|(simp [*,errW_none,errW_some] <;> rfl),by repeat (first|(with_reducible first|exact HB.out|apply lA|apply lN|apply lD|refine lS ?_ GE123.out|refine lS ?_ GE124.out|refine lS ?_ GE125.out|refine lS ?_ GE126.out)|exact HB.out)⟩
       ·rw [if_neg c89] at H;have c89b0 : (a0_0 == a1_0) = false:=beq_eq_false_iff_ne.mpr c89;have c89b1 : (a0_0 != a1_0) = true:=bne_iff_ne.mpr c89;replace H:=Option.bind_eq_some_iff.mp H;obtain ⟨t137,A1020,H⟩ := H;replace H : (some (t137,0)) = some (r1,r2):=H;have A102:=am A1020;clear A1020;simp only [Option.some.injEq,Prod.mk.injEq] at H;obtain ⟨rfl,rfl⟩ := H;have hnb103:=NB123_124.out;have hnc103:=NB124_123.out;have hnb104:=NB123_125.out;have hnc104:=NB125_123.out;have hnb105:=NB123_126.out;have hnc105:=NB126_123.out;obtain ⟨hcz106_0,hcz106_1,hfz106_0,hfz106_1⟩ := c2_ BK123.out;have hnb107:=NB124_125.out;have hnc107:=NB125_124.out;have hnb108:=NB124_126.out;have hnc108:=NB126_124.out;obtain ⟨hcz109_0,hcz109_1,hfz109_0,hfz109_1⟩ := c2_ BK124.out;have hnb110:=NB125_126.out;have hnc110:=NB126_125.out;obtain ⟨hcz111_0,hcz111_1,hfz111_0,hfz111_1⟩ := c2_ BK125.out;obtain ⟨hcz112_0,hcz112_1,hfz112_0,hfz112_1⟩ := c2_ BK126.out
        go_wp2_with (first|((with_reducible refine gate_callee (f:=83) rfl ?_);refine goesL_ (some 67) rfl rfl Try.func83 (by kernel_rfl) rfl #[.int .i64 a0_0,.int .i64 a1_0,.int .i64 a2_0,.int .i64 a3_0] rfl (by (try simp only [mT,mC,mN]);first|done|rfl|(simp only [lDr,lTk];rfl)) ?_;(with_reducible refine (vector_common.calls a0_0 a1_0 a2_0 a3_0 t137 _ A102.out).mono ?_);rintro e w113 ⟨rfl,hb⟩;refine ⟨_,rfl, ?_⟩;replace BK123:=bba BK123 hb;replace BK124:=bba BK124 hb;replace BK125:=bba BK125 hb;replace BK126:=bba BK126 hb;replace HB:=bsa HB hb;(try clear hb);(try clear hb2);(try clear hk);(try clear hi)))
        go_ret2
        exact ⟨by first|rfl|(simp [errW_none,errW_some] <;> rfl)|(simp [*,errW_none,errW_some] <;> rfl),by repeat (first|(with_reducible first|exact HB.out|apply lA|apply lN|apply lD|refine lS ?_ GE123.out|refine lS ?_ GE124.out|refine lS ?_ GE125.out|refine lS ?_ GE126.out)|exact HB.out)⟩
      ·replace c88:=Bool.eq_false_iff.mpr c88;subst c88
       have H1 : (if (wrap64 (t135 * t136)) ≤ 0 then ((vector_turn.f a2_0 a2_1 a3_0 a3_1 a0_0 a0_1).bind fun t139=>((vector_turn.f a2_0 a2_1 a3_0 a3_1 a1_0 a1_1).bind fun t140=>((vector_one.f (decide ((wrap64 (t139 * t140)) ≤ 0))).bind fun t141=>(some (t141,0))))) else ((vector_one.f false).bind fun t142=>(some (t142,0)))) = some (r1,r2):=by rw [if_neg (show ¬ (false = true) by decide)] at H;exact H
       clear H;have H:=H1;clear H1;by_cases c114 : (wrap64 (t135 * t136)) ≤ 0
       ·rw [if_pos c114] at H;have c114b0 : decide ((wrap64 (t135 * t136)) ≤ 0) = true:=decide_eq_true c114;clear c114;replace H:=Option.bind_eq_some_iff.mp H;obtain ⟨t139,A1150,H⟩ := H;replace H : ((vector_turn.f a2_0 a2_1 a3_0 a3_1 a1_0 a1_1).bind fun t140=>((vector_one.f (decide ((wrap64 (t139 * t140)) ≤ 0))).bind fun t141=>(some (t141,0)))) = some (r1,r2):=H;have A115:=am A1150;clear A1150;replace H:=Option.bind_eq_some_iff.mp H;obtain ⟨t140,A1160,H⟩ := H;replace H : ((vector_one.f (decide ((wrap64 (t139 * t140)) ≤ 0))).bind fun t141=>(some (t141,0))) = some (r1,r2):=H;have A116:=am A1160;clear A1160;replace H:=Option.bind_eq_some_iff.mp H;obtain ⟨t141,A1170,H⟩ := H;replace H : (some (t141,0)) = some (r1,r2):=H;have A117:=am A1170;clear A1170;simp only [Option.some.injEq,Prod.mk.injEq] at H;obtain ⟨rfl,rfl⟩ := H
        try go_wp2
        replace BK123:=bda BK123;replace BK124:=bda BK124;replace BK125:=bda BK125;replace BK126:=bda BK126;replace HB:=hda HB
        refine start_ (n:=19) (S:=fun w'=>w'.cell? ⟨gb125,0,none⟩ = some (.int .i64 a2_0) ∧ w'.cell? ⟨gb125,1,none⟩ = some (.int .i64 a2_1) ∧ w'.cell? ⟨gb126,0,none⟩ = some (.int .i64 a3_0) ∧ w'.cell? ⟨gb126,1,none⟩ = some (.int .i64 a3_1) ∧ w'.cell? ⟨gb123,0,none⟩ = some (.int .i64 a0_0) ∧ w'.cell? ⟨gb123,1,none⟩ = some (.int .i64 a0_1) ∧ w'.cell? ⟨gb124,0,none⟩ = some (.int .i64 a1_0) ∧ w'.cell? ⟨gb124,1,none⟩ = some (.int .i64 a1_1)) (ds:=[]) #[f_,f_,f_,f_,f_,f_,f_,f_,f_,f_,f_,f_,f_,f_,f_,f_,f_,f_,f_] (by kernel_rfl) rfl rfl ⟨(blk_cell BK125.out 0).trans rfl,(blk_cell BK125.out 1).trans rfl,(blk_cell BK126.out 0).trans rfl,(blk_cell BK126.out 1).trans rfl,(blk_cell BK123.out 0).trans rfl,(blk_cell BK123.out 1).trans rfl,(blk_cell BK124.out 0).trans rfl,(blk_cell BK124.out 1).trans rfl⟩ (fun hHeld=>?_);refine with_tabW vector_Meet.tab13 vector_Meet.bits13 (fun HT_ HW_=>?_)
        generalize wc.drew = w118 at BK123 BK124 BK125 BK126 HB hHeld ⊢
        refine pu_ HT_ 0 77 (mk_ 19 1) ?_
        refine pu_ HT_ 1 78 (mk_ 19 3) ?_
        refine pu_ HT_ 2 79 (mk_ 19 7) ?_
        refine pu_ HT_ 3 80 (mk_ 19 15) ?_
        refine pu_ HT_ 4 81 (mk_ 19 31) ?_
        refine ta8_ HT_ HW_ 5 82 (mk_ 19 63) hHeld ?_
        refine ta8_ HT_ HW_ 6 83 (mk_ 19 127) hHeld ?_
        refine ta8_ HT_ HW_ 7 84 (mk_ 19 255) hHeld ?_
        refine ta8_ HT_ HW_ 9 86 (mk_ 19 767) hHeld ?_
        refine ta8_ HT_ HW_ 10 87 (mk_ 19 1791) hHeld ?_
        refine ta8_ HT_ HW_ 11 88 (mk_ 19 3839) hHeld ?_
        refine one_ (i:=8) (N:=some 85) (mk_ 19 4095) rfl rfl (one_of HT_.out (by kernel_rfl)) (by decide) (fun K hK=>?_);refine goes_ Try.func82 (by kernel_rfl) rfl #[.agg #[.int .i64 a2_0,.int .i64 a2_1],.agg #[.int .i64 a3_0,.int .i64 a3_1],.agg #[.int .i64 a0_0,.int .i64 a0_1]] (by rfl) rfl rfl (by (try simp only [mT,mC,mN]);first|done|rfl|(simp only [lDr,lTk];rfl)) ?_
        with_reducible refine (vector_turn.calls a2_0 a2_1 a3_0 a3_1 a0_0 a0_1 t139 _ A115.out).mono ?_
        rintro e w119 ⟨rfl,hb⟩;refine ⟨_,rfl, ?_⟩;replace BK123:=bba BK123 hb;replace BK124:=bba BK124 hb;replace BK125:=bba BK125 hb;replace BK126:=bba BK126 hb;replace HB:=bsa HB hb;(try clear hb);(try clear hb2);(try clear hk);(try clear hi)
        refine hK.out _ _ ⟨(blk_cell BK125.out 0).trans rfl,(blk_cell BK125.out 1).trans rfl,(blk_cell BK126.out 0).trans rfl,(blk_cell BK126.out 1).trans rfl,(blk_cell BK123.out 0).trans rfl,(blk_cell BK123.out 1).trans rfl,(blk_cell BK124.out 0).trans rfl,(blk_cell BK124.out 1).trans rfl⟩ (fun hHeld=>?_)
        clear hK K
        refine nm_ 85 ?_
        refine one_ (i:=12) (N:=some 89) (mk_ 19 8191) rfl rfl (one_of HT_.out (by kernel_rfl)) (by decide) (fun K hK=>?_);refine goes_ Try.func82 (by kernel_rfl) rfl #[.agg #[.int .i64 a2_0,.int .i64 a2_1],.agg #[.int .i64 a3_0,.int .i64 a3_1],.agg #[.int .i64 a1_0,.int .i64 a1_1]] (by rfl) rfl rfl (by (try simp only [mT,mC,mN]);first|done|rfl|(simp only [lDr,lTk];rfl)) ?_
        with_reducible refine (vector_turn.calls a2_0 a2_1 a3_0 a3_1 a1_0 a1_1 t140 _ A116.out).mono ?_
        rintro e w120 ⟨rfl,hb⟩;refine ⟨_,rfl, ?_⟩;replace BK123:=bba BK123 hb;replace BK124:=bba BK124 hb;replace BK125:=bba BK125 hb;replace BK126:=bba BK126 hb;replace HB:=bsa HB hb;(try clear hb);(try clear hb2);(try clear hk);(try clear hi)
        refine hK.out _ _ ⟨(blk_cell BK125.out 0).trans rfl,(blk_cell BK125.out 1).trans rfl,(blk_cell BK126.out 0).trans rfl,(blk_cell BK126.out 1).trans rfl,(blk_cell BK123.out 0).trans rfl,(blk_cell BK123.out 1).trans rfl,(blk_cell BK124.out 0).trans rfl,(blk_cell BK124.out 1).trans rfl⟩ (fun hHeld=>?_)
        clear hK K
        refine nm_ 89 ?_
        refine pu_ HT_ 13 90 (mk_ 19 16383) ?_
        refine pu_ HT_ 14 91 (mk_ 19 32767) ?_
        refine pu_ HT_ 15 92 (mk_ 19 65535) ?_
        refine one_ (i:=16) (N:=some 93) (mk_ 19 131071) rfl rfl (one_of HT_.out (by kernel_rfl)) (by decide) (fun K hK=>?_);refine goes_ Try.func80 (by kernel_rfl) rfl #[.bool (decide ((wrap64 (t139 * t140)) ≤ 0))] (by rfl) rfl rfl (by (try simp only [mT,mC,mN]);first|done|rfl|(simp only [lDr,lTk];rfl)) ?_
        with_reducible refine (vector_one.calls (decide ((wrap64 (t139 * t140)) ≤ 0)) t141 _ A117.out).mono ?_
        rintro e w' ⟨rfl,⟨nd,rfl⟩⟩;refine ⟨_,rfl, ?_⟩
        refine hK.out _ _ ⟨(blk_cell BK125.out 0).trans rfl,(blk_cell BK125.out 1).trans rfl,(blk_cell BK126.out 0).trans rfl,(blk_cell BK126.out 1).trans rfl,(blk_cell BK123.out 0).trans rfl,(blk_cell BK123.out 1).trans rfl,(blk_cell BK124.out 0).trans rfl,(blk_cell BK124.out 1).trans rfl⟩ (fun hHeld=>?_)
        clear hK K
        refine nm_ 93 ?_
        refine pu_ HT_ 17 8 (mk_ 19 262143) ?_
        refine pu_ HT_ 18 9 (mk_ 19 524287) ?_
        refine done_ (done_of HT_.out (by kernel_rfl)) ?_
        try go_wp2
        go_ret2
        exact ⟨by first|rfl|(simp [errW_none,errW_some] <;> rfl)|(simp [*,errW_none,errW_some] <;> rfl),by repeat (first|(with_reducible first|exact HB.out|apply lA|apply lN|apply lD|refine lS ?_ GE123.out|refine lS ?_ GE124.out|refine lS ?_ GE125.out|refine lS ?_ GE126.out)|exact HB.out)⟩
       ·rw [if_neg c114] at H;have c114b0 : decide ((wrap64 (t135 * t136)) ≤ 0) = false:=decide_eq_false c114;clear c114;replace H:=Option.bind_eq_some_iff.mp H;obtain ⟨t142,A1210,H⟩ := H;replace H : (some (t142,0)) = some (r1,r2):=H;have A121:=am A1210;clear A1210;simp only [Option.some.injEq,Prod.mk.injEq] at H;obtain ⟨rfl,rfl⟩ := H
        try go_wp2
        replace BK123:=bda BK123;replace BK124:=bda BK124;replace BK125:=bda BK125;replace BK126:=bda BK126;replace HB:=hda HB
        refine start_ (n:=19) (S:=fun w'=>True) (ds:=[]) #[f_,f_,f_,f_,f_,f_,f_,f_,f_,f_,f_,f_,f_,f_,f_,f_,f_,f_,f_] (by kernel_rfl) rfl rfl trivial (fun hHeld=>?_);refine with_tabW vector_Meet.tab13 vector_Meet.bits13 (fun HT_ HW_=>?_)
        generalize wc.drew = w122 at BK123 BK124 BK125 BK126 HB hHeld ⊢
        refine pu_ HT_ 0 77 (mk_ 19 1) ?_
        refine pu_ HT_ 1 78 (mk_ 19 3) ?_
        refine pu_ HT_ 2 79 (mk_ 19 7) ?_
        refine pu_ HT_ 3 80 (mk_ 19 15) ?_
        refine pu_ HT_ 4 81 (mk_ 19 31) ?_
        refine pn_ HT_ 5 82 (mk_ 19 63) ?_
        refine pn_ HT_ 6 83 (mk_ 19 127) ?_
        refine pn_ HT_ 7 84 (mk_ 19 255) ?_
        refine pn_ HT_ 8 85 (mk_ 19 511) ?_
        refine pn_ HT_ 9 86 (mk_ 19 1023) ?_
        refine pn_ HT_ 10 87 (mk_ 19 2047) ?_
        refine pn_ HT_ 11 88 (mk_ 19 4095) ?_
        refine pn_ HT_ 12 89 (mk_ 19 8191) ?_
        refine pn_ HT_ 13 90 (mk_ 19 16383) ?_
        refine pn_ HT_ 14 91 (mk_ 19 32767) ?_
        refine pu_ HT_ 15 92 (mk_ 19 65535) ?_
        refine one_ (i:=16) (N:=some 93) (mk_ 19 131071) rfl rfl (one_of HT_.out (by kernel_rfl)) (by decide) (fun K hK=>?_);refine goes_ Try.func80 (by kernel_rfl) rfl #[.bool false] (by rfl) rfl rfl (by (try simp only [mT,mC,mN]);first|done|rfl|(simp only [lDr,lTk];rfl)) ?_
        with_reducible refine (vector_one.calls false t142 _ A121.out).mono ?_
        rintro e w' ⟨rfl,⟨nd,rfl⟩⟩;refine ⟨_,rfl, ?_⟩
        refine hK.out _ _ trivial (fun hHeld=>?_)
        clear hK K
        refine nm_ 93 ?_
        refine pu_ HT_ 17 8 (mk_ 19 262143) ?_
        refine pu_ HT_ 18 9 (mk_ 19 524287) ?_
        refine done_ (done_of HT_.out (by kernel_rfl)) ?_
        try go_wp2
        go_ret2
        exact ⟨by first|rfl|(simp [errW_none,errW_some] <;> rfl)|(simp [*,errW_none,errW_some] <;> rfl),by repeat (first|(with_reducible first|exact HB.out|apply lA|apply lN|apply lD|refine lS ?_ GE123.out|refine lS ?_ GE124.out|refine lS ?_ GE125.out|refine lS ?_ GE126.out)|exact HB.out)⟩
 ·rw [if_neg c6] at H;have c6b0 : (t130 == 0) = false:=beq_eq_false_iff_ne.mpr c6;have c6b1 : (t130 != 0) = true:=bne_iff_ne.mpr c6;simp only [Option.some.injEq,Prod.mk.injEq] at H;obtain ⟨rfl,rfl⟩ := H
  go_enter Try.func57,Try.ntmps57
  go_wp2_with (first|((with_reducible refine gate_dst (N:=4) rfl ?_);refine box_event ?hg (N:=4) ?hd (cs:=#[.int .i64 a0_0,.int .i64 a0_1]) (t:=31) ?hr ?_;(case hd=>rfl);(case hg=>rfl);(case hr=>first|(go_simp;done)|(go_simp;rfl));intro gb123 hg w123 hbox hb;have BK123:=am hbox;have GW123:=bza HB hg;have GE123:=bza HB hg;replace HB:=bsa HB hb;clear hb hbox hg)|((with_reducible refine gate_dst (N:=5) rfl ?_);refine box_event ?hg (N:=5) ?hd (cs:=#[.int .i64 a1_0,.int .i64 a1_1]) (t:=31) ?hr ?_;(case hd=>rfl);(case hg=>rfl);(case hr=>first|(go_simp;done)|(go_simp;rfl));intro gb124 hg w124 hbox hb;have BK124:=am hbox;have GW124:=bza HB hg;have GE124:=bza HB hg;have NB123_124:=bla BK123 hg;have NB124_123:=bga BK123 hg;replace BK123:=bba BK123 hb;replace HB:=bsa HB hb;clear hb hbox hg)|((with_reducible refine gate_dst (N:=6) rfl ?_);refine box_event ?hg (N:=6) ?hd (cs:=#[.int .i64 a2_0,.int .i64 a2_1]) (t:=31) ?hr ?_;(case hd=>rfl);(case hg=>rfl);(case hr=>first|(go_simp;done)|(go_simp;rfl));intro gb125 hg w125 hbox hb;have BK125:=am hbox;have GW125:=bza HB hg;have GE125:=bza HB hg;have NB123_125:=bla BK123 hg;have NB125_123:=bga BK123 hg;have NB124_125:=bla BK124 hg;have NB125_124:=bga BK124 hg;replace BK123:=bba BK123 hb;replace BK124:=bba BK124 hb;replace HB:=bsa HB hb;clear hb hbox hg)|((with_reducible refine gate_dst (N:=7) rfl ?_);refine box_event ?hg (N:=7) ?hd (cs:=#[.int .i64 a3_0,.int .i64 a3_1]) (t:=31) ?hr ?_;(case hd=>rfl);(case hg=>rfl);(case hr=>first|(go_simp;done)|(go_simp;rfl));intro gb126 hg w126 hbox hb;have BK126:=am hbox;have GW126:=bza HB hg;have GE126:=bza HB hg;have NB123_126:=bla BK123 hg;have NB126_123:=bga BK123 hg;have NB124_126:=bla BK124 hg;have NB126_124:=bga BK124 hg;have NB125_126:=bla BK125 hg;have NB126_125:=bga BK125 hg;replace BK123:=bba BK123 hb;replace BK124:=bba BK124 hb;replace BK125:=bba BK125 hb;replace HB:=bsa HB hb;clear hb hbox hg;have hnb127:=NB123_124.out;have hnc127:=NB124_123.out;have hnb128:=NB123_125.out;have hnc128:=NB125_123.out;have hnb129:=NB123_126.out;have hnc129:=NB126_123.out;obtain ⟨hcz130_0,hcz130_1,hfz130_0,hfz130_1⟩ := c2_ BK123.out;have hnb131:=NB124_125.out;have hnc131:=NB125_124.out;have hnb132:=NB124_126.out;have hnc132:=NB126_124.out;obtain ⟨hcz133_0,hcz133_1,hfz133_0,hfz133_1⟩ := c2_ BK124.out;have hnb134:=NB125_126.out;have hnc134:=NB126_125.out;obtain ⟨hcz135_0,hcz135_1,hfz135_0,hfz135_1⟩ := c2_ BK125.out;obtain ⟨hcz136_0,hcz136_1,hfz136_0,hfz136_1⟩ := c2_ BK126.out)|((with_reducible refine gate_dst (N:=17) rfl ?_);refine Kd.R_lit k31 _ 31 ?hg (N:=17) ?hd (xs:=([(⟨a0_0,a0_1⟩ : S31),(⟨a1_0,a1_1⟩ : S31),(⟨a2_0,a2_1⟩ : S31),(⟨a3_0,a3_1⟩ : S31)] : List (S31))) (inner:=[.int .i64 a0_0,.int .i64 a0_1,.int .i64 a1_0,.int .i64 a1_1,.int .i64 a2_0,.int .i64 a2_1,.int .i64 a3_0,.int .i64 a3_1]) (ok:=fun _=>True) (okp:=fun _=>True) ?hr ?hp (fun _ hk=>hk) trivial (Below.refl _ _) (Nat.le_refl _) (by simp) ?_;(case hd=>rfl);(case hg=>rfl);(case hr=>first|(go_simp;done)|(go_simp;rfl));(case hp=>exact (Reps.c2 (show Kd.M k31 _ _ _ (⟨a0_0,a0_1⟩ : S31) [.int .i64 a0_0,.int .i64 a0_1] from (k31_mkM _ _ _ (⟨a0_0,a0_1⟩ : S31) )) (Reps.c2 (show Kd.M k31 _ _ _ (⟨a1_0,a1_1⟩ : S31) [.int .i64 a1_0,.int .i64 a1_1] from (k31_mkM _ _ _ (⟨a1_0,a1_1⟩ : S31) )) (Reps.c2 (show Kd.M k31 _ _ _ (⟨a2_0,a2_1⟩ : S31) [.int .i64 a2_0,.int .i64 a2_1] from (k31_mkM _ _ _ (⟨a2_0,a2_1⟩ : S31) )) (Reps.c2 (show Kd.M k31 _ _ _ (⟨a3_0,a3_1⟩ : S31) [.int .i64 a3_0,.int .i64 a3_1] from (k31_mkM _ _ _ (⟨a3_0,a3_1⟩ : S31) )) (Reps.none _ _))))));intro v128 w137 ho138 hb hg_ hnew_;clear hg_ hnew_;(first|rw [← Ny127.out] at ho138|(simp only [Int.reduceToNat] at ho138;rw [← Ny127.out] at ho138));have HO129:=am (Kd.R_lower (Kd.R_newB (Kd.R_newB (Kd.R_newB (Kd.R_newB ho138 (g:=gb123) (o:=.cells #[.int .i64 a0_0,.int .i64 a0_1] 31 (0,0)) (bq BK123.out)) (g:=gb124) (o:=.cells #[.int .i64 a1_0,.int .i64 a1_1] 31 (0,0)) (bq BK124.out)) (g:=gb125) (o:=.cells #[.int .i64 a2_0,.int .i64 a2_1] 31 (0,0)) (bq BK125.out)) (g:=gb126) (o:=.cells #[.int .i64 a3_0,.int .i64 a3_1] 31 (0,0)) (bq BK126.out)) (below_size (by repeat (first|(with_reducible first|exact HB.out|apply lA|apply lN|apply lD|refine lS ?_ GE123.out|refine lS ?_ GE124.out|refine lS ?_ GE125.out|refine lS ?_ GE126.out)|exact HB.out))));replace BK123:=bba BK123 hb;replace BK124:=bba BK124 hb;replace BK125:=bba BK125 hb;replace BK126:=bba BK126 hb;replace HB:=bsa HB hb;clear hb ho138;obtain ⟨Ao139,co139,eo139⟩ := Kd.R_slice HO129.out;subst eo139)|((with_reducible refine gate_callee (f:=79) rfl ?_);refine goesL_ (some 18) rfl rfl Try.func79 (by kernel_rfl) rfl #[.slice Ao139 y127.length co139] rfl (by (try simp only [mT,mC,mN]);first|done|rfl|(simp only [lDr,lTk];rfl)) ?_;(with_reducible refine (vector_points.calls k _ _ y127 t130 _ ?side1 ?side2 A5.out).mono ?_);(case side1=>exact cr (Kd.R_reads' HO129.out).2.2);(case side2=>exact (Kd.R_reads' HO129.out).2.1);rintro e w140 ⟨rfl,hb⟩;refine ⟨_,rfl, ?_⟩;replace HO129:=rba HO129 hb;replace BK123:=bba BK123 hb;replace BK124:=bba BK124 hb;replace BK125:=bba BK125 hb;replace BK126:=bba BK126 hb;replace HB:=bsa HB hb;(try clear hb);(try clear hb2);(try clear hk);(try clear hi)))
  go_ret2
  exact ⟨by first|rfl|(simp [errW_none,errW_some] <;> rfl)|(simp [*,errW_none,errW_some] <;> rfl),by repeat (first|(with_reducible first|exact HB.out|apply lA|apply lN|apply lD|refine lS ?_ GE123.out|refine lS ?_ GE124.out|refine lS ?_ GE125.out|refine lS ?_ GE126.out)|exact HB.out)⟩
end
end Go.Proofs.Ytnjikioimompnaa.PA
