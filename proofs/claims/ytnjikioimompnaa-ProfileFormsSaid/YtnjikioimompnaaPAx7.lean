import Derived.Test.YtnjikioimompnaaGf
import Derived.Test.YtnjikioimompnaaPAx6
namespace Go.Proofs.Ytnjikioimompnaa.PA
open Go.RowKit Go.Proofs.YtnjikioimompnaaW.PrintWords Go.Proofs.YtnjikioimompnaaW.PrintLast Go.Proofs.YtnjikioimompnaaW.PrintMore
attribute [local go_sem] max2_int min2_int max_two min_two max_three min_three max_four min_four
set_option linter.unusedVariables false
set_option linter.unusedSimpArgs false
noncomputable section
attribute [local go_sem high] eqA31
def profile_Equal.f (k : Nat) (a0_0 : ByteArray) (l0_1 : List (S31)) (a1_0 : ByteArray) (l1_1 : List (S31)) : Option (Bool × Int):=(profile_Canonical.f k a0_0 l0_1).bind fun bt206=>(if bt206.2.2 = 0 then ((profile_Canonical.f k a1_0 l1_1).bind fun bt212=>(if bt212.2.2 = 0 then ((api_Point_46.f k bt206.2.1 bt212.2.1).bind fun t218=>(some (t218,0))) else (some (false,bt212.2.2)))) else (some (false,bt206.2.2)))
theorem profile_Equal.mono : ∀ a0 a1 a2 a3 k,LeO (profile_Equal.f k a0 a1 a2 a3) (profile_Equal.f (k + 1) a0 a1 a2 a3):=by
 intro a0 a1 a2 a3 k
 unfold profile_Equal.f
 repeat' first
   | (with_reducible exact api_Point_46.mono _ _ _)
   | (with_reducible exact profile_Canonical.mono _ _ _)
   | (with_reducible exact LeO.refl _)
   | (with_reducible exact LeO.none _)
   | (with_reducible refine LeO.ite ?_ ?_)
   | (with_reducible refine LeO.bind ?_ (fun _=>?_))
   | exact api_Point_46.mono _ _ _
   | exact profile_Canonical.mono _ _ _
   | exact LeO.none _
   | refine LeO.ite ?_ ?_
   | refine LeO.bind ?_ (fun _=>?_)
set_option maxHeartbeats 8000000 in
set_option maxRecDepth 100000 in
theorem profile_Equal.calls (k : Nat) (a0_0 : ByteArray) (A0_1 : Option Addr) (c0_1 : Nat) (l0_1 : List (S31)) (a1_0 : ByteArray) (A1_1 : Option Addr) (c1_1 : Nat) (l1_1 : List (S31)) (r1 : Bool) (r2 : Int) (w : World) (hr0_1 : Kd.C k31 w A0_1 l0_1.length l0_1) (hc0_1 : l0_1.length ≤ c0_1) (hr1_1 : Kd.C k31 w A1_1 l1_1.length l1_1) (hc1_1 : l1_1.length ≤ c1_1) (h : profile_Equal.f k a0_0 l0_1 a1_0 l1_1 = some (r1, r2)) :
  Calls Try.prog 22 #[.agg #[.string a0_0,.slice A0_1 l0_1.length c0_1],.agg #[.string a1_0,.slice A1_1 l1_1.length c1_1]] w fun e w'=>e = .returned (.tuple #[.bool r1,.int .i64 r2]) ∧ Below w.heap.size w w':=by
 have hu25:=Try.underlying25;have HR0_1:=am hr0_1;have HC0_1:=am hc0_1;clear hr0_1 hc0_1;have HR1_1:=am hr1_1;have HC1_1:=am hc1_1;clear hr1_1 hc1_1;have HB:=am (Below.refl w.heap.size w);have H : ((profile_Canonical.f k a0_0 l0_1).bind fun bt206=>(if bt206.2.2 = 0 then ((profile_Canonical.f k a1_0 l1_1).bind fun bt212=>(if bt212.2.2 = 0 then ((api_Point_46.f k bt206.2.1 bt212.2.1).bind fun t218=>(some (t218,0))) else (some (false,bt212.2.2)))) else (some (false,bt206.2.2)))) = some (r1,r2):=h;clear h;replace H:=Option.bind_eq_some_iff.mp H;obtain ⟨⟨t206,t207,t210⟩,A30,H⟩ := H;replace H : (if t210 = 0 then ((profile_Canonical.f k a1_0 l1_1).bind fun bt212=>(if bt212.2.2 = 0 then ((api_Point_46.f k t207 bt212.2.1).bind fun t218=>(some (t218,0))) else (some (false,bt212.2.2)))) else (some (false,t210))) = some (r1,r2):=H;have A3:=am A30;clear A30;by_cases c4 : t210 = 0
 ·rw [if_pos c4] at H;have c4b0 : (t210 == 0) = true:=beq_iff_eq.mpr c4;have c4b1 : (t210 != 0) = false:=bne_eq_false_iff_eq.mpr c4;clear c4;replace H:=Option.bind_eq_some_iff.mp H;obtain ⟨⟨t212,t213,t216⟩,A50,H⟩ := H;replace H : (if t216 = 0 then ((api_Point_46.f k t207 t213).bind fun t218=>(some (t218,0))) else (some (false,t216))) = some (r1,r2):=H;have A5:=am A50;clear A50;by_cases c6 : t216 = 0
  ·rw [if_pos c6] at H;have c6b0 : (t216 == 0) = true:=beq_iff_eq.mpr c6;have c6b1 : (t216 != 0) = false:=bne_eq_false_iff_eq.mpr c6;clear c6;replace H:=Option.bind_eq_some_iff.mp H;obtain ⟨t218,A70,H⟩ := H;replace H : (some (t218,0)) = some (r1,r2):=H;have A7:=am A70;clear A70;simp only [Option.some.injEq,Prod.mk.injEq] at H;obtain ⟨rfl,rfl⟩ := H
   go_enter Try.func22,Try.ntmps22
   go_wp2_with (first|((with_reducible refine gate_dst (N:=2) rfl ?_);refine box_event ?hg (N:=2) ?hd (cs:=#[.string a0_0,.slice A0_1 l0_1.length c0_1]) (t:=25) ?hr ?_;(case hd=>rfl);(case hg=>rfl);(case hr=>first|(go_simp;done)|(go_simp;rfl));intro gb204 hg w8 hbox hb;have BK204:=am hbox;have GW204:=bza HB hg;have GE204:=bza HB hg;replace HB:=bsa HB hb;clear hb hbox hg)|((with_reducible refine gate_dst (N:=3) rfl ?_);refine box_event ?hg (N:=3) ?hd (cs:=#[.string a1_0,.slice A1_1 l1_1.length c1_1]) (t:=25) ?hr ?_;(case hd=>rfl);(case hg=>rfl);(case hr=>first|(go_simp;done)|(go_simp;rfl));intro gb205 hg w9 hbox hb;have BK205:=am hbox;have GW205:=bza HB hg;have GE205:=bza HB hg;have NB204_205:=bla BK204 hg;have NB205_204:=bga BK204 hg;replace BK204:=bba BK204 hb;replace HB:=bsa HB hb;clear hb hbox hg;have hnb10:=NB204_205.out;have hnc10:=NB205_204.out;obtain ⟨hcz11_0,hcz11_1,hfz11_0,hfz11_1⟩ := c2_ BK204.out)|((with_reducible refine gate_callee (f:=20) rfl ?_);refine goesL_ (some 11) rfl rfl Try.func20 (by kernel_rfl) rfl #[.agg #[.string a0_0,.slice A0_1 l0_1.length c0_1]] rfl (by (try simp only [mT,mC,mN]);first|done|rfl|(simp only [lDr,lTk];rfl)) ?_;(with_reducible refine (profile_Canonical.calls k a0_0 _ _ l0_1 t206 t207 t210 _ ?side1 ?side2 A3.out).mono ?_);(case side1=>exact cq HR0_1.out HB.out);(case side2=>exact HC0_1.out);rintro e w12 ⟨v208,rfl,ho0,hb⟩;refine ⟨_,rfl, ?_⟩;have HO209:=am (Kd.R_lower ho0 (below_size (by repeat (first|(with_reducible first|exact HB.out|apply lA|apply lN|apply lD|refine lS ?_ GE204.out|refine lS ?_ GE205.out)|exact HB.out))));replace BK204:=bba BK204 hb;replace BK205:=bba BK205 hb;replace HB:=bsa HB hb;(try clear hb);(try clear hb2);(try clear hk);(try clear hi);(try clear ho0))|((with_reducible refine gate_dst (N:=6) rfl ?_);refine box_event ?hg (N:=6) ?hd (cs:=#[.string (⟨#[]⟩ : ByteArray),.slice none 0 0]) (t:=25) ?hr ?_;(case hd=>rfl);(case hg=>rfl);(case hr=>first|(go_simp;done)|(go_simp;rfl));intro gb211 hg w13 hbox hb;have BK211:=am hbox;have GW211:=bza HB hg;have GE211:=bza HB hg;have NB204_211:=bla BK204 hg;have NB211_204:=bga BK204 hg;have NB205_211:=bla BK205 hg;have NB211_205:=bga BK205 hg;replace HO209:=rba HO209 hb;replace BK204:=bba BK204 hb;replace BK205:=bba BK205 hb;replace HB:=bsa HB hb;clear hb hbox hg;have hnb14:=NB211_204.out;have hnc14:=NB204_211.out;have hnb15:=NB211_205.out;have hnc15:=NB205_211.out;obtain ⟨hcz16_0,hcz16_1,hfz16_0,hfz16_1⟩ := c2_ BK211.out;obtain ⟨Ao17,co17,eo17⟩ := Kd.R_slice HO209.out;subst eo17;obtain ⟨hcz18_0,hcz18_1,hfz18_0,hfz18_1⟩ := c2_ BK205.out)|((with_reducible refine gate_callee (f:=20) rfl ?_);refine goesL_ (some 19) rfl rfl Try.func20 (by kernel_rfl) rfl #[.agg #[.string a1_0,.slice A1_1 l1_1.length c1_1]] rfl (by (try simp only [mT,mC,mN]);first|done|rfl|(simp only [lDr,lTk];rfl)) ?_;(with_reducible refine (profile_Canonical.calls k a1_0 _ _ l1_1 t212 t213 t216 _ ?side1 ?side2 A5.out).mono ?_);(case side1=>exact Kd.C_below HR1_1.out (by repeat (first|(with_reducible first|exact HB.out|apply lA|apply lN|apply lD|refine lS ?_ GE204.out|refine lS ?_ GE205.out|refine lS ?_ GE211.out)|exact HB.out)));(case side2=>exact HC1_1.out);rintro e w19 ⟨v214,rfl,ho0,hb⟩;refine ⟨_,rfl, ?_⟩;have n0_:=am (Kd.R_elder' (by (with_reducible repeat (first|apply rA|apply rN|apply rD));exact (Kd.R_mono (Kd.R_far (p:=⟨gb211,1,none⟩) (Kd.R_far (p:=⟨gb211,0,none⟩) (Kd.R_types HO209.out BK211.out (by decide)) (fun _ hk=>hk.2) (.string t206)) (fun _ hk=>hk.2) (.slice Ao17 t207.length co17)) (fun _ h_=>h_.1))) (Kd.R_base ho0) hb);have n1_:=am (Kd.R_lower (Kd.R_new' ho0 (Kd.R_lt (by (with_reducible repeat (first|apply rA|apply rN|apply rD));exact (Kd.R_mono (Kd.R_far (p:=⟨gb211,1,none⟩) (Kd.R_far (p:=⟨gb211,0,none⟩) (Kd.R_types HO209.out BK211.out (by decide)) (fun _ hk=>hk.2) (.string t206)) (fun _ hk=>hk.2) (.slice Ao17 t207.length co17)) (fun _ h_=>h_.1))))) (below_size (by repeat (first|(with_reducible first|exact HB.out|apply lA|apply lN|apply lD|refine lS ?_ GE204.out|refine lS ?_ GE205.out|refine lS ?_ GE211.out)|exact HB.out))));have n2_:=am (blk_below (g:=gb204) (o:=.cells #[.string a0_0,.slice A0_1 l0_1.length c0_1] 25 (0,0)) (by (with_reducible repeat (first|apply bN|apply bD|apply bA));refine blk_far ?_ NB204_211.out _;(with_reducible repeat (first|apply bN|apply bD|apply bA));refine blk_far ?_ NB204_211.out _;(with_reducible repeat (first|apply bN|apply bD|apply bA));exact BK204.out) hb);have n3_:=am (blk_below (g:=gb205) (o:=.cells #[.string a1_0,.slice A1_1 l1_1.length c1_1] 25 (0,0)) (by (with_reducible repeat (first|apply bN|apply bD|apply bA));refine blk_far ?_ NB205_211.out _;(with_reducible repeat (first|apply bN|apply bD|apply bA));refine blk_far ?_ NB205_211.out _;(with_reducible repeat (first|apply bN|apply bD|apply bA));exact BK205.out) hb);have n4_:=am (blk_below (g:=gb211) (o:=.cells #[.string t206,.slice Ao17 t207.length co17] 25 (0,0)) (by (with_reducible repeat (first|apply bN|apply bD|apply bA));refine blk_put (cs:=#[.string t206,.slice none 0 0]) ?_ 1 _ rfl;(with_reducible repeat (first|apply bN|apply bD|apply bA));refine blk_put (cs:=#[.string (⟨#[]⟩ : ByteArray),.slice none 0 0]) ?_ 0 _ rfl;(with_reducible repeat (first|apply bN|apply bD|apply bA));exact BK211.out) hb);have n5_:=am (below_step (by repeat (first|(with_reducible first|exact HB.out|apply lA|apply lN|apply lD|refine lS ?_ GE204.out|refine lS ?_ GE205.out|refine lS ?_ GE211.out)|exact HB.out)) hb);clear BK204 BK205 BK211 HB HO209;have HO209:=n0_;have HO215:=n1_;have BK204:=n2_;have BK205:=n3_;have BK211:=n4_;have HB:=n5_;clear n0_ n1_ n2_ n3_ n4_ n5_;(try clear hb);(try clear hb2);(try clear hk);(try clear hi);(try clear ho0))|((with_reducible refine gate_dst (N:=8) rfl ?_);refine box_event ?hg (N:=8) ?hd (cs:=#[.string (⟨#[]⟩ : ByteArray),.slice none 0 0]) (t:=25) ?hr ?_;(case hd=>rfl);(case hg=>rfl);(case hr=>first|(go_simp;done)|(go_simp;rfl));intro gb217 hg w20 hbox hb;have BK217:=am hbox;have GW217:=bza HB hg;have GE217:=bza HB hg;have NB204_217:=bla BK204 hg;have NB217_204:=bga BK204 hg;have NB205_217:=bla BK205 hg;have NB217_205:=bga BK205 hg;have NB211_217:=bla BK211 hg;have NB217_211:=bga BK211 hg;replace HO209:=rba HO209 hb;replace HO215:=rba HO215 hb;replace BK204:=bba BK204 hb;replace BK205:=bba BK205 hb;replace BK211:=bba BK211 hb;replace HB:=bsa HB hb;clear hb hbox hg;have hnb21:=NB217_204.out;have hnc21:=NB204_217.out;have hnb22:=NB217_205.out;have hnc22:=NB205_217.out;have hnb23:=NB217_211.out;have hnc23:=NB211_217.out;obtain ⟨hcz24_0,hcz24_1,hfz24_0,hfz24_1⟩ := c2_ BK217.out;obtain ⟨Ao25,co25,eo25⟩ := Kd.R_slice HO215.out;subst eo25;obtain ⟨hcz26_0,hcz26_1,hfz26_0,hfz26_1⟩ := c2_ BK211.out)|((with_reducible refine gate_callee (f:=46) rfl ?_);refine goesL_ (some 29) rfl rfl Try.func46 (by kernel_rfl) rfl #[.slice Ao17 t207.length co17,.slice Ao25 t213.length co25] rfl (by (try simp only [mT,mC,mN]);first|done|rfl|(simp only [lDr,lTk];rfl)) ?_;(with_reducible refine (api_Point_46.calls k _ _ t207 _ _ t213 t218 _ ?side1 ?side2 ?side3 ?side4 A7.out).mono ?_);(case side1=>refine (Kd.R_reads' (e:=31) (base:=w.heap.size) (ok:=fun k_=>(True ∧ some k_ ≠ (.slice Ao25 t213.length co25 : Value).ownBlock)) (n:=t207.length) (c:=co17) ?_).2.2;exact (by (with_reducible repeat (first|apply rA|apply rN|apply rD));exact (Kd.R_mono (Kd.R_far (p:=⟨gb217,1,none⟩) (Kd.R_far (p:=⟨gb217,0,none⟩) (Kd.R_types HO209.out BK217.out (by decide)) (fun _ hk=>hk.2) (.string t212)) (fun _ hk=>hk.2) (.slice Ao25 t213.length co25)) (fun _ h_=>h_.1))));(case side2=>exact (Kd.R_reads' HO209.out).2.1);(case side3=>refine (Kd.R_reads' (e:=31) (base:=w.heap.size) (ok:=fun k_=>(True ∧ some k_ ≠ (.slice Ao17 t207.length co17 : Value).ownBlock)) (n:=t213.length) (c:=co25) ?_).2.2;exact (by (with_reducible repeat (first|apply rA|apply rN|apply rD));exact (Kd.R_mono (Kd.R_far (p:=⟨gb217,1,none⟩) (Kd.R_far (p:=⟨gb217,0,none⟩) (Kd.R_types HO215.out BK217.out (by decide)) (fun _ hk=>hk.2) (.string t212)) (fun _ hk=>hk.2) (.slice Ao25 t213.length co25)) (fun _ h_=>h_.1))));(case side4=>exact (Kd.R_reads' HO215.out).2.1);rintro e w' ⟨rfl,⟨nd,rfl⟩⟩;refine ⟨_,rfl, ?_⟩))
   go_ret2
   exact ⟨by first|rfl|(simp [errW_none,errW_some] <;> rfl)|(simp [*,errW_none,errW_some] <;> rfl),by repeat (first|(with_reducible first|exact HB.out|apply lA|apply lN|apply lD|refine lS ?_ GE204.out|refine lS ?_ GE205.out|refine lS ?_ GE211.out|refine lS ?_ GE217.out)|exact HB.out)⟩
  ·rw [if_neg c6] at H;have c6b0 : (t216 == 0) = false:=beq_eq_false_iff_ne.mpr c6;have c6b1 : (t216 != 0) = true:=bne_iff_ne.mpr c6;simp only [Option.some.injEq,Prod.mk.injEq] at H;obtain ⟨rfl,rfl⟩ := H
   go_enter Try.func22,Try.ntmps22
   go_wp2_with (first|((with_reducible refine gate_dst (N:=2) rfl ?_);refine box_event ?hg (N:=2) ?hd (cs:=#[.string a0_0,.slice A0_1 l0_1.length c0_1]) (t:=25) ?hr ?_;(case hd=>rfl);(case hg=>rfl);(case hr=>first|(go_simp;done)|(go_simp;rfl));intro gb204 hg w27 hbox hb;have BK204:=am hbox;have GW204:=bza HB hg;have GE204:=bza HB hg;replace HB:=bsa HB hb;clear hb hbox hg)|((with_reducible refine gate_dst (N:=3) rfl ?_);refine box_event ?hg (N:=3) ?hd (cs:=#[.string a1_0,.slice A1_1 l1_1.length c1_1]) (t:=25) ?hr ?_;(case hd=>rfl);(case hg=>rfl);(case hr=>first|(go_simp;done)|(go_simp;rfl));intro gb205 hg w28 hbox hb;have BK205:=am hbox;have GW205:=bza HB hg;have GE205:=bza HB hg;have NB204_205:=bla BK204 hg;have NB205_204:=bga BK204 hg;replace BK204:=bba BK204 hb;replace HB:=bsa HB hb;clear hb hbox hg;have hnb29:=NB204_205.out;have hnc29:=NB205_204.out;obtain ⟨hcz30_0,hcz30_1,hfz30_0,hfz30_1⟩ := c2_ BK204.out)|((with_reducible refine gate_callee (f:=20) rfl ?_);refine goesL_ (some 11) rfl rfl Try.func20 (by kernel_rfl) rfl #[.agg #[.string a0_0,.slice A0_1 l0_1.length c0_1]] rfl (by (try simp only [mT,mC,mN]);first|done|rfl|(simp only [lDr,lTk];rfl)) ?_;(with_reducible refine (profile_Canonical.calls k a0_0 _ _ l0_1 t206 t207 t210 _ ?side1 ?side2 A3.out).mono ?_);(case side1=>exact cq HR0_1.out HB.out);(case side2=>exact HC0_1.out);rintro e w31 ⟨v208,rfl,ho0,hb⟩;refine ⟨_,rfl, ?_⟩;have HO209:=am (Kd.R_lower ho0 (below_size (by repeat (first|(with_reducible first|exact HB.out|apply lA|apply lN|apply lD|refine lS ?_ GE204.out|refine lS ?_ GE205.out)|exact HB.out))));replace BK204:=bba BK204 hb;replace BK205:=bba BK205 hb;replace HB:=bsa HB hb;(try clear hb);(try clear hb2);(try clear hk);(try clear hi);(try clear ho0))|((with_reducible refine gate_dst (N:=6) rfl ?_);refine box_event ?hg (N:=6) ?hd (cs:=#[.string (⟨#[]⟩ : ByteArray),.slice none 0 0]) (t:=25) ?hr ?_;(case hd=>rfl);(case hg=>rfl);(case hr=>first|(go_simp;done)|(go_simp;rfl));intro gb211 hg w32 hbox hb;have BK211:=am hbox;have GW211:=bza HB hg;have GE211:=bza HB hg;have NB204_211:=bla BK204 hg;have NB211_204:=bga BK204 hg;have NB205_211:=bla BK205 hg;have NB211_205:=bga BK205 hg;replace HO209:=rba HO209 hb;replace BK204:=bba BK204 hb;replace BK205:=bba BK205 hb;replace HB:=bsa HB hb;clear hb hbox hg;have hnb33:=NB211_204.out;have hnc33:=NB204_211.out;have hnb34:=NB211_205.out;have hnc34:=NB205_211.out;obtain ⟨hcz35_0,hcz35_1,hfz35_0,hfz35_1⟩ := c2_ BK211.out;obtain ⟨Ao36,co36,eo36⟩ := Kd.R_slice HO209.out;subst eo36;obtain ⟨hcz37_0,hcz37_1,hfz37_0,hfz37_1⟩ := c2_ BK205.out)|((with_reducible refine gate_callee (f:=20) rfl ?_);refine goesL_ (some 19) rfl rfl Try.func20 (by kernel_rfl) rfl #[.agg #[.string a1_0,.slice A1_1 l1_1.length c1_1]] rfl (by (try simp only [mT,mC,mN]);first|done|rfl|(simp only [lDr,lTk];rfl)) ?_;(with_reducible refine (profile_Canonical.calls k a1_0 _ _ l1_1 t212 t213 t216 _ ?side1 ?side2 A5.out).mono ?_);(case side1=>exact Kd.C_below HR1_1.out (by repeat (first|(with_reducible first|exact HB.out|apply lA|apply lN|apply lD|refine lS ?_ GE204.out|refine lS ?_ GE205.out|refine lS ?_ GE211.out)|exact HB.out)));(case side2=>exact HC1_1.out);rintro e w38 ⟨v214,rfl,ho0,hb⟩;refine ⟨_,rfl, ?_⟩;have n0_:=am (Kd.R_elder' (by (with_reducible repeat (first|apply rA|apply rN|apply rD));exact (Kd.R_mono (Kd.R_far (p:=⟨gb211,1,none⟩) (Kd.R_far (p:=⟨gb211,0,none⟩) (Kd.R_types HO209.out BK211.out (by decide)) (fun _ hk=>hk.2) (.string t206)) (fun _ hk=>hk.2) (.slice Ao36 t207.length co36)) (fun _ h_=>h_.1))) (Kd.R_base ho0) hb);have n1_:=am (Kd.R_lower (Kd.R_new' ho0 (Kd.R_lt (by (with_reducible repeat (first|apply rA|apply rN|apply rD));exact (Kd.R_mono (Kd.R_far (p:=⟨gb211,1,none⟩) (Kd.R_far (p:=⟨gb211,0,none⟩) (Kd.R_types HO209.out BK211.out (by decide)) (fun _ hk=>hk.2) (.string t206)) (fun _ hk=>hk.2) (.slice Ao36 t207.length co36)) (fun _ h_=>h_.1))))) (below_size (by repeat (first|(with_reducible first|exact HB.out|apply lA|apply lN|apply lD|refine lS ?_ GE204.out|refine lS ?_ GE205.out|refine lS ?_ GE211.out)|exact HB.out))));have n2_:=am (blk_below (g:=gb204) (o:=.cells #[.string a0_0,.slice A0_1 l0_1.length c0_1] 25 (0,0)) (by (with_reducible repeat (first|apply bN|apply bD|apply bA));refine blk_far ?_ NB204_211.out _;(with_reducible repeat (first|apply bN|apply bD|apply bA));refine blk_far ?_ NB204_211.out _;(with_reducible repeat (first|apply bN|apply bD|apply bA));exact BK204.out) hb);have n3_:=am (blk_below (g:=gb205) (o:=.cells #[.string a1_0,.slice A1_1 l1_1.length c1_1] 25 (0,0)) (by (with_reducible repeat (first|apply bN|apply bD|apply bA));refine blk_far ?_ NB205_211.out _;(with_reducible repeat (first|apply bN|apply bD|apply bA));refine blk_far ?_ NB205_211.out _;(with_reducible repeat (first|apply bN|apply bD|apply bA));exact BK205.out) hb);have n4_:=am (blk_below (g:=gb211) (o:=.cells #[.string t206,.slice Ao36 t207.length co36] 25 (0,0)) (by (with_reducible repeat (first|apply bN|apply bD|apply bA));refine blk_put (cs:=#[.string t206,.slice none 0 0]) ?_ 1 _ rfl;(with_reducible repeat (first|apply bN|apply bD|apply bA));refine blk_put (cs:=#[.string (⟨#[]⟩ : ByteArray),.slice none 0 0]) ?_ 0 _ rfl;(with_reducible repeat (first|apply bN|apply bD|apply bA));exact BK211.out) hb);have n5_:=am (below_step (by repeat (first|(with_reducible first|exact HB.out|apply lA|apply lN|apply lD|refine lS ?_ GE204.out|refine lS ?_ GE205.out|refine lS ?_ GE211.out)|exact HB.out)) hb);clear BK204 BK205 BK211 HB HO209;have HO209:=n0_;have HO215:=n1_;have BK204:=n2_;have BK205:=n3_;have BK211:=n4_;have HB:=n5_;clear n0_ n1_ n2_ n3_ n4_ n5_;(try clear hb);(try clear hb2);(try clear hk);(try clear hi);(try clear ho0))|((with_reducible refine gate_dst (N:=8) rfl ?_);refine box_event ?hg (N:=8) ?hd (cs:=#[.string (⟨#[]⟩ : ByteArray),.slice none 0 0]) (t:=25) ?hr ?_;(case hd=>rfl);(case hg=>rfl);(case hr=>first|(go_simp;done)|(go_simp;rfl));intro gb217 hg w39 hbox hb;have BK217:=am hbox;have GW217:=bza HB hg;have GE217:=bza HB hg;have NB204_217:=bla BK204 hg;have NB217_204:=bga BK204 hg;have NB205_217:=bla BK205 hg;have NB217_205:=bga BK205 hg;have NB211_217:=bla BK211 hg;have NB217_211:=bga BK211 hg;replace HO209:=rba HO209 hb;replace HO215:=rba HO215 hb;replace BK204:=bba BK204 hb;replace BK205:=bba BK205 hb;replace BK211:=bba BK211 hb;replace HB:=bsa HB hb;clear hb hbox hg;have hnb40:=NB217_204.out;have hnc40:=NB204_217.out;have hnb41:=NB217_205.out;have hnc41:=NB205_217.out;have hnb42:=NB217_211.out;have hnc42:=NB211_217.out;obtain ⟨hcz43_0,hcz43_1,hfz43_0,hfz43_1⟩ := c2_ BK217.out;obtain ⟨Ao44,co44,eo44⟩ := Kd.R_slice HO215.out;subst eo44))
   go_ret2
   exact ⟨by first|rfl|(simp [errW_none,errW_some] <;> rfl)|(simp [*,errW_none,errW_some] <;> rfl),by repeat (first|(with_reducible first|exact HB.out|apply lA|apply lN|apply lD|refine lS ?_ GE204.out|refine lS ?_ GE205.out|refine lS ?_ GE211.out|refine lS ?_ GE217.out)|exact HB.out)⟩
 ·rw [if_neg c4] at H;have c4b0 : (t210 == 0) = false:=beq_eq_false_iff_ne.mpr c4;have c4b1 : (t210 != 0) = true:=bne_iff_ne.mpr c4;simp only [Option.some.injEq,Prod.mk.injEq] at H;obtain ⟨rfl,rfl⟩ := H
  go_enter Try.func22,Try.ntmps22
  go_wp2_with (first|((with_reducible refine gate_dst (N:=2) rfl ?_);refine box_event ?hg (N:=2) ?hd (cs:=#[.string a0_0,.slice A0_1 l0_1.length c0_1]) (t:=25) ?hr ?_;(case hd=>rfl);(case hg=>rfl);(case hr=>first|(go_simp;done)|(go_simp;rfl));intro gb204 hg w45 hbox hb;have BK204:=am hbox;have GW204:=bza HB hg;have GE204:=bza HB hg;replace HB:=bsa HB hb;clear hb hbox hg)|((with_reducible refine gate_dst (N:=3) rfl ?_);refine box_event ?hg (N:=3) ?hd (cs:=#[.string a1_0,.slice A1_1 l1_1.length c1_1]) (t:=25) ?hr ?_;(case hd=>rfl);(case hg=>rfl);(case hr=>first|(go_simp;done)|(go_simp;rfl));intro gb205 hg w46 hbox hb;have BK205:=am hbox;have GW205:=bza HB hg;have GE205:=bza HB hg;have NB204_205:=bla BK204 hg;have NB205_204:=bga BK204 hg;replace BK204:=bba BK204 hb;replace HB:=bsa HB hb;clear hb hbox hg;have hnb47:=NB204_205.out;have hnc47:=NB205_204.out;obtain ⟨hcz48_0,hcz48_1,hfz48_0,hfz48_1⟩ := c2_ BK204.out)|((with_reducible refine gate_callee (f:=20) rfl ?_);refine goesL_ (some 11) rfl rfl Try.func20 (by kernel_rfl) rfl #[.agg #[.string a0_0,.slice A0_1 l0_1.length c0_1]] rfl (by (try simp only [mT,mC,mN]);first|done|rfl|(simp only [lDr,lTk];rfl)) ?_;(with_reducible refine (profile_Canonical.calls k a0_0 _ _ l0_1 t206 t207 t210 _ ?side1 ?side2 A3.out).mono ?_);(case side1=>exact cq HR0_1.out HB.out);(case side2=>exact HC0_1.out);rintro e w49 ⟨v208,rfl,ho0,hb⟩;refine ⟨_,rfl, ?_⟩;have HO209:=am (Kd.R_lower ho0 (below_size (by repeat (first|(with_reducible first|exact HB.out|apply lA|apply lN|apply lD|refine lS ?_ GE204.out|refine lS ?_ GE205.out)|exact HB.out))));replace BK204:=bba BK204 hb;replace BK205:=bba BK205 hb;replace HB:=bsa HB hb;(try clear hb);(try clear hb2);(try clear hk);(try clear hi);(try clear ho0))|((with_reducible refine gate_dst (N:=6) rfl ?_);refine box_event ?hg (N:=6) ?hd (cs:=#[.string (⟨#[]⟩ : ByteArray),.slice none 0 0]) (t:=25) ?hr ?_;(case hd=>rfl);(case hg=>rfl);(case hr=>first|(go_simp;done)|(go_simp;rfl));intro gb211 hg w50 hbox hb;have BK211:=am hbox;have GW211:=bza HB hg;have GE211:=bza HB hg;have NB204_211:=bla BK204 hg;have NB211_204:=bga BK204 hg;have NB205_211:=bla BK205 hg;have NB211_205:=bga BK205 hg;replace HO209:=rba HO209 hb;replace BK204:=bba BK204 hb;replace BK205:=bba BK205 hb;replace HB:=bsa HB hb;clear hb hbox hg;have hnb51:=NB211_204.out;have hnc51:=NB204_211.out;have hnb52:=NB211_205.out;have hnc52:=NB205_211.out;obtain ⟨hcz53_0,hcz53_1,hfz53_0,hfz53_1⟩ := c2_ BK211.out;obtain ⟨Ao54,co54,eo54⟩ := Kd.R_slice HO209.out;subst eo54))
  go_ret2
  exact ⟨by first|rfl|(simp [errW_none,errW_some] <;> rfl)|(simp [*,errW_none,errW_some] <;> rfl),by repeat (first|(with_reducible first|exact HB.out|apply lA|apply lN|apply lD|refine lS ?_ GE204.out|refine lS ?_ GE205.out|refine lS ?_ GE211.out)|exact HB.out)⟩
def gangsawref39_Same.l0 : Nat → List (S31) → List (S31) → Int → Option (Bool)
 | 0,_,_,_=>none
 | k + 1,x0,x1,x5=>if x5 < (x0.length : Int) then (if 0 ≤ x5 then (if x5 < (x1.length : Int) then (if (!(((rd_T31 x0 x5).f0) == ((rd_T31 x1 x5).f0)) || (!(((rd_T31 x0 x5).f1) == ((rd_T31 x1 x5).f1)))) = true then (some false) else (gangsawref39_Same.l0 k x0 x1 (wrap64 (x5 + 1)))) else (none)) else (none)) else (some true)
def gangsawref39_Same.f (k : Nat) (l0 : List (S31)) (l1 : List (S31)) : Option (Bool):=if (l0.length : Int) = (l1.length : Int) then (gangsawref39_Same.l0 k l0 l1 0) else (some false)
theorem gangsawref39_Same.mono_l : ∀ k,(∀ y0 y1 y2,LeO (gangsawref39_Same.l0 k y0 y1 y2) (gangsawref39_Same.l0 (k + 1) y0 y1 y2))
 | 0=>fun _ _ _ r h=>by simp [gangsawref39_Same.l0] at h
 | k + 1=>by
  have ih0:=gangsawref39_Same.mono_l k
  ·intro y0 y1 y2
   unfold gangsawref39_Same.l0
   repeat' first
   | (with_reducible exact ih0 _ _ _)
   | (with_reducible exact LeO.refl _)
   | (with_reducible exact LeO.none _)
   | (with_reducible refine LeO.ite ?_ ?_)
   | (with_reducible refine LeO.bind ?_ (fun _=>?_))
   | exact ih0 _ _ _
   | exact LeO.none _
   | refine LeO.ite ?_ ?_
   | refine LeO.bind ?_ (fun _=>?_)
theorem gangsawref39_Same.mono : ∀ a0 a1 k,LeO (gangsawref39_Same.f k a0 a1) (gangsawref39_Same.f (k + 1) a0 a1):=by
 intro a0 a1 k;have ih0:=gangsawref39_Same.mono_l k
 unfold gangsawref39_Same.f
 repeat' first
   | (with_reducible exact ih0 _ _ _)
   | (with_reducible exact LeO.refl _)
   | (with_reducible exact LeO.none _)
   | (with_reducible refine LeO.ite ?_ ?_)
   | (with_reducible refine LeO.bind ?_ (fun _=>?_))
   | exact ih0 _ _ _
   | exact LeO.none _
   | refine LeO.ite ?_ ?_
   | refine LeO.bind ?_ (fun _=>?_)
set_option maxHeartbeats 8000000 in
set_option maxRecDepth 100000 in
theorem gangsawref39_Same.calls (k : Nat) (A0 : Option Addr) (c0 : Nat) (l0 : List (S31)) (A1 : Option Addr) (c1 : Nat) (l1 : List (S31)) (r : Bool) (w : World) (hr0 : Kd.C k31 w A0 l0.length l0) (hc0 : l0.length ≤ c0) (hr1 : Kd.C k31 w A1 l1.length l1) (hc1 : l1.length ≤ c1) (h : gangsawref39_Same.f k l0 l1 = some r) :
  Calls Try.prog 26 #[.slice A0 l0.length c0,.slice A1 l1.length c1] w fun e w'=>e = .returned (.bool r) ∧ Drawn0 w w':=by
 have hu31:=Try.underlying31;have HR0:=am hr0;have HC0:=am hc0;clear hr0 hc0;have HR1:=am hr1;have HC1:=am hc1;clear hr1 hc1;have H : (if (l0.length : Int) = (l1.length : Int) then (gangsawref39_Same.l0 k l0 l1 0) else (some false)) = some r:=h;clear h;by_cases c3 : (l0.length : Int) = (l1.length : Int)
 ·rw [if_pos c3] at H;have c3b0 : ((l0.length : Int) == (l1.length : Int)) = true:=beq_iff_eq.mpr c3;have c3b1 : ((l0.length : Int) != (l1.length : Int)) = false:=bne_eq_false_iff_eq.mpr c3
  have c3b2 : (l0.length == l1.length) = true:=by first|simpa using c3|(simp at c3 ⊢;omega)
  clear c3;have H':=am H;clear H
  go_enter Try.func26,Try.ntmps26
  go_wp2
  repeat (go_quiet (fail);try go_wp2)
  go_loopg [5] k (fun kq v5 w'=>∃ (x5_1 : Int),v5 = .int .i64 x5_1 ∧ Aside0 (gangsawref39_Same.l0 kq l0 l1 x5_1 = some r) ∧ Aside0 (kq ≤ k) ∧ Drawn0 w w')
  case atStart=>exact ⟨(0),(by first|rfl|(simp;done)|(simp [*];done)),H',⟨Nat.le_refl _⟩,by repeat (first|exact Drawn0.refl _|apply Drawn0.step)⟩
  case round =>
   clear H'
   try clear c1
   try clear c2
   try clear p2
   try clear c3
   try clear c3b0
   try clear c3b1
   try clear c3b2
   obtain ⟨x5_1,rfl,HA,HK1,⟨m1,rfl⟩⟩ := hrel
   cases gk with
   | zero=>exact absurd HA.out (by simp [gangsawref39_Same.l0])
   | succ k1 =>
    have H:=HA.out;clear HA;simp only [gangsawref39_Same.l0] at H;by_cases c4 : x5_1 < (l0.length : Int)
    ·rw [if_pos c4] at H;have c4b0 : decide (x5_1 < (l0.length : Int)) = true:=decide_eq_true c4;clear c4;by_cases c5 : 0 ≤ x5_1
     ·rw [if_pos c5] at H;have c5b0 : decide (0 ≤ x5_1) = true:=decide_eq_true c5;clear c5;by_cases c6 : x5_1 < (l1.length : Int)
      ·rw [if_pos c6] at H;have c6b0 : decide (x5_1 < (l1.length : Int)) = true:=decide_eq_true c6;clear c6;by_cases c7 : (!(((rd_T31 l0 x5_1).f0) == ((rd_T31 l1 x5_1).f0)) || (!(((rd_T31 l0 x5_1).f1) == ((rd_T31 l1 x5_1).f1)))) = true
       ·rw [if_pos c7] at H;have c7b0 : (!(((rd_T31 l0 x5_1).f0) == ((rd_T31 l1 x5_1).f0)) || (!(((rd_T31 l0 x5_1).f1) == ((rd_T31 l1 x5_1).f1)))) = true:=c7;clear c7;obtain rfl:=Option.some.inj H;have p219 : 0 ≤ (x5_1 : Int):=of_decide_eq_true (by first|(with_reducible assumption)|assumption);have q219 : x5_1 < (l0.length : Int):=of_decide_eq_true (by first|(with_reducible assumption)|assumption);obtain ⟨ad219,e219,hx219_0,hx219_1⟩ := at_T31 HR0.out x5_1 p219 q219
        cases e219
        replace p219:=eq_true p219;replace q219:=eq_true q219;have p220 : 0 ≤ (x5_1 : Int):=of_decide_eq_true (by first|(with_reducible assumption)|assumption);have q220 : x5_1 < (l1.length : Int):=of_decide_eq_true (by first|(with_reducible assumption)|assumption);obtain ⟨ad220,e220,hx220_0,hx220_1⟩ := at_T31 HR1.out x5_1 p220 q220
        cases e220
        replace p220:=eq_true p220;replace q220:=eq_true q220
        go_wp2
        repeat (go_quiet (fail);try go_wp2)
        go_ret
        exact ⟨by first|rfl|(simp;done)|(simp [*];done),by repeat (first|exact Drawn0.refl _|apply Drawn0.step)⟩
       ·rw [if_neg c7] at H
        have c7b0 : (!(((rd_T31 l0 x5_1).f0) == ((rd_T31 l1 x5_1).f0)) || (!(((rd_T31 l0 x5_1).f1) == ((rd_T31 l1 x5_1).f1)))) = false:=by simpa using c7
        clear c7;have H':=am H;clear H;have p219 : 0 ≤ (x5_1 : Int):=of_decide_eq_true (by first|(with_reducible assumption)|assumption);have q219 : x5_1 < (l0.length : Int):=of_decide_eq_true (by first|(with_reducible assumption)|assumption);obtain ⟨ad219,e219,hx219_0,hx219_1⟩ := at_T31 HR0.out x5_1 p219 q219
        cases e219
        replace p219:=eq_true p219;replace q219:=eq_true q219;have p220 : 0 ≤ (x5_1 : Int):=of_decide_eq_true (by first|(with_reducible assumption)|assumption);have q220 : x5_1 < (l1.length : Int):=of_decide_eq_true (by first|(with_reducible assumption)|assumption);obtain ⟨ad220,e220,hx220_0,hx220_1⟩ := at_T31 HR1.out x5_1 p220 q220
        cases e220
        replace p220:=eq_true p220;replace q220:=eq_true q220
        go_wp2
        repeat (go_quiet (fail);try go_wp2)
        go_roundg k1
        case measure=>have:=HK1.out;omega
        case rel=>exact ⟨(wrap64 (x5_1 + 1)),(by first|rfl|(simp;done)|(simp [*];done)),H',⟨by have:=HK1.out;omega⟩,by repeat (first|exact Drawn0.refl _|apply Drawn0.step)⟩
      (rw [if_neg c6] at H;exact absurd H (by simp))
     (rw [if_neg c5] at H;exact absurd H (by simp))
    ·rw [if_neg c4] at H;have c4b0 : decide (x5_1 < (l0.length : Int)) = false:=decide_eq_false c4;clear c4;obtain rfl:=Option.some.inj H
     go_wp2
     repeat (go_quiet (fail);try go_wp2)
     go_ret
     exact ⟨by first|rfl|(simp;done)|(simp [*];done),by repeat (first|exact Drawn0.refl _|apply Drawn0.step)⟩
 ·rw [if_neg c3] at H;have c3b0 : ((l0.length : Int) == (l1.length : Int)) = false:=beq_eq_false_iff_ne.mpr c3;have c3b1 : ((l0.length : Int) != (l1.length : Int)) = true:=bne_iff_ne.mpr c3
  have c3b2 : (l0.length == l1.length) = false:=by first|simpa using c3|(simp at c3 ⊢;omega)
  obtain rfl:=Option.some.inj H
  go_enter Try.func26,Try.ntmps26
  go_wp2
  repeat (go_quiet (fail);try go_wp2)
  go_ret
  exact ⟨by first|rfl|(simp;done)|(simp [*];done),by repeat (first|exact Drawn0.refl _|apply Drawn0.step)⟩
-- NOT PRINTED: function 47 (profile_sides)
-- GIVEN: function 48 (profile_undercut)
-- GIVEN: function 1047 (sides_c)
def profile_Undercut.j0 : Nat → Int → Bool → ByteArray → List (S31) → Option (Int × Int)
 | 0,_,_,_,_=>none
 | k + 1,x1,x20,x222000,x222001=>if x20 = true then (some (0,6)) else ((profile_undercut.f k x222001 x1).bind fun t224=>(if t224 < 0 then (some (0,9)) else (some (t224,0))))
def profile_Undercut.f (k : Nat) (a0_0 : ByteArray) (l0_1 : List (S31)) (a1 : Int) : Option (Int × Int):=(profile_Check.f k a0_0 l0_1).bind fun t222=>(if t222 = 0 then (if a1 < 0 then (profile_Undercut.j0 k a1 true a0_0 l0_1) else ((sides_c.f).bind fun t223=>(profile_Undercut.j0 k a1 (decide (a1 ≥ 4)) a0_0 l0_1))) else (some (0,t222)))
theorem profile_Undercut.mono_l : ∀ k,(∀ y0 y1 y2 y3,LeO (profile_Undercut.j0 k y0 y1 y2 y3) (profile_Undercut.j0 (k + 1) y0 y1 y2 y3))
 | 0=>fun _ _ _ _ r h=>by simp [profile_Undercut.j0] at h
 | k + 1=>by
  have ih0:=profile_Undercut.mono_l k
  ·intro y0 y1 y2 y3
   unfold profile_Undercut.j0
   repeat' first
   | (with_reducible exact ih0 _ _ _ _)
   | (with_reducible exact profile_Check.mono _ _ _)
   | (with_reducible exact profile_undercut.mono _ _ _)
   | (with_reducible exact LeO.refl _)
   | (with_reducible exact LeO.none _)
   | (with_reducible refine LeO.ite ?_ ?_)
   | (with_reducible refine LeO.bind ?_ (fun _=>?_))
   | exact ih0 _ _ _ _
   | exact profile_Check.mono _ _ _
   | exact profile_undercut.mono _ _ _
   | exact LeO.none _
   | refine LeO.ite ?_ ?_
   | refine LeO.bind ?_ (fun _=>?_)
theorem profile_Undercut.mono : ∀ a0 a1 a2 k,LeO (profile_Undercut.f k a0 a1 a2) (profile_Undercut.f (k + 1) a0 a1 a2):=by
 intro a0 a1 a2 k;have ih0:=profile_Undercut.mono_l k
 unfold profile_Undercut.f
 repeat' first
   | (with_reducible exact ih0 _ _ _ _)
   | (with_reducible exact profile_Check.mono _ _ _)
   | (with_reducible exact profile_undercut.mono _ _ _)
   | (with_reducible exact LeO.refl _)
   | (with_reducible exact LeO.none _)
   | (with_reducible refine LeO.ite ?_ ?_)
   | (with_reducible refine LeO.bind ?_ (fun _=>?_))
   | exact ih0 _ _ _ _
   | exact profile_Check.mono _ _ _
   | exact profile_undercut.mono _ _ _
   | exact LeO.none _
   | refine LeO.ite ?_ ?_
   | refine LeO.bind ?_ (fun _=>?_)
set_option maxHeartbeats 8000000 in
set_option maxRecDepth 100000 in
theorem profile_Undercut.calls (k : Nat) (a0_0 : ByteArray) (A0_1 : Option Addr) (c0_1 : Nat) (l0_1 : List (S31)) (a1 : Int) (r1 : Int) (r2 : Int) (w : World) (hr0_1 : Kd.C k31 w A0_1 l0_1.length l0_1) (hc0_1 : l0_1.length ≤ c0_1) (h : profile_Undercut.f k a0_0 l0_1 a1 = some (r1, r2)) :
  Calls Try.prog 27 #[.agg #[.string a0_0,.slice A0_1 l0_1.length c0_1],.int .i64 a1] w fun e w'=>e = .returned (.tuple #[.int .i64 r1,.int .i64 r2]) ∧ Below w.heap.size w w':=by
 have hu25:=Try.underlying25;have HR0_1:=am hr0_1;have HC0_1:=am hc0_1;clear hr0_1 hc0_1;have HB:=am (Below.refl w.heap.size w);have H : ((profile_Check.f k a0_0 l0_1).bind fun t222=>(if t222 = 0 then (if a1 < 0 then (profile_Undercut.j0 k a1 true a0_0 l0_1) else ((sides_c.f).bind fun t223=>(profile_Undercut.j0 k a1 (decide (a1 ≥ 4)) a0_0 l0_1))) else (some (0,t222)))) = some (r1,r2):=h;clear h;replace H:=Option.bind_eq_some_iff.mp H;obtain ⟨t222,A30,H⟩ := H;replace H : (if t222 = 0 then (if a1 < 0 then (profile_Undercut.j0 k a1 true a0_0 l0_1) else ((sides_c.f).bind fun t223=>(profile_Undercut.j0 k a1 (decide (a1 ≥ 4)) a0_0 l0_1))) else (some (0,t222))) = some (r1,r2):=H;have A3:=am A30;clear A30;by_cases c4 : t222 = 0
 ·rw [if_pos c4] at H;have c4b0 : (t222 == 0) = true:=beq_iff_eq.mpr c4;have c4b1 : (t222 != 0) = false:=bne_eq_false_iff_eq.mpr c4;clear c4;have HC5:=am H;clear H
  go_enter Try.func27,Try.ntmps27
  go_upto_region 4 with (first|((with_reducible refine gate_dst (N:=2) rfl ?_);refine box_event ?hg (N:=2) ?hd (cs:=#[.string a0_0,.slice A0_1 l0_1.length c0_1]) (t:=25) ?hr ?_;(case hd=>rfl);(case hg=>rfl);(case hr=>first|(go_simp;done)|(go_simp;rfl));intro gb221 hg w6 hbox hb;have BK221:=am hbox;have GW221:=bza HB hg;have GE221:=bza HB hg;replace HB:=bsa HB hb;clear hb hbox hg;obtain ⟨hcz7_0,hcz7_1,hfz7_0,hfz7_1⟩ := c2_ BK221.out)|((with_reducible refine gate_callee (f:=17) rfl ?_);refine goesL_ (some 9) rfl rfl Try.func17 (by kernel_rfl) rfl #[.agg #[.string a0_0,.slice A0_1 l0_1.length c0_1]] rfl (by (try simp only [mT,mC,mN]);first|done|rfl|(simp only [lDr,lTk];rfl)) ?_;(with_reducible refine (profile_Check.calls k a0_0 _ _ l0_1 t222 _ ?side1 ?side2 A3.out).mono ?_);(case side1=>exact cq HR0_1.out HB.out);(case side2=>exact HC0_1.out);rintro e w8 ⟨rfl,hb⟩;refine ⟨_,rfl, ?_⟩;replace BK221:=bba BK221 hb;replace HB:=bsa HB hb;(try clear hb);(try clear hb2);(try clear hk);(try clear hi)))
  (try simp only [Act.put,sA,s0,sS])
  go_cut [20] (fun v20 wc=>∃ (kq : Nat) (x20_4 : Bool),v20 = .bool x20_4 ∧ Aside0 (profile_Undercut.j0 kq a1 x20_4 a0_0 l0_1 = some (r1,r2)) ∧ Aside0 (kq ≤ k) ∧ Aside0 (wc.heap[gb221]? = some (.cells #[.string a0_0,(.slice A0_1 l0_1.length c0_1)] 25 (0,0))) ∧ Aside0 (Below w.heap.size w wc))
  case first =>
   have H:=HC5.out;clear HC5;by_cases c9 : a1 < 0
   ·rw [if_pos c9] at H;have c9b0 : decide (a1 < 0) = true:=decide_eq_true c9;clear c9;(first|rw [c9b0]|(simp only [i64_w,i32_w];rw [c9b0])|skip);have H':=am H;clear H
    go_wp2
    go_meet
    case rel=>exact ⟨_,(true),(by first|rfl|(simp;done)|(simp [*];done)),H',⟨by first|omega|exact Nat.le_refl _⟩,⟨bq BK221.out⟩,⟨by repeat (first|(with_reducible first|exact HB.out|apply lA|apply lN|apply lD|refine lS ?_ GE221.out)|exact HB.out)⟩⟩
   ·rw [if_neg c9] at H;have c9b0 : decide (a1 < 0) = false:=decide_eq_false c9;clear c9;(first|rw [c9b0]|(simp only [i64_w,i32_w];rw [c9b0])|skip);replace H:=Option.bind_eq_some_iff.mp H;obtain ⟨t223,A100,H⟩ := H;replace H : (profile_Undercut.j0 k a1 (decide (a1 ≥ 4)) a0_0 l0_1) = some (r1,r2):=H;have A10:=am A100;clear A100;have H':=am H;clear H
    go_wp2_with (first|(go_at_call 47;(with_reducible refine (sides_c.calls  t223 _ A10.out).mono ?_);rintro e w11 ⟨rfl,hb⟩;replace BK221:=bba BK221 hb;replace HB:=bsa HB hb;(try clear hb);(try clear hb2);(try clear hk);(try clear hi)))
    go_meet
    case rel=>exact ⟨_,(decide (a1 ≥ 4)),(by first|rfl|(simp;done)|(simp [*];done)),H',⟨by first|omega|exact Nat.le_refl _⟩,⟨bq BK221.out⟩,⟨by repeat (first|(with_reducible first|exact HB.out|apply lA|apply lN|apply lD|refine lS ?_ GE221.out)|exact HB.out)⟩⟩
  case rest =>
   clear HC5
   try clear c1
   try clear c2
   try clear p2
   try clear c4
   try clear c4b0
   try clear c4b1
   try clear c9
   try clear c9b0
   try clear hcz7_0
   try clear hcz7_1
   try clear hfz7_0
   try clear hfz7_1
   obtain ⟨kq,x20_4,rfl,HA,HJ4,BK221,HB⟩ := hcut
   cases kq with
   | zero=>exact absurd HA.out (by simp [profile_Undercut.j0])
   | succ kj4 =>
    have H:=HA.out;clear HA;simp only [profile_Undercut.j0] at H;by_cases c12 : x20_4 = true
    ·subst c12
     have H1 : (some (0,6)) = some (r1,r2):=by rw [if_pos rfl] at H;exact H
     clear H;have H:=H1;clear H1;simp only [Option.some.injEq,Prod.mk.injEq] at H;obtain ⟨rfl,rfl⟩ := H
     go_wp2
     go_ret2
     exact ⟨by first|rfl|(simp [errW_none,errW_some] <;> rfl)|(simp [*,errW_none,errW_some] <;> rfl),by repeat (first|(with_reducible first|exact HB.out|apply lA|apply lN|apply lD|refine lS ?_ GE221.out)|exact HB.out)⟩
    ·replace c12:=Bool.eq_false_iff.mpr c12;subst c12
     have H1 : ((profile_undercut.f kj4 l0_1 a1).bind fun t224=>(if t224 < 0 then (some (0,9)) else (some (t224,0)))) = some (r1,r2):=by rw [if_neg (show ¬ (false = true) by decide)] at H;exact H
     clear H;have H:=H1;clear H1;replace H:=Option.bind_eq_some_iff.mp H;obtain ⟨t224,A130,H⟩ := H;replace H : (if t224 < 0 then (some (0,9)) else (some (t224,0))) = some (r1,r2):=H;have A13:=am A130;clear A130;by_cases c14 : t224 < 0
     ·rw [if_pos c14] at H;have c14b0 : decide (t224 < 0) = true:=decide_eq_true c14;clear c14;simp only [Option.some.injEq,Prod.mk.injEq] at H;obtain ⟨rfl,rfl⟩ := H;obtain ⟨hcz15_0,hcz15_1,hfz15_0,hfz15_1⟩ := c2_ BK221.out
      go_wp2_with (first|((with_reducible refine gate_callee (f:=48) rfl ?_);refine goesL_ (some 24) rfl rfl Try.func48 (by kernel_rfl) rfl #[.slice A0_1 l0_1.length c0_1,.int .i64 a1] rfl (by (try simp only [mT,mC,mN]);first|done|rfl|(simp only [lDr,lTk];rfl)) ?_;(with_reducible refine (profile_undercut.calls kj4 _ _ l0_1 a1 t224 _ ?side1 ?side2 A13.out).mono ?_);(case side1=>exact cq HR0_1.out HB.out);(case side2=>exact HC0_1.out);rintro e w16 ⟨rfl,hb⟩;refine ⟨_,rfl, ?_⟩;replace BK221:=bba BK221 hb;replace HB:=bsa HB hb;(try clear hb);(try clear hb2);(try clear hk);(try clear hi)))
      go_ret2
      exact ⟨by first|rfl|(simp [errW_none,errW_some] <;> rfl)|(simp [*,errW_none,errW_some] <;> rfl),by repeat (first|(with_reducible first|exact HB.out|apply lA|apply lN|apply lD|refine lS ?_ GE221.out)|exact HB.out)⟩
     ·rw [if_neg c14] at H;have c14b0 : decide (t224 < 0) = false:=decide_eq_false c14;clear c14;simp only [Option.some.injEq,Prod.mk.injEq] at H;obtain ⟨rfl,rfl⟩ := H;obtain ⟨hcz17_0,hcz17_1,hfz17_0,hfz17_1⟩ := c2_ BK221.out
      go_wp2_with (first|((with_reducible refine gate_callee (f:=48) rfl ?_);refine goesL_ (some 24) rfl rfl Try.func48 (by kernel_rfl) rfl #[.slice A0_1 l0_1.length c0_1,.int .i64 a1] rfl (by (try simp only [mT,mC,mN]);first|done|rfl|(simp only [lDr,lTk];rfl)) ?_;(with_reducible refine (profile_undercut.calls kj4 _ _ l0_1 a1 t224 _ ?side1 ?side2 A13.out).mono ?_);(case side1=>exact cq HR0_1.out HB.out);(case side2=>exact HC0_1.out);rintro e w18 ⟨rfl,hb⟩;refine ⟨_,rfl, ?_⟩;replace BK221:=bba BK221 hb;replace HB:=bsa HB hb;(try clear hb);(try clear hb2);(try clear hk);(try clear hi)))
      go_ret2
      exact ⟨by first|rfl|(simp [errW_none,errW_some] <;> rfl)|(simp [*,errW_none,errW_some] <;> rfl),by repeat (first|(with_reducible first|exact HB.out|apply lA|apply lN|apply lD|refine lS ?_ GE221.out)|exact HB.out)⟩
 ·rw [if_neg c4] at H;have c4b0 : (t222 == 0) = false:=beq_eq_false_iff_ne.mpr c4;have c4b1 : (t222 != 0) = true:=bne_iff_ne.mpr c4;simp only [Option.some.injEq,Prod.mk.injEq] at H;obtain ⟨rfl,rfl⟩ := H
  go_enter Try.func27,Try.ntmps27
  go_wp2_with (first|((with_reducible refine gate_dst (N:=2) rfl ?_);refine box_event ?hg (N:=2) ?hd (cs:=#[.string a0_0,.slice A0_1 l0_1.length c0_1]) (t:=25) ?hr ?_;(case hd=>rfl);(case hg=>rfl);(case hr=>first|(go_simp;done)|(go_simp;rfl));intro gb221 hg w19 hbox hb;have BK221:=am hbox;have GW221:=bza HB hg;have GE221:=bza HB hg;replace HB:=bsa HB hb;clear hb hbox hg;obtain ⟨hcz20_0,hcz20_1,hfz20_0,hfz20_1⟩ := c2_ BK221.out)|((with_reducible refine gate_callee (f:=17) rfl ?_);refine goesL_ (some 9) rfl rfl Try.func17 (by kernel_rfl) rfl #[.agg #[.string a0_0,.slice A0_1 l0_1.length c0_1]] rfl (by (try simp only [mT,mC,mN]);first|done|rfl|(simp only [lDr,lTk];rfl)) ?_;(with_reducible refine (profile_Check.calls k a0_0 _ _ l0_1 t222 _ ?side1 ?side2 A3.out).mono ?_);(case side1=>exact cq HR0_1.out HB.out);(case side2=>exact HC0_1.out);rintro e w21 ⟨rfl,hb⟩;refine ⟨_,rfl, ?_⟩;replace BK221:=bba BK221 hb;replace HB:=bsa HB hb;(try clear hb);(try clear hb2);(try clear hk);(try clear hi)))
  go_ret2
  exact ⟨by first|rfl|(simp [errW_none,errW_some] <;> rfl)|(simp [*,errW_none,errW_some] <;> rfl),by repeat (first|(with_reducible first|exact HB.out|apply lA|apply lN|apply lD|refine lS ?_ GE221.out)|exact HB.out)⟩
def profile_Directions.l0 : Nat → List Int → Int → ByteArray → List (S31) → Option (List Int × Int)
 | 0,_,_,_,_=>none
 | k + 1,x5,x13,x226000,x226001=>if x13 < 4 then ((profile_undercut.f k x226001 x13).bind fun t228=>(if t228 < 0 then (if x5.length < 17592186044416 then (profile_Directions.l0 k (x5 ++ [x13]) (wrap64 (x13 + 1)) x226000 x226001) else (none)) else (profile_Directions.l0 k x5 (wrap64 (x13 + 1)) x226000 x226001))) else (some (x5,0))
def profile_Directions.f (k : Nat) (a0_0 : ByteArray) (l0_1 : List (S31)) : Option (List Int × Int):=(profile_Check.f k a0_0 l0_1).bind fun t226=>(if t226 = 0 then ((sides_c.f).bind fun t227=>(profile_Directions.l0 k ([] : List Int) 0 a0_0 l0_1)) else (some (([] : List Int),t226)))
theorem profile_Directions.mono_l : ∀ k,(∀ y0 y1 y2 y3,LeO (profile_Directions.l0 k y0 y1 y2 y3) (profile_Directions.l0 (k + 1) y0 y1 y2 y3))
 | 0=>fun _ _ _ _ r h=>by simp [profile_Directions.l0] at h
 | k + 1=>by
  have ih0:=profile_Directions.mono_l k
  ·intro y0 y1 y2 y3
   unfold profile_Directions.l0
   repeat' first
   | (with_reducible exact ih0 _ _ _ _)
   | (with_reducible exact profile_Check.mono _ _ _)
   | (with_reducible exact profile_undercut.mono _ _ _)
   | (with_reducible exact LeO.refl _)
   | (with_reducible exact LeO.none _)
   | (with_reducible refine LeO.ite ?_ ?_)
   | (with_reducible refine LeO.bind ?_ (fun _=>?_))
   | exact ih0 _ _ _ _
   | exact profile_Check.mono _ _ _
   | exact profile_undercut.mono _ _ _
   | exact LeO.none _
   | refine LeO.ite ?_ ?_
   | refine LeO.bind ?_ (fun _=>?_)
theorem profile_Directions.mono : ∀ a0 a1 k,LeO (profile_Directions.f k a0 a1) (profile_Directions.f (k + 1) a0 a1):=by
 intro a0 a1 k;have ih0:=profile_Directions.mono_l k
 unfold profile_Directions.f
 repeat' first
   | (with_reducible exact ih0 _ _ _ _)
   | (with_reducible exact profile_Check.mono _ _ _)
   | (with_reducible exact profile_undercut.mono _ _ _)
   | (with_reducible exact LeO.refl _)
   | (with_reducible exact LeO.none _)
   | (with_reducible refine LeO.ite ?_ ?_)
   | (with_reducible refine LeO.bind ?_ (fun _=>?_))
   | exact ih0 _ _ _ _
   | exact profile_Check.mono _ _ _
   | exact profile_undercut.mono _ _ _
   | exact LeO.none _
   | refine LeO.ite ?_ ?_
   | refine LeO.bind ?_ (fun _=>?_)
set_option maxHeartbeats 8000000 in
set_option maxRecDepth 100000 in
theorem profile_Directions.calls (k : Nat) (a0_0 : ByteArray) (A0_1 : Option Addr) (c0_1 : Nat) (l0_1 : List (S31)) (r1 : List Int) (r2 : Int) (w : World) (hr0_1 : Kd.C k31 w A0_1 l0_1.length l0_1) (hc0_1 : l0_1.length ≤ c0_1) (h : profile_Directions.f k a0_0 l0_1 = some (r1, r2)) :
  Calls Try.prog 28 #[.agg #[.string a0_0,.slice A0_1 l0_1.length c0_1]] w fun e w'=>∃ v0_ : Value,e = .returned (.tuple #[v0_,.int .i64 r2]) ∧ Kd.R (Kd.int .i64) 3 w' w.heap.size (fun _=>True) v0_ r1 ∧ Below w.heap.size w w':=by
 have hu25:=Try.underlying25;have HR0_1:=am hr0_1;have HC0_1:=am hc0_1;clear hr0_1 hc0_1;have HB:=am (Below.refl w.heap.size w);have H : ((profile_Check.f k a0_0 l0_1).bind fun t226=>(if t226 = 0 then ((sides_c.f).bind fun t227=>(profile_Directions.l0 k ([] : List Int) 0 a0_0 l0_1)) else (some (([] : List Int),t226)))) = some (r1,r2):=h;clear h;replace H:=Option.bind_eq_some_iff.mp H;obtain ⟨t226,A20,H⟩ := H;replace H : (if t226 = 0 then ((sides_c.f).bind fun t227=>(profile_Directions.l0 k ([] : List Int) 0 a0_0 l0_1)) else (some (([] : List Int),t226))) = some (r1,r2):=H;have A2:=am A20;clear A20;by_cases c3 : t226 = 0
 ·rw [if_pos c3] at H;have c3b0 : (t226 == 0) = true:=beq_iff_eq.mpr c3;have c3b1 : (t226 != 0) = false:=bne_eq_false_iff_eq.mpr c3;clear c3;replace H:=Option.bind_eq_some_iff.mp H;obtain ⟨t227,A40,H⟩ := H;replace H : (profile_Directions.l0 k ([] : List Int) 0 a0_0 l0_1) = some (r1,r2):=H;have A4:=am A40;clear A40;have H':=am H;clear H
  go_enter Try.func28,Try.ntmps28
  go_wp2_with (first|((with_reducible refine gate_dst (N:=1) rfl ?_);refine box_event ?hg (N:=1) ?hd (cs:=#[.string a0_0,.slice A0_1 l0_1.length c0_1]) (t:=25) ?hr ?_;(case hd=>rfl);(case hg=>rfl);(case hr=>first|(go_simp;done)|(go_simp;rfl));intro gb225 hg w5 hbox hb;have BK225:=am hbox;have GW225:=bza HB hg;have GE225:=bza HB hg;replace HB:=bsa HB hb;clear hb hbox hg;obtain ⟨hcz6_0,hcz6_1,hfz6_0,hfz6_1⟩ := c2_ BK225.out)|((with_reducible refine gate_callee (f:=17) rfl ?_);refine goesL_ (some 8) rfl rfl Try.func17 (by kernel_rfl) rfl #[.agg #[.string a0_0,.slice A0_1 l0_1.length c0_1]] rfl (by (try simp only [mT,mC,mN]);first|done|rfl|(simp only [lDr,lTk];rfl)) ?_;(with_reducible refine (profile_Check.calls k a0_0 _ _ l0_1 t226 _ ?side1 ?side2 A2.out).mono ?_);(case side1=>exact cq HR0_1.out HB.out);(case side2=>exact HC0_1.out);rintro e w7 ⟨rfl,hb⟩;refine ⟨_,rfl, ?_⟩;replace BK225:=bba BK225 hb;replace HB:=bsa HB hb;(try clear hb);(try clear hb2);(try clear hk);(try clear hi))|((with_reducible refine gate_callee (f:=47) rfl ?_);refine goesL_ (some 12) rfl rfl Try.func47 (by kernel_rfl) rfl #[] rfl (by (try simp only [mT,mC,mN]);first|done|rfl|(simp only [lDr,lTk];rfl)) ?_;(with_reducible refine (sides_c.calls  t227 _ A4.out).mono ?_);rintro e w8 ⟨rfl,hb⟩;refine ⟨_,rfl, ?_⟩;replace BK225:=bba BK225 hb;replace HB:=bsa HB hb;(try clear hb);(try clear hb2);(try clear hk);(try clear hi)))
  go_loopg [5,13] k (fun kq v5 v13 w'=>∃ (x5_1 : List Int) (x13_1 : Int),v13 = .int .i64 x13_1 ∧ Aside0 (profile_Directions.l0 kq x5_1 x13_1 a0_0 l0_1 = some (r1,r2)) ∧ Aside0 (kq ≤ k) ∧ Aside0 (Kd.R (Kd.int .i64) 3 w' w.heap.size (fun _=>True) v5 x5_1) ∧ Aside0 (w'.heap[gb225]? = some (.cells #[.string a0_0,(.slice A0_1 l0_1.length c0_1)] 25 (0,0))) ∧ Aside0 (Below w.heap.size w w'))
  case atStart=>exact ⟨(([] : List Int)),(0),(by first|rfl|(simp;done)|(simp [*];done)),H',⟨Nat.le_refl _⟩,⟨by first|exact Kd.R_nil _ _ _ _ _|exact Kd.N_nil _ _ _ _ _|exact Kd.V_nil _ _ _ _ _|exact Kd.Q_nil _ _ _ _ _|exact Kd.S_nil _ _ _ _ _⟩,⟨bq BK225.out⟩,⟨by repeat (first|(with_reducible first|exact HB.out|apply lA|apply lN|apply lD|refine lS ?_ GE225.out)|exact HB.out)⟩⟩
  case round =>
   clear H'
   try clear c1
   try clear c2
   try clear p2
   try clear c3
   try clear c3b0
   try clear c3b1
   try clear hcz6_0
   try clear hcz6_1
   try clear hfz6_0
   try clear hfz6_1
   obtain ⟨x5_1,x13_1,rfl,HA,HK1,HO_5,BK225,HB⟩ := hrel
   cases gk with
   | zero=>exact absurd HA.out (by simp [profile_Directions.l0])
   | succ k1 =>
    have H:=HA.out;clear HA;simp only [profile_Directions.l0] at H;by_cases c9 : x13_1 < 4
    ·rw [if_pos c9] at H;have c9b0 : decide (x13_1 < 4) = true:=decide_eq_true c9;clear c9;replace H:=Option.bind_eq_some_iff.mp H;obtain ⟨t228,A100,H⟩ := H;replace H : (if t228 < 0 then (if x5_1.length < 17592186044416 then (profile_Directions.l0 k1 (x5_1 ++ [x13_1]) (wrap64 (x13_1 + 1)) a0_0 l0_1) else (none)) else (profile_Directions.l0 k1 x5_1 (wrap64 (x13_1 + 1)) a0_0 l0_1)) = some (r1,r2):=H;have A10:=am A100;clear A100;by_cases c11 : t228 < 0
     ·rw [if_pos c11] at H;have c11b0 : decide (t228 < 0) = true:=decide_eq_true c11;clear c11;by_cases c12 : x5_1.length < 17592186044416
      ·rw [if_pos c12] at H;have LMc12:=am c12;clear c12
       obtain ⟨y229,hy229⟩ : ∃ y_ : List Int,y_ = (x5_1 ++ [x13_1]):=⟨_,rfl⟩
       replace H : (profile_Directions.l0 k1 y229 (wrap64 (x13_1 + 1)) a0_0 l0_1) = some (r1,r2):=by first|(rw [hy229];with_reducible exact H)|(have H2_:=(Option.bind_some _ _).symm.trans H;rw [hy229];with_reducible exact H2_)|(have H2_:=(Option.bind_some _ _).symm.trans H;with_reducible exact H2_)|with_reducible exact H|(rw [hy229];exact H)|exact H
       have Ny229:=am hy229;clear hy229;have H':=am H;clear H;obtain ⟨hcz13_0,hcz13_1,hfz13_0,hfz13_1⟩ := c2_ BK225.out
       go_wp2_with (first|((with_reducible refine gate_callee (f:=48) rfl ?_);refine goesL_ (some 19) rfl rfl Try.func48 (by kernel_rfl) rfl #[.slice A0_1 l0_1.length c0_1,.int .i64 x13_1] rfl (by (try simp only [mT,mC,mN]);first|done|rfl|(simp only [lDr,lTk];rfl)) ?_;(with_reducible refine (profile_undercut.calls k1 _ _ l0_1 x13_1 t228 _ ?side1 ?side2 A10.out).mono ?_);(case side1=>exact cq HR0_1.out HB.out);(case side2=>exact HC0_1.out);rintro e w14 ⟨rfl,hb⟩;refine ⟨_,rfl, ?_⟩;replace HO_5:=rba HO_5 hb;replace BK225:=bba BK225 hb;replace HB:=bsa HB hb;(try clear hb);(try clear hb2);(try clear hk);(try clear hi))|((with_reducible refine gate_builtin (b:=.append) (xs:=#[.tmp 21,.tmp 23]) rfl ?_);at_builtin;refine Kd.R_append (Kd.int .i64) (w0:=w) w.heap.size rfl (.tmp 21) (.tmp 23) 50 3 (.int .i64 0) 8 rfl Try.underlying50 info3 rfl (by decide) (by omega) u5 x5_1 x13_1 [.int .i64 x13_1] (fun _=>True) (fun _=>False) rfl rfl ?aP (fun _ hk=>hk.elim) ?aF ?aO ?aB ?aS ?aL ?_;(case aP=>exact rfl);(case aB=>exact (by repeat (first|(with_reducible first|exact HB.out|apply lA|apply lN|apply lD|refine lS ?_ GE225.out)|exact HB.out)));(case aF=>exact (fun _ _=>trivial));(case aO=>exact (rq HO_5.out));(case aS=>exact (below_size (by repeat (first|(with_reducible first|exact HB.out|apply lA|apply lN|apply lD|refine lS ?_ GE225.out)|exact HB.out))));(case aL=>have:=LMc12.out;omega);intro v230 w15 ho hb hg hat;rw [← Ny229.out] at ho;have HO231:=am ho;replace BK225:=am (blk_grown (g:=gb225) (o:=.cells #[.string a0_0,.slice A0_1 l0_1.length c0_1] 25 (0,0)) (bq BK225.out) hg (Kd.R_ne HO_5.out BK225.out (by decide)));replace HB:=am hb;clear HO_5;clear ho hb hg hat))
       go_roundg k1
       case measure=>have:=HK1.out;omega
       case rel=>exact ⟨(y229),(wrap64 (x13_1 + 1)),(by first|rfl|(simp;done)|(simp [*];done)),H',⟨by have:=HK1.out;omega⟩,⟨rq HO231.out⟩,⟨bq BK225.out⟩,⟨by repeat (first|(with_reducible first|exact HB.out|apply lA|apply lN|apply lD|refine lS ?_ GE225.out)|exact HB.out)⟩⟩
      (rw [if_neg c12] at H;exact absurd H (by simp))
     ·rw [if_neg c11] at H;have c11b0 : decide (t228 < 0) = false:=decide_eq_false c11;clear c11;have H':=am H;clear H;obtain ⟨hcz16_0,hcz16_1,hfz16_0,hfz16_1⟩ := c2_ BK225.out
      go_wp2_with (first|((with_reducible refine gate_callee (f:=48) rfl ?_);refine goesL_ (some 19) rfl rfl Try.func48 (by kernel_rfl) rfl #[.slice A0_1 l0_1.length c0_1,.int .i64 x13_1] rfl (by (try simp only [mT,mC,mN]);first|done|rfl|(simp only [lDr,lTk];rfl)) ?_;(with_reducible refine (profile_undercut.calls k1 _ _ l0_1 x13_1 t228 _ ?side1 ?side2 A10.out).mono ?_);(case side1=>exact cq HR0_1.out HB.out);(case side2=>exact HC0_1.out);rintro e w17 ⟨rfl,hb⟩;refine ⟨_,rfl, ?_⟩;replace HO_5:=rba HO_5 hb;replace BK225:=bba BK225 hb;replace HB:=bsa HB hb;(try clear hb);(try clear hb2);(try clear hk);(try clear hi)))
      go_roundg k1
      case measure=>have:=HK1.out;omega
      case rel=>exact ⟨(x5_1),(wrap64 (x13_1 + 1)),(by first|rfl|(simp;done)|(simp [*];done)),H',⟨by have:=HK1.out;omega⟩,⟨rq HO_5.out⟩,⟨bq BK225.out⟩,⟨by repeat (first|(with_reducible first|exact HB.out|apply lA|apply lN|apply lD|refine lS ?_ GE225.out)|exact HB.out)⟩⟩
    ·rw [if_neg c9] at H;have c9b0 : decide (x13_1 < 4) = false:=decide_eq_false c9;clear c9;simp only [Option.some.injEq,Prod.mk.injEq] at H;obtain ⟨rfl,rfl⟩ := H
     go_wp2
     go_ret2
     exact ⟨_,by first|rfl|(simp [errW_none,errW_some] <;> rfl)|(simp [*,errW_none,errW_some] <;> rfl),by (with_reducible repeat (first|apply rA|apply rN|apply rD));exact HO_5.out,by repeat (first|(with_reducible first|exact HB.out|apply lA|apply lN|apply lD|refine lS ?_ GE225.out)|exact HB.out)⟩
 ·rw [if_neg c3] at H;have c3b0 : (t226 == 0) = false:=beq_eq_false_iff_ne.mpr c3;have c3b1 : (t226 != 0) = true:=bne_iff_ne.mpr c3;simp only [Option.some.injEq,Prod.mk.injEq] at H;obtain ⟨rfl,rfl⟩ := H
  go_enter Try.func28,Try.ntmps28
  go_wp2_with (first|((with_reducible refine gate_dst (N:=1) rfl ?_);refine box_event ?hg (N:=1) ?hd (cs:=#[.string a0_0,.slice A0_1 l0_1.length c0_1]) (t:=25) ?hr ?_;(case hd=>rfl);(case hg=>rfl);(case hr=>first|(go_simp;done)|(go_simp;rfl));intro gb225 hg w18 hbox hb;have BK225:=am hbox;have GW225:=bza HB hg;have GE225:=bza HB hg;replace HB:=bsa HB hb;clear hb hbox hg;obtain ⟨hcz19_0,hcz19_1,hfz19_0,hfz19_1⟩ := c2_ BK225.out)|((with_reducible refine gate_callee (f:=17) rfl ?_);refine goesL_ (some 8) rfl rfl Try.func17 (by kernel_rfl) rfl #[.agg #[.string a0_0,.slice A0_1 l0_1.length c0_1]] rfl (by (try simp only [mT,mC,mN]);first|done|rfl|(simp only [lDr,lTk];rfl)) ?_;(with_reducible refine (profile_Check.calls k a0_0 _ _ l0_1 t226 _ ?side1 ?side2 A2.out).mono ?_);(case side1=>exact cq HR0_1.out HB.out);(case side2=>exact HC0_1.out);rintro e w20 ⟨rfl,hb⟩;refine ⟨_,rfl, ?_⟩;replace BK225:=bba BK225 hb;replace HB:=bsa HB hb;(try clear hb);(try clear hb2);(try clear hk);(try clear hi)))
  go_ret2
  exact ⟨_,by first|rfl|(simp [errW_none,errW_some] <;> rfl)|(simp [*,errW_none,errW_some] <;> rfl),by first|exact Kd.R_nil _ _ _ _ _|exact Kd.N_nil _ _ _ _ _|exact Kd.V_nil _ _ _ _ _|exact Kd.Q_nil _ _ _ _ _|exact Kd.S_nil _ _ _ _ _,by repeat (first|(with_reducible first|exact HB.out|apply lA|apply lN|apply lD|refine lS ?_ GE225.out)|exact HB.out)⟩
mutual
def profile_Step.j0 : Nat → ByteArray → Int → Int → Int → Bool → Option (ByteArray × (List (S31)) × Int)
 | 0,_,_,_,_,_=>none
 | k + 1,x0,x1,x2,x3,x41=>if x41 = true then (some ((⟨#[]⟩ : ByteArray),([] : List (S31)),6)) else (profile_Step.l0 k x0 x2 x3 (([(⟨0,0⟩ : S31),(⟨wrap64 (x1 * x2),0⟩ : S31),(⟨wrap64 (x1 * x2),wrap64 (x1 * x3)⟩ : S31)] : List (S31))) (wrap64 (x1 - 1)))
def profile_Step.l0 : Nat → ByteArray → Int → Int → List (S31) → Int → Option (ByteArray × (List (S31)) × Int)
 | 0,_,_,_,_,_=>none
 | k + 1,x0,x2,x3,x10,x11=>if x11 > 0 then ((some (([(⟨wrap64 (x11 * x2),wrap64 ((wrap64 (x11 + 1)) * x3)⟩ : S31),(⟨wrap64 (x11 * x2),wrap64 (x11 * x3)⟩ : S31)] : List (S31)) : List (S31))).bind fun y237=>(if x10.length + y237.length < 8796093022208 then (profile_Step.l0 k x0 x2 x3 (x10 ++ y237) (wrap64 (x11 - 1))) else (none))) else (if x10.length < 8796093022208 then (some (x0,(x10 ++ [(⟨0,x3⟩ : S31)]),0)) else (none))
end
def profile_Step.f (k : Nat) (a0 : ByteArray) (a1 : Int) (a2 : Int) (a3 : Int) : Option (ByteArray × (List (S31)) × Int):=(lexer_Name.f a0).bind fun t233=>(if t233 = true then (if a1 < 1 then (profile_Step.j0 k a0 a1 a2 a3 true) else (if a1 > 31 then (profile_Step.j0 k a0 a1 a2 a3 true) else (if a2 < 1 then (profile_Step.j0 k a0 a1 a2 a3 true) else (if a3 < 1 then (profile_Step.j0 k a0 a1 a2 a3 true) else (if a1 = 0 then (none) else (if a2 > (wrap64 (Int.tdiv 1000000 a1)) then (profile_Step.j0 k a0 a1 a2 a3 true) else (profile_Step.j0 k a0 a1 a2 a3 (decide (a3 > (wrap64 (Int.tdiv 1000000 a1))))))))))) else (some ((⟨#[]⟩ : ByteArray),([] : List (S31)),4)))
theorem profile_Step.mono_l : ∀ k,(∀ y0 y1 y2 y3 y4,LeO (profile_Step.j0 k y0 y1 y2 y3 y4) (profile_Step.j0 (k + 1) y0 y1 y2 y3 y4)) ∧ (∀ y0 y1 y2 y3 y4,LeO (profile_Step.l0 k y0 y1 y2 y3 y4) (profile_Step.l0 (k + 1) y0 y1 y2 y3 y4))
 | 0=>⟨fun _ _ _ _ _ r h=>by simp [profile_Step.j0] at h,fun _ _ _ _ _ r h=>by simp [profile_Step.l0] at h⟩
 | k + 1=>by
  obtain ⟨ih0,ih1⟩ := profile_Step.mono_l k
  refine ⟨?_, ?_⟩
  ·intro y0 y1 y2 y3 y4
   unfold profile_Step.j0
   repeat' first
   | (with_reducible exact ih0 _ _ _ _ _)
   | (with_reducible exact ih1 _ _ _ _ _)
   | (with_reducible exact LeO.refl _)
   | (with_reducible exact LeO.none _)
   | (with_reducible refine LeO.ite ?_ ?_)
   | (with_reducible refine LeO.bind ?_ (fun _=>?_))
   | exact ih0 _ _ _ _ _
   | exact ih1 _ _ _ _ _
   | exact LeO.none _
   | refine LeO.ite ?_ ?_
   | refine LeO.bind ?_ (fun _=>?_)
  ·intro y0 y1 y2 y3 y4
   unfold profile_Step.l0
   repeat' first
   | (with_reducible exact ih0 _ _ _ _ _)
   | (with_reducible exact ih1 _ _ _ _ _)
   | (with_reducible exact LeO.refl _)
   | (with_reducible exact LeO.none _)
   | (with_reducible refine LeO.ite ?_ ?_)
   | (with_reducible refine LeO.bind ?_ (fun _=>?_))
   | exact ih0 _ _ _ _ _
   | exact ih1 _ _ _ _ _
   | exact LeO.none _
   | refine LeO.ite ?_ ?_
   | refine LeO.bind ?_ (fun _=>?_)
theorem profile_Step.mono : ∀ a0 a1 a2 a3 k,LeO (profile_Step.f k a0 a1 a2 a3) (profile_Step.f (k + 1) a0 a1 a2 a3):=by
 intro a0 a1 a2 a3 k;obtain ⟨ih0,ih1⟩ := profile_Step.mono_l k
 unfold profile_Step.f
 repeat' first
   | (with_reducible exact ih0 _ _ _ _ _)
   | (with_reducible exact ih1 _ _ _ _ _)
   | (with_reducible exact LeO.refl _)
   | (with_reducible exact LeO.none _)
   | (with_reducible refine LeO.ite ?_ ?_)
   | (with_reducible refine LeO.bind ?_ (fun _=>?_))
   | exact ih0 _ _ _ _ _
   | exact ih1 _ _ _ _ _
   | exact LeO.none _
   | refine LeO.ite ?_ ?_
   | refine LeO.bind ?_ (fun _=>?_)
set_option maxHeartbeats 8000000 in
set_option maxRecDepth 100000 in
theorem profile_Step.calls (k : Nat) (a0 : ByteArray) (a1 : Int) (a2 : Int) (a3 : Int) (r1 : ByteArray) (r2 : List (S31)) (r3 : Int) (w : World) (h : profile_Step.f k a0 a1 a2 a3 = some (r1, r2, r3)) :
  Calls Try.prog 30 #[.string a0,.int .i64 a1,.int .i64 a2,.int .i64 a3] w fun e w'=>∃ v1_ : Value,e = .returned (.tuple #[.agg #[.string r1,v1_],.int .i64 r3]) ∧ Kd.R k31 31 w' w.heap.size (fun _=>True) v1_ r2 ∧ Below w.heap.size w w':=by
 have hu25:=Try.underlying25;have hu31:=Try.underlying31;have HB:=am (Below.refl w.heap.size w);have H : ((lexer_Name.f a0).bind fun t233=>(if t233 = true then (if a1 < 1 then (profile_Step.j0 k a0 a1 a2 a3 true) else (if a1 > 31 then (profile_Step.j0 k a0 a1 a2 a3 true) else (if a2 < 1 then (profile_Step.j0 k a0 a1 a2 a3 true) else (if a3 < 1 then (profile_Step.j0 k a0 a1 a2 a3 true) else (if a1 = 0 then (none) else (if a2 > (wrap64 (Int.tdiv 1000000 a1)) then (profile_Step.j0 k a0 a1 a2 a3 true) else (profile_Step.j0 k a0 a1 a2 a3 (decide (a3 > (wrap64 (Int.tdiv 1000000 a1))))))))))) else (some ((⟨#[]⟩ : ByteArray),([] : List (S31)),4)))) = some (r1,r2,r3):=h;clear h;replace H:=Option.bind_eq_some_iff.mp H;obtain ⟨t233,A50,H⟩ := H;replace H : (if t233 = true then (if a1 < 1 then (profile_Step.j0 k a0 a1 a2 a3 true) else (if a1 > 31 then (profile_Step.j0 k a0 a1 a2 a3 true) else (if a2 < 1 then (profile_Step.j0 k a0 a1 a2 a3 true) else (if a3 < 1 then (profile_Step.j0 k a0 a1 a2 a3 true) else (if a1 = 0 then (none) else (if a2 > (wrap64 (Int.tdiv 1000000 a1)) then (profile_Step.j0 k a0 a1 a2 a3 true) else (profile_Step.j0 k a0 a1 a2 a3 (decide (a3 > (wrap64 (Int.tdiv 1000000 a1))))))))))) else (some ((⟨#[]⟩ : ByteArray),([] : List (S31)),4))) = some (r1,r2,r3):=H;have A5:=am A50;clear A50;by_cases c6 : t233 = true
 ·subst c6
  have H1 : (if a1 < 1 then (profile_Step.j0 k a0 a1 a2 a3 true) else (if a1 > 31 then (profile_Step.j0 k a0 a1 a2 a3 true) else (if a2 < 1 then (profile_Step.j0 k a0 a1 a2 a3 true) else (if a3 < 1 then (profile_Step.j0 k a0 a1 a2 a3 true) else (if a1 = 0 then (none) else (if a2 > (wrap64 (Int.tdiv 1000000 a1)) then (profile_Step.j0 k a0 a1 a2 a3 true) else (profile_Step.j0 k a0 a1 a2 a3 (decide (a3 > (wrap64 (Int.tdiv 1000000 a1))))))))))) = some (r1,r2,r3):=by rw [if_pos rfl] at H;exact H
  clear H;have H:=H1;clear H1;have HC7:=am H;clear H
  go_enter Try.func30,Try.ntmps30
  go_upto_region 3 with (first|((with_reducible refine gate_dst (N:=8) rfl ?_);refine box_event ?hg (N:=8) ?hd (cs:=#[.string (⟨#[]⟩ : ByteArray),.slice none 0 0]) (t:=25) ?hr ?_;(case hd=>rfl);(case hg=>rfl);(case hr=>first|(go_simp;done)|(go_simp;rfl));intro gb232 hg w8 hbox hb;have BK232:=am hbox;have GW232:=bza HB hg;have GE232:=bza HB hg;replace HB:=bsa HB hb;clear hb hbox hg)|((with_reducible refine gate_callee (f:=38) rfl ?_);refine goesL_ (some 13) rfl rfl Try.func38 (by kernel_rfl) rfl #[.string a0] rfl (by (try simp only [mT,mC,mN]);first|done|rfl|(simp only [lDr,lTk];rfl)) ?_;(with_reducible refine (lexer_Name.calls a0 true _ A5.out).mono ?_);rintro e w9 ⟨rfl,hb⟩;refine ⟨_,rfl, ?_⟩;replace BK232:=bba BK232 hb;replace HB:=bsa HB hb;(try clear hb);(try clear hb2);(try clear hk);(try clear hi)))
  (try simp only [Act.put,sA,s0,sS])
  go_cut [41] (fun v41 wc=>∃ (kq : Nat) (x41_6 : Bool),v41 = .bool x41_6 ∧ Aside0 (profile_Step.j0 kq a0 a1 a2 a3 x41_6 = some (r1,r2,r3)) ∧ Aside0 (kq ≤ k) ∧ Aside0 (wc.heap[gb232]? = some (.cells #[.string (⟨#[]⟩ : ByteArray),(.slice none 0 0)] 25 (0,0))) ∧ Aside0 (Below w.heap.size w wc))
  case first =>
   have H:=HC7.out;clear HC7;by_cases c10 : a1 < 1
   ·rw [if_pos c10] at H;have c10b0 : decide (a1 < 1) = true:=decide_eq_true c10;clear c10;(first|rw [c10b0]|(simp only [i64_w,i32_w];rw [c10b0])|skip);have H':=am H;clear H
    go_wp2
    go_meet
    case rel=>exact ⟨_,(true),(by first|rfl|(simp;done)|(simp [*];done)),H',⟨by first|omega|exact Nat.le_refl _⟩,⟨bq BK232.out⟩,⟨by repeat (first|(with_reducible first|exact HB.out|apply lA|apply lN|apply lD|refine lS ?_ GE232.out)|exact HB.out)⟩⟩
   ·rw [if_neg c10] at H;have c10b0 : decide (a1 < 1) = false:=decide_eq_false c10;clear c10;(first|rw [c10b0]|(simp only [i64_w,i32_w];rw [c10b0])|skip)
    by_cases c11 : a1 > 31
    ·rw [if_pos c11] at H;have c11b0 : decide (31 < a1) = true:=decide_eq_true c11;clear c11;have H':=am H;clear H
     go_wp2
     go_meet
     case rel=>exact ⟨_,(true),(by first|rfl|(simp;done)|(simp [*];done)),H',⟨by first|omega|exact Nat.le_refl _⟩,⟨bq BK232.out⟩,⟨by repeat (first|(with_reducible first|exact HB.out|apply lA|apply lN|apply lD|refine lS ?_ GE232.out)|exact HB.out)⟩⟩
    ·rw [if_neg c11] at H;have c11b0 : decide (31 < a1) = false:=decide_eq_false c11;clear c11;by_cases c12 : a2 < 1
     ·rw [if_pos c12] at H;have c12b0 : decide (a2 < 1) = true:=decide_eq_true c12;clear c12;have H':=am H;clear H
      go_wp2
      go_meet
      case rel=>exact ⟨_,(true),(by first|rfl|(simp;done)|(simp [*];done)),H',⟨by first|omega|exact Nat.le_refl _⟩,⟨bq BK232.out⟩,⟨by repeat (first|(with_reducible first|exact HB.out|apply lA|apply lN|apply lD|refine lS ?_ GE232.out)|exact HB.out)⟩⟩
     ·rw [if_neg c12] at H;have c12b0 : decide (a2 < 1) = false:=decide_eq_false c12;clear c12;by_cases c13 : a3 < 1
      ·rw [if_pos c13] at H;have c13b0 : decide (a3 < 1) = true:=decide_eq_true c13;clear c13;have H':=am H;clear H
       go_wp2
       go_meet
       case rel=>exact ⟨_,(true),(by first|rfl|(simp;done)|(simp [*];done)),H',⟨by first|omega|exact Nat.le_refl _⟩,⟨bq BK232.out⟩,⟨by repeat (first|(with_reducible first|exact HB.out|apply lA|apply lN|apply lD|refine lS ?_ GE232.out)|exact HB.out)⟩⟩
      ·rw [if_neg c13] at H;have c13b0 : decide (a3 < 1) = false:=decide_eq_false c13;clear c13;by_cases c14 : a1 = 0
       (rw [if_pos c14] at H;exact absurd H (by simp))
       ·rw [if_neg c14] at H;have c14b0 : (a1 == 0) = false:=beq_eq_false_iff_ne.mpr c14;have c14b1 : (a1 != 0) = true:=bne_iff_ne.mpr c14;by_cases c15 : a2 > (wrap64 (Int.tdiv 1000000 a1))
        ·rw [if_pos c15] at H;have c15b0 : decide ((wrap64 (Int.tdiv 1000000 a1)) < a2) = true:=decide_eq_true c15;clear c15;have H':=am H;clear H
         go_wp2
         go_meet
         case rel=>exact ⟨_,(true),(by first|rfl|(simp;done)|(simp [*];done)),H',⟨by first|omega|exact Nat.le_refl _⟩,⟨bq BK232.out⟩,⟨by repeat (first|(with_reducible first|exact HB.out|apply lA|apply lN|apply lD|refine lS ?_ GE232.out)|exact HB.out)⟩⟩
        ·rw [if_neg c15] at H;have c15b0 : decide ((wrap64 (Int.tdiv 1000000 a1)) < a2) = false:=decide_eq_false c15;clear c15;have H':=am H;clear H
         go_wp2
         go_meet
         case rel=>exact ⟨_,(decide (a3 > (wrap64 (Int.tdiv 1000000 a1)))),(by first|rfl|(simp;done)|(simp [*];done)),H',⟨by first|omega|exact Nat.le_refl _⟩,⟨bq BK232.out⟩,⟨by repeat (first|(with_reducible first|exact HB.out|apply lA|apply lN|apply lD|refine lS ?_ GE232.out)|exact HB.out)⟩⟩
  case rest =>
   clear HC7
   try clear c1
   try clear p2
   try clear c3
   try clear c6
   try clear p6
   try clear c10
   try clear c10b0
   try clear c11
   try clear c11b0
   try clear c12
   try clear c12b0
   try clear c13
   try clear c13b0
   try clear c14
   try clear c14b0
   try clear c14b1
   try clear c15
   try clear c15b0
   obtain ⟨kq,x41_6,rfl,HA,HJ6,BK232,HB⟩ := hcut
   cases kq with
   | zero=>exact absurd HA.out (by simp [profile_Step.j0])
   | succ kj6 =>
    have H:=HA.out;clear HA;simp only [profile_Step.j0] at H;by_cases c16 : x41_6 = true
    ·subst c16
     have H1 : (some ((⟨#[]⟩ : ByteArray),([] : List (S31)),6)) = some (r1,r2,r3):=by rw [if_pos rfl] at H;exact H
     clear H;have H:=H1;clear H1;simp only [Option.some.injEq,Prod.mk.injEq] at H;obtain ⟨rfl,rfl,rfl⟩ := H;obtain ⟨hcz17_0,hcz17_1,hfz17_0,hfz17_1⟩ := c2_ BK232.out
     go_wp2
     refine bodyPost_ret (results_ct rfl _ _ gb232 25 #[.string (⟨#[]⟩ : ByteArray),.slice none 0 0] (0,0) _ rfl (by (with_reducible repeat (first|apply bN|apply bD|apply bA));refine blk_put (cs:=#[.string (⟨#[]⟩ : ByteArray),.slice none 0 0]) ?_ 1 _ rfl;(with_reducible repeat (first|apply bN|apply bD|apply bA));refine blk_put (cs:=#[.string (⟨#[]⟩ : ByteArray),.slice none 0 0]) ?_ 0 _ rfl;(with_reducible repeat (first|apply bN|apply bD|apply bA));exact BK232.out) Try.underlying25 rfl (by kernel_rfl)) rfl ?_
     exact ⟨_,by first|rfl|(simp [errW_none,errW_some] <;> rfl)|(simp [*,errW_none,errW_some] <;> rfl),by first|exact Kd.R_nil _ _ _ _ _|exact Kd.N_nil _ _ _ _ _|exact Kd.V_nil _ _ _ _ _|exact Kd.Q_nil _ _ _ _ _|exact Kd.S_nil _ _ _ _ _,by repeat (first|(with_reducible first|exact HB.out|apply lA|apply lN|apply lD|refine lS ?_ GE232.out)|exact HB.out)⟩
    ·replace c16:=Bool.eq_false_iff.mpr c16;subst c16
     have H1 : (profile_Step.l0 kj6 a0 a2 a3 (([(⟨0,0⟩ : S31),(⟨wrap64 (a1 * a2),0⟩ : S31),(⟨wrap64 (a1 * a2),wrap64 (a1 * a3)⟩ : S31)] : List (S31))) (wrap64 (a1 - 1))) = some (r1,r2,r3):=by rw [if_neg (show ¬ (false = true) by decide)] at H;exact H
     clear H;have H:=H1;clear H1
     obtain ⟨y234,hy234⟩ : ∃ y_ : List (S31),y_ = (([(⟨0,0⟩ : S31),(⟨wrap64 (a1 * a2),0⟩ : S31),(⟨wrap64 (a1 * a2),wrap64 (a1 * a3)⟩ : S31)] : List (S31))):=⟨_,rfl⟩
     replace H : (profile_Step.l0 kj6 a0 a2 a3 y234 (wrap64 (a1 - 1))) = some (r1,r2,r3):=by first|(rw [hy234];with_reducible exact H)|(have H2_:=(Option.bind_some _ _).symm.trans H;rw [hy234];with_reducible exact H2_)|(have H2_:=(Option.bind_some _ _).symm.trans H;with_reducible exact H2_)|with_reducible exact H|(rw [hy234];exact H)|exact H
     have Ny234:=am hy234;clear hy234;have H':=am H;clear H
     go_wp2_with (first|((with_reducible refine gate_dst (N:=55) rfl ?_);refine Kd.R_lit k31 _ 31 ?hg (N:=55) ?hd (xs:=([(⟨0,0⟩ : S31),(⟨wrap64 (a1 * a2),0⟩ : S31),(⟨wrap64 (a1 * a2),wrap64 (a1 * a3)⟩ : S31)] : List (S31))) (inner:=[.int .i64 0,.int .i64 0,.int .i64 (wrap64 (a1 * a2)),.int .i64 0,.int .i64 (wrap64 (a1 * a2)),.int .i64 (wrap64 (a1 * a3))]) (ok:=fun _=>True) (okp:=fun _=>True) ?hr ?hp (fun _ hk=>hk) trivial (Below.refl _ _) (Nat.le_refl _) (by simp) ?_;(case hd=>rfl);(case hg=>rfl);(case hr=>first|(go_simp;done)|(go_simp;rfl));(case hp=>exact (Reps.c2 (show Kd.M k31 _ _ _ (⟨0,0⟩ : S31) [.int .i64 0,.int .i64 0] from (k31_mkM _ _ _ (⟨0,0⟩ : S31) )) (Reps.c2 (show Kd.M k31 _ _ _ (⟨wrap64 (a1 * a2),0⟩ : S31) [.int .i64 (wrap64 (a1 * a2)),.int .i64 0] from (k31_mkM _ _ _ (⟨wrap64 (a1 * a2),0⟩ : S31) )) (Reps.c2 (show Kd.M k31 _ _ _ (⟨wrap64 (a1 * a2),wrap64 (a1 * a3)⟩ : S31) [.int .i64 (wrap64 (a1 * a2)),.int .i64 (wrap64 (a1 * a3))] from (k31_mkM _ _ _ (⟨wrap64 (a1 * a2),wrap64 (a1 * a3)⟩ : S31) )) (Reps.none _ _)))));intro v235 w18 ho19 hb hg_ hnew_;clear hg_ hnew_;(first|rw [← Ny234.out] at ho19|(simp only [Int.reduceToNat] at ho19;rw [← Ny234.out] at ho19));have HO236:=am (Kd.R_lower ho19 (below_size (by repeat (first|(with_reducible first|exact HB.out|apply lA|apply lN|apply lD|refine lS ?_ GE232.out)|exact HB.out))));replace BK232:=bba BK232 hb;replace HB:=bsa HB hb;clear hb ho19))
     go_loopg [10,11] kj6 (fun kq v10 v11 w'=>∃ (x10_2 : List (S31)) (x11_2 : Int),v11 = .int .i64 x11_2 ∧ Aside0 (profile_Step.l0 kq a0 a2 a3 x10_2 x11_2 = some (r1,r2,r3)) ∧ Aside0 (kq ≤ kj6) ∧ Aside0 (Kd.R k31 31 w' w.heap.size (fun _=>True) v10 x10_2) ∧ Aside0 (w'.heap[gb232]? = some (.cells #[.string (⟨#[]⟩ : ByteArray),(.slice none 0 0)] 25 (0,0))) ∧ Aside0 (Below w.heap.size w w'))
     case atStart=>exact ⟨(y234),(wrap64 (a1 - 1)),(by first|rfl|(simp;done)|(simp [*];done)),H',⟨Nat.le_refl _⟩,⟨rq HO236.out⟩,⟨bq BK232.out⟩,⟨by repeat (first|(with_reducible first|exact HB.out|apply lA|apply lN|apply lD|refine lS ?_ GE232.out)|exact HB.out)⟩⟩
     case round =>
      clear H'
      try clear c1
      try clear c2
      try clear p2
      try clear c3
      try clear c6
      try clear p6
      try clear c10
      try clear c10b0
      try clear c11
      try clear c11b0
      try clear c12
      try clear c12b0
      try clear c13
      try clear c13b0
      try clear c14
      try clear c14b0
      try clear c14b1
      try clear c15
      try clear c15b0
      try clear c16
      try clear hcz17_0
      try clear hcz17_1
      try clear hfz17_0
      try clear hfz17_1
      try clear p2
      try clear p6
      obtain ⟨x10_2,x11_2,rfl,HA,HK2,HO_10,BK232,HB⟩ := hrel
      cases gk with
      | zero=>exact absurd HA.out (by simp [profile_Step.l0])
      | succ k2 =>
       have H:=HA.out;clear HA;simp only [profile_Step.l0] at H;by_cases c20 : x11_2 > 0
       ·rw [if_pos c20] at H;have c20b0 : decide (0 < x11_2) = true:=decide_eq_true c20;clear c20
        obtain ⟨y237,hy237⟩ : ∃ y_ : List (S31),y_ = (([(⟨wrap64 (x11_2 * a2),wrap64 ((wrap64 (x11_2 + 1)) * a3)⟩ : S31),(⟨wrap64 (x11_2 * a2),wrap64 (x11_2 * a3)⟩ : S31)] : List (S31))):=⟨_,rfl⟩
        replace H : (if x10_2.length + y237.length < 8796093022208 then (profile_Step.l0 k2 a0 a2 a3 (x10_2 ++ y237) (wrap64 (x11_2 - 1))) else (none)) = some (r1,r2,r3):=by first|(rw [hy237];with_reducible exact H)|(have H2_:=(Option.bind_some _ _).symm.trans H;rw [hy237];with_reducible exact H2_)|(have H2_:=(Option.bind_some _ _).symm.trans H;with_reducible exact H2_)|with_reducible exact H|(rw [hy237];exact H)|exact H
        have Ny237:=am hy237;clear hy237;by_cases c21 : x10_2.length + y237.length < 8796093022208
        ·rw [if_pos c21] at H;have LMc21:=am c21;clear c21
         obtain ⟨y240,hy240⟩ : ∃ y_ : List (S31),y_ = (x10_2 ++ y237):=⟨_,rfl⟩
         replace H : (profile_Step.l0 k2 a0 a2 a3 y240 (wrap64 (x11_2 - 1))) = some (r1,r2,r3):=by first|(rw [hy240];with_reducible exact H)|(have H2_:=(Option.bind_some _ _).symm.trans H;rw [hy240];with_reducible exact H2_)|(have H2_:=(Option.bind_some _ _).symm.trans H;with_reducible exact H2_)|with_reducible exact H|(rw [hy240];exact H)|exact H
         have Ny240:=am hy240;clear hy240;have H':=am H;clear H
         go_wp2_with (first|((with_reducible refine gate_dst (N:=78) rfl ?_);refine Kd.R_lit k31 _ 31 ?hg (N:=78) ?hd (xs:=([(⟨wrap64 (x11_2 * a2),wrap64 ((wrap64 (x11_2 + 1)) * a3)⟩ : S31),(⟨wrap64 (x11_2 * a2),wrap64 (x11_2 * a3)⟩ : S31)] : List (S31))) (inner:=[.int .i64 (wrap64 (x11_2 * a2)),.int .i64 (wrap64 ((wrap64 (x11_2 + 1)) * a3)),.int .i64 (wrap64 (x11_2 * a2)),.int .i64 (wrap64 (x11_2 * a3))]) (ok:=fun _=>True) (okp:=fun _=>True) ?hr ?hp (fun _ hk=>hk) trivial (Below.refl _ _) (Nat.le_refl _) (by simp) ?_;(case hd=>rfl);(case hg=>rfl);(case hr=>first|(go_simp;done)|(go_simp;rfl));(case hp=>exact (Reps.c2 (show Kd.M k31 _ _ _ (⟨wrap64 (x11_2 * a2),wrap64 ((wrap64 (x11_2 + 1)) * a3)⟩ : S31) [.int .i64 (wrap64 (x11_2 * a2)),.int .i64 (wrap64 ((wrap64 (x11_2 + 1)) * a3))] from (k31_mkM _ _ _ (⟨wrap64 (x11_2 * a2),wrap64 ((wrap64 (x11_2 + 1)) * a3)⟩ : S31) )) (Reps.c2 (show Kd.M k31 _ _ _ (⟨wrap64 (x11_2 * a2),wrap64 (x11_2 * a3)⟩ : S31) [.int .i64 (wrap64 (x11_2 * a2)),.int .i64 (wrap64 (x11_2 * a3))] from (k31_mkM _ _ _ (⟨wrap64 (x11_2 * a2),wrap64 (x11_2 * a3)⟩ : S31) )) (Reps.none _ _))));intro v238 w22 ho23 hb hg_ hnew_;clear hg_ hnew_;(first|rw [← Ny237.out] at ho23|(simp only [Int.reduceToNat] at ho23;rw [← Ny237.out] at ho23));have HO239:=am (Kd.R_lower (Kd.R_new' ho23 (Kd.R_lt (rq HO_10.out))) (below_size (by repeat (first|(with_reducible first|exact HB.out|apply lA|apply lN|apply lD|refine lS ?_ GE232.out)|exact HB.out))));replace HO_10:=am (Kd.R_elder' (rq HO_10.out) (Kd.R_base ho23) hb);replace BK232:=bba BK232 hb;replace HB:=bsa HB hb;clear hb ho23;obtain ⟨Ao25,co25,eo25⟩ := Kd.R_slice HO239.out;subst eo25)|((with_reducible refine gate_builtin (b:=.append) (xs:=#[.tmp 62,.tmp 78]) rfl ?_);at_builtin;refine Kd.R_append_rows k31 (w0:=w) w.heap.size rfl (.tmp 62) (.tmp 78) 23 31 (.agg #[(.int .i64 0),(.int .i64 0)]) 16 rfl Try.underlying23 info31 rfl (by decide) (by omega) u10 x10_2 y237 _ _ _ (fun k_=>some k_ ≠ (.slice Ao25 y237.length co25 : Value).ownBlock) (fun _=>False) rfl rfl ?aO ?aR (fun _ _ h=>h) (fun _ h=>h.elim) ?aF ?aB ?aS ?aL ?_;(case aR=>exact cr (Kd.R_reads' HO239.out).2.2);(case aB=>exact (by repeat (first|(with_reducible first|exact HB.out|apply lA|apply lN|apply lD|refine lS ?_ GE232.out)|exact HB.out)));(case aF=>exact (fun k_ hk=>Kd.fresh' (Kd.R_lt (rq HO239.out)) k_ hk));(case aO=>exact (by (with_reducible repeat (first|apply rA|apply rN|apply rD));exact Kd.R_mono HO_10.out (fun _ hk=>hk.2)));(case aS=>exact (below_size (by repeat (first|(with_reducible first|exact HB.out|apply lA|apply lN|apply lD|refine lS ?_ GE232.out)|exact HB.out))));(case aL=>have:=LMc21.out;omega);intro v241 w24 ho hb hg hat;rw [← Ny240.out] at ho;have HO242:=am ho;replace BK232:=am (blk_grown (g:=gb232) (o:=.cells #[.string (⟨#[]⟩ : ByteArray),.slice none 0 0] 25 (0,0)) (bq BK232.out) hg (Kd.R_ne HO_10.out BK232.out (by decide)));replace HO239:=am (Kd.R_after (ok:=(fun _=>True)) (rq HO239.out) hg hat);replace HB:=am hb;clear HO_10;clear ho hb hg hat))
         go_roundg k2
         case measure=>have:=HJ6.out;have:=HK2.out;omega
         case rel=>exact ⟨(y240),(wrap64 (x11_2 - 1)),(by first|rfl|(simp;done)|(simp [*];done)),H',⟨by have:=HJ6.out;have:=HK2.out;omega⟩,⟨by (with_reducible repeat (first|apply rA|apply rN|apply rD));exact Kd.R_mono HO242.out (fun _ hk=>trivial)⟩,⟨bq BK232.out⟩,⟨by repeat (first|(with_reducible first|exact HB.out|apply lA|apply lN|apply lD|refine lS ?_ GE232.out)|exact HB.out)⟩⟩
        (rw [if_neg c21] at H;exact absurd H (by simp))
       ·rw [if_neg c20] at H;have c20b0 : decide (0 < x11_2) = false:=decide_eq_false c20;clear c20;by_cases c26 : x10_2.length < 8796093022208
        ·rw [if_pos c26] at H;have LMc26:=am c26;clear c26
         obtain ⟨y243,hy243⟩ : ∃ y_ : List (S31),y_ = (x10_2 ++ [(⟨0,a3⟩ : S31)]):=⟨_,rfl⟩
         replace H : (some (a0,y243,0)) = some (r1,r2,r3):=by first|(rw [hy243];with_reducible exact H)|(have H2_:=(Option.bind_some _ _).symm.trans H;rw [hy243];with_reducible exact H2_)|(have H2_:=(Option.bind_some _ _).symm.trans H;with_reducible exact H2_)|with_reducible exact H|(rw [hy243];exact H)|exact H
         have Ny243:=am hy243;clear hy243;simp only [Option.some.injEq,Prod.mk.injEq] at H;obtain ⟨rfl,rfl,rfl⟩ := H
         go_wp2_with (first|((with_reducible refine gate_builtin (b:=.append) (xs:=#[.tmp 81,.tmp 84]) rfl ?_);at_builtin;refine Kd.R_append k31 (w0:=w) w.heap.size rfl (.tmp 81) (.tmp 84) 23 31 (.agg #[(.int .i64 0),(.int .i64 0)]) 16 rfl Try.underlying23 info31 rfl (by decide) (by omega) u10 x10_2 (⟨0,a3⟩ : S31) [.int .i64 0,.int .i64 a3] (fun _=>True) (fun _=>False) rfl rfl ?aP (fun _ hk=>hk.elim) ?aF ?aO ?aB ?aS ?aL ?_;(case aP=>exact k31_mkM _ _ _ (⟨0,a3⟩ : S31));(case aB=>exact (by repeat (first|(with_reducible first|exact HB.out|apply lA|apply lN|apply lD|refine lS ?_ GE232.out)|exact HB.out)));(case aF=>exact (fun _ _=>trivial));(case aO=>exact (rq HO_10.out));(case aS=>exact (below_size (by repeat (first|(with_reducible first|exact HB.out|apply lA|apply lN|apply lD|refine lS ?_ GE232.out)|exact HB.out))));(case aL=>have:=LMc26.out;omega);intro v244 w27 ho hb hg hat;rw [← Ny243.out] at ho;have HO245:=am ho;replace BK232:=am (blk_grown (g:=gb232) (o:=.cells #[.string (⟨#[]⟩ : ByteArray),.slice none 0 0] 25 (0,0)) (bq BK232.out) hg (Kd.R_ne HO_10.out BK232.out (by decide)));replace HB:=am hb;clear HO_10;clear ho hb hg hat;obtain ⟨Ao28,co28,eo28⟩ := Kd.R_slice HO245.out;subst eo28;obtain ⟨hcz29_0,hcz29_1,hfz29_0,hfz29_1⟩ := c2_ BK232.out))
         refine bodyPost_ret (results_ct rfl _ _ gb232 25 #[.string a0,.slice Ao28 y243.length co28] (0,0) _ rfl (by (with_reducible repeat (first|apply bN|apply bD|apply bA));refine blk_put (cs:=#[.string a0,.slice none 0 0]) ?_ 1 _ rfl;(with_reducible repeat (first|apply bN|apply bD|apply bA));refine blk_put (cs:=#[.string (⟨#[]⟩ : ByteArray),.slice none 0 0]) ?_ 0 _ rfl;(with_reducible repeat (first|apply bN|apply bD|apply bA));exact BK232.out) Try.underlying25 rfl (by kernel_rfl)) rfl ?_
         exact ⟨_,by first|rfl|(simp [errW_none,errW_some] <;> rfl)|(simp [*,errW_none,errW_some] <;> rfl),by (with_reducible repeat (first|apply rA|apply rN|apply rD));exact Kd.R_mono (Kd.R_far (p:=⟨gb232,1,none⟩) (Kd.R_far (p:=⟨gb232,0,none⟩) (Kd.R_types HO245.out BK232.out (by decide)) (fun _ hk=>hk.2) (.string a0)) (fun _ hk=>hk.2) (.slice Ao28 y243.length co28)) (fun _ hk=>trivial),by repeat (first|(with_reducible first|exact HB.out|apply lA|apply lN|apply lD|refine lS ?_ GE232.out)|exact HB.out)⟩
        (rw [if_neg c26] at H;exact absurd H (by simp))
 ·replace c6:=Bool.eq_false_iff.mpr c6;subst c6
  have H1 : (some ((⟨#[]⟩ : ByteArray),([] : List (S31)),4)) = some (r1,r2,r3):=by rw [if_neg (show ¬ (false = true) by decide)] at H;exact H
  clear H;have H:=H1;clear H1;simp only [Option.some.injEq,Prod.mk.injEq] at H;obtain ⟨rfl,rfl,rfl⟩ := H
  go_enter Try.func30,Try.ntmps30
  go_wp2_with (first|((with_reducible refine gate_dst (N:=8) rfl ?_);refine box_event ?hg (N:=8) ?hd (cs:=#[.string (⟨#[]⟩ : ByteArray),.slice none 0 0]) (t:=25) ?hr ?_;(case hd=>rfl);(case hg=>rfl);(case hr=>first|(go_simp;done)|(go_simp;rfl));intro gb232 hg w30 hbox hb;have BK232:=am hbox;have GW232:=bza HB hg;have GE232:=bza HB hg;replace HB:=bsa HB hb;clear hb hbox hg)|((with_reducible refine gate_callee (f:=38) rfl ?_);refine goesL_ (some 13) rfl rfl Try.func38 (by kernel_rfl) rfl #[.string a0] rfl (by (try simp only [mT,mC,mN]);first|done|rfl|(simp only [lDr,lTk];rfl)) ?_;(with_reducible refine (lexer_Name.calls a0 false _ A5.out).mono ?_);rintro e w31 ⟨rfl,hb⟩;refine ⟨_,rfl, ?_⟩;replace BK232:=bba BK232 hb;replace HB:=bsa HB hb;(try clear hb);(try clear hb2);(try clear hk);(try clear hi);obtain ⟨hcz32_0,hcz32_1,hfz32_0,hfz32_1⟩ := c2_ BK232.out))
  refine bodyPost_ret (results_ct rfl _ _ gb232 25 #[.string (⟨#[]⟩ : ByteArray),.slice none 0 0] (0,0) _ rfl (by (with_reducible repeat (first|apply bN|apply bD|apply bA));refine blk_put (cs:=#[.string (⟨#[]⟩ : ByteArray),.slice none 0 0]) ?_ 1 _ rfl;(with_reducible repeat (first|apply bN|apply bD|apply bA));refine blk_put (cs:=#[.string (⟨#[]⟩ : ByteArray),.slice none 0 0]) ?_ 0 _ rfl;(with_reducible repeat (first|apply bN|apply bD|apply bA));exact BK232.out) Try.underlying25 rfl (by kernel_rfl)) rfl ?_
  exact ⟨_,by first|rfl|(simp [errW_none,errW_some] <;> rfl)|(simp [*,errW_none,errW_some] <;> rfl),by first|exact Kd.R_nil _ _ _ _ _|exact Kd.N_nil _ _ _ _ _|exact Kd.V_nil _ _ _ _ _|exact Kd.Q_nil _ _ _ _ _|exact Kd.S_nil _ _ _ _ _,by repeat (first|(with_reducible first|exact HB.out|apply lA|apply lN|apply lD|refine lS ?_ GE232.out)|exact HB.out)⟩
def gangsawlaw39_hook.f  : Option (ByteArray × (List (S31))):=some ((⟨#[104,111,111,107]⟩ : ByteArray),(([(⟨0,0⟩ : S31),(⟨10,0⟩ : S31),(⟨10,10⟩ : S31),(⟨4,10⟩ : S31),(⟨4,8⟩ : S31),(⟨6,8⟩ : S31),(⟨6,4⟩ : S31),(⟨0,4⟩ : S31)] : List (S31))))
set_option maxHeartbeats 8000000 in
set_option maxRecDepth 100000 in
theorem gangsawlaw39_hook.calls  (r1 : ByteArray) (r2 : List (S31)) (w : World) (h : gangsawlaw39_hook.f  = some (r1, r2)) :
  Calls Try.prog 32 #[] w fun e w'=>∃ v1_ : Value,e = .returned (.agg #[.string r1,v1_]) ∧ Kd.R k31 31 w' w.heap.size (fun _=>True) v1_ r2 ∧ Below w.heap.size w w':=by
 have hu25:=Try.underlying25;have hu31:=Try.underlying31;have HB:=am (Below.refl w.heap.size w);have H : (some ((⟨#[104,111,111,107]⟩ : ByteArray),(([(⟨0,0⟩ : S31),(⟨10,0⟩ : S31),(⟨10,10⟩ : S31),(⟨4,10⟩ : S31),(⟨4,8⟩ : S31),(⟨6,8⟩ : S31),(⟨6,4⟩ : S31),(⟨0,4⟩ : S31)] : List (S31))))) = some (r1,r2):=h;clear h
 obtain ⟨y247,hy247⟩ : ∃ y_ : List (S31),y_ = (([(⟨0,0⟩ : S31),(⟨10,0⟩ : S31),(⟨10,10⟩ : S31),(⟨4,10⟩ : S31),(⟨4,8⟩ : S31),(⟨6,8⟩ : S31),(⟨6,4⟩ : S31),(⟨0,4⟩ : S31)] : List (S31))):=⟨_,rfl⟩
 replace H : (some ((⟨#[104,111,111,107]⟩ : ByteArray),y247)) = some (r1,r2):=by first|(rw [hy247];with_reducible exact H)|(have H2_:=(Option.bind_some _ _).symm.trans H;rw [hy247];with_reducible exact H2_)|(have H2_:=(Option.bind_some _ _).symm.trans H;with_reducible exact H2_)|with_reducible exact H|(rw [hy247];exact H)|exact H
 have Ny247:=am hy247;clear hy247;simp only [Option.some.injEq,Prod.mk.injEq] at H;obtain ⟨rfl,rfl⟩ := H
 go_enter Try.func32,Try.ntmps32
 go_wp2_with (first|((with_reducible refine gate_dst (N:=0) rfl ?_);refine box_event ?hg (N:=0) ?hd (cs:=#[.string (⟨#[]⟩ : ByteArray),.slice none 0 0]) (t:=25) ?hr ?_;(case hd=>rfl);(case hg=>rfl);(case hr=>first|(go_simp;done)|(go_simp;rfl));intro gb246 hg w1 hbox hb;have BK246:=am hbox;have GW246:=bza HB hg;have GE246:=bza HB hg;replace HB:=bsa HB hb;clear hb hbox hg)|((with_reducible refine gate_dst (N:=9) rfl ?_);refine Kd.R_lit k31 _ 31 ?hg (N:=9) ?hd (xs:=([(⟨0,0⟩ : S31),(⟨10,0⟩ : S31),(⟨10,10⟩ : S31),(⟨4,10⟩ : S31),(⟨4,8⟩ : S31),(⟨6,8⟩ : S31),(⟨6,4⟩ : S31),(⟨0,4⟩ : S31)] : List (S31))) (inner:=[.int .i64 0,.int .i64 0,.int .i64 10,.int .i64 0,.int .i64 10,.int .i64 10,.int .i64 4,.int .i64 10,.int .i64 4,.int .i64 8,.int .i64 6,.int .i64 8,.int .i64 6,.int .i64 4,.int .i64 0,.int .i64 4]) (ok:=fun _=>True) (okp:=fun _=>True) ?hr ?hp (fun _ hk=>hk) trivial (Below.refl _ _) (Nat.le_refl _) (by simp) ?_;(case hd=>rfl);(case hg=>rfl);(case hr=>first|(go_simp;done)|(go_simp;rfl));(case hp=>exact (Reps.c2 (show Kd.M k31 _ _ _ (⟨0,0⟩ : S31) [.int .i64 0,.int .i64 0] from (k31_mkM _ _ _ (⟨0,0⟩ : S31) )) (Reps.c2 (show Kd.M k31 _ _ _ (⟨10,0⟩ : S31) [.int .i64 10,.int .i64 0] from (k31_mkM _ _ _ (⟨10,0⟩ : S31) )) (Reps.c2 (show Kd.M k31 _ _ _ (⟨10,10⟩ : S31) [.int .i64 10,.int .i64 10] from (k31_mkM _ _ _ (⟨10,10⟩ : S31) )) (Reps.c2 (show Kd.M k31 _ _ _ (⟨4,10⟩ : S31) [.int .i64 4,.int .i64 10] from (k31_mkM _ _ _ (⟨4,10⟩ : S31) )) (Reps.c2 (show Kd.M k31 _ _ _ (⟨4,8⟩ : S31) [.int .i64 4,.int .i64 8] from (k31_mkM _ _ _ (⟨4,8⟩ : S31) )) (Reps.c2 (show Kd.M k31 _ _ _ (⟨6,8⟩ : S31) [.int .i64 6,.int .i64 8] from (k31_mkM _ _ _ (⟨6,8⟩ : S31) )) (Reps.c2 (show Kd.M k31 _ _ _ (⟨6,4⟩ : S31) [.int .i64 6,.int .i64 4] from (k31_mkM _ _ _ (⟨6,4⟩ : S31) )) (Reps.c2 (show Kd.M k31 _ _ _ (⟨0,4⟩ : S31) [.int .i64 0,.int .i64 4] from (k31_mkM _ _ _ (⟨0,4⟩ : S31) )) (Reps.none _ _))))))))));intro v248 w2 ho3 hb hg_ hnew_;clear hg_ hnew_;(first|rw [← Ny247.out] at ho3|(simp only [Int.reduceToNat] at ho3;rw [← Ny247.out] at ho3));have HO249:=am (Kd.R_lower ho3 (below_size (by repeat (first|(with_reducible first|exact HB.out|apply lA|apply lN|apply lD|refine lS ?_ GE246.out)|exact HB.out))));replace BK246:=bba BK246 hb;replace HB:=bsa HB hb;clear hb ho3;obtain ⟨Ao4,co4,eo4⟩ := Kd.R_slice HO249.out;subst eo4;obtain ⟨hcz5_0,hcz5_1,hfz5_0,hfz5_1⟩ := c2_ BK246.out))
 refine bodyPost_ret (results_cell_row rfl _ _ gb246 25 #[.string (⟨#[104,111,111,107]⟩ : ByteArray),.slice Ao4 y247.length co4] (0,0) _ rfl (by (with_reducible repeat (first|apply bN|apply bD|apply bA));refine blk_put (cs:=#[.string (⟨#[104,111,111,107]⟩ : ByteArray),.slice none 0 0]) ?_ 1 _ rfl;(with_reducible repeat (first|apply bN|apply bD|apply bA));refine blk_put (cs:=#[.string (⟨#[]⟩ : ByteArray),.slice none 0 0]) ?_ 0 _ rfl;(with_reducible repeat (first|apply bN|apply bD|apply bA));exact BK246.out) Try.underlying25 rfl (by kernel_rfl)) rfl ?_
 exact ⟨_,by first|rfl|(simp [errW_none,errW_some] <;> rfl)|(simp [*,errW_none,errW_some] <;> rfl),by (with_reducible repeat (first|apply rA|apply rN|apply rD));exact Kd.R_mono (Kd.R_far (p:=⟨gb246,1,none⟩) (Kd.R_far (p:=⟨gb246,0,none⟩) (Kd.R_types HO249.out BK246.out (by decide)) (fun _ hk=>hk.2) (.string (⟨#[104,111,111,107]⟩ : ByteArray))) (fun _ hk=>hk.2) (.slice Ao4 y247.length co4)) (fun _ hk=>trivial),by repeat (first|(with_reducible first|exact HB.out|apply lA|apply lN|apply lD|refine lS ?_ GE246.out)|exact HB.out)⟩
end
end Go.Proofs.Ytnjikioimompnaa.PA
