import Derived.Test.YtnjikioimompnaaGe
import Derived.Test.YtnjikioimompnaaPAx91
namespace Go.Proofs.Ytnjikioimompnaa.PA
open Go.RowKit Go.Proofs.YtnjikioimompnaaW.PrintWords Go.Proofs.YtnjikioimompnaaW.PrintLast Go.Proofs.YtnjikioimompnaaW.PrintMore
attribute [local go_sem] max2_int min2_int max_two min_two max_three min_three max_four min_four
set_option linter.unusedVariables false
set_option linter.unusedSimpArgs false
noncomputable section
attribute [local go_sem high] eqA31
def profile_canonical.l0 : Nat → List (S31) → Int → List (S31) → Int → Int → Int → Int → Option ((List (S31)))
 | 0,_,_,_,_,_,_,_=>none
 | k + 1,x0,x5,x6,x17,x18,x189000,x189001=>if x18 < x17 then (if (x0.length : Int) = 0 then (none) else (if 0 ≤ (Int.tmod (wrap64 (x5 + x18)) (x0.length : Int)) then (if (Int.tmod (wrap64 (x5 + x18)) (x0.length : Int)) < (x0.length : Int) then (if x6.length < 8796093022208 then (profile_canonical.l0 k x0 x5 (x6 ++ [(⟨wrap64 (((rd_T31 x0 (Int.tmod (wrap64 (x5 + x18)) (x0.length : Int))).f0) - x189000),wrap64 (((rd_T31 x0 (Int.tmod (wrap64 (x5 + x18)) (x0.length : Int))).f1) - x189001)⟩ : S31)]) x17 (wrap64 (x18 + 1)) x189000 x189001) else (none)) else (none)) else (none))) else (some x6)
def profile_canonical.f (k : Nat) (l0 : List (S31)) : Option ((List (S31))):=(profile_bounds.f k l0).bind fun bt184=>((extreme_59.f l0).bind fun t190=>(profile_canonical.l0 k l0 t190 ([] : List (S31)) (l0.length : Int) 0 bt184.1 bt184.2.1))
theorem profile_canonical.mono_l : ∀ k,(∀ y0 y1 y2 y3 y4 y5 y6,LeO (profile_canonical.l0 k y0 y1 y2 y3 y4 y5 y6) (profile_canonical.l0 (k + 1) y0 y1 y2 y3 y4 y5 y6))
 | 0=>fun _ _ _ _ _ _ _ r h=>by simp [profile_canonical.l0] at h
 | k + 1=>by
  have ih0:=profile_canonical.mono_l k
  ·intro y0 y1 y2 y3 y4 y5 y6
   unfold profile_canonical.l0
   repeat' first
   | (with_reducible exact ih0 _ _ _ _ _ _ _)
   | (with_reducible exact profile_bounds.mono _ _)
   | (with_reducible exact LeO.refl _)
   | (with_reducible exact LeO.none _)
   | (with_reducible refine LeO.ite ?_ ?_)
   | (with_reducible refine LeO.bind ?_ (fun _=>?_))
   | exact ih0 _ _ _ _ _ _ _
   | exact profile_bounds.mono _ _
   | exact LeO.none _
   | refine LeO.ite ?_ ?_
   | refine LeO.bind ?_ (fun _=>?_)
theorem profile_canonical.mono : ∀ a0 k,LeO (profile_canonical.f k a0) (profile_canonical.f (k + 1) a0):=by
 intro a0 k;have ih0:=profile_canonical.mono_l k
 unfold profile_canonical.f
 repeat' first
   | (with_reducible exact ih0 _ _ _ _ _ _ _)
   | (with_reducible exact profile_bounds.mono _ _)
   | (with_reducible exact LeO.refl _)
   | (with_reducible exact LeO.none _)
   | (with_reducible refine LeO.ite ?_ ?_)
   | (with_reducible refine LeO.bind ?_ (fun _=>?_))
   | exact ih0 _ _ _ _ _ _ _
   | exact profile_bounds.mono _ _
   | exact LeO.none _
   | refine LeO.ite ?_ ?_
   | refine LeO.bind ?_ (fun _=>?_)
set_option maxHeartbeats 8000000 in
set_option maxRecDepth 100000 in
theorem profile_canonical.calls (k : Nat) (A0 : Option Addr) (c0 : Nat) (l0 : List (S31)) (r : List (S31)) (w : World) (hr0 : Kd.C k31 w A0 l0.length l0) (hc0 : l0.length ≤ c0) (h : profile_canonical.f k l0 = some r) :
  Calls Try.prog 44 #[.slice A0 l0.length c0] w fun e w'=>∃ v0_ : Value,e = .returned (v0_) ∧ Kd.R k31 31 w' w.heap.size (fun _=>True) v0_ r ∧ Below w.heap.size w w':=by
 have hu31:=Try.underlying31;have HR0:=am hr0;have HC0:=am hc0;clear hr0 hc0;have HB:=am (Below.refl w.heap.size w);have H : ((profile_bounds.f k l0).bind fun bt184=>((extreme_59.f l0).bind fun t190=>(profile_canonical.l0 k l0 t190 ([] : List (S31)) (l0.length : Int) 0 bt184.1 bt184.2.1))) = some r:=h;clear h;replace H:=Option.bind_eq_some_iff.mp H;obtain ⟨⟨t184,t185,t186,t187⟩,A20,H⟩ := H;replace H : ((extreme_59.f l0).bind fun t190=>(profile_canonical.l0 k l0 t190 ([] : List (S31)) (l0.length : Int) 0 t184 t185)) = some r:=H;have A2:=am A20;clear A20;replace H:=Option.bind_eq_some_iff.mp H;obtain ⟨t190,A30,H⟩ := H;replace H : (profile_canonical.l0 k l0 t190 ([] : List (S31)) (l0.length : Int) 0 t184 t185) = some r:=H;have A3:=am A30;clear A30;have H':=am H;clear H
 go_enter Try.func44,Try.ntmps44
 go_wp2_with (first|((with_reducible refine gate_callee (f:=36) rfl ?_);refine goesL_ (some 11) rfl rfl Try.func36 (by kernel_rfl) rfl #[.slice A0 l0.length c0] rfl (by (try simp only [mT,mC,mN]);first|done|rfl|(simp only [lDr,lTk];rfl)) ?_;(with_reducible refine (profile_bounds.calls k _ _ l0 t184 t185 t186 t187 _ ?side1 ?side2 A2.out).mono ?_);(case side1=>repeat (first|exact HR0.out|(with_reducible first|apply kA|apply kN|apply kD)));(case side2=>exact HC0.out);rintro e w4 ⟨rfl,hb⟩;refine ⟨_,rfl, ?_⟩;replace HB:=bsa HB hb;(try clear hb);(try clear hb2);(try clear hk);(try clear hi))|((with_reducible refine gate_dst (N:=3) rfl ?_);refine box_event ?hg (N:=3) ?hd (cs:=#[.int .i64 0,.int .i64 0]) (t:=31) ?hr ?_;(case hd=>rfl);(case hg=>rfl);(case hr=>first|(go_simp;done)|(go_simp;rfl));intro gb188 hg w5 hbox hb;have BK188:=am hbox;have GW188:=bza HB hg;have GE188:=bza HB hg;replace HB:=bsa HB hb;clear hb hbox hg)|((with_reducible refine gate_dst (N:=4) rfl ?_);refine box_event ?hg (N:=4) ?hd (cs:=#[.int .i64 0,.int .i64 0]) (t:=31) ?hr ?_;(case hd=>rfl);(case hg=>rfl);(case hr=>first|(go_simp;done)|(go_simp;rfl));intro gb189 hg w6 hbox hb;have BK189:=am hbox;have GW189:=bza HB hg;have GE189:=bza HB hg;have NB188_189:=bla BK188 hg;have NB189_188:=bga BK188 hg;replace BK188:=bba BK188 hb;replace HB:=bsa HB hb;clear hb hbox hg;have hnb7:=NB188_189.out;have hnc7:=NB189_188.out;obtain ⟨hcz8_0,hcz8_1,hfz8_0,hfz8_1⟩ := c2_ BK188.out;obtain ⟨hcz9_0,hcz9_1,hfz9_0,hfz9_1⟩ := c2_ BK189.out)|((with_reducible refine gate_callee (f:=58) rfl ?_);refine goesL_ (some 15) rfl rfl Try.func58 (by kernel_rfl) rfl #[.slice A0 l0.length c0,.func (.func 59) #[] #[]] rfl (by (try simp only [mT,mC,mN]);first|done|rfl|(simp only [lDr,lTk];rfl)) ?_;(with_reducible refine (extreme_59.calls _ _ l0 t190 _ ?side1 ?side2 A3.out).mono ?_);(case side1=>exact Kd.C_below HR0.out (by repeat (first|(with_reducible first|exact HB.out|apply lA|apply lN|apply lD|refine lS ?_ GE188.out|refine lS ?_ GE189.out)|exact HB.out)));(case side2=>exact HC0.out);rintro e w10 ⟨rfl,hb⟩;refine ⟨_,rfl, ?_⟩;replace BK188:=am (blk_below (g:=gb188) (o:=.cells #[.int .i64 t184,.int .i64 t185] 31 (0,0)) (by (with_reducible repeat (first|apply bN|apply bD|apply bA));refine blk_far ?_ NB188_189.out _;(with_reducible repeat (first|apply bN|apply bD|apply bA));refine blk_far ?_ NB188_189.out _;(with_reducible repeat (first|apply bN|apply bD|apply bA));refine blk_put (cs:=#[.int .i64 t184,.int .i64 0]) ?_ 1 _ rfl;(with_reducible repeat (first|apply bN|apply bD|apply bA));refine blk_put (cs:=#[.int .i64 0,.int .i64 0]) ?_ 0 _ rfl;(with_reducible repeat (first|apply bN|apply bD|apply bA));exact BK188.out) hb);replace BK189:=am (blk_below (g:=gb189) (o:=.cells #[.int .i64 t186,.int .i64 t187] 31 (0,0)) (by (with_reducible repeat (first|apply bN|apply bD|apply bA));refine blk_put (cs:=#[.int .i64 t186,.int .i64 0]) ?_ 1 _ rfl;(with_reducible repeat (first|apply bN|apply bD|apply bA));refine blk_put (cs:=#[.int .i64 0,.int .i64 0]) ?_ 0 _ rfl;(with_reducible repeat (first|apply bN|apply bD|apply bA));refine blk_far ?_ NB189_188.out _;(with_reducible repeat (first|apply bN|apply bD|apply bA));refine blk_far ?_ NB189_188.out _;(with_reducible repeat (first|apply bN|apply bD|apply bA));exact BK189.out) hb);replace HB:=am (below_step (by repeat (first|(with_reducible first|exact HB.out|apply lA|apply lN|apply lD|refine lS ?_ GE188.out|refine lS ?_ GE189.out)|exact HB.out)) hb);(try clear hb);(try clear hb2);(try clear hk);(try clear hi)))
 go_loopg [6,18] k (fun kq v6 v18 w'=>∃ (x6_1 : List (S31)) (x18_1 : Int),v18 = .int .i64 x18_1 ∧ Aside0 (profile_canonical.l0 kq l0 t190 x6_1 (l0.length : Int) x18_1 t184 t185 = some r) ∧ Aside0 (kq ≤ k) ∧ Aside0 (Kd.R k31 31 w' w.heap.size (fun k_=>k_ ≠ gb188 ∧ k_ ≠ gb189) v6 x6_1) ∧ Aside0 (w'.heap[gb188]? = some (.cells #[.int .i64 t184,.int .i64 t185] 31 (0,0))) ∧ Aside0 (w'.heap[gb189]? = some (.cells #[.int .i64 t186,.int .i64 t187] 31 (0,0))) ∧ Aside0 (Below w.heap.size w w'))
 case atStart=>exact ⟨(([] : List (S31))),(0),(by first|rfl|(simp;done)|(simp [*];done)),H',⟨Nat.le_refl _⟩,⟨by first|exact Kd.R_nil _ _ _ _ _|exact Kd.N_nil _ _ _ _ _|exact Kd.V_nil _ _ _ _ _|exact Kd.Q_nil _ _ _ _ _|exact Kd.S_nil _ _ _ _ _⟩,⟨bq BK188.out⟩,⟨bq BK189.out⟩,⟨by repeat (first|(with_reducible first|exact HB.out|apply lA|apply lN|apply lD|refine lS ?_ GE188.out|refine lS ?_ GE189.out)|exact HB.out)⟩⟩
 case round =>
  clear H'
  try clear c1
  try clear p2
  try clear c3
  try clear c4
  try clear c7
  try clear c10
  try clear hcz8_0
  try clear hcz8_1
  try clear hcz9_0
  try clear hcz9_1
  try clear hfz8_0
  try clear hfz8_1
  try clear hfz9_0
  try clear hfz9_1
  obtain ⟨x6_1,x18_1,rfl,HA,HK1,HO_6,BK188,BK189,HB⟩ := hrel
  cases gk with
  | zero=>exact absurd HA.out (by simp [profile_canonical.l0])
  | succ k1 =>
   have H:=HA.out;clear HA;simp only [profile_canonical.l0] at H;by_cases c11 : x18_1 < (l0.length : Int)
   ·rw [if_pos c11] at H;have c11b0 : decide (x18_1 < (l0.length : Int)) = true:=decide_eq_true c11;clear c11;by_cases c12 : (l0.length : Int) = 0
    (rw [if_pos c12] at H;exact absurd H (by simp))
    ·rw [if_neg c12] at H;have c12b0 : ((l0.length : Int) == 0) = false:=beq_eq_false_iff_ne.mpr c12;have c12b1 : ((l0.length : Int) != 0) = true:=bne_iff_ne.mpr c12
     have c12b2 : ¬ (l0 = []):=fun h_=>c12 (by rw [h_];rfl)
     obtain ⟨ji13,hji13⟩ : ∃ j_ : Int,(Int.tmod (wrap64 (t190 + x18_1)) (l0.length : Int)) = j_:=⟨_,rfl⟩
     replace H : (if 0 ≤ (ji13) then (if (ji13) < (l0.length : Int) then (if x6_1.length < 8796093022208 then (profile_canonical.l0 k1 l0 t190 (x6_1 ++ [(⟨wrap64 (((rd_T31 l0 (ji13)).f0) - t184),wrap64 (((rd_T31 l0 (ji13)).f1) - t185)⟩ : S31)]) (l0.length : Int) (wrap64 (x18_1 + 1)) t184 t185) else (none)) else (none)) else (none)) = some r:=by first|(rw [hji13] at H;exact H)|(simp only [hji13] at H ⊢;exact H)
     by_cases c14 : 0 ≤ (ji13)
     ·rw [if_pos c14] at H;have c14b0 : decide (0 ≤ (ji13)) = true:=decide_eq_true c14;clear c14;by_cases c15 : (ji13) < (l0.length : Int)
      ·rw [if_pos c15] at H;have c15b0 : decide ((ji13) < (l0.length : Int)) = true:=decide_eq_true c15;clear c15;by_cases c16 : x6_1.length < 8796093022208
       ·rw [if_pos c16] at H;have LMc16:=am c16;clear c16
        obtain ⟨y193,hy193⟩ : ∃ y_ : List (S31),y_ = (x6_1 ++ [(⟨wrap64 (((rd_T31 l0 (ji13)).f0) - t184),wrap64 (((rd_T31 l0 (ji13)).f1) - t185)⟩ : S31)]):=⟨_,rfl⟩
        replace H : (profile_canonical.l0 k1 l0 t190 y193 (l0.length : Int) (wrap64 (x18_1 + 1)) t184 t185) = some r:=by first|(rw [hy193];with_reducible exact H)|(have H2_:=(Option.bind_some _ _).symm.trans H;rw [hy193];with_reducible exact H2_)|(have H2_:=(Option.bind_some _ _).symm.trans H;with_reducible exact H2_)|with_reducible exact H|(rw [hy193];exact H)|exact H
        have Ny193:=am hy193;clear hy193;have H':=am H;clear H;have p191 : 0 ≤ ((ji13) : Int):=of_decide_eq_true (by first|(with_reducible assumption)|assumption);have q191 : (ji13) < (l0.length : Int):=of_decide_eq_true (by first|(with_reducible assumption)|assumption);obtain ⟨ad191,e191,hx191_0,hx191_1⟩ := at_T31 HR0.out (ji13) p191 q191
        cases e191
        replace hx191_0:=(HB.out.cell (World.block_lt_of_cell? w _ hx191_0)).trans hx191_0;replace hx191_1:=(HB.out.cell (World.block_lt_of_cell? w _ hx191_1)).trans hx191_1;replace p191:=eq_true p191;replace q191:=eq_true q191
        go_wp2_with (first|((with_reducible refine gate_dst (N:=8) rfl ?_);refine box_event ?hg (N:=8) ?hd (cs:=#[.int .i64 0,.int .i64 0]) (t:=31) ?hr ?_;(case hd=>rfl);(case hg=>rfl);(case hr=>first|(go_simp;done)|(go_simp;rfl));intro gb192 hg w17 hbox hb;have BK192:=am hbox;have GW192:=bza HB hg;have GE192:=bza HB hg;have NB188_192:=bla BK188 hg;have NB192_188:=bga BK188 hg;have NB189_192:=bla BK189 hg;have NB192_189:=bga BK189 hg;replace HO_6:=am (Kd.R_below (Kd.R_elderB (rq HO_6.out) gb192 (Nat.le_of_eq hg.symm)) hb);replace BK188:=bba BK188 hb;replace BK189:=bba BK189 hb;replace HB:=bsa HB hb;clear hb hbox hg;have hnb18:=NB192_188.out;have hnc18:=NB188_192.out;have hnb19:=NB192_189.out;have hnc19:=NB189_192.out;obtain ⟨hcz20_0,hcz20_1,hfz20_0,hfz20_1⟩ := c2_ BK192.out;have hnb21:=NB188_189.out;have hnc21:=NB189_188.out;obtain ⟨hcz22_0,hcz22_1,hfz22_0,hfz22_1⟩ := c2_ BK188.out)|((with_reducible refine gate_builtin (b:=.append) (xs:=#[.tmp 30,.tmp 42]) rfl ?_);at_builtin;refine Kd.R_append k31 (w0:=w) w.heap.size rfl (.tmp 30) (.tmp 42) 23 31 (.agg #[(.int .i64 0),(.int .i64 0)]) 16 rfl Try.underlying23 info31 rfl (by decide) (by omega) u6 x6_1 (⟨wrap64 (((rd_T31 l0 (ji13)).f0) - t184),wrap64 (((rd_T31 l0 (ji13)).f1) - t185)⟩ : S31) [.int .i64 (wrap64 (((rd_T31 l0 (ji13)).f0) - t184)),.int .i64 (wrap64 (((rd_T31 l0 (ji13)).f1) - t185))] (fun k_=>k_ ≠ gb188 ∧ k_ ≠ gb189 ∧ k_ ≠ gb192) (fun _=>False) rfl (by first|(go_simp;done)|(go_simp;rfl)) ?aP (fun _ hk=>hk.elim) ?aF ?aO ?aB ?aS ?aL ?_;(case aP=>exact k31_mkM _ _ _ (⟨wrap64 (((rd_T31 l0 (ji13)).f0) - t184),wrap64 (((rd_T31 l0 (ji13)).f1) - t185)⟩ : S31));(case aB=>exact (by repeat (first|(with_reducible first|exact HB.out|apply lA|apply lN|apply lD|refine lS ?_ GE188.out|refine lS ?_ GE189.out|refine lS ?_ GE192.out)|exact HB.out)));(case aF=>exact (fun k_ hk=>⟨Kd.freshB (g:=gb188) (o:=.cells #[.int .i64 t184,.int .i64 t185] 31 (0,0)) (by (with_reducible repeat (first|apply bN|apply bD|apply bA));refine blk_far ?_ NB188_192.out _;(with_reducible repeat (first|apply bN|apply bD|apply bA));refine blk_far ?_ NB188_192.out _;(with_reducible repeat (first|apply bN|apply bD|apply bA));exact BK188.out) k_ hk,Kd.freshB (g:=gb189) (o:=.cells #[.int .i64 t186,.int .i64 t187] 31 (0,0)) (by (with_reducible repeat (first|apply bN|apply bD|apply bA));refine blk_far ?_ NB189_192.out _;(with_reducible repeat (first|apply bN|apply bD|apply bA));refine blk_far ?_ NB189_192.out _;(with_reducible repeat (first|apply bN|apply bD|apply bA));exact BK189.out) k_ hk,Kd.freshB (g:=gb192) (o:=.cells #[.int .i64 ((rd_T31 l0 (ji13)).f0),.int .i64 ((rd_T31 l0 (ji13)).f1)] 31 (0,0)) (by (with_reducible repeat (first|apply bN|apply bD|apply bA));refine blk_put (cs:=#[.int .i64 ((rd_T31 l0 (ji13)).f0),.int .i64 0]) ?_ 1 _ rfl;(with_reducible repeat (first|apply bN|apply bD|apply bA));refine blk_put (cs:=#[.int .i64 0,.int .i64 0]) ?_ 0 _ rfl;(with_reducible repeat (first|apply bN|apply bD|apply bA));exact BK192.out) k_ hk⟩));(case aO=>exact (by (with_reducible repeat (first|apply rA|apply rN|apply rD));exact Kd.R_mono (Kd.R_far (p:=⟨gb192,1,none⟩) (Kd.R_far (p:=⟨gb192,0,none⟩) (Kd.R_mono HO_6.out (fun k_ hk=>(⟨hk,hk.2⟩ : _ ∧ k_ ≠ gb192))) (fun _ hk=>hk.2) (.int .i64 ((rd_T31 l0 (ji13)).f0))) (fun _ hk=>hk.2) (.int .i64 ((rd_T31 l0 (ji13)).f1))) (fun _ hk=>⟨hk.1.1.1,⟨hk.1.1.2,hk.1.2⟩⟩)));(case aS=>exact (below_size (by repeat (first|(with_reducible first|exact HB.out|apply lA|apply lN|apply lD|refine lS ?_ GE188.out|refine lS ?_ GE189.out|refine lS ?_ GE192.out)|exact HB.out))));(case aL=>have:=LMc16.out;omega);intro v194 w23 ho hb hg hat;rw [← Ny193.out] at ho;have HO195:=am ho;replace BK188:=am (blk_grown (g:=gb188) (o:=.cells #[.int .i64 t184,.int .i64 t185] 31 (0,0)) (by (with_reducible repeat (first|apply bN|apply bD|apply bA));refine blk_far ?_ NB188_192.out _;(with_reducible repeat (first|apply bN|apply bD|apply bA));refine blk_far ?_ NB188_192.out _;(with_reducible repeat (first|apply bN|apply bD|apply bA));exact BK188.out) hg (Kd.R_away HO_6.out (fun _ hk=>hk.1.1)));replace BK189:=am (blk_grown (g:=gb189) (o:=.cells #[.int .i64 t186,.int .i64 t187] 31 (0,0)) (by (with_reducible repeat (first|apply bN|apply bD|apply bA));refine blk_far ?_ NB189_192.out _;(with_reducible repeat (first|apply bN|apply bD|apply bA));refine blk_far ?_ NB189_192.out _;(with_reducible repeat (first|apply bN|apply bD|apply bA));exact BK189.out) hg (Kd.R_away HO_6.out (fun _ hk=>hk.1.2)));replace BK192:=am (blk_grown (g:=gb192) (o:=.cells #[.int .i64 ((rd_T31 l0 (ji13)).f0),.int .i64 ((rd_T31 l0 (ji13)).f1)] 31 (0,0)) (by (with_reducible repeat (first|apply bN|apply bD|apply bA));refine blk_put (cs:=#[.int .i64 ((rd_T31 l0 (ji13)).f0),.int .i64 0]) ?_ 1 _ rfl;(with_reducible repeat (first|apply bN|apply bD|apply bA));refine blk_put (cs:=#[.int .i64 0,.int .i64 0]) ?_ 0 _ rfl;(with_reducible repeat (first|apply bN|apply bD|apply bA));exact BK192.out) hg (Kd.R_away HO_6.out (fun _ hk=>hk.2)));replace HB:=am hb;clear HO_6;clear ho hb hg hat))
        go_roundg k1
        case measure=>have:=HK1.out;omega
        case rel=>exact ⟨(y193),(wrap64 (x18_1 + 1)),(by first|rfl|(simp;done)|(simp [*];done)),H',⟨by have:=HK1.out;omega⟩,⟨by (with_reducible repeat (first|apply rA|apply rN|apply rD));exact Kd.R_mono HO195.out (fun _ hk=>⟨hk.1,hk.2.1⟩)⟩,⟨bq BK188.out⟩,⟨bq BK189.out⟩,⟨by repeat (first|(with_reducible first|exact HB.out|apply lA|apply lN|apply lD|refine lS ?_ GE188.out|refine lS ?_ GE189.out|refine lS ?_ GE192.out)|exact HB.out)⟩⟩
       (rw [if_neg c16] at H;exact absurd H (by simp))
      (rw [if_neg c15] at H;exact absurd H (by simp))
     (rw [if_neg c14] at H;exact absurd H (by simp))
   ·rw [if_neg c11] at H;have c11b0 : decide (x18_1 < (l0.length : Int)) = false:=decide_eq_false c11;clear c11;obtain rfl:=Option.some.inj H
    go_wp2
    go_ret
    exact ⟨_,by first|rfl|(simp [errW_none,errW_some] <;> rfl)|(simp [*,errW_none,errW_some] <;> rfl),by (with_reducible repeat (first|apply rA|apply rN|apply rD));exact Kd.R_mono HO_6.out (fun _ hk=>trivial),by repeat (first|(with_reducible first|exact HB.out|apply lA|apply lN|apply lD|refine lS ?_ GE188.out|refine lS ?_ GE189.out)|exact HB.out)⟩
end
end Go.Proofs.Ytnjikioimompnaa.PA
