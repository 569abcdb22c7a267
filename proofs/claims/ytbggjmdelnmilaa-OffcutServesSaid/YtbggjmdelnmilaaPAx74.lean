import Derived.Test.YtbggjmdelnmilaaPAx8
namespace Go.Proofs.Ytbggjmdelnmilaa.PA
open Go.RowKit Go.Proofs.YtbggjmdelnmilaaW.PrintWords Go.Proofs.YtbggjmdelnmilaaW.PrintLast Go.Proofs.YtbggjmdelnmilaaW.PrintMore
attribute [local go_sem] max2_int min2_int max_two min_two max_three min_three max_four min_four
set_option linter.unusedVariables false
set_option linter.unusedSimpArgs false
attribute [local go_sem high] eqA32
def gangsawlaw31_all.l0 : Nat → List (S26) → List (S36) → Int → Option ((List (S36)))
 | 0,_,_,_=>none
 | k + 1,x0,x3,x4=>if x4 < (x0.length : Int) then (if 0 ≤ x4 then ((gangsawlaw31_ours.f ((rd_T26 x0 x4).f0) ((rd_T26 x0 x4).f1.f0) ((rd_T26 x0 x4).f1.f1) ((rd_T26 x0 x4).f1.f2) ((rd_T26 x0 x4).f2) ((rd_T26 x0 x4).f3) ((rd_T26 x0 x4).f4)).bind fun bt308=>(if x3.length < 1954687338268 then (gangsawlaw31_all.l0 k x0 (x3 ++ [(⟨bt308.1,(⟨bt308.2.1,bt308.2.2.1,bt308.2.2.2.1⟩ : S24),bt308.2.2.2.2.1,bt308.2.2.2.2.2.1,bt308.2.2.2.2.2.2⟩ : S36)]) (wrap64 (x4 + 1))) else (none))) else (none)) else (some x3)
def gangsawlaw31_all.f (k : Nat) (l0 : List (S26)) : Option ((List (S36))):=gangsawlaw31_all.l0 k l0 (([] : List (S36))) 0
set_option maxHeartbeats 8000000 in
set_option maxRecDepth 100000 in
theorem gangsawlaw31_all.calls (k : Nat) (A0 : Option Addr) (c0 : Nat) (l0 : List (S26)) (r : List (S36)) (w : World) (hr0 : Kd.C k26 w A0 l0.length l0) (hc0 : l0.length ≤ c0) (h : gangsawlaw31_all.f k l0 = some r) :
  Calls Try.prog 19 #[.slice A0 l0.length c0] w fun e w'=>∃ v0_ : Value,e = .returned (v0_) ∧ Kd.R k36 36 w' w.heap.size (fun _=>True) v0_ r ∧ Below w.heap.size w w':=by
 have hu26:=Try.underlying26;have HR0:=am hr0;have HC0:=am hc0;clear hr0 hc0;have HB:=am (Below.refl w.heap.size w);have H : (gangsawlaw31_all.l0 k l0 (([] : List (S36))) 0) = some r:=h;clear h
 obtain ⟨y304,hy304⟩ : ∃ y_ : List (S36),y_ = (([] : List (S36))):=⟨_,rfl⟩
 replace H : (gangsawlaw31_all.l0 k l0 y304 0) = some r:=by first|(rw [hy304];with_reducible exact H)|(have H2_:=(Option.bind_some _ _).symm.trans H;rw [hy304];with_reducible exact H2_)|(have H2_:=(Option.bind_some _ _).symm.trans H;with_reducible exact H2_)|with_reducible exact H|(rw [hy304];exact H)|exact H
 have Ny304:=am hy304;clear hy304;have H':=am H;clear H
 go_enter Try.func19,Try.ntmps19
 go_wp2_with (first|((with_reducible refine gate_dst (N:=5) rfl ?_);refine Kd.R_lit k36 _ 36 ?hg (N:=5) ?hd (xs:=([] : List (S36))) (inner:=[]) (ok:=fun _=>True) (okp:=fun _=>True) ?hr ?hp (fun _ hk=>hk) trivial (Below.refl _ _) (Nat.le_refl _) (by simp) ?_;(case hd=>rfl);(case hg=>rfl);(case hr=>first|(go_simp;done)|(go_simp;rfl));(case hp=>exact (Reps.none _ _));intro v305 w2 ho3 hb hg_ hnew_;clear hg_ hnew_;(first|rw [← Ny304.out] at ho3|(simp only [Int.reduceToNat] at ho3;rw [← Ny304.out] at ho3));have HO306:=am (Kd.R_lower ho3 (below_size (by repeat (first|(with_reducible first|exact HB.out|apply lA|apply lN|apply lD)|exact HB.out))));replace HB:=bsa HB hb;clear hb ho3))
 go_loopg [3,4] k (fun kq v3 v4 w'=>∃ (x3_1 : List (S36)) (x4_1 : Int),v4 = .int .i64 x4_1 ∧ Aside0 (gangsawlaw31_all.l0 kq l0 x3_1 x4_1 = some r) ∧ Aside0 (kq ≤ k) ∧ Aside0 (Kd.R k36 36 w' w.heap.size (fun _=>True) v3 x3_1) ∧ Aside0 (Below w.heap.size w w'))
 case atStart=>exact ⟨(y304),(0),(by first|rfl|(simp;done)|(simp [*];done)),H',⟨Nat.le_refl _⟩,⟨rq HO306.out⟩,⟨by repeat (first|(with_reducible first|exact HB.out|apply lA|apply lN|apply lD)|exact HB.out)⟩⟩
 case round =>
  clear H'
  try clear c1
  try clear p2
  obtain ⟨x3_1,x4_1,rfl,HA,HK1,HO_3,HB⟩ := hrel
  cases gk with
  | zero=>exact absurd HA.out (by simp [gangsawlaw31_all.l0])
  | succ k1 =>
   have H:=HA.out;clear HA;simp only [gangsawlaw31_all.l0] at H;by_cases c4 : x4_1 < (l0.length : Int)
   ·rw [if_pos c4] at H;have c4b0 : decide (x4_1 < (l0.length : Int)) = true:=decide_eq_true c4;clear c4;by_cases c5 : 0 ≤ x4_1
    ·rw [if_pos c5] at H;have c5b0 : decide (0 ≤ x4_1) = true:=decide_eq_true c5;clear c5;replace H:=Option.bind_eq_some_iff.mp H;obtain ⟨⟨t308,t309,t310,t311,t312,t313,t314⟩,A60,H⟩ := H;replace H : (if x3_1.length < 1954687338268 then (gangsawlaw31_all.l0 k1 l0 (x3_1 ++ [(⟨t308,(⟨t309,t310,t311⟩ : S24),t312,t313,t314⟩ : S36)]) (wrap64 (x4_1 + 1))) else (none)) = some r:=H;have A6:=am A60;clear A60;by_cases c7 : x3_1.length < 1954687338268
     ·rw [if_pos c7] at H;have LMc7:=am c7;clear c7
      obtain ⟨y315,hy315⟩ : ∃ y_ : List (S36),y_ = (x3_1 ++ [(⟨t308,(⟨t309,t310,t311⟩ : S24),t312,t313,t314⟩ : S36)]):=⟨_,rfl⟩
      replace H : (gangsawlaw31_all.l0 k1 l0 y315 (wrap64 (x4_1 + 1))) = some r:=by first|(rw [hy315];with_reducible exact H)|(have H2_:=(Option.bind_some _ _).symm.trans H;rw [hy315];with_reducible exact H2_)|(have H2_:=(Option.bind_some _ _).symm.trans H;with_reducible exact H2_)|with_reducible exact H|(rw [hy315];exact H)|exact H
      have Ny315:=am hy315;clear hy315;have H':=am H;clear H;have p307 : 0 ≤ (x4_1 : Int):=dt;have q307 : x4_1 < (l0.length : Int):=dt;obtain ⟨ad307,e307,hx307_0,hx307_1,hx307_2,hx307_3,hx307_4,hx307_5,hx307_6⟩ := at_T26 HR0.out x4_1 p307 q307
      cases e307
      replace hx307_0:=hc HB hx307_0;replace hx307_1:=hc HB hx307_1;replace hx307_2:=hc HB hx307_2;replace hx307_3:=hc HB hx307_3;replace hx307_4:=hc HB hx307_4;replace hx307_5:=hc HB hx307_5;replace hx307_6:=hc HB hx307_6;replace p307:=eq_true p307;replace q307:=eq_true q307
      go_wp2_with (first|((with_reducible refine gate_callee (f:=15) rfl ?_);refine gL 17 Try.func15 #[.agg #[.string ((rd_T26 l0 x4_1).f0),.int .i64 ((rd_T26 l0 x4_1).f1.f0),.int .i64 ((rd_T26 l0 x4_1).f1.f1),.int .i64 ((rd_T26 l0 x4_1).f1.f2),.int .i64 ((rd_T26 l0 x4_1).f2),.string ((rd_T26 l0 x4_1).f3),.bool ((rd_T26 l0 x4_1).f4)]] ?_;(with_reducible refine (gangsawlaw31_ours.calls ((rd_T26 l0 x4_1).f0) ((rd_T26 l0 x4_1).f1.f0) ((rd_T26 l0 x4_1).f1.f1) ((rd_T26 l0 x4_1).f1.f2) ((rd_T26 l0 x4_1).f2) ((rd_T26 l0 x4_1).f3) ((rd_T26 l0 x4_1).f4) t308 t309 t310 t311 t312 t313 t314 _ A6.out).mono ?_);rintro e w8 ⟨rfl,hb⟩;refine ⟨_,rfl, ?_⟩;replace HO_3:=rba HO_3 hb;replace HB:=bsa HB hb;(try clear hb))|((with_reducible refine gate_builtin (b:=.append) (xs:=#[.tmp 12,.tmp 18]) rfl ?_);at_builtin;refine Kd.R_append k36 (w0:=w) w.heap.size rfl (.tmp 12) (.tmp 18) 48 36 (.agg #[(.string ⟨#[]⟩),(.int .i64 0),(.int .i64 0),(.int .i64 0),(.int .i64 0),(.string ⟨#[]⟩),(.bool false)]) 72 rfl Try.underlying48 info36 rfl (by decide) (by omega) u3 x3_1 (⟨t308,(⟨t309,t310,t311⟩ : S24),t312,t313,t314⟩ : S36) [.string t308,.int .i64 t309,.int .i64 t310,.int .i64 t311,.int .i64 t312,.string t313,.bool t314] (fun _=>True) (fun _=>False) rfl rfl ?aP (fun _ hk=>hk.elim) ?aF ?aO ?aB ?aS ?aL ?_;(case aP=>exact k36_mkM _ _ _ (⟨t308,(⟨t309,t310,t311⟩ : S24),t312,t313,t314⟩ : S36));(case aB=>exact (by repeat (first|(with_reducible first|exact HB.out|apply lA|apply lN|apply lD)|exact HB.out)));(case aF=>exact (fun _ _=>trivial));(case aO=>exact (rq HO_3.out));(case aS=>exact (below_size (by repeat (first|(with_reducible first|exact HB.out|apply lA|apply lN|apply lD)|exact HB.out))));(case aL=>have:=LMc7.out;omega);intro v316 w9 ho hb hg hat;rw [← Ny315.out] at ho;have HO317:=am ho;replace HB:=am hb;clear HO_3;clear ho hb hg hat))
      go_roundg k1
      case measure=>have:=HK1.out;omega
      case rel=>exact ⟨(y315),(wrap64 (x4_1 + 1)),(by first|rfl|(simp;done)|(simp [*];done)),H',⟨by have:=HK1.out;omega⟩,⟨rq HO317.out⟩,⟨by repeat (first|(with_reducible first|exact HB.out|apply lA|apply lN|apply lD)|exact HB.out)⟩⟩
     (rw [if_neg c7] at H;exact absurd H (by simp))
    (rw [if_neg c5] at H;exact absurd H (by simp))
   ·rw [if_neg c4] at H;have c4b0 : decide (x4_1 < (l0.length : Int)) = false:=decide_eq_false c4;clear c4;obtain rfl:=Option.some.inj H
    go_wp2
    go_ret
    exact ⟨_,by first|rfl|(simp [errW_none,errW_some] <;> rfl)|(simp [*,errW_none,errW_some] <;> rfl),by (with_reducible repeat (first|apply rA|apply rN|apply rD));exact HO_3.out,by repeat (first|(with_reducible first|exact HB.out|apply lA|apply lN|apply lD)|exact HB.out)⟩
end Go.Proofs.Ytbggjmdelnmilaa.PA
