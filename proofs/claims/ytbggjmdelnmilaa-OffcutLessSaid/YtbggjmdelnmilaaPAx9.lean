import Derived.Test.YtbggjmdelnmilaaPAx75
import Derived.Test.YtbggjmdelnmilaaPAx8
namespace Go.Proofs.Ytbggjmdelnmilaa.PA
open Go.RowKit Go.Proofs.YtbggjmdelnmilaaW.PrintWords Go.Proofs.YtbggjmdelnmilaaW.PrintLast Go.Proofs.YtbggjmdelnmilaaW.PrintMore
attribute [local go_sem] max2_int min2_int max_two min_two max_three min_three max_four min_four
set_option linter.unusedVariables false
set_option linter.unusedSimpArgs false
attribute [local go_sem high] eqA32
mutual
def gangsawlaw31_OffcutLess.j0 : Nat → List (S39) → Int → Int → Bool → ByteArray → Int → Int → Int → Int → ByteArray → Bool → Option (Bool)
 | 0,_,_,_,_,_,_,_,_,_,_,_=>none
 | k + 1,x0,x2,x3,x29,x276000,x276001,x276002,x276003,x276004,x276005,x276006=>if x29 = true then (some true) else ((gangsawlaw31_ours.f x276000 x276001 x276002 x276003 x276004 x276005 x276006).bind fun bt282=>((offcut_Take.f k x0 bt282.1 bt282.2.1 bt282.2.2.1 bt282.2.2.2.1 bt282.2.2.2.2.1 bt282.2.2.2.2.2.1 bt282.2.2.2.2.2.2 x2 x3).bind fun bt289=>(if bt289.2.2.2.2 = 0 then (gangsawlaw31_OffcutLess.l0 k x0 bt289.1 false 0 x276000 x276001 x276002 x276003 x276004 x276005 x276006 bt289.2.1 bt289.2.2.1 bt289.2.2.2.1) else (if (bt289.1.length : Int) = 0 then (some (bt289.2.1.toList == ([] : List UInt8) && (bt289.2.2.1.toList == ([] : List UInt8) && (!bt289.2.2.2.1)))) else (none)))))
def gangsawlaw31_OffcutLess.l0 : Nat → List (S39) → List (S39) → Bool → Int → ByteArray → Int → Int → Int → Int → ByteArray → Bool → ByteArray → ByteArray → Bool → Option (Bool)
 | 0,_,_,_,_,_,_,_,_,_,_,_,_,_,_=>none
 | k + 1,x0,x9,x12,x13,x276000,x276001,x276002,x276003,x276004,x276005,x276006,x297000,x297001,x297002=>if x13 < (x0.length : Int) then (if x12 = true then (gangsawlaw31_OffcutLess.l0 k x0 x9 true (wrap64 (x13 + 1)) x276000 x276001 x276002 x276003 x276004 x276005 x276006 x297000 x297001 x297002) else (if 0 ≤ x13 then (gangsawlaw31_OffcutLess.l0 k x0 x9 (((rd_T39 x0 x13).f0).toList == x297001.toList) (wrap64 (x13 + 1)) x276000 x276001 x276002 x276003 x276004 x276005 x276006 x297000 x297001 x297002) else (none))) else (gangsawlaw31_OffcutLess.l1 k x0 x9 x12 0 x276000 x276001 x276002 x276003 x276004 x276005 x276006 x297000 x297001 x297002)
def gangsawlaw31_OffcutLess.l1 : Nat → List (S39) → List (S39) → Bool → Int → ByteArray → Int → Int → Int → Int → ByteArray → Bool → ByteArray → ByteArray → Bool → Option (Bool)
 | 0,_,_,_,_,_,_,_,_,_,_,_,_,_,_=>none
 | k + 1,x0,x9,x12,x14,x276000,x276001,x276002,x276003,x276004,x276005,x276006,x297000,x297001,x297002=>if x14 < (x9.length : Int) then (if 0 ≤ x14 then (if ((rd_T39 x9 x14).f0).toList = x297001.toList then (none) else (gangsawlaw31_OffcutLess.l1 k x0 x9 x12 (wrap64 (x14 + 1)) x276000 x276001 x276002 x276003 x276004 x276005 x276006 x297000 x297001 x297002)) else (none)) else ((offcut_Volume.f k x0).bind fun bt299=>((offcut_Volume.f k x9).bind fun bt301=>(if bt299.2 = 0 then (if x12 = true then (if bt301.2 = 0 then (if x297000.toList = x276000.toList then ((offcut_Check.f x9).bind fun t303=>(if t303 = 0 then (some (decide ((wrap64 (bt301.1 + (wrap64 ((wrap64 (x276001 * x276002)) * x276003)))) ≤ bt299.1))) else (none))) else (none)) else (none)) else (none)) else (if bt299.2 = 6 then (some x12) else (none)))))
end
def gangsawlaw31_OffcutLess.f (k : Nat) (l0 : List (S39)) (a1_0 : ByteArray) (a1_1 : Int) (a1_2 : Int) (a1_3 : Int) (a1_4 : Int) (a1_5 : ByteArray) (a1_6 : Bool) (a2 : Int) (a3 : Int) : Option (Bool):=(gangsawlaw31_awake.f k).bind fun t276=>(if t276 = true then ((gangsawref31_Small.f k l0 20).bind fun t277=>(if t277 = true then ((gangsawref31_Few.f k (([(⟨a1_0,(⟨a1_1,a1_2,a1_3⟩ : S24),a1_4,a1_5,a1_6⟩ : S26)] : List (S26))) 1).bind fun t281=>(gangsawlaw31_OffcutLess.j0 k l0 a2 a3 (!t281) a1_0 a1_1 a1_2 a1_3 a1_4 a1_5 a1_6)) else (gangsawlaw31_OffcutLess.j0 k l0 a2 a3 true a1_0 a1_1 a1_2 a1_3 a1_4 a1_5 a1_6))) else (none))
set_option maxHeartbeats 8000000 in
set_option maxRecDepth 100000 in
theorem gangsawlaw31_OffcutLess.calls (k : Nat) (A0 : Option Addr) (c0 : Nat) (l0 : List (S39)) (a1_0 : ByteArray) (a1_1 : Int) (a1_2 : Int) (a1_3 : Int) (a1_4 : Int) (a1_5 : ByteArray) (a1_6 : Bool) (a2 : Int) (a3 : Int) (r : Bool) (w : World) (hr0 : Kd.C k39 w A0 l0.length l0) (hc0 : l0.length ≤ c0) (h : gangsawlaw31_OffcutLess.f k l0 a1_0 a1_1 a1_2 a1_3 a1_4 a1_5 a1_6 a2 a3 = some r) :
  Calls Try.prog 3 #[.slice A0 l0.length c0,.agg #[.string a1_0,.int .i64 a1_1,.int .i64 a1_2,.int .i64 a1_3,.int .i64 a1_4,.string a1_5,.bool a1_6],.int .i64 a2,.int .i64 a3] w fun e w'=>e = .returned (.bool r) ∧ Below w.heap.size w w':=by
 have hu26:=Try.underlying26;have hu32:=Try.underlying32;have HR0:=am hr0;have HC0:=am hc0;clear hr0 hc0;have HB:=am (Below.refl w.heap.size w);have H : ((gangsawlaw31_awake.f k).bind fun t276=>(if t276 = true then ((gangsawref31_Small.f k l0 20).bind fun t277=>(if t277 = true then ((gangsawref31_Few.f k (([(⟨a1_0,(⟨a1_1,a1_2,a1_3⟩ : S24),a1_4,a1_5,a1_6⟩ : S26)] : List (S26))) 1).bind fun t281=>(gangsawlaw31_OffcutLess.j0 k l0 a2 a3 (!t281) a1_0 a1_1 a1_2 a1_3 a1_4 a1_5 a1_6)) else (gangsawlaw31_OffcutLess.j0 k l0 a2 a3 true a1_0 a1_1 a1_2 a1_3 a1_4 a1_5 a1_6))) else (none))) = some r:=h;clear h;replace H:=Option.bind_eq_some_iff.mp H;obtain ⟨t276,A50,H⟩ := H;replace H : (if t276 = true then ((gangsawref31_Small.f k l0 20).bind fun t277=>(if t277 = true then ((gangsawref31_Few.f k (([(⟨a1_0,(⟨a1_1,a1_2,a1_3⟩ : S24),a1_4,a1_5,a1_6⟩ : S26)] : List (S26))) 1).bind fun t281=>(gangsawlaw31_OffcutLess.j0 k l0 a2 a3 (!t281) a1_0 a1_1 a1_2 a1_3 a1_4 a1_5 a1_6)) else (gangsawlaw31_OffcutLess.j0 k l0 a2 a3 true a1_0 a1_1 a1_2 a1_3 a1_4 a1_5 a1_6))) else (none)) = some r:=H;have A5:=am A50;clear A50;by_cases c6 : t276 = true
 ·subst c6
  have H1 : ((gangsawref31_Small.f k l0 20).bind fun t277=>(if t277 = true then ((gangsawref31_Few.f k (([(⟨a1_0,(⟨a1_1,a1_2,a1_3⟩ : S24),a1_4,a1_5,a1_6⟩ : S26)] : List (S26))) 1).bind fun t281=>(gangsawlaw31_OffcutLess.j0 k l0 a2 a3 (!t281) a1_0 a1_1 a1_2 a1_3 a1_4 a1_5 a1_6)) else (gangsawlaw31_OffcutLess.j0 k l0 a2 a3 true a1_0 a1_1 a1_2 a1_3 a1_4 a1_5 a1_6))) = some r:=by rw [if_pos rfl] at H;exact H
  clear H;have H:=H1;clear H1;have HC7:=am H;clear H
  go_enter Try.func3,Try.ntmps3
  go_upto_region 3 with (first|((with_reducible refine gate_dst (N:=5) rfl ?_);(try (refine gate_guard (by rfl) ?_;dsimp only));refine be 5 26 (cs:=#[.string a1_0,.int .i64 a1_1,.int .i64 a1_2,.int .i64 a1_3,.int .i64 a1_4,.string a1_5,.bool a1_6]) ?_;intro gb275 hg w8 hbox hb;have BK275:=am hbox;have GW275:=bza HB hg;have GE275:=bza HB hg;replace HB:=bsa HB hb;clear hb hbox hg)|(go_at_call 11;(with_reducible refine (gangsawlaw31_awake.calls k  true _ A5.out).mono ?_);rintro e w9 ⟨rfl,hb⟩;replace BK275:=bba BK275 hb;replace HB:=bsa HB hb;(try clear hb)))
  repeat (go_quiet (first|((with_reducible refine gate_dst (N:=5) rfl ?_);(try (refine gate_guard (by rfl) ?_;dsimp only));refine be 5 26 (cs:=#[.string a1_0,.int .i64 a1_1,.int .i64 a1_2,.int .i64 a1_3,.int .i64 a1_4,.string a1_5,.bool a1_6]) ?_;intro gb275 hg w8 hbox hb;have BK275:=am hbox;have GW275:=bza HB hg;have GE275:=bza HB hg;replace HB:=bsa HB hb;clear hb hbox hg)|(go_at_call 11;(with_reducible refine (gangsawlaw31_awake.calls k  true _ A5.out).mono ?_);rintro e w9 ⟨rfl,hb⟩;replace BK275:=bba BK275 hb;replace HB:=bsa HB hb;(try clear hb)));go_upto_region 3 with (first|((with_reducible refine gate_dst (N:=5) rfl ?_);(try (refine gate_guard (by rfl) ?_;dsimp only));refine be 5 26 (cs:=#[.string a1_0,.int .i64 a1_1,.int .i64 a1_2,.int .i64 a1_3,.int .i64 a1_4,.string a1_5,.bool a1_6]) ?_;intro gb275 hg w8 hbox hb;have BK275:=am hbox;have GW275:=bza HB hg;have GE275:=bza HB hg;replace HB:=bsa HB hb;clear hb hbox hg)|(go_at_call 11;(with_reducible refine (gangsawlaw31_awake.calls k  true _ A5.out).mono ?_);rintro e w9 ⟨rfl,hb⟩;replace BK275:=bba BK275 hb;replace HB:=bsa HB hb;(try clear hb))))
  (try simp only [Act.put,sA,s0,sS])
  go_cut [29] (fun v29 wc=>∃ (kq : Nat) (x29_6 : Bool),v29 = .bool x29_6 ∧ Aside0 (gangsawlaw31_OffcutLess.j0 kq l0 a2 a3 x29_6 a1_0 a1_1 a1_2 a1_3 a1_4 a1_5 a1_6 = some r) ∧ Aside0 (kq ≤ k) ∧ Aside0 (wc.heap[gb275]? = some (.cells #[.string a1_0,.int .i64 a1_1,.int .i64 a1_2,.int .i64 a1_3,.int .i64 a1_4,.string a1_5,.bool a1_6] 26 (0,0))) ∧ Aside0 (Below w.heap.size w wc))
  case first =>
   have H:=HC7.out;clear HC7;replace H:=Option.bind_eq_some_iff.mp H;obtain ⟨t277,A100,H⟩ := H;replace H : (if t277 = true then ((gangsawref31_Few.f k (([(⟨a1_0,(⟨a1_1,a1_2,a1_3⟩ : S24),a1_4,a1_5,a1_6⟩ : S26)] : List (S26))) 1).bind fun t281=>(gangsawlaw31_OffcutLess.j0 k l0 a2 a3 (!t281) a1_0 a1_1 a1_2 a1_3 a1_4 a1_5 a1_6)) else (gangsawlaw31_OffcutLess.j0 k l0 a2 a3 true a1_0 a1_1 a1_2 a1_3 a1_4 a1_5 a1_6)) = some r:=H;have A10:=am A100;clear A100;by_cases c11 : t277 = true
   ·subst c11
    have H1 : ((gangsawref31_Few.f k (([(⟨a1_0,(⟨a1_1,a1_2,a1_3⟩ : S24),a1_4,a1_5,a1_6⟩ : S26)] : List (S26))) 1).bind fun t281=>(gangsawlaw31_OffcutLess.j0 k l0 a2 a3 (!t281) a1_0 a1_1 a1_2 a1_3 a1_4 a1_5 a1_6)) = some r:=by rw [if_pos rfl] at H;exact H
    clear H;have H:=H1;clear H1
    obtain ⟨y278,hy278⟩ : ∃ y_ : List (S26),y_ = (([(⟨a1_0,(⟨a1_1,a1_2,a1_3⟩ : S24),a1_4,a1_5,a1_6⟩ : S26)] : List (S26))):=⟨_,rfl⟩
    replace H : ((gangsawref31_Few.f k y278 1).bind fun t281=>(gangsawlaw31_OffcutLess.j0 k l0 a2 a3 (!t281) a1_0 a1_1 a1_2 a1_3 a1_4 a1_5 a1_6)) = some r:=by first|(rw [hy278];with_reducible exact H)|(have H2_:=(Option.bind_some _ _).symm.trans H;rw [hy278];with_reducible exact H2_)|(have H2_:=(Option.bind_some _ _).symm.trans H;with_reducible exact H2_)|with_reducible exact H|(rw [hy278];exact H)|exact H
    have Ny278:=am hy278;clear hy278;replace H:=Option.bind_eq_some_iff.mp H;obtain ⟨t281,A120,H⟩ := H;replace H : (gangsawlaw31_OffcutLess.j0 k l0 a2 a3 (!t281) a1_0 a1_1 a1_2 a1_3 a1_4 a1_5 a1_6) = some r:=H;have A12:=am A120;clear A120;have H':=am H;clear H
    go_wp2_with (first|(go_at_call 12;(with_reducible refine (gangsawref31_Small.calls k _ _ l0 20 true _ ?side1 ?side2 A10.out).mono ?_);(case side1=>exact cq HR0.out HB.out);(case side2=>exact HC0.out);rintro e w' ⟨rfl,⟨nd,rfl⟩⟩;(try first|exact ⟨rfl,_,World.drewN_drewN _ _ _⟩|exact ⟨rfl,_,Eq.trans (World.drewN_drewN _ _ _) (congrArg (World.drewN _) (Nat.add_assoc _ _ _))⟩);obtain ⟨hcz13_0,hcz13_1,hcz13_2,hcz13_3,hcz13_4,hcz13_5,hcz13_6,hfz13_0,hfz13_1,hfz13_2,hfz13_3,hfz13_4,hfz13_5,hfz13_6⟩ := c7_ BK275.out)|((with_reducible refine gate_dst (N:=26) rfl ?_);(try (refine gate_guard (by rfl) ?_;dsimp only));refine Kd.R_lit k26 _ 26 ?hg (N:=26) ?hd (xs:=([(⟨a1_0,(⟨a1_1,a1_2,a1_3⟩ : S24),a1_4,a1_5,a1_6⟩ : S26)] : List (S26))) (inner:=[.string a1_0,.int .i64 a1_1,.int .i64 a1_2,.int .i64 a1_3,.int .i64 a1_4,.string a1_5,.bool a1_6]) (ok:=fun _=>True) (okp:=fun _=>True) ?hr ?hp (fun _ hk=>hk) trivial (Below.refl _ _) (Nat.le_refl _) (by simp) ?_;(case hd=>rfl);(case hg=>rfl);(case hr=>first|(go_simp;done)|(go_simp;rfl));(case hp=>exact (Reps.c7 (show Kd.M k26 _ _ _ (⟨a1_0,(⟨a1_1,a1_2,a1_3⟩ : S24),a1_4,a1_5,a1_6⟩ : S26) [.string a1_0,.int .i64 a1_1,.int .i64 a1_2,.int .i64 a1_3,.int .i64 a1_4,.string a1_5,.bool a1_6] from (k26_mkM _ _ _ (⟨a1_0,(⟨a1_1,a1_2,a1_3⟩ : S24),a1_4,a1_5,a1_6⟩ : S26) )) (Reps.none _ _)));intro v279 w14 ho15 hb hg_ hnew_;clear hg_ hnew_;(first|rw [← Ny278.out] at ho15|(simp only [Int.reduceToNat] at ho15;rw [← Ny278.out] at ho15));have HO280:=am (Kd.R_lower (Kd.R_newB ho15 (g:=gb275) (o:=.cells #[.string a1_0,.int .i64 a1_1,.int .i64 a1_2,.int .i64 a1_3,.int .i64 a1_4,.string a1_5,.bool a1_6] 26 (0,0)) (bq BK275.out)) (below_size (by repeat (first|(with_reducible first|exact HB.out|apply lA|apply lN|apply lD|refine lS ?_ GE275.out)|exact HB.out))));replace BK275:=bba BK275 hb;replace HB:=bsa HB hb;clear hb ho15;obtain ⟨Ao16,co16,eo16⟩ := Kd.R_slice HO280.out;subst eo16)|(go_at_call 13;(with_reducible refine (gangsawref31_Few.calls k _ _ y278 1 t281 _ ?side1 ?side2 A12.out).mono ?_);(case side1=>exact cr (Kd.R_reads' HO280.out).2.2);(case side2=>exact (Kd.R_reads' HO280.out).2.1);rintro e w' ⟨rfl,⟨nd,rfl⟩⟩;(try first|exact ⟨rfl,_,World.drewN_drewN _ _ _⟩|exact ⟨rfl,_,Eq.trans (World.drewN_drewN _ _ _) (congrArg (World.drewN _) (Nat.add_assoc _ _ _))⟩)))
    repeat (go_quiet (first|(go_at_call 12;(with_reducible refine (gangsawref31_Small.calls k _ _ l0 20 true _ ?side1 ?side2 A10.out).mono ?_);(case side1=>exact cq HR0.out HB.out);(case side2=>exact HC0.out);rintro e w' ⟨rfl,⟨nd,rfl⟩⟩;(try first|exact ⟨rfl,_,World.drewN_drewN _ _ _⟩|exact ⟨rfl,_,Eq.trans (World.drewN_drewN _ _ _) (congrArg (World.drewN _) (Nat.add_assoc _ _ _))⟩);obtain ⟨hcz13_0,hcz13_1,hcz13_2,hcz13_3,hcz13_4,hcz13_5,hcz13_6,hfz13_0,hfz13_1,hfz13_2,hfz13_3,hfz13_4,hfz13_5,hfz13_6⟩ := c7_ BK275.out)|((with_reducible refine gate_dst (N:=26) rfl ?_);(try (refine gate_guard (by rfl) ?_;dsimp only));refine Kd.R_lit k26 _ 26 ?hg (N:=26) ?hd (xs:=([(⟨a1_0,(⟨a1_1,a1_2,a1_3⟩ : S24),a1_4,a1_5,a1_6⟩ : S26)] : List (S26))) (inner:=[.string a1_0,.int .i64 a1_1,.int .i64 a1_2,.int .i64 a1_3,.int .i64 a1_4,.string a1_5,.bool a1_6]) (ok:=fun _=>True) (okp:=fun _=>True) ?hr ?hp (fun _ hk=>hk) trivial (Below.refl _ _) (Nat.le_refl _) (by simp) ?_;(case hd=>rfl);(case hg=>rfl);(case hr=>first|(go_simp;done)|(go_simp;rfl));(case hp=>exact (Reps.c7 (show Kd.M k26 _ _ _ (⟨a1_0,(⟨a1_1,a1_2,a1_3⟩ : S24),a1_4,a1_5,a1_6⟩ : S26) [.string a1_0,.int .i64 a1_1,.int .i64 a1_2,.int .i64 a1_3,.int .i64 a1_4,.string a1_5,.bool a1_6] from (k26_mkM _ _ _ (⟨a1_0,(⟨a1_1,a1_2,a1_3⟩ : S24),a1_4,a1_5,a1_6⟩ : S26) )) (Reps.none _ _)));intro v279 w14 ho15 hb hg_ hnew_;clear hg_ hnew_;(first|rw [← Ny278.out] at ho15|(simp only [Int.reduceToNat] at ho15;rw [← Ny278.out] at ho15));have HO280:=am (Kd.R_lower (Kd.R_newB ho15 (g:=gb275) (o:=.cells #[.string a1_0,.int .i64 a1_1,.int .i64 a1_2,.int .i64 a1_3,.int .i64 a1_4,.string a1_5,.bool a1_6] 26 (0,0)) (bq BK275.out)) (below_size (by repeat (first|(with_reducible first|exact HB.out|apply lA|apply lN|apply lD|refine lS ?_ GE275.out)|exact HB.out))));replace BK275:=bba BK275 hb;replace HB:=bsa HB hb;clear hb ho15;obtain ⟨Ao16,co16,eo16⟩ := Kd.R_slice HO280.out;subst eo16)|(go_at_call 13;(with_reducible refine (gangsawref31_Few.calls k _ _ y278 1 t281 _ ?side1 ?side2 A12.out).mono ?_);(case side1=>exact cr (Kd.R_reads' HO280.out).2.2);(case side2=>exact (Kd.R_reads' HO280.out).2.1);rintro e w' ⟨rfl,⟨nd,rfl⟩⟩;(try first|exact ⟨rfl,_,World.drewN_drewN _ _ _⟩|exact ⟨rfl,_,Eq.trans (World.drewN_drewN _ _ _) (congrArg (World.drewN _) (Nat.add_assoc _ _ _))⟩)));try go_wp2_with (first|(go_at_call 12;(with_reducible refine (gangsawref31_Small.calls k _ _ l0 20 true _ ?side1 ?side2 A10.out).mono ?_);(case side1=>exact cq HR0.out HB.out);(case side2=>exact HC0.out);rintro e w' ⟨rfl,⟨nd,rfl⟩⟩;(try first|exact ⟨rfl,_,World.drewN_drewN _ _ _⟩|exact ⟨rfl,_,Eq.trans (World.drewN_drewN _ _ _) (congrArg (World.drewN _) (Nat.add_assoc _ _ _))⟩);obtain ⟨hcz13_0,hcz13_1,hcz13_2,hcz13_3,hcz13_4,hcz13_5,hcz13_6,hfz13_0,hfz13_1,hfz13_2,hfz13_3,hfz13_4,hfz13_5,hfz13_6⟩ := c7_ BK275.out)|((with_reducible refine gate_dst (N:=26) rfl ?_);(try (refine gate_guard (by rfl) ?_;dsimp only));refine Kd.R_lit k26 _ 26 ?hg (N:=26) ?hd (xs:=([(⟨a1_0,(⟨a1_1,a1_2,a1_3⟩ : S24),a1_4,a1_5,a1_6⟩ : S26)] : List (S26))) (inner:=[.string a1_0,.int .i64 a1_1,.int .i64 a1_2,.int .i64 a1_3,.int .i64 a1_4,.string a1_5,.bool a1_6]) (ok:=fun _=>True) (okp:=fun _=>True) ?hr ?hp (fun _ hk=>hk) trivial (Below.refl _ _) (Nat.le_refl _) (by simp) ?_;(case hd=>rfl);(case hg=>rfl);(case hr=>first|(go_simp;done)|(go_simp;rfl));(case hp=>exact (Reps.c7 (show Kd.M k26 _ _ _ (⟨a1_0,(⟨a1_1,a1_2,a1_3⟩ : S24),a1_4,a1_5,a1_6⟩ : S26) [.string a1_0,.int .i64 a1_1,.int .i64 a1_2,.int .i64 a1_3,.int .i64 a1_4,.string a1_5,.bool a1_6] from (k26_mkM _ _ _ (⟨a1_0,(⟨a1_1,a1_2,a1_3⟩ : S24),a1_4,a1_5,a1_6⟩ : S26) )) (Reps.none _ _)));intro v279 w14 ho15 hb hg_ hnew_;clear hg_ hnew_;(first|rw [← Ny278.out] at ho15|(simp only [Int.reduceToNat] at ho15;rw [← Ny278.out] at ho15));have HO280:=am (Kd.R_lower (Kd.R_newB ho15 (g:=gb275) (o:=.cells #[.string a1_0,.int .i64 a1_1,.int .i64 a1_2,.int .i64 a1_3,.int .i64 a1_4,.string a1_5,.bool a1_6] 26 (0,0)) (bq BK275.out)) (below_size (by repeat (first|(with_reducible first|exact HB.out|apply lA|apply lN|apply lD|refine lS ?_ GE275.out)|exact HB.out))));replace BK275:=bba BK275 hb;replace HB:=bsa HB hb;clear hb ho15;obtain ⟨Ao16,co16,eo16⟩ := Kd.R_slice HO280.out;subst eo16)|(go_at_call 13;(with_reducible refine (gangsawref31_Few.calls k _ _ y278 1 t281 _ ?side1 ?side2 A12.out).mono ?_);(case side1=>exact cr (Kd.R_reads' HO280.out).2.2);(case side2=>exact (Kd.R_reads' HO280.out).2.1);rintro e w' ⟨rfl,⟨nd,rfl⟩⟩;(try first|exact ⟨rfl,_,World.drewN_drewN _ _ _⟩|exact ⟨rfl,_,Eq.trans (World.drewN_drewN _ _ _) (congrArg (World.drewN _) (Nat.add_assoc _ _ _))⟩))))
    go_meet
    case rel=>exact ⟨_,(!t281),(by first|rfl|(simp;done)|(simp [*];done)),H',⟨by first|omega|exact Nat.le_refl _⟩,⟨bq BK275.out⟩,⟨by repeat (first|(with_reducible first|exact HB.out|apply lA|apply lN|apply lD|refine lS ?_ GE275.out)|exact HB.out)⟩⟩
   ·replace c11:=Bool.eq_false_iff.mpr c11;subst c11
    have H1 : (gangsawlaw31_OffcutLess.j0 k l0 a2 a3 true a1_0 a1_1 a1_2 a1_3 a1_4 a1_5 a1_6) = some r:=by rw [if_neg (show ¬ (false = true) by decide)] at H;exact H
    clear H;have H:=H1;clear H1;have H':=am H;clear H
    go_wp2_with (first|(go_at_call 12;(with_reducible refine (gangsawref31_Small.calls k _ _ l0 20 false _ ?side1 ?side2 A10.out).mono ?_);(case side1=>exact cq HR0.out HB.out);(case side2=>exact HC0.out);rintro e w' ⟨rfl,⟨nd,rfl⟩⟩;(try first|exact ⟨rfl,_,World.drewN_drewN _ _ _⟩|exact ⟨rfl,_,Eq.trans (World.drewN_drewN _ _ _) (congrArg (World.drewN _) (Nat.add_assoc _ _ _))⟩)))
    repeat (go_quiet (first|(go_at_call 12;(with_reducible refine (gangsawref31_Small.calls k _ _ l0 20 false _ ?side1 ?side2 A10.out).mono ?_);(case side1=>exact cq HR0.out HB.out);(case side2=>exact HC0.out);rintro e w' ⟨rfl,⟨nd,rfl⟩⟩;(try first|exact ⟨rfl,_,World.drewN_drewN _ _ _⟩|exact ⟨rfl,_,Eq.trans (World.drewN_drewN _ _ _) (congrArg (World.drewN _) (Nat.add_assoc _ _ _))⟩)));try go_wp2_with (first|(go_at_call 12;(with_reducible refine (gangsawref31_Small.calls k _ _ l0 20 false _ ?side1 ?side2 A10.out).mono ?_);(case side1=>exact cq HR0.out HB.out);(case side2=>exact HC0.out);rintro e w' ⟨rfl,⟨nd,rfl⟩⟩;(try first|exact ⟨rfl,_,World.drewN_drewN _ _ _⟩|exact ⟨rfl,_,Eq.trans (World.drewN_drewN _ _ _) (congrArg (World.drewN _) (Nat.add_assoc _ _ _))⟩))))
    go_meet
    case rel=>exact ⟨_,(true),(by first|rfl|(simp;done)|(simp [*];done)),H',⟨by first|omega|exact Nat.le_refl _⟩,⟨bq BK275.out⟩,⟨by repeat (first|(with_reducible first|exact HB.out|apply lA|apply lN|apply lD|refine lS ?_ GE275.out)|exact HB.out)⟩⟩
  case rest =>
   clear HC7
   try clear c1
   try clear p2
   try clear c3
   try clear c6
   try clear c7
   try clear c11
   try clear hcz13_0
   try clear hcz13_1
   try clear hcz13_2
   try clear hcz13_3
   try clear hcz13_4
   try clear hcz13_5
   try clear hcz13_6
   try clear hfz13_0
   try clear hfz13_1
   try clear hfz13_2
   try clear hfz13_3
   try clear hfz13_4
   try clear hfz13_5
   try clear hfz13_6
   obtain ⟨kq,x29_6,rfl,HA,HJ6,BK275,HB⟩ := hcut
   cases kq with
   | zero=>exact absurd HA.out (by simp [gangsawlaw31_OffcutLess.j0])
   | succ kj6 =>
    have H:=HA.out;clear HA;simp only [gangsawlaw31_OffcutLess.j0] at H;by_cases c17 : x29_6 = true
    ·subst c17
     have H1 : (some true) = some r:=by rw [if_pos rfl] at H;exact H
     clear H;have H:=H1;clear H1;obtain rfl:=Option.some.inj H
     go_wp2
     repeat (go_quiet (fail);try go_wp2)
     go_ret
     exact ⟨by first|rfl|(simp [errW_none,errW_some] <;> rfl)|(simp [*,errW_none,errW_some] <;> rfl),by repeat (first|(with_reducible first|exact HB.out|apply lA|apply lN|apply lD|refine lS ?_ GE275.out)|exact HB.out)⟩
    ·replace c17:=Bool.eq_false_iff.mpr c17;subst c17
     have H1 : ((gangsawlaw31_ours.f a1_0 a1_1 a1_2 a1_3 a1_4 a1_5 a1_6).bind fun bt282=>((offcut_Take.f kj6 l0 bt282.1 bt282.2.1 bt282.2.2.1 bt282.2.2.2.1 bt282.2.2.2.2.1 bt282.2.2.2.2.2.1 bt282.2.2.2.2.2.2 a2 a3).bind fun bt289=>(if bt289.2.2.2.2 = 0 then (gangsawlaw31_OffcutLess.l0 kj6 l0 bt289.1 false 0 a1_0 a1_1 a1_2 a1_3 a1_4 a1_5 a1_6 bt289.2.1 bt289.2.2.1 bt289.2.2.2.1) else (if (bt289.1.length : Int) = 0 then (some (bt289.2.1.toList == ([] : List UInt8) && (bt289.2.2.1.toList == ([] : List UInt8) && (!bt289.2.2.2.1)))) else (none))))) = some r:=by rw [if_neg (show ¬ (false = true) by decide)] at H;exact H
     clear H;have H:=H1;clear H1;replace H:=Option.bind_eq_some_iff.mp H;obtain ⟨⟨t282,t283,t284,t285,t286,t287,t288⟩,A180,H⟩ := H;replace H : ((offcut_Take.f kj6 l0 t282 t283 t284 t285 t286 t287 t288 a2 a3).bind fun bt289=>(if bt289.2.2.2.2 = 0 then (gangsawlaw31_OffcutLess.l0 kj6 l0 bt289.1 false 0 a1_0 a1_1 a1_2 a1_3 a1_4 a1_5 a1_6 bt289.2.1 bt289.2.2.1 bt289.2.2.2.1) else (if (bt289.1.length : Int) = 0 then (some (bt289.2.1.toList == ([] : List UInt8) && (bt289.2.2.1.toList == ([] : List UInt8) && (!bt289.2.2.2.1)))) else (none)))) = some r:=H;have A18:=am A180;clear A180;replace H:=Option.bind_eq_some_iff.mp H;obtain ⟨⟨t289,t292,t293,t294,t295⟩,A190,H⟩ := H;replace H : (if t295 = 0 then (gangsawlaw31_OffcutLess.l0 kj6 l0 t289 false 0 a1_0 a1_1 a1_2 a1_3 a1_4 a1_5 a1_6 t292 t293 t294) else (if (t289.length : Int) = 0 then (some (t292.toList == ([] : List UInt8) && (t293.toList == ([] : List UInt8) && (!t294)))) else (none))) = some r:=H;have A19:=am A190;clear A190;by_cases c20 : t295 = 0
     ·rw [if_pos c20] at H;have c20b0 : (t295 == 0) = true:=beq_iff_eq.mpr c20;have c20b1 : (t295 != 0) = false:=bne_eq_false_iff_eq.mpr c20;clear c20;have H':=am H;clear H;obtain ⟨hcz21_0,hcz21_1,hcz21_2,hcz21_3,hcz21_4,hcz21_5,hcz21_6,hfz21_0,hfz21_1,hfz21_2,hfz21_3,hfz21_4,hfz21_5,hfz21_6⟩ := c7_ BK275.out
      go_wp2_with (first|(go_at_call 15;(with_reducible refine (gangsawlaw31_ours.calls a1_0 a1_1 a1_2 a1_3 a1_4 a1_5 a1_6 t282 t283 t284 t285 t286 t287 t288 _ A18.out).mono ?_);rintro e w22 ⟨rfl,hb⟩;replace BK275:=bba BK275 hb;replace HB:=bsa HB hb;(try clear hb))|(go_at_call 14;(with_reducible refine (offcut_Take.calls kj6 _ _ l0 t282 t283 t284 t285 t286 t287 t288 a2 a3 t289 t292 t293 t294 t295 _ ?side1 ?side2 A19.out).mono ?_);(case side1=>exact cq HR0.out HB.out);(case side2=>exact HC0.out);rintro e w23 ⟨v290,rfl,ho0,hb⟩;have HO291:=am (Kd.R_lower ho0 (below_size (by repeat (first|(with_reducible first|exact HB.out|apply lA|apply lN|apply lD|refine lS ?_ GE275.out)|exact HB.out))));replace BK275:=bba BK275 hb;replace HB:=bsa HB hb;(try clear hb);(try clear ho0))|((with_reducible refine gate_dst (N:=10) rfl ?_);(try (refine gate_guard (by rfl) ?_;dsimp only));refine be 10 32 (cs:=#[.string (⟨#[]⟩ : ByteArray),.string (⟨#[]⟩ : ByteArray),.bool false]) ?_;intro gb296 hg w24 hbox hb;have BK296:=am hbox;have GW296:=bza HB hg;have GE296:=bza HB hg;have NB275_296:=bla BK275 hg;have NB296_275:=bga BK275 hg;replace HO291:=rba HO291 hb;replace BK275:=bba BK275 hb;replace HB:=bsa HB hb;clear hb hbox hg;have hnb25:=NB296_275.out;have hnc25:=NB275_296.out;obtain ⟨hcz26_0,hcz26_1,hcz26_2,hfz26_0,hfz26_1,hfz26_2⟩ := c3_ BK296.out))
      repeat (go_quiet (first|(go_at_call 15;(with_reducible refine (gangsawlaw31_ours.calls a1_0 a1_1 a1_2 a1_3 a1_4 a1_5 a1_6 t282 t283 t284 t285 t286 t287 t288 _ A18.out).mono ?_);rintro e w22 ⟨rfl,hb⟩;replace BK275:=bba BK275 hb;replace HB:=bsa HB hb;(try clear hb))|(go_at_call 14;(with_reducible refine (offcut_Take.calls kj6 _ _ l0 t282 t283 t284 t285 t286 t287 t288 a2 a3 t289 t292 t293 t294 t295 _ ?side1 ?side2 A19.out).mono ?_);(case side1=>exact cq HR0.out HB.out);(case side2=>exact HC0.out);rintro e w23 ⟨v290,rfl,ho0,hb⟩;have HO291:=am (Kd.R_lower ho0 (below_size (by repeat (first|(with_reducible first|exact HB.out|apply lA|apply lN|apply lD|refine lS ?_ GE275.out)|exact HB.out))));replace BK275:=bba BK275 hb;replace HB:=bsa HB hb;(try clear hb);(try clear ho0))|((with_reducible refine gate_dst (N:=10) rfl ?_);(try (refine gate_guard (by rfl) ?_;dsimp only));refine be 10 32 (cs:=#[.string (⟨#[]⟩ : ByteArray),.string (⟨#[]⟩ : ByteArray),.bool false]) ?_;intro gb296 hg w24 hbox hb;have BK296:=am hbox;have GW296:=bza HB hg;have GE296:=bza HB hg;have NB275_296:=bla BK275 hg;have NB296_275:=bga BK275 hg;replace HO291:=rba HO291 hb;replace BK275:=bba BK275 hb;replace HB:=bsa HB hb;clear hb hbox hg;have hnb25:=NB296_275.out;have hnc25:=NB275_296.out;obtain ⟨hcz26_0,hcz26_1,hcz26_2,hfz26_0,hfz26_1,hfz26_2⟩ := c3_ BK296.out));try go_wp2_with (first|(go_at_call 15;(with_reducible refine (gangsawlaw31_ours.calls a1_0 a1_1 a1_2 a1_3 a1_4 a1_5 a1_6 t282 t283 t284 t285 t286 t287 t288 _ A18.out).mono ?_);rintro e w22 ⟨rfl,hb⟩;replace BK275:=bba BK275 hb;replace HB:=bsa HB hb;(try clear hb))|(go_at_call 14;(with_reducible refine (offcut_Take.calls kj6 _ _ l0 t282 t283 t284 t285 t286 t287 t288 a2 a3 t289 t292 t293 t294 t295 _ ?side1 ?side2 A19.out).mono ?_);(case side1=>exact cq HR0.out HB.out);(case side2=>exact HC0.out);rintro e w23 ⟨v290,rfl,ho0,hb⟩;have HO291:=am (Kd.R_lower ho0 (below_size (by repeat (first|(with_reducible first|exact HB.out|apply lA|apply lN|apply lD|refine lS ?_ GE275.out)|exact HB.out))));replace BK275:=bba BK275 hb;replace HB:=bsa HB hb;(try clear hb);(try clear ho0))|((with_reducible refine gate_dst (N:=10) rfl ?_);(try (refine gate_guard (by rfl) ?_;dsimp only));refine be 10 32 (cs:=#[.string (⟨#[]⟩ : ByteArray),.string (⟨#[]⟩ : ByteArray),.bool false]) ?_;intro gb296 hg w24 hbox hb;have BK296:=am hbox;have GW296:=bza HB hg;have GE296:=bza HB hg;have NB275_296:=bla BK275 hg;have NB296_275:=bga BK275 hg;replace HO291:=rba HO291 hb;replace BK275:=bba BK275 hb;replace HB:=bsa HB hb;clear hb hbox hg;have hnb25:=NB296_275.out;have hnc25:=NB275_296.out;obtain ⟨hcz26_0,hcz26_1,hcz26_2,hfz26_0,hfz26_1,hfz26_2⟩ := c3_ BK296.out)))
      go_loopg [12,13] kj6 (fun kq v12 v13 w'=>∃ (x12_2 : Bool) (x13_2 : Int),v12 = .bool x12_2 ∧ v13 = .int .i64 x13_2 ∧ Aside0 (gangsawlaw31_OffcutLess.l0 kq l0 t289 x12_2 x13_2 a1_0 a1_1 a1_2 a1_3 a1_4 a1_5 a1_6 t292 t293 t294 = some r) ∧ Aside0 (kq ≤ kj6) ∧ Aside0 (Kd.R k39 39 w' w.heap.size (fun _=>True) v290 t289) ∧ Aside0 (w'.heap[gb275]? = some (.cells #[.string a1_0,.int .i64 a1_1,.int .i64 a1_2,.int .i64 a1_3,.int .i64 a1_4,.string a1_5,.bool a1_6] 26 (0,0))) ∧ Aside0 (w'.heap[gb296]? = some (.cells #[.string t292,.string t293,.bool t294] 32 (0,0))) ∧ Aside0 (Below w.heap.size w w'))
      case atStart=>exact ⟨(false),(0),(by first|rfl|(simp;done)|(simp [*];done)),(by first|rfl|(simp;done)|(simp [*];done)),H',⟨Nat.le_refl _⟩,⟨by (with_reducible repeat (first|apply rA|apply rN|apply rD));exact Kd.R_mono (Kd.R_far (p:=⟨gb296,2,none⟩) (Kd.R_far (p:=⟨gb296,1,none⟩) (Kd.R_far (p:=⟨gb296,0,none⟩) (Kd.R_types HO291.out BK296.out (by decide)) (fun _ hk=>hk.2) (.string t292)) (fun _ hk=>hk.2) (.string t293)) (fun _ hk=>hk.2) (.bool t294)) (fun _ hk=>trivial)⟩,⟨by refine bf ?_ NB275_296;refine bf ?_ NB275_296;refine bf ?_ NB275_296;exact bq BK275.out⟩,⟨by refine bp (cs:=#[.string t292,.string t293,.bool false]) ?_ 2;refine bp (cs:=#[.string t292,.string (⟨#[]⟩ : ByteArray),.bool false]) ?_ 1;refine bp (cs:=#[.string (⟨#[]⟩ : ByteArray),.string (⟨#[]⟩ : ByteArray),.bool false]) ?_ 0;exact bq BK296.out⟩,⟨by repeat (first|(with_reducible first|exact HB.out|apply lA|apply lN|apply lD|refine lS ?_ GE275.out|refine lS ?_ GE296.out)|exact HB.out)⟩⟩
      case round =>
       clear H'
       try clear c1
       try clear c2
       try clear p2
       try clear c3
       try clear c6
       try clear c7
       try clear c11
       try clear c17
       try clear c20
       try clear c20b0
       try clear c20b1
       try clear c25
       try clear hcz13_0
       try clear hcz13_1
       try clear hcz13_2
       try clear hcz13_3
       try clear hcz13_4
       try clear hcz13_5
       try clear hcz13_6
       try clear hcz21_0
       try clear hcz21_1
       try clear hcz21_2
       try clear hcz21_3
       try clear hcz21_4
       try clear hcz21_5
       try clear hcz21_6
       try clear hcz26_0
       try clear hcz26_1
       try clear hcz26_2
       try clear hfz13_0
       try clear hfz13_1
       try clear hfz13_2
       try clear hfz13_3
       try clear hfz13_4
       try clear hfz13_5
       try clear hfz13_6
       try clear hfz21_0
       try clear hfz21_1
       try clear hfz21_2
       try clear hfz21_3
       try clear hfz21_4
       try clear hfz21_5
       try clear hfz21_6
       try clear hfz26_0
       try clear hfz26_1
       try clear hfz26_2
       try clear p2
       obtain ⟨x12_2,x13_2,rfl,rfl,HA,HK2,HO_9,BK275,BK296,HB⟩ := hrel
       cases gk with
       | zero=>exact absurd HA.out (by simp [gangsawlaw31_OffcutLess.l0])
       | succ k2 =>
        have H:=HA.out;clear HA;simp only [gangsawlaw31_OffcutLess.l0] at H;by_cases c27 : x13_2 < (l0.length : Int)
        ·rw [if_pos c27] at H;have c27b0 : decide (x13_2 < (l0.length : Int)) = true:=decide_eq_true c27;clear c27;by_cases c28 : x12_2 = true
         ·subst c28
          have H1 : (gangsawlaw31_OffcutLess.l0 k2 l0 t289 true (wrap64 (x13_2 + 1)) a1_0 a1_1 a1_2 a1_3 a1_4 a1_5 a1_6 t292 t293 t294) = some r:=by rw [if_pos rfl] at H;exact H
          clear H;have H:=H1;clear H1;have H':=am H;clear H
          go_wp2
          repeat (go_quiet (fail);try go_wp2)
          go_roundg k2
          case measure=>have:=HJ6.out;have:=HK2.out;omega
          case rel=>exact ⟨(true),(wrap64 (x13_2 + 1)),(by first|rfl|(simp;done)|(simp [*];done)),(by first|rfl|(simp;done)|(simp [*];done)),H',⟨by have:=HJ6.out;have:=HK2.out;omega⟩,⟨rq HO_9.out⟩,⟨bq BK275.out⟩,⟨bq BK296.out⟩,⟨by repeat (first|(with_reducible first|exact HB.out|apply lA|apply lN|apply lD|refine lS ?_ GE275.out|refine lS ?_ GE296.out)|exact HB.out)⟩⟩
         ·replace c28:=Bool.eq_false_iff.mpr c28;subst c28
          have H1 : (if 0 ≤ x13_2 then (gangsawlaw31_OffcutLess.l0 k2 l0 t289 (((rd_T39 l0 x13_2).f0).toList == t293.toList) (wrap64 (x13_2 + 1)) a1_0 a1_1 a1_2 a1_3 a1_4 a1_5 a1_6 t292 t293 t294) else (none)) = some r:=by rw [if_neg (show ¬ (false = true) by decide)] at H;exact H
          clear H;have H:=H1;clear H1;by_cases c29 : 0 ≤ x13_2
          ·rw [if_pos c29] at H;have c29b0 : decide (0 ≤ x13_2) = true:=decide_eq_true c29;clear c29;have H':=am H;clear H;have p297 : 0 ≤ (x13_2 : Int):=dt;have q297 : x13_2 < (l0.length : Int):=dt;obtain ⟨ad297,e297,hx297_0,hx297_1,hx297_2,hx297_3,hx297_4,hx297_5,hx297_6⟩ := at_T39 HR0.out x13_2 p297 q297
           cases e297
           replace hx297_0:=hc HB hx297_0;replace hx297_1:=hc HB hx297_1;replace hx297_2:=hc HB hx297_2;replace hx297_3:=hc HB hx297_3;replace hx297_4:=hc HB hx297_4;replace hx297_5:=hc HB hx297_5;replace hx297_6:=hc HB hx297_6;replace p297:=eq_true p297;replace q297:=eq_true q297;have hnb30:=NB296_275.out;have hnc30:=NB275_296.out;obtain ⟨hcz31_0,hcz31_1,hcz31_2,hfz31_0,hfz31_1,hfz31_2⟩ := c3_ BK296.out
           go_wp2
           repeat (go_quiet (fail);try go_wp2)
           go_roundg k2
           case measure=>have:=HJ6.out;have:=HK2.out;omega
           case rel=>exact ⟨((((rd_T39 l0 x13_2).f0).toList == t293.toList)),(wrap64 (x13_2 + 1)),(by first|rfl|(simp;done)|(simp [*];done)),(by first|rfl|(simp;done)|(simp [*];done)),H',⟨by have:=HJ6.out;have:=HK2.out;omega⟩,⟨rq HO_9.out⟩,⟨bq BK275.out⟩,⟨bq BK296.out⟩,⟨by repeat (first|(with_reducible first|exact HB.out|apply lA|apply lN|apply lD|refine lS ?_ GE275.out|refine lS ?_ GE296.out)|exact HB.out)⟩⟩
          (rw [if_neg c29] at H;exact absurd H (by simp))
        ·rw [if_neg c27] at H;have c27b0 : decide (x13_2 < (l0.length : Int)) = false:=decide_eq_false c27;clear c27;have H':=am H;clear H
         go_wp2
         repeat (go_quiet (fail);try go_wp2)
         go_loopg [14] k2 (fun kq v14 w'=>∃ (x14_3 : Int),v14 = .int .i64 x14_3 ∧ Aside0 (gangsawlaw31_OffcutLess.l1 kq l0 t289 x12_2 x14_3 a1_0 a1_1 a1_2 a1_3 a1_4 a1_5 a1_6 t292 t293 t294 = some r) ∧ Aside0 (kq ≤ k2) ∧ Aside0 (Kd.R k39 39 w' w.heap.size (fun _=>True) v290 t289) ∧ Aside0 (w'.heap[gb275]? = some (.cells #[.string a1_0,.int .i64 a1_1,.int .i64 a1_2,.int .i64 a1_3,.int .i64 a1_4,.string a1_5,.bool a1_6] 26 (0,0))) ∧ Aside0 (w'.heap[gb296]? = some (.cells #[.string t292,.string t293,.bool t294] 32 (0,0))) ∧ Aside0 (Below w.heap.size w w'))
         case atStart=>exact ⟨(0),(by first|rfl|(simp;done)|(simp [*];done)),H',⟨Nat.le_refl _⟩,⟨rq HO_9.out⟩,⟨bq BK275.out⟩,⟨bq BK296.out⟩,⟨by repeat (first|(with_reducible first|exact HB.out|apply lA|apply lN|apply lD|refine lS ?_ GE275.out|refine lS ?_ GE296.out)|exact HB.out)⟩⟩
         case round =>
          clear H'
          try clear c1
          try clear c2
          try clear p2
          try clear q2
          try clear hx2
          try clear c3
          try clear c6
          try clear p6
          try clear c7
          try clear c11
          try clear c17
          try clear c20
          try clear c20b0
          try clear c20b1
          try clear c25
          try clear c27
          try clear c27b0
          try clear c28
          try clear c29
          try clear c29b0
          try clear p29
          try clear q29
          try clear hx29
          try clear c30
          try clear hcz13_0
          try clear hcz13_1
          try clear hcz13_2
          try clear hcz13_3
          try clear hcz13_4
          try clear hcz13_5
          try clear hcz13_6
          try clear hcz21_0
          try clear hcz21_1
          try clear hcz21_2
          try clear hcz21_3
          try clear hcz21_4
          try clear hcz21_5
          try clear hcz21_6
          try clear hcz26_0
          try clear hcz26_1
          try clear hcz26_2
          try clear hcz31_0
          try clear hcz31_1
          try clear hcz31_2
          try clear hfz13_0
          try clear hfz13_1
          try clear hfz13_2
          try clear hfz13_3
          try clear hfz13_4
          try clear hfz13_5
          try clear hfz13_6
          try clear hfz21_0
          try clear hfz21_1
          try clear hfz21_2
          try clear hfz21_3
          try clear hfz21_4
          try clear hfz21_5
          try clear hfz21_6
          try clear hfz26_0
          try clear hfz26_1
          try clear hfz26_2
          try clear hfz31_0
          try clear hfz31_1
          try clear hfz31_2
          try clear hx297_0
          try clear hx297_1
          try clear hx297_2
          try clear hx297_3
          try clear hx297_4
          try clear hx297_5
          try clear hx297_6
          try clear p2
          try clear p297
          try clear q297
          obtain ⟨x14_3,rfl,HA,HK3,HO_9,BK275,BK296,HB⟩ := hrel
          cases gk with
          | zero=>exact absurd HA.out (by simp [gangsawlaw31_OffcutLess.l1])
          | succ k3 =>
           have H:=HA.out;clear HA;simp only [gangsawlaw31_OffcutLess.l1] at H;by_cases c32 : x14_3 < (t289.length : Int)
           ·rw [if_pos c32] at H;have c32b0 : decide (x14_3 < (t289.length : Int)) = true:=decide_eq_true c32;clear c32;by_cases c33 : 0 ≤ x14_3
            ·rw [if_pos c33] at H;have c33b0 : decide (0 ≤ x14_3) = true:=decide_eq_true c33;clear c33;by_cases c34 : ((rd_T39 t289 x14_3).f0).toList = t293.toList
             (rw [if_pos c34] at H;exact absurd H (by simp))
             ·rw [if_neg c34] at H;have c34b0 : (((rd_T39 t289 x14_3).f0).toList == t293.toList) = false:=beq_eq_false_iff_ne.mpr c34;have c34b1 : (((rd_T39 t289 x14_3).f0).toList != t293.toList) = true:=bne_iff_ne.mpr c34;have H':=am H;clear H;obtain ⟨Ao35,co35,eo35⟩ := Kd.R_slice HO_9.out;subst eo35;have p298 : 0 ≤ (x14_3 : Int):=dt;have q298 : x14_3 < (t289.length : Int):=dt;obtain ⟨ad298,e298,hx298_0,hx298_1,hx298_2,hx298_3,hx298_4,hx298_5,hx298_6⟩ := at_T39 (Kd.R_reads' HO_9.out).2.2 x14_3 p298 q298
              cases e298
              replace p298:=eq_true p298;replace q298:=eq_true q298;have hnb36:=NB296_275.out;have hnc36:=NB275_296.out;obtain ⟨hcz37_0,hcz37_1,hcz37_2,hfz37_0,hfz37_1,hfz37_2⟩ := c3_ BK296.out
              go_wp2
              repeat (go_quiet (fail);try go_wp2)
              go_roundg k3
              case measure=>have:=HJ6.out;have:=HK2.out;have:=HK3.out;omega
              case rel=>exact ⟨(wrap64 (x14_3 + 1)),(by first|rfl|(simp;done)|(simp [*];done)),H',⟨by have:=HJ6.out;have:=HK2.out;have:=HK3.out;omega⟩,⟨rq HO_9.out⟩,⟨bq BK275.out⟩,⟨bq BK296.out⟩,⟨by repeat (first|(with_reducible first|exact HB.out|apply lA|apply lN|apply lD|refine lS ?_ GE275.out|refine lS ?_ GE296.out)|exact HB.out)⟩⟩
            (rw [if_neg c33] at H;exact absurd H (by simp))
           ·rw [if_neg c32] at H;have c32b0 : decide (x14_3 < (t289.length : Int)) = false:=decide_eq_false c32;clear c32;replace H:=Option.bind_eq_some_iff.mp H;obtain ⟨⟨t299,t300⟩,A380,H⟩ := H;replace H : ((offcut_Volume.f k3 t289).bind fun bt301=>(if t300 = 0 then (if x12_2 = true then (if bt301.2 = 0 then (if t292.toList = a1_0.toList then ((offcut_Check.f t289).bind fun t303=>(if t303 = 0 then (some (decide ((wrap64 (bt301.1 + (wrap64 ((wrap64 (a1_1 * a1_2)) * a1_3)))) ≤ t299))) else (none))) else (none)) else (none)) else (none)) else (if t300 = 6 then (some x12_2) else (none)))) = some r:=H;have A38:=am A380;clear A380;replace H:=Option.bind_eq_some_iff.mp H;obtain ⟨⟨t301,t302⟩,A390,H⟩ := H;replace H : (if t300 = 0 then (if x12_2 = true then (if t302 = 0 then (if t292.toList = a1_0.toList then ((offcut_Check.f t289).bind fun t303=>(if t303 = 0 then (some (decide ((wrap64 (t301 + (wrap64 ((wrap64 (a1_1 * a1_2)) * a1_3)))) ≤ t299))) else (none))) else (none)) else (none)) else (none)) else (if t300 = 6 then (some x12_2) else (none))) = some r:=H;have A39:=am A390;clear A390;by_cases c40 : t300 = 0
            ·rw [if_pos c40] at H;have c40b0 : (t300 == 0) = true:=beq_iff_eq.mpr c40;have c40b1 : (t300 != 0) = false:=bne_eq_false_iff_eq.mpr c40;clear c40;by_cases c41 : x12_2 = true
             ·subst c41
              have H1 : (if t302 = 0 then (if t292.toList = a1_0.toList then ((offcut_Check.f t289).bind fun t303=>(if t303 = 0 then (some (decide ((wrap64 (t301 + (wrap64 ((wrap64 (a1_1 * a1_2)) * a1_3)))) ≤ t299))) else (none))) else (none)) else (none)) = some r:=by rw [if_pos rfl] at H;exact H
              clear H;have H:=H1;clear H1;by_cases c42 : t302 = 0
              ·rw [if_pos c42] at H;have c42b0 : (t302 == 0) = true:=beq_iff_eq.mpr c42;have c42b1 : (t302 != 0) = false:=bne_eq_false_iff_eq.mpr c42;clear c42;by_cases c43 : t292.toList = a1_0.toList
               ·rw [if_pos c43] at H;have c43b0 : (t292.toList == a1_0.toList) = true:=beq_iff_eq.mpr c43;have c43b1 : (t292.toList != a1_0.toList) = false:=bne_eq_false_iff_eq.mpr c43;clear c43;replace H:=Option.bind_eq_some_iff.mp H;obtain ⟨t303,A440,H⟩ := H;replace H : (if t303 = 0 then (some (decide ((wrap64 (t301 + (wrap64 ((wrap64 (a1_1 * a1_2)) * a1_3)))) ≤ t299))) else (none)) = some r:=H;have A44:=am A440;clear A440;by_cases c45 : t303 = 0
                ·rw [if_pos c45] at H;have c45b0 : (t303 == 0) = true:=beq_iff_eq.mpr c45;have c45b1 : (t303 != 0) = false:=bne_eq_false_iff_eq.mpr c45;clear c45;obtain rfl:=Option.some.inj H;obtain ⟨Ao46,co46,eo46⟩ := Kd.R_slice HO_9.out;subst eo46
                 go_wp2_with (first|(go_at_call 16;(with_reducible refine (offcut_Volume.calls k3 _ _ l0 t299 t300 _ ?side1 ?side2 A38.out).mono ?_);(case side1=>exact cq HR0.out HB.out);(case side2=>exact HC0.out);rintro e w47 ⟨rfl,hb⟩;replace HO_9:=rba HO_9 hb;replace BK275:=bba BK275 hb;replace BK296:=bba BK296 hb;replace HB:=bsa HB hb;(try clear hb))|(go_at_call 16;(with_reducible refine (offcut_Volume.calls k3 _ _ t289 t301 t302 _ ?side1 ?side2 A39.out).mono ?_);(case side1=>exact cr (Kd.R_reads' HO_9.out).2.2);(case side2=>exact (Kd.R_reads' HO_9.out).2.1);rintro e w48 ⟨rfl,hb⟩;replace HO_9:=rba HO_9 hb;replace BK275:=bba BK275 hb;replace BK296:=bba BK296 hb;replace HB:=bsa HB hb;(try clear hb);have hnb49:=NB296_275.out;have hnc49:=NB275_296.out;obtain ⟨hcz50_0,hcz50_1,hcz50_2,hfz50_0,hfz50_1,hfz50_2⟩ := c3_ BK296.out;obtain ⟨hcz51_0,hcz51_1,hcz51_2,hcz51_3,hcz51_4,hcz51_5,hcz51_6,hfz51_0,hfz51_1,hfz51_2,hfz51_3,hfz51_4,hfz51_5,hfz51_6⟩ := c7_ BK275.out)|(go_at_call 17;(with_reducible refine (offcut_Check.calls _ _ t289 t303 _ ?side1 ?side2 A44.out).mono ?_);(case side1=>exact cr (Kd.R_reads' HO_9.out).2.2);(case side2=>exact (Kd.R_reads' HO_9.out).2.1);rintro e w52 ⟨rfl,hb⟩;replace HO_9:=rba HO_9 hb;replace BK275:=bba BK275 hb;replace BK296:=bba BK296 hb;replace HB:=bsa HB hb;(try clear hb);obtain ⟨hcz53_0,hcz53_1,hcz53_2,hcz53_3,hcz53_4,hcz53_5,hcz53_6,hfz53_0,hfz53_1,hfz53_2,hfz53_3,hfz53_4,hfz53_5,hfz53_6⟩ := c7_ BK275.out))
                 repeat (go_quiet (first|(go_at_call 16;(with_reducible refine (offcut_Volume.calls k3 _ _ l0 t299 t300 _ ?side1 ?side2 A38.out).mono ?_);(case side1=>exact cq HR0.out HB.out);(case side2=>exact HC0.out);rintro e w47 ⟨rfl,hb⟩;replace HO_9:=rba HO_9 hb;replace BK275:=bba BK275 hb;replace BK296:=bba BK296 hb;replace HB:=bsa HB hb;(try clear hb))|(go_at_call 16;(with_reducible refine (offcut_Volume.calls k3 _ _ t289 t301 t302 _ ?side1 ?side2 A39.out).mono ?_);(case side1=>exact cr (Kd.R_reads' HO_9.out).2.2);(case side2=>exact (Kd.R_reads' HO_9.out).2.1);rintro e w48 ⟨rfl,hb⟩;replace HO_9:=rba HO_9 hb;replace BK275:=bba BK275 hb;replace BK296:=bba BK296 hb;replace HB:=bsa HB hb;(try clear hb);have hnb49:=NB296_275.out;have hnc49:=NB275_296.out;obtain ⟨hcz50_0,hcz50_1,hcz50_2,hfz50_0,hfz50_1,hfz50_2⟩ := c3_ BK296.out;obtain ⟨hcz51_0,hcz51_1,hcz51_2,hcz51_3,hcz51_4,hcz51_5,hcz51_6,hfz51_0,hfz51_1,hfz51_2,hfz51_3,hfz51_4,hfz51_5,hfz51_6⟩ := c7_ BK275.out)|(go_at_call 17;(with_reducible refine (offcut_Check.calls _ _ t289 t303 _ ?side1 ?side2 A44.out).mono ?_);(case side1=>exact cr (Kd.R_reads' HO_9.out).2.2);(case side2=>exact (Kd.R_reads' HO_9.out).2.1);rintro e w52 ⟨rfl,hb⟩;replace HO_9:=rba HO_9 hb;replace BK275:=bba BK275 hb;replace BK296:=bba BK296 hb;replace HB:=bsa HB hb;(try clear hb);obtain ⟨hcz53_0,hcz53_1,hcz53_2,hcz53_3,hcz53_4,hcz53_5,hcz53_6,hfz53_0,hfz53_1,hfz53_2,hfz53_3,hfz53_4,hfz53_5,hfz53_6⟩ := c7_ BK275.out));try go_wp2_with (first|(go_at_call 16;(with_reducible refine (offcut_Volume.calls k3 _ _ l0 t299 t300 _ ?side1 ?side2 A38.out).mono ?_);(case side1=>exact cq HR0.out HB.out);(case side2=>exact HC0.out);rintro e w47 ⟨rfl,hb⟩;replace HO_9:=rba HO_9 hb;replace BK275:=bba BK275 hb;replace BK296:=bba BK296 hb;replace HB:=bsa HB hb;(try clear hb))|(go_at_call 16;(with_reducible refine (offcut_Volume.calls k3 _ _ t289 t301 t302 _ ?side1 ?side2 A39.out).mono ?_);(case side1=>exact cr (Kd.R_reads' HO_9.out).2.2);(case side2=>exact (Kd.R_reads' HO_9.out).2.1);rintro e w48 ⟨rfl,hb⟩;replace HO_9:=rba HO_9 hb;replace BK275:=bba BK275 hb;replace BK296:=bba BK296 hb;replace HB:=bsa HB hb;(try clear hb);have hnb49:=NB296_275.out;have hnc49:=NB275_296.out;obtain ⟨hcz50_0,hcz50_1,hcz50_2,hfz50_0,hfz50_1,hfz50_2⟩ := c3_ BK296.out;obtain ⟨hcz51_0,hcz51_1,hcz51_2,hcz51_3,hcz51_4,hcz51_5,hcz51_6,hfz51_0,hfz51_1,hfz51_2,hfz51_3,hfz51_4,hfz51_5,hfz51_6⟩ := c7_ BK275.out)|(go_at_call 17;(with_reducible refine (offcut_Check.calls _ _ t289 t303 _ ?side1 ?side2 A44.out).mono ?_);(case side1=>exact cr (Kd.R_reads' HO_9.out).2.2);(case side2=>exact (Kd.R_reads' HO_9.out).2.1);rintro e w52 ⟨rfl,hb⟩;replace HO_9:=rba HO_9 hb;replace BK275:=bba BK275 hb;replace BK296:=bba BK296 hb;replace HB:=bsa HB hb;(try clear hb);obtain ⟨hcz53_0,hcz53_1,hcz53_2,hcz53_3,hcz53_4,hcz53_5,hcz53_6,hfz53_0,hfz53_1,hfz53_2,hfz53_3,hfz53_4,hfz53_5,hfz53_6⟩ := c7_ BK275.out)))
                 go_ret
                 exact ⟨by first|rfl|(simp [errW_none,errW_some] <;> rfl)|(simp [*,errW_none,errW_some] <;> rfl),by repeat (first|(with_reducible first|exact HB.out|apply lA|apply lN|apply lD|refine lS ?_ GE275.out|refine lS ?_ GE296.out)|exact HB.out)⟩
                (rw [if_neg c45] at H;exact absurd H (by simp))
               (rw [if_neg c43] at H;exact absurd H (by simp))
              (rw [if_neg c42] at H;exact absurd H (by simp))
             ·replace c41:=Bool.eq_false_iff.mpr c41;subst c41
              have H1 : (none) = some r:=by rw [if_neg (show ¬ (false = true) by decide)] at H;exact H
              clear H;have H:=H1;clear H1;exact absurd H (by simp)
            ·rw [if_neg c40] at H;have c40b0 : (t300 == 0) = false:=beq_eq_false_iff_ne.mpr c40;have c40b1 : (t300 != 0) = true:=bne_iff_ne.mpr c40;by_cases c54 : t300 = 6
             ·rw [if_pos c54] at H;have c54b0 : (t300 == 6) = true:=beq_iff_eq.mpr c54;have c54b1 : (t300 != 6) = false:=bne_eq_false_iff_eq.mpr c54;clear c54;obtain rfl:=Option.some.inj H;obtain ⟨Ao55,co55,eo55⟩ := Kd.R_slice HO_9.out;subst eo55
              go_wp2_with (first|(go_at_call 16;(with_reducible refine (offcut_Volume.calls k3 _ _ l0 t299 t300 _ ?side1 ?side2 A38.out).mono ?_);(case side1=>exact cq HR0.out HB.out);(case side2=>exact HC0.out);rintro e w56 ⟨rfl,hb⟩;replace HO_9:=rba HO_9 hb;replace BK275:=bba BK275 hb;replace BK296:=bba BK296 hb;replace HB:=bsa HB hb;(try clear hb))|(go_at_call 16;(with_reducible refine (offcut_Volume.calls k3 _ _ t289 t301 t302 _ ?side1 ?side2 A39.out).mono ?_);(case side1=>exact cr (Kd.R_reads' HO_9.out).2.2);(case side2=>exact (Kd.R_reads' HO_9.out).2.1);rintro e w57 ⟨rfl,hb⟩;replace HO_9:=rba HO_9 hb;replace BK275:=bba BK275 hb;replace BK296:=bba BK296 hb;replace HB:=bsa HB hb;(try clear hb)))
              repeat (go_quiet (first|(go_at_call 16;(with_reducible refine (offcut_Volume.calls k3 _ _ l0 t299 t300 _ ?side1 ?side2 A38.out).mono ?_);(case side1=>exact cq HR0.out HB.out);(case side2=>exact HC0.out);rintro e w56 ⟨rfl,hb⟩;replace HO_9:=rba HO_9 hb;replace BK275:=bba BK275 hb;replace BK296:=bba BK296 hb;replace HB:=bsa HB hb;(try clear hb))|(go_at_call 16;(with_reducible refine (offcut_Volume.calls k3 _ _ t289 t301 t302 _ ?side1 ?side2 A39.out).mono ?_);(case side1=>exact cr (Kd.R_reads' HO_9.out).2.2);(case side2=>exact (Kd.R_reads' HO_9.out).2.1);rintro e w57 ⟨rfl,hb⟩;replace HO_9:=rba HO_9 hb;replace BK275:=bba BK275 hb;replace BK296:=bba BK296 hb;replace HB:=bsa HB hb;(try clear hb)));try go_wp2_with (first|(go_at_call 16;(with_reducible refine (offcut_Volume.calls k3 _ _ l0 t299 t300 _ ?side1 ?side2 A38.out).mono ?_);(case side1=>exact cq HR0.out HB.out);(case side2=>exact HC0.out);rintro e w56 ⟨rfl,hb⟩;replace HO_9:=rba HO_9 hb;replace BK275:=bba BK275 hb;replace BK296:=bba BK296 hb;replace HB:=bsa HB hb;(try clear hb))|(go_at_call 16;(with_reducible refine (offcut_Volume.calls k3 _ _ t289 t301 t302 _ ?side1 ?side2 A39.out).mono ?_);(case side1=>exact cr (Kd.R_reads' HO_9.out).2.2);(case side2=>exact (Kd.R_reads' HO_9.out).2.1);rintro e w57 ⟨rfl,hb⟩;replace HO_9:=rba HO_9 hb;replace BK275:=bba BK275 hb;replace BK296:=bba BK296 hb;replace HB:=bsa HB hb;(try clear hb))))
              go_ret
              exact ⟨by first|rfl|(simp [errW_none,errW_some] <;> rfl)|(simp [*,errW_none,errW_some] <;> rfl),by repeat (first|(with_reducible first|exact HB.out|apply lA|apply lN|apply lD|refine lS ?_ GE275.out|refine lS ?_ GE296.out)|exact HB.out)⟩
             (rw [if_neg c54] at H;exact absurd H (by simp))
     ·rw [if_neg c20] at H;have c20b0 : (t295 == 0) = false:=beq_eq_false_iff_ne.mpr c20;have c20b1 : (t295 != 0) = true:=bne_iff_ne.mpr c20;by_cases c58 : (t289.length : Int) = 0
      ·rw [if_pos c58] at H;have c58b0 : ((t289.length : Int) == 0) = true:=beq_iff_eq.mpr c58;have c58b1 : ((t289.length : Int) != 0) = false:=bne_eq_false_iff_eq.mpr c58;clear c58;obtain rfl:=Option.some.inj H;obtain ⟨hcz59_0,hcz59_1,hcz59_2,hcz59_3,hcz59_4,hcz59_5,hcz59_6,hfz59_0,hfz59_1,hfz59_2,hfz59_3,hfz59_4,hfz59_5,hfz59_6⟩ := c7_ BK275.out
       go_wp2_with (first|(go_at_call 15;(with_reducible refine (gangsawlaw31_ours.calls a1_0 a1_1 a1_2 a1_3 a1_4 a1_5 a1_6 t282 t283 t284 t285 t286 t287 t288 _ A18.out).mono ?_);rintro e w60 ⟨rfl,hb⟩;replace BK275:=bba BK275 hb;replace HB:=bsa HB hb;(try clear hb))|(go_at_call 14;(with_reducible refine (offcut_Take.calls kj6 _ _ l0 t282 t283 t284 t285 t286 t287 t288 a2 a3 t289 t292 t293 t294 t295 _ ?side1 ?side2 A19.out).mono ?_);(case side1=>exact cq HR0.out HB.out);(case side2=>exact HC0.out);rintro e w61 ⟨v290,rfl,ho0,hb⟩;have HO291:=am (Kd.R_lower ho0 (below_size (by repeat (first|(with_reducible first|exact HB.out|apply lA|apply lN|apply lD|refine lS ?_ GE275.out)|exact HB.out))));replace BK275:=bba BK275 hb;replace HB:=bsa HB hb;(try clear hb);(try clear ho0))|((with_reducible refine gate_dst (N:=10) rfl ?_);(try (refine gate_guard (by rfl) ?_;dsimp only));refine be 10 32 (cs:=#[.string (⟨#[]⟩ : ByteArray),.string (⟨#[]⟩ : ByteArray),.bool false]) ?_;intro gb296 hg w62 hbox hb;have BK296:=am hbox;have GW296:=bza HB hg;have GE296:=bza HB hg;have NB275_296:=bla BK275 hg;have NB296_275:=bga BK275 hg;replace HO291:=rba HO291 hb;replace BK275:=bba BK275 hb;replace HB:=bsa HB hb;clear hb hbox hg;have hnb63:=NB296_275.out;have hnc63:=NB275_296.out;obtain ⟨hcz64_0,hcz64_1,hcz64_2,hfz64_0,hfz64_1,hfz64_2⟩ := c3_ BK296.out;obtain ⟨Ao65,co65,eo65⟩ := Kd.R_slice HO291.out;subst eo65))
       repeat (go_quiet (first|(go_at_call 15;(with_reducible refine (gangsawlaw31_ours.calls a1_0 a1_1 a1_2 a1_3 a1_4 a1_5 a1_6 t282 t283 t284 t285 t286 t287 t288 _ A18.out).mono ?_);rintro e w60 ⟨rfl,hb⟩;replace BK275:=bba BK275 hb;replace HB:=bsa HB hb;(try clear hb))|(go_at_call 14;(with_reducible refine (offcut_Take.calls kj6 _ _ l0 t282 t283 t284 t285 t286 t287 t288 a2 a3 t289 t292 t293 t294 t295 _ ?side1 ?side2 A19.out).mono ?_);(case side1=>exact cq HR0.out HB.out);(case side2=>exact HC0.out);rintro e w61 ⟨v290,rfl,ho0,hb⟩;have HO291:=am (Kd.R_lower ho0 (below_size (by repeat (first|(with_reducible first|exact HB.out|apply lA|apply lN|apply lD|refine lS ?_ GE275.out)|exact HB.out))));replace BK275:=bba BK275 hb;replace HB:=bsa HB hb;(try clear hb);(try clear ho0))|((with_reducible refine gate_dst (N:=10) rfl ?_);(try (refine gate_guard (by rfl) ?_;dsimp only));refine be 10 32 (cs:=#[.string (⟨#[]⟩ : ByteArray),.string (⟨#[]⟩ : ByteArray),.bool false]) ?_;intro gb296 hg w62 hbox hb;have BK296:=am hbox;have GW296:=bza HB hg;have GE296:=bza HB hg;have NB275_296:=bla BK275 hg;have NB296_275:=bga BK275 hg;replace HO291:=rba HO291 hb;replace BK275:=bba BK275 hb;replace HB:=bsa HB hb;clear hb hbox hg;have hnb63:=NB296_275.out;have hnc63:=NB275_296.out;obtain ⟨hcz64_0,hcz64_1,hcz64_2,hfz64_0,hfz64_1,hfz64_2⟩ := c3_ BK296.out;obtain ⟨Ao65,co65,eo65⟩ := Kd.R_slice HO291.out;subst eo65));try go_wp2_with (first|(go_at_call 15;(with_reducible refine (gangsawlaw31_ours.calls a1_0 a1_1 a1_2 a1_3 a1_4 a1_5 a1_6 t282 t283 t284 t285 t286 t287 t288 _ A18.out).mono ?_);rintro e w60 ⟨rfl,hb⟩;replace BK275:=bba BK275 hb;replace HB:=bsa HB hb;(try clear hb))|(go_at_call 14;(with_reducible refine (offcut_Take.calls kj6 _ _ l0 t282 t283 t284 t285 t286 t287 t288 a2 a3 t289 t292 t293 t294 t295 _ ?side1 ?side2 A19.out).mono ?_);(case side1=>exact cq HR0.out HB.out);(case side2=>exact HC0.out);rintro e w61 ⟨v290,rfl,ho0,hb⟩;have HO291:=am (Kd.R_lower ho0 (below_size (by repeat (first|(with_reducible first|exact HB.out|apply lA|apply lN|apply lD|refine lS ?_ GE275.out)|exact HB.out))));replace BK275:=bba BK275 hb;replace HB:=bsa HB hb;(try clear hb);(try clear ho0))|((with_reducible refine gate_dst (N:=10) rfl ?_);(try (refine gate_guard (by rfl) ?_;dsimp only));refine be 10 32 (cs:=#[.string (⟨#[]⟩ : ByteArray),.string (⟨#[]⟩ : ByteArray),.bool false]) ?_;intro gb296 hg w62 hbox hb;have BK296:=am hbox;have GW296:=bza HB hg;have GE296:=bza HB hg;have NB275_296:=bla BK275 hg;have NB296_275:=bga BK275 hg;replace HO291:=rba HO291 hb;replace BK275:=bba BK275 hb;replace HB:=bsa HB hb;clear hb hbox hg;have hnb63:=NB296_275.out;have hnc63:=NB275_296.out;obtain ⟨hcz64_0,hcz64_1,hcz64_2,hfz64_0,hfz64_1,hfz64_2⟩ := c3_ BK296.out;obtain ⟨Ao65,co65,eo65⟩ := Kd.R_slice HO291.out;subst eo65)))
       go_ret
       exact ⟨by first|rfl|(simp [errW_none,errW_some] <;> rfl)|(simp [*,errW_none,errW_some] <;> rfl),by repeat (first|(with_reducible first|exact HB.out|apply lA|apply lN|apply lD|refine lS ?_ GE275.out|refine lS ?_ GE296.out)|exact HB.out)⟩
      (rw [if_neg c58] at H;exact absurd H (by simp))
 ·replace c6:=Bool.eq_false_iff.mpr c6;subst c6
  have H1 : (none) = some r:=by rw [if_neg (show ¬ (false = true) by decide)] at H;exact H
  clear H;have H:=H1;clear H1;exact absurd H (by simp)
end Go.Proofs.Ytbggjmdelnmilaa.PA
