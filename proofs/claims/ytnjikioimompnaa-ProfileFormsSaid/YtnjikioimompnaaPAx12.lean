import Derived.Test.YtnjikioimompnaaPAx1
import Derived.Test.YtnjikioimompnaaPAx11
namespace Go.Proofs.Ytnjikioimompnaa.PA
open Go.RowKit Go.Proofs.YtnjikioimompnaaW.PrintWords Go.Proofs.YtnjikioimompnaaW.PrintLast Go.Proofs.YtnjikioimompnaaW.PrintMore
attribute [local go_sem] max2_int min2_int max_two min_two max_three min_three max_four min_four
set_option linter.unusedVariables false
set_option linter.unusedSimpArgs false
noncomputable section
attribute [local go_sem high] eqA31
mutual
def gangsawref03_Meet.j0 : Nat → Bool → Int → Int → Int → Int → Int → Int → Int → Int → Option (Int)
 | 0,_,_,_,_,_,_,_,_,_=>none
 | k + 1,x18,x334000,x334001,x335000,x335001,x336000,x336001,x337000,x337001=>if x18 = true then (if (x334000 == x335000 && (x334001 == x335001)) = true then ((gangsawref03_On.f x336000 x336001 x337000 x337001 x334000 x334001).bind fun t337=>(if t337 = true then (some 1) else (if (x336000 == x337000 && (x336001 == x337001)) = true then ((gangsawref03_On.f x334000 x334001 x335000 x335001 x336000 x336001).bind fun t338=>(if t338 = true then (some 1) else (some 0))) else (some 0)))) else (if (x336000 == x337000 && (x336001 == x337001)) = true then ((gangsawref03_On.f x334000 x334001 x335000 x335001 x336000 x336001).bind fun t339=>(if t339 = true then (some 1) else (some 0))) else (some 0))) else ((gangsawref03_Turn.f x334000 x334001 x335000 x335001 x336000 x336001).bind fun t340=>(if t340 = 0 then ((gangsawref03_Turn.f x334000 x334001 x335000 x335001 x337000 x337001).bind fun t341=>(gangsawref03_Meet.j1 k (t341 == 0) x334000 x334001 x335000 x335001 x336000 x336001 x337000 x337001)) else (gangsawref03_Meet.j1 k false x334000 x334001 x335000 x335001 x336000 x336001 x337000 x337001)))
def gangsawref03_Meet.j1 : Nat → Bool → Int → Int → Int → Int → Int → Int → Int → Int → Option (Int)
 | 0,_,_,_,_,_,_,_,_,_=>none
 | k + 1,x50,x334000,x334001,x335000,x335001,x336000,x336001,x337000,x337001=>if x50 = true then ((gangsawref03_sorted.f x334000 x334001 x335000 x335001).bind fun bt342=>((gangsawref03_sorted.f x336000 x336001 x337000 x337001).bind fun bt346=>((gangsawref03_before.f bt342.1 bt342.2.1 bt346.1 bt346.2.1).bind fun t352=>(if t352 = true then (gangsawref03_Meet.j2 k bt346.2.2.1 bt346.2.2.2 bt346.1 bt346.2.1 bt342.2.2.1 bt342.2.2.2) else (gangsawref03_Meet.j2 k bt346.2.2.1 bt346.2.2.2 bt342.1 bt342.2.1 bt342.2.2.1 bt342.2.2.2))))) else ((gangsawref03_Turn.f x334000 x334001 x335000 x335001 x336000 x336001).bind fun t355=>((gangsawref03_Turn.f x334000 x334001 x335000 x335001 x337000 x337001).bind fun t356=>(if (wrap64 (t355 * t356)) ≤ 0 then ((gangsawref03_Turn.f x336000 x336001 x337000 x337001 x334000 x334001).bind fun t357=>((gangsawref03_Turn.f x336000 x336001 x337000 x337001 x335000 x335001).bind fun t358=>(if (wrap64 (t357 * t358)) ≤ 0 then (some 1) else (some 0)))) else (some 0))))
def gangsawref03_Meet.j2 : Nat → Int → Int → Int → Int → Int → Int → Option (Int)
 | 0,_,_,_,_,_,_=>none
 | k + 1,x337000,x337001,x351000,x351001,x352000,x352001=>(gangsawref03_before.f x337000 x337001 x352000 x352001).bind fun t353=>(if t353 = true then (gangsawref03_Meet.j3 k x351000 x351001 x337000 x337001) else (gangsawref03_Meet.j3 k x351000 x351001 x352000 x352001))
def gangsawref03_Meet.j3 : Nat → Int → Int → Int → Int → Option (Int)
 | 0,_,_,_,_=>none
 | k + 1,x351000,x351001,x352000,x352001=>(gangsawref03_before.f x351000 x351001 x352000 x352001).bind fun t354=>(if t354 = true then (some 2) else (if (x351000 == x352000 && (x351001 == x352001)) = true then (some 1) else (some 0)))
end
def gangsawref03_Meet.f (k : Nat) (a0_0 : Int) (a0_1 : Int) (a1_0 : Int) (a1_1 : Int) (a2_0 : Int) (a2_1 : Int) (a3_0 : Int) (a3_1 : Int) : Option (Int):=if (a0_0 == a1_0 && (a0_1 == a1_1)) = true then (gangsawref03_Meet.j0 k true a0_0 a0_1 a1_0 a1_1 a2_0 a2_1 a3_0 a3_1) else (gangsawref03_Meet.j0 k (a2_0 == a3_0 && (a2_1 == a3_1)) a0_0 a0_1 a1_0 a1_1 a2_0 a2_1 a3_0 a3_1)
def gangsawref03_Meet.T18 : Bool × List (List Nat × List Nat):=(true,[([],[]),([],[]),([],[]),([0,1,2],[0,1,2]),([],[]),([],[]),([],[]),([4,5,6,3],[4,5,6]),([3,7],[3,7]),([8],[8]),([9,7],[9]),([10],[10]),([10],[10]),([10],[10]),([11,12,13,10,10],[10,11,12,13]),([10],[10]),([10],[10]),([10],[10]),([15,16,17,14,10],[10,15,16,17]),([14,18,10],[10,14,18]),([19,10],[10,19]),([10,20],[10,20])])
def gangsawref03_Meet.B18 : List Nat:=[0,0,0,7,0,0,0,127,255,511,1023,2047,2047,2047,16383,2047,2047,2047,262143,524287,1048575,2097151]
theorem gangsawref03_Meet.tab18 : rtab .any (opsOf Try.f52 18) = gangsawref03_Meet.T18:=by kernel_rfl
theorem gangsawref03_Meet.bits18 : waitsOk gangsawref03_Meet.T18.2 gangsawref03_Meet.B18 = true:=by kernel_rfl
set_option maxHeartbeats 8000000 in
set_option maxRecDepth 100000 in
theorem gangsawref03_Meet.calls (k : Nat) (a0_0 : Int) (a0_1 : Int) (a1_0 : Int) (a1_1 : Int) (a2_0 : Int) (a2_1 : Int) (a3_0 : Int) (a3_1 : Int) (r : Int) (w : World) (h : gangsawref03_Meet.f k a0_0 a0_1 a1_0 a1_1 a2_0 a2_1 a3_0 a3_1 = some r) :
  Calls Try.prog 52 #[.agg #[.int .i64 a0_0,.int .i64 a0_1],.agg #[.int .i64 a1_0,.int .i64 a1_1],.agg #[.int .i64 a2_0,.int .i64 a2_1],.agg #[.int .i64 a3_0,.int .i64 a3_1]] w fun e w'=>e = .returned (.int .i64 r) ∧ Below w.heap.size w w':=by
 have hu31:=Try.underlying31;have HB:=am (Below.refl w.heap.size w);have H : (if (a0_0 == a1_0 && (a0_1 == a1_1)) = true then (gangsawref03_Meet.j0 k true a0_0 a0_1 a1_0 a1_1 a2_0 a2_1 a3_0 a3_1) else (gangsawref03_Meet.j0 k (a2_0 == a3_0 && (a2_1 == a3_1)) a0_0 a0_1 a1_0 a1_1 a2_0 a2_1 a3_0 a3_1)) = some r:=h;clear h;have HC5:=am H;clear H
 go_enter Try.func52,Try.ntmps52
 go_upto_region 1 with (first|((with_reducible refine gate_dst (N:=4) rfl ?_);refine box_event ?hg (N:=4) ?hd (cs:=#[.int .i64 a0_0,.int .i64 a0_1]) (t:=31) ?hr ?_;(case hd=>rfl);(case hg=>rfl);(case hr=>first|(go_simp;done)|(go_simp;rfl));intro gb333 hg w6 hbox hb;have BK333:=am hbox;have GW333:=bza HB hg;have GE333:=bza HB hg;replace HB:=bsa HB hb;clear hb hbox hg)|((with_reducible refine gate_dst (N:=5) rfl ?_);refine box_event ?hg (N:=5) ?hd (cs:=#[.int .i64 a1_0,.int .i64 a1_1]) (t:=31) ?hr ?_;(case hd=>rfl);(case hg=>rfl);(case hr=>first|(go_simp;done)|(go_simp;rfl));intro gb334 hg w7 hbox hb;have BK334:=am hbox;have GW334:=bza HB hg;have GE334:=bza HB hg;have NB333_334:=bla BK333 hg;have NB334_333:=bga BK333 hg;replace BK333:=bba BK333 hb;replace HB:=bsa HB hb;clear hb hbox hg)|((with_reducible refine gate_dst (N:=6) rfl ?_);refine box_event ?hg (N:=6) ?hd (cs:=#[.int .i64 a2_0,.int .i64 a2_1]) (t:=31) ?hr ?_;(case hd=>rfl);(case hg=>rfl);(case hr=>first|(go_simp;done)|(go_simp;rfl));intro gb335 hg w8 hbox hb;have BK335:=am hbox;have GW335:=bza HB hg;have GE335:=bza HB hg;have NB333_335:=bla BK333 hg;have NB335_333:=bga BK333 hg;have NB334_335:=bla BK334 hg;have NB335_334:=bga BK334 hg;replace BK333:=bba BK333 hb;replace BK334:=bba BK334 hb;replace HB:=bsa HB hb;clear hb hbox hg)|((with_reducible refine gate_dst (N:=7) rfl ?_);refine box_event ?hg (N:=7) ?hd (cs:=#[.int .i64 a3_0,.int .i64 a3_1]) (t:=31) ?hr ?_;(case hd=>rfl);(case hg=>rfl);(case hr=>first|(go_simp;done)|(go_simp;rfl));intro gb336 hg w9 hbox hb;have BK336:=am hbox;have GW336:=bza HB hg;have GE336:=bza HB hg;have NB333_336:=bla BK333 hg;have NB336_333:=bga BK333 hg;have NB334_336:=bla BK334 hg;have NB336_334:=bga BK334 hg;have NB335_336:=bla BK335 hg;have NB336_335:=bga BK335 hg;replace BK333:=bba BK333 hb;replace BK334:=bba BK334 hb;replace BK335:=bba BK335 hb;replace HB:=bsa HB hb;clear hb hbox hg))
 (try simp only [Act.put,sA,s0,sS])
 go_cut [18] (fun v18 wc=>∃ (kq : Nat) (x18_4 : Bool),v18 = .bool x18_4 ∧ Aside0 (gangsawref03_Meet.j0 kq x18_4 a0_0 a0_1 a1_0 a1_1 a2_0 a2_1 a3_0 a3_1 = some r) ∧ Aside0 (kq ≤ k) ∧ Aside0 (wc.heap[gb333]? = some (.cells #[.int .i64 a0_0,.int .i64 a0_1] 31 (0,0))) ∧ Aside0 (wc.heap[gb334]? = some (.cells #[.int .i64 a1_0,.int .i64 a1_1] 31 (0,0))) ∧ Aside0 (wc.heap[gb335]? = some (.cells #[.int .i64 a2_0,.int .i64 a2_1] 31 (0,0))) ∧ Aside0 (wc.heap[gb336]? = some (.cells #[.int .i64 a3_0,.int .i64 a3_1] 31 (0,0))) ∧ Aside0 (Below w.heap.size w wc))
 case first =>
  have H:=HC5.out;clear HC5;by_cases c10 : (a0_0 == a1_0 && (a0_1 == a1_1)) = true
  ·rw [if_pos c10] at H;have c10b0 : (a0_0 == a1_0 && (a0_1 == a1_1)) = true:=c10;(try (have c10b1 : decide (a0_0 = a1_0 && (a0_1 == a1_1)) = true:=by simpa using c10));(try (have c10b2 : (a0_0 == a1_0 && (a0_1 == a1_1)) = true:=by simpa using c10));clear c10;(first|rw [c10b0]|(simp only [i64_w,i32_w];rw [c10b0])|skip);have H':=am H;clear H;have hnb11:=NB333_334.out;have hnc11:=NB334_333.out;have hnb12:=NB333_335.out;have hnc12:=NB335_333.out;have hnb13:=NB333_336.out;have hnc13:=NB336_333.out;obtain ⟨hcz14_0,hcz14_1,hfz14_0,hfz14_1⟩ := c2_ BK333.out;have hnb15:=NB334_335.out;have hnc15:=NB335_334.out;have hnb16:=NB334_336.out;have hnc16:=NB336_334.out;obtain ⟨hcz17_0,hcz17_1,hfz17_0,hfz17_1⟩ := c2_ BK334.out
   go_wp2
   go_meet
   case rel=>exact ⟨_,(true),(by first|rfl|(simp;done)|(simp [*];done)),H',⟨by first|omega|exact Nat.le_refl _⟩,⟨bq BK333.out⟩,⟨bq BK334.out⟩,⟨bq BK335.out⟩,⟨bq BK336.out⟩,⟨by repeat (first|(with_reducible first|exact HB.out|apply lA|apply lN|apply lD|refine lS ?_ GE333.out|refine lS ?_ GE334.out|refine lS ?_ GE335.out|refine lS ?_ GE336.out)|exact HB.out)⟩⟩
  ·rw [if_neg c10] at H
   have c10b0 : (a0_0 == a1_0 && (a0_1 == a1_1)) = false:=by simpa using c10
   (try (have c10b1 : decide (a0_0 = a1_0 && (a0_1 == a1_1)) = false:=by simpa using c10));(try (have c10b2 : (a0_0 == a1_0 && (a0_1 == a1_1)) = false:=by simpa using c10));(try (have c10b3 : ¬ (a0_0 = a1_0 && (a0_1 == a1_1)):=by simpa using c10));clear c10;(first|rw [c10b0]|(simp only [i64_w,i32_w];rw [c10b0])|skip);have H':=am H;clear H;have hnb18:=NB333_334.out;have hnc18:=NB334_333.out;have hnb19:=NB333_335.out;have hnc19:=NB335_333.out;have hnb20:=NB333_336.out;have hnc20:=NB336_333.out;obtain ⟨hcz21_0,hcz21_1,hfz21_0,hfz21_1⟩ := c2_ BK333.out;have hnb22:=NB334_335.out;have hnc22:=NB335_334.out;have hnb23:=NB334_336.out;have hnc23:=NB336_334.out;obtain ⟨hcz24_0,hcz24_1,hfz24_0,hfz24_1⟩ := c2_ BK334.out;have hnb25:=NB335_336.out;have hnc25:=NB336_335.out;obtain ⟨hcz26_0,hcz26_1,hfz26_0,hfz26_1⟩ := c2_ BK335.out;obtain ⟨hcz27_0,hcz27_1,hfz27_0,hfz27_1⟩ := c2_ BK336.out
   go_wp2
   go_meet
   case rel=>exact ⟨_,((a2_0 == a3_0 && (a2_1 == a3_1))),(by first|rfl|(simp;done)|(simp [*];done)),H',⟨by first|omega|exact Nat.le_refl _⟩,⟨bq BK333.out⟩,⟨bq BK334.out⟩,⟨bq BK335.out⟩,⟨bq BK336.out⟩,⟨by repeat (first|(with_reducible first|exact HB.out|apply lA|apply lN|apply lD|refine lS ?_ GE333.out|refine lS ?_ GE334.out|refine lS ?_ GE335.out|refine lS ?_ GE336.out)|exact HB.out)⟩⟩
 case rest =>
  clear HC5
  try clear c1
  try clear c2
  try clear p2
  try clear c5
  try clear c10
  try clear c10b0
  try clear c10b1
  try clear c10b2
  try clear c11
  try clear c12
  try clear c13
  try clear c15
  try clear c16
  try clear c18
  try clear c19
  try clear c20
  try clear c22
  try clear c23
  try clear c25
  try clear hcz14_0
  try clear hcz14_1
  try clear hcz17_0
  try clear hcz17_1
  try clear hcz21_0
  try clear hcz21_1
  try clear hcz24_0
  try clear hcz24_1
  try clear hcz26_0
  try clear hcz26_1
  try clear hcz27_0
  try clear hcz27_1
  try clear hfz14_0
  try clear hfz14_1
  try clear hfz17_0
  try clear hfz17_1
  try clear hfz21_0
  try clear hfz21_1
  try clear hfz24_0
  try clear hfz24_1
  try clear hfz26_0
  try clear hfz26_1
  try clear hfz27_0
  try clear hfz27_1
  obtain ⟨kq,x18_4,rfl,HA,HJ4,BK333,BK334,BK335,BK336,HB⟩ := hcut
  cases kq with
  | zero=>exact absurd HA.out (by simp [gangsawref03_Meet.j0])
  | succ kj4 =>
   have H:=HA.out;clear HA;simp only [gangsawref03_Meet.j0] at H;by_cases c28 : x18_4 = true
   ·subst c28
    have H1 : (if (a0_0 == a1_0 && (a0_1 == a1_1)) = true then ((gangsawref03_On.f a2_0 a2_1 a3_0 a3_1 a0_0 a0_1).bind fun t337=>(if t337 = true then (some 1) else (if (a2_0 == a3_0 && (a2_1 == a3_1)) = true then ((gangsawref03_On.f a0_0 a0_1 a1_0 a1_1 a2_0 a2_1).bind fun t338=>(if t338 = true then (some 1) else (some 0))) else (some 0)))) else (if (a2_0 == a3_0 && (a2_1 == a3_1)) = true then ((gangsawref03_On.f a0_0 a0_1 a1_0 a1_1 a2_0 a2_1).bind fun t339=>(if t339 = true then (some 1) else (some 0))) else (some 0))) = some r:=by rw [if_pos rfl] at H;exact H
    clear H;have H:=H1;clear H1;by_cases c29 : (a0_0 == a1_0 && (a0_1 == a1_1)) = true
    ·rw [if_pos c29] at H;have c29b0 : (a0_0 == a1_0 && (a0_1 == a1_1)) = true:=c29;(try (have c29b1 : decide (a0_0 = a1_0 && (a0_1 == a1_1)) = true:=by simpa using c29));(try (have c29b2 : (a0_0 == a1_0 && (a0_1 == a1_1)) = true:=by simpa using c29))
     clear c29;replace H:=Option.bind_eq_some_iff.mp H;obtain ⟨t337,A300,H⟩ := H;replace H : (if t337 = true then (some 1) else (if (a2_0 == a3_0 && (a2_1 == a3_1)) = true then ((gangsawref03_On.f a0_0 a0_1 a1_0 a1_1 a2_0 a2_1).bind fun t338=>(if t338 = true then (some 1) else (some 0))) else (some 0))) = some r:=H;have A30:=am A300;clear A300;by_cases c31 : t337 = true
     ·subst c31
      have H1 : (some 1) = some r:=by rw [if_pos rfl] at H;exact H
      clear H;have H:=H1;clear H1;obtain rfl:=Option.some.inj H;have hnb32:=NB333_334.out;have hnc32:=NB334_333.out;have hnb33:=NB333_335.out;have hnc33:=NB335_333.out;have hnb34:=NB333_336.out;have hnc34:=NB336_333.out;obtain ⟨hcz35_0,hcz35_1,hfz35_0,hfz35_1⟩ := c2_ BK333.out;have hnb36:=NB334_335.out;have hnc36:=NB335_334.out;have hnb37:=NB334_336.out;have hnc37:=NB336_334.out;obtain ⟨hcz38_0,hcz38_1,hfz38_0,hfz38_1⟩ := c2_ BK334.out;have hnb39:=NB335_336.out;have hnc39:=NB336_335.out;obtain ⟨hcz40_0,hcz40_1,hfz40_0,hfz40_1⟩ := c2_ BK335.out;obtain ⟨hcz41_0,hcz41_1,hfz41_0,hfz41_1⟩ := c2_ BK336.out
      go_wp2_with (first|(go_at_call 74;(with_reducible refine (gangsawref03_On.calls a2_0 a2_1 a3_0 a3_1 a0_0 a0_1 true _ A30.out).mono ?_);rintro e w42 ⟨rfl,hb⟩;replace BK333:=bba BK333 hb;replace BK334:=bba BK334 hb;replace BK335:=bba BK335 hb;replace BK336:=bba BK336 hb;replace HB:=bsa HB hb;(try clear hb);(try clear hb2);(try clear hk);(try clear hi)))
      go_ret
      exact ⟨by first|rfl|(simp [errW_none,errW_some] <;> rfl)|(simp [*,errW_none,errW_some] <;> rfl),by repeat (first|(with_reducible first|exact HB.out|apply lA|apply lN|apply lD|refine lS ?_ GE333.out|refine lS ?_ GE334.out|refine lS ?_ GE335.out|refine lS ?_ GE336.out)|exact HB.out)⟩
     ·replace c31:=Bool.eq_false_iff.mpr c31;subst c31
      have H1 : (if (a2_0 == a3_0 && (a2_1 == a3_1)) = true then ((gangsawref03_On.f a0_0 a0_1 a1_0 a1_1 a2_0 a2_1).bind fun t338=>(if t338 = true then (some 1) else (some 0))) else (some 0)) = some r:=by rw [if_neg (show ¬ (false = true) by decide)] at H;exact H
      clear H;have H:=H1;clear H1;by_cases c43 : (a2_0 == a3_0 && (a2_1 == a3_1)) = true
      ·rw [if_pos c43] at H;have c43b0 : (a2_0 == a3_0 && (a2_1 == a3_1)) = true:=c43;(try (have c43b1 : decide (a2_0 = a3_0 && (a2_1 == a3_1)) = true:=by simpa using c43));(try (have c43b2 : (a2_0 == a3_0 && (a2_1 == a3_1)) = true:=by simpa using c43))
       clear c43;replace H:=Option.bind_eq_some_iff.mp H;obtain ⟨t338,A440,H⟩ := H;replace H : (if t338 = true then (some 1) else (some 0)) = some r:=H;have A44:=am A440;clear A440;by_cases c45 : t338 = true
       ·subst c45
        have H1 : (some 1) = some r:=by rw [if_pos rfl] at H;exact H
        clear H;have H:=H1;clear H1;obtain rfl:=Option.some.inj H;have hnb46:=NB333_334.out;have hnc46:=NB334_333.out;have hnb47:=NB333_335.out;have hnc47:=NB335_333.out;have hnb48:=NB333_336.out;have hnc48:=NB336_333.out;obtain ⟨hcz49_0,hcz49_1,hfz49_0,hfz49_1⟩ := c2_ BK333.out;have hnb50:=NB334_335.out;have hnc50:=NB335_334.out;have hnb51:=NB334_336.out;have hnc51:=NB336_334.out;obtain ⟨hcz52_0,hcz52_1,hfz52_0,hfz52_1⟩ := c2_ BK334.out;have hnb53:=NB335_336.out;have hnc53:=NB336_335.out;obtain ⟨hcz54_0,hcz54_1,hfz54_0,hfz54_1⟩ := c2_ BK335.out;obtain ⟨hcz55_0,hcz55_1,hfz55_0,hfz55_1⟩ := c2_ BK336.out
        go_wp2_with (first|(go_at_call 74;(with_reducible refine (gangsawref03_On.calls a2_0 a2_1 a3_0 a3_1 a0_0 a0_1 false _ A30.out).mono ?_);rintro e w56 ⟨rfl,hb⟩;replace BK333:=bba BK333 hb;replace BK334:=bba BK334 hb;replace BK335:=bba BK335 hb;replace BK336:=bba BK336 hb;replace HB:=bsa HB hb;(try clear hb);(try clear hb2);(try clear hk);(try clear hi);obtain ⟨hcz57_0,hcz57_1,hfz57_0,hfz57_1⟩ := c2_ BK335.out;obtain ⟨hcz58_0,hcz58_1,hfz58_0,hfz58_1⟩ := c2_ BK336.out;obtain ⟨hcz59_0,hcz59_1,hfz59_0,hfz59_1⟩ := c2_ BK333.out;obtain ⟨hcz60_0,hcz60_1,hfz60_0,hfz60_1⟩ := c2_ BK334.out)|(go_at_call 74;(with_reducible refine (gangsawref03_On.calls a0_0 a0_1 a1_0 a1_1 a2_0 a2_1 true _ A44.out).mono ?_);rintro e w61 ⟨rfl,hb⟩;replace BK333:=bba BK333 hb;replace BK334:=bba BK334 hb;replace BK335:=bba BK335 hb;replace BK336:=bba BK336 hb;replace HB:=bsa HB hb;(try clear hb);(try clear hb2);(try clear hk);(try clear hi)))
        go_ret
        exact ⟨by first|rfl|(simp [errW_none,errW_some] <;> rfl)|(simp [*,errW_none,errW_some] <;> rfl),by repeat (first|(with_reducible first|exact HB.out|apply lA|apply lN|apply lD|refine lS ?_ GE333.out|refine lS ?_ GE334.out|refine lS ?_ GE335.out|refine lS ?_ GE336.out)|exact HB.out)⟩
       ·replace c45:=Bool.eq_false_iff.mpr c45;subst c45
        have H1 : (some 0) = some r:=by rw [if_neg (show ¬ (false = true) by decide)] at H;exact H
        clear H;have H:=H1;clear H1;obtain rfl:=Option.some.inj H;have hnb62:=NB333_334.out;have hnc62:=NB334_333.out;have hnb63:=NB333_335.out;have hnc63:=NB335_333.out;have hnb64:=NB333_336.out;have hnc64:=NB336_333.out;obtain ⟨hcz65_0,hcz65_1,hfz65_0,hfz65_1⟩ := c2_ BK333.out;have hnb66:=NB334_335.out;have hnc66:=NB335_334.out;have hnb67:=NB334_336.out;have hnc67:=NB336_334.out;obtain ⟨hcz68_0,hcz68_1,hfz68_0,hfz68_1⟩ := c2_ BK334.out;have hnb69:=NB335_336.out;have hnc69:=NB336_335.out;obtain ⟨hcz70_0,hcz70_1,hfz70_0,hfz70_1⟩ := c2_ BK335.out;obtain ⟨hcz71_0,hcz71_1,hfz71_0,hfz71_1⟩ := c2_ BK336.out
        go_wp2_with (first|(go_at_call 74;(with_reducible refine (gangsawref03_On.calls a2_0 a2_1 a3_0 a3_1 a0_0 a0_1 false _ A30.out).mono ?_);rintro e w72 ⟨rfl,hb⟩;replace BK333:=bba BK333 hb;replace BK334:=bba BK334 hb;replace BK335:=bba BK335 hb;replace BK336:=bba BK336 hb;replace HB:=bsa HB hb;(try clear hb);(try clear hb2);(try clear hk);(try clear hi);obtain ⟨hcz73_0,hcz73_1,hfz73_0,hfz73_1⟩ := c2_ BK335.out;obtain ⟨hcz74_0,hcz74_1,hfz74_0,hfz74_1⟩ := c2_ BK336.out;obtain ⟨hcz75_0,hcz75_1,hfz75_0,hfz75_1⟩ := c2_ BK333.out;obtain ⟨hcz76_0,hcz76_1,hfz76_0,hfz76_1⟩ := c2_ BK334.out)|(go_at_call 74;(with_reducible refine (gangsawref03_On.calls a0_0 a0_1 a1_0 a1_1 a2_0 a2_1 false _ A44.out).mono ?_);rintro e w77 ⟨rfl,hb⟩;replace BK333:=bba BK333 hb;replace BK334:=bba BK334 hb;replace BK335:=bba BK335 hb;replace BK336:=bba BK336 hb;replace HB:=bsa HB hb;(try clear hb);(try clear hb2);(try clear hk);(try clear hi)))
        go_ret
        exact ⟨by first|rfl|(simp [errW_none,errW_some] <;> rfl)|(simp [*,errW_none,errW_some] <;> rfl),by repeat (first|(with_reducible first|exact HB.out|apply lA|apply lN|apply lD|refine lS ?_ GE333.out|refine lS ?_ GE334.out|refine lS ?_ GE335.out|refine lS ?_ GE336.out)|exact HB.out)⟩
      ·rw [if_neg c43] at H
       have c43b0 : (a2_0 == a3_0 && (a2_1 == a3_1)) = false:=by simpa using c43
       (try (have c43b1 : decide (a2_0 = a3_0 && (a2_1 == a3_1)) = false:=by simpa using c43));(try (have c43b2 : (a2_0 == a3_0 && (a2_1 == a3_1)) = false:=by simpa using c43));(try (have c43b3 : ¬ (a2_0 = a3_0 && (a2_1 == a3_1)):=by simpa using c43));clear c43;obtain rfl:=Option.some.inj H;have hnb78:=NB333_334.out;have hnc78:=NB334_333.out;have hnb79:=NB333_335.out;have hnc79:=NB335_333.out;have hnb80:=NB333_336.out;have hnc80:=NB336_333.out;obtain ⟨hcz81_0,hcz81_1,hfz81_0,hfz81_1⟩ := c2_ BK333.out;have hnb82:=NB334_335.out;have hnc82:=NB335_334.out;have hnb83:=NB334_336.out;have hnc83:=NB336_334.out;obtain ⟨hcz84_0,hcz84_1,hfz84_0,hfz84_1⟩ := c2_ BK334.out;have hnb85:=NB335_336.out;have hnc85:=NB336_335.out;obtain ⟨hcz86_0,hcz86_1,hfz86_0,hfz86_1⟩ := c2_ BK335.out;obtain ⟨hcz87_0,hcz87_1,hfz87_0,hfz87_1⟩ := c2_ BK336.out
       go_wp2_with (first|(go_at_call 74;(with_reducible refine (gangsawref03_On.calls a2_0 a2_1 a3_0 a3_1 a0_0 a0_1 false _ A30.out).mono ?_);rintro e w88 ⟨rfl,hb⟩;replace BK333:=bba BK333 hb;replace BK334:=bba BK334 hb;replace BK335:=bba BK335 hb;replace BK336:=bba BK336 hb;replace HB:=bsa HB hb;(try clear hb);(try clear hb2);(try clear hk);(try clear hi);obtain ⟨hcz89_0,hcz89_1,hfz89_0,hfz89_1⟩ := c2_ BK335.out;obtain ⟨hcz90_0,hcz90_1,hfz90_0,hfz90_1⟩ := c2_ BK336.out))
       go_ret
       exact ⟨by first|rfl|(simp [errW_none,errW_some] <;> rfl)|(simp [*,errW_none,errW_some] <;> rfl),by repeat (first|(with_reducible first|exact HB.out|apply lA|apply lN|apply lD|refine lS ?_ GE333.out|refine lS ?_ GE334.out|refine lS ?_ GE335.out|refine lS ?_ GE336.out)|exact HB.out)⟩
    ·rw [if_neg c29] at H
     have c29b0 : (a0_0 == a1_0 && (a0_1 == a1_1)) = false:=by simpa using c29
     (try (have c29b1 : decide (a0_0 = a1_0 && (a0_1 == a1_1)) = false:=by simpa using c29));(try (have c29b2 : (a0_0 == a1_0 && (a0_1 == a1_1)) = false:=by simpa using c29));(try (have c29b3 : ¬ (a0_0 = a1_0 && (a0_1 == a1_1)):=by simpa using c29))
     clear c29;by_cases c91 : (a2_0 == a3_0 && (a2_1 == a3_1)) = true
     ·rw [if_pos c91] at H;have c91b0 : (a2_0 == a3_0 && (a2_1 == a3_1)) = true:=c91;(try (have c91b1 : decide (a2_0 = a3_0 && (a2_1 == a3_1)) = true:=by simpa using c91));(try (have c91b2 : (a2_0 == a3_0 && (a2_1 == a3_1)) = true:=by simpa using c91))
      clear c91;replace H:=Option.bind_eq_some_iff.mp H;obtain ⟨t339,A920,H⟩ := H;replace H : (if t339 = true then (some 1) else (some 0)) = some r:=H;have A92:=am A920;clear A920;by_cases c93 : t339 = true
      ·subst c93
       have H1 : (some 1) = some r:=by rw [if_pos rfl] at H;exact H
       clear H;have H:=H1;clear H1;obtain rfl:=Option.some.inj H;have hnb94:=NB333_334.out;have hnc94:=NB334_333.out;have hnb95:=NB333_335.out;have hnc95:=NB335_333.out;have hnb96:=NB333_336.out;have hnc96:=NB336_333.out;obtain ⟨hcz97_0,hcz97_1,hfz97_0,hfz97_1⟩ := c2_ BK333.out;have hnb98:=NB334_335.out;have hnc98:=NB335_334.out;have hnb99:=NB334_336.out;have hnc99:=NB336_334.out;obtain ⟨hcz100_0,hcz100_1,hfz100_0,hfz100_1⟩ := c2_ BK334.out;have hnb101:=NB335_336.out;have hnc101:=NB336_335.out;obtain ⟨hcz102_0,hcz102_1,hfz102_0,hfz102_1⟩ := c2_ BK335.out;obtain ⟨hcz103_0,hcz103_1,hfz103_0,hfz103_1⟩ := c2_ BK336.out
       go_wp2_with (first|(go_at_call 74;(with_reducible refine (gangsawref03_On.calls a0_0 a0_1 a1_0 a1_1 a2_0 a2_1 true _ A92.out).mono ?_);rintro e w104 ⟨rfl,hb⟩;replace BK333:=bba BK333 hb;replace BK334:=bba BK334 hb;replace BK335:=bba BK335 hb;replace BK336:=bba BK336 hb;replace HB:=bsa HB hb;(try clear hb);(try clear hb2);(try clear hk);(try clear hi)))
       go_ret
       exact ⟨by first|rfl|(simp [errW_none,errW_some] <;> rfl)|(simp [*,errW_none,errW_some] <;> rfl),by repeat (first|(with_reducible first|exact HB.out|apply lA|apply lN|apply lD|refine lS ?_ GE333.out|refine lS ?_ GE334.out|refine lS ?_ GE335.out|refine lS ?_ GE336.out)|exact HB.out)⟩
      ·replace c93:=Bool.eq_false_iff.mpr c93;subst c93
       have H1 : (some 0) = some r:=by rw [if_neg (show ¬ (false = true) by decide)] at H;exact H
       clear H;have H:=H1;clear H1;obtain rfl:=Option.some.inj H;have hnb105:=NB333_334.out;have hnc105:=NB334_333.out;have hnb106:=NB333_335.out;have hnc106:=NB335_333.out;have hnb107:=NB333_336.out;have hnc107:=NB336_333.out;obtain ⟨hcz108_0,hcz108_1,hfz108_0,hfz108_1⟩ := c2_ BK333.out;have hnb109:=NB334_335.out;have hnc109:=NB335_334.out;have hnb110:=NB334_336.out;have hnc110:=NB336_334.out;obtain ⟨hcz111_0,hcz111_1,hfz111_0,hfz111_1⟩ := c2_ BK334.out;have hnb112:=NB335_336.out;have hnc112:=NB336_335.out;obtain ⟨hcz113_0,hcz113_1,hfz113_0,hfz113_1⟩ := c2_ BK335.out;obtain ⟨hcz114_0,hcz114_1,hfz114_0,hfz114_1⟩ := c2_ BK336.out
       go_wp2_with (first|(go_at_call 74;(with_reducible refine (gangsawref03_On.calls a0_0 a0_1 a1_0 a1_1 a2_0 a2_1 false _ A92.out).mono ?_);rintro e w115 ⟨rfl,hb⟩;replace BK333:=bba BK333 hb;replace BK334:=bba BK334 hb;replace BK335:=bba BK335 hb;replace BK336:=bba BK336 hb;replace HB:=bsa HB hb;(try clear hb);(try clear hb2);(try clear hk);(try clear hi)))
       go_ret
       exact ⟨by first|rfl|(simp [errW_none,errW_some] <;> rfl)|(simp [*,errW_none,errW_some] <;> rfl),by repeat (first|(with_reducible first|exact HB.out|apply lA|apply lN|apply lD|refine lS ?_ GE333.out|refine lS ?_ GE334.out|refine lS ?_ GE335.out|refine lS ?_ GE336.out)|exact HB.out)⟩
     ·rw [if_neg c91] at H
      have c91b0 : (a2_0 == a3_0 && (a2_1 == a3_1)) = false:=by simpa using c91
      (try (have c91b1 : decide (a2_0 = a3_0 && (a2_1 == a3_1)) = false:=by simpa using c91));(try (have c91b2 : (a2_0 == a3_0 && (a2_1 == a3_1)) = false:=by simpa using c91));(try (have c91b3 : ¬ (a2_0 = a3_0 && (a2_1 == a3_1)):=by simpa using c91));clear c91;obtain rfl:=Option.some.inj H;have hnb116:=NB333_334.out;have hnc116:=NB334_333.out;have hnb117:=NB333_335.out;have hnc117:=NB335_333.out;have hnb118:=NB333_336.out;have hnc118:=NB336_333.out;obtain ⟨hcz119_0,hcz119_1,hfz119_0,hfz119_1⟩ := c2_ BK333.out;have hnb120:=NB334_335.out;have hnc120:=NB335_334.out;have hnb121:=NB334_336.out;have hnc121:=NB336_334.out;obtain ⟨hcz122_0,hcz122_1,hfz122_0,hfz122_1⟩ := c2_ BK334.out;have hnb123:=NB335_336.out;have hnc123:=NB336_335.out;obtain ⟨hcz124_0,hcz124_1,hfz124_0,hfz124_1⟩ := c2_ BK335.out;obtain ⟨hcz125_0,hcz125_1,hfz125_0,hfz125_1⟩ := c2_ BK336.out
      go_wp2
      go_ret
      exact ⟨by first|rfl|(simp [errW_none,errW_some] <;> rfl)|(simp [*,errW_none,errW_some] <;> rfl),by repeat (first|(with_reducible first|exact HB.out|apply lA|apply lN|apply lD|refine lS ?_ GE333.out|refine lS ?_ GE334.out|refine lS ?_ GE335.out|refine lS ?_ GE336.out)|exact HB.out)⟩
   ·replace c28:=Bool.eq_false_iff.mpr c28;subst c28
    have H1 : ((gangsawref03_Turn.f a0_0 a0_1 a1_0 a1_1 a2_0 a2_1).bind fun t340=>(if t340 = 0 then ((gangsawref03_Turn.f a0_0 a0_1 a1_0 a1_1 a3_0 a3_1).bind fun t341=>(gangsawref03_Meet.j1 kj4 (t341 == 0) a0_0 a0_1 a1_0 a1_1 a2_0 a2_1 a3_0 a3_1)) else (gangsawref03_Meet.j1 kj4 false a0_0 a0_1 a1_0 a1_1 a2_0 a2_1 a3_0 a3_1))) = some r:=by rw [if_neg (show ¬ (false = true) by decide)] at H;exact H
    clear H;have H:=H1;clear H1;have HC126:=am H;clear H
    go_upto_region 5 with (fail)
    go_cut [50] (fun v50 wc=>∃ (kq : Nat) (x50_125 : Bool),v50 = .bool x50_125 ∧ Aside0 (gangsawref03_Meet.j1 kq x50_125 a0_0 a0_1 a1_0 a1_1 a2_0 a2_1 a3_0 a3_1 = some r) ∧ Aside0 (kq ≤ kj4) ∧ Aside0 (wc.heap[gb333]? = some (.cells #[.int .i64 a0_0,.int .i64 a0_1] 31 (0,0))) ∧ Aside0 (wc.heap[gb334]? = some (.cells #[.int .i64 a1_0,.int .i64 a1_1] 31 (0,0))) ∧ Aside0 (wc.heap[gb335]? = some (.cells #[.int .i64 a2_0,.int .i64 a2_1] 31 (0,0))) ∧ Aside0 (wc.heap[gb336]? = some (.cells #[.int .i64 a3_0,.int .i64 a3_1] 31 (0,0))) ∧ Aside0 (Below w.heap.size w wc))
    case first =>
     have H:=HC126.out;clear HC126;replace H:=Option.bind_eq_some_iff.mp H;obtain ⟨t340,A1270,H⟩ := H;replace H : (if t340 = 0 then ((gangsawref03_Turn.f a0_0 a0_1 a1_0 a1_1 a3_0 a3_1).bind fun t341=>(gangsawref03_Meet.j1 kj4 (t341 == 0) a0_0 a0_1 a1_0 a1_1 a2_0 a2_1 a3_0 a3_1)) else (gangsawref03_Meet.j1 kj4 false a0_0 a0_1 a1_0 a1_1 a2_0 a2_1 a3_0 a3_1)) = some r:=H;have A127:=am A1270;clear A1270;by_cases c128 : t340 = 0
     ·rw [if_pos c128] at H;have c128b0 : (t340 == 0) = true:=beq_iff_eq.mpr c128;have c128b1 : (t340 != 0) = false:=bne_eq_false_iff_eq.mpr c128;clear c128;(first|rw [c128b0]|(simp only [i64_w,i32_w];rw [c128b0])|skip);replace H:=Option.bind_eq_some_iff.mp H;obtain ⟨t341,A1290,H⟩ := H;replace H : (gangsawref03_Meet.j1 kj4 (t341 == 0) a0_0 a0_1 a1_0 a1_1 a2_0 a2_1 a3_0 a3_1) = some r:=H;have A129:=am A1290;clear A1290;have H':=am H;clear H;have hnb130:=NB333_334.out;have hnc130:=NB334_333.out;have hnb131:=NB333_335.out;have hnc131:=NB335_333.out;have hnb132:=NB333_336.out;have hnc132:=NB336_333.out;obtain ⟨hcz133_0,hcz133_1,hfz133_0,hfz133_1⟩ := c2_ BK333.out;have hnb134:=NB334_335.out;have hnc134:=NB335_334.out;have hnb135:=NB334_336.out;have hnc135:=NB336_334.out;obtain ⟨hcz136_0,hcz136_1,hfz136_0,hfz136_1⟩ := c2_ BK334.out;have hnb137:=NB335_336.out;have hnc137:=NB336_335.out;obtain ⟨hcz138_0,hcz138_1,hfz138_0,hfz138_1⟩ := c2_ BK335.out
      go_wp2_with (first|((with_reducible refine gate_callee (f:=75) rfl ?_);refine goesL_ (some 42) rfl rfl Try.func75 (by kernel_rfl) rfl #[.agg #[.int .i64 a0_0,.int .i64 a0_1],.agg #[.int .i64 a1_0,.int .i64 a1_1],.agg #[.int .i64 a2_0,.int .i64 a2_1]] rfl (by (try simp only [mT,mC,mN]);first|done|rfl|(simp only [lDr,lTk];rfl)) ?_;(with_reducible refine (gangsawref03_Turn.calls a0_0 a0_1 a1_0 a1_1 a2_0 a2_1 t340 _ A127.out).mono ?_);rintro e w139 ⟨rfl,hb⟩;refine ⟨_,rfl, ?_⟩;replace BK333:=bba BK333 hb;replace BK334:=bba BK334 hb;replace BK335:=bba BK335 hb;replace BK336:=bba BK336 hb;replace HB:=bsa HB hb;(try clear hb);(try clear hb2);(try clear hk);(try clear hi);obtain ⟨hcz140_0,hcz140_1,hfz140_0,hfz140_1⟩ := c2_ BK333.out;obtain ⟨hcz141_0,hcz141_1,hfz141_0,hfz141_1⟩ := c2_ BK334.out;obtain ⟨hcz142_0,hcz142_1,hfz142_0,hfz142_1⟩ := c2_ BK336.out)|(go_at_call 75;(with_reducible refine (gangsawref03_Turn.calls a0_0 a0_1 a1_0 a1_1 a3_0 a3_1 t341 _ A129.out).mono ?_);rintro e w143 ⟨rfl,hb⟩;replace BK333:=bba BK333 hb;replace BK334:=bba BK334 hb;replace BK335:=bba BK335 hb;replace BK336:=bba BK336 hb;replace HB:=bsa HB hb;(try clear hb);(try clear hb2);(try clear hk);(try clear hi)))
      go_meet
      case rel=>exact ⟨_,((t341 == 0)),(by first|rfl|(simp;done)|(simp [*];done)),H',⟨by have:=HJ4.out;first|omega|exact Nat.le_refl _⟩,⟨bq BK333.out⟩,⟨bq BK334.out⟩,⟨bq BK335.out⟩,⟨bq BK336.out⟩,⟨by repeat (first|(with_reducible first|exact HB.out|apply lA|apply lN|apply lD|refine lS ?_ GE333.out|refine lS ?_ GE334.out|refine lS ?_ GE335.out|refine lS ?_ GE336.out)|exact HB.out)⟩⟩
     ·rw [if_neg c128] at H;have c128b0 : (t340 == 0) = false:=beq_eq_false_iff_ne.mpr c128;have c128b1 : (t340 != 0) = true:=bne_iff_ne.mpr c128;(first|rw [c128b0]|(simp only [i64_w,i32_w];rw [c128b0])|skip);have H':=am H;clear H;have hnb144:=NB333_334.out;have hnc144:=NB334_333.out;have hnb145:=NB333_335.out;have hnc145:=NB335_333.out;have hnb146:=NB333_336.out;have hnc146:=NB336_333.out;obtain ⟨hcz147_0,hcz147_1,hfz147_0,hfz147_1⟩ := c2_ BK333.out;have hnb148:=NB334_335.out;have hnc148:=NB335_334.out;have hnb149:=NB334_336.out;have hnc149:=NB336_334.out;obtain ⟨hcz150_0,hcz150_1,hfz150_0,hfz150_1⟩ := c2_ BK334.out;have hnb151:=NB335_336.out;have hnc151:=NB336_335.out;obtain ⟨hcz152_0,hcz152_1,hfz152_0,hfz152_1⟩ := c2_ BK335.out
      go_wp2_with (first|((with_reducible refine gate_callee (f:=75) rfl ?_);refine goesL_ (some 42) rfl rfl Try.func75 (by kernel_rfl) rfl #[.agg #[.int .i64 a0_0,.int .i64 a0_1],.agg #[.int .i64 a1_0,.int .i64 a1_1],.agg #[.int .i64 a2_0,.int .i64 a2_1]] rfl (by (try simp only [mT,mC,mN]);first|done|rfl|(simp only [lDr,lTk];rfl)) ?_;(with_reducible refine (gangsawref03_Turn.calls a0_0 a0_1 a1_0 a1_1 a2_0 a2_1 t340 _ A127.out).mono ?_);rintro e w153 ⟨rfl,hb⟩;refine ⟨_,rfl, ?_⟩;replace BK333:=bba BK333 hb;replace BK334:=bba BK334 hb;replace BK335:=bba BK335 hb;replace BK336:=bba BK336 hb;replace HB:=bsa HB hb;(try clear hb);(try clear hb2);(try clear hk);(try clear hi)))
      go_meet
      case rel=>exact ⟨_,(false),(by first|rfl|(simp;done)|(simp [*];done)),H',⟨by have:=HJ4.out;first|omega|exact Nat.le_refl _⟩,⟨bq BK333.out⟩,⟨bq BK334.out⟩,⟨bq BK335.out⟩,⟨bq BK336.out⟩,⟨by repeat (first|(with_reducible first|exact HB.out|apply lA|apply lN|apply lD|refine lS ?_ GE333.out|refine lS ?_ GE334.out|refine lS ?_ GE335.out|refine lS ?_ GE336.out)|exact HB.out)⟩⟩
    case rest =>
     clear HC126
     try clear c1
     try clear c2
     try clear p2
     try clear c3
     try clear c4
     try clear c5
     try clear c6
     try clear c7
     try clear c8
     try clear c9
     try clear c10
     try clear c10b0
     try clear c10b1
     try clear c10b2
     try clear c11
     try clear c12
     try clear c13
     try clear c14
     try clear c15
     try clear c16
     try clear c18
     try clear c19
     try clear c20
     try clear c22
     try clear c23
     try clear c25
     try clear c28
     try clear c29
     try clear c29b0
     try clear c29b1
     try clear c29b2
     try clear c31
     try clear c32
     try clear c33
     try clear c34
     try clear c36
     try clear c37
     try clear c39
     try clear c43
     try clear c43b0
     try clear c43b1
     try clear c43b2
     try clear c45
     try clear c46
     try clear c47
     try clear c48
     try clear c50
     try clear c51
     try clear c52
     try clear c53
     try clear c62
     try clear c63
     try clear c64
     try clear c66
     try clear c67
     try clear c69
     try clear c75
     try clear c78
     try clear c79
     try clear c80
     try clear c82
     try clear c83
     try clear c85
     try clear c91
     try clear c91b0
     try clear c91b1
     try clear c91b2
     try clear c93
     try clear c94
     try clear c95
     try clear c96
     try clear c98
     try clear c99
     try clear c101
     try clear c105
     try clear c106
     try clear c107
     try clear c109
     try clear c110
     try clear c112
     try clear c116
     try clear c117
     try clear c118
     try clear c120
     try clear c121
     try clear c123
     try clear c128
     try clear c128b0
     try clear c128b1
     try clear c130
     try clear c131
     try clear c132
     try clear c134
     try clear c135
     try clear c137
     try clear c144
     try clear c145
     try clear c146
     try clear c148
     try clear c149
     try clear c151
     try clear hcz100_0
     try clear hcz100_1
     try clear hcz102_0
     try clear hcz102_1
     try clear hcz103_0
     try clear hcz103_1
     try clear hcz108_0
     try clear hcz108_1
     try clear hcz111_0
     try clear hcz111_1
     try clear hcz113_0
     try clear hcz113_1
     try clear hcz114_0
     try clear hcz114_1
     try clear hcz119_0
     try clear hcz119_1
     try clear hcz122_0
     try clear hcz122_1
     try clear hcz124_0
     try clear hcz124_1
     try clear hcz125_0
     try clear hcz125_1
     try clear hcz133_0
     try clear hcz133_1
     try clear hcz136_0
     try clear hcz136_1
     try clear hcz138_0
     try clear hcz138_1
     try clear hcz140_0
     try clear hcz140_1
     try clear hcz141_0
     try clear hcz141_1
     try clear hcz142_0
     try clear hcz142_1
     try clear hcz147_0
     try clear hcz147_1
     try clear hcz14_0
     try clear hcz14_1
     try clear hcz150_0
     try clear hcz150_1
     try clear hcz152_0
     try clear hcz152_1
     try clear hcz17_0
     try clear hcz17_1
     try clear hcz21_0
     try clear hcz21_1
     try clear hcz24_0
     try clear hcz24_1
     try clear hcz26_0
     try clear hcz26_1
     try clear hcz27_0
     try clear hcz27_1
     try clear hcz35_0
     try clear hcz35_1
     try clear hcz38_0
     try clear hcz38_1
     try clear hcz40_0
     try clear hcz40_1
     try clear hcz41_0
     try clear hcz41_1
     try clear hcz49_0
     try clear hcz49_1
     try clear hcz52_0
     try clear hcz52_1
     try clear hcz54_0
     try clear hcz54_1
     try clear hcz55_0
     try clear hcz55_1
     try clear hcz57_0
     try clear hcz57_1
     try clear hcz58_0
     try clear hcz58_1
     try clear hcz59_0
     try clear hcz59_1
     try clear hcz60_0
     try clear hcz60_1
     try clear hcz65_0
     try clear hcz65_1
     try clear hcz68_0
     try clear hcz68_1
     try clear hcz70_0
     try clear hcz70_1
     try clear hcz71_0
     try clear hcz71_1
     try clear hcz73_0
     try clear hcz73_1
     try clear hcz74_0
     try clear hcz74_1
     try clear hcz75_0
     try clear hcz75_1
     try clear hcz76_0
     try clear hcz76_1
     try clear hcz81_0
     try clear hcz81_1
     try clear hcz84_0
     try clear hcz84_1
     try clear hcz86_0
     try clear hcz86_1
     try clear hcz87_0
     try clear hcz87_1
     try clear hcz89_0
     try clear hcz89_1
     try clear hcz90_0
     try clear hcz90_1
     try clear hcz97_0
     try clear hcz97_1
     try clear hfz100_0
     try clear hfz100_1
     try clear hfz102_0
     try clear hfz102_1
     try clear hfz103_0
     try clear hfz103_1
     try clear hfz108_0
     try clear hfz108_1
     try clear hfz111_0
     try clear hfz111_1
     try clear hfz113_0
     try clear hfz113_1
     try clear hfz114_0
     try clear hfz114_1
     try clear hfz119_0
     try clear hfz119_1
     try clear hfz122_0
     try clear hfz122_1
     try clear hfz124_0
     try clear hfz124_1
     try clear hfz125_0
     try clear hfz125_1
     try clear hfz133_0
     try clear hfz133_1
     try clear hfz136_0
     try clear hfz136_1
     try clear hfz138_0
     try clear hfz138_1
     try clear hfz140_0
     try clear hfz140_1
     try clear hfz141_0
     try clear hfz141_1
     try clear hfz142_0
     try clear hfz142_1
     try clear hfz147_0
     try clear hfz147_1
     try clear hfz14_0
     try clear hfz14_1
     try clear hfz150_0
     try clear hfz150_1
     try clear hfz152_0
     try clear hfz152_1
     try clear hfz17_0
     try clear hfz17_1
     try clear hfz21_0
     try clear hfz21_1
     try clear hfz24_0
     try clear hfz24_1
     try clear hfz26_0
     try clear hfz26_1
     try clear hfz27_0
     try clear hfz27_1
     try clear hfz35_0
     try clear hfz35_1
     try clear hfz38_0
     try clear hfz38_1
     try clear hfz40_0
     try clear hfz40_1
     try clear hfz41_0
     try clear hfz41_1
     try clear hfz49_0
     try clear hfz49_1
     try clear hfz52_0
     try clear hfz52_1
     try clear hfz54_0
     try clear hfz54_1
     try clear hfz55_0
     try clear hfz55_1
     try clear hfz57_0
     try clear hfz57_1
     try clear hfz58_0
     try clear hfz58_1
     try clear hfz59_0
     try clear hfz59_1
     try clear hfz60_0
     try clear hfz60_1
     try clear hfz65_0
     try clear hfz65_1
     try clear hfz68_0
     try clear hfz68_1
     try clear hfz70_0
     try clear hfz70_1
     try clear hfz71_0
     try clear hfz71_1
     try clear hfz73_0
     try clear hfz73_1
     try clear hfz74_0
     try clear hfz74_1
     try clear hfz75_0
     try clear hfz75_1
     try clear hfz76_0
     try clear hfz76_1
     try clear hfz81_0
     try clear hfz81_1
     try clear hfz84_0
     try clear hfz84_1
     try clear hfz86_0
     try clear hfz86_1
     try clear hfz87_0
     try clear hfz87_1
     try clear hfz89_0
     try clear hfz89_1
     try clear hfz90_0
     try clear hfz90_1
     try clear hfz97_0
     try clear hfz97_1
     try clear p2
     obtain ⟨kq,x50_125,rfl,HA,HJ125,BK333,BK334,BK335,BK336,HB⟩ := hcut
     cases kq with
     | zero=>exact absurd HA.out (by simp [gangsawref03_Meet.j1])
     | succ kj125 =>
      have H:=HA.out;clear HA;simp only [gangsawref03_Meet.j1] at H;by_cases c154 : x50_125 = true
      ·subst c154
       have H1 : ((gangsawref03_sorted.f a0_0 a0_1 a1_0 a1_1).bind fun bt342=>((gangsawref03_sorted.f a2_0 a2_1 a3_0 a3_1).bind fun bt346=>((gangsawref03_before.f bt342.1 bt342.2.1 bt346.1 bt346.2.1).bind fun t352=>(if t352 = true then (gangsawref03_Meet.j2 kj125 bt346.2.2.1 bt346.2.2.2 bt346.1 bt346.2.1 bt342.2.2.1 bt342.2.2.2) else (gangsawref03_Meet.j2 kj125 bt346.2.2.1 bt346.2.2.2 bt342.1 bt342.2.1 bt342.2.2.1 bt342.2.2.2))))) = some r:=by rw [if_pos rfl] at H;exact H
       clear H;have H:=H1;clear H1;replace H:=Option.bind_eq_some_iff.mp H;obtain ⟨⟨t342,t343,t344,t345⟩,A1550,H⟩ := H;replace H : ((gangsawref03_sorted.f a2_0 a2_1 a3_0 a3_1).bind fun bt346=>((gangsawref03_before.f t342 t343 bt346.1 bt346.2.1).bind fun t352=>(if t352 = true then (gangsawref03_Meet.j2 kj125 bt346.2.2.1 bt346.2.2.2 bt346.1 bt346.2.1 t344 t345) else (gangsawref03_Meet.j2 kj125 bt346.2.2.1 bt346.2.2.2 t342 t343 t344 t345)))) = some r:=H;have A155:=am A1550;clear A1550;replace H:=Option.bind_eq_some_iff.mp H;obtain ⟨⟨t346,t347,t348,t349⟩,A1560,H⟩ := H;replace H : ((gangsawref03_before.f t342 t343 t346 t347).bind fun t352=>(if t352 = true then (gangsawref03_Meet.j2 kj125 t348 t349 t346 t347 t344 t345) else (gangsawref03_Meet.j2 kj125 t348 t349 t342 t343 t344 t345))) = some r:=H;have A156:=am A1560;clear A1560;replace H:=Option.bind_eq_some_iff.mp H;obtain ⟨t352,A1570,H⟩ := H;replace H : (if t352 = true then (gangsawref03_Meet.j2 kj125 t348 t349 t346 t347 t344 t345) else (gangsawref03_Meet.j2 kj125 t348 t349 t342 t343 t344 t345)) = some r:=H;have A157:=am A1570;clear A1570;have HC158:=am H;clear H;have hnb159:=NB333_334.out;have hnc159:=NB334_333.out;have hnb160:=NB333_335.out;have hnc160:=NB335_333.out;have hnb161:=NB333_336.out;have hnc161:=NB336_333.out;obtain ⟨hcz162_0,hcz162_1,hfz162_0,hfz162_1⟩ := c2_ BK333.out;have hnb163:=NB334_335.out;have hnc163:=NB335_334.out;have hnb164:=NB334_336.out;have hnc164:=NB336_334.out;obtain ⟨hcz165_0,hcz165_1,hfz165_0,hfz165_1⟩ := c2_ BK334.out
       try go_wp2_with (first|((with_reducible refine gate_callee (f:=76) rfl ?_);refine goesL_ (some 54) rfl rfl Try.func76 (by kernel_rfl) rfl #[.agg #[.int .i64 a0_0,.int .i64 a0_1],.agg #[.int .i64 a1_0,.int .i64 a1_1]] rfl (by (try simp only [mT,mC,mN]);first|done|rfl|(simp only [lDr,lTk];rfl)) ?_;(with_reducible refine (gangsawref03_sorted.calls a0_0 a0_1 a1_0 a1_1 t342 t343 t344 t345 _ A155.out).mono ?_);rintro e w166 ⟨rfl,hb⟩;refine ⟨_,rfl, ?_⟩;replace BK333:=bba BK333 hb;replace BK334:=bba BK334 hb;replace BK335:=bba BK335 hb;replace BK336:=bba BK336 hb;replace HB:=bsa HB hb;(try clear hb);(try clear hb2);(try clear hk);(try clear hi);obtain ⟨hcz167_0,hcz167_1,hfz167_0,hfz167_1⟩ := c2_ BK333.out;obtain ⟨hcz168_0,hcz168_1,hfz168_0,hfz168_1⟩ := c2_ BK334.out;have hnb169:=NB335_336.out;have hnc169:=NB336_335.out;obtain ⟨hcz170_0,hcz170_1,hfz170_0,hfz170_1⟩ := c2_ BK335.out;obtain ⟨hcz171_0,hcz171_1,hfz171_0,hfz171_1⟩ := c2_ BK336.out)|((with_reducible refine gate_callee (f:=76) rfl ?_);refine goesL_ (some 60) rfl rfl Try.func76 (by kernel_rfl) rfl #[.agg #[.int .i64 a2_0,.int .i64 a2_1],.agg #[.int .i64 a3_0,.int .i64 a3_1]] rfl (by (try simp only [mT,mC,mN]);first|done|rfl|(simp only [lDr,lTk];rfl)) ?_;(with_reducible refine (gangsawref03_sorted.calls a2_0 a2_1 a3_0 a3_1 t346 t347 t348 t349 _ A156.out).mono ?_);rintro e w172 ⟨rfl,hb⟩;refine ⟨_,rfl, ?_⟩;replace BK333:=am (blk_below (g:=gb333) (o:=.cells #[.int .i64 t342,.int .i64 t343] 31 (0,0)) (by (with_reducible repeat (first|apply bN|apply bD|apply bA));refine blk_far ?_ NB333_334.out _;(with_reducible repeat (first|apply bN|apply bD|apply bA));refine blk_far ?_ NB333_334.out _;(with_reducible repeat (first|apply bN|apply bD|apply bA));refine blk_put (cs:=#[.int .i64 t342,.int .i64 a0_1]) ?_ 1 _ rfl;(with_reducible repeat (first|apply bN|apply bD|apply bA));refine blk_put (cs:=#[.int .i64 a0_0,.int .i64 a0_1]) ?_ 0 _ rfl;(with_reducible repeat (first|apply bN|apply bD|apply bA));exact BK333.out) hb);replace BK334:=am (blk_below (g:=gb334) (o:=.cells #[.int .i64 t344,.int .i64 t345] 31 (0,0)) (by (with_reducible repeat (first|apply bN|apply bD|apply bA));refine blk_put (cs:=#[.int .i64 t344,.int .i64 a1_1]) ?_ 1 _ rfl;(with_reducible repeat (first|apply bN|apply bD|apply bA));refine blk_put (cs:=#[.int .i64 a1_0,.int .i64 a1_1]) ?_ 0 _ rfl;(with_reducible repeat (first|apply bN|apply bD|apply bA));refine blk_far ?_ NB334_333.out _;(with_reducible repeat (first|apply bN|apply bD|apply bA));refine blk_far ?_ NB334_333.out _;(with_reducible repeat (first|apply bN|apply bD|apply bA));exact BK334.out) hb);replace BK335:=am (blk_below (g:=gb335) (o:=.cells #[.int .i64 a2_0,.int .i64 a2_1] 31 (0,0)) (by (with_reducible repeat (first|apply bN|apply bD|apply bA));refine blk_far ?_ NB335_334.out _;(with_reducible repeat (first|apply bN|apply bD|apply bA));refine blk_far ?_ NB335_334.out _;(with_reducible repeat (first|apply bN|apply bD|apply bA));refine blk_far ?_ NB335_333.out _;(with_reducible repeat (first|apply bN|apply bD|apply bA));refine blk_far ?_ NB335_333.out _;(with_reducible repeat (first|apply bN|apply bD|apply bA));exact BK335.out) hb);replace BK336:=am (blk_below (g:=gb336) (o:=.cells #[.int .i64 a3_0,.int .i64 a3_1] 31 (0,0)) (by (with_reducible repeat (first|apply bN|apply bD|apply bA));refine blk_far ?_ NB336_334.out _;(with_reducible repeat (first|apply bN|apply bD|apply bA));refine blk_far ?_ NB336_334.out _;(with_reducible repeat (first|apply bN|apply bD|apply bA));refine blk_far ?_ NB336_333.out _;(with_reducible repeat (first|apply bN|apply bD|apply bA));refine blk_far ?_ NB336_333.out _;(with_reducible repeat (first|apply bN|apply bD|apply bA));exact BK336.out) hb);replace HB:=am (below_step (by repeat (first|(with_reducible first|exact HB.out|apply lA|apply lN|apply lD|refine lS ?_ GE333.out|refine lS ?_ GE334.out|refine lS ?_ GE335.out|refine lS ?_ GE336.out)|exact HB.out)) hb);(try clear hb);(try clear hb2);(try clear hk);(try clear hi);obtain ⟨hcz173_0,hcz173_1,hfz173_0,hfz173_1⟩ := c2_ BK335.out;obtain ⟨hcz174_0,hcz174_1,hfz174_0,hfz174_1⟩ := c2_ BK336.out))
       have n0_ : Aside0 (((((w172.setCell ⟨gb335,0,none⟩ (.int .i64 t346)).setCell ⟨gb335,1,none⟩ (.int .i64 t347)).setCell ⟨gb336,0,none⟩ (.int .i64 t348)).setCell ⟨gb336,1,none⟩ (.int .i64 t349)).heap[gb333]? = some (.cells #[.int .i64 t342,.int .i64 t343] 31 (0,0))):=⟨by (with_reducible repeat (first|apply bN|apply bD|apply bA));refine blk_far ?_ NB333_336.out _;(with_reducible repeat (first|apply bN|apply bD|apply bA));refine blk_far ?_ NB333_336.out _;(with_reducible repeat (first|apply bN|apply bD|apply bA));refine blk_far ?_ NB333_335.out _;(with_reducible repeat (first|apply bN|apply bD|apply bA));refine blk_far ?_ NB333_335.out _;(with_reducible repeat (first|apply bN|apply bD|apply bA));exact BK333.out⟩
       have n1_ : Aside0 (((((w172.setCell ⟨gb335,0,none⟩ (.int .i64 t346)).setCell ⟨gb335,1,none⟩ (.int .i64 t347)).setCell ⟨gb336,0,none⟩ (.int .i64 t348)).setCell ⟨gb336,1,none⟩ (.int .i64 t349)).heap[gb334]? = some (.cells #[.int .i64 t344,.int .i64 t345] 31 (0,0))):=⟨by (with_reducible repeat (first|apply bN|apply bD|apply bA));refine blk_far ?_ NB334_336.out _;(with_reducible repeat (first|apply bN|apply bD|apply bA));refine blk_far ?_ NB334_336.out _;(with_reducible repeat (first|apply bN|apply bD|apply bA));refine blk_far ?_ NB334_335.out _;(with_reducible repeat (first|apply bN|apply bD|apply bA));refine blk_far ?_ NB334_335.out _;(with_reducible repeat (first|apply bN|apply bD|apply bA));exact BK334.out⟩
       have n2_ : Aside0 (((((w172.setCell ⟨gb335,0,none⟩ (.int .i64 t346)).setCell ⟨gb335,1,none⟩ (.int .i64 t347)).setCell ⟨gb336,0,none⟩ (.int .i64 t348)).setCell ⟨gb336,1,none⟩ (.int .i64 t349)).heap[gb335]? = some (.cells #[.int .i64 t346,.int .i64 t347] 31 (0,0))):=⟨by (with_reducible repeat (first|apply bN|apply bD|apply bA));refine blk_far ?_ NB335_336.out _;(with_reducible repeat (first|apply bN|apply bD|apply bA));refine blk_far ?_ NB335_336.out _;(with_reducible repeat (first|apply bN|apply bD|apply bA));refine blk_put (cs:=#[.int .i64 t346,.int .i64 a2_1]) ?_ 1 _ rfl;(with_reducible repeat (first|apply bN|apply bD|apply bA));refine blk_put (cs:=#[.int .i64 a2_0,.int .i64 a2_1]) ?_ 0 _ rfl;(with_reducible repeat (first|apply bN|apply bD|apply bA));exact BK335.out⟩
       have n3_ : Aside0 (((((w172.setCell ⟨gb335,0,none⟩ (.int .i64 t346)).setCell ⟨gb335,1,none⟩ (.int .i64 t347)).setCell ⟨gb336,0,none⟩ (.int .i64 t348)).setCell ⟨gb336,1,none⟩ (.int .i64 t349)).heap[gb336]? = some (.cells #[.int .i64 t348,.int .i64 t349] 31 (0,0))):=⟨by (with_reducible repeat (first|apply bN|apply bD|apply bA));refine blk_put (cs:=#[.int .i64 t348,.int .i64 a3_1]) ?_ 1 _ rfl;(with_reducible repeat (first|apply bN|apply bD|apply bA));refine blk_put (cs:=#[.int .i64 a3_0,.int .i64 a3_1]) ?_ 0 _ rfl;(with_reducible repeat (first|apply bN|apply bD|apply bA));refine blk_far ?_ NB336_335.out _;(with_reducible repeat (first|apply bN|apply bD|apply bA));refine blk_far ?_ NB336_335.out _;(with_reducible repeat (first|apply bN|apply bD|apply bA));exact BK336.out⟩
       have n4_ : Aside0 (Below w.heap.size w ((((w172.setCell ⟨gb335,0,none⟩ (.int .i64 t346)).setCell ⟨gb335,1,none⟩ (.int .i64 t347)).setCell ⟨gb336,0,none⟩ (.int .i64 t348)).setCell ⟨gb336,1,none⟩ (.int .i64 t349))):=⟨by repeat (first|(with_reducible first|exact HB.out|apply lA|apply lN|apply lD|refine lS ?_ GE333.out|refine lS ?_ GE334.out|refine lS ?_ GE335.out|refine lS ?_ GE336.out)|exact HB.out)⟩
       (try clear BK333);(try clear BK334);(try clear BK335);(try clear BK336);(try clear HB);generalize ((((w172.setCell ⟨gb335,0,none⟩ (.int .i64 t346)).setCell ⟨gb335,1,none⟩ (.int .i64 t347)).setCell ⟨gb336,0,none⟩ (.int .i64 t348)).setCell ⟨gb336,1,none⟩ (.int .i64 t349)) = w175 at n0_ n1_ n2_ n3_ n4_ ⊢;have BK333:=n0_;have BK334:=n1_;have BK335:=n2_;have BK336:=n3_;have HB:=n4_;clear n0_ n1_ n2_ n3_ n4_;replace BK333:=bda BK333;replace BK334:=bda BK334;replace BK335:=bda BK335;replace BK336:=bda BK336;replace HB:=hda HB
       refine start_ (n:=6) (S:=fun w'=>w'.cell? ⟨gb333,0,none⟩ = some (.int .i64 t342) ∧ w'.cell? ⟨gb333,1,none⟩ = some (.int .i64 t343) ∧ w'.cell? ⟨gb334,0,none⟩ = some (.int .i64 t344) ∧ w'.cell? ⟨gb334,1,none⟩ = some (.int .i64 t345)) (ds:=[]) #[f_,f_,f_,f_,f_,f_] (by kernel_rfl) rfl rfl ⟨(blk_cell BK333.out 0).trans rfl,(blk_cell BK333.out 1).trans rfl,(blk_cell BK334.out 0).trans rfl,(blk_cell BK334.out 1).trans rfl⟩ (fun hHeld=>?_)
       generalize w175.drew = w176 at BK333 BK334 BK335 BK336 HB hHeld ⊢
       refine tb4_ 0 63 (mk_ 6 1) hHeld ?_
       refine tb4_ 1 64 (mk_ 6 3) hHeld ?_
       refine join_ (σ:=Nat × Nat) 2 (mk_ 6 15) (fun s_=>[(9,.pointer (some ⟨s_.1,0,none⟩)),(10,.pointer (some ⟨s_.2,0,none⟩))]) (fun s_ w'=>(w'.cell? ⟨gb333,0,none⟩ = some (.int .i64 t342) ∧ w'.cell? ⟨gb333,1,none⟩ = some (.int .i64 t343) ∧ w'.cell? ⟨gb334,0,none⟩ = some (.int .i64 t344) ∧ w'.cell? ⟨gb334,1,none⟩ = some (.int .i64 t345)) ∧ (w'.heap[gb333]? = some (.cells #[.int .i64 t342,.int .i64 t343] 31 (0,0))) ∧ (w'.heap[gb334]? = some (.cells #[.int .i64 t344,.int .i64 t345] 31 (0,0))) ∧ (w'.heap[gb335]? = some (.cells #[.int .i64 t346,.int .i64 t347] 31 (0,0))) ∧ (w'.heap[gb336]? = some (.cells #[.int .i64 t348,.int .i64 t349] 31 (0,0))) ∧ (w'.heap[s_.1]? = some (.cells #[.int .i64 0,.int .i64 0] 31 (0,0))) ∧ (w'.heap[s_.2]? = some (.cells #[.int .i64 0,.int .i64 0] 31 (0,0))) ∧ (w.heap.size ≤ s_.1) ∧ (w.heap.size ≤ s_.1) ∧ (gb333 ≠ s_.1) ∧ (s_.1 ≠ gb333) ∧ (gb334 ≠ s_.1) ∧ (s_.1 ≠ gb334) ∧ (gb335 ≠ s_.1) ∧ (s_.1 ≠ gb335) ∧ (gb336 ≠ s_.1) ∧ (s_.1 ≠ gb336) ∧ (s_.2 ≠ s_.1) ∧ (s_.1 ≠ s_.2) ∧ (w.heap.size ≤ s_.2) ∧ (w.heap.size ≤ s_.2) ∧ (gb333 ≠ s_.2) ∧ (s_.2 ≠ gb333) ∧ (gb334 ≠ s_.2) ∧ (s_.2 ≠ gb334) ∧ (gb335 ≠ s_.2) ∧ (s_.2 ≠ gb335) ∧ (gb336 ≠ s_.2) ∧ (s_.2 ≠ gb336) ∧ (Below w.heap.size w w')) ?_ ?_
       rotate_left
       ·intro hCont
        refine two_ (i:=2) (j:=3) (Ni:=some 9) (Nj:=some 10) (mk_ 6 7) (mk_ 6 11) rfl rfl rfl rfl (by kernel_rfl) (by decide) (by decide) (fun K hK=>?_) (fun K hK=>?_)
        ·skip
         refine box_step ?hg (N:=9) ?hd (cs:=#[.int .i64 0,.int .i64 0]) (t:=31) ?hr ?_;(case hd=>rfl);(case hg=>rfl);(case hr=>first|(go_simp;done)|(go_simp;rfl))
         intro gb350 hg w177 hbox hb;have BK350:=am hbox;have GW350:=bza HB hg;have GE350:=bza HB hg;have NB333_350:=bla BK333 hg;have NB350_333:=bga BK333 hg;have NB334_350:=bla BK334 hg;have NB350_334:=bga BK334 hg;have NB335_350:=bla BK335 hg;have NB350_335:=bga BK335 hg;have NB336_350:=bla BK336 hg;have NB350_336:=bga BK336 hg;replace BK333:=bba BK333 hb;replace BK334:=bba BK334 hb;replace BK335:=bba BK335 hb;replace BK336:=bba BK336 hb;replace HB:=bsa HB hb;clear hb hbox hg
         refine hK.out _ _ ⟨(blk_cell BK333.out 0).trans rfl,(blk_cell BK333.out 1).trans rfl,(blk_cell BK334.out 0).trans rfl,(blk_cell BK334.out 1).trans rfl⟩ (fun hHeld=>?_)
         clear hK K
         refine nm_ 9 ?_
         refine one_ (i:=3) (N:=some 10) (mk_ 6 15) rfl rfl (by kernel_rfl) (by decide) (fun K hK=>?_)
         refine box_step ?hg (N:=10) ?hd (cs:=#[.int .i64 0,.int .i64 0]) (t:=31) ?hr ?_;(case hd=>rfl);(case hg=>rfl);(case hr=>first|(go_simp;done)|(go_simp;rfl))
         intro gb351 hg w178 hbox hb;have BK351:=am hbox;have GW351:=bza HB hg;have GE351:=bza HB hg;have NB333_351:=bla BK333 hg;have NB351_333:=bga BK333 hg;have NB334_351:=bla BK334 hg;have NB351_334:=bga BK334 hg;have NB335_351:=bla BK335 hg;have NB351_335:=bga BK335 hg;have NB336_351:=bla BK336 hg;have NB351_336:=bga BK336 hg;have NB350_351:=bla BK350 hg;have NB351_350:=bga BK350 hg;replace BK333:=bba BK333 hb;replace BK334:=bba BK334 hb;replace BK335:=bba BK335 hb;replace BK336:=bba BK336 hb;replace BK350:=bba BK350 hb;replace HB:=bsa HB hb;clear hb hbox hg
         refine hK.out _ _ ⟨(blk_cell BK333.out 0).trans rfl,(blk_cell BK333.out 1).trans rfl,(blk_cell BK334.out 0).trans rfl,(blk_cell BK334.out 1).trans rfl⟩ (fun hHeld=>?_)
         clear hK K
         refine nm_ 10 ?_
         exact norm_ (by simp only [putAll,Act.put,sA,s0,sS]) (hCont (gb350,gb351) _ ⟨hHeld,(bq BK333.out),(bq BK334.out),(bq BK335.out),(bq BK336.out),(bq BK350.out),(bq BK351.out),GW350.out,GE350.out,NB333_350.out,NB350_333.out,NB334_350.out,NB350_334.out,NB335_350.out,NB350_335.out,NB336_350.out,NB350_336.out,NB351_350.out,NB350_351.out,GW351.out,GE351.out,NB333_351.out,NB351_333.out,NB334_351.out,NB351_334.out,NB335_351.out,NB351_335.out,NB336_351.out,NB351_336.out,(by repeat (first|(with_reducible first|exact HB.out|apply lA|apply lN|apply lD|refine lS ?_ GE333.out|refine lS ?_ GE334.out|refine lS ?_ GE335.out|refine lS ?_ GE336.out|refine lS ?_ GE350.out|refine lS ?_ GE351.out)|exact HB.out))⟩)
        ·skip
         refine box_step ?hg (N:=10) ?hd (cs:=#[.int .i64 0,.int .i64 0]) (t:=31) ?hr ?_;(case hd=>rfl);(case hg=>rfl);(case hr=>first|(go_simp;done)|(go_simp;rfl))
         intro gb351 hg w177 hbox hb;have BK351:=am hbox;have GW351:=bza HB hg;have GE351:=bza HB hg;have NB333_351:=bla BK333 hg;have NB351_333:=bga BK333 hg;have NB334_351:=bla BK334 hg;have NB351_334:=bga BK334 hg;have NB335_351:=bla BK335 hg;have NB351_335:=bga BK335 hg;have NB336_351:=bla BK336 hg;have NB351_336:=bga BK336 hg;replace BK333:=bba BK333 hb;replace BK334:=bba BK334 hb;replace BK335:=bba BK335 hb;replace BK336:=bba BK336 hb;replace HB:=bsa HB hb;clear hb hbox hg
         refine hK.out _ _ ⟨(blk_cell BK333.out 0).trans rfl,(blk_cell BK333.out 1).trans rfl,(blk_cell BK334.out 0).trans rfl,(blk_cell BK334.out 1).trans rfl⟩ (fun hHeld=>?_)
         clear hK K
         refine nm_ 10 ?_
         refine one_ (i:=2) (N:=some 9) (mk_ 6 15) rfl rfl (by kernel_rfl) (by decide) (fun K hK=>?_)
         refine box_step ?hg (N:=9) ?hd (cs:=#[.int .i64 0,.int .i64 0]) (t:=31) ?hr ?_;(case hd=>rfl);(case hg=>rfl);(case hr=>first|(go_simp;done)|(go_simp;rfl))
         intro gb350 hg w178 hbox hb;have BK350:=am hbox;have GW350:=bza HB hg;have GE350:=bza HB hg;have NB333_350:=bla BK333 hg;have NB350_333:=bga BK333 hg;have NB334_350:=bla BK334 hg;have NB350_334:=bga BK334 hg;have NB335_350:=bla BK335 hg;have NB350_335:=bga BK335 hg;have NB336_350:=bla BK336 hg;have NB350_336:=bga BK336 hg;have NB351_350:=bla BK351 hg;have NB350_351:=bga BK351 hg;replace BK333:=bba BK333 hb;replace BK334:=bba BK334 hb;replace BK335:=bba BK335 hb;replace BK336:=bba BK336 hb;replace BK351:=bba BK351 hb;replace HB:=bsa HB hb;clear hb hbox hg
         refine hK.out _ _ ⟨(blk_cell BK333.out 0).trans rfl,(blk_cell BK333.out 1).trans rfl,(blk_cell BK334.out 0).trans rfl,(blk_cell BK334.out 1).trans rfl⟩ (fun hHeld=>?_)
         clear hK K
         refine nm_ 9 ?_
         exact norm_ (by simp only [putAll,Act.put,sA,s0,sS]) (hCont (gb350,gb351) _ ⟨hHeld,(bq BK333.out),(bq BK334.out),(bq BK335.out),(bq BK336.out),(bq BK350.out),(bq BK351.out),GW350.out,GE350.out,NB333_350.out,NB350_333.out,NB334_350.out,NB350_334.out,NB335_350.out,NB350_335.out,NB336_350.out,NB350_336.out,NB351_350.out,NB350_351.out,GW351.out,GE351.out,NB333_351.out,NB351_333.out,NB334_351.out,NB351_334.out,NB335_351.out,NB351_335.out,NB336_351.out,NB351_336.out,(by repeat (first|(with_reducible first|exact HB.out|apply lA|apply lN|apply lD|refine lS ?_ GE333.out|refine lS ?_ GE334.out|refine lS ?_ GE335.out|refine lS ?_ GE336.out|refine lS ?_ GE351.out|refine lS ?_ GE350.out)|exact HB.out))⟩)
       rintro ⟨gb350,gb351⟩ w179 ⟨hS_,h0_,h1_,h2_,h3_,h4_,h5_,h6_,h7_,h8_,h9_,h10_,h11_,h12_,h13_,h14_,h15_,h16_,h17_,h18_,h19_,h20_,h21_,h22_,h23_,h24_,h25_,h26_,h27_,h28_⟩
       have n0_ : Aside0 (w179.heap[gb333]? = some (.cells #[.int .i64 t342,.int .i64 t343] 31 (0,0))):=⟨h0_⟩
       have n1_ : Aside0 (w179.heap[gb334]? = some (.cells #[.int .i64 t344,.int .i64 t345] 31 (0,0))):=⟨h1_⟩
       have n2_ : Aside0 (w179.heap[gb335]? = some (.cells #[.int .i64 t346,.int .i64 t347] 31 (0,0))):=⟨h2_⟩
       have n3_ : Aside0 (w179.heap[gb336]? = some (.cells #[.int .i64 t348,.int .i64 t349] 31 (0,0))):=⟨h3_⟩
       have n4_ : Aside0 (w179.heap[gb350]? = some (.cells #[.int .i64 0,.int .i64 0] 31 (0,0))):=⟨h4_⟩
       have n5_ : Aside0 (w179.heap[gb351]? = some (.cells #[.int .i64 0,.int .i64 0] 31 (0,0))):=⟨h5_⟩
       have n6_ : Aside0 (w.heap.size ≤ gb350):=⟨h6_⟩
       have n7_ : Aside0 (w.heap.size ≤ gb350):=⟨h7_⟩
       have n8_ : Aside0 (gb333 ≠ gb350):=⟨h8_⟩
       have n9_ : Aside0 (gb350 ≠ gb333):=⟨h9_⟩
       have n10_ : Aside0 (gb334 ≠ gb350):=⟨h10_⟩
       have n11_ : Aside0 (gb350 ≠ gb334):=⟨h11_⟩
       have n12_ : Aside0 (gb335 ≠ gb350):=⟨h12_⟩
       have n13_ : Aside0 (gb350 ≠ gb335):=⟨h13_⟩
       have n14_ : Aside0 (gb336 ≠ gb350):=⟨h14_⟩
       have n15_ : Aside0 (gb350 ≠ gb336):=⟨h15_⟩
       have n16_ : Aside0 (gb351 ≠ gb350):=⟨h16_⟩
       have n17_ : Aside0 (gb350 ≠ gb351):=⟨h17_⟩
       have n18_ : Aside0 (w.heap.size ≤ gb351):=⟨h18_⟩
       have n19_ : Aside0 (w.heap.size ≤ gb351):=⟨h19_⟩
       have n20_ : Aside0 (gb333 ≠ gb351):=⟨h20_⟩
       have n21_ : Aside0 (gb351 ≠ gb333):=⟨h21_⟩
       have n22_ : Aside0 (gb334 ≠ gb351):=⟨h22_⟩
       have n23_ : Aside0 (gb351 ≠ gb334):=⟨h23_⟩
       have n24_ : Aside0 (gb335 ≠ gb351):=⟨h24_⟩
       have n25_ : Aside0 (gb351 ≠ gb335):=⟨h25_⟩
       have n26_ : Aside0 (gb336 ≠ gb351):=⟨h26_⟩
       have n27_ : Aside0 (gb351 ≠ gb336):=⟨h27_⟩
       have n28_ : Aside0 (Below w.heap.size w w179):=⟨h28_⟩
       clear BK333;clear BK334;clear BK335;clear BK336;clear HB;clear h0_ h1_ h2_ h3_ h4_ h5_ h6_ h7_ h8_ h9_ h10_ h11_ h12_ h13_ h14_ h15_ h16_ h17_ h18_ h19_ h20_ h21_ h22_ h23_ h24_ h25_ h26_ h27_ h28_;have BK333:=n0_;have BK334:=n1_;have BK335:=n2_;have BK336:=n3_;have BK350:=n4_;have BK351:=n5_;have GW350:=n6_;have GE350:=n7_;have NB333_350:=n8_;have NB350_333:=n9_;have NB334_350:=n10_;have NB350_334:=n11_;have NB335_350:=n12_;have NB350_335:=n13_;have NB336_350:=n14_;have NB350_336:=n15_;have NB351_350:=n16_;have NB350_351:=n17_;have GW351:=n18_;have GE351:=n19_;have NB333_351:=n20_;have NB351_333:=n21_;have NB334_351:=n22_;have NB351_334:=n23_;have NB335_351:=n24_;have NB351_335:=n25_;have NB336_351:=n26_;have NB351_336:=n27_;have HB:=n28_;clear n0_ n1_ n2_ n3_ n4_ n5_ n6_ n7_ n8_ n9_ n10_ n11_ n12_ n13_ n14_ n15_ n16_ n17_ n18_ n19_ n20_ n21_ n22_ n23_ n24_ n25_ n26_ n27_ n28_;have hHeld : w179.cell? ⟨gb333,0,none⟩ = some (.int .i64 t342) ∧ w179.cell? ⟨gb333,1,none⟩ = some (.int .i64 t343) ∧ w179.cell? ⟨gb334,0,none⟩ = some (.int .i64 t344) ∧ w179.cell? ⟨gb334,1,none⟩ = some (.int .i64 t345):=hS_;refine norm_ (a':=?_) ?_ ?_;rotate_left;(simp only [putAll,Act.put,sA,s0,sS];rfl);refine one_ (i:=4) (N:=none) (mk_ 6 31) rfl rfl (by kernel_rfl) (by decide) (fun K hK=>?_);have hs180 : w179.cell? ⟨gb350,0,none⟩ = some (.int .i64 0):=(blk_cell BK350.out 0).trans rfl;have hfs180:=blk_frozen BK350.out 0;have hns180_0:=NB333_350.out;have hns180_1:=NB334_350.out;have hns180_2:=NB335_350.out;have hns180_3:=NB336_350.out;have hns180_5:=NB351_350.out;have hms180_0:=NB350_333.out;have hms180_1:=NB350_334.out;have hms180_2:=NB350_335.out;have hms180_3:=NB350_336.out;have hms180_5:=NB350_351.out;have hs181 : w179.cell? ⟨gb350,1,none⟩ = some (.int .i64 0):=(blk_cell BK350.out 1).trans rfl;have hfs181:=blk_frozen BK350.out 1;have hns181_0:=NB333_350.out;have hns181_1:=NB334_350.out;have hns181_2:=NB335_350.out;have hns181_3:=NB336_350.out;have hns181_5:=NB351_350.out;have hms181_0:=NB350_333.out;have hms181_1:=NB350_334.out;have hms181_2:=NB350_335.out;have hms181_3:=NB350_336.out;have hms181_5:=NB350_351.out
       refine skip_ (w1:=?_) (by rfl) rfl ?_ ?_
       rotate_left;(go_simp;rfl)
       refine hK.out _ _ ⟨((cell_far (p:=⟨gb350,_,none⟩) NB333_350.out _).trans (((cell_far (p:=⟨gb350,_,none⟩) NB333_350.out _).trans (hHeld.1)))),((cell_far (p:=⟨gb350,_,none⟩) NB333_350.out _).trans (((cell_far (p:=⟨gb350,_,none⟩) NB333_350.out _).trans (hHeld.2.1)))),((cell_far (p:=⟨gb350,_,none⟩) NB334_350.out _).trans (((cell_far (p:=⟨gb350,_,none⟩) NB334_350.out _).trans (hHeld.2.2.1)))),((cell_far (p:=⟨gb350,_,none⟩) NB334_350.out _).trans (((cell_far (p:=⟨gb350,_,none⟩) NB334_350.out _).trans (hHeld.2.2.2))))⟩ (fun hHeld=>?_)
       clear hK K;refine one_ (i:=5) (N:=none) (mk_ 6 63) rfl rfl (by kernel_rfl) (by decide) (fun K hK=>?_);have hs182 : w179.cell? ⟨gb351,0,none⟩ = some (.int .i64 0):=(blk_cell BK351.out 0).trans rfl;have hfs182:=blk_frozen BK351.out 0;have hns182_0:=NB333_351.out;have hns182_1:=NB334_351.out;have hns182_2:=NB335_351.out;have hns182_3:=NB336_351.out;have hns182_4:=NB350_351.out;have hms182_0:=NB351_333.out;have hms182_1:=NB351_334.out;have hms182_2:=NB351_335.out;have hms182_3:=NB351_336.out;have hms182_4:=NB351_350.out;have hs183 : w179.cell? ⟨gb351,1,none⟩ = some (.int .i64 0):=(blk_cell BK351.out 1).trans rfl;have hfs183:=blk_frozen BK351.out 1;have hns183_0:=NB333_351.out;have hns183_1:=NB334_351.out;have hns183_2:=NB335_351.out;have hns183_3:=NB336_351.out;have hns183_4:=NB350_351.out;have hms183_0:=NB351_333.out;have hms183_1:=NB351_334.out;have hms183_2:=NB351_335.out;have hms183_3:=NB351_336.out;have hms183_4:=NB351_350.out
       refine skip_ (w1:=?_) (by rfl) rfl ?_ ?_
       rotate_left;(go_simp;rfl)
       refine hK.out _ _ ⟨((cell_far (p:=⟨gb351,_,none⟩) NB333_351.out _).trans (((cell_far (p:=⟨gb351,_,none⟩) NB333_351.out _).trans (hHeld.1)))),((cell_far (p:=⟨gb351,_,none⟩) NB333_351.out _).trans (((cell_far (p:=⟨gb351,_,none⟩) NB333_351.out _).trans (hHeld.2.1)))),((cell_far (p:=⟨gb351,_,none⟩) NB334_351.out _).trans (((cell_far (p:=⟨gb351,_,none⟩) NB334_351.out _).trans (hHeld.2.2.1)))),((cell_far (p:=⟨gb351,_,none⟩) NB334_351.out _).trans (((cell_far (p:=⟨gb351,_,none⟩) NB334_351.out _).trans (hHeld.2.2.2))))⟩ (fun hHeld=>?_)
       clear hK K
       refine done_ (by kernel_rfl) ?_
       have hnb184:=NB350_333.out;have hnc184:=NB333_350.out;have hnb185:=NB350_334.out;have hnc185:=NB334_350.out;have hnb186:=NB350_335.out;have hnc186:=NB335_350.out;have hnb187:=NB350_336.out;have hnc187:=NB336_350.out;have hnb188:=NB350_351.out;have hnc188:=NB351_350.out;obtain ⟨hcz189_0,hcz189_1,hfz189_0,hfz189_1⟩ := c2_ BK350.out;have hnb190:=NB335_351.out;have hnc190:=NB351_335.out;obtain ⟨hcz191_0,hcz191_1,hfz191_0,hfz191_1⟩ := c2_ BK335.out
       go_upto_if 67 with (first|((with_reducible refine gate_callee (f:=77) rfl ?_);refine goesL_ (some 67) rfl rfl Try.func77 (by kernel_rfl) rfl #[.agg #[.int .i64 t342,.int .i64 t343],.agg #[.int .i64 t346,.int .i64 t347]] rfl (by (try simp only [mT,mC,mN]);first|done|rfl|(simp only [lDr,lTk];rfl)) ?_;(with_reducible refine (gangsawref03_before.calls t342 t343 t346 t347 t352 _ A157.out).mono ?_);rintro e w192 ⟨rfl,hb⟩;refine ⟨_,rfl, ?_⟩;replace BK333:=am (blk_below (g:=gb333) (o:=.cells #[.int .i64 t342,.int .i64 t343] 31 (0,0)) (by (with_reducible repeat (first|apply bN|apply bD|apply bA));refine blk_far ?_ NB333_351.out _;(with_reducible repeat (first|apply bN|apply bD|apply bA));refine blk_far ?_ NB333_351.out _;(with_reducible repeat (first|apply bN|apply bD|apply bA));refine blk_far ?_ NB333_350.out _;(with_reducible repeat (first|apply bN|apply bD|apply bA));refine blk_far ?_ NB333_350.out _;(with_reducible repeat (first|apply bN|apply bD|apply bA));exact BK333.out) hb);replace BK334:=am (blk_below (g:=gb334) (o:=.cells #[.int .i64 t344,.int .i64 t345] 31 (0,0)) (by (with_reducible repeat (first|apply bN|apply bD|apply bA));refine blk_far ?_ NB334_351.out _;(with_reducible repeat (first|apply bN|apply bD|apply bA));refine blk_far ?_ NB334_351.out _;(with_reducible repeat (first|apply bN|apply bD|apply bA));refine blk_far ?_ NB334_350.out _;(with_reducible repeat (first|apply bN|apply bD|apply bA));refine blk_far ?_ NB334_350.out _;(with_reducible repeat (first|apply bN|apply bD|apply bA));exact BK334.out) hb);replace BK335:=am (blk_below (g:=gb335) (o:=.cells #[.int .i64 t346,.int .i64 t347] 31 (0,0)) (by (with_reducible repeat (first|apply bN|apply bD|apply bA));refine blk_far ?_ NB335_351.out _;(with_reducible repeat (first|apply bN|apply bD|apply bA));refine blk_far ?_ NB335_351.out _;(with_reducible repeat (first|apply bN|apply bD|apply bA));refine blk_far ?_ NB335_350.out _;(with_reducible repeat (first|apply bN|apply bD|apply bA));refine blk_far ?_ NB335_350.out _;(with_reducible repeat (first|apply bN|apply bD|apply bA));exact BK335.out) hb);replace BK336:=am (blk_below (g:=gb336) (o:=.cells #[.int .i64 t348,.int .i64 t349] 31 (0,0)) (by (with_reducible repeat (first|apply bN|apply bD|apply bA));refine blk_far ?_ NB336_351.out _;(with_reducible repeat (first|apply bN|apply bD|apply bA));refine blk_far ?_ NB336_351.out _;(with_reducible repeat (first|apply bN|apply bD|apply bA));refine blk_far ?_ NB336_350.out _;(with_reducible repeat (first|apply bN|apply bD|apply bA));refine blk_far ?_ NB336_350.out _;(with_reducible repeat (first|apply bN|apply bD|apply bA));exact BK336.out) hb);replace BK350:=am (blk_below (g:=gb350) (o:=.cells #[.int .i64 t342,.int .i64 t343] 31 (0,0)) (by (with_reducible repeat (first|apply bN|apply bD|apply bA));refine blk_far ?_ NB350_351.out _;(with_reducible repeat (first|apply bN|apply bD|apply bA));refine blk_far ?_ NB350_351.out _;(with_reducible repeat (first|apply bN|apply bD|apply bA));refine blk_put (cs:=#[.int .i64 t342,.int .i64 0]) ?_ 1 _ rfl;(with_reducible repeat (first|apply bN|apply bD|apply bA));refine blk_put (cs:=#[.int .i64 0,.int .i64 0]) ?_ 0 _ rfl;(with_reducible repeat (first|apply bN|apply bD|apply bA));exact BK350.out) hb);replace BK351:=am (blk_below (g:=gb351) (o:=.cells #[.int .i64 t344,.int .i64 t345] 31 (0,0)) (by (with_reducible repeat (first|apply bN|apply bD|apply bA));refine blk_put (cs:=#[.int .i64 t344,.int .i64 0]) ?_ 1 _ rfl;(with_reducible repeat (first|apply bN|apply bD|apply bA));refine blk_put (cs:=#[.int .i64 0,.int .i64 0]) ?_ 0 _ rfl;(with_reducible repeat (first|apply bN|apply bD|apply bA));refine blk_far ?_ NB351_350.out _;(with_reducible repeat (first|apply bN|apply bD|apply bA));refine blk_far ?_ NB351_350.out _;(with_reducible repeat (first|apply bN|apply bD|apply bA));exact BK351.out) hb);replace HB:=am (below_step (by repeat (first|(with_reducible first|exact HB.out|apply lA|apply lN|apply lD|refine lS ?_ GE333.out|refine lS ?_ GE334.out|refine lS ?_ GE335.out|refine lS ?_ GE336.out|refine lS ?_ GE350.out|refine lS ?_ GE351.out)|exact HB.out)) hb);(try clear hb);(try clear hb2);(try clear hk);(try clear hi)))
       (try simp only [Act.put,sA,s0,sS])
       go_cut [] (fun wc=>∃ (kq : Nat) (x351000_157 : Int) (x351001_157 : Int),Aside0 (gangsawref03_Meet.j2 kq t348 t349 x351000_157 x351001_157 t344 t345 = some r) ∧ Aside0 (kq ≤ kj125) ∧ Aside0 (wc.heap[gb333]? = some (.cells #[.int .i64 t342,.int .i64 t343] 31 (0,0))) ∧ Aside0 (wc.heap[gb334]? = some (.cells #[.int .i64 t344,.int .i64 t345] 31 (0,0))) ∧ Aside0 (wc.heap[gb335]? = some (.cells #[.int .i64 t346,.int .i64 t347] 31 (0,0))) ∧ Aside0 (wc.heap[gb336]? = some (.cells #[.int .i64 t348,.int .i64 t349] 31 (0,0))) ∧ Aside0 (wc.heap[gb350]? = some (.cells #[.int .i64 x351000_157,.int .i64 x351001_157] 31 (0,0))) ∧ Aside0 (wc.heap[gb351]? = some (.cells #[.int .i64 t344,.int .i64 t345] 31 (0,0))) ∧ Aside0 (Below w.heap.size w wc))
       case first =>
        have H:=HC158.out;clear HC158;by_cases c193 : t352 = true
        ·subst c193
         have H1 : (gangsawref03_Meet.j2 kj125 t348 t349 t346 t347 t344 t345) = some r:=by rw [if_pos rfl] at H;exact H
         clear H;have H:=H1;clear H1;have H':=am H;clear H;have hnb194:=NB335_333.out;have hnc194:=NB333_335.out;have hnb195:=NB335_334.out;have hnc195:=NB334_335.out;have hnb196:=NB335_336.out;have hnc196:=NB336_335.out;have hnb197:=NB335_350.out;have hnc197:=NB350_335.out;have hnb198:=NB335_351.out;have hnc198:=NB351_335.out;obtain ⟨hcz199_0,hcz199_1,hfz199_0,hfz199_1⟩ := c2_ BK335.out;have hnb200:=NB350_333.out;have hnc200:=NB333_350.out;have hnb201:=NB350_334.out;have hnc201:=NB334_350.out;have hnb202:=NB350_336.out;have hnc202:=NB336_350.out;have hnb203:=NB350_351.out;have hnc203:=NB351_350.out;obtain ⟨hcz204_0,hcz204_1,hfz204_0,hfz204_1⟩ := c2_ BK350.out
         go_wp2
         go_meet
         case rel=>exact ⟨_,(t346),(t347),H',⟨by have:=HJ4.out;have:=HJ125.out;first|omega|exact Nat.le_refl _⟩,⟨by (with_reducible repeat (first|apply bN|apply bD|apply bA));refine blk_far ?_ NB333_350.out _;(with_reducible repeat (first|apply bN|apply bD|apply bA));refine blk_far ?_ NB333_350.out _;(with_reducible repeat (first|apply bN|apply bD|apply bA));exact BK333.out⟩,⟨by (with_reducible repeat (first|apply bN|apply bD|apply bA));refine blk_far ?_ NB334_350.out _;(with_reducible repeat (first|apply bN|apply bD|apply bA));refine blk_far ?_ NB334_350.out _;(with_reducible repeat (first|apply bN|apply bD|apply bA));exact BK334.out⟩,⟨by (with_reducible repeat (first|apply bN|apply bD|apply bA));refine blk_far ?_ NB335_350.out _;(with_reducible repeat (first|apply bN|apply bD|apply bA));refine blk_far ?_ NB335_350.out _;(with_reducible repeat (first|apply bN|apply bD|apply bA));exact BK335.out⟩,⟨by (with_reducible repeat (first|apply bN|apply bD|apply bA));refine blk_far ?_ NB336_350.out _;(with_reducible repeat (first|apply bN|apply bD|apply bA));refine blk_far ?_ NB336_350.out _;(with_reducible repeat (first|apply bN|apply bD|apply bA));exact BK336.out⟩,⟨by (with_reducible repeat (first|apply bN|apply bD|apply bA));refine blk_put (cs:=#[.int .i64 t346,.int .i64 t343]) ?_ 1 _ rfl;(with_reducible repeat (first|apply bN|apply bD|apply bA));refine blk_put (cs:=#[.int .i64 t342,.int .i64 t343]) ?_ 0 _ rfl;(with_reducible repeat (first|apply bN|apply bD|apply bA));exact BK350.out⟩,⟨by (with_reducible repeat (first|apply bN|apply bD|apply bA));refine blk_far ?_ NB351_350.out _;(with_reducible repeat (first|apply bN|apply bD|apply bA));refine blk_far ?_ NB351_350.out _;(with_reducible repeat (first|apply bN|apply bD|apply bA));exact BK351.out⟩,⟨by repeat (first|(with_reducible first|exact HB.out|apply lA|apply lN|apply lD|refine lS ?_ GE333.out|refine lS ?_ GE334.out|refine lS ?_ GE335.out|refine lS ?_ GE336.out|refine lS ?_ GE350.out|refine lS ?_ GE351.out)|exact HB.out)⟩⟩
        ·replace c193:=Bool.eq_false_iff.mpr c193;subst c193
         have H1 : (gangsawref03_Meet.j2 kj125 t348 t349 t342 t343 t344 t345) = some r:=by rw [if_neg (show ¬ (false = true) by decide)] at H;exact H
         clear H;have H:=H1;clear H1;have H':=am H;clear H
         go_wp2
         go_meet
         case rel=>exact ⟨_,(t342),(t343),H',⟨by have:=HJ4.out;have:=HJ125.out;first|omega|exact Nat.le_refl _⟩,⟨bq BK333.out⟩,⟨bq BK334.out⟩,⟨bq BK335.out⟩,⟨bq BK336.out⟩,⟨bq BK350.out⟩,⟨bq BK351.out⟩,⟨by repeat (first|(with_reducible first|exact HB.out|apply lA|apply lN|apply lD|refine lS ?_ GE333.out|refine lS ?_ GE334.out|refine lS ?_ GE335.out|refine lS ?_ GE336.out|refine lS ?_ GE350.out|refine lS ?_ GE351.out)|exact HB.out)⟩⟩
       case rest =>
        clear HC158
        try clear c1
        try clear c2
        try clear p2
        try clear c7
        try clear c15
        try clear c16
        try clear c18
        try clear c19
        try clear c20
        try clear c76
        try clear c77
        try clear c154
        try clear c159
        try clear c160
        try clear c161
        try clear c163
        try clear c164
        try clear c169
        try clear c184
        try clear c185
        try clear c186
        try clear c187
        try clear c188
        try clear c190
        try clear c193
        try clear c194
        try clear c195
        try clear c196
        try clear c197
        try clear c198
        try clear c200
        try clear c201
        try clear c202
        try clear c203
        try clear hcz162_0
        try clear hcz162_1
        try clear hcz165_0
        try clear hcz165_1
        try clear hcz167_0
        try clear hcz167_1
        try clear hcz168_0
        try clear hcz168_1
        try clear hcz170_0
        try clear hcz170_1
        try clear hcz171_0
        try clear hcz171_1
        try clear hcz173_0
        try clear hcz173_1
        try clear hcz174_0
        try clear hcz174_1
        try clear hcz189_0
        try clear hcz189_1
        try clear hcz191_0
        try clear hcz191_1
        try clear hcz199_0
        try clear hcz199_1
        try clear hcz204_0
        try clear hcz204_1
        try clear hfz142_1
        try clear hfz147_0
        try clear hfz147_1
        try clear hfz14_0
        try clear hfz14_1
        try clear hfz150_0
        try clear hfz150_1
        try clear hfz152_0
        try clear hfz152_1
        try clear hfz162_0
        try clear hfz162_1
        try clear hfz165_0
        try clear hfz165_1
        try clear hfz167_0
        try clear hfz167_1
        try clear hfz168_0
        try clear hfz168_1
        try clear hfz170_0
        try clear hfz170_1
        try clear hfz171_0
        try clear hfz171_1
        try clear hfz173_0
        try clear hfz173_1
        try clear hfz174_0
        try clear hfz174_1
        try clear hfz17_0
        try clear hfz17_1
        try clear hfz189_0
        try clear hfz189_1
        try clear hfz191_0
        try clear hfz191_1
        try clear hfz199_0
        try clear hfz199_1
        try clear hfz204_0
        try clear hfz204_1
        try clear hfz21_0
        try clear hfz21_1
        try clear hfz24_0
        try clear hfz24_1
        try clear hfz26_0
        try clear hfz26_1
        try clear hfz27_0
        try clear hfz27_1
        try clear hfz35_0
        try clear hfz35_1
        try clear hfz38_0
        try clear hfz38_1
        try clear hfz40_0
        try clear hfz40_1
        try clear hfz41_0
        try clear hfz41_1
        try clear hfz49_0
        try clear hfz49_1
        try clear hfz52_0
        try clear hfz52_1
        try clear hfz54_0
        try clear hfz54_1
        try clear hfz55_0
        try clear hfz55_1
        try clear hfz57_0
        try clear hfz57_1
        try clear hfz58_0
        try clear hfz58_1
        try clear hfz59_0
        try clear hfz59_1
        try clear hfz60_0
        try clear hfz60_1
        try clear hfz65_0
        try clear hfz65_1
        try clear hfz68_0
        try clear hfz68_1
        try clear hfz70_0
        try clear hfz70_1
        try clear hfz71_0
        try clear hfz71_1
        try clear hfz73_0
        try clear hfz73_1
        try clear hfz74_0
        try clear hfz74_1
        try clear hfz75_0
        try clear hfz75_1
        try clear hfz76_0
        try clear hfz76_1
        try clear hfz81_0
        try clear hfz81_1
        try clear hfz84_0
        try clear hfz84_1
        try clear hfz86_0
        try clear hfz86_1
        try clear hfz87_0
        try clear hfz87_1
        try clear hfz89_0
        try clear hfz89_1
        try clear hfz90_0
        try clear hfz90_1
        try clear hfz97_0
        try clear hfz97_1
        try clear p2
        obtain ⟨kq,x351000_157,x351001_157,HA,HJ157,BK333,BK334,BK335,BK336,BK350,BK351,HB⟩ := hcut
        cases kq with
        | zero=>exact absurd HA.out (by simp [gangsawref03_Meet.j2])
        | succ kj157 =>
         have H:=HA.out;clear HA;simp only [gangsawref03_Meet.j2] at H;replace H:=Option.bind_eq_some_iff.mp H;obtain ⟨t353,A2050,H⟩ := H;replace H : (if t353 = true then (gangsawref03_Meet.j3 kj157 x351000_157 x351001_157 t348 t349) else (gangsawref03_Meet.j3 kj157 x351000_157 x351001_157 t344 t345)) = some r:=H;have A205:=am A2050;clear A2050;have HC206:=am H;clear H;have hnb207:=NB336_333.out;have hnc207:=NB333_336.out;have hnb208:=NB336_334.out;have hnc208:=NB334_336.out;have hnb209:=NB336_335.out;have hnc209:=NB335_336.out;have hnb210:=NB336_350.out;have hnc210:=NB350_336.out;have hnb211:=NB336_351.out;have hnc211:=NB351_336.out;obtain ⟨hcz212_0,hcz212_1,hfz212_0,hfz212_1⟩ := c2_ BK336.out;have hnb213:=NB351_333.out;have hnc213:=NB333_351.out;have hnb214:=NB351_334.out;have hnc214:=NB334_351.out;have hnb215:=NB351_335.out;have hnc215:=NB335_351.out;have hnb216:=NB351_350.out;have hnc216:=NB350_351.out;obtain ⟨hcz217_0,hcz217_1,hfz217_0,hfz217_1⟩ := c2_ BK351.out
         go_upto_if 71 with (first|((with_reducible refine gate_callee (f:=77) rfl ?_);refine goesL_ (some 71) rfl rfl Try.func77 (by kernel_rfl) rfl #[.agg #[.int .i64 t348,.int .i64 t349],.agg #[.int .i64 t344,.int .i64 t345]] rfl (by (try simp only [mT,mC,mN]);first|done|rfl|(simp only [lDr,lTk];rfl)) ?_;(with_reducible refine (gangsawref03_before.calls t348 t349 t344 t345 t353 _ A205.out).mono ?_);rintro e w218 ⟨rfl,hb⟩;refine ⟨_,rfl, ?_⟩;replace BK333:=bba BK333 hb;replace BK334:=bba BK334 hb;replace BK335:=bba BK335 hb;replace BK336:=bba BK336 hb;replace BK350:=bba BK350 hb;replace BK351:=bba BK351 hb;replace HB:=bsa HB hb;(try clear hb);(try clear hb2);(try clear hk);(try clear hi)))
         (try simp only [Act.put,sA,s0,sS])
         go_cut [] (fun wc=>∃ (kq : Nat) (x352000_205 : Int) (x352001_205 : Int),Aside0 (gangsawref03_Meet.j3 kq x351000_157 x351001_157 x352000_205 x352001_205 = some r) ∧ Aside0 (kq ≤ kj157) ∧ Aside0 (wc.heap[gb333]? = some (.cells #[.int .i64 t342,.int .i64 t343] 31 (0,0))) ∧ Aside0 (wc.heap[gb334]? = some (.cells #[.int .i64 t344,.int .i64 t345] 31 (0,0))) ∧ Aside0 (wc.heap[gb335]? = some (.cells #[.int .i64 t346,.int .i64 t347] 31 (0,0))) ∧ Aside0 (wc.heap[gb336]? = some (.cells #[.int .i64 t348,.int .i64 t349] 31 (0,0))) ∧ Aside0 (wc.heap[gb350]? = some (.cells #[.int .i64 x351000_157,.int .i64 x351001_157] 31 (0,0))) ∧ Aside0 (wc.heap[gb351]? = some (.cells #[.int .i64 x352000_205,.int .i64 x352001_205] 31 (0,0))) ∧ Aside0 (Below w.heap.size w wc))
         case first =>
          have H:=HC206.out;clear HC206;by_cases c219 : t353 = true
          ·subst c219
           have H1 : (gangsawref03_Meet.j3 kj157 x351000_157 x351001_157 t348 t349) = some r:=by rw [if_pos rfl] at H;exact H
           clear H;have H:=H1;clear H1;have H':=am H;clear H;have hnb220:=NB336_333.out;have hnc220:=NB333_336.out;have hnb221:=NB336_334.out;have hnc221:=NB334_336.out;have hnb222:=NB336_335.out;have hnc222:=NB335_336.out;have hnb223:=NB336_350.out;have hnc223:=NB350_336.out;have hnb224:=NB336_351.out;have hnc224:=NB351_336.out;obtain ⟨hcz225_0,hcz225_1,hfz225_0,hfz225_1⟩ := c2_ BK336.out;have hnb226:=NB351_333.out;have hnc226:=NB333_351.out;have hnb227:=NB351_334.out;have hnc227:=NB334_351.out;have hnb228:=NB351_335.out;have hnc228:=NB335_351.out;have hnb229:=NB351_350.out;have hnc229:=NB350_351.out;obtain ⟨hcz230_0,hcz230_1,hfz230_0,hfz230_1⟩ := c2_ BK351.out
           go_wp2
           go_meet
           case rel=>exact ⟨_,(t348),(t349),H',⟨by have:=HJ4.out;have:=HJ125.out;have:=HJ157.out;first|omega|exact Nat.le_refl _⟩,⟨by (with_reducible repeat (first|apply bN|apply bD|apply bA));refine blk_far ?_ NB333_351.out _;(with_reducible repeat (first|apply bN|apply bD|apply bA));refine blk_far ?_ NB333_351.out _;(with_reducible repeat (first|apply bN|apply bD|apply bA));exact BK333.out⟩,⟨by (with_reducible repeat (first|apply bN|apply bD|apply bA));refine blk_far ?_ NB334_351.out _;(with_reducible repeat (first|apply bN|apply bD|apply bA));refine blk_far ?_ NB334_351.out _;(with_reducible repeat (first|apply bN|apply bD|apply bA));exact BK334.out⟩,⟨by (with_reducible repeat (first|apply bN|apply bD|apply bA));refine blk_far ?_ NB335_351.out _;(with_reducible repeat (first|apply bN|apply bD|apply bA));refine blk_far ?_ NB335_351.out _;(with_reducible repeat (first|apply bN|apply bD|apply bA));exact BK335.out⟩,⟨by (with_reducible repeat (first|apply bN|apply bD|apply bA));refine blk_far ?_ NB336_351.out _;(with_reducible repeat (first|apply bN|apply bD|apply bA));refine blk_far ?_ NB336_351.out _;(with_reducible repeat (first|apply bN|apply bD|apply bA));exact BK336.out⟩,⟨by (with_reducible repeat (first|apply bN|apply bD|apply bA));refine blk_far ?_ NB350_351.out _;(with_reducible repeat (first|apply bN|apply bD|apply bA));refine blk_far ?_ NB350_351.out _;(with_reducible repeat (first|apply bN|apply bD|apply bA));exact BK350.out⟩,⟨by (with_reducible repeat (first|apply bN|apply bD|apply bA));refine blk_put (cs:=#[.int .i64 t348,.int .i64 t345]) ?_ 1 _ rfl;(with_reducible repeat (first|apply bN|apply bD|apply bA));refine blk_put (cs:=#[.int .i64 t344,.int .i64 t345]) ?_ 0 _ rfl;(with_reducible repeat (first|apply bN|apply bD|apply bA));exact BK351.out⟩,⟨by repeat (first|(with_reducible first|exact HB.out|apply lA|apply lN|apply lD|refine lS ?_ GE333.out|refine lS ?_ GE334.out|refine lS ?_ GE335.out|refine lS ?_ GE336.out|refine lS ?_ GE350.out|refine lS ?_ GE351.out)|exact HB.out)⟩⟩
          ·replace c219:=Bool.eq_false_iff.mpr c219;subst c219
           have H1 : (gangsawref03_Meet.j3 kj157 x351000_157 x351001_157 t344 t345) = some r:=by rw [if_neg (show ¬ (false = true) by decide)] at H;exact H
           clear H;have H:=H1;clear H1;have H':=am H;clear H
           go_wp2
           go_meet
           case rel=>exact ⟨_,(t344),(t345),H',⟨by have:=HJ4.out;have:=HJ125.out;have:=HJ157.out;first|omega|exact Nat.le_refl _⟩,⟨bq BK333.out⟩,⟨bq BK334.out⟩,⟨bq BK335.out⟩,⟨bq BK336.out⟩,⟨bq BK350.out⟩,⟨bq BK351.out⟩,⟨by repeat (first|(with_reducible first|exact HB.out|apply lA|apply lN|apply lD|refine lS ?_ GE333.out|refine lS ?_ GE334.out|refine lS ?_ GE335.out|refine lS ?_ GE336.out|refine lS ?_ GE350.out|refine lS ?_ GE351.out)|exact HB.out)⟩⟩
         case rest =>
          clear HC206
          try clear c1
          try clear c2
          try clear p2
          try clear c7
          try clear c15
          try clear c16
          try clear c18
          try clear c19
          try clear c20
          try clear c21
          try clear c22
          try clear c76
          try clear c77
          try clear c154
          try clear c159
          try clear c160
          try clear c161
          try clear c163
          try clear c164
          try clear c169
          try clear c184
          try clear c185
          try clear c186
          try clear c187
          try clear c188
          try clear c190
          try clear c193
          try clear c194
          try clear c195
          try clear c196
          try clear c197
          try clear c198
          try clear c200
          try clear c201
          try clear c202
          try clear c203
          try clear c207
          try clear c208
          try clear c209
          try clear c210
          try clear c211
          try clear c213
          try clear c214
          try clear c215
          try clear c216
          try clear c219
          try clear c220
          try clear c221
          try clear c222
          try clear c223
          try clear c224
          try clear c226
          try clear c227
          try clear c228
          try clear c229
          try clear hcz162_0
          try clear hcz162_1
          try clear hcz165_0
          try clear hcz165_1
          try clear hcz167_0
          try clear hcz167_1
          try clear hcz168_0
          try clear hcz168_1
          try clear hcz170_0
          try clear hcz170_1
          try clear hcz171_0
          try clear hcz171_1
          try clear hcz173_0
          try clear hcz173_1
          try clear hcz174_0
          try clear hcz174_1
          try clear hcz189_0
          try clear hcz189_1
          try clear hcz191_0
          try clear hcz191_1
          try clear hcz199_0
          try clear hcz199_1
          try clear hcz204_0
          try clear hcz204_1
          try clear hcz212_0
          try clear hcz212_1
          try clear hcz217_0
          try clear hcz217_1
          try clear hcz225_0
          try clear hcz225_1
          try clear hcz230_0
          try clear hcz230_1
          try clear hfz142_1
          try clear hfz147_0
          try clear hfz147_1
          try clear hfz14_0
          try clear hfz14_1
          try clear hfz150_0
          try clear hfz150_1
          try clear hfz152_0
          try clear hfz152_1
          try clear hfz162_0
          try clear hfz162_1
          try clear hfz165_0
          try clear hfz165_1
          try clear hfz167_0
          try clear hfz167_1
          try clear hfz168_0
          try clear hfz168_1
          try clear hfz170_0
          try clear hfz170_1
          try clear hfz171_0
          try clear hfz171_1
          try clear hfz173_0
          try clear hfz173_1
          try clear hfz174_0
          try clear hfz174_1
          try clear hfz17_0
          try clear hfz17_1
          try clear hfz189_0
          try clear hfz189_1
          try clear hfz191_0
          try clear hfz191_1
          try clear hfz199_0
          try clear hfz199_1
          try clear hfz204_0
          try clear hfz204_1
          try clear hfz212_0
          try clear hfz212_1
          try clear hfz217_0
          try clear hfz217_1
          try clear hfz21_0
          try clear hfz21_1
          try clear hfz225_0
          try clear hfz225_1
          try clear hfz230_0
          try clear hfz230_1
          try clear hfz24_0
          try clear hfz24_1
          try clear hfz26_0
          try clear hfz26_1
          try clear hfz27_0
          try clear hfz27_1
          try clear hfz35_0
          try clear hfz35_1
          try clear hfz38_0
          try clear hfz38_1
          try clear hfz40_0
          try clear hfz40_1
          try clear hfz41_0
          try clear hfz41_1
          try clear hfz49_0
          try clear hfz49_1
          try clear hfz52_0
          try clear hfz52_1
          try clear hfz54_0
          try clear hfz54_1
          try clear hfz55_0
          try clear hfz55_1
          try clear hfz57_0
          try clear hfz57_1
          try clear hfz58_0
          try clear hfz58_1
          try clear hfz59_0
          try clear hfz59_1
          try clear hfz60_0
          try clear hfz60_1
          try clear hfz65_0
          try clear hfz65_1
          try clear hfz68_0
          try clear hfz68_1
          try clear hfz70_0
          try clear hfz70_1
          try clear hfz71_0
          try clear hfz71_1
          try clear hfz73_0
          try clear hfz73_1
          try clear hfz74_0
          try clear hfz74_1
          try clear hfz75_0
          try clear hfz75_1
          try clear hfz76_0
          try clear hfz76_1
          try clear hfz81_0
          try clear hfz81_1
          try clear hfz84_0
          try clear hfz84_1
          try clear hfz86_0
          try clear hfz86_1
          try clear hfz87_0
          try clear hfz87_1
          try clear hfz89_0
          try clear hfz89_1
          try clear hfz90_0
          try clear hfz90_1
          try clear hfz97_0
          try clear hfz97_1
          try clear p2
          obtain ⟨kq,x352000_205,x352001_205,HA,HJ205,BK333,BK334,BK335,BK336,BK350,BK351,HB⟩ := hcut
          cases kq with
          | zero=>exact absurd HA.out (by simp [gangsawref03_Meet.j3])
          | succ kj205 =>
           have H:=HA.out;clear HA;simp only [gangsawref03_Meet.j3] at H;replace H:=Option.bind_eq_some_iff.mp H;obtain ⟨t354,A2310,H⟩ := H;replace H : (if t354 = true then (some 2) else (if (x351000_157 == x352000_205 && (x351001_157 == x352001_205)) = true then (some 1) else (some 0))) = some r:=H;have A231:=am A2310;clear A2310;by_cases c232 : t354 = true
           ·subst c232
            have H1 : (some 2) = some r:=by rw [if_pos rfl] at H;exact H
            clear H;have H:=H1;clear H1;obtain rfl:=Option.some.inj H;have hnb233:=NB350_333.out;have hnc233:=NB333_350.out;have hnb234:=NB350_334.out;have hnc234:=NB334_350.out;have hnb235:=NB350_335.out;have hnc235:=NB335_350.out;have hnb236:=NB350_336.out;have hnc236:=NB336_350.out;have hnb237:=NB350_351.out;have hnc237:=NB351_350.out;obtain ⟨hcz238_0,hcz238_1,hfz238_0,hfz238_1⟩ := c2_ BK350.out;have hnb239:=NB351_333.out;have hnc239:=NB333_351.out;have hnb240:=NB351_334.out;have hnc240:=NB334_351.out;have hnb241:=NB351_335.out;have hnc241:=NB335_351.out;have hnb242:=NB351_336.out;have hnc242:=NB336_351.out;obtain ⟨hcz243_0,hcz243_1,hfz243_0,hfz243_1⟩ := c2_ BK351.out
            go_wp2_with (first|((with_reducible refine gate_callee (f:=77) rfl ?_);refine goesL_ (some 75) rfl rfl Try.func77 (by kernel_rfl) rfl #[.agg #[.int .i64 x351000_157,.int .i64 x351001_157],.agg #[.int .i64 x352000_205,.int .i64 x352001_205]] rfl (by (try simp only [mT,mC,mN]);first|done|rfl|(simp only [lDr,lTk];rfl)) ?_;(with_reducible refine (gangsawref03_before.calls x351000_157 x351001_157 x352000_205 x352001_205 true _ A231.out).mono ?_);rintro e w244 ⟨rfl,hb⟩;refine ⟨_,rfl, ?_⟩;replace BK333:=bba BK333 hb;replace BK334:=bba BK334 hb;replace BK335:=bba BK335 hb;replace BK336:=bba BK336 hb;replace BK350:=bba BK350 hb;replace BK351:=bba BK351 hb;replace HB:=bsa HB hb;(try clear hb);(try clear hb2);(try clear hk);(try clear hi)))
            go_ret
            exact ⟨by first|rfl|(simp [errW_none,errW_some] <;> rfl)|(simp [*,errW_none,errW_some] <;> rfl),by repeat (first|(with_reducible first|exact HB.out|apply lA|apply lN|apply lD|refine lS ?_ GE333.out|refine lS ?_ GE334.out|refine lS ?_ GE335.out|refine lS ?_ GE336.out|refine lS ?_ GE350.out|refine lS ?_ GE351.out)|exact HB.out)⟩
           ·replace c232:=Bool.eq_false_iff.mpr c232;subst c232
            have H1 : (if (x351000_157 == x352000_205 && (x351001_157 == x352001_205)) = true then (some 1) else (some 0)) = some r:=by rw [if_neg (show ¬ (false = true) by decide)] at H;exact H
            clear H;have H:=H1;clear H1;by_cases c245 : (x351000_157 == x352000_205 && (x351001_157 == x352001_205)) = true
            ·rw [if_pos c245] at H;have c245b0 : (x351000_157 == x352000_205 && (x351001_157 == x352001_205)) = true:=c245;(try (have c245b1 : decide (x351000_157 = x352000_205 && (x351001_157 == x352001_205)) = true:=by simpa using c245));(try (have c245b2 : (x351000_157 == x352000_205 && (x351001_157 == x352001_205)) = true:=by simpa using c245));clear c245;obtain rfl:=Option.some.inj H;have hnb246:=NB350_333.out;have hnc246:=NB333_350.out;have hnb247:=NB350_334.out;have hnc247:=NB334_350.out;have hnb248:=NB350_335.out;have hnc248:=NB335_350.out;have hnb249:=NB350_336.out;have hnc249:=NB336_350.out;have hnb250:=NB350_351.out;have hnc250:=NB351_350.out;obtain ⟨hcz251_0,hcz251_1,hfz251_0,hfz251_1⟩ := c2_ BK350.out;have hnb252:=NB351_333.out;have hnc252:=NB333_351.out;have hnb253:=NB351_334.out;have hnc253:=NB334_351.out;have hnb254:=NB351_335.out;have hnc254:=NB335_351.out;have hnb255:=NB351_336.out;have hnc255:=NB336_351.out;obtain ⟨hcz256_0,hcz256_1,hfz256_0,hfz256_1⟩ := c2_ BK351.out
             go_wp2_with (first|((with_reducible refine gate_callee (f:=77) rfl ?_);refine goesL_ (some 75) rfl rfl Try.func77 (by kernel_rfl) rfl #[.agg #[.int .i64 x351000_157,.int .i64 x351001_157],.agg #[.int .i64 x352000_205,.int .i64 x352001_205]] rfl (by (try simp only [mT,mC,mN]);first|done|rfl|(simp only [lDr,lTk];rfl)) ?_;(with_reducible refine (gangsawref03_before.calls x351000_157 x351001_157 x352000_205 x352001_205 false _ A231.out).mono ?_);rintro e w257 ⟨rfl,hb⟩;refine ⟨_,rfl, ?_⟩;replace BK333:=bba BK333 hb;replace BK334:=bba BK334 hb;replace BK335:=bba BK335 hb;replace BK336:=bba BK336 hb;replace BK350:=bba BK350 hb;replace BK351:=bba BK351 hb;replace HB:=bsa HB hb;(try clear hb);(try clear hb2);(try clear hk);(try clear hi);obtain ⟨hcz258_0,hcz258_1,hfz258_0,hfz258_1⟩ := c2_ BK350.out;obtain ⟨hcz259_0,hcz259_1,hfz259_0,hfz259_1⟩ := c2_ BK351.out))
             go_ret
             exact ⟨by first|rfl|(simp [errW_none,errW_some] <;> rfl)|(simp [*,errW_none,errW_some] <;> rfl),by repeat (first|(with_reducible first|exact HB.out|apply lA|apply lN|apply lD|refine lS ?_ GE333.out|refine lS ?_ GE334.out|refine lS ?_ GE335.out|refine lS ?_ GE336.out|refine lS ?_ GE350.out|refine lS ?_ GE351.out)|exact HB.out)⟩
            ·rw [if_neg c245] at H
             have c245b0 : (x351000_157 == x352000_205 && (x351001_157 == x352001_205)) = false:=by simpa using c245
             (try (have c245b1 : decide (x351000_157 = x352000_205 && (x351001_157 == x352001_205)) = false:=by simpa using c245));(try (have c245b2 : (x351000_157 == x352000_205 && (x351001_157 == x352001_205)) = false:=by simpa using c245));(try (have c245b3 : ¬ (x351000_157 = x352000_205 && (x351001_157 == x352001_205)):=by simpa using c245));clear c245;obtain rfl:=Option.some.inj H;have hnb260:=NB350_333.out;have hnc260:=NB333_350.out;have hnb261:=NB350_334.out;have hnc261:=NB334_350.out;have hnb262:=NB350_335.out;have hnc262:=NB335_350.out;have hnb263:=NB350_336.out;have hnc263:=NB336_350.out;have hnb264:=NB350_351.out;have hnc264:=NB351_350.out;obtain ⟨hcz265_0,hcz265_1,hfz265_0,hfz265_1⟩ := c2_ BK350.out;have hnb266:=NB351_333.out;have hnc266:=NB333_351.out;have hnb267:=NB351_334.out;have hnc267:=NB334_351.out;have hnb268:=NB351_335.out;have hnc268:=NB335_351.out;have hnb269:=NB351_336.out;have hnc269:=NB336_351.out;obtain ⟨hcz270_0,hcz270_1,hfz270_0,hfz270_1⟩ := c2_ BK351.out
             go_wp2_with (first|((with_reducible refine gate_callee (f:=77) rfl ?_);refine goesL_ (some 75) rfl rfl Try.func77 (by kernel_rfl) rfl #[.agg #[.int .i64 x351000_157,.int .i64 x351001_157],.agg #[.int .i64 x352000_205,.int .i64 x352001_205]] rfl (by (try simp only [mT,mC,mN]);first|done|rfl|(simp only [lDr,lTk];rfl)) ?_;(with_reducible refine (gangsawref03_before.calls x351000_157 x351001_157 x352000_205 x352001_205 false _ A231.out).mono ?_);rintro e w271 ⟨rfl,hb⟩;refine ⟨_,rfl, ?_⟩;replace BK333:=bba BK333 hb;replace BK334:=bba BK334 hb;replace BK335:=bba BK335 hb;replace BK336:=bba BK336 hb;replace BK350:=bba BK350 hb;replace BK351:=bba BK351 hb;replace HB:=bsa HB hb;(try clear hb);(try clear hb2);(try clear hk);(try clear hi);obtain ⟨hcz272_0,hcz272_1,hfz272_0,hfz272_1⟩ := c2_ BK350.out;obtain ⟨hcz273_0,hcz273_1,hfz273_0,hfz273_1⟩ := c2_ BK351.out))
             go_ret
             exact ⟨by first|rfl|(simp [errW_none,errW_some] <;> rfl)|(simp [*,errW_none,errW_some] <;> rfl),by repeat (first|(with_reducible first|exact HB.out|apply lA|apply lN|apply lD|refine lS ?_ GE333.out|refine lS ?_ GE334.out|refine lS ?_ GE335.out|refine lS ?_ GE336.out|refine lS ?_ GE350.out|refine lS ?_ GE351.out)|exact HB.out)⟩
      ·replace c154:=Bool.eq_false_iff.mpr c154;subst c154
       have H1 : ((gangsawref03_Turn.f a0_0 a0_1 a1_0 a1_1 a2_0 a2_1).bind fun t355=>((gangsawref03_Turn.f a0_0 a0_1 a1_0 a1_1 a3_0 a3_1).bind fun t356=>(if (wrap64 (t355 * t356)) ≤ 0 then ((gangsawref03_Turn.f a2_0 a2_1 a3_0 a3_1 a0_0 a0_1).bind fun t357=>((gangsawref03_Turn.f a2_0 a2_1 a3_0 a3_1 a1_0 a1_1).bind fun t358=>(if (wrap64 (t357 * t358)) ≤ 0 then (some 1) else (some 0)))) else (some 0)))) = some r:=by rw [if_neg (show ¬ (false = true) by decide)] at H;exact H
       clear H;have H:=H1;clear H1;replace H:=Option.bind_eq_some_iff.mp H;obtain ⟨t355,A2740,H⟩ := H;replace H : ((gangsawref03_Turn.f a0_0 a0_1 a1_0 a1_1 a3_0 a3_1).bind fun t356=>(if (wrap64 (t355 * t356)) ≤ 0 then ((gangsawref03_Turn.f a2_0 a2_1 a3_0 a3_1 a0_0 a0_1).bind fun t357=>((gangsawref03_Turn.f a2_0 a2_1 a3_0 a3_1 a1_0 a1_1).bind fun t358=>(if (wrap64 (t357 * t358)) ≤ 0 then (some 1) else (some 0)))) else (some 0))) = some r:=H;have A274:=am A2740;clear A2740;replace H:=Option.bind_eq_some_iff.mp H;obtain ⟨t356,A2750,H⟩ := H;replace H : (if (wrap64 (t355 * t356)) ≤ 0 then ((gangsawref03_Turn.f a2_0 a2_1 a3_0 a3_1 a0_0 a0_1).bind fun t357=>((gangsawref03_Turn.f a2_0 a2_1 a3_0 a3_1 a1_0 a1_1).bind fun t358=>(if (wrap64 (t357 * t358)) ≤ 0 then (some 1) else (some 0)))) else (some 0)) = some r:=H;have A275:=am A2750;clear A2750;by_cases c276 : (wrap64 (t355 * t356)) ≤ 0
       ·rw [if_pos c276] at H;have c276b0 : decide ((wrap64 (t355 * t356)) ≤ 0) = true:=decide_eq_true c276;clear c276;replace H:=Option.bind_eq_some_iff.mp H;obtain ⟨t357,A2770,H⟩ := H;replace H : ((gangsawref03_Turn.f a2_0 a2_1 a3_0 a3_1 a1_0 a1_1).bind fun t358=>(if (wrap64 (t357 * t358)) ≤ 0 then (some 1) else (some 0))) = some r:=H;have A277:=am A2770;clear A2770;replace H:=Option.bind_eq_some_iff.mp H;obtain ⟨t358,A2780,H⟩ := H;replace H : (if (wrap64 (t357 * t358)) ≤ 0 then (some 1) else (some 0)) = some r:=H;have A278:=am A2780;clear A2780;by_cases c279 : (wrap64 (t357 * t358)) ≤ 0
        ·rw [if_pos c279] at H;have c279b0 : decide ((wrap64 (t357 * t358)) ≤ 0) = true:=decide_eq_true c279;clear c279;obtain rfl:=Option.some.inj H
         try go_wp2
         replace BK333:=bda BK333;replace BK334:=bda BK334;replace BK335:=bda BK335;replace BK336:=bda BK336;replace HB:=hda HB
         refine start_ (n:=22) (S:=fun w'=>w'.cell? ⟨gb333,0,none⟩ = some (.int .i64 a0_0) ∧ w'.cell? ⟨gb333,1,none⟩ = some (.int .i64 a0_1) ∧ w'.cell? ⟨gb334,0,none⟩ = some (.int .i64 a1_0) ∧ w'.cell? ⟨gb334,1,none⟩ = some (.int .i64 a1_1) ∧ w'.cell? ⟨gb335,0,none⟩ = some (.int .i64 a2_0) ∧ w'.cell? ⟨gb335,1,none⟩ = some (.int .i64 a2_1) ∧ w'.cell? ⟨gb336,0,none⟩ = some (.int .i64 a3_0) ∧ w'.cell? ⟨gb336,1,none⟩ = some (.int .i64 a3_1)) (ds:=[]) #[f_,f_,f_,f_,f_,f_,f_,f_,f_,f_,f_,f_,f_,f_,f_,f_,f_,f_,f_,f_,f_,f_] (by kernel_rfl) rfl rfl ⟨(blk_cell BK333.out 0).trans rfl,(blk_cell BK333.out 1).trans rfl,(blk_cell BK334.out 0).trans rfl,(blk_cell BK334.out 1).trans rfl,(blk_cell BK335.out 0).trans rfl,(blk_cell BK335.out 1).trans rfl,(blk_cell BK336.out 0).trans rfl,(blk_cell BK336.out 1).trans rfl⟩ (fun hHeld=>?_);refine with_tabW gangsawref03_Meet.tab18 gangsawref03_Meet.bits18 (fun HT_ HW_=>?_)
         generalize wc.drew = w280 at BK333 BK334 BK335 BK336 HB hHeld ⊢
         refine ta8_ HT_ HW_ 0 79 (mk_ 22 1) hHeld ?_
         refine ta8_ HT_ HW_ 1 80 (mk_ 22 3) hHeld ?_
         refine ta8_ HT_ HW_ 2 81 (mk_ 22 7) hHeld ?_
         refine ta8_ HT_ HW_ 4 83 (mk_ 22 23) hHeld ?_
         refine ta8_ HT_ HW_ 5 84 (mk_ 22 55) hHeld ?_
         refine ta8_ HT_ HW_ 6 85 (mk_ 22 119) hHeld ?_
         refine one_ (i:=3) (N:=some 82) (mk_ 22 127) rfl rfl (one_of HT_.out (by kernel_rfl)) (by decide) (fun K hK=>?_);refine goes_ Try.func75 (by kernel_rfl) rfl #[.agg #[.int .i64 a0_0,.int .i64 a0_1],.agg #[.int .i64 a1_0,.int .i64 a1_1],.agg #[.int .i64 a2_0,.int .i64 a2_1]] (by rfl) rfl rfl (by (try simp only [mT,mC,mN]);first|done|rfl|(simp only [lDr,lTk];rfl)) ?_
         with_reducible refine (gangsawref03_Turn.calls a0_0 a0_1 a1_0 a1_1 a2_0 a2_1 t355 _ A274.out).mono ?_
         rintro e w281 ⟨rfl,hb⟩;refine ⟨_,rfl, ?_⟩;replace BK333:=bba BK333 hb;replace BK334:=bba BK334 hb;replace BK335:=bba BK335 hb;replace BK336:=bba BK336 hb;replace HB:=bsa HB hb;(try clear hb);(try clear hb2);(try clear hk);(try clear hi)
         refine hK.out _ _ ⟨(blk_cell BK333.out 0).trans rfl,(blk_cell BK333.out 1).trans rfl,(blk_cell BK334.out 0).trans rfl,(blk_cell BK334.out 1).trans rfl,(blk_cell BK335.out 0).trans rfl,(blk_cell BK335.out 1).trans rfl,(blk_cell BK336.out 0).trans rfl,(blk_cell BK336.out 1).trans rfl⟩ (fun hHeld=>?_)
         clear hK K
         refine nm_ 82 ?_
         refine one_ (i:=7) (N:=some 86) (mk_ 22 255) rfl rfl (one_of HT_.out (by kernel_rfl)) (by decide) (fun K hK=>?_);refine goes_ Try.func75 (by kernel_rfl) rfl #[.agg #[.int .i64 a0_0,.int .i64 a0_1],.agg #[.int .i64 a1_0,.int .i64 a1_1],.agg #[.int .i64 a3_0,.int .i64 a3_1]] (by rfl) rfl rfl (by (try simp only [mT,mC,mN]);first|done|rfl|(simp only [lDr,lTk];rfl)) ?_
         with_reducible refine (gangsawref03_Turn.calls a0_0 a0_1 a1_0 a1_1 a3_0 a3_1 t356 _ A275.out).mono ?_
         rintro e w282 ⟨rfl,hb⟩;refine ⟨_,rfl, ?_⟩;replace BK333:=bba BK333 hb;replace BK334:=bba BK334 hb;replace BK335:=bba BK335 hb;replace BK336:=bba BK336 hb;replace HB:=bsa HB hb;(try clear hb);(try clear hb2);(try clear hk);(try clear hi)
         refine hK.out _ _ ⟨(blk_cell BK333.out 0).trans rfl,(blk_cell BK333.out 1).trans rfl,(blk_cell BK334.out 0).trans rfl,(blk_cell BK334.out 1).trans rfl,(blk_cell BK335.out 0).trans rfl,(blk_cell BK335.out 1).trans rfl,(blk_cell BK336.out 0).trans rfl,(blk_cell BK336.out 1).trans rfl⟩ (fun hHeld=>?_)
         clear hK K
         refine nm_ 86 ?_
         refine pu_ HT_ 8 87 (mk_ 22 511) ?_
         refine pu_ HT_ 9 88 (mk_ 22 1023) ?_
         refine pu_ HT_ 10 89 (mk_ 22 2047) ?_
         refine ta8_ HT_ HW_ 11 90 (mk_ 22 4095) hHeld ?_
         refine ta8_ HT_ HW_ 12 91 (mk_ 22 8191) hHeld ?_
         refine ta8_ HT_ HW_ 13 92 (mk_ 22 16383) hHeld ?_
         refine ta8_ HT_ HW_ 15 94 (mk_ 22 49151) hHeld ?_
         refine ta8_ HT_ HW_ 16 95 (mk_ 22 114687) hHeld ?_
         refine ta8_ HT_ HW_ 17 96 (mk_ 22 245759) hHeld ?_
         refine one_ (i:=14) (N:=some 93) (mk_ 22 262143) rfl rfl (one_of HT_.out (by kernel_rfl)) (by decide) (fun K hK=>?_);refine goes_ Try.func75 (by kernel_rfl) rfl #[.agg #[.int .i64 a2_0,.int .i64 a2_1],.agg #[.int .i64 a3_0,.int .i64 a3_1],.agg #[.int .i64 a0_0,.int .i64 a0_1]] (by rfl) rfl rfl (by (try simp only [mT,mC,mN]);first|done|rfl|(simp only [lDr,lTk];rfl)) ?_
         with_reducible refine (gangsawref03_Turn.calls a2_0 a2_1 a3_0 a3_1 a0_0 a0_1 t357 _ A277.out).mono ?_
         rintro e w283 ⟨rfl,hb⟩;refine ⟨_,rfl, ?_⟩;replace BK333:=bba BK333 hb;replace BK334:=bba BK334 hb;replace BK335:=bba BK335 hb;replace BK336:=bba BK336 hb;replace HB:=bsa HB hb;(try clear hb);(try clear hb2);(try clear hk);(try clear hi)
         refine hK.out _ _ ⟨(blk_cell BK333.out 0).trans rfl,(blk_cell BK333.out 1).trans rfl,(blk_cell BK334.out 0).trans rfl,(blk_cell BK334.out 1).trans rfl,(blk_cell BK335.out 0).trans rfl,(blk_cell BK335.out 1).trans rfl,(blk_cell BK336.out 0).trans rfl,(blk_cell BK336.out 1).trans rfl⟩ (fun hHeld=>?_)
         clear hK K
         refine nm_ 93 ?_
         refine one_ (i:=18) (N:=some 97) (mk_ 22 524287) rfl rfl (one_of HT_.out (by kernel_rfl)) (by decide) (fun K hK=>?_);refine goes_ Try.func75 (by kernel_rfl) rfl #[.agg #[.int .i64 a2_0,.int .i64 a2_1],.agg #[.int .i64 a3_0,.int .i64 a3_1],.agg #[.int .i64 a1_0,.int .i64 a1_1]] (by rfl) rfl rfl (by (try simp only [mT,mC,mN]);first|done|rfl|(simp only [lDr,lTk];rfl)) ?_
         with_reducible refine (gangsawref03_Turn.calls a2_0 a2_1 a3_0 a3_1 a1_0 a1_1 t358 _ A278.out).mono ?_
         rintro e w284 ⟨rfl,hb⟩;refine ⟨_,rfl, ?_⟩;replace BK333:=bba BK333 hb;replace BK334:=bba BK334 hb;replace BK335:=bba BK335 hb;replace BK336:=bba BK336 hb;replace HB:=bsa HB hb;(try clear hb);(try clear hb2);(try clear hk);(try clear hi)
         refine hK.out _ _ ⟨(blk_cell BK333.out 0).trans rfl,(blk_cell BK333.out 1).trans rfl,(blk_cell BK334.out 0).trans rfl,(blk_cell BK334.out 1).trans rfl,(blk_cell BK335.out 0).trans rfl,(blk_cell BK335.out 1).trans rfl,(blk_cell BK336.out 0).trans rfl,(blk_cell BK336.out 1).trans rfl⟩ (fun hHeld=>?_)
         clear hK K
         refine nm_ 97 ?_
         refine pu_ HT_ 19 98 (mk_ 22 1048575) ?_
         refine pu_ HT_ 20 99 (mk_ 22 2097151) ?_
         refine pu_ HT_ 21 100 (mk_ 22 4194303) ?_
         refine done_ (done_of HT_.out (by kernel_rfl)) ?_
         try go_wp2
         go_ret
         exact ⟨by first|rfl|(simp [errW_none,errW_some] <;> rfl)|(simp [*,errW_none,errW_some] <;> rfl),by repeat (first|(with_reducible first|exact HB.out|apply lA|apply lN|apply lD|refine lS ?_ GE333.out|refine lS ?_ GE334.out|refine lS ?_ GE335.out|refine lS ?_ GE336.out)|exact HB.out)⟩
        ·rw [if_neg c279] at H;have c279b0 : decide ((wrap64 (t357 * t358)) ≤ 0) = false:=decide_eq_false c279;clear c279;obtain rfl:=Option.some.inj H
         try go_wp2
         replace BK333:=bda BK333;replace BK334:=bda BK334;replace BK335:=bda BK335;replace BK336:=bda BK336;replace HB:=hda HB
         refine start_ (n:=22) (S:=fun w'=>w'.cell? ⟨gb333,0,none⟩ = some (.int .i64 a0_0) ∧ w'.cell? ⟨gb333,1,none⟩ = some (.int .i64 a0_1) ∧ w'.cell? ⟨gb334,0,none⟩ = some (.int .i64 a1_0) ∧ w'.cell? ⟨gb334,1,none⟩ = some (.int .i64 a1_1) ∧ w'.cell? ⟨gb335,0,none⟩ = some (.int .i64 a2_0) ∧ w'.cell? ⟨gb335,1,none⟩ = some (.int .i64 a2_1) ∧ w'.cell? ⟨gb336,0,none⟩ = some (.int .i64 a3_0) ∧ w'.cell? ⟨gb336,1,none⟩ = some (.int .i64 a3_1)) (ds:=[]) #[f_,f_,f_,f_,f_,f_,f_,f_,f_,f_,f_,f_,f_,f_,f_,f_,f_,f_,f_,f_,f_,f_] (by kernel_rfl) rfl rfl ⟨(blk_cell BK333.out 0).trans rfl,(blk_cell BK333.out 1).trans rfl,(blk_cell BK334.out 0).trans rfl,(blk_cell BK334.out 1).trans rfl,(blk_cell BK335.out 0).trans rfl,(blk_cell BK335.out 1).trans rfl,(blk_cell BK336.out 0).trans rfl,(blk_cell BK336.out 1).trans rfl⟩ (fun hHeld=>?_);refine with_tabW gangsawref03_Meet.tab18 gangsawref03_Meet.bits18 (fun HT_ HW_=>?_)
         generalize wc.drew = w285 at BK333 BK334 BK335 BK336 HB hHeld ⊢
         refine ta8_ HT_ HW_ 0 79 (mk_ 22 1) hHeld ?_
         refine ta8_ HT_ HW_ 1 80 (mk_ 22 3) hHeld ?_
         refine ta8_ HT_ HW_ 2 81 (mk_ 22 7) hHeld ?_
         refine ta8_ HT_ HW_ 4 83 (mk_ 22 23) hHeld ?_
         refine ta8_ HT_ HW_ 5 84 (mk_ 22 55) hHeld ?_
         refine ta8_ HT_ HW_ 6 85 (mk_ 22 119) hHeld ?_
         refine one_ (i:=3) (N:=some 82) (mk_ 22 127) rfl rfl (one_of HT_.out (by kernel_rfl)) (by decide) (fun K hK=>?_);refine goes_ Try.func75 (by kernel_rfl) rfl #[.agg #[.int .i64 a0_0,.int .i64 a0_1],.agg #[.int .i64 a1_0,.int .i64 a1_1],.agg #[.int .i64 a2_0,.int .i64 a2_1]] (by rfl) rfl rfl (by (try simp only [mT,mC,mN]);first|done|rfl|(simp only [lDr,lTk];rfl)) ?_
         with_reducible refine (gangsawref03_Turn.calls a0_0 a0_1 a1_0 a1_1 a2_0 a2_1 t355 _ A274.out).mono ?_
         rintro e w286 ⟨rfl,hb⟩;refine ⟨_,rfl, ?_⟩;replace BK333:=bba BK333 hb;replace BK334:=bba BK334 hb;replace BK335:=bba BK335 hb;replace BK336:=bba BK336 hb;replace HB:=bsa HB hb;(try clear hb);(try clear hb2);(try clear hk);(try clear hi)
         refine hK.out _ _ ⟨(blk_cell BK333.out 0).trans rfl,(blk_cell BK333.out 1).trans rfl,(blk_cell BK334.out 0).trans rfl,(blk_cell BK334.out 1).trans rfl,(blk_cell BK335.out 0).trans rfl,(blk_cell BK335.out 1).trans rfl,(blk_cell BK336.out 0).trans rfl,(blk_cell BK336.out 1).trans rfl⟩ (fun hHeld=>?_)
         clear hK K
         refine nm_ 82 ?_
         refine one_ (i:=7) (N:=some 86) (mk_ 22 255) rfl rfl (one_of HT_.out (by kernel_rfl)) (by decide) (fun K hK=>?_);refine goes_ Try.func75 (by kernel_rfl) rfl #[.agg #[.int .i64 a0_0,.int .i64 a0_1],.agg #[.int .i64 a1_0,.int .i64 a1_1],.agg #[.int .i64 a3_0,.int .i64 a3_1]] (by rfl) rfl rfl (by (try simp only [mT,mC,mN]);first|done|rfl|(simp only [lDr,lTk];rfl)) ?_
         with_reducible refine (gangsawref03_Turn.calls a0_0 a0_1 a1_0 a1_1 a3_0 a3_1 t356 _ A275.out).mono ?_
         rintro e w287 ⟨rfl,hb⟩;refine ⟨_,rfl, ?_⟩;replace BK333:=bba BK333 hb;replace BK334:=bba BK334 hb;replace BK335:=bba BK335 hb;replace BK336:=bba BK336 hb;replace HB:=bsa HB hb;(try clear hb);(try clear hb2);(try clear hk);(try clear hi)
         refine hK.out _ _ ⟨(blk_cell BK333.out 0).trans rfl,(blk_cell BK333.out 1).trans rfl,(blk_cell BK334.out 0).trans rfl,(blk_cell BK334.out 1).trans rfl,(blk_cell BK335.out 0).trans rfl,(blk_cell BK335.out 1).trans rfl,(blk_cell BK336.out 0).trans rfl,(blk_cell BK336.out 1).trans rfl⟩ (fun hHeld=>?_)
         clear hK K
         refine nm_ 86 ?_
         refine pu_ HT_ 8 87 (mk_ 22 511) ?_
         refine pu_ HT_ 9 88 (mk_ 22 1023) ?_
         refine pu_ HT_ 10 89 (mk_ 22 2047) ?_
         refine ta8_ HT_ HW_ 11 90 (mk_ 22 4095) hHeld ?_
         refine ta8_ HT_ HW_ 12 91 (mk_ 22 8191) hHeld ?_
         refine ta8_ HT_ HW_ 13 92 (mk_ 22 16383) hHeld ?_
         refine ta8_ HT_ HW_ 15 94 (mk_ 22 49151) hHeld ?_
         refine ta8_ HT_ HW_ 16 95 (mk_ 22 114687) hHeld ?_
         refine ta8_ HT_ HW_ 17 96 (mk_ 22 245759) hHeld ?_
         refine one_ (i:=14) (N:=some 93) (mk_ 22 262143) rfl rfl (one_of HT_.out (by kernel_rfl)) (by decide) (fun K hK=>?_);refine goes_ Try.func75 (by kernel_rfl) rfl #[.agg #[.int .i64 a2_0,.int .i64 a2_1],.agg #[.int .i64 a3_0,.int .i64 a3_1],.agg #[.int .i64 a0_0,.int .i64 a0_1]] (by rfl) rfl rfl (by (try simp only [mT,mC,mN]);first|done|rfl|(simp only [lDr,lTk];rfl)) ?_
         with_reducible refine (gangsawref03_Turn.calls a2_0 a2_1 a3_0 a3_1 a0_0 a0_1 t357 _ A277.out).mono ?_
         rintro e w288 ⟨rfl,hb⟩;refine ⟨_,rfl, ?_⟩;replace BK333:=bba BK333 hb;replace BK334:=bba BK334 hb;replace BK335:=bba BK335 hb;replace BK336:=bba BK336 hb;replace HB:=bsa HB hb;(try clear hb);(try clear hb2);(try clear hk);(try clear hi)
         refine hK.out _ _ ⟨(blk_cell BK333.out 0).trans rfl,(blk_cell BK333.out 1).trans rfl,(blk_cell BK334.out 0).trans rfl,(blk_cell BK334.out 1).trans rfl,(blk_cell BK335.out 0).trans rfl,(blk_cell BK335.out 1).trans rfl,(blk_cell BK336.out 0).trans rfl,(blk_cell BK336.out 1).trans rfl⟩ (fun hHeld=>?_)
         clear hK K
         refine nm_ 93 ?_
         refine one_ (i:=18) (N:=some 97) (mk_ 22 524287) rfl rfl (one_of HT_.out (by kernel_rfl)) (by decide) (fun K hK=>?_);refine goes_ Try.func75 (by kernel_rfl) rfl #[.agg #[.int .i64 a2_0,.int .i64 a2_1],.agg #[.int .i64 a3_0,.int .i64 a3_1],.agg #[.int .i64 a1_0,.int .i64 a1_1]] (by rfl) rfl rfl (by (try simp only [mT,mC,mN]);first|done|rfl|(simp only [lDr,lTk];rfl)) ?_
         with_reducible refine (gangsawref03_Turn.calls a2_0 a2_1 a3_0 a3_1 a1_0 a1_1 t358 _ A278.out).mono ?_
         rintro e w289 ⟨rfl,hb⟩;refine ⟨_,rfl, ?_⟩;replace BK333:=bba BK333 hb;replace BK334:=bba BK334 hb;replace BK335:=bba BK335 hb;replace BK336:=bba BK336 hb;replace HB:=bsa HB hb;(try clear hb);(try clear hb2);(try clear hk);(try clear hi)
         refine hK.out _ _ ⟨(blk_cell BK333.out 0).trans rfl,(blk_cell BK333.out 1).trans rfl,(blk_cell BK334.out 0).trans rfl,(blk_cell BK334.out 1).trans rfl,(blk_cell BK335.out 0).trans rfl,(blk_cell BK335.out 1).trans rfl,(blk_cell BK336.out 0).trans rfl,(blk_cell BK336.out 1).trans rfl⟩ (fun hHeld=>?_)
         clear hK K
         refine nm_ 97 ?_
         refine pu_ HT_ 19 98 (mk_ 22 1048575) ?_
         refine pu_ HT_ 20 99 (mk_ 22 2097151) ?_
         refine pu_ HT_ 21 100 (mk_ 22 4194303) ?_
         refine done_ (done_of HT_.out (by kernel_rfl)) ?_
         try go_wp2
         go_ret
         exact ⟨by first|rfl|(simp [errW_none,errW_some] <;> rfl)|(simp [*,errW_none,errW_some] <;> rfl),by repeat (first|(with_reducible first|exact HB.out|apply lA|apply lN|apply lD|refine lS ?_ GE333.out|refine lS ?_ GE334.out|refine lS ?_ GE335.out|refine lS ?_ GE336.out)|exact HB.out)⟩
       ·rw [if_neg c276] at H;have c276b0 : decide ((wrap64 (t355 * t356)) ≤ 0) = false:=decide_eq_false c276;clear c276;obtain rfl:=Option.some.inj H
        try go_wp2
        replace BK333:=bda BK333;replace BK334:=bda BK334;replace BK335:=bda BK335;replace BK336:=bda BK336;replace HB:=hda HB
        refine start_ (n:=22) (S:=fun w'=>w'.cell? ⟨gb333,0,none⟩ = some (.int .i64 a0_0) ∧ w'.cell? ⟨gb333,1,none⟩ = some (.int .i64 a0_1) ∧ w'.cell? ⟨gb334,0,none⟩ = some (.int .i64 a1_0) ∧ w'.cell? ⟨gb334,1,none⟩ = some (.int .i64 a1_1) ∧ w'.cell? ⟨gb335,0,none⟩ = some (.int .i64 a2_0) ∧ w'.cell? ⟨gb335,1,none⟩ = some (.int .i64 a2_1) ∧ w'.cell? ⟨gb336,0,none⟩ = some (.int .i64 a3_0) ∧ w'.cell? ⟨gb336,1,none⟩ = some (.int .i64 a3_1)) (ds:=[]) #[f_,f_,f_,f_,f_,f_,f_,f_,f_,f_,f_,f_,f_,f_,f_,f_,f_,f_,f_,f_,f_,f_] (by kernel_rfl) rfl rfl ⟨(blk_cell BK333.out 0).trans rfl,(blk_cell BK333.out 1).trans rfl,(blk_cell BK334.out 0).trans rfl,(blk_cell BK334.out 1).trans rfl,(blk_cell BK335.out 0).trans rfl,(blk_cell BK335.out 1).trans rfl,(blk_cell BK336.out 0).trans rfl,(blk_cell BK336.out 1).trans rfl⟩ (fun hHeld=>?_);refine with_tabW gangsawref03_Meet.tab18 gangsawref03_Meet.bits18 (fun HT_ HW_=>?_)
        generalize wc.drew = w290 at BK333 BK334 BK335 BK336 HB hHeld ⊢
        refine ta8_ HT_ HW_ 0 79 (mk_ 22 1) hHeld ?_
        refine ta8_ HT_ HW_ 1 80 (mk_ 22 3) hHeld ?_
        refine ta8_ HT_ HW_ 2 81 (mk_ 22 7) hHeld ?_
        refine ta8_ HT_ HW_ 4 83 (mk_ 22 23) hHeld ?_
        refine ta8_ HT_ HW_ 5 84 (mk_ 22 55) hHeld ?_
        refine ta8_ HT_ HW_ 6 85 (mk_ 22 119) hHeld ?_
        refine one_ (i:=3) (N:=some 82) (mk_ 22 127) rfl rfl (one_of HT_.out (by kernel_rfl)) (by decide) (fun K hK=>?_);refine goes_ Try.func75 (by kernel_rfl) rfl #[.agg #[.int .i64 a0_0,.int .i64 a0_1],.agg #[.int .i64 a1_0,.int .i64 a1_1],.agg #[.int .i64 a2_0,.int .i64 a2_1]] (by rfl) rfl rfl (by (try simp only [mT,mC,mN]);first|done|rfl|(simp only [lDr,lTk];rfl)) ?_
        with_reducible refine (gangsawref03_Turn.calls a0_0 a0_1 a1_0 a1_1 a2_0 a2_1 t355 _ A274.out).mono ?_
        rintro e w291 ⟨rfl,hb⟩;refine ⟨_,rfl, ?_⟩;replace BK333:=bba BK333 hb;replace BK334:=bba BK334 hb;replace BK335:=bba BK335 hb;replace BK336:=bba BK336 hb;replace HB:=bsa HB hb;(try clear hb);(try clear hb2);(try clear hk);(try clear hi)
        refine hK.out _ _ ⟨(blk_cell BK333.out 0).trans rfl,(blk_cell BK333.out 1).trans rfl,(blk_cell BK334.out 0).trans rfl,(blk_cell BK334.out 1).trans rfl,(blk_cell BK335.out 0).trans rfl,(blk_cell BK335.out 1).trans rfl,(blk_cell BK336.out 0).trans rfl,(blk_cell BK336.out 1).trans rfl⟩ (fun hHeld=>?_)
        clear hK K
        refine nm_ 82 ?_
        refine one_ (i:=7) (N:=some 86) (mk_ 22 255) rfl rfl (one_of HT_.out (by kernel_rfl)) (by decide) (fun K hK=>?_);refine goes_ Try.func75 (by kernel_rfl) rfl #[.agg #[.int .i64 a0_0,.int .i64 a0_1],.agg #[.int .i64 a1_0,.int .i64 a1_1],.agg #[.int .i64 a3_0,.int .i64 a3_1]] (by rfl) rfl rfl (by (try simp only [mT,mC,mN]);first|done|rfl|(simp only [lDr,lTk];rfl)) ?_
        with_reducible refine (gangsawref03_Turn.calls a0_0 a0_1 a1_0 a1_1 a3_0 a3_1 t356 _ A275.out).mono ?_
        rintro e w292 ⟨rfl,hb⟩;refine ⟨_,rfl, ?_⟩;replace BK333:=bba BK333 hb;replace BK334:=bba BK334 hb;replace BK335:=bba BK335 hb;replace BK336:=bba BK336 hb;replace HB:=bsa HB hb;(try clear hb);(try clear hb2);(try clear hk);(try clear hi)
        refine hK.out _ _ ⟨(blk_cell BK333.out 0).trans rfl,(blk_cell BK333.out 1).trans rfl,(blk_cell BK334.out 0).trans rfl,(blk_cell BK334.out 1).trans rfl,(blk_cell BK335.out 0).trans rfl,(blk_cell BK335.out 1).trans rfl,(blk_cell BK336.out 0).trans rfl,(blk_cell BK336.out 1).trans rfl⟩ (fun hHeld=>?_)
        clear hK K
        refine nm_ 86 ?_
        refine pu_ HT_ 8 87 (mk_ 22 511) ?_
        refine pu_ HT_ 9 88 (mk_ 22 1023) ?_
        refine pu_ HT_ 10 89 (mk_ 22 2047) ?_
        refine pn_ HT_ 11 90 (mk_ 22 4095) ?_
        refine pn_ HT_ 12 91 (mk_ 22 8191) ?_
        refine pn_ HT_ 13 92 (mk_ 22 16383) ?_
        refine pn_ HT_ 14 93 (mk_ 22 32767) ?_
        refine pn_ HT_ 15 94 (mk_ 22 65535) ?_
        refine pn_ HT_ 16 95 (mk_ 22 131071) ?_
        refine pn_ HT_ 17 96 (mk_ 22 262143) ?_
        refine pn_ HT_ 18 97 (mk_ 22 524287) ?_
        refine pn_ HT_ 19 98 (mk_ 22 1048575) ?_
        refine pn_ HT_ 20 99 (mk_ 22 2097151) ?_
        refine pu_ HT_ 21 100 (mk_ 22 4194303) ?_
        refine done_ (done_of HT_.out (by kernel_rfl)) ?_
        try go_wp2
        go_ret
        exact ⟨by first|rfl|(simp [errW_none,errW_some] <;> rfl)|(simp [*,errW_none,errW_some] <;> rfl),by repeat (first|(with_reducible first|exact HB.out|apply lA|apply lN|apply lD|refine lS ?_ GE333.out|refine lS ?_ GE334.out|refine lS ?_ GE335.out|refine lS ?_ GE336.out)|exact HB.out)⟩
end
end Go.Proofs.Ytnjikioimompnaa.PA
