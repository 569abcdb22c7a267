import Derived.Test.YtbggjmdelnmilaaPAx13
namespace Go.Proofs.Ytbggjmdelnmilaa.PA
open Go.RowKit Go.Proofs.YtbggjmdelnmilaaW.PrintWords Go.Proofs.YtbggjmdelnmilaaW.PrintLast Go.Proofs.YtbggjmdelnmilaaW.PrintMore
attribute [local go_sem] max2_int min2_int max_two min_two max_three min_three max_four min_four
set_option linter.unusedVariables false
set_option linter.unusedSimpArgs false
def gangsawref31_Fits.j0 : Nat → Bool → ByteArray → Int → Int → Int → Int → ByteArray → ByteArray → ByteArray → Int → Int → Int → Int → ByteArray → Bool → Option (Bool × Bool)
 | 0,_,_,_,_,_,_,_,_,_,_,_,_,_,_,_=>none
 | k + 1,x27,x390000,x390001,x390002,x390003,x390004,x390005,x390006,x391000,x391001,x391002,x391003,x391004,x391005,x391006=>if x27 = true then (some (false,false)) else ((gangsawref31_within.f x391001 x391002 x391003 x390001 x390002 x390003).bind fun t391=>(if t391 = true then (some (true,false)) else (if x391006 = true then ((gangsawref31_turned.f x391001 x391002 x391003).bind fun bt392=>((gangsawref31_within.f bt392.1 bt392.2.1 bt392.2.2 x390001 x390002 x390003).bind fun t395=>(if t395 = true then (some (true,true)) else (some (false,false))))) else (some (false,false)))))
def gangsawref31_Fits.f (k : Nat) (a0_0 : ByteArray) (a0_1 : Int) (a0_2 : Int) (a0_3 : Int) (a0_4 : Int) (a0_5 : ByteArray) (a0_6 : ByteArray) (a1_0 : ByteArray) (a1_1 : Int) (a1_2 : Int) (a1_3 : Int) (a1_4 : Int) (a1_5 : ByteArray) (a1_6 : Bool) : Option (Bool × Bool):=if a1_4 = 0 then (if a1_5.toList = ([] : List UInt8) then (gangsawref31_Fits.j0 k false a0_0 a0_1 a0_2 a0_3 a0_4 a0_5 a0_6 a1_0 a1_1 a1_2 a1_3 a1_4 a1_5 a1_6) else (gangsawref31_Fits.j0 k (a1_5.toList != a0_5.toList) a0_0 a0_1 a0_2 a0_3 a0_4 a0_5 a0_6 a1_0 a1_1 a1_2 a1_3 a1_4 a1_5 a1_6)) else (if a1_4 = a0_4 then (if a1_5.toList = ([] : List UInt8) then (gangsawref31_Fits.j0 k false a0_0 a0_1 a0_2 a0_3 a0_4 a0_5 a0_6 a1_0 a1_1 a1_2 a1_3 a1_4 a1_5 a1_6) else (gangsawref31_Fits.j0 k (a1_5.toList != a0_5.toList) a0_0 a0_1 a0_2 a0_3 a0_4 a0_5 a0_6 a1_0 a1_1 a1_2 a1_3 a1_4 a1_5 a1_6)) else (gangsawref31_Fits.j0 k true a0_0 a0_1 a0_2 a0_3 a0_4 a0_5 a0_6 a1_0 a1_1 a1_2 a1_3 a1_4 a1_5 a1_6))
def gangsawref31_Fits.T5 : Bool × List (List Nat × List Nat):=(true,[([],[]),([0],[0]),([1],[1]),([2],[2]),([3,2],[2,3]),([4,2,2],[2,4]),([2],[2]),([6,2],[2,6]),([5,7,5,2],[2,5,7]),([2,8],[2,8])])
def gangsawref31_Fits.B5 : List Nat:=[0,1,3,7,15,31,7,71,255,511]
theorem gangsawref31_Fits.tab5 : rtab .any (opsOf Try.f26 5) = gangsawref31_Fits.T5:=by kernel_rfl
theorem gangsawref31_Fits.bits5 : waitsOk gangsawref31_Fits.T5.2 gangsawref31_Fits.B5 = true:=by kernel_rfl
set_option maxHeartbeats 8000000 in
set_option maxRecDepth 100000 in
theorem gangsawref31_Fits.calls (k : Nat) (a0_0 : ByteArray) (a0_1 : Int) (a0_2 : Int) (a0_3 : Int) (a0_4 : Int) (a0_5 : ByteArray) (a0_6 : ByteArray) (a1_0 : ByteArray) (a1_1 : Int) (a1_2 : Int) (a1_3 : Int) (a1_4 : Int) (a1_5 : ByteArray) (a1_6 : Bool) (r1 : Bool) (r2 : Bool) (w : World) (h : gangsawref31_Fits.f k a0_0 a0_1 a0_2 a0_3 a0_4 a0_5 a0_6 a1_0 a1_1 a1_2 a1_3 a1_4 a1_5 a1_6 = some (r1, r2)) :
  Calls Try.prog 26 #[.agg #[.string a0_0,.int .i64 a0_1,.int .i64 a0_2,.int .i64 a0_3,.int .i64 a0_4,.string a0_5,.string a0_6],.agg #[.string a1_0,.int .i64 a1_1,.int .i64 a1_2,.int .i64 a1_3,.int .i64 a1_4,.string a1_5,.bool a1_6]] w fun e w'=>e = .returned (.tuple #[.bool r1,.bool r2]) ∧ Below w.heap.size w w':=by
 have hu39:=Try.underlying39;have hu26:=Try.underlying26;have hu24:=Try.underlying24;have HB:=am (Below.refl w.heap.size w);have H : (if a1_4 = 0 then (if a1_5.toList = ([] : List UInt8) then (gangsawref31_Fits.j0 k false a0_0 a0_1 a0_2 a0_3 a0_4 a0_5 a0_6 a1_0 a1_1 a1_2 a1_3 a1_4 a1_5 a1_6) else (gangsawref31_Fits.j0 k (a1_5.toList != a0_5.toList) a0_0 a0_1 a0_2 a0_3 a0_4 a0_5 a0_6 a1_0 a1_1 a1_2 a1_3 a1_4 a1_5 a1_6)) else (if a1_4 = a0_4 then (if a1_5.toList = ([] : List UInt8) then (gangsawref31_Fits.j0 k false a0_0 a0_1 a0_2 a0_3 a0_4 a0_5 a0_6 a1_0 a1_1 a1_2 a1_3 a1_4 a1_5 a1_6) else (gangsawref31_Fits.j0 k (a1_5.toList != a0_5.toList) a0_0 a0_1 a0_2 a0_3 a0_4 a0_5 a0_6 a1_0 a1_1 a1_2 a1_3 a1_4 a1_5 a1_6)) else (gangsawref31_Fits.j0 k true a0_0 a0_1 a0_2 a0_3 a0_4 a0_5 a0_6 a1_0 a1_1 a1_2 a1_3 a1_4 a1_5 a1_6))) = some (r1,r2):=h;clear h;have HC3:=am H;clear H
 go_enter Try.func26,Try.ntmps26
 go_upto_region 1 with (first|((with_reducible refine gate_dst (N:=2) rfl ?_);refine be 2 39 (cs:=#[.string a0_0,.int .i64 a0_1,.int .i64 a0_2,.int .i64 a0_3,.int .i64 a0_4,.string a0_5,.string a0_6]) ?_;intro gb389 hg w4 hbox hb;have BK389:=am hbox;have GW389:=bza HB hg;have GE389:=bza HB hg;replace HB:=bsa HB hb;clear hb hbox hg)|((with_reducible refine gate_dst (N:=3) rfl ?_);refine be 3 26 (cs:=#[.string a1_0,.int .i64 a1_1,.int .i64 a1_2,.int .i64 a1_3,.int .i64 a1_4,.string a1_5,.bool a1_6]) ?_;intro gb390 hg w5 hbox hb;have BK390:=am hbox;have GW390:=bza HB hg;have GE390:=bza HB hg;have NB389_390:=bla BK389 hg;have NB390_389:=bga BK389 hg;replace BK389:=bba BK389 hb;replace HB:=bsa HB hb;clear hb hbox hg))
 (try simp only [Act.put,sA,s0,sS])
 go_cut [27] (fun v27 wc=>∃ (kq : Nat) (x27_2 : Bool),v27 = .bool x27_2 ∧ Aside0 (gangsawref31_Fits.j0 kq x27_2 a0_0 a0_1 a0_2 a0_3 a0_4 a0_5 a0_6 a1_0 a1_1 a1_2 a1_3 a1_4 a1_5 a1_6 = some (r1,r2)) ∧ Aside0 (kq ≤ k) ∧ Aside0 (wc.heap[gb389]? = some (.cells #[.string a0_0,.int .i64 a0_1,.int .i64 a0_2,.int .i64 a0_3,.int .i64 a0_4,.string a0_5,.string a0_6] 39 (0,0))) ∧ Aside0 (wc.heap[gb390]? = some (.cells #[.string a1_0,.int .i64 a1_1,.int .i64 a1_2,.int .i64 a1_3,.int .i64 a1_4,.string a1_5,.bool a1_6] 26 (0,0))) ∧ Aside0 (Below w.heap.size w wc))
 case first =>
  have H:=HC3.out;clear HC3;by_cases c6 : a1_4 = 0
  ·rw [if_pos c6] at H;have c6b0 : (a1_4 == 0) = true:=beq_iff_eq.mpr c6;have c6b1 : (a1_4 != 0) = false:=bne_eq_false_iff_eq.mpr c6;clear c6;(first|rw [c6b0]|(simp only [i64_w,i32_w];rw [c6b0])|skip)
   by_cases c7 : a1_5.toList = ([] : List UInt8)
   ·rw [if_pos c7] at H;have c7b0 : (a1_5.toList == ([] : List UInt8)) = true:=beq_iff_eq.mpr c7;have c7b1 : (a1_5.toList != ([] : List UInt8)) = false:=bne_eq_false_iff_eq.mpr c7;clear c7;have H':=am H;clear H;have hnb8:=NB390_389.out;have hnc8:=NB389_390.out;obtain ⟨hcz9_0,hcz9_1,hcz9_2,hcz9_3,hcz9_4,hcz9_5,hcz9_6,hfz9_0,hfz9_1,hfz9_2,hfz9_3,hfz9_4,hfz9_5,hfz9_6⟩ := c7_ BK390.out
    go_wp2
    go_meet
    case rel=>exact ⟨_,(false),(by first|rfl|(simp;done)|(simp [*];done)),H',⟨by first|omega|exact Nat.le_refl _⟩,⟨bq BK389.out⟩,⟨bq BK390.out⟩,⟨by repeat (first|(with_reducible first|exact HB.out|apply lA|apply lN|apply lD|refine lS ?_ GE389.out|refine lS ?_ GE390.out)|exact HB.out)⟩⟩
   ·rw [if_neg c7] at H;have c7b0 : (a1_5.toList == ([] : List UInt8)) = false:=beq_eq_false_iff_ne.mpr c7;have c7b1 : (a1_5.toList != ([] : List UInt8)) = true:=bne_iff_ne.mpr c7;have H':=am H;clear H;have hnb10:=NB390_389.out;have hnc10:=NB389_390.out;obtain ⟨hcz11_0,hcz11_1,hcz11_2,hcz11_3,hcz11_4,hcz11_5,hcz11_6,hfz11_0,hfz11_1,hfz11_2,hfz11_3,hfz11_4,hfz11_5,hfz11_6⟩ := c7_ BK390.out;obtain ⟨hcz12_0,hcz12_1,hcz12_2,hcz12_3,hcz12_4,hcz12_5,hcz12_6,hfz12_0,hfz12_1,hfz12_2,hfz12_3,hfz12_4,hfz12_5,hfz12_6⟩ := c7_ BK389.out
    go_wp2
    go_meet
    case rel=>exact ⟨_,((a1_5.toList != a0_5.toList)),(by first|rfl|(simp;done)|(simp [*];done)),H',⟨by first|omega|exact Nat.le_refl _⟩,⟨bq BK389.out⟩,⟨bq BK390.out⟩,⟨by repeat (first|(with_reducible first|exact HB.out|apply lA|apply lN|apply lD|refine lS ?_ GE389.out|refine lS ?_ GE390.out)|exact HB.out)⟩⟩
  ·rw [if_neg c6] at H;have c6b0 : (a1_4 == 0) = false:=beq_eq_false_iff_ne.mpr c6;have c6b1 : (a1_4 != 0) = true:=bne_iff_ne.mpr c6;(first|rw [c6b0]|(simp only [i64_w,i32_w];rw [c6b0])|skip)
   by_cases c13 : a1_4 = a0_4
   ·rw [if_pos c13] at H;have c13b0 : (a1_4 == a0_4) = true:=beq_iff_eq.mpr c13;have c13b1 : (a1_4 != a0_4) = false:=bne_eq_false_iff_eq.mpr c13;clear c13;by_cases c14 : a1_5.toList = ([] : List UInt8)
    ·rw [if_pos c14] at H;have c14b0 : (a1_5.toList == ([] : List UInt8)) = true:=beq_iff_eq.mpr c14;have c14b1 : (a1_5.toList != ([] : List UInt8)) = false:=bne_eq_false_iff_eq.mpr c14;clear c14;have H':=am H;clear H;have hnb15:=NB390_389.out;have hnc15:=NB389_390.out;obtain ⟨hcz16_0,hcz16_1,hcz16_2,hcz16_3,hcz16_4,hcz16_5,hcz16_6,hfz16_0,hfz16_1,hfz16_2,hfz16_3,hfz16_4,hfz16_5,hfz16_6⟩ := c7_ BK390.out;obtain ⟨hcz17_0,hcz17_1,hcz17_2,hcz17_3,hcz17_4,hcz17_5,hcz17_6,hfz17_0,hfz17_1,hfz17_2,hfz17_3,hfz17_4,hfz17_5,hfz17_6⟩ := c7_ BK389.out
     go_wp2
     go_meet
     case rel=>exact ⟨_,(false),(by first|rfl|(simp;done)|(simp [*];done)),H',⟨by first|omega|exact Nat.le_refl _⟩,⟨bq BK389.out⟩,⟨bq BK390.out⟩,⟨by repeat (first|(with_reducible first|exact HB.out|apply lA|apply lN|apply lD|refine lS ?_ GE389.out|refine lS ?_ GE390.out)|exact HB.out)⟩⟩
    ·rw [if_neg c14] at H;have c14b0 : (a1_5.toList == ([] : List UInt8)) = false:=beq_eq_false_iff_ne.mpr c14;have c14b1 : (a1_5.toList != ([] : List UInt8)) = true:=bne_iff_ne.mpr c14;have H':=am H;clear H;have hnb18:=NB390_389.out;have hnc18:=NB389_390.out;obtain ⟨hcz19_0,hcz19_1,hcz19_2,hcz19_3,hcz19_4,hcz19_5,hcz19_6,hfz19_0,hfz19_1,hfz19_2,hfz19_3,hfz19_4,hfz19_5,hfz19_6⟩ := c7_ BK390.out;obtain ⟨hcz20_0,hcz20_1,hcz20_2,hcz20_3,hcz20_4,hcz20_5,hcz20_6,hfz20_0,hfz20_1,hfz20_2,hfz20_3,hfz20_4,hfz20_5,hfz20_6⟩ := c7_ BK389.out
     go_wp2
     go_meet
     case rel=>exact ⟨_,((a1_5.toList != a0_5.toList)),(by first|rfl|(simp;done)|(simp [*];done)),H',⟨by first|omega|exact Nat.le_refl _⟩,⟨bq BK389.out⟩,⟨bq BK390.out⟩,⟨by repeat (first|(with_reducible first|exact HB.out|apply lA|apply lN|apply lD|refine lS ?_ GE389.out|refine lS ?_ GE390.out)|exact HB.out)⟩⟩
   ·rw [if_neg c13] at H;have c13b0 : (a1_4 == a0_4) = false:=beq_eq_false_iff_ne.mpr c13;have c13b1 : (a1_4 != a0_4) = true:=bne_iff_ne.mpr c13;have H':=am H;clear H;have hnb21:=NB390_389.out;have hnc21:=NB389_390.out;obtain ⟨hcz22_0,hcz22_1,hcz22_2,hcz22_3,hcz22_4,hcz22_5,hcz22_6,hfz22_0,hfz22_1,hfz22_2,hfz22_3,hfz22_4,hfz22_5,hfz22_6⟩ := c7_ BK390.out;obtain ⟨hcz23_0,hcz23_1,hcz23_2,hcz23_3,hcz23_4,hcz23_5,hcz23_6,hfz23_0,hfz23_1,hfz23_2,hfz23_3,hfz23_4,hfz23_5,hfz23_6⟩ := c7_ BK389.out
    go_wp2
    go_meet
    case rel=>exact ⟨_,(true),(by first|rfl|(simp;done)|(simp [*];done)),H',⟨by first|omega|exact Nat.le_refl _⟩,⟨bq BK389.out⟩,⟨bq BK390.out⟩,⟨by repeat (first|(with_reducible first|exact HB.out|apply lA|apply lN|apply lD|refine lS ?_ GE389.out|refine lS ?_ GE390.out)|exact HB.out)⟩⟩
 case rest =>
  clear HC3
  try clear c1
  try clear c2
  try clear p2
  try clear c6
  try clear c6b0
  try clear c6b1
  try clear c7
  try clear c7b0
  try clear c7b1
  try clear c8
  try clear c10
  try clear c13
  try clear c13b0
  try clear c13b1
  try clear c14
  try clear c14b0
  try clear c14b1
  try clear c15
  try clear c18
  try clear c21
  try clear hcz11_0
  try clear hcz11_1
  try clear hcz11_2
  try clear hcz11_3
  try clear hcz11_4
  try clear hcz11_5
  try clear hcz11_6
  try clear hcz12_0
  try clear hcz12_1
  try clear hcz12_2
  try clear hcz12_3
  try clear hcz12_4
  try clear hcz12_5
  try clear hcz12_6
  try clear hcz16_0
  try clear hcz16_1
  try clear hcz16_2
  try clear hcz16_3
  try clear hcz16_4
  try clear hcz16_5
  try clear hcz16_6
  try clear hcz17_0
  try clear hcz17_1
  try clear hcz17_2
  try clear hcz17_3
  try clear hcz17_4
  try clear hcz17_5
  try clear hcz17_6
  try clear hcz19_0
  try clear hcz19_1
  try clear hcz19_2
  try clear hcz19_3
  try clear hcz19_4
  try clear hcz19_5
  try clear hcz19_6
  try clear hcz20_0
  try clear hcz20_1
  try clear hcz20_2
  try clear hcz20_3
  try clear hcz20_4
  try clear hcz20_5
  try clear hcz20_6
  try clear hcz22_0
  try clear hcz22_1
  try clear hcz22_2
  try clear hcz22_3
  try clear hcz22_4
  try clear hcz22_5
  try clear hcz22_6
  try clear hcz23_0
  try clear hcz23_1
  try clear hcz23_2
  try clear hcz23_3
  try clear hcz23_4
  try clear hcz23_5
  try clear hcz23_6
  try clear hcz9_0
  try clear hcz9_1
  try clear hcz9_2
  try clear hcz9_3
  try clear hcz9_4
  try clear hcz9_5
  try clear hcz9_6
  try clear hfz11_0
  try clear hfz11_1
  try clear hfz11_2
  try clear hfz11_3
  try clear hfz11_4
  try clear hfz11_5
  try clear hfz11_6
  try clear hfz12_0
  try clear hfz12_1
  try clear hfz12_2
  try clear hfz12_3
  try clear hfz12_4
  try clear hfz12_5
  try clear hfz12_6
  try clear hfz16_0
  try clear hfz16_1
  try clear hfz16_2
  try clear hfz16_3
  try clear hfz16_4
  try clear hfz16_5
  try clear hfz16_6
  try clear hfz17_0
  try clear hfz17_1
  try clear hfz17_2
  try clear hfz17_3
  try clear hfz17_4
  try clear hfz17_5
  try clear hfz17_6
  try clear hfz19_0
  try clear hfz19_1
  try clear hfz19_2
  try clear hfz19_3
  try clear hfz19_4
  try clear hfz19_5
  try clear hfz19_6
  try clear hfz20_0
  try clear hfz20_1
  try clear hfz20_2
  try clear hfz20_3
  try clear hfz20_4
  try clear hfz20_5
  try clear hfz20_6
  try clear hfz22_0
  try clear hfz22_1
  try clear hfz22_2
  try clear hfz22_3
  try clear hfz22_4
  try clear hfz22_5
  try clear hfz22_6
  try clear hfz23_0
  try clear hfz23_1
  try clear hfz23_2
  try clear hfz23_3
  try clear hfz23_4
  try clear hfz23_5
  try clear hfz23_6
  try clear hfz9_0
  try clear hfz9_1
  try clear hfz9_2
  try clear hfz9_3
  try clear hfz9_4
  try clear hfz9_5
  try clear hfz9_6
  obtain ⟨kq,x27_2,rfl,HA,HJ2,BK389,BK390,HB⟩ := hcut
  cases kq with
  | zero=>exact absurd HA.out (by simp [gangsawref31_Fits.j0])
  | succ kj2 =>
   have H:=HA.out;clear HA;simp only [gangsawref31_Fits.j0] at H;by_cases c24 : x27_2 = true
   ·subst c24
    have H1 : (some (false,false)) = some (r1,r2):=by rw [if_pos rfl] at H;exact H
    clear H;have H:=H1;clear H1;simp only [Option.some.injEq,Prod.mk.injEq] at H;obtain ⟨rfl,rfl⟩ := H
    go_wp2
    go_ret2
    exact ⟨by first|rfl|(simp [errW_none,errW_some] <;> rfl)|(simp [*,errW_none,errW_some] <;> rfl),by repeat (first|(with_reducible first|exact HB.out|apply lA|apply lN|apply lD|refine lS ?_ GE389.out|refine lS ?_ GE390.out)|exact HB.out)⟩
   ·replace c24:=Bool.eq_false_iff.mpr c24;subst c24
    have H1 : ((gangsawref31_within.f a1_1 a1_2 a1_3 a0_1 a0_2 a0_3).bind fun t391=>(if t391 = true then (some (true,false)) else (if a1_6 = true then ((gangsawref31_turned.f a1_1 a1_2 a1_3).bind fun bt392=>((gangsawref31_within.f bt392.1 bt392.2.1 bt392.2.2 a0_1 a0_2 a0_3).bind fun t395=>(if t395 = true then (some (true,true)) else (some (false,false))))) else (some (false,false))))) = some (r1,r2):=by rw [if_neg (show ¬ (false = true) by decide)] at H;exact H
    clear H;have H:=H1;clear H1;replace H:=Option.bind_eq_some_iff.mp H;obtain ⟨t391,A250,H⟩ := H;replace H : (if t391 = true then (some (true,false)) else (if a1_6 = true then ((gangsawref31_turned.f a1_1 a1_2 a1_3).bind fun bt392=>((gangsawref31_within.f bt392.1 bt392.2.1 bt392.2.2 a0_1 a0_2 a0_3).bind fun t395=>(if t395 = true then (some (true,true)) else (some (false,false))))) else (some (false,false)))) = some (r1,r2):=H;have A25:=am A250;clear A250;by_cases c26 : t391 = true
    ·subst c26
     have H1 : (some (true,false)) = some (r1,r2):=by rw [if_pos rfl] at H;exact H
     clear H;have H:=H1;clear H1;simp only [Option.some.injEq,Prod.mk.injEq] at H;obtain ⟨rfl,rfl⟩ := H;have hnb27:=NB390_389.out;have hnc27:=NB389_390.out;obtain ⟨hcz28_0,hcz28_1,hcz28_2,hcz28_3,hcz28_4,hcz28_5,hcz28_6,hfz28_0,hfz28_1,hfz28_2,hfz28_3,hfz28_4,hfz28_5,hfz28_6⟩ := c7_ BK390.out;obtain ⟨hcz29_0,hcz29_1,hcz29_2,hcz29_3,hcz29_4,hcz29_5,hcz29_6,hfz29_0,hfz29_1,hfz29_2,hfz29_3,hfz29_4,hfz29_5,hfz29_6⟩ := c7_ BK389.out
     go_wp2_with (first|((with_reducible refine gate_callee (f:=57) rfl ?_);refine gL 32 Try.func57 #[.agg #[.int .i64 a1_1,.int .i64 a1_2,.int .i64 a1_3],.agg #[.int .i64 a0_1,.int .i64 a0_2,.int .i64 a0_3]] ?_;(with_reducible refine (gangsawref31_within.calls a1_1 a1_2 a1_3 a0_1 a0_2 a0_3 true _ A25.out).mono ?_);rintro e w30 ⟨rfl,hb⟩;refine ⟨_,rfl, ?_⟩;replace BK389:=bba BK389 hb;replace BK390:=bba BK390 hb;replace HB:=bsa HB hb;(try clear hb)))
     go_ret2
     exact ⟨by first|rfl|(simp [errW_none,errW_some] <;> rfl)|(simp [*,errW_none,errW_some] <;> rfl),by repeat (first|(with_reducible first|exact HB.out|apply lA|apply lN|apply lD|refine lS ?_ GE389.out|refine lS ?_ GE390.out)|exact HB.out)⟩
    ·replace c26:=Bool.eq_false_iff.mpr c26;subst c26
     have H1 : (if a1_6 = true then ((gangsawref31_turned.f a1_1 a1_2 a1_3).bind fun bt392=>((gangsawref31_within.f bt392.1 bt392.2.1 bt392.2.2 a0_1 a0_2 a0_3).bind fun t395=>(if t395 = true then (some (true,true)) else (some (false,false))))) else (some (false,false))) = some (r1,r2):=by rw [if_neg (show ¬ (false = true) by decide)] at H;exact H
     clear H;have H:=H1;clear H1;by_cases c31 : a1_6 = true
     ·subst c31
      have H1 : ((gangsawref31_turned.f a1_1 a1_2 a1_3).bind fun bt392=>((gangsawref31_within.f bt392.1 bt392.2.1 bt392.2.2 a0_1 a0_2 a0_3).bind fun t395=>(if t395 = true then (some (true,true)) else (some (false,false))))) = some (r1,r2):=by rw [if_pos rfl] at H;exact H
      clear H;have H:=H1;clear H1;replace H:=Option.bind_eq_some_iff.mp H;obtain ⟨⟨t392,t393,t394⟩,A320,H⟩ := H;replace H : ((gangsawref31_within.f t392 t393 t394 a0_1 a0_2 a0_3).bind fun t395=>(if t395 = true then (some (true,true)) else (some (false,false)))) = some (r1,r2):=H;have A32:=am A320;clear A320;replace H:=Option.bind_eq_some_iff.mp H;obtain ⟨t395,A330,H⟩ := H;replace H : (if t395 = true then (some (true,true)) else (some (false,false))) = some (r1,r2):=H;have A33:=am A330;clear A330;by_cases c34 : t395 = true
      ·subst c34
       have H1 : (some (true,true)) = some (r1,r2):=by rw [if_pos rfl] at H;exact H
       clear H;have H:=H1;clear H1;simp only [Option.some.injEq,Prod.mk.injEq] at H;obtain ⟨rfl,rfl⟩ := H;have hnb35:=NB390_389.out;have hnc35:=NB389_390.out;obtain ⟨hcz36_0,hcz36_1,hcz36_2,hcz36_3,hcz36_4,hcz36_5,hcz36_6,hfz36_0,hfz36_1,hfz36_2,hfz36_3,hfz36_4,hfz36_5,hfz36_6⟩ := c7_ BK390.out;obtain ⟨hcz37_0,hcz37_1,hcz37_2,hcz37_3,hcz37_4,hcz37_5,hcz37_6,hfz37_0,hfz37_1,hfz37_2,hfz37_3,hfz37_4,hfz37_5,hfz37_6⟩ := c7_ BK389.out
       try go_wp2_with (first|((with_reducible refine gate_callee (f:=57) rfl ?_);refine gL 32 Try.func57 #[.agg #[.int .i64 a1_1,.int .i64 a1_2,.int .i64 a1_3],.agg #[.int .i64 a0_1,.int .i64 a0_2,.int .i64 a0_3]] ?_;(with_reducible refine (gangsawref31_within.calls a1_1 a1_2 a1_3 a0_1 a0_2 a0_3 false _ A25.out).mono ?_);rintro e w38 ⟨rfl,hb⟩;refine ⟨_,rfl, ?_⟩;replace BK389:=bba BK389 hb;replace BK390:=bba BK390 hb;replace HB:=bsa HB hb;(try clear hb)))
       replace BK389:=bda BK389;replace BK390:=bda BK390;replace HB:=hda HB
       refine start_ (n:=10) (S:=fun w'=>w'.cell? ⟨gb390,0,none⟩ = some (.string a1_0) ∧ w'.cell? ⟨gb390,1,none⟩ = some (.int .i64 a1_1) ∧ w'.cell? ⟨gb390,2,none⟩ = some (.int .i64 a1_2) ∧ w'.cell? ⟨gb390,3,none⟩ = some (.int .i64 a1_3) ∧ w'.cell? ⟨gb390,4,none⟩ = some (.int .i64 a1_4) ∧ w'.cell? ⟨gb390,5,none⟩ = some (.string a1_5) ∧ w'.cell? ⟨gb390,6,none⟩ = some (.bool true) ∧ w'.cell? ⟨gb389,0,none⟩ = some (.string a0_0) ∧ w'.cell? ⟨gb389,1,none⟩ = some (.int .i64 a0_1) ∧ w'.cell? ⟨gb389,2,none⟩ = some (.int .i64 a0_2) ∧ w'.cell? ⟨gb389,3,none⟩ = some (.int .i64 a0_3) ∧ w'.cell? ⟨gb389,4,none⟩ = some (.int .i64 a0_4) ∧ w'.cell? ⟨gb389,5,none⟩ = some (.string a0_5) ∧ w'.cell? ⟨gb389,6,none⟩ = some (.string a0_6)) (ds:=[]) #[f_,f_,f_,f_,f_,f_,f_,f_,f_,f_] (by kernel_rfl) rfl rfl ⟨(blk_cell BK390.out 0).trans rfl,(blk_cell BK390.out 1).trans rfl,(blk_cell BK390.out 2).trans rfl,(blk_cell BK390.out 3).trans rfl,(blk_cell BK390.out 4).trans rfl,(blk_cell BK390.out 5).trans rfl,(blk_cell BK390.out 6).trans rfl,(blk_cell BK389.out 0).trans rfl,(blk_cell BK389.out 1).trans rfl,(blk_cell BK389.out 2).trans rfl,(blk_cell BK389.out 3).trans rfl,(blk_cell BK389.out 4).trans rfl,(blk_cell BK389.out 5).trans rfl,(blk_cell BK389.out 6).trans rfl⟩ (fun hHeld=>?_);refine with_tabW gangsawref31_Fits.tab5 gangsawref31_Fits.bits5 (fun HT_ HW_=>?_)
       generalize w38.drew = w39 at BK389 BK390 HB hHeld ⊢
       refine pu_ HT_ 0 33 (mk_ 10 1) ?_
       refine ta14_ HT_ HW_ 1 34 (mk_ 10 3) hHeld ?_
       refine pu_ HT_ 2 35 (mk_ 10 7) ?_
       refine pu_ HT_ 3 36 (mk_ 10 15) ?_
       refine pu_ HT_ 6 39 (mk_ 10 79) ?_
       refine ta14_ HT_ HW_ 4 37 (mk_ 10 95) hHeld ?_
       refine ta14_ HT_ HW_ 7 40 (mk_ 10 223) hHeld ?_
       refine one_ (i:=5) (N:=some 38) (mk_ 10 255) rfl rfl (one_of HT_.out (by kernel_rfl)) (by decide) (fun K hK=>?_);refine goes_ Try.func58 (by kernel_rfl) rfl #[.agg #[.int .i64 a1_1,.int .i64 a1_2,.int .i64 a1_3]] (by rfl) rfl rfl (by (try simp only [mT,mC,mN]);first|done|rfl|(simp only [lDr,lTk];rfl)) ?_
       with_reducible refine (gangsawref31_turned.calls a1_1 a1_2 a1_3 t392 t393 t394 _ A32.out).mono ?_
       rintro e w40 ⟨rfl,hb⟩;refine ⟨_,rfl, ?_⟩;replace BK389:=bba BK389 hb;replace BK390:=bba BK390 hb;replace HB:=bsa HB hb;(try clear hb)
       refine hK.out _ _ ⟨(blk_cell BK390.out 0).trans rfl,(blk_cell BK390.out 1).trans rfl,(blk_cell BK390.out 2).trans rfl,(blk_cell BK390.out 3).trans rfl,(blk_cell BK390.out 4).trans rfl,(blk_cell BK390.out 5).trans rfl,(blk_cell BK390.out 6).trans rfl,(blk_cell BK389.out 0).trans rfl,(blk_cell BK389.out 1).trans rfl,(blk_cell BK389.out 2).trans rfl,(blk_cell BK389.out 3).trans rfl,(blk_cell BK389.out 4).trans rfl,(blk_cell BK389.out 5).trans rfl,(blk_cell BK389.out 6).trans rfl⟩ (fun hHeld=>?_)
       clear hK K
       refine nm_ 38 ?_
       refine one_ (i:=8) (N:=some 41) (mk_ 10 511) rfl rfl (one_of HT_.out (by kernel_rfl)) (by decide) (fun K hK=>?_);refine goes_ Try.func57 (by kernel_rfl) rfl #[.agg #[.int .i64 t392,.int .i64 t393,.int .i64 t394],.agg #[.int .i64 a0_1,.int .i64 a0_2,.int .i64 a0_3]] (by rfl) rfl rfl (by (try simp only [mT,mC,mN]);first|done|rfl|(simp only [lDr,lTk];rfl)) ?_
       with_reducible refine (gangsawref31_within.calls t392 t393 t394 a0_1 a0_2 a0_3 true _ A33.out).mono ?_
       rintro e w41 ⟨rfl,hb⟩;refine ⟨_,rfl, ?_⟩;replace BK389:=bba BK389 hb;replace BK390:=bba BK390 hb;replace HB:=bsa HB hb;(try clear hb)
       refine hK.out _ _ ⟨(blk_cell BK390.out 0).trans rfl,(blk_cell BK390.out 1).trans rfl,(blk_cell BK390.out 2).trans rfl,(blk_cell BK390.out 3).trans rfl,(blk_cell BK390.out 4).trans rfl,(blk_cell BK390.out 5).trans rfl,(blk_cell BK390.out 6).trans rfl,(blk_cell BK389.out 0).trans rfl,(blk_cell BK389.out 1).trans rfl,(blk_cell BK389.out 2).trans rfl,(blk_cell BK389.out 3).trans rfl,(blk_cell BK389.out 4).trans rfl,(blk_cell BK389.out 5).trans rfl,(blk_cell BK389.out 6).trans rfl⟩ (fun hHeld=>?_)
       clear hK K
       refine nm_ 41 ?_
       refine pu_ HT_ 9 42 (mk_ 10 1023) ?_
       refine done_ (done_of HT_.out (by kernel_rfl)) ?_
       try go_wp2
       go_ret2
       exact ⟨by first|rfl|(simp [errW_none,errW_some] <;> rfl)|(simp [*,errW_none,errW_some] <;> rfl),by repeat (first|(with_reducible first|exact HB.out|apply lA|apply lN|apply lD|refine lS ?_ GE389.out|refine lS ?_ GE390.out)|exact HB.out)⟩
      ·replace c34:=Bool.eq_false_iff.mpr c34;subst c34
       have H1 : (some (false,false)) = some (r1,r2):=by rw [if_neg (show ¬ (false = true) by decide)] at H;exact H
       clear H;have H:=H1;clear H1;simp only [Option.some.injEq,Prod.mk.injEq] at H;obtain ⟨rfl,rfl⟩ := H;have hnb42:=NB390_389.out;have hnc42:=NB389_390.out;obtain ⟨hcz43_0,hcz43_1,hcz43_2,hcz43_3,hcz43_4,hcz43_5,hcz43_6,hfz43_0,hfz43_1,hfz43_2,hfz43_3,hfz43_4,hfz43_5,hfz43_6⟩ := c7_ BK390.out;obtain ⟨hcz44_0,hcz44_1,hcz44_2,hcz44_3,hcz44_4,hcz44_5,hcz44_6,hfz44_0,hfz44_1,hfz44_2,hfz44_3,hfz44_4,hfz44_5,hfz44_6⟩ := c7_ BK389.out
       try go_wp2_with (first|((with_reducible refine gate_callee (f:=57) rfl ?_);refine gL 32 Try.func57 #[.agg #[.int .i64 a1_1,.int .i64 a1_2,.int .i64 a1_3],.agg #[.int .i64 a0_1,.int .i64 a0_2,.int .i64 a0_3]] ?_;(with_reducible refine (gangsawref31_within.calls a1_1 a1_2 a1_3 a0_1 a0_2 a0_3 false _ A25.out).mono ?_);rintro e w45 ⟨rfl,hb⟩;refine ⟨_,rfl, ?_⟩;replace BK389:=bba BK389 hb;replace BK390:=bba BK390 hb;replace HB:=bsa HB hb;(try clear hb)))
       replace BK389:=bda BK389;replace BK390:=bda BK390;replace HB:=hda HB
       refine start_ (n:=10) (S:=fun w'=>w'.cell? ⟨gb390,0,none⟩ = some (.string a1_0) ∧ w'.cell? ⟨gb390,1,none⟩ = some (.int .i64 a1_1) ∧ w'.cell? ⟨gb390,2,none⟩ = some (.int .i64 a1_2) ∧ w'.cell? ⟨gb390,3,none⟩ = some (.int .i64 a1_3) ∧ w'.cell? ⟨gb390,4,none⟩ = some (.int .i64 a1_4) ∧ w'.cell? ⟨gb390,5,none⟩ = some (.string a1_5) ∧ w'.cell? ⟨gb390,6,none⟩ = some (.bool true) ∧ w'.cell? ⟨gb389,0,none⟩ = some (.string a0_0) ∧ w'.cell? ⟨gb389,1,none⟩ = some (.int .i64 a0_1) ∧ w'.cell? ⟨gb389,2,none⟩ = some (.int .i64 a0_2) ∧ w'.cell? ⟨gb389,3,none⟩ = some (.int .i64 a0_3) ∧ w'.cell? ⟨gb389,4,none⟩ = some (.int .i64 a0_4) ∧ w'.cell? ⟨gb389,5,none⟩ = some (.string a0_5) ∧ w'.cell? ⟨gb389,6,none⟩ = some (.string a0_6)) (ds:=[]) #[f_,f_,f_,f_,f_,f_,f_,f_,f_,f_] (by kernel_rfl) rfl rfl ⟨(blk_cell BK390.out 0).trans rfl,(blk_cell BK390.out 1).trans rfl,(blk_cell BK390.out 2).trans rfl,(blk_cell BK390.out 3).trans rfl,(blk_cell BK390.out 4).trans rfl,(blk_cell BK390.out 5).trans rfl,(blk_cell BK390.out 6).trans rfl,(blk_cell BK389.out 0).trans rfl,(blk_cell BK389.out 1).trans rfl,(blk_cell BK389.out 2).trans rfl,(blk_cell BK389.out 3).trans rfl,(blk_cell BK389.out 4).trans rfl,(blk_cell BK389.out 5).trans rfl,(blk_cell BK389.out 6).trans rfl⟩ (fun hHeld=>?_);refine with_tabW gangsawref31_Fits.tab5 gangsawref31_Fits.bits5 (fun HT_ HW_=>?_)
       generalize w45.drew = w46 at BK389 BK390 HB hHeld ⊢
       refine pu_ HT_ 0 33 (mk_ 10 1) ?_
       refine ta14_ HT_ HW_ 1 34 (mk_ 10 3) hHeld ?_
       refine pu_ HT_ 2 35 (mk_ 10 7) ?_
       refine pu_ HT_ 3 36 (mk_ 10 15) ?_
       refine pu_ HT_ 6 39 (mk_ 10 79) ?_
       refine ta14_ HT_ HW_ 4 37 (mk_ 10 95) hHeld ?_
       refine ta14_ HT_ HW_ 7 40 (mk_ 10 223) hHeld ?_
       refine one_ (i:=5) (N:=some 38) (mk_ 10 255) rfl rfl (one_of HT_.out (by kernel_rfl)) (by decide) (fun K hK=>?_);refine goes_ Try.func58 (by kernel_rfl) rfl #[.agg #[.int .i64 a1_1,.int .i64 a1_2,.int .i64 a1_3]] (by rfl) rfl rfl (by (try simp only [mT,mC,mN]);first|done|rfl|(simp only [lDr,lTk];rfl)) ?_
       with_reducible refine (gangsawref31_turned.calls a1_1 a1_2 a1_3 t392 t393 t394 _ A32.out).mono ?_
       rintro e w47 ⟨rfl,hb⟩;refine ⟨_,rfl, ?_⟩;replace BK389:=bba BK389 hb;replace BK390:=bba BK390 hb;replace HB:=bsa HB hb;(try clear hb)
       refine hK.out _ _ ⟨(blk_cell BK390.out 0).trans rfl,(blk_cell BK390.out 1).trans rfl,(blk_cell BK390.out 2).trans rfl,(blk_cell BK390.out 3).trans rfl,(blk_cell BK390.out 4).trans rfl,(blk_cell BK390.out 5).trans rfl,(blk_cell BK390.out 6).trans rfl,(blk_cell BK389.out 0).trans rfl,(blk_cell BK389.out 1).trans rfl,(blk_cell BK389.out 2).trans rfl,(blk_cell BK389.out 3).trans rfl,(blk_cell BK389.out 4).trans rfl,(blk_cell BK389.out 5).trans rfl,(blk_cell BK389.out 6).trans rfl⟩ (fun hHeld=>?_)
       clear hK K
       refine nm_ 38 ?_
       refine one_ (i:=8) (N:=some 41) (mk_ 10 511) rfl rfl (one_of HT_.out (by kernel_rfl)) (by decide) (fun K hK=>?_);refine goes_ Try.func57 (by kernel_rfl) rfl #[.agg #[.int .i64 t392,.int .i64 t393,.int .i64 t394],.agg #[.int .i64 a0_1,.int .i64 a0_2,.int .i64 a0_3]] (by rfl) rfl rfl (by (try simp only [mT,mC,mN]);first|done|rfl|(simp only [lDr,lTk];rfl)) ?_
       with_reducible refine (gangsawref31_within.calls t392 t393 t394 a0_1 a0_2 a0_3 false _ A33.out).mono ?_
       rintro e w48 ⟨rfl,hb⟩;refine ⟨_,rfl, ?_⟩;replace BK389:=bba BK389 hb;replace BK390:=bba BK390 hb;replace HB:=bsa HB hb;(try clear hb)
       refine hK.out _ _ ⟨(blk_cell BK390.out 0).trans rfl,(blk_cell BK390.out 1).trans rfl,(blk_cell BK390.out 2).trans rfl,(blk_cell BK390.out 3).trans rfl,(blk_cell BK390.out 4).trans rfl,(blk_cell BK390.out 5).trans rfl,(blk_cell BK390.out 6).trans rfl,(blk_cell BK389.out 0).trans rfl,(blk_cell BK389.out 1).trans rfl,(blk_cell BK389.out 2).trans rfl,(blk_cell BK389.out 3).trans rfl,(blk_cell BK389.out 4).trans rfl,(blk_cell BK389.out 5).trans rfl,(blk_cell BK389.out 6).trans rfl⟩ (fun hHeld=>?_)
       clear hK K
       refine nm_ 41 ?_
       refine pu_ HT_ 9 42 (mk_ 10 1023) ?_
       refine done_ (done_of HT_.out (by kernel_rfl)) ?_
       try go_wp2
       go_ret2
       exact ⟨by first|rfl|(simp [errW_none,errW_some] <;> rfl)|(simp [*,errW_none,errW_some] <;> rfl),by repeat (first|(with_reducible first|exact HB.out|apply lA|apply lN|apply lD|refine lS ?_ GE389.out|refine lS ?_ GE390.out)|exact HB.out)⟩
     ·replace c31:=Bool.eq_false_iff.mpr c31;subst c31
      have H1 : (some (false,false)) = some (r1,r2):=by rw [if_neg (show ¬ (false = true) by decide)] at H;exact H
      clear H;have H:=H1;clear H1;simp only [Option.some.injEq,Prod.mk.injEq] at H;obtain ⟨rfl,rfl⟩ := H;have hnb49:=NB390_389.out;have hnc49:=NB389_390.out;obtain ⟨hcz50_0,hcz50_1,hcz50_2,hcz50_3,hcz50_4,hcz50_5,hcz50_6,hfz50_0,hfz50_1,hfz50_2,hfz50_3,hfz50_4,hfz50_5,hfz50_6⟩ := c7_ BK390.out;obtain ⟨hcz51_0,hcz51_1,hcz51_2,hcz51_3,hcz51_4,hcz51_5,hcz51_6,hfz51_0,hfz51_1,hfz51_2,hfz51_3,hfz51_4,hfz51_5,hfz51_6⟩ := c7_ BK389.out
      try go_wp2_with (first|((with_reducible refine gate_callee (f:=57) rfl ?_);refine gL 32 Try.func57 #[.agg #[.int .i64 a1_1,.int .i64 a1_2,.int .i64 a1_3],.agg #[.int .i64 a0_1,.int .i64 a0_2,.int .i64 a0_3]] ?_;(with_reducible refine (gangsawref31_within.calls a1_1 a1_2 a1_3 a0_1 a0_2 a0_3 false _ A25.out).mono ?_);rintro e w52 ⟨rfl,hb⟩;refine ⟨_,rfl, ?_⟩;replace BK389:=bba BK389 hb;replace BK390:=bba BK390 hb;replace HB:=bsa HB hb;(try clear hb)))
      replace BK389:=bda BK389;replace BK390:=bda BK390;replace HB:=hda HB
      refine start_ (n:=10) (S:=fun w'=>w'.cell? ⟨gb390,0,none⟩ = some (.string a1_0) ∧ w'.cell? ⟨gb390,1,none⟩ = some (.int .i64 a1_1) ∧ w'.cell? ⟨gb390,2,none⟩ = some (.int .i64 a1_2) ∧ w'.cell? ⟨gb390,3,none⟩ = some (.int .i64 a1_3) ∧ w'.cell? ⟨gb390,4,none⟩ = some (.int .i64 a1_4) ∧ w'.cell? ⟨gb390,5,none⟩ = some (.string a1_5) ∧ w'.cell? ⟨gb390,6,none⟩ = some (.bool false)) (ds:=[]) #[f_,f_,f_,f_,f_,f_,f_,f_,f_,f_] (by kernel_rfl) rfl rfl ⟨(blk_cell BK390.out 0).trans rfl,(blk_cell BK390.out 1).trans rfl,(blk_cell BK390.out 2).trans rfl,(blk_cell BK390.out 3).trans rfl,(blk_cell BK390.out 4).trans rfl,(blk_cell BK390.out 5).trans rfl,(blk_cell BK390.out 6).trans rfl⟩ (fun hHeld=>?_);refine with_tabW gangsawref31_Fits.tab5 gangsawref31_Fits.bits5 (fun HT_ HW_=>?_)
      generalize w52.drew = w53 at BK389 BK390 HB hHeld ⊢
      refine pu_ HT_ 0 33 (mk_ 10 1) ?_
      refine ta7_ HT_ HW_ 1 34 (mk_ 10 3) hHeld ?_
      refine pu_ HT_ 2 35 (mk_ 10 7) ?_
      refine pn_ HT_ 3 36 (mk_ 10 15) ?_
      refine pn_ HT_ 4 37 (mk_ 10 31) ?_
      refine pn_ HT_ 5 38 (mk_ 10 63) ?_
      refine pn_ HT_ 6 39 (mk_ 10 127) ?_
      refine pn_ HT_ 7 40 (mk_ 10 255) ?_
      refine pn_ HT_ 8 41 (mk_ 10 511) ?_
      refine pu_ HT_ 9 42 (mk_ 10 1023) ?_
      refine done_ (done_of HT_.out (by kernel_rfl)) ?_
      try go_wp2
      go_ret2
      exact ⟨by first|rfl|(simp [errW_none,errW_some] <;> rfl)|(simp [*,errW_none,errW_some] <;> rfl),by repeat (first|(with_reducible first|exact HB.out|apply lA|apply lN|apply lD|refine lS ?_ GE389.out|refine lS ?_ GE390.out)|exact HB.out)⟩
end Go.Proofs.Ytbggjmdelnmilaa.PA
