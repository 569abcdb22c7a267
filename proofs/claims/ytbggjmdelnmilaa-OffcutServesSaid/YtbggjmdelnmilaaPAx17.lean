import Derived.Test.YtbggjmdelnmilaaPAx12
import Derived.Test.YtbggjmdelnmilaaPAx14
namespace Go.Proofs.Ytbggjmdelnmilaa.PA
open Go.RowKit Go.Proofs.YtbggjmdelnmilaaW.PrintWords Go.Proofs.YtbggjmdelnmilaaW.PrintLast Go.Proofs.YtbggjmdelnmilaaW.PrintMore
attribute [local go_sem] max2_int min2_int max_two min_two max_three min_three max_four min_four
set_option linter.unusedVariables false
set_option linter.unusedSimpArgs false
def gangsawref31_Best.l0 : Nat → List (S39) → Int → Int → ByteArray → Int → Int → Int → Int → ByteArray → Bool → Option (Int)
 | 0,_,_,_,_,_,_,_,_,_,_=>none
 | k + 1,x0,x5,x6,x477000,x477001,x477002,x477003,x477004,x477005,x477006=>if x6 < (x0.length : Int) then (if 0 ≤ x6 then ((gangsawref31_Fits.f k ((rd_T39 x0 x6).f0) ((rd_T39 x0 x6).f1.f0) ((rd_T39 x0 x6).f1.f1) ((rd_T39 x0 x6).f1.f2) ((rd_T39 x0 x6).f2) ((rd_T39 x0 x6).f3) ((rd_T39 x0 x6).f4) x477000 x477001 x477002 x477003 x477004 x477005 x477006).bind fun bt478=>(if bt478.1 = true then (if x5 < 0 then (gangsawref31_Best.l0 k x0 x6 (wrap64 (x6 + 1)) x477000 x477001 x477002 x477003 x477004 x477005 x477006) else ((gangsawref31_Product.f ((rd_T39 x0 x6).f1.f0) ((rd_T39 x0 x6).f1.f1) ((rd_T39 x0 x6).f1.f2)).bind fun t481=>(if 0 ≤ x5 then (if x5 < (x0.length : Int) then ((gangsawref31_Product.f ((rd_T39 x0 x5).f1.f0) ((rd_T39 x0 x5).f1.f1) ((rd_T39 x0 x5).f1.f2)).bind fun t483=>(if t481 < t483 then (gangsawref31_Best.l0 k x0 x6 (wrap64 (x6 + 1)) x477000 x477001 x477002 x477003 x477004 x477005 x477006) else (gangsawref31_Best.l0 k x0 x5 (wrap64 (x6 + 1)) x477000 x477001 x477002 x477003 x477004 x477005 x477006))) else (none)) else (none)))) else (gangsawref31_Best.l0 k x0 x5 (wrap64 (x6 + 1)) x477000 x477001 x477002 x477003 x477004 x477005 x477006))) else (none)) else (some x5)
def gangsawref31_Best.f (k : Nat) (l0 : List (S39)) (a1_0 : ByteArray) (a1_1 : Int) (a1_2 : Int) (a1_3 : Int) (a1_4 : Int) (a1_5 : ByteArray) (a1_6 : Bool) : Option (Int):=gangsawref31_Best.l0 k l0 (-1) 0 a1_0 a1_1 a1_2 a1_3 a1_4 a1_5 a1_6
def gangsawref31_Best.T5 : Bool × List (List Nat × List Nat):=(true,[([],[]),([],[]),([0,1],[0,1]),([2],[2]),([],[]),([3,4],[3,4]),([5],[5]),([6],[6]),([6],[6]),([7,5,0,1,2,3,4,5,6,7],[7]),([8,9,0,1,2,3,4,5,6,7,8,9],[8])])
def gangsawref31_Best.B5 : List Nat:=[0,0,3,7,0,31,63,127,127,255,1023]
theorem gangsawref31_Best.tab5 : rtab .any (opsOf Try.f30 5) = gangsawref31_Best.T5:=by kernel_rfl
theorem gangsawref31_Best.bits5 : waitsOk gangsawref31_Best.T5.2 gangsawref31_Best.B5 = true:=by kernel_rfl
def gangsawref31_Best.T6 : Bool × List (List Nat × List Nat):=(true,[([],[]),([0],[0]),([1],[1]),([2,1],[1,2]),([3,1,1],[1,3]),([4],[4]),([4],[4]),([5,6,4],[4,5,6]),([7,4],[4,7]),([8,4],[4,8]),([9,4,4],[4,9]),([4],[4]),([4],[4]),([11,12,4],[4,11,12]),([13,4],[4,13]),([14,4],[4,14]),([15,10,4],[4,15]),([10,16,4],[4,10,16]),([4,17,1],[1,4,17]),([1,18],[1,18])])
def gangsawref31_Best.B6 : List Nat:=[0,1,3,7,15,31,31,127,255,511,1023,31,31,6175,14367,30751,65535,131071,262143,524287]
theorem gangsawref31_Best.tab6 : rtab .any (opsOf Try.f30 6) = gangsawref31_Best.T6:=by kernel_rfl
theorem gangsawref31_Best.bits6 : waitsOk gangsawref31_Best.T6.2 gangsawref31_Best.B6 = true:=by kernel_rfl
set_option maxHeartbeats 8000000 in
set_option maxRecDepth 100000 in
theorem gangsawref31_Best.calls (k : Nat) (A0 : Option Addr) (c0 : Nat) (l0 : List (S39)) (a1_0 : ByteArray) (a1_1 : Int) (a1_2 : Int) (a1_3 : Int) (a1_4 : Int) (a1_5 : ByteArray) (a1_6 : Bool) (r : Int) (w : World) (hr0 : Kd.C k39 w A0 l0.length l0) (hc0 : l0.length ≤ c0) (h : gangsawref31_Best.f k l0 a1_0 a1_1 a1_2 a1_3 a1_4 a1_5 a1_6 = some r) :
  Calls Try.prog 30 #[.slice A0 l0.length c0,.agg #[.string a1_0,.int .i64 a1_1,.int .i64 a1_2,.int .i64 a1_3,.int .i64 a1_4,.string a1_5,.bool a1_6]] w fun e w'=>e = .returned (.int .i64 r) ∧ Below w.heap.size w w':=by
 have hu26:=Try.underlying26;have hu39:=Try.underlying39;have hu24:=Try.underlying24;have HR0:=am hr0;have HC0:=am hc0;clear hr0 hc0;have HB:=am (Below.refl w.heap.size w);have H : (gangsawref31_Best.l0 k l0 (-1) 0 a1_0 a1_1 a1_2 a1_3 a1_4 a1_5 a1_6) = some r:=h;clear h;have H':=am H;clear H
 go_enter Try.func30,Try.ntmps30
 go_wp2_with (first|((with_reducible refine gate_dst (N:=3) rfl ?_);refine be 3 26 (cs:=#[.string a1_0,.int .i64 a1_1,.int .i64 a1_2,.int .i64 a1_3,.int .i64 a1_4,.string a1_5,.bool a1_6]) ?_;intro gb476 hg w3 hbox hb;have BK476:=am hbox;have GW476:=bza HB hg;have GE476:=bza HB hg;replace HB:=bsa HB hb;clear hb hbox hg))
 go_loopg [5,6] k (fun kq v5 v6 w'=>∃ (x5_1 : Int) (x6_1 : Int),v5 = .int .i64 x5_1 ∧ v6 = .int .i64 x6_1 ∧ Aside0 (gangsawref31_Best.l0 kq l0 x5_1 x6_1 a1_0 a1_1 a1_2 a1_3 a1_4 a1_5 a1_6 = some r) ∧ Aside0 (kq ≤ k) ∧ Aside0 (w'.heap[gb476]? = some (.cells #[.string a1_0,.int .i64 a1_1,.int .i64 a1_2,.int .i64 a1_3,.int .i64 a1_4,.string a1_5,.bool a1_6] 26 (0,0))) ∧ Aside0 (Below w.heap.size w w'))
 case atStart=>exact ⟨((-1)),(0),(by first|rfl|(simp;done)|(simp [*];done)),(by first|rfl|(simp;done)|(simp [*];done)),H',⟨Nat.le_refl _⟩,⟨bq BK476.out⟩,⟨by repeat (first|(with_reducible first|exact HB.out|apply lA|apply lN|apply lD|refine lS ?_ GE476.out)|exact HB.out)⟩⟩
 case round =>
  clear H'
  try clear p2
  try clear c3
  obtain ⟨x5_1,x6_1,rfl,rfl,HA,HK1,BK476,HB⟩ := hrel
  cases gk with
  | zero=>exact absurd HA.out (by simp [gangsawref31_Best.l0])
  | succ k1 =>
   have H:=HA.out;clear HA;simp only [gangsawref31_Best.l0] at H;by_cases c4 : x6_1 < (l0.length : Int)
   ·rw [if_pos c4] at H;have c4b0 : decide (x6_1 < (l0.length : Int)) = true:=decide_eq_true c4;clear c4;by_cases c5 : 0 ≤ x6_1
    ·rw [if_pos c5] at H;have c5b0 : decide (0 ≤ x6_1) = true:=decide_eq_true c5;clear c5;replace H:=Option.bind_eq_some_iff.mp H;obtain ⟨⟨t478,t479⟩,A60,H⟩ := H;replace H : (if t478 = true then (if x5_1 < 0 then (gangsawref31_Best.l0 k1 l0 x6_1 (wrap64 (x6_1 + 1)) a1_0 a1_1 a1_2 a1_3 a1_4 a1_5 a1_6) else ((gangsawref31_Product.f ((rd_T39 l0 x6_1).f1.f0) ((rd_T39 l0 x6_1).f1.f1) ((rd_T39 l0 x6_1).f1.f2)).bind fun t481=>(if 0 ≤ x5_1 then (if x5_1 < (l0.length : Int) then ((gangsawref31_Product.f ((rd_T39 l0 x5_1).f1.f0) ((rd_T39 l0 x5_1).f1.f1) ((rd_T39 l0 x5_1).f1.f2)).bind fun t483=>(if t481 < t483 then (gangsawref31_Best.l0 k1 l0 x6_1 (wrap64 (x6_1 + 1)) a1_0 a1_1 a1_2 a1_3 a1_4 a1_5 a1_6) else (gangsawref31_Best.l0 k1 l0 x5_1 (wrap64 (x6_1 + 1)) a1_0 a1_1 a1_2 a1_3 a1_4 a1_5 a1_6))) else (none)) else (none)))) else (gangsawref31_Best.l0 k1 l0 x5_1 (wrap64 (x6_1 + 1)) a1_0 a1_1 a1_2 a1_3 a1_4 a1_5 a1_6)) = some r:=H;have A6:=am A60;clear A60;by_cases c7 : t478 = true
     ·subst c7
      have H1 : (if x5_1 < 0 then (gangsawref31_Best.l0 k1 l0 x6_1 (wrap64 (x6_1 + 1)) a1_0 a1_1 a1_2 a1_3 a1_4 a1_5 a1_6) else ((gangsawref31_Product.f ((rd_T39 l0 x6_1).f1.f0) ((rd_T39 l0 x6_1).f1.f1) ((rd_T39 l0 x6_1).f1.f2)).bind fun t481=>(if 0 ≤ x5_1 then (if x5_1 < (l0.length : Int) then ((gangsawref31_Product.f ((rd_T39 l0 x5_1).f1.f0) ((rd_T39 l0 x5_1).f1.f1) ((rd_T39 l0 x5_1).f1.f2)).bind fun t483=>(if t481 < t483 then (gangsawref31_Best.l0 k1 l0 x6_1 (wrap64 (x6_1 + 1)) a1_0 a1_1 a1_2 a1_3 a1_4 a1_5 a1_6) else (gangsawref31_Best.l0 k1 l0 x5_1 (wrap64 (x6_1 + 1)) a1_0 a1_1 a1_2 a1_3 a1_4 a1_5 a1_6))) else (none)) else (none)))) = some r:=by rw [if_pos rfl] at H;exact H
      clear H;have H:=H1;clear H1;by_cases c8 : x5_1 < 0
      ·rw [if_pos c8] at H;have c8b0 : decide (x5_1 < 0) = true:=decide_eq_true c8;clear c8;have H':=am H;clear H
       try go_wp2
       replace BK476:=bda BK476;replace HB:=hda HB;have p477 : 0 ≤ (x6_1 : Int):=dt;have q477 : x6_1 < (l0.length : Int):=dt;obtain ⟨ad477,e477,hx477_0,hx477_1,hx477_2,hx477_3,hx477_4,hx477_5,hx477_6⟩ := at_T39 HR0.out x6_1 p477 q477;have hw477_6:=hx477_6;have hw477_5:=hx477_5;have hw477_4:=hx477_4;have hw477_3:=hx477_3;have hw477_2:=hx477_2;have hw477_1:=hx477_1;have hw477_0:=hx477_0
       cases e477
       replace hx477_0:=hc HB hx477_0;replace hx477_1:=hc HB hx477_1;replace hx477_2:=hc HB hx477_2;replace hx477_3:=hc HB hx477_3;replace hx477_4:=hc HB hx477_4;replace hx477_5:=hc HB hx477_5;replace hx477_6:=hc HB hx477_6;replace p477:=eq_true p477;replace q477:=eq_true q477
       refine start_ (n:=11) (S:=fun w'=>w'.cell? ⟨gb476,0,none⟩ = some (.string a1_0) ∧ w'.cell? ⟨gb476,1,none⟩ = some (.int .i64 a1_1) ∧ w'.cell? ⟨gb476,2,none⟩ = some (.int .i64 a1_2) ∧ w'.cell? ⟨gb476,3,none⟩ = some (.int .i64 a1_3) ∧ w'.cell? ⟨gb476,4,none⟩ = some (.int .i64 a1_4) ∧ w'.cell? ⟨gb476,5,none⟩ = some (.string a1_5) ∧ w'.cell? ⟨gb476,6,none⟩ = some (.bool a1_6) ∧ w'.cell? (ad477.add ((x6_1).toNat * 7)) = some (.string ((rd_T39 l0 x6_1).f0)) ∧ w'.cell? ⟨(ad477.add ((x6_1).toNat * 7)).block,(ad477.add ((x6_1).toNat * 7)).off + 1,none⟩ = some (.int .i64 ((rd_T39 l0 x6_1).f1.f0)) ∧ w'.cell? ⟨(ad477.add ((x6_1).toNat * 7)).block,(ad477.add ((x6_1).toNat * 7)).off + 2,none⟩ = some (.int .i64 ((rd_T39 l0 x6_1).f1.f1)) ∧ w'.cell? ⟨(ad477.add ((x6_1).toNat * 7)).block,(ad477.add ((x6_1).toNat * 7)).off + 3,none⟩ = some (.int .i64 ((rd_T39 l0 x6_1).f1.f2)) ∧ w'.cell? ⟨(ad477.add ((x6_1).toNat * 7)).block,(ad477.add ((x6_1).toNat * 7)).off + 4,none⟩ = some (.int .i64 ((rd_T39 l0 x6_1).f2)) ∧ w'.cell? ⟨(ad477.add ((x6_1).toNat * 7)).block,(ad477.add ((x6_1).toNat * 7)).off + 5,none⟩ = some (.string ((rd_T39 l0 x6_1).f3)) ∧ w'.cell? ⟨(ad477.add ((x6_1).toNat * 7)).block,(ad477.add ((x6_1).toNat * 7)).off + 6,none⟩ = some (.string ((rd_T39 l0 x6_1).f4))) (ds:=[]) #[f_,f_,f_,f_,f_,f_,f_,f_,f_,f_,f_] (by kernel_rfl) rfl rfl ⟨(blk_cell BK476.out 0).trans rfl,(blk_cell BK476.out 1).trans rfl,(blk_cell BK476.out 2).trans rfl,(blk_cell BK476.out 3).trans rfl,(blk_cell BK476.out 4).trans rfl,(blk_cell BK476.out 5).trans rfl,(blk_cell BK476.out 6).trans rfl,(hc HB hw477_0),(hc HB hw477_1),(hc HB hw477_2),(hc HB hw477_3),(hc HB hw477_4),(hc HB hw477_5),(hc HB hw477_6)⟩ (fun hHeld=>?_);refine with_tabW gangsawref31_Best.tab5 gangsawref31_Best.bits5 (fun HT_ HW_=>?_)
       generalize wr.drew = w9 at BK476 HB hx477_0 hx477_1 hx477_2 hx477_3 hx477_4 hx477_5 hx477_6 hHeld ⊢
       refine pu_ HT_ 0 16 (mk_ 11 1) ?_
       refine pu_ HT_ 1 17 (mk_ 11 3) ?_
       refine pu_ HT_ 2 18 (mk_ 11 7) ?_
       refine ta14_ HT_ HW_ 3 19 (mk_ 11 15) hHeld ?_
       refine ta14_ HT_ HW_ 4 20 (mk_ 11 31) hHeld ?_
       refine one_ (i:=5) (N:=some 21) (mk_ 11 63) rfl rfl (one_of HT_.out (by kernel_rfl)) (by decide) (fun K hK=>?_);refine goes_ Try.func26 (by kernel_rfl) rfl #[.agg #[.string ((rd_T39 l0 x6_1).f0),.int .i64 ((rd_T39 l0 x6_1).f1.f0),.int .i64 ((rd_T39 l0 x6_1).f1.f1),.int .i64 ((rd_T39 l0 x6_1).f1.f2),.int .i64 ((rd_T39 l0 x6_1).f2),.string ((rd_T39 l0 x6_1).f3),.string ((rd_T39 l0 x6_1).f4)],.agg #[.string a1_0,.int .i64 a1_1,.int .i64 a1_2,.int .i64 a1_3,.int .i64 a1_4,.string a1_5,.bool a1_6]] (by rfl) rfl rfl (by (try simp only [mT,mC,mN]);first|done|rfl|(simp only [lDr,lTk];rfl)) ?_
       with_reducible refine (gangsawref31_Fits.calls k1 ((rd_T39 l0 x6_1).f0) ((rd_T39 l0 x6_1).f1.f0) ((rd_T39 l0 x6_1).f1.f1) ((rd_T39 l0 x6_1).f1.f2) ((rd_T39 l0 x6_1).f2) ((rd_T39 l0 x6_1).f3) ((rd_T39 l0 x6_1).f4) a1_0 a1_1 a1_2 a1_3 a1_4 a1_5 a1_6 true t479 _ A6.out).mono ?_
       rintro e w10 ⟨rfl,hb⟩;refine ⟨_,rfl, ?_⟩;replace BK476:=bba BK476 hb;replace HB:=bsa HB hb;(try clear hb)
       refine hK.out _ _ ⟨(blk_cell BK476.out 0).trans rfl,(blk_cell BK476.out 1).trans rfl,(blk_cell BK476.out 2).trans rfl,(blk_cell BK476.out 3).trans rfl,(blk_cell BK476.out 4).trans rfl,(blk_cell BK476.out 5).trans rfl,(blk_cell BK476.out 6).trans rfl,(hc HB hw477_0),(hc HB hw477_1),(hc HB hw477_2),(hc HB hw477_3),(hc HB hw477_4),(hc HB hw477_5),(hc HB hw477_6)⟩ (fun hHeld=>?_)
       clear hK K
       refine nm_ 21 ?_
       refine pu_ HT_ 6 15 (mk_ 11 127) ?_
       refine pu_ HT_ 7 22 (mk_ 11 255) ?_
       refine pu_ HT_ 8 23 (mk_ 11 511) ?_
       refine pu_ HT_ 9 7 (mk_ 11 1023) ?_
       refine pu_ HT_ 10 8 (mk_ 11 2047) ?_
       refine done_ (done_of HT_.out (by kernel_rfl)) ?_
       try go_wp2
       replace BK476:=bda BK476;replace HB:=hda HB
       refine start_ (n:=20) (S:=fun w'=>True) (ds:=[]) #[f_,f_,f_,f_,f_,f_,f_,f_,f_,f_,f_,f_,f_,f_,f_,f_,f_,f_,f_,f_] (by kernel_rfl) rfl rfl trivial (fun hHeld=>?_);refine with_tabW gangsawref31_Best.tab6 gangsawref31_Best.bits6 (fun HT_ HW_=>?_)
       generalize w10.drew = w11 at BK476 HB hHeld ⊢
       refine pu_ HT_ 0 24 (mk_ 20 1) ?_
       refine pu_ HT_ 1 25 (mk_ 20 3) ?_
       refine pu_ HT_ 2 26 (mk_ 20 7) ?_
       refine pu_ HT_ 3 27 (mk_ 20 15) ?_
       refine pu_ HT_ 4 28 (mk_ 20 31) ?_
       refine pn_ HT_ 5 29 (mk_ 20 63) ?_
       refine pn_ HT_ 6 30 (mk_ 20 127) ?_
       refine pn_ HT_ 7 31 (mk_ 20 255) ?_
       refine pn_ HT_ 8 32 (mk_ 20 511) ?_
       refine pn_ HT_ 9 33 (mk_ 20 1023) ?_
       refine pn_ HT_ 10 34 (mk_ 20 2047) ?_
       refine pn_ HT_ 11 35 (mk_ 20 4095) ?_
       refine pn_ HT_ 12 36 (mk_ 20 8191) ?_
       refine pn_ HT_ 13 37 (mk_ 20 16383) ?_
       refine pn_ HT_ 14 38 (mk_ 20 32767) ?_
       refine pn_ HT_ 15 39 (mk_ 20 65535) ?_
       refine pn_ HT_ 16 40 (mk_ 20 131071) ?_
       refine pn_ HT_ 17 41 (mk_ 20 262143) ?_
       refine pu_ HT_ 18 42 (mk_ 20 524287) ?_
       refine pu_ HT_ 19 43 (mk_ 20 1048575) ?_
       refine done_ (done_of HT_.out (by kernel_rfl)) ?_
       try go_wp2
       go_roundg k1
       case measure=>have:=HK1.out;omega
       case rel=>exact ⟨(x6_1),(wrap64 (x6_1 + 1)),(by first|rfl|(simp;done)|(simp [*];done)),(by first|rfl|(simp;done)|(simp [*];done)),H',⟨by have:=HK1.out;omega⟩,⟨bq BK476.out⟩,⟨by repeat (first|(with_reducible first|exact HB.out|apply lA|apply lN|apply lD|refine lS ?_ GE476.out)|exact HB.out)⟩⟩
      ·rw [if_neg c8] at H;have c8b0 : decide (x5_1 < 0) = false:=decide_eq_false c8;clear c8;replace H:=Option.bind_eq_some_iff.mp H;obtain ⟨t481,A120,H⟩ := H;replace H : (if 0 ≤ x5_1 then (if x5_1 < (l0.length : Int) then ((gangsawref31_Product.f ((rd_T39 l0 x5_1).f1.f0) ((rd_T39 l0 x5_1).f1.f1) ((rd_T39 l0 x5_1).f1.f2)).bind fun t483=>(if t481 < t483 then (gangsawref31_Best.l0 k1 l0 x6_1 (wrap64 (x6_1 + 1)) a1_0 a1_1 a1_2 a1_3 a1_4 a1_5 a1_6) else (gangsawref31_Best.l0 k1 l0 x5_1 (wrap64 (x6_1 + 1)) a1_0 a1_1 a1_2 a1_3 a1_4 a1_5 a1_6))) else (none)) else (none)) = some r:=H;have A12:=am A120;clear A120;by_cases c13 : 0 ≤ x5_1
       ·rw [if_pos c13] at H;have c13b0 : decide (0 ≤ x5_1) = true:=decide_eq_true c13;clear c13;by_cases c14 : x5_1 < (l0.length : Int)
        ·rw [if_pos c14] at H;have c14b0 : decide (x5_1 < (l0.length : Int)) = true:=decide_eq_true c14;clear c14;replace H:=Option.bind_eq_some_iff.mp H;obtain ⟨t483,A150,H⟩ := H;replace H : (if t481 < t483 then (gangsawref31_Best.l0 k1 l0 x6_1 (wrap64 (x6_1 + 1)) a1_0 a1_1 a1_2 a1_3 a1_4 a1_5 a1_6) else (gangsawref31_Best.l0 k1 l0 x5_1 (wrap64 (x6_1 + 1)) a1_0 a1_1 a1_2 a1_3 a1_4 a1_5 a1_6)) = some r:=H;have A15:=am A150;clear A150;by_cases c16 : t481 < t483
         ·rw [if_pos c16] at H;have c16b0 : decide (t481 < t483) = true:=decide_eq_true c16;clear c16;have H':=am H;clear H
          try go_wp2
          replace BK476:=bda BK476;replace HB:=hda HB;have p477 : 0 ≤ (x6_1 : Int):=dt;have q477 : x6_1 < (l0.length : Int):=dt;obtain ⟨ad477,e477,hx477_0,hx477_1,hx477_2,hx477_3,hx477_4,hx477_5,hx477_6⟩ := at_T39 HR0.out x6_1 p477 q477;have hw477_6:=hx477_6;have hw477_5:=hx477_5;have hw477_4:=hx477_4;have hw477_3:=hx477_3;have hw477_2:=hx477_2;have hw477_1:=hx477_1;have hw477_0:=hx477_0
          cases e477
          replace hx477_0:=hc HB hx477_0;replace hx477_1:=hc HB hx477_1;replace hx477_2:=hc HB hx477_2;replace hx477_3:=hc HB hx477_3;replace hx477_4:=hc HB hx477_4;replace hx477_5:=hc HB hx477_5;replace hx477_6:=hc HB hx477_6;replace p477:=eq_true p477;replace q477:=eq_true q477
          refine start_ (n:=11) (S:=fun w'=>w'.cell? ⟨gb476,0,none⟩ = some (.string a1_0) ∧ w'.cell? ⟨gb476,1,none⟩ = some (.int .i64 a1_1) ∧ w'.cell? ⟨gb476,2,none⟩ = some (.int .i64 a1_2) ∧ w'.cell? ⟨gb476,3,none⟩ = some (.int .i64 a1_3) ∧ w'.cell? ⟨gb476,4,none⟩ = some (.int .i64 a1_4) ∧ w'.cell? ⟨gb476,5,none⟩ = some (.string a1_5) ∧ w'.cell? ⟨gb476,6,none⟩ = some (.bool a1_6) ∧ w'.cell? (ad477.add ((x6_1).toNat * 7)) = some (.string ((rd_T39 l0 x6_1).f0)) ∧ w'.cell? ⟨(ad477.add ((x6_1).toNat * 7)).block,(ad477.add ((x6_1).toNat * 7)).off + 1,none⟩ = some (.int .i64 ((rd_T39 l0 x6_1).f1.f0)) ∧ w'.cell? ⟨(ad477.add ((x6_1).toNat * 7)).block,(ad477.add ((x6_1).toNat * 7)).off + 2,none⟩ = some (.int .i64 ((rd_T39 l0 x6_1).f1.f1)) ∧ w'.cell? ⟨(ad477.add ((x6_1).toNat * 7)).block,(ad477.add ((x6_1).toNat * 7)).off + 3,none⟩ = some (.int .i64 ((rd_T39 l0 x6_1).f1.f2)) ∧ w'.cell? ⟨(ad477.add ((x6_1).toNat * 7)).block,(ad477.add ((x6_1).toNat * 7)).off + 4,none⟩ = some (.int .i64 ((rd_T39 l0 x6_1).f2)) ∧ w'.cell? ⟨(ad477.add ((x6_1).toNat * 7)).block,(ad477.add ((x6_1).toNat * 7)).off + 5,none⟩ = some (.string ((rd_T39 l0 x6_1).f3)) ∧ w'.cell? ⟨(ad477.add ((x6_1).toNat * 7)).block,(ad477.add ((x6_1).toNat * 7)).off + 6,none⟩ = some (.string ((rd_T39 l0 x6_1).f4))) (ds:=[]) #[f_,f_,f_,f_,f_,f_,f_,f_,f_,f_,f_] (by kernel_rfl) rfl rfl ⟨(blk_cell BK476.out 0).trans rfl,(blk_cell BK476.out 1).trans rfl,(blk_cell BK476.out 2).trans rfl,(blk_cell BK476.out 3).trans rfl,(blk_cell BK476.out 4).trans rfl,(blk_cell BK476.out 5).trans rfl,(blk_cell BK476.out 6).trans rfl,(hc HB hw477_0),(hc HB hw477_1),(hc HB hw477_2),(hc HB hw477_3),(hc HB hw477_4),(hc HB hw477_5),(hc HB hw477_6)⟩ (fun hHeld=>?_);refine with_tabW gangsawref31_Best.tab5 gangsawref31_Best.bits5 (fun HT_ HW_=>?_)
          generalize wr.drew = w17 at BK476 HB hx477_0 hx477_1 hx477_2 hx477_3 hx477_4 hx477_5 hx477_6 hHeld ⊢
          refine pu_ HT_ 0 16 (mk_ 11 1) ?_
          refine pu_ HT_ 1 17 (mk_ 11 3) ?_
          refine pu_ HT_ 2 18 (mk_ 11 7) ?_
          refine ta14_ HT_ HW_ 3 19 (mk_ 11 15) hHeld ?_
          refine ta14_ HT_ HW_ 4 20 (mk_ 11 31) hHeld ?_
          refine one_ (i:=5) (N:=some 21) (mk_ 11 63) rfl rfl (one_of HT_.out (by kernel_rfl)) (by decide) (fun K hK=>?_);refine goes_ Try.func26 (by kernel_rfl) rfl #[.agg #[.string ((rd_T39 l0 x6_1).f0),.int .i64 ((rd_T39 l0 x6_1).f1.f0),.int .i64 ((rd_T39 l0 x6_1).f1.f1),.int .i64 ((rd_T39 l0 x6_1).f1.f2),.int .i64 ((rd_T39 l0 x6_1).f2),.string ((rd_T39 l0 x6_1).f3),.string ((rd_T39 l0 x6_1).f4)],.agg #[.string a1_0,.int .i64 a1_1,.int .i64 a1_2,.int .i64 a1_3,.int .i64 a1_4,.string a1_5,.bool a1_6]] (by rfl) rfl rfl (by (try simp only [mT,mC,mN]);first|done|rfl|(simp only [lDr,lTk];rfl)) ?_
          with_reducible refine (gangsawref31_Fits.calls k1 ((rd_T39 l0 x6_1).f0) ((rd_T39 l0 x6_1).f1.f0) ((rd_T39 l0 x6_1).f1.f1) ((rd_T39 l0 x6_1).f1.f2) ((rd_T39 l0 x6_1).f2) ((rd_T39 l0 x6_1).f3) ((rd_T39 l0 x6_1).f4) a1_0 a1_1 a1_2 a1_3 a1_4 a1_5 a1_6 true t479 _ A6.out).mono ?_
          rintro e w18 ⟨rfl,hb⟩;refine ⟨_,rfl, ?_⟩;replace BK476:=bba BK476 hb;replace HB:=bsa HB hb;(try clear hb)
          refine hK.out _ _ ⟨(blk_cell BK476.out 0).trans rfl,(blk_cell BK476.out 1).trans rfl,(blk_cell BK476.out 2).trans rfl,(blk_cell BK476.out 3).trans rfl,(blk_cell BK476.out 4).trans rfl,(blk_cell BK476.out 5).trans rfl,(blk_cell BK476.out 6).trans rfl,(hc HB hw477_0),(hc HB hw477_1),(hc HB hw477_2),(hc HB hw477_3),(hc HB hw477_4),(hc HB hw477_5),(hc HB hw477_6)⟩ (fun hHeld=>?_)
          clear hK K
          refine nm_ 21 ?_
          refine pu_ HT_ 6 15 (mk_ 11 127) ?_
          refine pu_ HT_ 7 22 (mk_ 11 255) ?_
          refine pu_ HT_ 8 23 (mk_ 11 511) ?_
          refine pu_ HT_ 9 7 (mk_ 11 1023) ?_
          refine pu_ HT_ 10 8 (mk_ 11 2047) ?_
          refine done_ (done_of HT_.out (by kernel_rfl)) ?_
          try go_wp2
          replace BK476:=bda BK476;replace HB:=hda HB;have p480 : 0 ≤ (x6_1 : Int):=dt;have q480 : x6_1 < (l0.length : Int):=dt;obtain ⟨ad480,e480,hx480_0,hx480_1,hx480_2,hx480_3,hx480_4,hx480_5,hx480_6⟩ := at_T39 HR0.out x6_1 p480 q480;have hw480_6:=hx480_6;have hw480_5:=hx480_5;have hw480_4:=hx480_4;have hw480_3:=hx480_3;have hw480_2:=hx480_2;have hw480_1:=hx480_1;have hw480_0:=hx480_0
          obtain rfl : ad477 = ad480:=(by injection e480)
          replace hx480_0:=hc HB hx480_0;replace hx480_1:=hc HB hx480_1;replace hx480_2:=hc HB hx480_2;replace hx480_3:=hc HB hx480_3;replace hx480_4:=hc HB hx480_4;replace hx480_5:=hc HB hx480_5;replace hx480_6:=hc HB hx480_6;replace p480:=eq_true p480;replace q480:=eq_true q480;have p482 : 0 ≤ (x5_1 : Int):=dt;have q482 : x5_1 < (l0.length : Int):=dt;obtain ⟨ad482,e482,hx482_0,hx482_1,hx482_2,hx482_3,hx482_4,hx482_5,hx482_6⟩ := at_T39 HR0.out x5_1 p482 q482;have hw482_6:=hx482_6;have hw482_5:=hx482_5;have hw482_4:=hx482_4;have hw482_3:=hx482_3;have hw482_2:=hx482_2;have hw482_1:=hx482_1;have hw482_0:=hx482_0
          obtain rfl : ad477 = ad482:=(by injection e482)
          replace hx482_0:=hc HB hx482_0;replace hx482_1:=hc HB hx482_1;replace hx482_2:=hc HB hx482_2;replace hx482_3:=hc HB hx482_3;replace hx482_4:=hc HB hx482_4;replace hx482_5:=hc HB hx482_5;replace hx482_6:=hc HB hx482_6;replace p482:=eq_true p482;replace q482:=eq_true q482
          refine start_ (n:=20) (S:=fun w'=>w'.cell? (ad477.add ((x6_1).toNat * 7)) = some (.string ((rd_T39 l0 x6_1).f0)) ∧ w'.cell? ⟨(ad477.add ((x6_1).toNat * 7)).block,(ad477.add ((x6_1).toNat * 7)).off + 1,none⟩ = some (.int .i64 ((rd_T39 l0 x6_1).f1.f0)) ∧ w'.cell? ⟨(ad477.add ((x6_1).toNat * 7)).block,(ad477.add ((x6_1).toNat * 7)).off + 2,none⟩ = some (.int .i64 ((rd_T39 l0 x6_1).f1.f1)) ∧ w'.cell? ⟨(ad477.add ((x6_1).toNat * 7)).block,(ad477.add ((x6_1).toNat * 7)).off + 3,none⟩ = some (.int .i64 ((rd_T39 l0 x6_1).f1.f2)) ∧ w'.cell? ⟨(ad477.add ((x6_1).toNat * 7)).block,(ad477.add ((x6_1).toNat * 7)).off + 4,none⟩ = some (.int .i64 ((rd_T39 l0 x6_1).f2)) ∧ w'.cell? ⟨(ad477.add ((x6_1).toNat * 7)).block,(ad477.add ((x6_1).toNat * 7)).off + 5,none⟩ = some (.string ((rd_T39 l0 x6_1).f3)) ∧ w'.cell? ⟨(ad477.add ((x6_1).toNat * 7)).block,(ad477.add ((x6_1).toNat * 7)).off + 6,none⟩ = some (.string ((rd_T39 l0 x6_1).f4)) ∧ w'.cell? (ad477.add ((x5_1).toNat * 7)) = some (.string ((rd_T39 l0 x5_1).f0)) ∧ w'.cell? ⟨(ad477.add ((x5_1).toNat * 7)).block,(ad477.add ((x5_1).toNat * 7)).off + 1,none⟩ = some (.int .i64 ((rd_T39 l0 x5_1).f1.f0)) ∧ w'.cell? ⟨(ad477.add ((x5_1).toNat * 7)).block,(ad477.add ((x5_1).toNat * 7)).off + 2,none⟩ = some (.int .i64 ((rd_T39 l0 x5_1).f1.f1)) ∧ w'.cell? ⟨(ad477.add ((x5_1).toNat * 7)).block,(ad477.add ((x5_1).toNat * 7)).off + 3,none⟩ = some (.int .i64 ((rd_T39 l0 x5_1).f1.f2)) ∧ w'.cell? ⟨(ad477.add ((x5_1).toNat * 7)).block,(ad477.add ((x5_1).toNat * 7)).off + 4,none⟩ = some (.int .i64 ((rd_T39 l0 x5_1).f2)) ∧ w'.cell? ⟨(ad477.add ((x5_1).toNat * 7)).block,(ad477.add ((x5_1).toNat * 7)).off + 5,none⟩ = some (.string ((rd_T39 l0 x5_1).f3)) ∧ w'.cell? ⟨(ad477.add ((x5_1).toNat * 7)).block,(ad477.add ((x5_1).toNat * 7)).off + 6,none⟩ = some (.string ((rd_T39 l0 x5_1).f4))) (ds:=[]) #[f_,f_,f_,f_,f_,f_,f_,f_,f_,f_,f_,f_,f_,f_,f_,f_,f_,f_,f_,f_] (by kernel_rfl) rfl rfl ⟨(hc HB hw480_0),(hc HB hw480_1),(hc HB hw480_2),(hc HB hw480_3),(hc HB hw480_4),(hc HB hw480_5),(hc HB hw480_6),(hc HB hw482_0),(hc HB hw482_1),(hc HB hw482_2),(hc HB hw482_3),(hc HB hw482_4),(hc HB hw482_5),(hc HB hw482_6)⟩ (fun hHeld=>?_);refine with_tabW gangsawref31_Best.tab6 gangsawref31_Best.bits6 (fun HT_ HW_=>?_)
          generalize w18.drew = w19 at BK476 HB hx480_0 hx480_1 hx480_2 hx480_3 hx480_4 hx480_5 hx480_6 hx482_0 hx482_1 hx482_2 hx482_3 hx482_4 hx482_5 hx482_6 hHeld ⊢
          refine pu_ HT_ 0 24 (mk_ 20 1) ?_
          refine pu_ HT_ 1 25 (mk_ 20 3) ?_
          refine pu_ HT_ 2 26 (mk_ 20 7) ?_
          refine pu_ HT_ 3 27 (mk_ 20 15) ?_
          refine pu_ HT_ 4 28 (mk_ 20 31) ?_
          refine pu_ HT_ 5 29 (mk_ 20 63) ?_
          refine pu_ HT_ 6 30 (mk_ 20 127) ?_
          refine pu_ HT_ 7 31 (mk_ 20 255) ?_
          refine pu_ HT_ 8 32 (mk_ 20 511) ?_
          refine pu_ HT_ 11 35 (mk_ 20 2559) ?_
          refine pu_ HT_ 12 36 (mk_ 20 6655) ?_
          refine pu_ HT_ 13 37 (mk_ 20 14847) ?_
          refine pu_ HT_ 14 38 (mk_ 20 31231) ?_
          refine ta14_ HT_ HW_ 9 33 (mk_ 20 31743) hHeld ?_
          refine ta14_ HT_ HW_ 15 39 (mk_ 20 64511) hHeld ?_
          refine one_ (i:=10) (N:=some 34) (mk_ 20 65535) rfl rfl (one_of HT_.out (by kernel_rfl)) (by decide) (fun K hK=>?_);refine goes_ Try.func52 (by kernel_rfl) rfl #[.agg #[.int .i64 ((rd_T39 l0 x6_1).f1.f0),.int .i64 ((rd_T39 l0 x6_1).f1.f1),.int .i64 ((rd_T39 l0 x6_1).f1.f2)]] (by rfl) rfl rfl (by (try simp only [mT,mC,mN]);first|done|rfl|(simp only [lDr,lTk];rfl)) ?_
          with_reducible refine (gangsawref31_Product.calls ((rd_T39 l0 x6_1).f1.f0) ((rd_T39 l0 x6_1).f1.f1) ((rd_T39 l0 x6_1).f1.f2) t481 _ A12.out).mono ?_
          rintro e w20 ⟨rfl,hb⟩;refine ⟨_,rfl, ?_⟩;replace BK476:=bba BK476 hb;replace HB:=bsa HB hb;(try clear hb)
          refine hK.out _ _ ⟨(hc HB hw480_0),(hc HB hw480_1),(hc HB hw480_2),(hc HB hw480_3),(hc HB hw480_4),(hc HB hw480_5),(hc HB hw480_6),(hc HB hw482_0),(hc HB hw482_1),(hc HB hw482_2),(hc HB hw482_3),(hc HB hw482_4),(hc HB hw482_5),(hc HB hw482_6)⟩ (fun hHeld=>?_)
          clear hK K
          refine nm_ 34 ?_
          refine one_ (i:=16) (N:=some 40) (mk_ 20 131071) rfl rfl (one_of HT_.out (by kernel_rfl)) (by decide) (fun K hK=>?_);refine goes_ Try.func52 (by kernel_rfl) rfl #[.agg #[.int .i64 ((rd_T39 l0 x5_1).f1.f0),.int .i64 ((rd_T39 l0 x5_1).f1.f1),.int .i64 ((rd_T39 l0 x5_1).f1.f2)]] (by rfl) rfl rfl (by (try simp only [mT,mC,mN]);first|done|rfl|(simp only [lDr,lTk];rfl)) ?_
          with_reducible refine (gangsawref31_Product.calls ((rd_T39 l0 x5_1).f1.f0) ((rd_T39 l0 x5_1).f1.f1) ((rd_T39 l0 x5_1).f1.f2) t483 _ A15.out).mono ?_
          rintro e w21 ⟨rfl,hb⟩;refine ⟨_,rfl, ?_⟩;replace BK476:=bba BK476 hb;replace HB:=bsa HB hb;(try clear hb)
          refine hK.out _ _ ⟨(hc HB hw480_0),(hc HB hw480_1),(hc HB hw480_2),(hc HB hw480_3),(hc HB hw480_4),(hc HB hw480_5),(hc HB hw480_6),(hc HB hw482_0),(hc HB hw482_1),(hc HB hw482_2),(hc HB hw482_3),(hc HB hw482_4),(hc HB hw482_5),(hc HB hw482_6)⟩ (fun hHeld=>?_)
          clear hK K
          refine nm_ 40 ?_
          refine pu_ HT_ 17 41 (mk_ 20 262143) ?_
          refine pu_ HT_ 18 42 (mk_ 20 524287) ?_
          refine pu_ HT_ 19 43 (mk_ 20 1048575) ?_
          refine done_ (done_of HT_.out (by kernel_rfl)) ?_
          try go_wp2
          go_roundg k1
          case measure=>have:=HK1.out;omega
          case rel=>exact ⟨(x6_1),(wrap64 (x6_1 + 1)),(by first|rfl|(simp;done)|(simp [*];done)),(by first|rfl|(simp;done)|(simp [*];done)),H',⟨by have:=HK1.out;omega⟩,⟨bq BK476.out⟩,⟨by repeat (first|(with_reducible first|exact HB.out|apply lA|apply lN|apply lD|refine lS ?_ GE476.out)|exact HB.out)⟩⟩
         ·rw [if_neg c16] at H;have c16b0 : decide (t481 < t483) = false:=decide_eq_false c16;clear c16;have H':=am H;clear H
          try go_wp2
          replace BK476:=bda BK476;replace HB:=hda HB;have p477 : 0 ≤ (x6_1 : Int):=dt;have q477 : x6_1 < (l0.length : Int):=dt;obtain ⟨ad477,e477,hx477_0,hx477_1,hx477_2,hx477_3,hx477_4,hx477_5,hx477_6⟩ := at_T39 HR0.out x6_1 p477 q477;have hw477_6:=hx477_6;have hw477_5:=hx477_5;have hw477_4:=hx477_4;have hw477_3:=hx477_3;have hw477_2:=hx477_2;have hw477_1:=hx477_1;have hw477_0:=hx477_0
          cases e477
          replace hx477_0:=hc HB hx477_0;replace hx477_1:=hc HB hx477_1;replace hx477_2:=hc HB hx477_2;replace hx477_3:=hc HB hx477_3;replace hx477_4:=hc HB hx477_4;replace hx477_5:=hc HB hx477_5;replace hx477_6:=hc HB hx477_6;replace p477:=eq_true p477;replace q477:=eq_true q477
          refine start_ (n:=11) (S:=fun w'=>w'.cell? ⟨gb476,0,none⟩ = some (.string a1_0) ∧ w'.cell? ⟨gb476,1,none⟩ = some (.int .i64 a1_1) ∧ w'.cell? ⟨gb476,2,none⟩ = some (.int .i64 a1_2) ∧ w'.cell? ⟨gb476,3,none⟩ = some (.int .i64 a1_3) ∧ w'.cell? ⟨gb476,4,none⟩ = some (.int .i64 a1_4) ∧ w'.cell? ⟨gb476,5,none⟩ = some (.string a1_5) ∧ w'.cell? ⟨gb476,6,none⟩ = some (.bool a1_6) ∧ w'.cell? (ad477.add ((x6_1).toNat * 7)) = some (.string ((rd_T39 l0 x6_1).f0)) ∧ w'.cell? ⟨(ad477.add ((x6_1).toNat * 7)).block,(ad477.add ((x6_1).toNat * 7)).off + 1,none⟩ = some (.int .i64 ((rd_T39 l0 x6_1).f1.f0)) ∧ w'.cell? ⟨(ad477.add ((x6_1).toNat * 7)).block,(ad477.add ((x6_1).toNat * 7)).off + 2,none⟩ = some (.int .i64 ((rd_T39 l0 x6_1).f1.f1)) ∧ w'.cell? ⟨(ad477.add ((x6_1).toNat * 7)).block,(ad477.add ((x6_1).toNat * 7)).off + 3,none⟩ = some (.int .i64 ((rd_T39 l0 x6_1).f1.f2)) ∧ w'.cell? ⟨(ad477.add ((x6_1).toNat * 7)).block,(ad477.add ((x6_1).toNat * 7)).off + 4,none⟩ = some (.int .i64 ((rd_T39 l0 x6_1).f2)) ∧ w'.cell? ⟨(ad477.add ((x6_1).toNat * 7)).block,(ad477.add ((x6_1).toNat * 7)).off + 5,none⟩ = some (.string ((rd_T39 l0 x6_1).f3)) ∧ w'.cell? ⟨(ad477.add ((x6_1).toNat * 7)).block,(ad477.add ((x6_1).toNat * 7)).off + 6,none⟩ = some (.string ((rd_T39 l0 x6_1).f4))) (ds:=[]) #[f_,f_,f_,f_,f_,f_,f_,f_,f_,f_,f_] (by kernel_rfl) rfl rfl ⟨(blk_cell BK476.out 0).trans rfl,(blk_cell BK476.out 1).trans rfl,(blk_cell BK476.out 2).trans rfl,(blk_cell BK476.out 3).trans rfl,(blk_cell BK476.out 4).trans rfl,(blk_cell BK476.out 5).trans rfl,(blk_cell BK476.out 6).trans rfl,(hc HB hw477_0),(hc HB hw477_1),(hc HB hw477_2),(hc HB hw477_3),(hc HB hw477_4),(hc HB hw477_5),(hc HB hw477_6)⟩ (fun hHeld=>?_);refine with_tabW gangsawref31_Best.tab5 gangsawref31_Best.bits5 (fun HT_ HW_=>?_)
          generalize wr.drew = w22 at BK476 HB hx477_0 hx477_1 hx477_2 hx477_3 hx477_4 hx477_5 hx477_6 hHeld ⊢
          refine pu_ HT_ 0 16 (mk_ 11 1) ?_
          refine pu_ HT_ 1 17 (mk_ 11 3) ?_
          refine pu_ HT_ 2 18 (mk_ 11 7) ?_
          refine ta14_ HT_ HW_ 3 19 (mk_ 11 15) hHeld ?_
          refine ta14_ HT_ HW_ 4 20 (mk_ 11 31) hHeld ?_
          refine one_ (i:=5) (N:=some 21) (mk_ 11 63) rfl rfl (one_of HT_.out (by kernel_rfl)) (by decide) (fun K hK=>?_);refine goes_ Try.func26 (by kernel_rfl) rfl #[.agg #[.string ((rd_T39 l0 x6_1).f0),.int .i64 ((rd_T39 l0 x6_1).f1.f0),.int .i64 ((rd_T39 l0 x6_1).f1.f1),.int .i64 ((rd_T39 l0 x6_1).f1.f2),.int .i64 ((rd_T39 l0 x6_1).f2),.string ((rd_T39 l0 x6_1).f3),.string ((rd_T39 l0 x6_1).f4)],.agg #[.string a1_0,.int .i64 a1_1,.int .i64 a1_2,.int .i64 a1_3,.int .i64 a1_4,.string a1_5,.bool a1_6]] (by rfl) rfl rfl (by (try simp only [mT,mC,mN]);first|done|rfl|(simp only [lDr,lTk];rfl)) ?_
          with_reducible refine (gangsawref31_Fits.calls k1 ((rd_T39 l0 x6_1).f0) ((rd_T39 l0 x6_1).f1.f0) ((rd_T39 l0 x6_1).f1.f1) ((rd_T39 l0 x6_1).f1.f2) ((rd_T39 l0 x6_1).f2) ((rd_T39 l0 x6_1).f3) ((rd_T39 l0 x6_1).f4) a1_0 a1_1 a1_2 a1_3 a1_4 a1_5 a1_6 true t479 _ A6.out).mono ?_
          rintro e w23 ⟨rfl,hb⟩;refine ⟨_,rfl, ?_⟩;replace BK476:=bba BK476 hb;replace HB:=bsa HB hb;(try clear hb)
          refine hK.out _ _ ⟨(blk_cell BK476.out 0).trans rfl,(blk_cell BK476.out 1).trans rfl,(blk_cell BK476.out 2).trans rfl,(blk_cell BK476.out 3).trans rfl,(blk_cell BK476.out 4).trans rfl,(blk_cell BK476.out 5).trans rfl,(blk_cell BK476.out 6).trans rfl,(hc HB hw477_0),(hc HB hw477_1),(hc HB hw477_2),(hc HB hw477_3),(hc HB hw477_4),(hc HB hw477_5),(hc HB hw477_6)⟩ (fun hHeld=>?_)
          clear hK K
          refine nm_ 21 ?_
          refine pu_ HT_ 6 15 (mk_ 11 127) ?_
          refine pu_ HT_ 7 22 (mk_ 11 255) ?_
          refine pu_ HT_ 8 23 (mk_ 11 511) ?_
          refine pu_ HT_ 9 7 (mk_ 11 1023) ?_
          refine pu_ HT_ 10 8 (mk_ 11 2047) ?_
          refine done_ (done_of HT_.out (by kernel_rfl)) ?_
          try go_wp2
          replace BK476:=bda BK476;replace HB:=hda HB;have p480 : 0 ≤ (x6_1 : Int):=dt;have q480 : x6_1 < (l0.length : Int):=dt;obtain ⟨ad480,e480,hx480_0,hx480_1,hx480_2,hx480_3,hx480_4,hx480_5,hx480_6⟩ := at_T39 HR0.out x6_1 p480 q480;have hw480_6:=hx480_6;have hw480_5:=hx480_5;have hw480_4:=hx480_4;have hw480_3:=hx480_3;have hw480_2:=hx480_2;have hw480_1:=hx480_1;have hw480_0:=hx480_0
          obtain rfl : ad477 = ad480:=(by injection e480)
          replace hx480_0:=hc HB hx480_0;replace hx480_1:=hc HB hx480_1;replace hx480_2:=hc HB hx480_2;replace hx480_3:=hc HB hx480_3;replace hx480_4:=hc HB hx480_4;replace hx480_5:=hc HB hx480_5;replace hx480_6:=hc HB hx480_6;replace p480:=eq_true p480;replace q480:=eq_true q480;have p482 : 0 ≤ (x5_1 : Int):=dt;have q482 : x5_1 < (l0.length : Int):=dt;obtain ⟨ad482,e482,hx482_0,hx482_1,hx482_2,hx482_3,hx482_4,hx482_5,hx482_6⟩ := at_T39 HR0.out x5_1 p482 q482;have hw482_6:=hx482_6;have hw482_5:=hx482_5;have hw482_4:=hx482_4;have hw482_3:=hx482_3;have hw482_2:=hx482_2;have hw482_1:=hx482_1;have hw482_0:=hx482_0
          obtain rfl : ad477 = ad482:=(by injection e482)
          replace hx482_0:=hc HB hx482_0;replace hx482_1:=hc HB hx482_1;replace hx482_2:=hc HB hx482_2;replace hx482_3:=hc HB hx482_3;replace hx482_4:=hc HB hx482_4;replace hx482_5:=hc HB hx482_5;replace hx482_6:=hc HB hx482_6;replace p482:=eq_true p482;replace q482:=eq_true q482
          refine start_ (n:=20) (S:=fun w'=>w'.cell? (ad477.add ((x6_1).toNat * 7)) = some (.string ((rd_T39 l0 x6_1).f0)) ∧ w'.cell? ⟨(ad477.add ((x6_1).toNat * 7)).block,(ad477.add ((x6_1).toNat * 7)).off + 1,none⟩ = some (.int .i64 ((rd_T39 l0 x6_1).f1.f0)) ∧ w'.cell? ⟨(ad477.add ((x6_1).toNat * 7)).block,(ad477.add ((x6_1).toNat * 7)).off + 2,none⟩ = some (.int .i64 ((rd_T39 l0 x6_1).f1.f1)) ∧ w'.cell? ⟨(ad477.add ((x6_1).toNat * 7)).block,(ad477.add ((x6_1).toNat * 7)).off + 3,none⟩ = some (.int .i64 ((rd_T39 l0 x6_1).f1.f2)) ∧ w'.cell? ⟨(ad477.add ((x6_1).toNat * 7)).block,(ad477.add ((x6_1).toNat * 7)).off + 4,none⟩ = some (.int .i64 ((rd_T39 l0 x6_1).f2)) ∧ w'.cell? ⟨(ad477.add ((x6_1).toNat * 7)).block,(ad477.add ((x6_1).toNat * 7)).off + 5,none⟩ = some (.string ((rd_T39 l0 x6_1).f3)) ∧ w'.cell? ⟨(ad477.add ((x6_1).toNat * 7)).block,(ad477.add ((x6_1).toNat * 7)).off + 6,none⟩ = some (.string ((rd_T39 l0 x6_1).f4)) ∧ w'.cell? (ad477.add ((x5_1).toNat * 7)) = some (.string ((rd_T39 l0 x5_1).f0)) ∧ w'.cell? ⟨(ad477.add ((x5_1).toNat * 7)).block,(ad477.add ((x5_1).toNat * 7)).off + 1,none⟩ = some (.int .i64 ((rd_T39 l0 x5_1).f1.f0)) ∧ w'.cell? ⟨(ad477.add ((x5_1).toNat * 7)).block,(ad477.add ((x5_1).toNat * 7)).off + 2,none⟩ = some (.int .i64 ((rd_T39 l0 x5_1).f1.f1)) ∧ w'.cell? ⟨(ad477.add ((x5_1).toNat * 7)).block,(ad477.add ((x5_1).toNat * 7)).off + 3,none⟩ = some (.int .i64 ((rd_T39 l0 x5_1).f1.f2)) ∧ w'.cell? ⟨(ad477.add ((x5_1).toNat * 7)).block,(ad477.add ((x5_1).toNat * 7)).off + 4,none⟩ = some (.int .i64 ((rd_T39 l0 x5_1).f2)) ∧ w'.cell? ⟨(ad477.add ((x5_1).toNat * 7)).block,(ad477.add ((x5_1).toNat * 7)).off + 5,none⟩ = some (.string ((rd_T39 l0 x5_1).f3)) ∧ w'.cell? ⟨(ad477.add ((x5_1).toNat * 7)).block,(ad477.add ((x5_1).toNat * 7)).off + 6,none⟩ = some (.string ((rd_T39 l0 x5_1).f4))) (ds:=[]) #[f_,f_,f_,f_,f_,f_,f_,f_,f_,f_,f_,f_,f_,f_,f_,f_,f_,f_,f_,f_] (by kernel_rfl) rfl rfl ⟨(hc HB hw480_0),(hc HB hw480_1),(hc HB hw480_2),(hc HB hw480_3),(hc HB hw480_4),(hc HB hw480_5),(hc HB hw480_6),(hc HB hw482_0),(hc HB hw482_1),(hc HB hw482_2),(hc HB hw482_3),(hc HB hw482_4),(hc HB hw482_5),(hc HB hw482_6)⟩ (fun hHeld=>?_);refine with_tabW gangsawref31_Best.tab6 gangsawref31_Best.bits6 (fun HT_ HW_=>?_)
          generalize w23.drew = w24 at BK476 HB hx480_0 hx480_1 hx480_2 hx480_3 hx480_4 hx480_5 hx480_6 hx482_0 hx482_1 hx482_2 hx482_3 hx482_4 hx482_5 hx482_6 hHeld ⊢
          refine pu_ HT_ 0 24 (mk_ 20 1) ?_
          refine pu_ HT_ 1 25 (mk_ 20 3) ?_
          refine pu_ HT_ 2 26 (mk_ 20 7) ?_
          refine pu_ HT_ 3 27 (mk_ 20 15) ?_
          refine pu_ HT_ 4 28 (mk_ 20 31) ?_
          refine pu_ HT_ 5 29 (mk_ 20 63) ?_
          refine pu_ HT_ 6 30 (mk_ 20 127) ?_
          refine pu_ HT_ 7 31 (mk_ 20 255) ?_
          refine pu_ HT_ 8 32 (mk_ 20 511) ?_
          refine pu_ HT_ 11 35 (mk_ 20 2559) ?_
          refine pu_ HT_ 12 36 (mk_ 20 6655) ?_
          refine pu_ HT_ 13 37 (mk_ 20 14847) ?_
          refine pu_ HT_ 14 38 (mk_ 20 31231) ?_
          refine ta14_ HT_ HW_ 9 33 (mk_ 20 31743) hHeld ?_
          refine ta14_ HT_ HW_ 15 39 (mk_ 20 64511) hHeld ?_
          refine one_ (i:=10) (N:=some 34) (mk_ 20 65535) rfl rfl (one_of HT_.out (by kernel_rfl)) (by decide) (fun K hK=>?_);refine goes_ Try.func52 (by kernel_rfl) rfl #[.agg #[.int .i64 ((rd_T39 l0 x6_1).f1.f0),.int .i64 ((rd_T39 l0 x6_1).f1.f1),.int .i64 ((rd_T39 l0 x6_1).f1.f2)]] (by rfl) rfl rfl (by (try simp only [mT,mC,mN]);first|done|rfl|(simp only [lDr,lTk];rfl)) ?_
          with_reducible refine (gangsawref31_Product.calls ((rd_T39 l0 x6_1).f1.f0) ((rd_T39 l0 x6_1).f1.f1) ((rd_T39 l0 x6_1).f1.f2) t481 _ A12.out).mono ?_
          rintro e w25 ⟨rfl,hb⟩;refine ⟨_,rfl, ?_⟩;replace BK476:=bba BK476 hb;replace HB:=bsa HB hb;(try clear hb)
          refine hK.out _ _ ⟨(hc HB hw480_0),(hc HB hw480_1),(hc HB hw480_2),(hc HB hw480_3),(hc HB hw480_4),(hc HB hw480_5),(hc HB hw480_6),(hc HB hw482_0),(hc HB hw482_1),(hc HB hw482_2),(hc HB hw482_3),(hc HB hw482_4),(hc HB hw482_5),(hc HB hw482_6)⟩ (fun hHeld=>?_)
          clear hK K
          refine nm_ 34 ?_
          refine one_ (i:=16) (N:=some 40) (mk_ 20 131071) rfl rfl (one_of HT_.out (by kernel_rfl)) (by decide) (fun K hK=>?_);refine goes_ Try.func52 (by kernel_rfl) rfl #[.agg #[.int .i64 ((rd_T39 l0 x5_1).f1.f0),.int .i64 ((rd_T39 l0 x5_1).f1.f1),.int .i64 ((rd_T39 l0 x5_1).f1.f2)]] (by rfl) rfl rfl (by (try simp only [mT,mC,mN]);first|done|rfl|(simp only [lDr,lTk];rfl)) ?_
          with_reducible refine (gangsawref31_Product.calls ((rd_T39 l0 x5_1).f1.f0) ((rd_T39 l0 x5_1).f1.f1) ((rd_T39 l0 x5_1).f1.f2) t483 _ A15.out).mono ?_
          rintro e w26 ⟨rfl,hb⟩;refine ⟨_,rfl, ?_⟩;replace BK476:=bba BK476 hb;replace HB:=bsa HB hb;(try clear hb)
          refine hK.out _ _ ⟨(hc HB hw480_0),(hc HB hw480_1),(hc HB hw480_2),(hc HB hw480_3),(hc HB hw480_4),(hc HB hw480_5),(hc HB hw480_6),(hc HB hw482_0),(hc HB hw482_1),(hc HB hw482_2),(hc HB hw482_3),(hc HB hw482_4),(hc HB hw482_5),(hc HB hw482_6)⟩ (fun hHeld=>?_)
          clear hK K
          refine nm_ 40 ?_
          refine pu_ HT_ 17 41 (mk_ 20 262143) ?_
          refine pu_ HT_ 18 42 (mk_ 20 524287) ?_
          refine pu_ HT_ 19 43 (mk_ 20 1048575) ?_
          refine done_ (done_of HT_.out (by kernel_rfl)) ?_
          try go_wp2
          go_roundg k1
          case measure=>have:=HK1.out;omega
          case rel=>exact ⟨(x5_1),(wrap64 (x6_1 + 1)),(by first|rfl|(simp;done)|(simp [*];done)),(by first|rfl|(simp;done)|(simp [*];done)),H',⟨by have:=HK1.out;omega⟩,⟨bq BK476.out⟩,⟨by repeat (first|(with_reducible first|exact HB.out|apply lA|apply lN|apply lD|refine lS ?_ GE476.out)|exact HB.out)⟩⟩
        (rw [if_neg c14] at H;exact absurd H (by simp))
       (rw [if_neg c13] at H;exact absurd H (by simp))
     ·replace c7:=Bool.eq_false_iff.mpr c7;subst c7
      have H1 : (gangsawref31_Best.l0 k1 l0 x5_1 (wrap64 (x6_1 + 1)) a1_0 a1_1 a1_2 a1_3 a1_4 a1_5 a1_6) = some r:=by rw [if_neg (show ¬ (false = true) by decide)] at H;exact H
      clear H;have H:=H1;clear H1;have H':=am H;clear H
      try go_wp2
      replace BK476:=bda BK476;replace HB:=hda HB;have p477 : 0 ≤ (x6_1 : Int):=dt;have q477 : x6_1 < (l0.length : Int):=dt;obtain ⟨ad477,e477,hx477_0,hx477_1,hx477_2,hx477_3,hx477_4,hx477_5,hx477_6⟩ := at_T39 HR0.out x6_1 p477 q477;have hw477_6:=hx477_6;have hw477_5:=hx477_5;have hw477_4:=hx477_4;have hw477_3:=hx477_3;have hw477_2:=hx477_2;have hw477_1:=hx477_1;have hw477_0:=hx477_0
      cases e477
      replace hx477_0:=hc HB hx477_0;replace hx477_1:=hc HB hx477_1;replace hx477_2:=hc HB hx477_2;replace hx477_3:=hc HB hx477_3;replace hx477_4:=hc HB hx477_4;replace hx477_5:=hc HB hx477_5;replace hx477_6:=hc HB hx477_6;replace p477:=eq_true p477;replace q477:=eq_true q477
      refine start_ (n:=11) (S:=fun w'=>w'.cell? ⟨gb476,0,none⟩ = some (.string a1_0) ∧ w'.cell? ⟨gb476,1,none⟩ = some (.int .i64 a1_1) ∧ w'.cell? ⟨gb476,2,none⟩ = some (.int .i64 a1_2) ∧ w'.cell? ⟨gb476,3,none⟩ = some (.int .i64 a1_3) ∧ w'.cell? ⟨gb476,4,none⟩ = some (.int .i64 a1_4) ∧ w'.cell? ⟨gb476,5,none⟩ = some (.string a1_5) ∧ w'.cell? ⟨gb476,6,none⟩ = some (.bool a1_6) ∧ w'.cell? (ad477.add ((x6_1).toNat * 7)) = some (.string ((rd_T39 l0 x6_1).f0)) ∧ w'.cell? ⟨(ad477.add ((x6_1).toNat * 7)).block,(ad477.add ((x6_1).toNat * 7)).off + 1,none⟩ = some (.int .i64 ((rd_T39 l0 x6_1).f1.f0)) ∧ w'.cell? ⟨(ad477.add ((x6_1).toNat * 7)).block,(ad477.add ((x6_1).toNat * 7)).off + 2,none⟩ = some (.int .i64 ((rd_T39 l0 x6_1).f1.f1)) ∧ w'.cell? ⟨(ad477.add ((x6_1).toNat * 7)).block,(ad477.add ((x6_1).toNat * 7)).off + 3,none⟩ = some (.int .i64 ((rd_T39 l0 x6_1).f1.f2)) ∧ w'.cell? ⟨(ad477.add ((x6_1).toNat * 7)).block,(ad477.add ((x6_1).toNat * 7)).off + 4,none⟩ = some (.int .i64 ((rd_T39 l0 x6_1).f2)) ∧ w'.cell? ⟨(ad477.add ((x6_1).toNat * 7)).block,(ad477.add ((x6_1).toNat * 7)).off + 5,none⟩ = some (.string ((rd_T39 l0 x6_1).f3)) ∧ w'.cell? ⟨(ad477.add ((x6_1).toNat * 7)).block,(ad477.add ((x6_1).toNat * 7)).off + 6,none⟩ = some (.string ((rd_T39 l0 x6_1).f4))) (ds:=[]) #[f_,f_,f_,f_,f_,f_,f_,f_,f_,f_,f_] (by kernel_rfl) rfl rfl ⟨(blk_cell BK476.out 0).trans rfl,(blk_cell BK476.out 1).trans rfl,(blk_cell BK476.out 2).trans rfl,(blk_cell BK476.out 3).trans rfl,(blk_cell BK476.out 4).trans rfl,(blk_cell BK476.out 5).trans rfl,(blk_cell BK476.out 6).trans rfl,(hc HB hw477_0),(hc HB hw477_1),(hc HB hw477_2),(hc HB hw477_3),(hc HB hw477_4),(hc HB hw477_5),(hc HB hw477_6)⟩ (fun hHeld=>?_);refine with_tabW gangsawref31_Best.tab5 gangsawref31_Best.bits5 (fun HT_ HW_=>?_)
      generalize wr.drew = w27 at BK476 HB hx477_0 hx477_1 hx477_2 hx477_3 hx477_4 hx477_5 hx477_6 hHeld ⊢
      refine pu_ HT_ 0 16 (mk_ 11 1) ?_
      refine pu_ HT_ 1 17 (mk_ 11 3) ?_
      refine pu_ HT_ 2 18 (mk_ 11 7) ?_
      refine ta14_ HT_ HW_ 3 19 (mk_ 11 15) hHeld ?_
      refine ta14_ HT_ HW_ 4 20 (mk_ 11 31) hHeld ?_
      refine one_ (i:=5) (N:=some 21) (mk_ 11 63) rfl rfl (one_of HT_.out (by kernel_rfl)) (by decide) (fun K hK=>?_);refine goes_ Try.func26 (by kernel_rfl) rfl #[.agg #[.string ((rd_T39 l0 x6_1).f0),.int .i64 ((rd_T39 l0 x6_1).f1.f0),.int .i64 ((rd_T39 l0 x6_1).f1.f1),.int .i64 ((rd_T39 l0 x6_1).f1.f2),.int .i64 ((rd_T39 l0 x6_1).f2),.string ((rd_T39 l0 x6_1).f3),.string ((rd_T39 l0 x6_1).f4)],.agg #[.string a1_0,.int .i64 a1_1,.int .i64 a1_2,.int .i64 a1_3,.int .i64 a1_4,.string a1_5,.bool a1_6]] (by rfl) rfl rfl (by (try simp only [mT,mC,mN]);first|done|rfl|(simp only [lDr,lTk];rfl)) ?_
      with_reducible refine (gangsawref31_Fits.calls k1 ((rd_T39 l0 x6_1).f0) ((rd_T39 l0 x6_1).f1.f0) ((rd_T39 l0 x6_1).f1.f1) ((rd_T39 l0 x6_1).f1.f2) ((rd_T39 l0 x6_1).f2) ((rd_T39 l0 x6_1).f3) ((rd_T39 l0 x6_1).f4) a1_0 a1_1 a1_2 a1_3 a1_4 a1_5 a1_6 false t479 _ A6.out).mono ?_
      rintro e w28 ⟨rfl,hb⟩;refine ⟨_,rfl, ?_⟩;replace BK476:=bba BK476 hb;replace HB:=bsa HB hb;(try clear hb)
      refine hK.out _ _ ⟨(blk_cell BK476.out 0).trans rfl,(blk_cell BK476.out 1).trans rfl,(blk_cell BK476.out 2).trans rfl,(blk_cell BK476.out 3).trans rfl,(blk_cell BK476.out 4).trans rfl,(blk_cell BK476.out 5).trans rfl,(blk_cell BK476.out 6).trans rfl,(hc HB hw477_0),(hc HB hw477_1),(hc HB hw477_2),(hc HB hw477_3),(hc HB hw477_4),(hc HB hw477_5),(hc HB hw477_6)⟩ (fun hHeld=>?_)
      clear hK K
      refine nm_ 21 ?_
      refine pu_ HT_ 6 15 (mk_ 11 127) ?_
      refine pu_ HT_ 7 22 (mk_ 11 255) ?_
      refine pu_ HT_ 8 23 (mk_ 11 511) ?_
      refine pu_ HT_ 9 7 (mk_ 11 1023) ?_
      refine pu_ HT_ 10 8 (mk_ 11 2047) ?_
      refine done_ (done_of HT_.out (by kernel_rfl)) ?_
      try go_wp2
      replace BK476:=bda BK476;replace HB:=hda HB
      refine start_ (n:=20) (S:=fun w'=>True) (ds:=[]) #[f_,f_,f_,f_,f_,f_,f_,f_,f_,f_,f_,f_,f_,f_,f_,f_,f_,f_,f_,f_] (by kernel_rfl) rfl rfl trivial (fun hHeld=>?_);refine with_tabW gangsawref31_Best.tab6 gangsawref31_Best.bits6 (fun HT_ HW_=>?_)
      generalize w28.drew = w29 at BK476 HB hHeld ⊢
      refine pu_ HT_ 0 24 (mk_ 20 1) ?_
      refine pu_ HT_ 1 25 (mk_ 20 3) ?_
      refine pn_ HT_ 2 26 (mk_ 20 7) ?_
      refine pn_ HT_ 3 27 (mk_ 20 15) ?_
      refine pn_ HT_ 4 28 (mk_ 20 31) ?_
      refine pn_ HT_ 5 29 (mk_ 20 63) ?_
      refine pn_ HT_ 6 30 (mk_ 20 127) ?_
      refine pn_ HT_ 7 31 (mk_ 20 255) ?_
      refine pn_ HT_ 8 32 (mk_ 20 511) ?_
      refine pn_ HT_ 9 33 (mk_ 20 1023) ?_
      refine pn_ HT_ 10 34 (mk_ 20 2047) ?_
      refine pn_ HT_ 11 35 (mk_ 20 4095) ?_
      refine pn_ HT_ 12 36 (mk_ 20 8191) ?_
      refine pn_ HT_ 13 37 (mk_ 20 16383) ?_
      refine pn_ HT_ 14 38 (mk_ 20 32767) ?_
      refine pn_ HT_ 15 39 (mk_ 20 65535) ?_
      refine pn_ HT_ 16 40 (mk_ 20 131071) ?_
      refine pn_ HT_ 17 41 (mk_ 20 262143) ?_
      refine pn_ HT_ 18 42 (mk_ 20 524287) ?_
      refine pu_ HT_ 19 43 (mk_ 20 1048575) ?_
      refine done_ (done_of HT_.out (by kernel_rfl)) ?_
      try go_wp2
      go_roundg k1
      case measure=>have:=HK1.out;omega
      case rel=>exact ⟨(x5_1),(wrap64 (x6_1 + 1)),(by first|rfl|(simp;done)|(simp [*];done)),(by first|rfl|(simp;done)|(simp [*];done)),H',⟨by have:=HK1.out;omega⟩,⟨bq BK476.out⟩,⟨by repeat (first|(with_reducible first|exact HB.out|apply lA|apply lN|apply lD|refine lS ?_ GE476.out)|exact HB.out)⟩⟩
    (rw [if_neg c5] at H;exact absurd H (by simp))
   ·rw [if_neg c4] at H;have c4b0 : decide (x6_1 < (l0.length : Int)) = false:=decide_eq_false c4;clear c4;obtain rfl:=Option.some.inj H
    go_wp2
    go_ret
    exact ⟨by first|rfl|(simp [errW_none,errW_some] <;> rfl)|(simp [*,errW_none,errW_some] <;> rfl),by repeat (first|(with_reducible first|exact HB.out|apply lA|apply lN|apply lD|refine lS ?_ GE476.out)|exact HB.out)⟩
end Go.Proofs.Ytbggjmdelnmilaa.PA
