import Derived.Test.YtbggjmdelnmilaaPAx3
namespace Go.Proofs.Ytbggjmdelnmilaa.PA
open Go.RowKit Go.Proofs.YtbggjmdelnmilaaW.PrintWords Go.Proofs.YtbggjmdelnmilaaW.PrintLast Go.Proofs.YtbggjmdelnmilaaW.PrintMore
attribute [local go_sem] max2_int min2_int max_two min_two max_three min_three max_four min_four
set_option linter.unusedVariables false
set_option linter.unusedSimpArgs false
def offcut_best.l0 : Nat → List (S39) → Int → List (S39) → Int → Int → ByteArray → Int → Int → Int → Int → ByteArray → Bool → Option (Int)
 | 0,_,_,_,_,_,_,_,_,_,_,_,_=>none
 | k + 1,x0,x5,x10,x11,x12,x116000,x116001,x116002,x116003,x116004,x116005,x116006=>if x12 < x11 then (if 0 ≤ x12 then (if x12 < (x10.length : Int) then ((offcut_fits.f k ((rd_T39 x10 x12).f0) ((rd_T39 x10 x12).f1.f0) ((rd_T39 x10 x12).f1.f1) ((rd_T39 x10 x12).f1.f2) ((rd_T39 x10 x12).f2) ((rd_T39 x10 x12).f3) ((rd_T39 x10 x12).f4) x116000 x116001 x116002 x116003 x116004 x116005 x116006).bind fun bt118=>(if bt118.1 = true then (if x5 < 0 then (offcut_best.l0 k x0 x12 x10 x11 (wrap64 (x12 + 1)) x116000 x116001 x116002 x116003 x116004 x116005 x116006) else ((offcut_volume.f ((rd_T39 x10 x12).f1.f0) ((rd_T39 x10 x12).f1.f1) ((rd_T39 x10 x12).f1.f2)).bind fun t120=>(if 0 ≤ x5 then (if x5 < (x0.length : Int) then ((offcut_volume.f ((rd_T39 x0 x5).f1.f0) ((rd_T39 x0 x5).f1.f1) ((rd_T39 x0 x5).f1.f2)).bind fun t122=>(if t120 < t122 then (offcut_best.l0 k x0 x12 x10 x11 (wrap64 (x12 + 1)) x116000 x116001 x116002 x116003 x116004 x116005 x116006) else (offcut_best.l0 k x0 x5 x10 x11 (wrap64 (x12 + 1)) x116000 x116001 x116002 x116003 x116004 x116005 x116006))) else (none)) else (none)))) else (offcut_best.l0 k x0 x5 x10 x11 (wrap64 (x12 + 1)) x116000 x116001 x116002 x116003 x116004 x116005 x116006))) else (none)) else (none)) else (some x5)
def offcut_best.f (k : Nat) (l0 : List (S39)) (a1_0 : ByteArray) (a1_1 : Int) (a1_2 : Int) (a1_3 : Int) (a1_4 : Int) (a1_5 : ByteArray) (a1_6 : Bool) : Option (Int):=offcut_best.l0 k l0 (-1) l0 (l0.length : Int) 0 a1_0 a1_1 a1_2 a1_3 a1_4 a1_5 a1_6
theorem offcut_best.mono_l : ∀ k,(∀ y0 y1 y2 y3 y4 y5 y6 y7 y8 y9 y10 y11,LeO (offcut_best.l0 k y0 y1 y2 y3 y4 y5 y6 y7 y8 y9 y10 y11) (offcut_best.l0 (k + 1) y0 y1 y2 y3 y4 y5 y6 y7 y8 y9 y10 y11))
 | 0=>fun _ _ _ _ _ _ _ _ _ _ _ _ r h=>by simp [offcut_best.l0] at h
 | k + 1=>by
  have ih0:=offcut_best.mono_l k
  ·intro y0 y1 y2 y3 y4 y5 y6 y7 y8 y9 y10 y11
   unfold offcut_best.l0
   repeat' first
   | (with_reducible exact ih0 _ _ _ _ _ _ _ _ _ _ _ _)
   | (with_reducible exact offcut_fits.mono _ _ _ _ _ _ _ _ _ _ _ _ _ _ _)
   | (with_reducible exact LeO.refl _)
   | (with_reducible exact LeO.none _)
   | (with_reducible refine LeO.ite ?_ ?_)
   | (with_reducible refine LeO.bind ?_ (fun _=>?_))
   | exact ih0 _ _ _ _ _ _ _ _ _ _ _ _
   | exact offcut_fits.mono _ _ _ _ _ _ _ _ _ _ _ _ _ _ _
   | exact LeO.none _
   | refine LeO.ite ?_ ?_
   | refine LeO.bind ?_ (fun _=>?_)
theorem offcut_best.mono : ∀ a0 a1 a2 a3 a4 a5 a6 a7 k,LeO (offcut_best.f k a0 a1 a2 a3 a4 a5 a6 a7) (offcut_best.f (k + 1) a0 a1 a2 a3 a4 a5 a6 a7):=by
 intro a0 a1 a2 a3 a4 a5 a6 a7 k;have ih0:=offcut_best.mono_l k
 unfold offcut_best.f
 repeat' first
   | (with_reducible exact ih0 _ _ _ _ _ _ _ _ _ _ _ _)
   | (with_reducible exact offcut_fits.mono _ _ _ _ _ _ _ _ _ _ _ _ _ _ _)
   | (with_reducible exact LeO.refl _)
   | (with_reducible exact LeO.none _)
   | (with_reducible refine LeO.ite ?_ ?_)
   | (with_reducible refine LeO.bind ?_ (fun _=>?_))
   | exact ih0 _ _ _ _ _ _ _ _ _ _ _ _
   | exact offcut_fits.mono _ _ _ _ _ _ _ _ _ _ _ _ _ _ _
   | exact LeO.none _
   | refine LeO.ite ?_ ?_
   | refine LeO.bind ?_ (fun _=>?_)
def offcut_best.T6 : Bool × List (List Nat × List Nat):=(true,[([],[]),([0],[0]),([1],[1]),([2,1],[1,2]),([3,1,1],[1,3]),([4],[4]),([5,4],[4,5]),([6,4,4],[4,6]),([4],[4]),([4],[4]),([8,9,4],[4,8,9]),([10,4],[4,10]),([11,4],[4,11]),([12,7,4],[4,12]),([7,13,4],[4,7,13]),([4,14,1],[1,4,14]),([1,15],[1,15])])
def offcut_best.B6 : List Nat:=[0,1,3,7,15,31,63,127,31,31,799,1823,3871,8191,16383,32767,65535]
theorem offcut_best.tab6 : rtab .any (opsOf Try.f36 6) = offcut_best.T6:=by kernel_rfl
theorem offcut_best.bits6 : waitsOk offcut_best.T6.2 offcut_best.B6 = true:=by kernel_rfl
set_option maxHeartbeats 8000000 in
set_option maxRecDepth 100000 in
theorem offcut_best.calls (k : Nat) (A0 : Option Addr) (c0 : Nat) (l0 : List (S39)) (a1_0 : ByteArray) (a1_1 : Int) (a1_2 : Int) (a1_3 : Int) (a1_4 : Int) (a1_5 : ByteArray) (a1_6 : Bool) (r : Int) (w : World) (hr0 : Kd.C k39 w A0 l0.length l0) (hc0 : l0.length ≤ c0) (h : offcut_best.f k l0 a1_0 a1_1 a1_2 a1_3 a1_4 a1_5 a1_6 = some r) :
  Calls Try.prog 36 #[.slice A0 l0.length c0,.agg #[.string a1_0,.int .i64 a1_1,.int .i64 a1_2,.int .i64 a1_3,.int .i64 a1_4,.string a1_5,.bool a1_6]] w fun e w'=>e = .returned (.int .i64 r) ∧ Below w.heap.size w w':=by
 have hu36:=Try.underlying36;have hu39:=Try.underlying39;have hu24:=Try.underlying24;have HR0:=am hr0;have HC0:=am hc0;clear hr0 hc0;have HB:=am (Below.refl w.heap.size w);have H : (offcut_best.l0 k l0 (-1) l0 (l0.length : Int) 0 a1_0 a1_1 a1_2 a1_3 a1_4 a1_5 a1_6) = some r:=h;clear h;have H':=am H;clear H
 go_enter Try.func36,Try.ntmps36
 go_wp2_with (first|((with_reducible refine gate_dst (N:=3) rfl ?_);refine be 3 36 (cs:=#[.string a1_0,.int .i64 a1_1,.int .i64 a1_2,.int .i64 a1_3,.int .i64 a1_4,.string a1_5,.bool a1_6]) ?_;intro gb115 hg w3 hbox hb;have BK115:=am hbox;have GW115:=bza HB hg;have GE115:=bza HB hg;replace HB:=bsa HB hb;clear hb hbox hg))
 go_loopg [5,12] k (fun kq v5 v12 w'=>∃ (x5_1 : Int) (x12_1 : Int),v5 = .int .i64 x5_1 ∧ v12 = .int .i64 x12_1 ∧ Aside0 (offcut_best.l0 kq l0 x5_1 l0 (l0.length : Int) x12_1 a1_0 a1_1 a1_2 a1_3 a1_4 a1_5 a1_6 = some r) ∧ Aside0 (kq ≤ k) ∧ Aside0 (w'.heap[gb115]? = some (.cells #[.string a1_0,.int .i64 a1_1,.int .i64 a1_2,.int .i64 a1_3,.int .i64 a1_4,.string a1_5,.bool a1_6] 36 (0,0))) ∧ Aside0 (Below w.heap.size w w'))
 case atStart=>exact ⟨((-1)),(0),(by first|rfl|(simp;done)|(simp [*];done)),(by first|rfl|(simp;done)|(simp [*];done)),H',⟨Nat.le_refl _⟩,⟨bq BK115.out⟩,⟨by repeat (first|(with_reducible first|exact HB.out|apply lA|apply lN|apply lD|refine lS ?_ GE115.out)|exact HB.out)⟩⟩
 case round =>
  clear H'
  try clear p2
  try clear c3
  obtain ⟨x5_1,x12_1,rfl,rfl,HA,HK1,BK115,HB⟩ := hrel
  cases gk with
  | zero=>exact absurd HA.out (by simp [offcut_best.l0])
  | succ k1 =>
   have H:=HA.out;clear HA;simp only [offcut_best.l0] at H;by_cases c4 : x12_1 < (l0.length : Int)
   ·rw [if_pos c4] at H;have c4b0 : decide (x12_1 < (l0.length : Int)) = true:=decide_eq_true c4;clear c4;by_cases c5 : 0 ≤ x12_1
    ·rw [if_pos c5] at H;have c5b0 : decide (0 ≤ x12_1) = true:=decide_eq_true c5;clear c5;by_cases c6 : x12_1 < (l0.length : Int)
     ·rw [if_pos c6] at H;have c6b0 : decide (x12_1 < (l0.length : Int)) = true:=decide_eq_true c6;clear c6;replace H:=Option.bind_eq_some_iff.mp H;obtain ⟨⟨t118,t119⟩,A70,H⟩ := H;replace H : (if t118 = true then (if x5_1 < 0 then (offcut_best.l0 k1 l0 x12_1 l0 (l0.length : Int) (wrap64 (x12_1 + 1)) a1_0 a1_1 a1_2 a1_3 a1_4 a1_5 a1_6) else ((offcut_volume.f ((rd_T39 l0 x12_1).f1.f0) ((rd_T39 l0 x12_1).f1.f1) ((rd_T39 l0 x12_1).f1.f2)).bind fun t120=>(if 0 ≤ x5_1 then (if x5_1 < (l0.length : Int) then ((offcut_volume.f ((rd_T39 l0 x5_1).f1.f0) ((rd_T39 l0 x5_1).f1.f1) ((rd_T39 l0 x5_1).f1.f2)).bind fun t122=>(if t120 < t122 then (offcut_best.l0 k1 l0 x12_1 l0 (l0.length : Int) (wrap64 (x12_1 + 1)) a1_0 a1_1 a1_2 a1_3 a1_4 a1_5 a1_6) else (offcut_best.l0 k1 l0 x5_1 l0 (l0.length : Int) (wrap64 (x12_1 + 1)) a1_0 a1_1 a1_2 a1_3 a1_4 a1_5 a1_6))) else (none)) else (none)))) else (offcut_best.l0 k1 l0 x5_1 l0 (l0.length : Int) (wrap64 (x12_1 + 1)) a1_0 a1_1 a1_2 a1_3 a1_4 a1_5 a1_6)) = some r:=H;have A7:=am A70;clear A70;by_cases c8 : t118 = true
      ·subst c8
       have H1 : (if x5_1 < 0 then (offcut_best.l0 k1 l0 x12_1 l0 (l0.length : Int) (wrap64 (x12_1 + 1)) a1_0 a1_1 a1_2 a1_3 a1_4 a1_5 a1_6) else ((offcut_volume.f ((rd_T39 l0 x12_1).f1.f0) ((rd_T39 l0 x12_1).f1.f1) ((rd_T39 l0 x12_1).f1.f2)).bind fun t120=>(if 0 ≤ x5_1 then (if x5_1 < (l0.length : Int) then ((offcut_volume.f ((rd_T39 l0 x5_1).f1.f0) ((rd_T39 l0 x5_1).f1.f1) ((rd_T39 l0 x5_1).f1.f2)).bind fun t122=>(if t120 < t122 then (offcut_best.l0 k1 l0 x12_1 l0 (l0.length : Int) (wrap64 (x12_1 + 1)) a1_0 a1_1 a1_2 a1_3 a1_4 a1_5 a1_6) else (offcut_best.l0 k1 l0 x5_1 l0 (l0.length : Int) (wrap64 (x12_1 + 1)) a1_0 a1_1 a1_2 a1_3 a1_4 a1_5 a1_6))) else (none)) else (none)))) = some r:=by rw [if_pos rfl] at H;exact H
       clear H;have H:=H1;clear H1;by_cases c9 : x5_1 < 0
       ·rw [if_pos c9] at H;have c9b0 : decide (x5_1 < 0) = true:=decide_eq_true c9;clear c9;have H':=am H;clear H;have p116 : 0 ≤ (x12_1 : Int):=dt;have q116 : x12_1 < (l0.length : Int):=dt;obtain ⟨ad116,e116,hx116_0,hx116_1,hx116_2,hx116_3,hx116_4,hx116_5,hx116_6⟩ := at_T39 HR0.out x12_1 p116 q116
        cases e116
        replace hx116_0:=hc HB hx116_0;replace hx116_1:=hc HB hx116_1;replace hx116_2:=hc HB hx116_2;replace hx116_3:=hc HB hx116_3;replace hx116_4:=hc HB hx116_4;replace hx116_5:=hc HB hx116_5;replace hx116_6:=hc HB hx116_6;replace p116:=eq_true p116;replace q116:=eq_true q116
        try go_wp2_with (first|((with_reducible refine gate_dst (N:=7) rfl ?_);refine be 7 39 (cs:=#[.string (⟨#[]⟩ : ByteArray),.int .i64 0,.int .i64 0,.int .i64 0,.int .i64 0,.string (⟨#[]⟩ : ByteArray),.string (⟨#[]⟩ : ByteArray)]) ?_;intro gb117 hg w10 hbox hb;have BK117:=am hbox;have GW117:=bza HB hg;have GE117:=bza HB hg;have NB115_117:=bla BK115 hg;have NB117_115:=bga BK115 hg;replace BK115:=bba BK115 hb;replace HB:=bsa HB hb;clear hb hbox hg;have hnb11:=NB117_115.out;have hnc11:=NB115_117.out;obtain ⟨hcz12_0,hcz12_1,hcz12_2,hcz12_3,hcz12_4,hcz12_5,hcz12_6,hfz12_0,hfz12_1,hfz12_2,hfz12_3,hfz12_4,hfz12_5,hfz12_6⟩ := c7_ BK117.out;obtain ⟨hcz13_0,hcz13_1,hcz13_2,hcz13_3,hcz13_4,hcz13_5,hcz13_6,hfz13_0,hfz13_1,hfz13_2,hfz13_3,hfz13_4,hfz13_5,hfz13_6⟩ := c7_ BK115.out)|((with_reducible refine gate_callee (f:=53) rfl ?_);refine gL 20 Try.func53 #[.agg #[.string ((rd_T39 l0 x12_1).f0),.int .i64 ((rd_T39 l0 x12_1).f1.f0),.int .i64 ((rd_T39 l0 x12_1).f1.f1),.int .i64 ((rd_T39 l0 x12_1).f1.f2),.int .i64 ((rd_T39 l0 x12_1).f2),.string ((rd_T39 l0 x12_1).f3),.string ((rd_T39 l0 x12_1).f4)],.agg #[.string a1_0,.int .i64 a1_1,.int .i64 a1_2,.int .i64 a1_3,.int .i64 a1_4,.string a1_5,.bool a1_6]] ?_;(with_reducible refine (offcut_fits.calls k1 ((rd_T39 l0 x12_1).f0) ((rd_T39 l0 x12_1).f1.f0) ((rd_T39 l0 x12_1).f1.f1) ((rd_T39 l0 x12_1).f1.f2) ((rd_T39 l0 x12_1).f2) ((rd_T39 l0 x12_1).f3) ((rd_T39 l0 x12_1).f4) a1_0 a1_1 a1_2 a1_3 a1_4 a1_5 a1_6 true t119 _ A7.out).mono ?_);rintro e w14 ⟨rfl,hb⟩;refine ⟨_,rfl, ?_⟩;replace BK115:=am (blk_below (g:=gb115) (o:=.cells #[.string a1_0,.int .i64 a1_1,.int .i64 a1_2,.int .i64 a1_3,.int .i64 a1_4,.string a1_5,.bool a1_6] 36 (0,0)) (by refine bf ?_ NB115_117;refine bf ?_ NB115_117;refine bf ?_ NB115_117;refine bf ?_ NB115_117;refine bf ?_ NB115_117;refine bf ?_ NB115_117;refine bf ?_ NB115_117;exact bq BK115.out) hb);replace BK117:=am (blk_below (g:=gb117) (o:=.cells #[.string ((rd_T39 l0 x12_1).f0),.int .i64 ((rd_T39 l0 x12_1).f1.f0),.int .i64 ((rd_T39 l0 x12_1).f1.f1),.int .i64 ((rd_T39 l0 x12_1).f1.f2),.int .i64 ((rd_T39 l0 x12_1).f2),.string ((rd_T39 l0 x12_1).f3),.string ((rd_T39 l0 x12_1).f4)] 39 (0,0)) (by refine bp (cs:=#[.string ((rd_T39 l0 x12_1).f0),.int .i64 ((rd_T39 l0 x12_1).f1.f0),.int .i64 ((rd_T39 l0 x12_1).f1.f1),.int .i64 ((rd_T39 l0 x12_1).f1.f2),.int .i64 ((rd_T39 l0 x12_1).f2),.string ((rd_T39 l0 x12_1).f3),.string (⟨#[]⟩ : ByteArray)]) ?_ 6;refine bp (cs:=#[.string ((rd_T39 l0 x12_1).f0),.int .i64 ((rd_T39 l0 x12_1).f1.f0),.int .i64 ((rd_T39 l0 x12_1).f1.f1),.int .i64 ((rd_T39 l0 x12_1).f1.f2),.int .i64 ((rd_T39 l0 x12_1).f2),.string (⟨#[]⟩ : ByteArray),.string (⟨#[]⟩ : ByteArray)]) ?_ 5;refine bp (cs:=#[.string ((rd_T39 l0 x12_1).f0),.int .i64 ((rd_T39 l0 x12_1).f1.f0),.int .i64 ((rd_T39 l0 x12_1).f1.f1),.int .i64 ((rd_T39 l0 x12_1).f1.f2),.int .i64 0,.string (⟨#[]⟩ : ByteArray),.string (⟨#[]⟩ : ByteArray)]) ?_ 4;refine bp (cs:=#[.string ((rd_T39 l0 x12_1).f0),.int .i64 ((rd_T39 l0 x12_1).f1.f0),.int .i64 ((rd_T39 l0 x12_1).f1.f1),.int .i64 0,.int .i64 0,.string (⟨#[]⟩ : ByteArray),.string (⟨#[]⟩ : ByteArray)]) ?_ 3;refine bp (cs:=#[.string ((rd_T39 l0 x12_1).f0),.int .i64 ((rd_T39 l0 x12_1).f1.f0),.int .i64 0,.int .i64 0,.int .i64 0,.string (⟨#[]⟩ : ByteArray),.string (⟨#[]⟩ : ByteArray)]) ?_ 2;refine bp (cs:=#[.string ((rd_T39 l0 x12_1).f0),.int .i64 0,.int .i64 0,.int .i64 0,.int .i64 0,.string (⟨#[]⟩ : ByteArray),.string (⟨#[]⟩ : ByteArray)]) ?_ 1;refine bp (cs:=#[.string (⟨#[]⟩ : ByteArray),.int .i64 0,.int .i64 0,.int .i64 0,.int .i64 0,.string (⟨#[]⟩ : ByteArray),.string (⟨#[]⟩ : ByteArray)]) ?_ 0;exact bq BK117.out) hb);replace HB:=am (below_step (by repeat (first|(with_reducible first|exact HB.out|apply lA|apply lN|apply lD|refine lS ?_ GE115.out|refine lS ?_ GE117.out)|exact HB.out)) hb);(try clear hb)))
        replace BK115:=bda BK115;replace BK117:=bda BK117;replace HB:=hda HB
        refine start_ (n:=17) (S:=fun w'=>True) (ds:=[]) #[f_,f_,f_,f_,f_,f_,f_,f_,f_,f_,f_,f_,f_,f_,f_,f_,f_] (by kernel_rfl) rfl rfl trivial (fun hHeld=>?_);refine with_tabW offcut_best.tab6 offcut_best.bits6 (fun HT_ HW_=>?_)
        generalize w14.drew = w15 at BK115 BK117 HB hHeld ⊢
        refine pu_ HT_ 0 23 (mk_ 17 1) ?_
        refine pu_ HT_ 1 24 (mk_ 17 3) ?_
        refine pu_ HT_ 2 25 (mk_ 17 7) ?_
        refine pu_ HT_ 3 26 (mk_ 17 15) ?_
        refine pu_ HT_ 4 27 (mk_ 17 31) ?_
        refine pn_ HT_ 5 28 (mk_ 17 63) ?_
        refine pn_ HT_ 6 29 (mk_ 17 127) ?_
        refine pn_ HT_ 7 30 (mk_ 17 255) ?_
        refine pn_ HT_ 8 31 (mk_ 17 511) ?_
        refine pn_ HT_ 9 32 (mk_ 17 1023) ?_
        refine pn_ HT_ 10 33 (mk_ 17 2047) ?_
        refine pn_ HT_ 11 34 (mk_ 17 4095) ?_
        refine pn_ HT_ 12 35 (mk_ 17 8191) ?_
        refine pn_ HT_ 13 36 (mk_ 17 16383) ?_
        refine pn_ HT_ 14 37 (mk_ 17 32767) ?_
        refine pu_ HT_ 15 38 (mk_ 17 65535) ?_
        refine pu_ HT_ 16 39 (mk_ 17 131071) ?_
        refine done_ (done_of HT_.out (by kernel_rfl)) ?_
        try go_wp2
        go_roundg k1
        case measure=>have:=HK1.out;omega
        case rel=>exact ⟨(x12_1),(wrap64 (x12_1 + 1)),(by first|rfl|(simp;done)|(simp [*];done)),(by first|rfl|(simp;done)|(simp [*];done)),H',⟨by have:=HK1.out;omega⟩,⟨bq BK115.out⟩,⟨by repeat (first|(with_reducible first|exact HB.out|apply lA|apply lN|apply lD|refine lS ?_ GE115.out|refine lS ?_ GE117.out)|exact HB.out)⟩⟩
       ·rw [if_neg c9] at H;have c9b0 : decide (x5_1 < 0) = false:=decide_eq_false c9;clear c9;replace H:=Option.bind_eq_some_iff.mp H;obtain ⟨t120,A160,H⟩ := H;replace H : (if 0 ≤ x5_1 then (if x5_1 < (l0.length : Int) then ((offcut_volume.f ((rd_T39 l0 x5_1).f1.f0) ((rd_T39 l0 x5_1).f1.f1) ((rd_T39 l0 x5_1).f1.f2)).bind fun t122=>(if t120 < t122 then (offcut_best.l0 k1 l0 x12_1 l0 (l0.length : Int) (wrap64 (x12_1 + 1)) a1_0 a1_1 a1_2 a1_3 a1_4 a1_5 a1_6) else (offcut_best.l0 k1 l0 x5_1 l0 (l0.length : Int) (wrap64 (x12_1 + 1)) a1_0 a1_1 a1_2 a1_3 a1_4 a1_5 a1_6))) else (none)) else (none)) = some r:=H;have A16:=am A160;clear A160;by_cases c17 : 0 ≤ x5_1
        ·rw [if_pos c17] at H;have c17b0 : decide (0 ≤ x5_1) = true:=decide_eq_true c17;clear c17;by_cases c18 : x5_1 < (l0.length : Int)
         ·rw [if_pos c18] at H;have c18b0 : decide (x5_1 < (l0.length : Int)) = true:=decide_eq_true c18;clear c18;replace H:=Option.bind_eq_some_iff.mp H;obtain ⟨t122,A190,H⟩ := H;replace H : (if t120 < t122 then (offcut_best.l0 k1 l0 x12_1 l0 (l0.length : Int) (wrap64 (x12_1 + 1)) a1_0 a1_1 a1_2 a1_3 a1_4 a1_5 a1_6) else (offcut_best.l0 k1 l0 x5_1 l0 (l0.length : Int) (wrap64 (x12_1 + 1)) a1_0 a1_1 a1_2 a1_3 a1_4 a1_5 a1_6)) = some r:=H;have A19:=am A190;clear A190;by_cases c20 : t120 < t122
          ·rw [if_pos c20] at H;have c20b0 : decide (t120 < t122) = true:=decide_eq_true c20;clear c20;have H':=am H;clear H;have p116 : 0 ≤ (x12_1 : Int):=dt;have q116 : x12_1 < (l0.length : Int):=dt;obtain ⟨ad116,e116,hx116_0,hx116_1,hx116_2,hx116_3,hx116_4,hx116_5,hx116_6⟩ := at_T39 HR0.out x12_1 p116 q116
           cases e116
           replace hx116_0:=hc HB hx116_0;replace hx116_1:=hc HB hx116_1;replace hx116_2:=hc HB hx116_2;replace hx116_3:=hc HB hx116_3;replace hx116_4:=hc HB hx116_4;replace hx116_5:=hc HB hx116_5;replace hx116_6:=hc HB hx116_6;replace p116:=eq_true p116;replace q116:=eq_true q116
           try go_wp2_with (first|((with_reducible refine gate_dst (N:=7) rfl ?_);refine be 7 39 (cs:=#[.string (⟨#[]⟩ : ByteArray),.int .i64 0,.int .i64 0,.int .i64 0,.int .i64 0,.string (⟨#[]⟩ : ByteArray),.string (⟨#[]⟩ : ByteArray)]) ?_;intro gb117 hg w21 hbox hb;have BK117:=am hbox;have GW117:=bza HB hg;have GE117:=bza HB hg;have NB115_117:=bla BK115 hg;have NB117_115:=bga BK115 hg;replace BK115:=bba BK115 hb;replace HB:=bsa HB hb;clear hb hbox hg;have hnb22:=NB117_115.out;have hnc22:=NB115_117.out;obtain ⟨hcz23_0,hcz23_1,hcz23_2,hcz23_3,hcz23_4,hcz23_5,hcz23_6,hfz23_0,hfz23_1,hfz23_2,hfz23_3,hfz23_4,hfz23_5,hfz23_6⟩ := c7_ BK117.out;obtain ⟨hcz24_0,hcz24_1,hcz24_2,hcz24_3,hcz24_4,hcz24_5,hcz24_6,hfz24_0,hfz24_1,hfz24_2,hfz24_3,hfz24_4,hfz24_5,hfz24_6⟩ := c7_ BK115.out)|((with_reducible refine gate_callee (f:=53) rfl ?_);refine gL 20 Try.func53 #[.agg #[.string ((rd_T39 l0 x12_1).f0),.int .i64 ((rd_T39 l0 x12_1).f1.f0),.int .i64 ((rd_T39 l0 x12_1).f1.f1),.int .i64 ((rd_T39 l0 x12_1).f1.f2),.int .i64 ((rd_T39 l0 x12_1).f2),.string ((rd_T39 l0 x12_1).f3),.string ((rd_T39 l0 x12_1).f4)],.agg #[.string a1_0,.int .i64 a1_1,.int .i64 a1_2,.int .i64 a1_3,.int .i64 a1_4,.string a1_5,.bool a1_6]] ?_;(with_reducible refine (offcut_fits.calls k1 ((rd_T39 l0 x12_1).f0) ((rd_T39 l0 x12_1).f1.f0) ((rd_T39 l0 x12_1).f1.f1) ((rd_T39 l0 x12_1).f1.f2) ((rd_T39 l0 x12_1).f2) ((rd_T39 l0 x12_1).f3) ((rd_T39 l0 x12_1).f4) a1_0 a1_1 a1_2 a1_3 a1_4 a1_5 a1_6 true t119 _ A7.out).mono ?_);rintro e w25 ⟨rfl,hb⟩;refine ⟨_,rfl, ?_⟩;replace BK115:=am (blk_below (g:=gb115) (o:=.cells #[.string a1_0,.int .i64 a1_1,.int .i64 a1_2,.int .i64 a1_3,.int .i64 a1_4,.string a1_5,.bool a1_6] 36 (0,0)) (by refine bf ?_ NB115_117;refine bf ?_ NB115_117;refine bf ?_ NB115_117;refine bf ?_ NB115_117;refine bf ?_ NB115_117;refine bf ?_ NB115_117;refine bf ?_ NB115_117;exact bq BK115.out) hb);replace BK117:=am (blk_below (g:=gb117) (o:=.cells #[.string ((rd_T39 l0 x12_1).f0),.int .i64 ((rd_T39 l0 x12_1).f1.f0),.int .i64 ((rd_T39 l0 x12_1).f1.f1),.int .i64 ((rd_T39 l0 x12_1).f1.f2),.int .i64 ((rd_T39 l0 x12_1).f2),.string ((rd_T39 l0 x12_1).f3),.string ((rd_T39 l0 x12_1).f4)] 39 (0,0)) (by refine bp (cs:=#[.string ((rd_T39 l0 x12_1).f0),.int .i64 ((rd_T39 l0 x12_1).f1.f0),.int .i64 ((rd_T39 l0 x12_1).f1.f1),.int .i64 ((rd_T39 l0 x12_1).f1.f2),.int .i64 ((rd_T39 l0 x12_1).f2),.string ((rd_T39 l0 x12_1).f3),.string (⟨#[]⟩ : ByteArray)]) ?_ 6;refine bp (cs:=#[.string ((rd_T39 l0 x12_1).f0),.int .i64 ((rd_T39 l0 x12_1).f1.f0),.int .i64 ((rd_T39 l0 x12_1).f1.f1),.int .i64 ((rd_T39 l0 x12_1).f1.f2),.int .i64 ((rd_T39 l0 x12_1).f2),.string (⟨#[]⟩ : ByteArray),.string (⟨#[]⟩ : ByteArray)]) ?_ 5;refine bp (cs:=#[.string ((rd_T39 l0 x12_1).f0),.int .i64 ((rd_T39 l0 x12_1).f1.f0),.int .i64 ((rd_T39 l0 x12_1).f1.f1),.int .i64 ((rd_T39 l0 x12_1).f1.f2),.int .i64 0,.string (⟨#[]⟩ : ByteArray),.string (⟨#[]⟩ : ByteArray)]) ?_ 4;refine bp (cs:=#[.string ((rd_T39 l0 x12_1).f0),.int .i64 ((rd_T39 l0 x12_1).f1.f0),.int .i64 ((rd_T39 l0 x12_1).f1.f1),.int .i64 0,.int .i64 0,.string (⟨#[]⟩ : ByteArray),.string (⟨#[]⟩ : ByteArray)]) ?_ 3;refine bp (cs:=#[.string ((rd_T39 l0 x12_1).f0),.int .i64 ((rd_T39 l0 x12_1).f1.f0),.int .i64 0,.int .i64 0,.int .i64 0,.string (⟨#[]⟩ : ByteArray),.string (⟨#[]⟩ : ByteArray)]) ?_ 2;refine bp (cs:=#[.string ((rd_T39 l0 x12_1).f0),.int .i64 0,.int .i64 0,.int .i64 0,.int .i64 0,.string (⟨#[]⟩ : ByteArray),.string (⟨#[]⟩ : ByteArray)]) ?_ 1;refine bp (cs:=#[.string (⟨#[]⟩ : ByteArray),.int .i64 0,.int .i64 0,.int .i64 0,.int .i64 0,.string (⟨#[]⟩ : ByteArray),.string (⟨#[]⟩ : ByteArray)]) ?_ 0;exact bq BK117.out) hb);replace HB:=am (below_step (by repeat (first|(with_reducible first|exact HB.out|apply lA|apply lN|apply lD|refine lS ?_ GE115.out|refine lS ?_ GE117.out)|exact HB.out)) hb);(try clear hb)))
           replace BK115:=bda BK115;replace BK117:=bda BK117;replace HB:=hda HB;have p121 : 0 ≤ (x5_1 : Int):=dt;have q121 : x5_1 < (l0.length : Int):=dt;obtain ⟨ad121,e121,hx121_0,hx121_1,hx121_2,hx121_3,hx121_4,hx121_5,hx121_6⟩ := at_T39 HR0.out x5_1 p121 q121;have hw121_6:=hx121_6;have hw121_5:=hx121_5;have hw121_4:=hx121_4;have hw121_3:=hx121_3;have hw121_2:=hx121_2;have hw121_1:=hx121_1;have hw121_0:=hx121_0
           obtain rfl : ad116 = ad121:=(by injection e121)
           replace hx121_0:=hc HB hx121_0;replace hx121_1:=hc HB hx121_1;replace hx121_2:=hc HB hx121_2;replace hx121_3:=hc HB hx121_3;replace hx121_4:=hc HB hx121_4;replace hx121_5:=hc HB hx121_5;replace hx121_6:=hc HB hx121_6;replace p121:=eq_true p121;replace q121:=eq_true q121
           refine start_ (n:=17) (S:=fun w'=>w'.cell? ⟨gb117,0,none⟩ = some (.string ((rd_T39 l0 x12_1).f0)) ∧ w'.cell? ⟨gb117,1,none⟩ = some (.int .i64 ((rd_T39 l0 x12_1).f1.f0)) ∧ w'.cell? ⟨gb117,2,none⟩ = some (.int .i64 ((rd_T39 l0 x12_1).f1.f1)) ∧ w'.cell? ⟨gb117,3,none⟩ = some (.int .i64 ((rd_T39 l0 x12_1).f1.f2)) ∧ w'.cell? ⟨gb117,4,none⟩ = some (.int .i64 ((rd_T39 l0 x12_1).f2)) ∧ w'.cell? ⟨gb117,5,none⟩ = some (.string ((rd_T39 l0 x12_1).f3)) ∧ w'.cell? ⟨gb117,6,none⟩ = some (.string ((rd_T39 l0 x12_1).f4)) ∧ w'.cell? (ad116.add ((x5_1).toNat * 7)) = some (.string ((rd_T39 l0 x5_1).f0)) ∧ w'.cell? ⟨(ad116.add ((x5_1).toNat * 7)).block,(ad116.add ((x5_1).toNat * 7)).off + 1,none⟩ = some (.int .i64 ((rd_T39 l0 x5_1).f1.f0)) ∧ w'.cell? ⟨(ad116.add ((x5_1).toNat * 7)).block,(ad116.add ((x5_1).toNat * 7)).off + 2,none⟩ = some (.int .i64 ((rd_T39 l0 x5_1).f1.f1)) ∧ w'.cell? ⟨(ad116.add ((x5_1).toNat * 7)).block,(ad116.add ((x5_1).toNat * 7)).off + 3,none⟩ = some (.int .i64 ((rd_T39 l0 x5_1).f1.f2)) ∧ w'.cell? ⟨(ad116.add ((x5_1).toNat * 7)).block,(ad116.add ((x5_1).toNat * 7)).off + 4,none⟩ = some (.int .i64 ((rd_T39 l0 x5_1).f2)) ∧ w'.cell? ⟨(ad116.add ((x5_1).toNat * 7)).block,(ad116.add ((x5_1).toNat * 7)).off + 5,none⟩ = some (.string ((rd_T39 l0 x5_1).f3)) ∧ w'.cell? ⟨(ad116.add ((x5_1).toNat * 7)).block,(ad116.add ((x5_1).toNat * 7)).off + 6,none⟩ = some (.string ((rd_T39 l0 x5_1).f4))) (ds:=[]) #[f_,f_,f_,f_,f_,f_,f_,f_,f_,f_,f_,f_,f_,f_,f_,f_,f_] (by kernel_rfl) rfl rfl ⟨(blk_cell BK117.out 0).trans rfl,(blk_cell BK117.out 1).trans rfl,(blk_cell BK117.out 2).trans rfl,(blk_cell BK117.out 3).trans rfl,(blk_cell BK117.out 4).trans rfl,(blk_cell BK117.out 5).trans rfl,(blk_cell BK117.out 6).trans rfl,(hc HB hw121_0),(hc HB hw121_1),(hc HB hw121_2),(hc HB hw121_3),(hc HB hw121_4),(hc HB hw121_5),(hc HB hw121_6)⟩ (fun hHeld=>?_);refine with_tabW offcut_best.tab6 offcut_best.bits6 (fun HT_ HW_=>?_)
           generalize w25.drew = w26 at BK115 BK117 HB hx121_0 hx121_1 hx121_2 hx121_3 hx121_4 hx121_5 hx121_6 hHeld ⊢
           refine pu_ HT_ 0 23 (mk_ 17 1) ?_
           refine pu_ HT_ 1 24 (mk_ 17 3) ?_
           refine pu_ HT_ 2 25 (mk_ 17 7) ?_
           refine pu_ HT_ 3 26 (mk_ 17 15) ?_
           refine pu_ HT_ 4 27 (mk_ 17 31) ?_
           refine pu_ HT_ 5 28 (mk_ 17 63) ?_
           refine pu_ HT_ 8 31 (mk_ 17 319) ?_
           refine pu_ HT_ 9 32 (mk_ 17 831) ?_
           refine pu_ HT_ 10 33 (mk_ 17 1855) ?_
           refine pu_ HT_ 11 34 (mk_ 17 3903) ?_
           refine ta14_ HT_ HW_ 6 29 (mk_ 17 3967) hHeld ?_
           refine ta14_ HT_ HW_ 12 35 (mk_ 17 8063) hHeld ?_
           refine one_ (i:=7) (N:=some 30) (mk_ 17 8191) rfl rfl (one_of HT_.out (by kernel_rfl)) (by decide) (fun K hK=>?_);refine goes_ Try.func38 (by kernel_rfl) rfl #[.agg #[.int .i64 ((rd_T39 l0 x12_1).f1.f0),.int .i64 ((rd_T39 l0 x12_1).f1.f1),.int .i64 ((rd_T39 l0 x12_1).f1.f2)]] (by rfl) rfl rfl (by (try simp only [mT,mC,mN]);first|done|rfl|(simp only [lDr,lTk];rfl)) ?_
           with_reducible refine (offcut_volume.calls ((rd_T39 l0 x12_1).f1.f0) ((rd_T39 l0 x12_1).f1.f1) ((rd_T39 l0 x12_1).f1.f2) t120 _ A16.out).mono ?_
           rintro e w27 ⟨rfl,hb⟩;refine ⟨_,rfl, ?_⟩;replace BK115:=bba BK115 hb;replace BK117:=bba BK117 hb;replace HB:=bsa HB hb;(try clear hb)
           refine hK.out _ _ ⟨(blk_cell BK117.out 0).trans rfl,(blk_cell BK117.out 1).trans rfl,(blk_cell BK117.out 2).trans rfl,(blk_cell BK117.out 3).trans rfl,(blk_cell BK117.out 4).trans rfl,(blk_cell BK117.out 5).trans rfl,(blk_cell BK117.out 6).trans rfl,(hc HB hw121_0),(hc HB hw121_1),(hc HB hw121_2),(hc HB hw121_3),(hc HB hw121_4),(hc HB hw121_5),(hc HB hw121_6)⟩ (fun hHeld=>?_)
           clear hK K
           refine nm_ 30 ?_
           refine one_ (i:=13) (N:=some 36) (mk_ 17 16383) rfl rfl (one_of HT_.out (by kernel_rfl)) (by decide) (fun K hK=>?_);refine goes_ Try.func38 (by kernel_rfl) rfl #[.agg #[.int .i64 ((rd_T39 l0 x5_1).f1.f0),.int .i64 ((rd_T39 l0 x5_1).f1.f1),.int .i64 ((rd_T39 l0 x5_1).f1.f2)]] (by rfl) rfl rfl (by (try simp only [mT,mC,mN]);first|done|rfl|(simp only [lDr,lTk];rfl)) ?_
           with_reducible refine (offcut_volume.calls ((rd_T39 l0 x5_1).f1.f0) ((rd_T39 l0 x5_1).f1.f1) ((rd_T39 l0 x5_1).f1.f2) t122 _ A19.out).mono ?_
           rintro e w28 ⟨rfl,hb⟩;refine ⟨_,rfl, ?_⟩;replace BK115:=bba BK115 hb;replace BK117:=bba BK117 hb;replace HB:=bsa HB hb;(try clear hb)
           refine hK.out _ _ ⟨(blk_cell BK117.out 0).trans rfl,(blk_cell BK117.out 1).trans rfl,(blk_cell BK117.out 2).trans rfl,(blk_cell BK117.out 3).trans rfl,(blk_cell BK117.out 4).trans rfl,(blk_cell BK117.out 5).trans rfl,(blk_cell BK117.out 6).trans rfl,(hc HB hw121_0),(hc HB hw121_1),(hc HB hw121_2),(hc HB hw121_3),(hc HB hw121_4),(hc HB hw121_5),(hc HB hw121_6)⟩ (fun hHeld=>?_)
           clear hK K
           refine nm_ 36 ?_
           refine pu_ HT_ 14 37 (mk_ 17 32767) ?_
           refine pu_ HT_ 15 38 (mk_ 17 65535) ?_
           refine pu_ HT_ 16 39 (mk_ 17 131071) ?_
           refine done_ (done_of HT_.out (by kernel_rfl)) ?_
           try go_wp2
           go_roundg k1
           case measure=>have:=HK1.out;omega
           case rel=>exact ⟨(x12_1),(wrap64 (x12_1 + 1)),(by first|rfl|(simp;done)|(simp [*];done)),(by first|rfl|(simp;done)|(simp [*];done)),H',⟨by have:=HK1.out;omega⟩,⟨bq BK115.out⟩,⟨by repeat (first|(with_reducible first|exact HB.out|apply lA|apply lN|apply lD|refine lS ?_ GE115.out|refine lS ?_ GE117.out)|exact HB.out)⟩⟩
          ·rw [if_neg c20] at H;have c20b0 : decide (t120 < t122) = false:=decide_eq_false c20;clear c20;have H':=am H;clear H;have p116 : 0 ≤ (x12_1 : Int):=dt;have q116 : x12_1 < (l0.length : Int):=dt;obtain ⟨ad116,e116,hx116_0,hx116_1,hx116_2,hx116_3,hx116_4,hx116_5,hx116_6⟩ := at_T39 HR0.out x12_1 p116 q116
           cases e116
           replace hx116_0:=hc HB hx116_0;replace hx116_1:=hc HB hx116_1;replace hx116_2:=hc HB hx116_2;replace hx116_3:=hc HB hx116_3;replace hx116_4:=hc HB hx116_4;replace hx116_5:=hc HB hx116_5;replace hx116_6:=hc HB hx116_6;replace p116:=eq_true p116;replace q116:=eq_true q116
           try go_wp2_with (first|((with_reducible refine gate_dst (N:=7) rfl ?_);refine be 7 39 (cs:=#[.string (⟨#[]⟩ : ByteArray),.int .i64 0,.int .i64 0,.int .i64 0,.int .i64 0,.string (⟨#[]⟩ : ByteArray),.string (⟨#[]⟩ : ByteArray)]) ?_;intro gb117 hg w29 hbox hb;have BK117:=am hbox;have GW117:=bza HB hg;have GE117:=bza HB hg;have NB115_117:=bla BK115 hg;have NB117_115:=bga BK115 hg;replace BK115:=bba BK115 hb;replace HB:=bsa HB hb;clear hb hbox hg;have hnb30:=NB117_115.out;have hnc30:=NB115_117.out;obtain ⟨hcz31_0,hcz31_1,hcz31_2,hcz31_3,hcz31_4,hcz31_5,hcz31_6,hfz31_0,hfz31_1,hfz31_2,hfz31_3,hfz31_4,hfz31_5,hfz31_6⟩ := c7_ BK117.out;obtain ⟨hcz32_0,hcz32_1,hcz32_2,hcz32_3,hcz32_4,hcz32_5,hcz32_6,hfz32_0,hfz32_1,hfz32_2,hfz32_3,hfz32_4,hfz32_5,hfz32_6⟩ := c7_ BK115.out)|((with_reducible refine gate_callee (f:=53) rfl ?_);refine gL 20 Try.func53 #[.agg #[.string ((rd_T39 l0 x12_1).f0),.int .i64 ((rd_T39 l0 x12_1).f1.f0),.int .i64 ((rd_T39 l0 x12_1).f1.f1),.int .i64 ((rd_T39 l0 x12_1).f1.f2),.int .i64 ((rd_T39 l0 x12_1).f2),.string ((rd_T39 l0 x12_1).f3),.string ((rd_T39 l0 x12_1).f4)],.agg #[.string a1_0,.int .i64 a1_1,.int .i64 a1_2,.int .i64 a1_3,.int .i64 a1_4,.string a1_5,.bool a1_6]] ?_;(with_reducible refine (offcut_fits.calls k1 ((rd_T39 l0 x12_1).f0) ((rd_T39 l0 x12_1).f1.f0) ((rd_T39 l0 x12_1).f1.f1) ((rd_T39 l0 x12_1).f1.f2) ((rd_T39 l0 x12_1).f2) ((rd_T39 l0 x12_1).f3) ((rd_T39 l0 x12_1).f4) a1_0 a1_1 a1_2 a1_3 a1_4 a1_5 a1_6 true t119 _ A7.out).mono ?_);rintro e w33 ⟨rfl,hb⟩;refine ⟨_,rfl, ?_⟩;replace BK115:=am (blk_below (g:=gb115) (o:=.cells #[.string a1_0,.int .i64 a1_1,.int .i64 a1_2,.int .i64 a1_3,.int .i64 a1_4,.string a1_5,.bool a1_6] 36 (0,0)) (by refine bf ?_ NB115_117;refine bf ?_ NB115_117;refine bf ?_ NB115_117;refine bf ?_ NB115_117;refine bf ?_ NB115_117;refine bf ?_ NB115_117;refine bf ?_ NB115_117;exact bq BK115.out) hb);replace BK117:=am (blk_below (g:=gb117) (o:=.cells #[.string ((rd_T39 l0 x12_1).f0),.int .i64 ((rd_T39 l0 x12_1).f1.f0),.int .i64 ((rd_T39 l0 x12_1).f1.f1),.int .i64 ((rd_T39 l0 x12_1).f1.f2),.int .i64 ((rd_T39 l0 x12_1).f2),.string ((rd_T39 l0 x12_1).f3),.string ((rd_T39 l0 x12_1).f4)] 39 (0,0)) (by refine bp (cs:=#[.string ((rd_T39 l0 x12_1).f0),.int .i64 ((rd_T39 l0 x12_1).f1.f0),.int .i64 ((rd_T39 l0 x12_1).f1.f1),.int .i64 ((rd_T39 l0 x12_1).f1.f2),.int .i64 ((rd_T39 l0 x12_1).f2),.string ((rd_T39 l0 x12_1).f3),.string (⟨#[]⟩ : ByteArray)]) ?_ 6;refine bp (cs:=#[.string ((rd_T39 l0 x12_1).f0),.int .i64 ((rd_T39 l0 x12_1).f1.f0),.int .i64 ((rd_T39 l0 x12_1).f1.f1),.int .i64 ((rd_T39 l0 x12_1).f1.f2),.int .i64 ((rd_T39 l0 x12_1).f2),.string (⟨#[]⟩ : ByteArray),.string (⟨#[]⟩ : ByteArray)]) ?_ 5;refine bp (cs:=#[.string ((rd_T39 l0 x12_1).f0),.int .i64 ((rd_T39 l0 x12_1).f1.f0),.int .i64 ((rd_T39 l0 x12_1).f1.f1),.int .i64 ((rd_T39 l0 x12_1).f1.f2),.int .i64 0,.string (⟨#[]⟩ : ByteArray),.string (⟨#[]⟩ : ByteArray)]) ?_ 4;refine bp (cs:=#[.string ((rd_T39 l0 x12_1).f0),.int .i64 ((rd_T39 l0 x12_1).f1.f0),.int .i64 ((rd_T39 l0 x12_1).f1.f1),.int .i64 0,.int .i64 0,.string (⟨#[]⟩ : ByteArray),.string (⟨#[]⟩ : ByteArray)]) ?_ 3;refine bp (cs:=#[.string ((rd_T39 l0 x12_1).f0),.int .i64 ((rd_T39 l0 x12_1).f1.f0),.int .i64 0,.int .i64 0,.int .i64 0,.string (⟨#[]⟩ : ByteArray),.string (⟨#[]⟩ : ByteArray)]) ?_ 2;refine bp (cs:=#[.string ((rd_T39 l0 x12_1).f0),.int .i64 0,.int .i64 0,.int .i64 0,.int .i64 0,.string (⟨#[]⟩ : ByteArray),.string (⟨#[]⟩ : ByteArray)]) ?_ 1;refine bp (cs:=#[.string (⟨#[]⟩ : ByteArray),.int .i64 0,.int .i64 0,.int .i64 0,.int .i64 0,.string (⟨#[]⟩ : ByteArray),.string (⟨#[]⟩ : ByteArray)]) ?_ 0;exact bq BK117.out) hb);replace HB:=am (below_step (by repeat (first|(with_reducible first|exact HB.out|apply lA|apply lN|apply lD|refine lS ?_ GE115.out|refine lS ?_ GE117.out)|exact HB.out)) hb);(try clear hb)))
           replace BK115:=bda BK115;replace BK117:=bda BK117;replace HB:=hda HB;have p121 : 0 ≤ (x5_1 : Int):=dt;have q121 : x5_1 < (l0.length : Int):=dt;obtain ⟨ad121,e121,hx121_0,hx121_1,hx121_2,hx121_3,hx121_4,hx121_5,hx121_6⟩ := at_T39 HR0.out x5_1 p121 q121;have hw121_6:=hx121_6;have hw121_5:=hx121_5;have hw121_4:=hx121_4;have hw121_3:=hx121_3;have hw121_2:=hx121_2;have hw121_1:=hx121_1;have hw121_0:=hx121_0
           obtain rfl : ad116 = ad121:=(by injection e121)
           replace hx121_0:=hc HB hx121_0;replace hx121_1:=hc HB hx121_1;replace hx121_2:=hc HB hx121_2;replace hx121_3:=hc HB hx121_3;replace hx121_4:=hc HB hx121_4;replace hx121_5:=hc HB hx121_5;replace hx121_6:=hc HB hx121_6;replace p121:=eq_true p121;replace q121:=eq_true q121
           refine start_ (n:=17) (S:=fun w'=>w'.cell? ⟨gb117,0,none⟩ = some (.string ((rd_T39 l0 x12_1).f0)) ∧ w'.cell? ⟨gb117,1,none⟩ = some (.int .i64 ((rd_T39 l0 x12_1).f1.f0)) ∧ w'.cell? ⟨gb117,2,none⟩ = some (.int .i64 ((rd_T39 l0 x12_1).f1.f1)) ∧ w'.cell? ⟨gb117,3,none⟩ = some (.int .i64 ((rd_T39 l0 x12_1).f1.f2)) ∧ w'.cell? ⟨gb117,4,none⟩ = some (.int .i64 ((rd_T39 l0 x12_1).f2)) ∧ w'.cell? ⟨gb117,5,none⟩ = some (.string ((rd_T39 l0 x12_1).f3)) ∧ w'.cell? ⟨gb117,6,none⟩ = some (.string ((rd_T39 l0 x12_1).f4)) ∧ w'.cell? (ad116.add ((x5_1).toNat * 7)) = some (.string ((rd_T39 l0 x5_1).f0)) ∧ w'.cell? ⟨(ad116.add ((x5_1).toNat * 7)).block,(ad116.add ((x5_1).toNat * 7)).off + 1,none⟩ = some (.int .i64 ((rd_T39 l0 x5_1).f1.f0)) ∧ w'.cell? ⟨(ad116.add ((x5_1).toNat * 7)).block,(ad116.add ((x5_1).toNat * 7)).off + 2,none⟩ = some (.int .i64 ((rd_T39 l0 x5_1).f1.f1)) ∧ w'.cell? ⟨(ad116.add ((x5_1).toNat * 7)).block,(ad116.add ((x5_1).toNat * 7)).off + 3,none⟩ = some (.int .i64 ((rd_T39 l0 x5_1).f1.f2)) ∧ w'.cell? ⟨(ad116.add ((x5_1).toNat * 7)).block,(ad116.add ((x5_1).toNat * 7)).off + 4,none⟩ = some (.int .i64 ((rd_T39 l0 x5_1).f2)) ∧ w'.cell? ⟨(ad116.add ((x5_1).toNat * 7)).block,(ad116.add ((x5_1).toNat * 7)).off + 5,none⟩ = some (.string ((rd_T39 l0 x5_1).f3)) ∧ w'.cell? ⟨(ad116.add ((x5_1).toNat * 7)).block,(ad116.add ((x5_1).toNat * 7)).off + 6,none⟩ = some (.string ((rd_T39 l0 x5_1).f4))) (ds:=[]) #[f_,f_,f_,f_,f_,f_,f_,f_,f_,f_,f_,f_,f_,f_,f_,f_,f_] (by kernel_rfl) rfl rfl ⟨(blk_cell BK117.out 0).trans rfl,(blk_cell BK117.out 1).trans rfl,(blk_cell BK117.out 2).trans rfl,(blk_cell BK117.out 3).trans rfl,(blk_cell BK117.out 4).trans rfl,(blk_cell BK117.out 5).trans rfl,(blk_cell BK117.out 6).trans rfl,(hc HB hw121_0),(hc HB hw121_1),(hc HB hw121_2),(hc HB hw121_3),(hc HB hw121_4),(hc HB hw121_5),(hc HB hw121_6)⟩ (fun hHeld=>?_);refine with_tabW offcut_best.tab6 offcut_best.bits6 (fun HT_ HW_=>?_)
           generalize w33.drew = w34 at BK115 BK117 HB hx121_0 hx121_1 hx121_2 hx121_3 hx121_4 hx121_5 hx121_6 hHeld ⊢
           refine pu_ HT_ 0 23 (mk_ 17 1) ?_
           refine pu_ HT_ 1 24 (mk_ 17 3) ?_
           refine pu_ HT_ 2 25 (mk_ 17 7) ?_
           refine pu_ HT_ 3 26 (mk_ 17 15) ?_
           refine pu_ HT_ 4 27 (mk_ 17 31) ?_
           refine pu_ HT_ 5 28 (mk_ 17 63) ?_
           refine pu_ HT_ 8 31 (mk_ 17 319) ?_
           refine pu_ HT_ 9 32 (mk_ 17 831) ?_
           refine pu_ HT_ 10 33 (mk_ 17 1855) ?_
           refine pu_ HT_ 11 34 (mk_ 17 3903) ?_
           refine ta14_ HT_ HW_ 6 29 (mk_ 17 3967) hHeld ?_
           refine ta14_ HT_ HW_ 12 35 (mk_ 17 8063) hHeld ?_
           refine one_ (i:=7) (N:=some 30) (mk_ 17 8191) rfl rfl (one_of HT_.out (by kernel_rfl)) (by decide) (fun K hK=>?_);refine goes_ Try.func38 (by kernel_rfl) rfl #[.agg #[.int .i64 ((rd_T39 l0 x12_1).f1.f0),.int .i64 ((rd_T39 l0 x12_1).f1.f1),.int .i64 ((rd_T39 l0 x12_1).f1.f2)]] (by rfl) rfl rfl (by (try simp only [mT,mC,mN]);first|done|rfl|(simp only [lDr,lTk];rfl)) ?_
           with_reducible refine (offcut_volume.calls ((rd_T39 l0 x12_1).f1.f0) ((rd_T39 l0 x12_1).f1.f1) ((rd_T39 l0 x12_1).f1.f2) t120 _ A16.out).mono ?_
           rintro e w35 ⟨rfl,hb⟩;refine ⟨_,rfl, ?_⟩;replace BK115:=bba BK115 hb;replace BK117:=bba BK117 hb;replace HB:=bsa HB hb;(try clear hb)
           refine hK.out _ _ ⟨(blk_cell BK117.out 0).trans rfl,(blk_cell BK117.out 1).trans rfl,(blk_cell BK117.out 2).trans rfl,(blk_cell BK117.out 3).trans rfl,(blk_cell BK117.out 4).trans rfl,(blk_cell BK117.out 5).trans rfl,(blk_cell BK117.out 6).trans rfl,(hc HB hw121_0),(hc HB hw121_1),(hc HB hw121_2),(hc HB hw121_3),(hc HB hw121_4),(hc HB hw121_5),(hc HB hw121_6)⟩ (fun hHeld=>?_)
           clear hK K
           refine nm_ 30 ?_
           refine one_ (i:=13) (N:=some 36) (mk_ 17 16383) rfl rfl (one_of HT_.out (by kernel_rfl)) (by decide) (fun K hK=>?_);refine goes_ Try.func38 (by kernel_rfl) rfl #[.agg #[.int .i64 ((rd_T39 l0 x5_1).f1.f0),.int .i64 ((rd_T39 l0 x5_1).f1.f1),.int .i64 ((rd_T39 l0 x5_1).f1.f2)]] (by rfl) rfl rfl (by (try simp only [mT,mC,mN]);first|done|rfl|(simp only [lDr,lTk];rfl)) ?_
           with_reducible refine (offcut_volume.calls ((rd_T39 l0 x5_1).f1.f0) ((rd_T39 l0 x5_1).f1.f1) ((rd_T39 l0 x5_1).f1.f2) t122 _ A19.out).mono ?_
           rintro e w36 ⟨rfl,hb⟩;refine ⟨_,rfl, ?_⟩;replace BK115:=bba BK115 hb;replace BK117:=bba BK117 hb;replace HB:=bsa HB hb;(try clear hb)
           refine hK.out _ _ ⟨(blk_cell BK117.out 0).trans rfl,(blk_cell BK117.out 1).trans rfl,(blk_cell BK117.out 2).trans rfl,(blk_cell BK117.out 3).trans rfl,(blk_cell BK117.out 4).trans rfl,(blk_cell BK117.out 5).trans rfl,(blk_cell BK117.out 6).trans rfl,(hc HB hw121_0),(hc HB hw121_1),(hc HB hw121_2),(hc HB hw121_3),(hc HB hw121_4),(hc HB hw121_5),(hc HB hw121_6)⟩ (fun hHeld=>?_)
           clear hK K
           refine nm_ 36 ?_
           refine pu_ HT_ 14 37 (mk_ 17 32767) ?_
           refine pu_ HT_ 15 38 (mk_ 17 65535) ?_
           refine pu_ HT_ 16 39 (mk_ 17 131071) ?_
           refine done_ (done_of HT_.out (by kernel_rfl)) ?_
           try go_wp2
           go_roundg k1
           case measure=>have:=HK1.out;omega
           case rel=>exact ⟨(x5_1),(wrap64 (x12_1 + 1)),(by first|rfl|(simp;done)|(simp [*];done)),(by first|rfl|(simp;done)|(simp [*];done)),H',⟨by have:=HK1.out;omega⟩,⟨bq BK115.out⟩,⟨by repeat (first|(with_reducible first|exact HB.out|apply lA|apply lN|apply lD|refine lS ?_ GE115.out|refine lS ?_ GE117.out)|exact HB.out)⟩⟩
         (rw [if_neg c18] at H;exact absurd H (by simp))
        (rw [if_neg c17] at H;exact absurd H (by simp))
      ·replace c8:=Bool.eq_false_iff.mpr c8;subst c8
       have H1 : (offcut_best.l0 k1 l0 x5_1 l0 (l0.length : Int) (wrap64 (x12_1 + 1)) a1_0 a1_1 a1_2 a1_3 a1_4 a1_5 a1_6) = some r:=by rw [if_neg (show ¬ (false = true) by decide)] at H;exact H
       clear H;have H:=H1;clear H1;have H':=am H;clear H;have p116 : 0 ≤ (x12_1 : Int):=dt;have q116 : x12_1 < (l0.length : Int):=dt;obtain ⟨ad116,e116,hx116_0,hx116_1,hx116_2,hx116_3,hx116_4,hx116_5,hx116_6⟩ := at_T39 HR0.out x12_1 p116 q116
       cases e116
       replace hx116_0:=hc HB hx116_0;replace hx116_1:=hc HB hx116_1;replace hx116_2:=hc HB hx116_2;replace hx116_3:=hc HB hx116_3;replace hx116_4:=hc HB hx116_4;replace hx116_5:=hc HB hx116_5;replace hx116_6:=hc HB hx116_6;replace p116:=eq_true p116;replace q116:=eq_true q116
       try go_wp2_with (first|((with_reducible refine gate_dst (N:=7) rfl ?_);refine be 7 39 (cs:=#[.string (⟨#[]⟩ : ByteArray),.int .i64 0,.int .i64 0,.int .i64 0,.int .i64 0,.string (⟨#[]⟩ : ByteArray),.string (⟨#[]⟩ : ByteArray)]) ?_;intro gb117 hg w37 hbox hb;have BK117:=am hbox;have GW117:=bza HB hg;have GE117:=bza HB hg;have NB115_117:=bla BK115 hg;have NB117_115:=bga BK115 hg;replace BK115:=bba BK115 hb;replace HB:=bsa HB hb;clear hb hbox hg;have hnb38:=NB117_115.out;have hnc38:=NB115_117.out;obtain ⟨hcz39_0,hcz39_1,hcz39_2,hcz39_3,hcz39_4,hcz39_5,hcz39_6,hfz39_0,hfz39_1,hfz39_2,hfz39_3,hfz39_4,hfz39_5,hfz39_6⟩ := c7_ BK117.out;obtain ⟨hcz40_0,hcz40_1,hcz40_2,hcz40_3,hcz40_4,hcz40_5,hcz40_6,hfz40_0,hfz40_1,hfz40_2,hfz40_3,hfz40_4,hfz40_5,hfz40_6⟩ := c7_ BK115.out)|((with_reducible refine gate_callee (f:=53) rfl ?_);refine gL 20 Try.func53 #[.agg #[.string ((rd_T39 l0 x12_1).f0),.int .i64 ((rd_T39 l0 x12_1).f1.f0),.int .i64 ((rd_T39 l0 x12_1).f1.f1),.int .i64 ((rd_T39 l0 x12_1).f1.f2),.int .i64 ((rd_T39 l0 x12_1).f2),.string ((rd_T39 l0 x12_1).f3),.string ((rd_T39 l0 x12_1).f4)],.agg #[.string a1_0,.int .i64 a1_1,.int .i64 a1_2,.int .i64 a1_3,.int .i64 a1_4,.string a1_5,.bool a1_6]] ?_;(with_reducible refine (offcut_fits.calls k1 ((rd_T39 l0 x12_1).f0) ((rd_T39 l0 x12_1).f1.f0) ((rd_T39 l0 x12_1).f1.f1) ((rd_T39 l0 x12_1).f1.f2) ((rd_T39 l0 x12_1).f2) ((rd_T39 l0 x12_1).f3) ((rd_T39 l0 x12_1).f4) a1_0 a1_1 a1_2 a1_3 a1_4 a1_5 a1_6 false t119 _ A7.out).mono ?_);rintro e w41 ⟨rfl,hb⟩;refine ⟨_,rfl, ?_⟩;replace BK115:=am (blk_below (g:=gb115) (o:=.cells #[.string a1_0,.int .i64 a1_1,.int .i64 a1_2,.int .i64 a1_3,.int .i64 a1_4,.string a1_5,.bool a1_6] 36 (0,0)) (by refine bf ?_ NB115_117;refine bf ?_ NB115_117;refine bf ?_ NB115_117;refine bf ?_ NB115_117;refine bf ?_ NB115_117;refine bf ?_ NB115_117;refine bf ?_ NB115_117;exact bq BK115.out) hb);replace BK117:=am (blk_below (g:=gb117) (o:=.cells #[.string ((rd_T39 l0 x12_1).f0),.int .i64 ((rd_T39 l0 x12_1).f1.f0),.int .i64 ((rd_T39 l0 x12_1).f1.f1),.int .i64 ((rd_T39 l0 x12_1).f1.f2),.int .i64 ((rd_T39 l0 x12_1).f2),.string ((rd_T39 l0 x12_1).f3),.string ((rd_T39 l0 x12_1).f4)] 39 (0,0)) (by refine bp (cs:=#[.string ((rd_T39 l0 x12_1).f0),.int .i64 ((rd_T39 l0 x12_1).f1.f0),.int .i64 ((rd_T39 l0 x12_1).f1.f1),.int .i64 ((rd_T39 l0 x12_1).f1.f2),.int .i64 ((rd_T39 l0 x12_1).f2),.string ((rd_T39 l0 x12_1).f3),.string (⟨#[]⟩ : ByteArray)]) ?_ 6;refine bp (cs:=#[.string ((rd_T39 l0 x12_1).f0),.int .i64 ((rd_T39 l0 x12_1).f1.f0),.int .i64 ((rd_T39 l0 x12_1).f1.f1),.int .i64 ((rd_T39 l0 x12_1).f1.f2),.int .i64 ((rd_T39 l0 x12_1).f2),.string (⟨#[]⟩ : ByteArray),.string (⟨#[]⟩ : ByteArray)]) ?_ 5;refine bp (cs:=#[.string ((rd_T39 l0 x12_1).f0),.int .i64 ((rd_T39 l0 x12_1).f1.f0),.int .i64 ((rd_T39 l0 x12_1).f1.f1),.int .i64 ((rd_T39 l0 x12_1).f1.f2),.int .i64 0,.string (⟨#[]⟩ : ByteArray),.string (⟨#[]⟩ : ByteArray)]) ?_ 4;refine bp (cs:=#[.string ((rd_T39 l0 x12_1).f0),.int .i64 ((rd_T39 l0 x12_1).f1.f0),.int .i64 ((rd_T39 l0 x12_1).f1.f1),.int .i64 0,.int .i64 0,.string (⟨#[]⟩ : ByteArray),.string (⟨#[]⟩ : ByteArray)]) ?_ 3;refine bp (cs:=#[.string ((rd_T39 l0 x12_1).f0),.int .i64 ((rd_T39 l0 x12_1).f1.f0),.int .i64 0,.int .i64 0,.int .i64 0,.string (⟨#[]⟩ : ByteArray),.string (⟨#[]⟩ : ByteArray)]) ?_ 2;refine bp (cs:=#[.string ((rd_T39 l0 x12_1).f0),.int .i64 0,.int .i64 0,.int .i64 0,.int .i64 0,.string (⟨#[]⟩ : ByteArray),.string (⟨#[]⟩ : ByteArray)]) ?_ 1;refine bp (cs:=#[.string (⟨#[]⟩ : ByteArray),.int .i64 0,.int .i64 0,.int .i64 0,.int .i64 0,.string (⟨#[]⟩ : ByteArray),.string (⟨#[]⟩ : ByteArray)]) ?_ 0;exact bq BK117.out) hb);replace HB:=am (below_step (by repeat (first|(with_reducible first|exact HB.out|apply lA|apply lN|apply lD|refine lS ?_ GE115.out|refine lS ?_ GE117.out)|exact HB.out)) hb);(try clear hb)))
       replace BK115:=bda BK115;replace BK117:=bda BK117;replace HB:=hda HB
       refine start_ (n:=17) (S:=fun w'=>True) (ds:=[]) #[f_,f_,f_,f_,f_,f_,f_,f_,f_,f_,f_,f_,f_,f_,f_,f_,f_] (by kernel_rfl) rfl rfl trivial (fun hHeld=>?_);refine with_tabW offcut_best.tab6 offcut_best.bits6 (fun HT_ HW_=>?_)
       generalize w41.drew = w42 at BK115 BK117 HB hHeld ⊢
       refine pu_ HT_ 0 23 (mk_ 17 1) ?_
       refine pu_ HT_ 1 24 (mk_ 17 3) ?_
       refine pn_ HT_ 2 25 (mk_ 17 7) ?_
       refine pn_ HT_ 3 26 (mk_ 17 15) ?_
       refine pn_ HT_ 4 27 (mk_ 17 31) ?_
       refine pn_ HT_ 5 28 (mk_ 17 63) ?_
       refine pn_ HT_ 6 29 (mk_ 17 127) ?_
       refine pn_ HT_ 7 30 (mk_ 17 255) ?_
       refine pn_ HT_ 8 31 (mk_ 17 511) ?_
       refine pn_ HT_ 9 32 (mk_ 17 1023) ?_
       refine pn_ HT_ 10 33 (mk_ 17 2047) ?_
       refine pn_ HT_ 11 34 (mk_ 17 4095) ?_
       refine pn_ HT_ 12 35 (mk_ 17 8191) ?_
       refine pn_ HT_ 13 36 (mk_ 17 16383) ?_
       refine pn_ HT_ 14 37 (mk_ 17 32767) ?_
       refine pn_ HT_ 15 38 (mk_ 17 65535) ?_
       refine pu_ HT_ 16 39 (mk_ 17 131071) ?_
       refine done_ (done_of HT_.out (by kernel_rfl)) ?_
       try go_wp2
       go_roundg k1
       case measure=>have:=HK1.out;omega
       case rel=>exact ⟨(x5_1),(wrap64 (x12_1 + 1)),(by first|rfl|(simp;done)|(simp [*];done)),(by first|rfl|(simp;done)|(simp [*];done)),H',⟨by have:=HK1.out;omega⟩,⟨bq BK115.out⟩,⟨by repeat (first|(with_reducible first|exact HB.out|apply lA|apply lN|apply lD|refine lS ?_ GE115.out|refine lS ?_ GE117.out)|exact HB.out)⟩⟩
     (rw [if_neg c6] at H;exact absurd H (by simp))
    (rw [if_neg c5] at H;exact absurd H (by simp))
   ·rw [if_neg c4] at H;have c4b0 : decide (x12_1 < (l0.length : Int)) = false:=decide_eq_false c4;clear c4;obtain rfl:=Option.some.inj H
    go_wp2
    go_ret
    exact ⟨by first|rfl|(simp [errW_none,errW_some] <;> rfl)|(simp [*,errW_none,errW_some] <;> rfl),by repeat (first|(with_reducible first|exact HB.out|apply lA|apply lN|apply lD|refine lS ?_ GE115.out)|exact HB.out)⟩
-- NOT PRINTED: function 73 (api_Remnant_73)
-- NOT PRINTED: function 40 (api_Remnant_40)
-- GIVEN: function 47 (api_Remnant_47)
end Go.Proofs.Ytbggjmdelnmilaa.PA
