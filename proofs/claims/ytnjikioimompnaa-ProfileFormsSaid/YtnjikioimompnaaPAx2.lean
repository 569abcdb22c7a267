import Derived.Test.YtnjikioimompnaaPAx0
namespace Go.Proofs.Ytnjikioimompnaa.PA
open Go.RowKit Go.Proofs.YtnjikioimompnaaW.PrintWords Go.Proofs.YtnjikioimompnaaW.PrintLast Go.Proofs.YtnjikioimompnaaW.PrintMore
attribute [local go_sem] max2_int min2_int max_two min_two max_three min_three max_four min_four
set_option linter.unusedVariables false
set_option linter.unusedSimpArgs false
def profile_next.f (l0 : List (S31)) (a1 : Int) : Option (Int):=if (l0.length : Int) = 0 then (none) else (some (Int.tmod (wrap64 (a1 + 1)) (l0.length : Int)))
set_option maxHeartbeats 8000000 in
set_option maxRecDepth 100000 in
theorem profile_next.calls (A0 : Option Addr) (c0 : Nat) (l0 : List (S31)) (a1 : Int) (r : Int) (w : World) (hr0 : Kd.C k31 w A0 l0.length l0) (hc0 : l0.length ≤ c0) (h : profile_next.f l0 a1 = some r) :
  Calls Try.prog 42 #[.slice A0 l0.length c0,.int .i64 a1] w fun e w'=>e = .returned (.int .i64 r) ∧ Drawn0 w w':=by
 have HR0:=am hr0;have HC0:=am hc0;clear hr0 hc0;have H : (if (l0.length : Int) = 0 then (none) else (some (Int.tmod (wrap64 (a1 + 1)) (l0.length : Int)))) = some r:=h;clear h;by_cases c3 : (l0.length : Int) = 0
 (rw [if_pos c3] at H;exact absurd H (by simp))
 ·rw [if_neg c3] at H;have c3b0 : ((l0.length : Int) == 0) = false:=beq_eq_false_iff_ne.mpr c3;have c3b1 : ((l0.length : Int) != 0) = true:=bne_iff_ne.mpr c3
  have c3b2 : ¬ (l0 = []):=fun h_=>c3 (by rw [h_];rfl)
  obtain rfl:=Option.some.inj H
  go_enter Try.func42,Try.ntmps42
  go_wp2
  go_ret
  exact ⟨by first|rfl|(simp;done)|(simp [*];done),by repeat (first|exact Drawn0.refl _|apply Drawn0.step)⟩
def profile_area.l0 : Nat → List (S31) → Int → List (S31) → Int → Int → Option (Int)
 | 0,_,_,_,_,_=>none
 | k + 1,x0,x3,x7,x8,x9=>if x9 < x8 then (if 0 ≤ x9 then (if x9 < (x7.length : Int) then ((profile_next.f x0 x9).bind fun t103=>(if 0 ≤ t103 then (if t103 < (x0.length : Int) then (profile_area.l0 k x0 (wrap64 (x3 + (wrap64 ((wrap64 (((rd_T31 x7 x9).f0) * ((rd_T31 x0 t103).f1))) - (wrap64 (((rd_T31 x0 t103).f0) * ((rd_T31 x7 x9).f1))))))) x7 x8 (wrap64 (x9 + 1))) else (none)) else (none))) else (none)) else (none)) else (some x3)
def profile_area.f (k : Nat) (l0 : List (S31)) : Option (Int):=profile_area.l0 k l0 0 l0 (l0.length : Int) 0
theorem profile_area.mono_l : ∀ k,(∀ y0 y1 y2 y3 y4,LeO (profile_area.l0 k y0 y1 y2 y3 y4) (profile_area.l0 (k + 1) y0 y1 y2 y3 y4))
 | 0=>fun _ _ _ _ _ r h=>by simp [profile_area.l0] at h
 | k + 1=>by
  have ih0:=profile_area.mono_l k
  ·intro y0 y1 y2 y3 y4
   unfold profile_area.l0
   repeat' first
   | (with_reducible exact ih0 _ _ _ _ _)
   | (with_reducible exact LeO.refl _)
   | (with_reducible exact LeO.none _)
   | (with_reducible refine LeO.ite ?_ ?_)
   | (with_reducible refine LeO.bind ?_ (fun _=>?_))
   | exact ih0 _ _ _ _ _
   | exact LeO.none _
   | refine LeO.ite ?_ ?_
   | refine LeO.bind ?_ (fun _=>?_)
theorem profile_area.mono : ∀ a0 k,LeO (profile_area.f k a0) (profile_area.f (k + 1) a0):=by
 intro a0 k;have ih0:=profile_area.mono_l k
 unfold profile_area.f
 repeat' first
   | (with_reducible exact ih0 _ _ _ _ _)
   | (with_reducible exact LeO.refl _)
   | (with_reducible exact LeO.none _)
   | (with_reducible refine LeO.ite ?_ ?_)
   | (with_reducible refine LeO.bind ?_ (fun _=>?_))
   | exact ih0 _ _ _ _ _
   | exact LeO.none _
   | refine LeO.ite ?_ ?_
   | refine LeO.bind ?_ (fun _=>?_)
set_option maxHeartbeats 8000000 in
set_option maxRecDepth 100000 in
theorem profile_area.calls (k : Nat) (A0 : Option Addr) (c0 : Nat) (l0 : List (S31)) (r : Int) (w : World) (hr0 : Kd.C k31 w A0 l0.length l0) (hc0 : l0.length ≤ c0) (h : profile_area.f k l0 = some r) :
  Calls Try.prog 37 #[.slice A0 l0.length c0] w fun e w'=>e = .returned (.int .i64 r) ∧ Below w.heap.size w w':=by
 have hu31:=Try.underlying31;have HR0:=am hr0;have HC0:=am hc0;clear hr0 hc0;have HB:=am (Below.refl w.heap.size w);have H : (profile_area.l0 k l0 0 l0 (l0.length : Int) 0) = some r:=h;clear h;have H':=am H;clear H
 go_enter Try.func37,Try.ntmps37
 go_wp2
 go_loopg [3,9] k (fun kq v3 v9 w'=>∃ (x3_1 : Int) (x9_1 : Int),v3 = .int .i64 x3_1 ∧ v9 = .int .i64 x9_1 ∧ Aside0 (profile_area.l0 kq l0 x3_1 l0 (l0.length : Int) x9_1 = some r) ∧ Aside0 (kq ≤ k) ∧ Aside0 (Below w.heap.size w w'))
 case atStart=>exact ⟨(0),(0),(by first|rfl|(simp;done)|(simp [*];done)),(by first|rfl|(simp;done)|(simp [*];done)),H',⟨Nat.le_refl _⟩,⟨by repeat (first|(with_reducible first|exact HB.out|apply lA|apply lN|apply lD)|exact HB.out)⟩⟩
 case round =>
  clear H';obtain ⟨x3_1,x9_1,rfl,rfl,HA,HK1,HB⟩ := hrel
  cases gk with
  | zero=>exact absurd HA.out (by simp [profile_area.l0])
  | succ k1 =>
   have H:=HA.out;clear HA;simp only [profile_area.l0] at H;by_cases c2 : x9_1 < (l0.length : Int)
   ·rw [if_pos c2] at H;have c2b0 : decide (x9_1 < (l0.length : Int)) = true:=decide_eq_true c2;clear c2;by_cases c3 : 0 ≤ x9_1
    ·rw [if_pos c3] at H;have c3b0 : decide (0 ≤ x9_1) = true:=decide_eq_true c3;clear c3;by_cases c4 : x9_1 < (l0.length : Int)
     ·rw [if_pos c4] at H;have c4b0 : decide (x9_1 < (l0.length : Int)) = true:=decide_eq_true c4;clear c4;replace H:=Option.bind_eq_some_iff.mp H;obtain ⟨t103,A50,H⟩ := H;replace H : (if 0 ≤ t103 then (if t103 < (l0.length : Int) then (profile_area.l0 k1 l0 (wrap64 (x3_1 + (wrap64 ((wrap64 (((rd_T31 l0 x9_1).f0) * ((rd_T31 l0 t103).f1))) - (wrap64 (((rd_T31 l0 t103).f0) * ((rd_T31 l0 x9_1).f1))))))) l0 (l0.length : Int) (wrap64 (x9_1 + 1))) else (none)) else (none)) = some r:=H;have A5:=am A50;clear A50;by_cases c6 : 0 ≤ t103
      ·rw [if_pos c6] at H;have c6b0 : decide (0 ≤ t103) = true:=decide_eq_true c6;clear c6;by_cases c7 : t103 < (l0.length : Int)
       ·rw [if_pos c7] at H;have c7b0 : decide (t103 < (l0.length : Int)) = true:=decide_eq_true c7;clear c7;have H':=am H;clear H;have p101 : 0 ≤ (x9_1 : Int):=of_decide_eq_true (by first|(with_reducible assumption)|assumption);have q101 : x9_1 < (l0.length : Int):=of_decide_eq_true (by first|(with_reducible assumption)|assumption);obtain ⟨ad101,e101,hx101_0,hx101_1⟩ := at_T31 HR0.out x9_1 p101 q101
        cases e101
        replace hx101_0:=(HB.out.cell (World.block_lt_of_cell? w _ hx101_0)).trans hx101_0;replace hx101_1:=(HB.out.cell (World.block_lt_of_cell? w _ hx101_1)).trans hx101_1;replace p101:=eq_true p101;replace q101:=eq_true q101
        go_wp2_with (first|((with_reducible refine gate_dst (N:=5) rfl ?_);refine box_event ?hg (N:=5) ?hd (cs:=#[.int .i64 0,.int .i64 0]) (t:=31) ?hr ?_;(case hd=>rfl);(case hg=>rfl);(case hr=>first|(go_simp;done)|(go_simp;rfl));intro gb102 hg w8 hbox hb;have BK102:=am hbox;have GW102:=bza HB hg;have GE102:=bza HB hg;replace HB:=bsa HB hb;clear hb hbox hg;obtain ⟨hcz9_0,hcz9_1,hfz9_0,hfz9_1⟩ := c2_ BK102.out)|((with_reducible refine gate_callee (f:=42) rfl ?_);refine goesL_ (some 17) rfl rfl Try.func42 (by kernel_rfl) rfl #[.slice (some ad101) l0.length c0,.int .i64 x9_1] rfl (by (try simp only [mT,mC,mN]);first|done|rfl|(simp only [lDr,lTk];rfl)) ?_;(with_reducible refine (profile_next.calls _ _ l0 x9_1 t103 _ ?side1 ?side2 A5.out).mono ?_);(case side1=>exact Kd.C_below HR0.out (by repeat (first|(with_reducible first|exact HB.out|apply lA|apply lN|apply lD|refine lS ?_ GE102.out)|exact HB.out)));(case side2=>exact HC0.out);rintro e w' ⟨rfl,⟨nd,rfl⟩⟩;refine ⟨_,rfl, ?_⟩;have p104 : 0 ≤ (t103 : Int):=of_decide_eq_true (by first|(with_reducible assumption)|assumption);have q104 : t103 < (l0.length : Int):=of_decide_eq_true (by first|(with_reducible assumption)|assumption);obtain ⟨ad104,e104,hx104_0,hx104_1⟩ := at_T31 HR0.out t103 p104 q104;obtain rfl : ad101 = ad104:=(by injection e104);have hn104_0 : ad101.block ≠ gb102:=Nat.ne_of_lt (Nat.lt_of_lt_of_le (by have:=World.block_lt_of_cell? _ _ hx104_0;first|rwa [add_block] at this|exact this) GW102.out);have hn104_1 : ad101.block ≠ gb102:=Nat.ne_of_lt (Nat.lt_of_lt_of_le (by have:=World.block_lt_of_cell? _ _ hx104_0;first|rwa [add_block] at this|exact this) GW102.out);replace hx104_0:=(HB.out.cell (World.block_lt_of_cell? w _ hx104_0)).trans hx104_0;replace hx104_1:=(HB.out.cell (World.block_lt_of_cell? w _ hx104_1)).trans hx104_1;replace hx104_0:=(cell_far (p:=⟨gb102,0,none⟩) (by first|(rw [add_block];exact hn104_0)|(show (Addr.add _ _).block ≠ _;rw [add_block];exact hn104_0)|exact hn104_0) (.int .i64 ((rd_T31 l0 x9_1).f0))).trans hx104_0;replace hx104_1:=(cell_far (p:=⟨gb102,0,none⟩) (by first|(rw [add_block];exact hn104_0)|(show (Addr.add _ _).block ≠ _;rw [add_block];exact hn104_0)|exact hn104_0) (.int .i64 ((rd_T31 l0 x9_1).f0))).trans hx104_1;replace hx104_0:=(cell_far (p:=⟨gb102,1,none⟩) (by first|(rw [add_block];exact hn104_1)|(show (Addr.add _ _).block ≠ _;rw [add_block];exact hn104_1)|exact hn104_1) (.int .i64 ((rd_T31 l0 x9_1).f1))).trans hx104_0;replace hx104_1:=(cell_far (p:=⟨gb102,1,none⟩) (by first|(rw [add_block];exact hn104_1)|(show (Addr.add _ _).block ≠ _;rw [add_block];exact hn104_1)|exact hn104_1) (.int .i64 ((rd_T31 l0 x9_1).f1))).trans hx104_1;clear hn104_0;clear hn104_1;replace p104:=eq_true p104;replace q104:=eq_true q104)|((with_reducible refine gate_dst (N:=6) rfl ?_);refine box_event ?hg (N:=6) ?hd (cs:=#[.int .i64 0,.int .i64 0]) (t:=31) ?hr ?_;(case hd=>rfl);(case hg=>rfl);(case hr=>first|(go_simp;done)|(go_simp;rfl));intro gb105 hg w10 hbox hb;have BK105:=am hbox;have GW105:=am ((by rw [hg];exact (below_size (by repeat (first|(with_reducible first|exact HB.out|apply lA|apply lN|apply lD|refine lS ?_ GE102.out)|exact HB.out))) : w.heap.size ≤ gb105));have GE105:=am ((by rw [hg];exact (below_size (by repeat (first|(with_reducible first|exact HB.out|apply lA|apply lN|apply lD|refine lS ?_ GE102.out)|exact HB.out))) : w.heap.size ≤ gb105));have NB102_105:=am ((by rw [hg];exact Nat.ne_of_lt (blk_lt (g:=gb102) (o:=.cells #[.int .i64 ((rd_T31 l0 x9_1).f0),.int .i64 ((rd_T31 l0 x9_1).f1)] 31 (0,0)) (by (with_reducible repeat (first|apply bN|apply bD|apply bA));refine blk_put (cs:=#[.int .i64 ((rd_T31 l0 x9_1).f0),.int .i64 0]) ?_ 1 _ rfl;(with_reducible repeat (first|apply bN|apply bD|apply bA));refine blk_put (cs:=#[.int .i64 0,.int .i64 0]) ?_ 0 _ rfl;(with_reducible repeat (first|apply bN|apply bD|apply bA));exact BK102.out)) : gb102 ≠ gb105));have NB105_102:=am ((by rw [hg];exact Nat.ne_of_gt (blk_lt (g:=gb102) (o:=.cells #[.int .i64 ((rd_T31 l0 x9_1).f0),.int .i64 ((rd_T31 l0 x9_1).f1)] 31 (0,0)) (by (with_reducible repeat (first|apply bN|apply bD|apply bA));refine blk_put (cs:=#[.int .i64 ((rd_T31 l0 x9_1).f0),.int .i64 0]) ?_ 1 _ rfl;(with_reducible repeat (first|apply bN|apply bD|apply bA));refine blk_put (cs:=#[.int .i64 0,.int .i64 0]) ?_ 0 _ rfl;(with_reducible repeat (first|apply bN|apply bD|apply bA));exact BK102.out)) : gb105 ≠ gb102));replace BK102:=am (blk_below (g:=gb102) (o:=.cells #[.int .i64 ((rd_T31 l0 x9_1).f0),.int .i64 ((rd_T31 l0 x9_1).f1)] 31 (0,0)) (by (with_reducible repeat (first|apply bN|apply bD|apply bA));refine blk_put (cs:=#[.int .i64 ((rd_T31 l0 x9_1).f0),.int .i64 0]) ?_ 1 _ rfl;(with_reducible repeat (first|apply bN|apply bD|apply bA));refine blk_put (cs:=#[.int .i64 0,.int .i64 0]) ?_ 0 _ rfl;(with_reducible repeat (first|apply bN|apply bD|apply bA));exact BK102.out) hb);replace HB:=am (below_step (by repeat (first|(with_reducible first|exact HB.out|apply lA|apply lN|apply lD|refine lS ?_ GE102.out)|exact HB.out)) hb);clear hb hbox hg;have hnb11:=NB105_102.out;have hnc11:=NB102_105.out;obtain ⟨hcz12_0,hcz12_1,hfz12_0,hfz12_1⟩ := c2_ BK105.out;obtain ⟨hcz13_0,hcz13_1,hfz13_0,hfz13_1⟩ := c2_ BK102.out))
        go_roundg k1
        case measure=>have:=HK1.out;omega
        case rel=>exact ⟨(wrap64 (x3_1 + (wrap64 ((wrap64 (((rd_T31 l0 x9_1).f0) * ((rd_T31 l0 t103).f1))) - (wrap64 (((rd_T31 l0 t103).f0) * ((rd_T31 l0 x9_1).f1))))))),(wrap64 (x9_1 + 1)),(by first|rfl|(simp;done)|(simp [*];done)),(by first|rfl|(simp;done)|(simp [*];done)),H',⟨by have:=HK1.out;omega⟩,⟨by repeat (first|(with_reducible first|exact HB.out|apply lA|apply lN|apply lD|refine lS ?_ GE102.out|refine lS ?_ GE105.out)|exact HB.out)⟩⟩
       (rw [if_neg c7] at H;exact absurd H (by simp))
      (rw [if_neg c6] at H;exact absurd H (by simp))
     (rw [if_neg c4] at H;exact absurd H (by simp))
    (rw [if_neg c3] at H;exact absurd H (by simp))
   ·rw [if_neg c2] at H;have c2b0 : decide (x9_1 < (l0.length : Int)) = false:=decide_eq_false c2;clear c2;obtain rfl:=Option.some.inj H
    go_wp2
    go_ret
    exact ⟨by first|rfl|(simp [errW_none,errW_some] <;> rfl)|(simp [*,errW_none,errW_some] <;> rfl),by repeat (first|(with_reducible first|exact HB.out|apply lA|apply lN|apply lD)|exact HB.out)⟩
-- NOT PRINTED: function 53 (lexer_run)
-- GIVEN: function 38 (lexer_Name)
-- NOT PRINTED: function 56 (api_Point_56)
-- NOT PRINTED: function 40 (api_Point_40)
def vector_near.l0 : Nat → List Int → Int → Int → Option (Bool)
 | 0,_,_,_=>none
 | k + 1,x5,x6,x7=>if x7 < x6 then (if 0 ≤ x7 then (if x7 < (x5.length : Int) then (if (rd x5 x7) < (-1000000) then (some false) else (if (rd x5 x7) > 1000000 then (some false) else (vector_near.l0 k x5 x6 (wrap64 (x7 + 1))))) else (none)) else (none)) else (some true)
def vector_near.f (k : Nat) (l0 : List Int) : Option (Bool):=vector_near.l0 k l0 (l0.length : Int) 0
theorem vector_near.mono_l : ∀ k,(∀ y0 y1 y2,LeO (vector_near.l0 k y0 y1 y2) (vector_near.l0 (k + 1) y0 y1 y2))
 | 0=>fun _ _ _ r h=>by simp [vector_near.l0] at h
 | k + 1=>by
  have ih0:=vector_near.mono_l k
  ·intro y0 y1 y2
   unfold vector_near.l0
   repeat' first
   | (with_reducible exact ih0 _ _ _)
   | (with_reducible exact LeO.refl _)
   | (with_reducible exact LeO.none _)
   | (with_reducible refine LeO.ite ?_ ?_)
   | (with_reducible refine LeO.bind ?_ (fun _=>?_))
   | exact ih0 _ _ _
   | exact LeO.none _
   | refine LeO.ite ?_ ?_
   | refine LeO.bind ?_ (fun _=>?_)
theorem vector_near.mono : ∀ a0 k,LeO (vector_near.f k a0) (vector_near.f (k + 1) a0):=by
 intro a0 k;have ih0:=vector_near.mono_l k
 unfold vector_near.f
 repeat' first
   | (with_reducible exact ih0 _ _ _)
   | (with_reducible exact LeO.refl _)
   | (with_reducible exact LeO.none _)
   | (with_reducible refine LeO.ite ?_ ?_)
   | (with_reducible refine LeO.bind ?_ (fun _=>?_))
   | exact ih0 _ _ _
   | exact LeO.none _
   | refine LeO.ite ?_ ?_
   | refine LeO.bind ?_ (fun _=>?_)
set_option maxHeartbeats 8000000 in
set_option maxRecDepth 100000 in
theorem vector_near.calls (k : Nat) (A0 : Option Addr) (c0 : Nat) (l0 : List Int) (r : Bool) (w : World) (hr0 : Kd.C (Kd.int .i64) w A0 l0.length l0) (hc0 : l0.length ≤ c0) (h : vector_near.f k l0 = some r) :
  Calls Try.prog 87 #[.slice A0 l0.length c0] w fun e w'=>e = .returned (.bool r) ∧ Drawn0 w w':=by
 have HR0:=am hr0;have HC0:=am hc0;clear hr0 hc0;have H : (vector_near.l0 k l0 (l0.length : Int) 0) = some r:=h;clear h;have H':=am H;clear H
 go_enter Try.func87,Try.ntmps87
 go_wp2
 go_loopg [7] k (fun kq v7 w'=>∃ (x7_1 : Int),v7 = .int .i64 x7_1 ∧ Aside0 (vector_near.l0 kq l0 (l0.length : Int) x7_1 = some r) ∧ Aside0 (kq ≤ k) ∧ Drawn0 w w')
 case atStart=>exact ⟨(0),(by first|rfl|(simp;done)|(simp [*];done)),H',⟨Nat.le_refl _⟩,by repeat (first|exact Drawn0.refl _|apply Drawn0.step)⟩
 case round =>
  clear H';obtain ⟨x7_1,rfl,HA,HK1,⟨m1,rfl⟩⟩ := hrel
  cases gk with
  | zero=>exact absurd HA.out (by simp [vector_near.l0])
  | succ k1 =>
   have H:=HA.out;clear HA;simp only [vector_near.l0] at H;by_cases c2 : x7_1 < (l0.length : Int)
   ·rw [if_pos c2] at H;have c2b0 : decide (x7_1 < (l0.length : Int)) = true:=decide_eq_true c2;clear c2;by_cases c3 : 0 ≤ x7_1
    ·rw [if_pos c3] at H;have c3b0 : decide (0 ≤ x7_1) = true:=decide_eq_true c3;clear c3;by_cases c4 : x7_1 < (l0.length : Int)
     ·rw [if_pos c4] at H;have c4b0 : decide (x7_1 < (l0.length : Int)) = true:=decide_eq_true c4;clear c4;by_cases c5 : (rd l0 x7_1) < (-1000000)
      ·rw [if_pos c5] at H;have c5b0 : decide ((rd l0 x7_1) < (-1000000)) = true:=decide_eq_true c5;clear c5;obtain rfl:=Option.some.inj H;have p106 : 0 ≤ (x7_1 : Int):=of_decide_eq_true (by first|(with_reducible assumption)|assumption);have q106 : x7_1 < (l0.length : Int):=of_decide_eq_true (by first|(with_reducible assumption)|assumption);obtain ⟨ad106,e106,hx106_0⟩ := Kd.at_int HR0.out x7_1 p106 q106
       cases e106
       replace p106:=eq_true p106;replace q106:=eq_true q106
       go_wp2
       go_ret
       exact ⟨by first|rfl|(simp;done)|(simp [*];done),by repeat (first|exact Drawn0.refl _|apply Drawn0.step)⟩
      ·rw [if_neg c5] at H;have c5b0 : decide ((rd l0 x7_1) < (-1000000)) = false:=decide_eq_false c5;clear c5;by_cases c6 : (rd l0 x7_1) > 1000000
       ·rw [if_pos c6] at H;have c6b0 : decide (1000000 < (rd l0 x7_1)) = true:=decide_eq_true c6;clear c6;obtain rfl:=Option.some.inj H;have p106 : 0 ≤ (x7_1 : Int):=of_decide_eq_true (by first|(with_reducible assumption)|assumption);have q106 : x7_1 < (l0.length : Int):=of_decide_eq_true (by first|(with_reducible assumption)|assumption);obtain ⟨ad106,e106,hx106_0⟩ := Kd.at_int HR0.out x7_1 p106 q106
        cases e106
        replace p106:=eq_true p106;replace q106:=eq_true q106
        go_wp2
        go_ret
        exact ⟨by first|rfl|(simp;done)|(simp [*];done),by repeat (first|exact Drawn0.refl _|apply Drawn0.step)⟩
       ·rw [if_neg c6] at H;have c6b0 : decide (1000000 < (rd l0 x7_1)) = false:=decide_eq_false c6;clear c6;have H':=am H;clear H;have p106 : 0 ≤ (x7_1 : Int):=of_decide_eq_true (by first|(with_reducible assumption)|assumption);have q106 : x7_1 < (l0.length : Int):=of_decide_eq_true (by first|(with_reducible assumption)|assumption);obtain ⟨ad106,e106,hx106_0⟩ := Kd.at_int HR0.out x7_1 p106 q106
        cases e106
        replace p106:=eq_true p106;replace q106:=eq_true q106
        go_wp2
        go_roundg k1
        case measure=>have:=HK1.out;omega
        case rel=>exact ⟨(wrap64 (x7_1 + 1)),(by first|rfl|(simp;done)|(simp [*];done)),H',⟨by have:=HK1.out;omega⟩,by repeat (first|exact Drawn0.refl _|apply Drawn0.step)⟩
     (rw [if_neg c4] at H;exact absurd H (by simp))
    (rw [if_neg c3] at H;exact absurd H (by simp))
   ·rw [if_neg c2] at H;have c2b0 : decide (x7_1 < (l0.length : Int)) = false:=decide_eq_false c2;clear c2;obtain rfl:=Option.some.inj H
    go_wp2
    go_ret
    exact ⟨by first|rfl|(simp;done)|(simp [*];done),by repeat (first|exact Drawn0.refl _|apply Drawn0.step)⟩
def vector_points.l0 : Nat → List (S31) → Int → Int → Option (Int)
 | 0,_,_,_=>none
 | k + 1,x5,x6,x7=>if x7 < x6 then (if 0 ≤ x7 then (if x7 < (x5.length : Int) then ((vector_near.f k (([(rd_T31 x5 x7).f0,(rd_T31 x5 x7).f1] : List Int))).bind fun t112=>(if t112 = true then (vector_points.l0 k x5 x6 (wrap64 (x7 + 1))) else (some 6))) else (none)) else (none)) else (some 0)
def vector_points.f (k : Nat) (l0 : List (S31)) : Option (Int):=vector_points.l0 k l0 (l0.length : Int) 0
theorem vector_points.mono_l : ∀ k,(∀ y0 y1 y2,LeO (vector_points.l0 k y0 y1 y2) (vector_points.l0 (k + 1) y0 y1 y2))
 | 0=>fun _ _ _ r h=>by simp [vector_points.l0] at h
 | k + 1=>by
  have ih0:=vector_points.mono_l k
  ·intro y0 y1 y2
   unfold vector_points.l0
   repeat' first
   | (with_reducible exact ih0 _ _ _)
   | (with_reducible exact vector_near.mono _ _)
   | (with_reducible exact LeO.refl _)
   | (with_reducible exact LeO.none _)
   | (with_reducible refine LeO.ite ?_ ?_)
   | (with_reducible refine LeO.bind ?_ (fun _=>?_))
   | exact ih0 _ _ _
   | exact vector_near.mono _ _
   | exact LeO.none _
   | refine LeO.ite ?_ ?_
   | refine LeO.bind ?_ (fun _=>?_)
theorem vector_points.mono : ∀ a0 k,LeO (vector_points.f k a0) (vector_points.f (k + 1) a0):=by
 intro a0 k;have ih0:=vector_points.mono_l k
 unfold vector_points.f
 repeat' first
   | (with_reducible exact ih0 _ _ _)
   | (with_reducible exact vector_near.mono _ _)
   | (with_reducible exact LeO.refl _)
   | (with_reducible exact LeO.none _)
   | (with_reducible refine LeO.ite ?_ ?_)
   | (with_reducible refine LeO.bind ?_ (fun _=>?_))
   | exact ih0 _ _ _
   | exact vector_near.mono _ _
   | exact LeO.none _
   | refine LeO.ite ?_ ?_
   | refine LeO.bind ?_ (fun _=>?_)
set_option maxHeartbeats 8000000 in
set_option maxRecDepth 100000 in
theorem vector_points.calls (k : Nat) (A0 : Option Addr) (c0 : Nat) (l0 : List (S31)) (r : Int) (w : World) (hr0 : Kd.C k31 w A0 l0.length l0) (hc0 : l0.length ≤ c0) (h : vector_points.f k l0 = some r) :
  Calls Try.prog 79 #[.slice A0 l0.length c0] w fun e w'=>e = .returned (.int .i64 r) ∧ Below w.heap.size w w':=by
 have hu31:=Try.underlying31;have HR0:=am hr0;have HC0:=am hc0;clear hr0 hc0;have HB:=am (Below.refl w.heap.size w);have H : (vector_points.l0 k l0 (l0.length : Int) 0) = some r:=h;clear h;have H':=am H;clear H
 go_enter Try.func79,Try.ntmps79
 go_wp2
 go_loopg [7] k (fun kq v7 w'=>∃ (x7_1 : Int),v7 = .int .i64 x7_1 ∧ Aside0 (vector_points.l0 kq l0 (l0.length : Int) x7_1 = some r) ∧ Aside0 (kq ≤ k) ∧ Aside0 (Below w.heap.size w w'))
 case atStart=>exact ⟨(0),(by first|rfl|(simp;done)|(simp [*];done)),H',⟨Nat.le_refl _⟩,⟨by repeat (first|(with_reducible first|exact HB.out|apply lA|apply lN|apply lD)|exact HB.out)⟩⟩
 case round =>
  clear H';obtain ⟨x7_1,rfl,HA,HK1,HB⟩ := hrel
  cases gk with
  | zero=>exact absurd HA.out (by simp [vector_points.l0])
  | succ k1 =>
   have H:=HA.out;clear HA;simp only [vector_points.l0] at H;by_cases c2 : x7_1 < (l0.length : Int)
   ·rw [if_pos c2] at H;have c2b0 : decide (x7_1 < (l0.length : Int)) = true:=decide_eq_true c2;clear c2;by_cases c3 : 0 ≤ x7_1
    ·rw [if_pos c3] at H;have c3b0 : decide (0 ≤ x7_1) = true:=decide_eq_true c3;clear c3;by_cases c4 : x7_1 < (l0.length : Int)
     ·rw [if_pos c4] at H;have c4b0 : decide (x7_1 < (l0.length : Int)) = true:=decide_eq_true c4;clear c4
      obtain ⟨y109,hy109⟩ : ∃ y_ : List Int,y_ = (([(rd_T31 l0 x7_1).f0,(rd_T31 l0 x7_1).f1] : List Int)):=⟨_,rfl⟩
      replace H : ((vector_near.f k1 y109).bind fun t112=>(if t112 = true then (vector_points.l0 k1 l0 (l0.length : Int) (wrap64 (x7_1 + 1))) else (some 6))) = some r:=by first|(rw [hy109];with_reducible exact H)|(have H2_:=(Option.bind_some _ _).symm.trans H;rw [hy109];with_reducible exact H2_)|(have H2_:=(Option.bind_some _ _).symm.trans H;with_reducible exact H2_)|with_reducible exact H|(rw [hy109];exact H)|exact H
      have Ny109:=am hy109;clear hy109;replace H:=Option.bind_eq_some_iff.mp H;obtain ⟨t112,A50,H⟩ := H;replace H : (if t112 = true then (vector_points.l0 k1 l0 (l0.length : Int) (wrap64 (x7_1 + 1))) else (some 6)) = some r:=H;have A5:=am A50;clear A50;by_cases c6 : t112 = true
      ·subst c6
       have H1 : (vector_points.l0 k1 l0 (l0.length : Int) (wrap64 (x7_1 + 1))) = some r:=by rw [if_pos rfl] at H;exact H
       clear H;have H:=H1;clear H1;have H':=am H;clear H;have p107 : 0 ≤ (x7_1 : Int):=of_decide_eq_true (by first|(with_reducible assumption)|assumption);have q107 : x7_1 < (l0.length : Int):=of_decide_eq_true (by first|(with_reducible assumption)|assumption);obtain ⟨ad107,e107,hx107_0,hx107_1⟩ := at_T31 HR0.out x7_1 p107 q107
       cases e107
       replace hx107_0:=(HB.out.cell (World.block_lt_of_cell? w _ hx107_0)).trans hx107_0;replace hx107_1:=(HB.out.cell (World.block_lt_of_cell? w _ hx107_1)).trans hx107_1;replace p107:=eq_true p107;replace q107:=eq_true q107
       go_wp2_with (first|((with_reducible refine gate_dst (N:=4) rfl ?_);refine box_event ?hg (N:=4) ?hd (cs:=#[.int .i64 0,.int .i64 0]) (t:=31) ?hr ?_;(case hd=>rfl);(case hg=>rfl);(case hr=>first|(go_simp;done)|(go_simp;rfl));intro gb108 hg w7 hbox hb;have BK108:=am hbox;have GW108:=bza HB hg;have GE108:=bza HB hg;replace HB:=bsa HB hb;clear hb hbox hg;obtain ⟨hcz8_0,hcz8_1,hfz8_0,hfz8_1⟩ := c2_ BK108.out)|((with_reducible refine gate_dst (N:=15) rfl ?_);refine Kd.R_lit (Kd.int .i64) _ 3 ?hg (N:=15) ?hd (xs:=([(rd_T31 l0 x7_1).f0,(rd_T31 l0 x7_1).f1] : List Int)) (inner:=[.int .i64 ((rd_T31 l0 x7_1).f0),.int .i64 ((rd_T31 l0 x7_1).f1)]) (ok:=fun _=>True) (okp:=fun _=>True) ?hr ?hp (fun _ hk=>hk) trivial (Below.refl _ _) (Nat.le_refl _) (by simp) ?_;(case hd=>rfl);(case hg=>rfl);(case hr=>first|(go_simp;done)|(go_simp;rfl));(case hp=>exact (Reps.one (show Kd.M (Kd.int .i64) _ _ _ ((rd_T31 l0 x7_1).f0) [.int .i64 ((rd_T31 l0 x7_1).f0)] from rfl) (Reps.one (show Kd.M (Kd.int .i64) _ _ _ ((rd_T31 l0 x7_1).f1) [.int .i64 ((rd_T31 l0 x7_1).f1)] from rfl) (Reps.none _ _))));intro v110 w9 ho10 hb hg_ hnew_;clear hg_ hnew_;(first|rw [← Ny109.out] at ho10|(simp only [Int.reduceToNat] at ho10;rw [← Ny109.out] at ho10));have HO111:=am (Kd.R_lower ho10 (below_size (by repeat (first|(with_reducible first|exact HB.out|apply lA|apply lN|apply lD|refine lS ?_ GE108.out)|exact HB.out))));replace BK108:=am (blk_below (g:=gb108) (o:=.cells #[.int .i64 ((rd_T31 l0 x7_1).f0),.int .i64 ((rd_T31 l0 x7_1).f1)] 31 (0,0)) (by (with_reducible repeat (first|apply bN|apply bD|apply bA));refine blk_put (cs:=#[.int .i64 ((rd_T31 l0 x7_1).f0),.int .i64 0]) ?_ 1 _ rfl;(with_reducible repeat (first|apply bN|apply bD|apply bA));refine blk_put (cs:=#[.int .i64 0,.int .i64 0]) ?_ 0 _ rfl;(with_reducible repeat (first|apply bN|apply bD|apply bA));exact BK108.out) hb);replace HB:=am (below_step (by repeat (first|(with_reducible first|exact HB.out|apply lA|apply lN|apply lD|refine lS ?_ GE108.out)|exact HB.out)) hb);clear hb ho10;obtain ⟨Ao11,co11,eo11⟩ := Kd.R_slice HO111.out;subst eo11)|((with_reducible refine gate_callee (f:=87) rfl ?_);refine goesL_ (some 16) rfl rfl Try.func87 (by kernel_rfl) rfl #[.slice Ao11 y109.length co11] rfl (by (try simp only [mT,mC,mN]);first|done|rfl|(simp only [lDr,lTk];rfl)) ?_;(with_reducible refine (vector_near.calls k1 _ _ y109 true _ ?side1 ?side2 A5.out).mono ?_);(case side1=>exact cr (Kd.R_reads' HO111.out).2.2);(case side2=>exact (Kd.R_reads' HO111.out).2.1);rintro e w' ⟨rfl,⟨nd,rfl⟩⟩;refine ⟨_,rfl, ?_⟩))
       go_roundg k1
       case measure=>have:=HK1.out;omega
       case rel=>exact ⟨(wrap64 (x7_1 + 1)),(by first|rfl|(simp;done)|(simp [*];done)),H',⟨by have:=HK1.out;omega⟩,⟨by repeat (first|(with_reducible first|exact HB.out|apply lA|apply lN|apply lD|refine lS ?_ GE108.out)|exact HB.out)⟩⟩
      ·replace c6:=Bool.eq_false_iff.mpr c6;subst c6
       have H1 : (some 6) = some r:=by rw [if_neg (show ¬ (false = true) by decide)] at H;exact H
       clear H;have H:=H1;clear H1;obtain rfl:=Option.some.inj H;have p107 : 0 ≤ (x7_1 : Int):=of_decide_eq_true (by first|(with_reducible assumption)|assumption);have q107 : x7_1 < (l0.length : Int):=of_decide_eq_true (by first|(with_reducible assumption)|assumption);obtain ⟨ad107,e107,hx107_0,hx107_1⟩ := at_T31 HR0.out x7_1 p107 q107
       cases e107
       replace hx107_0:=(HB.out.cell (World.block_lt_of_cell? w _ hx107_0)).trans hx107_0;replace hx107_1:=(HB.out.cell (World.block_lt_of_cell? w _ hx107_1)).trans hx107_1;replace p107:=eq_true p107;replace q107:=eq_true q107
       go_wp2_with (first|((with_reducible refine gate_dst (N:=4) rfl ?_);refine box_event ?hg (N:=4) ?hd (cs:=#[.int .i64 0,.int .i64 0]) (t:=31) ?hr ?_;(case hd=>rfl);(case hg=>rfl);(case hr=>first|(go_simp;done)|(go_simp;rfl));intro gb108 hg w12 hbox hb;have BK108:=am hbox;have GW108:=bza HB hg;have GE108:=bza HB hg;replace HB:=bsa HB hb;clear hb hbox hg;obtain ⟨hcz13_0,hcz13_1,hfz13_0,hfz13_1⟩ := c2_ BK108.out)|((with_reducible refine gate_dst (N:=15) rfl ?_);refine Kd.R_lit (Kd.int .i64) _ 3 ?hg (N:=15) ?hd (xs:=([(rd_T31 l0 x7_1).f0,(rd_T31 l0 x7_1).f1] : List Int)) (inner:=[.int .i64 ((rd_T31 l0 x7_1).f0),.int .i64 ((rd_T31 l0 x7_1).f1)]) (ok:=fun _=>True) (okp:=fun _=>True) ?hr ?hp (fun _ hk=>hk) trivial (Below.refl _ _) (Nat.le_refl _) (by simp) ?_;(case hd=>rfl);(case hg=>rfl);(case hr=>first|(go_simp;done)|(go_simp;rfl));(case hp=>exact (Reps.one (show Kd.M (Kd.int .i64) _ _ _ ((rd_T31 l0 x7_1).f0) [.int .i64 ((rd_T31 l0 x7_1).f0)] from rfl) (Reps.one (show Kd.M (Kd.int .i64) _ _ _ ((rd_T31 l0 x7_1).f1) [.int .i64 ((rd_T31 l0 x7_1).f1)] from rfl) (Reps.none _ _))));intro v110 w14 ho15 hb hg_ hnew_;clear hg_ hnew_;(first|rw [← Ny109.out] at ho15|(simp only [Int.reduceToNat] at ho15;rw [← Ny109.out] at ho15));have HO111:=am (Kd.R_lower ho15 (below_size (by repeat (first|(with_reducible first|exact HB.out|apply lA|apply lN|apply lD|refine lS ?_ GE108.out)|exact HB.out))));replace BK108:=am (blk_below (g:=gb108) (o:=.cells #[.int .i64 ((rd_T31 l0 x7_1).f0),.int .i64 ((rd_T31 l0 x7_1).f1)] 31 (0,0)) (by (with_reducible repeat (first|apply bN|apply bD|apply bA));refine blk_put (cs:=#[.int .i64 ((rd_T31 l0 x7_1).f0),.int .i64 0]) ?_ 1 _ rfl;(with_reducible repeat (first|apply bN|apply bD|apply bA));refine blk_put (cs:=#[.int .i64 0,.int .i64 0]) ?_ 0 _ rfl;(with_reducible repeat (first|apply bN|apply bD|apply bA));exact BK108.out) hb);replace HB:=am (below_step (by repeat (first|(with_reducible first|exact HB.out|apply lA|apply lN|apply lD|refine lS ?_ GE108.out)|exact HB.out)) hb);clear hb ho15;obtain ⟨Ao16,co16,eo16⟩ := Kd.R_slice HO111.out;subst eo16)|((with_reducible refine gate_callee (f:=87) rfl ?_);refine goesL_ (some 16) rfl rfl Try.func87 (by kernel_rfl) rfl #[.slice Ao16 y109.length co16] rfl (by (try simp only [mT,mC,mN]);first|done|rfl|(simp only [lDr,lTk];rfl)) ?_;(with_reducible refine (vector_near.calls k1 _ _ y109 false _ ?side1 ?side2 A5.out).mono ?_);(case side1=>exact cr (Kd.R_reads' HO111.out).2.2);(case side2=>exact (Kd.R_reads' HO111.out).2.1);rintro e w' ⟨rfl,⟨nd,rfl⟩⟩;refine ⟨_,rfl, ?_⟩))
       go_ret
       exact ⟨by first|rfl|(simp [errW_none,errW_some] <;> rfl)|(simp [*,errW_none,errW_some] <;> rfl),by repeat (first|(with_reducible first|exact HB.out|apply lA|apply lN|apply lD|refine lS ?_ GE108.out)|exact HB.out)⟩
     (rw [if_neg c4] at H;exact absurd H (by simp))
    (rw [if_neg c3] at H;exact absurd H (by simp))
   ·rw [if_neg c2] at H;have c2b0 : decide (x7_1 < (l0.length : Int)) = false:=decide_eq_false c2;clear c2;obtain rfl:=Option.some.inj H
    go_wp2
    go_ret
    exact ⟨by first|rfl|(simp [errW_none,errW_some] <;> rfl)|(simp [*,errW_none,errW_some] <;> rfl),by repeat (first|(with_reducible first|exact HB.out|apply lA|apply lN|apply lD)|exact HB.out)⟩
def vector_one.f (a0 : Bool) : Option (Int):=if a0 = true then (some 1) else (some 0)
set_option maxHeartbeats 8000000 in
set_option maxRecDepth 100000 in
theorem vector_one.calls (a0 : Bool) (r : Int) (w : World) (h : vector_one.f a0 = some r) :
  Calls Try.prog 80 #[.bool a0] w fun e w'=>e = .returned (.int .i64 r) ∧ Drawn0 w w':=by
 have H : (if a0 = true then (some 1) else (some 0)) = some r:=h;clear h;by_cases c2 : a0 = true
 ·subst c2
  have H1 : (some 1) = some r:=by rw [if_pos rfl] at H;exact H
  clear H;have H:=H1;clear H1;obtain rfl:=Option.some.inj H
  go_enter Try.func80,Try.ntmps80
  go_wp2
  go_ret
  exact ⟨by first|rfl|(simp;done)|(simp [*];done),by repeat (first|exact Drawn0.refl _|apply Drawn0.step)⟩
 ·replace c2:=Bool.eq_false_iff.mpr c2;subst c2
  have H1 : (some 0) = some r:=by rw [if_neg (show ¬ (false = true) by decide)] at H;exact H
  clear H;have H:=H1;clear H1;obtain rfl:=Option.some.inj H
  go_enter Try.func80,Try.ntmps80
  go_wp2
  go_ret
  exact ⟨by first|rfl|(simp;done)|(simp [*];done),by repeat (first|exact Drawn0.refl _|apply Drawn0.step)⟩
def cmp_isNaN_int.f (a0 : Int) : Option (Bool):=some (a0 != a0)
set_option maxHeartbeats 8000000 in
set_option maxRecDepth 100000 in
theorem cmp_isNaN_int.calls (a0 : Int) (r : Bool) (w : World) (h : cmp_isNaN_int.f a0 = some r) :
  Calls Try.prog 88 #[.int .i64 a0] w fun e w'=>e = .returned (.bool r) ∧ Drawn0 w w':=by
 have H : (some (a0 != a0)) = some r:=h;clear h;obtain rfl:=Option.some.inj H
 go_enter Try.func88,Try.ntmps88
 go_wp2
 go_ret
 exact ⟨by first|rfl|(simp;done)|(simp [*];done),by repeat (first|exact Drawn0.refl _|apply Drawn0.step)⟩
def cmp_Compare_int.f (a0 : Int) (a1 : Int) : Option (Int):=(cmp_isNaN_int.f a0).bind fun t113=>((cmp_isNaN_int.f a1).bind fun t114=>(if t113 = true then (if t114 = true then (some 0) else (some (-1))) else (if t114 = true then (some 1) else (if a0 < a1 then (some (-1)) else (if a0 > a1 then (some 1) else (some 0))))))
set_option maxHeartbeats 8000000 in
set_option maxRecDepth 100000 in
theorem cmp_Compare_int.calls (a0 : Int) (a1 : Int) (r : Int) (w : World) (h : cmp_Compare_int.f a0 a1 = some r) :
  Calls Try.prog 85 #[.int .i64 a0,.int .i64 a1] w fun e w'=>e = .returned (.int .i64 r) ∧ Drawn0 w w':=by
 have H : ((cmp_isNaN_int.f a0).bind fun t113=>((cmp_isNaN_int.f a1).bind fun t114=>(if t113 = true then (if t114 = true then (some 0) else (some (-1))) else (if t114 = true then (some 1) else (if a0 < a1 then (some (-1)) else (if a0 > a1 then (some 1) else (some 0))))))) = some r:=h;clear h;replace H:=Option.bind_eq_some_iff.mp H;obtain ⟨t113,A30,H⟩ := H;replace H : ((cmp_isNaN_int.f a1).bind fun t114=>(if t113 = true then (if t114 = true then (some 0) else (some (-1))) else (if t114 = true then (some 1) else (if a0 < a1 then (some (-1)) else (if a0 > a1 then (some 1) else (some 0)))))) = some r:=H;have A3:=am A30;clear A30;replace H:=Option.bind_eq_some_iff.mp H;obtain ⟨t114,A40,H⟩ := H;replace H : (if t113 = true then (if t114 = true then (some 0) else (some (-1))) else (if t114 = true then (some 1) else (if a0 < a1 then (some (-1)) else (if a0 > a1 then (some 1) else (some 0))))) = some r:=H;have A4:=am A40;clear A40;by_cases c5 : t113 = true
 ·subst c5
  have H1 : (if t114 = true then (some 0) else (some (-1))) = some r:=by rw [if_pos rfl] at H;exact H
  clear H;have H:=H1;clear H1;by_cases c6 : t114 = true
  ·subst c6
   have H1 : (some 0) = some r:=by rw [if_pos rfl] at H;exact H
   clear H;have H:=H1;clear H1;obtain rfl:=Option.some.inj H
   go_enter Try.func85,Try.ntmps85
   go_wp2_with (first|((with_reducible refine gate_callee (f:=88) rfl ?_);refine goesL_ (some 8) rfl rfl Try.func88 (by kernel_rfl) rfl #[.int .i64 a0] rfl (by (try simp only [mT,mC,mN]);first|done|rfl|(simp only [lDr,lTk];rfl)) ?_;(with_reducible refine (cmp_isNaN_int.calls a0 true _ A3.out).mono ?_);rintro e w' ⟨rfl,⟨nd,rfl⟩⟩;refine ⟨_,rfl, ?_⟩)|((with_reducible refine gate_callee (f:=88) rfl ?_);refine goesL_ (some 10) rfl rfl Try.func88 (by kernel_rfl) rfl #[.int .i64 a1] rfl (by (try simp only [mT,mC,mN]);first|done|rfl|(simp only [lDr,lTk];rfl)) ?_;(with_reducible refine (cmp_isNaN_int.calls a1 true _ A4.out).mono ?_);rintro e w' ⟨rfl,⟨nd,rfl⟩⟩;refine ⟨_,rfl, ?_⟩))
   go_ret
   exact ⟨by first|rfl|(simp;done)|(simp [*];done),by repeat (first|exact Drawn0.refl _|apply Drawn0.step)⟩
  ·replace c6:=Bool.eq_false_iff.mpr c6;subst c6
   have H1 : (some (-1)) = some r:=by rw [if_neg (show ¬ (false = true) by decide)] at H;exact H
   clear H;have H:=H1;clear H1;obtain rfl:=Option.some.inj H
   go_enter Try.func85,Try.ntmps85
   go_wp2_with (first|((with_reducible refine gate_callee (f:=88) rfl ?_);refine goesL_ (some 8) rfl rfl Try.func88 (by kernel_rfl) rfl #[.int .i64 a0] rfl (by (try simp only [mT,mC,mN]);first|done|rfl|(simp only [lDr,lTk];rfl)) ?_;(with_reducible refine (cmp_isNaN_int.calls a0 true _ A3.out).mono ?_);rintro e w' ⟨rfl,⟨nd,rfl⟩⟩;refine ⟨_,rfl, ?_⟩)|((with_reducible refine gate_callee (f:=88) rfl ?_);refine goesL_ (some 10) rfl rfl Try.func88 (by kernel_rfl) rfl #[.int .i64 a1] rfl (by (try simp only [mT,mC,mN]);first|done|rfl|(simp only [lDr,lTk];rfl)) ?_;(with_reducible refine (cmp_isNaN_int.calls a1 false _ A4.out).mono ?_);rintro e w' ⟨rfl,⟨nd,rfl⟩⟩;refine ⟨_,rfl, ?_⟩))
   go_ret
   exact ⟨by first|rfl|(simp;done)|(simp [*];done),by repeat (first|exact Drawn0.refl _|apply Drawn0.step)⟩
 ·replace c5:=Bool.eq_false_iff.mpr c5;subst c5
  have H1 : (if t114 = true then (some 1) else (if a0 < a1 then (some (-1)) else (if a0 > a1 then (some 1) else (some 0)))) = some r:=by rw [if_neg (show ¬ (false = true) by decide)] at H;exact H
  clear H;have H:=H1;clear H1;by_cases c7 : t114 = true
  ·subst c7
   have H1 : (some 1) = some r:=by rw [if_pos rfl] at H;exact H
   clear H;have H:=H1;clear H1;obtain rfl:=Option.some.inj H
   go_enter Try.func85,Try.ntmps85
   go_wp2_with (first|((with_reducible refine gate_callee (f:=88) rfl ?_);refine goesL_ (some 8) rfl rfl Try.func88 (by kernel_rfl) rfl #[.int .i64 a0] rfl (by (try simp only [mT,mC,mN]);first|done|rfl|(simp only [lDr,lTk];rfl)) ?_;(with_reducible refine (cmp_isNaN_int.calls a0 false _ A3.out).mono ?_);rintro e w' ⟨rfl,⟨nd,rfl⟩⟩;refine ⟨_,rfl, ?_⟩)|((with_reducible refine gate_callee (f:=88) rfl ?_);refine goesL_ (some 10) rfl rfl Try.func88 (by kernel_rfl) rfl #[.int .i64 a1] rfl (by (try simp only [mT,mC,mN]);first|done|rfl|(simp only [lDr,lTk];rfl)) ?_;(with_reducible refine (cmp_isNaN_int.calls a1 true _ A4.out).mono ?_);rintro e w' ⟨rfl,⟨nd,rfl⟩⟩;refine ⟨_,rfl, ?_⟩))
   go_ret
   exact ⟨by first|rfl|(simp;done)|(simp [*];done),by repeat (first|exact Drawn0.refl _|apply Drawn0.step)⟩
  ·replace c7:=Bool.eq_false_iff.mpr c7;subst c7
   have H1 : (if a0 < a1 then (some (-1)) else (if a0 > a1 then (some 1) else (some 0))) = some r:=by rw [if_neg (show ¬ (false = true) by decide)] at H;exact H
   clear H;have H:=H1;clear H1;by_cases c8 : a0 < a1
   ·rw [if_pos c8] at H;have c8b0 : decide (a0 < a1) = true:=decide_eq_true c8;clear c8;obtain rfl:=Option.some.inj H
    go_enter Try.func85,Try.ntmps85
    go_wp2_with (first|((with_reducible refine gate_callee (f:=88) rfl ?_);refine goesL_ (some 8) rfl rfl Try.func88 (by kernel_rfl) rfl #[.int .i64 a0] rfl (by (try simp only [mT,mC,mN]);first|done|rfl|(simp only [lDr,lTk];rfl)) ?_;(with_reducible refine (cmp_isNaN_int.calls a0 false _ A3.out).mono ?_);rintro e w' ⟨rfl,⟨nd,rfl⟩⟩;refine ⟨_,rfl, ?_⟩)|((with_reducible refine gate_callee (f:=88) rfl ?_);refine goesL_ (some 10) rfl rfl Try.func88 (by kernel_rfl) rfl #[.int .i64 a1] rfl (by (try simp only [mT,mC,mN]);first|done|rfl|(simp only [lDr,lTk];rfl)) ?_;(with_reducible refine (cmp_isNaN_int.calls a1 false _ A4.out).mono ?_);rintro e w' ⟨rfl,⟨nd,rfl⟩⟩;refine ⟨_,rfl, ?_⟩))
    go_ret
    exact ⟨by first|rfl|(simp;done)|(simp [*];done),by repeat (first|exact Drawn0.refl _|apply Drawn0.step)⟩
   ·rw [if_neg c8] at H;have c8b0 : decide (a0 < a1) = false:=decide_eq_false c8;clear c8;by_cases c9 : a0 > a1
    ·rw [if_pos c9] at H;have c9b0 : decide (a1 < a0) = true:=decide_eq_true c9;clear c9;obtain rfl:=Option.some.inj H
     go_enter Try.func85,Try.ntmps85
     go_wp2_with (first|((with_reducible refine gate_callee (f:=88) rfl ?_);refine goesL_ (some 8) rfl rfl Try.func88 (by kernel_rfl) rfl #[.int .i64 a0] rfl (by (try simp only [mT,mC,mN]);first|done|rfl|(simp only [lDr,lTk];rfl)) ?_;(with_reducible refine (cmp_isNaN_int.calls a0 false _ A3.out).mono ?_);rintro e w' ⟨rfl,⟨nd,rfl⟩⟩;refine ⟨_,rfl, ?_⟩)|((with_reducible refine gate_callee (f:=88) rfl ?_);refine goesL_ (some 10) rfl rfl Try.func88 (by kernel_rfl) rfl #[.int .i64 a1] rfl (by (try simp only [mT,mC,mN]);first|done|rfl|(simp only [lDr,lTk];rfl)) ?_;(with_reducible refine (cmp_isNaN_int.calls a1 false _ A4.out).mono ?_);rintro e w' ⟨rfl,⟨nd,rfl⟩⟩;refine ⟨_,rfl, ?_⟩))
     go_ret
     exact ⟨by first|rfl|(simp;done)|(simp [*];done),by repeat (first|exact Drawn0.refl _|apply Drawn0.step)⟩
    ·rw [if_neg c9] at H;have c9b0 : decide (a1 < a0) = false:=decide_eq_false c9;clear c9;obtain rfl:=Option.some.inj H
     go_enter Try.func85,Try.ntmps85
     go_wp2_with (first|((with_reducible refine gate_callee (f:=88) rfl ?_);refine goesL_ (some 8) rfl rfl Try.func88 (by kernel_rfl) rfl #[.int .i64 a0] rfl (by (try simp only [mT,mC,mN]);first|done|rfl|(simp only [lDr,lTk];rfl)) ?_;(with_reducible refine (cmp_isNaN_int.calls a0 false _ A3.out).mono ?_);rintro e w' ⟨rfl,⟨nd,rfl⟩⟩;refine ⟨_,rfl, ?_⟩)|((with_reducible refine gate_callee (f:=88) rfl ?_);refine goesL_ (some 10) rfl rfl Try.func88 (by kernel_rfl) rfl #[.int .i64 a1] rfl (by (try simp only [mT,mC,mN]);first|done|rfl|(simp only [lDr,lTk];rfl)) ?_;(with_reducible refine (cmp_isNaN_int.calls a1 false _ A4.out).mono ?_);rintro e w' ⟨rfl,⟨nd,rfl⟩⟩;refine ⟨_,rfl, ?_⟩))
     go_ret
     exact ⟨by first|rfl|(simp;done)|(simp [*];done),by repeat (first|exact Drawn0.refl _|apply Drawn0.step)⟩
def vector_turn.f (a0_0 : Int) (a0_1 : Int) (a1_0 : Int) (a1_1 : Int) (a2_0 : Int) (a2_1 : Int) : Option (Int):=(cmp_Compare_int.f (wrap64 ((wrap64 ((wrap64 (a1_0 - a0_0)) * (wrap64 (a2_1 - a0_1)))) - (wrap64 ((wrap64 (a1_1 - a0_1)) * (wrap64 (a2_0 - a0_0)))))) 0).bind fun t118=>(some t118)
set_option maxHeartbeats 8000000 in
set_option maxRecDepth 100000 in
theorem vector_turn.calls (a0_0 : Int) (a0_1 : Int) (a1_0 : Int) (a1_1 : Int) (a2_0 : Int) (a2_1 : Int) (r : Int) (w : World) (h : vector_turn.f a0_0 a0_1 a1_0 a1_1 a2_0 a2_1 = some r) :
  Calls Try.prog 82 #[.agg #[.int .i64 a0_0,.int .i64 a0_1],.agg #[.int .i64 a1_0,.int .i64 a1_1],.agg #[.int .i64 a2_0,.int .i64 a2_1]] w fun e w'=>e = .returned (.int .i64 r) ∧ Below w.heap.size w w':=by
 have hu31:=Try.underlying31;have HB:=am (Below.refl w.heap.size w);have H : ((cmp_Compare_int.f (wrap64 ((wrap64 ((wrap64 (a1_0 - a0_0)) * (wrap64 (a2_1 - a0_1)))) - (wrap64 ((wrap64 (a1_1 - a0_1)) * (wrap64 (a2_0 - a0_0)))))) 0).bind fun t118=>(some t118)) = some r:=h;clear h;replace H:=Option.bind_eq_some_iff.mp H;obtain ⟨t118,A40,H⟩ := H;replace H : (some t118) = some r:=H;have A4:=am A40;clear A40;obtain rfl:=Option.some.inj H
 go_enter Try.func82,Try.ntmps82
 go_wp2_with (first|((with_reducible refine gate_dst (N:=3) rfl ?_);refine box_event ?hg (N:=3) ?hd (cs:=#[.int .i64 a0_0,.int .i64 a0_1]) (t:=31) ?hr ?_;(case hd=>rfl);(case hg=>rfl);(case hr=>first|(go_simp;done)|(go_simp;rfl));intro gb115 hg w5 hbox hb;have BK115:=am hbox;have GW115:=bza HB hg;have GE115:=bza HB hg;replace HB:=bsa HB hb;clear hb hbox hg)|((with_reducible refine gate_dst (N:=4) rfl ?_);refine box_event ?hg (N:=4) ?hd (cs:=#[.int .i64 a1_0,.int .i64 a1_1]) (t:=31) ?hr ?_;(case hd=>rfl);(case hg=>rfl);(case hr=>first|(go_simp;done)|(go_simp;rfl));intro gb116 hg w6 hbox hb;have BK116:=am hbox;have GW116:=bza HB hg;have GE116:=bza HB hg;have NB115_116:=bla BK115 hg;have NB116_115:=bga BK115 hg;replace BK115:=bba BK115 hb;replace HB:=bsa HB hb;clear hb hbox hg)|((with_reducible refine gate_dst (N:=5) rfl ?_);refine box_event ?hg (N:=5) ?hd (cs:=#[.int .i64 a2_0,.int .i64 a2_1]) (t:=31) ?hr ?_;(case hd=>rfl);(case hg=>rfl);(case hr=>first|(go_simp;done)|(go_simp;rfl));intro gb117 hg w7 hbox hb;have BK117:=am hbox;have GW117:=bza HB hg;have GE117:=bza HB hg;have NB115_117:=bla BK115 hg;have NB117_115:=bga BK115 hg;have NB116_117:=bla BK116 hg;have NB117_116:=bga BK116 hg;replace BK115:=bba BK115 hb;replace BK116:=bba BK116 hb;replace HB:=bsa HB hb;clear hb hbox hg;have hnb8:=NB116_115.out;have hnc8:=NB115_116.out;have hnb9:=NB116_117.out;have hnc9:=NB117_116.out;obtain ⟨hcz10_0,hcz10_1,hfz10_0,hfz10_1⟩ := c2_ BK116.out;have hnb11:=NB115_117.out;have hnc11:=NB117_115.out;obtain ⟨hcz12_0,hcz12_1,hfz12_0,hfz12_1⟩ := c2_ BK115.out;obtain ⟨hcz13_0,hcz13_1,hfz13_0,hfz13_1⟩ := c2_ BK117.out)|((with_reducible refine gate_callee (f:=85) rfl ?_);refine goesL_ (some 30) rfl rfl Try.func85 (by kernel_rfl) rfl #[.int .i64 (wrap64 ((wrap64 ((wrap64 (a1_0 - a0_0)) * (wrap64 (a2_1 - a0_1)))) - (wrap64 ((wrap64 (a1_1 - a0_1)) * (wrap64 (a2_0 - a0_0)))))),.int .i64 0] rfl (by (try simp only [mT,mC,mN]);first|done|rfl|(simp only [lDr,lTk];rfl)) ?_;(with_reducible refine (cmp_Compare_int.calls (wrap64 ((wrap64 ((wrap64 (a1_0 - a0_0)) * (wrap64 (a2_1 - a0_1)))) - (wrap64 ((wrap64 (a1_1 - a0_1)) * (wrap64 (a2_0 - a0_0)))))) 0 t118 _ A4.out).mono ?_);rintro e w' ⟨rfl,⟨nd,rfl⟩⟩;refine ⟨_,rfl, ?_⟩))
 go_ret
 exact ⟨by first|rfl|(simp [errW_none,errW_some] <;> rfl)|(simp [*,errW_none,errW_some] <;> rfl),by repeat (first|(with_reducible first|exact HB.out|apply lA|apply lN|apply lD|refine lS ?_ GE115.out|refine lS ?_ GE116.out|refine lS ?_ GE117.out)|exact HB.out)⟩
def vector_on.f (a0_0 : Int) (a0_1 : Int) (a1_0 : Int) (a1_1 : Int) (a2_0 : Int) (a2_1 : Int) : Option (Bool):=(vector_turn.f a0_0 a0_1 a1_0 a1_1 a2_0 a2_1).bind fun t122=>(if t122 = 0 then (if a2_0 ≥ (mn a0_0 a1_0) then (if a2_0 ≤ (mx a0_0 a1_0) then (if a2_1 ≥ (mn a0_1 a1_1) then (some (decide (a2_1 ≤ (mx a0_1 a1_1)))) else (some false)) else (some false)) else (some false)) else (some false))
set_option maxHeartbeats 8000000 in
set_option maxRecDepth 100000 in
theorem vector_on.calls (a0_0 : Int) (a0_1 : Int) (a1_0 : Int) (a1_1 : Int) (a2_0 : Int) (a2_1 : Int) (r : Bool) (w : World) (h : vector_on.f a0_0 a0_1 a1_0 a1_1 a2_0 a2_1 = some r) :
  Calls Try.prog 81 #[.agg #[.int .i64 a0_0,.int .i64 a0_1],.agg #[.int .i64 a1_0,.int .i64 a1_1],.agg #[.int .i64 a2_0,.int .i64 a2_1]] w fun e w'=>e = .returned (.bool r) ∧ Below w.heap.size w w':=by
 have hu31:=Try.underlying31;have HB:=am (Below.refl w.heap.size w);have H : ((vector_turn.f a0_0 a0_1 a1_0 a1_1 a2_0 a2_1).bind fun t122=>(if t122 = 0 then (if a2_0 ≥ (mn a0_0 a1_0) then (if a2_0 ≤ (mx a0_0 a1_0) then (if a2_1 ≥ (mn a0_1 a1_1) then (some (decide (a2_1 ≤ (mx a0_1 a1_1)))) else (some false)) else (some false)) else (some false)) else (some false))) = some r:=h;clear h;replace H:=Option.bind_eq_some_iff.mp H;obtain ⟨t122,A40,H⟩ := H;replace H : (if t122 = 0 then (if a2_0 ≥ (mn a0_0 a1_0) then (if a2_0 ≤ (mx a0_0 a1_0) then (if a2_1 ≥ (mn a0_1 a1_1) then (some (decide (a2_1 ≤ (mx a0_1 a1_1)))) else (some false)) else (some false)) else (some false)) else (some false)) = some r:=H;have A4:=am A40;clear A40;by_cases c5 : t122 = 0
 ·rw [if_pos c5] at H;have c5b0 : (t122 == 0) = true:=beq_iff_eq.mpr c5;have c5b1 : (t122 != 0) = false:=bne_eq_false_iff_eq.mpr c5;clear c5
  obtain ⟨ji6,hji6⟩ : ∃ j_ : Int,(mn a0_0 a1_0) = j_:=⟨_,rfl⟩
  replace H : (if a2_0 ≥ (ji6) then (if a2_0 ≤ (mx a0_0 a1_0) then (if a2_1 ≥ (mn a0_1 a1_1) then (some (decide (a2_1 ≤ (mx a0_1 a1_1)))) else (some false)) else (some false)) else (some false)) = some r:=by first|(rw [hji6] at H;exact H)|(simp only [hji6] at H ⊢;exact H)
  (try rw [hji6] at A4)
  have hji6_ : (if a1_0 < a0_0 then a1_0 else a0_0) = ji6:=hji6;by_cases c7 : a2_0 ≥ (ji6)
  ·rw [if_pos c7] at H;have c7b0 : decide ((ji6) ≤ a2_0) = true:=decide_eq_true c7;clear c7
   obtain ⟨ji8,hji8⟩ : ∃ j_ : Int,(mx a0_0 a1_0) = j_:=⟨_,rfl⟩
   replace H : (if a2_0 ≤ (ji8) then (if a2_1 ≥ (mn a0_1 a1_1) then (some (decide (a2_1 ≤ (mx a0_1 a1_1)))) else (some false)) else (some false)) = some r:=by first|(rw [hji8] at H;exact H)|(simp only [hji8] at H ⊢;exact H)
   (try rw [hji8] at A4)
   have hji8_ : (if a0_0 < a1_0 then a1_0 else a0_0) = ji8:=hji8;by_cases c9 : a2_0 ≤ (ji8)
   ·rw [if_pos c9] at H;have c9b0 : decide (a2_0 ≤ (ji8)) = true:=decide_eq_true c9;clear c9
    obtain ⟨ji10,hji10⟩ : ∃ j_ : Int,(mn a0_1 a1_1) = j_:=⟨_,rfl⟩
    replace H : (if a2_1 ≥ (ji10) then (some (decide (a2_1 ≤ (mx a0_1 a1_1)))) else (some false)) = some r:=by first|(rw [hji10] at H;exact H)|(simp only [hji10] at H ⊢;exact H)
    (try rw [hji10] at A4)
    have hji10_ : (if a1_1 < a0_1 then a1_1 else a0_1) = ji10:=hji10;by_cases c11 : a2_1 ≥ (ji10)
    ·rw [if_pos c11] at H;have c11b0 : decide ((ji10) ≤ a2_1) = true:=decide_eq_true c11;clear c11
     obtain ⟨ji12,hji12⟩ : ∃ j_ : Int,(mx a0_1 a1_1) = j_:=⟨_,rfl⟩
     replace H : (some (decide (a2_1 ≤ (ji12)))) = some r:=by first|(rw [hji12] at H;exact H)|(simp only [hji12] at H ⊢;exact H)
     (try rw [hji12] at A4);have hji12_ : (if a0_1 < a1_1 then a1_1 else a0_1) = ji12:=hji12;obtain rfl:=Option.some.inj H
     go_enter Try.func81,Try.ntmps81
     go_wp2_with (first|((with_reducible refine gate_dst (N:=3) rfl ?_);(try (refine gate_guard (by rfl) ?_;dsimp only));refine box_event ?hg (N:=3) ?hd (cs:=#[.int .i64 a0_0,.int .i64 a0_1]) (t:=31) ?hr ?_;(case hd=>rfl);(case hg=>rfl);(case hr=>first|(go_simp;done)|(go_simp;rfl));intro gb119 hg w13 hbox hb;have BK119:=am hbox;have GW119:=bza HB hg;have GE119:=bza HB hg;replace HB:=bsa HB hb;clear hb hbox hg)|((with_reducible refine gate_dst (N:=4) rfl ?_);(try (refine gate_guard (by rfl) ?_;dsimp only));refine box_event ?hg (N:=4) ?hd (cs:=#[.int .i64 a1_0,.int .i64 a1_1]) (t:=31) ?hr ?_;(case hd=>rfl);(case hg=>rfl);(case hr=>first|(go_simp;done)|(go_simp;rfl));intro gb120 hg w14 hbox hb;have BK120:=am hbox;have GW120:=bza HB hg;have GE120:=bza HB hg;have NB119_120:=bla BK119 hg;have NB120_119:=bga BK119 hg;replace BK119:=bba BK119 hb;replace HB:=bsa HB hb;clear hb hbox hg)|((with_reducible refine gate_dst (N:=5) rfl ?_);(try (refine gate_guard (by rfl) ?_;dsimp only));refine box_event ?hg (N:=5) ?hd (cs:=#[.int .i64 a2_0,.int .i64 a2_1]) (t:=31) ?hr ?_;(case hd=>rfl);(case hg=>rfl);(case hr=>first|(go_simp;done)|(go_simp;rfl));intro gb121 hg w15 hbox hb;have BK121:=am hbox;have GW121:=bza HB hg;have GE121:=bza HB hg;have NB119_121:=bla BK119 hg;have NB121_119:=bga BK119 hg;have NB120_121:=bla BK120 hg;have NB121_120:=bga BK120 hg;replace BK119:=bba BK119 hb;replace BK120:=bba BK120 hb;replace HB:=bsa HB hb;clear hb hbox hg;have hnb16:=NB119_120.out;have hnc16:=NB120_119.out;have hnb17:=NB119_121.out;have hnc17:=NB121_119.out;obtain ⟨hcz18_0,hcz18_1,hfz18_0,hfz18_1⟩ := c2_ BK119.out;have hnb19:=NB120_121.out;have hnc19:=NB121_120.out;obtain ⟨hcz20_0,hcz20_1,hfz20_0,hfz20_1⟩ := c2_ BK120.out;obtain ⟨hcz21_0,hcz21_1,hfz21_0,hfz21_1⟩ := c2_ BK121.out)|((with_reducible refine gate_callee (f:=82) rfl ?_);refine goesL_ (some 10) rfl rfl Try.func82 (by kernel_rfl) rfl #[.agg #[.int .i64 a0_0,.int .i64 a0_1],.agg #[.int .i64 a1_0,.int .i64 a1_1],.agg #[.int .i64 a2_0,.int .i64 a2_1]] rfl (by (try simp only [mT,mC,mN]);first|done|rfl|(simp only [lDr,lTk];rfl)) ?_;(with_reducible refine (vector_turn.calls a0_0 a0_1 a1_0 a1_1 a2_0 a2_1 t122 _ A4.out).mono ?_);rintro e w22 ⟨rfl,hb⟩;refine ⟨_,rfl, ?_⟩;replace BK119:=bba BK119 hb;replace BK120:=bba BK120 hb;replace BK121:=bba BK121 hb;replace HB:=bsa HB hb;(try clear hb);(try clear hb2);(try clear hk);(try clear hi);obtain ⟨hcz23_0,hcz23_1,hfz23_0,hfz23_1⟩ := c2_ BK121.out;obtain ⟨hcz24_0,hcz24_1,hfz24_0,hfz24_1⟩ := c2_ BK119.out;obtain ⟨hcz25_0,hcz25_1,hfz25_0,hfz25_1⟩ := c2_ BK120.out))
     go_ret
     exact ⟨by first|rfl|(simp [errW_none,errW_some] <;> rfl)|(simp only [← hji6,← hji8,← hji10,← hji12];first|rfl|(simp [errW_none,errW_some] <;> rfl))|(simp [*,errW_none,errW_some] <;> rfl),by repeat (first|(with_reducible first|exact HB.out|apply lA|apply lN|apply lD|refine lS ?_ GE119.out|refine lS ?_ GE120.out|refine lS ?_ GE121.out)|exact HB.out)⟩
    ·rw [if_neg c11] at H;have c11b0 : decide ((ji10) ≤ a2_1) = false:=decide_eq_false c11;clear c11;obtain rfl:=Option.some.inj H
     go_enter Try.func81,Try.ntmps81
     go_wp2_with (first|((with_reducible refine gate_dst (N:=3) rfl ?_);(try (refine gate_guard (by rfl) ?_;dsimp only));refine box_event ?hg (N:=3) ?hd (cs:=#[.int .i64 a0_0,.int .i64 a0_1]) (t:=31) ?hr ?_;(case hd=>rfl);(case hg=>rfl);(case hr=>first|(go_simp;done)|(go_simp;rfl));intro gb119 hg w26 hbox hb;have BK119:=am hbox;have GW119:=bza HB hg;have GE119:=bza HB hg;replace HB:=bsa HB hb;clear hb hbox hg)|((with_reducible refine gate_dst (N:=4) rfl ?_);(try (refine gate_guard (by rfl) ?_;dsimp only));refine box_event ?hg (N:=4) ?hd (cs:=#[.int .i64 a1_0,.int .i64 a1_1]) (t:=31) ?hr ?_;(case hd=>rfl);(case hg=>rfl);(case hr=>first|(go_simp;done)|(go_simp;rfl));intro gb120 hg w27 hbox hb;have BK120:=am hbox;have GW120:=bza HB hg;have GE120:=bza HB hg;have NB119_120:=bla BK119 hg;have NB120_119:=bga BK119 hg;replace BK119:=bba BK119 hb;replace HB:=bsa HB hb;clear hb hbox hg)|((with_reducible refine gate_dst (N:=5) rfl ?_);(try (refine gate_guard (by rfl) ?_;dsimp only));refine box_event ?hg (N:=5) ?hd (cs:=#[.int .i64 a2_0,.int .i64 a2_1]) (t:=31) ?hr ?_;(case hd=>rfl);(case hg=>rfl);(case hr=>first|(go_simp;done)|(go_simp;rfl));intro gb121 hg w28 hbox hb;have BK121:=am hbox;have GW121:=bza HB hg;have GE121:=bza HB hg;have NB119_121:=bla BK119 hg;have NB121_119:=bga BK119 hg;have NB120_121:=bla BK120 hg;have NB121_120:=bga BK120 hg;replace BK119:=bba BK119 hb;replace BK120:=bba BK120 hb;replace HB:=bsa HB hb;clear hb hbox hg;have hnb29:=NB119_120.out;have hnc29:=NB120_119.out;have hnb30:=NB119_121.out;have hnc30:=NB121_119.out;obtain ⟨hcz31_0,hcz31_1,hfz31_0,hfz31_1⟩ := c2_ BK119.out;have hnb32:=NB120_121.out;have hnc32:=NB121_120.out;obtain ⟨hcz33_0,hcz33_1,hfz33_0,hfz33_1⟩ := c2_ BK120.out;obtain ⟨hcz34_0,hcz34_1,hfz34_0,hfz34_1⟩ := c2_ BK121.out)|((with_reducible refine gate_callee (f:=82) rfl ?_);refine goesL_ (some 10) rfl rfl Try.func82 (by kernel_rfl) rfl #[.agg #[.int .i64 a0_0,.int .i64 a0_1],.agg #[.int .i64 a1_0,.int .i64 a1_1],.agg #[.int .i64 a2_0,.int .i64 a2_1]] rfl (by (try simp only [mT,mC,mN]);first|done|rfl|(simp only [lDr,lTk];rfl)) ?_;(with_reducible refine (vector_turn.calls a0_0 a0_1 a1_0 a1_1 a2_0 a2_1 t122 _ A4.out).mono ?_);rintro e w35 ⟨rfl,hb⟩;refine ⟨_,rfl, ?_⟩;replace BK119:=bba BK119 hb;replace BK120:=bba BK120 hb;replace BK121:=bba BK121 hb;replace HB:=bsa HB hb;(try clear hb);(try clear hb2);(try clear hk);(try clear hi);obtain ⟨hcz36_0,hcz36_1,hfz36_0,hfz36_1⟩ := c2_ BK121.out;obtain ⟨hcz37_0,hcz37_1,hfz37_0,hfz37_1⟩ := c2_ BK119.out;obtain ⟨hcz38_0,hcz38_1,hfz38_0,hfz38_1⟩ := c2_ BK120.out))
     go_ret
     exact ⟨by first|rfl|(simp [errW_none,errW_some] <;> rfl)|(simp only [← hji6,← hji8,← hji10];first|rfl|(simp [errW_none,errW_some] <;> rfl))|(simp [*,errW_none,errW_some] <;> rfl),by repeat (first|(with_reducible first|exact HB.out|apply lA|apply lN|apply lD|refine lS ?_ GE119.out|refine lS ?_ GE120.out|refine lS ?_ GE121.out)|exact HB.out)⟩
   ·rw [if_neg c9] at H;have c9b0 : decide (a2_0 ≤ (ji8)) = false:=decide_eq_false c9;clear c9;obtain rfl:=Option.some.inj H
    go_enter Try.func81,Try.ntmps81
    go_wp2_with (first|((with_reducible refine gate_dst (N:=3) rfl ?_);(try (refine gate_guard (by rfl) ?_;dsimp only));refine box_event ?hg (N:=3) ?hd (cs:=#[.int .i64 a0_0,.int .i64 a0_1]) (t:=31) ?hr ?_;(case hd=>rfl);(case hg=>rfl);(case hr=>first|(go_simp;done)|(go_simp;rfl));intro gb119 hg w39 hbox hb;have BK119:=am hbox;have GW119:=bza HB hg;have GE119:=bza HB hg;replace HB:=bsa HB hb;clear hb hbox hg)|((with_reducible refine gate_dst (N:=4) rfl ?_);(try (refine gate_guard (by rfl) ?_;dsimp only));refine box_event ?hg (N:=4) ?hd (cs:=#[.int .i64 a1_0,.int .i64 a1_1]) (t:=31) ?hr ?_;(case hd=>rfl);(case hg=>rfl);(case hr=>first|(go_simp;done)|(go_simp;rfl));intro gb120 hg w40 hbox hb;have BK120:=am hbox;have GW120:=bza HB hg;have GE120:=bza HB hg;have NB119_120:=bla BK119 hg;have NB120_119:=bga BK119 hg;replace BK119:=bba BK119 hb;replace HB:=bsa HB hb;clear hb hbox hg)|((with_reducible refine gate_dst (N:=5) rfl ?_);(try (refine gate_guard (by rfl) ?_;dsimp only));refine box_event ?hg (N:=5) ?hd (cs:=#[.int .i64 a2_0,.int .i64 a2_1]) (t:=31) ?hr ?_;(case hd=>rfl);(case hg=>rfl);(case hr=>first|(go_simp;done)|(go_simp;rfl));intro gb121 hg w41 hbox hb;have BK121:=am hbox;have GW121:=bza HB hg;have GE121:=bza HB hg;have NB119_121:=bla BK119 hg;have NB121_119:=bga BK119 hg;have NB120_121:=bla BK120 hg;have NB121_120:=bga BK120 hg;replace BK119:=bba BK119 hb;replace BK120:=bba BK120 hb;replace HB:=bsa HB hb;clear hb hbox hg;have hnb42:=NB119_120.out;have hnc42:=NB120_119.out;have hnb43:=NB119_121.out;have hnc43:=NB121_119.out;obtain ⟨hcz44_0,hcz44_1,hfz44_0,hfz44_1⟩ := c2_ BK119.out;have hnb45:=NB120_121.out;have hnc45:=NB121_120.out;obtain ⟨hcz46_0,hcz46_1,hfz46_0,hfz46_1⟩ := c2_ BK120.out;obtain ⟨hcz47_0,hcz47_1,hfz47_0,hfz47_1⟩ := c2_ BK121.out)|((with_reducible refine gate_callee (f:=82) rfl ?_);refine goesL_ (some 10) rfl rfl Try.func82 (by kernel_rfl) rfl #[.agg #[.int .i64 a0_0,.int .i64 a0_1],.agg #[.int .i64 a1_0,.int .i64 a1_1],.agg #[.int .i64 a2_0,.int .i64 a2_1]] rfl (by (try simp only [mT,mC,mN]);first|done|rfl|(simp only [lDr,lTk];rfl)) ?_;(with_reducible refine (vector_turn.calls a0_0 a0_1 a1_0 a1_1 a2_0 a2_1 t122 _ A4.out).mono ?_);rintro e w48 ⟨rfl,hb⟩;refine ⟨_,rfl, ?_⟩;replace BK119:=bba BK119 hb;replace BK120:=bba BK120 hb;replace BK121:=bba BK121 hb;replace HB:=bsa HB hb;(try clear hb);(try clear hb2);(try clear hk);(try clear hi);obtain ⟨hcz49_0,hcz49_1,hfz49_0,hfz49_1⟩ := c2_ BK121.out;obtain ⟨hcz50_0,hcz50_1,hfz50_0,hfz50_1⟩ := c2_ BK119.out;obtain ⟨hcz51_0,hcz51_1,hfz51_0,hfz51_1⟩ := c2_ BK120.out))
    go_ret
    exact ⟨by first|rfl|(simp [errW_none,errW_some] <;> rfl)|(simp only [← hji6,← hji8];first|rfl|(simp [errW_none,errW_some] <;> rfl))|(simp [*,errW_none,errW_some] <;> rfl),by repeat (first|(with_reducible first|exact HB.out|apply lA|apply lN|apply lD|refine lS ?_ GE119.out|refine lS ?_ GE120.out|refine lS ?_ GE121.out)|exact HB.out)⟩
  ·rw [if_neg c7] at H;have c7b0 : decide ((ji6) ≤ a2_0) = false:=decide_eq_false c7;clear c7;obtain rfl:=Option.some.inj H
   go_enter Try.func81,Try.ntmps81
   go_wp2_with (first|((with_reducible refine gate_dst (N:=3) rfl ?_);(try (refine gate_guard (by rfl) ?_;dsimp only));refine box_event ?hg (N:=3) ?hd (cs:=#[.int .i64 a0_0,.int .i64 a0_1]) (t:=31) ?hr ?_;(case hd=>rfl);(case hg=>rfl);(case hr=>first|(go_simp;done)|(go_simp;rfl));intro gb119 hg w52 hbox hb;have BK119:=am hbox;have GW119:=bza HB hg;have GE119:=bza HB hg;replace HB:=bsa HB hb;clear hb hbox hg)|((with_reducible refine gate_dst (N:=4) rfl ?_);(try (refine gate_guard (by rfl) ?_;dsimp only));refine box_event ?hg (N:=4) ?hd (cs:=#[.int .i64 a1_0,.int .i64 a1_1]) (t:=31) ?hr ?_;(case hd=>rfl);(case hg=>rfl);(case hr=>first|(go_simp;done)|(go_simp;rfl));intro gb120 hg w53 hbox hb;have BK120:=am hbox;have GW120:=bza HB hg;have GE120:=bza HB hg;have NB119_120:=bla BK119 hg;have NB120_119:=bga BK119 hg;replace BK119:=bba BK119 hb;replace HB:=bsa HB hb;clear hb hbox hg)|((with_reducible refine gate_dst (N:=5) rfl ?_);(try (refine gate_guard (by rfl) ?_;dsimp only));refine box_event ?hg (N:=5) ?hd (cs:=#[.int .i64 a2_0,.int .i64 a2_1]) (t:=31) ?hr ?_;(case hd=>rfl);(case hg=>rfl);(case hr=>first|(go_simp;done)|(go_simp;rfl));intro gb121 hg w54 hbox hb;have BK121:=am hbox;have GW121:=bza HB hg;have GE121:=bza HB hg;have NB119_121:=bla BK119 hg;have NB121_119:=bga BK119 hg;have NB120_121:=bla BK120 hg;have NB121_120:=bga BK120 hg;replace BK119:=bba BK119 hb;replace BK120:=bba BK120 hb;replace HB:=bsa HB hb;clear hb hbox hg;have hnb55:=NB119_120.out;have hnc55:=NB120_119.out;have hnb56:=NB119_121.out;have hnc56:=NB121_119.out;obtain ⟨hcz57_0,hcz57_1,hfz57_0,hfz57_1⟩ := c2_ BK119.out;have hnb58:=NB120_121.out;have hnc58:=NB121_120.out;obtain ⟨hcz59_0,hcz59_1,hfz59_0,hfz59_1⟩ := c2_ BK120.out;obtain ⟨hcz60_0,hcz60_1,hfz60_0,hfz60_1⟩ := c2_ BK121.out)|((with_reducible refine gate_callee (f:=82) rfl ?_);refine goesL_ (some 10) rfl rfl Try.func82 (by kernel_rfl) rfl #[.agg #[.int .i64 a0_0,.int .i64 a0_1],.agg #[.int .i64 a1_0,.int .i64 a1_1],.agg #[.int .i64 a2_0,.int .i64 a2_1]] rfl (by (try simp only [mT,mC,mN]);first|done|rfl|(simp only [lDr,lTk];rfl)) ?_;(with_reducible refine (vector_turn.calls a0_0 a0_1 a1_0 a1_1 a2_0 a2_1 t122 _ A4.out).mono ?_);rintro e w61 ⟨rfl,hb⟩;refine ⟨_,rfl, ?_⟩;replace BK119:=bba BK119 hb;replace BK120:=bba BK120 hb;replace BK121:=bba BK121 hb;replace HB:=bsa HB hb;(try clear hb);(try clear hb2);(try clear hk);(try clear hi);obtain ⟨hcz62_0,hcz62_1,hfz62_0,hfz62_1⟩ := c2_ BK121.out;obtain ⟨hcz63_0,hcz63_1,hfz63_0,hfz63_1⟩ := c2_ BK119.out;obtain ⟨hcz64_0,hcz64_1,hfz64_0,hfz64_1⟩ := c2_ BK120.out))
   go_ret
   exact ⟨by first|rfl|(simp [errW_none,errW_some] <;> rfl)|(simp only [← hji6];first|rfl|(simp [errW_none,errW_some] <;> rfl))|(simp [*,errW_none,errW_some] <;> rfl),by repeat (first|(with_reducible first|exact HB.out|apply lA|apply lN|apply lD|refine lS ?_ GE119.out|refine lS ?_ GE120.out|refine lS ?_ GE121.out)|exact HB.out)⟩
 ·rw [if_neg c5] at H;have c5b0 : (t122 == 0) = false:=beq_eq_false_iff_ne.mpr c5;have c5b1 : (t122 != 0) = true:=bne_iff_ne.mpr c5;obtain rfl:=Option.some.inj H
  go_enter Try.func81,Try.ntmps81
  go_wp2_with (first|((with_reducible refine gate_dst (N:=3) rfl ?_);(try (refine gate_guard (by rfl) ?_;dsimp only));refine box_event ?hg (N:=3) ?hd (cs:=#[.int .i64 a0_0,.int .i64 a0_1]) (t:=31) ?hr ?_;(case hd=>rfl);(case hg=>rfl);(case hr=>first|(go_simp;done)|(go_simp;rfl));intro gb119 hg w65 hbox hb;have BK119:=am hbox;have GW119:=bza HB hg;have GE119:=bza HB hg;replace HB:=bsa HB hb;clear hb hbox hg)|((with_reducible refine gate_dst (N:=4) rfl ?_);(try (refine gate_guard (by rfl) ?_;dsimp only));refine box_event ?hg (N:=4) ?hd (cs:=#[.int .i64 a1_0,.int .i64 a1_1]) (t:=31) ?hr ?_;(case hd=>rfl);(case hg=>rfl);(case hr=>first|(go_simp;done)|(go_simp;rfl));intro gb120 hg w66 hbox hb;have BK120:=am hbox;have GW120:=bza HB hg;have GE120:=bza HB hg;have NB119_120:=bla BK119 hg;have NB120_119:=bga BK119 hg;replace BK119:=bba BK119 hb;replace HB:=bsa HB hb;clear hb hbox hg)|((with_reducible refine gate_dst (N:=5) rfl ?_);(try (refine gate_guard (by rfl) ?_;dsimp only));refine box_event ?hg (N:=5) ?hd (cs:=#[.int .i64 a2_0,.int .i64 a2_1]) (t:=31) ?hr ?_;(case hd=>rfl);(case hg=>rfl);(case hr=>first|(go_simp;done)|(go_simp;rfl));intro gb121 hg w67 hbox hb;have BK121:=am hbox;have GW121:=bza HB hg;have GE121:=bza HB hg;have NB119_121:=bla BK119 hg;have NB121_119:=bga BK119 hg;have NB120_121:=bla BK120 hg;have NB121_120:=bga BK120 hg;replace BK119:=bba BK119 hb;replace BK120:=bba BK120 hb;replace HB:=bsa HB hb;clear hb hbox hg;have hnb68:=NB119_120.out;have hnc68:=NB120_119.out;have hnb69:=NB119_121.out;have hnc69:=NB121_119.out;obtain ⟨hcz70_0,hcz70_1,hfz70_0,hfz70_1⟩ := c2_ BK119.out;have hnb71:=NB120_121.out;have hnc71:=NB121_120.out;obtain ⟨hcz72_0,hcz72_1,hfz72_0,hfz72_1⟩ := c2_ BK120.out;obtain ⟨hcz73_0,hcz73_1,hfz73_0,hfz73_1⟩ := c2_ BK121.out)|((with_reducible refine gate_callee (f:=82) rfl ?_);refine goesL_ (some 10) rfl rfl Try.func82 (by kernel_rfl) rfl #[.agg #[.int .i64 a0_0,.int .i64 a0_1],.agg #[.int .i64 a1_0,.int .i64 a1_1],.agg #[.int .i64 a2_0,.int .i64 a2_1]] rfl (by (try simp only [mT,mC,mN]);first|done|rfl|(simp only [lDr,lTk];rfl)) ?_;(with_reducible refine (vector_turn.calls a0_0 a0_1 a1_0 a1_1 a2_0 a2_1 t122 _ A4.out).mono ?_);rintro e w74 ⟨rfl,hb⟩;refine ⟨_,rfl, ?_⟩;replace BK119:=bba BK119 hb;replace BK120:=bba BK120 hb;replace BK121:=bba BK121 hb;replace HB:=bsa HB hb;(try clear hb);(try clear hb2);(try clear hk);(try clear hi)))
  go_ret
  exact ⟨by first|rfl|(simp [errW_none,errW_some] <;> rfl)|(simp [*,errW_none,errW_some] <;> rfl),by repeat (first|(with_reducible first|exact HB.out|apply lA|apply lN|apply lD|refine lS ?_ GE119.out|refine lS ?_ GE120.out|refine lS ?_ GE121.out)|exact HB.out)⟩
def vector_common.f (a0 : Int) (a1 : Int) (a2 : Int) (a3 : Int) : Option (Int):=some (mx 0 (mn 2 (wrap64 ((wrap64 ((mn (mx a0 a1) (mx a2 a3)) - (mx (mn a0 a1) (mn a2 a3)))) + 1))))
set_option maxHeartbeats 8000000 in
set_option maxRecDepth 100000 in
theorem vector_common.calls (a0 : Int) (a1 : Int) (a2 : Int) (a3 : Int) (r : Int) (w : World) (h : vector_common.f a0 a1 a2 a3 = some r) :
  Calls Try.prog 83 #[.int .i64 a0,.int .i64 a1,.int .i64 a2,.int .i64 a3] w fun e w'=>e = .returned (.int .i64 r) ∧ Below w.heap.size w w':=by
 have HB:=am (Below.refl w.heap.size w);have H : (some (mx 0 (mn 2 (wrap64 ((wrap64 ((mn (mx a0 a1) (mx a2 a3)) - (mx (mn a0 a1) (mn a2 a3)))) + 1))))) = some r:=h;clear h
 obtain ⟨ji5,hji5⟩ : ∃ j_ : Int,(mn a0 a1) = j_:=⟨_,rfl⟩
 replace H : (some (mx 0 (mn 2 (wrap64 ((wrap64 ((mn (mx a0 a1) (mx a2 a3)) - (mx (ji5) (mn a2 a3)))) + 1))))) = some r:=by first|(rw [hji5] at H;exact H)|(simp only [hji5] at H ⊢;exact H)
 have hji5_ : (if a1 < a0 then a1 else a0) = ji5:=hji5
 obtain ⟨ji6,hji6⟩ : ∃ j_ : Int,(mn a2 a3) = j_:=⟨_,rfl⟩
 replace H : (some (mx 0 (mn 2 (wrap64 ((wrap64 ((mn (mx a0 a1) (mx a2 a3)) - (mx (ji5) (ji6)))) + 1))))) = some r:=by first|(rw [hji6] at H;exact H)|(simp only [hji6] at H ⊢;exact H)
 have hji6_ : (if a3 < a2 then a3 else a2) = ji6:=hji6
 obtain ⟨ji7,hji7⟩ : ∃ j_ : Int,(mx (ji5) (ji6)) = j_:=⟨_,rfl⟩
 replace H : (some (mx 0 (mn 2 (wrap64 ((wrap64 ((mn (mx a0 a1) (mx a2 a3)) - (ji7))) + 1))))) = some r:=by first|(rw [hji7] at H;exact H)|(simp only [hji7] at H ⊢;exact H)
 have hji7_ : (if (ji5) < (ji6) then (ji6) else (ji5)) = ji7:=hji7
 obtain ⟨ji8,hji8⟩ : ∃ j_ : Int,(mx a0 a1) = j_:=⟨_,rfl⟩
 replace H : (some (mx 0 (mn 2 (wrap64 ((wrap64 ((mn (ji8) (mx a2 a3)) - (ji7))) + 1))))) = some r:=by first|(rw [hji8] at H;exact H)|(simp only [hji8] at H ⊢;exact H)
 have hji8_ : (if a0 < a1 then a1 else a0) = ji8:=hji8
 obtain ⟨ji9,hji9⟩ : ∃ j_ : Int,(mx a2 a3) = j_:=⟨_,rfl⟩
 replace H : (some (mx 0 (mn 2 (wrap64 ((wrap64 ((mn (ji8) (ji9)) - (ji7))) + 1))))) = some r:=by first|(rw [hji9] at H;exact H)|(simp only [hji9] at H ⊢;exact H)
 have hji9_ : (if a2 < a3 then a3 else a2) = ji9:=hji9
 obtain ⟨ji10,hji10⟩ : ∃ j_ : Int,(mn (ji8) (ji9)) = j_:=⟨_,rfl⟩
 replace H : (some (mx 0 (mn 2 (wrap64 ((wrap64 ((ji10) - (ji7))) + 1))))) = some r:=by first|(rw [hji10] at H;exact H)|(simp only [hji10] at H ⊢;exact H)
 have hji10_ : (if (ji9) < (ji8) then (ji9) else (ji8)) = ji10:=hji10
 obtain ⟨ji11,hji11⟩ : ∃ j_ : Int,(mn 2 (wrap64 ((wrap64 ((ji10) - (ji7))) + 1))) = j_:=⟨_,rfl⟩
 replace H : (some (mx 0 (ji11))) = some r:=by first|(rw [hji11] at H;exact H)|(simp only [hji11] at H ⊢;exact H)
 have hji11_ : (if (wrap64 ((wrap64 ((ji10) - (ji7))) + 1)) < 2 then (wrap64 ((wrap64 ((ji10) - (ji7))) + 1)) else 2) = ji11:=hji11
 obtain ⟨ji12,hji12⟩ : ∃ j_ : Int,(mx 0 (ji11)) = j_:=⟨_,rfl⟩
 replace H : (some ji12) = some r:=by first|(rw [hji12] at H;exact H)|(simp only [hji12] at H ⊢;exact H)
 have hji12_ : (if 0 < (ji11) then (ji11) else 0) = ji12:=hji12;obtain rfl:=Option.some.inj H
 go_enter Try.func83,Try.ntmps83
 go_wp2
 go_ret
 exact ⟨by first|rfl|(simp [errW_none,errW_some] <;> rfl)|(simp only [← hji5,← hji6,← hji7,← hji8,← hji9,← hji10,← hji11,← hji12];first|rfl|(simp [errW_none,errW_some] <;> rfl))|(simp [*,errW_none,errW_some] <;> rfl),by repeat (first|(with_reducible first|exact HB.out|apply lA|apply lN|apply lD)|exact HB.out)⟩
end Go.Proofs.Ytnjikioimompnaa.PA
