-- Written by a program of this session out of the translation,over functions proved by hand.
import Derived.Test.YtnjikioimompnaaPAx0
namespace Go.Proofs.Ytnjikioimompnaa.PA
open Go.RowKit Go.Proofs.YtnjikioimompnaaW.PrintWords Go.Proofs.YtnjikioimompnaaW.PrintLast Go.Proofs.YtnjikioimompnaaW.PrintMore
attribute [local go_sem] max2_int min2_int max_two min_two max_three min_three max_four min_four   -- for this text's walks alone
set_option linter.unusedVariables false
set_option linter.unusedSimpArgs false
noncomputable section

def profile_bounds.l0 : Nat → List (S31) → Int → Int → Int → Int → Int → Int → Option (Int × Int × Int × Int)
 | 0,_,_,_,_,_,_,_=>none
 | k + 1,x14,x15,x16,x158000,x158001,x159000,x159001=>if x16 < x15 then (if 0 ≤ x16 then (if x16 < (x14.length : Int) then (profile_bounds.l0 k x14 x15 (wrap64 (x16 + 1)) (mn x158000 ((rd_T31 x14 x16).f0)) (mn x158001 ((rd_T31 x14 x16).f1)) (mx x159000 ((rd_T31 x14 x16).f0)) (mx x159001 ((rd_T31 x14 x16).f1))) else (none)) else (none)) else (some (x158000,x158001,wrap64 (x159000 - x158000),wrap64 (x159001 - x158001)))
def profile_bounds.f (k : Nat) (l0 : List (S31)) : Option (Int × Int × Int × Int):=if 0 < (l0.length : Int) then (profile_bounds.l0 k l0 (l0.length : Int) 0 ((rd_T31 l0 0).f0) ((rd_T31 l0 0).f1) ((rd_T31 l0 0).f0) ((rd_T31 l0 0).f1)) else (none)
theorem profile_bounds.mono_l : ∀ k,(∀ y0 y1 y2 y3 y4 y5 y6,LeO (profile_bounds.l0 k y0 y1 y2 y3 y4 y5 y6) (profile_bounds.l0 (k + 1) y0 y1 y2 y3 y4 y5 y6))
 | 0=>fun _ _ _ _ _ _ _ r h=>by simp [profile_bounds.l0] at h
 | k + 1=>by
  have ih0:=profile_bounds.mono_l k
  ·intro y0 y1 y2 y3 y4 y5 y6
   unfold profile_bounds.l0
   repeat' first
   | (with_reducible exact ih0 _ _ _ _ _ _ _)
   | (with_reducible exact LeO.refl _)
   | (with_reducible exact LeO.none _)
   | (with_reducible refine LeO.ite ?_ ?_)
   | (with_reducible refine LeO.bind ?_ (fun _=>?_))
   | exact ih0 _ _ _ _ _ _ _
   | exact LeO.none _
   | refine LeO.ite ?_ ?_
   | refine LeO.bind ?_ (fun _=>?_)
theorem profile_bounds.mono : ∀ a0 k,LeO (profile_bounds.f k a0) (profile_bounds.f (k + 1) a0):=by
 intro a0 k
 have ih0:=profile_bounds.mono_l k
 unfold profile_bounds.f
 repeat' first
   | (with_reducible exact ih0 _ _ _ _ _ _ _)
   | (with_reducible exact LeO.refl _)
   | (with_reducible exact LeO.none _)
   | (with_reducible refine LeO.ite ?_ ?_)
   | (with_reducible refine LeO.bind ?_ (fun _=>?_))
   | exact ih0 _ _ _ _ _ _ _
   | exact LeO.none _
   | refine LeO.ite ?_ ?_
   | refine LeO.bind ?_ (fun _=>?_)
def profile_bounds.T1 : Bool × List (List Nat × List Nat):=(true,[([],[]),([0],[0]),([1],[1]),([],[]),([3],[3]),([4],[4]),([],[]),([],[]),([6,2,0,1,2,6,7],[2,6]),([7,5,8,0,1,2,3,4,5,6,7,8],[5,7])])
def profile_bounds.B1 : List Nat:=[0,1,3,0,8,24,0,0,199,511]
theorem profile_bounds.tab1 : rtab .any (opsOf Try.f36 1) = profile_bounds.T1:=by kernel_rfl
theorem profile_bounds.bits1 : waitsOk profile_bounds.T1.2 profile_bounds.B1 = true:=by kernel_rfl
def profile_bounds.T8 : Bool × List (List Nat × List Nat):=(true,[([],[]),([],[]),([1],[1]),([],[]),([3],[3]),([2,4],[2,4]),([],[]),([6],[6]),([],[]),([8],[8]),([7,9],[7,9]),([5,10],[5,10]),([0,0],[0]),([11,12,0,1,2,3,4,5,6,7,8,9,10,11,12],[11])])
def profile_bounds.B8 : List Nat:=[0,0,2,0,8,30,0,64,0,256,960,2046,1,8191]
theorem profile_bounds.tab8 : rtab .any (opsOf Try.f36 8) = profile_bounds.T8:=by kernel_rfl
theorem profile_bounds.bits8 : waitsOk profile_bounds.T8.2 profile_bounds.B8 = true:=by kernel_rfl
set_option maxHeartbeats 8000000 in
set_option maxRecDepth 100000 in
theorem profile_bounds.calls (k : Nat) (A0 : Option Addr) (c0 : Nat) (l0 : List (S31)) (r1 : Int) (r2 : Int) (r3 : Int) (r4 : Int) (w : World) (hr0 : Kd.C k31 w A0 l0.length l0) (hc0 : l0.length ≤ c0) (h : profile_bounds.f k l0 = some (r1,r2,r3,r4)) :
  Calls Try.prog 36 #[.slice A0 l0.length c0] w fun e w'=>e = .returned (.tuple #[.agg #[.int .i64 r1,.int .i64 r2],.agg #[.int .i64 r3,.int .i64 r4]]) ∧ Below w.heap.size w w':=by
 have hu31:=Try.underlying31
 have HR0:=am hr0
 have HC0:=am hc0
 clear hr0 hc0
 have HB:=am (Below.refl w.heap.size w)
 have H : (if 0 < (l0.length : Int) then (profile_bounds.l0 k l0 (l0.length : Int) 0 ((rd_T31 l0 0).f0) ((rd_T31 l0 0).f1) ((rd_T31 l0 0).f0) ((rd_T31 l0 0).f1)) else (none)) = some (r1,r2,r3,r4):=h
 clear h
 by_cases c2 : 0 < (l0.length : Int)
 ·rw [if_pos c2] at H
  have c2b0 : decide (0 < (l0.length : Int)) = true:=decide_eq_true c2
  have c2b1 : decide (0 < l0.length) = true:=decide_eq_true (by omega)
  clear c2
  have H':=am H
  clear H
  go_enter Try.func36,Try.ntmps36
  try go_wp2_with (first|((with_reducible refine gate_dst (N:=2) rfl ?_);refine box_event ?hg (N:=2) ?hd (cs:=#[.int .i64 0,.int .i64 0]) (t:=31) ?hr ?_;(case hd=>rfl);(case hg=>rfl);(case hr=>first|(go_simp;done)|(go_simp;rfl));intro gb153 hg w3 hbox hb;have n0_:=am (below_step (by repeat (first|(with_reducible first|exact HB.out|apply lA|apply lN|apply lD)|exact HB.out)) hb);have n1_:=am (hbox);have n2_:=am ((by rw [hg];exact (below_size (by repeat (first|(with_reducible first|exact HB.out|apply lA|apply lN|apply lD)|exact HB.out))) : w.heap.size ≤ gb153));have n3_:=am ((by rw [hg];exact (below_size (by repeat (first|(with_reducible first|exact HB.out|apply lA|apply lN|apply lD)|exact HB.out))) : w.heap.size ≤ gb153));clear HB;have HB:=n0_;have BK153:=n1_;have GW153:=n2_;have GE153:=n3_;clear n0_ n1_ n2_ n3_;clear hb hbox hg)|((with_reducible refine gate_dst (N:=3) rfl ?_);refine box_event ?hg (N:=3) ?hd (cs:=#[.int .i64 0,.int .i64 0]) (t:=31) ?hr ?_;(case hd=>rfl);(case hg=>rfl);(case hr=>first|(go_simp;done)|(go_simp;rfl));intro gb154 hg w4 hbox hb;have n0_:=am (blk_below (g:=gb153) (o:=.cells #[.int .i64 0,.int .i64 0] 31 (0,0)) (by (with_reducible repeat (first|apply bN|apply bD|apply bA));exact BK153.out) hb);have n1_:=am (below_step (by repeat (first|(with_reducible first|exact HB.out|apply lA|apply lN|apply lD|refine lS ?_ GE153.out)|exact HB.out)) hb);have n2_:=am (hbox);have n3_:=am ((by rw [hg];exact (below_size (by repeat (first|(with_reducible first|exact HB.out|apply lA|apply lN|apply lD|refine lS ?_ GE153.out)|exact HB.out))) : w.heap.size ≤ gb154));have n4_:=am ((by rw [hg];exact (below_size (by repeat (first|(with_reducible first|exact HB.out|apply lA|apply lN|apply lD|refine lS ?_ GE153.out)|exact HB.out))) : w.heap.size ≤ gb154));have n5_:=am ((by rw [hg];exact Nat.ne_of_lt (blk_lt (g:=gb153) (o:=.cells #[.int .i64 0,.int .i64 0] 31 (0,0)) (by (with_reducible repeat (first|apply bN|apply bD|apply bA));exact BK153.out)) : gb153 ≠ gb154));have n6_:=am ((by rw [hg];exact Nat.ne_of_gt (blk_lt (g:=gb153) (o:=.cells #[.int .i64 0,.int .i64 0] 31 (0,0)) (by (with_reducible repeat (first|apply bN|apply bD|apply bA));exact BK153.out)) : gb154 ≠ gb153));clear BK153;clear HB;have BK153:=n0_;have HB:=n1_;have BK154:=n2_;have GW154:=n3_;have GE154:=n4_;have NB153_154:=n5_;have NB154_153:=n6_;clear n0_ n1_ n2_ n3_ n4_ n5_ n6_;clear hb hbox hg))
  have n0_:=am (blk_drew BK153.out)
  have n1_:=am (blk_drew BK154.out)
  have n2_:=am (below_drew1 HB.out)
  clear BK153
  clear BK154
  clear HB
  have BK153:=n0_
  have BK154:=n1_
  have HB:=n2_
  clear n0_ n1_ n2_
  have p155 : 0 ≤ (0 : Int):=(by omega)
  have q155 : 0 < (l0.length : Int):=of_decide_eq_true (by first|(with_reducible assumption)|assumption)
  obtain ⟨ad155,e155,hx155_0,hx155_1⟩ := at_T31 HR0.out 0 p155 q155
  have hw155_1:=hx155_1
  (try rw [show ((0 : Int)).toNat = 0 from rfl] at hw155_1)
  (try rw [show 0 * 2 = 0 from rfl] at hw155_1)
  (try rw [Addr.add_zero'] at hw155_1)
  have hw155_0:=hx155_0
  (try rw [show ((0 : Int)).toNat = 0 from rfl] at hw155_0)
  (try rw [show 0 * 2 = 0 from rfl] at hw155_0)
  (try rw [Addr.add_zero'] at hw155_0)
  cases e155
  have qi155 : (0 < l0.length) = True:=eq_true (by omega)
  (try rw [show ((0 : Int)).toNat = 0 from rfl] at hx155_0)
  (try rw [show 0 * 2 = 0 from rfl] at hx155_0)
  (try rw [Addr.add_zero'] at hx155_0)
  (try rw [show ((0 : Int)).toNat = 0 from rfl] at hx155_1)
  (try rw [show 0 * 2 = 0 from rfl] at hx155_1)
  (try rw [Addr.add_zero'] at hx155_1)
  replace hx155_0:=(HB.out.cell (World.block_lt_of_cell? w _ hx155_0)).trans hx155_0
  replace hx155_1:=(HB.out.cell (World.block_lt_of_cell? w _ hx155_1)).trans hx155_1
  replace p155:=eq_true p155
  replace q155:=eq_true q155
  have p156 : 0 ≤ (0 : Int):=(by omega)
  have q156 : 0 < (l0.length : Int):=of_decide_eq_true (by first|(with_reducible assumption)|assumption)
  obtain ⟨ad156,e156,hx156_0,hx156_1⟩ := at_T31 HR0.out 0 p156 q156
  have hw156_1:=hx156_1
  (try rw [show ((0 : Int)).toNat = 0 from rfl] at hw156_1)
  (try rw [show 0 * 2 = 0 from rfl] at hw156_1)
  (try rw [Addr.add_zero'] at hw156_1)
  have hw156_0:=hx156_0
  (try rw [show ((0 : Int)).toNat = 0 from rfl] at hw156_0)
  (try rw [show 0 * 2 = 0 from rfl] at hw156_0)
  (try rw [Addr.add_zero'] at hw156_0)
  obtain rfl : ad155 = ad156:=(by injection e156)
  have qi156 : (0 < l0.length) = True:=eq_true (by omega)
  (try rw [show ((0 : Int)).toNat = 0 from rfl] at hx156_0)
  (try rw [show 0 * 2 = 0 from rfl] at hx156_0)
  (try rw [Addr.add_zero'] at hx156_0)
  (try rw [show ((0 : Int)).toNat = 0 from rfl] at hx156_1)
  (try rw [show 0 * 2 = 0 from rfl] at hx156_1)
  (try rw [Addr.add_zero'] at hx156_1)
  replace hx156_0:=(HB.out.cell (World.block_lt_of_cell? w _ hx156_0)).trans hx156_0
  replace hx156_1:=(HB.out.cell (World.block_lt_of_cell? w _ hx156_1)).trans hx156_1
  replace p156:=eq_true p156
  replace q156:=eq_true q156
  refine start_ (n:=10) (S:=fun w'=>w'.cell? ad155 = some (.int .i64 ((rd_T31 l0 0).f0)) ∧ w'.cell? ⟨ad155.block,ad155.off + 1,none⟩ = some (.int .i64 ((rd_T31 l0 0).f1)) ∧ w'.cell? ad155 = some (.int .i64 ((rd_T31 l0 0).f0)) ∧ w'.cell? ⟨ad155.block,ad155.off + 1,none⟩ = some (.int .i64 ((rd_T31 l0 0).f1))) (ds:=[]) #[f_,f_,f_,f_,f_,f_,f_,f_,f_,f_] (by kernel_rfl) rfl rfl ⟨((HB.out.cell (World.block_lt_of_cell? w _ hw155_0)).trans hw155_0),((HB.out.cell (World.block_lt_of_cell? w _ hw155_1)).trans hw155_1),((HB.out.cell (World.block_lt_of_cell? w _ hw156_0)).trans hw156_0),((HB.out.cell (World.block_lt_of_cell? w _ hw156_1)).trans hw156_1)⟩ (fun hHeld=>?_);refine with_tabW profile_bounds.tab1 profile_bounds.bits1 (fun HT_ HW_=>?_)
  generalize w4.drew = w5 at BK153 BK154 HB hx155_0 hx155_1 hx156_0 hx156_1 hHeld ⊢
  refine pure_ (i:=0) (N:=some 8) (v:=?_) (a':=?_) #[t_,f_,f_,f_,f_,f_,f_,f_,f_,f_] rfl rfl (any_of HT_.out (by kernel_rfl)) (fun _ _ _ h=>h) (Or.inl ⟨by rfl, ?_⟩) ?_ ?_
  rotate_left
  ·intro w'
   go_simp
   with_reducible rfl
  rotate_left
  ·simp only [Act.put,sA,s0,sS,i64_w,i32_w]
   rfl
  refine pure_ (i:=1) (N:=some 9) (v:=?_) (a':=?_) #[t_,t_,f_,f_,f_,f_,f_,f_,f_,f_] rfl rfl (any_of HT_.out (by kernel_rfl)) (fun _ _ _ h=>h) (Or.inl ⟨by rfl, ?_⟩) ?_ ?_
  rotate_left
  ·intro w'
   go_simp
   with_reducible rfl
  rotate_left
  ·simp only [Act.put,sA,s0,sS,i64_w,i32_w]
   rfl
  refine pure_ (i:=3) (N:=some 11) (v:=?_) (a':=?_) #[t_,t_,f_,t_,f_,f_,f_,f_,f_,f_] rfl rfl (any_of HT_.out (by kernel_rfl)) (fun _ _ _ h=>h) (Or.inl ⟨by rfl, ?_⟩) ?_ ?_
  rotate_left
  ·intro w'
   go_simp
   with_reducible rfl
  rotate_left
  ·simp only [Act.put,sA,s0,sS,i64_w,i32_w]
   rfl
  refine pure_ (i:=4) (N:=some 12) (v:=?_) (a':=?_) #[t_,t_,f_,t_,t_,f_,f_,f_,f_,f_] rfl rfl (any_of HT_.out (by kernel_rfl)) (fun _ _ _ h=>h) (Or.inl ⟨by rfl, ?_⟩) ?_ ?_
  rotate_left
  ·intro w'
   go_simp
   with_reducible rfl
  rotate_left
  ·simp only [Act.put,sA,s0,sS,i64_w,i32_w]
   rfl
  refine take_ (i:=2) (N:=some 10) (v:=?_) (a':=?_) #[t_,t_,t_,t_,t_,f_,f_,f_,f_,f_] rfl rfl (take_ofW HT_.out HW_.out (by kernel_rfl)) (fun _ _ _ h=>h) (Or.inl ⟨by rfl, ?_⟩) hHeld ?_ ?_
  rotate_left
  ·rintro w' ⟨s0,s1,s2,s3⟩
   go_simp
   with_reducible rfl
  rotate_left
  ·simp only [Act.put,sA,s0,sS,i64_w,i32_w]
   rfl
  refine take_ (i:=5) (N:=some 13) (v:=?_) (a':=?_) #[t_,t_,t_,t_,t_,t_,f_,f_,f_,f_] rfl rfl (take_ofW HT_.out HW_.out (by kernel_rfl)) (fun _ _ _ h=>h) (Or.inl ⟨by rfl, ?_⟩) hHeld ?_ ?_
  rotate_left
  ·rintro w' ⟨s0,s1,s2,s3⟩
   go_simp
   with_reducible rfl
  rotate_left
  ·simp only [Act.put,sA,s0,sS,i64_w,i32_w]
   rfl
  refine join_ (σ:=Nat × Nat) 2 #[t_,t_,t_,t_,t_,t_,t_,t_,f_,f_] (fun s_=>[(4,.pointer (some ⟨s_.1,0,none⟩)),(5,.pointer (some ⟨s_.2,0,none⟩))]) (fun s_ w'=>(w'.cell? ad155 = some (.int .i64 ((rd_T31 l0 0).f0)) ∧ w'.cell? ⟨ad155.block,ad155.off + 1,none⟩ = some (.int .i64 ((rd_T31 l0 0).f1)) ∧ w'.cell? ad155 = some (.int .i64 ((rd_T31 l0 0).f0)) ∧ w'.cell? ⟨ad155.block,ad155.off + 1,none⟩ = some (.int .i64 ((rd_T31 l0 0).f1))) ∧ (w'.heap[gb153]? = some (.cells #[.int .i64 0,.int .i64 0] 31 (0,0))) ∧ (w'.heap[gb154]? = some (.cells #[.int .i64 0,.int .i64 0] 31 (0,0))) ∧ (w'.heap[s_.1]? = some (.cells #[.int .i64 0,.int .i64 0] 31 (0,0))) ∧ (w'.heap[s_.2]? = some (.cells #[.int .i64 0,.int .i64 0] 31 (0,0))) ∧ (w.heap.size ≤ s_.1) ∧ (w.heap.size ≤ s_.1) ∧ (gb153 ≠ s_.1) ∧ (s_.1 ≠ gb153) ∧ (gb154 ≠ s_.1) ∧ (s_.1 ≠ gb154) ∧ (s_.2 ≠ s_.1) ∧ (s_.1 ≠ s_.2) ∧ (w.heap.size ≤ s_.2) ∧ (w.heap.size ≤ s_.2) ∧ (gb153 ≠ s_.2) ∧ (s_.2 ≠ gb153) ∧ (gb154 ≠ s_.2) ∧ (s_.2 ≠ gb154) ∧ (Below w.heap.size w w')) ?_ ?_
  rotate_left
  ·intro hCont
   refine two_ (i:=6) (j:=7) (Ni:=some 4) (Nj:=some 5) #[t_,t_,t_,t_,t_,t_,t_,f_,f_,f_] #[t_,t_,t_,t_,t_,t_,f_,t_,f_,f_] rfl rfl rfl rfl (two_of HT_.out (by kernel_rfl)) (by decide) (by decide) (fun K hK=>?_) (fun K hK=>?_)
   ·skip
    refine box_step ?hg (N:=4) ?hd (cs:=#[.int .i64 0,.int .i64 0]) (t:=31) ?hr ?_;(case hd=>rfl);(case hg=>rfl);(case hr=>first|(go_simp;done)|(go_simp;rfl))
    intro gb157 hg w6 hbox hb
    have n0_:=am (blk_below (g:=gb153) (o:=.cells #[.int .i64 0,.int .i64 0] 31 (0,0)) (by (with_reducible repeat (first|apply bN|apply bD|apply bA));exact BK153.out) hb)
    have n1_:=am (blk_below (g:=gb154) (o:=.cells #[.int .i64 0,.int .i64 0] 31 (0,0)) (by (with_reducible repeat (first|apply bN|apply bD|apply bA));exact BK154.out) hb)
    have n2_:=am (below_step (by repeat (first|(with_reducible first|exact HB.out|apply lA|apply lN|apply lD|refine lS ?_ GE153.out|refine lS ?_ GE154.out)|exact HB.out)) hb)
    have n3_:=am (hbox)
    have n4_:=am ((by rw [hg];exact (below_size (by repeat (first|(with_reducible first|exact HB.out|apply lA|apply lN|apply lD|refine lS ?_ GE153.out|refine lS ?_ GE154.out)|exact HB.out))) : w.heap.size ≤ gb157))
    have n5_:=am ((by rw [hg];exact (below_size (by repeat (first|(with_reducible first|exact HB.out|apply lA|apply lN|apply lD|refine lS ?_ GE153.out|refine lS ?_ GE154.out)|exact HB.out))) : w.heap.size ≤ gb157))
    have n6_:=am ((by rw [hg];exact Nat.ne_of_lt (blk_lt (g:=gb153) (o:=.cells #[.int .i64 0,.int .i64 0] 31 (0,0)) (by (with_reducible repeat (first|apply bN|apply bD|apply bA));exact BK153.out)) : gb153 ≠ gb157))
    have n7_:=am ((by rw [hg];exact Nat.ne_of_gt (blk_lt (g:=gb153) (o:=.cells #[.int .i64 0,.int .i64 0] 31 (0,0)) (by (with_reducible repeat (first|apply bN|apply bD|apply bA));exact BK153.out)) : gb157 ≠ gb153))
    have n8_:=am ((by rw [hg];exact Nat.ne_of_lt (blk_lt (g:=gb154) (o:=.cells #[.int .i64 0,.int .i64 0] 31 (0,0)) (by (with_reducible repeat (first|apply bN|apply bD|apply bA));exact BK154.out)) : gb154 ≠ gb157))
    have n9_:=am ((by rw [hg];exact Nat.ne_of_gt (blk_lt (g:=gb154) (o:=.cells #[.int .i64 0,.int .i64 0] 31 (0,0)) (by (with_reducible repeat (first|apply bN|apply bD|apply bA));exact BK154.out)) : gb157 ≠ gb154))
    clear BK153
    clear BK154
    clear HB
    have BK153:=n0_
    have BK154:=n1_
    have HB:=n2_
    have BK157:=n3_
    have GW157:=n4_
    have GE157:=n5_
    have NB153_157:=n6_
    have NB157_153:=n7_
    have NB154_157:=n8_
    have NB157_154:=n9_
    clear n0_ n1_ n2_ n3_ n4_ n5_ n6_ n7_ n8_ n9_
    clear hb hbox hg
    refine hK.out _ _ ⟨((HB.out.cell (World.block_lt_of_cell? w _ hw155_0)).trans hw155_0),((HB.out.cell (World.block_lt_of_cell? w _ hw155_1)).trans hw155_1),((HB.out.cell (World.block_lt_of_cell? w _ hw156_0)).trans hw156_0),((HB.out.cell (World.block_lt_of_cell? w _ hw156_1)).trans hw156_1)⟩ (fun hHeld=>?_)
    clear hK K
    refine norm_ (a':=?_) ?_ ?_
    rotate_left
    ·show Act.put _ (some 4) _ = _
     simp only [Act.put,sA,s0,sS,i64_w,i32_w]
     rfl
    refine one_ (i:=7) (N:=some 5) #[t_,t_,t_,t_,t_,t_,t_,t_,f_,f_] rfl rfl (one_of HT_.out (by kernel_rfl)) (by decide) (fun K hK=>?_)
    refine box_step ?hg (N:=5) ?hd (cs:=#[.int .i64 0,.int .i64 0]) (t:=31) ?hr ?_;(case hd=>rfl);(case hg=>rfl);(case hr=>first|(go_simp;done)|(go_simp;rfl))
    intro gb158 hg w7 hbox hb
    have n0_:=am (blk_below (g:=gb153) (o:=.cells #[.int .i64 0,.int .i64 0] 31 (0,0)) (by (with_reducible repeat (first|apply bN|apply bD|apply bA));exact BK153.out) hb)
    have n1_:=am (blk_below (g:=gb154) (o:=.cells #[.int .i64 0,.int .i64 0] 31 (0,0)) (by (with_reducible repeat (first|apply bN|apply bD|apply bA));exact BK154.out) hb)
    have n2_:=am (blk_below (g:=gb157) (o:=.cells #[.int .i64 0,.int .i64 0] 31 (0,0)) (by (with_reducible repeat (first|apply bN|apply bD|apply bA));exact BK157.out) hb)
    have n3_:=am (below_step (by repeat (first|(with_reducible first|exact HB.out|apply lA|apply lN|apply lD|refine lS ?_ GE153.out|refine lS ?_ GE154.out|refine lS ?_ GE157.out)|exact HB.out)) hb)
    have n4_:=am (hbox)
    have n5_:=am ((by rw [hg];exact (below_size (by repeat (first|(with_reducible first|exact HB.out|apply lA|apply lN|apply lD|refine lS ?_ GE153.out|refine lS ?_ GE154.out|refine lS ?_ GE157.out)|exact HB.out))) : w.heap.size ≤ gb158))
    have n6_:=am ((by rw [hg];exact (below_size (by repeat (first|(with_reducible first|exact HB.out|apply lA|apply lN|apply lD|refine lS ?_ GE153.out|refine lS ?_ GE154.out|refine lS ?_ GE157.out)|exact HB.out))) : w.heap.size ≤ gb158))
    have n7_:=am ((by rw [hg];exact Nat.ne_of_lt (blk_lt (g:=gb153) (o:=.cells #[.int .i64 0,.int .i64 0] 31 (0,0)) (by (with_reducible repeat (first|apply bN|apply bD|apply bA));exact BK153.out)) : gb153 ≠ gb158))
    have n8_:=am ((by rw [hg];exact Nat.ne_of_gt (blk_lt (g:=gb153) (o:=.cells #[.int .i64 0,.int .i64 0] 31 (0,0)) (by (with_reducible repeat (first|apply bN|apply bD|apply bA));exact BK153.out)) : gb158 ≠ gb153))
    have n9_:=am ((by rw [hg];exact Nat.ne_of_lt (blk_lt (g:=gb154) (o:=.cells #[.int .i64 0,.int .i64 0] 31 (0,0)) (by (with_reducible repeat (first|apply bN|apply bD|apply bA));exact BK154.out)) : gb154 ≠ gb158))
    have n10_:=am ((by rw [hg];exact Nat.ne_of_gt (blk_lt (g:=gb154) (o:=.cells #[.int .i64 0,.int .i64 0] 31 (0,0)) (by (with_reducible repeat (first|apply bN|apply bD|apply bA));exact BK154.out)) : gb158 ≠ gb154))
    have n11_:=am ((by rw [hg];exact Nat.ne_of_lt (blk_lt (g:=gb157) (o:=.cells #[.int .i64 0,.int .i64 0] 31 (0,0)) (by (with_reducible repeat (first|apply bN|apply bD|apply bA));exact BK157.out)) : gb157 ≠ gb158))
    have n12_:=am ((by rw [hg];exact Nat.ne_of_gt (blk_lt (g:=gb157) (o:=.cells #[.int .i64 0,.int .i64 0] 31 (0,0)) (by (with_reducible repeat (first|apply bN|apply bD|apply bA));exact BK157.out)) : gb158 ≠ gb157))
    clear BK153
    clear BK154
    clear BK157
    clear HB
    have BK153:=n0_
    have BK154:=n1_
    have BK157:=n2_
    have HB:=n3_
    have BK158:=n4_
    have GW158:=n5_
    have GE158:=n6_
    have NB153_158:=n7_
    have NB158_153:=n8_
    have NB154_158:=n9_
    have NB158_154:=n10_
    have NB157_158:=n11_
    have NB158_157:=n12_
    clear n0_ n1_ n2_ n3_ n4_ n5_ n6_ n7_ n8_ n9_ n10_ n11_ n12_
    clear hb hbox hg
    refine hK.out _ _ ⟨((HB.out.cell (World.block_lt_of_cell? w _ hw155_0)).trans hw155_0),((HB.out.cell (World.block_lt_of_cell? w _ hw155_1)).trans hw155_1),((HB.out.cell (World.block_lt_of_cell? w _ hw156_0)).trans hw156_0),((HB.out.cell (World.block_lt_of_cell? w _ hw156_1)).trans hw156_1)⟩ (fun hHeld=>?_)
    clear hK K
    refine norm_ (a':=?_) ?_ ?_
    rotate_left
    ·show Act.put _ (some 5) _ = _
     simp only [Act.put,sA,s0,sS,i64_w,i32_w]
     rfl
    exact norm_ (by simp only [putAll,Act.put,sA,s0,sS]) (hCont (gb157,gb158) _ ⟨hHeld,(by (with_reducible repeat (first|apply bN|apply bD|apply bA));exact BK153.out),(by (with_reducible repeat (first|apply bN|apply bD|apply bA));exact BK154.out),(by (with_reducible repeat (first|apply bN|apply bD|apply bA));exact BK157.out),(by (with_reducible repeat (first|apply bN|apply bD|apply bA));exact BK158.out),GW157.out,GE157.out,NB153_157.out,NB157_153.out,NB154_157.out,NB157_154.out,NB158_157.out,NB157_158.out,GW158.out,GE158.out,NB153_158.out,NB158_153.out,NB154_158.out,NB158_154.out,(by repeat (first|(with_reducible first|exact HB.out|apply lA|apply lN|apply lD|refine lS ?_ GE153.out|refine lS ?_ GE154.out|refine lS ?_ GE157.out|refine lS ?_ GE158.out)|exact HB.out))⟩)
   ·skip
    refine box_step ?hg (N:=5) ?hd (cs:=#[.int .i64 0,.int .i64 0]) (t:=31) ?hr ?_;(case hd=>rfl);(case hg=>rfl);(case hr=>first|(go_simp;done)|(go_simp;rfl))
    intro gb158 hg w6 hbox hb
    have n0_:=am (blk_below (g:=gb153) (o:=.cells #[.int .i64 0,.int .i64 0] 31 (0,0)) (by (with_reducible repeat (first|apply bN|apply bD|apply bA));exact BK153.out) hb)
    have n1_:=am (blk_below (g:=gb154) (o:=.cells #[.int .i64 0,.int .i64 0] 31 (0,0)) (by (with_reducible repeat (first|apply bN|apply bD|apply bA));exact BK154.out) hb)
    have n2_:=am (below_step (by repeat (first|(with_reducible first|exact HB.out|apply lA|apply lN|apply lD|refine lS ?_ GE153.out|refine lS ?_ GE154.out)|exact HB.out)) hb)
    have n3_:=am (hbox)
    have n4_:=am ((by rw [hg];exact (below_size (by repeat (first|(with_reducible first|exact HB.out|apply lA|apply lN|apply lD|refine lS ?_ GE153.out|refine lS ?_ GE154.out)|exact HB.out))) : w.heap.size ≤ gb158))
    have n5_:=am ((by rw [hg];exact (below_size (by repeat (first|(with_reducible first|exact HB.out|apply lA|apply lN|apply lD|refine lS ?_ GE153.out|refine lS ?_ GE154.out)|exact HB.out))) : w.heap.size ≤ gb158))
    have n6_:=am ((by rw [hg];exact Nat.ne_of_lt (blk_lt (g:=gb153) (o:=.cells #[.int .i64 0,.int .i64 0] 31 (0,0)) (by (with_reducible repeat (first|apply bN|apply bD|apply bA));exact BK153.out)) : gb153 ≠ gb158))
    have n7_:=am ((by rw [hg];exact Nat.ne_of_gt (blk_lt (g:=gb153) (o:=.cells #[.int .i64 0,.int .i64 0] 31 (0,0)) (by (with_reducible repeat (first|apply bN|apply bD|apply bA));exact BK153.out)) : gb158 ≠ gb153))
    have n8_:=am ((by rw [hg];exact Nat.ne_of_lt (blk_lt (g:=gb154) (o:=.cells #[.int .i64 0,.int .i64 0] 31 (0,0)) (by (with_reducible repeat (first|apply bN|apply bD|apply bA));exact BK154.out)) : gb154 ≠ gb158))
    have n9_:=am ((by rw [hg];exact Nat.ne_of_gt (blk_lt (g:=gb154) (o:=.cells #[.int .i64 0,.int .i64 0] 31 (0,0)) (by (with_reducible repeat (first|apply bN|apply bD|apply bA));exact BK154.out)) : gb158 ≠ gb154))
    clear BK153
    clear BK154
    clear HB
    have BK153:=n0_
    have BK154:=n1_
    have HB:=n2_
    have BK158:=n3_
    have GW158:=n4_
    have GE158:=n5_
    have NB153_158:=n6_
    have NB158_153:=n7_
    have NB154_158:=n8_
    have NB158_154:=n9_
    clear n0_ n1_ n2_ n3_ n4_ n5_ n6_ n7_ n8_ n9_
    clear hb hbox hg
    refine hK.out _ _ ⟨((HB.out.cell (World.block_lt_of_cell? w _ hw155_0)).trans hw155_0),((HB.out.cell (World.block_lt_of_cell? w _ hw155_1)).trans hw155_1),((HB.out.cell (World.block_lt_of_cell? w _ hw156_0)).trans hw156_0),((HB.out.cell (World.block_lt_of_cell? w _ hw156_1)).trans hw156_1)⟩ (fun hHeld=>?_)
    clear hK K
    refine norm_ (a':=?_) ?_ ?_
    rotate_left
    ·show Act.put _ (some 5) _ = _
     simp only [Act.put,sA,s0,sS,i64_w,i32_w]
     rfl
    refine one_ (i:=6) (N:=some 4) #[t_,t_,t_,t_,t_,t_,t_,t_,f_,f_] rfl rfl (one_of HT_.out (by kernel_rfl)) (by decide) (fun K hK=>?_)
    refine box_step ?hg (N:=4) ?hd (cs:=#[.int .i64 0,.int .i64 0]) (t:=31) ?hr ?_;(case hd=>rfl);(case hg=>rfl);(case hr=>first|(go_simp;done)|(go_simp;rfl))
    intro gb157 hg w7 hbox hb
    have n0_:=am (blk_below (g:=gb153) (o:=.cells #[.int .i64 0,.int .i64 0] 31 (0,0)) (by (with_reducible repeat (first|apply bN|apply bD|apply bA));exact BK153.out) hb)
    have n1_:=am (blk_below (g:=gb154) (o:=.cells #[.int .i64 0,.int .i64 0] 31 (0,0)) (by (with_reducible repeat (first|apply bN|apply bD|apply bA));exact BK154.out) hb)
    have n2_:=am (blk_below (g:=gb158) (o:=.cells #[.int .i64 0,.int .i64 0] 31 (0,0)) (by (with_reducible repeat (first|apply bN|apply bD|apply bA));exact BK158.out) hb)
    have n3_:=am (below_step (by repeat (first|(with_reducible first|exact HB.out|apply lA|apply lN|apply lD|refine lS ?_ GE153.out|refine lS ?_ GE154.out|refine lS ?_ GE158.out)|exact HB.out)) hb)
    have n4_:=am (hbox)
    have n5_:=am ((by rw [hg];exact (below_size (by repeat (first|(with_reducible first|exact HB.out|apply lA|apply lN|apply lD|refine lS ?_ GE153.out|refine lS ?_ GE154.out|refine lS ?_ GE158.out)|exact HB.out))) : w.heap.size ≤ gb157))
    have n6_:=am ((by rw [hg];exact (below_size (by repeat (first|(with_reducible first|exact HB.out|apply lA|apply lN|apply lD|refine lS ?_ GE153.out|refine lS ?_ GE154.out|refine lS ?_ GE158.out)|exact HB.out))) : w.heap.size ≤ gb157))
    have n7_:=am ((by rw [hg];exact Nat.ne_of_lt (blk_lt (g:=gb153) (o:=.cells #[.int .i64 0,.int .i64 0] 31 (0,0)) (by (with_reducible repeat (first|apply bN|apply bD|apply bA));exact BK153.out)) : gb153 ≠ gb157))
    have n8_:=am ((by rw [hg];exact Nat.ne_of_gt (blk_lt (g:=gb153) (o:=.cells #[.int .i64 0,.int .i64 0] 31 (0,0)) (by (with_reducible repeat (first|apply bN|apply bD|apply bA));exact BK153.out)) : gb157 ≠ gb153))
    have n9_:=am ((by rw [hg];exact Nat.ne_of_lt (blk_lt (g:=gb154) (o:=.cells #[.int .i64 0,.int .i64 0] 31 (0,0)) (by (with_reducible repeat (first|apply bN|apply bD|apply bA));exact BK154.out)) : gb154 ≠ gb157))
    have n10_:=am ((by rw [hg];exact Nat.ne_of_gt (blk_lt (g:=gb154) (o:=.cells #[.int .i64 0,.int .i64 0] 31 (0,0)) (by (with_reducible repeat (first|apply bN|apply bD|apply bA));exact BK154.out)) : gb157 ≠ gb154))
    have n11_:=am ((by rw [hg];exact Nat.ne_of_lt (blk_lt (g:=gb158) (o:=.cells #[.int .i64 0,.int .i64 0] 31 (0,0)) (by (with_reducible repeat (first|apply bN|apply bD|apply bA));exact BK158.out)) : gb158 ≠ gb157))
    have n12_:=am ((by rw [hg];exact Nat.ne_of_gt (blk_lt (g:=gb158) (o:=.cells #[.int .i64 0,.int .i64 0] 31 (0,0)) (by (with_reducible repeat (first|apply bN|apply bD|apply bA));exact BK158.out)) : gb157 ≠ gb158))
    clear BK153
    clear BK154
    clear BK158
    clear HB
    have BK153:=n0_
    have BK154:=n1_
    have BK158:=n2_
    have HB:=n3_
    have BK157:=n4_
    have GW157:=n5_
    have GE157:=n6_
    have NB153_157:=n7_
    have NB157_153:=n8_
    have NB154_157:=n9_
    have NB157_154:=n10_
    have NB158_157:=n11_
    have NB157_158:=n12_
    clear n0_ n1_ n2_ n3_ n4_ n5_ n6_ n7_ n8_ n9_ n10_ n11_ n12_
    clear hb hbox hg
    refine hK.out _ _ ⟨((HB.out.cell (World.block_lt_of_cell? w _ hw155_0)).trans hw155_0),((HB.out.cell (World.block_lt_of_cell? w _ hw155_1)).trans hw155_1),((HB.out.cell (World.block_lt_of_cell? w _ hw156_0)).trans hw156_0),((HB.out.cell (World.block_lt_of_cell? w _ hw156_1)).trans hw156_1)⟩ (fun hHeld=>?_)
    clear hK K
    refine norm_ (a':=?_) ?_ ?_
    rotate_left
    ·show Act.put _ (some 4) _ = _
     simp only [Act.put,sA,s0,sS,i64_w,i32_w]
     rfl
    exact norm_ (by simp only [putAll,Act.put,sA,s0,sS]) (hCont (gb157,gb158) _ ⟨hHeld,(by (with_reducible repeat (first|apply bN|apply bD|apply bA));exact BK153.out),(by (with_reducible repeat (first|apply bN|apply bD|apply bA));exact BK154.out),(by (with_reducible repeat (first|apply bN|apply bD|apply bA));exact BK157.out),(by (with_reducible repeat (first|apply bN|apply bD|apply bA));exact BK158.out),GW157.out,GE157.out,NB153_157.out,NB157_153.out,NB154_157.out,NB157_154.out,NB158_157.out,NB157_158.out,GW158.out,GE158.out,NB153_158.out,NB158_153.out,NB154_158.out,NB158_154.out,(by repeat (first|(with_reducible first|exact HB.out|apply lA|apply lN|apply lD|refine lS ?_ GE153.out|refine lS ?_ GE154.out|refine lS ?_ GE158.out|refine lS ?_ GE157.out)|exact HB.out))⟩)
  rintro ⟨gb157,gb158⟩ w8 ⟨hS_,h0_,h1_,h2_,h3_,h4_,h5_,h6_,h7_,h8_,h9_,h10_,h11_,h12_,h13_,h14_,h15_,h16_,h17_,h18_⟩
  have n0_ : Aside0 (w8.heap[gb153]? = some (.cells #[.int .i64 0,.int .i64 0] 31 (0,0))):=⟨h0_⟩
  have n1_ : Aside0 (w8.heap[gb154]? = some (.cells #[.int .i64 0,.int .i64 0] 31 (0,0))):=⟨h1_⟩
  have n2_ : Aside0 (w8.heap[gb157]? = some (.cells #[.int .i64 0,.int .i64 0] 31 (0,0))):=⟨h2_⟩
  have n3_ : Aside0 (w8.heap[gb158]? = some (.cells #[.int .i64 0,.int .i64 0] 31 (0,0))):=⟨h3_⟩
  have n4_ : Aside0 (w.heap.size ≤ gb157):=⟨h4_⟩
  have n5_ : Aside0 (w.heap.size ≤ gb157):=⟨h5_⟩
  have n6_ : Aside0 (gb153 ≠ gb157):=⟨h6_⟩
  have n7_ : Aside0 (gb157 ≠ gb153):=⟨h7_⟩
  have n8_ : Aside0 (gb154 ≠ gb157):=⟨h8_⟩
  have n9_ : Aside0 (gb157 ≠ gb154):=⟨h9_⟩
  have n10_ : Aside0 (gb158 ≠ gb157):=⟨h10_⟩
  have n11_ : Aside0 (gb157 ≠ gb158):=⟨h11_⟩
  have n12_ : Aside0 (w.heap.size ≤ gb158):=⟨h12_⟩
  have n13_ : Aside0 (w.heap.size ≤ gb158):=⟨h13_⟩
  have n14_ : Aside0 (gb153 ≠ gb158):=⟨h14_⟩
  have n15_ : Aside0 (gb158 ≠ gb153):=⟨h15_⟩
  have n16_ : Aside0 (gb154 ≠ gb158):=⟨h16_⟩
  have n17_ : Aside0 (gb158 ≠ gb154):=⟨h17_⟩
  have n18_ : Aside0 (Below w.heap.size w w8):=⟨h18_⟩
  clear BK153
  clear BK154
  clear HB
  clear h0_ h1_ h2_ h3_ h4_ h5_ h6_ h7_ h8_ h9_ h10_ h11_ h12_ h13_ h14_ h15_ h16_ h17_ h18_
  have BK153:=n0_
  have BK154:=n1_
  have BK157:=n2_
  have BK158:=n3_
  have GW157:=n4_
  have GE157:=n5_
  have NB153_157:=n6_
  have NB157_153:=n7_
  have NB154_157:=n8_
  have NB157_154:=n9_
  have NB158_157:=n10_
  have NB157_158:=n11_
  have GW158:=n12_
  have GE158:=n13_
  have NB153_158:=n14_
  have NB158_153:=n15_
  have NB154_158:=n16_
  have NB158_154:=n17_
  have HB:=n18_
  clear n0_ n1_ n2_ n3_ n4_ n5_ n6_ n7_ n8_ n9_ n10_ n11_ n12_ n13_ n14_ n15_ n16_ n17_ n18_
  have hHeld : w8.cell? ad155 = some (.int .i64 ((rd_T31 l0 0).f0)) ∧ w8.cell? ⟨ad155.block,ad155.off + 1,none⟩ = some (.int .i64 ((rd_T31 l0 0).f1)) ∧ w8.cell? ad155 = some (.int .i64 ((rd_T31 l0 0).f0)) ∧ w8.cell? ⟨ad155.block,ad155.off + 1,none⟩ = some (.int .i64 ((rd_T31 l0 0).f1)):=hS_
  refine norm_ (a':=?_) ?_ ?_
  rotate_left
  ·simp only [putAll,Act.put,sA,s0,sS]
   rfl
  refine one_ (i:=8) (N:=none) #[t_,t_,t_,t_,t_,t_,t_,t_,t_,f_] rfl rfl (one_of HT_.out (by kernel_rfl)) (by decide) (fun K hK=>?_)
  have hs9 : w8.cell? ⟨gb157,0,none⟩ = some (.int .i64 0):=(blk_cell BK157.out 0).trans rfl
  have hfs9:=blk_frozen BK157.out 0
  have hns9_0:=NB153_157.out
  have hns9_1:=NB154_157.out
  have hns9_3:=NB158_157.out
  have hms9_0:=NB157_153.out
  have hms9_1:=NB157_154.out
  have hms9_3:=NB157_158.out
  have hs10 : w8.cell? ⟨gb157,1,none⟩ = some (.int .i64 0):=(blk_cell BK157.out 1).trans rfl
  have hfs10:=blk_frozen BK157.out 1
  have hns10_0:=NB153_157.out
  have hns10_1:=NB154_157.out
  have hns10_3:=NB158_157.out
  have hms10_0:=NB157_153.out
  have hms10_1:=NB157_154.out
  have hms10_3:=NB157_158.out
  refine skip_ (w1:=?_) (by rfl) rfl ?_ ?_
  rotate_left
  ·go_simp
   rfl
  refine hK.out _ _ ⟨((cell_far (p:=⟨gb157,_,none⟩) (by first|exact Nat.ne_of_lt (Nat.lt_of_lt_of_le (by have:=World.block_lt_of_cell? _ _ hw155_0;first|rwa [add_block] at this|exact this) GW157.out)|(rw [add_block];exact Nat.ne_of_lt (Nat.lt_of_lt_of_le (by have:=World.block_lt_of_cell? _ _ hw155_0;first|rwa [add_block] at this|exact this) GW157.out))|(show (Addr.add _ _).block ≠ _;rw [add_block];exact Nat.ne_of_lt (Nat.lt_of_lt_of_le (by have:=World.block_lt_of_cell? _ _ hw155_0;first|rwa [add_block] at this|exact this) GW157.out))|(dsimp only;exact Nat.ne_of_lt (Nat.lt_of_lt_of_le (by have:=World.block_lt_of_cell? _ _ hw155_0;first|rwa [add_block] at this|exact this) GW157.out))) _).trans (((cell_far (p:=⟨gb157,_,none⟩) (by first|exact Nat.ne_of_lt (Nat.lt_of_lt_of_le (by have:=World.block_lt_of_cell? _ _ hw155_0;first|rwa [add_block] at this|exact this) GW157.out)|(rw [add_block];exact Nat.ne_of_lt (Nat.lt_of_lt_of_le (by have:=World.block_lt_of_cell? _ _ hw155_0;first|rwa [add_block] at this|exact this) GW157.out))|(show (Addr.add _ _).block ≠ _;rw [add_block];exact Nat.ne_of_lt (Nat.lt_of_lt_of_le (by have:=World.block_lt_of_cell? _ _ hw155_0;first|rwa [add_block] at this|exact this) GW157.out))|(dsimp only;exact Nat.ne_of_lt (Nat.lt_of_lt_of_le (by have:=World.block_lt_of_cell? _ _ hw155_0;first|rwa [add_block] at this|exact this) GW157.out))) _).trans (hHeld.1)))),((cell_far (p:=⟨gb157,_,none⟩) (by first|exact Nat.ne_of_lt (Nat.lt_of_lt_of_le (by have:=World.block_lt_of_cell? _ _ hw155_1;first|rwa [add_block] at this|exact this) GW157.out)|(rw [add_block];exact Nat.ne_of_lt (Nat.lt_of_lt_of_le (by have:=World.block_lt_of_cell? _ _ hw155_1;first|rwa [add_block] at this|exact this) GW157.out))|(show (Addr.add _ _).block ≠ _;rw [add_block];exact Nat.ne_of_lt (Nat.lt_of_lt_of_le (by have:=World.block_lt_of_cell? _ _ hw155_1;first|rwa [add_block] at this|exact this) GW157.out))|(dsimp only;exact Nat.ne_of_lt (Nat.lt_of_lt_of_le (by have:=World.block_lt_of_cell? _ _ hw155_1;first|rwa [add_block] at this|exact this) GW157.out))) _).trans (((cell_far (p:=⟨gb157,_,none⟩) (by first|exact Nat.ne_of_lt (Nat.lt_of_lt_of_le (by have:=World.block_lt_of_cell? _ _ hw155_1;first|rwa [add_block] at this|exact this) GW157.out)|(rw [add_block];exact Nat.ne_of_lt (Nat.lt_of_lt_of_le (by have:=World.block_lt_of_cell? _ _ hw155_1;first|rwa [add_block] at this|exact this) GW157.out))|(show (Addr.add _ _).block ≠ _;rw [add_block];exact Nat.ne_of_lt (Nat.lt_of_lt_of_le (by have:=World.block_lt_of_cell? _ _ hw155_1;first|rwa [add_block] at this|exact this) GW157.out))|(dsimp only;exact Nat.ne_of_lt (Nat.lt_of_lt_of_le (by have:=World.block_lt_of_cell? _ _ hw155_1;first|rwa [add_block] at this|exact this) GW157.out))) _).trans (hHeld.2.1)))),((cell_far (p:=⟨gb157,_,none⟩) (by first|exact Nat.ne_of_lt (Nat.lt_of_lt_of_le (by have:=World.block_lt_of_cell? _ _ hw156_0;first|rwa [add_block] at this|exact this) GW157.out)|(rw [add_block];exact Nat.ne_of_lt (Nat.lt_of_lt_of_le (by have:=World.block_lt_of_cell? _ _ hw156_0;first|rwa [add_block] at this|exact this) GW157.out))|(show (Addr.add _ _).block ≠ _;rw [add_block];exact Nat.ne_of_lt (Nat.lt_of_lt_of_le (by have:=World.block_lt_of_cell? _ _ hw156_0;first|rwa [add_block] at this|exact this) GW157.out))|(dsimp only;exact Nat.ne_of_lt (Nat.lt_of_lt_of_le (by have:=World.block_lt_of_cell? _ _ hw156_0;first|rwa [add_block] at this|exact this) GW157.out))) _).trans (((cell_far (p:=⟨gb157,_,none⟩) (by first|exact Nat.ne_of_lt (Nat.lt_of_lt_of_le (by have:=World.block_lt_of_cell? _ _ hw156_0;first|rwa [add_block] at this|exact this) GW157.out)|(rw [add_block];exact Nat.ne_of_lt (Nat.lt_of_lt_of_le (by have:=World.block_lt_of_cell? _ _ hw156_0;first|rwa [add_block] at this|exact this) GW157.out))|(show (Addr.add _ _).block ≠ _;rw [add_block];exact Nat.ne_of_lt (Nat.lt_of_lt_of_le (by have:=World.block_lt_of_cell? _ _ hw156_0;first|rwa [add_block] at this|exact this) GW157.out))|(dsimp only;exact Nat.ne_of_lt (Nat.lt_of_lt_of_le (by have:=World.block_lt_of_cell? _ _ hw156_0;first|rwa [add_block] at this|exact this) GW157.out))) _).trans (hHeld.2.2.1)))),((cell_far (p:=⟨gb157,_,none⟩) (by first|exact Nat.ne_of_lt (Nat.lt_of_lt_of_le (by have:=World.block_lt_of_cell? _ _ hw156_1;first|rwa [add_block] at this|exact this) GW157.out)|(rw [add_block];exact Nat.ne_of_lt (Nat.lt_of_lt_of_le (by have:=World.block_lt_of_cell? _ _ hw156_1;first|rwa [add_block] at this|exact this) GW157.out))|(show (Addr.add _ _).block ≠ _;rw [add_block];exact Nat.ne_of_lt (Nat.lt_of_lt_of_le (by have:=World.block_lt_of_cell? _ _ hw156_1;first|rwa [add_block] at this|exact this) GW157.out))|(dsimp only;exact Nat.ne_of_lt (Nat.lt_of_lt_of_le (by have:=World.block_lt_of_cell? _ _ hw156_1;first|rwa [add_block] at this|exact this) GW157.out))) _).trans (((cell_far (p:=⟨gb157,_,none⟩) (by first|exact Nat.ne_of_lt (Nat.lt_of_lt_of_le (by have:=World.block_lt_of_cell? _ _ hw156_1;first|rwa [add_block] at this|exact this) GW157.out)|(rw [add_block];exact Nat.ne_of_lt (Nat.lt_of_lt_of_le (by have:=World.block_lt_of_cell? _ _ hw156_1;first|rwa [add_block] at this|exact this) GW157.out))|(show (Addr.add _ _).block ≠ _;rw [add_block];exact Nat.ne_of_lt (Nat.lt_of_lt_of_le (by have:=World.block_lt_of_cell? _ _ hw156_1;first|rwa [add_block] at this|exact this) GW157.out))|(dsimp only;exact Nat.ne_of_lt (Nat.lt_of_lt_of_le (by have:=World.block_lt_of_cell? _ _ hw156_1;first|rwa [add_block] at this|exact this) GW157.out))) _).trans (hHeld.2.2.2))))⟩ (fun hHeld=>?_)
  clear hK K
  refine one_ (i:=9) (N:=none) #[t_,t_,t_,t_,t_,t_,t_,t_,t_,t_] rfl rfl (one_of HT_.out (by kernel_rfl)) (by decide) (fun K hK=>?_)
  have hs11 : w8.cell? ⟨gb158,0,none⟩ = some (.int .i64 0):=(blk_cell BK158.out 0).trans rfl
  have hfs11:=blk_frozen BK158.out 0
  have hns11_0:=NB153_158.out
  have hns11_1:=NB154_158.out
  have hns11_2:=NB157_158.out
  have hms11_0:=NB158_153.out
  have hms11_1:=NB158_154.out
  have hms11_2:=NB158_157.out
  have hs12 : w8.cell? ⟨gb158,1,none⟩ = some (.int .i64 0):=(blk_cell BK158.out 1).trans rfl
  have hfs12:=blk_frozen BK158.out 1
  have hns12_0:=NB153_158.out
  have hns12_1:=NB154_158.out
  have hns12_2:=NB157_158.out
  have hms12_0:=NB158_153.out
  have hms12_1:=NB158_154.out
  have hms12_2:=NB158_157.out
  refine skip_ (w1:=?_) (by rfl) rfl ?_ ?_
  rotate_left
  ·go_simp
   rfl
  refine hK.out _ _ ⟨((cell_far (p:=⟨gb158,_,none⟩) (by first|exact Nat.ne_of_lt (Nat.lt_of_lt_of_le (by have:=World.block_lt_of_cell? _ _ hw155_0;first|rwa [add_block] at this|exact this) GW158.out)|(rw [add_block];exact Nat.ne_of_lt (Nat.lt_of_lt_of_le (by have:=World.block_lt_of_cell? _ _ hw155_0;first|rwa [add_block] at this|exact this) GW158.out))|(show (Addr.add _ _).block ≠ _;rw [add_block];exact Nat.ne_of_lt (Nat.lt_of_lt_of_le (by have:=World.block_lt_of_cell? _ _ hw155_0;first|rwa [add_block] at this|exact this) GW158.out))|(dsimp only;exact Nat.ne_of_lt (Nat.lt_of_lt_of_le (by have:=World.block_lt_of_cell? _ _ hw155_0;first|rwa [add_block] at this|exact this) GW158.out))) _).trans (((cell_far (p:=⟨gb158,_,none⟩) (by first|exact Nat.ne_of_lt (Nat.lt_of_lt_of_le (by have:=World.block_lt_of_cell? _ _ hw155_0;first|rwa [add_block] at this|exact this) GW158.out)|(rw [add_block];exact Nat.ne_of_lt (Nat.lt_of_lt_of_le (by have:=World.block_lt_of_cell? _ _ hw155_0;first|rwa [add_block] at this|exact this) GW158.out))|(show (Addr.add _ _).block ≠ _;rw [add_block];exact Nat.ne_of_lt (Nat.lt_of_lt_of_le (by have:=World.block_lt_of_cell? _ _ hw155_0;first|rwa [add_block] at this|exact this) GW158.out))|(dsimp only;exact Nat.ne_of_lt (Nat.lt_of_lt_of_le (by have:=World.block_lt_of_cell? _ _ hw155_0;first|rwa [add_block] at this|exact this) GW158.out))) _).trans (hHeld.1)))),((cell_far (p:=⟨gb158,_,none⟩) (by first|exact Nat.ne_of_lt (Nat.lt_of_lt_of_le (by have:=World.block_lt_of_cell? _ _ hw155_1;first|rwa [add_block] at this|exact this) GW158.out)|(rw [add_block];exact Nat.ne_of_lt (Nat.lt_of_lt_of_le (by have:=World.block_lt_of_cell? _ _ hw155_1;first|rwa [add_block] at this|exact this) GW158.out))|(show (Addr.add _ _).block ≠ _;rw [add_block];exact Nat.ne_of_lt (Nat.lt_of_lt_of_le (by have:=World.block_lt_of_cell? _ _ hw155_1;first|rwa [add_block] at this|exact this) GW158.out))|(dsimp only;exact Nat.ne_of_lt (Nat.lt_of_lt_of_le (by have:=World.block_lt_of_cell? _ _ hw155_1;first|rwa [add_block] at this|exact this) GW158.out))) _).trans (((cell_far (p:=⟨gb158,_,none⟩) (by first|exact Nat.ne_of_lt (Nat.lt_of_lt_of_le (by have:=World.block_lt_of_cell? _ _ hw155_1;first|rwa [add_block] at this|exact this) GW158.out)|(rw [add_block];exact Nat.ne_of_lt (Nat.lt_of_lt_of_le (by have:=World.block_lt_of_cell? _ _ hw155_1;first|rwa [add_block] at this|exact this) GW158.out))|(show (Addr.add _ _).block ≠ _;rw [add_block];exact Nat.ne_of_lt (Nat.lt_of_lt_of_le (by have:=World.block_lt_of_cell? _ _ hw155_1;first|rwa [add_block] at this|exact this) GW158.out))|(dsimp only;exact Nat.ne_of_lt (Nat.lt_of_lt_of_le (by have:=World.block_lt_of_cell? _ _ hw155_1;first|rwa [add_block] at this|exact this) GW158.out))) _).trans (hHeld.2.1)))),((cell_far (p:=⟨gb158,_,none⟩) (by first|exact Nat.ne_of_lt (Nat.lt_of_lt_of_le (by have:=World.block_lt_of_cell? _ _ hw156_0;first|rwa [add_block] at this|exact this) GW158.out)|(rw [add_block];exact Nat.ne_of_lt (Nat.lt_of_lt_of_le (by have:=World.block_lt_of_cell? _ _ hw156_0;first|rwa [add_block] at this|exact this) GW158.out))|(show (Addr.add _ _).block ≠ _;rw [add_block];exact Nat.ne_of_lt (Nat.lt_of_lt_of_le (by have:=World.block_lt_of_cell? _ _ hw156_0;first|rwa [add_block] at this|exact this) GW158.out))|(dsimp only;exact Nat.ne_of_lt (Nat.lt_of_lt_of_le (by have:=World.block_lt_of_cell? _ _ hw156_0;first|rwa [add_block] at this|exact this) GW158.out))) _).trans (((cell_far (p:=⟨gb158,_,none⟩) (by first|exact Nat.ne_of_lt (Nat.lt_of_lt_of_le (by have:=World.block_lt_of_cell? _ _ hw156_0;first|rwa [add_block] at this|exact this) GW158.out)|(rw [add_block];exact Nat.ne_of_lt (Nat.lt_of_lt_of_le (by have:=World.block_lt_of_cell? _ _ hw156_0;first|rwa [add_block] at this|exact this) GW158.out))|(show (Addr.add _ _).block ≠ _;rw [add_block];exact Nat.ne_of_lt (Nat.lt_of_lt_of_le (by have:=World.block_lt_of_cell? _ _ hw156_0;first|rwa [add_block] at this|exact this) GW158.out))|(dsimp only;exact Nat.ne_of_lt (Nat.lt_of_lt_of_le (by have:=World.block_lt_of_cell? _ _ hw156_0;first|rwa [add_block] at this|exact this) GW158.out))) _).trans (hHeld.2.2.1)))),((cell_far (p:=⟨gb158,_,none⟩) (by first|exact Nat.ne_of_lt (Nat.lt_of_lt_of_le (by have:=World.block_lt_of_cell? _ _ hw156_1;first|rwa [add_block] at this|exact this) GW158.out)|(rw [add_block];exact Nat.ne_of_lt (Nat.lt_of_lt_of_le (by have:=World.block_lt_of_cell? _ _ hw156_1;first|rwa [add_block] at this|exact this) GW158.out))|(show (Addr.add _ _).block ≠ _;rw [add_block];exact Nat.ne_of_lt (Nat.lt_of_lt_of_le (by have:=World.block_lt_of_cell? _ _ hw156_1;first|rwa [add_block] at this|exact this) GW158.out))|(dsimp only;exact Nat.ne_of_lt (Nat.lt_of_lt_of_le (by have:=World.block_lt_of_cell? _ _ hw156_1;first|rwa [add_block] at this|exact this) GW158.out))) _).trans (((cell_far (p:=⟨gb158,_,none⟩) (by first|exact Nat.ne_of_lt (Nat.lt_of_lt_of_le (by have:=World.block_lt_of_cell? _ _ hw156_1;first|rwa [add_block] at this|exact this) GW158.out)|(rw [add_block];exact Nat.ne_of_lt (Nat.lt_of_lt_of_le (by have:=World.block_lt_of_cell? _ _ hw156_1;first|rwa [add_block] at this|exact this) GW158.out))|(show (Addr.add _ _).block ≠ _;rw [add_block];exact Nat.ne_of_lt (Nat.lt_of_lt_of_le (by have:=World.block_lt_of_cell? _ _ hw156_1;first|rwa [add_block] at this|exact this) GW158.out))|(dsimp only;exact Nat.ne_of_lt (Nat.lt_of_lt_of_le (by have:=World.block_lt_of_cell? _ _ hw156_1;first|rwa [add_block] at this|exact this) GW158.out))) _).trans (hHeld.2.2.2))))⟩ (fun hHeld=>?_)
  clear hK K
  refine done_ (done_of HT_.out (by kernel_rfl)) ?_
  try go_wp2
  go_loopg [16] k (fun kq v16 w'=>∃ (x16_1 : Int) (x158000_1 : Int) (x158001_1 : Int) (x159000_1 : Int) (x159001_1 : Int),v16 = .int .i64 x16_1 ∧ Aside0 (profile_bounds.l0 kq l0 (l0.length : Int) x16_1 x158000_1 x158001_1 x159000_1 x159001_1 = some (r1,r2,r3,r4)) ∧ Aside0 (kq ≤ k) ∧ Aside0 (w'.heap[gb153]? = some (.cells #[.int .i64 0,.int .i64 0] 31 (0,0))) ∧ Aside0 (w'.heap[gb154]? = some (.cells #[.int .i64 0,.int .i64 0] 31 (0,0))) ∧ Aside0 (w'.heap[gb157]? = some (.cells #[.int .i64 x158000_1,.int .i64 x158001_1] 31 (0,0))) ∧ Aside0 (w'.heap[gb158]? = some (.cells #[.int .i64 x159000_1,.int .i64 x159001_1] 31 (0,0))) ∧ Aside0 (Below w.heap.size w w'))
  case atStart=>exact ⟨(0),((rd_T31 l0 0).f0),((rd_T31 l0 0).f1),((rd_T31 l0 0).f0),((rd_T31 l0 0).f1),(by first|rfl|(simp;done)|(simp [*];done)),H',⟨Nat.le_refl _⟩,⟨by (with_reducible repeat (first|apply bN|apply bD|apply bA));refine blk_far ?_ NB153_158.out _;(with_reducible repeat (first|apply bN|apply bD|apply bA));refine blk_far ?_ NB153_158.out _;(with_reducible repeat (first|apply bN|apply bD|apply bA));refine blk_far ?_ NB153_157.out _;(with_reducible repeat (first|apply bN|apply bD|apply bA));refine blk_far ?_ NB153_157.out _;(with_reducible repeat (first|apply bN|apply bD|apply bA));exact BK153.out⟩,⟨by (with_reducible repeat (first|apply bN|apply bD|apply bA));refine blk_far ?_ NB154_158.out _;(with_reducible repeat (first|apply bN|apply bD|apply bA));refine blk_far ?_ NB154_158.out _;(with_reducible repeat (first|apply bN|apply bD|apply bA));refine blk_far ?_ NB154_157.out _;(with_reducible repeat (first|apply bN|apply bD|apply bA));refine blk_far ?_ NB154_157.out _;(with_reducible repeat (first|apply bN|apply bD|apply bA));exact BK154.out⟩,⟨by (with_reducible repeat (first|apply bN|apply bD|apply bA));refine blk_far ?_ NB157_158.out _;(with_reducible repeat (first|apply bN|apply bD|apply bA));refine blk_far ?_ NB157_158.out _;(with_reducible repeat (first|apply bN|apply bD|apply bA));refine blk_put (cs:=#[.int .i64 ((rd_T31 l0 0).f0),.int .i64 0]) ?_ 1 _ rfl;(with_reducible repeat (first|apply bN|apply bD|apply bA));refine blk_put (cs:=#[.int .i64 0,.int .i64 0]) ?_ 0 _ rfl;(with_reducible repeat (first|apply bN|apply bD|apply bA));exact BK157.out⟩,⟨by (with_reducible repeat (first|apply bN|apply bD|apply bA));refine blk_put (cs:=#[.int .i64 ((rd_T31 l0 0).f0),.int .i64 0]) ?_ 1 _ rfl;(with_reducible repeat (first|apply bN|apply bD|apply bA));refine blk_put (cs:=#[.int .i64 0,.int .i64 0]) ?_ 0 _ rfl;(with_reducible repeat (first|apply bN|apply bD|apply bA));refine blk_far ?_ NB158_157.out _;(with_reducible repeat (first|apply bN|apply bD|apply bA));refine blk_far ?_ NB158_157.out _;(with_reducible repeat (first|apply bN|apply bD|apply bA));exact BK158.out⟩,⟨by repeat (first|(with_reducible first|exact HB.out|apply lA|apply lN|apply lD|refine lS ?_ GE153.out|refine lS ?_ GE154.out|refine lS ?_ GE157.out|refine lS ?_ GE158.out)|exact HB.out)⟩⟩
  case round =>
   clear H'
   try clear p1
   try clear q1
   try clear hx1
   try clear qi1
   try clear c2
   try clear c2b0
   try clear c2b1
   try clear p2
   try clear c3
   try clear hx155_0
   try clear hx155_1
   try clear hx156_0
   try clear hx156_1
   try clear p155
   try clear p156
   try clear q155
   try clear q156
   obtain ⟨x16_1,x158000_1,x158001_1,x159000_1,x159001_1,rfl,HA,HK1,BK153,BK154,BK157,BK158,HB⟩ := hrel
   cases gk with
   | zero=>exact absurd HA.out (by simp [profile_bounds.l0])
   | succ k1 =>
    have H:=HA.out
    clear HA
    simp only [profile_bounds.l0] at H
    by_cases c13 : x16_1 < (l0.length : Int)
    ·rw [if_pos c13] at H
     have c13b0 : decide (x16_1 < (l0.length : Int)) = true:=decide_eq_true c13
     clear c13
     by_cases c14 : 0 ≤ x16_1
     ·rw [if_pos c14] at H
      have c14b0 : decide (0 ≤ x16_1) = true:=decide_eq_true c14
      clear c14
      by_cases c15 : x16_1 < (l0.length : Int)
      ·rw [if_pos c15] at H
       have c15b0 : decide (x16_1 < (l0.length : Int)) = true:=decide_eq_true c15
       clear c15
       obtain ⟨ji16,hji16⟩ : ∃ j_ : Int,(mn x158000_1 ((rd_T31 l0 x16_1).f0)) = j_:=⟨_,rfl⟩
       replace H : (profile_bounds.l0 k1 l0 (l0.length : Int) (wrap64 (x16_1 + 1)) ji16 (mn x158001_1 ((rd_T31 l0 x16_1).f1)) (mx x159000_1 ((rd_T31 l0 x16_1).f0)) (mx x159001_1 ((rd_T31 l0 x16_1).f1))) = some (r1,r2,r3,r4):=by first|(rw [hji16] at H;exact H)|(simp only [hji16] at H ⊢;exact H)
       have hji16_ : (if ((rd_T31 l0 x16_1).f0) < x158000_1 then ((rd_T31 l0 x16_1).f0) else x158000_1) = ji16:=hji16
       obtain ⟨ji17,hji17⟩ : ∃ j_ : Int,(mn x158001_1 ((rd_T31 l0 x16_1).f1)) = j_:=⟨_,rfl⟩
       replace H : (profile_bounds.l0 k1 l0 (l0.length : Int) (wrap64 (x16_1 + 1)) ji16 ji17 (mx x159000_1 ((rd_T31 l0 x16_1).f0)) (mx x159001_1 ((rd_T31 l0 x16_1).f1))) = some (r1,r2,r3,r4):=by first|(rw [hji17] at H;exact H)|(simp only [hji17] at H ⊢;exact H)
       have hji17_ : (if ((rd_T31 l0 x16_1).f1) < x158001_1 then ((rd_T31 l0 x16_1).f1) else x158001_1) = ji17:=hji17
       obtain ⟨ji18,hji18⟩ : ∃ j_ : Int,(mx x159000_1 ((rd_T31 l0 x16_1).f0)) = j_:=⟨_,rfl⟩
       replace H : (profile_bounds.l0 k1 l0 (l0.length : Int) (wrap64 (x16_1 + 1)) ji16 ji17 ji18 (mx x159001_1 ((rd_T31 l0 x16_1).f1))) = some (r1,r2,r3,r4):=by first|(rw [hji18] at H;exact H)|(simp only [hji18] at H ⊢;exact H)
       have hji18_ : (if x159000_1 < ((rd_T31 l0 x16_1).f0) then ((rd_T31 l0 x16_1).f0) else x159000_1) = ji18:=hji18
       obtain ⟨ji19,hji19⟩ : ∃ j_ : Int,(mx x159001_1 ((rd_T31 l0 x16_1).f1)) = j_:=⟨_,rfl⟩
       replace H : (profile_bounds.l0 k1 l0 (l0.length : Int) (wrap64 (x16_1 + 1)) ji16 ji17 ji18 ji19) = some (r1,r2,r3,r4):=by first|(rw [hji19] at H;exact H)|(simp only [hji19] at H ⊢;exact H)
       have hji19_ : (if x159001_1 < ((rd_T31 l0 x16_1).f1) then ((rd_T31 l0 x16_1).f1) else x159001_1) = ji19:=hji19
       have H':=am H
       clear H
       have p159 : 0 ≤ (x16_1 : Int):=of_decide_eq_true (by first|(with_reducible assumption)|assumption)
       have q159 : x16_1 < (l0.length : Int):=of_decide_eq_true (by first|(with_reducible assumption)|assumption)
       obtain ⟨ad159,e159,hx159_0,hx159_1⟩ := at_T31 HR0.out x16_1 p159 q159
       obtain rfl : ad155 = ad159:=(by injection e159)
       replace hx159_0:=(HB.out.cell (World.block_lt_of_cell? w _ hx159_0)).trans hx159_0
       replace hx159_1:=(HB.out.cell (World.block_lt_of_cell? w _ hx159_1)).trans hx159_1
       replace p159:=eq_true p159
       replace q159:=eq_true q159
       go_wp2_with (first|((with_reducible refine gate_dst (N:=7) rfl ?_);refine box_event ?hg (N:=7) ?hd (cs:=#[.int .i64 0,.int .i64 0]) (t:=31) ?hr ?_;(case hd=>rfl);(case hg=>rfl);(case hr=>first|(go_simp;done)|(go_simp;rfl));intro gb160 hg w20 hbox hb;have n0_:=am (blk_below (g:=gb153) (o:=.cells #[.int .i64 0,.int .i64 0] 31 (0,0)) (by (with_reducible repeat (first|apply bN|apply bD|apply bA));exact BK153.out) hb);have n1_:=am (blk_below (g:=gb154) (o:=.cells #[.int .i64 0,.int .i64 0] 31 (0,0)) (by (with_reducible repeat (first|apply bN|apply bD|apply bA));exact BK154.out) hb);have n2_:=am (blk_below (g:=gb157) (o:=.cells #[.int .i64 x158000_1,.int .i64 x158001_1] 31 (0,0)) (by (with_reducible repeat (first|apply bN|apply bD|apply bA));exact BK157.out) hb);have n3_:=am (blk_below (g:=gb158) (o:=.cells #[.int .i64 x159000_1,.int .i64 x159001_1] 31 (0,0)) (by (with_reducible repeat (first|apply bN|apply bD|apply bA));exact BK158.out) hb);have n4_:=am (below_step (by repeat (first|(with_reducible first|exact HB.out|apply lA|apply lN|apply lD|refine lS ?_ GE153.out|refine lS ?_ GE154.out|refine lS ?_ GE157.out|refine lS ?_ GE158.out)|exact HB.out)) hb);have n5_:=am (hbox);have n6_:=am ((by rw [hg];exact (below_size (by repeat (first|(with_reducible first|exact HB.out|apply lA|apply lN|apply lD|refine lS ?_ GE153.out|refine lS ?_ GE154.out|refine lS ?_ GE157.out|refine lS ?_ GE158.out)|exact HB.out))) : w.heap.size ≤ gb160));have n7_:=am ((by rw [hg];exact (below_size (by repeat (first|(with_reducible first|exact HB.out|apply lA|apply lN|apply lD|refine lS ?_ GE153.out|refine lS ?_ GE154.out|refine lS ?_ GE157.out|refine lS ?_ GE158.out)|exact HB.out))) : w.heap.size ≤ gb160));have n8_:=am ((by rw [hg];exact Nat.ne_of_lt (blk_lt (g:=gb153) (o:=.cells #[.int .i64 0,.int .i64 0] 31 (0,0)) (by (with_reducible repeat (first|apply bN|apply bD|apply bA));exact BK153.out)) : gb153 ≠ gb160));have n9_:=am ((by rw [hg];exact Nat.ne_of_gt (blk_lt (g:=gb153) (o:=.cells #[.int .i64 0,.int .i64 0] 31 (0,0)) (by (with_reducible repeat (first|apply bN|apply bD|apply bA));exact BK153.out)) : gb160 ≠ gb153));have n10_:=am ((by rw [hg];exact Nat.ne_of_lt (blk_lt (g:=gb154) (o:=.cells #[.int .i64 0,.int .i64 0] 31 (0,0)) (by (with_reducible repeat (first|apply bN|apply bD|apply bA));exact BK154.out)) : gb154 ≠ gb160));have n11_:=am ((by rw [hg];exact Nat.ne_of_gt (blk_lt (g:=gb154) (o:=.cells #[.int .i64 0,.int .i64 0] 31 (0,0)) (by (with_reducible repeat (first|apply bN|apply bD|apply bA));exact BK154.out)) : gb160 ≠ gb154));have n12_:=am ((by rw [hg];exact Nat.ne_of_lt (blk_lt (g:=gb157) (o:=.cells #[.int .i64 x158000_1,.int .i64 x158001_1] 31 (0,0)) (by (with_reducible repeat (first|apply bN|apply bD|apply bA));exact BK157.out)) : gb157 ≠ gb160));have n13_:=am ((by rw [hg];exact Nat.ne_of_gt (blk_lt (g:=gb157) (o:=.cells #[.int .i64 x158000_1,.int .i64 x158001_1] 31 (0,0)) (by (with_reducible repeat (first|apply bN|apply bD|apply bA));exact BK157.out)) : gb160 ≠ gb157));have n14_:=am ((by rw [hg];exact Nat.ne_of_lt (blk_lt (g:=gb158) (o:=.cells #[.int .i64 x159000_1,.int .i64 x159001_1] 31 (0,0)) (by (with_reducible repeat (first|apply bN|apply bD|apply bA));exact BK158.out)) : gb158 ≠ gb160));have n15_:=am ((by rw [hg];exact Nat.ne_of_gt (blk_lt (g:=gb158) (o:=.cells #[.int .i64 x159000_1,.int .i64 x159001_1] 31 (0,0)) (by (with_reducible repeat (first|apply bN|apply bD|apply bA));exact BK158.out)) : gb160 ≠ gb158));clear BK153;clear BK154;clear BK157;clear BK158;clear HB;have BK153:=n0_;have BK154:=n1_;have BK157:=n2_;have BK158:=n3_;have HB:=n4_;have BK160:=n5_;have GW160:=n6_;have GE160:=n7_;have NB153_160:=n8_;have NB160_153:=n9_;have NB154_160:=n10_;have NB160_154:=n11_;have NB157_160:=n12_;have NB160_157:=n13_;have NB158_160:=n14_;have NB160_158:=n15_;clear n0_ n1_ n2_ n3_ n4_ n5_ n6_ n7_ n8_ n9_ n10_ n11_ n12_ n13_ n14_ n15_;clear hb hbox hg;have hnb21:=NB160_153.out;have hnc21:=NB153_160.out;have hnb22:=NB160_154.out;have hnc22:=NB154_160.out;have hnb23:=NB160_157.out;have hnc23:=NB157_160.out;have hnb24:=NB160_158.out;have hnc24:=NB158_160.out;have hcz25_0 : w20.cell? ⟨gb160,0,none⟩ = some (.int .i64 0):=(blk_cell BK160.out 0).trans rfl;have hcz25_1 : w20.cell? ⟨gb160,1,none⟩ = some (.int .i64 0):=(blk_cell BK160.out 1).trans rfl;have hfz25_0:=blk_frozen BK160.out 0;have hfz25_1:=blk_frozen BK160.out 1;have hnb26:=NB157_153.out;have hnc26:=NB153_157.out;have hnb27:=NB157_154.out;have hnc27:=NB154_157.out;have hnb28:=NB157_158.out;have hnc28:=NB158_157.out;have hcz29_0 : w20.cell? ⟨gb157,0,none⟩ = some (.int .i64 x158000_1):=(blk_cell BK157.out 0).trans rfl;have hcz29_1 : w20.cell? ⟨gb157,1,none⟩ = some (.int .i64 x158001_1):=(blk_cell BK157.out 1).trans rfl;have hfz29_0:=blk_frozen BK157.out 0;have hfz29_1:=blk_frozen BK157.out 1;have hnb30:=NB158_153.out;have hnc30:=NB153_158.out;have hnb31:=NB158_154.out;have hnc31:=NB154_158.out;have hcz32_0 : w20.cell? ⟨gb158,0,none⟩ = some (.int .i64 x159000_1):=(blk_cell BK158.out 0).trans rfl;have hcz32_1 : w20.cell? ⟨gb158,1,none⟩ = some (.int .i64 x159001_1):=(blk_cell BK158.out 1).trans rfl;have hfz32_0:=blk_frozen BK158.out 0;have hfz32_1:=blk_frozen BK158.out 1))
       go_roundg k1
       case measure=>have:=HK1.out;omega
       case rel=>exact ⟨(wrap64 (x16_1 + 1)),(ji16),(ji17),(ji18),(ji19),(by first|rfl|(simp;done)|(simp [*];done)),H',⟨by have:=HK1.out;omega⟩,⟨by (with_reducible repeat (first|apply bN|apply bD|apply bA));refine blk_far ?_ NB153_158.out _;(with_reducible repeat (first|apply bN|apply bD|apply bA));refine blk_far ?_ NB153_158.out _;(with_reducible repeat (first|apply bN|apply bD|apply bA));refine blk_far ?_ NB153_157.out _;(with_reducible repeat (first|apply bN|apply bD|apply bA));refine blk_far ?_ NB153_157.out _;(with_reducible repeat (first|apply bN|apply bD|apply bA));refine blk_far ?_ NB153_160.out _;(with_reducible repeat (first|apply bN|apply bD|apply bA));refine blk_far ?_ NB153_160.out _;(with_reducible repeat (first|apply bN|apply bD|apply bA));exact BK153.out⟩,⟨by (with_reducible repeat (first|apply bN|apply bD|apply bA));refine blk_far ?_ NB154_158.out _;(with_reducible repeat (first|apply bN|apply bD|apply bA));refine blk_far ?_ NB154_158.out _;(with_reducible repeat (first|apply bN|apply bD|apply bA));refine blk_far ?_ NB154_157.out _;(with_reducible repeat (first|apply bN|apply bD|apply bA));refine blk_far ?_ NB154_157.out _;(with_reducible repeat (first|apply bN|apply bD|apply bA));refine blk_far ?_ NB154_160.out _;(with_reducible repeat (first|apply bN|apply bD|apply bA));refine blk_far ?_ NB154_160.out _;(with_reducible repeat (first|apply bN|apply bD|apply bA));exact BK154.out⟩,⟨by (with_reducible repeat (first|apply bN|apply bD|apply bA));refine blk_far ?_ NB157_158.out _;(with_reducible repeat (first|apply bN|apply bD|apply bA));refine blk_far ?_ NB157_158.out _;(with_reducible repeat (first|apply bN|apply bD|apply bA));refine blk_put (cs:=#[.int .i64 ji16,.int .i64 x158001_1]) ?_ 1 _ rfl;(with_reducible repeat (first|apply bN|apply bD|apply bA));refine blk_put (cs:=#[.int .i64 x158000_1,.int .i64 x158001_1]) ?_ 0 _ rfl;(with_reducible repeat (first|apply bN|apply bD|apply bA));refine blk_far ?_ NB157_160.out _;(with_reducible repeat (first|apply bN|apply bD|apply bA));refine blk_far ?_ NB157_160.out _;(with_reducible repeat (first|apply bN|apply bD|apply bA));exact BK157.out⟩,⟨by (with_reducible repeat (first|apply bN|apply bD|apply bA));refine blk_put (cs:=#[.int .i64 ji18,.int .i64 x159001_1]) ?_ 1 _ rfl;(with_reducible repeat (first|apply bN|apply bD|apply bA));refine blk_put (cs:=#[.int .i64 x159000_1,.int .i64 x159001_1]) ?_ 0 _ rfl;(with_reducible repeat (first|apply bN|apply bD|apply bA));refine blk_far ?_ NB158_157.out _;(with_reducible repeat (first|apply bN|apply bD|apply bA));refine blk_far ?_ NB158_157.out _;(with_reducible repeat (first|apply bN|apply bD|apply bA));refine blk_far ?_ NB158_160.out _;(with_reducible repeat (first|apply bN|apply bD|apply bA));refine blk_far ?_ NB158_160.out _;(with_reducible repeat (first|apply bN|apply bD|apply bA));exact BK158.out⟩,⟨by repeat (first|(with_reducible first|exact HB.out|apply lA|apply lN|apply lD|refine lS ?_ GE153.out|refine lS ?_ GE154.out|refine lS ?_ GE157.out|refine lS ?_ GE158.out|refine lS ?_ GE160.out)|exact HB.out)⟩⟩
      ·rw [if_neg c15] at H
       exact absurd H (by simp)
     ·rw [if_neg c14] at H
      exact absurd H (by simp)
    ·rw [if_neg c13] at H
     have c13b0 : decide (x16_1 < (l0.length : Int)) = false:=decide_eq_false c13
     clear c13
     simp only [Option.some.injEq,Prod.mk.injEq] at H
     obtain ⟨rfl,rfl,rfl,rfl⟩ := H
     try go_wp2
     have n0_:=am (blk_drew BK153.out)
     have n1_:=am (blk_drew BK154.out)
     have n2_:=am (blk_drew BK157.out)
     have n3_:=am (blk_drew BK158.out)
     have n4_:=am (below_drew1 HB.out)
     clear BK153
     clear BK154
     clear BK157
     clear BK158
     clear HB
     have BK153:=n0_
     have BK154:=n1_
     have BK157:=n2_
     have BK158:=n3_
     have HB:=n4_
     clear n0_ n1_ n2_ n3_ n4_
     refine start_ (n:=14) (S:=fun w'=>w'.cell? ⟨gb157,0,none⟩ = some (.int .i64 x158000_1) ∧ w'.cell? ⟨gb157,1,none⟩ = some (.int .i64 x158001_1) ∧ w'.cell? ⟨gb158,0,none⟩ = some (.int .i64 x159000_1) ∧ w'.cell? ⟨gb158,1,none⟩ = some (.int .i64 x159001_1)) (ds:=[]) #[f_,f_,f_,f_,f_,f_,f_,f_,f_,f_,f_,f_,f_,f_] (by kernel_rfl) rfl rfl ⟨(blk_cell BK157.out 0).trans rfl,(blk_cell BK157.out 1).trans rfl,(blk_cell BK158.out 0).trans rfl,(blk_cell BK158.out 1).trans rfl⟩ (fun hHeld=>?_);refine with_tabW profile_bounds.tab8 profile_bounds.bits8 (fun HT_ HW_=>?_)
     generalize wr.drew = w33 at BK153 BK154 BK157 BK158 HB hHeld ⊢
     refine pure_ (i:=1) (N:=some 44) (v:=?_) (a':=?_) #[f_,t_,f_,f_,f_,f_,f_,f_,f_,f_,f_,f_,f_,f_] rfl rfl (any_of HT_.out (by kernel_rfl)) (fun _ _ _ h=>h) (Or.inl ⟨by rfl, ?_⟩) ?_ ?_
     rotate_left
     ·intro w'
      go_simp
      with_reducible rfl
     rotate_left
     ·simp only [Act.put,sA,s0,sS,i64_w,i32_w]
      rfl
     refine pure_ (i:=3) (N:=some 46) (v:=?_) (a':=?_) #[f_,t_,f_,t_,f_,f_,f_,f_,f_,f_,f_,f_,f_,f_] rfl rfl (any_of HT_.out (by kernel_rfl)) (fun _ _ _ h=>h) (Or.inl ⟨by rfl, ?_⟩) ?_ ?_
     rotate_left
     ·intro w'
      go_simp
      with_reducible rfl
     rotate_left
     ·simp only [Act.put,sA,s0,sS,i64_w,i32_w]
      rfl
     refine pure_ (i:=6) (N:=some 49) (v:=?_) (a':=?_) #[f_,t_,f_,t_,f_,f_,t_,f_,f_,f_,f_,f_,f_,f_] rfl rfl (any_of HT_.out (by kernel_rfl)) (fun _ _ _ h=>h) (Or.inl ⟨by rfl, ?_⟩) ?_ ?_
     rotate_left
     ·intro w'
      go_simp
      with_reducible rfl
     rotate_left
     ·simp only [Act.put,sA,s0,sS,i64_w,i32_w]
      rfl
     refine pure_ (i:=8) (N:=some 51) (v:=?_) (a':=?_) #[f_,t_,f_,t_,f_,f_,t_,f_,t_,f_,f_,f_,f_,f_] rfl rfl (any_of HT_.out (by kernel_rfl)) (fun _ _ _ h=>h) (Or.inl ⟨by rfl, ?_⟩) ?_ ?_
     rotate_left
     ·intro w'
      go_simp
      with_reducible rfl
     rotate_left
     ·simp only [Act.put,sA,s0,sS,i64_w,i32_w]
      rfl
     refine take_ (i:=0) (N:=some 43) (v:=?_) (a':=?_) #[t_,t_,f_,t_,f_,f_,t_,f_,t_,f_,f_,f_,f_,f_] rfl rfl (take_ofW HT_.out HW_.out (by kernel_rfl)) (fun _ _ _ h=>h) (Or.inl ⟨by rfl, ?_⟩) hHeld ?_ ?_
     rotate_left
     ·rintro w' ⟨s0,s1,s2,s3⟩
      go_simp
      with_reducible rfl
     rotate_left
     ·simp only [Act.put,sA,s0,sS,i64_w,i32_w]
      rfl
     refine take_ (i:=2) (N:=some 45) (v:=?_) (a':=?_) #[t_,t_,t_,t_,f_,f_,t_,f_,t_,f_,f_,f_,f_,f_] rfl rfl (take_ofW HT_.out HW_.out (by kernel_rfl)) (fun _ _ _ h=>h) (Or.inl ⟨by rfl, ?_⟩) hHeld ?_ ?_
     rotate_left
     ·rintro w' ⟨s0,s1,s2,s3⟩
      go_simp
      with_reducible rfl
     rotate_left
     ·simp only [Act.put,sA,s0,sS,i64_w,i32_w]
      rfl
     refine take_ (i:=4) (N:=some 47) (v:=?_) (a':=?_) #[t_,t_,t_,t_,t_,f_,t_,f_,t_,f_,f_,f_,f_,f_] rfl rfl (take_ofW HT_.out HW_.out (by kernel_rfl)) (fun _ _ _ h=>h) (Or.inl ⟨by rfl, ?_⟩) hHeld ?_ ?_
     rotate_left
     ·rintro w' ⟨s0,s1,s2,s3⟩
      go_simp
      with_reducible rfl
     rotate_left
     ·simp only [Act.put,sA,s0,sS,i64_w,i32_w]
      rfl
     refine pure_ (i:=5) (N:=some 48) (v:=?_) (a':=?_) #[t_,t_,t_,t_,t_,t_,t_,f_,t_,f_,f_,f_,f_,f_] rfl rfl (any_of HT_.out (by kernel_rfl)) (fun _ _ _ h=>h) (Or.inl ⟨by rfl, ?_⟩) ?_ ?_
     rotate_left
     ·intro w'
      go_simp
      with_reducible rfl
     rotate_left
     ·simp only [Act.put,sA,s0,sS,i64_w,i32_w]
      rfl
     refine take_ (i:=7) (N:=some 50) (v:=?_) (a':=?_) #[t_,t_,t_,t_,t_,t_,t_,t_,t_,f_,f_,f_,f_,f_] rfl rfl (take_ofW HT_.out HW_.out (by kernel_rfl)) (fun _ _ _ h=>h) (Or.inl ⟨by rfl, ?_⟩) hHeld ?_ ?_
     rotate_left
     ·rintro w' ⟨s0,s1,s2,s3⟩
      go_simp
      with_reducible rfl
     rotate_left
     ·simp only [Act.put,sA,s0,sS,i64_w,i32_w]
      rfl
     refine take_ (i:=9) (N:=some 52) (v:=?_) (a':=?_) #[t_,t_,t_,t_,t_,t_,t_,t_,t_,t_,f_,f_,f_,f_] rfl rfl (take_ofW HT_.out HW_.out (by kernel_rfl)) (fun _ _ _ h=>h) (Or.inl ⟨by rfl, ?_⟩) hHeld ?_ ?_
     rotate_left
     ·rintro w' ⟨s0,s1,s2,s3⟩
      go_simp
      with_reducible rfl
     rotate_left
     ·simp only [Act.put,sA,s0,sS,i64_w,i32_w]
      rfl
     refine pure_ (i:=10) (N:=some 53) (v:=?_) (a':=?_) #[t_,t_,t_,t_,t_,t_,t_,t_,t_,t_,t_,f_,f_,f_] rfl rfl (any_of HT_.out (by kernel_rfl)) (fun _ _ _ h=>h) (Or.inl ⟨by rfl, ?_⟩) ?_ ?_
     rotate_left
     ·intro w'
      go_simp
      with_reducible rfl
     rotate_left
     ·simp only [Act.put,sA,s0,sS,i64_w,i32_w]
      rfl
     refine pure_ (i:=11) (N:=some 54) (v:=?_) (a':=?_) #[t_,t_,t_,t_,t_,t_,t_,t_,t_,t_,t_,t_,f_,f_] rfl rfl (any_of HT_.out (by kernel_rfl)) (fun _ _ _ h=>h) (Or.inl ⟨by rfl, ?_⟩) ?_ ?_
     rotate_left
     ·intro w'
      go_simp
      with_reducible rfl
     rotate_left
     ·simp only [Act.put,sA,s0,sS,i64_w,i32_w]
      rfl
     refine one_ (i:=12) (N:=none) #[t_,t_,t_,t_,t_,t_,t_,t_,t_,t_,t_,t_,t_,f_] rfl rfl (one_of HT_.out (by kernel_rfl)) (by decide) (fun K hK=>?_)
     have hs34 : w33.cell? ⟨gb153,0,none⟩ = some (.int .i64 0):=(blk_cell BK153.out 0).trans rfl
     have hfs34:=blk_frozen BK153.out 0
     have hns34_1:=NB154_153.out
     have hns34_2:=NB157_153.out
     have hns34_3:=NB158_153.out
     have hms34_1:=NB153_154.out
     have hms34_2:=NB153_157.out
     have hms34_3:=NB153_158.out
     have hs35 : w33.cell? ⟨gb153,1,none⟩ = some (.int .i64 0):=(blk_cell BK153.out 1).trans rfl
     have hfs35:=blk_frozen BK153.out 1
     have hns35_1:=NB154_153.out
     have hns35_2:=NB157_153.out
     have hns35_3:=NB158_153.out
     have hms35_1:=NB153_154.out
     have hms35_2:=NB153_157.out
     have hms35_3:=NB153_158.out
     refine skip_ (w1:=?_) (by rfl) rfl ?_ ?_
     rotate_left
     ·go_simp
      rfl
     refine hK.out _ _ ⟨((cell_far (p:=⟨gb153,_,none⟩) NB157_153.out _).trans (((cell_far (p:=⟨gb153,_,none⟩) NB157_153.out _).trans (hHeld.1)))),((cell_far (p:=⟨gb153,_,none⟩) NB157_153.out _).trans (((cell_far (p:=⟨gb153,_,none⟩) NB157_153.out _).trans (hHeld.2.1)))),((cell_far (p:=⟨gb153,_,none⟩) NB158_153.out _).trans (((cell_far (p:=⟨gb153,_,none⟩) NB158_153.out _).trans (hHeld.2.2.1)))),((cell_far (p:=⟨gb153,_,none⟩) NB158_153.out _).trans (((cell_far (p:=⟨gb153,_,none⟩) NB158_153.out _).trans (hHeld.2.2.2))))⟩ (fun hHeld=>?_)
     clear hK K
     refine one_ (i:=13) (N:=none) #[t_,t_,t_,t_,t_,t_,t_,t_,t_,t_,t_,t_,t_,t_] rfl rfl (one_of HT_.out (by kernel_rfl)) (by decide) (fun K hK=>?_)
     have hs36 : w33.cell? ⟨gb154,0,none⟩ = some (.int .i64 0):=(blk_cell BK154.out 0).trans rfl
     have hfs36:=blk_frozen BK154.out 0
     have hns36_0:=NB153_154.out
     have hns36_2:=NB157_154.out
     have hns36_3:=NB158_154.out
     have hms36_0:=NB154_153.out
     have hms36_2:=NB154_157.out
     have hms36_3:=NB154_158.out
     have hs37 : w33.cell? ⟨gb154,1,none⟩ = some (.int .i64 0):=(blk_cell BK154.out 1).trans rfl
     have hfs37:=blk_frozen BK154.out 1
     have hns37_0:=NB153_154.out
     have hns37_2:=NB157_154.out
     have hns37_3:=NB158_154.out
     have hms37_0:=NB154_153.out
     have hms37_2:=NB154_157.out
     have hms37_3:=NB154_158.out
     refine skip_ (w1:=?_) (by rfl) rfl ?_ ?_
     rotate_left
     ·go_simp
      rfl
     refine hK.out _ _ ⟨((cell_far (p:=⟨gb154,_,none⟩) NB157_154.out _).trans (((cell_far (p:=⟨gb154,_,none⟩) NB157_154.out _).trans (hHeld.1)))),((cell_far (p:=⟨gb154,_,none⟩) NB157_154.out _).trans (((cell_far (p:=⟨gb154,_,none⟩) NB157_154.out _).trans (hHeld.2.1)))),((cell_far (p:=⟨gb154,_,none⟩) NB158_154.out _).trans (((cell_far (p:=⟨gb154,_,none⟩) NB158_154.out _).trans (hHeld.2.2.1)))),((cell_far (p:=⟨gb154,_,none⟩) NB158_154.out _).trans (((cell_far (p:=⟨gb154,_,none⟩) NB158_154.out _).trans (hHeld.2.2.2))))⟩ (fun hHeld=>?_)
     clear hK K
     refine done_ (done_of HT_.out (by kernel_rfl)) ?_
     try go_wp2
     refine bodyPost_ret (results_cc rfl _ _ gb153 gb154 31 31 #[.int .i64 x158000_1,.int .i64 x158001_1] #[.int .i64 (wrap64 (x159000_1 - x158000_1)),.int .i64 (wrap64 (x159001_1 - x158001_1))] (0,0) (0,0) _ _ rfl (by (with_reducible repeat (first|apply bN|apply bD|apply bA));refine blk_far ?_ NB153_154.out _;(with_reducible repeat (first|apply bN|apply bD|apply bA));refine blk_far ?_ NB153_154.out _;(with_reducible repeat (first|apply bN|apply bD|apply bA));refine blk_put (cs:=#[.int .i64 x158000_1,.int .i64 0]) ?_ 1 _ rfl;(with_reducible repeat (first|apply bN|apply bD|apply bA));refine blk_put (cs:=#[.int .i64 0,.int .i64 0]) ?_ 0 _ rfl;(with_reducible repeat (first|apply bN|apply bD|apply bA));exact BK153.out) Try.underlying31 rfl (by kernel_rfl) rfl (by (with_reducible repeat (first|apply bN|apply bD|apply bA));refine blk_put (cs:=#[.int .i64 (wrap64 (x159000_1 - x158000_1)),.int .i64 0]) ?_ 1 _ rfl;(with_reducible repeat (first|apply bN|apply bD|apply bA));refine blk_put (cs:=#[.int .i64 0,.int .i64 0]) ?_ 0 _ rfl;(with_reducible repeat (first|apply bN|apply bD|apply bA));refine blk_far ?_ NB154_153.out _;(with_reducible repeat (first|apply bN|apply bD|apply bA));refine blk_far ?_ NB154_153.out _;(with_reducible repeat (first|apply bN|apply bD|apply bA));exact BK154.out) Try.underlying31 rfl (by kernel_rfl)) rfl ?_
     exact ⟨by first|rfl|(simp [errW_none,errW_some] <;> rfl)|(simp [*,errW_none,errW_some] <;> rfl),by repeat (first|(with_reducible first|exact HB.out|apply lA|apply lN|apply lD|refine lS ?_ GE153.out|refine lS ?_ GE154.out|refine lS ?_ GE157.out|refine lS ?_ GE158.out)|exact HB.out)⟩
 ·rw [if_neg c2] at H
  exact absurd H (by simp)
end
end Go.Proofs.Ytnjikioimompnaa.PA
