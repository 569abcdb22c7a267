import Derived.Test.YtnjikioimompnaaPAx3
namespace Go.Proofs.Ytnjikioimompnaa.PA
open Go.RowKit Go.Proofs.YtnjikioimompnaaW.PrintWords Go.Proofs.YtnjikioimompnaaW.PrintLast Go.Proofs.YtnjikioimompnaaW.PrintMore
attribute [local go_sem] max2_int min2_int max_two min_two max_three min_three max_four min_four
set_option linter.unusedVariables false
set_option linter.unusedSimpArgs false
noncomputable section
mutual
def profile_simple.l0 : Nat → List (S31) → Int → Int → Option (Bool)
 | 0,_,_,_=>none
 | k + 1,x0,x9,x10=>if x10 < x9 then (profile_simple.l1 k x0 x10 x9 x10 x10 0) else (some true)
def profile_simple.l1 : Nat → List (S31) → Int → Int → Int → Int → Int → Option (Bool)
 | 0,_,_,_,_,_,_=>none
 | k + 1,x0,x3,x9,x10,x13,x14=>if x14 < x13 then (if 0 ≤ x3 then (if x3 < (x0.length : Int) then ((profile_next.f x0 x3).bind fun t144=>(if 0 ≤ t144 then (if t144 < (x0.length : Int) then (if 0 ≤ x14 then (if x14 < (x0.length : Int) then ((profile_next.f x0 x14).bind fun t147=>(if 0 ≤ t147 then (if t147 < (x0.length : Int) then ((vector_Meet.f k ((rd_T31 x0 x3).f0) ((rd_T31 x0 x3).f1) ((rd_T31 x0 t144).f0) ((rd_T31 x0 t144).f1) ((rd_T31 x0 x14).f0) ((rd_T31 x0 x14).f1) ((rd_T31 x0 t147).f0) ((rd_T31 x0 t147).f1)).bind fun bt149=>((profile_next.f x0 x14).bind fun t151=>(if t151 = x3 then (profile_simple.j2 k x0 x3 bt149.1 bt149.2 0 x9 x10 x13 x14 true) else ((profile_next.f x0 x3).bind fun t152=>(profile_simple.j2 k x0 x3 bt149.1 bt149.2 0 x9 x10 x13 x14 (t152 == x14)))))) else (none)) else (none))) else (none)) else (none)) else (none)) else (none))) else (none)) else (none)) else (profile_simple.l0 k x0 x9 (wrap64 (x10 + 1)))
def profile_simple.j2 : Nat → List (S31) → Int → Int → Int → Int → Int → Int → Int → Int → Bool → Option (Bool)
 | 0,_,_,_,_,_,_,_,_,_,_=>none
 | k + 1,x0,x3,x5,x6,x7,x9,x10,x13,x14,x52=>if x52 = true then (if x6 = 0 then (if x5 > 1 then (some false) else (profile_simple.l1 k x0 x3 x9 x10 x13 (wrap64 (x14 + 1)))) else (some false)) else (if x6 = 0 then (if x5 > x7 then (some false) else (profile_simple.l1 k x0 x3 x9 x10 x13 (wrap64 (x14 + 1)))) else (some false))
end
def profile_simple.f (k : Nat) (l0 : List (S31)) : Option (Bool):=profile_simple.l0 k l0 (l0.length : Int) 0
theorem profile_simple.mono_l : ∀ k,(∀ y0 y1 y2,LeO (profile_simple.l0 k y0 y1 y2) (profile_simple.l0 (k + 1) y0 y1 y2)) ∧ (∀ y0 y1 y2 y3 y4 y5,LeO (profile_simple.l1 k y0 y1 y2 y3 y4 y5) (profile_simple.l1 (k + 1) y0 y1 y2 y3 y4 y5)) ∧ (∀ y0 y1 y2 y3 y4 y5 y6 y7 y8 y9,LeO (profile_simple.j2 k y0 y1 y2 y3 y4 y5 y6 y7 y8 y9) (profile_simple.j2 (k + 1) y0 y1 y2 y3 y4 y5 y6 y7 y8 y9))
 | 0=>⟨fun _ _ _ r h=>by simp [profile_simple.l0] at h,fun _ _ _ _ _ _ r h=>by simp [profile_simple.l1] at h,fun _ _ _ _ _ _ _ _ _ _ r h=>by simp [profile_simple.j2] at h⟩
 | k + 1=>by
  obtain ⟨ih0,ih1,ih2⟩ := profile_simple.mono_l k
  refine ⟨?_, ?_, ?_⟩
  ·intro y0 y1 y2
   unfold profile_simple.l0
   repeat' first
   | (with_reducible exact ih0 _ _ _)
   | (with_reducible exact ih1 _ _ _ _ _ _)
   | (with_reducible exact ih2 _ _ _ _ _ _ _ _ _ _)
   | (with_reducible exact vector_Meet.mono _ _ _ _ _ _ _ _ _)
   | (with_reducible exact LeO.refl _)
   | (with_reducible exact LeO.none _)
   | (with_reducible refine LeO.ite ?_ ?_)
   | (with_reducible refine LeO.bind ?_ (fun _=>?_))
   | exact ih0 _ _ _
   | exact ih1 _ _ _ _ _ _
   | exact ih2 _ _ _ _ _ _ _ _ _ _
   | exact vector_Meet.mono _ _ _ _ _ _ _ _ _
   | exact LeO.none _
   | refine LeO.ite ?_ ?_
   | refine LeO.bind ?_ (fun _=>?_)
  ·intro y0 y1 y2 y3 y4 y5
   unfold profile_simple.l1
   repeat' first
   | (with_reducible exact ih0 _ _ _)
   | (with_reducible exact ih1 _ _ _ _ _ _)
   | (with_reducible exact ih2 _ _ _ _ _ _ _ _ _ _)
   | (with_reducible exact vector_Meet.mono _ _ _ _ _ _ _ _ _)
   | (with_reducible exact LeO.refl _)
   | (with_reducible exact LeO.none _)
   | (with_reducible refine LeO.ite ?_ ?_)
   | (with_reducible refine LeO.bind ?_ (fun _=>?_))
   | exact ih0 _ _ _
   | exact ih1 _ _ _ _ _ _
   | exact ih2 _ _ _ _ _ _ _ _ _ _
   | exact vector_Meet.mono _ _ _ _ _ _ _ _ _
   | exact LeO.none _
   | refine LeO.ite ?_ ?_
   | refine LeO.bind ?_ (fun _=>?_)
  ·intro y0 y1 y2 y3 y4 y5 y6 y7 y8 y9
   unfold profile_simple.j2
   repeat' first
   | (with_reducible exact ih0 _ _ _)
   | (with_reducible exact ih1 _ _ _ _ _ _)
   | (with_reducible exact ih2 _ _ _ _ _ _ _ _ _ _)
   | (with_reducible exact vector_Meet.mono _ _ _ _ _ _ _ _ _)
   | (with_reducible exact LeO.refl _)
   | (with_reducible exact LeO.none _)
   | (with_reducible refine LeO.ite ?_ ?_)
   | (with_reducible refine LeO.bind ?_ (fun _=>?_))
   | exact ih0 _ _ _
   | exact ih1 _ _ _ _ _ _
   | exact ih2 _ _ _ _ _ _ _ _ _ _
   | exact vector_Meet.mono _ _ _ _ _ _ _ _ _
   | exact LeO.none _
   | refine LeO.ite ?_ ?_
   | refine LeO.bind ?_ (fun _=>?_)
theorem profile_simple.mono : ∀ a0 k,LeO (profile_simple.f k a0) (profile_simple.f (k + 1) a0):=by
 intro a0 k;obtain ⟨ih0,ih1,ih2⟩ := profile_simple.mono_l k
 unfold profile_simple.f
 repeat' first
   | (with_reducible exact ih0 _ _ _)
   | (with_reducible exact ih1 _ _ _ _ _ _)
   | (with_reducible exact ih2 _ _ _ _ _ _ _ _ _ _)
   | (with_reducible exact vector_Meet.mono _ _ _ _ _ _ _ _ _)
   | (with_reducible exact LeO.refl _)
   | (with_reducible exact LeO.none _)
   | (with_reducible refine LeO.ite ?_ ?_)
   | (with_reducible refine LeO.bind ?_ (fun _=>?_))
   | exact ih0 _ _ _
   | exact ih1 _ _ _ _ _ _
   | exact ih2 _ _ _ _ _ _ _ _ _ _
   | exact vector_Meet.mono _ _ _ _ _ _ _ _ _
   | exact LeO.none _
   | refine LeO.ite ?_ ?_
   | refine LeO.bind ?_ (fun _=>?_)
def profile_simple.T7 : Bool × List (List Nat × List Nat):=(true,[([],[]),([],[]),([0,1],[0,1]),([2],[2]),([],[]),([],[]),([],[]),([5,6],[5,6]),([4,7],[4,7]),([8],[8]),([],[]),([],[]),([10,11],[10,11]),([12],[12]),([],[]),([],[]),([],[]),([15,16,7],[15,16]),([14,17],[14,17]),([18],[18]),([3,9,13,19,17],[3,9,13,19]),([20],[20]),([21],[21]),([21],[21]),([22,20,0,1,2,3,4,5,6,7,8,9,10,11,12,13,14,15,16,17,18,19,20,21,22],[22]),([23,24,0,1,2,3,4,5,6,7,8,9,10,11,12,13,14,15,16,17,18,19,20,21,22,23,24],[23])])
def profile_simple.B7 : List Nat:=[0,0,3,7,0,0,0,96,240,496,0,0,3072,7168,0,0,0,98528,245984,508128,1048575,2097151,4194303,4194303,8388607,33554431]
theorem profile_simple.tab7 : rtab .any (opsOf Try.f43 7) = profile_simple.T7:=by kernel_rfl
theorem profile_simple.bits7 : waitsOk profile_simple.T7.2 profile_simple.B7 = true:=by kernel_rfl
set_option maxHeartbeats 8000000 in
set_option maxRecDepth 100000 in
theorem profile_simple.calls (k : Nat) (A0 : Option Addr) (c0 : Nat) (l0 : List (S31)) (r : Bool) (w : World) (hr0 : Kd.C k31 w A0 l0.length l0) (hc0 : l0.length ≤ c0) (h : profile_simple.f k l0 = some r) :
  Calls Try.prog 43 #[.slice A0 l0.length c0] w fun e w'=>e = .returned (.bool r) ∧ Below w.heap.size w w':=by
 have hu31:=Try.underlying31;have HR0:=am hr0;have HC0:=am hc0;clear hr0 hc0;have HB:=am (Below.refl w.heap.size w);have H : (profile_simple.l0 k l0 (l0.length : Int) 0) = some r:=h;clear h;have H':=am H;clear H
 go_enter Try.func43,Try.ntmps43
 go_wp2
 go_loopg [10] k (fun kq v10 w'=>∃ (x10_1 : Int),v10 = .int .i64 x10_1 ∧ Aside0 (profile_simple.l0 kq l0 (l0.length : Int) x10_1 = some r) ∧ Aside0 (kq ≤ k) ∧ Aside0 (Below w.heap.size w w'))
 case atStart=>exact ⟨(0),(by first|rfl|(simp;done)|(simp [*];done)),H',⟨Nat.le_refl _⟩,⟨by repeat (first|(with_reducible first|exact HB.out|apply lA|apply lN|apply lD)|exact HB.out)⟩⟩
 case round =>
  clear H';obtain ⟨x10_1,rfl,HA,HK1,HB⟩ := hrel
  cases gk with
  | zero=>exact absurd HA.out (by simp [profile_simple.l0])
  | succ k1 =>
   have H:=HA.out;clear HA;simp only [profile_simple.l0] at H;by_cases c2 : x10_1 < (l0.length : Int)
   ·rw [if_pos c2] at H;have c2b0 : decide (x10_1 < (l0.length : Int)) = true:=decide_eq_true c2;clear c2;have H':=am H;clear H
    go_wp2
    go_loopg [14] k1 (fun kq v14 w'=>∃ (x14_2 : Int),v14 = .int .i64 x14_2 ∧ Aside0 (profile_simple.l1 kq l0 x10_1 (l0.length : Int) x10_1 x10_1 x14_2 = some r) ∧ Aside0 (kq ≤ k1) ∧ Aside0 (Below w.heap.size w w'))
    case atStart=>exact ⟨(0),(by first|rfl|(simp;done)|(simp [*];done)),H',⟨Nat.le_refl _⟩,⟨by repeat (first|(with_reducible first|exact HB.out|apply lA|apply lN|apply lD)|exact HB.out)⟩⟩
    case round =>
     clear H'
     try clear c2
     try clear c2b0
     try clear p2
     obtain ⟨x14_2,rfl,HA,HK2,HB⟩ := hrel
     cases gk with
     | zero=>exact absurd HA.out (by simp [profile_simple.l1])
     | succ k2 =>
      have H:=HA.out;clear HA;simp only [profile_simple.l1] at H;by_cases c3 : x14_2 < x10_1
      ·rw [if_pos c3] at H;have c3b0 : decide (x14_2 < x10_1) = true:=decide_eq_true c3;clear c3;by_cases c4 : 0 ≤ x10_1
       ·rw [if_pos c4] at H;have c4b0 : decide (0 ≤ x10_1) = true:=decide_eq_true c4;clear c4;by_cases c5 : x10_1 < (l0.length : Int)
        ·rw [if_pos c5] at H;have c5b0 : decide (x10_1 < (l0.length : Int)) = true:=decide_eq_true c5;clear c5;replace H:=Option.bind_eq_some_iff.mp H;obtain ⟨t144,A60,H⟩ := H;replace H : (if 0 ≤ t144 then (if t144 < (l0.length : Int) then (if 0 ≤ x14_2 then (if x14_2 < (l0.length : Int) then ((profile_next.f l0 x14_2).bind fun t147=>(if 0 ≤ t147 then (if t147 < (l0.length : Int) then ((vector_Meet.f k2 ((rd_T31 l0 x10_1).f0) ((rd_T31 l0 x10_1).f1) ((rd_T31 l0 t144).f0) ((rd_T31 l0 t144).f1) ((rd_T31 l0 x14_2).f0) ((rd_T31 l0 x14_2).f1) ((rd_T31 l0 t147).f0) ((rd_T31 l0 t147).f1)).bind fun bt149=>((profile_next.f l0 x14_2).bind fun t151=>(if t151 = x10_1 then (profile_simple.j2 k2 l0 x10_1 bt149.1 bt149.2 0 (l0.length : Int) x10_1 x10_1 x14_2 true) else ((profile_next.f l0 x10_1).bind fun t152=>(profile_simple.j2 k2 l0 x10_1 bt149.1 bt149.2 0 (l0.length : Int) x10_1 x10_1 x14_2 (t152 == x14_2)))))) else (none)) else (none))) else (none)) else (none)) else (none)) else (none)) = some r:=H;have A6:=am A60;clear A60;by_cases c7 : 0 ≤ t144
         ·rw [if_pos c7] at H;have c7b0 : decide (0 ≤ t144) = true:=decide_eq_true c7;clear c7;by_cases c8 : t144 < (l0.length : Int)
          ·rw [if_pos c8] at H;have c8b0 : decide (t144 < (l0.length : Int)) = true:=decide_eq_true c8;clear c8;by_cases c9 : 0 ≤ x14_2
           ·rw [if_pos c9] at H;have c9b0 : decide (0 ≤ x14_2) = true:=decide_eq_true c9;clear c9;by_cases c10 : x14_2 < (l0.length : Int)
            ·rw [if_pos c10] at H;have c10b0 : decide (x14_2 < (l0.length : Int)) = true:=decide_eq_true c10;clear c10;replace H:=Option.bind_eq_some_iff.mp H;obtain ⟨t147,A110,H⟩ := H;replace H : (if 0 ≤ t147 then (if t147 < (l0.length : Int) then ((vector_Meet.f k2 ((rd_T31 l0 x10_1).f0) ((rd_T31 l0 x10_1).f1) ((rd_T31 l0 t144).f0) ((rd_T31 l0 t144).f1) ((rd_T31 l0 x14_2).f0) ((rd_T31 l0 x14_2).f1) ((rd_T31 l0 t147).f0) ((rd_T31 l0 t147).f1)).bind fun bt149=>((profile_next.f l0 x14_2).bind fun t151=>(if t151 = x10_1 then (profile_simple.j2 k2 l0 x10_1 bt149.1 bt149.2 0 (l0.length : Int) x10_1 x10_1 x14_2 true) else ((profile_next.f l0 x10_1).bind fun t152=>(profile_simple.j2 k2 l0 x10_1 bt149.1 bt149.2 0 (l0.length : Int) x10_1 x10_1 x14_2 (t152 == x14_2)))))) else (none)) else (none)) = some r:=H;have A11:=am A110;clear A110;by_cases c12 : 0 ≤ t147
             ·rw [if_pos c12] at H;have c12b0 : decide (0 ≤ t147) = true:=decide_eq_true c12;clear c12;by_cases c13 : t147 < (l0.length : Int)
              ·rw [if_pos c13] at H;have c13b0 : decide (t147 < (l0.length : Int)) = true:=decide_eq_true c13;clear c13;replace H:=Option.bind_eq_some_iff.mp H;obtain ⟨⟨t149,t150⟩,A140,H⟩ := H;replace H : ((profile_next.f l0 x14_2).bind fun t151=>(if t151 = x10_1 then (profile_simple.j2 k2 l0 x10_1 t149 t150 0 (l0.length : Int) x10_1 x10_1 x14_2 true) else ((profile_next.f l0 x10_1).bind fun t152=>(profile_simple.j2 k2 l0 x10_1 t149 t150 0 (l0.length : Int) x10_1 x10_1 x14_2 (t152 == x14_2))))) = some r:=H;have A14:=am A140;clear A140;have HC15:=am H;clear H
               try go_wp2
               replace HB:=hda HB;have p143 : 0 ≤ (x10_1 : Int):=of_decide_eq_true (by first|(with_reducible assumption)|assumption);have q143 : x10_1 < (l0.length : Int):=of_decide_eq_true (by first|(with_reducible assumption)|assumption);obtain ⟨ad143,e143,hx143_0,hx143_1⟩ := at_T31 HR0.out x10_1 p143 q143;have hw143_1:=hx143_1;have hw143_0:=hx143_0
               cases e143
               replace hx143_0:=(HB.out.cell (World.block_lt_of_cell? w _ hx143_0)).trans hx143_0;replace hx143_1:=(HB.out.cell (World.block_lt_of_cell? w _ hx143_1)).trans hx143_1;replace p143:=eq_true p143;replace q143:=eq_true q143;have p146 : 0 ≤ (x14_2 : Int):=of_decide_eq_true (by first|(with_reducible assumption)|assumption);have q146 : x14_2 < (l0.length : Int):=of_decide_eq_true (by first|(with_reducible assumption)|assumption);obtain ⟨ad146,e146,hx146_0,hx146_1⟩ := at_T31 HR0.out x14_2 p146 q146;have hw146_1:=hx146_1;have hw146_0:=hx146_0
               obtain rfl : ad143 = ad146:=(by injection e146)
               replace hx146_0:=(HB.out.cell (World.block_lt_of_cell? w _ hx146_0)).trans hx146_0;replace hx146_1:=(HB.out.cell (World.block_lt_of_cell? w _ hx146_1)).trans hx146_1;replace p146:=eq_true p146;replace q146:=eq_true q146;have p145 : 0 ≤ (t144 : Int):=of_decide_eq_true (by first|(with_reducible assumption)|assumption);have q145 : t144 < (l0.length : Int):=of_decide_eq_true (by first|(with_reducible assumption)|assumption);obtain ⟨ad145,e145,hx145_0,hx145_1⟩ := at_T31 HR0.out t144 p145 q145;have hw145_1:=hx145_1;have hw145_0:=hx145_0
               obtain rfl : ad143 = ad145:=(by injection e145)
               replace hx145_0:=(HB.out.cell (World.block_lt_of_cell? w _ hx145_0)).trans hx145_0;replace hx145_1:=(HB.out.cell (World.block_lt_of_cell? w _ hx145_1)).trans hx145_1;replace p145:=eq_true p145;replace q145:=eq_true q145;have p148 : 0 ≤ (t147 : Int):=of_decide_eq_true (by first|(with_reducible assumption)|assumption);have q148 : t147 < (l0.length : Int):=of_decide_eq_true (by first|(with_reducible assumption)|assumption);obtain ⟨ad148,e148,hx148_0,hx148_1⟩ := at_T31 HR0.out t147 p148 q148;have hw148_1:=hx148_1;have hw148_0:=hx148_0
               obtain rfl : ad143 = ad148:=(by injection e148)
               replace hx148_0:=(HB.out.cell (World.block_lt_of_cell? w _ hx148_0)).trans hx148_0;replace hx148_1:=(HB.out.cell (World.block_lt_of_cell? w _ hx148_1)).trans hx148_1;replace p148:=eq_true p148;replace q148:=eq_true q148
               refine start_ (n:=26) (S:=fun w'=>w'.cell? (ad143.add ((x10_1).toNat * 2)) = some (.int .i64 ((rd_T31 l0 x10_1).f0)) ∧ w'.cell? ⟨(ad143.add ((x10_1).toNat * 2)).block,(ad143.add ((x10_1).toNat * 2)).off + 1,none⟩ = some (.int .i64 ((rd_T31 l0 x10_1).f1)) ∧ w'.cell? (ad143.add ((x14_2).toNat * 2)) = some (.int .i64 ((rd_T31 l0 x14_2).f0)) ∧ w'.cell? ⟨(ad143.add ((x14_2).toNat * 2)).block,(ad143.add ((x14_2).toNat * 2)).off + 1,none⟩ = some (.int .i64 ((rd_T31 l0 x14_2).f1)) ∧ w'.cell? (ad143.add ((t144).toNat * 2)) = some (.int .i64 ((rd_T31 l0 t144).f0)) ∧ w'.cell? ⟨(ad143.add ((t144).toNat * 2)).block,(ad143.add ((t144).toNat * 2)).off + 1,none⟩ = some (.int .i64 ((rd_T31 l0 t144).f1)) ∧ w'.cell? (ad143.add ((t147).toNat * 2)) = some (.int .i64 ((rd_T31 l0 t147).f0)) ∧ w'.cell? ⟨(ad143.add ((t147).toNat * 2)).block,(ad143.add ((t147).toNat * 2)).off + 1,none⟩ = some (.int .i64 ((rd_T31 l0 t147).f1))) (ds:=[]) #[f_,f_,f_,f_,f_,f_,f_,f_,f_,f_,f_,f_,f_,f_,f_,f_,f_,f_,f_,f_,f_,f_,f_,f_,f_,f_] (by kernel_rfl) rfl rfl ⟨((HB.out.cell (World.block_lt_of_cell? w _ hw143_0)).trans hw143_0),((HB.out.cell (World.block_lt_of_cell? w _ hw143_1)).trans hw143_1),((HB.out.cell (World.block_lt_of_cell? w _ hw146_0)).trans hw146_0),((HB.out.cell (World.block_lt_of_cell? w _ hw146_1)).trans hw146_1),((HB.out.cell (World.block_lt_of_cell? w _ hw145_0)).trans hw145_0),((HB.out.cell (World.block_lt_of_cell? w _ hw145_1)).trans hw145_1),((HB.out.cell (World.block_lt_of_cell? w _ hw148_0)).trans hw148_0),((HB.out.cell (World.block_lt_of_cell? w _ hw148_1)).trans hw148_1)⟩ (fun hHeld=>?_);refine with_tabW profile_simple.tab7 profile_simple.bits7 (fun HT_ HW_=>?_)
               generalize wr.drew = w16 at HB hx143_0 hx143_1 hx145_0 hx145_1 hx146_0 hx146_1 hx148_0 hx148_1 hHeld ⊢
               refine pu_ HT_ 0 18 (mk_ 26 1) ?_
               refine pu_ HT_ 1 19 (mk_ 26 3) ?_
               refine pu_ HT_ 2 20 (mk_ 26 7) ?_
               refine pu_ HT_ 4 22 (mk_ 26 23) ?_
               refine pu_ HT_ 5 23 (mk_ 26 55) ?_
               refine pu_ HT_ 6 24 (mk_ 26 119) ?_
               refine pu_ HT_ 10 28 (mk_ 26 1143) ?_
               refine pu_ HT_ 11 29 (mk_ 26 3191) ?_
               refine pu_ HT_ 12 30 (mk_ 26 7287) ?_
               refine pu_ HT_ 14 32 (mk_ 26 23671) ?_
               refine pu_ HT_ 15 33 (mk_ 26 56439) ?_
               refine pu_ HT_ 16 34 (mk_ 26 121975) ?_
               refine ta8_ HT_ HW_ 3 21 (mk_ 26 121983) hHeld ?_
               refine ta8_ HT_ HW_ 13 31 (mk_ 26 130175) hHeld ?_
               refine one_ (i:=7) (N:=some 25) (mk_ 26 130303) rfl rfl (one_of HT_.out (by kernel_rfl)) (by decide) (fun K hK=>?_);refine goes_ Try.func42 (by kernel_rfl) rfl #[.slice (some ad143) l0.length c0,.int .i64 x10_1] (by rfl) rfl rfl (by (try simp only [mT,mC,mN]);first|done|rfl|(simp only [lDr,lTk];rfl)) ?_
               with_reducible refine (profile_next.calls _ _ l0 x10_1 t144 _ ?side1 ?side2 A6.out).mono ?_
               (case side1=>exact cq HR0.out HB.out);(case side2=>exact HC0.out);rintro e w' ⟨rfl,⟨nd,rfl⟩⟩;refine ⟨_,rfl, ?_⟩
               refine hK.out _ _ ⟨((HB.out.cell (World.block_lt_of_cell? w _ hw143_0)).trans hw143_0),((HB.out.cell (World.block_lt_of_cell? w _ hw143_1)).trans hw143_1),((HB.out.cell (World.block_lt_of_cell? w _ hw146_0)).trans hw146_0),((HB.out.cell (World.block_lt_of_cell? w _ hw146_1)).trans hw146_1),((HB.out.cell (World.block_lt_of_cell? w _ hw145_0)).trans hw145_0),((HB.out.cell (World.block_lt_of_cell? w _ hw145_1)).trans hw145_1),((HB.out.cell (World.block_lt_of_cell? w _ hw148_0)).trans hw148_0),((HB.out.cell (World.block_lt_of_cell? w _ hw148_1)).trans hw148_1)⟩ (fun hHeld=>?_)
               clear hK K
               refine nm_ 25 ?_
               refine pu_ HT_ 8 26 (mk_ 26 130559) ?_
               refine ta8_ HT_ HW_ 9 27 (mk_ 26 131071) hHeld ?_
               refine one_ (i:=17) (N:=some 35) (mk_ 26 262143) rfl rfl (one_of HT_.out (by kernel_rfl)) (by decide) (fun K hK=>?_);refine goes_ Try.func42 (by kernel_rfl) rfl #[.slice (some ad143) l0.length c0,.int .i64 x14_2] (by rfl) rfl rfl (by (try simp only [mT,mC,mN]);first|done|rfl|(simp only [lDr,lTk];rfl)) ?_
               with_reducible refine (profile_next.calls _ _ l0 x14_2 t147 _ ?side1 ?side2 A11.out).mono ?_
               (case side1=>repeat (first|exact (kB HR0.out (by repeat (first|(with_reducible first|exact HB.out|apply lA|apply lN|apply lD)|exact HB.out)))|(with_reducible first|apply kA|apply kN|apply kD)));(case side2=>exact HC0.out);rintro e w' ⟨rfl,⟨nd,rfl⟩⟩;refine ⟨_,rfl, ?_⟩
               refine hK.out _ _ ⟨((HB.out.cell (World.block_lt_of_cell? w _ hw143_0)).trans hw143_0),((HB.out.cell (World.block_lt_of_cell? w _ hw143_1)).trans hw143_1),((HB.out.cell (World.block_lt_of_cell? w _ hw146_0)).trans hw146_0),((HB.out.cell (World.block_lt_of_cell? w _ hw146_1)).trans hw146_1),((HB.out.cell (World.block_lt_of_cell? w _ hw145_0)).trans hw145_0),((HB.out.cell (World.block_lt_of_cell? w _ hw145_1)).trans hw145_1),((HB.out.cell (World.block_lt_of_cell? w _ hw148_0)).trans hw148_0),((HB.out.cell (World.block_lt_of_cell? w _ hw148_1)).trans hw148_1)⟩ (fun hHeld=>?_)
               clear hK K
               refine nm_ 35 ?_
               refine pu_ HT_ 18 36 (mk_ 26 524287) ?_
               refine ta8_ HT_ HW_ 19 37 (mk_ 26 1048575) hHeld ?_
               refine one_ (i:=20) (N:=some 38) (mk_ 26 2097151) rfl rfl (one_of HT_.out (by kernel_rfl)) (by decide) (fun K hK=>?_);refine goes_ Try.func57 (by kernel_rfl) rfl #[.agg #[.int .i64 ((rd_T31 l0 x10_1).f0),.int .i64 ((rd_T31 l0 x10_1).f1)],.agg #[.int .i64 ((rd_T31 l0 t144).f0),.int .i64 ((rd_T31 l0 t144).f1)],.agg #[.int .i64 ((rd_T31 l0 x14_2).f0),.int .i64 ((rd_T31 l0 x14_2).f1)],.agg #[.int .i64 ((rd_T31 l0 t147).f0),.int .i64 ((rd_T31 l0 t147).f1)]] (by rfl) rfl rfl (by (try simp only [mT,mC,mN]);first|done|rfl|(simp only [lDr,lTk];rfl)) ?_
               with_reducible refine (vector_Meet.calls k2 ((rd_T31 l0 x10_1).f0) ((rd_T31 l0 x10_1).f1) ((rd_T31 l0 t144).f0) ((rd_T31 l0 t144).f1) ((rd_T31 l0 x14_2).f0) ((rd_T31 l0 x14_2).f1) ((rd_T31 l0 t147).f0) ((rd_T31 l0 t147).f1) t149 t150 _ A14.out).mono ?_
               rintro e w17 ⟨rfl,hb⟩;refine ⟨_,rfl, ?_⟩;replace HB:=bsa HB hb;(try clear hb);(try clear hb2);(try clear hk);(try clear hi)
               refine hK.out _ _ ⟨((HB.out.cell (World.block_lt_of_cell? w _ hw143_0)).trans hw143_0),((HB.out.cell (World.block_lt_of_cell? w _ hw143_1)).trans hw143_1),((HB.out.cell (World.block_lt_of_cell? w _ hw146_0)).trans hw146_0),((HB.out.cell (World.block_lt_of_cell? w _ hw146_1)).trans hw146_1),((HB.out.cell (World.block_lt_of_cell? w _ hw145_0)).trans hw145_0),((HB.out.cell (World.block_lt_of_cell? w _ hw145_1)).trans hw145_1),((HB.out.cell (World.block_lt_of_cell? w _ hw148_0)).trans hw148_0),((HB.out.cell (World.block_lt_of_cell? w _ hw148_1)).trans hw148_1)⟩ (fun hHeld=>?_)
               clear hK K
               refine nm_ 38 ?_
               refine pu_ HT_ 21 17 (mk_ 26 4194303) ?_
               refine pu_ HT_ 22 39 (mk_ 26 8388607) ?_
               refine pu_ HT_ 23 40 (mk_ 26 16777215) ?_
               refine pu_ HT_ 24 5 (mk_ 26 33554431) ?_
               refine pu_ HT_ 25 6 (mk_ 26 67108863) ?_
               refine done_ (done_of HT_.out (by kernel_rfl)) ?_
               go_upto_region 9 with (fail)
               go_cut [52] (fun v52 wc=>∃ (kq : Nat) (x52_14 : Bool),v52 = .bool x52_14 ∧ Aside0 (profile_simple.j2 kq l0 x10_1 t149 t150 0 (l0.length : Int) x10_1 x10_1 x14_2 x52_14 = some r) ∧ Aside0 (kq ≤ k2) ∧ Aside0 (Below w.heap.size w wc))
               case first =>
                have H:=HC15.out;clear HC15;replace H:=Option.bind_eq_some_iff.mp H;obtain ⟨t151,A180,H⟩ := H;replace H : (if t151 = x10_1 then (profile_simple.j2 k2 l0 x10_1 t149 t150 0 (l0.length : Int) x10_1 x10_1 x14_2 true) else ((profile_next.f l0 x10_1).bind fun t152=>(profile_simple.j2 k2 l0 x10_1 t149 t150 0 (l0.length : Int) x10_1 x10_1 x14_2 (t152 == x14_2)))) = some r:=H;have A18:=am A180;clear A180;by_cases c19 : t151 = x10_1
                ·rw [if_pos c19] at H;have c19b0 : (t151 == x10_1) = true:=beq_iff_eq.mpr c19;have c19b1 : (t151 != x10_1) = false:=bne_eq_false_iff_eq.mpr c19;clear c19;(first|rw [c19b0]|(simp only [i64_w,i32_w];rw [c19b0])|skip);have H':=am H;clear H
                 go_wp2_with (first|((with_reducible refine gate_callee (f:=42) rfl ?_);refine goesL_ (some 43) rfl rfl Try.func42 (by kernel_rfl) rfl #[.slice (some ad143) l0.length c0,.int .i64 x14_2] rfl (by (try simp only [mT,mC,mN]);first|done|rfl|(simp only [lDr,lTk];rfl)) ?_;(with_reducible refine (profile_next.calls _ _ l0 x14_2 t151 _ ?side1 ?side2 A18.out).mono ?_);(case side1=>exact cq HR0.out HB.out);(case side2=>exact HC0.out);rintro e w' ⟨rfl,⟨nd,rfl⟩⟩;refine ⟨_,rfl, ?_⟩))
                 go_meet
                 case rel=>exact ⟨_,(true),(by first|rfl|(simp;done)|(simp [*];done)),H',⟨by have:=HK1.out;have:=HK2.out;first|omega|exact Nat.le_refl _⟩,⟨by repeat (first|(with_reducible first|exact HB.out|apply lA|apply lN|apply lD)|exact HB.out)⟩⟩
                ·rw [if_neg c19] at H;have c19b0 : (t151 == x10_1) = false:=beq_eq_false_iff_ne.mpr c19;have c19b1 : (t151 != x10_1) = true:=bne_iff_ne.mpr c19;(first|rw [c19b0]|(simp only [i64_w,i32_w];rw [c19b0])|skip);replace H:=Option.bind_eq_some_iff.mp H;obtain ⟨t152,A200,H⟩ := H;replace H : (profile_simple.j2 k2 l0 x10_1 t149 t150 0 (l0.length : Int) x10_1 x10_1 x14_2 (t152 == x14_2)) = some r:=H;have A20:=am A200;clear A200;have H':=am H;clear H
                 go_wp2_with (first|((with_reducible refine gate_callee (f:=42) rfl ?_);refine goesL_ (some 43) rfl rfl Try.func42 (by kernel_rfl) rfl #[.slice (some ad143) l0.length c0,.int .i64 x14_2] rfl (by (try simp only [mT,mC,mN]);first|done|rfl|(simp only [lDr,lTk];rfl)) ?_;(with_reducible refine (profile_next.calls _ _ l0 x14_2 t151 _ ?side1 ?side2 A18.out).mono ?_);(case side1=>exact cq HR0.out HB.out);(case side2=>exact HC0.out);rintro e w' ⟨rfl,⟨nd,rfl⟩⟩;refine ⟨_,rfl, ?_⟩)|(go_at_call 42;(with_reducible refine (profile_next.calls _ _ l0 x10_1 t152 _ ?side1 ?side2 A20.out).mono ?_);(case side1=>repeat (first|exact (kB HR0.out (by repeat (first|(with_reducible first|exact HB.out|apply lA|apply lN|apply lD)|exact HB.out)))|(with_reducible first|apply kA|apply kN|apply kD)));(case side2=>exact HC0.out);rintro e w' ⟨rfl,⟨nd,rfl⟩⟩))
                 go_meet
                 case rel=>exact ⟨_,((t152 == x14_2)),(by first|rfl|(simp;done)|(simp [*];done)),H',⟨by have:=HK1.out;have:=HK2.out;first|omega|exact Nat.le_refl _⟩,⟨by repeat (first|(with_reducible first|exact HB.out|apply lA|apply lN|apply lD)|exact HB.out)⟩⟩
               case rest =>
                clear HC15
                try clear c1
                try clear p1
                try clear q1
                try clear hx1
                try clear c2
                try clear c2b0
                try clear p2
                try clear c3
                try clear c3b0
                try clear c4
                try clear c4b0
                try clear c5
                try clear c5b0
                try clear c7
                try clear c7b0
                try clear c8
                try clear c8b0
                try clear c9
                try clear c9b0
                try clear c10
                try clear c10b0
                try clear c12
                try clear c12b0
                try clear c13
                try clear c13b0
                try clear p14
                try clear q14
                try clear hx14
                try clear c19
                try clear c19b0
                try clear c19b1
                try clear hx143_0
                try clear hx143_1
                try clear hx145_0
                try clear hx145_1
                try clear hx146_0
                try clear hx146_1
                try clear hx148_0
                try clear hx148_1
                try clear p143
                try clear p145
                try clear p146
                try clear p148
                try clear p2
                try clear q143
                try clear q145
                try clear q146
                try clear q148
                obtain ⟨kq,x52_14,rfl,HA,HJ14,HB⟩ := hcut
                cases kq with
                | zero=>exact absurd HA.out (by simp [profile_simple.j2])
                | succ kj14 =>
                 have H:=HA.out;clear HA;simp only [profile_simple.j2] at H;by_cases c21 : x52_14 = true
                 ·subst c21
                  have H1 : (if t150 = 0 then (if t149 > 1 then (some false) else (profile_simple.l1 kj14 l0 x10_1 (l0.length : Int) x10_1 x10_1 (wrap64 (x14_2 + 1)))) else (some false)) = some r:=by rw [if_pos rfl] at H;exact H
                  clear H;have H:=H1;clear H1;by_cases c22 : t150 = 0
                  ·rw [if_pos c22] at H;have c22b0 : (t150 == 0) = true:=beq_iff_eq.mpr c22;have c22b1 : (t150 != 0) = false:=bne_eq_false_iff_eq.mpr c22;clear c22;by_cases c23 : t149 > 1
                   ·rw [if_pos c23] at H;have c23b0 : decide (1 < t149) = true:=decide_eq_true c23;clear c23;obtain rfl:=Option.some.inj H
                    go_wp2
                    go_ret
                    exact ⟨by first|rfl|(simp [errW_none,errW_some] <;> rfl)|(simp [*,errW_none,errW_some] <;> rfl),by repeat (first|(with_reducible first|exact HB.out|apply lA|apply lN|apply lD)|exact HB.out)⟩
                   ·rw [if_neg c23] at H;have c23b0 : decide (1 < t149) = false:=decide_eq_false c23;clear c23;have H':=am H;clear H
                    go_wp2
                    go_roundg kj14
                    case measure=>have:=HK1.out;have:=HK2.out;have:=HJ14.out;omega
                    case rel=>exact ⟨(wrap64 (x14_2 + 1)),(by first|rfl|(simp;done)|(simp [*];done)),H',⟨by have:=HK1.out;have:=HK2.out;have:=HJ14.out;omega⟩,⟨by repeat (first|(with_reducible first|exact HB.out|apply lA|apply lN|apply lD)|exact HB.out)⟩⟩
                  ·rw [if_neg c22] at H;have c22b0 : (t150 == 0) = false:=beq_eq_false_iff_ne.mpr c22;have c22b1 : (t150 != 0) = true:=bne_iff_ne.mpr c22;obtain rfl:=Option.some.inj H
                   go_wp2
                   go_ret
                   exact ⟨by first|rfl|(simp [errW_none,errW_some] <;> rfl)|(simp [*,errW_none,errW_some] <;> rfl),by repeat (first|(with_reducible first|exact HB.out|apply lA|apply lN|apply lD)|exact HB.out)⟩
                 ·replace c21:=Bool.eq_false_iff.mpr c21;subst c21
                  have H1 : (if t150 = 0 then (if t149 > 0 then (some false) else (profile_simple.l1 kj14 l0 x10_1 (l0.length : Int) x10_1 x10_1 (wrap64 (x14_2 + 1)))) else (some false)) = some r:=by rw [if_neg (show ¬ (false = true) by decide)] at H;exact H
                  clear H;have H:=H1;clear H1;by_cases c24 : t150 = 0
                  ·rw [if_pos c24] at H;have c24b0 : (t150 == 0) = true:=beq_iff_eq.mpr c24;have c24b1 : (t150 != 0) = false:=bne_eq_false_iff_eq.mpr c24;clear c24;by_cases c25 : t149 > 0
                   ·rw [if_pos c25] at H;have c25b0 : decide (0 < t149) = true:=decide_eq_true c25;clear c25;obtain rfl:=Option.some.inj H
                    go_wp2
                    go_ret
                    exact ⟨by first|rfl|(simp [errW_none,errW_some] <;> rfl)|(simp [*,errW_none,errW_some] <;> rfl),by repeat (first|(with_reducible first|exact HB.out|apply lA|apply lN|apply lD)|exact HB.out)⟩
                   ·rw [if_neg c25] at H;have c25b0 : decide (0 < t149) = false:=decide_eq_false c25;clear c25;have H':=am H;clear H
                    go_wp2
                    go_roundg kj14
                    case measure=>have:=HK1.out;have:=HK2.out;have:=HJ14.out;omega
                    case rel=>exact ⟨(wrap64 (x14_2 + 1)),(by first|rfl|(simp;done)|(simp [*];done)),H',⟨by have:=HK1.out;have:=HK2.out;have:=HJ14.out;omega⟩,⟨by repeat (first|(with_reducible first|exact HB.out|apply lA|apply lN|apply lD)|exact HB.out)⟩⟩
                  ·rw [if_neg c24] at H;have c24b0 : (t150 == 0) = false:=beq_eq_false_iff_ne.mpr c24;have c24b1 : (t150 != 0) = true:=bne_iff_ne.mpr c24;obtain rfl:=Option.some.inj H
                   go_wp2
                   go_ret
                   exact ⟨by first|rfl|(simp [errW_none,errW_some] <;> rfl)|(simp [*,errW_none,errW_some] <;> rfl),by repeat (first|(with_reducible first|exact HB.out|apply lA|apply lN|apply lD)|exact HB.out)⟩
              (rw [if_neg c13] at H;exact absurd H (by simp))
             (rw [if_neg c12] at H;exact absurd H (by simp))
            (rw [if_neg c10] at H;exact absurd H (by simp))
           (rw [if_neg c9] at H;exact absurd H (by simp))
          (rw [if_neg c8] at H;exact absurd H (by simp))
         (rw [if_neg c7] at H;exact absurd H (by simp))
        (rw [if_neg c5] at H;exact absurd H (by simp))
       (rw [if_neg c4] at H;exact absurd H (by simp))
      ·rw [if_neg c3] at H;have c3b0 : decide (x14_2 < x10_1) = false:=decide_eq_false c3;clear c3;have H':=am H;clear H
       go_wp2
       go_roundg k2
       case measure=>have:=HK1.out;have:=HK2.out;omega
       case rel=>exact ⟨(wrap64 (x10_1 + 1)),(by first|rfl|(simp;done)|(simp [*];done)),H',⟨by have:=HK1.out;have:=HK2.out;omega⟩,⟨by repeat (first|(with_reducible first|exact HB.out|apply lA|apply lN|apply lD)|exact HB.out)⟩⟩
   ·rw [if_neg c2] at H;have c2b0 : decide (x10_1 < (l0.length : Int)) = false:=decide_eq_false c2;clear c2;obtain rfl:=Option.some.inj H
    go_wp2
    go_ret
    exact ⟨by first|rfl|(simp [errW_none,errW_some] <;> rfl)|(simp [*,errW_none,errW_some] <;> rfl),by repeat (first|(with_reducible first|exact HB.out|apply lA|apply lN|apply lD)|exact HB.out)⟩
-- GIVEN: function 17 (profile_Check)
end
end Go.Proofs.Ytnjikioimompnaa.PA
