import Derived.Test.YtnjikioimompnaaOp
import Derived.Test.YtnjikioimompnaaPAx15
import Derived.Test.YtnjikioimompnaaPuh
import Derived.Test.YtnjikioimompnaaPuq
namespace Go.Proofs.Ytnjikioimompnaa.Pure
open Go.RowKit Go.Proofs.Ytnjikioimompnaa Go.Proofs.Ytnjikioimompnaa.PA Go.Proofs.YtnjikioimompnaaW.PrintWords Go.Proofs.YtnjikioimompnaaW.PrintLast Go.Proofs.YtnjikioimompnaaW.PrintMore
set_option linter.unusedVariables false
set_option linter.unusedSimpArgs false
theorem bF_box (l : List S31) : ∀ n,1 ≤ n → n ≤ l.length → BoxI l n (bF l n).1 (bF l n).2.1 (bF l n).2.2.1 (bF l n).2.2.2:=by
 intro n
 induction n with
 | zero=>intro h;omega
 | succ n ih =>
  intro _ hn;by_cases h0 : n = 0
  (subst h0;exact ⟨fun j hj=>by rw [show j = 0 by omega];exact ⟨⟨Int.le_refl _,Int.le_refl _⟩,Int.le_refl _,Int.le_refl _⟩,⟨0,by omega,rfl⟩,⟨0,by omega,rfl⟩,⟨0,by omega,rfl⟩,⟨0,by omega,rfl⟩⟩)
  ·have h:=ih (by omega) (by omega);rw [bF_succ l n (by omega)]
   obtain ⟨⟨a,b,c,d⟩,hq⟩ : ∃ q,bF l n = q:=⟨_,rfl⟩
   rw [hq] at h ⊢;have m1:=mn_c a (P l n).f0;have m2:=mn_c b (P l n).f1;have m3:=mx_c c (P l n).f0;have m4:=mx_c d (P l n).f1
   have pick : ∀ {f : S31 → Int} {a b : Int},(∃ j,j < l.length ∧ f (P l j) = a) → f (P l n) = b → ∀ c,(c = a ∨ c = b) → ∃ j,j < l.length ∧ f (P l j) = c:=by
    rintro f a b h1 h2 c (rfl|rfl);(exact h1);(exact ⟨n,by omega,h2⟩)
   refine ⟨fun j hj=>?_,pick (f:=S31.f0) h.lx_ rfl _ m1.2.2,pick (f:=S31.f1) h.ly_ rfl _ m2.2.2,pick (f:=S31.f0) h.hx_ rfl _ m3.2.2,pick (f:=S31.f1) h.hy_ rfl _ m4.2.2⟩
   show (mn a (P l n).f0 ≤ (P l j).f0 ∧ (P l j).f0 ≤ mx c (P l n).f0) ∧ (mn b (P l n).f1 ≤ (P l j).f1 ∧ (P l j).f1 ≤ mx d (P l n).f1)
   by_cases e : j = n
   ·subst e;omega
   ·have this : (a ≤ (P l j).f0 ∧ (P l j).f0 ≤ c) ∧ (b ≤ (P l j).f1 ∧ (P l j).f1 ≤ d):=h.all j (by omega)
    omega
theorem rBounds_f {l : List S31} (hv : Near l) (h0 : 0 < l.length) (hl : l.length ≤ 1000) {lx ly hx hy : Int} (hB : Box l lx ly hx hy) : gangsawref39_Bounds.f l = some (lx,ly,hx - lx,hy - ly):=by
 have b:=bF_box l l.length h0 (Nat.le_refl _)
 have B : Box l (bF l l.length).1 (bF l l.length).2.1 (bF l l.length).2.2.1 (bF l l.length).2.2.2:=⟨b.all,b.lx_,b.ly_,b.hx_,b.hy_⟩
 obtain ⟨e1,e2,e3,e4⟩ := B.uniq hB;obtain ⟨⟨i1,p1,q1⟩,⟨i2,p2,q2⟩,⟨i3,p3,q3⟩,⟨i4,p4,q4⟩⟩ := And.intro hB.lx_ (And.intro hB.ly_ (And.intro hB.hx_ hB.hy_));have n1:=hv.at p1;have n2:=hv.at p2;have n3:=hv.at p3;have n4:=hv.at p4
 unfold near at n1 n2 n3 n4
 unfold gangsawref39_Bounds.f
 rw [if_pos ⟨h0,by omega⟩,e1,e2,e3,e4,w64 (n:=hx - lx) (by omega) (by omega),w64 (n:=hy - ly) (by omega) (by omega)]
theorem box_of' {l : List S31} (h : 0 < l.length) (hl : l.length ≤ 1000) : ∃ lx ly hx hy,Box l lx ly hx hy:=by
 obtain ⟨a,b,c,d,_,hb⟩ := bounds_f l h hl;exact ⟨a,b,c,d,hb⟩
def wst (w h sx sy a : Int) : Int × Int:=if w < 1 ∨ w > 2000000 ∨ h < 1 ∨ h > 2000000 then (0,6) else if sx > w ∨ sy > h then (0,12) else (wrap64 (wrap64 (wrap64 (2 * w) * h) - a),0)
theorem Waste_f (nm : ByteArray) (l : List S31) (hnm : nm.size ≤ 1000000) (h0 : chk nm l = 0) {lx ly hx hy : Int} (hB : Box l lx ly hx hy) (w h : Int) : Ev (fun k=>profile_Waste.f k nm l w h) (wst w h (hx - lx) (hy - ly) (area l)):=by
 have hv:=(chk_zero.1 h0).2;have lo:=hv.lo;have hi:=hv.hi;obtain ⟨a,b,c,d,hE,hb⟩ := bounds_f l (by omega) (by omega);obtain ⟨rfl,rfl,rfl,rfl⟩ := hb.uniq hB;obtain ⟨⟨i1,p1,q1⟩,⟨i2,p2,q2⟩,⟨i3,p3,q3⟩,⟨i4,p4,q4⟩⟩ := And.intro hB.lx_ (And.intro hB.ly_ (And.intro hB.hx_ hB.hy_));have n1:=hv.near.at p1;have n2:=hv.near.at p2;have n3:=hv.near.at p3;have n4:=hv.near.at p4
 unfold near at n1 n2 n3 n4
 rw [w64 (n:=c - a) (by omega) (by omega),w64 (n:=d - b) (by omega) (by omega)] at hE
 unfold profile_Waste.f wst
 have bad : Ev (fun k=>profile_Waste.j0 k w h true nm l) (0,6):=Ev.step (f:=fun _=>some (0,6)) (fun k=>by simp only [profile_Waste.j0];rfl) (Ev.now _)
 refine Ev.bind (check_f nm l hnm) (Ev.congr (fun k=>if_pos h0) ?_)
 by_cases g1 : w < 1
 (rw [if_pos (.inl g1)];exact Ev.congr (fun k=>if_pos g1) bad)
 by_cases g2 : w > 2000000
 (rw [if_pos (.inr (.inl g2))];exact Ev.congr (fun k=>by rw [if_neg g1,if_pos g2]) bad)
 by_cases g3 : h < 1
 (rw [if_pos (.inr (.inr (.inl g3)))];exact Ev.congr (fun k=>by rw [if_neg g1,if_neg g2,if_pos g3]) bad)
 by_cases g4 : h > 2000000
 (rw [if_pos (.inr (.inr (.inr g4)))];exact Ev.congr (fun k=>by rw [if_neg g1,if_neg g2,if_neg g3,decide_eq_true g4]) bad);rw [if_neg (by omega)]
 refine Ev.congr (fun k=>by rw [if_neg g1,if_neg g2,if_neg g3,decide_eq_false g4]) ?_
 refine Ev.step (f:=fun k=>(profile_bounds.f k l).bind fun bt176=>(if bt176.2.2.1 > w then (some (0,12)) else (if bt176.2.2.2 > h then (some (0,12)) else ((profile_area.f k l).bind fun t182=>(some (wrap64 ((wrap64 ((wrap64 (2 * w)) * h)) - t182),0)))))) (fun k=>by simp only [profile_Waste.j0];rw [if_neg (by simp)]) (Ev.bind hE ?_)
 by_cases g5 : c - a > w
 (rw [if_pos (.inl g5)];exact Ev.congr (fun k=>if_pos g5) (Ev.now _))
 by_cases g6 : d - b > h
 (rw [if_pos (.inr g6)];exact Ev.congr (fun k=>by rw [if_neg g5,if_pos g6]) (Ev.now _));rw [if_neg (by omega)];exact Ev.congr (fun k=>by rw [if_neg g5,if_neg g6]) (Ev.bind (area_f hv.near (by omega)) (Ev.now _))
theorem Waste_e (nm : ByteArray) (l : List S31) (hnm : nm.size ≤ 1000000) (h0 : chk nm l ≠ 0) (w h : Int) : Ev (fun k=>profile_Waste.f k nm l w h) (0,chk nm l):=by
 unfold profile_Waste.f
 exact Ev.bind (check_f nm l hnm) (Ev.congr (fun k=>if_neg h0) (Ev.now _))
theorem ProfileMeasures (nm : ByteArray) (l : List S31) (w h : Int) (_ : nm.size ≤ maxLen) (_ : l.length ≤ maxLen) (_ : ∀ p ∈ l,Rng p.f0 ∧ Rng p.f1) (_ : Rng w) (_ : Rng h) : ∃ k,gangsawlaw39_ProfileMeasures.f k nm l w h = some true:=by
 have key : Ev (fun k=>gangsawlaw39_ProfileMeasures.f k nm l w h) true:=by
  unfold gangsawlaw39_ProfileMeasures.f
  refine Ev.bind awake_f (Ev.congr (fun k=>if_pos rfl) ?_)
  rcases short_f nm l with g|⟨g,hl,hs⟩
  (rw [g];exact Ev.congr (fun k=>by simp only [Option.bind_some];rw [if_neg (by simp)]) (Ev.now _))
  ·rw [g]
   refine Ev.congr (fun k=>by simp only [Option.bind_some];rw [if_pos trivial]) ?_
   have hnm : nm.size ≤ 1000000:=by omega
   refine Ev.bind (rCheck_f nm l hnm) ?_
   by_cases h0 : chk nm l = 0
   ·obtain ⟨hN,hv⟩ := chk_zero.1 h0;have lo:=hv.lo;have hi:=hv.hi;obtain ⟨lx,ly,hx,hy,hB⟩ := box_of' (l:=l) (by omega) (by omega);have eW:=Waste_f nm l hnm h0 hB w h;have eB:=rBounds_f hv.near (by omega) (by omega) hB
    obtain ⟨⟨v,e⟩,hw⟩ : ∃ q,wst w h (hx - lx) (hy - ly) (area l) = q:=⟨_,rfl⟩
    rw [hw] at eW
    refine Ev.bind (Bounds_f nm l hnm h0 hB) (Ev.bind (Area_f nm l hnm h0) (Ev.bind eW (Ev.bind (check_f nm l hnm) ?_)))
    refine Ev.congr (fun k=>by rw [if_pos rfl,h0,if_pos rfl,bne_self_eq_false]) ?_
    have J2 : Ev (fun k=>gangsawlaw39_ProfileMeasures.j2 k w h (area l) v e (decide (w < 1 ∨ w > 2000000 ∨ h < 1 ∨ h > 2000000)) (hx - lx) (hy - ly)) true:=by
     refine Ev.step (f:=fun _=>some true) (fun k=>?_) (Ev.now _)
     simp only [gangsawlaw39_ProfileMeasures.j2]
     unfold wst at hw
     by_cases c : w < 1 ∨ w > 2000000 ∨ h < 1 ∨ h > 2000000
     ·rw [if_pos c] at hw
      cases hw
      rw [if_pos (decide_eq_true c)];rfl
     ·rw [if_neg c] at hw;rw [if_neg (by simpa using c)];by_cases c1 : hx - lx > w
      ·rw [if_pos (.inl c1)] at hw
       cases hw
       rw [if_pos c1];rfl
      ·by_cases c2 : hy - ly > h
       ·rw [if_pos (.inr c2)] at hw
        cases hw
        rw [if_neg c1,if_pos c2];rfl
       ·rw [if_neg (by omega)] at hw
        cases hw
        rw [if_neg c1,if_neg c2]
        simp
    have J1 : Ev (fun k=>gangsawlaw39_ProfileMeasures.j1 k w h (area l) v e false (hx - lx) (hy - ly)) true:=by
     refine Ev.step (fun k=>?_) J2
     simp only [gangsawlaw39_ProfileMeasures.j1];rw [if_neg (by simp)];by_cases g1 : w < 1
     (rw [if_pos g1,decide_eq_true (.inl g1)])
     by_cases g2 : w > 2000000
     (rw [if_neg g1,if_pos g2,decide_eq_true (.inr (.inl g2))])
     by_cases g3 : h < 1
     (rw [if_neg g1,if_neg g2,if_pos g3,decide_eq_true (.inr (.inr (.inl g3)))]);rw [if_neg g1,if_neg g2,if_neg g3]
     congr 1
     rw [decide_eq_decide];omega
    have Q : Ev (fun k=>(gangsawref39_Area.f k l).bind fun t399=>(gangsawlaw39_ProfileMeasures.j1 k w h (area l) v e (area l != t399) (hx - lx) (hy - ly))) true :=
     Ev.bind (rArea_f hv.near (by omega)) (Ev.congr (fun k=>by rw [bne_self_eq_false]) J1)
    refine Ev.step (fun k=>?_) Q
    simp only [gangsawlaw39_ProfileMeasures.j0];rw [if_neg (by simp),if_pos trivial,eB];simp only [Option.bind_some];rw [if_neg (by simp),if_neg (by simp)]
   ·refine Ev.bind (Bounds_e nm l hnm h0) (Ev.bind (Area_e nm l hnm h0) (Ev.bind (Waste_e nm l hnm h0 w h) (Ev.bind (check_f nm l hnm) ?_)))
    refine Ev.congr (fun k=>by rw [if_pos rfl,if_pos rfl,bne_self_eq_false]) (Ev.step (f:=fun _=>some true) (fun k=>?_) (Ev.now _))
    simp only [gangsawlaw39_ProfileMeasures.j0];rw [if_neg (by simp),if_neg h0,if_pos trivial,if_pos (by simp),if_pos (by simp),if_pos trivial];rfl
 exact key.rounds
end Go.Proofs.Ytnjikioimompnaa.Pure
