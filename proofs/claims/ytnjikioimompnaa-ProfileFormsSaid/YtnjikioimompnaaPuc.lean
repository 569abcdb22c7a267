import Derived.Test.YtnjikioimompnaaGd
import Derived.Test.YtnjikioimompnaaPAx91
import Derived.Test.YtnjikioimompnaaPua
import Derived.LoopIn
import Derived.LoopNIn
import Derived.OwnWalkIn
import Derived.RangeFuncBound
import Derived.RangeFuncCalls
import Derived.RangeFuncLeaves
import Derived.RangeFuncNested
import Derived.Shelf.RegionOpen
import Derived.TacticsInMore
namespace Go.Proofs.Ytnjikioimompnaa.Pure
open Go.RowKit Go.Proofs.Ytnjikioimompnaa Go.Proofs.Ytnjikioimompnaa.PA Go.Proofs.YtnjikioimompnaaW.PrintWords Go.Proofs.YtnjikioimompnaaW.PrintLast Go.Proofs.YtnjikioimompnaaW.PrintMore
set_option linter.unusedVariables false
set_option linter.unusedSimpArgs false
theorem keyLt_iff (a0 a1 b0 b1 : Int) : keyLt a0 a1 b0 b1 = true ↔ a0 < b0 ∨ (a0 = b0 ∧ a1 < b1):=by unfold keyLt;simp
def kL (k0 k1 : Int → Int → Int) (p q : S31) : Prop:=k0 p.f0 p.f1 < k0 q.f0 q.f1 ∨ (k0 p.f0 p.f1 = k0 q.f0 q.f1 ∧ k1 p.f0 p.f1 < k1 q.f0 q.f1)
theorem kL_trans {k0 k1 : Int → Int → Int} {p q r : S31} (h : kL k0 k1 p q) (g : kL k0 k1 q r) : kL k0 k1 p r:=by unfold kL at *;omega
theorem kL_irr {k0 k1 : Int → Int → Int} {p : S31} (h : kL k0 k1 p p) : False:=by unfold kL at *;omega
theorem ext_step (k0 k1 : Int → Int → Int) (l : List S31) (b i : Nat) : (kL k0 k1 (P l i) (P l b) ∧ extStep k0 k1 l b i = i) ∨ (¬ kL k0 k1 (P l i) (P l b) ∧ extStep k0 k1 l b i = b):=by
  unfold extStep
  by_cases h : kL k0 k1 (P l i) (P l b)
  (exact .inl ⟨h,if_pos ((keyLt_iff _ _ _ _).2 h)⟩);(exact .inr ⟨h,if_neg (fun g=>h ((keyLt_iff _ _ _ _).1 g))⟩)
theorem ext_min (k0 k1 : Int → Int → Int) (l : List S31) : ∀ n,1 ≤ n → extF k0 k1 l n < n ∧ ∀ j,j < n → ¬ kL k0 k1 (P l j) (P l (extF k0 k1 l n)):=by
  intro n
  induction n with
  | zero=>intro h;omega
  | succ n ih =>
    intro _;rw [extF_succ];by_cases hn : n = 0
    · subst hn
      rcases ext_step k0 k1 l (extF k0 k1 l 0) 0 with ⟨h,e⟩|⟨h,e⟩
      (exact absurd h (show ¬ kL k0 k1 (P l 0) (P l 0) from kL_irr));(rw [e];exact ⟨Nat.zero_lt_one,fun j hj=>by rw [show j = 0 from by omega];exact h⟩)
    · obtain ⟨h1,h2⟩ := ih (by omega)
      rcases ext_step k0 k1 l (extF k0 k1 l n) n with ⟨h,e⟩|⟨h,e⟩
      · rw [e]
        refine ⟨by omega,fun j hj g=>?_⟩
        by_cases hj' : j = n
        (subst hj';exact kL_irr g);(exact h2 j (by omega) (kL_trans g h))
      · rw [e]
        refine ⟨by omega,fun j hj g=>?_⟩
        by_cases hj' : j = n
        (subst hj';exact h g);(exact h2 j (by omega) g)
structure Box (l : List S31) (lx ly hx hy : Int) : Prop where
  all : ∀ i,i < l.length → (lx ≤ (P l i).f0 ∧ (P l i).f0 ≤ hx) ∧ (ly ≤ (P l i).f1 ∧ (P l i).f1 ≤ hy)
  lx_ : ∃ i,i < l.length ∧ (P l i).f0 = lx
  ly_ : ∃ i,i < l.length ∧ (P l i).f1 = ly
  hx_ : ∃ i,i < l.length ∧ (P l i).f0 = hx
  hy_ : ∃ i,i < l.length ∧ (P l i).f1 = hy
theorem mn_c (a b : Int) : mn a b ≤ a ∧ mn a b ≤ b ∧ (mn a b = a ∨ mn a b = b):=by unfold mn;split <;> omega
theorem mx_c (a b : Int) : a ≤ mx a b ∧ b ≤ mx a b ∧ (mx a b = a ∨ mx a b = b):=by unfold mx;split <;> omega
structure BoxI (l : List S31) (i : Nat) (lx ly hx hy : Int) : Prop where
  all : ∀ j,j < i → (lx ≤ (P l j).f0 ∧ (P l j).f0 ≤ hx) ∧ (ly ≤ (P l j).f1 ∧ (P l j).f1 ≤ hy)
  lx_ : ∃ j,j < l.length ∧ (P l j).f0 = lx
  ly_ : ∃ j,j < l.length ∧ (P l j).f1 = ly
  hx_ : ∃ j,j < l.length ∧ (P l j).f0 = hx
  hy_ : ∃ j,j < l.length ∧ (P l j).f1 = hy
theorem bounds_l (l : List S31) (hl : l.length ≤ 1000) : ∀ d i : Nat,i + d = l.length → ∀ lx ly hx hy,BoxI l i lx ly hx hy → ∃ lx' ly' hx' hy',Ev (fun k=>profile_bounds.l0 k l (l.length : Int) (i : Int) lx ly hx hy) (lx',ly',wrap64 (hx' - lx'),wrap64 (hy' - ly')) ∧ Box l lx' ly' hx' hy':=by
  intro d
  induction d with
  | zero =>
    intro i hi lx ly hx hy h
    refine ⟨lx,ly,hx,hy,Ev.step (f:=fun _=>some (lx,ly,wrap64 (hx - lx),wrap64 (hy - ly))) (fun k=>?_) (Ev.now _),⟨fun j hj=>h.all j (by omega),h.lx_,h.ly_,h.hx_,h.hy_⟩⟩
    simp only [profile_bounds.l0];rw [if_neg (by omega)]
  | succ d ih =>
    intro i hi lx ly hx hy h;have m1:=mn_c lx (P l i).f0;have m2:=mn_c ly (P l i).f1;have m3:=mx_c hx (P l i).f0;have m4:=mx_c hy (P l i).f1
    have pick : ∀ {f : S31 → Int} {a b : Int},(∃ j,j < l.length ∧ f (P l j) = a) → f (P l i) = b → ∀ c,(c = a ∨ c = b) → ∃ j,j < l.length ∧ f (P l j) = c:=by
      rintro f a b h1 h2 c (rfl|rfl);(exact h1);(exact ⟨i,by omega,h2⟩)
    obtain ⟨lx',ly',hx',hy',hE,hB⟩ := ih (i + 1) (by omega) (mn lx (P l i).f0) (mn ly (P l i).f1) (mx hx (P l i).f0) (mx hy (P l i).f1)
      ⟨fun j hj=>by
        by_cases e : j = i
        · subst e;omega
        · have:=h.all j (by omega);omega,
       pick (f:=S31.f0) h.lx_ rfl _ m1.2.2,pick (f:=S31.f1) h.ly_ rfl _ m2.2.2,pick (f:=S31.f0) h.hx_ rfl _ m3.2.2,pick (f:=S31.f1) h.hy_ rfl _ m4.2.2⟩
    refine ⟨lx',ly',hx',hy',Ev.step (fun k=>?_) hE,hB⟩
    simp only [profile_bounds.l0];rw [if_pos (by omega),if_pos (by omega),if_pos (by omega),w1 (by omega),rd_P]
theorem bounds_f (l : List S31) (h : 0 < l.length) (hl : l.length ≤ 1000) : ∃ lx ly hx hy,Ev (fun k=>profile_bounds.f k l) (lx,ly,wrap64 (hx - lx),wrap64 (hy - ly)) ∧ Box l lx ly hx hy:=by
  obtain ⟨lx,ly,hx,hy,hE,hB⟩ := bounds_l l hl l.length 0 (by simp) (P l 0).f0 (P l 0).f1 (P l 0).f0 (P l 0).f1 ⟨fun j hj=>by omega,⟨0,h,rfl⟩,⟨0,h,rfl⟩,⟨0,h,rfl⟩,⟨0,h,rfl⟩⟩
  refine ⟨lx,ly,hx,hy,Ev.congr (fun k=>?_) hE,hB⟩
  unfold profile_bounds.f
  rw [if_pos (by omega)];rfl
theorem Box.uniq {l : List S31} {a b c d a' b' c' d' : Int} (h : Box l a b c d) (g : Box l a' b' c' d') : a = a' ∧ b = b' ∧ c = c' ∧ d = d':=by
  obtain ⟨⟨i1,p1,q1⟩,⟨i2,p2,q2⟩,⟨i3,p3,q3⟩,⟨i4,p4,q4⟩⟩ := And.intro h.lx_ (And.intro h.ly_ (And.intro h.hx_ h.hy_));obtain ⟨⟨j1,r1,s1⟩,⟨j2,r2,s2⟩,⟨j3,r3,s3⟩,⟨j4,r4,s4⟩⟩ := And.intro g.lx_ (And.intro g.ly_ (And.intro g.hx_ g.hy_));have a1:=g.all i1 p1;have a2:=g.all i2 p2;have a3:=g.all i3 p3;have a4:=g.all i4 p4;have b1:=h.all j1 r1;have b2:=h.all j2 r2;have b3:=h.all j3 r3;have b4:=h.all j4 r4
  omega
end Go.Proofs.Ytnjikioimompnaa.Pure
