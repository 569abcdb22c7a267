import Derived.Test.YtnjikioimompnaaGg
import Derived.Test.YtnjikioimompnaaPuj
import Derived.Test.YtnjikioimompnaaPuo
import Derived.ChangeArms
import Derived.Deep.Slices
namespace Go.Proofs.Ytnjikioimompnaa.Pure
open Go.RowKit Go.Proofs.Ytnjikioimompnaa Go.Proofs.Ytnjikioimompnaa.PA Go.Proofs.YtnjikioimompnaaW.PrintWords Go.Proofs.YtnjikioimompnaaW.PrintLast Go.Proofs.YtnjikioimompnaaW.PrintMore
set_option linter.unusedVariables false
set_option linter.unusedSimpArgs false
theorem bF_box (l : List S31) : ∀ n,1 ≤ n → n ≤ l.length → BoxI l n (bF l n).1 (bF l n).2.1 (bF l n).2.2.1 (bF l n).2.2.2:=by
 intro n
 induction n with
 | zero=>intro h;omega
 | succ n ih =>
  intro _ hn;by_cases h0 : n = 0
  (subst h0;exact ⟨fun j hj=>by rw [show j = 0 by omega];exact ⟨⟨Int.le_refl _,Int.le_refl _⟩,Int.le_refl _,Int.le_refl _⟩,⟨0,by omega,rfl⟩,⟨0,by omega,rfl⟩,⟨0,by omega,rfl⟩,⟨0,by omega,rfl⟩⟩)
  ·have h:=ih (by omega) (by omega);rw [bF_succ l n (by omega)]
   obtain ⟨⟨a,b,c,d⟩,hq⟩ : ∃ q,bF l n = q:=⟨_,rfl⟩
   rw [hq] at h ⊢;have m1:=mn_c a (P l n).f0;have m2:=mn_c b (P l n).f1;have m3:=mx_c c (P l n).f0;have m4:=mx_c d (P l n).f1
   have pick : ∀ {f : S31 → Int} {a b : Int},(∃ j,j < l.length ∧ f (P l j) = a) → f (P l n) = b → ∀ c,(c = a ∨ c = b) → ∃ j,j < l.length ∧ f (P l j) = c:=by
    rintro f a b h1 h2 c (rfl|rfl);(exact h1);(exact ⟨n,by omega,h2⟩)
   refine ⟨fun j hj=>?_,pick (f:=S31.f0) h.lx_ rfl _ m1.2.2,pick (f:=S31.f1) h.ly_ rfl _ m2.2.2,pick (f:=S31.f0) h.hx_ rfl _ m3.2.2,pick (f:=S31.f1) h.hy_ rfl _ m4.2.2⟩
   show (mn a (P l n).f0 ≤ (P l j).f0 ∧ (P l j).f0 ≤ mx c (P l n).f0) ∧ (mn b (P l n).f1 ≤ (P l j).f1 ∧ (P l j).f1 ≤ mx d (P l n).f1)
   by_cases e : j = n
   ·subst e;omega
   ·have this : (a ≤ (P l j).f0 ∧ (P l j).f0 ≤ c) ∧ (b ≤ (P l j).f1 ∧ (P l j).f1 ≤ d):=h.all j (by omega)
    omega
theorem rBounds_f {l : List S31} (hv : Near l) (h0 : 0 < l.length) (hl : l.length ≤ 1000) {lx ly hx hy : Int} (hB : Box l lx ly hx hy) : gangsawref39_Bounds.f l = some (lx,ly,hx - lx,hy - ly):=by
 have b:=bF_box l l.length h0 (Nat.le_refl _)
 have B : Box l (bF l l.length).1 (bF l l.length).2.1 (bF l l.length).2.2.1 (bF l l.length).2.2.2:=⟨b.all,b.lx_,b.ly_,b.hx_,b.hy_⟩
 obtain ⟨e1,e2,e3,e4⟩ := B.uniq hB;obtain ⟨⟨i1,p1,q1⟩,⟨i2,p2,q2⟩,⟨i3,p3,q3⟩,⟨i4,p4,q4⟩⟩ := And.intro hB.lx_ (And.intro hB.ly_ (And.intro hB.hx_ hB.hy_));have n1:=hv.at p1;have n2:=hv.at p2;have n3:=hv.at p3;have n4:=hv.at p4
 unfold near at n1 n2 n3 n4
 unfold gangsawref39_Bounds.f
 rw [if_pos ⟨h0,by omega⟩,e1,e2,e3,e4,w64 (n:=hx - lx) (by omega) (by omega),w64 (n:=hy - ly) (by omega) (by omega)]
end Go.Proofs.Ytnjikioimompnaa.Pure
