import Derived.Test.YtnjikioimompnaaGh
import Derived.Test.YtnjikioimompnaaPAx12
import Derived.Test.YtnjikioimompnaaPui
namespace Go.Proofs.Ytnjikioimompnaa.Pure
open Go.RowKit Go.Proofs.Ytnjikioimompnaa Go.Proofs.Ytnjikioimompnaa.PA Go.Proofs.YtnjikioimompnaaW.PrintWords Go.Proofs.YtnjikioimompnaaW.PrintLast Go.Proofs.YtnjikioimompnaaW.PrintMore
set_option linter.unusedVariables false
set_option linter.unusedSimpArgs false
theorem rTurn_f {a b c : S31} (ha : near a) (hb : near b) (hc : near c) : gangsawref03_Turn.f a.f0 a.f1 b.f0 b.f1 c.f0 c.f1 = some (sg (cr a b c)):=by
 unfold near at ha hb hc
 unfold gangsawref03_Turn.f
 have h1:=mul_bd (x:=b.f0 - a.f0) (y:=c.f1 - a.f1) (X:=2000000) (Y:=2000000) (by omega) (by omega) (by omega) (by omega);have h2:=mul_bd (x:=b.f1 - a.f1) (y:=c.f0 - a.f0) (X:=2000000) (Y:=2000000) (by omega) (by omega) (by omega) (by omega)
 rw [w64 (n:=b.f0 - a.f0) (by omega) (by omega),w64 (n:=c.f1 - a.f1) (by omega) (by omega),w64 (n:=b.f1 - a.f1) (by omega) (by omega),w64 (n:=c.f0 - a.f0) (by omega) (by omega),
  w64 (n:=(b.f0 - a.f0) * (c.f1 - a.f1)) (by omega) (by omega),w64 (n:=(b.f1 - a.f1) * (c.f0 - a.f0)) (by omega) (by omega),w64 (by omega) (by omega)]
 have s:=sg_cases (cr a b c)
 unfold cr at s ⊢
 rcases s with ⟨h,e⟩|⟨h,e⟩|⟨h,e⟩
 (rw [if_neg (by omega),if_pos h,e]);(rw [if_neg (by omega),if_neg (by omega),e]);(rw [if_pos h,e])
def bfP (p q : S31) : Prop:=p.f0 < q.f0 ∨ (p.f0 = q.f0 ∧ p.f1 < q.f1)
instance (p q : S31) : Decidable (bfP p q):=by unfold bfP;exact inferInstance
theorem before_f (p q : S31) : gangsawref03_before.f p.f0 p.f1 q.f0 q.f1 = some (decide (bfP p q)):=by
 unfold gangsawref03_before.f
 by_cases h : p.f0 < q.f0
 (rw [if_pos h,decide_eq_true (show bfP p q from .inl h)])
 ·rw [if_neg h];by_cases g : p.f0 = q.f0
  ·rw [if_pos g]
   congr 1
   rw [decide_eq_decide];unfold bfP;omega
  (rw [if_neg g,decide_eq_false (show ¬ bfP p q from by unfold bfP;omega)])
theorem sorted_f (p q : S31) : gangsawref03_sorted.f p.f0 p.f1 q.f0 q.f1 = some (if bfP q p then (q.f0,q.f1,p.f0,p.f1) else (p.f0,p.f1,q.f0,q.f1)):=by
 unfold gangsawref03_sorted.f
 rw [before_f];simp only [Option.bind_some];by_cases h : bfP q p
 (rw [if_pos h,if_pos (decide_eq_true h)]);(rw [if_neg h,if_neg (by simpa using h)])
theorem line_j1 {a b c d : S31} (κ : S31 → Int) (hκ : ∀ p q, (p = a ∨ p = b ∨ p = c ∨ p = d) → (q = a ∨ q = b ∨ q = c ∨ q = d) → ((bfP p q ↔ κ p < κ q) ∧ (κ p = κ q → p = q))) :
  Ev (fun k=>gangsawref03_Meet.j1 k true a.f0 a.f1 b.f0 b.f1 c.f0 c.f1 d.f0 d.f1) (spans (κ a) (κ b) (κ c) (κ d)):=by
 have j3 : ∀ p q : S31,(p = a ∨ p = b ∨ p = c ∨ p = d) → (q = a ∨ q = b ∨ q = c ∨ q = d) → Ev (fun k=>gangsawref03_Meet.j3 k p.f0 p.f1 q.f0 q.f1) (mx 0 (mn 2 (κ q - κ p + 1))):=by
  intro p q hp hq;have h:=hκ p q hp hq
  refine Ev.step (f:=fun _=>some (mx 0 (mn 2 (κ q - κ p + 1)))) (fun k=>?_) (Ev.now _)
  simp only [gangsawref03_Meet.j3];rw [before_f];simp only [Option.bind_some];have m1:=mn_c 2 (κ q - κ p + 1);have m2:=mx_c 0 (mn 2 (κ q - κ p + 1))
  by_cases g : bfP p q
  ·rw [if_pos (decide_eq_true g)]
   have:=h.1.1 g
   congr 1;omega
  ·rw [if_neg (by simpa using g)];have g':=mt h.1.2 g;by_cases e : κ p = κ q
   ·have:=h.2 e
    subst this;rw [if_pos (by simp)]
    congr 1;omega
   ·rw [if_neg (by
     intro e';rw [Bool.and_eq_true] at e'
     exact e (by rw [show p = q from S31_ext (by simpa using e'.1) (by simpa using e'.2)]))]
    congr 1;omega
 have j2 : ∀ h lo hi : S31,(h = a ∨ h = b ∨ h = c ∨ h = d) → (lo = a ∨ lo = b ∨ lo = c ∨ lo = d) → (hi = a ∨ hi = b ∨ hi = c ∨ hi = d) → Ev (fun k=>gangsawref03_Meet.j2 k h.f0 h.f1 lo.f0 lo.f1 hi.f0 hi.f1) (mx 0 (mn 2 (mn (κ h) (κ hi) - κ lo + 1))):=by
  intro h lo hi hh hl hi';have e:=(hκ h hi hh hi').1;have m:=mn_c (κ h) (κ hi);by_cases g : bfP h hi
  ·have:=e.1 g
   have em : mn (κ h) (κ hi) = κ h:=by omega
   rw [em]
   refine Ev.step (fun k=>?_) (j3 lo h hl hh)
   simp only [gangsawref03_Meet.j2];rw [before_f];simp only [Option.bind_some];rw [if_pos (decide_eq_true g)]
  ·have:=mt e.2 g
   have em : mn (κ h) (κ hi) = κ hi:=by omega
   rw [em]
   refine Ev.step (fun k=>?_) (j3 lo hi hl hi')
   simp only [gangsawref03_Meet.j2];rw [before_f];simp only [Option.bind_some];rw [if_neg (by simpa using g)]
 obtain ⟨p,q,hp,hq,es,ep,eq⟩ : ∃ p q,(p = a ∨ p = b) ∧ (q = a ∨ q = b) ∧ (if bfP b a then (b.f0,b.f1,a.f0,a.f1) else (a.f0,a.f1,b.f0,b.f1)) = (p.f0,p.f1,q.f0,q.f1) ∧ κ p = mn (κ a) (κ b) ∧ κ q = mx (κ a) (κ b):=by
  have e:=(hκ b a (by simp) (by simp)).1;have m1:=mn_c (κ a) (κ b);have m2:=mx_c (κ a) (κ b)
  by_cases g : bfP b a
  ·have:=e.1 g
   exact ⟨b,a,.inr rfl,.inl rfl,if_pos g,by omega,by omega⟩
  ·have:=mt e.2 g
   exact ⟨a,b,.inl rfl,.inr rfl,if_neg g,by omega,by omega⟩
 obtain ⟨u,v,hu,hv,es',eu,ev⟩ : ∃ p q,(p = c ∨ p = d) ∧ (q = c ∨ q = d) ∧ (if bfP d c then (d.f0,d.f1,c.f0,c.f1) else (c.f0,c.f1,d.f0,d.f1)) = (p.f0,p.f1,q.f0,q.f1) ∧ κ p = mn (κ c) (κ d) ∧ κ q = mx (κ c) (κ d):=by
  have e:=(hκ d c (by simp) (by simp)).1;have m1:=mn_c (κ c) (κ d);have m2:=mx_c (κ c) (κ d)
  by_cases g : bfP d c
  ·have:=e.1 g
   exact ⟨d,c,.inr rfl,.inl rfl,if_pos g,by omega,by omega⟩
  ·have:=mt e.2 g
   exact ⟨c,d,.inl rfl,.inr rfl,if_neg g,by omega,by omega⟩
 have hp' : p = a ∨ p = b ∨ p = c ∨ p = d:=by rcases hp with h|h <;> simp [h]
 have hq' : q = a ∨ q = b ∨ q = c ∨ q = d:=by rcases hq with h|h <;> simp [h]
 have hu' : u = a ∨ u = b ∨ u = c ∨ u = d:=by rcases hu with h|h <;> simp [h]
 have hv' : v = a ∨ v = b ∨ v = c ∨ v = d:=by rcases hv with h|h <;> simp [h]
 have er : spans (κ a) (κ b) (κ c) (κ d) = mx 0 (mn 2 (mn (κ v) (κ q) - mx (κ p) (κ u) + 1)):=by
  unfold spans
  rw [ep,eq,eu,ev,mn_comm (mx (κ c) (κ d))]
 rw [er];have e:=(hκ p u hp' hu').1;have m:=mx_c (κ p) (κ u);by_cases g : bfP p u
 ·have:=e.1 g
  have em : mx (κ p) (κ u) = κ u:=by omega
  rw [em]
  refine Ev.step (fun k=>?_) (j2 v u q hv' hu' hq')
  simp only [gangsawref03_Meet.j1];rw [if_pos trivial,sorted_f,sorted_f,es,es'];simp only [Option.bind_some];rw [before_f];simp only [Option.bind_some];rw [if_pos (decide_eq_true g)]
 ·have:=mt e.2 g
  have em : mx (κ p) (κ u) = κ p:=by omega
  rw [em]
  refine Ev.step (fun k=>?_) (j2 v p q hv' hp' hq')
  simp only [gangsawref03_Meet.j1];rw [if_pos trivial,sorted_f,sorted_f,es,es'];simp only [Option.bind_some];rw [before_f];simp only [Option.bind_some];rw [if_neg (by simpa using g)]
theorem on_line {a b p q : S31} (hp : cr a b p = 0) (hq : cr a b q = 0) : (a.f0 = b.f0 → a.f1 ≠ b.f1 → p.f0 = a.f0) ∧ (a.f0 ≠ b.f0 → p.f0 = q.f0 → p.f1 = q.f1):=by
 unfold cr at hp hq
 constructor
 ·intro h1 h2;rw [show b.f0 - a.f0 = 0 by omega,Int.zero_mul] at hp
  have : (b.f1 - a.f1) * (p.f0 - a.f0) = 0:=by omega
  rcases Int.mul_eq_zero.1 this with g|g <;> omega
 ·intro h1 h2;rw [h2] at hp
  have e : (b.f0 - a.f0) * (p.f1 - a.f1) = (b.f0 - a.f0) * (q.f1 - a.f1):=by omega
  have:=Int.eq_of_mul_eq_mul_left (show b.f0 - a.f0 ≠ 0 by omega) e
  omega
theorem rMeet_f {a b c d : S31} (ha : near a) (hb : near b) (hc : near c) (hd : near d) (hab : a ≠ b) (hcd : c ≠ d) : Ev (fun k=>gangsawref03_Meet.f k a.f0 a.f1 b.f0 b.f1 c.f0 c.f1 d.f0 d.f1) (meet a b c d):=by
 have hne : ∀ {p q : S31},p ≠ q → ¬ (p.f0 == q.f0 && p.f1 == q.f1) = true:=by
  intro p q h e;rw [Bool.and_eq_true] at e;exact h (S31_ext (by simpa using e.1) (by simpa using e.2))
 unfold gangsawref03_Meet.f
 refine Ev.congr (fun k=>by rw [if_neg (hne hab),show (c.f0 == d.f0 && c.f1 == d.f1) = false from by simpa using hne hcd]) ?_
 have other : ¬ (sg (cr a b c) = 0 ∧ sg (cr a b d) = 0) → Ev (fun k=>gangsawref03_Meet.j1 k false a.f0 a.f1 b.f0 b.f1 c.f0 c.f1 d.f0 d.f1) (meet a b c d):=by
  intro h
  have ws : ∀ {x y : Int},(x = -1 ∨ x = 0 ∨ x = 1) → (y = -1 ∨ y = 0 ∨ y = 1) → wrap64 (x * y) = x * y:=by
   rintro x y (rfl|rfl|rfl) (rfl|rfl|rfl) <;> exact w64 (by decide) (by decide)
  have s1:=sg_cases (cr a b c);have s2:=sg_cases (cr a b d);have s3:=sg_cases (cr c d a);have s4:=sg_cases (cr c d b)
  refine Ev.step (f:=fun _=>some (meet a b c d)) (fun k=>?_) (Ev.now _)
  simp only [gangsawref03_Meet.j1]
  unfold meet
  rw [if_neg (by simp),if_neg h,rTurn_f ha hb hc,rTurn_f ha hb hd,rTurn_f hc hd ha,rTurn_f hc hd hb];simp only [Option.bind_some];rw [ws (by omega) (by omega),ws (by omega) (by omega)];by_cases e : sg (cr a b c) * sg (cr a b d) ≤ 0
  ·rw [if_pos e];by_cases e2 : sg (cr c d a) * sg (cr c d b) ≤ 0
   (rw [if_pos e2,if_pos ⟨e,e2⟩]);(rw [if_neg e2,if_neg (fun h=>e2 h.2)])
  (rw [if_neg e,if_neg (fun h : _ ∧ _=>e h.1)])
 by_cases h1 : sg (cr a b c) = 0
 ·by_cases h2 : sg (cr a b d) = 0
  ·have z1:=sg_zero.1 h1;have z2:=sg_zero.1 h2
   have za : cr a b a = 0:=by unfold cr;simp
   have zb : cr a b b = 0:=by unfold cr;rw [Int.mul_comm];omega
   have zz : ∀ p,(p = a ∨ p = b ∨ p = c ∨ p = d) → cr a b p = 0:=by rintro p (rfl|rfl|rfl|rfl) <;> assumption
   have em : meet a b c d = if a.f0 = b.f0 then spans a.f1 b.f1 c.f1 d.f1 else spans a.f0 b.f0 c.f0 d.f0:=by unfold meet;rw [if_pos ⟨h1,h2⟩]
   have key : Ev (fun k=>gangsawref03_Meet.j1 k true a.f0 a.f1 b.f0 b.f1 c.f0 c.f1 d.f0 d.f1) (meet a b c d):=by
    rw [em];by_cases e : a.f0 = b.f0
    ·rw [if_pos e]
     have ne1 : a.f1 ≠ b.f1:=fun g=>hab (S31_ext e g)
     refine line_j1 S31.f1 (fun p q hp hq=>?_)
     have e1:=(on_line (zz p hp) (zz p hp)).1 e ne1;have e2:=(on_line (zz q hq) (zz q hq)).1 e ne1;exact ⟨by unfold bfP;omega,fun g=>S31_ext (by omega) g⟩
    ·rw [if_neg e]
     refine line_j1 S31.f0 (fun p q hp hq=>?_)
     have e1:=(on_line (zz p hp) (zz q hq)).2 e;exact ⟨by unfold bfP;constructor <;> intro h <;> (try omega),fun g=>S31_ext g (e1 g)⟩
   refine Ev.step (fun k=>?_) key
   simp only [gangsawref03_Meet.j0];rw [if_neg (by simp),rTurn_f ha hb hc,h1];simp only [Option.bind_some];rw [if_pos trivial,rTurn_f ha hb hd,h2];rfl
  ·refine Ev.step (fun k=>?_) (other (fun h=>h2 h.2))
   simp only [gangsawref03_Meet.j0];rw [if_neg (by simp),rTurn_f ha hb hc,h1];simp only [Option.bind_some];rw [if_pos trivial,rTurn_f ha hb hd];simp only [Option.bind_some];rw [show (sg (cr a b d) == 0) = false from by simpa using h2]
 ·refine Ev.step (fun k=>?_) (other (fun h=>h1 h.1))
  simp only [gangsawref03_Meet.j0];rw [if_neg (by simp),rTurn_f ha hb hc];simp only [Option.bind_some];rw [if_neg h1]
end Go.Proofs.Ytnjikioimompnaa.Pure
