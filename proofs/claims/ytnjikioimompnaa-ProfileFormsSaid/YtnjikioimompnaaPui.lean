import Derived.Test.YtnjikioimompnaaPuc
namespace Go.Proofs.Ytnjikioimompnaa.Pure
open Go.RowKit Go.Proofs.Ytnjikioimompnaa Go.Proofs.Ytnjikioimompnaa.PA Go.Proofs.YtnjikioimompnaaW.PrintWords Go.Proofs.YtnjikioimompnaaW.PrintLast Go.Proofs.YtnjikioimompnaaW.PrintMore
set_option linter.unusedVariables false
set_option linter.unusedSimpArgs false
theorem mn_comm (a b : Int) : mn a b = mn b a:=by have:=mn_c a b;have:=mn_c b a;omega
theorem mx_comm (a b : Int) : mx a b = mx b a:=by have:=mx_c a b;have:=mx_c b a;omega
theorem spans_swap (a b c d : Int) : spans a b c d = spans c d a b:=by unfold spans;rw [mn_comm (mx a b),mx_comm (mn a b)]
theorem spans_flip (a b c d : Int) : spans b a c d = spans a b c d:=by unfold spans;rw [mx_comm b,mn_comm b]
theorem spans_flip2 (a b c d : Int) : spans a b d c = spans a b c d:=by rw [spans_swap,spans_flip,spans_swap]
theorem spans_mv (a b c d x : Int) : spans (a + x) (b + x) (c + x) (d + x) = spans a b c d:=by
 unfold spans
 have h : ∀ p q : Int,mx (p + x) (q + x) = mx p q + x ∧ mn (p + x) (q + x) = mn p q + x:=by
  intro p q;have a1:=mx_c p q;have a2:=mx_c (p + x) (q + x);have a3:=mn_c p q;have a4:=mn_c (p + x) (q + x)
  omega
 rw [(h a b).1,(h c d).1,(h a b).2,(h c d).2,(h _ _).2,(h _ _).1]
 congr 2
 omega
theorem spans_neg (a b c d : Int) : spans (-a) (-b) (-c) (-d) = spans a b c d:=by
 unfold spans
 have h : ∀ p q : Int,mx (-p) (-q) = -mn p q ∧ mn (-p) (-q) = -mx p q:=by
  intro p q;have a1:=mx_c p q;have a2:=mx_c (-p) (-q);have a3:=mn_c p q;have a4:=mn_c (-p) (-q)
  omega
 rw [(h a b).1,(h c d).1,(h a b).2,(h c d).2,(h _ _).2,(h _ _).1]
 congr 2
 omega
theorem cr_flip (a b c : S31) : cr b a c = - cr a b c:=by
 unfold cr
 simp only [Int.sub_mul,Int.mul_sub];have e1:=Int.mul_comm a.f0 b.f1;have e2:=Int.mul_comm b.f0 a.f1;have e3:=Int.mul_comm a.f0 a.f1;have e4:=Int.mul_comm b.f0 b.f1
 omega
theorem sg_zero {n : Int} : sg n = 0 ↔ n = 0:=by have:=sg_cases n;omega
theorem cr_line {a b c d : S31} (hab : a ≠ b) (h1 : cr a b c = 0) (h2 : cr a b d = 0) : cr c d a = 0 ∧ cr c d b = 0 ∧ (a.f0 = b.f0 → c.f0 = d.f0):=by
 obtain ⟨ux,hux⟩ : ∃ u,u = b.f0 - a.f0:=⟨_,rfl⟩
 obtain ⟨uy,huy⟩ : ∃ u,u = b.f1 - a.f1:=⟨_,rfl⟩
 obtain ⟨sx,hsx⟩ : ∃ u,u = c.f0 - a.f0:=⟨_,rfl⟩
 obtain ⟨sy,hsy⟩ : ∃ u,u = c.f1 - a.f1:=⟨_,rfl⟩
 obtain ⟨tx,htx⟩ : ∃ u,u = d.f0 - a.f0:=⟨_,rfl⟩
 obtain ⟨ty,hty⟩ : ∃ u,u = d.f1 - a.f1:=⟨_,rfl⟩
 have g1 : ux * sy = uy * sx:=by unfold cr at h1;rw [← hux,← huy,← hsx,← hsy] at h1;omega
 have g2 : ux * ty = uy * tx:=by unfold cr at h2;rw [← hux,← huy,← htx,← hty] at h2;omega
 have hu : ux ≠ 0 ∨ uy ≠ 0:=by
  rcases Int.lt_trichotomy ux 0 with h|h|h
  (exact .inl (by omega))
  ·refine .inr (fun h'=>hab (S31_ext (by omega) (by omega)))
  (exact .inl (by omega))
 have key : sx * ty = sy * tx:=by
  rcases hu with h|h
  ·refine Int.eq_of_mul_eq_mul_left h ?_
   rw [show ux * (sx * ty) = sx * (ux * ty) from Int.mul_left_comm _ _ _,g2,show ux * (sy * tx) = (ux * sy) * tx from (Int.mul_assoc _ _ _).symm,g1];rw [Int.mul_left_comm,Int.mul_assoc]
  ·refine Int.eq_of_mul_eq_mul_left h ?_
   rw [show uy * (sx * ty) = (uy * sx) * ty from (Int.mul_assoc _ _ _).symm,← g1,show uy * (sy * tx) = sy * (uy * tx) from Int.mul_left_comm _ _ _,← g2];rw [Int.mul_assoc,Int.mul_left_comm]
 refine ⟨?_, ?_,fun e=>?_⟩
 ·unfold cr
  rw [show d.f0 - c.f0 = tx - sx by omega,show a.f1 - c.f1 = -sy by omega,show d.f1 - c.f1 = ty - sy by omega,show a.f0 - c.f0 = -sx by omega];simp only [Int.sub_mul,Int.mul_neg];have e1:=Int.mul_comm sx ty;have e2:=Int.mul_comm sx sy;have e3:=Int.mul_comm tx sy
  omega
 ·unfold cr
  rw [show d.f0 - c.f0 = tx - sx by omega,show b.f1 - c.f1 = uy - sy by omega,show d.f1 - c.f1 = ty - sy by omega,show b.f0 - c.f0 = ux - sx by omega];simp only [Int.sub_mul,Int.mul_sub];have e1:=Int.mul_comm sx ty;have e2:=Int.mul_comm sx sy;have e3:=Int.mul_comm tx sy;have e4:=Int.mul_comm tx uy;have e5:=Int.mul_comm ty ux;have e6:=Int.mul_comm sx uy;have e7:=Int.mul_comm sy ux
  omega
 ·have u0 : ux = 0:=by omega
  rw [u0,Int.zero_mul] at g1 g2
  have uy0 : uy ≠ 0:=by omega
  have s0 : sx = 0:=by rcases Int.mul_eq_zero.1 g1.symm with h|h;exact absurd h uy0;exact h
  have t0 : tx = 0:=by rcases Int.mul_eq_zero.1 g2.symm with h|h;exact absurd h uy0;exact h
  omega
theorem meet_comm {a b c d : S31} (hab : a ≠ b) (hcd : c ≠ d) : meet a b c d = meet c d a b:=by
 unfold meet
 by_cases h : sg (cr a b c) = 0 ∧ sg (cr a b d) = 0
 ·have L:=cr_line hab (sg_zero.1 h.1) (sg_zero.1 h.2);have L2:=cr_line hcd L.1 L.2.1
  have hp : sg (cr c d a) = 0 ∧ sg (cr c d b) = 0:=⟨sg_zero.2 L.1,sg_zero.2 L.2.1⟩
  rw [if_pos h,if_pos hp];by_cases e : a.f0 = b.f0
  (rw [if_pos e,if_pos (L.2.2 e),spans_swap]);(rw [if_neg e,if_neg (fun g=>e (L2.2.2 g)),spans_swap])
 ·have h' : ¬ (sg (cr c d a) = 0 ∧ sg (cr c d b) = 0) := by
   intro g;have L:=cr_line hcd (sg_zero.1 g.1) (sg_zero.1 g.2);exact h ⟨sg_zero.2 L.1,sg_zero.2 L.2.1⟩
  rw [if_neg h,if_neg h'];by_cases g : sg (cr a b c) * sg (cr a b d) ≤ 0 ∧ sg (cr c d a) * sg (cr c d b) ≤ 0
  ·have g' : sg (cr c d a) * sg (cr c d b) ≤ 0 ∧ sg (cr a b c) * sg (cr a b d) ≤ 0:=⟨g.2,g.1⟩
   rw [if_pos g,if_pos g']
  ·have g' : ¬ (sg (cr c d a) * sg (cr c d b) ≤ 0 ∧ sg (cr a b c) * sg (cr a b d) ≤ 0):=fun k=>g ⟨k.2,k.1⟩
   rw [if_neg g,if_neg g']
theorem sg_neg' (x : Int) : sg (-x) = - sg x:=by have:=sg_cases x;have:=sg_cases (-x);omega
theorem meet_flip1 (a b c d : S31) : meet b a c d = meet a b c d:=by
 unfold meet
 rw [cr_flip a b c,cr_flip a b d,sg_neg',sg_neg',Int.neg_mul_neg,Int.mul_comm (sg (cr c d b))]
 have e : (-sg (cr a b c) = 0 ∧ -sg (cr a b d) = 0) = (sg (cr a b c) = 0 ∧ sg (cr a b d) = 0):=by apply propext;omega
 by_cases h : sg (cr a b c) = 0 ∧ sg (cr a b d) = 0
 ·rw [if_pos (e ▸ h),if_pos h,spans_flip,spans_flip b.f0];by_cases g : a.f0 = b.f0
  (rw [if_pos g,if_pos g.symm]);(rw [if_neg g,if_neg (fun k=>g k.symm),spans_flip])
 (rw [if_neg (fun k=>h (e ▸ k)),if_neg h])
theorem meet_flip2 (a b c d : S31) : meet a b d c = meet a b c d:=by
 unfold meet
 rw [cr_flip c d a,cr_flip c d b,sg_neg',sg_neg',Int.neg_mul_neg,Int.mul_comm (sg (cr a b d)),spans_flip2];by_cases h : sg (cr a b c) = 0 ∧ sg (cr a b d) = 0
 ·have h' : sg (cr a b d) = 0 ∧ sg (cr a b c) = 0:=⟨h.2,h.1⟩
  rw [if_pos h,if_pos h'];by_cases g : a.f0 = b.f0
  (rw [if_pos g,if_pos g]);(rw [if_neg g,if_neg g,spans_flip2])
 ·have h' : ¬ (sg (cr a b d) = 0 ∧ sg (cr a b c) = 0):=fun k=>h ⟨k.2,k.1⟩
  rw [if_neg h,if_neg h']
theorem meet_corner {a b d : S31} (hab : a ≠ b) : 1 ≤ meet a b a d:=by
 have c0 : cr a b a = 0:=by unfold cr;simp
 have c1 : cr a d a = 0:=by unfold cr;simp
 have z : sg 0 = 0:=by decide
 unfold meet
 rw [c0,c1,z]
 have sp : ∀ p q r : Int,1 ≤ spans p q p r:=by
  intro p q r
  unfold spans
  have a1:=mx_c p q;have a2:=mx_c p r;have a3:=mn_c p q;have a4:=mn_c p r;have a5:=mn_c (mx p q) (mx p r);have a6:=mx_c (mn p q) (mn p r);have a7:=mn_c 2 (mn (mx p q) (mx p r) - mx (mn p q) (mn p r) + 1);have a8:=mx_c 0 (mn 2 (mn (mx p q) (mx p r) - mx (mn p q) (mn p r) + 1))
  omega
 split
 ·split
  (exact sp _ _ _);(exact sp _ _ _)
 (rw [if_pos ⟨by simp,by simp⟩];exact Int.le_refl _)
def mv (x y : Int) (p : S31) : S31:=⟨p.f0 + x,p.f1 + y⟩
def mir (p : S31) : S31:=⟨-p.f0,p.f1⟩
theorem mv_inj {x y : Int} {p q : S31} (h : mv x y p = mv x y q) : p = q:=by
 have h0:=congrArg S31.f0 h;have h1:=congrArg S31.f1 h;simp only [mv] at h0 h1;exact S31_ext (by omega) (by omega)
theorem mir_inj {p q : S31} (h : mir p = mir q) : p = q:=by
 have h0:=congrArg S31.f0 h;have h1:=congrArg S31.f1 h;simp only [mir] at h0 h1;exact S31_ext (by omega) (by omega)
theorem cr_mv (x y : Int) (a b c : S31) : cr (mv x y a) (mv x y b) (mv x y c) = cr a b c:=by
 unfold cr mv
 simp only [];rw [show b.f0 + x - (a.f0 + x) = b.f0 - a.f0 by omega,show c.f1 + y - (a.f1 + y) = c.f1 - a.f1 by omega,show b.f1 + y - (a.f1 + y) = b.f1 - a.f1 by omega,show c.f0 + x - (a.f0 + x) = c.f0 - a.f0 by omega]
theorem cr_mir (a b c : S31) : cr (mir a) (mir b) (mir c) = - cr a b c:=by
 unfold cr mir
 simp only [];rw [show -b.f0 - -a.f0 = -(b.f0 - a.f0) by omega,show -c.f0 - -a.f0 = -(c.f0 - a.f0) by omega,Int.neg_mul,Int.mul_neg]
 omega
theorem meet_mv (x y : Int) (a b c d : S31) : meet (mv x y a) (mv x y b) (mv x y c) (mv x y d) = meet a b c d:=by
 unfold meet
 simp only [cr_mv];simp only [mv,spans_mv,Int.add_left_inj]
theorem meet_mir (a b c d : S31) : meet (mir a) (mir b) (mir c) (mir d) = meet a b c d:=by
 unfold meet
 simp only [cr_mir,sg_neg',Int.neg_mul_neg,Int.neg_eq_zero];simp only [mir,spans_neg,Int.neg_inj]
end Go.Proofs.Ytnjikioimompnaa.Pure
