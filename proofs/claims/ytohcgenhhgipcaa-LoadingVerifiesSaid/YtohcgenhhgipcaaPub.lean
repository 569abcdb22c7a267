import Derived.Test.YtohcgenhhgipcaaGj
import Derived.Test.YtohcgenhhgipcaaPAx10
import Derived.Test.YtohcgenhhgipcaaPAx12
import Derived.Test.YtohcgenhhgipcaaPAx19
namespace Go.Proofs.Ytohcgenhhgipcaa.Pure
open Go.RowKit Go.Proofs.Ytohcgenhhgipcaa Go.Proofs.Ytohcgenhhgipcaa.PA Go.Proofs.YtohcgenhhgipcaaW.PrintWords Go.Proofs.YtohcgenhhgipcaaW.PrintLast Go.Proofs.YtohcgenhhgipcaaW.PrintMore
set_option linter.unusedVariables false
set_option linter.unusedSimpArgs false

/-! The reference's Moments is the program's -/
theorem in_f (a b c : Int) : gangsawref54_in.f a b c = some (inB a b c):=by
 unfold gangsawref54_in.f inB
 by_cases h : b ≤ a
 ·rw [if_pos h];simp [h]
 ·rw [if_neg h];simp [h]
theorem truck_eq (t : S24) : rtR t 2 = trkB t:=by
 unfold rtR rtB axI trkB axB inB placeB
 rw [Bool.eq_iff_iff]
 simp
 omega
def goodL (y : S61) : Bool:=inB y.f2 1 30000 && inB y.f3 1 1000000000
theorem onBed_f (t : S24) (x : S61) (ht : trkB t = true) (hx : goodL x = true) : gangsawref54_onBed.f t.f0 t.f1 t.f2 t.f3 t.f4.f0 t.f4.f1 t.f5.f0 t.f5.f1 x.f0 x.f1 x.f2 x.f3 = some (onB t x):=by
 have h1 : 1 ≤ t.f1 ∧ t.f1 ≤ 30000:=by
  unfold trkB at ht;simp at ht;omega
 have h2 : 1 ≤ x.f2 ∧ x.f2 ≤ 30000:=by
  unfold goodL inB at hx;simp at hx;omega
 unfold gangsawref54_onBed.f onB
 by_cases a : x.f1 ≥ 0
 ·rw [if_pos a];by_cases b : x.f1 ≤ t.f1
  ·rw [if_pos b]
   congr 1
   rw [Bool.eq_iff_iff]
   simp
   unfold wrap64
   omega
  ·rw [if_neg b]
   congr 1
   rw [eq_comm,Bool.and_eq_false_iff]
   right
   simp
   unfold wrap64
   omega
 ·rw [if_neg a]
  congr 1
  rw [eq_comm,Bool.and_eq_false_iff]
  left
  simp
  omega
theorem moments_l0 (t : S24) (l : List S61) (hl : l.length ≤ 1000000) : ∀ (d j : Nat) (m : Int × Int), l.length - j = d → j ≤ l.length →
  Ev (fun k=>gangsawref54_moments.l0 k l m.1 m.2 (j : Int) t.f0 t.f1 t.f2 t.f3 t.f4.f0 t.f4.f1 t.f5.f0 t.f5.f1) ((l.drop j).foldl (stp t) m):=by
 intro d
 induction d with
 | zero =>
  intro j m hd hj
  refine Ev.step (f:=fun _=>some m) (fun k=>?_) ?_
  (rw [gangsawref54_moments.l0,if_neg (by omega : ¬((j : Int) < (l.length : Int)))]);(rw [List.drop_of_length_le (by omega)];exact Ev.now _)
 | succ d ih =>
  intro j m hd hj
  have hlt : j < l.length:=by omega
  have hr : rd_T61 l (j : Int) = l[j] := by unfold rd_T61;simp [hlt]
  refine Ev.step (f:=fun k=>gangsawref54_moments.l0 k l (stp t m l[j]).1 (stp t m l[j]).2 ((j + 1 : Nat) : Int) t.f0 t.f1 t.f2 t.f3 t.f4.f0 t.f4.f1 t.f5.f0 t.f5.f1) (fun k=>?_) ?_
  (rw [gangsawref54_moments.l0,if_pos (by omega : (j : Int) < (l.length : Int)),if_pos (by omega : (0 : Int) ≤ j),hr,wsucc (by omega)];rfl);(rw [List.drop_eq_getElem_cons hlt,List.foldl_cons];exact ih (j + 1) (stp t m l[j]) (by omega) (by omega))
theorem moments_f (t : S24) (l : List S61) (hl : l.length ≤ 1000000) : Ev (fun k=>gangsawref54_moments.f k t.f0 t.f1 t.f2 t.f3 t.f4.f0 t.f4.f1 t.f5.f0 t.f5.f1 l) (momF t l) :=
 moments_l0 t l hl _ 0 (wrap64 (dist t * t.f5.f0),wrap64 (dist t * t.f5.f1)) rfl (by omega)
end Go.Proofs.Ytohcgenhhgipcaa.Pure
