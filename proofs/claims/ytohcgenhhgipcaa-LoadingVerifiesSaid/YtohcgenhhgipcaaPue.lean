import Derived.Test.YtohcgenhhgipcaaPAx13
import Derived.Test.YtohcgenhhgipcaaPub
namespace Go.Proofs.Ytohcgenhhgipcaa.Pure
open Go.RowKit Go.Proofs.Ytohcgenhhgipcaa Go.Proofs.Ytohcgenhhgipcaa.PA Go.Proofs.YtohcgenhhgipcaaW.PrintWords Go.Proofs.YtohcgenhhgipcaaW.PrintLast Go.Proofs.YtohcgenhhgipcaaW.PrintMore
set_option linter.unusedVariables false
set_option linter.unusedSimpArgs false

/-! What fits: the program's and the reference's -/
theorem drop_cons65 (l : List S65) (i : Nat) (h : i < l.length) : l.drop i = rd_T65 l (i : Int) :: l.drop (i + 1):=by
 rw [List.drop_eq_getElem_cons h];unfold rd_T65;simp [h]
theorem drop_cons47 (l : List S47) (i : Nat) (h : i < l.length) : l.drop i = rd_T47 l (i : Int) :: l.drop (i + 1):=by
 rw [List.drop_eq_getElem_cons h];unfold rd_T47;simp [h]
/-! the reference -/
theorem bear_l0 (t : S24) (l : List S61) (hl : l.length ≤ 1000000) : ∀ (d j : Nat), l.length - j = d → j ≤ l.length →
  Ev (fun k=>gangsawref54_bear.l0 k l (dist t) (j : Int) t.f0 t.f1 t.f2 t.f3 t.f4.f0 t.f4.f1 t.f5.f0 t.f5.f1) (bearsB t (l.drop j)):=by
 have st : ∀ (j : Nat) (R : Bool), j ≤ l.length → Ev (fun k => gangsawref54_bear.l0 k l (dist t) ((j + 1 : Nat) : Int) t.f0 t.f1 t.f2 t.f3 t.f4.f0 t.f4.f1 t.f5.f0 t.f5.f1) R →
   Ev (fun k=>gangsawref54_bear.l0 k l (dist t) (j : Int) t.f0 t.f1 t.f2 t.f3 t.f4.f0 t.f4.f1 t.f5.f0 t.f5.f1) (stB t (l.drop j) && R):=by
  intro j R hj hn
  refine Ev.step (f:=fun k=>(gangsawref54_moments.f k t.f0 t.f1 t.f2 t.f3 t.f4.f0 t.f4.f1 t.f5.f0 t.f5.f1 (l.drop j)).bind fun m=>if m.1 < 0 then some false else if m.1 > wrap64 (dist t * t.f4.f0) then some false else if m.2 < 0 then some false else if m.2 > wrap64 (dist t * t.f4.f1) then some false else gangsawref54_bear.l0 k l (dist t) ((j + 1 : Nat) : Int) t.f0 t.f1 t.f2 t.f3 t.f4.f0 t.f4.f1 t.f5.f0 t.f5.f1) (fun k=>?_) ?_
  (rw [gangsawref54_bear.l0,if_pos (by omega : (j : Int) ≤ (l.length : Int)),if_pos (by omega : (0 : Int) ≤ j),wsucc (by omega),Int.toNat_natCast])
  ·refine Ev.bind (moments_f t (l.drop j) (by rw [List.length_drop];omega)) ?_
   unfold stB axO
   by_cases a : (momF t (l.drop j)).1 < 0
   (rw [show ((!(decide ((momF t (l.drop j)).1 < 0) || decide (wrap64 (dist t * t.f4.f0) < (momF t (l.drop j)).1)) && !(decide ((momF t (l.drop j)).2 < 0) || decide (wrap64 (dist t * t.f4.f1) < (momF t (l.drop j)).2))) && R) = false from by simp [a]];exact Ev.congr (fun k=>by rw [if_pos a]) (Ev.now _))
   ·by_cases b : (momF t (l.drop j)).1 > wrap64 (dist t * t.f4.f0)
    (rw [show ((!(decide ((momF t (l.drop j)).1 < 0) || decide (wrap64 (dist t * t.f4.f0) < (momF t (l.drop j)).1)) && !(decide ((momF t (l.drop j)).2 < 0) || decide (wrap64 (dist t * t.f4.f1) < (momF t (l.drop j)).2))) && R) = false from by simp [show wrap64 (dist t * t.f4.f0) < (momF t (l.drop j)).1 from b]];exact Ev.congr (fun k=>by rw [if_neg a,if_pos b]) (Ev.now _))
    ·by_cases c : (momF t (l.drop j)).2 < 0
     (rw [show ((!(decide ((momF t (l.drop j)).1 < 0) || decide (wrap64 (dist t * t.f4.f0) < (momF t (l.drop j)).1)) && !(decide ((momF t (l.drop j)).2 < 0) || decide (wrap64 (dist t * t.f4.f1) < (momF t (l.drop j)).2))) && R) = false from by simp [c]];exact Ev.congr (fun k=>by rw [if_neg a,if_neg b,if_pos c]) (Ev.now _))
     ·by_cases d : (momF t (l.drop j)).2 > wrap64 (dist t * t.f4.f1)
      (rw [show ((!(decide ((momF t (l.drop j)).1 < 0) || decide (wrap64 (dist t * t.f4.f0) < (momF t (l.drop j)).1)) && !(decide ((momF t (l.drop j)).2 < 0) || decide (wrap64 (dist t * t.f4.f1) < (momF t (l.drop j)).2))) && R) = false from by simp [show wrap64 (dist t * t.f4.f1) < (momF t (l.drop j)).2 from d]];exact Ev.congr (fun k=>by rw [if_neg a,if_neg b,if_neg c,if_pos d]) (Ev.now _));(rw [show ((!(decide ((momF t (l.drop j)).1 < 0) || decide (wrap64 (dist t * t.f4.f0) < (momF t (l.drop j)).1)) && !(decide ((momF t (l.drop j)).2 < 0) || decide (wrap64 (dist t * t.f4.f1) < (momF t (l.drop j)).2))) && R) = R from by simp [a,show ¬(wrap64 (dist t * t.f4.f0) < (momF t (l.drop j)).1) from b,c,show ¬(wrap64 (dist t * t.f4.f1) < (momF t (l.drop j)).2) from d]];exact Ev.congr (fun k=>by rw [if_neg a,if_neg b,if_neg c,if_neg d]) hn)
 intro d
 induction d with
 | zero =>
  intro j hd hj;have h:=st j true hj (Ev.step (f:=fun _=>some true) (fun k=>by rw [gangsawref54_bear.l0,if_neg (by omega : ¬(((j + 1 : Nat) : Int) ≤ (l.length : Int)))]) (Ev.now _));rw [List.drop_of_length_le (by omega),Bool.and_true] at h;rw [List.drop_of_length_le (by omega)];exact h
 | succ d ih =>
  intro j hd hj
  have hlt : j < l.length:=by omega
  have h:=st j _ hj (ih (j + 1) (by omega) (by omega));rw [List.drop_eq_getElem_cons hlt] at h ⊢;exact h
theorem bear_f (t : S24) (l : List S61) (hl : l.length ≤ 1000000) : Ev (fun k=>gangsawref54_bear.f k t.f0 t.f1 t.f2 t.f3 t.f4.f0 t.f4.f1 t.f5.f0 t.f5.f1 l) (bearsB t l):=by
 unfold gangsawref54_bear.f
 exact bear_l0 t l hl _ 0 rfl (by omega)
end Go.Proofs.Ytohcgenhhgipcaa.Pure
