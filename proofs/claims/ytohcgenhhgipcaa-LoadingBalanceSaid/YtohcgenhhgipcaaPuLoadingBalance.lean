import Derived.Test.YtohcgenhhgipcaaOp
import Derived.Test.YtohcgenhhgipcaaPAx25
import Derived.Test.YtohcgenhhgipcaaPuw
namespace Go.Proofs.Ytohcgenhhgipcaa.Pure
open Go.RowKit Go.Proofs.Ytohcgenhhgipcaa Go.Proofs.Ytohcgenhhgipcaa.PA Go.Proofs.YtohcgenhhgipcaaW.PrintWords Go.Proofs.YtohcgenhhgipcaaW.PrintLast Go.Proofs.YtohcgenhhgipcaaW.PrintMore
set_option linter.unusedVariables false
set_option linter.unusedSimpArgs false
/-! The balance: all numbers up to multiples of 2^64 -/
def eqm (a b : Int) : Prop := ∃ k : Int,a = b + k * 18446744073709551616
theorem eqm.refl (a : Int) : eqm a a:=⟨0,by omega⟩
theorem eqm.symm {a b : Int} (h : eqm a b) : eqm b a:=by obtain ⟨k,hk⟩ := h;exact ⟨-k,by rw [hk,Int.neg_mul];omega⟩
theorem eqm.trans {a b c : Int} (h : eqm a b) (g : eqm b c) : eqm a c:=by obtain ⟨k,hk⟩ := h;obtain ⟨m,hm⟩ := g;exact ⟨k + m,by rw [hk,hm,Int.add_mul];omega⟩
theorem eqm.add {a b c d : Int} (h : eqm a b) (g : eqm c d) : eqm (a + c) (b + d):=by obtain ⟨k,hk⟩ := h;obtain ⟨m,hm⟩ := g;exact ⟨k + m,by rw [hk,hm,Int.add_mul];omega⟩
theorem eqm.sub {a b c d : Int} (h : eqm a b) (g : eqm c d) : eqm (a - c) (b - d):=by obtain ⟨k,hk⟩ := h;obtain ⟨m,hm⟩ := g;exact ⟨k - m,by rw [hk,hm,Int.sub_mul];omega⟩
theorem eqm.mull {a b : Int} (c : Int) (h : eqm a b) : eqm (c * a) (c * b):=by obtain ⟨k,hk⟩ := h;exact ⟨c * k,by rw [hk,Int.mul_add,Int.mul_assoc]⟩
theorem eqm.mulr {a b : Int} (c : Int) (h : eqm a b) : eqm (a * c) (b * c):=by rw [Int.mul_comm a,Int.mul_comm b];exact h.mull c
theorem eqm.mul {a b c d : Int} (h : eqm a b) (g : eqm c d) : eqm (a * c) (b * d):=(h.mulr c).trans (g.mull b)
theorem eqm.wrap (a : Int) : eqm (wrap64 a) a:=⟨-((a + 9223372036854775808) / 18446744073709551616),by unfold wrap64;rw [Int.neg_mul];omega⟩
theorem wrap_eq {a b : Int} (h : eqm a b) : wrap64 a = wrap64 b:=by obtain ⟨k,rfl⟩ := h;unfold wrap64;rw [show b + k * 18446744073709551616 + 9223372036854775808 = b + 9223372036854775808 + k * 18446744073709551616 from by omega,Int.add_mul_emod_self_right]
def sumM (l : List S61) : Int:=l.foldr (fun y s=>y.f3 + s) 0
def gap (t : S24) : Int:=2 * (t.f3 - t.f2)
theorem dist_m (t : S24) : eqm (dist t) (gap t):=(eqm.wrap _).trans ((eqm.wrap _).mull 2)
theorem stp_m (t : S24) (m : Int × Int) (x : S61) : eqm ((stp t m x).1 + (stp t m x).2) (m.1 + m.2 + gap t * x.f3):=by
 have c : eqm (wrap64 (wrap64 (2 * x.f1) + x.f2)) (2 * x.f1 + x.f2):=(eqm.wrap _).trans ((eqm.wrap _).add (eqm.refl _));have a : eqm (stp t m x).1 (m.1 + x.f3 * (2 * t.f3 - (2 * x.f1 + x.f2))):=(eqm.wrap _).trans ((eqm.refl _).add ((eqm.wrap _).trans (((eqm.wrap _).trans ((eqm.wrap _).sub c)).mull x.f3)));have b : eqm (stp t m x).2 (m.2 + x.f3 * (2 * x.f1 + x.f2 - 2 * t.f2)):=(eqm.wrap _).trans ((eqm.refl _).add ((eqm.wrap _).trans (((eqm.wrap _).trans (c.sub (eqm.wrap _))).mull x.f3)))
 refine (a.add b).trans ?_
 have e : x.f3 * (2 * t.f3 - (2 * x.f1 + x.f2)) + x.f3 * (2 * x.f1 + x.f2 - 2 * t.f2) = gap t * x.f3:=by
  rw [← Int.mul_add,Int.mul_comm]
  congr 1
  unfold gap
  omega
 rw [← e];exact ⟨0,by omega⟩
theorem fold_m (t : S24) : ∀ (l : List S61) (m : Int × Int),eqm ((l.foldl (stp t) m).1 + (l.foldl (stp t) m).2) (m.1 + m.2 + gap t * sumM l)
 | [],m=>by rw [show sumM [] = 0 from rfl,Int.mul_zero,Int.add_zero];exact eqm.refl _
 | x :: r,m=>by
  rw [List.foldl_cons]
  refine (fold_m t r (stp t m x)).trans ?_
  rw [show sumM (x :: r) = x.f3 + sumM r from rfl,Int.mul_add,← Int.add_assoc];exact (stp_m t m x).add (eqm.refl _)
theorem mom_m (t : S24) (l : List S61) : eqm ((momF t l).1 + (momF t l).2) (gap t * (t.f5.f0 + t.f5.f1 + sumM l)):=by
 refine (fold_m t l _).trans ?_
 rw [Int.mul_add,Int.mul_add]
 refine eqm.add ?_ (eqm.refl _)
 exact ((eqm.wrap _).trans ((dist_m t).mulr _)).add ((eqm.wrap _).trans ((dist_m t).mulr _))
theorem sum_drop (l : List S61) (i : Nat) (h : i < l.length) : sumM (l.drop i) = l[i].f3 + sumM (l.drop (i + 1)):=by rw [List.drop_eq_getElem_cons h];rfl
theorem momR_cases (t : S24) (x : ByteArray) (l : List S61) (i : Nat) (hi : i ≤ l.length) : (∃ e : Int,momR t ⟨x,l⟩ (i : Int) = (0,0,e) ∧ e ≠ 0) ∨ momR t ⟨x,l⟩ (i : Int) = ((momF t (l.drop i)).1,(momF t (l.drop i)).2,0):=by
 unfold momR
 dsimp only
 by_cases h : plainR t (l.map crg) = 0
 ·rw [if_pos h];by_cases h1 : (l.any fun y=>!onB t y) = true
  (rw [if_pos h1];exact .inl ⟨12,rfl,by decide⟩);(rw [if_neg h1,if_neg (by omega : ¬((i : Int) < 0)),if_neg (by omega : ¬((l.length : Int) < (i : Int))),Int.toNat_natCast];exact .inr rfl)
 (rw [if_neg h];exact .inl ⟨_,rfl,h⟩)
theorem bal_step (s : ByteArray) (a1 a2 a3 a4 a5 a6 a7 : Int) (x : ByteArray) (l : List S61) (hM : ∀ n, loading_Moments.f s a1 a2 a3 a4 a5 a6 a7 x l n = some (momR (mk24 s a1 a2 a3 a4 a5 a6 a7) ⟨x, l⟩ n))
  (i : Nat) (ms : Int) (hi : i ≤ l.length) (hm : eqm ms (a6 + a7 + sumM (l.drop (i + 1)))) (next : ∀ ms',eqm ms' (a6 + a7 + sumM (l.drop i)) → Ev (fun k=>gangsawlaw54_LoadingBalance.l0 k ms' (wrap64 ((i : Int) - 1)) s a1 a2 a3 a4 a5 a6 a7 x l) true) :
  Ev (fun k=>gangsawlaw54_LoadingBalance.l0 k ms (i : Int) s a1 a2 a3 a4 a5 a6 a7 x l) true:=by
 have hd:=dist_m (mk24 s a1 a2 a3 a4 a5 a6 a7);have hk:=mom_m (mk24 s a1 a2 a3 a4 a5 a6 a7) (l.drop i)
 rcases momR_cases (mk24 s a1 a2 a3 a4 a5 a6 a7) x l i hi with ⟨e,he,hne⟩|he
 ·refine Ev.step (f:=fun _=>some true) (fun k=>?_) (Ev.now _)
  rw [gangsawlaw54_LoadingBalance.l0,if_pos (by omega : (i : Int) ≥ 0),hM,he,Option.bind_some,if_neg hne,if_pos rfl];rfl
 ·by_cases hlt : i < l.length
  ·have hr : rd_T61 l (i : Int) = l[i] := by unfold rd_T61;simp [hlt]
   have hms : eqm (wrap64 (ms + l[i].f3)) (a6 + a7 + sumM (l.drop i)):=by
    refine (eqm.wrap _).trans ?_
    rw [sum_drop l i hlt,show a6 + a7 + (l[i].f3 + sumM (l.drop (i + 1))) = a6 + a7 + sumM (l.drop (i + 1)) + l[i].f3 from by omega];exact hm.add (eqm.refl _)
   refine Ev.step (f:=fun k=>gangsawlaw54_LoadingBalance.l0 k (wrap64 (ms + l[i].f3)) (wrap64 ((i : Int) - 1)) s a1 a2 a3 a4 a5 a6 a7 x l) (fun k=>?_) (next _ hms)
   rw [gangsawlaw54_LoadingBalance.l0,if_pos (by omega : (i : Int) ≥ 0),hM,he,Option.bind_some,if_pos rfl,if_pos (by omega : (i : Int) < (l.length : Int)),if_pos (by omega : (0 : Int) ≤ i),hr];exact if_pos (wrap_eq (hk.trans (hd.symm.mul hms.symm)))
  ·have hd0 : l.drop (i + 1) = l.drop i:=by rw [List.drop_of_length_le (by omega),List.drop_of_length_le (by omega)]
   rw [hd0] at hm
   refine Ev.step (f:=fun k=>gangsawlaw54_LoadingBalance.l0 k ms (wrap64 ((i : Int) - 1)) s a1 a2 a3 a4 a5 a6 a7 x l) (fun k=>?_) (next _ hm)
   rw [gangsawlaw54_LoadingBalance.l0,if_pos (by omega : (i : Int) ≥ 0),hM,he,Option.bind_some,if_pos rfl,if_neg (by omega : ¬((i : Int) < (l.length : Int)))];exact if_pos (wrap_eq (hk.trans (hd.symm.mul hm.symm)))
theorem bal_l0 (s : ByteArray) (a1 a2 a3 a4 a5 a6 a7 : Int) (x : ByteArray) (l : List S61) (hl : l.length ≤ 64) (hM : ∀ n, loading_Moments.f s a1 a2 a3 a4 a5 a6 a7 x l n = some (momR (mk24 s a1 a2 a3 a4 a5 a6 a7) ⟨x, l⟩ n)) :
  ∀ (i : Nat) (ms : Int),i ≤ l.length → eqm ms (a6 + a7 + sumM (l.drop (i + 1))) → Ev (fun k=>gangsawlaw54_LoadingBalance.l0 k ms (i : Int) s a1 a2 a3 a4 a5 a6 a7 x l) true:=by
 intro i
 induction i with
 | zero =>
  intro ms hi hm
  refine bal_step s a1 a2 a3 a4 a5 a6 a7 x l hM 0 ms hi hm (fun ms' _=>?_)
  exact Ev.step (f:=fun _=>some true) (fun k=>by rw [gangsawlaw54_LoadingBalance.l0,if_neg (by unfold wrap64;omega : ¬(wrap64 (((0 : Nat) : Int) - 1) ≥ 0))]) (Ev.now _)
 | succ i ih =>
  intro ms hi hm
  refine bal_step s a1 a2 a3 a4 a5 a6 a7 x l hM (i + 1) ms hi hm (fun ms' h=>?_)
  rw [show wrap64 (((i + 1 : Nat) : Int) - 1) = (i : Int) from by unfold wrap64;omega];exact ih ms' (by omega) h
theorem LoadingBalance (s : ByteArray) (a1 a2 a3 a4 a5 a6 a7 : Int) (x : ByteArray) (l : List S61) (ht : TruckOk s a1 a2 a3 a4 a5 a6 a7) (hx : x.size ≤ maxLen) (hl : l.length ≤ maxLen) (hp : ∀ p ∈ l, LoadOk p) :
  ∃ k,gangsawlaw54_LoadingBalance.f k s a1 a2 a3 a4 a5 a6 a7 x l = some true:=by
 have hs : s.size ≤ 9223372036854775807:=ht.1
 have hy : ∀ y ∈ l,y.f0.size ≤ 9223372036854775807:=fun y hy=>(hp y hy).1
 refine Ev.rounds (?_ : Ev (fun k=>gangsawlaw54_LoadingBalance.f k s a1 a2 a3 a4 a5 a6 a7 x l) true)
 unfold gangsawlaw54_LoadingBalance.f
 refine Ev.bind awake_f ?_
 by_cases h : (l.length : Int) > 64
 (exact Ev.congr (fun k=>by rw [if_pos rfl,if_pos h]) (Ev.now _))
 ·refine Ev.congr (fun k=>by rw [if_pos rfl,if_neg h]) ?_
  refine bal_l0 s a1 a2 a3 a4 a5 a6 a7 x l (by omega) (fun n=>?_) l.length _ (Nat.le_refl _) ?_
  ·unfold loading_Moments.f
   rw [if_pos ⟨hs,List.all_eq_true.2 fun y h=>decide_eq_true (hy y h),by omega⟩]
  (rw [List.drop_of_length_le (by omega),show sumM [] = 0 from rfl,Int.add_zero];exact eqm.wrap _)
end Go.Proofs.Ytohcgenhhgipcaa.Pure
