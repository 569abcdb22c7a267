import Derived.Test.YtohcgenhhgipcaaPAx6
import Derived.Test.YtohcgenhhgipcaaPue
namespace Go.Proofs.Ytohcgenhhgipcaa.Pure
open Go.RowKit Go.Proofs.Ytohcgenhhgipcaa Go.Proofs.Ytohcgenhhgipcaa.PA Go.Proofs.YtohcgenhhgipcaaW.PrintWords Go.Proofs.YtohcgenhhgipcaaW.PrintLast Go.Proofs.YtohcgenhhgipcaaW.PrintMore
set_option linter.unusedVariables false
set_option linter.unusedSimpArgs false

/-! The program's plan -/
def down (t : S24) (l : List S64) : Nat → Nat
 | 0=>0
 | n + 1=>if fitsR t (l.take (n + 1)) = 0 then n + 1 else down t l n
theorem down_le (t : S24) (l : List S64) : ∀ n,down t l n ≤ n
 | 0=>Nat.le_refl _
 | n + 1=>by
  unfold down
  split
  (exact Nat.le_refl _);(exact Nat.le_succ_of_le (down_le t l n))
def planR (t : S24) : Nat → List S64 → Option (List (List S64))
 | 0,_=>some []
 | n + 1,l=>if l.length = 0 then some [] else if down t l l.length = 0 then none else (planR t n (l.drop (down t l l.length))).map (l.take (down t l l.length) :: ·)
def trip54 (t : S24) (c : List S64) : S54:=⟨t.f0,packR c⟩
def planV (t : S24) (acc : List S54) : Option (List (List S64)) → List S54 × Int
 | some ps=>(acc ++ ps.map (trip54 t),0)
 | none=>([],9)
theorem plan_l1 (t : S24) (l : List S64) (hf : Few l) (acc : List S54) (ha : acc.length ≤ 1000000) (R : List S54 × Int) : ∀ n : Nat, n ≤ l.length →
  (down t l n ≠ 0 → Ev (fun k=>loading_Plan.l0 k (l.drop (down t l n)) (acc ++ [trip54 t (l.take (down t l n))]) t.f0 t.f1 t.f2 t.f3 t.f4.f0 t.f4.f1 t.f5.f0 t.f5.f1) R) → (down t l n = 0 → R = ([],9)) →
  Ev (fun k=>loading_Plan.l1 k l acc (n : Int) t.f0 t.f1 t.f2 t.f3 t.f4.f0 t.f4.f1 t.f5.f0 t.f5.f1) R:=by
 have hl:=hf.1;intro n
 induction n with
 | zero =>
  intro _ _ h0;rw [h0 rfl];exact Ev.step (f:=fun _=>some ([],9)) (fun k=>by rw [loading_Plan.l1,if_neg (by omega : ¬(((0 : Nat) : Int) > 0)),if_pos (by omega : ((0 : Nat) : Int) = 0)]) (Ev.now _)
 | succ n ih =>
  intro hn h1 h0;have hft:=hf.sub (List.take_sublist (n + 1) l)
  refine Ev.step (f:=fun k=>(loading_fits.f k t.f0 t.f1 t.f2 t.f3 t.f4.f0 t.f4.f1 t.f5.f0 t.f5.f1 (l.take (n + 1))).bind fun x=>if x = 0 then (loading_packed.f k (l.take (n + 1))).bind fun y=>loading_Plan.l0 k (l.drop (n + 1)) (acc ++ [⟨t.f0,y⟩]) t.f0 t.f1 t.f2 t.f3 t.f4.f0 t.f4.f1 t.f5.f0 t.f5.f1 else loading_Plan.l1 k l acc (n : Int) t.f0 t.f1 t.f2 t.f3 t.f4.f0 t.f4.f1 t.f5.f0 t.f5.f1) (fun k=>?_) (Ev.bind (fits_f t _ hft) ?_)
  (rw [loading_Plan.l1,if_pos (by omega : ((n + 1 : Nat) : Int) > 0),if_pos (by omega : (0 : Int) ≤ ((n + 1 : Nat) : Int)),if_pos (by omega : ((n + 1 : Nat) : Int) ≤ (l.length : Int)),Int.toNat_natCast,if_neg (by omega : ¬(((n + 1 : Nat) : Int) = 0)),wrap_small (by omega : -1000000000000 ≤ ((n + 1 : Nat) : Int) - 1 ∧ ((n + 1 : Nat) : Int) - 1 ≤ 1000000000000),show ((n + 1 : Nat) : Int) - 1 = (n : Int) from by omega];simp only [if_pos (by omega : acc.length < 3518437208883)])
  ·unfold down at h1 h0
   by_cases h : fitsR t (l.take (n + 1)) = 0
   (rw [if_pos h] at h1;exact Ev.congr (fun k=>by rw [if_pos h]) (Ev.bind (packed_f _ hft) (h1 (by omega))));(rw [if_neg h] at h1 h0;exact Ev.congr (fun k=>by rw [if_neg h]) (ih (by omega) h1 h0))
theorem plan_l0 (t : S24) : ∀ (n : Nat) (l : List S64) (acc : List S54), Few l → l.length ≤ n → acc.length + n ≤ 1000000 →
  Ev (fun k=>loading_Plan.l0 k l acc t.f0 t.f1 t.f2 t.f3 t.f4.f0 t.f4.f1 t.f5.f0 t.f5.f1) (planV t acc (planR t n l)):=by
 intro n
 induction n with
 | zero =>
  intro l acc hf hn ha
  unfold planR
  rw [show planV t acc (some []) = (acc,0) from by unfold planV;simp];exact Ev.step (f:=fun _=>some (acc,0)) (fun k=>by rw [loading_Plan.l0,if_neg (by omega : ¬((l.length : Int) > 0))]) (Ev.now _)
 | succ n ih =>
  intro l acc hf hn ha
  unfold planR
  by_cases h : l.length = 0
  (rw [if_pos h];rw [show planV t acc (some []) = (acc,0) from by unfold planV;simp];exact Ev.step (f:=fun _=>some (acc,0)) (fun k=>by rw [loading_Plan.l0,if_neg (by omega : ¬((l.length : Int) > 0))]) (Ev.now _))
  ·rw [if_neg h]
   refine Ev.step (f:=fun k=>loading_Plan.l1 k l acc (l.length : Int) t.f0 t.f1 t.f2 t.f3 t.f4.f0 t.f4.f1 t.f5.f0 t.f5.f1) (fun k=>by rw [loading_Plan.l0,if_pos (by omega : (l.length : Int) > 0)]) ?_
   refine plan_l1 t l hf acc (by omega) _ l.length (Nat.le_refl _) (fun h1=>?_) (fun h0=>by rw [if_pos h0];rfl)
   rw [if_neg h1]
   have:=down_le t l l.length
   have hq:=ih (l.drop (down t l l.length)) (acc ++ [trip54 t (l.take (down t l l.length))]) (hf.sub (List.drop_sublist _ _)) (by rw [List.length_drop];omega) (by simp;omega)
   refine cast ?_ hq
   congr 1
   cases planR t n (l.drop (down t l l.length)) with
   | none=>rfl
   | some ps=>unfold planV;simp
def planP (t : S24) (l : List S64) : List S54 × Int:=if chkR t l = 0 then planV t [] (planR t l.length l) else ([],chkR t l)
theorem Plan_f (t : S24) (l : List S64) (ht : t.f0.size ≤ 9223372036854775807) (hs : ∀ y ∈ l,y.f0.size ≤ 9223372036854775807) : Ev (fun k=>loading_Plan.f k t.f0 t.f1 t.f2 t.f3 t.f4.f0 t.f4.f1 t.f5.f0 t.f5.f1 l) (planP t l):=by
 unfold loading_Plan.f planP
 rw [check_f t l ht hs];by_cases h : chkR t l = 0
 (rw [if_pos h];have hg:=(good_iff t l).1 h;exact Ev.congr (fun k=>by rw [Option.bind_some,if_pos h]) (plan_l0 t l.length l [] hg.few (Nat.le_refl _) (by have:=hg.len;simp;omega)));(rw [if_neg h];exact Ev.congr (fun k=>by rw [Option.bind_some,if_neg h]) (Ev.now _))
end Go.Proofs.Ytohcgenhhgipcaa.Pure
