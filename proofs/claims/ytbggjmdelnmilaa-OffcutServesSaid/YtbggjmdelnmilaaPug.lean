import Derived.Test.YtbggjmdelnmilaaPAx15
import Derived.Test.YtbggjmdelnmilaaPAx8
import Derived.Test.YtbggjmdelnmilaaPub
namespace Go.Proofs.Ytbggjmdelnmilaa.Pure
open Go.RowKit Go.Proofs.Ytbggjmdelnmilaa Go.Proofs.Ytbggjmdelnmilaa.PA Go.Proofs.YtbggjmdelnmilaaW.PrintWords Go.Proofs.YtbggjmdelnmilaaW.PrintLast Go.Proofs.YtbggjmdelnmilaaW.PrintMore
set_option linter.unusedVariables false
set_option linter.unusedSimpArgs false
theorem small_l0 (l : List S39) (hl : l.length ≤ 1000000) : ∀ d i : Nat,i + d = l.length → ∃ b,Ev (fun k=>gangsawref31_Small.l0 k l (i : Int)) b ∧ (b = true → ∀ x ∈ l.drop i,St x):=by
 intro d
 induction d with
 | zero =>
  intro i hi
  refine ⟨true,Ev.step (f:=fun _=>some true) (fun k=>?_) (Ev.now _),fun _ x hx=>by rw [List.drop_of_length_le (by omega)] at hx;cases hx⟩
  simp only [gangsawref31_Small.l0];rw [if_neg (by omega)]
 | succ d ih =>
  intro i hi
  have hlt : i < l.length:=by omega
  obtain ⟨b,hb,hbb⟩ := ih (i + 1) (by omega);by_cases h : St l[i]
  ·refine ⟨b,Ev.step (fun k=>?_) hb,fun g x hx=>?_⟩
   ·unfold St at h
    simp only [gangsawref31_Small.l0];rw [if_pos (by omega),if_pos (by omega),rd39 hlt,if_neg (by omega),if_neg (by omega),if_neg (by omega),w1 (by omega)]
   ·rw [drop_at hlt,List.mem_cons] at hx
    rcases hx with rfl|hx
    (exact h);(exact hbb g x hx)
  ·refine ⟨false,Ev.step (f:=fun _=>some false) (fun k=>?_) (Ev.now _),fun g=>by cases g⟩
   unfold St at h
   simp only [gangsawref31_Small.l0];rw [if_pos (by omega),if_pos (by omega),rd39 hlt];by_cases h0 : (l[i].f0.size : Int) > 60
   (rw [if_pos h0])
   ·rw [if_neg h0];by_cases h3 : (l[i].f3.size : Int) > 60
    (rw [if_pos h3]);(rw [if_neg h3,if_pos (by omega)])
theorem small_f (l : List S39) (n : Nat) (hn : n ≤ 1000000) : ∃ b,Ev (fun k=>gangsawref31_Small.f k l (n : Int)) b ∧ (b = true → l.length ≤ n ∧ ∀ x ∈ l,St x):=by
 unfold gangsawref31_Small.f
 by_cases h : (l.length : Int) > n
 (exact ⟨false,Ev.congr (fun k=>if_pos h) (Ev.now _),fun g=>by cases g⟩);(obtain ⟨b,hb,hbb⟩ := small_l0 l (by omega) l.length 0 (by omega);exact ⟨b,Ev.congr (fun k=>if_neg h) hb,fun g=>⟨by omega,fun x hx=>hbb g x (by rw [List.drop_zero];exact hx)⟩⟩)
theorem few_l0 (l : List S26) (hl : l.length ≤ 1000000) : ∀ d i : Nat,i + d = l.length → ∃ b,Ev (fun k=>gangsawref31_Few.l0 k l (i : Int)) b ∧ (b = true → ∀ x ∈ l.drop i,Sw x):=by
 intro d
 induction d with
 | zero =>
  intro i hi
  refine ⟨true,Ev.step (f:=fun _=>some true) (fun k=>?_) (Ev.now _),fun _ x hx=>by rw [List.drop_of_length_le (by omega)] at hx;cases hx⟩
  simp only [gangsawref31_Few.l0];rw [if_neg (by omega)]
 | succ d ih =>
  intro i hi
  have hlt : i < l.length:=by omega
  obtain ⟨b,hb,hbb⟩ := ih (i + 1) (by omega);by_cases h : Sw l[i]
  ·refine ⟨b,Ev.step (fun k=>?_) hb,fun g x hx=>?_⟩
   ·unfold Sw at h
    simp only [gangsawref31_Few.l0];rw [if_pos (by omega),if_pos (by omega),rd26 hlt,if_neg (by omega),if_neg (by omega),w1 (by omega)]
   ·rw [drop_at hlt,List.mem_cons] at hx
    rcases hx with rfl|hx
    (exact h);(exact hbb g x hx)
  ·refine ⟨false,Ev.step (f:=fun _=>some false) (fun k=>?_) (Ev.now _),fun g=>by cases g⟩
   unfold Sw at h
   simp only [gangsawref31_Few.l0];rw [if_pos (by omega),if_pos (by omega),rd26 hlt];by_cases h0 : (l[i].f0.size : Int) > 60
   (rw [if_pos h0]);(rw [if_neg h0,if_pos (by omega)])
theorem few_f (l : List S26) (n : Nat) (hn : n ≤ 1000000) : ∃ b,Ev (fun k=>gangsawref31_Few.f k l (n : Int)) b ∧ (b = true → l.length ≤ n ∧ ∀ x ∈ l,Sw x):=by
 unfold gangsawref31_Few.f
 by_cases h : (l.length : Int) > n
 (exact ⟨false,Ev.congr (fun k=>if_pos h) (Ev.now _),fun g=>by cases g⟩);(obtain ⟨b,hb,hbb⟩ := few_l0 l (by omega) l.length 0 (by omega);exact ⟨b,Ev.congr (fun k=>if_neg h) hb,fun g=>⟨by omega,fun x hx=>hbb g x (by rw [List.drop_zero];exact hx)⟩⟩)
theorem same_l0 (l : List S39) (hl : l.length ≤ 1000000) : ∀ d i : Nat,i + d = l.length → Ev (fun k=>gangsawref31_Same.l0 k l l (i : Int)) true:=by
 intro d
 induction d with
 | zero =>
  intro i hi
  refine Ev.step (f:=fun _=>some true) (fun k=>?_) (Ev.now _)
  simp only [gangsawref31_Same.l0];rw [if_neg (by omega)]
 | succ d ih =>
  intro i hi
  refine Ev.step (fun k=>?_) (ih (i + 1) (by omega))
  simp only [gangsawref31_Same.l0];rw [if_pos (by omega),if_pos (by omega),if_pos (by omega),if_neg (by simp),w1 (by omega)]
theorem same_f (l : List S39) (hl : l.length ≤ 1000000) : Ev (fun k=>gangsawref31_Same.f k l l) true:=by
 unfold gangsawref31_Same.f
 exact Ev.congr (fun k=>if_pos rfl) (same_l0 l hl l.length 0 (by omega))
theorem Sw.strs {w : S26} (h : Sw w) : strsWB [cv w] = true:=by
 unfold Sw at h
 unfold strsWB
 rw [List.all_eq_true];intro x hx;rw [List.mem_singleton] at hx;subst hx;simp only [Bool.and_eq_true,decide_eq_true_eq]
 unfold bigN
 omega
end Go.Proofs.Ytbggjmdelnmilaa.Pure
