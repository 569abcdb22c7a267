import Derived.Test.YtbggjmdelnmilaaOp
import Derived.Test.YtbggjmdelnmilaaPAx72
import Derived.Test.YtbggjmdelnmilaaPuf
import Derived.Test.YtbggjmdelnmilaaPui
namespace Go.Proofs.Ytbggjmdelnmilaa.Pure
open Go.RowKit Go.Proofs.Ytbggjmdelnmilaa Go.Proofs.Ytbggjmdelnmilaa.PA Go.Proofs.YtbggjmdelnmilaaW.PrintWords Go.Proofs.YtbggjmdelnmilaaW.PrintLast Go.Proofs.YtbggjmdelnmilaaW.PrintMore
set_option linter.unusedVariables false
set_option linter.unusedSimpArgs false
theorem choices_j0 (l : List S39) (w : S26) (c : Int) (hl : ∀ x ∈ l,St x) (hw : Sw w) : Ev (fun k=>gangsawlaw31_OffcutChoices.j0 k l c false w.f0 w.f1.f0 w.f1.f1 w.f1.f2 w.f2 w.f3 w.f4) true:=by
 have hs:=strs_good hl
 refine Ev.step (fun k=>(by rw [gangsawlaw31_OffcutChoices.j0])) (Ev.congr (fun k=>if_neg (by decide)) ?_)
 refine Ev.bind (Ev.now (w.f0,w.f1.f0,w.f1.f1,w.f1.f2,w.f2,w.f3,w.f4)) ?_
 refine Ev.bind (oBest_f l (cv w) c hs hw.strs) ?_
 refine Ev.bind (Ev.now (w.f0,w.f1.f0,w.f1.f1,w.f1.f2,w.f2,w.f3,w.f4)) ?_
 refine Ev.bind (oRefused_f l (cv w) c hs hw.strs) ?_
 refine Ev.bind (rBoth_f c hl hw) ?_
 unfold bestA refuA
 by_cases h : readyR l [cv w] c = 0
 ·rw [if_pos h,if_pos h];have hg:=((ready_iff l [cv w] c).1 h).1.len
  refine Ev.congr (fun k=>if_pos h) (Ev.bind (rbest_f l (cv w) (by omega)) ?_)
  by_cases g : bestR l (cv w) < 0
  (rw [if_pos g,decide_eq_true g];exact Ev.congr (fun k=>by rw [if_pos g];rfl) (Ev.now _));(rw [if_neg g,decide_eq_false g];exact Ev.congr (fun k=>by rw [if_neg g];show (if (0 : Int) = 0 then (if bestR l (cv w) = bestR l (cv w) then (if (0 : Int) = 0 then some (!false) else none) else none) else none) = _;rw [if_pos rfl,if_pos rfl];rfl) (Ev.now _))
 (rw [if_neg h,if_neg h];exact Ev.congr (fun k=>by rw [if_neg h,if_pos rfl,if_pos rfl];rfl) (Ev.now _))
theorem OffcutChoices (l : List S39) (a0 : ByteArray) (a1 a2 a3 a4 : Int) (a5 : ByteArray) (a6 : Bool) (c : Int) (hlen : l.length ≤ maxLen) (hp : ∀ p ∈ l,RemP p) (hw : WantOk a0 a1 a2 a3 a4 a5) (hc : Rng c) : ∃ k,gangsawlaw31_OffcutChoices.f k l a0 a1 a2 a3 a4 a5 a6 c = some true:=by
 refine Ev.rounds (?_ : Ev (fun k=>gangsawlaw31_OffcutChoices.f k l a0 a1 a2 a3 a4 a5 a6 c) true)
 unfold gangsawlaw31_OffcutChoices.f
 refine Ev.bind awake_f ?_
 refine Ev.congr (fun k=>if_pos rfl) ?_
 obtain ⟨b,hb,hbb⟩ := small_f l 20 (by omega)
 refine Ev.bind hb ?_
 have skip : Ev (fun k=>gangsawlaw31_OffcutChoices.j0 k l c true a0 a1 a2 a3 a4 a5 a6) true:=Ev.step (f:=fun _=>some true) (fun k=>by rw [gangsawlaw31_OffcutChoices.j0];exact if_pos rfl) (Ev.now _)
 cases b with
 | false=>exact Ev.congr (fun k=>if_neg (by decide)) skip
 | true =>
  refine Ev.congr (fun k=>if_pos rfl) ?_
  obtain ⟨d,hd,hdd⟩ := few1 ⟨a0,⟨a1,a2,a3⟩,a4,a5,a6⟩
  refine Ev.bind hd ?_
  cases d with
  | false=>exact skip
  | true=>exact choices_j0 l ⟨a0,⟨a1,a2,a3⟩,a4,a5,a6⟩ c (hbb rfl).2 (hdd rfl)
end Go.Proofs.Ytbggjmdelnmilaa.Pure
