import Derived.Test.YtbggjmdelnmilaaPAx71
import Derived.Test.YtbggjmdelnmilaaPuf
import Derived.Test.YtbggjmdelnmilaaPug
import Derived.Test.YtbggjmdelnmilaaPuh
namespace Go.Proofs.Ytbggjmdelnmilaa.Pure
open Go.RowKit Go.Proofs.Ytbggjmdelnmilaa Go.Proofs.Ytbggjmdelnmilaa.PA Go.Proofs.YtbggjmdelnmilaaW.PrintWords Go.Proofs.YtbggjmdelnmilaaW.PrintLast Go.Proofs.YtbggjmdelnmilaaW.PrintMore
set_option linter.unusedVariables false
set_option linter.unusedSimpArgs false
theorem stocks_j0 (l : List S39) (hs : strsB l = true) (h : 256 < l.length ∨ ∀ x ∈ l,St x) : Ev (fun k=>gangsawlaw31_OffcutStocks.j0 k l false) true:=by
 refine Ev.step (fun k=>(by rw [gangsawlaw31_OffcutStocks.j0])) (Ev.congr (fun k=>if_neg (by decide)) ?_)
 refine Ev.bind (oVolume_f l hs) (Ev.bind (rCheck_f l h) ?_)
 refine Ev.congr (fun k=>by rw [check_f hs,Option.bind_some,if_pos rfl]) ?_
 unfold volA
 by_cases h0 : checkR l = 0
 ·rw [if_pos h0];have hlen:=((good_iff l).1 h0).len
  refine Ev.congr (fun k=>if_pos h0) (Ev.bind (rVolume_f l (by omega)) ?_)
  cases volW 0 l with
  | none=>exact Ev.congr (fun k=>by rfl) (Ev.now _)
  | some v=>exact Ev.congr (fun k=>by show (if true = true then (if (0 : Int) = 0 then (some (v == v)) else none) else _) = _;rw [if_pos rfl,if_pos rfl,beq_self_eq_true]) (Ev.now _)
 (rw [if_neg h0];exact Ev.congr (fun k=>by rw [if_neg h0,if_pos rfl];rfl) (Ev.now _))
theorem OffcutStocks (l : List S39) (hlen : l.length ≤ maxLen) (hp : ∀ p ∈ l,RemP p) : ∃ k,gangsawlaw31_OffcutStocks.f k l = some true:=by
 have hs:=strs_ok hp
 refine Ev.rounds (?_ : Ev (fun k=>gangsawlaw31_OffcutStocks.f k l) true)
 unfold gangsawlaw31_OffcutStocks.f
 refine Ev.bind awake_f ?_
 refine Ev.congr (fun k=>if_pos rfl) ?_
 obtain ⟨b,hb,hbb⟩ := small_f l 30 (by omega)
 refine Ev.bind hb ?_
 cases b with
 | true=>exact Ev.congr (fun k=>if_pos rfl) (stocks_j0 l hs (.inr (hbb rfl).2))
 | false =>
  refine Ev.congr (fun k=>if_neg (by decide)) ?_
  by_cases h : l.length ≤ 256
  (rw [show decide ((l.length : Int) ≤ 256) = true from decide_eq_true (by omega)];exact Ev.step (f:=fun _=>some true) (fun k=>by rw [gangsawlaw31_OffcutStocks.j0];exact if_pos rfl) (Ev.now _));(rw [show decide ((l.length : Int) ≤ 256) = false from decide_eq_false (by omega)];exact stocks_j0 l hs (.inl (by omega)))
end Go.Proofs.Ytbggjmdelnmilaa.Pure
