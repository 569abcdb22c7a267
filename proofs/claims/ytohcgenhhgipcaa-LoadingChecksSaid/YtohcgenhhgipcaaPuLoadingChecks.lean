import Derived.Test.YtohcgenhhgipcaaOp
import Derived.Test.YtohcgenhhgipcaaPAx16
import Derived.Test.YtohcgenhhgipcaaPui
import Derived.Test.YtohcgenhhgipcaaPuw
namespace Go.Proofs.Ytohcgenhhgipcaa.Pure
open Go.RowKit Go.Proofs.Ytohcgenhhgipcaa Go.Proofs.Ytohcgenhhgipcaa.PA Go.Proofs.YtohcgenhhgipcaaW.PrintWords Go.Proofs.YtohcgenhhgipcaaW.PrintLast Go.Proofs.YtohcgenhhgipcaaW.PrintMore
set_option linter.unusedVariables false
set_option linter.unusedSimpArgs false

theorem LoadingChecks (s : ByteArray) (a1 a2 a3 a4 a5 a6 a7 : Int) (l : List S65) (ht : TruckOk s a1 a2 a3 a4 a5 a6 a7) (hlen : l.length ≤ maxLen) (hp : ∀ p ∈ l, CargoOk p) :
  ∃ k,gangsawlaw54_LoadingChecks.f k s a1 a2 a3 a4 a5 a6 a7 l = some true:=by
 have hs : s.size ≤ 9223372036854775807:=ht.1
 have hy : ∀ y ∈ l,y.f0.size ≤ 9223372036854775807:=fun y hy=>(hp y hy).1
 have hy64:=sizes64 hy
 refine Ev.rounds (?_ : Ev (fun k=>gangsawlaw54_LoadingChecks.f k s a1 a2 a3 a4 a5 a6 a7 l) true)
 unfold gangsawlaw54_LoadingChecks.f
 refine Ev.bind awake_f ?_
 rw [few_f]
 refine Ev.congr (fun k=>by rw [if_pos rfl,Option.bind_some]) ?_
 cases hfw : (decide (l.length ≤ 12) || (decide (64 < l.length) && decide (l.length ≤ 100))) with
 | false=>exact Ev.congr (fun k=>by rw [if_neg (by decide : ¬(false = true))]) (Ev.now _)
 | true =>
  have hl:=few_len hfw;have ho:=ours_f l (by omega)
  refine Ev.congr (fun k=>by rw [if_pos rfl]) ?_
  refine Ev.bind ho ?_
  refine Ev.bind (Alone_f (mk24 s a1 a2 a3 a4 a5 a6 a7) _ hs hy64) ?_
  refine Ev.bind (rAlone_f (mk24 s a1 a2 a3 a4 a5 a6 a7) l (by omega) hs hy) ?_
  refine Ev.bind ho ?_
  refine Ev.congr (fun k=>by rw [check_f (mk24 s a1 a2 a3 a4 a5 a6 a7) _ hs hy64,Option.bind_some]) ?_
  refine Ev.bind (Check_ref (mk24 s a1 a2 a3 a4 a5 a6 a7) l (by omega) hs hy) ?_
  refine Ev.congr (fun k=>by rw [if_pos rfl]) ?_
  refine Ev.bind ho ?_
  refine Ev.bind (Fits_f (mk24 s a1 a2 a3 a4 a5 a6 a7) _ hs hy64) ?_
  refine Ev.bind (rFits_f (mk24 s a1 a2 a3 a4 a5 a6 a7) l (by omega) hs hy) ?_
  exact Ev.congr (fun k=>by rw [if_pos rfl,if_pos rfl];simp) (Ev.now _)
end Go.Proofs.Ytohcgenhhgipcaa.Pure
