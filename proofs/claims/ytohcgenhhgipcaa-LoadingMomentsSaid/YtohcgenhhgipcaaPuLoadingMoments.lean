import Derived.Test.YtohcgenhhgipcaaOp
import Derived.Test.YtohcgenhhgipcaaPAx21
import Derived.Test.YtohcgenhhgipcaaPuc
import Derived.Test.YtohcgenhhgipcaaPuw
namespace Go.Proofs.Ytohcgenhhgipcaa.Pure
open Go.RowKit Go.Proofs.Ytohcgenhhgipcaa Go.Proofs.Ytohcgenhhgipcaa.PA Go.Proofs.YtohcgenhhgipcaaW.PrintWords Go.Proofs.YtohcgenhhgipcaaW.PrintLast Go.Proofs.YtohcgenhhgipcaaW.PrintMore
set_option linter.unusedVariables false
set_option linter.unusedSimpArgs false
theorem LoadingMoments (s : ByteArray) (a1 a2 a3 a4 a5 a6 a7 : Int) (x : ByteArray) (l : List S61) (n : Int) (ht : TruckOk s a1 a2 a3 a4 a5 a6 a7) (hx : x.size ≤ maxLen) (hl : l.length ≤ maxLen) (hp : ∀ p ∈ l, LoadOk p) (hn : Rng n) :
  ∃ k,gangsawlaw54_LoadingMoments.f k s a1 a2 a3 a4 a5 a6 a7 x l n = some true:=by
 have hs : s.size ≤ 9223372036854775807:=ht.1
 have hy : ∀ y ∈ l,y.f0.size ≤ 9223372036854775807:=fun y hy=>(hp y hy).1
 refine Ev.rounds (?_ : Ev (fun k=>gangsawlaw54_LoadingMoments.f k s a1 a2 a3 a4 a5 a6 a7 x l n) true)
 unfold gangsawlaw54_LoadingMoments.f
 refine Ev.bind awake_f ?_
 by_cases h : (l.length : Int) > 100
 (exact Ev.congr (fun k=>by rw [if_pos rfl,if_pos h]) (Ev.now _))
 ·have e : loading_Moments.f s a1 a2 a3 a4 a5 a6 a7 x l n = some (momR (mk24 s a1 a2 a3 a4 a5 a6 a7) ⟨x, l⟩ n) := by
   unfold loading_Moments.f
   rw [if_pos ⟨hs,List.all_eq_true.2 fun y h=>decide_eq_true (hy y h),by omega⟩]
  refine Ev.congr (fun k=>by rw [if_pos rfl,if_neg h,e,Option.bind_some]) ?_
  refine Ev.bind (Moments_ref (mk24 s a1 a2 a3 a4 a5 a6 a7) x l n (by omega) hs hy) ?_
  exact Ev.congr (fun k=>by rw [if_pos rfl,if_pos rfl];simp) (Ev.now _)
end Go.Proofs.Ytohcgenhhgipcaa.Pure
