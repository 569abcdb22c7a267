import Derived.Test.YtnjikioimompnaaPAx16
import Derived.Test.YtnjikioimompnaaPua
namespace Go.Proofs.Ytnjikioimompnaa.Pure
open Go.RowKit Go.Proofs.Ytnjikioimompnaa Go.Proofs.Ytnjikioimompnaa.PA Go.Proofs.YtnjikioimompnaaW.PrintWords Go.Proofs.YtnjikioimompnaaW.PrintLast Go.Proofs.YtnjikioimompnaaW.PrintMore
set_option linter.unusedVariables false
set_option linter.unusedSimpArgs false
theorem refSame_l (l : List S31) (hl : l.length ≤ 1000) : ∀ d i : Nat,i + d = l.length → Ev (fun k=>gangsawref39_Same.l0 k l l (i : Int)) true:=by
 intro d
 induction d with
 | zero =>
  intro i hi
  refine Ev.step (f:=fun _=>some true) (fun k=>?_) (Ev.now _)
  simp only [gangsawref39_Same.l0];rw [if_neg (by omega)]
 | succ d ih =>
  intro i hi
  refine Ev.step (fun k=>?_) (ih (i + 1) (by omega))
  simp only [gangsawref39_Same.l0];rw [if_pos (by omega),if_pos (by omega),if_pos (by omega),if_neg (by simp),w1 (by omega)]
theorem same_refl (nm : ByteArray) (l : List S31) (hl : l.length ≤ 1000) : Ev (fun k=>gangsawlaw39_same.f k nm l nm l) true:=by
 unfold gangsawlaw39_same.f
 refine Ev.congr (fun k=>if_pos rfl) (Ev.bind ?_ (Ev.now _))
 unfold gangsawref39_Same.f
 exact Ev.congr (fun k=>if_pos rfl) (refSame_l l hl l.length 0 (by simp))
end Go.Proofs.Ytnjikioimompnaa.Pure
