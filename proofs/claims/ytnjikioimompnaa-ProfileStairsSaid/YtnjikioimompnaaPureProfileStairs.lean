import Derived.Test.YtnjikioimompnaaPuf
import Derived.Test.YtnjikioimompnaaPuh
import Derived.Test.YtnjikioimompnaaPAx23
namespace Go.Proofs.Ytnjikioimompnaa.Pure
open Go.RowKit Go.Proofs.Ytnjikioimompnaa Go.Proofs.Ytnjikioimompnaa.PA Go.Proofs.YtnjikioimompnaaW.PrintWords Go.Proofs.YtnjikioimompnaaW.PrintLast Go.Proofs.YtnjikioimompnaaW.PrintMore
set_option linter.unusedVariables false
set_option linter.unusedSimpArgs false

theorem ProfileStairs : gangsawlaw39_ProfileStairs.Pure:=by
  intro nm a g r _ wa _ _
  have wa' : -9223372036854775808 ≤ a ∧ a ≤ 9223372036854775807:=by
    simp only [Lit.wf,IntKind.min,IntKind.max,IntKind.signed,IntKind.bits,Bool.and_eq_true,decide_eq_true_eq,if_true] at wa
    omega
  have key : Ev (fun k=>gangsawlaw39_ProfileStairs.f k nm a g r) true:=by
    unfold gangsawlaw39_ProfileStairs.f
    refine Ev.bind awake_f (Ev.congr (fun k=>if_pos rfl) ?_)
    by_cases hn : (nm.size : Int) > 60
    · exact Ev.congr (fun k=>if_pos hn) (Ev.now _)
    · refine Ev.congr (fun k=>if_neg hn) ?_
      rcases Step_f nm (by omega) a g r wa' with ⟨e,he,hE⟩|⟨h0,n,rfl,n1,n2,g1,r1,b1,b2,hE⟩
      · exact Ev.bind hE (Ev.congr (fun k=>if_neg he) (Ev.now _))
      · have hc : chk nm (stair n g r) = 0:=chk_zero.2 ⟨h0,stair_valid n1 g1 r1 n2 b1 b2⟩
        have p1 : 0 ≤ (n : Int) * g:=Int.mul_nonneg (by omega) (by omega)
        have p2 : 0 ≤ (n : Int) * r:=Int.mul_nonneg (by omega) (by omega)
        have hsm : nm.size ≤ 1000000:=by omega
        refine Ev.bind hE (Ev.congr (fun k=>if_pos rfl) (Ev.bind (Area_f nm _ hsm hc) (Ev.bind (Directions_f nm _ hsm hc) (Ev.bind (Bounds_f nm _ hsm hc (stair_box n1 g1 r1)) (Ev.bind (check_f nm _ hsm) ?_)))))
        have hg : g ≤ 1000000:=by have:=mle g1 (show (1 : Int) ≤ n by omega);omega
        have hr : r ≤ 1000000:=by have:=mle r1 (show (1 : Int) ≤ n by omega);omega
        have b3:=mul_bd (x:=g) (y:=r) (X:=1000000) (Y:=1000000) (by omega) (by omega) (by omega) (by omega)
        have b4:=mul_bd (x:=g * r) (y:=n) (X:=1000000000000) (Y:=31) (by omega) (by omega) (by omega) (by omega)
        have b5:=mul_bd (x:=g * r * n) (y:=(n : Int) + 1) (X:=31000000000000) (Y:=32) (by omega) (by omega) (by omega) (by omega)
        have ea : area (stair n g r) = wrap64 (wrap64 (wrap64 (g * r) * n) * wrap64 ((n : Int) + 1)):=by
          rw [w64 (n:=g * r) (by omega) (by omega),w64 (n:=(n : Int) + 1) (by omega) (by omega),w64 (n:=g * r * n) (by omega) (by omega),w64 (by omega) (by omega),stair_area n1]
          rw [show (n : Int) * n + n = n * (n + 1) from by rw [Int.mul_add,Int.mul_one],Int.mul_comm,Int.mul_assoc (g * r)]
        refine Ev.congr (fun k=>?_) (Ev.now _)
        rw [if_pos hc,if_pos rfl,if_pos ea,if_pos rfl,stair_dirs n1 g1 r1 b1 b2]
        rw [w64 (n:=(n : Int) * g) (by omega) (by omega),w64 (n:=(n : Int) * r) (by omega) (by omega)]
        simp
  exact key.rounds
end Go.Proofs.Ytnjikioimompnaa.Pure
