import Derived.Test.YtbggjmdelnmilaaOp
import Derived.Test.YtbggjmdelnmilaaPAx16
import Derived.Test.YtbggjmdelnmilaaPuf
import Derived.Test.YtbggjmdelnmilaaPui
namespace Go.Proofs.Ytbggjmdelnmilaa.Pure
open Go.RowKit Go.Proofs.Ytbggjmdelnmilaa Go.Proofs.Ytbggjmdelnmilaa.PA Go.Proofs.YtbggjmdelnmilaaW.PrintWords Go.Proofs.YtbggjmdelnmilaaW.PrintLast Go.Proofs.YtbggjmdelnmilaaW.PrintMore
set_option linter.unusedVariables false
set_option linter.unusedSimpArgs false
theorem fits_j0' (x : S39) (w : S26) (c : Int) (hx : St x) (hw : Sw w) : Ev (fun k=>gangsawlaw31_OffcutFits.j0 k c false x.f0 x.f1.f0 x.f1.f1 x.f1.f2 x.f2 x.f3 x.f4 w.f0 w.f1.f0 w.f1.f1 w.f1.f2 w.f2 w.f3 w.f4) true:=by
 have hl : ∀ z ∈ [x],St z:=fun z hz=>by rw [List.mem_singleton] at hz;subst hz;exact hx
 have hs:=strs_good hl
 refine Ev.step (fun k=>(by rw [gangsawlaw31_OffcutFits.j0])) (Ev.congr (fun k=>if_neg (by decide)) ?_)
 refine Ev.bind (Ev.now (w.f0,w.f1.f0,w.f1.f1,w.f1.f2,w.f2,w.f3,w.f4)) ?_
 refine Ev.bind (oFits_f x (cv w) c hs hw.strs) ?_
 refine Ev.bind (Ev.now (w.f0,w.f1.f0,w.f1.f1,w.f1.f2,w.f2,w.f3,w.f4)) ?_
 refine Ev.bind (oRest_f x (cv w) c hs hw.strs) ?_
 refine Ev.bind (rBoth_f (l:=[x]) c hl hw) ?_
 unfold fitsA restA
 by_cases h : readyR [x] [cv w] c = 0
 ·rw [if_pos h,if_pos h];have hg:=(ready_iff [x] [cv w] c).1 h
  refine Ev.congr (fun k=>if_pos h) (Ev.bind (rfits_e x (cv w)) (Ev.bind (rRestOf_f x (cv w) c (hg.1.el x (by simp)) (hg.2.1 _ (by simp))) ?_))
  have hlen : (restO x (cv w) c).1.length ≤ 3:=by
   unfold restO
   split
   ·split
    (exact Nat.zero_le _);(exact (show (restR x (cv w) c).length ≤ 3 from restN_len _ _ _ _))
   (exact Nat.zero_le _)
  generalize restO x (cv w) c = t at hlen ⊢
  refine Ev.congr (fun k=>by rw [if_pos rfl,beq_self_eq_true,beq_self_eq_true,if_pos rfl,if_pos rfl,if_pos rfl]) ?_
  exact Ev.bind (same_f t.1 (by omega)) (Ev.now _)
 (rw [if_neg h,if_neg h];exact Ev.congr (fun k=>by rw [if_neg h];show (if readyR [x] [cv w] c = readyR [x] [cv w] c then (if readyR [x] [cv w] c = readyR [x] [cv w] c then _ else _) else _) = _;rw [if_pos rfl,if_pos rfl];rfl) (Ev.now _))
theorem OffcutFits (b0 : ByteArray) (b1 b2 b3 b4 : Int) (b5 b6 : ByteArray) (a0 : ByteArray) (a1 a2 a3 a4 : Int) (a5 : ByteArray) (a6 : Bool) (c : Int) (hr : RemOk b0 b1 b2 b3 b4 b5 b6) (hw : WantOk a0 a1 a2 a3 a4 a5) (hc : Rng c) : ∃ k,gangsawlaw31_OffcutFits.f k b0 b1 b2 b3 b4 b5 b6 a0 a1 a2 a3 a4 a5 a6 c = some true:=by
 refine Ev.rounds (?_ : Ev (fun k=>gangsawlaw31_OffcutFits.f k b0 b1 b2 b3 b4 b5 b6 a0 a1 a2 a3 a4 a5 a6 c) true)
 unfold gangsawlaw31_OffcutFits.f
 refine Ev.bind awake_f ?_
 refine Ev.congr (fun k=>if_pos rfl) ?_
 obtain ⟨b,hb,hbb⟩ := small_f [(⟨b0,⟨b1,b2,b3⟩,b4,b5,b6⟩ : S39)] 1 (by omega)
 refine Ev.bind hb ?_
 have skip : Ev (fun k=>gangsawlaw31_OffcutFits.j0 k c true b0 b1 b2 b3 b4 b5 b6 a0 a1 a2 a3 a4 a5 a6) true:=Ev.step (f:=fun _=>some true) (fun k=>by rw [gangsawlaw31_OffcutFits.j0];exact if_pos rfl) (Ev.now _)
 cases b with
 | false=>exact Ev.congr (fun k=>if_neg (by decide)) skip
 | true =>
  refine Ev.congr (fun k=>if_pos rfl) ?_
  obtain ⟨d,hd,hdd⟩ := few1 ⟨a0,⟨a1,a2,a3⟩,a4,a5,a6⟩
  refine Ev.bind hd ?_
  cases d with
  | false=>exact skip
  | true=>exact fits_j0' ⟨b0,⟨b1,b2,b3⟩,b4,b5,b6⟩ ⟨a0,⟨a1,a2,a3⟩,a4,a5,a6⟩ c ((hbb rfl).2 _ (by simp)) (hdd rfl)
end Go.Proofs.Ytbggjmdelnmilaa.Pure
