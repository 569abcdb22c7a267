import Derived.Test.YtbggjmdelnmilaaOp
import Derived.Test.YtbggjmdelnmilaaPAx73
import Derived.Test.YtbggjmdelnmilaaPuf
import Derived.Test.YtbggjmdelnmilaaPui
namespace Go.Proofs.Ytbggjmdelnmilaa.Pure
open Go.RowKit Go.Proofs.Ytbggjmdelnmilaa Go.Proofs.Ytbggjmdelnmilaa.PA Go.Proofs.YtbggjmdelnmilaaW.PrintWords Go.Proofs.YtbggjmdelnmilaaW.PrintLast Go.Proofs.YtbggjmdelnmilaaW.PrintMore
set_option linter.unusedVariables false
set_option linter.unusedSimpArgs false
theorem takeR_len (l : List S39) (i : Nat) (y : S36) (c n : Int) : (takeR l i y c n).1.length ≤ 256:=by
 unfold takeR
 split
 (exact Nat.zero_le _)
 ·split
  (exact Nat.zero_le _)
  ·split
   (exact Nat.zero_le _)
   ·rename_i _ h
    exact Nat.le_of_not_lt h
theorem tkR_len (l : List S39) (y : S36) (c n : Int) : (tkR l y c n).1.length ≤ 256:=by
 unfold tkR
 split
 (exact Nat.zero_le _);(exact takeR_len _ _ _ _ _)
theorem tl0 : (⟨#[]⟩ : ByteArray).toList = ([] : List UInt8):=by rw [ByteArray.toList_eq]
theorem none_true (k : Nat) (e : Int) {b : Option Bool} : (if (none5 e).2.2.2.2 = e then (if (((none5 e).1.length : Nat) : Int) = 0 then (some ((none5 e).2.1.toList == ([] : List UInt8) && ((none5 e).2.2.1.toList == ([] : List UInt8) && (!(none5 e).2.2.2.1)))) else none) else none) = some true:=by
 show (if e = e then (if ((0 : Nat) : Int) = 0 then (some ((⟨#[]⟩ : ByteArray).toList == ([] : List UInt8) && ((⟨#[]⟩ : ByteArray).toList == ([] : List UInt8) && (!false)))) else none) else none) = some true
 rw [if_pos rfl,tl0];rfl
theorem takes_j0 (l : List S39) (w : S26) (c n : Int) (hl : ∀ x ∈ l,St x) (hw : Sw w) : Ev (fun k=>gangsawlaw31_OffcutTakes.j0 k l c n false w.f0 w.f1.f0 w.f1.f1 w.f1.f2 w.f2 w.f3 w.f4) true:=by
 have hs:=strs_good hl
 refine Ev.step (fun k=>(by rw [gangsawlaw31_OffcutTakes.j0])) (Ev.congr (fun k=>if_neg (by decide)) ?_)
 refine Ev.bind (Ev.now (w.f0,w.f1.f0,w.f1.f1,w.f1.f2,w.f2,w.f3,w.f4)) ?_
 refine Ev.bind (oTake_f l (cv w) c n hs hw.strs) ?_
 refine Ev.bind (rTaking_f l [w] c n hl (.inr (fun x hx=>by rw [List.mem_singleton] at hx;subst hx;exact hw))) ?_
 unfold takeA takingR readyR
 rw [if_neg (show ¬ 256 < [w].length by simp)];by_cases h : checkR l = 0
 ·rw [if_pos h,if_pos h];by_cases g : wantsR [cv w] c = 0
  ·rw [if_pos g,show wantsR ([w].map cv) c = 0 from g,if_pos rfl]
   cases lastB n with
   | false =>
    rw [if_neg (show ¬ (false = true) by decide),if_neg (show ¬ (false = true) by decide)];exact Ev.congr (fun k=>by rw [if_neg (by decide)];exact none_true k 6 (b:=none)) (Ev.now _)
   | true =>
    rw [if_pos rfl,if_pos rfl];have hy:=((wants_iff [cv w] c).1 g).1 (cv w) (by simp)
    refine Ev.congr (fun k=>if_pos rfl) (Ev.bind (rTake_f c n ((good_iff l).1 h) hy) ?_)
    have hlen:=tkR_len l (cv w) c n;generalize tkR l (cv w) c n = t at hlen ⊢
    refine Ev.congr (fun k=>if_pos rfl) (Ev.bind (same_f t.1 (by omega)) ?_)
    exact Ev.congr (fun k=>by rw [if_pos rfl,beq_self_eq_true,beq_self_eq_true,beq_self_eq_true];rfl) (Ev.now _)
  (rw [if_neg g,show wantsR ([w].map cv) c = wantsR [cv w] c from rfl,if_neg g];exact Ev.congr (fun k=>by rw [if_neg g];exact none_true k _ (b:=none)) (Ev.now _))
 (rw [if_neg h,if_neg h];rw [if_neg h];exact Ev.congr (fun k=>by rw [if_neg h];exact none_true k _ (b:=none)) (Ev.now _))
theorem OffcutTakes (l : List S39) (a0 : ByteArray) (a1 a2 a3 a4 : Int) (a5 : ByteArray) (a6 : Bool) (c n : Int) (hlen : l.length ≤ maxLen) (hp : ∀ p ∈ l,RemP p) (hw : WantOk a0 a1 a2 a3 a4 a5) (hc : Rng c) (hn : Rng n) : ∃ k,gangsawlaw31_OffcutTakes.f k l a0 a1 a2 a3 a4 a5 a6 c n = some true:=by
 refine Ev.rounds (?_ : Ev (fun k=>gangsawlaw31_OffcutTakes.f k l a0 a1 a2 a3 a4 a5 a6 c n) true)
 unfold gangsawlaw31_OffcutTakes.f
 refine Ev.bind awake_f ?_
 refine Ev.congr (fun k=>if_pos rfl) ?_
 obtain ⟨b,hb,hbb⟩ := small_f l 20 (by omega)
 refine Ev.bind hb ?_
 have skip : Ev (fun k=>gangsawlaw31_OffcutTakes.j0 k l c n true a0 a1 a2 a3 a4 a5 a6) true:=Ev.step (f:=fun _=>some true) (fun k=>by rw [gangsawlaw31_OffcutTakes.j0];exact if_pos rfl) (Ev.now _)
 cases b with
 | false=>exact Ev.congr (fun k=>if_neg (by decide)) skip
 | true =>
  refine Ev.congr (fun k=>if_pos rfl) ?_
  obtain ⟨d,hd,hdd⟩ := few1 ⟨a0,⟨a1,a2,a3⟩,a4,a5,a6⟩
  refine Ev.bind hd ?_
  cases d with
  | false=>exact skip
  | true=>exact takes_j0 l ⟨a0,⟨a1,a2,a3⟩,a4,a5,a6⟩ c n (hbb rfl).2 (hdd rfl)
end Go.Proofs.Ytbggjmdelnmilaa.Pure
