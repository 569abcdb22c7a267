import Derived.Test.YtbggjmdelnmilaaLex
import Derived.Test.YtbggjmdelnmilaaPAx0
import Derived.Shelf.Abstract
import Derived.StillTailTactics
import Derived.WalkLawsBesides
import Derived.WalkSpells
namespace Go.Proofs.Ytbggjmdelnmilaa.PA
open Go.RowKit Go.Proofs.YtbggjmdelnmilaaW.PrintWords Go.Proofs.YtbggjmdelnmilaaW.PrintLast Go.Proofs.YtbggjmdelnmilaaW.PrintMore
set_option maxHeartbeats 4000000 in
set_option maxRecDepth 100000 in
theorem clone_some (w : World) (ad : Addr) (c : Nat) (xs : List S39) (HC : Kd.C k39 w (some ad) xs.length xs) (hl : xs.length * 80 ≤ 140737488355328) :
  Calls Try.prog 47 #[.slice (some ad) xs.length c] w fun e w'=>∃ v : Value,e = .returned v ∧ Kd.R k39 39 w' w.heap.size (fun k=>w.heap.size ≤ k) v xs ∧ Below w.heap.size w w':=by
 have H:=aside HC;clear HC;have hu22:=Try.underlying22
 have q22 : ∀ (w : World) (a : Option Addr) (n c n' c' : Nat),(binOp .eql 22 (.slice a n c) (.slice none n' c')).run Try.prog w = .ok (.bool a.isNone) w:=fun w a n c n' c'=>Lib.run_eql_slice_nil w _ _ a n c n' c' Try.underlying22
 go_enter Try.func47,Try.ntmps47
 go_wp2_with (first|((with_reducible refine gate_builtin (b:=.append) (xs:=#[.tmp 5,.tmp 6]) rfl ?_);at_builtin;refine Kd.R_append_rows k39 (w0:=w) w.heap.size rfl (.tmp 5) (.tmp 6) 22 39 (.agg #[(.string ⟨#[]⟩),(.int .i64 0),(.int .i64 0),(.int .i64 0),(.int .i64 0),(.string ⟨#[]⟩),(.string ⟨#[]⟩)]) 80 rfl Try.underlying22 info39 rfl (by decide) (by omega) (.slice (some ⟨w.heap.size,0,none⟩) 0 0) [] xs _ _ _ (fun k=>w.heap.size ≤ k) (fun _=>False) rfl rfl ?aO ?aR (fun _ _ h=>h) (fun _ h=>h.elim) ?aF ?aB ?aS ?aL ?_;(case aR=>exact Kd.C_alloc H.out _);(case aB=>exact below_alloc (Below.refl _ _) _);(case aF=>exact (fun k hk=>Nat.le_trans (by simp) hk));(case aO=>exact ⟨fun k hk=>(by injection hk with hk;exact Nat.le_of_eq hk),OwnRow.lit w w.heap.size (Reps.none _ _) (Nat.le_refl _) (by simp)⟩);(case aS=>exact Nat.le_of_lt (by simp));(case aL=>simpa using hl);intro v1 w1 ho hb hg hat;have HO:=aside ho;have HB:=aside hb;clear ho hb hg hat))
 go_ret
 exact ⟨_,rfl,HO.out,HB.out⟩
theorem clone_none (w : World) (n c : Nat) : Calls Try.prog 47 #[.slice none n c] w fun e w'=>e = .returned (.slice none 0 0) ∧ w' = w:=by
 have hu22:=Try.underlying22
 have q22 : ∀ (w : World) (a : Option Addr) (n c n' c' : Nat),(binOp .eql 22 (.slice a n c) (.slice none n' c')).run Try.prog w = .ok (.bool a.isNone) w:=fun w a n c n' c'=>Lib.run_eql_slice_nil w _ _ a n c n' c' Try.underlying22
 go_enter Try.func47,Try.ntmps47
 go_wp2
 go_ret
 exact ⟨rfl,rfl⟩
theorem clone_any (w : World) (A : Option Addr) (c : Nat) (xs : List S39) (HC : Kd.C k39 w A xs.length xs) (hl : xs.length * 80 ≤ 140737488355328) :
  Calls Try.prog 47 #[.slice A xs.length c] w fun e w'=>∃ v : Value,e = .returned v ∧ Kd.R k39 39 w' w.heap.size (fun k=>w.heap.size ≤ k) v xs ∧ Below w.heap.size w w':=by
 cases A with
 | some ad=>exact clone_some w ad c xs HC hl
 | none =>
  refine (clone_none w xs.length c).mono ?_
  rintro e w' ⟨rfl,rfl⟩
  have h0 : xs = [] := by
   cases xs with
   | nil=>rfl
   | cons x l =>
    obtain ⟨ad,h,_⟩ := HC.2.2 (Nat.succ_pos _)
    cases h
  subst h0;exact ⟨_,rfl,Kd.R_nil _ _ _ _ _,Below.refl _ _⟩
end Go.Proofs.Ytbggjmdelnmilaa.PA
