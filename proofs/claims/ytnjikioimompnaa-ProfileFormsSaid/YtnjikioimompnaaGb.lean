import Derived.Test.YtnjikioimompnaaGa
import Derived.Test.YtnjikioimompnaaPAx4
import Derived.Laws.EntriesVeiled
import Derived.BigQuiet
namespace Go.Proofs.Ytnjikioimompnaa.PA
open Go.RowKit Go.Shelf Go.Proofs.YtnjikioimompnaaW.PrintWords Go.Proofs.YtnjikioimompnaaW.PrintLast Go.Proofs.YtnjikioimompnaaW.PrintMore
set_option linter.unusedVariables false
set_option linter.unusedSimpArgs false
def lexer_Name.f (a0 : ByteArray) : Option (Bool):=if a0.size ≤ 9223372036854775807 then some (lexName a0) else none
theorem lexer_Name.calls (a0 : ByteArray) (r : Bool) (w : World) (h : lexer_Name.f a0 = some r) :
  Calls Try.prog 38 #[.string a0] w fun e w'=>e = .returned (.bool r) ∧ Below w.heap.size w w':=by
 unfold lexer_Name.f at h
 split at h
 (obtain rfl:=Option.some.inj h;exact lexName_any _ _ ‹_›)
 ·cases h
def nearB (n : Int) : Bool:=decide (-1000000 ≤ n ∧ n ≤ 1000000)
set_option maxHeartbeats 400000 in
theorem c39_any (n : Int) (w : World) : Calls Try.prog 39 #[.int .i64 n] w fun e w'=>e = .returned (.bool (nearB n)) ∧ w = w':=by
 unfold nearB
 by_cases h1 : -1000000 ≤ n
 ·go_enter Try.func39,Try.ntmps39
  go_wp2
  go_ret
  exact ⟨ok_bool (by rw [Bool.eq_iff_iff];simp [h1]),rfl⟩
 ·go_enter Try.func39,Try.ntmps39
  go_wp2
  go_ret
  exact ⟨ok_bool (by rw [Bool.eq_iff_iff];simp;omega),rfl⟩
def badP (x : S31) : Bool := !nearB x.f0 || !nearB x.f1
set_option maxHeartbeats 400000 in
theorem c41_any (x : S31) (b : Nat) (w : World) (hc : w.cell? ⟨b,0,none⟩ = some (.func (.func 39) #[] #[])) (hb : b < w.heap.size) : Calls Try.prog 41 #[e31 x,.pointer (some ⟨b,0,none⟩)] w fun e w'=>e = .returned (.bool (badP x)) ∧ Below w.heap.size w w':=by
 unfold badP e31
 cases hq : nearB x.f0 with
 | false =>
  go_enter Try.func41,Try.ntmps41
  go_wp2_with (go_at_call 39;refine (c39_any _ _).mono ?_;rintro e w1 ⟨rfl,rfl⟩)
  go_ret
  exact ⟨ok_bool (by simp),(Below.refl _ _).alloc (Nat.le_refl _) _⟩
 | true =>
  go_enter Try.func41,Try.ntmps41
  go_wp2_with (go_at_call 39;refine (c39_any _ _).mono ?_;rintro e w1 ⟨rfl,rfl⟩)
  go_ret
  exact ⟨ok_bool (by simp),(Below.refl _ _).alloc (Nat.le_refl _) _⟩
theorem eg41 : ∀ args w,(callFunc 41 args).run Try.prog w = .ok (.enter 41 args) w:=enters_of Try.func41 (by kernel_rfl) rfl
theorem ok_i64 {a b : Int} (h : a = b) : Ending.returned (.int .i64 a) = .returned (.int .i64 b):=by rw [h]
theorem below_drewN_any {w : World} (n : Nat) : Below w.heap.size w (w.drewN n):=⟨rfl,rfl,rfl,Nat.le_refl _,fun _ _=>rfl⟩
theorem below_drewN_of {w W : World} (h : Below w.heap.size w W) (n : Nat) : Below w.heap.size w (W.drewN n):=h.trans (Below.mono (below_drewN_any n) h.size)
def eqP (a b : S31) : Bool:=a.f0 == b.f0 && a.f1 == b.f1
def dupAt (l : List S31) (i : Nat) : Bool:=eqP (l.getD i z31) (l.getD ((i + 1) % l.length) z31)
def dupP (l : List S31) : Bool:=(List.range l.length).any fun i=>dupAt l i
theorem dup_of_all {l : List S31} (h : ∀ j,j < l.length → dupAt l j = false) : dupP l = false:=by
 unfold dupP
 rw [List.any_eq_false];intro j hj
 rw [h j (List.mem_range.1 hj)];simp
theorem dup_of_at {l : List S31} {j : Nat} (h2 : j < l.length) (h : dupAt l j = true) : dupP l = true:=by
 unfold dupP
 rw [List.any_eq_true];exact ⟨j,List.mem_range.2 h2,h⟩
def profile_Check.f (k : Nat) (a0_0 : ByteArray) (l0_1 : List S31) : Option Int :=
 (lexer_Name.f a0_0).bind fun t=>if t = true then (if l0_1.length < 3 then some 1 else if 64 < l0_1.length then some 1 else if l0_1.any badP = true then some 6 else if dupP l0_1 = true then some 5 else
  (profile_simple.f k l0_1).bind fun s=>if s = true then ((profile_area.f k l0_1).bind fun a=>if a ≤ 0 then some 1 else some 0) else some 11) else some 4
theorem profile_Check.mono : ∀ a0 a1 k,LeO (profile_Check.f k a0 a1) (profile_Check.f (k + 1) a0 a1):=by
 intro a0 a1 k
 unfold profile_Check.f
 refine LeO.bind (LeO.refl _) (fun _=>?_)
 refine LeO.ite (LeO.ite (LeO.refl _) (LeO.ite (LeO.refl _) (LeO.ite (LeO.refl _) (LeO.ite (LeO.refl _) ?_)))) (LeO.refl _)
 refine LeO.bind (profile_simple.mono _ _) (fun _=>?_)
 exact LeO.ite (LeO.bind (profile_area.mono _ _) (fun _=>LeO.refl _)) (LeO.refl _)
end Go.Proofs.Ytnjikioimompnaa.PA
