import Derived.Test.YtohcgenhhgipcaaGk
namespace Go.Proofs.Ytohcgenhhgipcaa.PA
open Go.RowKit Go.Shelf Go.Proofs.YtohcgenhhgipcaaW.PrintWords Go.Proofs.YtohcgenhhgipcaaW.PrintLast Go.Proofs.YtohcgenhhgipcaaW.PrintMore
set_option linter.unusedVariables false
set_option linter.unusedSimpArgs false

/-! The functions that are walked by hand, in the form that the printed texts ask -/
abbrev big : Nat := 9223372036854775807
abbrev mk24 (a0 : ByteArray) (a1 a2 a3 a4 a5 a6 a7 : Int) : S24 := ⟨a0, a1, a2, a3, ⟨a4, a5⟩, ⟨a6, a7⟩⟩
def named (l : List S64) : Bool := l.all fun x => decide (x.f0.size ≤ big)
theorem named_of {l : List S64} (h : named l = true) : ∀ x ∈ l, x.f0.size ≤ big := fun x hx => of_decide_eq_true (List.all_eq_true.1 h x hx)
def named61 (l : List S61) : Bool := l.all fun x => decide (x.f0.size ≤ big)
theorem named61_of {l : List S61} (h : named61 l = true) : ∀ x ∈ l, x.f0.size ≤ big := fun x hx => of_decide_eq_true (List.all_eq_true.1 h x hx)
def shortT (l : List S54) : Bool := l.all fun x => decide (x.f1.length ≤ 1000000000)
theorem shortT_of {l : List S54} (h : shortT l = true) : ∀ x ∈ l, x.f1.length ≤ 1000000000 := fun x hx => of_decide_eq_true (List.all_eq_true.1 h x hx)
def gangsawref54_truck.f (a0_0 : ByteArray) (a0_1 a0_2 a0_3 a0_4 a0_5 a0_6 a0_7 : Int) : Option Bool := some (rtR (mk24 a0_0 a0_1 a0_2 a0_3 a0_4 a0_5 a0_6 a0_7) 2)
theorem gangsawref54_truck.calls (a0_0 : ByteArray) (a0_1 a0_2 a0_3 a0_4 a0_5 a0_6 a0_7 : Int) (r : Bool) (w : World) (h : gangsawref54_truck.f a0_0 a0_1 a0_2 a0_3 a0_4 a0_5 a0_6 a0_7 = some r) :
  Calls Try.prog 35 #[.agg #[.string a0_0, .int .i64 a0_1, .int .i64 a0_2, .int .i64 a0_3, .int .i64 a0_4, .int .i64 a0_5, .int .i64 a0_6, .int .i64 a0_7]] w fun e w' => e = .returned (.bool r) ∧ Below w.heap.size w w' := by
 obtain rfl := Option.some.inj h;exact rtruck_any (mk24 a0_0 a0_1 a0_2 a0_3 a0_4 a0_5 a0_6 a0_7) w
theorem loading_bears.calls (a0_0 : ByteArray) (a0_1 a0_2 a0_3 a0_4 a0_5 a0_6 a0_7 : Int) (A1 : Option Addr) (c1 : Nat) (l1 : List S61) (r : Bool) (w : World) (hr1 : Kd.C k61 w A1 l1.length l1) (hc1 : l1.length ≤ c1) (h : loading_bears.f a0_0 a0_1 a0_2 a0_3 a0_4 a0_5 a0_6 a0_7 l1 = some r) :
  Calls Try.prog 53 #[.agg #[.string a0_0, .int .i64 a0_1, .int .i64 a0_2, .int .i64 a0_3, .int .i64 a0_4, .int .i64 a0_5, .int .i64 a0_6, .int .i64 a0_7], .slice A1 l1.length c1] w fun e w' => e = .returned (.bool r) ∧ Below w.heap.size w w' := by
 unfold loading_bears.f at h
 split at h
 ·rename_i hl
  obtain rfl := Option.some.inj h;exact bears_any (mk24 a0_0 a0_1 a0_2 a0_3 a0_4 a0_5 a0_6 a0_7) A1 c1 l1 w hr1 hc1 hl
 ·cases h
def loading_Check.f (a0_0 : ByteArray) (a0_1 a0_2 a0_3 a0_4 a0_5 a0_6 a0_7 : Int) (l1 : List S64) : Option Int :=
 if a0_0.size ≤ big ∧ named l1 = true then some (chkR (mk24 a0_0 a0_1 a0_2 a0_3 a0_4 a0_5 a0_6 a0_7) l1) else none
theorem loading_Check.calls (a0_0 : ByteArray) (a0_1 a0_2 a0_3 a0_4 a0_5 a0_6 a0_7 : Int) (A1 : Option Addr) (c1 : Nat) (l1 : List S64) (r : Int) (w : World) (hr1 : Kd.C k64 w A1 l1.length l1) (hc1 : l1.length ≤ c1) (h : loading_Check.f a0_0 a0_1 a0_2 a0_3 a0_4 a0_5 a0_6 a0_7 l1 = some r) :
  Calls Try.prog 15 #[.agg #[.string a0_0, .int .i64 a0_1, .int .i64 a0_2, .int .i64 a0_3, .int .i64 a0_4, .int .i64 a0_5, .int .i64 a0_6, .int .i64 a0_7], .slice A1 l1.length c1] w fun e w' => e = .returned (.int .i64 r) ∧ Below w.heap.size w w' := by
 unfold loading_Check.f at h
 split at h
 ·rename_i hg
  obtain rfl := Option.some.inj h;exact check_any (mk24 a0_0 a0_1 a0_2 a0_3 a0_4 a0_5 a0_6 a0_7) A1 c1 l1 w hr1 hc1 hg.1 (named_of hg.2)
 ·cases h
def loading_Verify.f (a0_0 : ByteArray) (a0_1 a0_2 a0_3 a0_4 a0_5 a0_6 a0_7 : Int) (l1 : List S64) (l2 : List S54) : Option Int :=
 if a0_0.size ≤ big ∧ named l1 = true ∧ l1.length ≤ 1000000000 ∧ l2.length ≤ 1000000000 ∧ shortT l2 = true then some (verR (mk24 a0_0 a0_1 a0_2 a0_3 a0_4 a0_5 a0_6 a0_7) l1 l2) else none
theorem loading_Verify.calls (a0_0 : ByteArray) (a0_1 a0_2 a0_3 a0_4 a0_5 a0_6 a0_7 : Int) (A1 : Option Addr) (c1 : Nat) (l1 : List S64) (A2 : Option Addr) (c2 : Nat) (l2 : List S54) (r : Int) (w : World) (hr1 : Kd.C k64 w A1 l1.length l1) (hc1 : l1.length ≤ c1) (hr2 : Kd.C k54 w A2 l2.length l2) (hc2 : l2.length ≤ c2) (h : loading_Verify.f a0_0 a0_1 a0_2 a0_3 a0_4 a0_5 a0_6 a0_7 l1 l2 = some r) :
  Calls Try.prog 23 #[.agg #[.string a0_0, .int .i64 a0_1, .int .i64 a0_2, .int .i64 a0_3, .int .i64 a0_4, .int .i64 a0_5, .int .i64 a0_6, .int .i64 a0_7], .slice A1 l1.length c1, .slice A2 l2.length c2] w fun e w' => e = .returned (.int .i64 r) ∧ Below w.heap.size w w' := by
 unfold loading_Verify.f at h
 split at h
 ·rename_i hg
  obtain rfl := Option.some.inj h;exact verify_any (mk24 a0_0 a0_1 a0_2 a0_3 a0_4 a0_5 a0_6 a0_7) A1 c1 l1 A2 c2 l2 w hr1 hc1 hr2 hc2 hg.1 (named_of hg.2.1) hg.2.2.1 hg.2.2.2.1 (shortT_of hg.2.2.2.2)
 ·cases h
def loading_Moments.f (a0_0 : ByteArray) (a0_1 a0_2 a0_3 a0_4 a0_5 a0_6 a0_7 : Int) (a1_0 : ByteArray) (l1_1 : List S61) (a2 : Int) : Option (Int × Int × Int) :=
 if a0_0.size ≤ big ∧ named61 l1_1 = true ∧ l1_1.length ≤ 1000000000 then some (momR (mk24 a0_0 a0_1 a0_2 a0_3 a0_4 a0_5 a0_6 a0_7) ⟨a1_0, l1_1⟩ a2) else none
theorem loading_Moments.calls (a0_0 : ByteArray) (a0_1 a0_2 a0_3 a0_4 a0_5 a0_6 a0_7 : Int) (a1_0 : ByteArray) (A1_1 : Option Addr) (c1_1 : Nat) (l1_1 : List S61) (a2 : Int) (r1 r2 r3 : Int) (w : World) (hr1_1 : Kd.C k61 w A1_1 l1_1.length l1_1) (hc1_1 : l1_1.length ≤ c1_1) (h : loading_Moments.f a0_0 a0_1 a0_2 a0_3 a0_4 a0_5 a0_6 a0_7 a1_0 l1_1 a2 = some (r1, r2, r3)) :
  Calls Try.prog 26 #[.agg #[.string a0_0, .int .i64 a0_1, .int .i64 a0_2, .int .i64 a0_3, .int .i64 a0_4, .int .i64 a0_5, .int .i64 a0_6, .int .i64 a0_7], .agg #[.string a1_0, .slice A1_1 l1_1.length c1_1], .int .i64 a2] w fun e w' => e = .returned (.tuple #[.int .i64 r1, .int .i64 r2, .int .i64 r3]) ∧ Below w.heap.size w w' := by
 unfold loading_Moments.f at h
 split at h
 ·rename_i hg
  have e := Option.some.inj h;have := moments_any (mk24 a0_0 a0_1 a0_2 a0_3 a0_4 a0_5 a0_6 a0_7) ⟨a1_0, l1_1⟩ A1_1 c1_1 a2 w hr1_1 hc1_1 hg.2.2 hg.1 (named61_of hg.2.1);rw [e] at this;exact this
 ·cases h
end Go.Proofs.Ytohcgenhhgipcaa.PA
