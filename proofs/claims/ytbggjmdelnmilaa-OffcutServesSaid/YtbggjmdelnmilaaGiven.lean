import Derived.Test.YtbggjmdelnmilaaGr
namespace Go.Proofs.Ytbggjmdelnmilaa.PA
open Go.RowKit Go.Shelf Go.Proofs.YtbggjmdelnmilaaW.PrintWords Go.Proofs.YtbggjmdelnmilaaW.PrintLast Go.Proofs.YtbggjmdelnmilaaW.PrintMore
abbrev mk39 (a0 : ByteArray) (a1 a2 a3 a4 : Int) (a5 a6 : ByteArray) : S39 := ⟨a0, ⟨a1, a2, a3⟩, a4, a5, a6⟩
abbrev mk36 (a0 : ByteArray) (a1 a2 a3 a4 : Int) (a5 : ByteArray) (a6 : Bool) : S36 := ⟨a0, ⟨a1, a2, a3⟩, a4, a5, a6⟩
abbrev room : Nat := 140737488355328
def strsB (l : List S39) : Bool := l.all fun x => decide (x.f0.size ≤ bigN) && (decide (x.f3.size ≤ bigN) && decide (x.f4.size ≤ bigN))
theorem strsB_of {l : List S39} (h : strsB l = true) : ∀ x ∈ l, strs x := fun x hx => by
 have := List.all_eq_true.1 h x hx;simp only [Bool.and_eq_true, decide_eq_true_eq] at this;exact this
def strsWB (l : List S36) : Bool := l.all fun x => decide (x.f0.size ≤ bigN) && decide (x.f3.size ≤ bigN)
theorem strsWB_of {l : List S36} (h : strsWB l = true) : ∀ x ∈ l, strsW x := fun x hx => by
 have := List.all_eq_true.1 h x hx;simp only [Bool.and_eq_true, decide_eq_true_eq] at this;exact this
def namesB (l : List S39) : Bool := l.all fun x => decide (x.f0.size ≤ bigN)
theorem namesB_of {l : List S39} (h : namesB l = true) : ∀ x ∈ l, x.f0.size ≤ bigN := fun x hx => of_decide_eq_true (List.all_eq_true.1 h x hx)
instance (l : List S39) : Decidable (Ord l) := inferInstanceAs (Decidable (List.Pairwise _ l))
def offcut_Check.f (l0 : List S39) : Option Int := if strsB l0 = true then some (checkR l0) else none
theorem offcut_Check.calls (A0 : Option Addr) (c0 : Nat) (l0 : List S39) (r : Int) (w : World) (hr0 : Kd.C k39 w A0 l0.length l0) (hc0 : l0.length ≤ c0) (h : offcut_Check.f l0 = some r) :
  Calls Try.prog 17 #[.slice A0 l0.length c0] w fun e w' => e = .returned (.int .i64 r) ∧ Below w.heap.size w w' := by
 unfold offcut_Check.f at h
 split at h
 ·rename_i hg
  obtain rfl := Option.some.inj h;exact check_any A0 c0 l0 w hr0 hc0 (strsB_of hg)
 ·cases h
def wantedR (l : List S36) : Int := if l.any wadN = true then 4 else if l.any wadR = true then 6 else 0
def offcut_wanted.f (l0 : List S36) : Option Int := if strsWB l0 = true then some (wantedR l0) else none
theorem offcut_wanted.calls (A0 : Option Addr) (c0 : Nat) (l0 : List S36) (r : Int) (w : World) (hr0 : Kd.C k36 w A0 l0.length l0) (_hc0 : l0.length ≤ c0) (h : offcut_wanted.f l0 = some r) :
  Calls Try.prog 63 #[.slice A0 l0.length c0] w fun e w' => e = .returned (.int .i64 r) ∧ Below w.heap.size w w' := by
 unfold offcut_wanted.f at h
 split at h
 ·rename_i hg
  obtain rfl := Option.some.inj h;exact wanted_any A0 c0 l0 w hr0 (strsWB_of hg)
 ·cases h
def offcut_rest.f (a0_0 : ByteArray) (a0_1 a0_2 a0_3 a0_4 : Int) (a0_5 a0_6 : ByteArray) (a1_0 : ByteArray) (a1_1 a1_2 a1_3 a1_4 : Int) (a1_5 : ByteArray) (a1_6 : Bool) (a2 : Int) : Option (List S39) :=
 if a0_0.size + 1 ≤ bigN then some (restR (mk39 a0_0 a0_1 a0_2 a0_3 a0_4 a0_5 a0_6) (mk36 a1_0 a1_1 a1_2 a1_3 a1_4 a1_5 a1_6) a2) else none
theorem offcut_rest.calls (a0_0 : ByteArray) (a0_1 a0_2 a0_3 a0_4 : Int) (a0_5 a0_6 : ByteArray) (a1_0 : ByteArray) (a1_1 a1_2 a1_3 a1_4 : Int) (a1_5 : ByteArray) (a1_6 : Bool) (a2 : Int) (r : List S39) (w : World) (h : offcut_rest.f a0_0 a0_1 a0_2 a0_3 a0_4 a0_5 a0_6 a1_0 a1_1 a1_2 a1_3 a1_4 a1_5 a1_6 a2 = some r) :
  Calls Try.prog 54 #[.agg #[.string a0_0, .int .i64 a0_1, .int .i64 a0_2, .int .i64 a0_3, .int .i64 a0_4, .string a0_5, .string a0_6], .agg #[.string a1_0, .int .i64 a1_1, .int .i64 a1_2, .int .i64 a1_3, .int .i64 a1_4, .string a1_5, .bool a1_6], .int .i64 a2] w fun e w' => ∃ v0_ : Value, e = .returned v0_ ∧ Kd.R k39 39 w' w.heap.size (fun _ => True) v0_ r ∧ Below w.heap.size w w' := by
 unfold offcut_rest.f at h
 split at h
 ·rename_i hg
  obtain rfl := Option.some.inj h
  refine (rest_any (mk39 a0_0 a0_1 a0_2 a0_3 a0_4 a0_5 a0_6) (mk36 a1_0 a1_1 a1_2 a1_3 a1_4 a1_5 a1_6) a2 w hg).mono ?_
  rintro e w' ⟨v, rfl, h1, h2⟩;exact ⟨v, rfl, Kd.R_mono h1 (fun _ _ => trivial), h2⟩
 ·cases h
def api_Remnant_47.f (l0 : List S39) : Option (List S39) := if l0.length * 80 ≤ room then some l0 else none
theorem api_Remnant_47.calls (A0 : Option Addr) (c0 : Nat) (l0 : List S39) (r : List S39) (w : World) (hr0 : Kd.C k39 w A0 l0.length l0) (_hc0 : l0.length ≤ c0) (h : api_Remnant_47.f l0 = some r) :
  Calls Try.prog 47 #[.slice A0 l0.length c0] w fun e w' => ∃ v0_ : Value, e = .returned v0_ ∧ Kd.R k39 39 w' w.heap.size (fun _ => True) v0_ r ∧ Below w.heap.size w w' := by
 unfold api_Remnant_47.f at h
 split at h
 ·rename_i hg
  obtain rfl := Option.some.inj h
  refine (clone_any w A0 c0 l0 hr0 hg).mono ?_
  rintro e w' ⟨v, rfl, h1, h2⟩;exact ⟨v, rfl, Kd.R_mono h1 (fun _ _ => trivial), h2⟩
 ·cases h
def offcut_take.f (l0 : List S39) (i : Int) (a1_0 : ByteArray) (a1_1 a1_2 a1_3 a1_4 : Int) (a1_5 : ByteArray) (a1_6 : Bool) (a2 a3 : Int) : Option T5 :=
 if 0 ≤ i ∧ i.toNat < l0.length ∧ (l0.getD i.toNat z39).f0.size + 1 ≤ bigN ∧ Ord l0 ∧ (l0.length + 8) * 80 ≤ room then some (takeR l0 i.toNat (mk36 a1_0 a1_1 a1_2 a1_3 a1_4 a1_5 a1_6) a2 a3) else none
theorem offcut_take.calls (A0 : Option Addr) (c0 : Nat) (l0 : List S39) (i : Int) (a1_0 : ByteArray) (a1_1 a1_2 a1_3 a1_4 : Int) (a1_5 : ByteArray) (a1_6 : Bool) (a2 a3 : Int) (r1 : List S39) (r2 r3 : ByteArray) (r4 : Bool) (r5 : Int) (w : World) (hr0 : Kd.C k39 w A0 l0.length l0) (hc0 : l0.length ≤ c0) (h : offcut_take.f l0 i a1_0 a1_1 a1_2 a1_3 a1_4 a1_5 a1_6 a2 a3 = some (r1, r2, r3, r4, r5)) :
  Calls Try.prog 37 #[.slice A0 l0.length c0, .int .i64 i, .agg #[.string a1_0, .int .i64 a1_1, .int .i64 a1_2, .int .i64 a1_3, .int .i64 a1_4, .string a1_5, .bool a1_6], .int .i64 a2, .int .i64 a3] w fun e w' => ∃ v0_ : Value, e = .returned (.tuple #[v0_, .agg #[.string r2, .string r3, .bool r4], .int .i64 r5]) ∧ Kd.R k39 39 w' w.heap.size (fun _ => True) v0_ r1 ∧ Below w.heap.size w w' := by
 unfold offcut_take.f at h
 split at h
 ·rename_i hg
  have e := Option.some.inj h;have H := take_any A0 c0 l0 i.toNat (mk36 a1_0 a1_1 a1_2 a1_3 a1_4 a1_5 a1_6) a2 a3 w hr0 hc0 hg.2.1 hg.2.2.1 hg.2.2.2.1 hg.2.2.2.2;rw [e, show ((i.toNat : Nat) : Int) = i by omega] at H;exact H
 ·cases h
def gangsawref31_put.f (l0 : List S39) (a1_0 : ByteArray) (a1_1 a1_2 a1_3 a1_4 : Int) (a1_5 a1_6 : ByteArray) : Option (List S39 × Bool) :=
 if Ord l0 ∧ (l0.length + 8) * 80 ≤ room then some (if foundB l0 (mk39 a1_0 a1_1 a1_2 a1_3 a1_4 a1_5 a1_6) = true then (l0, false) else (putR l0 (mk39 a1_0 a1_1 a1_2 a1_3 a1_4 a1_5 a1_6), true)) else none
theorem put_of {l0 : List S39} {x : S39} {r1 : List S39} {r2 : Bool} (h : gangsawref31_put.f l0 x.f0 x.f1.f0 x.f1.f1 x.f1.f2 x.f2 x.f3 x.f4 = some (r1, r2)) : (Ord l0 ∧ (l0.length + 8) * 80 ≤ room) ∧ (r2 = true → foundB l0 x = false ∧ r1 = putR l0 x) ∧ (r2 = false → foundB l0 x = true) := by
 unfold gangsawref31_put.f at h
 split at h
 ·rename_i hg
  refine ⟨hg, ?_⟩
  have e := Option.some.inj h
  split at e
  ·rename_i hf
   injection e with e1 e2
   subst e2;exact ⟨fun h => (by cases h), fun _ => hf⟩
  ·rename_i hf
   injection e with e1 e2
   subst e1 e2;exact ⟨fun _ => ⟨by simpa using hf, rfl⟩, fun h => (by cases h)⟩
 ·cases h
theorem gangsawref31_put.calls (A0 : Option Addr) (c0 : Nat) (l0 : List S39) (a1_0 : ByteArray) (a1_1 a1_2 a1_3 a1_4 : Int) (a1_5 a1_6 : ByteArray) (r1 : List S39) (r2 : Bool) (w : World) (hr0 : Kd.C k39 w A0 l0.length l0) (hc0 : l0.length ≤ c0) (h : gangsawref31_put.f l0 a1_0 a1_1 a1_2 a1_3 a1_4 a1_5 a1_6 = some (r1, r2)) (h2 : r2 = true := by rfl) :
  Calls Try.prog 62 #[.slice A0 l0.length c0, .agg #[.string a1_0, .int .i64 a1_1, .int .i64 a1_2, .int .i64 a1_3, .int .i64 a1_4, .string a1_5, .string a1_6]] w fun e w' => ∃ v0_ : Value, e = .returned (.tuple #[v0_, .bool r2]) ∧ Kd.R k39 39 w' w.heap.size (fun _ => True) v0_ r1 ∧ Below w.heap.size w w' := by
 obtain ⟨hg, h3, _⟩ := put_of (x := mk39 a1_0 a1_1 a1_2 a1_3 a1_4 a1_5 a1_6) h;obtain ⟨hf, rfl⟩ := h3 h2;subst h2
 refine (put_any A0 c0 l0 (mk39 a1_0 a1_1 a1_2 a1_3 a1_4 a1_5 a1_6) w hr0 hc0 hg.1 hg.2).mono ?_
 rintro e w' ⟨_, h4, h5⟩;obtain ⟨v, rfl, h6⟩ := h4 hf;exact ⟨v, rfl, h6, h5⟩
theorem gangsawref31_put.callsF (A0 : Option Addr) (c0 : Nat) (l0 : List S39) (a1_0 : ByteArray) (a1_1 a1_2 a1_3 a1_4 : Int) (a1_5 a1_6 : ByteArray) (r1 : List S39) (r2 : Bool) (w : World) (hr0 : Kd.C k39 w A0 l0.length l0) (hc0 : l0.length ≤ c0) (h : gangsawref31_put.f l0 a1_0 a1_1 a1_2 a1_3 a1_4 a1_5 a1_6 = some (r1, r2)) (h2 : r2 = false := by rfl) :
  Calls Try.prog 62 #[.slice A0 l0.length c0, .agg #[.string a1_0, .int .i64 a1_1, .int .i64 a1_2, .int .i64 a1_3, .int .i64 a1_4, .string a1_5, .string a1_6]] w fun e w' => ∃ v0_ : Value, e = .returned (.tuple #[.slice A0 l0.length c0, .bool r2]) ∧ Kd.R k39 39 w' w.heap.size (fun _ => True) v0_ [] ∧ Below w.heap.size w w' := by
 obtain ⟨hg, _, h3⟩ := put_of (x := mk39 a1_0 a1_1 a1_2 a1_3 a1_4 a1_5 a1_6) h;have hf := h3 h2;subst h2
 refine (put_any A0 c0 l0 (mk39 a1_0 a1_1 a1_2 a1_3 a1_4 a1_5 a1_6) w hr0 hc0 hg.1 hg.2).mono ?_
 rintro e w' ⟨h4, _, h5⟩;exact ⟨_, h4 hf, Kd.R_nil _ _ _ _ _, h5⟩
def anyNameless.f (l0 : List S39) : Option Bool := if namesB l0 = true then some (l0.any fun x => !lexName x.f0) else none
theorem anyNameless.calls (A0 : Option Addr) (c0 : Nat) (l0 : List S39) (r : Bool) (w : World) (hr0 : Kd.C k39 w A0 l0.length l0) (_hc0 : l0.length ≤ c0) (h : anyNameless.f l0 = some r) :
  Calls Try.prog 40 #[.slice A0 l0.length c0, .func (.func 55) #[] #[]] w fun e w' => e = .returned (.bool r) ∧ Below w.heap.size w w' := by
 unfold anyNameless.f at h
 split at h
 ·rename_i hg
  obtain rfl := Option.some.inj h;exact any40 (fun x => !lexName x.f0) 55 #[] eg55 A0 c0 l0 w hr0 (fun W x hx _ => nameless_any x W (namesB_of hg x hx))
 ·cases h
end Go.Proofs.Ytbggjmdelnmilaa.PA
