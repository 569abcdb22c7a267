import Derived.Test.YtbggjmdelnmilaaGa
import Derived.Test.YtbggjmdelnmilaaGb
namespace Go.Proofs.Ytbggjmdelnmilaa.PA
open Go.RowKit Go.Shelf Go.Proofs.YtbggjmdelnmilaaW.PrintWords Go.Proofs.YtbggjmdelnmilaaW.PrintLast Go.Proofs.YtbggjmdelnmilaaW.PrintMore
set_option linter.unusedVariables false
set_option linter.unusedSimpArgs false
def sizedB (v : S24) : Bool:=decide (1 ≤ min3 v) && decide (max3 v ≤ 1000000)
theorem box_bel {w : World} (o : Obj) {w1 : World} (h : Below (w.alloc o).heap.size (w.alloc o) w1) : Below w.heap.size w w1:=((Below.refl _ _).alloc (Nat.le_refl _) o).trans (h.mono (by simp))
set_option maxHeartbeats 1000000 in
theorem sized_any (v : S24) (w : World) : Calls Try.prog 45 #[.agg #[.int .i64 v.f0,.int .i64 v.f1,.int .i64 v.f2]] w fun e w'=>e = .returned (.bool (sizedB v)) ∧ Below w.heap.size w w':=by
 have HS:=aside (sides_any v);have HM:=aside (min_any v);have HX:=aside (max_any v)
 unfold sizedB
 by_cases h : 1 ≤ min3 v
 ·rw [decide_eq_true h];generalize min3 v = m at h HM;generalize max3 v = x at HX
  go_enter Try.func45,Try.ntmps45
  go_wp2_with (first|(go_at_call 66;refine (HS.out _).mono ?_;rintro e w1 ⟨rfl,hb⟩;have HB:=aside (box_bel _ hb);clear hb)|(go_at_call 67;refine (HM.out _ _ (by simp) (by simp) (by simp)).mono ?_;rintro e w2 ⟨rfl,rfl⟩)|(go_at_call 77;refine (HX.out _ _ (by simp) (by simp) (by simp)).mono ?_;rintro e w2 ⟨rfl,rfl⟩))
  go_ret
  exact ⟨ok_bool (by simp),HB.out.alloc HB.out.size _⟩
 ·rw [decide_eq_false h];generalize min3 v = m at h HM
  go_enter Try.func45,Try.ntmps45
  go_wp2_with (first|(go_at_call 66;refine (HS.out _).mono ?_;rintro e w1 ⟨rfl,hb⟩;have HB:=aside (box_bel _ hb);clear hb)|(go_at_call 67;refine (HM.out _ _ (by simp) (by simp) (by simp)).mono ?_;rintro e w2 ⟨rfl,rfl⟩))
  go_ret
  exact ⟨ok_bool (by simp),HB.out.alloc HB.out.size _⟩
def tintedB (n : Int) : Bool:=decide (0 ≤ n) && decide (n ≤ 1000)
theorem tinted_any (n : Int) (w : World) : Calls Try.prog 46 #[.int .i64 n] w fun e w'=>e = .returned (.bool (tintedB n)) ∧ w' = w:=by
 unfold tintedB
 by_cases h : 0 ≤ n
 ·rw [decide_eq_true h]
  go_enter Try.func46,Try.ntmps46
  go_wp2
  go_ret
  exact ⟨ok_bool (by simp),rfl⟩
 ·rw [decide_eq_false h]
  go_enter Try.func46,Try.ntmps46
  go_wp2
  go_ret
  exact ⟨ok_bool (by simp),rfl⟩
def namedB (s : ByteArray) : Bool:=s.toList.isEmpty || lexName s
theorem named_any (s : ByteArray) (w : World) (hs : s.size ≤ 9223372036854775807) : Calls Try.prog 43 #[.string s] w fun e w'=>e = .returned (.bool (namedB s)) ∧ Below w.heap.size w w':=by
 have hl:=aside (fun W=>lexName_any s W hs)
 unfold namedB
 generalize lexName s = q at hl;clear hs
 cases h : s.toList.isEmpty with
 | true =>
  go_enter Try.func43,Try.ntmps43
  go_wp2
  go_ret
  exact ⟨rfl,Below.refl _ _⟩
 | false =>
  go_enter Try.func43,Try.ntmps43
  go_wp2_with (go_at_call 42;refine (hl.out _).mono ?_;rintro e w1 ⟨rfl,hb⟩)
  go_ret
  exact ⟨rfl,hb⟩
def badN (x : S39) : Bool := !lexName x.f0 || (!namedB x.f3 || !namedB x.f4)
def badR (x : S39) : Bool := !sizedB x.f1 || !tintedB x.f2
def wadN (x : S36) : Bool := !lexName x.f0 || !namedB x.f3
def wadR (x : S36) : Bool := !sizedB x.f1 || !tintedB x.f2
set_option maxHeartbeats 1000000 in
theorem c41_any (x : S39) (w : World) (h0 : x.f0.size ≤ 9223372036854775807) (h3 : x.f3.size ≤ 9223372036854775807) (h4 : x.f4.size ≤ 9223372036854775807) :
  Calls Try.prog 41 #[.agg #[.string x.f0,.int .i64 x.f1.f0,.int .i64 x.f1.f1,.int .i64 x.f1.f2,.int .i64 x.f2,.string x.f3,.string x.f4]] w fun e w'=>e = .returned (.bool (badN x)) ∧ Below w.heap.size w w':=by
 have H0:=aside (fun W=>lexName_any x.f0 W h0);have H3:=aside (fun W=>named_any x.f3 W h3);have H4:=aside (fun W=>named_any x.f4 W h4)
 unfold badN
 generalize lexName x.f0 = q0 at H0;generalize namedB x.f3 = q3 at H3;generalize namedB x.f4 = q4 at H4;clear h0 h3 h4
 cases q0 with
 | false =>
  go_enter Try.func41,Try.ntmps41
  go_wp2_with (first|(go_at_call 42;refine (H0.out _).mono ?_;rintro e w1 ⟨rfl,hb⟩;have HB:=aside (box_bel _ hb);clear hb))
  go_ret
  exact ⟨rfl,HB.out⟩
 | true =>
  cases q3 with
  | false =>
   go_enter Try.func41,Try.ntmps41
   go_wp2_with (first|(go_at_call 42;refine (H0.out _).mono ?_;rintro e w1 ⟨rfl,hb⟩;have c3 : w1.cell? ⟨w.heap.size,5,none⟩ = some (.string x.f3):=(hb.cell (p:=⟨w.heap.size,5,none⟩) (by simp)).trans (by simp);have HB:=aside (box_bel _ hb);clear hb)|(go_at_call 43;refine (H3.out _).mono ?_;rintro e w2 ⟨rfl,hb⟩;have HB2:=aside (HB.out.trans (hb.mono HB.out.size));clear hb))
   go_ret
   exact ⟨rfl,HB2.out⟩
  | true =>
   go_enter Try.func41,Try.ntmps41
   go_wp2_with (first|(go_at_call 42;refine (H0.out _).mono ?_;rintro e w1 ⟨rfl,hb⟩;have c3 : w1.cell? ⟨w.heap.size,5,none⟩ = some (.string x.f3):=(hb.cell (p:=⟨w.heap.size,5,none⟩) (by simp)).trans (by simp);have c4 : w1.cell? ⟨w.heap.size,6,none⟩ = some (.string x.f4):=(hb.cell (p:=⟨w.heap.size,6,none⟩) (by simp)).trans (by simp);have HB:=aside (box_bel _ hb);have HL:=aside (show w.heap.size < w1.heap.size from Nat.lt_of_lt_of_le (by simp) hb.size);clear hb)|(go_at_call 43;with_reducible refine (H3.out _).mono ?_;rintro e w2 ⟨rfl,hb⟩;have c5 : w2.cell? ⟨w.heap.size,6,none⟩ = some (.string x.f4):=(hb.cell (p:=⟨w.heap.size,6,none⟩) HL.out).trans c4;have HB2:=aside (HB.out.trans (hb.mono HB.out.size));clear hb)|(go_at_call 43;with_reducible refine (H4.out _).mono ?_;rintro e w3 ⟨rfl,hb⟩;have HB3:=aside (HB2.out.trans (hb.mono HB2.out.size));clear hb))
   go_ret
   exact ⟨ok_bool (by simp),HB3.out⟩
set_option maxHeartbeats 1000000 in
theorem c44_any (x : S39) (w : World) : Calls Try.prog 44 #[.agg #[.string x.f0,.int .i64 x.f1.f0,.int .i64 x.f1.f1,.int .i64 x.f1.f2,.int .i64 x.f2,.string x.f3,.string x.f4]] w fun e w'=>e = .returned (.bool (badR x)) ∧ Below w.heap.size w w':=by
 have H0:=aside (fun W=>sized_any x.f1 W);have H1:=aside (fun W=>tinted_any x.f2 W)
 unfold badR
 generalize sizedB x.f1 = q0 at H0;generalize tintedB x.f2 = q1 at H1
 cases q0 with
 | false =>
  go_enter Try.func44,Try.ntmps44
  go_wp2_with (first|(go_at_call 45;refine (H0.out _).mono ?_;rintro e w1 ⟨rfl,hb⟩;have HB:=aside (box_bel _ hb);clear hb))
  go_ret
  exact ⟨rfl,HB.out⟩
 | true =>
  go_enter Try.func44,Try.ntmps44
  go_wp2_with (first|(go_at_call 45;refine (H0.out _).mono ?_;rintro e w1 ⟨rfl,hb⟩;have c3 : w1.cell? ⟨w.heap.size,4,none⟩ = some (.int .i64 x.f2):=(hb.cell (p:=⟨w.heap.size,4,none⟩) (by simp)).trans (by simp);have HB:=aside (box_bel _ hb);clear hb)|(go_at_call 46;refine (H1.out _).mono ?_;rintro e w2 ⟨rfl,rfl⟩))
  go_ret
  exact ⟨ok_bool (by simp),HB.out⟩
set_option maxHeartbeats 1000000 in
theorem c82_any (x : S36) (w : World) (h0 : x.f0.size ≤ 9223372036854775807) (h3 : x.f3.size ≤ 9223372036854775807) :
  Calls Try.prog 82 #[.agg #[.string x.f0,.int .i64 x.f1.f0,.int .i64 x.f1.f1,.int .i64 x.f1.f2,.int .i64 x.f2,.string x.f3,.bool x.f4]] w fun e w'=>e = .returned (.bool (wadN x)) ∧ Below w.heap.size w w':=by
 have H0:=aside (fun W=>lexName_any x.f0 W h0);have H3:=aside (fun W=>named_any x.f3 W h3)
 unfold wadN
 generalize lexName x.f0 = q0 at H0;generalize namedB x.f3 = q3 at H3;clear h0 h3
 cases q0 with
 | false =>
  go_enter Try.func82,Try.ntmps82
  go_wp2_with (first|(go_at_call 42;refine (H0.out _).mono ?_;rintro e w1 ⟨rfl,hb⟩;have HB:=aside (box_bel _ hb);clear hb))
  go_ret
  exact ⟨rfl,HB.out⟩
 | true =>
  go_enter Try.func82,Try.ntmps82
  go_wp2_with (first|(go_at_call 42;refine (H0.out _).mono ?_;rintro e w1 ⟨rfl,hb⟩;have c3 : w1.cell? ⟨w.heap.size,5,none⟩ = some (.string x.f3):=(hb.cell (p:=⟨w.heap.size,5,none⟩) (by simp)).trans (by simp);have HB:=aside (box_bel _ hb);clear hb)|(go_at_call 43;refine (H3.out _).mono ?_;rintro e w2 ⟨rfl,hb⟩;have HB2:=aside (HB.out.trans (hb.mono HB.out.size));clear hb))
  go_ret
  exact ⟨ok_bool (by simp),HB2.out⟩
set_option maxHeartbeats 1000000 in
theorem c83_any (x : S36) (w : World) : Calls Try.prog 83 #[.agg #[.string x.f0,.int .i64 x.f1.f0,.int .i64 x.f1.f1,.int .i64 x.f1.f2,.int .i64 x.f2,.string x.f3,.bool x.f4]] w fun e w'=>e = .returned (.bool (wadR x)) ∧ Below w.heap.size w w':=by
 have H0:=aside (fun W=>sized_any x.f1 W);have H1:=aside (fun W=>tinted_any x.f2 W)
 unfold wadR
 generalize sizedB x.f1 = q0 at H0;generalize tintedB x.f2 = q1 at H1
 cases q0 with
 | false =>
  go_enter Try.func83,Try.ntmps83
  go_wp2_with (first|(go_at_call 45;refine (H0.out _).mono ?_;rintro e w1 ⟨rfl,hb⟩;have HB:=aside (box_bel _ hb);clear hb))
  go_ret
  exact ⟨rfl,HB.out⟩
 | true =>
  go_enter Try.func83,Try.ntmps83
  go_wp2_with (first|(go_at_call 45;refine (H0.out _).mono ?_;rintro e w1 ⟨rfl,hb⟩;have c3 : w1.cell? ⟨w.heap.size,4,none⟩ = some (.int .i64 x.f2):=(hb.cell (p:=⟨w.heap.size,4,none⟩) (by simp)).trans (by simp);have HB:=aside (box_bel _ hb);clear hb)|(go_at_call 46;refine (H1.out _).mono ?_;rintro e w2 ⟨rfl,rfl⟩))
  go_ret
  exact ⟨ok_bool (by simp),HB.out⟩
set_option maxHeartbeats 1000000 in
theorem nameless_any (x : S39) (w : World) (h0 : x.f0.size ≤ 9223372036854775807) : Calls Try.prog 55 #[.agg #[.string x.f0,.int .i64 x.f1.f0,.int .i64 x.f1.f1,.int .i64 x.f1.f2,.int .i64 x.f2,.string x.f3,.string x.f4]] w fun e w'=>e = .returned (.bool (!lexName x.f0)) ∧ Below w.heap.size w w':=by
 have H0:=aside (fun W=>lexName_any x.f0 W h0);generalize lexName x.f0 = q0 at H0;clear h0
 go_enter Try.func55,Try.ntmps55
 go_wp2_with (first|(go_at_call 42;refine (H0.out _).mono ?_;rintro e w1 ⟨rfl,hb⟩;have HB:=aside (box_bel _ hb);clear hb))
 go_ret
 exact ⟨rfl,HB.out⟩
theorem eg41 : ∀ args w,(callFunc 41 args).run Try.prog w = .ok (.enter 41 args) w:=enters_of Try.func41 (by kernel_rfl) rfl
theorem eg44 : ∀ args w,(callFunc 44 args).run Try.prog w = .ok (.enter 44 args) w:=enters_of Try.func44 (by kernel_rfl) rfl
theorem eg82 : ∀ args w,(callFunc 82 args).run Try.prog w = .ok (.enter 82 args) w:=enters_of Try.func82 (by kernel_rfl) rfl
theorem eg83 : ∀ args w,(callFunc 83 args).run Try.prog w = .ok (.enter 83 args) w:=enters_of Try.func83 (by kernel_rfl) rfl
theorem eg55 : ∀ args w,(callFunc 55 args).run Try.prog w = .ok (.enter 55 args) w:=enters_of Try.func55 (by kernel_rfl) rfl
end Go.Proofs.Ytbggjmdelnmilaa.PA
