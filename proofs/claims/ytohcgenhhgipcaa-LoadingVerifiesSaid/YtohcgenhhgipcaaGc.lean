import Derived.Test.YtohcgenhhgipcaaGb
namespace Go.Proofs.Ytohcgenhhgipcaa.PA
open Go.RowKit Go.Shelf Go.Proofs.YtohcgenhhgipcaaW.PrintWords Go.Proofs.YtohcgenhhgipcaaW.PrintLast Go.Proofs.YtohcgenhhgipcaaW.PrintMore
set_option linter.unusedVariables false
set_option linter.unusedSimpArgs false

def nmC (x : S64) : Bool := !lexName x.f0
def plainR (t : S24) (l : List S64) : Int :=
 if 64 < l.length then 7 else if lexName t.f0 = true then (if l.any nmC = true then 4 else if trkB t = true then (if l.any badC = true then 6 else 0) else 6) else 4
abbrev e24 (t : S24) : Value:=.agg #[.string t.f0,.int .i64 t.f1,.int .i64 t.f2,.int .i64 t.f3,.int .i64 t.f4.f0,.int .i64 t.f4.f1,.int .i64 t.f5.f0,.int .i64 t.f5.f1]
theorem plain_bel {w : World} (o : Obj) {w1 : World} (h : Below (w.alloc o).heap.size (w.alloc o) w1) : Below w.heap.size w w1:=((Below.refl _ _).alloc (Nat.le_refl _) o).trans (h.mono (by simp))
set_option maxRecDepth 100000 in
set_option maxHeartbeats 2000000 in
theorem plain_any (t : S24) (A : Option Addr) (c : Nat) (l : List S64) (w : World) (hr : Kd.C k64 w A l.length l) (hs : t.f0.size ≤ 9223372036854775807) (hl : ∀ x ∈ l, x.f0.size ≤ 9223372036854775807) :
  Calls Try.prog 31 #[e24 t,.slice A l.length c] w fun e w'=>e = .returned (.int .i64 (plainR t l)) ∧ Below w.heap.size w w':=by
 have CN:=fun W=>lexName_any t.f0 W hs
 have CA : ∀ W,Below w.heap.size w W → Calls Try.prog 32 #[.slice A l.length c,.func (.func 60) #[] #[]] W fun e w'=>e = .returned (.bool (l.any nmC)) ∧ Below W.heap.size W w':=fun W hB =>
  any32 nmC 60 #[] eg60 A c l W (Kd.C_below hr hB) (fun W' x hx _=>c60_any x W' (hl x hx))
 have CB : ∀ W,Below w.heap.size w W → Calls Try.prog 32 #[.slice A l.length c,.func (.func 62) #[] #[]] W fun e w'=>e = .returned (.bool (l.any badC)) ∧ Below W.heap.size W w':=fun W hB =>
  any32 badC 62 #[] eg62 A c l W (Kd.C_below hr hB) (fun W' x hx _=>c62_any x W')
 have CT:=fun W=>truck_any t W
 unfold plainR
 unfold e24
 generalize trkB t = q at CT ⊢;generalize lexName t.f0 = q2 at CN ⊢;generalize l.any nmC = q3 at CA ⊢;generalize l.any badC = q4 at CB ⊢;obtain ⟨nm,ln,fr,re,⟨l0,l1⟩,⟨e0,e1⟩⟩ := t
 dsimp only at *
 have HN:=aside CN;have HA:=aside CA;have HB:=aside CB;have HT:=aside CT
 clear CN CA CB CT hs hl hr;by_cases h64 : 64 < l.length
 ·rw [if_pos h64];have d64 : decide (64 < l.length) = true:=decide_eq_true h64
  go_enter Try.func31,Try.ntmps31
  go_wp2
  go_ret
  exact ⟨rfl,(Below.refl _ _).alloc (Nat.le_refl _) _⟩
 ·rw [if_neg h64];have d64 : decide (64 < l.length) = false:=decide_eq_false h64
  cases q2 with
  | false =>
   go_enter Try.func31,Try.ntmps31
   go_wp2_with (go_at_call 59;refine (HN.out _).mono ?_;rintro e w1 ⟨rfl,hb⟩;have HB1:=aside (plain_bel _ hb);clear hb)
   go_ret
   exact ⟨rfl,HB1.out⟩
  | true =>
   cases q3 with
   | true =>
    go_enter Try.func31,Try.ntmps31
    go_wp2_with (first|(go_at_call 59;refine (HN.out _).mono ?_;rintro e w1 ⟨rfl,hb⟩;have HB1:=aside (plain_bel _ hb);clear hb)|(go_at_call 32;refine (HA.out _ HB1.out).mono ?_;rintro e w2 ⟨rfl,hb⟩;have HB2:=aside (HB1.out.trans (hb.mono HB1.out.size));clear hb))
    go_ret
    exact ⟨rfl,HB2.out⟩
   | false =>
    cases q with
    | false =>
     go_enter Try.func31,Try.ntmps31
     go_wp2_with (first|(go_at_call 59;refine (HN.out _).mono ?_;rintro e w1 ⟨rfl,hb⟩;have HBK:=aside hb;have HB1:=aside (plain_bel _ hb);clear hb)|(go_at_call 32;refine (HA.out _ HB1.out).mono ?_;rintro e w2 ⟨rfl,hb⟩;have HB2:=aside (HB1.out.trans (hb.mono HB1.out.size));have ck : ∀ (k : Nat) v,(w.alloc (.cells #[.string nm,.int .i64 ln,.int .i64 fr,.int .i64 re,.int .i64 l0,.int .i64 l1,.int .i64 e0,.int .i64 e1] 24)).cell? ⟨w.heap.size,k,none⟩ = some v → w2.cell? ⟨w.heap.size,k,none⟩ = some v:=(fun k v h=>(hb.cell (p:=⟨w.heap.size,k,none⟩) (Nat.lt_of_lt_of_le (by simp) HBK.out.size)).trans ((HBK.out.cell (p:=⟨w.heap.size,k,none⟩) (by simp)).trans h));have c0:=ck 0 (.string nm) (by simp);have c1:=ck 1 (.int .i64 ln) (by simp);have c2:=ck 2 (.int .i64 fr) (by simp);have c3:=ck 3 (.int .i64 re) (by simp);have c4:=ck 4 (.int .i64 l0) (by simp);have c5:=ck 5 (.int .i64 l1) (by simp);have c6:=ck 6 (.int .i64 e0) (by simp);have c7:=ck 7 (.int .i64 e1) (by simp);clear hb ck)|(go_at_call 61;refine (HT.out _).mono ?_;rintro e w3 ⟨rfl,hb⟩;have HB3:=aside (HB2.out.trans (hb.mono HB2.out.size));clear hb))
     go_ret
     exact ⟨rfl,HB3.out⟩
    | true =>
     cases q4 with
     | false =>
      go_enter Try.func31,Try.ntmps31
      go_wp2_with (first|(go_at_call 59;refine (HN.out _).mono ?_;rintro e w1 ⟨rfl,hb⟩;have HBK:=aside hb;have HB1:=aside (plain_bel _ hb);clear hb)|(go_at_call 32;refine (HA.out _ HB1.out).mono ?_;rintro e w2 ⟨rfl,hb⟩;have HB2:=aside (HB1.out.trans (hb.mono HB1.out.size));have ck : ∀ (k : Nat) v,(w.alloc (.cells #[.string nm,.int .i64 ln,.int .i64 fr,.int .i64 re,.int .i64 l0,.int .i64 l1,.int .i64 e0,.int .i64 e1] 24)).cell? ⟨w.heap.size,k,none⟩ = some v → w2.cell? ⟨w.heap.size,k,none⟩ = some v:=(fun k v h=>(hb.cell (p:=⟨w.heap.size,k,none⟩) (Nat.lt_of_lt_of_le (by simp) HBK.out.size)).trans ((HBK.out.cell (p:=⟨w.heap.size,k,none⟩) (by simp)).trans h));have c0:=ck 0 (.string nm) (by simp);have c1:=ck 1 (.int .i64 ln) (by simp);have c2:=ck 2 (.int .i64 fr) (by simp);have c3:=ck 3 (.int .i64 re) (by simp);have c4:=ck 4 (.int .i64 l0) (by simp);have c5:=ck 5 (.int .i64 l1) (by simp);have c6:=ck 6 (.int .i64 e0) (by simp);have c7:=ck 7 (.int .i64 e1) (by simp);clear hb ck)|(go_at_call 61;refine (HT.out _).mono ?_;rintro e w3 ⟨rfl,hb⟩;have HB3:=aside (HB2.out.trans (hb.mono HB2.out.size));clear hb)|(go_at_call 32;refine (HB.out _ HB3.out).mono ?_;rintro e w4 ⟨rfl,hb⟩;have HB4:=aside (HB3.out.trans (hb.mono HB3.out.size));clear hb))
      go_ret
      exact ⟨rfl,HB4.out⟩
     | true =>
      go_enter Try.func31,Try.ntmps31
      go_wp2_with (first|(go_at_call 59;refine (HN.out _).mono ?_;rintro e w1 ⟨rfl,hb⟩;have HBK:=aside hb;have HB1:=aside (plain_bel _ hb);clear hb)|(go_at_call 32;refine (HA.out _ HB1.out).mono ?_;rintro e w2 ⟨rfl,hb⟩;have HB2:=aside (HB1.out.trans (hb.mono HB1.out.size));have ck : ∀ (k : Nat) v,(w.alloc (.cells #[.string nm,.int .i64 ln,.int .i64 fr,.int .i64 re,.int .i64 l0,.int .i64 l1,.int .i64 e0,.int .i64 e1] 24)).cell? ⟨w.heap.size,k,none⟩ = some v → w2.cell? ⟨w.heap.size,k,none⟩ = some v:=(fun k v h=>(hb.cell (p:=⟨w.heap.size,k,none⟩) (Nat.lt_of_lt_of_le (by simp) HBK.out.size)).trans ((HBK.out.cell (p:=⟨w.heap.size,k,none⟩) (by simp)).trans h));have c0:=ck 0 (.string nm) (by simp);have c1:=ck 1 (.int .i64 ln) (by simp);have c2:=ck 2 (.int .i64 fr) (by simp);have c3:=ck 3 (.int .i64 re) (by simp);have c4:=ck 4 (.int .i64 l0) (by simp);have c5:=ck 5 (.int .i64 l1) (by simp);have c6:=ck 6 (.int .i64 e0) (by simp);have c7:=ck 7 (.int .i64 e1) (by simp);clear hb ck)|(go_at_call 61;refine (HT.out _).mono ?_;rintro e w3 ⟨rfl,hb⟩;have HB3:=aside (HB2.out.trans (hb.mono HB2.out.size));clear hb)|(go_at_call 32;refine (HB.out _ HB3.out).mono ?_;rintro e w4 ⟨rfl,hb⟩;have HB4:=aside (HB3.out.trans (hb.mono HB3.out.size));clear hb))
      go_ret
      exact ⟨rfl,HB4.out⟩
end Go.Proofs.Ytohcgenhhgipcaa.PA
