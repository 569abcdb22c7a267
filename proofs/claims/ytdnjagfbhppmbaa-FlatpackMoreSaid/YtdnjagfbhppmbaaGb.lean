import Derived.Test.YtdnjagfbhppmbaaGa
namespace Go.Proofs.Ytdnjagfbhppmbaa.PA
open Go.RowKit Go.Shelf Go.Proofs.YtdnjagfbhppmbaaW.PrintWords Go.Proofs.YtdnjagfbhppmbaaW.PrintLast Go.Proofs.YtdnjagfbhppmbaaW.PrintMore
set_option linter.unusedVariables false
set_option linter.unusedSimpArgs false
def sideB (n : Int) : Bool:=decide (1 ≤ n ∧ n ≤ 40)
set_option maxHeartbeats 400000 in
theorem side_any (n : Int) (w : World) : Calls Try.prog 48 #[.int .i64 n] w fun e w'=>e = .returned (.bool (sideB n)) ∧ w = w':=by
 unfold sideB
 by_cases h1 : 1 ≤ n
 ·go_enter Try.func48,Try.ntmps48
  go_wp2
  go_ret
  exact ⟨ok_bool (by rw [Bool.eq_iff_iff];simp [h1]),rfl⟩
 ·go_enter Try.func48,Try.ntmps48
  go_wp2
  go_ret
  exact ⟨ok_bool (by rw [Bool.eq_iff_iff];simp;omega),rfl⟩
set_option maxHeartbeats 400000 in
theorem c49_any (x : S36) (w : World) (hs : x.f0.size ≤ 9223372036854775807) : Calls Try.prog 49 #[e36 x] w fun e w'=>e = .returned (.bool (!lexName x.f0)) ∧ Below w.heap.size w w':=by
 have hl:=fun W=>lexName_any x.f0 W hs
 unfold e36
 generalize lexName x.f0 = q at hl ⊢;have HL:=aside hl;clear hl hs
 go_enter Try.func49,Try.ntmps49
 go_wp2_with (go_at_call 50;refine (HL.out _).mono ?_;rintro e w1 ⟨rfl,hb⟩)
 go_ret
 exact ⟨rfl,(((Below.refl _ _).alloc (Nat.le_refl _) _).trans (hb.mono (by simp)))⟩
set_option maxHeartbeats 400000 in
theorem c52_any (x : S36) (w : World) : Calls Try.prog 52 #[e36 x] w fun e w'=>e = .returned (.bool (x.f1.f2 != 1)) ∧ Below w.heap.size w w':=by
 unfold e36
 go_enter Try.func52,Try.ntmps52
 go_wp2
 go_ret
 exact ⟨rfl,(Below.refl _ _).alloc (Nat.le_refl _) _⟩
def badSize (x : S36) : Bool := !sideB x.f1.f0 || (!sideB x.f1.f1 || (decide (x.f2 < 0) || decide (1000000000 < x.f2)))
set_option maxHeartbeats 400000 in
theorem c51_any (x : S36) (b : Nat) (w : World) (hc : w.cell? ⟨b,0,none⟩ = some (.func (.func 48) #[] #[])) (hb : b < w.heap.size) : Calls Try.prog 51 #[e36 x,.pointer (some ⟨b,0,none⟩)] w fun e w'=>e = .returned (.bool (badSize x)) ∧ Below w.heap.size w w':=by
 unfold badSize e36
 cases hq : sideB x.f1.f0 with
 | false =>
  go_enter Try.func51,Try.ntmps51
  go_wp2_with (go_at_call 48;refine (side_any _ _).mono ?_;rintro e w1 ⟨rfl,rfl⟩)
  go_ret
  exact ⟨ok_bool (by simp),(Below.refl _ _).alloc (Nat.le_refl _) _⟩
 | true =>
  cases hq2 : sideB x.f1.f1 with
  | false =>
   go_enter Try.func51,Try.ntmps51
   go_wp2_with (go_at_call 48;refine (side_any _ _).mono ?_;rintro e w1 ⟨rfl,rfl⟩)
   go_ret
   exact ⟨ok_bool (by simp),(Below.refl _ _).alloc (Nat.le_refl _) _⟩
  | true =>
   by_cases h3 : x.f2 < 0
   ·go_enter Try.func51,Try.ntmps51
    go_wp2_with (go_at_call 48;refine (side_any _ _).mono ?_;rintro e w1 ⟨rfl,rfl⟩)
    go_ret
    exact ⟨ok_bool (by simp [h3]),(Below.refl _ _).alloc (Nat.le_refl _) _⟩
   ·have H3:=aside h3
    go_enter Try.func51,Try.ntmps51
    go_wp2_with (go_at_call 48;refine (side_any _ _).mono ?_;rintro e w1 ⟨rfl,rfl⟩)
    go_ret
    exact ⟨ok_bool (by simp [H3.out]),(Below.refl _ _).alloc (Nat.le_refl _) _⟩
set_option maxHeartbeats 400000 in
theorem c46_any (p : S36 → Bool) (g : Nat) (lb : Array Value) (eg : ∀ args w, (callFunc g args).run Try.prog w = .ok (.enter g args) w) (b : Nat) (A : Option Addr) (c : Nat) (l : List S36) (w : World) (hr : Kd.C k36 w A l.length l) (hp : Pred36 l g lb p w)
  (hc : w.cell? ⟨b,0,none⟩ = some (.slice A l.length c)) (hb : b < w.heap.size) :
  Calls Try.prog 46 #[.func (.func g) #[] lb,.pointer (some ⟨b,0,none⟩)] w fun e w'=>e = .returned (.bool (l.any p)) ∧ Below w.heap.size w w':=by
 have hi:=any47 p g lb eg A c l w hr hp;generalize l.any p = q at hi ⊢;have HI:=aside hi;clear hi hp hr
 go_enter Try.func46,Try.ntmps46
 go_wp2_with (go_at_call 47;refine HI.out.mono ?_;rintro e w1 ⟨rfl,hb⟩)
 go_ret
 exact ⟨rfl,hb⟩
theorem eg49 : ∀ args w,(callFunc 49 args).run Try.prog w = .ok (.enter 49 args) w:=enters_of Try.func49 (by kernel_rfl) rfl
theorem eg51 : ∀ args w,(callFunc 51 args).run Try.prog w = .ok (.enter 51 args) w:=enters_of Try.func51 (by kernel_rfl) rfl
theorem eg52 : ∀ args w,(callFunc 52 args).run Try.prog w = .ok (.enter 52 args) w:=enters_of Try.func52 (by kernel_rfl) rfl
def dupAt (l : List S36) (i : Nat) : Bool := !(Op.bytesLess (l.getD (i - 1) z36).f0.toList (l.getD i z36).f0.toList)
def dupB (l : List S36) : Bool:=(List.range l.length).any fun i=>decide (1 ≤ i) && dupAt l i
def checkR (a0 a1 : Int) (l : List S36) (a3 : Int) : Int :=
 if sideB a0 = true ∧ sideB a1 = true ∧ ¬ a3 < 0 ∧ ¬ 40 < a3 then
  if 6 < l.length then 7
  else if l.any (fun x=>!lexName x.f0) = true then 4
  else if l.any badSize = true then 6
  else if l.any (fun x=>x.f1.f2 != 1) = true then 1
  else if dupB l = true then 5 else 0
 else 6
end Go.Proofs.Ytdnjagfbhppmbaa.PA
