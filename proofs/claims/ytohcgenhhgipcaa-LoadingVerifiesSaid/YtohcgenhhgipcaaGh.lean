import Derived.Test.YtohcgenhhgipcaaGg
namespace Go.Proofs.Ytohcgenhhgipcaa.PA
open Go.RowKit Go.Shelf Go.Proofs.YtohcgenhhgipcaaW.PrintWords Go.Proofs.YtohcgenhhgipcaaW.PrintLast Go.Proofs.YtohcgenhhgipcaaW.PrintMore
set_option linter.unusedVariables false
set_option linter.unusedSimpArgs false

/-! The predicates of loading.Verify and loading.Moments -/
theorem al1 (w : World) (o : Obj) : Below w.heap.size w (w.alloc o):=(Below.refl _ _).alloc (Nat.le_refl _) o
theorem al1_then {w : World} (o : Obj) {w1 : World} (h : Below (w.alloc o).heap.size (w.alloc o) w1) : Below w.heap.size w w1:=(al1 w o).trans (h.mono (by simp))
def onB (t : S24) (x : S61) : Bool:=decide (0 ≤ x.f1) && decide (x.f1 ≤ wrap64 (t.f1 - x.f2))
abbrev e61 (x : S61) : Value:=.agg #[.string x.f0,.int .i64 x.f1,.int .i64 x.f2,.int .i64 x.f3]
set_option maxHeartbeats 400000 in
theorem onBed_any (t : S24) (x : S61) (w : World) : Calls Try.prog 49 #[e24 t,e61 x] w fun e w'=>e = .returned (.bool (onB t x)) ∧ Below w.heap.size w w':=by
 obtain ⟨nm,ln,fr,re,⟨l0,l1⟩,⟨e0,e1⟩⟩ := t;obtain ⟨y0,y1,y2,y3⟩ := x
 unfold onB
 unfold e24 e61
 dsimp only
 by_cases h : 0 ≤ y1
 ·have h1 : decide (0 ≤ y1) = true:=decide_eq_true h;rw [h1]
  go_enter Try.func49,Try.ntmps49
  go_wp2
  go_ret
  exact ⟨ok_bool (by simp [IntWalk.i64_left]),(al1 _ _).trans ((al1 _ _).mono (by simp))⟩
 ·have h1 : decide (0 ≤ y1) = false:=decide_eq_false h;rw [h1]
  go_enter Try.func49,Try.ntmps49
  go_wp2
  go_ret
  exact ⟨ok_bool (by simp),(al1 _ _).trans ((al1 _ _).mono (by simp))⟩
theorem eg48 : ∀ args w,(callFunc 48 args).run Try.prog w = .ok (.enter 48 args) w:=enters_of Try.func48 (by kernel_rfl) rfl
set_option maxHeartbeats 400000 in
theorem c48_any (t : S24) (x : S61) (B : Nat) (w : World) (hrow : Rowed w B 24 (rowT t)) : Calls Try.prog 48 #[e61 x,.pointer (some ⟨B,0,none⟩)] w fun e w'=>e = .returned (.bool (!onB t x)) ∧ Below w.heap.size w w':=by
 have hB:=hrow.lt
 have C:=fun W=>onBed_any t x W
 generalize onB t x = q at C ⊢;obtain ⟨nm,ln,fr,re,⟨l0,l1⟩,⟨e0,e1⟩⟩ := t;obtain ⟨y0,y1,y2,y3⟩ := x
 unfold e24 e61 at *
 dsimp only at *
 have HC:=aside C
 have hne : B ≠ w.heap.size:=by omega
 have c0 : w.cell? ⟨B,0,none⟩ = some (.string nm):=blk_cell hrow 0;have c1 : w.cell? ⟨B,1,none⟩ = some (.int .i64 ln):=blk_cell hrow 1;have c2 : w.cell? ⟨B,2,none⟩ = some (.int .i64 fr):=blk_cell hrow 2;have c3 : w.cell? ⟨B,3,none⟩ = some (.int .i64 re):=blk_cell hrow 3;have c4 : w.cell? ⟨B,4,none⟩ = some (.int .i64 l0):=blk_cell hrow 4;have c5 : w.cell? ⟨B,5,none⟩ = some (.int .i64 l1):=blk_cell hrow 5;have c6 : w.cell? ⟨B,6,none⟩ = some (.int .i64 e0):=blk_cell hrow 6;have c7 : w.cell? ⟨B,7,none⟩ = some (.int .i64 e1):=blk_cell hrow 7;clear hrow C
 go_enter Try.func48,Try.ntmps48
 go_wp2_with (go_at_call 49;refine (HC.out _).mono ?_;rintro e w1 ⟨rfl,hb⟩;have HBB:=aside (al1_then _ hb);clear hb)
 go_ret
 exact ⟨rfl,HBB.out⟩
theorem eg55 : ∀ args w,(callFunc 55 args).run Try.prog w = .ok (.enter 55 args) w:=enters_of Try.func55 (by kernel_rfl) rfl
set_option maxHeartbeats 400000 in
theorem c55_any (t : S24) (x : S61) (B : Nat) (w : World) (hrow : Rowed w B 24 (rowT t)) : Calls Try.prog 55 #[e61 x,.pointer (some ⟨B,0,none⟩)] w fun e w'=>e = .returned (.bool (!onB t x)) ∧ Below w.heap.size w w':=by
 have hB:=hrow.lt
 have C:=fun W=>onBed_any t x W
 generalize onB t x = q at C ⊢;obtain ⟨nm,ln,fr,re,⟨l0,l1⟩,⟨e0,e1⟩⟩ := t;obtain ⟨y0,y1,y2,y3⟩ := x
 unfold e24 e61 at *
 dsimp only at *
 have HC:=aside C
 have hne : B ≠ w.heap.size:=by omega
 have c0 : w.cell? ⟨B,0,none⟩ = some (.string nm):=blk_cell hrow 0;have c1 : w.cell? ⟨B,1,none⟩ = some (.int .i64 ln):=blk_cell hrow 1;have c2 : w.cell? ⟨B,2,none⟩ = some (.int .i64 fr):=blk_cell hrow 2;have c3 : w.cell? ⟨B,3,none⟩ = some (.int .i64 re):=blk_cell hrow 3;have c4 : w.cell? ⟨B,4,none⟩ = some (.int .i64 l0):=blk_cell hrow 4;have c5 : w.cell? ⟨B,5,none⟩ = some (.int .i64 l1):=blk_cell hrow 5;have c6 : w.cell? ⟨B,6,none⟩ = some (.int .i64 e0):=blk_cell hrow 6;have c7 : w.cell? ⟨B,7,none⟩ = some (.int .i64 e1):=blk_cell hrow 7;clear hrow C
 go_enter Try.func55,Try.ntmps55
 go_wp2_with (go_at_call 49;refine (HC.out _).mono ?_;rintro e w1 ⟨rfl,hb⟩;have HBB:=aside (al1_then _ hb);clear hb)
 go_ret
 exact ⟨rfl,HBB.out⟩
def unk (t : S24) (x : S54) : Bool := !(x.f0.toList == t.f0.toList)
theorem eg43 : ∀ args w,(callFunc 43 args).run Try.prog w = .ok (.enter 43 args) w:=enters_of Try.func43 (by kernel_rfl) rfl
theorem eg44 : ∀ args w,(callFunc 44 args).run Try.prog w = .ok (.enter 44 args) w:=enters_of Try.func44 (by kernel_rfl) rfl
theorem eg46 : ∀ args w,(callFunc 46 args).run Try.prog w = .ok (.enter 46 args) w:=enters_of Try.func46 (by kernel_rfl) rfl
theorem eg50 : ∀ args w,(callFunc 50 args).run Try.prog w = .ok (.enter 50 args) w:=enters_of Try.func50 (by kernel_rfl) rfl
theorem eg52 : ∀ args w,(callFunc 52 args).run Try.prog w = .ok (.enter 52 args) w:=enters_of Try.func52 (by kernel_rfl) rfl
theorem eg68 : ∀ args w,(callFunc 68 args).run Try.prog w = .ok (.enter 68 args) w:=enters_of Try.func68 (by kernel_rfl) rfl
set_option maxHeartbeats 400000 in
theorem c43_any (t : S24) (x : S54) (A : Option Addr) (c B : Nat) (w : World) (hrow : Rowed w B 24 (rowT t)) : Calls Try.prog 43 #[.agg #[.string x.f0,.slice A x.f1.length c],.pointer (some ⟨B,0,none⟩)] w fun e w'=>e = .returned (.bool (unk t x)) ∧ Below w.heap.size w w':=by
 have hB:=hrow.lt
 have hne : B ≠ w.heap.size:=by omega
 have c0 : w.cell? ⟨B,0,none⟩ = some (.string t.f0):=blk_cell hrow 0
 unfold unk
 obtain ⟨x0,x1⟩ := x
 dsimp only
 generalize t.f0 = s at c0 ⊢;clear hrow
 go_enter Try.func43,Try.ntmps43
 go_wp2
 go_ret
 exact ⟨ok_bool (by first|rfl|simp),al1 _ _⟩
set_option maxHeartbeats 400000 in
theorem c44_any (x : S54) (A : Option Addr) (c : Nat) (w : World) : Calls Try.prog 44 #[.agg #[.string x.f0,.slice A x.f1.length c]] w fun e w'=>e = .returned (.bool (x.f1.isEmpty)) ∧ Below w.heap.size w w':=by
 obtain ⟨x0,x1⟩ := x
 dsimp only
 go_enter Try.func44,Try.ntmps44
 go_wp2
 go_ret
 exact ⟨ok_bool (by cases x1 with|nil=>rfl|cons a r=>simp;omega),al1 _ _⟩
set_option maxHeartbeats 400000 in
theorem c46_any (t : S24) (x : S54) (A : Option Addr) (c B : Nat) (w : World) (hr : Kd.C k61 w A x.f1.length x.f1) (hrow : Rowed w B 24 (rowT t)) : Calls Try.prog 46 #[.agg #[.string x.f0,.slice A x.f1.length c],.pointer (some ⟨B,0,none⟩)] w fun e w'=>e = .returned (.bool (x.f1.any fun y=>!onB t y)) ∧ Below w.heap.size w w':=by
 have C : ∀ W,Below w.heap.size w W → Calls Try.prog 47 #[.slice A x.f1.length c,.func (.func 48) #[] #[.pointer (some ⟨B,0,none⟩)]] W fun e w'=>e = .returned (.bool (x.f1.any fun y=>!onB t y)) ∧ Below W.heap.size W w':=fun W hb =>
  any47 (fun y=>!onB t y) 48 #[.pointer (some ⟨B,0,none⟩)] eg48 A c x.f1 W (Kd.C_below hr hb) (fun W' y hy hb'=>c48_any t y B W' ((hrow.below hb hrow.lt).below hb' (Nat.lt_of_lt_of_le hrow.lt hb.size)))
 generalize (x.f1.any fun y=>!onB t y) = q at C ⊢;obtain ⟨x0,x1⟩ := x
 dsimp only at *
 have HC:=aside C;clear hrow C hr
 go_enter Try.func46,Try.ntmps46
 go_wp2_with (go_at_call 47;refine (HC.out _ (al1 _ _)).mono ?_;rintro e w1 ⟨rfl,hb⟩;have HBB:=aside (al1_then _ hb);clear hb)
 go_ret
 exact ⟨rfl,HBB.out⟩
set_option maxHeartbeats 400000 in
theorem c52_any (t : S24) (x : S54) (A : Option Addr) (c B : Nat) (w : World) (hr : Kd.C k61 w A x.f1.length x.f1) (hc : x.f1.length ≤ c) (hlen : x.f1.length ≤ 1000000000) (hrow : Rowed w B 24 (rowT t)) : Calls Try.prog 52 #[.agg #[.string x.f0,.slice A x.f1.length c],.pointer (some ⟨B,0,none⟩)] w fun e w'=>e = .returned (.bool (!bearsB t x.f1)) ∧ Below w.heap.size w w':=by
 have C : ∀ W,Below w.heap.size w W → Calls Try.prog 53 #[e24 t,.slice A x.f1.length c] W fun e w'=>e = .returned (.bool (bearsB t x.f1)) ∧ Below W.heap.size W w':=fun W hb=>bears_any t A c x.f1 W (Kd.C_below hr hb) hc hlen
 have hB:=hrow.lt
 have hne : B ≠ w.heap.size:=by omega
 generalize bearsB t x.f1 = q at C ⊢;obtain ⟨nm,ln,fr,re,⟨l0,l1⟩,⟨e0,e1⟩⟩ := t;obtain ⟨x0,x1⟩ := x
 unfold e24 at *
 dsimp only at *
 have HC:=aside C;have c0 : w.cell? ⟨B,0,none⟩ = some (.string nm):=blk_cell hrow 0;have c1 : w.cell? ⟨B,1,none⟩ = some (.int .i64 ln):=blk_cell hrow 1;have c2 : w.cell? ⟨B,2,none⟩ = some (.int .i64 fr):=blk_cell hrow 2;have c3 : w.cell? ⟨B,3,none⟩ = some (.int .i64 re):=blk_cell hrow 3;have c4 : w.cell? ⟨B,4,none⟩ = some (.int .i64 l0):=blk_cell hrow 4;have c5 : w.cell? ⟨B,5,none⟩ = some (.int .i64 l1):=blk_cell hrow 5;have c6 : w.cell? ⟨B,6,none⟩ = some (.int .i64 e0):=blk_cell hrow 6;have c7 : w.cell? ⟨B,7,none⟩ = some (.int .i64 e1):=blk_cell hrow 7;clear hrow C hr hc hlen
 go_enter Try.func52,Try.ntmps52
 go_wp2_with (go_at_call 53;refine (HC.out _ (al1 _ _)).mono ?_;rintro e w1 ⟨rfl,hb⟩;have HBB:=aside (al1_then _ hb);clear hb)
 go_ret
 exact ⟨rfl,HBB.out⟩
def overB (p : Int) (y : S61) : Bool:=decide (p < wrap64 (y.f1 + y.f2))
set_option maxHeartbeats 400000 in
theorem c68_any (y : S61) (p : Int) (B : Nat) (w : World) (hc : w.cell? ⟨B,1,none⟩ = some (.int .i64 p)) : Calls Try.prog 68 #[e61 y,.pointer (some ⟨B,0,none⟩)] w fun e w'=>e = .returned (.bool (overB p y)) ∧ Below w.heap.size w w':=by
 have hB : B < w.heap.size:=World.block_lt_of_cell? w _ hc
 have hne : B ≠ w.heap.size:=by omega
 unfold overB
 obtain ⟨y0,y1,y2,y3⟩ := y
 unfold e61
 dsimp only
 go_enter Try.func68,Try.ntmps68
 go_wp2
 go_ret
 exact ⟨ok_bool (by simp [IntWalk.i64_left]),al1 _ _⟩
end Go.Proofs.Ytohcgenhhgipcaa.PA
