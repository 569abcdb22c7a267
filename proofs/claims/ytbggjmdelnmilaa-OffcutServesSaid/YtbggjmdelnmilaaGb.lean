import Derived.Test.YtbggjmdelnmilaaPAx66
import Derived.Shelf.Abstract
import Derived.WalkSpells
namespace Go.Proofs.Ytbggjmdelnmilaa.PA
open Go.RowKit Go.Shelf Go.Proofs.YtbggjmdelnmilaaW.PrintWords Go.Proofs.YtbggjmdelnmilaaW.PrintLast Go.Proofs.YtbggjmdelnmilaaW.PrintMore
set_option linter.unusedVariables false
set_option linter.unusedSimpArgs false
theorem sides_any (v : S24) (w : World) : Calls Try.prog 66 #[.agg #[.int .i64 v.f0,.int .i64 v.f1,.int .i64 v.f2]] w fun e w'=>e = .returned (.agg #[.int .i64 v.f0,.int .i64 v.f1,.int .i64 v.f2]) ∧ Below w.heap.size w w' :=
 offcut_sides.calls v.f0 v.f1 v.f2 _ _ _ w rfl
def min3 (v : S24) : Int:=min (min v.f0 v.f1) v.f2
def max3 (v : S24) : Int:=max (max v.f0 v.f1) v.f2
set_option maxHeartbeats 400000 in
theorem min_any (v : S24) (B : Nat) (w : World) (h0 : w.cell? ⟨B, 0, none⟩ = some (.int .i64 v.f0)) (h1 : w.cell? ⟨B, 1, none⟩ = some (.int .i64 v.f1)) (h2 : w.cell? ⟨B, 2, none⟩ = some (.int .i64 v.f2)) :
  Calls Try.prog 67 #[.slice (some ⟨B,0,none⟩) 3 3] w fun e w'=>e = .returned (.int .i64 (min3 v)) ∧ w' = w:=by
 go_enter Try.func67,Try.ntmps67
 go_wp2
 go_loopg [3,4] 3 (fun gg v3 v4 wr=>∃ n : Nat,1 ≤ n ∧ n ≤ 3 ∧ 3 - n ≤ gg ∧ v4 = .int .i64 n ∧ v3 = .int .i64 (if n = 1 then v.f0 else if n = 2 then min v.f0 v.f1 else min3 v) ∧ wr = w)
 case atStart=>exact ⟨1,by omega,by omega,by omega,rfl,rfl,rfl⟩
 case round =>
  obtain ⟨n,hn1,hn,hg,rfl,rfl,rfl⟩ := hrel
  rcases (show n = 1 ∨ n = 2 ∨ n = 3 by omega) with rfl|rfl|rfl
  ·have e1 : (if 1 = 1 then v.f0 else if 1 = 2 then min v.f0 v.f1 else min3 v) = v.f0:=rfl;rw [e1];by_cases h : v.f1 < v.f0
   all_goals
    go_wp2
    go_roundg 1
    case measure=>omega
    case rel=>exact ⟨2,by omega,by omega,by omega,by go_num,(by congr 1;simp;omega),rfl⟩
  ·have e1 : (if 2 = 1 then v.f0 else if 2 = 2 then min v.f0 v.f1 else min3 v) = min v.f0 v.f1:=rfl;have e2 : min3 v = min (min v.f0 v.f1) v.f2:=rfl;rw [e1];generalize min v.f0 v.f1 = m at e2;by_cases h : v.f2 < m
   all_goals
    go_wp2
    go_roundg 0
    case measure=>omega
    case rel=>exact ⟨3,by omega,by omega,by omega,by go_num,(by show Value.int .i64 _ = Value.int .i64 (min3 v);rw [e2];congr 1;omega),rfl⟩
  ·go_wp2
   go_ret
   exact ⟨rfl,rfl⟩
set_option maxHeartbeats 400000 in
theorem max_any (v : S24) (B : Nat) (w : World) (h0 : w.cell? ⟨B, 0, none⟩ = some (.int .i64 v.f0)) (h1 : w.cell? ⟨B, 1, none⟩ = some (.int .i64 v.f1)) (h2 : w.cell? ⟨B, 2, none⟩ = some (.int .i64 v.f2)) :
  Calls Try.prog 77 #[.slice (some ⟨B,0,none⟩) 3 3] w fun e w'=>e = .returned (.int .i64 (max3 v)) ∧ w' = w:=by
 go_enter Try.func77,Try.ntmps77
 go_wp2
 go_loopg [3,4] 3 (fun gg v3 v4 wr=>∃ n : Nat,1 ≤ n ∧ n ≤ 3 ∧ 3 - n ≤ gg ∧ v4 = .int .i64 n ∧ v3 = .int .i64 (if n = 1 then v.f0 else if n = 2 then max v.f0 v.f1 else max3 v) ∧ wr = w)
 case atStart=>exact ⟨1,by omega,by omega,by omega,rfl,rfl,rfl⟩
 case round =>
  obtain ⟨n,hn1,hn,hg,rfl,rfl,rfl⟩ := hrel
  rcases (show n = 1 ∨ n = 2 ∨ n = 3 by omega) with rfl|rfl|rfl
  ·have e1 : (if 1 = 1 then v.f0 else if 1 = 2 then max v.f0 v.f1 else max3 v) = v.f0:=rfl;rw [e1];by_cases h : v.f0 < v.f1
   all_goals
    go_wp2
    go_roundg 1
    case measure=>omega
    case rel=>exact ⟨2,by omega,by omega,by omega,by go_num,(by congr 1;simp;omega),rfl⟩
  ·have e1 : (if 2 = 1 then v.f0 else if 2 = 2 then max v.f0 v.f1 else max3 v) = max v.f0 v.f1:=rfl;have e2 : max3 v = max (max v.f0 v.f1) v.f2:=rfl;rw [e1];generalize max v.f0 v.f1 = m at e2;by_cases h : m < v.f2
   all_goals
    go_wp2
    go_roundg 0
    case measure=>omega
    case rel=>exact ⟨3,by omega,by omega,by omega,by go_num,(by show Value.int .i64 _ = Value.int .i64 (max3 v);rw [e2];congr 1;omega),rfl⟩
  ·go_wp2
   go_ret
   exact ⟨rfl,rfl⟩
end Go.Proofs.Ytbggjmdelnmilaa.PA
