import Derived.Test.YtdnjagfbhppmbaaGd
import Derived.RangeFuncNested
import Derived.RangeFuncBound
import Derived.RangeFuncCalls
import Derived.RangeFuncLeaves
import Derived.Shelf.Abstract
import Derived.Shelf.RegionOpen
import Derived.OwnWalkIn
import Derived.TacticsInMore
import Derived.LoopNIn
import Derived.LoopIn
import Derived.Sort.BigQuietIn
import Derived.Laws.CopyOwn
namespace Go.Proofs.Ytdnjagfbhppmbaa.PA
open Go.RowKit Go.Shelf Go.Proofs.YtdnjagfbhppmbaaW.PrintWords Go.Proofs.YtdnjagfbhppmbaaW.PrintLast Go.Proofs.YtdnjagfbhppmbaaW.PrintMore
set_option linter.unusedVariables false
set_option linter.unusedSimpArgs false
def axo (ax : Int) : Nat:=if ax = 0 then 0 else if ax = 1 then 1 else 2
def vset (v : S34) (ax n : Int) : S34:=if ax = 0 then ⟨n,v.f1,v.f2⟩ else if ax = 1 then ⟨v.f0,n,v.f2⟩ else ⟨v.f0,v.f1,n⟩
def c80 (b : S80) : Array Value:=#[.int .i64 b.f0.f0,.int .i64 b.f0.f1,.int .i64 b.f0.f2,.int .i64 b.f1.f0,.int .i64 b.f1.f1,.int .i64 b.f1.f2]
def a59 (n : S59) : Array Value:=#[.int .i64 n.f0,.string n.f1,.int .i64 n.f2,.int .i64 n.f3,.int .i64 n.f4,.int .i64 n.f5,.int .i64 n.f6]
def z80c : Array Value:=#[.int .i64 0,.int .i64 0,.int .i64 0,.int .i64 0,.int .i64 0,.int .i64 0]
structure V1 (W : World) (C : Array Value) (b : Nat → Bool) (w : World) (g : Nat → Nat) : Prop where
 bel : Below W.heap.size W w
 row : ∀ i,i < 3 → b (3 + i) = true → W.heap.size ≤ g i ∧ w.heap[g i]? = some (.cells (if b (6 + i) = true then C else z80c) 80 (0,0))
 ne : ∀ i j,i < 3 → j < 3 → i ≠ j → b (3 + i) = true → b (3 + j) = true → g i ≠ g j
theorem V1.alloc {W w : World} {C : Array Value} {b : Nat → Bool} {g : Nat → Nat} (h : V1 W C b w g) (i : Nat) (hi : i < 3) (h6 : b (6 + i) = false) : V1 W C (up b (3 + i)) (w.alloc (.cells z80c 80)) (fun j=>if j = i then w.heap.size else g j):=by
 have hn : ∀ j,j < 3 → up b (3 + i) (6 + j) = b (6 + j):=fun j hj=>up_ne (by omega)
 have ho : ∀ j,j ≠ i → up b (3 + i) (3 + j) = b (3 + j):=fun j hj=>up_ne (by omega)
 refine ⟨below_alloc h.bel _,fun j hj hb=>?_,fun j k hj hk hjk hbj hbk=>?_⟩
 ·rw [hn j hj];by_cases e : j = i
  (subst e;rw [if_pos rfl,h6];exact ⟨h.bel.size,heap_alloc_new w _⟩);(rw [if_neg e];rw [ho j e] at hb;obtain ⟨h1,h2⟩ := h.row j hj hb;exact ⟨h1,(Below.heap_alloc w _ _ (blk_lt h2)).trans h2⟩)
 ·by_cases e : j = i
  ·subst e;rw [if_pos rfl,if_neg (fun e=>hjk e.symm)];rw [ho k (fun e=>hjk e.symm)] at hbk
   have:=blk_lt (h.row k hk hbk).2
   omega
  ·rw [ho j e] at hbj;rw [if_neg e];by_cases e2 : k = i
   ·subst e2;rw [if_pos rfl]
    have:=blk_lt (h.row j hj hbj).2
    omega
   (rw [ho k e2] at hbk;rw [if_neg e2];exact h.ne j k hj hk hjk hbj hbk)
theorem V1.store {W w : World} {C : Array Value} {b : Nat → Bool} {g : Nat → Nat} (h : V1 W C b w g) (i : Nat) (hi : i < 3) (hb : b (3 + i) = true) : V1 W C (up b (6 + i)) (w.setRow (g i) C) g:=by
 have hn : ∀ j,j < 6 → up b (6 + i) j = b j:=fun j hj=>up_ne (by omega)
 obtain ⟨g1,g2⟩ := h.row i hi hb
 refine ⟨below_setRow h.bel g1 C,fun j hj hbj=>?_,fun j k hj hk hjk hbj hbk=>?_⟩
 ·rw [hn _ (by omega)] at hbj;obtain ⟨h1,h2⟩ := h.row j hj hbj
  refine ⟨h1, ?_⟩
  by_cases e : j = i
  (subst e;rw [up_self,if_pos rfl];exact setRow_heap w (g j) _ C 80 _ g2);(rw [up_ne (by omega),setRow_other w (g i) (g j) C (h.ne j i hj hi e hbj hb)];exact h2)
 (rw [hn _ (by omega)] at hbj hbk;exact h.ne j k hj hk hjk hbj hbk)
section
variable {P : Program} {ops : Array Oper} {Q : Exit → Act → World → Prop} {B : List Nat} {O : List Nat} {I : (Nat → Bool) → Act → World → Prop} {i : Nat} {oi : Oper}
end
structure D0 (w : World) (n : S59) (b : S80) (W : World) : Prop where
 n2 : W.heap[w.heap.size]? = some (.cells (a59 n) 59 (0,0))
 n3 : W.heap[w.heap.size + 1]? = some (.cells (c80 b) 80 (0,0))
 n4 : W.heap[w.heap.size + 2]? = some (.cells z80c 80 (0,0))
 n5 : W.heap[w.heap.size + 3]? = some (.cells z80c 80 (0,0))
 n6 : W.heap[w.heap.size + 4]? = some (.cells z80c 80 (0,0))
 bel : Below w.heap.size w W
section
variable {P : Program} {w w1 : World} {a : Act} {o : Oper} {t : TypeId} {x y : Operand} {u v : Value}
end
theorem D0.drew {w W : World} {n : S59} {b : S80} (h : D0 w n b W) : D0 w n b W.drew:=⟨h.n2,h.n3,h.n4,h.n5,h.n6,below_drew h.bel⟩
structure D1 (w : World) (n : S59) (x7 x8 x9 : Array Value) (b7 b8 b9 : Nat) (W : World) : Prop where
 n2 : W.heap[w.heap.size]? = some (.cells (a59 n) 59 (0,0))
 n4 : W.heap[w.heap.size + 1 + 1]? = some (.cells z80c 80 (0,0))
 n5 : W.heap[w.heap.size + 1 + 1 + 1]? = some (.cells z80c 80 (0,0))
 n6 : W.heap[w.heap.size + 1 + 1 + 1 + 1]? = some (.cells z80c 80 (0,0))
 q7 : W.heap[b7]? = some (.cells x7 80 (0,0))
 q8 : W.heap[b8]? = some (.cells x8 80 (0,0))
 q9 : W.heap[b9]? = some (.cells x9 80 (0,0))
 l7 : w.heap.size + 5 ≤ b7
 l8 : w.heap.size + 5 ≤ b8
 l9 : w.heap.size + 5 ≤ b9
 n78 : b7 ≠ b8
 n79 : b7 ≠ b9
 n89 : b8 ≠ b9
 bel : Below w.heap.size w W
section
variable {w W : World} {n : S59} {x7 x8 x9 : Array Value} {b7 b8 b9 : Nat}
theorem D1.drew (h : D1 w n x7 x8 x9 b7 b8 b9 W) : D1 w n x7 x8 x9 b7 b8 b9 W.drew:=⟨h.n2,h.n4,h.n5,h.n6,h.q7,h.q8,h.q9,h.l7,h.l8,h.l9,h.n78,h.n79,h.n89,below_drew h.bel⟩
end
theorem D0.d1 {w W W1 : World} {n : S59} {b : S80} {x : Array Value} {b7 b8 b9 : Nat} (h : D0 w n b W) (hb : Below W.heap.size W W1) (l7 : W.heap.size ≤ b7) (l8 : W.heap.size ≤ b8) (l9 : W.heap.size ≤ b9) (n78 : b7 ≠ b8) (n79 : b7 ≠ b9) (n89 : b8 ≠ b9)
  (q7 : W1.heap[b7]? = some (.cells x 80 (0,0))) (q8 : W1.heap[b8]? = some (.cells x 80 (0,0))) (q9 : W1.heap[b9]? = some (.cells x 80 (0,0))) : D1 w n x x x b7 b8 b9 W1:=by
 have l:=blk_lt h.n6;exact ⟨(hb.block _ (by omega)).trans h.n2,(hb.block _ (by omega)).trans h.n4,(hb.block _ (by omega)).trans h.n5,(hb.block _ (by omega)).trans h.n6,q7,q8,q9,by omega,by omega,by omega,n78,n79,n89,h.bel.trans (hb.mono (by omega))⟩
theorem setR (b : S80) (ax v : Int) : (c80 b).setIfInBounds (axo ax) (.int .i64 v) = c80 ⟨vset b.f0 ax v,b.f1⟩ := by
 unfold axo vset
 split <;> (try split) <;> rfl
end Go.Proofs.Ytdnjagfbhppmbaa.PA
