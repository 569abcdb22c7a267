import Derived.Test.YtdnjagfbhppmbaaGd
import Derived.RangeFuncNested
import Derived.RangeFuncBound
import Derived.RangeFuncCalls
import Derived.RangeFuncLeaves
import Derived.Shelf.Abstract
import Derived.Shelf.RegionOpen
import Derived.OwnWalkIn
import Derived.TacticsInMore
import Derived.LoopNIn
import Derived.LoopIn
import Derived.Sort.BigQuietIn
import Derived.Laws.CopyOwn
namespace Go.Proofs.Ytdnjagfbhppmbaa.PA
open Go.RowKit Go.Shelf Go.Proofs.YtdnjagfbhppmbaaW.PrintWords Go.Proofs.YtdnjagfbhppmbaaW.PrintLast Go.Proofs.YtdnjagfbhppmbaaW.PrintMore
set_option linter.unusedVariables false
set_option linter.unusedSimpArgs false
def axo (ax : Int) : Nat:=if ax = 0 then 0 else if ax = 1 then 1 else 2
def vget (v : S34) (ax : Int) : Int:=if ax = 0 then v.f0 else if ax = 1 then v.f1 else v.f2
def vset (v : S34) (ax n : Int) : S34:=if ax = 0 then ⟨n,v.f1,v.f2⟩ else if ax = 1 then ⟨v.f0,n,v.f2⟩ else ⟨v.f0,v.f1,n⟩
def c80 (b : S80) : Array Value:=#[.int .i64 b.f0.f0,.int .i64 b.f0.f1,.int .i64 b.f0.f2,.int .i64 b.f1.f0,.int .i64 b.f1.f1,.int .i64 b.f1.f2]
def e80 (b : S80) : Value:=.agg (c80 b)
def a59 (n : S59) : Array Value:=#[.int .i64 n.f0,.string n.f1,.int .i64 n.f2,.int .i64 n.f3,.int .i64 n.f4,.int .i64 n.f5,.int .i64 n.f6]
def e59 (n : S59) : Value:=.agg (a59 n)
theorem coord_any (b o : Nat) (ax : Int) (w : World) : Calls Try.prog 84 #[.pointer (some ⟨b,o,none⟩),.int .i64 ax] w fun e w'=>e = .returned (.pointer (some ⟨b,o + axo ax,none⟩)) ∧ w = w':=by
 by_cases h0 : ax = 0
 ·subst h0
  go_enter Try.func84,Try.ntmps84
  go_wp2
  go_ret
  exact ⟨rfl,rfl⟩
 ·by_cases h1 : ax = 1
  ·subst h1
   go_enter Try.func84,Try.ntmps84
   go_wp2
   go_ret
   exact ⟨rfl,rfl⟩
  ·have b0 : (ax == 0) = false:=by simpa using h0
   have b1 : (ax == 1) = false:=by simpa using h1
   have hx : axo ax = 2:=by simp [axo,h0,h1]
   rw [hx];clear hx
   go_enter Try.func84,Try.ntmps84
   go_wp2
   go_ret
   exact ⟨rfl,rfl⟩
def z80c : Array Value:=#[.int .i64 0,.int .i64 0,.int .i64 0,.int .i64 0,.int .i64 0,.int .i64 0]
structure V1 (W : World) (C : Array Value) (b : Nat → Bool) (w : World) (g : Nat → Nat) : Prop where
 bel : Below W.heap.size W w
 row : ∀ i,i < 3 → b (3 + i) = true → W.heap.size ≤ g i ∧ w.heap[g i]? = some (.cells (if b (6 + i) = true then C else z80c) 80 (0,0))
 ne : ∀ i j,i < 3 → j < 3 → i ≠ j → b (3 + i) = true → b (3 + j) = true → g i ≠ g j
theorem V1.alloc {W w : World} {C : Array Value} {b : Nat → Bool} {g : Nat → Nat} (h : V1 W C b w g) (i : Nat) (hi : i < 3) (h6 : b (6 + i) = false) : V1 W C (up b (3 + i)) (w.alloc (.cells z80c 80)) (fun j=>if j = i then w.heap.size else g j):=by
 have hn : ∀ j,j < 3 → up b (3 + i) (6 + j) = b (6 + j):=fun j hj=>up_ne (by omega)
 have ho : ∀ j,j ≠ i → up b (3 + i) (3 + j) = b (3 + j):=fun j hj=>up_ne (by omega)
 refine ⟨below_alloc h.bel _,fun j hj hb=>?_,fun j k hj hk hjk hbj hbk=>?_⟩
 ·rw [hn j hj];by_cases e : j = i
  (subst e;rw [if_pos rfl,h6];exact ⟨h.bel.size,heap_alloc_new w _⟩);(rw [if_neg e];rw [ho j e] at hb;obtain ⟨h1,h2⟩ := h.row j hj hb;exact ⟨h1,(Below.heap_alloc w _ _ (blk_lt h2)).trans h2⟩)
 ·by_cases e : j = i
  ·subst e;rw [if_pos rfl,if_neg (fun e=>hjk e.symm)];rw [ho k (fun e=>hjk e.symm)] at hbk
   have:=blk_lt (h.row k hk hbk).2
   omega
  ·rw [ho j e] at hbj;rw [if_neg e];by_cases e2 : k = i
   ·subst e2;rw [if_pos rfl]
    have:=blk_lt (h.row j hj hbj).2
    omega
   (rw [ho k e2] at hbk;rw [if_neg e2];exact h.ne j k hj hk hjk hbj hbk)
theorem V1.load {W w : World} {C : Array Value} {b : Nat → Bool} {g : Nat → Nat} (h : V1 W C b w g) (i : Nat) (hi : i < 3) : V1 W C (up b i) w g:=by
 have hn : ∀ j,3 ≤ j → up b i j = b j:=fun j hj=>up_ne (by omega)
 refine ⟨h.bel,fun j hj hb=>?_,fun j k hj hk hjk hbj hbk=>?_⟩
 (rw [hn _ (by omega)] at hb ⊢;exact h.row j hj hb);(rw [hn _ (by omega)] at hbj hbk;exact h.ne j k hj hk hjk hbj hbk)
theorem V1.store {W w : World} {C : Array Value} {b : Nat → Bool} {g : Nat → Nat} (h : V1 W C b w g) (i : Nat) (hi : i < 3) (hb : b (3 + i) = true) : V1 W C (up b (6 + i)) (w.setRow (g i) C) g:=by
 have hn : ∀ j,j < 6 → up b (6 + i) j = b j:=fun j hj=>up_ne (by omega)
 obtain ⟨g1,g2⟩ := h.row i hi hb
 refine ⟨below_setRow h.bel g1 C,fun j hj hbj=>?_,fun j k hj hk hjk hbj hbk=>?_⟩
 ·rw [hn _ (by omega)] at hbj;obtain ⟨h1,h2⟩ := h.row j hj hbj
  refine ⟨h1, ?_⟩
  by_cases e : j = i
  (subst e;rw [up_self,if_pos rfl];exact setRow_heap w (g j) _ C 80 _ g2);(rw [up_ne (by omega),setRow_other w (g i) (g j) C (h.ne j i hj hi e hbj hb)];exact h2)
 (rw [hn _ (by omega)] at hbj hbk;exact h.ne j k hj hk hjk hbj hbk)
theorem size80 : (Try.prog.info? 80).map (·.size) = some 6:=by kernel_rfl
theorem run_load80 (w : World) (g : Nat) (b : S80) (h : w.heap[g]? = some (.cells (c80 b) 80 (0,0))) : (Instr.loadAt 80 (.pointer (some ⟨g,0,none⟩))).run Try.prog w = .ok (e80 b) w:=by
 simp only [Instr.loadAt,Instr.sureAddr,Sem.run_bind,Sem.run_pure,Result.andThen_ok,run_loadVar_row w g 80 80 (c80 b) (0,0) _ h Try.underlying80 rfl size80];rfl
theorem run_store80 (w : World) (g : Nat) (cur : Array Value) (b : S80) (h : w.heap[g]? = some (.cells cur 80 (0,0))) (hl : cur.size = 6) : (Instr.storeAt 80 (.pointer (some ⟨g,0,none⟩)) (e80 b)).run Try.prog w = .ok () (w.setRow g (c80 b)) :=
 run_storeAt_row w g 80 80 cur (c80 b) h (by rw [hl];rfl) size80 (by simp [c80,Value.oneCell'])
section
variable {P : Program} {ops : Array Oper} {Q : Exit → Act → World → Prop} {B : List Nat} {O : List Nat} {I : (Nat → Bool) → Act → World → Prop} {i : Nat} {oi : Oper}
theorem st_val (hoi : ops[i]? = some oi) (hg : oi.guard = none)
  (h : ∀ b a w,I b a w → b i = false → (∀ j,(O.contains j && (B.getD i 0).testBit j) = true → b j = true) → (∀ d,(O.contains d && (B.getD d 0).testBit i) = true → b d = false) → ∃ v w1,(execOp a.eval oi).run P w = .ok (.value v) w1 ∧ I (up b i) (a.put oi.dst v) w1) : StepAt P ops Q B O I i:=by
 intro b a w hI hb hon hoff;obtain ⟨v,w1,hrun,hI'⟩ := h b a w hI hb hon hoff;exact ⟨oi,hoi,fun K hK=>value_ (by simp [Region.wanted,hg]) rfl hrun (hK.out _ _ hI')⟩
theorem st_skip (hoi : ops[i]? = some oi) (hg : oi.guard = none) (hd : oi.dst = none)
  (h : ∀ b a w,I b a w → b i = false → (∀ j,(O.contains j && (B.getD i 0).testBit j) = true → b j = true) → (∀ d,(O.contains d && (B.getD d 0).testBit i) = true → b d = false) → ∃ w1,(execOp a.eval oi).run P w = .ok .skip w1 ∧ I (up b i) a w1) : StepAt P ops Q B O I i:=by
 intro b a w hI hb hon hoff;obtain ⟨w1,hrun,hI'⟩ := h b a w hI hb hon hoff
 refine ⟨oi,hoi,fun K hK=>?_⟩
 rw [hd];exact skip_ (by simp [Region.wanted,hg]) hd hrun (hK.out _ _ hI')
end
def divL (n : S59) (b : S80) : S80:=⟨b.f0,vset b.f1 n.f2 n.f3⟩
def divR (n : S59) (b : S80) : S80:=⟨vset b.f0 n.f2 (wrap64 (n.f3 + n.f4)),b.f1⟩
def divK (n : S59) (b : S80) : S80:=⟨vset b.f0 n.f2 n.f3,vset b.f1 n.f2 (wrap64 (n.f3 + n.f4))⟩
structure D0 (w : World) (n : S59) (b : S80) (W : World) : Prop where
 n2 : W.heap[w.heap.size]? = some (.cells (a59 n) 59 (0,0))
 n3 : W.heap[w.heap.size + 1]? = some (.cells (c80 b) 80 (0,0))
 n4 : W.heap[w.heap.size + 2]? = some (.cells z80c 80 (0,0))
 n5 : W.heap[w.heap.size + 3]? = some (.cells z80c 80 (0,0))
 n6 : W.heap[w.heap.size + 4]? = some (.cells z80c 80 (0,0))
 bel : Below w.heap.size w W
theorem div0 (w : World) (n : S59) (b : S80) : D0 w n b (((((w.alloc (.cells (a59 n) 59)).alloc (.cells (c80 b) 80)).alloc (.cells z80c 80)).alloc (.cells z80c 80)).alloc (.cells z80c 80)):=by
 have e1 : ∀ (W : World) (o : Obj) (k : Nat),k < W.heap.size → (W.alloc o).heap[k]? = W.heap[k]? := fun W o k h=>Below.heap_alloc W o k h
 have e2 : ∀ (W : World) (o : Obj) (k : Nat),k = W.heap.size → (W.alloc o).heap[k]? = some o:=fun W o k h=>by rw [h];exact heap_alloc_new W o
 refine ⟨?_, ?_, ?_, ?_, ?_,below_alloc (below_alloc (below_alloc (below_alloc (below_alloc (Below.refl _ _) _) _) _) _) _⟩
 (rw [e1 _ _ _ (by simp;omega),e1 _ _ _ (by simp;omega),e1 _ _ _ (by simp;omega),e1 _ _ _ (by simp)];exact e2 _ _ _ rfl);(rw [e1 _ _ _ (by simp),e1 _ _ _ (by simp),e1 _ _ _ (by simp)];exact e2 _ _ _ (by simp));(rw [e1 _ _ _ (by simp),e1 _ _ _ (by simp)];exact e2 _ _ _ (by simp));(rw [e1 _ _ _ (by simp)];exact e2 _ _ _ (by simp));(exact e2 _ _ _ (by simp))
section
variable {P : Program} {w w1 : World} {a : Act} {o : Oper} {t : TypeId} {x y : Operand} {u v : Value}
theorem exec_load (ho : o.op = .load t x) (hx : a.eval x = u) (h : (Instr.loadAt t u).run P w = .ok v w1) : (execOp a.eval o).run P w = .ok (.value v) w1:=by
 unfold execOp
 simp only [ho,hx,Sem.run_bind,h,Result.andThen_ok,Sem.run_pure]
theorem exec_store (ho : o.op = .store t x y) (hx : a.eval x = u) (hy : a.eval y = v) (h : (Instr.storeAt t u v).run P w = .ok () w1) : (execOp a.eval o).run P w = .ok .skip w1:=by
 unfold execOp
 simp only [ho,hx,hy,Sem.run_bind,h,Result.andThen_ok,Sem.run_pure]
end
theorem D0.drew {w W : World} {n : S59} {b : S80} (h : D0 w n b W) : D0 w n b W.drew:=⟨h.n2,h.n3,h.n4,h.n5,h.n6,below_drew h.bel⟩
structure D1 (w : World) (n : S59) (x7 x8 x9 : Array Value) (b7 b8 b9 : Nat) (W : World) : Prop where
 n2 : W.heap[w.heap.size]? = some (.cells (a59 n) 59 (0,0))
 n4 : W.heap[w.heap.size + 1 + 1]? = some (.cells z80c 80 (0,0))
 n5 : W.heap[w.heap.size + 1 + 1 + 1]? = some (.cells z80c 80 (0,0))
 n6 : W.heap[w.heap.size + 1 + 1 + 1 + 1]? = some (.cells z80c 80 (0,0))
 q7 : W.heap[b7]? = some (.cells x7 80 (0,0))
 q8 : W.heap[b8]? = some (.cells x8 80 (0,0))
 q9 : W.heap[b9]? = some (.cells x9 80 (0,0))
 l7 : w.heap.size + 5 ≤ b7
 l8 : w.heap.size + 5 ≤ b8
 l9 : w.heap.size + 5 ≤ b9
 n78 : b7 ≠ b8
 n79 : b7 ≠ b9
 n89 : b8 ≠ b9
 bel : Below w.heap.size w W
section
variable {w W : World} {n : S59} {x7 x8 x9 : Array Value} {b7 b8 b9 : Nat}
theorem D1.drew (h : D1 w n x7 x8 x9 b7 b8 b9 W) : D1 w n x7 x8 x9 b7 b8 b9 W.drew:=⟨h.n2,h.n4,h.n5,h.n6,h.q7,h.q8,h.q9,h.l7,h.l8,h.l9,h.n78,h.n79,h.n89,below_drew h.bel⟩
theorem D1.set7 (h : D1 w n x7 x8 x9 b7 b8 b9 W) (k : Nat) (v : Value) : D1 w n (x7.setIfInBounds k v) x8 x9 b7 b8 b9 (W.setCell ⟨b7,k,none⟩ v):=by
 have l:=h.l7
 have f : ∀ q,q ≠ b7 → (W.setCell ⟨b7,k,none⟩ v).heap[q]? = W.heap[q]? := fun q hq=>Below.heap_setCell W ⟨b7,k,none⟩ v q hq
 exact ⟨(f _ (by omega)).trans h.n2,(f _ (by omega)).trans h.n4,(f _ (by omega)).trans h.n5,(f _ (by omega)).trans h.n6,blk_set h.q7 k v,(f _ h.n78.symm).trans h.q8,(f _ h.n79.symm).trans h.q9,h.l7,h.l8,h.l9,h.n78,h.n79,h.n89,h.bel.setCell (by show w.heap.size ≤ b7;omega) v⟩
theorem D1.set8 (h : D1 w n x7 x8 x9 b7 b8 b9 W) (k : Nat) (v : Value) : D1 w n x7 (x8.setIfInBounds k v) x9 b7 b8 b9 (W.setCell ⟨b8,k,none⟩ v):=by
 have l:=h.l8
 have f : ∀ q,q ≠ b8 → (W.setCell ⟨b8,k,none⟩ v).heap[q]? = W.heap[q]? := fun q hq=>Below.heap_setCell W ⟨b8,k,none⟩ v q hq
 exact ⟨(f _ (by omega)).trans h.n2,(f _ (by omega)).trans h.n4,(f _ (by omega)).trans h.n5,(f _ (by omega)).trans h.n6,(f _ h.n78).trans h.q7,blk_set h.q8 k v,(f _ h.n89.symm).trans h.q9,h.l7,h.l8,h.l9,h.n78,h.n79,h.n89,h.bel.setCell (by show w.heap.size ≤ b8;omega) v⟩
theorem D1.set9 (h : D1 w n x7 x8 x9 b7 b8 b9 W) (k : Nat) (v : Value) : D1 w n x7 x8 (x9.setIfInBounds k v) b7 b8 b9 (W.setCell ⟨b9,k,none⟩ v):=by
 have l:=h.l9
 have f : ∀ q,q ≠ b9 → (W.setCell ⟨b9,k,none⟩ v).heap[q]? = W.heap[q]? := fun q hq=>Below.heap_setCell W ⟨b9,k,none⟩ v q hq
 exact ⟨(f _ (by omega)).trans h.n2,(f _ (by omega)).trans h.n4,(f _ (by omega)).trans h.n5,(f _ (by omega)).trans h.n6,(f _ h.n79).trans h.q7,(f _ h.n89).trans h.q8,blk_set h.q9 k v,h.l7,h.l8,h.l9,h.n78,h.n79,h.n89,h.bel.setCell (by show w.heap.size ≤ b9;omega) v⟩
end
theorem D0.d1 {w W W1 : World} {n : S59} {b : S80} {x : Array Value} {b7 b8 b9 : Nat} (h : D0 w n b W) (hb : Below W.heap.size W W1) (l7 : W.heap.size ≤ b7) (l8 : W.heap.size ≤ b8) (l9 : W.heap.size ≤ b9) (n78 : b7 ≠ b8) (n79 : b7 ≠ b9) (n89 : b8 ≠ b9)
  (q7 : W1.heap[b7]? = some (.cells x 80 (0,0))) (q8 : W1.heap[b8]? = some (.cells x 80 (0,0))) (q9 : W1.heap[b9]? = some (.cells x 80 (0,0))) : D1 w n x x x b7 b8 b9 W1:=by
 have l:=blk_lt h.n6;exact ⟨(hb.block _ (by omega)).trans h.n2,(hb.block _ (by omega)).trans h.n4,(hb.block _ (by omega)).trans h.n5,(hb.block _ (by omega)).trans h.n6,q7,q8,q9,by omega,by omega,by omega,n78,n79,n89,h.bel.trans (hb.mono (by omega))⟩
theorem axo_lt (ax : Int) : axo ax < 3:=by unfold axo;split <;> (try split) <;> omega
theorem run_store3 (w : World) (g k : Nat) (cur : Array Value) (t : TypeId) (h : w.heap[g]? = some (.cells cur t (0,0))) (hk : k < cur.size) (n : Int) : (Instr.storeAt 3 (.pointer (some ⟨g,k,none⟩)) (.int .i64 n)).run Try.prog w = .ok () (w.setCell ⟨g,k,none⟩ (.int .i64 n)):=by
 have h0 : w.cell? ⟨g,k,none⟩ = some cur[k] := (blk_cell h k).trans (Array.getElem?_eq_getElem hk);have h1:=blk_frozen h k;go_simp
theorem setL (b : S80) (ax v : Int) : (c80 b).setIfInBounds (3 + axo ax) (.int .i64 v) = c80 ⟨b.f0,vset b.f1 ax v⟩ := by
 unfold axo vset
 split <;> (try split) <;> rfl
theorem setR (b : S80) (ax v : Int) : (c80 b).setIfInBounds (axo ax) (.int .i64 v) = c80 ⟨vset b.f0 ax v,b.f1⟩ := by
 unfold axo vset
 split <;> (try split) <;> rfl
def div_T1 : Bool × List (List Nat × List Nat):=(true,[([],[]),([],[]),([],[]),([],[]),([],[]),([],[]),([3,0,0,3,4,5],[0,3]),([4,1,6,0,1,3,4,5,6],[1,4]),([5,2,7,0,1,2,3,4,5,6,7],[2,5])])
def div_B1 : List Nat:=[0,0,0,0,0,0,57,123,255]
theorem div_tab1 : rtab .any (opsOf Try.f87 1) = div_T1:=by kernel_rfl
theorem div_bits1 : waitsOk div_T1.2 div_B1 = true:=by kernel_rfl
set_option maxRecDepth 100000 in
set_option maxHeartbeats 2000000 in
theorem divide_any (n : S59) (b : S80) (w : World) : Calls Try.prog 87 #[e59 n,e80 b] w fun e w'=>e = .returned (.tuple #[e80 (divL n b),e80 (divK n b),e80 (divR n b)]) ∧ Below w.heap.size w w':=by
 have HD : D0 w n b (((((w.alloc (.cells (a59 n) 59)).alloc (.cells (c80 b) 80)).alloc (.cells #[.int .i64 0,.int .i64 0,.int .i64 0,.int .i64 0,.int .i64 0,.int .i64 0] 80)).alloc (.cells #[.int .i64 0,.int .i64 0,.int .i64 0,.int .i64 0,.int .i64 0,.int .i64 0] 80)).alloc (.cells #[.int .i64 0,.int .i64 0,.int .i64 0,.int .i64 0,.int .i64 0,.int .i64 0] 80)):=div0 w n b
 unfold e59 e80
 go_enter Try.func87,Try.ntmps87
 go_wp2_with fail
 generalize (((((w.alloc (.cells (a59 n) 59)).alloc (.cells (c80 b) 80)).alloc (.cells #[.int .i64 0,.int .i64 0,.int .i64 0,.int .i64 0,.int .i64 0,.int .i64 0] 80)).alloc (.cells #[.int .i64 0,.int .i64 0,.int .i64 0,.int .i64 0,.int .i64 0,.int .i64 0] 80)).alloc (.cells #[.int .i64 0,.int .i64 0,.int .i64 0,.int .i64 0,.int .i64 0,.int .i64 0] 80)) = W at HD ⊢
 refine start_ (n:=9) (S:=fun _=>True) (ds:=[]) #[false,false,false,false,false,false,false,false,false] (by kernel_rfl) rfl rfl trivial (fun hHeld=>?_)
 have HD1:=HD.drew;generalize W.drew = W1 at HD1 ⊢
 refine inv_at [0,1,2,3,4,5,6,7,8] (fun a0_ b_ a w'=>∃ g : Nat → Nat,a = putSel a0_ b_ [(0,10,e80 b),(1,11,e80 b),(2,12,e80 b),(3,7,.pointer (some ⟨g 0,0,none⟩)),(4,8,.pointer (some ⟨g 1,0,none⟩)),(5,9,.pointer (some ⟨g 2,0,none⟩))] ∧ V1 W1 (c80 b) b_ w' g) div_tab1 div_bits1 (by kernel_rfl) (by kernel_rfl) ?_ ?_ ?_
 (exact ⟨fun _=>0,rfl,⟨Below.refl _ _,fun _ _ h=>(by cases h),fun _ _ _ _ _ h=>(by cases h)⟩⟩)
 refine steps_cons ?_ ?_
 ·refine st_val (oi:=_) rfl rfl ?_
  rintro b_ a w' ⟨g,ha,hV⟩ hb hon hoff
  have e3 : a.tmps[3]? = some (.pointer (some ⟨w.heap.size + 1,0,none⟩)):=by rw [ha];exact (putSel_off rfl).trans rfl
  have h3 : w'.heap[w.heap.size + 1]? = some (.cells (c80 b) 80 (0,0)):=(hV.bel.block _ (blk_lt HD1.n3)).trans HD1.n3
  refine ⟨e80 b,w', ?_,g,(by rw [ha];exact putSel_upk 0 hb rfl rfl rfl),hV.load 0 (by omega)⟩
  exact exec_load rfl (eval_of e3) (run_load80 w' _ b h3)
 refine steps_cons ?_ ?_
 ·refine st_val (oi:=_) rfl rfl ?_
  rintro b_ a w' ⟨g,ha,hV⟩ hb hon hoff
  have e3 : a.tmps[3]? = some (.pointer (some ⟨w.heap.size + 1,0,none⟩)):=by rw [ha];exact (putSel_off rfl).trans rfl
  have h3 : w'.heap[w.heap.size + 1]? = some (.cells (c80 b) 80 (0,0)):=(hV.bel.block _ (blk_lt HD1.n3)).trans HD1.n3
  refine ⟨e80 b,w', ?_,g,(by rw [ha];exact putSel_upk 1 hb rfl rfl rfl),hV.load 1 (by omega)⟩
  exact exec_load rfl (eval_of e3) (run_load80 w' _ b h3)
 refine steps_cons ?_ ?_
 ·refine st_val (oi:=_) rfl rfl ?_
  rintro b_ a w' ⟨g,ha,hV⟩ hb hon hoff
  have e3 : a.tmps[3]? = some (.pointer (some ⟨w.heap.size + 1,0,none⟩)):=by rw [ha];exact (putSel_off rfl).trans rfl
  have h3 : w'.heap[w.heap.size + 1]? = some (.cells (c80 b) 80 (0,0)):=(hV.bel.block _ (blk_lt HD1.n3)).trans HD1.n3
  refine ⟨e80 b,w', ?_,g,(by rw [ha];exact putSel_upk 2 hb rfl rfl rfl),hV.load 2 (by omega)⟩
  exact exec_load rfl (eval_of e3) (run_load80 w' _ b h3)
 refine steps_cons ?_ ?_
 ·refine st_val (oi:=_) rfl rfl ?_
  rintro b_ a w' ⟨g,ha,hV⟩ hb hon hoff
  refine ⟨.pointer (some ⟨w'.heap.size,0,none⟩),w'.alloc (.cells z80c 80), ?_,(fun j=>if j = 0 then w'.heap.size else g j),(by rw [ha];exact putSel_upk 3 hb rfl rfl rfl),hV.alloc 0 (by omega) (hoff 6 (by kernel_rfl))⟩
  go_simp;rfl
 refine steps_cons ?_ ?_
 ·refine st_val (oi:=_) rfl rfl ?_
  rintro b_ a w' ⟨g,ha,hV⟩ hb hon hoff
  refine ⟨.pointer (some ⟨w'.heap.size,0,none⟩),w'.alloc (.cells z80c 80), ?_,(fun j=>if j = 1 then w'.heap.size else g j),(by rw [ha];exact putSel_upk 4 hb rfl rfl rfl),hV.alloc 1 (by omega) (hoff 7 (by kernel_rfl))⟩
  go_simp;rfl
 refine steps_cons ?_ ?_
 ·refine st_val (oi:=_) rfl rfl ?_
  rintro b_ a w' ⟨g,ha,hV⟩ hb hon hoff
  refine ⟨.pointer (some ⟨w'.heap.size,0,none⟩),w'.alloc (.cells z80c 80), ?_,(fun j=>if j = 2 then w'.heap.size else g j),(by rw [ha];exact putSel_upk 5 hb rfl rfl rfl),hV.alloc 2 (by omega) (hoff 8 (by kernel_rfl))⟩
  go_simp;rfl
 refine steps_cons ?_ ?_
 ·refine st_skip (oi:=_) rfl rfl rfl ?_
  rintro b_ a w' ⟨g,ha,hV⟩ hb hon hoff;have bA : b_ 3 = true:=hon 3 (by kernel_rfl);have bL : b_ 0 = true:=hon 0 (by kernel_rfl)
  have eA : a.tmps[7]? = some (.pointer (some ⟨g 0,0,none⟩)):=by rw [ha];exact putSel_on (e:=(3,7,.pointer (some ⟨g 0,0,none⟩))) 3 rfl rfl bA rfl
  have eL : a.tmps[10]? = some (e80 b):=by rw [ha];exact putSel_on (e:=(0,10,e80 b)) 0 rfl rfl bL rfl
  obtain ⟨h1,h2⟩ := hV.row 0 (by omega) bA
  refine ⟨w'.setRow (g 0) (c80 b), ?_,g,(by rw [ha];exact (putSel_same rfl).symm),hV.store 0 (by omega) bA⟩
  exact exec_store rfl (eval_of eA) (eval_of eL) (run_store80 w' _ _ b h2 (by split <;> rfl))
 refine steps_cons ?_ ?_
 ·refine st_skip (oi:=_) rfl rfl rfl ?_
  rintro b_ a w' ⟨g,ha,hV⟩ hb hon hoff;have bA : b_ 4 = true:=hon 4 (by kernel_rfl);have bL : b_ 1 = true:=hon 1 (by kernel_rfl)
  have eA : a.tmps[8]? = some (.pointer (some ⟨g 1,0,none⟩)):=by rw [ha];exact putSel_on (e:=(4,8,.pointer (some ⟨g 1,0,none⟩))) 4 rfl rfl bA rfl
  have eL : a.tmps[11]? = some (e80 b):=by rw [ha];exact putSel_on (e:=(1,11,e80 b)) 1 rfl rfl bL rfl
  obtain ⟨h1,h2⟩ := hV.row 1 (by omega) bA
  refine ⟨w'.setRow (g 1) (c80 b), ?_,g,(by rw [ha];exact (putSel_same rfl).symm),hV.store 1 (by omega) bA⟩
  exact exec_store rfl (eval_of eA) (eval_of eL) (run_store80 w' _ _ b h2 (by split <;> rfl))
 refine steps_cons ?_ ?_
 ·refine st_skip (oi:=_) rfl rfl rfl ?_
  rintro b_ a w' ⟨g,ha,hV⟩ hb hon hoff;have bA : b_ 5 = true:=hon 5 (by kernel_rfl);have bL : b_ 2 = true:=hon 2 (by kernel_rfl)
  have eA : a.tmps[9]? = some (.pointer (some ⟨g 2,0,none⟩)):=by rw [ha];exact putSel_on (e:=(5,9,.pointer (some ⟨g 2,0,none⟩))) 5 rfl rfl bA rfl
  have eL : a.tmps[12]? = some (e80 b):=by rw [ha];exact putSel_on (e:=(2,12,e80 b)) 2 rfl rfl bL rfl
  obtain ⟨h1,h2⟩ := hV.row 2 (by omega) bA
  refine ⟨w'.setRow (g 2) (c80 b), ?_,g,(by rw [ha];exact (putSel_same rfl).symm),hV.store 2 (by omega) bA⟩
  exact exec_store rfl (eval_of eA) (eval_of eL) (run_store80 w' _ _ b h2 (by split <;> rfl))
 (exact steps_nil);rintro b_ a w2 hall ⟨g,ha,hV⟩;have B3:=hall 3 (by decide);have B4:=hall 4 (by decide);have B5:=hall 5 (by decide);rw [ha];simp only [putSel,hall 0 (by decide),hall 1 (by decide),hall 2 (by decide),B3,B4,B5,if_true,Act.put,List.setIfInBounds_toArray,List.set_cons_zero,List.set_cons_succ];obtain ⟨g7,q7⟩ := hV.row 0 (by omega) B3;obtain ⟨g8,q8⟩ := hV.row 1 (by omega) B4;obtain ⟨g9,q9⟩ := hV.row 2 (by omega) B5;have n78:=hV.ne 0 1 (by omega) (by omega) (by omega) B3 B4;have n79:=hV.ne 0 2 (by omega) (by omega) (by omega) B3 B5;have n89:=hV.ne 1 2 (by omega) (by omega) (by omega) B4 B5;rw [if_pos (hall 6 (by decide))] at q7;rw [if_pos (hall 7 (by decide))] at q8;rw [if_pos (hall 8 (by decide))] at q9;have bel2:=hV.bel;generalize g 0 = b7 at g7 q7 n78 n79 ⊢;generalize g 1 = b8 at g8 q8 n78 n89 ⊢;generalize g 2 = b9 at g9 q9 n79 n89 ⊢;clear hV ha hall B3 B4 B5;have H2:=HD1.d1 bel2 g7 g8 g9 n78 n79 n89 q7 q8 q9;clear HD1 HD bel2 g7 g8 g9 n78 n79 n89 q7 q8 q9;have c2 : w2.cell? ⟨w.heap.size,2,none⟩ = some (.int .i64 n.f2):=(blk_cell H2.n2 2).trans rfl;have c3 : w2.cell? ⟨w.heap.size,3,none⟩ = some (.int .i64 n.f3):=(blk_cell H2.n2 3).trans rfl;have k3:=axo_lt n.f2
 go_wp2
 refine start_ (n:=16) (S:=fun w'=>w'.cell? ⟨w.heap.size,2,none⟩ = some (.int .i64 n.f2) ∧ w'.cell? ⟨w.heap.size,3,none⟩ = some (.int .i64 n.f3)) (ds:=[15]) #[false,false,false,false,false,false,false,false,false,false,false,false,false,false,false,false] (by kernel_rfl) rfl rfl ⟨c2,c3⟩ (fun hHeld=>?_)
 replace H2:=H2.drew;generalize w2.drew = w3 at H2 hHeld ⊢;refine pure_ (i:=0) (N:=some 13) (v:=?_) (a':=?_) #[true,false,false,false,false,false,false,false,false,false,false,false,false,false,false,false] rfl rfl (by kernel_rfl) (fun _ _ _ h=>h) (Or.inl ⟨by rfl, ?_⟩) ?_ ?_;rotate_left;(intro w';go_simp;with_reducible rfl);rotate_left;(simp only [Act.put,List.setIfInBounds_toArray,List.set_cons_zero,List.set_cons_succ,i64_w,i32_w];rfl);refine pure_ (i:=1) (N:=some 14) (v:=?_) (a':=?_) #[true,true,false,false,false,false,false,false,false,false,false,false,false,false,false,false] rfl rfl (by kernel_rfl) (fun _ _ _ h=>h) (Or.inl ⟨by rfl, ?_⟩) ?_ ?_;rotate_left;(intro w';go_simp;with_reducible rfl);rotate_left;(simp only [Act.put,List.setIfInBounds_toArray,List.set_cons_zero,List.set_cons_succ,i64_w,i32_w];rfl);refine pure_ (i:=4) (N:=some 17) (v:=?_) (a':=?_) #[true,true,false,false,true,false,false,false,false,false,false,false,false,false,false,false] rfl rfl (by kernel_rfl) (fun _ _ _ h=>h) (Or.inl ⟨by rfl, ?_⟩) ?_ ?_;rotate_left;(intro w';go_simp;with_reducible rfl);rotate_left;(simp only [Act.put,List.setIfInBounds_toArray,List.set_cons_zero,List.set_cons_succ,i64_w,i32_w];rfl);refine pure_ (i:=5) (N:=some 18) (v:=?_) (a':=?_) #[true,true,false,false,true,true,false,false,false,false,false,false,false,false,false,false] rfl rfl (by kernel_rfl) (fun _ _ _ h=>h) (Or.inl ⟨by rfl, ?_⟩) ?_ ?_;rotate_left;(intro w';go_simp;with_reducible rfl);rotate_left;(simp only [Act.put,List.setIfInBounds_toArray,List.set_cons_zero,List.set_cons_succ,i64_w,i32_w];rfl);refine pure_ (i:=8) (N:=some 21) (v:=?_) (a':=?_) #[true,true,false,false,true,true,false,false,true,false,false,false,false,false,false,false] rfl rfl (by kernel_rfl) (fun _ _ _ h=>h) (Or.inl ⟨by rfl, ?_⟩) ?_ ?_;rotate_left;(intro w';go_simp;with_reducible rfl);rotate_left;(simp only [Act.put,List.setIfInBounds_toArray,List.set_cons_zero,List.set_cons_succ,i64_w,i32_w];rfl);refine pure_ (i:=10) (N:=some 23) (v:=?_) (a':=?_) #[true,true,false,false,true,true,false,false,true,false,true,false,false,false,false,false] rfl rfl (by kernel_rfl) (fun _ _ _ h=>h) (Or.inl ⟨by rfl, ?_⟩) ?_ ?_;rotate_left;(intro w';go_simp;with_reducible rfl);rotate_left;(simp only [Act.put,List.setIfInBounds_toArray,List.set_cons_zero,List.set_cons_succ,i64_w,i32_w];rfl);refine take_ (i:=2) (N:=some 15) (v:=?_) (a':=?_) #[true,true,true,false,true,true,false,false,true,false,true,false,false,false,false,false] rfl rfl (by kernel_rfl) (fun _ _ _ h=>h) (Or.inl ⟨by rfl, ?_⟩) hHeld ?_ ?_;rotate_left;(rintro w' ⟨s0,s1⟩;go_simp;with_reducible rfl);rotate_left;(simp only [Act.put,List.setIfInBounds_toArray,List.set_cons_zero,List.set_cons_succ,i64_w,i32_w];rfl);refine take_ (i:=6) (N:=some 19) (v:=?_) (a':=?_) #[true,true,true,false,true,true,true,false,true,false,true,false,false,false,false,false] rfl rfl (by kernel_rfl) (fun _ _ _ h=>h) (Or.inl ⟨by rfl, ?_⟩) hHeld ?_ ?_;rotate_left;(rintro w' ⟨s0,s1⟩;go_simp;with_reducible rfl);rotate_left;(simp only [Act.put,List.setIfInBounds_toArray,List.set_cons_zero,List.set_cons_succ,i64_w,i32_w];rfl);refine take_ (i:=9) (N:=some 22) (v:=?_) (a':=?_) #[true,true,true,false,true,true,true,false,true,true,true,false,false,false,false,false] rfl rfl (by kernel_rfl) (fun _ _ _ h=>h) (Or.inl ⟨by rfl, ?_⟩) hHeld ?_ ?_;rotate_left;(rintro w' ⟨s0,s1⟩;go_simp;with_reducible rfl);rotate_left;(simp only [Act.put,List.setIfInBounds_toArray,List.set_cons_zero,List.set_cons_succ,i64_w,i32_w];rfl);refine take_ (i:=11) (N:=some 24) (v:=?_) (a':=?_) #[true,true,true,false,true,true,true,false,true,true,true,true,false,false,false,false] rfl rfl (by kernel_rfl) (fun _ _ _ h=>h) (Or.inl ⟨by rfl, ?_⟩) hHeld ?_ ?_;rotate_left;(rintro w' ⟨s0,s1⟩;go_simp;with_reducible rfl);rotate_left;(simp only [Act.put,List.setIfInBounds_toArray,List.set_cons_zero,List.set_cons_succ,i64_w,i32_w];rfl);refine one_ (i:=3) (N:=some 16) #[true,true,true,true,true,true,true,false,true,true,true,true,false,false,false,false] rfl rfl (by kernel_rfl) (by decide) (fun K hK=>?_);refine goes_ Try.func84 (by kernel_rfl) rfl #[.pointer (some ⟨b7,3,none⟩),.int .i64 n.f2] (by rfl) rfl rfl (by first|(simp only [List.map_toArray,List.map_cons,List.map_nil];done)|(simp only [List.map_toArray,List.map_cons,List.map_nil];rfl)) ?_
 refine (coord_any _ _ _ _).mono ?_
 rintro e w' ⟨rfl,rfl⟩;refine ⟨_,rfl, ?_⟩
 refine hK.out _ _ ⟨(hHeld.1),(hHeld.2)⟩ (fun hHeld=>?_)
 clear hK K;refine norm_ (a':=?_) ?_ ?_;rotate_left
 ·show Act.put _ (some 16) _ = _
  simp only [Act.put,List.setIfInBounds_toArray,List.set_cons_zero,List.set_cons_succ,i64_w,i32_w];rfl
 refine one_ (i:=7) (N:=some 20) #[true,true,true,true,true,true,true,true,true,true,true,true,false,false,false,false] rfl rfl (by kernel_rfl) (by decide) (fun K hK=>?_);refine goes_ Try.func84 (by kernel_rfl) rfl #[.pointer (some ⟨b8,0,none⟩),.int .i64 n.f2] (by rfl) rfl rfl (by first|(simp only [List.map_toArray,List.map_cons,List.map_nil];done)|(simp only [List.map_toArray,List.map_cons,List.map_nil];rfl)) ?_
 refine (coord_any _ _ _ _).mono ?_
 rintro e w' ⟨rfl,rfl⟩;refine ⟨_,rfl, ?_⟩
 refine hK.out _ _ ⟨(hHeld.1),(hHeld.2)⟩ (fun hHeld=>?_)
 clear hK K;refine norm_ (a':=?_) ?_ ?_;rotate_left
 ·show Act.put _ (some 20) _ = _
  simp only [Act.put,List.setIfInBounds_toArray,List.set_cons_zero,List.set_cons_succ,i64_w,i32_w];rfl
 refine pure_ (i:=12) (N:=some 25) (v:=?_) (a':=?_) #[true,true,true,true,true,true,true,true,true,true,true,true,true,false,false,false] rfl rfl (by kernel_rfl) (fun _ _ _ h=>h) (Or.inl ⟨by rfl, ?_⟩) ?_ ?_;rotate_left;(intro w';go_simp;with_reducible rfl);rotate_left;(simp only [Act.put,List.setIfInBounds_toArray,List.set_cons_zero,List.set_cons_succ,i64_w,i32_w];rfl);refine one_ (i:=13) (N:=none) #[true,true,true,true,true,true,true,true,true,true,true,true,true,true,false,false] rfl rfl (by kernel_rfl) (by decide) (fun K hK=>?_)
 refine skip_ (w1:=w3.setCell ⟨b7,3 + axo n.f2,none⟩ (.int .i64 n.f3)) (by rfl) rfl ?_ ?_
 (exact exec_store rfl rfl rfl (run_store3 w3 b7 _ _ 80 H2.q7 (by show _ < 6;omega) n.f3))
 refine hK.out _ _ ⟨((blk_cell (H2.set7 (3 + axo n.f2) (.int .i64 n.f3)).n2 2).trans rfl),((blk_cell (H2.set7 (3 + axo n.f2) (.int .i64 n.f3)).n2 3).trans rfl)⟩ (fun hHeld=>?_)
 clear hK K;refine pure_ (i:=14) (N:=some 26) (v:=?_) (a':=?_) #[true,true,true,true,true,true,true,true,true,true,true,true,true,true,true,false] rfl rfl (by kernel_rfl) (fun _ _ _ h=>h) (Or.inl ⟨by rfl, ?_⟩) ?_ ?_;rotate_left;(intro w';go_simp;with_reducible rfl);rotate_left;(simp only [Act.put,List.setIfInBounds_toArray,List.set_cons_zero,List.set_cons_succ,i64_w,i32_w];rfl)
 refine last_ (i:=15) (N:=none) #[true,true,true,true,true,true,true,true,true,true,true,true,true,true,true,true] rfl rfl (by kernel_rfl) (by decide) (fun K hK=>?_)
 refine skip_ (w1:=(w3.setCell ⟨b7,3 + axo n.f2,none⟩ (.int .i64 n.f3)).setCell ⟨b8,axo n.f2,none⟩ (.int .i64 n.f3)) (by rfl) rfl ?_ ?_
 (exact exec_store rfl rfl rfl (run_store3 _ b8 _ _ 80 (H2.set7 _ _).q8 (by show _ < 6;omega) n.f3))
 refine hK.out _ _ ?_
 clear hK K
 refine done_ (by kernel_rfl) ?_
 have H3:=(H2.set7 (3 + axo n.f2) (.int .i64 n.f3)).set8 (axo n.f2) (.int .i64 n.f3);generalize ((w3.setCell ⟨b7,3 + axo n.f2,none⟩ (.int .i64 n.f3)).setCell ⟨b8,axo n.f2,none⟩ (.int .i64 n.f3)) = w4 at H3 ⊢;rw [setL,setR] at H3;clear H2 c2 c3;have c2 : w4.cell? ⟨w.heap.size,2,none⟩ = some (.int .i64 n.f2):=(blk_cell H3.n2 2).trans rfl;have c3 : w4.cell? ⟨w.heap.size,3,none⟩ = some (.int .i64 n.f3):=(blk_cell H3.n2 3).trans rfl;have c4 : w4.cell? ⟨w.heap.size,4,none⟩ = some (.int .i64 n.f4):=(blk_cell H3.n2 4).trans rfl
 go_wp2
 refine start_ (n:=22) (S:=fun w'=>w'.cell? ⟨w.heap.size,2,none⟩ = some (.int .i64 n.f2) ∧ w'.cell? ⟨w.heap.size,3,none⟩ = some (.int .i64 n.f3) ∧ w'.cell? ⟨w.heap.size,4,none⟩ = some (.int .i64 n.f4)) (ds:=[21]) #[false,false,false,false,false,false,false,false,false,false,false,false,false,false,false,false,false,false,false,false,false,false] (by kernel_rfl) rfl rfl ⟨c2,c3,c4⟩ (fun hHeld=>?_)
 replace H3:=H3.drew;generalize w4.drew = w5 at H3 hHeld ⊢;refine pure_ (i:=0) (N:=some 27) (v:=?_) (a':=?_) #[true,false,false,false,false,false,false,false,false,false,false,false,false,false,false,false,false,false,false,false,false,false] rfl rfl (by kernel_rfl) (fun _ _ _ h=>h) (Or.inl ⟨by rfl, ?_⟩) ?_ ?_;rotate_left;(intro w';go_simp;with_reducible rfl);rotate_left;(simp only [Act.put,List.setIfInBounds_toArray,List.set_cons_zero,List.set_cons_succ,i64_w,i32_w];rfl);refine pure_ (i:=1) (N:=some 28) (v:=?_) (a':=?_) #[true,true,false,false,false,false,false,false,false,false,false,false,false,false,false,false,false,false,false,false,false,false] rfl rfl (by kernel_rfl) (fun _ _ _ h=>h) (Or.inl ⟨by rfl, ?_⟩) ?_ ?_;rotate_left;(intro w';go_simp;with_reducible rfl);rotate_left;(simp only [Act.put,List.setIfInBounds_toArray,List.set_cons_zero,List.set_cons_succ,i64_w,i32_w];rfl);refine pure_ (i:=4) (N:=some 31) (v:=?_) (a':=?_) #[true,true,false,false,true,false,false,false,false,false,false,false,false,false,false,false,false,false,false,false,false,false] rfl rfl (by kernel_rfl) (fun _ _ _ h=>h) (Or.inl ⟨by rfl, ?_⟩) ?_ ?_;rotate_left;(intro w';go_simp;with_reducible rfl);rotate_left;(simp only [Act.put,List.setIfInBounds_toArray,List.set_cons_zero,List.set_cons_succ,i64_w,i32_w];rfl);refine pure_ (i:=5) (N:=some 32) (v:=?_) (a':=?_) #[true,true,false,false,true,true,false,false,false,false,false,false,false,false,false,false,false,false,false,false,false,false] rfl rfl (by kernel_rfl) (fun _ _ _ h=>h) (Or.inl ⟨by rfl, ?_⟩) ?_ ?_;rotate_left;(intro w';go_simp;with_reducible rfl);rotate_left;(simp only [Act.put,List.setIfInBounds_toArray,List.set_cons_zero,List.set_cons_succ,i64_w,i32_w];rfl);refine pure_ (i:=8) (N:=some 35) (v:=?_) (a':=?_) #[true,true,false,false,true,true,false,false,true,false,false,false,false,false,false,false,false,false,false,false,false,false] rfl rfl (by kernel_rfl) (fun _ _ _ h=>h) (Or.inl ⟨by rfl, ?_⟩) ?_ ?_;rotate_left;(intro w';go_simp;with_reducible rfl);rotate_left;(simp only [Act.put,List.setIfInBounds_toArray,List.set_cons_zero,List.set_cons_succ,i64_w,i32_w];rfl);refine pure_ (i:=10) (N:=some 37) (v:=?_) (a':=?_) #[true,true,false,false,true,true,false,false,true,false,true,false,false,false,false,false,false,false,false,false,false,false] rfl rfl (by kernel_rfl) (fun _ _ _ h=>h) (Or.inl ⟨by rfl, ?_⟩) ?_ ?_;rotate_left;(intro w';go_simp;with_reducible rfl);rotate_left;(simp only [Act.put,List.setIfInBounds_toArray,List.set_cons_zero,List.set_cons_succ,i64_w,i32_w];rfl);refine pure_ (i:=13) (N:=some 40) (v:=?_) (a':=?_) #[true,true,false,false,true,true,false,false,true,false,true,false,false,true,false,false,false,false,false,false,false,false] rfl rfl (by kernel_rfl) (fun _ _ _ h=>h) (Or.inl ⟨by rfl, ?_⟩) ?_ ?_;rotate_left;(intro w';go_simp;with_reducible rfl);rotate_left;(simp only [Act.put,List.setIfInBounds_toArray,List.set_cons_zero,List.set_cons_succ,i64_w,i32_w];rfl);refine pure_ (i:=15) (N:=some 42) (v:=?_) (a':=?_) #[true,true,false,false,true,true,false,false,true,false,true,false,false,true,false,true,false,false,false,false,false,false] rfl rfl (by kernel_rfl) (fun _ _ _ h=>h) (Or.inl ⟨by rfl, ?_⟩) ?_ ?_;rotate_left;(intro w';go_simp;with_reducible rfl);rotate_left;(simp only [Act.put,List.setIfInBounds_toArray,List.set_cons_zero,List.set_cons_succ,i64_w,i32_w];rfl);refine take_ (i:=2) (N:=some 29) (v:=?_) (a':=?_) #[true,true,true,false,true,true,false,false,true,false,true,false,false,true,false,true,false,false,false,false,false,false] rfl rfl (by kernel_rfl) (fun _ _ _ h=>h) (Or.inl ⟨by rfl, ?_⟩) hHeld ?_ ?_;rotate_left;(rintro w' ⟨s0,s1,s2⟩;go_simp;with_reducible rfl);rotate_left;(simp only [Act.put,List.setIfInBounds_toArray,List.set_cons_zero,List.set_cons_succ,i64_w,i32_w];rfl);refine take_ (i:=6) (N:=some 33) (v:=?_) (a':=?_) #[true,true,true,false,true,true,true,false,true,false,true,false,false,true,false,true,false,false,false,false,false,false] rfl rfl (by kernel_rfl) (fun _ _ _ h=>h) (Or.inl ⟨by rfl, ?_⟩) hHeld ?_ ?_;rotate_left;(rintro w' ⟨s0,s1,s2⟩;go_simp;with_reducible rfl);rotate_left;(simp only [Act.put,List.setIfInBounds_toArray,List.set_cons_zero,List.set_cons_succ,i64_w,i32_w];rfl);refine take_ (i:=9) (N:=some 36) (v:=?_) (a':=?_) #[true,true,true,false,true,true,true,false,true,true,true,false,false,true,false,true,false,false,false,false,false,false] rfl rfl (by kernel_rfl) (fun _ _ _ h=>h) (Or.inl ⟨by rfl, ?_⟩) hHeld ?_ ?_;rotate_left;(rintro w' ⟨s0,s1,s2⟩;go_simp;with_reducible rfl);rotate_left;(simp only [Act.put,List.setIfInBounds_toArray,List.set_cons_zero,List.set_cons_succ,i64_w,i32_w];rfl);refine take_ (i:=11) (N:=some 38) (v:=?_) (a':=?_) #[true,true,true,false,true,true,true,false,true,true,true,true,false,true,false,true,false,false,false,false,false,false] rfl rfl (by kernel_rfl) (fun _ _ _ h=>h) (Or.inl ⟨by rfl, ?_⟩) hHeld ?_ ?_;rotate_left;(rintro w' ⟨s0,s1,s2⟩;go_simp;with_reducible rfl);rotate_left;(simp only [Act.put,List.setIfInBounds_toArray,List.set_cons_zero,List.set_cons_succ,i64_w,i32_w];rfl);refine pure_ (i:=12) (N:=some 39) (v:=?_) (a':=?_) #[true,true,true,false,true,true,true,false,true,true,true,true,true,true,false,true,false,false,false,false,false,false] rfl rfl (by kernel_rfl) (fun _ _ _ h=>h) (Or.inl ⟨by rfl, ?_⟩) ?_ ?_;rotate_left;(intro w';go_simp;with_reducible rfl);rotate_left;(simp only [Act.put,List.setIfInBounds_toArray,List.set_cons_zero,List.set_cons_succ,i64_w,i32_w];rfl);refine take_ (i:=14) (N:=some 41) (v:=?_) (a':=?_) #[true,true,true,false,true,true,true,false,true,true,true,true,true,true,true,true,false,false,false,false,false,false] rfl rfl (by kernel_rfl) (fun _ _ _ h=>h) (Or.inl ⟨by rfl, ?_⟩) hHeld ?_ ?_;rotate_left;(rintro w' ⟨s0,s1,s2⟩;go_simp;with_reducible rfl);rotate_left;(simp only [Act.put,List.setIfInBounds_toArray,List.set_cons_zero,List.set_cons_succ,i64_w,i32_w];rfl);refine take_ (i:=16) (N:=some 43) (v:=?_) (a':=?_) #[true,true,true,false,true,true,true,false,true,true,true,true,true,true,true,true,true,false,false,false,false,false] rfl rfl (by kernel_rfl) (fun _ _ _ h=>h) (Or.inl ⟨by rfl, ?_⟩) hHeld ?_ ?_;rotate_left;(rintro w' ⟨s0,s1,s2⟩;go_simp;with_reducible rfl);rotate_left;(simp only [Act.put,List.setIfInBounds_toArray,List.set_cons_zero,List.set_cons_succ,i64_w,i32_w];rfl);refine pure_ (i:=17) (N:=some 44) (v:=?_) (a':=?_) #[true,true,true,false,true,true,true,false,true,true,true,true,true,true,true,true,true,true,false,false,false,false] rfl rfl (by kernel_rfl) (fun _ _ _ h=>h) (Or.inl ⟨by rfl, ?_⟩) ?_ ?_;rotate_left;(intro w';go_simp;with_reducible rfl);rotate_left;(simp only [Act.put,List.setIfInBounds_toArray,List.set_cons_zero,List.set_cons_succ,i64_w,i32_w];rfl);refine one_ (i:=3) (N:=some 30) #[true,true,true,true,true,true,true,false,true,true,true,true,true,true,true,true,true,true,false,false,false,false] rfl rfl (by kernel_rfl) (by decide) (fun K hK=>?_);refine goes_ Try.func84 (by kernel_rfl) rfl #[.pointer (some ⟨b8,3,none⟩),.int .i64 n.f2] (by rfl) rfl rfl (by first|(simp only [List.map_toArray,List.map_cons,List.map_nil];done)|(simp only [List.map_toArray,List.map_cons,List.map_nil];rfl)) ?_
 refine (coord_any _ _ _ _).mono ?_
 rintro e w' ⟨rfl,rfl⟩;refine ⟨_,rfl, ?_⟩
 refine hK.out _ _ ⟨(hHeld.1),(hHeld.2.1),(hHeld.2.2)⟩ (fun hHeld=>?_)
 clear hK K;refine norm_ (a':=?_) ?_ ?_;rotate_left
 ·show Act.put _ (some 30) _ = _
  simp only [Act.put,List.setIfInBounds_toArray,List.set_cons_zero,List.set_cons_succ,i64_w,i32_w];rfl
 refine one_ (i:=7) (N:=some 34) #[true,true,true,true,true,true,true,true,true,true,true,true,true,true,true,true,true,true,false,false,false,false] rfl rfl (by kernel_rfl) (by decide) (fun K hK=>?_);refine goes_ Try.func84 (by kernel_rfl) rfl #[.pointer (some ⟨b9,0,none⟩),.int .i64 n.f2] (by rfl) rfl rfl (by first|(simp only [List.map_toArray,List.map_cons,List.map_nil];done)|(simp only [List.map_toArray,List.map_cons,List.map_nil];rfl)) ?_
 refine (coord_any _ _ _ _).mono ?_
 rintro e w' ⟨rfl,rfl⟩;refine ⟨_,rfl, ?_⟩
 refine hK.out _ _ ⟨(hHeld.1),(hHeld.2.1),(hHeld.2.2)⟩ (fun hHeld=>?_)
 clear hK K;refine norm_ (a':=?_) ?_ ?_;rotate_left
 ·show Act.put _ (some 34) _ = _
  simp only [Act.put,List.setIfInBounds_toArray,List.set_cons_zero,List.set_cons_succ,i64_w,i32_w];rfl
 refine pure_ (i:=18) (N:=some 45) (v:=?_) (a':=?_) #[true,true,true,true,true,true,true,true,true,true,true,true,true,true,true,true,true,true,true,false,false,false] rfl rfl (by kernel_rfl) (fun _ _ _ h=>h) (Or.inl ⟨by rfl, ?_⟩) ?_ ?_;rotate_left;(intro w';go_simp;with_reducible rfl);rotate_left;(simp only [Act.put,List.setIfInBounds_toArray,List.set_cons_zero,List.set_cons_succ,i64_w,i32_w];rfl);refine one_ (i:=19) (N:=none) #[true,true,true,true,true,true,true,true,true,true,true,true,true,true,true,true,true,true,true,true,false,false] rfl rfl (by kernel_rfl) (by decide) (fun K hK=>?_)
 refine skip_ (w1:=w5.setCell ⟨b8,3 + axo n.f2,none⟩ (.int .i64 (wrap64 (n.f3 + n.f4)))) (by rfl) rfl ?_ ?_
 (exact exec_store rfl rfl rfl (run_store3 w5 b8 _ _ 80 H3.q8 (by show _ < 6;omega) _))
 refine hK.out _ _ ⟨((blk_cell (H3.set8 (3 + axo n.f2) (.int .i64 (wrap64 (n.f3 + n.f4)))).n2 2).trans rfl),((blk_cell (H3.set8 (3 + axo n.f2) (.int .i64 (wrap64 (n.f3 + n.f4)))).n2 3).trans rfl),((blk_cell (H3.set8 (3 + axo n.f2) (.int .i64 (wrap64 (n.f3 + n.f4)))).n2 4).trans rfl)⟩ (fun hHeld=>?_)
 clear hK K;refine pure_ (i:=20) (N:=some 46) (v:=?_) (a':=?_) #[true,true,true,true,true,true,true,true,true,true,true,true,true,true,true,true,true,true,true,true,true,false] rfl rfl (by kernel_rfl) (fun _ _ _ h=>h) (Or.inl ⟨by rfl, ?_⟩) ?_ ?_;rotate_left;(intro w';go_simp;with_reducible rfl);rotate_left;(simp only [Act.put,List.setIfInBounds_toArray,List.set_cons_zero,List.set_cons_succ,i64_w,i32_w];rfl)
 refine last_ (i:=21) (N:=none) #[true,true,true,true,true,true,true,true,true,true,true,true,true,true,true,true,true,true,true,true,true,true] rfl rfl (by kernel_rfl) (by decide) (fun K hK=>?_)
 refine skip_ (w1:=(w5.setCell ⟨b8,3 + axo n.f2,none⟩ (.int .i64 (wrap64 (n.f3 + n.f4)))).setCell ⟨b9,axo n.f2,none⟩ (.int .i64 (wrap64 (n.f3 + n.f4)))) (by rfl) rfl ?_ ?_
 (exact exec_store rfl rfl rfl (run_store3 _ b9 _ _ 80 (H3.set8 _ _).q9 (by show _ < 6;omega) _))
 refine hK.out _ _ ?_
 clear hK K
 refine done_ (by kernel_rfl) ?_
 have H4:=(H3.set8 (3 + axo n.f2) (.int .i64 (wrap64 (n.f3 + n.f4)))).set9 (axo n.f2) (.int .i64 (wrap64 (n.f3 + n.f4)));generalize ((w5.setCell ⟨b8,3 + axo n.f2,none⟩ (.int .i64 (wrap64 (n.f3 + n.f4)))).setCell ⟨b9,axo n.f2,none⟩ (.int .i64 (wrap64 (n.f3 + n.f4)))) = w6 at H4 ⊢;rw [setL,setR] at H4;clear H3 c2 c3 c4
 go_wp2
 refine start_ (n:=6) (S:=fun w'=>w'.heap[b7]? = some (.cells (c80 (divL n b)) 80 (0,0)) ∧ w'.heap[b8]? = some (.cells (c80 (divK n b)) 80 (0,0)) ∧ w'.heap[b9]? = some (.cells (c80 (divR n b)) 80 (0,0))) (ds:=[5]) #[false,false,false,false,false,false] (by kernel_rfl) rfl rfl ⟨H4.q7,H4.q8,H4.q9⟩ (fun hHeld=>?_)
 replace H4:=H4.drew;generalize w6.drew = w7 at H4 hHeld ⊢;refine take_ (i:=0) (N:=some 47) (v:=e80 (divL n b)) (a':=?_) #[true,false,false,false,false,false] rfl rfl (by kernel_rfl) (fun _ _ _ h=>h) (Or.inl ⟨by rfl,fun w' hw'=>exec_load rfl rfl (run_load80 w' b7 _ hw'.1)⟩) hHeld ?_ ?_;rotate_left;(simp only [Act.put,List.setIfInBounds_toArray,List.set_cons_zero,List.set_cons_succ];rfl);refine take_ (i:=1) (N:=some 48) (v:=e80 (divK n b)) (a':=?_) #[true,true,false,false,false,false] rfl rfl (by kernel_rfl) (fun _ _ _ h=>h) (Or.inl ⟨by rfl,fun w' hw'=>exec_load rfl rfl (run_load80 w' b8 _ hw'.2.1)⟩) hHeld ?_ ?_;rotate_left;(simp only [Act.put,List.setIfInBounds_toArray,List.set_cons_zero,List.set_cons_succ];rfl);refine take_ (i:=2) (N:=some 49) (v:=e80 (divR n b)) (a':=?_) #[true,true,true,false,false,false] rfl rfl (by kernel_rfl) (fun _ _ _ h=>h) (Or.inl ⟨by rfl,fun w' hw'=>exec_load rfl rfl (run_load80 w' b9 _ hw'.2.2)⟩) hHeld ?_ ?_;rotate_left;(simp only [Act.put,List.setIfInBounds_toArray,List.set_cons_zero,List.set_cons_succ];rfl);have l7:=H4.l7;have l8:=H4.l8;have l9:=H4.l9
 have f1 : ∀ q,q ≠ w.heap.size + 1 + 1 → (w7.setRow (w.heap.size + 1 + 1) (c80 (divL n b))).heap[q]? = w7.heap[q]? := fun q hq=>setRow_other w7 _ q _ hq
 have s1 : (w7.setRow (w.heap.size + 1 + 1) (c80 (divL n b))).heap[w.heap.size + 1 + 1]? = some (.cells (c80 (divL n b)) 80 (0,0)):=setRow_heap w7 _ _ _ 80 _ H4.n4;refine one_ (i:=3) (N:=none) #[true,true,true,true,false,false] rfl rfl (by kernel_rfl) (by decide) (fun K hK=>?_)
 refine skip_ (w1:=w7.setRow (w.heap.size + 1 + 1) (c80 (divL n b))) (by rfl) rfl ?_ ?_
 (exact exec_store rfl rfl rfl (run_store80 w7 _ z80c _ H4.n4 rfl))
 refine hK.out _ _ ⟨(f1 _ (by omega)).trans H4.q7,(f1 _ (by omega)).trans H4.q8,(f1 _ (by omega)).trans H4.q9⟩ (fun _=>?_)
 clear hK K;have p5:=(f1 (w.heap.size + 1 + 1 + 1) (by omega)).trans H4.n5;have p6:=(f1 (w.heap.size + 1 + 1 + 1 + 1) (by omega)).trans H4.n6;have p7:=(f1 _ (by omega)).trans H4.q7;have p8:=(f1 _ (by omega)).trans H4.q8;have p9:=(f1 _ (by omega)).trans H4.q9;have pb : Below w.heap.size w (w7.setRow (w.heap.size + 1 + 1) (c80 (divL n b))):=below_setRow H4.bel (by omega) _;generalize w7.setRow (w.heap.size + 1 + 1) (c80 (divL n b)) = w8 at s1 p5 p6 p7 p8 p9 pb ⊢;clear f1 H4
 have f2 : ∀ q,q ≠ w.heap.size + 1 + 1 + 1 → (w8.setRow (w.heap.size + 1 + 1 + 1) (c80 (divK n b))).heap[q]? = w8.heap[q]? := fun q hq=>setRow_other w8 _ q _ hq
 have s2 : (w8.setRow (w.heap.size + 1 + 1 + 1) (c80 (divK n b))).heap[w.heap.size + 1 + 1 + 1]? = some (.cells (c80 (divK n b)) 80 (0,0)):=setRow_heap w8 _ _ _ 80 _ p5;refine one_ (i:=4) (N:=none) #[true,true,true,true,true,false] rfl rfl (by kernel_rfl) (by decide) (fun K hK=>?_)
 refine skip_ (w1:=w8.setRow (w.heap.size + 1 + 1 + 1) (c80 (divK n b))) (by rfl) rfl ?_ ?_
 (exact exec_store rfl rfl rfl (run_store80 w8 _ z80c _ p5 rfl))
 refine hK.out _ _ ⟨(f2 _ (by omega)).trans p7,(f2 _ (by omega)).trans p8,(f2 _ (by omega)).trans p9⟩ (fun _=>?_)
 clear hK K;have r4:=(f2 (w.heap.size + 1 + 1) (by omega)).trans s1;have r6:=(f2 (w.heap.size + 1 + 1 + 1 + 1) (by omega)).trans p6;have rb : Below w.heap.size w (w8.setRow (w.heap.size + 1 + 1 + 1) (c80 (divK n b))):=below_setRow pb (by omega) _;generalize w8.setRow (w.heap.size + 1 + 1 + 1) (c80 (divK n b)) = w9 at s2 r4 r6 rb ⊢;clear f2 s1 p5 p6 p7 p8 p9 pb
 have f3 : ∀ q,q ≠ w.heap.size + 1 + 1 + 1 + 1 → (w9.setRow (w.heap.size + 1 + 1 + 1 + 1) (c80 (divR n b))).heap[q]? = w9.heap[q]? := fun q hq=>setRow_other w9 _ q _ hq
 have s3 : (w9.setRow (w.heap.size + 1 + 1 + 1 + 1) (c80 (divR n b))).heap[w.heap.size + 1 + 1 + 1 + 1]? = some (.cells (c80 (divR n b)) 80 (0,0)):=setRow_heap w9 _ _ _ 80 _ r6
 refine last_ (i:=5) (N:=none) #[true,true,true,true,true,true] rfl rfl (by kernel_rfl) (by decide) (fun K hK=>?_)
 refine skip_ (w1:=w9.setRow (w.heap.size + 1 + 1 + 1 + 1) (c80 (divR n b))) (by rfl) rfl ?_ ?_
 (exact exec_store rfl rfl rfl (run_store80 w9 _ z80c _ r6 rfl))
 refine hK.out _ _ ?_
 clear hK K
 refine done_ (by kernel_rfl) ?_
 have u4:=(f3 (w.heap.size + 1 + 1) (by omega)).trans r4;have u5:=(f3 (w.heap.size + 1 + 1 + 1) (by omega)).trans s2;have ub : Below w.heap.size w (w9.setRow (w.heap.size + 1 + 1 + 1 + 1) (c80 (divR n b))):=below_setRow rb (by omega) _;generalize w9.setRow (w.heap.size + 1 + 1 + 1 + 1) (c80 (divR n b)) = wA at s3 u4 u5 ub ⊢;clear f3 r4 r6 rb s2;have U4:=aside u4;have U5:=aside u5;have U6:=aside s3;have UB:=aside ub;clear u4 u5 s3 ub hHeld
 go_wp2
 have v4:=run_loadVar_row (P:=Try.prog) wA _ 80 80 (c80 (divL n b)) (0,0) _ U4.out Try.underlying80 rfl size80;have v5:=run_loadVar_row (P:=Try.prog) wA _ 80 80 (c80 (divK n b)) (0,0) _ U5.out Try.underlying80 rfl size80;have v6:=run_loadVar_row (P:=Try.prog) wA _ 80 80 (c80 (divR n b)) (0,0) _ U6.out Try.underlying80 rfl size80;exact bodyPost_ret (v:=.tuple #[.agg (c80 (divL n b)),.agg (c80 (divK n b)),.agg (c80 (divR n b))]) (by simp [results,Try.results87,asAddr,v4,v5,v6]) rfl ⟨rfl,UB.out⟩
end Go.Proofs.Ytdnjagfbhppmbaa.PA
