import Derived.Test.YtdnjagfbhppmbaaGq
import Derived.Test.YtdnjagfbhppmbaaGr
namespace Go.Proofs.Ytdnjagfbhppmbaa.PA
open Go.RowKit Go.Shelf Go.Proofs.YtdnjagfbhppmbaaW.PrintWords Go.Proofs.YtdnjagfbhppmbaaW.PrintLast Go.Proofs.YtdnjagfbhppmbaaW.PrintMore
set_option linter.unusedVariables false
set_option linter.unusedSimpArgs false
attribute [local go_sem] Oper.semAt_some
def Rowed (W : World) (B : Nat) (t : TypeId) (vs : Array Value) : Prop:=W.heap[B]? = some (.cells vs t (0,0))
theorem Rowed.lt {W : World} {B : Nat} {t : TypeId} {vs : Array Value} (h : Rowed W B t vs) : B < W.heap.size:=(Array.getElem?_eq_some_iff.1 h).1
theorem Rowed.kept {W W' : World} {row : Option Nat} {B : Nat} {t : TypeId} {v : Array Value} (h : Rowed W B t v) (hg : W.grownBy W' row) (hne : some B ≠ row) : Rowed W' B t v:=(hg.block B h.lt hne).trans h
theorem Rowed.alloc {W : World} {B : Nat} {t : TypeId} {v : Array Value} (h : Rowed W B t v) (o : Obj) : Rowed (W.alloc o) B t v:=h.kept (World.grownBy_alloc W o none) (by simp)
theorem rowed_own {β : Type} (B : Nat) (t : TypeId) (f : β → Array Value) : Own (fun s W=>Rowed W B t (f s)):=fun s X Y row hs hg hrow =>
 hs.kept hg (fun e'=>by obtain ⟨o,ho,hc⟩ := hrow B e'.symm;rw [show X.heap[B]? = _ from hs] at ho;cases ho;cases hc)
theorem Rowed.below {W W' : World} {n B : Nat} {t : TypeId} {v : Array Value} (h : Rowed W B t v) (hb : Below n W W') (hB : B < n) : Rowed W' B t v:=(hb.block B hB).trans h
structure PW (w : World) (v : S34) (A : Option Addr) (n c : Nat) (r : Int) (W : World) : Prop where
 size : Rowed W w.heap.size 34 #[.int .i64 v.f0,.int .i64 v.f1,.int .i64 v.f2]
 plan : Rowed W (w.heap.size + 1) 27 #[.slice A n c]
 res : Rowed W (w.heap.size + 2) 25 #[.int .i64 r]
 below : Below w.heap.size w W
theorem PW.own {β : Type} {w : World} {v : S34} {A : Option Addr} {n c B : Nat} {r : Int} (hB : w.heap.size ≤ B) : OwnFrom B (fun (_ : β) W=>PW w v A n c r W):=fun s W W' row hs hg hr =>
 ⟨rowed_own _ _ (fun (_ : Unit)=>#[.int .i64 v.f0,.int .i64 v.f1,.int .i64 v.f2]) () W W' row hs.size hg (fun r e=>(hr r e).2),rowed_own _ _ (fun (_ : Unit)=>#[.slice A n c]) () W W' row hs.plan hg (fun r e=>(hr r e).2),rowed_own _ _ (fun (_ : Unit)=>#[.int .i64 r]) () W W' row hs.res hg (fun r e=>(hr r e).2),
  ownFrom_below (β:=Unit) (Nat.le_refl _) hB () W W' row hs.below hg hr⟩
theorem PW.lt {w W : World} {v : S34} {A : Option Addr} {n c : Nat} {r : Int} (h : PW w v A n c r W) : w.heap.size + 2 < W.heap.size:=h.res.lt
theorem PW.mono {w W w2 : World} {v : S34} {A : Option Addr} {n c : Nat} {r : Int} (h : PW w v A n c r W) (hb : Below W.heap.size W w2) : PW w v A n c r w2 :=
 ⟨h.size.below hb h.size.lt,h.plan.below hb h.plan.lt,h.res.below hb h.res.lt,h.below.trans (hb.mono h.below.size)⟩
theorem PW.put {w W : World} {v : S34} {A : Option Addr} {n c : Nat} {r q : Int} (h : PW w v A n c r W) : PW w v A n c q (W.setCell ⟨w.heap.size + 2,0,none⟩ (.int .i64 q)) :=
 ⟨(Below.heap_setCell _ _ _ _ (by show w.heap.size ≠ w.heap.size + 2;omega)).trans h.size,(Below.heap_setCell _ _ _ _ (by show w.heap.size + 1 ≠ w.heap.size + 2;omega)).trans h.plan,blk_put h.res 0 (.int .i64 q) rfl,h.below.setCell (p:=⟨w.heap.size + 2,0,none⟩) (by show w.heap.size ≤ w.heap.size + 2;omega) _⟩
end Go.Proofs.Ytdnjagfbhppmbaa.PA
