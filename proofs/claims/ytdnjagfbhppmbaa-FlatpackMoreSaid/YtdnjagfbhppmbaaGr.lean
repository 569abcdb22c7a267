import Derived.Test.YtdnjagfbhppmbaaPAx0
import Derived.Laws.EntriesVeiled
import Derived.BigRegion
import Derived.Laws.CopyOwn
import Derived.LoopIn
import Derived.LoopNIn
import Derived.OwnWalkIn
import Derived.RangeFuncBound
import Derived.RangeFuncCalls
import Derived.RangeFuncLeaves
import Derived.RangeFuncNested
import Derived.Shelf.Abstract
import Derived.Shelf.RegionOpen
import Derived.Sort.BigQuietIn
import Derived.StillTailTactics
import Derived.TacticsInMore
import Derived.WalkSpells
namespace Go.Proofs.Ytdnjagfbhppmbaa.PA
open Go.RowKit Go.Shelf Go.Proofs.YtdnjagfbhppmbaaW.PrintWords Go.Proofs.YtdnjagfbhppmbaaW.PrintLast Go.Proofs.YtdnjagfbhppmbaaW.PrintMore
set_option linter.unusedVariables false
set_option linter.unusedSimpArgs false
attribute [local go_sem] Oper.semAt_some
def a107 (s : S107) : Array Value:=#[.int .i64 s.f0,.int .i64 s.f1.f0.f0,.int .i64 s.f1.f0.f1,.int .i64 s.f1.f0.f2,.int .i64 s.f1.f1.f0,.int .i64 s.f1.f1.f1,.int .i64 s.f1.f1.f2,.int .i64 s.f2]
def e107 (s : S107) : Value:=.agg (a107 s)
structure KT (n₀ : Nat) (W W' : World) : Prop where
 bel : Below n₀ W W'
 typ : ∀ (k : Nat) (cs : Array Value) (t : TypeId),W.heap[k]? = some (Obj.cells cs t (0,0)) → t ∉ [25,72,98,82,3] → W'.heap[k]? = some (Obj.cells cs t (0,0))
theorem KT.trans {n₀ : Nat} {A B C : World} (h : KT n₀ A B) (k : KT n₀ B C) : KT n₀ A C:=⟨h.bel.trans k.bel,fun q cs t hq ht=>k.typ q cs t (h.typ q cs t hq ht) ht⟩
theorem KT.of_below {n₀ : Nat} {A B : World} (h : Below A.heap.size A B) (hn : n₀ ≤ A.heap.size) : KT n₀ A B:=⟨h.mono hn,fun q cs t hq _=>(h.block q (blk_lt hq)).trans hq⟩
structure VS (w : World) (l Y Pl V : Nat) (A : Option Addr) (n c : Nat) (W : World) : Prop where
 yb : W.heap[Y]? = some (.cells #[.func (.yield l) #[] #[]] 126 (0,0))
 pb : W.heap[Pl]? = some (.cells #[.slice A n c] 27 (0,0))
 vb : W.heap[V]? = some (.cells #[.func (.func 86) #[] #[.pointer (some ⟨Y,0,none⟩),.pointer (some ⟨Pl,0,none⟩),.pointer (some ⟨V,0,none⟩)]] 126 (0,0))
 bel : Below w.heap.size w W
theorem VS.keep {w W W' : World} {l Y Pl V n c : Nat} {A : Option Addr} (h : VS w l Y Pl V A n c W) (k : KT w.heap.size W W') : VS w l Y Pl V A n c W' :=
 ⟨k.typ _ _ _ h.yb (by decide),k.typ _ _ _ h.pb (by decide),k.typ _ _ _ h.vb (by decide),h.bel.trans k.bel⟩
theorem VS.step {w W W' : World} {l Y Pl V n c : Nat} {A : Option Addr} (h : VS w l Y Pl V A n c W) (k : Below W.heap.size W W') : VS w l Y Pl V A n c W':=h.keep (KT.of_below k h.bel.size)
abbrev StepN (ns : List S59) := { s : S107 // 0 ≤ s.f0 ∧ s.f0 < (ns.length : Int) }
end Go.Proofs.Ytdnjagfbhppmbaa.PA
