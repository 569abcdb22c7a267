import Derived.Test.YtdnjagfbhppmbaaGs
namespace Go.Proofs.Ytdnjagfbhppmbaa.PA
open Go.RowKit Go.Shelf Go.Proofs.YtdnjagfbhppmbaaW.PrintWords Go.Proofs.YtdnjagfbhppmbaaW.PrintLast Go.Proofs.YtdnjagfbhppmbaaW.PrintMore
set_option linter.unusedVariables false
set_option linter.unusedSimpArgs false
attribute [local go_sem] Oper.semAt_some
def raw {ns : List S59} (pre : List (StepN ns)) : List S107:=pre.map (·.1)
def c87 (x : S87) : List Value:=[.int .i64 x.f0,.string x.f1,.int .i64 x.f2.f0.f0,.int .i64 x.f2.f0.f1,.int .i64 x.f2.f0.f2,.int .i64 x.f2.f1.f0,.int .i64 x.f2.f1.f1,.int .i64 x.f2.f1.f2]
def rows87 (l : List S87) : List Value:=l.flatMap c87
structure Wr (n₀ : Nat) (W W' : World) : Prop where
 bel : Below n₀ W W'
 keep : ∀ (k : Nat) (o : Obj),W.heap[k]? = some o → (∀ cs t,o = Obj.cells cs t (0,0) → t ∉ [72,98,82,3]) → W'.heap[k]? = some o
theorem Wr.refl (n₀ : Nat) (W : World) : Wr n₀ W W:=⟨Below.refl _ _,fun k o h _=>h⟩
theorem Wr.trans {n₀ : Nat} {A B C : World} (h : Wr n₀ A B) (k : Wr n₀ B C) : Wr n₀ A C:=⟨h.bel.trans k.bel,fun q o hq ht=>k.keep q o (h.keep q o hq ht) ht⟩
theorem Wr.of_below {n₀ : Nat} {A B : World} (h : Below A.heap.size A B) (hn : n₀ ≤ A.heap.size) : Wr n₀ A B:=⟨h.mono hn,fun q o hq _=>(h.block q (blk_lt hq)).trans hq⟩
theorem Wr.from {n₀ B : Nat} {W V : World} (h : Wr n₀ W V) : KeepsFrom B W V:=⟨h.bel.size,fun k o _ hk hc=>h.keep k o hk (fun cs t e=>by subst e;cases hc)⟩
theorem Wr.blk {n₀ g : Nat} {W V : World} {cs : Array Value} {t : TypeId} (h : Wr n₀ W V) (hg : W.heap[g]? = some (Obj.cells cs t (0,0))) (ht : t ∉ [72,98,82,3]) : V.heap[g]? = some (Obj.cells cs t (0,0)):=h.keep g _ hg (fun cs' t' e=>by cases e;exact ht)
theorem Wr.grown {n₀ : Nat} {W V : World} {base n size : Nat} {e : TypeId} {u : Value} {xs : List Value} (ho : W.ownsRow base e size u n xs) (hg : W.grownBy V u.ownBlock) (he : e ∈ [72,98,82,3]) (hn : n₀ ≤ W.heap.size) (hb : n₀ ≤ base) : Wr n₀ W V:=by
 refine ⟨(Below.refl n₀ W).grown hg hn (fun k hk=>Nat.le_trans hb (own_base ho k hk)),fun k o hk ht=>?_⟩
 refine (hg.block k (blk_lt hk) (fun e'=>?_)).trans hk
 obtain ⟨cells,h2⟩ := own_typed ho k e'.symm;rw [hk] at h2
 cases h2
 exact ht _ _ rfl he
structure TT (n₀ B6 B7 : Nat) (X : World) (p6 p7 v6 v7 : Value) (ls : List S87) (zs : List Int) (w' : World) : Prop where
 wr : Wr n₀ X w'
 b6 : w'.heap[B6]? = some (.cells #[p6] 72 (0,0))
 b7 : w'.heap[B7]? = some (.cells #[p7] 98 (0,0))
 o6 : w'.ownsRow n₀ 82 8 v6 ls.length (rows87 ls)
 o7 : w'.ownsRow n₀ 3 1 v7 zs.length (zs.map (.int .i64))
 l6 : n₀ ≤ B6
 l7 : n₀ ≤ B7
 hn : n₀ ≤ w'.heap.size
section
variable {n₀ B6 B7 : Nat} {X w' w2 : World} {p6 p7 v6 v7 u : Value} {ls : List S87} {zs : List Int}
theorem TT.alloc (h : TT n₀ B6 B7 X p6 p7 v6 v7 ls zs w') (o : Obj) : TT n₀ B6 B7 X p6 p7 v6 v7 ls zs (w'.alloc o):=by
 have hb : Below w'.heap.size w' (w'.alloc o):=below_alloc (Below.refl _ _) _;exact ⟨h.wr.trans (Wr.of_below hb h.hn),(hb.block _ (blk_lt h.b6)).trans h.b6,(hb.block _ (blk_lt h.b7)).trans h.b7,pw_own_below h.o6 hb,pw_own_below h.o7 hb,h.l6,h.l7,Nat.le_trans h.hn hb.size⟩
end
structure LW (w : World) (v : S34) (A : Option Addr) (n c : Nat) (ls : List S87) (zs : List Int) (u6 u7 : Value) (W : World) : Prop where
 size : Rowed W w.heap.size 34 #[.int .i64 v.f0,.int .i64 v.f1,.int .i64 v.f2]
 plan : Rowed W (w.heap.size + 1) 27 #[.slice A n c]
 b6 : Rowed W (w.heap.size + 2) 72 #[u6]
 b7 : Rowed W (w.heap.size + 3) 98 #[u7]
 o6 : W.ownsRow w.heap.size 82 8 u6 ls.length (rows87 ls)
 o7 : W.ownsRow w.heap.size 3 1 u7 zs.length (zs.map (.int .i64))
 below : Below w.heap.size w W
theorem own_keep {X Y : World} {row : Option Nat} {base n size : Nat} {e : TypeId} {u : Value} {xs : List Value} (h : X.ownsRow base e size u n xs) (hg : X.grownBy Y row) (hr : ∀ r,row = some r → ∃ o : Obj,X.heap[r]? = some o ∧ o.isCells = false) : Y.ownsRow base e size u n xs:=by
 refine h.kept hg ?_
 cases hb : u.ownBlock with
 | none=>exact .inl rfl
 | some b =>
  right
  intro e';obtain ⟨cells,h2⟩ := own_typed h b hb;obtain ⟨o,ho,hc⟩ := hr b e'.symm;rw [h2] at ho
  cases ho
  cases hc
theorem LW.own {β : Type} {w : World} {v : S34} {A : Option Addr} {n c B : Nat} {ls : List S87} {zs : List Int} {u6 u7 : Value} (hB : w.heap.size ≤ B) : OwnFrom B (fun (_ : β) W=>LW w v A n c ls zs u6 u7 W):=fun s W W' row hs hg hr =>
 ⟨rowed_own _ _ (fun (_ : Unit)=>#[.int .i64 v.f0,.int .i64 v.f1,.int .i64 v.f2]) () W W' row hs.size hg (fun r e=>(hr r e).2),rowed_own _ _ (fun (_ : Unit)=>#[.slice A n c]) () W W' row hs.plan hg (fun r e=>(hr r e).2),rowed_own _ _ (fun (_ : Unit)=>#[u6]) () W W' row hs.b6 hg (fun r e=>(hr r e).2),rowed_own _ _ (fun (_ : Unit)=>#[u7]) () W W' row hs.b7 hg (fun r e=>(hr r e).2),
  own_keep hs.o6 hg (fun r e=>(hr r e).2),own_keep hs.o7 hg (fun r e=>(hr r e).2),ownFrom_below (β:=Unit) (Nat.le_refl _) hB () W W' row hs.below hg hr⟩
theorem LW.lt {w W : World} {v : S34} {A : Option Addr} {n c : Nat} {ls : List S87} {zs : List Int} {u6 u7 : Value} (h : LW w v A n c ls zs u6 u7 W) : w.heap.size + 3 < W.heap.size:=h.b7.lt
theorem LW.mono {w W w2 : World} {v : S34} {A : Option Addr} {n c : Nat} {ls : List S87} {zs : List Int} {u6 u7 : Value} (h : LW w v A n c ls zs u6 u7 W) (hb : Below W.heap.size W w2) : LW w v A n c ls zs u6 u7 w2 :=
 ⟨h.size.below hb h.size.lt,h.plan.below hb h.plan.lt,h.b6.below hb h.b6.lt,h.b7.below hb h.b7.lt,pw_own_below h.o6 hb,pw_own_below h.o7 hb,h.below.trans (hb.mono h.below.size)⟩
end Go.Proofs.Ytdnjagfbhppmbaa.PA
