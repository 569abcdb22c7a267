import Derived.Test.YtdnjagfbhppmbaaGs
namespace Go.Proofs.Ytdnjagfbhppmbaa.PA
open Go.RowKit Go.Shelf Go.Proofs.YtdnjagfbhppmbaaW.PrintWords Go.Proofs.YtdnjagfbhppmbaaW.PrintLast Go.Proofs.YtdnjagfbhppmbaaW.PrintMore
set_option linter.unusedVariables false
set_option linter.unusedSimpArgs false
attribute [local go_sem] Oper.semAt_some
theorem rowsIn_wide {n : Nat} {P : Program} {row : String} {args : Array Value} {w : World} {R : Value → World → Prop} (h : Rows P row args w R) : RowsIn Fence.wide n P row args w R :=
 fun c cs _=>let ⟨v,w',r,s⟩ := h c cs;⟨v,w',r,stepsIn_wide.2 s⟩
theorem wide_depth {k : Nat} : Fence.wide.depth.isSome = true → 1 ≤ k:=fun h=>by simp [Fence.wide] at h
theorem Oper_wide {n : Nat} {P : Program} {o : Oper} {a : Act} {w : World} {K : Act → World → Prop} {Q : Exit → Act → World → Prop} (h : o.wp P a w K Q) : o.wpIn Fence.wide n P a w K Q:=by
 unfold Oper.wp at h
 unfold Oper.wpIn
 refine ⟨fun _ _=>trivial, ?_⟩
 rw [show Fence.wide.round = none from rfl,Oper.semAt_none];generalize (execOp a.eval o).run P w = r at h ⊢
 cases r with
 | ok x w' =>
  cases x with
  | value v=>exact h
  | skip=>exact h
  | defer d=>exact h
  | enter f args=>exact ⟨wide_depth,callsIn_wide.2 h⟩
  | row r args=>exact ⟨wide_depth,rowsIn_wide h⟩
  | _=>exact h.elim
 | halt x w' =>
  cases x with
  | panic v=>exact h
  | _=>exact h.elim
theorem wpAny_wide {n : Nat} {P : Program} {md : Region.Mode} {ops : Array Oper} {Q : Exit → Act → World → Prop} (hQ : ¬ LetsOut Q) : ∀ (fuel : Nat) (listed : Array Bool) (a : Act) (w : World),
  wpAny P md ops Q fuel listed a w → wpAnyIn Fence.wide n P md ops Q fuel listed a w
 | 0,_,_,_,h=>h
 | fuel + 1, _, _, _, h => ⟨h.1, fun i hi => by
   have h1:=h.2 i hi
   unfold wpOp at h1
   unfold wpOpIn
   cases ho : ops[i]? with
   | none =>
    rw [ho] at h1;exact wpAny_wide hQ fuel _ _ _ h1
   | some o =>
    rw [ho] at h1
    dsimp only at h1 ⊢
    split at h1
    ·rename_i hw
     rw [if_pos hw]
     rcases h1 with h1|h1
     (exact Oper_wide (Oper.wp_mono (fun a w hk=>wpAny_wide hQ fuel _ a w hk) h1));(exact absurd h1.2 hQ)
    ·rename_i hw
     rw [if_neg hw]
     exact ⟨fun _ _=>trivial,wpAny_wide hQ fuel _ _ _ h1⟩⟩
theorem start_round {P : Program} {ops : Array Oper} {Q : Exit → Act → World → Prop} {S : World → Prop} {ds : List Nat} {id n m ll : Nat} {a : Act} {w : World} (l : Array Bool) (hm : P.follows .mixedOrders = true) (hd : ops.toList.all noDefer = true) (hn : ops.size = n) (hl : Array.replicate n false = l) (hS : S w.drew)
  (h : S w.drew → wpAnyLast P .any ops (Exit.then (Q .normal) (fun _ _ _=>False)) S ds n l a w.drew) : (Code.region id ops true).wpIn (Fence.wide.inRound ll) m P Q a w:=by
 subst hn;subst hl
 refine Code.wpIn_mono (fun e a w q=>?_) (wpIn_region_any hm (wpAny_round rfl hd _ _ _ _ (wpAny_wide ?_ _ _ _ _ (wpAny_of_last _ _ _ _ (h hS)))))
 ·cases e <;> first|exact q|exact q.elim
 (rintro ⟨_,_,h⟩;exact h)
def raw {ns : List S59} (pre : List (StepN ns)) : List S107:=pre.map (·.1)
theorem raw_snoc {ns : List S59} (pre : List (StepN ns)) (x : StepN ns) : raw (pre ++ [x]) = raw pre ++ [x.1] := by simp [raw]
theorem raw_len {ns : List S59} (pre : List (StepN ns)) : (raw pre).length = pre.length:=by simp [raw]
def isLeaf (ns : List S59) (s : S107) : Bool:=(rd_T59 ns s.f0).f0 != 3
def leafOf (ns : List S59) (s : S107) : S87:=⟨(rd_T59 ns s.f0).f0,(rd_T59 ns s.f0).f1,s.f1⟩
def leavesL (ns : List S59) (l : List S107) : List S87:=(l.filter (isLeaf ns)).map (leafOf ns)
def atsL (ns : List S59) (l : List S107) : List Int:=(l.filter (isLeaf ns)).map (·.f0)
theorem leavesL_snoc (ns : List S59) (l : List S107) (s : S107) : leavesL ns (l ++ [s]) = leavesL ns l ++ (if isLeaf ns s = true then [leafOf ns s] else []):=by
 unfold leavesL
 rw [List.filter_append,List.map_append]
 congr 1
 by_cases h : isLeaf ns s = true <;> simp [List.filter_cons,h]
theorem atsL_snoc (ns : List S59) (l : List S107) (s : S107) : atsL ns (l ++ [s]) = atsL ns l ++ (if isLeaf ns s = true then [s.f0] else []):=by
 unfold atsL
 rw [List.filter_append,List.map_append]
 congr 1
 by_cases h : isLeaf ns s = true <;> simp [List.filter_cons,h]
theorem leavesL_len (ns : List S59) (l : List S107) : (leavesL ns l).length ≤ l.length ∧ (atsL ns l).length = (leavesL ns l).length:=by
 unfold leavesL atsL
 rw [List.length_map,List.length_map];exact ⟨List.length_filter_le _ _,rfl⟩
def c87 (x : S87) : List Value:=[.int .i64 x.f0,.string x.f1,.int .i64 x.f2.f0.f0,.int .i64 x.f2.f0.f1,.int .i64 x.f2.f0.f2,.int .i64 x.f2.f1.f0,.int .i64 x.f2.f1.f1,.int .i64 x.f2.f1.f2]
def rows87 (l : List S87) : List Value:=l.flatMap c87
theorem rows87_snoc (l : List S87) (x : S87) : rows87 (l ++ [x]) = rows87 l ++ c87 x:=by simp [rows87,List.flatMap_append]
structure Wr (n₀ : Nat) (W W' : World) : Prop where
 bel : Below n₀ W W'
 keep : ∀ (k : Nat) (o : Obj),W.heap[k]? = some o → (∀ cs t,o = Obj.cells cs t (0,0) → t ∉ [72,98,82,3]) → W'.heap[k]? = some o
theorem Wr.refl (n₀ : Nat) (W : World) : Wr n₀ W W:=⟨Below.refl _ _,fun k o h _=>h⟩
theorem Wr.trans {n₀ : Nat} {A B C : World} (h : Wr n₀ A B) (k : Wr n₀ B C) : Wr n₀ A C:=⟨h.bel.trans k.bel,fun q o hq ht=>k.keep q o (h.keep q o hq ht) ht⟩
theorem Wr.of_below {n₀ : Nat} {A B : World} (h : Below A.heap.size A B) (hn : n₀ ≤ A.heap.size) : Wr n₀ A B:=⟨h.mono hn,fun q o hq _=>(h.block q (blk_lt hq)).trans hq⟩
theorem Wr.kt {n₀ : Nat} {A B : World} (h : Wr n₀ A B) : KT n₀ A B:=⟨h.bel,fun k cs t hk ht=>h.keep k _ hk (fun cs' t' e=>by cases e;intro h2;exact ht (List.mem_cons_of_mem _ h2))⟩
theorem Wr.from {n₀ B : Nat} {W V : World} (h : Wr n₀ W V) : KeepsFrom B W V:=⟨h.bel.size,fun k o _ hk hc=>h.keep k o hk (fun cs t e=>by subst e;cases hc)⟩
theorem Wr.blk {n₀ g : Nat} {W V : World} {cs : Array Value} {t : TypeId} (h : Wr n₀ W V) (hg : W.heap[g]? = some (Obj.cells cs t (0,0))) (ht : t ∉ [72,98,82,3]) : V.heap[g]? = some (Obj.cells cs t (0,0)):=h.keep g _ hg (fun cs' t' e=>by cases e;exact ht)
theorem Wr.grown {n₀ : Nat} {W V : World} {base n size : Nat} {e : TypeId} {u : Value} {xs : List Value} (ho : W.ownsRow base e size u n xs) (hg : W.grownBy V u.ownBlock) (he : e ∈ [72,98,82,3]) (hn : n₀ ≤ W.heap.size) (hb : n₀ ≤ base) : Wr n₀ W V:=by
 refine ⟨(Below.refl n₀ W).grown hg hn (fun k hk=>Nat.le_trans hb (own_base ho k hk)),fun k o hk ht=>?_⟩
 refine (hg.block k (blk_lt hk) (fun e'=>?_)).trans hk
 obtain ⟨cells,h2⟩ := own_typed ho k e'.symm;rw [hk] at h2
 cases h2
 exact ht _ _ rfl he
theorem Wr.set_ {n₀ g : Nat} {W : World} {cs : Array Value} {t : TypeId} (hg : W.heap[g]? = some (Obj.cells cs t (0,0))) (ht : t ∈ [72,98,82,3]) (hn : n₀ ≤ g) (i : Nat) (u : Value) : Wr n₀ W (W.setCell ⟨g,i,none⟩ u):=by
 refine ⟨(Below.refl n₀ W).setCell (p:=⟨g,i,none⟩) hn u,fun k o hk h2=>?_⟩
 refine (Below.heap_setCell W ⟨g,i,none⟩ u k (fun e=>?_)).trans hk
 have e' : k = g:=e;subst e';rw [hg] at hk
 cases hk
 exact h2 _ _ rfl ht
structure TT (n₀ B6 B7 : Nat) (X : World) (p6 p7 v6 v7 : Value) (ls : List S87) (zs : List Int) (w' : World) : Prop where
 wr : Wr n₀ X w'
 b6 : w'.heap[B6]? = some (.cells #[p6] 72 (0,0))
 b7 : w'.heap[B7]? = some (.cells #[p7] 98 (0,0))
 o6 : w'.ownsRow n₀ 82 8 v6 ls.length (rows87 ls)
 o7 : w'.ownsRow n₀ 3 1 v7 zs.length (zs.map (.int .i64))
 l6 : n₀ ≤ B6
 l7 : n₀ ≤ B7
 hn : n₀ ≤ w'.heap.size
section
variable {n₀ B6 B7 : Nat} {X w' w2 : World} {p6 p7 v6 v7 u : Value} {ls : List S87} {zs : List Int}
theorem TT.alloc (h : TT n₀ B6 B7 X p6 p7 v6 v7 ls zs w') (o : Obj) : TT n₀ B6 B7 X p6 p7 v6 v7 ls zs (w'.alloc o):=by
 have hb : Below w'.heap.size w' (w'.alloc o):=below_alloc (Below.refl _ _) _;exact ⟨h.wr.trans (Wr.of_below hb h.hn),(hb.block _ (blk_lt h.b6)).trans h.b6,(hb.block _ (blk_lt h.b7)).trans h.b7,pw_own_below h.o6 hb,pw_own_below h.o7 hb,h.l6,h.l7,Nat.le_trans h.hn hb.size⟩
theorem TT.app6 (h : TT n₀ B6 B7 X p6 p7 v6 v7 ls zs w') (x : S87) (hg : w'.grownBy w2 v6.ownBlock) (ho : w2.ownsRow n₀ 82 8 u (ls.length + 1) (rows87 ls ++ c87 x)) : TT n₀ B6 B7 X p6 p7 u v7 (ls ++ [x]) zs w2:=by
 refine ⟨h.wr.trans (Wr.grown h.o6 hg (by decide) h.hn (Nat.le_refl _)),blk_grown h.b6 hg (own_ne h.o6 h.b6 (by decide)),blk_grown h.b7 hg (own_ne h.o6 h.b7 (by decide)), ?_,own_other h.o7 hg (own_type_ne h.o7 h.o6 (by decide)),h.l6,h.l7,Nat.le_trans h.hn hg.size⟩
 rw [List.length_append,rows87_snoc];exact ho
theorem TT.app7 (h : TT n₀ B6 B7 X p6 p7 v6 v7 ls zs w') (x : Int) (hg : w'.grownBy w2 v7.ownBlock) (ho : w2.ownsRow n₀ 3 1 u (zs.length + 1) (zs.map (.int .i64) ++ [.int .i64 x])) : TT n₀ B6 B7 X p6 p7 v6 u ls (zs ++ [x]) w2:=by
 refine ⟨h.wr.trans (Wr.grown h.o7 hg (by decide) h.hn (Nat.le_refl _)),blk_grown h.b6 hg (own_ne h.o7 h.b6 (by decide)),blk_grown h.b7 hg (own_ne h.o7 h.b7 (by decide)),own_other h.o6 hg (own_type_ne h.o6 h.o7 (by decide)), ?_,h.l6,h.l7,Nat.le_trans h.hn hg.size⟩
 rw [List.length_append,List.map_append];exact ho
theorem TT.set6 (h : TT n₀ B6 B7 X p6 p7 v6 v7 ls zs w') (u : Value) : TT n₀ B6 B7 X u p7 v6 v7 ls zs (w'.setCell ⟨B6,0,none⟩ u):=by
 have hne : B7 ≠ B6:=fun e=>by have h1:=h.b6;rw [← e,h.b7] at h1;cases h1
 exact ⟨h.wr.trans (Wr.set_ h.b6 (by decide) h.l6 0 u),blk_put h.b6 0 u rfl,blk_far h.b7 hne u,own_setCell h.o6 (own_ne h.o6 h.b6 (by decide)) u,own_setCell h.o7 (own_ne h.o7 h.b6 (by decide)) u,h.l6,h.l7,by simpa using h.hn⟩
theorem TT.set7 (h : TT n₀ B6 B7 X p6 p7 v6 v7 ls zs w') (u : Value) : TT n₀ B6 B7 X p6 u v6 v7 ls zs (w'.setCell ⟨B7,0,none⟩ u):=by
 have hne : B6 ≠ B7:=fun e=>by have h1:=h.b6;rw [e,h.b7] at h1;cases h1
 exact ⟨h.wr.trans (Wr.set_ h.b7 (by decide) h.l7 0 u),blk_far h.b6 hne u,blk_put h.b7 0 u rfl,own_setCell h.o6 (own_ne h.o6 h.b7 (by decide)) u,own_setCell h.o7 (own_ne h.o7 h.b7 (by decide)) u,h.l6,h.l7,by simpa using h.hn⟩
end
structure LW (w : World) (v : S34) (A : Option Addr) (n c : Nat) (ls : List S87) (zs : List Int) (u6 u7 : Value) (W : World) : Prop where
 size : Rowed W w.heap.size 34 #[.int .i64 v.f0,.int .i64 v.f1,.int .i64 v.f2]
 plan : Rowed W (w.heap.size + 1) 27 #[.slice A n c]
 b6 : Rowed W (w.heap.size + 2) 72 #[u6]
 b7 : Rowed W (w.heap.size + 3) 98 #[u7]
 o6 : W.ownsRow w.heap.size 82 8 u6 ls.length (rows87 ls)
 o7 : W.ownsRow w.heap.size 3 1 u7 zs.length (zs.map (.int .i64))
 below : Below w.heap.size w W
theorem own_keep {X Y : World} {row : Option Nat} {base n size : Nat} {e : TypeId} {u : Value} {xs : List Value} (h : X.ownsRow base e size u n xs) (hg : X.grownBy Y row) (hr : ∀ r,row = some r → ∃ o : Obj,X.heap[r]? = some o ∧ o.isCells = false) : Y.ownsRow base e size u n xs:=by
 refine h.kept hg ?_
 cases hb : u.ownBlock with
 | none=>exact .inl rfl
 | some b =>
  right
  intro e';obtain ⟨cells,h2⟩ := own_typed h b hb;obtain ⟨o,ho,hc⟩ := hr b e'.symm;rw [h2] at ho
  cases ho
  cases hc
theorem LW.own {β : Type} {w : World} {v : S34} {A : Option Addr} {n c B : Nat} {ls : List S87} {zs : List Int} {u6 u7 : Value} (hB : w.heap.size ≤ B) : OwnFrom B (fun (_ : β) W=>LW w v A n c ls zs u6 u7 W):=fun s W W' row hs hg hr =>
 ⟨rowed_own _ _ (fun (_ : Unit)=>#[.int .i64 v.f0,.int .i64 v.f1,.int .i64 v.f2]) () W W' row hs.size hg (fun r e=>(hr r e).2),rowed_own _ _ (fun (_ : Unit)=>#[.slice A n c]) () W W' row hs.plan hg (fun r e=>(hr r e).2),rowed_own _ _ (fun (_ : Unit)=>#[u6]) () W W' row hs.b6 hg (fun r e=>(hr r e).2),rowed_own _ _ (fun (_ : Unit)=>#[u7]) () W W' row hs.b7 hg (fun r e=>(hr r e).2),
  own_keep hs.o6 hg (fun r e=>(hr r e).2),own_keep hs.o7 hg (fun r e=>(hr r e).2),ownFrom_below (β:=Unit) (Nat.le_refl _) hB () W W' row hs.below hg hr⟩
theorem LW.lt {w W : World} {v : S34} {A : Option Addr} {n c : Nat} {ls : List S87} {zs : List Int} {u6 u7 : Value} (h : LW w v A n c ls zs u6 u7 W) : w.heap.size + 3 < W.heap.size:=h.b7.lt
theorem LW.mono {w W w2 : World} {v : S34} {A : Option Addr} {n c : Nat} {ls : List S87} {zs : List Int} {u6 u7 : Value} (h : LW w v A n c ls zs u6 u7 W) (hb : Below W.heap.size W w2) : LW w v A n c ls zs u6 u7 w2 :=
 ⟨h.size.below hb h.size.lt,h.plan.below hb h.plan.lt,h.b6.below hb h.b6.lt,h.b7.below hb h.b7.lt,pw_own_below h.o6 hb,pw_own_below h.o7 hb,h.below.trans (hb.mono h.below.size)⟩
theorem leaves0 (w : World) (v : S34) (A : Option Addr) (n c : Nat) :
  LW w v A n c [] [] (.slice none 0 0) (.slice none 0 0) ((((((w.alloc (.cells #[.int .i64 v.f0,.int .i64 v.f1,.int .i64 v.f2] 34)).alloc (.cells #[.slice A n c] 27)).alloc (.cells #[.slice none 0 0] 72)).alloc (.cells #[.slice none 0 0] 98)).alloc (.cells #[.int .i64 v.f0,.int .i64 v.f1,.int .i64 v.f2] 34)).alloc (.cells #[.slice A n c] 27)) ∧ ((((((w.alloc (.cells #[.int .i64 v.f0,.int .i64 v.f1,.int .i64 v.f2] 34)).alloc (.cells #[.slice A n c] 27)).alloc (.cells #[.slice none 0 0] 72)).alloc (.cells #[.slice none 0 0] 98)).alloc (.cells #[.int .i64 v.f0,.int .i64 v.f1,.int .i64 v.f2] 34)).alloc (.cells #[.slice A n c] 27)).heap[w.heap.size + 4]? = some (.cells #[.int .i64 v.f0,.int .i64 v.f1,.int .i64 v.f2] 34 (0,0)) ∧ ((((((w.alloc (.cells #[.int .i64 v.f0,.int .i64 v.f1,.int .i64 v.f2] 34)).alloc (.cells #[.slice A n c] 27)).alloc (.cells #[.slice none 0 0] 72)).alloc (.cells #[.slice none 0 0] 98)).alloc (.cells #[.int .i64 v.f0,.int .i64 v.f1,.int .i64 v.f2] 34)).alloc (.cells #[.slice A n c] 27)).heap[w.heap.size + 5]? = some (.cells #[.slice A n c] 27 (0,0)) ∧ ((((((w.alloc (.cells #[.int .i64 v.f0,.int .i64 v.f1,.int .i64 v.f2] 34)).alloc (.cells #[.slice A n c] 27)).alloc (.cells #[.slice none 0 0] 72)).alloc (.cells #[.slice none 0 0] 98)).alloc (.cells #[.int .i64 v.f0,.int .i64 v.f1,.int .i64 v.f2] 34)).alloc (.cells #[.slice A n c] 27)).heap.size = w.heap.size + 6:=by
 have e1 : ∀ (W : World) (o : Obj) (k : Nat),k < W.heap.size → (W.alloc o).heap[k]? = W.heap[k]? := fun W o k h=>Below.heap_alloc W o k h
 have e2 : ∀ (W : World) (o : Obj) (k : Nat),k = W.heap.size → (W.alloc o).heap[k]? = some o:=fun W o k h=>by rw [h];exact heap_alloc_new W o
 refine ⟨⟨?_, ?_, ?_, ?_,own_nil _ _ _ _,own_nil _ _ _ _,below_alloc (below_alloc (below_alloc (below_alloc (below_alloc (below_alloc (Below.refl _ _) _) _) _) _) _) _⟩, ?_, ?_,by simp⟩
 ·unfold Rowed;rw [e1 _ _ _ (by simp;omega),e1 _ _ _ (by simp;omega),e1 _ _ _ (by simp;omega),e1 _ _ _ (by simp;omega),e1 _ _ _ (by simp)];exact e2 _ _ _ rfl
 ·unfold Rowed;rw [e1 _ _ _ (by simp),e1 _ _ _ (by simp),e1 _ _ _ (by simp),e1 _ _ _ (by simp)];exact e2 _ _ _ (by simp)
 ·unfold Rowed;rw [e1 _ _ _ (by simp),e1 _ _ _ (by simp),e1 _ _ _ (by simp)];exact e2 _ _ _ (by simp)
 ·unfold Rowed;rw [e1 _ _ _ (by simp),e1 _ _ _ (by simp)];exact e2 _ _ _ (by simp)
 (rw [e1 _ _ _ (by simp)];exact e2 _ _ _ (by simp));(exact e2 _ _ _ (by simp))
theorem info82 : (Try.prog.info? 82).map (fun i=>(i.zero,i.size,i.bytes)) = some (some (.agg #[.int .i64 0,.string ⟨#[]⟩,.int .i64 0,.int .i64 0,.int .i64 0,.int .i64 0,.int .i64 0,.int .i64 0]),8,72):=by kernel_rfl
theorem eval_put_same {a : Act} {t : Nat} {v : Value} (h : t < a.tmps.size) : (a.put (some t) v).eval (.tmp t) = v:=by
 simp [Act.put,Act.eval,h]
theorem eval_put_ne {a : Act} {t u : Nat} {v : Value} (h : u ≠ t) : (a.put (some t) v).eval (.tmp u) = a.eval (.tmp u):=by
 simp [Act.put,Act.eval,Array.getElem?_setIfInBounds_ne (Ne.symm h)]
theorem run_store_box (w : World) (g : Nat) (v old : Value) (t ty : TypeId) (h : w.heap[g]? = some (.cells #[old] t (0,0))) (hi : (Try.prog.info? ty).map (·.size) = some 1) (hv : ∃ A n c,v = .slice A n c) : (Instr.storeAt ty (.pointer (some ⟨g,0,none⟩)) v).run Try.prog w = .ok () (w.setCell ⟨g,0,none⟩ v):=by
 obtain ⟨A,n,c,rfl⟩ := hv;have h0 : w.cell? ⟨g,0,none⟩ = some old:=(blk_cell h 0).trans rfl;have h1:=blk_frozen h 0
 cases hq : Try.prog.info? ty with
 | none=>simp [hq] at hi
 | some i =>
  have hz : i.size = 1:=by simpa [hq] using hi
  simp [Instr.storeAt,Instr.sureAddr,storeVar,Sem.run_bind,sizeOf,typeInfo,hq,hz,Value.cells,go_sem,h0,h1]
theorem leaf_tail {ops : Array Oper} {Q : Exit → Act → World → Prop} {S : World → Prop} {m0 m1 m2 m3 : Array Bool} {o14 o15 o16 : Oper} (a : Act) {n₀ B6 B7 g13 : Nat} {X w1 : World} {u6 u7 v1 : Value} {ls : List S87} {zs : List Int} {at_ : Int}
  (h14 : ops[14]? = some o14) (g14 : o14.guard = none) (p14 : o14.op = .call { callee:=.builtin .append,args:=#[.tmp 32,.tmp 35],argTypes:=#[98,98] }) (d14 : o14.dst = some 36)
  (h15 : ops[15]? = some o15) (g15 : o15.guard = none) (p15 : o15.op = .store 72 (.tmp 6) (.tmp 31)) (d15 : o15.dst = none)
  (h16 : ops[16]? = some o16) (g16 : o16.guard = none) (p16 : o16.op = .store 98 (.tmp 7) (.tmp 36)) (d16 : o16.dst = none)
  (c14 : readyB .any ops m0 m1 14 = true) (c15 : readyB .any ops m1 m2 15 = true) (c16 : readyB .any ops m2 m3 16 = true) (c17 : (Region.ready .any ops m3 == []) = true)
  (e6 : a.eval (.tmp 6) = .pointer (some ⟨B6,0,none⟩)) (e7 : a.eval (.tmp 7) = .pointer (some ⟨B7,0,none⟩)) (e31 : a.eval (.tmp 31) = v1) (e32 : a.eval (.tmp 32) = u7) (e35 : a.eval (.tmp 35) = .slice (some ⟨g13,0,none⟩) 1 1) (hsz : 36 < a.tmps.size)
  (hT : TT n₀ B6 B7 X u6 u7 v1 u7 ls zs w1) (hg13 : w1.heap[g13]? = some (.cells #[.int .i64 at_] 3 (0,0))) (hlen : zs.length < 1000000) (hv1 : ∃ A n c,v1 = .slice A n c)
  (hS : ∀ w',Wr n₀ X w' → w'.heap[B6]? = some (.cells #[u6] 72 (0,0)) → w'.heap[B7]? = some (.cells #[u7] 98 (0,0)) → S w')
  (hK : ∀ v2 w3,TT n₀ B6 B7 X v1 v2 v1 v2 ls (zs ++ [at_]) w3 → Q .normal (a.put (some 36) v2) w3) : wpAnyLast Try.prog .any ops Q S [15,16] 3 m0 a w1:=by
 obtain ⟨i0,hi0,hz0,hz1,hz2⟩ := info_parts info3;refine one_ (i:=14) (N:=some 36) m1 h14 d14 c14 (by decide) (fun K hKK=>?_)
 refine step_append_lies _ g14 _ _ _ p14 n₀ 3 i0 _ 1 8 Try.underlying98 hi0 hz0 hz1 hz2 rfl (by omega) u7 _ _ e32 hT.o7 ⟨g13,0,none⟩ 1 1 [.int .i64 at_] e35 (by rfl) (World.news_of_block (cs:=#[.int .i64 at_]) (t:=3) (fr:=(0,0)) hg13) (by simp [Value.oneCell']) (by omega) (by simp [maxLen];omega) (by omega) hT.hn w1.heap.size rfl ?_
 intro gg cap w2 hown2 hgrow2 hat2 hlt2;have hT2:=hT.app7 at_ hgrow2 hown2;rw [d14]
 refine hKK.out _ _ (hS _ hT2.wr hT2.b6 hT2.b7) (fun _=>?_)
 clear hKK K
 refine last_ (i:=15) (N:=none) m2 h15 d15 c15 (by decide) (fun K hKK=>?_)
 refine skip_ (w1:=w2.setCell ⟨B6,0,none⟩ v1) (by simp [Region.wanted,g15]) d15 (exec_store p15 ((eval_put_ne (by decide)).trans e6) ((eval_put_ne (by decide)).trans e31) (run_store_box w2 B6 v1 u6 72 72 hT2.b6 (by kernel_rfl) hv1)) ?_
 refine hKK.out _ _ ?_
 clear hKK K;have hT3:=hT2.set6 v1
 refine last_ (i:=16) (N:=none) m3 h16 d16 c16 (by decide) (fun K hKK=>?_)
 refine skip_ (w1:=(w2.setCell ⟨B6,0,none⟩ v1).setCell ⟨B7,0,none⟩ (.slice (some ⟨gg,0,none⟩) (zs.length + 1) cap)) (by simp [Region.wanted,g16]) d16 (exec_store p16 ((eval_put_ne (by decide)).trans e7) (eval_put_same hsz) (run_store_box _ B7 _ u7 98 98 hT3.b7 (by kernel_rfl) ⟨_,_,_,rfl⟩)) ?_
 refine hKK.out _ _ ?_
 clear hKK K
 refine done_ c17 ?_
 exact hK _ _ (hT3.set7 _)
set_option maxRecDepth 100000 in
set_option maxHeartbeats 4000000 in
theorem leaves_any (v : S34) (A : Option Addr) (c : Nat) (ns : List S59) (w : World) (hr : Kd.C k59 w A ns.length ns) (hg : GoodN ns) (h0 : 0 < ns.length) (hN : (walkS ns v).length ≤ 1000000) :
  Calls Try.prog 60 #[.agg #[.int .i64 v.f0,.int .i64 v.f1,.int .i64 v.f2],.slice A ns.length c] w fun e w'=>∃ u6 u7,e = .returned (.tuple #[u6,u7]) ∧ w'.ownsRow w.heap.size 82 8 u6 (leavesL ns (walkS ns v)).length (rows87 (leavesL ns (walkS ns v))) ∧ Below w.heap.size w w':=by
 refine (callsIn_wide (n:=3)).1 ?_
 have HR:=aside hr;have HG:=aside hg;have H0:=aside h0;have HN:=aside hN;clear hr hg h0 hN
 refine callsIn_of_wp_marks Try.func60 rfl trivial ?_ rfl
 simp only [Try.ntmps60,List.size_toArray,List.length_cons,List.length_nil,Nat.reduceAdd,Nat.reduceSub,Array.replicate_succ,Array.replicate_zero,List.push_toArray,List.append_toArray,List.nil_append,List.cons_append]
 gi_wp2_with (first
    | (refine ⟨trivial, ?_⟩;gi_at_call 73;refine (walk_in _ _ _ _ v _).mono ?_;rintro e w' ⟨rfl,rfl⟩))
 simp only [Nat.add_assoc,Nat.reduceAdd]
 obtain ⟨W6,hW6⟩ : ∃ W6,((((((w.alloc (.cells #[.int .i64 v.f0,.int .i64 v.f1,.int .i64 v.f2] 34)).alloc (.cells #[.slice A ns.length c] 27)).alloc (.cells #[.slice none 0 0] 72)).alloc (.cells #[.slice none 0 0] 98)).alloc (.cells #[.int .i64 v.f0,.int .i64 v.f1,.int .i64 v.f2] 34)).alloc (.cells #[.slice A ns.length c] 27)) = W6:=⟨_,rfl⟩
 obtain ⟨hlw,hs4,hp5,hsz⟩ := leaves0 w v A ns.length c;rw [hW6] at hlw hs4 hp5 hsz ⊢;clear hW6
 refine wpIn_rangeFunc_ownH (α:=StepN ns) rfl (by omega) (gf:=85) (lb:=#[.pointer (some ⟨w.heap.size + 5,0,none⟩),.pointer (some ⟨w.heap.size + 4,0,none⟩)]) rfl trivial eg85
  (encs:=fun x : StepN ns=>#[e107 x.1]) (Kp:=KT w.heap.size) (S:=fun ys=>ys.map (·.1) = walkS ns v) (Sp:=fun pre=>pre.map (·.1) <+: walkS ns v) (N:=(walkS ns v).length) (w0:=W6)
  (walk_stops 2 _ _ w W6 A c ns v HR.out HG.out H0.out hlw.below hp5 hs4) (fun h k=>KT.trans h k) (fun W l o o' hl h hc hw=>KT_b (w:=W6) (by omega) W l o o' hl h hc hw) (Below.refl _ _) (fun _=>rfl)
  (fun pre W=>∃ u6 u7,LW w v A ns.length c (leavesL ns (raw pre)) (atsL ns (raw pre)) u6 u7 W) (fun cd pre W=>False)
  (fun pre W W' row hs hg hr=>by obtain ⟨u6,u7,hs⟩ := hs;exact ⟨u6,u7,LW.own (β:=Unit) (by omega) () W W' row hs hg hr⟩) (fun cd pre W W' row hs hg hr=>hs) ⟨_,_,hlw⟩
  (fun x a' W=>∃ Bx,w.heap.size + 4 ≤ Bx ∧ Rowed W Bx 114 (a107 x.1) ∧ a' = { tmps:=#[.agg #[.int .i64 v.f0,.int .i64 v.f1,.int .i64 v.f2],.slice A ns.length c,.pointer (some ⟨w.heap.size,0,none⟩),.pointer (some ⟨w.heap.size + 1,0,none⟩),.slice none 0 0,.slice none 0 0,.pointer (some ⟨w.heap.size + 2,0,none⟩),.pointer (some ⟨w.heap.size + 3,0,none⟩),.pointer (some ⟨Bx,0,none⟩),undef,.agg #[.int .i64 v.f0,.int .i64 v.f1,.int .i64 v.f2],.slice A ns.length c,.func (.func 85) #[] #[.pointer (some ⟨w.heap.size + 5,0,none⟩),.pointer (some ⟨w.heap.size + 4,0,none⟩)],e107 x.1,undef,undef,undef,undef,undef,undef,undef,undef,undef,undef,undef,undef,undef,undef,undef,undef,undef,undef,undef,undef,undef,undef,undef,undef,undef],defers:=[] })
  (fun x a' _ X Y row hs hg hr=>by obtain ⟨Bx,h1,h2,h3⟩ := hs;exact ⟨Bx,h1,rowed_own Bx 114 (fun (_ : Unit)=>a107 x.1) () X Y row h2 hg (fun r e=>(hr r e).2),h3⟩)
  ?assign ?body ?done ?stop
 case assign =>
  rintro l pre ⟨⟨at_,⟨⟨p0,p1,p2⟩,⟨p3,p4,p5⟩⟩,d⟩,x0,x1⟩ W K ⟨u6,u7,hI⟩ hK;have hl:=hI.lt;have HK:=aside hK;have HI:=aside hI;clear hK hI
  dsimp only [e107,a107] at *
  gi_wp2
  have hb1 : Below W.heap.size W (W.alloc (.cells #[.int .i64 at_,.int .i64 p0,.int .i64 p1,.int .i64 p2,.int .i64 p3,.int .i64 p4,.int .i64 p5,.int .i64 d] 114)):=below_alloc (Below.refl _ _) _;exact HK.out _ _ (keepF hb1) (KT.of_below hb1 HI.out.below.size) ⟨u6,u7,HI.out.mono hb1⟩ ⟨W.heap.size,by omega,heap_alloc_new W _,rfl⟩
 case body =>
  rintro l pre ⟨s,x0,x1⟩ a' W hl _ ⟨u6,u7,hlw2⟩ ⟨Bx,hB,hBx,rfl⟩ hlt
  obtain ⟨nd,hnd⟩ : ∃ nd,rd_T59 ns s.f0 = nd:=⟨_,rfl⟩
  obtain ⟨ad,rfl,n0,n1,n2,n3,n4,n5,n6⟩ := at_T59 (Kd.C_below HR.out hlw2.below) s.f0 x0 x1;rw [hnd] at n0 n1 n2 n3 n4 n5 n6;have q0 : W.cell? ⟨w.heap.size + 1,0,none⟩ = some (.slice (some ad) ns.length c):=(blk_cell hlw2.plan 0).trans rfl;have s0 : W.cell? ⟨Bx,0,none⟩ = some (.int .i64 s.f0):=(blk_cell hBx 0).trans rfl;have hbl:=hBx.lt;have hrl:=hlw2.lt;have HLW:=aside hlw2;have HBX:=aside hBx;have HND:=aside hnd;have HLT:=aside hlt;clear hlw2 hBx hnd hlt
  cases hk : (nd.f0 == 3)
  ·have hk2 : (nd.f0 != 3) = true:=by rw [bne,hk];rfl
   gi_wp2
   have hi : isLeaf ns s = true:=by unfold isLeaf;rw [HND.out];exact hk2
   have hlf : leafOf ns s = (⟨nd.f0,nd.f1,s.f1⟩ : S87):=by unfold leafOf;rw [HND.out]
   have hlen : (atsL ns (raw pre)).length < 1000000 ∧ (leavesL ns (raw pre)).length < 1000000:=by
    have h1:=leavesL_len ns (raw pre);have h2:=HLT.out;have h3:=HN.out;rw [raw_len] at h1
    omega
   have hbW : Below W.heap.size W (W.alloc (.cells #[.int .i64 nd.f0,.string nd.f1,.int .i64 nd.f2,.int .i64 nd.f3,.int .i64 nd.f4,.int .i64 nd.f5,.int .i64 nd.f6] 59)):=below_alloc (Below.refl _ _) _;have hNB0 : (W.alloc (.cells #[.int .i64 nd.f0,.string nd.f1,.int .i64 nd.f2,.int .i64 nd.f3,.int .i64 nd.f4,.int .i64 nd.f5,.int .i64 nd.f6] 59)).heap[W.heap.size]? = some (.cells #[.int .i64 nd.f0,.string nd.f1,.int .i64 nd.f2,.int .i64 nd.f3,.int .i64 nd.f4,.int .i64 nd.f5,.int .i64 nd.f6] 59 (0,0)):=heap_alloc_new W _;have hLX:=HLW.out.mono hbW;have hXB0 : (W.alloc (.cells #[.int .i64 nd.f0,.string nd.f1,.int .i64 nd.f2,.int .i64 nd.f3,.int .i64 nd.f4,.int .i64 nd.f5,.int .i64 nd.f6] 59)).heap[Bx]? = some (.cells (a107 s) 114 (0,0)):=(hbW.block _ HBX.out.lt).trans HBX.out
   obtain ⟨ls,hls⟩ : ∃ ls,leavesL ns (raw pre) = ls:=⟨_,rfl⟩
   obtain ⟨zs,hzs⟩ : ∃ zs,atsL ns (raw pre) = zs:=⟨_,rfl⟩
   rw [hls,hzs] at hLX;rw [hls,hzs] at hlen;clear n0 n1 n2 n3 n4 n5 n6 q0 s0 hk hk2;generalize W.alloc (.cells #[.int .i64 nd.f0,.string nd.f1,.int .i64 nd.f2,.int .i64 nd.f3,.int .i64 nd.f4,.int .i64 nd.f5,.int .i64 nd.f6] 59) = X0 at hbW hNB0 hLX hXB0 ⊢;have hd0 : Below X0.heap.size X0 X0.drew:=below_drew1 (Below.refl _ _);have hNB : X0.drew.heap[W.heap.size]? = some (.cells #[.int .i64 nd.f0,.string nd.f1,.int .i64 nd.f2,.int .i64 nd.f3,.int .i64 nd.f4,.int .i64 nd.f5,.int .i64 nd.f6] 59 (0,0)):=hNB0;have hXB : X0.drew.heap[Bx]? = some (.cells (a107 s) 114 (0,0)):=hXB0
   have hT0 : TT w.heap.size (w.heap.size + 2) (w.heap.size + 3) X0.drew u6 u7 u6 u7 ls zs X0.drew:=⟨Wr.refl _ _,hLX.b6,hLX.b7,pw_own_below hLX.o6 hd0,pw_own_below hLX.o7 hd0,by omega,by omega,Nat.le_trans hLX.below.size hd0.size⟩
   have hWX : Wr w.heap.size W X0.drew:=(Wr.of_below hbW HLW.out.below.size).trans (Wr.of_below hd0 hLX.below.size);obtain ⟨i2,hi2,hy0,hy1,hy2⟩ := info_parts info82;obtain ⟨i3,hi3,hx0,hx1,hx2⟩ := info_parts info3
   refine start_round (n:=17) (S:=fun w'=>Wr w.heap.size X0.drew w' ∧ w'.heap[w.heap.size + 2]? = some (.cells #[u6] 72 (0,0)) ∧ w'.heap[w.heap.size + 3]? = some (.cells #[u7] 98 (0,0))) (ds:=[15,16]) #[false,false,false,false,false,false,false,false,false,false,false,false,false,false,false,false,false] (by kernel_rfl) (by kernel_rfl) rfl rfl ⟨hT0.wr,hT0.b6,hT0.b7⟩ (fun hHeld=>?_)
   have hSS : ∀ w',Wr w.heap.size X0.drew w' → w'.heap[w.heap.size + 2]? = some (.cells #[u6] 72 (0,0)) → w'.heap[w.heap.size + 3]? = some (.cells #[u7] 98 (0,0)) → (Wr w.heap.size X0.drew w' ∧ w'.heap[w.heap.size + 2]? = some (.cells #[u6] 72 (0,0)) ∧ w'.heap[w.heap.size + 3]? = some (.cells #[u7] 98 (0,0))):=fun _ h1 h2 h3=>⟨h1,h2,h3⟩
   clear hbW hNB0 hXB0 hLX hd0;generalize X0.drew = X at hT0 hWX hNB hXB hHeld hSS ⊢;refine take_ (i:=0) (N:=some 22) (v:=?_) (a':=?_) #[true,false,false,false,false,false,false,false,false,false,false,false,false,false,false,false,false] rfl rfl (by kernel_rfl) (fun _ _ _ h=>h) (Or.inl ⟨by rfl, ?_⟩) hHeld ?_ ?_;rotate_left;(rintro w' ⟨hw,hb6,hb7⟩;have e0 : w'.cell? ⟨w.heap.size + 2,0,none⟩ = some u6:=(blk_cell hb6 0).trans rfl;go_simp;with_reducible rfl);rotate_left;(simp only [Act.put,List.setIfInBounds_toArray,List.set_cons_zero,List.set_cons_succ];rfl);refine pure_ (i:=1) (N:=some 23) (v:=?_) (a':=?_) #[true,true,false,false,false,false,false,false,false,false,false,false,false,false,false,false,false] rfl rfl (by kernel_rfl) (fun _ _ _ h=>h) (Or.inl ⟨by rfl, ?_⟩) ?_ ?_;rotate_left;(intro w';go_simp;with_reducible rfl);rotate_left;(simp only [Act.put,List.setIfInBounds_toArray,List.set_cons_zero,List.set_cons_succ];rfl);refine take_ (i:=2) (N:=some 24) (v:=?_) (a':=?_) #[true,true,true,false,false,false,false,false,false,false,false,false,false,false,false,false,false] rfl rfl (by kernel_rfl) (fun _ _ _ h=>h) (Or.inl ⟨by rfl, ?_⟩) hHeld ?_ ?_;rotate_left;(rintro w' ⟨hw,hb6,hb7⟩;have e0 : w'.cell? ⟨W.heap.size,0,none⟩ = some (.int .i64 nd.f0):=(blk_cell (hw.blk hNB (by decide)) 0).trans rfl;go_simp;with_reducible rfl);rotate_left;(simp only [Act.put,List.setIfInBounds_toArray,List.set_cons_zero,List.set_cons_succ];rfl);refine pure_ (i:=3) (N:=some 25) (v:=?_) (a':=?_) #[true,true,true,true,false,false,false,false,false,false,false,false,false,false,false,false,false] rfl rfl (by kernel_rfl) (fun _ _ _ h=>h) (Or.inl ⟨by rfl, ?_⟩) ?_ ?_;rotate_left;(intro w';go_simp;with_reducible rfl);rotate_left;(simp only [Act.put,List.setIfInBounds_toArray,List.set_cons_zero,List.set_cons_succ];rfl);refine take_ (i:=4) (N:=some 26) (v:=?_) (a':=?_) #[true,true,true,true,true,false,false,false,false,false,false,false,false,false,false,false,false] rfl rfl (by kernel_rfl) (fun _ _ _ h=>h) (Or.inl ⟨by rfl, ?_⟩) hHeld ?_ ?_;rotate_left;(rintro w' ⟨hw,hb6,hb7⟩;have e0 : w'.cell? ⟨W.heap.size,1,none⟩ = some (.string nd.f1):=(blk_cell (hw.blk hNB (by decide)) 1).trans rfl;go_simp;with_reducible rfl);rotate_left;(simp only [Act.put,List.setIfInBounds_toArray,List.set_cons_zero,List.set_cons_succ];rfl);refine pure_ (i:=5) (N:=some 27) (v:=?_) (a':=?_) #[true,true,true,true,true,true,false,false,false,false,false,false,false,false,false,false,false] rfl rfl (by kernel_rfl) (fun _ _ _ h=>h) (Or.inl ⟨by rfl, ?_⟩) ?_ ?_;rotate_left;(intro w';go_simp;with_reducible rfl);rotate_left;(simp only [Act.put,List.setIfInBounds_toArray,List.set_cons_zero,List.set_cons_succ];rfl);refine take_ (i:=6) (N:=some 28) (v:=?_) (a':=?_) #[true,true,true,true,true,true,true,false,false,false,false,false,false,false,false,false,false] rfl rfl (by kernel_rfl) (fun _ _ _ h=>h) (Or.inl ⟨by rfl, ?_⟩) hHeld ?_ ?_;rotate_left;(rintro w' ⟨hw,hb6,hb7⟩;have e0 : w'.cell? ⟨Bx,1,none⟩ = some (.int .i64 s.f1.f0.f0):=(blk_cell (hw.blk hXB (by decide)) 1).trans rfl;have e1 : w'.cell? ⟨Bx,2,none⟩ = some (.int .i64 s.f1.f0.f1):=(blk_cell (hw.blk hXB (by decide)) 2).trans rfl;have e2 : w'.cell? ⟨Bx,3,none⟩ = some (.int .i64 s.f1.f0.f2):=(blk_cell (hw.blk hXB (by decide)) 3).trans rfl;have e3 : w'.cell? ⟨Bx,4,none⟩ = some (.int .i64 s.f1.f1.f0):=(blk_cell (hw.blk hXB (by decide)) 4).trans rfl;have e4 : w'.cell? ⟨Bx,5,none⟩ = some (.int .i64 s.f1.f1.f1):=(blk_cell (hw.blk hXB (by decide)) 5).trans rfl;have e5 : w'.cell? ⟨Bx,6,none⟩ = some (.int .i64 s.f1.f1.f2):=(blk_cell (hw.blk hXB (by decide)) 6).trans rfl;go_simp;with_reducible rfl);rotate_left;(simp only [Act.put,List.setIfInBounds_toArray,List.set_cons_zero,List.set_cons_succ];rfl);refine pure_ (i:=7) (N:=some 29) (v:=?_) (a':=?_) #[true,true,true,true,true,true,true,true,false,false,false,false,false,false,false,false,false] rfl rfl (by kernel_rfl) (fun _ _ _ h=>h) (Or.inl ⟨by rfl, ?_⟩) ?_ ?_;rotate_left;(intro w';go_simp;with_reducible rfl);rotate_left;(simp only [Act.put,List.setIfInBounds_toArray,List.set_cons_zero,List.set_cons_succ];rfl);refine take_ (i:=10) (N:=some 32) (v:=?_) (a':=?_) #[true,true,true,true,true,true,true,true,false,false,true,false,false,false,false,false,false] rfl rfl (by kernel_rfl) (fun _ _ _ h=>h) (Or.inl ⟨by rfl, ?_⟩) hHeld ?_ ?_;rotate_left;(rintro w' ⟨hw,hb6,hb7⟩;have e0 : w'.cell? ⟨w.heap.size + 3,0,none⟩ = some u7:=(blk_cell hb7 0).trans rfl;go_simp;with_reducible rfl);rotate_left;(simp only [Act.put,List.setIfInBounds_toArray,List.set_cons_zero,List.set_cons_succ];rfl);refine pure_ (i:=11) (N:=some 33) (v:=?_) (a':=?_) #[true,true,true,true,true,true,true,true,false,false,true,true,false,false,false,false,false] rfl rfl (by kernel_rfl) (fun _ _ _ h=>h) (Or.inl ⟨by rfl, ?_⟩) ?_ ?_;rotate_left;(intro w';go_simp;with_reducible rfl);rotate_left;(simp only [Act.put,List.setIfInBounds_toArray,List.set_cons_zero,List.set_cons_succ];rfl);refine take_ (i:=12) (N:=some 34) (v:=?_) (a':=?_) #[true,true,true,true,true,true,true,true,false,false,true,true,true,false,false,false,false] rfl rfl (by kernel_rfl) (fun _ _ _ h=>h) (Or.inl ⟨by rfl, ?_⟩) hHeld ?_ ?_;rotate_left;(rintro w' ⟨hw,hb6,hb7⟩;have e0 : w'.cell? ⟨Bx,0,none⟩ = some (.int .i64 s.f0):=(blk_cell (hw.blk hXB (by decide)) 0).trans rfl;go_simp;with_reducible rfl);rotate_left;(simp only [Act.put,List.setIfInBounds_toArray,List.set_cons_zero,List.set_cons_succ];rfl)
   have hEnd : ∀ (v1 v2 : Value) (w3 : World),TT w.heap.size (w.heap.size + 2) (w.heap.size + 3) X v1 v2 v1 v2 (ls ++ [(⟨nd.f0,nd.f1,s.f1⟩ : S87)]) (zs ++ [s.f0]) w3 → (KeepsFrom W6.heap.size W w3 ∧ KT w.heap.size W w3 ∧ ∃ u6 u7,LW w v (some ad) ns.length c (leavesL ns (raw (pre ++ [(⟨s,x0,x1⟩ : StepN ns)]))) (atsL ns (raw (pre ++ [(⟨s,x0,x1⟩ : StepN ns)]))) u6 u7 w3):=by
    intro v1 v2 w3 hT9;have hw:=hWX.trans hT9.wr
    refine ⟨hw.from,hw.kt,v1,v2, ?_⟩
    rw [raw_snoc,leavesL_snoc,atsL_snoc,hi,if_pos rfl,if_pos rfl,hlf,hls,hzs];exact ⟨hw.blk HLW.out.size (by decide),hw.blk HLW.out.plan (by decide),hT9.b6,hT9.b7,hT9.o6,hT9.o7,HLW.out.below.trans hw.bel⟩
   refine two_ (i:=8) (j:=13) (Ni:=some 30) (Nj:=some 35) #[true,true,true,true,true,true,true,true,true,false,true,true,true,false,false,false,false] #[true,true,true,true,true,true,true,true,false,false,true,true,true,true,false,false,false] rfl rfl rfl rfl (by kernel_rfl) (by decide) (by decide) (fun K hK=>?_) (fun K hK=>?_)
   ·refine value_ (w1:=X.alloc (.cells #[.int .i64 nd.f0,.string nd.f1,.int .i64 s.f1.f0.f0,.int .i64 s.f1.f0.f1,.int .i64 s.f1.f0.f2,.int .i64 s.f1.f1.f0,.int .i64 s.f1.f1.f1,.int .i64 s.f1.f1.f2] 82)) (v:=.slice (some ⟨X.heap.size,0,none⟩) 1 1) (by rfl) rfl ?_ ?_
    ·go_simp
     try rfl
    have hT1:=hT0.alloc (.cells #[.int .i64 nd.f0,.string nd.f1,.int .i64 s.f1.f0.f0,.int .i64 s.f1.f0.f1,.int .i64 s.f1.f0.f2,.int .i64 s.f1.f1.f0,.int .i64 s.f1.f1.f1,.int .i64 s.f1.f1.f2] 82);have g8 : (X.alloc (.cells #[.int .i64 nd.f0,.string nd.f1,.int .i64 s.f1.f0.f0,.int .i64 s.f1.f0.f1,.int .i64 s.f1.f0.f2,.int .i64 s.f1.f1.f0,.int .i64 s.f1.f1.f1,.int .i64 s.f1.f1.f2] 82)).heap[X.heap.size]? = some (.cells #[.int .i64 nd.f0,.string nd.f1,.int .i64 s.f1.f0.f0,.int .i64 s.f1.f0.f1,.int .i64 s.f1.f0.f2,.int .i64 s.f1.f1.f0,.int .i64 s.f1.f1.f1,.int .i64 s.f1.f1.f2] 82 (0,0)):=heap_alloc_new X _
    refine hK.out _ _ (hSS _ hT1.wr hT1.b6 hT1.b7) (fun _=>?_)
    clear hK K;refine norm_ (a':=?_) ?_ ?_;rotate_left
    ·show Act.put _ (some 30) _ = _
     simp only [Act.put,List.setIfInBounds_toArray,List.set_cons_zero,List.set_cons_succ];rfl
    refine two_ (i:=9) (j:=13) (Ni:=some 31) (Nj:=some 35) #[true,true,true,true,true,true,true,true,true,true,true,true,true,false,false,false,false] #[true,true,true,true,true,true,true,true,true,false,true,true,true,true,false,false,false] rfl rfl rfl rfl (by kernel_rfl) (by decide) (by decide) (fun K hK=>?_) (fun K hK=>?_)
    ·refine step_append_lies _ (by rfl) _ _ _ (by rfl) w.heap.size 82 i2 _ 8 72 Try.underlying72 hi2 hy0 hy1 hy2 rfl (by omega) u6 _ _ (by rfl) hT1.o6 ⟨X.heap.size,0,none⟩ 1 1 (c87 (⟨nd.f0,nd.f1,s.f1⟩ : S87)) (by rfl) (by rfl) (World.news_of_block (cs:=#[.int .i64 nd.f0,.string nd.f1,.int .i64 s.f1.f0.f0,.int .i64 s.f1.f0.f1,.int .i64 s.f1.f0.f2,.int .i64 s.f1.f1.f0,.int .i64 s.f1.f1.f1,.int .i64 s.f1.f1.f2]) (t:=82) (fr:=(0,0)) g8) (by simp [c87,Value.oneCell']) (by omega) (by have:=hlen.2;simp [maxLen];omega) (by have:=hlen.2;omega) hT1.hn _ rfl ?_
     intro gg cap w9 hown9 hgrow9 hat9 hlt9;have hT2:=hT1.app6 (⟨nd.f0,nd.f1,s.f1⟩ : S87) hgrow9 hown9
     refine hK.out _ _ (hSS _ hT2.wr hT2.b6 hT2.b7) (fun _=>?_)
     clear hK K;refine norm_ (a':=?_) ?_ ?_;rotate_left
     ·show Act.put _ (some 31) _ = _
      simp only [Act.put,List.setIfInBounds_toArray,List.set_cons_zero,List.set_cons_succ];rfl
     refine one_ (i:=13) (N:=some 35) #[true,true,true,true,true,true,true,true,true,true,true,true,true,true,false,false,false] rfl rfl (by kernel_rfl) (by decide) (fun K hK=>?_)
     refine value_ (w1:=w9.alloc (.cells #[.int .i64 s.f0] 3)) (v:=.slice (some ⟨w9.heap.size,0,none⟩) 1 1) (by rfl) rfl ?_ ?_
     ·go_simp
      try rfl
     have hT3:=hT2.alloc (.cells #[.int .i64 s.f0] 3);have g13 : (w9.alloc (.cells #[.int .i64 s.f0] 3)).heap[w9.heap.size]? = some (.cells #[.int .i64 s.f0] 3 (0,0)):=heap_alloc_new w9 _
     refine hK.out _ _ (hSS _ hT3.wr hT3.b6 hT3.b7) (fun _=>?_)
     clear hK K;refine norm_ (a':=?_) ?_ ?_;rotate_left
     ·show Act.put _ (some 35) _ = _
      simp only [Act.put,List.setIfInBounds_toArray,List.set_cons_zero,List.set_cons_succ];rfl
     refine leaf_tail (at_:=s.f0) (m0:=#[true,true,true,true,true,true,true,true,true,true,true,true,true,true,false,false,false]) (m1:=#[true,true,true,true,true,true,true,true,true,true,true,true,true,true,true,false,false]) (m2:=#[true,true,true,true,true,true,true,true,true,true,true,true,true,true,true,true,false]) (m3:=#[true,true,true,true,true,true,true,true,true,true,true,true,true,true,true,true,true]) _ rfl rfl rfl rfl rfl rfl rfl rfl rfl rfl rfl rfl (by kernel_rfl) (by kernel_rfl) (by kernel_rfl) (by kernel_rfl) rfl rfl rfl rfl rfl (by simp) hT3 g13 hlen.1 ⟨_,_,_,rfl⟩ hSS (fun v2 w3 hT9=>?_)
     exact hEnd _ _ _ hT9
    ·refine value_ (w1:=(X.alloc (.cells #[.int .i64 nd.f0,.string nd.f1,.int .i64 s.f1.f0.f0,.int .i64 s.f1.f0.f1,.int .i64 s.f1.f0.f2,.int .i64 s.f1.f1.f0,.int .i64 s.f1.f1.f1,.int .i64 s.f1.f1.f2] 82)).alloc (.cells #[.int .i64 s.f0] 3)) (v:=.slice (some ⟨(X.alloc (.cells #[.int .i64 nd.f0,.string nd.f1,.int .i64 s.f1.f0.f0,.int .i64 s.f1.f0.f1,.int .i64 s.f1.f0.f2,.int .i64 s.f1.f1.f0,.int .i64 s.f1.f1.f1,.int .i64 s.f1.f1.f2] 82)).heap.size,0,none⟩) 1 1) (by rfl) rfl ?_ ?_
     ·go_simp
      try rfl
     have hT2:=hT1.alloc (.cells #[.int .i64 s.f0] 3);have g13 : ((X.alloc (.cells #[.int .i64 nd.f0,.string nd.f1,.int .i64 s.f1.f0.f0,.int .i64 s.f1.f0.f1,.int .i64 s.f1.f0.f2,.int .i64 s.f1.f1.f0,.int .i64 s.f1.f1.f1,.int .i64 s.f1.f1.f2] 82)).alloc (.cells #[.int .i64 s.f0] 3)).heap[(X.alloc (.cells #[.int .i64 nd.f0,.string nd.f1,.int .i64 s.f1.f0.f0,.int .i64 s.f1.f0.f1,.int .i64 s.f1.f0.f2,.int .i64 s.f1.f1.f0,.int .i64 s.f1.f1.f1,.int .i64 s.f1.f1.f2] 82)).heap.size]? = some (.cells #[.int .i64 s.f0] 3 (0,0)):=heap_alloc_new (X.alloc (.cells #[.int .i64 nd.f0,.string nd.f1,.int .i64 s.f1.f0.f0,.int .i64 s.f1.f0.f1,.int .i64 s.f1.f0.f2,.int .i64 s.f1.f1.f0,.int .i64 s.f1.f1.f1,.int .i64 s.f1.f1.f2] 82)) _
     refine hK.out _ _ (hSS _ hT2.wr hT2.b6 hT2.b7) (fun _=>?_)
     clear hK K;refine norm_ (a':=?_) ?_ ?_;rotate_left
     ·show Act.put _ (some 35) _ = _
      simp only [Act.put,List.setIfInBounds_toArray,List.set_cons_zero,List.set_cons_succ];rfl
     have g8':=(Below.heap_alloc (X.alloc (.cells #[.int .i64 nd.f0,.string nd.f1,.int .i64 s.f1.f0.f0,.int .i64 s.f1.f0.f1,.int .i64 s.f1.f0.f2,.int .i64 s.f1.f1.f0,.int .i64 s.f1.f1.f1,.int .i64 s.f1.f1.f2] 82)) (.cells #[.int .i64 s.f0] 3) _ (blk_lt g8)).trans g8;refine one_ (i:=9) (N:=some 31) #[true,true,true,true,true,true,true,true,true,true,true,true,true,true,false,false,false] rfl rfl (by kernel_rfl) (by decide) (fun K hK=>?_)
     refine step_append_lies _ (by rfl) _ _ _ (by rfl) w.heap.size 82 i2 _ 8 72 Try.underlying72 hi2 hy0 hy1 hy2 rfl (by omega) u6 _ _ (by rfl) hT2.o6 ⟨X.heap.size,0,none⟩ 1 1 (c87 (⟨nd.f0,nd.f1,s.f1⟩ : S87)) (by rfl) (by rfl) (World.news_of_block (cs:=#[.int .i64 nd.f0,.string nd.f1,.int .i64 s.f1.f0.f0,.int .i64 s.f1.f0.f1,.int .i64 s.f1.f0.f2,.int .i64 s.f1.f1.f0,.int .i64 s.f1.f1.f1,.int .i64 s.f1.f1.f2]) (t:=82) (fr:=(0,0)) g8') (by simp [c87,Value.oneCell']) (by omega) (by have:=hlen.2;simp [maxLen];omega) (by have:=hlen.2;omega) hT2.hn _ rfl ?_
     intro gg cap w9 hown9 hgrow9 hat9 hlt9;have hT3:=hT2.app6 (⟨nd.f0,nd.f1,s.f1⟩ : S87) hgrow9 hown9;have g13':=blk_grown g13 hgrow9 (own_ne hT2.o6 g13 (by decide))
     refine hK.out _ _ (hSS _ hT3.wr hT3.b6 hT3.b7) (fun _=>?_)
     clear hK K;refine norm_ (a':=?_) ?_ ?_;rotate_left
     ·show Act.put _ (some 31) _ = _
      simp only [Act.put,List.setIfInBounds_toArray,List.set_cons_zero,List.set_cons_succ];rfl
     refine leaf_tail (at_:=s.f0) (m0:=#[true,true,true,true,true,true,true,true,true,true,true,true,true,true,false,false,false]) (m1:=#[true,true,true,true,true,true,true,true,true,true,true,true,true,true,true,false,false]) (m2:=#[true,true,true,true,true,true,true,true,true,true,true,true,true,true,true,true,false]) (m3:=#[true,true,true,true,true,true,true,true,true,true,true,true,true,true,true,true,true]) _ rfl rfl rfl rfl rfl rfl rfl rfl rfl rfl rfl rfl (by kernel_rfl) (by kernel_rfl) (by kernel_rfl) (by kernel_rfl) rfl rfl rfl rfl rfl (by simp) hT3 g13' hlen.1 ⟨_,_,_,rfl⟩ hSS (fun v2 w3 hT9=>?_)
     exact hEnd _ _ _ hT9
   ·refine value_ (w1:=X.alloc (.cells #[.int .i64 s.f0] 3)) (v:=.slice (some ⟨X.heap.size,0,none⟩) 1 1) (by rfl) rfl ?_ ?_
    ·go_simp
     try rfl
    have hT1:=hT0.alloc (.cells #[.int .i64 s.f0] 3);have g13 : (X.alloc (.cells #[.int .i64 s.f0] 3)).heap[X.heap.size]? = some (.cells #[.int .i64 s.f0] 3 (0,0)):=heap_alloc_new X _
    refine hK.out _ _ (hSS _ hT1.wr hT1.b6 hT1.b7) (fun _=>?_)
    clear hK K;refine norm_ (a':=?_) ?_ ?_;rotate_left
    ·show Act.put _ (some 35) _ = _
     simp only [Act.put,List.setIfInBounds_toArray,List.set_cons_zero,List.set_cons_succ];rfl
    refine one_ (i:=8) (N:=some 30) #[true,true,true,true,true,true,true,true,true,false,true,true,true,true,false,false,false] rfl rfl (by kernel_rfl) (by decide) (fun K hK=>?_)
    refine value_ (w1:=(X.alloc (.cells #[.int .i64 s.f0] 3)).alloc (.cells #[.int .i64 nd.f0,.string nd.f1,.int .i64 s.f1.f0.f0,.int .i64 s.f1.f0.f1,.int .i64 s.f1.f0.f2,.int .i64 s.f1.f1.f0,.int .i64 s.f1.f1.f1,.int .i64 s.f1.f1.f2] 82)) (v:=.slice (some ⟨(X.alloc (.cells #[.int .i64 s.f0] 3)).heap.size,0,none⟩) 1 1) (by rfl) rfl ?_ ?_
    ·go_simp
     try rfl
    have hT2:=hT1.alloc (.cells #[.int .i64 nd.f0,.string nd.f1,.int .i64 s.f1.f0.f0,.int .i64 s.f1.f0.f1,.int .i64 s.f1.f0.f2,.int .i64 s.f1.f1.f0,.int .i64 s.f1.f1.f1,.int .i64 s.f1.f1.f2] 82);have g8 : ((X.alloc (.cells #[.int .i64 s.f0] 3)).alloc (.cells #[.int .i64 nd.f0,.string nd.f1,.int .i64 s.f1.f0.f0,.int .i64 s.f1.f0.f1,.int .i64 s.f1.f0.f2,.int .i64 s.f1.f1.f0,.int .i64 s.f1.f1.f1,.int .i64 s.f1.f1.f2] 82)).heap[(X.alloc (.cells #[.int .i64 s.f0] 3)).heap.size]? = some (.cells #[.int .i64 nd.f0,.string nd.f1,.int .i64 s.f1.f0.f0,.int .i64 s.f1.f0.f1,.int .i64 s.f1.f0.f2,.int .i64 s.f1.f1.f0,.int .i64 s.f1.f1.f1,.int .i64 s.f1.f1.f2] 82 (0,0)):=heap_alloc_new (X.alloc (.cells #[.int .i64 s.f0] 3)) _
    refine hK.out _ _ (hSS _ hT2.wr hT2.b6 hT2.b7) (fun _=>?_)
    clear hK K;refine norm_ (a':=?_) ?_ ?_;rotate_left
    ·show Act.put _ (some 30) _ = _
     simp only [Act.put,List.setIfInBounds_toArray,List.set_cons_zero,List.set_cons_succ];rfl
    have g13b:=(Below.heap_alloc (X.alloc (.cells #[.int .i64 s.f0] 3)) (.cells #[.int .i64 nd.f0,.string nd.f1,.int .i64 s.f1.f0.f0,.int .i64 s.f1.f0.f1,.int .i64 s.f1.f0.f2,.int .i64 s.f1.f1.f0,.int .i64 s.f1.f1.f1,.int .i64 s.f1.f1.f2] 82) _ (blk_lt g13)).trans g13;refine one_ (i:=9) (N:=some 31) #[true,true,true,true,true,true,true,true,true,true,true,true,true,true,false,false,false] rfl rfl (by kernel_rfl) (by decide) (fun K hK=>?_)
    refine step_append_lies _ (by rfl) _ _ _ (by rfl) w.heap.size 82 i2 _ 8 72 Try.underlying72 hi2 hy0 hy1 hy2 rfl (by omega) u6 _ _ (by rfl) hT2.o6 ⟨(X.alloc (.cells #[.int .i64 s.f0] 3)).heap.size,0,none⟩ 1 1 (c87 (⟨nd.f0,nd.f1,s.f1⟩ : S87)) (by rfl) (by rfl) (World.news_of_block (cs:=#[.int .i64 nd.f0,.string nd.f1,.int .i64 s.f1.f0.f0,.int .i64 s.f1.f0.f1,.int .i64 s.f1.f0.f2,.int .i64 s.f1.f1.f0,.int .i64 s.f1.f1.f1,.int .i64 s.f1.f1.f2]) (t:=82) (fr:=(0,0)) g8) (by simp [c87,Value.oneCell']) (by omega) (by have:=hlen.2;simp [maxLen];omega) (by have:=hlen.2;omega) hT2.hn _ rfl ?_
    intro gg cap w9 hown9 hgrow9 hat9 hlt9;have hT3:=hT2.app6 (⟨nd.f0,nd.f1,s.f1⟩ : S87) hgrow9 hown9;have g13':=blk_grown g13b hgrow9 (own_ne hT2.o6 g13b (by decide))
    refine hK.out _ _ (hSS _ hT3.wr hT3.b6 hT3.b7) (fun _=>?_)
    clear hK K;refine norm_ (a':=?_) ?_ ?_;rotate_left
    ·show Act.put _ (some 31) _ = _
     simp only [Act.put,List.setIfInBounds_toArray,List.set_cons_zero,List.set_cons_succ];rfl
    refine leaf_tail (at_:=s.f0) (m0:=#[true,true,true,true,true,true,true,true,true,true,true,true,true,true,false,false,false]) (m1:=#[true,true,true,true,true,true,true,true,true,true,true,true,true,true,true,false,false]) (m2:=#[true,true,true,true,true,true,true,true,true,true,true,true,true,true,true,true,false]) (m3:=#[true,true,true,true,true,true,true,true,true,true,true,true,true,true,true,true,true]) _ rfl rfl rfl rfl rfl rfl rfl rfl rfl rfl rfl rfl (by kernel_rfl) (by kernel_rfl) (by kernel_rfl) (by kernel_rfl) rfl rfl rfl rfl rfl (by simp) hT3 g13' hlen.1 ⟨_,_,_,rfl⟩ hSS (fun v2 w3 hT9=>?_)
    exact hEnd _ _ _ hT9
  ·have hk2 : (nd.f0 != 3) = false:=by rw [bne,hk];rfl
   gi_wp2
   have hbW : Below W.heap.size W (W.alloc (.cells #[.int .i64 nd.f0,.string nd.f1,.int .i64 nd.f2,.int .i64 nd.f3,.int .i64 nd.f4,.int .i64 nd.f5,.int .i64 nd.f6] 59)):=below_alloc (Below.refl _ _) _
   have hi : isLeaf ns s = false:=by unfold isLeaf;rw [HND.out];exact hk2
   refine ⟨keepF hbW,KT.of_below hbW HLW.out.below.size,u6,u7, ?_⟩
   rw [raw_snoc,leavesL_snoc,atsL_snoc,hi]
   simpa using HLW.out.mono hbW
 case done =>
  rintro D ys W hD hys ⟨u6,u7,hlw1⟩ hK;have cr : W.cell? ⟨w.heap.size + 2,0,none⟩ = some u6:=blk_cell hlw1.b6 0;have cs : W.cell? ⟨w.heap.size + 3,0,none⟩ = some u7:=blk_cell hlw1.b7 0;have HB1:=aside hlw1;have HK:=aside hK;have HY:=aside (show raw ys = walkS ns v from hys);clear hlw1 hK hys
  dsimp only
  gi_wp2
  gi_quiet_th (fail)
  gi_wp2
  have hKD : (W.drewN nq).heap[D]? = some (.deferred (some [])):=HK.out;have hbn : Below W.heap.size W (W.drewN nq):=pw_below_drewN (Below.refl _ _) nq
  refine ⟨by simp,.inl ⟨_,_,rfl,run_takeDeferred hKD, ?_⟩⟩
  refine ⟨.tuple #[u6,u7],by simp [results,Try.results60],u6,u7,rfl, ?_, ?_⟩
  (rw [← HY.out];exact own_keep (pw_own_below HB1.out.o6 hbn) (grownBy_putObj' _ D _) (fun r e=>by cases e;exact ⟨_,hKD,rfl⟩));(exact (HB1.out.below.trans (hbn.mono HB1.out.below.size)).trans (belowK_b (w:=w) (Nat.le_refl _) _ D _ _ (by omega) hKD rfl rfl))
 case stop =>
  rintro D cd pre W _ _ h _;exact h.elim
end Go.Proofs.Ytdnjagfbhppmbaa.PA
