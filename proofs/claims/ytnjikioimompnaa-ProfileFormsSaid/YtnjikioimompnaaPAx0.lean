import Derived.Test.YtnjikioimompnaaProg
import Derived.Test.YtnjikioimompnaaWWords
import Derived.Below
import Derived.Deep.Draws
import Derived.Deep.AppendLies
import Derived.Maps.AppendAt
import Derived.OwnWalk
import Derived.Laws.BytesArg
import Derived.Laws.MakeOwn
import Derived.Laws.OwnMore
import Derived.Deep.OwnRows
import Derived.Tactics
import Derived.Lib.ConvBytes
import Derived.Laws.Slices
import Derived.WalkKit
import Derived.KernelRfl
import Derived.RowKit3
import Derived.Deep.LoopGhost
import Derived.Deep.QuietTactic
import Derived.BigQuiet
import Derived.WideLaws
import Derived.Deep.DeepCutAuto
import Derived.Deep.CutBlock
import Derived.Deep.RegionHeld3
import Derived.Laws.Rows
import Derived.Lib.AppendStr
import Derived.ArgAppend
import Derived.Laws.IdiomCopy
import Derived.OrdersHeld
import Derived.Laws.BitsLemmas
import Derived.RowKit
namespace Go.Proofs.Ytnjikioimompnaa.PA
open Go.RowKit Go.Proofs.YtnjikioimompnaaW.PrintWords Go.Proofs.YtnjikioimompnaaW.PrintLast Go.Proofs.YtnjikioimompnaaW.PrintMore
attribute [local go_sem] max2_int min2_int max_two min_two max_three min_three max_four min_four
set_option linter.unusedVariables false
set_option linter.unusedSimpArgs false
def errW : Option Int → Value
 | none => .nilIface
 | some c => .iface 0 (.int .i64 c)
theorem errW_none : errW none = .nilIface := rfl
theorem errW_some (c : Int) : errW (some c) = .iface 0 (.int .i64 c) := rfl
theorem info3 : (Try.prog.info? 3).map (fun i => (i.zero, i.size, i.bytes)) = some (some (.int .i64 0), 1, 8) := by kernel_rfl
theorem info31 : (Try.prog.info? 31).map (fun i => (i.zero, i.size, i.bytes)) = some (some (.agg #[(.int .i64 0), (.int .i64 0)]), 2, 16) := by kernel_rfl
-- the values' own types
theorem mT {α β : Type} (f : α → β) (l : List α) : l.toArray.map f = (l.map f).toArray := List.map_toArray ..
theorem mC {α β : Type} (f : α → β) (a : α) (l : List α) : (a :: l).map f = f a :: l.map f := List.map_cons ..
theorem mN {α β : Type} (f : α → β) : ([] : List α).map f = [] := List.map_nil
theorem sA {α : Type} (l : List α) (i : Nat) (a : α) : l.toArray.setIfInBounds i a = (l.set i a).toArray := List.setIfInBounds_toArray ..
theorem s0 {α : Type} (a b : α) (l : List α) : (a :: l).set 0 b = b :: l := List.set_cons_zero ..
theorem sS {α : Type} (a b : α) (l : List α) (n : Nat) : (a :: l).set (n + 1) b = a :: l.set n b := List.set_cons_succ ..
theorem lDr {α : Type} (i : Nat) (l : List α) : (l.drop i).length = l.length - i := List.length_drop ..
theorem lTk {α : Type} (i : Nat) (l : List α) : (l.take i).length = min i l.length := List.length_take ..
abbrev kA := @Kd.C_alloc
abbrev kN := @Kd.C_drewN
abbrev kD := @Kd.C_drew
abbrev kB := @Kd.C_below
abbrev t_ : Bool := true
abbrev f_ : Bool := false
abbrev bN := @blk_drewN
abbrev bD := @blk_drew
abbrev bA := @blk_alloc
abbrev rA := @Kd.R_alloc
abbrev rN := @Kd.R_drewN
abbrev rD := @Kd.R_drew
abbrev lA := @below_alloc
abbrev lN := @pw_below_drewN
abbrev lD := @below_drew1
abbrev lS := @below_set
abbrev am := @Aside0.mk
instance rc0 {W : World} : Nonempty (PLift (Below W.heap.size W W)) := ⟨⟨Below.refl _ _⟩⟩
instance rc1 {W W' : World} {o : Obj} [h : Nonempty (PLift (Below W.heap.size W W'))] : Nonempty (PLift (Below W.heap.size W (W'.alloc o))) := ⟨⟨below_alloc (h.elim PLift.down) o⟩⟩
instance rc2 {W W' : World} [h : Nonempty (PLift (Below W.heap.size W W'))] : Nonempty (PLift (Below W.heap.size W W'.drew)) := ⟨⟨below_drew1 (h.elim PLift.down)⟩⟩
instance rc3 {W W' : World} {n : Nat} [h : Nonempty (PLift (Below W.heap.size W W'))] : Nonempty (PLift (Below W.heap.size W (W'.drewN n))) := ⟨⟨pw_below_drewN (h.elim PLift.down) n⟩⟩
theorem bb {W W' w1 : World} {g : Nat} {o : Obj} [r : Nonempty (PLift (Below W.heap.size W W'))] (h : W.heap[g]? = some o) (hb : Below W'.heap.size W' w1) : w1.heap[g]? = some o := blk_below h (below_step (r.elim PLift.down) hb)
theorem bl {W W' : World} {g g' : Nat} {o : Obj} [r : Nonempty (PLift (Below W.heap.size W W'))] (h : W.heap[g]? = some o) (hg : g' = W'.heap.size) : g ≠ g' := by
 have h1 := blk_lt h;have h2 := (r.elim PLift.down : Below W.heap.size W W').size
 omega
theorem bg {W W' : World} {g g' : Nat} {o : Obj} [r : Nonempty (PLift (Below W.heap.size W W'))] (h : W.heap[g]? = some o) (hg : g' = W'.heap.size) : g' ≠ g := (bl h hg).symm
theorem bs {w W W' w1 : World} [r : Nonempty (PLift (Below W.heap.size W W'))] (h : Below w.heap.size w W) (hb : Below W'.heap.size W' w1) : Below w.heap.size w w1 := below_step h (below_step (r.elim PLift.down) hb)
theorem bz {w W W' : World} {g' : Nat} [r : Nonempty (PLift (Below W.heap.size W W'))] (h : Below w.heap.size w W) (hg : g' = W'.heap.size) : w.heap.size ≤ g' := by
 have h1 := h.size;have h2 := (r.elim PLift.down : Below W.heap.size W W').size
 omega
theorem bq {W W' : World} {g : Nat} {o : Obj} [r : Nonempty (PLift (Below W.heap.size W W'))] (h : W.heap[g]? = some o) : W'.heap[g]? = some o := blk_below h (r.elim PLift.down)
theorem rq {α : Type} {d : Kd α} {e base : Nat} {ok : Nat → Prop} {v : Value} {xs : List α} {W W' : World} [r : Nonempty (PLift (Below W.heap.size W W'))] (h : Kd.R d e W base ok v xs) : Kd.R d e W' base ok v xs := Kd.R_below h (r.elim PLift.down)
theorem rb {α : Type} {d : Kd α} {e base : Nat} {ok : Nat → Prop} {v : Value} {xs : List α} {W W' w1 : World} [r : Nonempty (PLift (Below W.heap.size W W'))] (h : Kd.R d e W base ok v xs) (hb : Below W'.heap.size W' w1) : Kd.R d e w1 base ok v xs := Kd.R_below (Kd.R_below h (r.elim PLift.down)) hb
theorem cq {α : Type} {d : Kd α} {w W W' : World} {A : Option Addr} {n : Nat} {xs : List α} [r : Nonempty (PLift (Below W.heap.size W W'))] (h : Kd.C d w A n xs) (hB : Below w.heap.size w W) : Kd.C d W' A n xs := Kd.C_below h (below_step hB (r.elim PLift.down))
theorem cr {α : Type} {d : Kd α} {W W' : World} {A : Option Addr} {n : Nat} {xs : List α} [r : Nonempty (PLift (Below W.heap.size W W'))] (h : Kd.C d W A n xs) : Kd.C d W' A n xs := Kd.C_below h (r.elim PLift.down)
theorem bba {W W' w1 : World} {g : Nat} {o : Obj} [r : Nonempty (PLift (Below W.heap.size W W'))] (h : Aside0 (W.heap[g]? = some o)) (hb : Below W'.heap.size W' w1) : Aside0 (w1.heap[g]? = some o) := ⟨bb h.out hb⟩
theorem bla {W W' : World} {g g' : Nat} {o : Obj} [r : Nonempty (PLift (Below W.heap.size W W'))] (h : Aside0 (W.heap[g]? = some o)) (hg : g' = W'.heap.size) : Aside0 (g ≠ g') := ⟨bl h.out hg⟩
theorem bga {W W' : World} {g g' : Nat} {o : Obj} [r : Nonempty (PLift (Below W.heap.size W W'))] (h : Aside0 (W.heap[g]? = some o)) (hg : g' = W'.heap.size) : Aside0 (g' ≠ g) := ⟨bg h.out hg⟩
theorem bsa {w W W' w1 : World} [r : Nonempty (PLift (Below W.heap.size W W'))] (h : Aside0 (Below w.heap.size w W)) (hb : Below W'.heap.size W' w1) : Aside0 (Below w.heap.size w w1) := ⟨bs h.out hb⟩
theorem bza {w W W' : World} {g' : Nat} [r : Nonempty (PLift (Below W.heap.size W W'))] (h : Aside0 (Below w.heap.size w W)) (hg : g' = W'.heap.size) : Aside0 (w.heap.size ≤ g') := ⟨bz h.out hg⟩
theorem rba {α : Type} {d : Kd α} {e base : Nat} {ok : Nat → Prop} {v : Value} {xs : List α} {W W' w1 : World} [r : Nonempty (PLift (Below W.heap.size W W'))] (h : Aside0 (Kd.R d e W base ok v xs)) (hb : Below W'.heap.size W' w1) : Aside0 (Kd.R d e w1 base ok v xs) := ⟨rb h.out hb⟩
theorem bda {w : World} {g : Nat} {o : Obj} (h : Aside0 (w.heap[g]? = some o)) : Aside0 (w.drew.heap[g]? = some o) := ⟨blk_drew h.out⟩
theorem hda {w W : World} (h : Aside0 (Below w.heap.size w W)) : Aside0 (Below w.heap.size w W.drew) := ⟨below_drew1 h.out⟩
def mk_ (n b : Nat) : Array Bool := ((List.range n).map fun i => b.testBit i).toArray
section
variable {P : Program} {ops : Array Oper} {Q : Exit → Act → World → Prop} {md : Region.Mode} {S : World → Prop} {ds B : List Nat} {T : Bool × List (List Nat × List Nat)} {oi : Oper} {v : Value} {fuel : Nat} {l : Array Bool} {a a' : Act} {w : World}
theorem pu_ (HT : Aside0 (rtab md ops = T)) (i : Nat) (N : Tmp) (l' : Array Bool) (h : wpAnyLast P md ops Q S ds fuel l' a' w) (hi : ops[i]? = some oi := by rfl) (hN : oi.dst = some N := by rfl) (hk : anyT T l.toList l'.toList i = true := by kernel_rfl) (hQ : ∀ c a w, Q (.panic c) (a.put oi.dst v) w → Q (.panic c) a w := by exact fun _ _ _ h => h) (hw : Region.wanted oi (yielded ops a.tmps) = true := by rfl) (hv : ∀ w, (execOp a.eval oi).run P w = .ok (.value v) w := by intro w';go_simp;with_reducible rfl) (ha : a.put (some N) v = a' := by simp only [Act.put,sA,s0,sS,i64_w,i32_w];rfl) : wpAnyLast P md ops Q S ds (fuel + 1) l a w := pure_ l' hi hN (any_of HT.out hk) hQ (Or.inl ⟨hw, hv⟩) ha h
theorem pv_ (i : Nat) (N : Tmp) (l' : Array Bool) (h : wpAnyLast P md ops Q S ds fuel l' a' w) (hi : ops[i]? = some oi := by rfl) (hN : oi.dst = some N := by rfl) (hk : anyB md ops l l' i = true := by kernel_rfl) (hQ : ∀ c a w, Q (.panic c) (a.put oi.dst v) w → Q (.panic c) a w := by exact fun _ _ _ h => h) (hw : Region.wanted oi (yielded ops a.tmps) = true := by rfl) (hv : ∀ w, (execOp a.eval oi).run P w = .ok (.value v) w := by intro w';go_simp;with_reducible rfl) (ha : a.put (some N) v = a' := by simp only [Act.put,sA,s0,sS,i64_w,i32_w];rfl) : wpAnyLast P md ops Q S ds (fuel + 1) l a w := pure_ l' hi hN hk hQ (Or.inl ⟨hw, hv⟩) ha h
theorem pn_ (HT : Aside0 (rtab md ops = T)) (i : Nat) (N : Tmp) (l' : Array Bool) (h : wpAnyLast P md ops Q S ds fuel l' a' w) (hi : ops[i]? = some oi := by rfl) (hN : oi.dst = some N := by rfl) (hk : anyT T l.toList l'.toList i = true := by kernel_rfl) (hQ : ∀ c a w, Q (.panic c) (a.put oi.dst undef) w → Q (.panic c) a w := by exact fun _ _ _ h => h) (hw : Region.wanted oi (yielded ops a.tmps) = false := by rfl) (ha : a.put (some N) undef = a' := by simp only [Act.put,sA,s0,sS,i64_w,i32_w];rfl) : wpAnyLast P md ops Q S ds (fuel + 1) l a w := pure_ l' hi hN (any_of HT.out hk) hQ (Or.inr ⟨hw, rfl⟩) ha h
theorem ta2_ (HT : Aside0 (rtab md ops = T)) (HB : Aside0 (waitsOk T.2 B = true)) (i : Nat) (N : Tmp) (l' : Array Bool) (hS : S w) (h : wpAnyLast P md ops Q S ds fuel l' a' w) (hi : ops[i]? = some oi := by rfl) (hN : oi.dst = some N := by rfl) (hk : takeW T B ds l.toList l'.toList i = true := by kernel_rfl) (hQ : ∀ c a w, Q (.panic c) (a.put oi.dst v) w → Q (.panic c) a w := by exact fun _ _ _ h => h) (hw : Region.wanted oi (yielded ops a.tmps) = true := by rfl) (hv : ∀ w, S w → (execOp a.eval oi).run P w = .ok (.value v) w := by rintro w' ⟨s0,s1⟩;go_simp;with_reducible rfl) (ha : a.put (some N) v = a' := by simp only [Act.put,sA,s0,sS,i64_w,i32_w];rfl) : wpAnyLast P md ops Q S ds (fuel + 1) l a w := take_ l' hi hN (take_ofW HT.out HB.out hk) hQ (Or.inl ⟨hw, hv⟩) hS ha h
theorem ta4_ (HT : Aside0 (rtab md ops = T)) (HB : Aside0 (waitsOk T.2 B = true)) (i : Nat) (N : Tmp) (l' : Array Bool) (hS : S w) (h : wpAnyLast P md ops Q S ds fuel l' a' w) (hi : ops[i]? = some oi := by rfl) (hN : oi.dst = some N := by rfl) (hk : takeW T B ds l.toList l'.toList i = true := by kernel_rfl) (hQ : ∀ c a w, Q (.panic c) (a.put oi.dst v) w → Q (.panic c) a w := by exact fun _ _ _ h => h) (hw : Region.wanted oi (yielded ops a.tmps) = true := by rfl) (hv : ∀ w, S w → (execOp a.eval oi).run P w = .ok (.value v) w := by rintro w' ⟨s0,s1,s2,s3⟩;go_simp;with_reducible rfl) (ha : a.put (some N) v = a' := by simp only [Act.put,sA,s0,sS,i64_w,i32_w];rfl) : wpAnyLast P md ops Q S ds (fuel + 1) l a w := take_ l' hi hN (take_ofW HT.out HB.out hk) hQ (Or.inl ⟨hw, hv⟩) hS ha h
theorem tb4_ (i : Nat) (N : Tmp) (l' : Array Bool) (hS : S w) (h : wpAnyLast P md ops Q S ds fuel l' a' w) (hi : ops[i]? = some oi := by rfl) (hN : oi.dst = some N := by rfl) (hk : takeB md ops ds l l' i = true := by kernel_rfl) (hQ : ∀ c a w, Q (.panic c) (a.put oi.dst v) w → Q (.panic c) a w := by exact fun _ _ _ h => h) (hw : Region.wanted oi (yielded ops a.tmps) = true := by rfl) (hv : ∀ w, S w → (execOp a.eval oi).run P w = .ok (.value v) w := by rintro w' ⟨s0,s1,s2,s3⟩;go_simp;with_reducible rfl) (ha : a.put (some N) v = a' := by simp only [Act.put,sA,s0,sS,i64_w,i32_w];rfl) : wpAnyLast P md ops Q S ds (fuel + 1) l a w := take_ l' hi hN hk hQ (Or.inl ⟨hw, hv⟩) hS ha h
theorem ta6_ (HT : Aside0 (rtab md ops = T)) (HB : Aside0 (waitsOk T.2 B = true)) (i : Nat) (N : Tmp) (l' : Array Bool) (hS : S w) (h : wpAnyLast P md ops Q S ds fuel l' a' w) (hi : ops[i]? = some oi := by rfl) (hN : oi.dst = some N := by rfl) (hk : takeW T B ds l.toList l'.toList i = true := by kernel_rfl) (hQ : ∀ c a w, Q (.panic c) (a.put oi.dst v) w → Q (.panic c) a w := by exact fun _ _ _ h => h) (hw : Region.wanted oi (yielded ops a.tmps) = true := by rfl) (hv : ∀ w, S w → (execOp a.eval oi).run P w = .ok (.value v) w := by rintro w' ⟨s0,s1,s2,s3,s4,s5⟩;go_simp;with_reducible rfl) (ha : a.put (some N) v = a' := by simp only [Act.put,sA,s0,sS,i64_w,i32_w];rfl) : wpAnyLast P md ops Q S ds (fuel + 1) l a w := take_ l' hi hN (take_ofW HT.out HB.out hk) hQ (Or.inl ⟨hw, hv⟩) hS ha h
theorem ta8_ (HT : Aside0 (rtab md ops = T)) (HB : Aside0 (waitsOk T.2 B = true)) (i : Nat) (N : Tmp) (l' : Array Bool) (hS : S w) (h : wpAnyLast P md ops Q S ds fuel l' a' w) (hi : ops[i]? = some oi := by rfl) (hN : oi.dst = some N := by rfl) (hk : takeW T B ds l.toList l'.toList i = true := by kernel_rfl) (hQ : ∀ c a w, Q (.panic c) (a.put oi.dst v) w → Q (.panic c) a w := by exact fun _ _ _ h => h) (hw : Region.wanted oi (yielded ops a.tmps) = true := by rfl) (hv : ∀ w, S w → (execOp a.eval oi).run P w = .ok (.value v) w := by rintro w' ⟨s0,s1,s2,s3,s4,s5,s6,s7⟩;go_simp;with_reducible rfl) (ha : a.put (some N) v = a' := by simp only [Act.put,sA,s0,sS,i64_w,i32_w];rfl) : wpAnyLast P md ops Q S ds (fuel + 1) l a w := take_ l' hi hN (take_ofW HT.out HB.out hk) hQ (Or.inl ⟨hw, hv⟩) hS ha h
theorem ta14_ (HT : Aside0 (rtab md ops = T)) (HB : Aside0 (waitsOk T.2 B = true)) (i : Nat) (N : Tmp) (l' : Array Bool) (hS : S w) (h : wpAnyLast P md ops Q S ds fuel l' a' w) (hi : ops[i]? = some oi := by rfl) (hN : oi.dst = some N := by rfl) (hk : takeW T B ds l.toList l'.toList i = true := by kernel_rfl) (hQ : ∀ c a w, Q (.panic c) (a.put oi.dst v) w → Q (.panic c) a w := by exact fun _ _ _ h => h) (hw : Region.wanted oi (yielded ops a.tmps) = true := by rfl) (hv : ∀ w, S w → (execOp a.eval oi).run P w = .ok (.value v) w := by rintro w' ⟨s0,s1,s2,s3,s4,s5,s6,s7,s8,s9,s10,s11,s12,s13⟩;go_simp;with_reducible rfl) (ha : a.put (some N) v = a' := by simp only [Act.put,sA,s0,sS,i64_w,i32_w];rfl) : wpAnyLast P md ops Q S ds (fuel + 1) l a w := take_ l' hi hN (take_ofW HT.out HB.out hk) hQ (Or.inl ⟨hw, hv⟩) hS ha h
theorem nm_ (N : Tmp) {b : Act} (h : wpAnyLast P md ops Q S ds fuel l a' w) (hb : a = b.put (some N) v := by rfl) (ha : b.put (some N) v = a' := by simp only [Act.put,sA,s0,sS,i64_w,i32_w];rfl) : wpAnyLast P md ops Q S ds fuel l a w := norm_ (hb.trans ha) h
end
theorem c2_ {w : World} {g : Nat} {t : TypeId} {v0 v1 : Value} (h : w.heap[g]? = some (.cells #[v0, v1] t (0, 0))) : w.cell? ⟨g, 0, none⟩ = some v0 ∧ w.cell? ⟨g, 1, none⟩ = some v1 ∧ w.frozen? ⟨g, 0, none⟩ = false ∧ w.frozen? ⟨g, 1, none⟩ = false := ⟨(blk_cell h 0).trans rfl, (blk_cell h 1).trans rfl, blk_frozen h 0, blk_frozen h 1⟩
structure S31 where
 f0 : Int
 f1 : Int
def z31 : S31 := ⟨(0 : Int), (0 : Int)⟩
def k31 : Kd S31 := Kd.iso (Kd.pair (Kd.int .i64) (Kd.int .i64)) (fun x : S31 => (x.f0, x.f1))
theorem k31_open {w : World} {x : S31} {cs : List Value} (h : k31.K w x cs) : cs = [.int .i64 x.f0, .int .i64 x.f1] := by
 obtain ⟨_, _, rfl, rfl, rfl⟩ := h;exact rfl
theorem k31_mk (w : World) (x : S31)  : k31.K w x [.int .i64 x.f0, .int .i64 x.f1] := ⟨[.int .i64 x.f0], [.int .i64 x.f1], rfl, rfl, rfl⟩
theorem k31_mkM (w : World) (base : Nat) (ok : Nat → Prop) (x : S31)  : k31.M w base ok x [.int .i64 x.f0, .int .i64 x.f1] := ⟨[.int .i64 x.f0], [.int .i64 x.f1], rfl, rfl, rfl⟩
def rd_T31 (xs : List S31) (i : Int) : S31 := xs.getD i.toNat z31
theorem at_T31 {w : World} {A : Option Addr} {n : Nat} {xs : List S31} (h : Kd.C k31 w A n xs) (i : Int) (h0 : 0 ≤ i) (h1 : i < n) : ∃ ad , A = some ad ∧ w.cell? (ad.add (i.toNat * 2)) = some (.int .i64 (rd_T31 xs i).f0) ∧ w.cell? ⟨(ad.add (i.toNat * 2)).block, (ad.add (i.toNat * 2)).off + 1, none⟩ = some (.int .i64 (rd_T31 xs i).f1) := by
 obtain ⟨ad, c, e, _, hK, hc0⟩ := Kd.C_get h z31 i h0 h1;have hc : ∀ j u, c[j]? = some u → w.cell? (ad.add (i.toNat * 2 + j)) = some u := hc0;obtain rfl := k31_open hK;exact ⟨ad, e, hc 0 _ rfl, by rw [← add_field _ _ 1 (by omega)]; exact hc 1 _ rfl⟩
structure S25 where
 f0 : ByteArray
 f1 : (List S31)
end Go.Proofs.Ytnjikioimompnaa.PA
