import Derived.Test.YtdnjagfbhppmbaaGj
import Derived.Test.YtdnjagfbhppmbaaGw
import Derived.Test.YtdnjagfbhppmbaaPAx17
import Derived.Test.YtdnjagfbhppmbaaPua
import Derived.Maps.OwnOps
import Derived.Maps.OwnSet
namespace Go.Proofs.Ytdnjagfbhppmbaa.Pure
open Go.RowKit Go.Proofs.Ytdnjagfbhppmbaa Go.Proofs.Ytdnjagfbhppmbaa.PA Go.Proofs.YtdnjagfbhppmbaaW.PrintWords Go.Proofs.YtdnjagfbhppmbaaW.PrintLast Go.Proofs.YtdnjagfbhppmbaaW.PrintMore
set_option linter.unusedVariables false
set_option linter.unusedSimpArgs false
theorem part_ev (ns : List S59) (i a : Int) : gangsawref24_part.f ns i a = some (partB a i (ns.length : Int)) := by
 unfold gangsawref24_part.f partB
 by_cases h : i < a
 ·rw [if_pos h]; simp [h]
 ·rw [if_neg h]; simp [h]
theorem no_bytes (s : ByteArray) : (s.toList != ([] : List UInt8)) = !s.toList.isEmpty := by cases s.toList <;> rfl
set_option maxHeartbeats 1000000 in
theorem node_ev (ns : List S59) (i : Nat) (hi : i < ns.length) (hs : (rd_T59 ns (i : Int)).f1.size ≤ 9223372036854775807) : Ev (fun k => gangsawref24_node.f k ns (i : Int)) (nodeErr ns i) := by
 refine ⟨(rd_T59 ns (i : Int)).f1.size + 10, fun k hk => ?_⟩
 show gangsawref24_node.f k ns (i : Int) = _
 unfold gangsawref24_node.f nodeErr
 rw [if_pos (by omega), if_pos (by omega)];generalize rd_T59 ns (i : Int) = n at hs hk ⊢;obtain ⟨f0, f1, f2, f3, f4, f5, f6⟩ := n
 obtain ⟨m, rfl⟩ : ∃ m, k = m + 5 := ⟨k - 5, by omega⟩
 dsimp only at hs hk ⊢
 have hname : gangsawref09_Name.f (m + 1) f1 = some (lexName f1) := name_f f1 hs (m + 1) (by omega)
 unfold nodeR
 dsimp only
 by_cases h3 : f0 = 3
 ·subst h3;rw [if_neg (by decide), if_pos rfl]
  unfold cutR
  simp only [gangsawref24_node.j0, gangsawref24_node.j1, gangsawref24_node.j2, gangsawref24_node.j3, gangsawref24_node.j4, part_ev, no_bytes]
  cases f1.toList.isEmpty
  ·simp
  ·by_cases h1 : f2 < 0
   ·simp [h1]
   ·by_cases h2 : 2 < f2
    ·simp [h1, h2]
    ·cases hp : partB f5 (i : Int) (ns.length : Int)
     ·simp [h1, h2, hp]
     ·cases hq : partB f6 (i : Int) (ns.length : Int)
      ·simp [h1, h2, hp, hq]
      ·by_cases h4 : f4 < 0
       ·simp [h1, h2, hp, hq, h4]
       ·by_cases h5 : 1000 < f4
        ·simp [h1, h2, hp, hq, h4, h5]
        ·simp [h1, h2, hp, hq, h4, h5]
 ·rw [if_neg h3];by_cases hk2 : f0 = 0 ∨ f0 = 1 ∨ f0 = 2
  ·rw [if_pos hk2, if_neg (by omega)]
   have h33 : decide (f0 > 3) = false := by simp; omega
   rw [h33]
   unfold plainR
   simp only [gangsawref24_node.j0, gangsawref24_node.j1, gangsawref24_node.j2, gangsawref24_node.j3, gangsawref24_node.j4, no_bytes, if_neg h3, hname];by_cases a2 : f2 = 0
   ·by_cases a3 : f3 = 0
    ·by_cases a4 : f4 = 0
     ·by_cases a5 : f5 = 0
      ·by_cases a6 : f6 = 0
       ·by_cases b0 : f0 = 0
        ·subst b0
         cases f1.toList.isEmpty <;> simp [a2, a3, a4, a5, a6]
        ·rcases hk2 with e | e | e
         (exact absurd e b0)
         ·subst e; cases lexName f1 <;> simp [a2, a3, a4, a5, a6]
         ·subst e; cases lexName f1 <;> simp [a2, a3, a4, a5, a6]
       ·simp [a2, a3, a4, a5, a6]
      ·simp [a2, a3, a4, a5]
     ·simp [a2, a3, a4]
    ·simp [a2, a3]
   ·simp [a2]
  ·rw [if_neg hk2];by_cases hn : f0 < 0
   ·rw [if_pos hn]; simp [gangsawref24_node.j0]
   ·rw [if_neg hn]
    have h33 : decide (f0 > 3) = true := by simp; omega
    rw [h33]
    simp [gangsawref24_node.j0]
theorem set_bump (f : Nat → Int) (n a : Nat) (h : a < n) : ((List.range n).map f).set a (f a + 1) = (List.range n).map (bump f a) := by
 apply List.ext_getElem
 ·simp
 ·intro j h1 h2;rw [List.getElem_set];simp only [List.getElem_map, List.getElem_range]
  unfold bump
  by_cases e : a = j
  ·subst e; rw [if_pos rfl]
  (rw [if_neg e, if_neg (fun e2 => e e2.symm)])
theorem rd_map (f : Nat → Int) (n a : Nat) (h : a < n) : rd ((List.range n).map f) (a : Int) = f a := by
 unfold rd
 simp [List.getD, h]
theorem bump_bd {f : Nat → Int} {m : Int} (h : ∀ x, 0 ≤ f x ∧ f x ≤ m) (a : Nat) : ∀ x, 0 ≤ bump f a x ∧ bump f a x ≤ m + 1 := fun x => by have := h x; unfold bump; split <;> omega
theorem parts_l0 (ns : List S59) (hl : ns.length ≤ 1024) (hA : ∀ j, j < ns.length → nodeErr ns j = 0) : ∀ (d i : Nat), ns.length - i = d → i ≤ ns.length →
  Ev (fun k => gangsawref24_parts.l0 k ns ((List.range ns.length).map (parF ns i)) (i : Int)) (parL ns) := by
 intro d
 induction d with
 | zero =>
  intro i hd hi
  obtain rfl : i = ns.length := by omega
  refine Ev.step (f := fun _ => some _) (fun k => ?_) (Ev.now _)
  rw [gangsawref24_parts.l0, if_neg (by omega)];rfl
 | succ d ih =>
  intro i hd hi;have H := ih (i + 1) (by omega) (by omega)
  have hb := fun x => parF_bd ns i x
  by_cases hk : (rd_T59 ns (i : Int)).f0 = 3
  ·obtain ⟨⟨z1, z2⟩, z3, z4⟩ := nodeErr_cut ns i (hA i (by omega)) hk;have e1 : parF ns (i + 1) = bump (bump (parF ns i) (rd_T59 ns (i : Int)).f5.toNat) (rd_T59 ns (i : Int)).f6.toNat := if_pos hk
   refine Ev.step (fun k => ?_) H
   rw [gangsawref24_parts.l0, if_pos (by omega), if_pos (by omega), if_pos hk, if_pos (by omega), if_pos (by simp; omega)]
   obtain ⟨a, ha⟩ : ∃ a : Nat, (rd_T59 ns (i : Int)).f5 = (a : Int) := ⟨(rd_T59 ns (i : Int)).f5.toNat, by omega⟩
   obtain ⟨b, hbb⟩ : ∃ b : Nat, (rd_T59 ns (i : Int)).f6 = (b : Int) := ⟨(rd_T59 ns (i : Int)).f6.toNat, by omega⟩
   rw [ha] at e1 z1 z2 ⊢;rw [hbb] at e1 z3 z4 ⊢;simp only [Option.bind_some, Int.toNat_natCast] at e1 ⊢
   have w1 : wrap64 (parF ns i a + 1) = parF ns i a + 1 := by have := hb a; unfold wrap64; omega
   rw [rd_map _ _ _ (by omega), w1, set_bump _ _ _ (by omega), if_pos (by omega), if_pos (by simp; omega), rd_map _ _ _ (by omega)]
   have w2 : wrap64 (bump (parF ns i) a b + 1) = bump (parF ns i) a b + 1 := by have := bump_bd hb a b; unfold wrap64; omega
   rw [w2, set_bump _ _ _ (by omega), ← e1, wrap_nat1 (by omega)]
  ·have e1 : parF ns (i + 1) = parF ns i := if_neg hk
   refine Ev.step (fun k => ?_) H
   rw [gangsawref24_parts.l0, if_pos (by omega), if_pos (by omega), if_neg hk, e1, wrap_nat1 (by omega)]
theorem parts_ev (ns : List S59) (hl : ns.length ≤ 1024) (hA : ∀ j, j < ns.length → nodeErr ns j = 0) : Ev (fun k => gangsawref24_parts.f k ns) (parL ns) := by
 refine Ev.congr (fun k => ?_) (parts_l0 ns hl hA ns.length 0 (by omega) (by omega))
 unfold gangsawref24_parts.f
 rw [if_pos (by omega), if_pos (by simp; omega)]
 have : List.replicate ((ns.length : Int).toNat) (0 : Int) = (List.range ns.length).map (parF ns 0) := by
  apply List.ext_getElem
  ·simp
  ·intro j h1 h2; simp [parF]
 rw [this];rfl
theorem parL_len (ns : List S59) : (parL ns).length = ns.length := by simp [parL]
theorem parL_rd (ns : List S59) (i : Nat) (h : i < ns.length) : rd (parL ns) (i : Int) = parF ns ns.length i := rd_map _ _ _ h
theorem drop1_any (ns : List S59) (j : Nat) (h1 : 1 ≤ j) (h2 : j < ns.length) (h : parF ns ns.length j = 0) : ((parL ns).drop 1).any (· == 0) = true := by
 refine List.any_eq_true.2 ⟨0, ?_, rfl⟩
 refine List.mem_iff_getElem?.2 ⟨j - 1, ?_⟩
 rw [List.getElem?_drop, show 1 + (j - 1) = j by omega]
 unfold parL
 simp [h2, h]
theorem form_l2 (ns : List S59) (hl : ns.length ≤ 1024) : ∀ (d i : Nat), ns.length - i = d → 1 ≤ i → (∀ j, 1 ≤ j → j < i → j < ns.length → parF ns ns.length j ≠ 0) →
  Ev (fun k => gangsawref24_form.l2 k ns (parL ns) (i : Int)) (if ((parL ns).drop 1).any (· == 0) = true then 1 else 0) := by
 intro d
 induction d with
 | zero =>
  intro i hd hi hA
  refine Ev.step (f := fun _ => some _) (fun k => ?_) (Ev.now _)
  rw [gangsawref24_form.l2, if_neg (by omega)];rw [if_neg];intro hc;obtain ⟨x, hx, h0⟩ := List.any_eq_true.1 hc;obtain ⟨j, hj⟩ := List.mem_iff_getElem?.1 hx;rw [List.getElem?_drop] at hj
  have hlt : 1 + j < ns.length := by
   have := (List.getElem?_eq_some_iff.1 hj).1
   rw [parL_len] at this; exact this
  unfold parL at hj
  simp [hlt] at hj
  exact hA (1 + j) (by omega) (by omega) hlt (by rw [hj]; simpa using h0)
 | succ d ih =>
  intro i hd hi hA;by_cases h0 : parF ns ns.length i = 0
  ·refine Ev.step (f := fun _ => some _) (fun k => ?_) (Ev.now _)
   rw [gangsawref24_form.l2, if_pos (by omega), if_pos (by omega), if_pos (by rw [parL_len]; omega), parL_rd _ _ (by omega), if_pos h0, if_pos (drop1_any ns i hi (by omega) h0)]
  ·refine Ev.step (fun k => ?_) (ih (i + 1) (by omega) (by omega) (fun j h1 h2 h3 => by
    by_cases e : j = i
    ·subst e; exact h0
    ·exact hA j h1 (by omega) h3))
   rw [gangsawref24_form.l2, if_pos (by omega), if_pos (by omega), if_pos (by rw [parL_len]; omega), parL_rd _ _ (by omega), if_neg h0, wrap_nat1 (by omega)]
theorem form_l1 (ns : List S59) (hl : ns.length ≤ 1024) (h0 : 0 < ns.length) : ∀ (d i : Nat), ns.length - i = d → (∀ j, j < i → j < ns.length → parF ns ns.length j ≤ 1) →
  Ev (fun k => gangsawref24_form.l1 k ns (parL ns) (i : Int)) (if (parL ns).any (fun n => decide (1 < n)) = true then 5 else if ((parL ns).drop 1).any (· == 0) = true then 1 else 0) := by
 intro d
 induction d with
 | zero =>
  intro i hd hA
  have hno : (parL ns).any (fun n => decide (1 < n)) = false := by
   rw [Bool.eq_false_iff];intro hc;obtain ⟨x, hx, h1⟩ := List.any_eq_true.1 hc
   unfold parL at hx
   obtain ⟨j, hj, rfl⟩ := List.mem_map.1 hx;have hj2 := List.mem_range.1 hj;have := hA j (by omega) hj2
   simp at h1
   omega
  rw [hno, if_neg (by decide)]
  refine Ev.step (fun k => ?_) (form_l2 ns hl (ns.length - 1) 1 rfl (by omega) (fun j h1 h2 => by omega))
  rw [gangsawref24_form.l1, if_neg (by omega)];rfl
 | succ d ih =>
  intro i hd hA;by_cases h1 : 1 < parF ns ns.length i
  ·have hyes : (parL ns).any (fun n => decide (1 < n)) = true := List.any_eq_true.2 ⟨_, List.mem_map_of_mem (List.mem_range.2 (show i < ns.length by omega)), by simpa using h1⟩;rw [if_pos hyes]
   refine Ev.step (f := fun _ => some _) (fun k => ?_) (Ev.now _)
   rw [gangsawref24_form.l1, if_pos (by omega), if_pos (by omega), if_pos (by rw [parL_len]; omega), parL_rd _ _ (by omega), if_pos h1]
  ·refine Ev.step (fun k => ?_) (ih (i + 1) (by omega) (fun j h2 h3 => by
    by_cases e : j = i
    ·subst e; omega
    ·exact hA j (by omega) h3))
   rw [gangsawref24_form.l1, if_pos (by omega), if_pos (by omega), if_pos (by rw [parL_len]; omega), parL_rd _ _ (by omega), if_neg h1, wrap_nat1 (by omega)]
theorem form_l0 (ns : List S59) (hl : ns.length ≤ 1024) (h0 : 0 < ns.length) (hs : ∀ x ∈ ns, x.f1.size ≤ 9223372036854775807) : ∀ (d i : Nat), ns.length - i = d → i ≤ ns.length → (∀ j, j < i → nodeErr ns j = 0) →
  Ev (fun k => gangsawref24_form.l0 k ns (i : Int)) (shapeR ns) := by
 have hsh : shapeR ns = if firstErr ns = 0 then (if (parL ns).any (fun n => decide (1 < n)) = true then 5 else if ((parL ns).drop 1).any (· == 0) = true then 1 else 0) else firstErr ns := by unfold shapeR; rw [if_neg (by omega)]
 intro d
 induction d with
 | zero =>
  intro i hd hi hA
  obtain rfl : i = ns.length := by omega
  rw [hsh, if_pos (firstErr_zero ns hA)]
  refine Ev.step (f := fun k => (gangsawref24_parts.f k ns).bind fun t => gangsawref24_form.l1 k ns t 0) (fun k => ?_) (Ev.bind (parts_ev ns hl hA) (form_l1 ns hl h0 ns.length 0 (by omega) (fun j h => absurd h (Nat.not_lt_zero _))))
  rw [gangsawref24_form.l0, if_neg (by omega)]
 | succ d ih =>
  intro i hd hi hA;have hn := node_ev ns i (by omega) (by unfold rd_T59; rw [List.getD_eq_getElem?_getD]; simp only [Int.toNat_natCast]; rw [List.getElem?_eq_getElem (by omega)]; exact hs _ (List.getElem_mem _))
  refine Ev.step (f := fun k => (gangsawref24_node.f k ns (i : Int)).bind fun t => if t = 0 then gangsawref24_form.l0 k ns (wrap64 ((i : Int) + 1)) else some t) (fun k => by rw [gangsawref24_form.l0, if_pos (by omega)]) (Ev.bind hn ?_)
  by_cases he : nodeErr ns i = 0
  ·refine Ev.congr (fun k => by rw [if_pos he, wrap_nat1 (by omega)]) (ih (i + 1) (by omega) (by omega) (fun j h => by
    by_cases e : j = i
    ·subst e; exact he
    ·exact hA j (by omega)))
  (have hf := firstErr_at ns i (by omega) hA he;rw [hsh, hf, if_neg he];exact Ev.congr (fun k => by rw [if_neg he]) (Ev.now _))
theorem form_ev (ns : List S59) (hs : ∀ x ∈ ns, x.f1.size ≤ 9223372036854775807) : Ev (fun k => gangsawref24_form.f k ns) (if ns.length = 0 then 1 else shapeR ns) := by
 by_cases h0 : ns.length = 0
 (rw [if_pos h0];exact Ev.congr (fun k => by unfold gangsawref24_form.f; rw [if_pos (by omega)]) (Ev.now _))
 ·rw [if_neg h0];by_cases h1 : 1024 < ns.length
  ·have : shapeR ns = 7 := by unfold shapeR; rw [if_pos h1]
   rw [this];exact Ev.congr (fun k => by unfold gangsawref24_form.f; rw [if_neg (by omega), if_pos (by omega)]) (Ev.now _)
  (exact Ev.congr (fun k => by unfold gangsawref24_form.f; rw [if_neg (by omega), if_neg (by omega)]; rfl) (form_l0 ns (by omega) (by omega) hs ns.length 0 (by omega) (by omega) (fun j h => absurd h (Nat.not_lt_zero _))))
theorem with_ev (v : S34) (ax n : Int) : gangsawref24_with.f v.f0 v.f1 v.f2 ax n = some ((vset v ax n).f0, (vset v ax n).f1, (vset v ax n).f2) := by
 unfold gangsawref24_with.f vset
 by_cases h0 : ax = 0
 (rw [if_pos h0, if_pos h0])
 ·rw [if_neg h0, if_neg h0];by_cases h1 : ax = 1
  (rw [if_pos h1, if_pos h1]);(rw [if_neg h1, if_neg h1])
theorem coord_ev (v : S34) (ax : Int) : gangsawref24_coordinate.f v.f0 v.f1 v.f2 ax = some (vget v ax) := by
 unfold gangsawref24_coordinate.f vget
 by_cases h0 : ax = 0
 (rw [if_pos h0, if_pos h0])
 ·rw [if_neg h0, if_neg h0];by_cases h1 : ax = 1
  (rw [if_pos h1, if_pos h1]);(rw [if_neg h1, if_neg h1])
theorem size_ev (v : S34) : gangsawref24_Size.f v.f0 v.f1 v.f2 = some (sizedB v) := by
 have h : ∀ n, gangsawref24_sized.f n = some (cooB n) := by
  intro n
  unfold gangsawref24_sized.f cooB
  by_cases h : n ≥ 1
  ·have h2 : 1 ≤ n := h
   rw [if_pos h]; simp [h2]
  ·have h2 : ¬ 1 ≤ n := h
   rw [if_neg h]; simp [h2]
 unfold gangsawref24_Size.f sizedB
 rw [h, h, h]
 cases cooB v.f0 <;> cases cooB v.f1 <;> simp
theorem walk_ev (ns : List S59) (hg : GoodN ns) : ∀ (d : Nat) (s : S107) (out : List S107), 0 ≤ s.f0 → s.f0 < (ns.length : Int) → (ns.length : Int) - s.f0 ≤ (d : Int) → (out ++ stepsK ns d s).length ≤ 2199023255552 →
  Ev (fun k => gangsawref24_walk.f k out ns s.f0 s.f1.f0.f0 s.f1.f0.f1 s.f1.f0.f2 s.f1.f1.f0 s.f1.f1.f1 s.f1.f1.f2 s.f2) (out ++ stepsK ns d s) := by
 intro d
 induction d with
 | zero => intro s out h0 h1 h2; omega
 | succ d ih =>
  intro s out h0 h1 h2 h3;rw [stepsK] at h3 ⊢
  have hlen : out.length < 2199023255552 := by rw [List.length_append, List.length_cons] at h3; omega
  by_cases hk : (rd_T59 ns s.f0).f0 = 3
  ·rw [if_pos hk] at h3 ⊢;obtain ⟨⟨g1, g2⟩, g3, g4⟩ := hg _ h0 h1 hk
   have H1 := ih ⟨(rd_T59 ns s.f0).f5, divL (rd_T59 ns s.f0) s.f1, wrap64 (s.f2 + 1)⟩ (out ++ [s]) (by show 0 ≤ (rd_T59 ns s.f0).f5; omega) g2 (by show (ns.length : Int) - (rd_T59 ns s.f0).f5 ≤ d; omega) (by
    simp only [List.length_append, List.length_cons, List.length_nil] at h3 ⊢; omega)
   have H2 := ih ⟨(rd_T59 ns s.f0).f6, divR (rd_T59 ns s.f0) s.f1, wrap64 (s.f2 + 1)⟩ (out ++ [s] ++ stepsK ns d ⟨(rd_T59 ns s.f0).f5, divL (rd_T59 ns s.f0) s.f1, wrap64 (s.f2 + 1)⟩) (by show 0 ≤ (rd_T59 ns s.f0).f6; omega) g4 (by show (ns.length : Int) - (rd_T59 ns s.f0).f6 ≤ d; omega) (by
    simp only [List.length_append, List.length_cons, List.length_nil] at h3 ⊢; omega)
   have e : out ++ s :: (stepsK ns d ⟨(rd_T59 ns s.f0).f5, divL (rd_T59 ns s.f0) s.f1, wrap64 (s.f2 + 1)⟩ ++ stepsK ns d ⟨(rd_T59 ns s.f0).f6, divR (rd_T59 ns s.f0) s.f1, wrap64 (s.f2 + 1)⟩) = out ++ [s] ++ stepsK ns d ⟨(rd_T59 ns s.f0).f5, divL (rd_T59 ns s.f0) s.f1, wrap64 (s.f2 + 1)⟩ ++ stepsK ns d ⟨(rd_T59 ns s.f0).f6, divR (rd_T59 ns s.f0) s.f1, wrap64 (s.f2 + 1)⟩ := by simp
   rw [e]
   refine Ev.step (fun k => ?_) (Ev.bind (f := fun k t => (gangsawref24_walk.f k t ns (rd_T59 ns s.f0).f6 (divR (rd_T59 ns s.f0) s.f1).f0.f0 (divR (rd_T59 ns s.f0) s.f1).f0.f1 (divR (rd_T59 ns s.f0) s.f1).f0.f2 (divR (rd_T59 ns s.f0) s.f1).f1.f0 (divR (rd_T59 ns s.f0) s.f1).f1.f1 (divR (rd_T59 ns s.f0) s.f1).f1.f2 (wrap64 (s.f2 + 1))).bind some) H1 (Ev.bind H2 (Ev.now _)))
   rw [gangsawref24_walk.f, if_pos hlen];simp only [Option.bind_some];rw [if_pos h0, if_pos h1, if_pos hk, with_ev, with_ev];rfl
  ·rw [if_neg hk] at h3 ⊢
   refine Ev.step (f := fun _ => some _) (fun k => ?_) (Ev.now _)
   rw [gangsawref24_walk.f, if_pos hlen];simp only [Option.bind_some];rw [if_pos h0, if_pos h1, if_neg hk]
theorem Walk_ev (ns : List S59) (hs : Shaped ns) (h0 : 0 < ns.length) (v : S34) : Ev (fun k => gangsawref24_Walk.f k v.f0 v.f1 v.f2 ns) (walkS ns v) := by
 have hl := walk_len hs h0 v;have hle := hs.le
 have H := walk_ev ns hs.good ns.length (root v) [] (by show (0 : Int) ≤ 0; omega) (by show (0 : Int) < _; omega) (by show (ns.length : Int) - 0 ≤ _; omega) (by
  show (walkS ns v).length ≤ _; omega)
 refine Ev.congr (fun k => rfl) (?_ : Ev (fun k => (gangsawref24_walk.f k [] ns 0 0 0 0 v.f0 v.f1 v.f2 0).bind fun t => some t) (walkS ns v))
 exact Ev.bind H (Ev.now _)
theorem walk_in_rng {ns : List S59} (hs : Shaped ns) (h0 : 0 < ns.length) (v : S34) : ∀ s ∈ walkS ns v, 0 ≤ s.f0 ∧ s.f0 < (ns.length : Int) := by
 have hg := hs.good
 have key : ∀ (d : Nat) (s : S107), 0 ≤ s.f0 → s.f0 < (ns.length : Int) → ∀ x ∈ stepsK ns d s, 0 ≤ x.f0 ∧ x.f0 < (ns.length : Int) := by
  intro d
  induction d with
  | zero => intro s _ _ x hx; cases hx
  | succ d ih =>
   intro s h0 h1 x hx;rw [stepsK] at hx
   rcases List.mem_cons.1 hx with rfl | hx
   (exact ⟨h0, h1⟩)
   ·by_cases hk : (rd_T59 ns s.f0).f0 = 3
    ·rw [if_pos hk] at hx;obtain ⟨⟨g1, g2⟩, g3, g4⟩ := hg _ h0 h1 hk
     rcases List.mem_append.1 hx with hx | hx
     (exact ih _ (by show 0 ≤ (rd_T59 ns s.f0).f5; omega) g2 x hx);(exact ih _ (by show 0 ≤ (rd_T59 ns s.f0).f6; omega) g4 x hx)
    ·rw [if_neg hk] at hx; cases hx
 exact key ns.length (root v) (by show (0 : Int) ≤ 0; omega) (by show (0 : Int) < _; omega)
theorem rd107 (l : List S107) (i : Nat) (h : i < l.length) : rd_T107 l (i : Int) = l[i] := by unfold rd_T107; simp [List.getD, h]
theorem check_l0 (ns : List S59) (st : List S107) (hl : st.length ≤ 1024) (hr : ∀ s ∈ st, 0 ≤ s.f0 ∧ s.f0 < (ns.length : Int)) : ∀ (d i : Nat), st.length - i = d → (∀ j (h : j < st.length), j < i → badS ns st[j] = false) →
  Ev (fun k => gangsawref24_Check.l0 k ns st (i : Int)) (if st.any (badS ns) = true then 12 else 0) := by
 intro d
 induction d with
 | zero =>
  intro i hd hA
  have hno : st.any (badS ns) = false := by
   rw [Bool.eq_false_iff];intro hc;obtain ⟨x, hx, h1⟩ := List.any_eq_true.1 hc;obtain ⟨j, hj, rfl⟩ := List.getElem_of_mem hx
   rw [hA j hj (by omega)] at h1; cases h1
  rw [hno, if_neg (by decide)]
  refine Ev.step (f := fun _ => some _) (fun k => ?_) (Ev.now _)
  rw [gangsawref24_Check.l0, if_neg (by omega)]
 | succ d ih =>
  intro i hd hA
  have hi : i < st.length := by omega
  obtain ⟨h0, h1⟩ := hr _ (List.getElem_mem hi)
  have H := fun h : badS ns st[i] = false => ih (i + 1) (by omega) (fun j hj h2 => by
   by_cases e : j = i
   ·subst e; exact h
   ·exact hA j hj (by omega))
  have hb : badS ns st[i] = ((rd_T59 ns st[i].f0).f0 == 3 && (decide ((rd_T59 ns st[i].f0).f3 ≤ vget st[i].f1.f0 (rd_T59 ns st[i].f0).f2) || decide (wrap64 (vget st[i].f1.f1 (rd_T59 ns st[i].f0).f2 - (rd_T59 ns st[i].f0).f4) ≤ (rd_T59 ns st[i].f0).f3))) := rfl
  have hyes : badS ns st[i] = true → st.any (badS ns) = true := fun h => List.any_eq_true.2 ⟨_, List.getElem_mem hi, h⟩
  by_cases hk : (rd_T59 ns st[i].f0).f0 = 3
  ·by_cases c1 : (rd_T59 ns st[i].f0).f3 ≤ vget st[i].f1.f0 (rd_T59 ns st[i].f0).f2
   ·rw [if_pos (hyes (by rw [hb]; simp [hk, c1]))]
    refine Ev.step (f := fun _ => some _) (fun k => ?_) (Ev.now _)
    rw [gangsawref24_Check.l0, if_pos (by omega), if_pos (by omega), rd107 _ _ hi, if_pos h0, if_pos h1, if_pos hk, coord_ev, Option.bind_some, if_pos c1]
   ·by_cases c2 : wrap64 (vget st[i].f1.f1 (rd_T59 ns st[i].f0).f2 - (rd_T59 ns st[i].f0).f4) ≤ (rd_T59 ns st[i].f0).f3
    ·rw [if_pos (hyes (by rw [hb]; simp [hk, c2]))]
     refine Ev.step (f := fun _ => some _) (fun k => ?_) (Ev.now _)
     rw [gangsawref24_Check.l0, if_pos (by omega), if_pos (by omega), rd107 _ _ hi, if_pos h0, if_pos h1, if_pos hk, coord_ev, Option.bind_some, if_neg c1, coord_ev, Option.bind_some, if_pos c2]
    ·refine Ev.step (fun k => ?_) (H (by rw [hb]; simp [c1, c2]))
     rw [gangsawref24_Check.l0, if_pos (by omega), if_pos (by omega), rd107 _ _ hi, if_pos h0, if_pos h1, if_pos hk, coord_ev, Option.bind_some, if_neg c1, coord_ev, Option.bind_some, if_neg c2, wrap_nat1 (by omega)]
  ·refine Ev.step (fun k => ?_) (H (by rw [hb]; simp [hk]))
   rw [gangsawref24_Check.l0, if_pos (by omega), if_pos (by omega), rd107 _ _ hi, if_pos h0, if_pos h1, if_neg hk, wrap_nat1 (by omega)]
theorem gCheck_ev (ns : List S59) (v : S34) (hs : ∀ x ∈ ns, x.f1.size ≤ 9223372036854775807) : Ev (fun k => gangsawref24_Check.f k v.f0 v.f1 v.f2 ns) (gCheckR ns v) := by
 unfold gCheckR
 cases hz : sizedB v
 (rw [if_neg (by decide)];exact Ev.congr (fun k => by unfold gangsawref24_Check.f; rw [size_ev, hz, Option.bind_some, if_neg (by decide)]) (Ev.now _))
 ·rw [if_pos rfl]
  refine Ev.congr (fun k => by unfold gangsawref24_Check.f; rw [size_ev, hz, Option.bind_some, if_pos rfl]) (?_ : Ev (fun k => (gangsawref24_form.f k ns).bind fun t => if t = 0 then (gangsawref24_Walk.f k v.f0 v.f1 v.f2 ns).bind fun u => gangsawref24_Check.l0 k ns u 0 else some t) _)
  refine Ev.bind (form_ev ns hs) ?_
  by_cases h0 : ns.length = 0
  (rw [if_pos h0];exact Ev.congr (fun k => by rw [if_pos h0, if_neg (by decide)]) (Ev.now _))
  ·rw [if_neg h0, if_neg h0];by_cases hq : shapeR ns = 0
   ·rw [if_pos hq];have hsh := shaped_of hq;have hl := walk_len hsh (by omega) v;have hle := hsh.le
    refine Ev.congr (fun k => if_pos hq) (Ev.bind (f := fun k u => gangsawref24_Check.l0 k ns u 0) (Walk_ev ns hsh (by omega) v) ?_)
    exact check_l0 ns (walkS ns v) (by omega) (walk_in_rng hsh (by omega) v) (walkS ns v).length 0 (by omega) (fun j _ h => absurd h (Nat.not_lt_zero _))
   (rw [if_neg hq];exact Ev.congr (fun k => if_neg hq) (Ev.now _))
end Go.Proofs.Ytdnjagfbhppmbaa.Pure
