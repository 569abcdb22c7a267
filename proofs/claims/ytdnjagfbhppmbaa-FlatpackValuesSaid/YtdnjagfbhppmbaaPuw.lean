import Derived.Test.YtdnjagfbhppmbaaGy
import Derived.Test.YtdnjagfbhppmbaaPAx19
import Derived.Test.YtdnjagfbhppmbaaPAx226
import Derived.Test.YtdnjagfbhppmbaaPub
import Derived.Test.YtdnjagfbhppmbaaPuv
import Derived.Sort.Walk0
namespace Go.Proofs.Ytdnjagfbhppmbaa.Pure
open Go.RowKit Go.Proofs.Ytdnjagfbhppmbaa Go.Proofs.Ytdnjagfbhppmbaa.PA Go.Proofs.YtdnjagfbhppmbaaW.PrintWords Go.Proofs.YtdnjagfbhppmbaaW.PrintLast Go.Proofs.YtdnjagfbhppmbaaW.PrintMore
set_option linter.unusedVariables false
set_option linter.unusedSimpArgs false
theorem leaves_l0 (ns : List S59) (st : List S107) (hl : st.length ≤ 1024) (hr : ∀ s ∈ st, 0 ≤ s.f0 ∧ s.f0 < (ns.length : Int)) : ∀ (d i : Nat) (out : List S87), st.length - i = d → out.length ≤ i →
  Ev (fun k => gangsawref24_Leaves.l0 k ns out st (i : Int)) (out ++ leavesL ns (st.drop i)) := by
 intro d
 induction d with
 | zero =>
  intro i out hd ho
  refine Ev.step (f := fun _ => some _) (fun k => ?_) (Ev.now _)
  rw [gangsawref24_Leaves.l0, if_neg (by omega), List.drop_eq_nil_of_le (by omega)]
  simp [leavesL]
 | succ d ih =>
  intro i out hd ho
  have hi : i < st.length := by omega
  obtain ⟨h0, h1⟩ := hr _ (List.getElem_mem hi);rw [drop_one st i hi];by_cases hk : (rd_T59 ns st[i].f0).f0 = 3
  ·have e : leavesL ns (st[i] :: st.drop (i + 1)) = leavesL ns (st.drop (i + 1)) := by
    unfold leavesL
    rw [List.filter_cons, if_neg (by unfold isLeaf; simp [hk])]
   rw [e]
   refine Ev.step (fun k => ?_) (ih (i + 1) out (by omega) (by omega))
   rw [gangsawref24_Leaves.l0, if_pos (by omega), if_pos (by omega), rd107 _ _ hi, if_pos h0, if_pos h1, if_pos hk, wrap_nat1 (by omega)]
  ·have e : leavesL ns (st[i] :: st.drop (i + 1)) = leafOf ns st[i] :: leavesL ns (st.drop (i + 1)) := by
    unfold leavesL
    rw [List.filter_cons, if_pos (by unfold isLeaf; simp [hk]), List.map_cons]
   rw [e]
   have e2 : out ++ leafOf ns st[i] :: leavesL ns (st.drop (i + 1)) = (out ++ [leafOf ns st[i]]) ++ leavesL ns (st.drop (i + 1)) := by simp
   rw [e2]
   refine Ev.step (fun k => ?_) (ih (i + 1) (out ++ [leafOf ns st[i]]) (by omega) (by simp; omega))
   rw [gangsawref24_Leaves.l0, if_pos (by omega), if_pos (by omega), rd107 _ _ hi, if_pos h0, if_pos h1, if_neg hk, if_pos (by omega), wrap_nat1 (by omega)];rfl
theorem Leaves_ev (ns : List S59) (v : S34) (h : gCheckR ns v = 0) : Ev (fun k => gangsawref24_Leaves.f k v.f0 v.f1 v.f2 ns) (gLeavesR ns v) := by
 obtain ⟨b1, b2, b3, b4⟩ := gcheck_zero h;have hsh := shaped_of b3;have hl := walk_len hsh b2 v;have hle := hsh.le
 unfold gLeavesR
 rw [if_pos h];have H := leaves_l0 ns (walkS ns v) (by omega) (walk_in_rng hsh b2 v) (walkS ns v).length 0 [] (by omega) (Nat.le_refl _);exact Ev.congr (fun k => rfl) (Ev.bind (f := fun k t => gangsawref24_Leaves.l0 k ns [] t 0) (Walk_ev ns hsh b2 v) H)
theorem names_inj {s t : ByteArray} (h : s.toList = t.toList) : s = t := by
 rw [ByteArray.toList_eq, ByteArray.toList_eq] at h
 cases s with | mk a => cases t with | mk b => simp at h; rw [h]
def isN (s : ByteArray) (x : S36) : Bool := decide (x.f0 = s)
theorem rising {l : List S36} (h : dupB l = false) : ∀ i j, i < j → j < l.length → (l.getD i z36).f0.toList < (l.getD j z36).f0.toList := by
 have h1 : ∀ j, 1 ≤ j → j < l.length → (l.getD (j - 1) z36).f0.toList < (l.getD j z36).f0.toList := by
  intro j a b
  have : dupAt l j = false := by
   cases e : dupAt l j with
   | false => rfl
   | true => rw [dup_of_at a b e] at h; cases h
  unfold dupAt at this
  rw [bytesLess_eq] at this
  simpa using this
 intro i j hij hj
 induction j with
 | zero => omega
 | succ j ih =>
  have h2 := h1 (j + 1) (by omega) hj;rw [Nat.add_sub_cancel] at h2;by_cases e : i = j
  ·subst e; exact h2
  (exact List.lt_trans (ih (by omega) (by omega)) h2)
theorem apart {l : List S36} (h : dupB l = false) (i j : Nat) (hi : i < l.length) (hj : j < l.length) (e : l[i].f0 = l[j].f0) : i = j := by
 have gi : l.getD i z36 = l[i] := by simp [List.getD, hi]
 have gj : l.getD j z36 = l[j] := by simp [List.getD, hj]
 rcases Nat.lt_trichotomy i j with h1 | h1 | h1
 (have := rising h i j h1 hj;rw [gi, gj, e] at this;exact absurd this (List.lt_irrefl _));(exact h1);(have := rising h j i h1 hi;rw [gi, gj, e] at this;exact absurd this (List.lt_irrefl _))
theorem known_at {l : List S36} (h : dupB l = false) (s : ByteArray) (n : Nat) (hn : n < l.length) (e : l[n].f0 = s) : knownR l s = some l[n] := by
 unfold knownR
 cases hf : l.reverse.find? (fun x => decide (x.f0 = s)) with
 | none =>
  rw [List.find?_eq_none] at hf;exact absurd (by simpa using e) (hf l[n] (List.mem_reverse.2 (List.getElem_mem hn)))
 | some y =>
  have hy := List.find?_some hf;have hm := List.mem_reverse.1 (List.mem_of_find?_eq_some hf);obtain ⟨j, hj, rfl⟩ := List.getElem_of_mem hm
  have hy2 : l[j].f0 = s := by simpa using hy
  have := apart h j n hj hn (by rw [hy2, e]);subst this;rfl
theorem known_none {l : List S36} (s : ByteArray) (h : ∀ x ∈ l, isN s x = false) : knownR l s = none := by
 unfold knownR
 rw [List.find?_eq_none];intro x hx;have := h x (List.mem_reverse.1 hx)
 unfold isN at this
 simpa using this
theorem find_l0 (l : List S36) (hl : l.length ≤ 1000) (s : ByteArray) : ∀ (d i : Nat), l.length - i = d → (∀ j (h : j < l.length), j < i → isN s l[j] = false) → Ev (fun k => gangsawref25_find.l0 k l s (i : Int)) (idxOf (isN s) l) := by
 intro d
 induction d with
 | zero =>
  intro i hd hA;rw [idxOf_miss _ _ (fun j h => hA j h (by omega))]
  refine Ev.step (f := fun _ => some _) (fun k => ?_) (Ev.now _)
  rw [gangsawref25_find.l0, if_neg (by omega)]
 | succ d ih =>
  intro i hd hA
  have hi : i < l.length := by omega
  have hx : rd_T36 l (i : Int) = l[i] := by unfold rd_T36; simp [List.getD, hi]
  cases hq : isN s l[i]
  ·refine Ev.step (fun k => ?_) (ih (i + 1) (by omega) (fun j h h2 => by
    by_cases e : j = i
    ·subst e; exact hq
    ·exact hA j h (by omega)))
   have hne : ¬ l[i].f0.toList = s.toList := fun e => by
    rw [show isN s l[i] = true from by unfold isN; simpa using names_inj e] at hq; cases hq
   rw [gangsawref25_find.l0, if_pos (by omega), if_pos (by omega), hx, if_neg hne, wrap_nat1 (by omega)]
  ·rw [idxOf_hit _ _ i hi hq (fun j h h2 => hA j h h2)]
   have he : l[i].f0.toList = s.toList := by
    unfold isN at hq
    have : l[i].f0 = s := by simpa using hq
    rw [this]
   refine Ev.step (f := fun _ => some _) (fun k => ?_) (Ev.now _)
   rw [gangsawref25_find.l0, if_pos (by omega), if_pos (by omega), hx, if_pos he]
theorem find_ev (l : List S36) (hl : l.length ≤ 1000) (s : ByteArray) : Ev (fun k => gangsawref25_find.f k l s) (idxOf (isN s) l) :=
 Ev.congr (fun k => rfl) (find_l0 l hl s l.length 0 (by omega) (fun j _ h => absurd h (Nat.not_lt_zero _)))
theorem find_known {l : List S36} (h : dupB l = false) (s : ByteArray) : (idxOf (isN s) l = -1 ∧ knownR l s = none) ∨ ∃ (n : Nat) (hn : n < l.length), idxOf (isN s) l = n ∧ knownR l s = some l[n] := by
 cases hf : l.findIdx? (isN s) with
 | none =>
  rw [List.findIdx?_eq_none_iff] at hf
  refine .inl ⟨idxOf_miss _ _ (fun j hj => hf _ (List.getElem_mem hj)), known_none s (fun x hx => hf x hx)⟩
 | some n =>
  rw [List.findIdx?_eq_some_iff_getElem] at hf;obtain ⟨hn, hp, hA⟩ := hf
  refine .inr ⟨n, hn, idxOf_hit _ _ n hn hp (fun j hj h2 => by simpa using hA j h2), known_at h s n hn ?_⟩
  unfold isN at hp
  simpa using hp
theorem rd87 (l : List S87) (i : Nat) (h : i < l.length) : rd_T87 l (i : Int) = l[i] := by unfold rd_T87; simp [List.getD, h]
theorem rd59 (l : List S59) (i : Nat) (h : i < l.length) : rd_T59 l (i : Int) = l[i] := by unfold rd_T59; simp [List.getD, h]
theorem value_l2 (l : List S36) (hl : l.length ≤ 1000) (hd : dupB l = false) (L : List S87) (hL : L.length ≤ 1024) (hK : ∀ x ∈ L, x.f0 = 1 → (knownR l x.f1).isSome = true) : ∀ (d i : Nat) (s : Int), L.length - i = d →
  Ev (fun k => gangsawref25_Value.l2 k l L s (i : Int)) (sumR l (L.drop i) s) := by
 intro d
 induction d with
 | zero =>
  intro i s hi;rw [List.drop_eq_nil_of_le (by omega)]
  refine Ev.step (f := fun _ => some _) (fun k => ?_) (Ev.now _)
  rw [gangsawref25_Value.l2, if_neg (by omega)];rfl
 | succ d ih =>
  intro i s hd2
  have hi : i < L.length := by omega
  have hx := rd87 L i hi;have hm := hK _ (List.getElem_mem hi);rw [drop_one L i hi];generalize L[i] = y at hx hm ⊢;by_cases h1 : y.f0 = 1
  ·rcases find_known hd y.f1 with ⟨_, e⟩ | ⟨n, hn, e1, e2⟩
   ·rw [e] at hm; cases hm h1
   ·have hit : itemOf l y.f1 = l[n] := by unfold itemOf; rw [e2]; rfl
    have h36 : rd_T36 l (n : Int) = l[n] := by unfold rd_T36; simp [List.getD, hn]
    have hf := find_ev l hl y.f1;rw [e1] at hf
    have H : ∀ r, Ev (fun k => if wrap64 (y.f2.f1.f0 - y.f2.f0.f0) = l[n].f1.f0 then (if wrap64 (y.f2.f1.f1 - y.f2.f0.f1) = l[n].f1.f1 then gangsawref25_Value.l2 k l L (wrap64 (s + l[n].f2)) (wrap64 ((i : Int) + 1)) else some (0, 10)) else some (0, 10)) r → Ev (fun k => gangsawref25_Value.l2 k l L s (i : Int)) r := by
     intro r hr
     refine Ev.step (f := fun k => (gangsawref25_find.f k l y.f1).bind fun t => if 0 ≤ t then (if t < (l.length : Int) then (if wrap64 (y.f2.f1.f0 - y.f2.f0.f0) = (rd_T36 l t).f1.f0 then (if wrap64 (y.f2.f1.f1 - y.f2.f0.f1) = (rd_T36 l t).f1.f1 then gangsawref25_Value.l2 k l L (wrap64 (s + (rd_T36 l t).f2)) (wrap64 ((i : Int) + 1)) else some (0, 10)) else some (0, 10)) else none) else none) (fun k => ?_) (Ev.bind hf ?_)
     (rw [gangsawref25_Value.l2, if_pos (by omega), if_pos (by omega), hx, if_pos h1]);(exact Ev.congr (fun k => by rw [if_pos (by omega), if_pos (by omega), h36]) hr)
    apply H
    by_cases c1 : wrap64 (y.f2.f1.f0 - y.f2.f0.f0) = (itemOf l y.f1).f1.f0
    ·by_cases c2 : wrap64 (y.f2.f1.f1 - y.f2.f0.f1) = (itemOf l y.f1).f1.f1
     (rw [sumR_step l y _ s h1 c1 c2];rw [hit] at c1 c2 ⊢;exact Ev.congr (fun k => by rw [if_pos c1, if_pos c2, wrap_nat1 (by omega)]) (ih (i + 1) _ (by omega)));(rw [sumR_bad2 l y _ s h1 c1 c2];rw [hit] at c1 c2;exact Ev.congr (fun k => by rw [if_pos c1, if_neg c2]) (Ev.now _))
    (rw [sumR_bad1 l y _ s h1 c1];rw [hit] at c1;exact Ev.congr (fun k => by rw [if_neg c1]) (Ev.now _))
  ·rw [sumR_skip l y _ s h1]
   refine Ev.step (fun k => ?_) (ih (i + 1) s (by omega))
   rw [gangsawref25_Value.l2, if_pos (by omega), if_pos (by omega), hx, if_neg h1, wrap_nat1 (by omega)]
theorem value_l1 (l : List S36) (hl : l.length ≤ 1000) (hd : dupB l = false) (ns : List S59) (v : S34) (hns : ns.length ≤ 1024) (h0 : gCheckR ns v = 0) : ∀ (d i : Nat), ns.length - i = d → (∀ j (h : j < ns.length), j < i → unk l ns[j] = false) →
  Ev (fun k => gangsawref25_Value.l1 k l ns (i : Int) v.f0 v.f1 v.f2) (if ns.any (unk l) = true then (0, 3) else sumR l (gLeavesR ns v) 0) := by
 intro d
 induction d with
 | zero =>
  intro i hi hA
  have hno : ns.any (unk l) = false := by
   rw [Bool.eq_false_iff];intro hc;obtain ⟨x, hx, hu⟩ := List.any_eq_true.1 hc;obtain ⟨j, hj, rfl⟩ := List.getElem_of_mem hx;rw [hA j hj (by omega)] at hu
   cases hu
  rw [hno, if_neg (by decide)];obtain ⟨b1, b2, b3, b4⟩ := gcheck_zero h0;have hsh := shaped_of b3;have hwl := walk_len hsh b2 v
  have hLl : (gLeavesR ns v).length ≤ 1024 := by
   have : (gLeavesR ns v).length ≤ (walkS ns v).length := by
    unfold gLeavesR
    rw [if_pos h0]
    unfold leavesL
    rw [List.length_map];exact List.length_filter_le _ _
   omega
  have hK : ∀ x ∈ gLeavesR ns v, x.f0 = 1 → (knownR l x.f1).isSome = true := by
   intro x hx h1
   unfold gLeavesR at hx
   rw [if_pos h0] at hx
   unfold leavesL at hx
   obtain ⟨s, hs, rfl⟩ := List.mem_map.1 hx;obtain ⟨r0, r1⟩ := walk_in_rng hsh b2 v s (List.mem_filter.1 hs).1
   obtain ⟨j, hj⟩ : ∃ j : Nat, s.f0 = (j : Int) := ⟨s.f0.toNat, by omega⟩
   have hjl : j < ns.length := by omega
   have hu := hA j hjl (by omega)
   have e : rd_T59 ns s.f0 = ns[j] := by rw [hj]; exact rd59 ns j hjl
   change (rd_T59 ns s.f0).f0 = 1 at h1
   show (knownR l (rd_T59 ns s.f0).f1).isSome = true
   rw [e] at h1 ⊢
   unfold unk at hu
   rw [h1] at hu
   simpa using hu
  refine Ev.step (f := fun k => (gangsawref24_Leaves.f k v.f0 v.f1 v.f2 ns).bind fun t => gangsawref25_Value.l2 k l t 0 0) (fun k => by rw [gangsawref25_Value.l1, if_neg (by omega)]) (Ev.bind (Leaves_ev ns v h0) ?_)
  exact value_l2 l hl hd (gLeavesR ns v) hLl hK _ 0 0 rfl
 | succ d ih =>
  intro i hd2 hA
  have hi : i < ns.length := by omega
  have hx := rd59 ns i hi;have hu : unk l ns[i] = (decide (ns[i].f0 = 1) && !(knownR l ns[i].f1).isSome) := rfl
  have H := fun h : unk l ns[i] = false => ih (i + 1) (by omega) (fun j hj h2 => by
   by_cases e : j = i
   ·subst e; exact h
   ·exact hA j hj (by omega))
  by_cases h1 : ns[i].f0 = 1
  ·have hf := find_ev l hl ns[i].f1
   rcases find_known hd ns[i].f1 with ⟨e1, e2⟩ | ⟨n, hn, e1, e2⟩
   ·rw [e1] at hf;rw [if_pos (List.any_eq_true.2 ⟨_, List.getElem_mem hi, by rw [hu, e2]; simp [h1]⟩)]
    refine Ev.step (f := fun k => (gangsawref25_find.f k l ns[i].f1).bind fun t => if t < 0 then some (0, 3) else gangsawref25_Value.l1 k l ns (wrap64 ((i : Int) + 1)) v.f0 v.f1 v.f2) (fun k => ?_) (Ev.bind hf (Ev.congr (fun k => if_pos (by decide)) (Ev.now _)))
    rw [gangsawref25_Value.l1, if_pos (by omega), if_pos (by omega), hx, if_pos h1]
   ·rw [e1] at hf
    refine Ev.step (f := fun k => (gangsawref25_find.f k l ns[i].f1).bind fun t => if t < 0 then some (0, 3) else gangsawref25_Value.l1 k l ns (wrap64 ((i : Int) + 1)) v.f0 v.f1 v.f2) (fun k => ?_) (Ev.bind hf (Ev.congr (fun k => by rw [if_neg (by omega), wrap_nat1 (by omega)]) (H (by rw [hu, e2]; simp))))
    rw [gangsawref25_Value.l1, if_pos (by omega), if_pos (by omega), hx, if_pos h1]
  ·refine Ev.step (fun k => ?_) (H (by rw [hu]; simp [h1]))
   rw [gangsawref25_Value.l1, if_pos (by omega), if_pos (by omega), hx, if_neg h1, wrap_nat1 (by omega)]
theorem value_l0 (l : List S36) (hl : l.length ≤ 1000) (hd : dupB l = false) (kf : Int) (ns : List S59) (v : S34) (hns : ns.length ≤ 1024) (h0 : gCheckR ns v = 0) : ∀ (d i : Nat), ns.length - i = d → (∀ j (h : j < ns.length), j < i → bad42 kf ns[j] = false) →
  Ev (fun k => gangsawref25_Value.l0 k l kf ns (i : Int) v.f0 v.f1 v.f2) (if ns.any (bad42 kf) = true then (0, 10) else if ns.any (unk l) = true then (0, 3) else sumR l (gLeavesR ns v) 0) := by
 intro d
 induction d with
 | zero =>
  intro i hi hA
  have hno : ns.any (bad42 kf) = false := by
   rw [Bool.eq_false_iff];intro hc;obtain ⟨x, hx, hu⟩ := List.any_eq_true.1 hc;obtain ⟨j, hj, rfl⟩ := List.getElem_of_mem hx;rw [hA j hj (by omega)] at hu
   cases hu
  rw [hno, if_neg (by decide)];exact Ev.step (fun k => by rw [gangsawref25_Value.l0, if_neg (by omega)]; rfl) (value_l1 l hl hd ns v hns h0 ns.length 0 (by omega) (fun j _ h => absurd h (Nat.not_lt_zero _)))
 | succ d ih =>
  intro i hd2 hA
  have hi : i < ns.length := by omega
  have hx := rd59 ns i hi;have hu : bad42 kf ns[i] = (decide (ns[i].f0 = 3) && (decide (ns[i].f2 = 2) || !decide (ns[i].f4 = kf))) := rfl
  have H := fun h : bad42 kf ns[i] = false => ih (i + 1) (by omega) (fun j hj h2 => by
   by_cases e : j = i
   ·subst e; exact h
   ·exact hA j hj (by omega))
  have hyes : bad42 kf ns[i] = true → ns.any (bad42 kf) = true := fun h => List.any_eq_true.2 ⟨_, List.getElem_mem hi, h⟩
  by_cases h1 : ns[i].f0 = 3
  ·by_cases h2 : ns[i].f2 = 2
   ·rw [if_pos (hyes (by rw [hu]; simp [h1, h2]))]
    refine Ev.step (f := fun _ => some _) (fun k => ?_) (Ev.now _)
    rw [gangsawref25_Value.l0, if_pos (by omega), if_pos (by omega), hx, if_pos h1, if_pos h2]
   ·by_cases h3 : ns[i].f4 = kf
    ·refine Ev.step (fun k => ?_) (H (by rw [hu]; simp [h2, h3]))
     rw [gangsawref25_Value.l0, if_pos (by omega), if_pos (by omega), hx, if_pos h1, if_neg h2, if_pos h3, wrap_nat1 (by omega)]
    ·rw [if_pos (hyes (by rw [hu]; simp [h1, h3]))]
     refine Ev.step (f := fun _ => some _) (fun k => ?_) (Ev.now _)
     rw [gangsawref25_Value.l0, if_pos (by omega), if_pos (by omega), hx, if_pos h1, if_neg h2, if_neg h3]
  ·refine Ev.step (fun k => ?_) (H (by rw [hu]; simp [h1]))
   rw [gangsawref25_Value.l0, if_pos (by omega), if_pos (by omega), hx, if_neg h1, wrap_nat1 (by omega)]
theorem chk_dup {a0 a1 : Int} {l : List S36} {a3 : Int} (h : checkR a0 a1 l a3 = 0) : dupB l = false := by
 unfold checkR at h
 repeat' split at h
 all_goals first | (exact absurd h (by decide)) | skip
 cases e : dupB l with
 | false => rfl
 | true => rename_i h5; exact absurd e h5
theorem value_ev (a0 a1 : Int) (l : List S36) (a3 : Int) (ns : List S59) (hl : l.length ≤ 1000) (hM : ∀ x ∈ l, x.f0.size ≤ 100) (hs : ∀ x ∈ ns, x.f1.size ≤ 9223372036854775807) : Ev (fun k => gangsawref25_Value.f k a0 a1 l a3 ns) (valueR a0 a1 l a3 ns) := by
 have hc : Ev (fun k => gangsawref25_Check.f k a0 a1 l a3) (checkR a0 a1 l a3) := ⟨4 * l.length + 100 + 9, fun k hk => check_f a0 a1 l a3 hl 100 hM (by omega) k (by omega)⟩
 unfold valueR
 refine Ev.congr (fun k => rfl) (?_ : Ev (fun k => (gangsawref25_Check.f k a0 a1 l a3).bind fun t => if t = 0 then (gangsawref24_Check.f k a0 a1 1 ns).bind fun u => (if u = 0 then gangsawref25_Value.l0 k l a3 ns 0 a0 a1 1 else some (0, u)) else some (0, t)) _)
 refine Ev.bind hc ?_
 by_cases h1 : checkR a0 a1 l a3 = 0
 ·rw [if_pos h1]
  refine Ev.congr (fun k => by rw [if_pos h1]) (Ev.bind (gCheck_ev ns ⟨a0, a1, 1⟩ hs) ?_)
  by_cases h2 : gCheckR ns ⟨a0, a1, 1⟩ = 0
  (rw [if_pos h2];obtain ⟨b1, b2, b3, b4⟩ := gcheck_zero h2;exact Ev.congr (fun k => by rw [if_pos h2]; rfl) (value_l0 l hl (chk_dup h1) a3 ns ⟨a0, a1, 1⟩ (shaped_of b3).le h2 ns.length 0 (by omega) (fun j _ h => absurd h (Nat.not_lt_zero _))));(rw [if_neg h2];exact Ev.congr (fun k => by rw [if_neg h2]) (Ev.now _))
 (rw [if_neg h1];exact Ev.congr (fun k => by rw [if_neg h1]) (Ev.now _))
theorem few24_l0 (t : List S59) (ht : t.length ≤ 2000) : ∀ (d i : Nat), t.length - i = d → ∃ b, Ev (fun k => gangsawref24_Few.l0 k t (i : Int)) b := by
 intro d
 induction d with
 | zero =>
  intro i hd;exact ⟨true, Ev.step (f := fun _ => some true) (fun k => by rw [gangsawref24_Few.l0, if_neg (by omega)]) (Ev.now _)⟩
 | succ d ih =>
  intro i hd;by_cases h : (((rd_T59 t (i : Int)).f1).size : Int) > 60
  (exact ⟨false, Ev.step (f := fun _ => some false) (fun k => by rw [gangsawref24_Few.l0, if_pos (by omega), if_pos (by omega), if_pos h]) (Ev.now _)⟩);(obtain ⟨b, hb⟩ := ih (i + 1) (by omega);exact ⟨b, Ev.step (fun k => by rw [gangsawref24_Few.l0, if_pos (by omega), if_pos (by omega), if_neg h, wrap_nat1 (by omega)]) hb⟩)
theorem few24_f (t : List S59) : ∃ b, Ev (fun k => gangsawref24_Few.f k t) b := by
 have yes : Ev (fun k => gangsawref24_Few.j0 k t true) false := Ev.step (f := fun _ => some false) (fun k => by rw [gangsawref24_Few.j0, if_pos rfl]) (Ev.now _)
 have no : t.length ≤ 2000 → ∃ b, Ev (fun k => gangsawref24_Few.j0 k t false) b := by
  intro h;obtain ⟨b, hb⟩ := few24_l0 t h t.length 0 (by omega);exact ⟨b, Ev.step (fun k => by rw [gangsawref24_Few.j0, if_neg (by decide)]; rfl) hb⟩
 by_cases h1 : (t.length : Int) > 60
 ·by_cases h2 : (t.length : Int) ≤ 1024
  (exact ⟨false, Ev.congr (fun k => by unfold gangsawref24_Few.f; rw [if_pos h1, if_pos h2]) yes⟩)
  ·by_cases h3 : (t.length : Int) > 1034
   (exact ⟨false, Ev.congr (fun k => by unfold gangsawref24_Few.f; rw [if_pos h1, if_neg h2, decide_eq_true h3]) yes⟩);(obtain ⟨b, hb⟩ := no (by omega);exact ⟨b, Ev.congr (fun k => by unfold gangsawref24_Few.f; rw [if_pos h1, if_neg h2, decide_eq_false h3]) hb⟩)
 (obtain ⟨b, hb⟩ := no (by omega);exact ⟨b, Ev.congr (fun k => by unfold gangsawref24_Few.f; rw [if_neg h1, decide_eq_false (by omega)]) hb⟩)
end Go.Proofs.Ytdnjagfbhppmbaa.Pure
