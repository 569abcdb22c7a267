import Derived.Test.YtdnjagfbhppmbaaGr
import Derived.Test.YtdnjagfbhppmbaaGv
namespace Go.Proofs.Ytdnjagfbhppmbaa.PA
open Go.RowKit Go.Shelf Go.Proofs.YtdnjagfbhppmbaaW.PrintWords Go.Proofs.YtdnjagfbhppmbaaW.PrintLast Go.Proofs.YtdnjagfbhppmbaaW.PrintMore
set_option linter.unusedVariables false
set_option linter.unusedSimpArgs false
theorem firstErr_all (ns : List S59) (h : firstErr ns = 0) : ∀ j, j < ns.length → nodeErr ns j = 0 := by
 unfold firstErr at h
 have h2 : ∀ l : List Int, l.foldr (fun e r => if e = 0 then r else e) 0 = 0 → ∀ e ∈ l, e = 0 := by
  intro l
  induction l with
  | nil => intro _ e he; cases he
  | cons a t ih =>
   intro h e he;rw [List.foldr_cons] at h;by_cases ha : a = 0
   ·rw [if_pos ha] at h
    rcases List.mem_cons.1 he with rfl | he
    (exact ha);(exact ih h e he)
   ·rw [if_neg ha] at h; exact absurd h ha
 intro j hj;exact h2 _ h _ (List.mem_map_of_mem (List.mem_range.2 hj))
structure Shaped (ns : List S59) : Prop where
 le : ns.length ≤ 1024
 err : ∀ j, j < ns.length → nodeErr ns j = 0
 one : ∀ x, x < ns.length → parF ns ns.length x ≤ 1
 nz : ∀ x, 1 ≤ x → x < ns.length → parF ns ns.length x ≠ 0
theorem shaped_of {ns : List S59} (h : shapeR ns = 0) : Shaped ns := by
 unfold shapeR at h
 by_cases h1 : 1024 < ns.length
 ·rw [if_pos h1] at h; cases h
 ·rw [if_neg h1] at h;by_cases h2 : firstErr ns = 0
  ·rw [if_pos h2] at h;by_cases h3 : (parL ns).any (fun n => decide (1 < n)) = true
   ·rw [if_pos h3] at h; cases h
   ·rw [if_neg h3] at h;by_cases h4 : ((parL ns).drop 1).any (· == 0) = true
    ·rw [if_pos h4] at h; cases h
    ·refine ⟨by omega, firstErr_all ns h2, fun x hx => ?_, fun x h1x hx e => ?_⟩
     ·refine Int.not_lt.1 (fun hc => h3 (List.any_eq_true.2 ⟨parF ns ns.length x, ?_, by simpa using hc⟩))
      exact List.mem_map_of_mem (List.mem_range.2 hx)
     ·refine h4 (List.any_eq_true.2 ⟨parF ns ns.length x, ?_, by simpa using e⟩)
      refine List.mem_iff_getElem?.2 ⟨x - 1, ?_⟩
      rw [List.getElem?_drop, show 1 + (x - 1) = x by omega]
      unfold parL
      simp [hx]
  ·rw [if_neg h2] at h; exact absurd h h2
theorem Shaped.good {ns : List S59} (h : Shaped ns) : GoodN ns := by
 intro i h0 h1 hk
 obtain ⟨j, rfl⟩ : ∃ j : Nat, i = (j : Int) := ⟨i.toNat, by omega⟩
 exact nodeErr_cut ns j (h.err j (by omega)) hk
def kids (ns : List S59) (p : Nat) : List Nat := if (rd_T59 ns (p : Int)).f0 = 3 then [(rd_T59 ns (p : Int)).f5.toNat, (rd_T59 ns (p : Int)).f6.toNat] else []
theorem bump2 (f : Nat → Int) (a b x : Nat) : bump (bump f a) b x = f x + (([a, b].count x : Nat) : Int) := by
 rw [List.count_cons, List.count_cons, List.count_nil]
 unfold bump
 by_cases h1 : x = b
 ·subst h1;by_cases h2 : x = a
  ·subst h2; simp; omega
  ·have h3 : ¬ a = x := fun e => h2 e.symm
   simp [h2, h3]
 ·have h1' : ¬ b = x := fun e => h1 e.symm
  by_cases h2 : x = a
  ·subst h2; simp [h1, h1']
  ·have h3 : ¬ a = x := fun e => h2 e.symm
   simp [h1, h1', h2, h3]
theorem par_sum (ns : List S59) (x : Nat) : ∀ n, parF ns n x = ((((List.range n).map (fun p => (kids ns p).count x)).sum : Nat) : Int)
 | 0 => by simp [parF]
 | n + 1 => by
  rw [List.range_succ, List.map_append, List.sum_append, Int.natCast_add, ← par_sum ns x n, parF]
  unfold kids
  by_cases hk : (rd_T59 ns (n : Int)).f0 = 3
  ·rw [if_pos hk, bump2]
   simp [hk]
  ·rw [if_neg hk]
   simp [hk]
theorem mem_le_sum {x : Nat} : ∀ {l : List Nat}, x ∈ l → x ≤ l.sum
 | a :: t, h => by
  rw [List.sum_cons]
  rcases List.mem_cons.1 h with rfl | h
  ·omega
  ·have := mem_le_sum h; omega
theorem sum_one (g : Nat → Nat) : ∀ n, ((List.range n).map g).sum ≤ 1 → (∀ p, p < n → g p ≤ 1) ∧ ∀ p q, p < n → q < n → 1 ≤ g p → 1 ≤ g q → p = q
 | 0, _ => ⟨fun p h => absurd h (Nat.not_lt_zero _), fun p q h => absurd h (Nat.not_lt_zero _)⟩
 | n + 1, h => by
  rw [List.range_succ, List.map_append, List.sum_append] at h;simp only [List.map_cons, List.map_nil, List.sum_cons, List.sum_nil, Nat.add_zero] at h;obtain ⟨h1, h2⟩ := sum_one g n (by omega)
  have h0 : ∀ p, p < n → 1 ≤ g n → g p = 0 := by
   intro p hp hn
   have : g p ≤ ((List.range n).map g).sum := by
    have hm : g p ∈ (List.range n).map g := List.mem_map_of_mem (List.mem_range.2 hp);exact mem_le_sum hm
   omega
  refine ⟨fun p hp => ?_, fun p q hp hq h3 h4 => ?_⟩
  ·by_cases e : p = n
   ·subst e; omega
   (exact h1 p (by omega))
  ·by_cases e : p = n
   ·by_cases e2 : q = n
    ·omega
    ·subst e;have := h0 q (by omega) h3
     omega
   ·by_cases e2 : q = n
    ·subst e2;have := h0 p (by omega) h4
     omega
    (exact h2 p q (by omega) (by omega) h3 h4)
def ix (ns : List S59) : Nat → Nat → List Nat
 | 0, _ => []
 | k + 1, i => i :: (kids ns i).flatMap (ix ns k)
theorem steps_ix {ns : List S59} (hg : GoodN ns) : ∀ (k : Nat) (s : S107), 0 ≤ s.f0 → s.f0 < (ns.length : Int) → (stepsK ns k s).map (·.f0.toNat) = ix ns k s.f0.toNat
 | 0, s, _, _ => rfl
 | k + 1, s, h0, h1 => by
  rw [stepsK, ix, List.map_cons]
  congr 1
  unfold kids
  have e : ((s.f0.toNat : Nat) : Int) = s.f0 := by omega
  rw [e];by_cases hk : (rd_T59 ns s.f0).f0 = 3
  ·rw [if_pos hk, if_pos hk];obtain ⟨⟨g1, g2⟩, g3, g4⟩ := hg _ h0 h1 hk;rw [List.map_append, steps_ix hg k ⟨_, _, _⟩ (by show 0 ≤ (rd_T59 ns s.f0).f5; omega) g2, steps_ix hg k ⟨_, _, _⟩ (by show 0 ≤ (rd_T59 ns s.f0).f6; omega) g4]
   simp
  ·rw [if_neg hk, if_neg hk]; rfl
theorem kids_in {ns : List S59} (hg : GoodN ns) {p x : Nat} (hp : p < ns.length) (h : x ∈ kids ns p) : p < x ∧ x < ns.length := by
 unfold kids at h
 by_cases hk : (rd_T59 ns (p : Int)).f0 = 3
 ·rw [if_pos hk] at h;obtain ⟨⟨g1, g2⟩, g3, g4⟩ := hg p (by omega) (by omega) hk
  simp at h
  omega
 ·rw [if_neg hk] at h; cases h
theorem ix_in {ns : List S59} (hg : GoodN ns) : ∀ (k i : Nat), i < ns.length → ∀ x ∈ ix ns k i, i ≤ x ∧ x < ns.length
 | 0, i, _, x, h => by cases h
 | k + 1, i, hi, x, h => by
  rw [ix] at h
  rcases List.mem_cons.1 h with rfl | h
  (exact ⟨Nat.le_refl _, hi⟩)
  ·obtain ⟨c, hc, hx⟩ := List.mem_flatMap.1 h;have h1 := kids_in hg hi hc;have h2 := ix_in hg k c h1.2 x hx
   omega
theorem ix_count {ns : List S59} (hg : GoodN ns) (x : Nat) : ∀ (k i : Nat), i < ns.length → ns.length - i ≤ k → (ix ns k i).count x = (if i = x then 1 else 0) + ((ix ns k i).flatMap (kids ns)).count x
 | 0, i, hi, hk => by omega
 | k + 1, i, hi, hk => by
  rw [ix, List.count_cons, List.flatMap_cons, List.count_append]
  have h : ∀ l : List Nat, (∀ c ∈ l, c < ns.length ∧ ns.length - c ≤ k) → (l.flatMap (ix ns k)).count x = l.count x + ((l.flatMap (ix ns k)).flatMap (kids ns)).count x := by
   intro l
   induction l with
   | nil => intro _; rfl
   | cons c t ih =>
    intro hl;have h1 := hl c List.mem_cons_self;rw [List.flatMap_cons, List.count_append, List.flatMap_append, List.count_append, List.count_cons, ih (fun c hc => hl c (List.mem_cons_of_mem _ hc)), ix_count hg x k c h1.1 h1.2];by_cases e : c = x <;> simp [e] <;> omega
  rw [h _ (fun c hc => by have := kids_in hg hi hc; omega)];by_cases e : i = x <;> simp [e] <;> omega
theorem count_flat (ns : List S59) (x p0 : Nat) : ∀ l : List Nat, (∀ p ∈ l, 1 ≤ (kids ns p).count x → p = p0) → (kids ns p0).count x ≤ 1 → (l.flatMap (kids ns)).count x ≤ l.count p0
 | [], _, _ => by simp
 | p :: t, h, h1 => by
  rw [List.flatMap_cons, List.count_append, List.count_cons];have ih := count_flat ns x p0 t (fun q hq => h q (List.mem_cons_of_mem _ hq)) h1;by_cases e : 1 ≤ (kids ns p).count x
  ·have := h p List.mem_cons_self e;subst this
   simp
   omega
  ·split <;> omega
theorem ix_one {ns : List S59} (hs : Shaped ns) (h0 : 0 < ns.length) : ∀ (x : Nat), x < ns.length → (ix ns ns.length 0).count x ≤ 1 := by
 intro x
 induction x using Nat.strongRecOn with
 | _ x ih =>
 intro hx;have hg := hs.good;rw [ix_count hg x ns.length 0 h0 (by omega)];by_cases e : 0 = x
 ·have : ((ix ns ns.length 0).flatMap (kids ns)).count x = 0 := by
   refine List.count_eq_zero.2 (fun hm => ?_)
   obtain ⟨p, hp, hc⟩ := List.mem_flatMap.1 hm;have := kids_in hg (ix_in hg _ _ h0 p hp).2 hc
   omega
  rw [if_pos e]
  omega
 ·rw [if_neg e];have hsum := par_sum ns x ns.length;have h1 := hs.one x hx;rw [hsum] at h1;obtain ⟨s1, s2⟩ := sum_one (fun p => (kids ns p).count x) ns.length (by omega);by_cases hex : ∃ p, p < ns.length ∧ 1 ≤ (kids ns p).count x
  ·obtain ⟨p0, hp0, hc0⟩ := hex;have hlt := kids_in hg hp0 (List.count_pos_iff.1 hc0);have h2 := count_flat ns x p0 (ix ns ns.length 0) (fun p hp hc => s2 p p0 (ix_in hg _ _ h0 p hp).2 hp0 hc hc0) (s1 p0 hp0);have h3 := ih p0 hlt.1 hp0
   omega
  ·have : ((ix ns ns.length 0).flatMap (kids ns)).count x = 0 := by
    refine List.count_eq_zero.2 (fun hm => ?_)
    obtain ⟨p, hp, hc⟩ := List.mem_flatMap.1 hm;exact hex ⟨p, (ix_in hg _ _ h0 p hp).2, List.count_pos_iff.2 hc⟩
   omega
theorem len_le : ∀ (n : Nat) (l : List Nat), (∀ x ∈ l, x < n) → (∀ x, x < n → l.count x ≤ 1) → l.length ≤ n
 | 0, l, h, _ => by
  cases l with
  | nil => simp
  | cons a t => exact absurd (h a List.mem_cons_self) (Nat.not_lt_zero _)
 | n + 1, l, h, hc => by
  have h1 : l.length = l.count n + (l.filter (fun x => x != n)).length := by
   induction l with
   | nil => rfl
   | cons a t ih =>
    have ih2 : t.length = t.count n + (t.filter (fun x => x != n)).length := by
     clear h hc ih
     induction t with
     | nil => rfl
     | cons b t ih => by_cases e : b = n <;> simp [List.count_cons, List.filter_cons, e] <;> omega
    by_cases e : a = n <;> simp [List.count_cons, List.filter_cons, e] <;> omega
  have h2 := len_le n (l.filter (fun x => x != n)) (fun x hx => by have := List.mem_filter.1 hx; have h3 := h x this.1; have h4 : x ≠ n := (by simpa using this.2); omega) (fun x hx => by
   have h3 : (l.filter (fun x => x != n)).count x ≤ l.count x := (List.filter_sublist (l := l)).count_le x;have := hc x (by omega)
   omega)
  have h3 := hc n (by omega)
  omega
theorem walk_len {ns : List S59} (hs : Shaped ns) (h0 : 0 < ns.length) (v : S34) : (walkS ns v).length ≤ ns.length := by
 have h := steps_ix hs.good ns.length (root v) (by show (0 : Int) ≤ 0; omega) (by show (0 : Int) < _; omega)
 have e : (walkS ns v).length = (ix ns ns.length 0).length := by
  rw [← List.length_map (f := fun s : S107 => s.f0.toNat)];exact congrArg List.length h
 rw [e];exact len_le _ _ (fun x hx => (ix_in hs.good _ _ h0 x hx).2) (fun x hx => ix_one hs h0 x hx)
end Go.Proofs.Ytdnjagfbhppmbaa.PA
