import Derived.Test.YtdnjagfbhppmbaaGa
import Derived.Test.YtdnjagfbhppmbaaPAx7
import Derived.Laws.EntriesVeiled
import Derived.Laws.Pointers
import Derived.StillTactics
import Derived.WalkLawsBesides
namespace Go.Proofs.Ytdnjagfbhppmbaa.PA
open Go.RowKit Go.Shelf Go.Proofs.YtdnjagfbhppmbaaW.PrintWords Go.Proofs.YtdnjagfbhppmbaaW.PrintLast Go.Proofs.YtdnjagfbhppmbaaW.PrintMore
set_option linter.unusedVariables false
set_option linter.unusedSimpArgs false
def fits (l w v : Int) (x : S36) : Bool:=decide (x.f1.f0 = l) && (decide (x.f1.f1 = w) && decide (x.f2 = v))
theorem ite_some {α : Type} {c : Prop} {i : Decidable c} {a : Option α} {r : α} (h : @ite _ c i a none = some r) : c ∧ a = some r:=by
  by_cases hc : c
  (rw [if_pos hc] at h;exact ⟨hc,h⟩)
  · rw [if_neg hc] at h;cases h
theorem ite_two {α : Type} {c : Prop} {i : Decidable c} {a b : Option α} {r : α} (h : @ite _ c i a b = some r) : (c ∧ a = some r) ∨ (¬ c ∧ b = some r):=by
  by_cases hc : c
  (rw [if_pos hc] at h;exact .inl ⟨hc,h⟩);(rw [if_neg hc] at h;exact .inr ⟨hc,h⟩)
theorem part_step {k : Nat} {ns : List S59} {t : List (List Int)} {items : List S36} {kf x y l w : Int} {r : List S59} (h : gangsawref25_part.f (k + 1) ns t items kf x y l w = some r) :
    0 ≤ l ∧ l < (t.length : Int) ∧ 0 ≤ w ∧ w < ((rd_L5 t l).length : Int) ∧
      ((rd (rd_L5 t l) w = 0 ∧ ns.length < 2199023255552 ∧ r = ns ++ [⟨0,⟨#[]⟩,0,0,0,0,0⟩]) ∨
       (rd (rd_L5 t l) w ≠ 0 ∧ gangsawref25_part.l0 k ns t items kf x y l w (rd (rd_L5 t l) w) 0 = some r)):=by
  simp only [gangsawref25_part.f] at h
  split at h
  · split at h
    · split at h
      · split at h
        · refine ⟨‹_›,‹_›,‹_›,‹_›, ?_⟩
          split at h
          · split at h
            (exact .inl ⟨‹_›,‹_›,(Option.some.inj h).symm⟩)
            · cases h
          (exact .inr ⟨‹_›,h⟩)
        · cases h
      · cases h
    · cases h
  · cases h
theorem wrap64_nat {n : Nat} (h : n ≤ 9223372036854775807) : wrap64 (n : Int) = n:=by
  rw [← i64_w];exact IntWalk.i64_in (n : Int) (by omega)
def L0Out (k : Nat) (ns r : List S59) (t : List (List Int)) (items : List S36) (kf x y l w v : Int) : Prop :=
    (∃ (j : Nat) (hj : j < items.length),idxOf (fits l w v) items = j ∧ ns.length < 2199023255552 ∧ r = ns ++ [⟨1,items[j].f0,0,0,0,0,0⟩]) ∨
    (idxOf (fits l w v) items = -1 ∧ ∃ k',k' ≤ k ∧ gangsawref25_part.l1 k' ns t items kf x y l w v (ns.length : Int) 1 = some r)
theorem l0_steps {t : List (List Int)} {items : List S36} {kf x y l w v : Int} {ns r : List S59} (hm : items.length ≤ 9223372036854775806) : ∀ (k i : Nat),gangsawref25_part.l0 k ns t items kf x y l w v (i : Int) = some r → i ≤ items.length → (∀ j (hj : j < items.length),j < i → fits l w v items[j] = false) → L0Out k ns r t items kf x y l w v:=by
  intro k
  induction k with
  | zero=>intro i h;simp [gangsawref25_part.l0] at h
  | succ k ih =>
    intro i h hi hp;simp only [gangsawref25_part.l0] at h
    split at h
    · rename_i hlt
      have hlt' : i < items.length:=by omega
      have hx : rd_T36 items (i : Int) = items[i] := by unfold rd_T36;simp [List.getD,hlt']
      have hw : wrap64 ((i : Int) + 1) = ((i + 1 : Nat) : Int):=by
        have:=wrap64_nat (n:=i + 1) (by omega)
        push_cast at this ⊢
        exact this
      rw [hx,hw] at h;rw [if_pos (by omega)] at h
      have next : fits l w v items[i] = false → gangsawref25_part.l0 k ns t items kf x y l w v ((i + 1 : Nat) : Int) = some r → L0Out (k + 1) ns r t items kf x y l w v:=fun hf h'=>by
        have:=ih (i + 1) h' (by omega) (fun j hj hji=>by
          by_cases e : j = i
          (subst e;exact hf)
          · exact hp j hj (by omega))
        rcases this with h1|⟨h1,k',hk',h2⟩
        (exact Or.inl h1);(exact Or.inr ⟨h1,k',by omega,h2⟩)
      split at h
      · rename_i e1
        split at h
        · rename_i e2
          split at h
          · rename_i e3
            split at h
            · left
              refine ⟨i,hlt', ?_,‹_›,(Option.some.inj h).symm⟩
              exact idxOf_hit _ _ _ hlt' (by simp [fits,e1,e2,e3]) hp
            · cases h
          · exact next (by simp [fits, *]) h
        · exact next (by simp [fits, *]) h
      · exact next (by simp [fits, *]) h
    · right
      obtain rfl : i = items.length:=by omega
      exact ⟨idxOf_miss _ _ (fun j hj=>hp j hj hj),k,by omega,h⟩
def CutAt (k : Nat) (ns r : List S59) (t : List (List Int)) (items : List S36) (kf x y at_ axis pos x2 y2 l1 w1 l2 w2 : Int) : Prop :=
  ns.length < 2199023255552 ∧ ∃ n1,gangsawref25_part.f k (ns ++ [⟨3,⟨#[]⟩,axis,pos,kf,wrap64 (at_ + 1),0⟩]) t items kf x y l1 w1 = some n1 ∧ 0 ≤ at_ ∧ at_ < (n1.length : Int) ∧
    gangsawref25_part.f k (n1.set at_.toNat ⟨(rd_T59 n1 at_).f0,(rd_T59 n1 at_).f1,(rd_T59 n1 at_).f2,(rd_T59 n1 at_).f3,(rd_T59 n1 at_).f4,(rd_T59 n1 at_).f5,(n1.length : Int)⟩) t items kf x2 y2 l2 w2 = some r
theorem l1_step {k : Nat} {ns r : List S59} {t : List (List Int)} {items : List S36} {kf x y l w v at_ a : Int} (h : gangsawref25_part.l1 (k + 1) ns t items kf x y l w v at_ a = some r) :
    (wrap64 (a + kf) < l ∧ 0 ≤ a ∧ a < (t.length : Int) ∧ 0 ≤ w ∧ w < ((rd_L5 t a).length : Int) ∧ 0 ≤ wrap64 (wrap64 (l - a) - kf) ∧ wrap64 (wrap64 (l - a) - kf) < (t.length : Int) ∧ w < ((rd_L5 t (wrap64 (wrap64 (l - a) - kf))).length : Int) ∧
      ((wrap64 (rd (rd_L5 t a) w + rd (rd_L5 t (wrap64 (wrap64 (l - a) - kf))) w) = v ∧ CutAt k ns r t items kf x y at_ 0 (wrap64 (x + a)) (wrap64 (wrap64 (x + a) + kf)) y a w (wrap64 (wrap64 (l - a) - kf)) w) ∨
       (wrap64 (rd (rd_L5 t a) w + rd (rd_L5 t (wrap64 (wrap64 (l - a) - kf))) w) ≠ v ∧ gangsawref25_part.l1 k ns t items kf x y l w v at_ (wrap64 (a + 1)) = some r))) ∨
    (¬ wrap64 (a + kf) < l ∧ gangsawref25_part.l2 k ns t items kf x y l w v at_ 1 = some r):=by
  rw [gangsawref25_part.l1] at h
  rcases ite_two h with ⟨c1,h⟩|⟨c1,h⟩
  · obtain ⟨c2,h⟩ := ite_some h;obtain ⟨c3,h⟩ := ite_some h;obtain ⟨c4,h⟩ := ite_some h;obtain ⟨c5,h⟩ := ite_some h;obtain ⟨c6,h⟩ := ite_some h;obtain ⟨c7,h⟩ := ite_some h;obtain ⟨c8,h⟩ := ite_some h
    refine .inl ⟨c1,c2,c3,c4,c5,c6,c7,c8, ?_⟩
    rcases ite_two h with ⟨c9,h⟩|⟨c9,h⟩
    · obtain ⟨c10,h⟩ := ite_some h
      refine .inl ⟨c9,c10, ?_⟩
      rw [Option.bind_eq_some_iff] at h;obtain ⟨n1,h1,h⟩ := h;obtain ⟨c11,h⟩ := ite_some h;obtain ⟨c12,h⟩ := ite_some h;rw [Option.bind_eq_some_iff] at h;obtain ⟨r',h2,h⟩ := h;obtain rfl:=Option.some.inj h;exact ⟨n1,h1,c11,c12,h2⟩
    (exact .inr ⟨c9,h⟩)
  (exact .inr ⟨c1,h⟩)
theorem l2_step {k : Nat} {ns r : List S59} {t : List (List Int)} {items : List S36} {kf x y l w v at_ a : Int} (h : gangsawref25_part.l2 (k + 1) ns t items kf x y l w v at_ a = some r) :
    (wrap64 (a + kf) < w ∧ 0 ≤ l ∧ l < (t.length : Int) ∧ 0 ≤ a ∧ a < ((rd_L5 t l).length : Int) ∧ 0 ≤ wrap64 (wrap64 (w - a) - kf) ∧ wrap64 (wrap64 (w - a) - kf) < ((rd_L5 t l).length : Int) ∧
      ((wrap64 (rd (rd_L5 t l) a + rd (rd_L5 t l) (wrap64 (wrap64 (w - a) - kf))) = v ∧ CutAt k ns r t items kf x y at_ 1 (wrap64 (y + a)) x (wrap64 (wrap64 (y + a) + kf)) l a l (wrap64 (wrap64 (w - a) - kf))) ∨
       (wrap64 (rd (rd_L5 t l) a + rd (rd_L5 t l) (wrap64 (wrap64 (w - a) - kf))) ≠ v ∧ gangsawref25_part.l2 k ns t items kf x y l w v at_ (wrap64 (a + 1)) = some r))) ∨
    (¬ wrap64 (a + kf) < w ∧ r = ns):=by
  rw [gangsawref25_part.l2] at h
  rcases ite_two h with ⟨c1,h⟩|⟨c1,h⟩
  · obtain ⟨c2,h⟩ := ite_some h;obtain ⟨c3,h⟩ := ite_some h;obtain ⟨c4,h⟩ := ite_some h;obtain ⟨c5,h⟩ := ite_some h;obtain ⟨c6,h⟩ := ite_some h;obtain ⟨c7,h⟩ := ite_some h
    refine .inl ⟨c1,c2,c3,c4,c5,c6,c7, ?_⟩
    rcases ite_two h with ⟨c9,h⟩|⟨c9,h⟩
    · obtain ⟨c10,h⟩ := ite_some h
      refine .inl ⟨c9,c10, ?_⟩
      rw [Option.bind_eq_some_iff] at h;obtain ⟨n1,h1,h⟩ := h;obtain ⟨c11,h⟩ := ite_some h;obtain ⟨c12,h⟩ := ite_some h;rw [Option.bind_eq_some_iff] at h;obtain ⟨r',h2,h⟩ := h;obtain rfl:=Option.some.inj h;exact ⟨n1,h1,c11,c12,h2⟩
    (exact .inr ⟨c9,h⟩)
  (exact .inr ⟨c1,(Option.some.inj h).symm⟩)
end Go.Proofs.Ytdnjagfbhppmbaa.PA
