import Derived.Test.YtdnjagfbhppmbaaOp
import Derived.Test.YtdnjagfbhppmbaaPAx201
import Derived.Test.YtdnjagfbhppmbaaPuh
namespace Go.Proofs.Ytdnjagfbhppmbaa.Pure
open Go.RowKit Go.Proofs.Ytdnjagfbhppmbaa Go.Proofs.Ytdnjagfbhppmbaa.PA Go.Proofs.YtdnjagfbhppmbaaW.PrintWords Go.Proofs.YtdnjagfbhppmbaaW.PrintLast Go.Proofs.YtdnjagfbhppmbaaW.PrintMore
set_option linter.unusedVariables false
set_option linter.unusedSimpArgs false
section
variable (L Wd kf : Nat) (l : List S36) (hc : checkR (L : Int) (Wd : Int) l (kf : Int) = 0) (hM : ∀ x ∈ l, x.f0.size ≤ 100) (hL : L ≤ 14) (hW : Wd ≤ 14) (m : S36) (hm : m.f0.size ≤ 100) (wh : Int)
include hc hM hL hW hm
theorem more_end (q : List S36) (i : Nat) (hq : Rich l q i) (hi : i = l.length) : Ev (fun k => gangsawlaw25_FlatpackMore.l0 k (L : Int) (Wd : Int) l (kf : Int) wh (val (exactF l) kf L Wd) (l.map swI) q (i : Int) m.f0 m.f1.f0 m.f1.f1 m.f1.f2 m.f2 m.f3 m.f4) true := by
 obtain ⟨_, _, _, hl6, hb⟩ := chk0 hc;have hX := e_bex (bad_bd hb)
 have eT : ∀ x ∈ l.map swI, x.f0.size ≤ 100 := by
  intro x hx;obtain ⟨y, hy, rfl⟩ := List.mem_map.1 hx;exact hM y hy
 have B1 : flatpack_Best.f (Wd : Int) (L : Int) (l.map swI) (kf : Int) = some (val (exactF l) kf L Wd, 0) := by
  rw [best_f Wd L kf _ (c_swap hc) eT, m_symm (ex := exactF l) (fun a b => e_swap l a b) kf _ L Wd (Nat.le_refl _)]
 have hMore : ∀ x ∈ l ++ [m], x.f0.size ≤ 100 := by
  intro x hx
  rcases List.mem_append.1 hx with h | h
  (exact hM x h)
  ·rw [List.mem_singleton] at h; subst h; exact hm
 have B3 := best_any (L : Int) (Wd : Int) (l ++ [m]) (kf : Int) hMore;have B2 := best_any (L : Int) (Wd : Int) q (kf : Int) (hq.names hM);simp only [Int.toNat_natCast] at B2 B3
 have G2 : checkR (L : Int) (Wd : Int) q (kf : Int) = 0 → val (exactF l) kf L Wd ≤ val (exactF q) kf L Wd := fun h =>
  m_mono hX (e_bex (bad_bd (chk0 h).2.2.2.2)) (fun a b => hq.le a b) kf _ L Wd (Nat.le_refl _) hL hW
 have G3 : checkR (L : Int) (Wd : Int) (l ++ [m]) (kf : Int) = 0 → val (exactF l) kf L Wd ≤ val (exactF (l ++ [m])) kf L Wd := fun h =>
  m_mono hX (e_bex (bad_bd (chk0 h).2.2.2.2)) (fun a b => by
   have := (e_iff (l ++ [m]) a b _).1 (Int.le_refl _);rw [e_iff]
   exact ⟨this.1, fun x hx => this.2 x (List.mem_append_left _ hx)⟩) kf _ L Wd (Nat.le_refl _) hL hW
 refine Ev.step (f := fun _ => some true) (fun k => ?_) (Ev.now _)
 subst hi;rw [gangsawlaw25_FlatpackMore.l0, if_neg (by omega), B1];simp only [Option.bind_some, List.nil_append, List.length_nil, List.length_append, List.length_cons];have em : ([⟨m.f0, ⟨m.f1.f0, m.f1.f1, m.f1.f2⟩, m.f2, m.f3, m.f4⟩] : List S36) = [m] := rfl;rw [em]
 rcases B2 with ⟨c2, b2⟩ | ⟨c2, b2⟩ <;> rcases B3 with ⟨c3, b3⟩ | ⟨c3, b3⟩ <;> rw [b2, b3] <;> simp only [Option.bind_some] <;> rw [if_pos (by omega), if_pos (by omega)]
 ·have g2 := G2 c2; have g3 := G3 c3
  simp only [if_true, ge_iff_le];rw [if_pos g2, decide_eq_true g3]
 (have g2 := G2 c2;simp only [if_true, ge_iff_le];rw [if_pos g2, if_neg c3]);(have g3 := G3 c3;simp only [if_true, ge_iff_le];rw [if_neg c2, decide_eq_true g3]);(simp only [if_true];rw [if_neg c2, if_neg c3])
theorem more_l0 : ∀ (d i : Nat) (q : List S36), i + d = l.length → Rich l q i → Ev (fun k => gangsawlaw25_FlatpackMore.l0 k (L : Int) (Wd : Int) l (kf : Int) wh (val (exactF l) kf L Wd) ((l.take i).map swI) q (i : Int) m.f0 m.f1.f0 m.f1.f1 m.f1.f2 m.f2 m.f3 m.f4) true := by
 have hl6 := (chk0 hc).2.2.2.1;have hb := bad_bd (chk0 hc).2.2.2.2;intro d
 induction d with
 | zero =>
  intro i q hi hq;have := more_end L Wd kf l hc hM hL hW m hm wh q i hq (by omega);rw [show l.take i = l from List.take_of_length_le (by omega)];exact this
 | succ d ih =>
  intro i q hi hq
  have hlt : i < l.length := by omega
  have ht : (l.take (i + 1)).map swI = (l.take i).map swI ++ [swI (l.getD i z36)] := by
   have e1 : l.take (i + 1) = l.take i ++ [l[i]] := by simp
   rw [e1, List.map_append, List.getD_eq_getElem?_getD, List.getElem?_eq_getElem hlt];rfl
  have hlen : ((l.take i).map swI).length = i := by simp; omega
  by_cases hw : (i : Int) = wh
  ·have hq2 : Rich l (q.set i ⟨(q.getD i z36).f0, ⟨(q.getD i z36).f1.f0, (q.getD i z36).f1.f1, (q.getD i z36).f1.f2⟩, wrap64 ((q.getD i z36).f2 + 1), (q.getD i z36).f3, (q.getD i z36).f4⟩) (i + 1) := by
    have hg : ∀ j, (q.set i ⟨(q.getD i z36).f0, ⟨(q.getD i z36).f1.f0, (q.getD i z36).f1.f1, (q.getD i z36).f1.f2⟩, wrap64 ((q.getD i z36).f2 + 1), (q.getD i z36).f3, (q.getD i z36).f4⟩).getD j z36 = if j = i then ⟨(q.getD i z36).f0, ⟨(q.getD i z36).f1.f0, (q.getD i z36).f1.f1, (q.getD i z36).f1.f2⟩, wrap64 ((q.getD i z36).f2 + 1), (q.getD i z36).f3, (q.getD i z36).f4⟩ else q.getD j z36 := by
     intro j;rw [List.getD_eq_getElem?_getD (l := q.set _ _), List.getElem?_set];by_cases e : i = j
     ·subst e; rw [if_pos rfl, if_pos rfl, if_pos (by rw [hq.len]; exact hlt)]; rfl
     (rw [if_neg e, if_neg (fun h => e h.symm), ← List.getD_eq_getElem?_getD])
    refine ⟨by rw [List.length_set, hq.len], fun j hj => ?_, fun j h1 h2 => ?_⟩
    ·rw [hg j];by_cases e : j = i
     ·subst e;rw [if_pos rfl];have r := hq.rest j (Nat.le_refl _) hj;rw [r];have b := hb _ (getD_mem hj)
      have b0 : 0 ≤ (l.getD j z36).f2 := by
       have := (chk0 hc).2.2.2.2 _ (getD_mem hj);generalize l.getD j z36 = y at this ⊢
       unfold badSize sideB at this
       simp at this
       omega
      refine ⟨rfl, rfl, ?_⟩
      show (l.getD j z36).f2 ≤ wrap64 ((l.getD j z36).f2 + 1)
      unfold wrap64; omega
     ·rw [if_neg e]; exact hq.keep j hj
    (rw [hg j, if_neg (by omega)];exact hq.rest j (by omega) h2)
   have H := ih (i + 1) _ (by omega) hq2;rw [ht] at H
   refine Ev.step (fun k => ?_) H
   rw [gangsawlaw25_FlatpackMore.l0, if_pos (by omega), if_pos (by omega), rdT, rdT];simp only [Option.bind_some];rw [if_pos (by rw [hlen]; simp; omega), if_pos hw, if_pos (by rw [hq.len]; omega), wrap_nat1 (by omega), Int.toNat_natCast];rfl
  ·have hq2 : Rich l q (i + 1) := ⟨hq.len, hq.keep, fun j h1 h2 => hq.rest j (by omega) h2⟩
   have H := ih (i + 1) _ (by omega) hq2;rw [ht] at H
   refine Ev.step (fun k => ?_) H
   rw [gangsawlaw25_FlatpackMore.l0, if_pos (by omega), if_pos (by omega), rdT];simp only [Option.bind_some];rw [if_pos (by rw [hlen]; simp; omega), if_neg hw, wrap_nat1 (by omega)];rfl
end
theorem FlatpackMore (a0 a1 : Int) (l2 : List S36) (a3 : Int) (m0 : ByteArray) (m1 m2 m3 m4 m5 m6 wh : Int) (_ : Rng a0) (_ : Rng a1) (_ : l2.length ≤ maxLen) (_ : ∀ x ∈ l2, Good36 x) (_ : Rng a3) (_ : Rng wh) : ∃ k, gangsawlaw25_FlatpackMore.f k a0 a1 l2 a3 m0 m1 m2 m3 m4 m5 m6 wh = some true := by
 have key : Ev (fun k => gangsawlaw25_FlatpackMore.f k a0 a1 l2 a3 m0 m1 m2 m3 m4 m5 m6 wh) true := by
  obtain ⟨s, hs, hsp⟩ : ∃ s, Ev (fun k => gangsawref25_Small.f k a0 a1 l2) s ∧ (s = true → (a0 ≤ 14 ∨ 40 < a0) ∧ (a1 ≤ 14 ∨ 40 < a1) ∧ l2.length ≤ 10 ∧ ∀ x ∈ l2, x.f0.size ≤ 100) := by
   obtain ⟨s, hs, hp⟩ := small_f a0 a1 l2 21 (by omega);exact ⟨s, Ev.of (fun k => gangsawref25_Small.mono _ _ _ k) hs, hp⟩
  unfold gangsawlaw25_FlatpackMore.f
  refine Ev.bind awake_f (Ev.congr (fun k => if_pos rfl) (Ev.bind hs ?_))
  have yes : Ev (fun k => gangsawlaw25_FlatpackMore.j0 k a0 a1 l2 a3 wh true m0 m1 m2 m3 m4 m5 m6) true := Ev.step (f := fun _ => some true) (fun k => by rw [gangsawlaw25_FlatpackMore.j0, if_pos rfl]) (Ev.now _)
  cases s with
  | false => exact Ev.congr (fun k => if_neg (by simp)) yes
  | true =>
   obtain ⟨h0, h1, h2, h3⟩ := hsp rfl;by_cases hm : (m0.size : Int) > 100
   (exact Ev.congr (fun k => by rw [if_pos rfl, decide_eq_true hm]) yes)
   ·refine Ev.congr (fun k => by rw [if_pos rfl, decide_eq_false hm]) ?_
    rcases best_any a0 a1 l2 a3 h3 with ⟨c, b⟩ | ⟨c, b⟩
    ·obtain ⟨g0, g1, g2, g3, g4⟩ := chk0 c
     obtain ⟨L, rfl⟩ : ∃ n : Nat, a0 = n := ⟨a0.toNat, by omega⟩
     obtain ⟨Wd, rfl⟩ : ∃ n : Nat, a1 = n := ⟨a1.toNat, by omega⟩
     obtain ⟨kf, rfl⟩ : ∃ n : Nat, a3 = n := ⟨a3.toNat, by omega⟩
     simp only [Int.toNat_natCast] at b;have H := more_l0 L Wd kf l2 c h3 (by omega) (by omega) (⟨m0, ⟨m1, m2, m3⟩, m4, m5, m6⟩ : S36) (show m0.size ≤ 100 by omega) wh l2.length 0 l2 (by omega) ⟨rfl, fun j _ => ⟨rfl, rfl, Int.le_refl _⟩, fun j _ _ => rfl⟩
     refine Ev.step (fun k => ?_) H
     rw [gangsawlaw25_FlatpackMore.j0, if_neg (by simp), b];simp only [Option.bind_some];rw [if_pos trivial, if_pos (by simp; omega)];rfl
    ·refine Ev.step (f := fun _ => some true) (fun k => ?_) (Ev.now _)
     rw [gangsawlaw25_FlatpackMore.j0, if_neg (by simp), b];simp only [Option.bind_some]
     rw [if_neg c]; rfl
 exact key.rounds
end Go.Proofs.Ytdnjagfbhppmbaa.Pure
