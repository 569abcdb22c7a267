import Derived.Test.YtdnjagfbhppmbaaPuw
import Derived.Test.YtdnjagfbhppmbaaPuy
import Derived.Test.YtdnjagfbhppmbaaPuz
namespace Go.Proofs.Ytdnjagfbhppmbaa.Pure
open Go.RowKit Go.Proofs.Ytdnjagfbhppmbaa Go.Proofs.Ytdnjagfbhppmbaa.PA Go.Proofs.YtdnjagfbhppmbaaW.PrintWords Go.Proofs.YtdnjagfbhppmbaaW.PrintLast Go.Proofs.YtdnjagfbhppmbaaW.PrintMore
set_option linter.unusedVariables false
set_option linter.unusedSimpArgs false
def At (ns : List S59) (kf : Int) : PT → Nat → Prop
 | .waste, b => b < ns.length ∧ rd_T59 ns (b : Int) = ⟨0, ⟨#[]⟩, 0, 0, 0, 0, 0⟩
 | .prod x, b => b < ns.length ∧ rd_T59 ns (b : Int) = ⟨1, x.f0, 0, 0, 0, 0, 0⟩
 | .cut ax at_ l r, b => b < ns.length ∧ rd_T59 ns (b : Int) = ⟨3, ⟨#[]⟩, ax, at_, kf, ((b + 1 : Nat) : Int), ((b + 1 + l.size : Nat) : Int)⟩ ∧ At ns kf l (b + 1) ∧ At ns kf r (b + 1 + l.size)
theorem rd_mid (pre post : List S59) (n : S59) : rd_T59 (pre ++ n :: post) (pre.length : Int) = n := by
 unfold rd_T59
 rw [Int.toNat_natCast, List.getD_eq_getElem?_getD, List.getElem?_append_right (Nat.le_refl _), Nat.sub_self];rfl
theorem at_enc (kf : Int) : ∀ (T : PT) (pre post : List S59), At (pre ++ (T.enc kf pre.length ++ post)) kf T pre.length
 | .waste, pre, post => ⟨by simp [PT.enc], rd_mid pre post _⟩
 | .prod x, pre, post => ⟨by simp [PT.enc], rd_mid pre post _⟩
 | .cut ax at_ l r, pre, post => by
  have h1 := at_enc kf l (pre ++ [⟨3, ⟨#[]⟩, ax, at_, kf, ((pre.length + 1 : Nat) : Int), ((pre.length + 1 + l.size : Nat) : Int)⟩]) (r.enc kf (pre.length + 1 + l.size) ++ post);have h2 := at_enc kf r (pre ++ (⟨3, ⟨#[]⟩, ax, at_, kf, ((pre.length + 1 : Nat) : Int), ((pre.length + 1 + l.size : Nat) : Int)⟩ :: l.enc kf (pre.length + 1))) post
  have e1 : (pre ++ [(⟨3, ⟨#[]⟩, ax, at_, kf, ((pre.length + 1 : Nat) : Int), ((pre.length + 1 + l.size : Nat) : Int)⟩ : S59)]).length = pre.length + 1 := by simp
  have e2 : (pre ++ ((⟨3, ⟨#[]⟩, ax, at_, kf, ((pre.length + 1 : Nat) : Int), ((pre.length + 1 + l.size : Nat) : Int)⟩ : S59) :: l.enc kf (pre.length + 1))).length = pre.length + 1 + l.size := by rw [List.length_append, List.length_cons, enc_len]; omega
  rw [e1] at h1;rw [e2] at h2
  refine ⟨by simp [PT.enc], rd_mid pre _ _, ?_, ?_⟩
  ·rw [PT.enc]
   simpa using h1
  ·rw [PT.enc]
   simpa using h2
theorem at_in {ns : List S59} {kf : Int} : ∀ {T : PT} {b : Nat}, At ns kf T b → b + T.size ≤ ns.length
 | .waste, b, h => h.1
 | .prod x, b, h => h.1
 | .cut ax at_ l r, b, h => by
  have := at_in h.2.2.2
  rw [PT.size]; omega
theorem fits_nonneg {items : List S36} {kf : Nat} (hv : ∀ x ∈ items, 0 ≤ x.f2 ∧ x.f2 ≤ 1000000001) : ∀ {T : PT} {x y l w : Nat} {v : Int}, Fits items kf T x y l w v → 0 ≤ v
 | .waste, x, y, l, w, v, h => by rw [h.2.2]; exact Int.le_refl _
 | .prod it, x, y, l, w, v, h => by
  obtain ⟨_, _, hm, _, _, he⟩ := h;have := (hv it hm).1
  omega
 | .cut ax at_ tl tr, x, y, l, w, v, h => by
  obtain ⟨a, v1, v2, he, _, _, _, h | h⟩ := h
  ·have := fits_nonneg hv h.2.2.2.1;have := fits_nonneg hv h.2.2.2.2
   omega
  ·have := fits_nonneg hv h.2.2.2.1;have := fits_nonneg hv h.2.2.2.2
   omega
section
variable (items : List S36) (kf : Nat) (ns : List S59)
theorem tree_walk (hkf : kf ≤ 40) (hd : dupB items = false) (hv : ∀ x ∈ items, 0 ≤ x.f2 ∧ x.f2 ≤ 1000000001) : ∀ (T : PT) (d b x y l w : Nat) (z0 z1 lv v : Int), At ns (kf : Int) T b → Fits items kf T x y l w v → T.size ≤ d → x + l ≤ 1000 → y + w ≤ 1000 →
  (∀ t ∈ stepsK ns d ⟨(b : Int), ⟨⟨(x : Int), (y : Int), z0⟩, ⟨((x + l : Nat) : Int), ((y + w : Nat) : Int), z1⟩⟩, lv⟩, badS ns t = false) ∧
  (∀ (M : List S87) (s : Int), 0 ≤ s → s + v ≤ 1000000000000000000 → sumR items (leavesL ns (stepsK ns d ⟨(b : Int), ⟨⟨(x : Int), (y : Int), z0⟩, ⟨((x + l : Nat) : Int), ((y + w : Nat) : Int), z1⟩⟩, lv⟩) ++ M) s = sumR items M (s + v)) := by
 have leaf : ∀ (d : Nat) (s : S107) (n : S59), rd_T59 ns s.f0 = n → ¬ n.f0 = 3 → stepsK ns (d + 1) s = [s] ∧ badS ns s = false ∧ leavesL ns [s] = [leafOf ns s] := by
  intro d s n hn h3
  have h3' : ¬ (rd_T59 ns s.f0).f0 = 3 := by rw [hn]; exact h3
  refine ⟨by rw [stepsK, if_neg h3'], by unfold badS; simp [h3'], ?_⟩
  unfold leavesL
  rw [List.filter_cons, if_pos (by unfold isLeaf; simp [h3'])];rfl
 intro T
 induction T with
 | waste =>
  intro d b x y l w z0 z1 lv v hA hF hdd hx hy
  obtain ⟨d, rfl⟩ : ∃ e, d = e + 1 := ⟨d - 1, by rw [PT.size] at hdd; omega⟩
  obtain ⟨e1, e2, e3⟩ := leaf d ⟨(b : Int), ⟨⟨(x : Int), (y : Int), z0⟩, ⟨((x + l : Nat) : Int), ((y + w : Nat) : Int), z1⟩⟩, lv⟩ _ hA.2 (by decide);rw [e1, e3]
  refine ⟨fun t ht => by rw [List.mem_singleton.1 ht]; exact e2, fun M s h0 h1 => ?_⟩
  rw [List.singleton_append, sumR_skip _ _ _ _ (by show ¬ (rd_T59 ns (b : Int)).f0 = 1; rw [hA.2]; decide), hF.2.2, Int.add_zero]
 | prod it =>
  intro d b x y l w z0 z1 lv v hA hF hdd hx hy
  obtain ⟨d, rfl⟩ : ∃ e, d = e + 1 := ⟨d - 1, by rw [PT.size] at hdd; omega⟩
  obtain ⟨e1, e2, e3⟩ := leaf d ⟨(b : Int), ⟨⟨(x : Int), (y : Int), z0⟩, ⟨((x + l : Nat) : Int), ((y + w : Nat) : Int), z1⟩⟩, lv⟩ _ hA.2 (by show ¬ (1 : Int) = 3; decide);rw [e1, e3]
  refine ⟨fun t ht => by rw [List.mem_singleton.1 ht]; exact e2, fun M s h0 h1 => ?_⟩
  obtain ⟨g1, g2, hm, g3, g4, g5⟩ := hF;obtain ⟨j, hj, hji⟩ := List.getElem_of_mem hm
  have hit : itemOf items (rd_T59 ns (b : Int)).f1 = it := by
   rw [hA.2]
   unfold itemOf
   rw [known_at hd it.f0 j hj (by rw [hji]), hji];rfl
  have hvi := hv it hm
  have w1 : wrap64 (((x + l : Nat) : Int) - (x : Int)) = (l : Int) := by
   have : ((x + l : Nat) : Int) - (x : Int) = ((l : Nat) : Int) := by omega
   rw [this]; exact wrapN (by omega)
  have w2 : wrap64 (((y + w : Nat) : Int) - (y : Int)) = (w : Int) := by
   have : ((y + w : Nat) : Int) - (y : Int) = ((w : Nat) : Int) := by omega
   rw [this]; exact wrapN (by omega)
  have w3 : wrap64 (s + it.f2) = s + v := by
   rw [g5]; unfold wrap64; omega
  rw [List.singleton_append, sumR_step _ _ _ _ (by show (rd_T59 ns (b : Int)).f0 = 1; rw [hA.2]) (by
   show wrap64 (((x + l : Nat) : Int) - (x : Int)) = (itemOf items (rd_T59 ns (b : Int)).f1).f1.f0
   rw [hit, w1, g3]) (by
   show wrap64 (((y + w : Nat) : Int) - (y : Int)) = (itemOf items (rd_T59 ns (b : Int)).f1).f1.f1
   rw [hit, w2, g4])]
  show sumR items M (wrap64 (s + (itemOf items (rd_T59 ns (b : Int)).f1).f2)) = _
  rw [hit, w3]
 | cut ax at_ tl tr ihl ihr =>
  intro d b x y l w z0 z1 lv v hA hF hdd hx hy;rw [PT.size] at hdd
  obtain ⟨d, rfl⟩ : ∃ e, d = e + 1 := ⟨d - 1, by omega⟩
  obtain ⟨hb, hn, hAl, hAr⟩ := hA
  have hk : (rd_T59 ns (b : Int)).f0 = 3 := by rw [hn]
  rw [stepsK]
  dsimp only
  rw [if_pos hk]
  have e1 : ∀ (s0 : S107) (A B : List S107), s0.f0 = (b : Int) → leavesL ns (s0 :: (A ++ B)) = leavesL ns A ++ leavesL ns B := by
   intro s0 A B h;rw [← leavesL_append]
   unfold leavesL
   rw [List.filter_cons, if_neg (by unfold isLeaf; rw [h]; simp [hk])]
  rw [e1 _ _ _ rfl, hn]
  dsimp only
  obtain ⟨a, v1, v2, he, ha, hl, hw, hF | hF⟩ := hF
  ·obtain ⟨rfl, rfl, hlt, hF1, hF2⟩ := hF;have p1 := fits_nonneg hv hF1;have p2 := fits_nonneg hv hF2;have dl : divL (⟨3, ⟨#[]⟩, 0, ((x + a : Nat) : Int), (kf : Int), ((b + 1 : Nat) : Int), ((b + 1 + tl.size : Nat) : Int)⟩ : S59) ⟨⟨(x : Int), (y : Int), z0⟩, ⟨((x + l : Nat) : Int), ((y + w : Nat) : Int), z1⟩⟩ = ⟨⟨(x : Int), (y : Int), z0⟩, ⟨((x + a : Nat) : Int), ((y + w : Nat) : Int), z1⟩⟩ := rfl
   have dr : divR (⟨3, ⟨#[]⟩, 0, ((x + a : Nat) : Int), (kf : Int), ((b + 1 : Nat) : Int), ((b + 1 + tl.size : Nat) : Int)⟩ : S59) ⟨⟨(x : Int), (y : Int), z0⟩, ⟨((x + l : Nat) : Int), ((y + w : Nat) : Int), z1⟩⟩ = ⟨⟨((x + a + kf : Nat) : Int), (y : Int), z0⟩, ⟨((x + a + kf + (l - a - kf) : Nat) : Int), ((y + w : Nat) : Int), z1⟩⟩ := by
    unfold divR vset
    rw [if_pos rfl, wrapA (a := x + a) (b := kf) (by omega), show x + a + kf + (l - a - kf) = x + l by omega]
   rw [dl, dr];obtain ⟨i1, i2⟩ := ihl d (b + 1) x y a w z0 z1 (wrap64 (lv + 1)) v1 hAl hF1 (by omega) (by omega) hy;obtain ⟨j1, j2⟩ := ihr d (b + 1 + tl.size) (x + a + kf) y (l - a - kf) w z0 z1 (wrap64 (lv + 1)) v2 hAr hF2 (by omega) (by omega) hy
   refine ⟨fun t ht => ?_, fun M s h0 h1 => ?_⟩
   ·rcases List.mem_cons.1 ht with rfl | ht
    ·unfold badS
     dsimp only
     rw [hn]
     have w1 : wrap64 (((x + l : Nat) : Int) - (kf : Int)) = ((x + l - kf : Nat) : Int) := by rw [← Int.ofNat_sub (by omega)]; exact wrapN (by omega)
     have u1 : ¬ (((x + a : Nat) : Int) ≤ (x : Int)) := by omega
     have u2 : ¬ (((x + l - kf : Nat) : Int) ≤ ((x + a : Nat) : Int)) := by omega
     simp only [vget, if_pos, w1, decide_eq_false u1, decide_eq_false u2];rfl
    ·rcases List.mem_append.1 ht with ht | ht
     (exact i1 t ht);(exact j1 t ht)
   (rw [List.append_assoc, i2 _ s h0 (by omega), j2 _ (s + v1) (by omega) (by omega), he, Int.add_assoc])
  ·obtain ⟨rfl, rfl, hlt, hF1, hF2⟩ := hF;have p1 := fits_nonneg hv hF1;have p2 := fits_nonneg hv hF2;have dl : divL (⟨3, ⟨#[]⟩, 1, ((y + a : Nat) : Int), (kf : Int), ((b + 1 : Nat) : Int), ((b + 1 + tl.size : Nat) : Int)⟩ : S59) ⟨⟨(x : Int), (y : Int), z0⟩, ⟨((x + l : Nat) : Int), ((y + w : Nat) : Int), z1⟩⟩ = ⟨⟨(x : Int), (y : Int), z0⟩, ⟨((x + l : Nat) : Int), ((y + a : Nat) : Int), z1⟩⟩ := rfl
   have dr : divR (⟨3, ⟨#[]⟩, 1, ((y + a : Nat) : Int), (kf : Int), ((b + 1 : Nat) : Int), ((b + 1 + tl.size : Nat) : Int)⟩ : S59) ⟨⟨(x : Int), (y : Int), z0⟩, ⟨((x + l : Nat) : Int), ((y + w : Nat) : Int), z1⟩⟩ = ⟨⟨(x : Int), ((y + a + kf : Nat) : Int), z0⟩, ⟨((x + l : Nat) : Int), ((y + a + kf + (w - a - kf) : Nat) : Int), z1⟩⟩ := by
    unfold divR vset
    rw [if_neg (show ¬ (1 : Int) = 0 by decide), if_pos rfl, wrapA (a := y + a) (b := kf) (by omega), show y + a + kf + (w - a - kf) = y + w by omega]
   rw [dl, dr];obtain ⟨i1, i2⟩ := ihl d (b + 1) x y l a z0 z1 (wrap64 (lv + 1)) v1 hAl hF1 (by omega) hx (by omega);obtain ⟨j1, j2⟩ := ihr d (b + 1 + tl.size) x (y + a + kf) l (w - a - kf) z0 z1 (wrap64 (lv + 1)) v2 hAr hF2 (by omega) hx (by omega)
   refine ⟨fun t ht => ?_, fun M s h0 h1 => ?_⟩
   ·rcases List.mem_cons.1 ht with rfl | ht
    ·unfold badS
     dsimp only
     rw [hn]
     have w1 : wrap64 (((y + w : Nat) : Int) - (kf : Int)) = ((y + w - kf : Nat) : Int) := by rw [← Int.ofNat_sub (by omega)]; exact wrapN (by omega)
     have u1 : ¬ (((y + a : Nat) : Int) ≤ (y : Int)) := by omega
     have u2 : ¬ (((y + w - kf : Nat) : Int) ≤ ((y + a : Nat) : Int)) := by omega
     simp only [vget, if_neg (show ¬ (1 : Int) = 0 by decide), if_pos, w1, decide_eq_false u1, decide_eq_false u2];rfl
    ·rcases List.mem_append.1 ht with ht | ht
     (exact i1 t ht);(exact j1 t ht)
   (rw [List.append_assoc, i2 _ s h0 (by omega), j2 _ (s + v1) (by omega) (by omega), he, Int.add_assoc])
structure NodeOK (items : List S36) (kf : Nat) (ns : List S59) (j : Nat) : Prop where
 err : nodeErr ns j = 0
 cut : bad42 (kf : Int) (rd_T59 ns (j : Int)) = false
 kn : unk items (rd_T59 ns (j : Int)) = false
 sz : (rd_T59 ns (j : Int)).f1.size ≤ 100
theorem tree_nodes (hkf : kf ≤ 40) (hd : dupB items = false) (hM : ∀ x ∈ items, x.f0.size ≤ 100) (hlex : ∀ x ∈ items, lexName x.f0 = true) : ∀ (T : PT) (b x y l w : Nat) (v : Int), At ns (kf : Int) T b → Fits items kf T x y l w v → ∀ j, b ≤ j → j < b + T.size → NodeOK items kf ns j := by
 intro T
 induction T with
 | waste =>
  intro b x y l w v hA hF j h1 h2;rw [PT.size] at h2
  obtain rfl : j = b := by omega
  refine ⟨?_, ?_, ?_, ?_⟩
  ·unfold nodeErr; rw [hA.2]; simp [nodeR, plainR, ByteArray.toList_eq]
  ·rw [hA.2]; rfl
  ·rw [hA.2]; rfl
  ·rw [hA.2]; decide
 | prod it =>
  intro b x y l w v hA hF j h1 h2;rw [PT.size] at h2
  obtain rfl : j = b := by omega
  obtain ⟨g1, g2, hm, g3, g4, g5⟩ := hF;obtain ⟨i, hi, hji⟩ := List.getElem_of_mem hm
  refine ⟨?_, ?_, ?_, ?_⟩
  ·unfold nodeErr
   rw [hA.2]
   unfold nodeR plainR
   simp [hlex it hm]
  ·rw [hA.2]; rfl
  ·rw [hA.2]
   unfold unk
   dsimp only
   rw [known_at hd it.f0 i hi (by rw [hji])];rfl
  ·rw [hA.2]; exact hM it hm
 | cut ax at_ tl tr ihl ihr =>
  intro b x y l w v hA hF j h1 h2;rw [PT.size] at h2;obtain ⟨hb, hn, hAl, hAr⟩ := hA;have hal := at_in hAl;have har := at_in hAr;have s1 := size_pos tl;have s2 := size_pos tr;by_cases e : j = b
  ·subst e
   have hax : ax = 0 ∨ ax = 1 := by
    obtain ⟨a, v1, v2, _, _, _, _, h | h⟩ := hF;(exact .inl h.1);(exact .inr h.1)
   have q1 : partB ((j + 1 : Nat) : Int) (j : Int) (ns.length : Int) = true := by unfold partB; simp; omega
   have q2 : partB ((j + 1 + tl.size : Nat) : Int) (j : Int) (ns.length : Int) = true := by unfold partB; simp; omega
   refine ⟨?_, ?_, ?_, ?_⟩
   ·unfold nodeErr
    rw [hn]
    unfold nodeR
    rw [if_pos rfl]
    unfold cutR
    dsimp only
    rw [if_pos (by rw [ByteArray.toList_eq]; rfl), if_neg (by omega), if_neg (by omega), if_pos q1, if_pos q2, if_neg (by omega), if_neg (by omega)]
   ·rw [hn]
    unfold bad42
    have : ¬ ax = 2 := by omega
    simp [this]
   ·rw [hn]; rfl
   ·rw [hn]; exact Nat.zero_le _
  ·obtain ⟨a, v1, v2, _, _, _, _, h | h⟩ := hF
   ·obtain ⟨_, _, _, hF1, hF2⟩ := h;by_cases e2 : j < b + 1 + tl.size
    (exact ihl _ _ _ _ _ _ hAl hF1 j (by omega) e2);(exact ihr _ _ _ _ _ _ hAr hF2 j (by omega) (by omega))
   ·obtain ⟨_, _, _, hF1, hF2⟩ := h;by_cases e2 : j < b + 1 + tl.size
    (exact ihl _ _ _ _ _ _ hAl hF1 j (by omega) e2);(exact ihr _ _ _ _ _ _ hAr hF2 j (by omega) (by omega))
theorem tree_parts (x : Nat) : ∀ (T : PT) (b : Nat), At ns (kf : Int) T b → ((List.range' b T.size).map (fun p => (kids ns p).count x)).sum = if b < x ∧ x < b + T.size then 1 else 0 := by
 intro T
 induction T with
 | waste =>
  intro b hA
  have hk : kids ns b = [] := by unfold kids; rw [hA.2]; rfl
  rw [PT.size, if_neg (by omega)]
  simp [List.range', hk]
 | prod it =>
  intro b hA
  have hk : kids ns b = [] := by unfold kids; rw [hA.2]; rfl
  rw [PT.size, if_neg (by omega)]
  simp [List.range', hk]
 | cut ax at_ tl tr ihl ihr =>
  intro b hA;obtain ⟨hb, hn, hAl, hAr⟩ := hA;have s1 := size_pos tl;have s2 := size_pos tr
  have hk : kids ns b = [b + 1, b + 1 + tl.size] := by unfold kids; rw [hn]; simp; omega
  rw [PT.size]
  have e : List.range' b (1 + tl.size + tr.size) = b :: (List.range' (b + 1) tl.size ++ List.range' (b + 1 + tl.size) tr.size) := by
   rw [show 1 + tl.size + tr.size = (tl.size + tr.size) + 1 by omega, List.range'_succ, List.range'_append_1]
  rw [e, List.map_cons, List.sum_cons, List.map_append, List.sum_append, ihl _ hAl, ihr _ hAr, hk, List.count_cons, List.count_cons, List.count_nil];simp only [beq_iff_eq]
  repeat' split
  all_goals omega
end
end Go.Proofs.Ytdnjagfbhppmbaa.Pure
