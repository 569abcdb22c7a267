import Derived.Test.YtdnjagfbhppmbaaOpn
import Derived.Test.YtdnjagfbhppmbaaPAx207
import Derived.Test.YtdnjagfbhppmbaaPug
import Derived.Test.YtdnjagfbhppmbaaPuo
import Derived.Test.YtdnjagfbhppmbaaPuv
namespace Go.Proofs.Ytdnjagfbhppmbaa.Pure
open Go.RowKit Go.Proofs.Ytdnjagfbhppmbaa Go.Proofs.Ytdnjagfbhppmbaa.PA Go.Proofs.YtdnjagfbhppmbaaW.PrintWords Go.Proofs.YtdnjagfbhppmbaaW.PrintLast Go.Proofs.YtdnjagfbhppmbaaW.PrintMore
set_option linter.unusedVariables false
set_option linter.unusedSimpArgs false
theorem chk_lex {a0 a1 : Int} {l : List S36} {a3 : Int} (h : checkR a0 a1 l a3 = 0) : ∀ x ∈ l, lexName x.f0 = true := by
 intro x hx
 unfold checkR at h
 by_cases c : sideB a0 = true ∧ sideB a1 = true ∧ ¬ a3 < 0 ∧ ¬ 40 < a3
 ·rw [if_pos c] at h;by_cases h6 : 6 < l.length
  ·rw [if_pos h6] at h; omega
  ·rw [if_neg h6] at h;by_cases h4 : l.any (fun x => !lexName x.f0) = true
   ·rw [if_pos h4] at h; omega
   ·cases e : lexName x.f0 with
    | true => rfl
    | false => exact absurd (List.any_eq_true.2 ⟨x, hx, by rw [e]; rfl⟩) h4
 ·rw [if_neg c] at h; omega
theorem chk_vals {a0 a1 : Int} {l : List S36} {a3 : Int} (h : checkR a0 a1 l a3 = 0) : ∀ x ∈ l, (1 ≤ x.f1.f0 ∧ 1 ≤ x.f1.f1) ∧ 0 ≤ x.f2 ∧ x.f2 ≤ 1000000001 := by
 intro x hx;have := (chk0 h).2.2.2.2 x hx
 unfold badSize sideB at this
 simp at this
 omega
theorem sumR_end (l : List S36) : ∀ (L : List S87) (s : Int), (sumR l L s).2 = 0 ∨ (sumR l L s).1 = 0
 | [], s => .inl rfl
 | x :: r, s => by
  rw [sumR]
  split
  ·split
   ·split
    (exact sumR_end l r _);(exact .inr rfl)
   (exact .inr rfl)
  (exact sumR_end l r s)
theorem value_end (a0 a1 : Int) (l : List S36) (a3 : Int) (ns : List S59) : (valueR a0 a1 l a3 ns).2 = 0 ∨ (valueR a0 a1 l a3 ns).1 = 0 := by
 unfold valueR
 split
 ·split
  ·split
   (exact .inr rfl)
   ·split
    (exact .inr rfl);(exact sumR_end l _ _)
  (exact .inr rfl)
 (exact .inr rfl)
theorem tree_value (L Wd kf : Nat) (items : List S36) (hc : checkR (L : Int) (Wd : Int) items (kf : Int) = 0) (hM : ∀ x ∈ items, x.f0.size ≤ 100) (T : PT) (v : Int) (hF : Fits items kf T 0 0 L Wd v) (hsz : T.size ≤ 1024) (hv18 : v ≤ 1000000000000000000) :
  valueR (L : Int) (Wd : Int) items (kf : Int) (T.enc kf 0) = (v, 0) ∧ ∀ x ∈ T.enc kf 0, x.f1.size ≤ 9223372036854775807 := by
 obtain ⟨g0, g1, g2, _, _⟩ := chk0 hc
 have hA : At (T.enc kf 0) (kf : Int) T 0 := by
  have := at_enc (kf : Int) T [] []
  simpa using this
 have hlen : (T.enc kf 0).length = T.size := enc_len _ _ _;have hpos := size_pos T;have hN := tree_nodes items kf (T.enc kf 0) (by omega) (chk_dup hc) hM (chk_lex hc) T 0 0 0 L Wd v hA hF;obtain ⟨W1, W2⟩ := tree_walk items kf (T.enc kf 0) (by omega) (chk_dup hc) (fun x hx => (chk_vals hc x hx).2) T (T.enc kf 0).length 0 0 0 L Wd 0 1 0 v hA hF (by omega) (by omega) (by omega)
 have hP := fun x => tree_parts kf (T.enc kf 0) x T 0 hA
 have hnd : ∀ j (h : j < (T.enc kf 0).length), NodeOK items kf (T.enc kf 0) j := fun j h => hN j (Nat.zero_le _) (by omega)
 have hroot : (⟨((0 : Nat) : Int), ⟨⟨((0 : Nat) : Int), ((0 : Nat) : Int), 0⟩, ⟨((0 + L : Nat) : Int), ((0 + Wd : Nat) : Int), 1⟩⟩, 0⟩ : S107) = root ⟨(L : Int), (Wd : Int), 1⟩ := by
  rw [Nat.zero_add, Nat.zero_add]; rfl
 rw [hroot] at W1 W2;generalize T.enc kf 0 = r at *
 have hr0 : r.length ≠ 0 := by omega
 have hpar : ∀ x, parF r r.length x = if 0 < x ∧ x < r.length then 1 else 0 := by
  intro x;rw [par_sum, List.range_eq_range', hlen, hP x, Nat.zero_add, ← hlen]
  split <;> rfl
 have hany : ∀ (q : S59 → Bool), (∀ j (h : j < r.length), q (rd_T59 r (j : Int)) = false) → r.any q = false := by
  intro q hq;rw [Bool.eq_false_iff];intro hcc;obtain ⟨x, hx, h1⟩ := List.any_eq_true.1 hcc;obtain ⟨j, hj, rfl⟩ := List.getElem_of_mem hx;have := hq j hj;rw [rd59 r j hj, h1] at this
  cases this
 have hshape : shapeR r = 0 := by
  unfold shapeR
  rw [if_neg (by omega), if_pos (firstErr_zero r (fun j h => (hnd j h).err))]
  have h1 : (parL r).any (fun n => decide (1 < n)) = false := by
   rw [Bool.eq_false_iff];intro hcc;obtain ⟨x, hx, h1⟩ := List.any_eq_true.1 hcc
   unfold parL at hx
   obtain ⟨j, hj, rfl⟩ := List.mem_map.1 hx;rw [hpar j] at h1
   split at h1 <;> simp at h1
  have h2 : ((parL r).drop 1).any (· == 0) = false := by
   rw [Bool.eq_false_iff];intro hcc;obtain ⟨x, hx, h1⟩ := List.any_eq_true.1 hcc;obtain ⟨j, hj⟩ := List.mem_iff_getElem?.1 hx;rw [List.getElem?_drop] at hj
   have hlt : 1 + j < r.length := by
    have := (List.getElem?_eq_some_iff.1 hj).1
    rw [parL_len] at this; exact this
   unfold parL at hj
   simp [hlt] at hj
   rw [hpar, if_pos (by omega)] at hj;subst hj
   simp at h1
  rw [h1, h2];rfl
 have hplace : placesR r ⟨(L : Int), (Wd : Int), 1⟩ = 0 := by
  unfold placesR
  rw [if_neg];intro hcc;obtain ⟨t, ht, h1⟩ := List.any_eq_true.1 hcc;rw [W1 t ht] at h1
  cases h1
 have hsized : sizedB ⟨(L : Int), (Wd : Int), 1⟩ = true := by
  unfold sizedB cooB
  simp
  omega
 have hg : gCheckR r ⟨(L : Int), (Wd : Int), 1⟩ = 0 := by
  unfold gCheckR
  rw [if_pos hsized, if_neg hr0, if_pos hshape, hplace]
 refine ⟨?_, fun x hx => ?_⟩
 ·unfold valueR
  rw [if_pos hc, if_pos hg, hany _ (fun j h => (hnd j h).cut), hany _ (fun j h => (hnd j h).kn), if_neg (by decide), if_neg (by decide)]
  unfold gLeavesR
  rw [if_pos hg];have := W2 [] 0 (Int.le_refl _) (by omega);rw [List.append_nil, Int.zero_add] at this;exact this
 ·obtain ⟨j, hj, rfl⟩ := List.getElem_of_mem hx;have := (hnd j hj).sz;rw [rd59 r j hj] at this
  omega
theorem value_le (L Wd kf : Nat) (items : List S36) (hL : L ≤ 14) (hW : Wd ≤ 14) (ns : List S59) (h0 : (valueR (L : Int) (Wd : Int) items (kf : Int) ns).2 = 0) (hc : checkR (L : Int) (Wd : Int) items (kf : Int) = 0) : (valueR (L : Int) (Wd : Int) items (kf : Int) ns).1 ≤ val (exactF items) kf L Wd := by
 obtain ⟨g0, g1, g2, _, _⟩ := chk0 hc
 have hvs := fun x hx => (chk_vals hc x hx).2
 have hB : Bex (exactF items) := e_bex (fun x hx => (hvs x hx).2)
 unfold valueR at h0 ⊢
 rw [if_pos hc] at h0 ⊢;by_cases hg : gCheckR ns ⟨(L : Int), (Wd : Int), 1⟩ = 0
 ·rw [if_pos hg] at h0 ⊢;by_cases h42 : ns.any (bad42 (kf : Int)) = true
  ·rw [if_pos h42] at h0; cases h0
  ·rw [if_neg h42] at h0 ⊢;by_cases hu : ns.any (unk items) = true
   ·rw [if_pos hu] at h0; cases h0
   ·rw [if_neg hu] at h0 ⊢;obtain ⟨b1, b2, b3, b4⟩ := gcheck_zero hg;have hsh := shaped_of b3;have hwl := walk_len hsh b2 ⟨(L : Int), (Wd : Int), 1⟩;have hle := hsh.le
    have hLl : (gLeavesR ns ⟨(L : Int), (Wd : Int), 1⟩).length ≤ 1024 := by
     have : (gLeavesR ns ⟨(L : Int), (Wd : Int), 1⟩).length ≤ (walkS ns ⟨(L : Int), (Wd : Int), 1⟩).length := by
      unfold gLeavesR
      rw [if_pos hg]
      unfold leavesL
      rw [List.length_map];exact List.length_filter_le _ _
     omega
    obtain ⟨q1, q2⟩ := sumR_ok items hvs (gLeavesR ns ⟨(L : Int), (Wd : Int), 1⟩) 0 (sumR items (gLeavesR ns ⟨(L : Int), (Wd : Int), 1⟩) 0).1 (Prod.ext rfl h0) (Int.le_refl _) (by omega);rw [q2, Int.zero_add]
    have hrd : ∀ (q : S59 → Bool), ¬ ns.any q = true → ∀ i : Int, 0 ≤ i → i < (ns.length : Int) → q (rd_T59 ns i) = false := by
     intro q hq i h1 h2
     obtain ⟨j, rfl⟩ : ∃ j : Nat, i = (j : Int) := ⟨i.toNat, by omega⟩
     rw [rd59 ns j (by omega)]
     cases e : q ns[j] with
     | false => rfl
     | true => exact absurd (List.any_eq_true.2 ⟨_, List.getElem_mem _, e⟩) hq
    have hax : ∀ i : Int, 0 ≤ i → i < (ns.length : Int) → (rd_T59 ns i).f0 = 3 → 0 ≤ (rd_T59 ns i).f2 ∧ (rd_T59 ns i).f2 ≤ 2 := by
     intro i h1 h2 h3
     obtain ⟨j, rfl⟩ : ∃ j : Nat, i = (j : Int) := ⟨i.toNat, by omega⟩
     have he := hsh.err j (by omega)
     unfold nodeErr nodeR at he
     rw [if_pos h3] at he
     unfold cutR at he
     by_cases c1 : (rd_T59 ns (j : Int)).f1.toList.isEmpty = true
     ·rw [if_pos c1] at he;by_cases c2 : (rd_T59 ns (j : Int)).f2 < 0
      ·rw [if_pos c2] at he; cases he
      ·rw [if_neg c2] at he;by_cases c3 : 2 < (rd_T59 ns (j : Int)).f2
       ·rw [if_pos c3] at he; cases he
       ·omega
     ·rw [if_neg c1] at he; cases he
    have hbad : ∀ t ∈ walkS ns ⟨(L : Int), (Wd : Int), 1⟩, badS ns t = false := by
     intro t ht
     unfold placesR at b4
     cases e : badS ns t with
     | false => rfl
     | true => rw [if_pos (List.any_eq_true.2 ⟨t, ht, e⟩)] at b4; cases b4
    have hfit : ∀ x ∈ leavesL ns (walkS ns ⟨(L : Int), (Wd : Int), 1⟩), fitsB items x := by
     intro x hx
     refine q1 x ?_
     unfold gLeavesR
     rw [if_pos hg];exact hx
    have H := walk_le items kf (by omega) hB ns hsh.good (hrd _ h42) hax (hrd _ hu) ns.length (root ⟨(L : Int), (Wd : Int), 1⟩) L Wd (Int.le_refl _) (by show (0 : Int) < _; omega) (Int.le_refl _) (Int.le_refl _) (by show (L : Int) = 0 + L; omega) (by show (Wd : Int) = 0 + Wd; omega) (by show (L : Int) ≤ 14; omega) (by show (Wd : Int) ≤ 14; omega) (by omega) (by omega) hbad hfit
    unfold gLeavesR
    rw [if_pos hg];exact H
 ·rw [if_neg hg] at h0; exact absurd h0 hg
theorem small_val {ex : Nat → Nat → Int} (hB : Bex ex) (k L Wd : Nat) (hL : L ≤ 14) (hW : Wd ≤ 14) : val ex k L Wd ≤ 1000000000000000000 := by
 have hsq : L * Wd ≤ 14 * 14 := Nat.mul_le_mul hL hW;have hbd := (m_bd hB k _ L Wd (Nat.le_refl _) hL hW).2
 omega
theorem plan_tree (L Wd kf : Nat) (items : List S36) (hc : checkR (L : Int) (Wd : Int) items (kf : Int) = 0) (hM : ∀ x ∈ items, x.f0.size ≤ 100) (hL : L ≤ 14) (hW : Wd ≤ 14) (hB : Bex (exactF items)) :
  ∃ T : PT, flatpack_Plan.f (L : Int) (Wd : Int) items (kf : Int) = some (T.enc kf 0, 0) ∧ Fits items kf T 0 0 L Wd (val (exactF items) kf L Wd) ∧ T.size ≤ 1024 := by
 obtain ⟨g0, g1, g2, g3, g4⟩ := chk0 hc;have hsq : L * Wd ≤ 14 * 14 := Nat.mul_le_mul hL hW;obtain ⟨r, e1, e0, e3⟩ := plan_f L Wd kf items hc hM hL hW;obtain ⟨T, hF, hS, hE⟩ := part_tree L Wd kf items hL hW (by omega) hB (by omega) (L + Wd) L Wd (Nat.le_refl _) (Nat.le_refl _) (by omega) (Nat.le_refl _) (by omega) [] 0 0 (by rw [List.length_nil]; omega) (by omega) (by omega);rw [List.nil_append, List.length_nil] at hE;have hr : r = T.enc kf 0 := Ev.uniq e0 hE;rw [hr] at e1;exact ⟨T, e1, hF, by omega⟩
theorem opt_step (k L Wd : Nat) (kf : Int) (l2 : List S36) (l4 r : List S59) (bv : Int) (tb : List (List Int)) (v1 v2 : Int) (hL : L ≤ 14) (hW : Wd ≤ 14) (hbest : flatpack_Best.f (L : Int) (Wd : Int) l2 kf = some (bv, 0)) (e1 : flatpack_Plan.f (L : Int) (Wd : Int) l2 kf = some (r, 0)) (hvr : flatpack_Value.f (L : Int) (Wd : Int) l2 kf r = some (bv, 0)) (hbnd : flatpack_Bounds.f (L : Int) (Wd : Int) l2 kf = some (tb, 0))
  (hpr : flatpack_Proves.f (L : Int) (Wd : Int) l2 kf tb = some true) (hlen : tb.length = L + 1) (hrl : (rd_L5 tb (L : Int)).length = Wd + 1) (hcell : rd (rd_L5 tb (L : Int)) (Wd : Int) = bv) (hv4 : flatpack_Value.f (L : Int) (Wd : Int) l2 kf l4 = some (v1, v2)) (hle : v2 = 0 → v1 ≤ bv) (hend : v2 = 0 ∨ v1 = 0) :
  gangsawlaw25_FlatpackOptimal.j0 (k + 1) (L : Int) (Wd : Int) l2 kf l4 false = some true := by
 have o1 : 0 ≤ (L : Int) := by omega
 have o2 : (L : Int) < ((L + 1 : Nat) : Int) := by omega
 have o3 : 0 ≤ (Wd : Int) := by omega
 have o4 : (Wd : Int) < ((Wd + 1 : Nat) : Int) := by omega
 have o5 : wrap64 ((L : Int) + 1) = ((L + 1 : Nat) : Int) := wrap_nat1 (by omega);have o6 : wrap64 ((Wd : Int) + 1) = ((Wd + 1 : Nat) : Int) := wrap_nat1 (by omega);rw [gangsawlaw25_FlatpackOptimal.j0, if_neg (by simp), hbest, Option.bind_some, if_pos rfl, e1, Option.bind_some]
 dsimp only
 rw [hvr, Option.bind_some, hbnd, Option.bind_some, if_pos rfl]
 dsimp only
 rw [if_pos rfl, if_pos rfl, if_pos rfl, hpr, Option.bind_some, if_pos rfl, hlen, o5, if_pos rfl, if_pos o1, if_pos o2, hrl, o6, if_pos rfl, if_pos o3, if_pos o4, hcell, if_pos rfl, hv4, Option.bind_some]
 dsimp only
 by_cases hz : v2 = 0
 (rw [if_pos hz, decide_eq_true (hle hz)]);(rw [if_neg hz, if_pos (hend.resolve_left hz)])
theorem FlatpackOptimal (a0 a1 : Int) (l2 : List S36) (a3 : Int) (l4 : List S59) (_ : Rng a0) (_ : Rng a1) (_ : l2.length ≤ maxLen) (_ : ∀ x ∈ l2, Good36 x) (_ : Rng a3) (_ : l4.length ≤ maxLen) (hg : ∀ x ∈ l4, Good59 x) : ∃ k, gangsawlaw25_FlatpackOptimal.f k a0 a1 l2 a3 l4 = some true := by
 have hs : ∀ x ∈ l4, x.f1.size ≤ 9223372036854775807 := fun x hx => (hg x hx).1
 have key : Ev (fun k => gangsawlaw25_FlatpackOptimal.f k a0 a1 l2 a3 l4) true := by
  obtain ⟨s, h1, hsp⟩ : ∃ s, Ev (fun k => gangsawref25_Small.f k a0 a1 l2) s ∧ (s = true → (a0 ≤ 14 ∨ 40 < a0) ∧ (a1 ≤ 14 ∨ 40 < a1) ∧ l2.length ≤ 10 ∧ ∀ x ∈ l2, x.f0.size ≤ 100) := by
   obtain ⟨s, hs, hp⟩ := small_f a0 a1 l2 21 (by omega);exact ⟨s, Ev.of (fun k => gangsawref25_Small.mono _ _ _ k) hs, hp⟩
  obtain ⟨b, hb⟩ := few24_f l4
  unfold gangsawlaw25_FlatpackOptimal.f
  refine Ev.bind awake_f (Ev.congr (fun k => if_pos rfl) (Ev.bind h1 ?_))
  have yes : Ev (fun k => gangsawlaw25_FlatpackOptimal.j0 k a0 a1 l2 a3 l4 true) true := Ev.step (f := fun _ => some true) (fun k => by rw [gangsawlaw25_FlatpackOptimal.j0, if_pos rfl]) (Ev.now _)
  cases s with
  | false => exact Ev.congr (fun k => if_neg (by simp)) yes
  | true =>
   obtain ⟨h0, h1, h2, h3⟩ := hsp rfl
   refine Ev.congr (fun k => if_pos rfl) (Ev.bind hb ?_)
   cases b with
   | false => exact yes
   | true =>
    have hv : ∀ ns, (∀ x ∈ ns, x.f1.size ≤ 9223372036854775807) → flatpack_Value.f a0 a1 l2 a3 ns = some (valueR a0 a1 l2 a3 ns) := by
     intro ns hns
     unfold flatpack_Value.f
     rw [if_pos ⟨fun x hx => by have := h3 x hx; omega, hns⟩]
    by_cases hc : checkR a0 a1 l2 a3 = 0
    ·obtain ⟨g0, g1, g2, g3, g4⟩ := chk0 hc
     obtain ⟨L, rfl⟩ : ∃ n : Nat, a0 = n := ⟨a0.toNat, by omega⟩
     obtain ⟨Wd, rfl⟩ : ∃ n : Nat, a1 = n := ⟨a1.toNat, by omega⟩
     obtain ⟨kf, rfl⟩ : ∃ n : Nat, a3 = n := ⟨a3.toNat, by omega⟩
     have hvs := chk_vals hc;have hB : Bex (exactF l2) := e_bex (fun x hx => (hvs x hx).2.2);obtain ⟨T, e1, hF, hS⟩ := plan_tree L Wd kf l2 hc h3 (by omega) (by omega) hB;obtain ⟨hval, hnm⟩ := tree_value L Wd kf l2 hc h3 T _ hF hS (small_val hB kf L Wd (by omega) (by omega));generalize T.enc kf 0 = r at e1 hval hnm;have hbest := best_f L Wd kf l2 hc h3
     have hbnd : flatpack_Bounds.f (L : Int) (Wd : Int) l2 (kf : Int) = some (tableR L Wd l2 kf, 0) := by
      unfold flatpack_Bounds.f
      rw [checkF h3, hc];simp only [Option.bind_some];rw [if_pos trivial, tableF hc];rfl
     obtain ⟨pb, hpb, hiff⟩ := proves_f L Wd kf (tableR L Wd l2 kf) l2 hc (by omega) h3;have hpt : pb = true := hiff.2 (table_sound L Wd kf l2 (by omega) (by omega) hB (fun x hx => (hvs x hx).1));subst hpt
     have hproves : flatpack_Proves.f (L : Int) (Wd : Int) l2 (kf : Int) (tableR L Wd l2 kf) = some true := by
      obtain ⟨K, hK⟩ := hpb;exact hK K (Nat.le_refl _)
     have hend := value_end (L : Int) (Wd : Int) l2 (kf : Int) l4
     have hle := fun h => value_le L Wd kf l2 (by omega) (by omega) l4 h hc
     have hrow := tab_row (len := L) (wid := Wd) (l := l2) (k := kf) (Nat.le_refl L);have hlen := tab_len L Wd l2 kf
     have hcell : rd (rd_L5 (tableR L Wd l2 kf) (L : Int)) (Wd : Int) = val (exactF l2) kf L Wd := by rw [hrow, rd_row (Nat.le_refl _)]
     have hrl : (rd_L5 (tableR L Wd l2 kf) (L : Int)).length = Wd + 1 := by rw [hrow, row_len]
     have hv4 := hv l4 hs;have hvr := hv r hnm;clear hv hvs hrow hiff;exact Ev.step (f := fun _ => some true) (fun k => opt_step k L Wd kf l2 l4 r _ _ _ _ (by omega) (by omega) hbest e1 (hvr.trans (congrArg some hval)) hbnd hproves hlen hrl hcell hv4 hle hend) (Ev.now _)
    ·rcases best_any a0 a1 l2 a3 h3 with ⟨c, _⟩ | ⟨_, hbst⟩
     (exact absurd c hc)
     ·refine Ev.step (f := fun _ => some true) (fun k => ?_) (Ev.now _)
      rw [gangsawlaw25_FlatpackOptimal.j0, if_neg (by simp), hbst];simp only [Option.bind_some];rw [if_neg hc];rfl
 exact key.rounds
end Go.Proofs.Ytdnjagfbhppmbaa.Pure
