import Derived.Test.YtdnjagfbhppmbaaPuf
import Derived.Test.YtdnjagfbhppmbaaPAx9
import Derived.Test.YtdnjagfbhppmbaaOp
namespace Go.Proofs.Ytdnjagfbhppmbaa.Pure
open Go.RowKit Go.Proofs.Ytdnjagfbhppmbaa Go.Proofs.Ytdnjagfbhppmbaa.PA Go.Proofs.YtdnjagfbhppmbaaW.PrintWords Go.Proofs.YtdnjagfbhppmbaaW.PrintLast Go.Proofs.YtdnjagfbhppmbaaW.PrintMore
set_option linter.unusedVariables false
set_option linter.unusedSimpArgs false

section
variable (F : Nat → Nat → Int) (len wid : Nat) (hlen : len ≤ 1000) (hwid : wid ≤ 1000)
include hlen hwid
theorem same2_l1 (i : Nat) (hi : i < len + 1) (hnext : Ev (fun k => gangsawref25_Same.l0 k (rowsL F wid (len + 1)) (rowsL F wid (len + 1)) ((i + 1 : Nat) : Int)) true) :
    ∀ (d j : Nat), wid + 1 - j = d → Ev (fun k => gangsawref25_Same.l1 k (rowsL F wid (len + 1)) (rowsL F wid (len + 1)) (i : Int) (j : Int)) true := by
  have _u1 := hlen
  have _u2 := hwid
  intro d
  induction d with
  | zero =>
    intro j hd
    refine Ev.step (fun k => ?_) hnext
    rw [gangsawref25_Same.l1, if_pos (by omega), rowsL_len, if_pos (by omega), if_neg (by rw [rowsL_row hi, row_len]; omega), wrap_nat1 (by omega)]
  | succ d ih =>
    intro j hd
    refine Ev.step (fun k => ?_) (ih (j + 1) (by omega))
    rw [gangsawref25_Same.l1, if_pos (by omega), rowsL_len, if_pos (by omega), if_pos (by rw [rowsL_row hi, row_len]; omega), if_pos (by omega), if_pos (by omega), if_pos (by rw [rowsL_row hi, row_len]; omega), if_pos rfl, wrap_nat1 (by omega)]
theorem same2_l0 : ∀ (d i : Nat), len + 1 - i = d → Ev (fun k => gangsawref25_Same.l0 k (rowsL F wid (len + 1)) (rowsL F wid (len + 1)) (i : Int)) true := by
  have _u1 := hlen
  have _u2 := hwid
  intro d
  induction d with
  | zero =>
    intro i hd
    refine Ev.step (f := fun _ => some true) (fun k => ?_) (Ev.now _)
    rw [gangsawref25_Same.l0, rowsL_len, if_neg (by omega)]
  | succ d ih =>
    intro i hd
    refine Ev.step (fun k => ?_) (same2_l1 F len wid hlen hwid i (by omega) (ih (i + 1) (by omega)) (wid + 1) 0 rfl)
    rw [gangsawref25_Same.l0, rowsL_len, if_pos (by omega), if_pos (by omega), if_pos (by omega), if_pos rfl]; rfl
theorem same2_f : Ev (fun k => gangsawref25_Same.f k (rowsL F wid (len + 1)) (rowsL F wid (len + 1))) true := by
  refine Ev.congr (fun k => ?_) (same2_l0 F len wid hlen hwid (len + 1) 0 rfl)
  unfold gangsawref25_Same.f
  rw [if_pos rfl]; rfl
/-- Both trims find the same. -/
theorem trim_l1 (i : Nat) (hi : i ≤ len) (v : Int) (hv : F i wid = v) : ∀ (d j : Nat), wid - j = d → j ≤ wid → ∃ q, Ev (fun k => flatpack_Trim.l1 k (rowsL F wid (len + 1)) v (i : Int) (j : Int)) ((i : Int), q, 0) ∧ Ev (fun k => gangsawref25_Trim.l1 k (rowsL F wid (len + 1)) v (i : Int) (j : Int)) ((i : Int), q) := by
  have _u1 := hlen
  have _u2 := hwid
  intro d
  induction d with
  | zero =>
    intro j hd hj
    obtain rfl : j = wid := by omega
    refine ⟨(j : Int), Ev.step (f := fun _ => some ((i : Int), (j : Int), 0)) (fun k => ?_) (Ev.now _), Ev.step (f := fun _ => some ((i : Int), (j : Int))) (fun k => ?_) (Ev.now _)⟩
    · rw [flatpack_Trim.l1, if_pos (by omega), rowsL_len, if_pos (by omega), if_pos (by omega), if_pos (by rw [rowsL_row (by omega), row_len]; omega), if_pos (by rw [rowsL_row (by omega), rd_row (by omega), hv])]
    · rw [gangsawref25_Trim.l1, if_pos (by omega), rowsL_len, if_pos (by omega), if_pos (by omega), if_pos (by rw [rowsL_row (by omega), row_len]; omega), if_pos (by rw [rowsL_row (by omega), rd_row (by omega), hv])]
  | succ d ih =>
    intro j hd hj
    by_cases hf : F i j = v
    · refine ⟨(j : Int), Ev.step (f := fun _ => some ((i : Int), (j : Int), 0)) (fun k => ?_) (Ev.now _), Ev.step (f := fun _ => some ((i : Int), (j : Int))) (fun k => ?_) (Ev.now _)⟩
      · rw [flatpack_Trim.l1, if_pos (by omega), rowsL_len, if_pos (by omega), if_pos (by omega), if_pos (by rw [rowsL_row (by omega), row_len]; omega), if_pos (by rw [rowsL_row (by omega), rd_row (by omega), hf])]
      · rw [gangsawref25_Trim.l1, if_pos (by omega), rowsL_len, if_pos (by omega), if_pos (by omega), if_pos (by rw [rowsL_row (by omega), row_len]; omega), if_pos (by rw [rowsL_row (by omega), rd_row (by omega), hf])]
    · obtain ⟨q, e1, e2⟩ := ih (j + 1) (by omega) (by omega)
      refine ⟨q, Ev.step (fun k => ?_) e1, Ev.step (fun k => ?_) e2⟩
      · rw [flatpack_Trim.l1, if_pos (by omega), rowsL_len, if_pos (by omega), if_pos (by omega), if_pos (by rw [rowsL_row (by omega), row_len]; omega), if_neg (by rw [rowsL_row (by omega), rd_row (by omega)]; exact hf), wrap_nat1 (by omega)]
      · rw [gangsawref25_Trim.l1, if_pos (by omega), rowsL_len, if_pos (by omega), if_pos (by omega), if_pos (by rw [rowsL_row (by omega), row_len]; omega), if_neg (by rw [rowsL_row (by omega), rd_row (by omega)]; exact hf), wrap_nat1 (by omega)]
theorem trim_l0 (v : Int) (hv : F len wid = v) (hw1 : 1 ≤ wid) : ∀ (d i : Nat), len - i = d → i ≤ len → ∃ p q, Ev (fun k => flatpack_Trim.l0 k (wid : Int) (rowsL F wid (len + 1)) v (i : Int) 1) (p, q, 0) ∧ Ev (fun k => gangsawref25_Trim.l0 k (wid : Int) (rowsL F wid (len + 1)) v (i : Int)) (p, q) := by
  have _u1 := hlen
  have _u2 := hwid
  intro d
  induction d with
  | zero =>
    intro i hd hi
    obtain rfl : i = len := by omega
    obtain ⟨q, e1, e2⟩ := trim_l1 F i wid hlen hwid i (Nat.le_refl _) v hv (wid - 1) 1 rfl hw1
    refine ⟨(i : Int), q, Ev.step (fun k => ?_) e1, Ev.step (fun k => ?_) e2⟩
    · rw [flatpack_Trim.l0, if_pos (by omega), rowsL_len, if_pos (by omega), if_pos (by omega), if_pos (by rw [rowsL_row (by omega), row_len]; omega), if_pos (by rw [rowsL_row (by omega), rd_row (by omega), hv])]; rfl
    · rw [gangsawref25_Trim.l0, if_pos (by omega), rowsL_len, if_pos (by omega), if_pos (by omega), if_pos (by rw [rowsL_row (by omega), row_len]; omega), if_pos (by rw [rowsL_row (by omega), rd_row (by omega), hv])]; rfl
  | succ d ih =>
    intro i hd hi
    by_cases hf : F i wid = v
    · obtain ⟨q, e1, e2⟩ := trim_l1 F len wid hlen hwid i hi v hf (wid - 1) 1 rfl hw1
      refine ⟨(i : Int), q, Ev.step (fun k => ?_) e1, Ev.step (fun k => ?_) e2⟩
      · rw [flatpack_Trim.l0, if_pos (by omega), rowsL_len, if_pos (by omega), if_pos (by omega), if_pos (by rw [rowsL_row (by omega), row_len]; omega), if_pos (by rw [rowsL_row (by omega), rd_row (by omega), hf])]; rfl
      · rw [gangsawref25_Trim.l0, if_pos (by omega), rowsL_len, if_pos (by omega), if_pos (by omega), if_pos (by rw [rowsL_row (by omega), row_len]; omega), if_pos (by rw [rowsL_row (by omega), rd_row (by omega), hf])]; rfl
    · obtain ⟨p, q, e1, e2⟩ := ih (i + 1) (by omega) (by omega)
      refine ⟨p, q, Ev.step (fun k => ?_) e1, Ev.step (fun k => ?_) e2⟩
      · rw [flatpack_Trim.l0, if_pos (by omega), rowsL_len, if_pos (by omega), if_pos (by omega), if_pos (by rw [rowsL_row (by omega), row_len]; omega), if_neg (by rw [rowsL_row (by omega), rd_row (by omega)]; exact hf), wrap_nat1 (by omega)]
      · rw [gangsawref25_Trim.l0, if_pos (by omega), rowsL_len, if_pos (by omega), if_pos (by omega), if_pos (by rw [rowsL_row (by omega), row_len]; omega), if_neg (by rw [rowsL_row (by omega), rd_row (by omega)]; exact hf), wrap_nat1 (by omega)]
end
theorem FlatpackBests (a0 a1 : Int) (l2 : List S36) (a3 : Int) (_ : Rng a0) (_ : Rng a1) (_ : l2.length ≤ maxLen) (_ : ∀ x ∈ l2, Good36 x) (_ : Rng a3) : ∃ k, gangsawlaw25_FlatpackBests.f k a0 a1 l2 a3 = some true := by
  have key : Ev (fun k => gangsawlaw25_FlatpackBests.f k a0 a1 l2 a3) true := by
    obtain ⟨s, hs, hsp⟩ : ∃ s, Ev (fun k => gangsawref25_Small.f k a0 a1 l2) s ∧ (s = true → (a0 ≤ 14 ∨ 40 < a0) ∧ (a1 ≤ 14 ∨ 40 < a1) ∧ l2.length ≤ 10 ∧ ∀ x ∈ l2, x.f0.size ≤ 100) := by
      obtain ⟨s, hs, hp⟩ := small_f a0 a1 l2 21 (by omega)
      exact ⟨s, Ev.of (fun k => gangsawref25_Small.mono _ _ _ k) hs, hp⟩
    refine Ev.congr (fun k => rfl) (?_ : Ev (fun k => (gangsawlaw25_awake.f k).bind fun t241 => (if t241 = true then ((gangsawref25_Small.f k a0 a1 l2).bind fun t242 => (if t242 = true then ((gangsawref25_Check.f k a0 a1 l2 a3).bind fun t243 => (gangsawlaw25_FlatpackBests.j0 k a0 a1 l2 a3 (t243 != 0))) else (gangsawlaw25_FlatpackBests.j0 k a0 a1 l2 a3 true))) else (some false))) true)
    refine Ev.bind awake_f (Ev.congr (fun k => if_pos rfl) (Ev.bind hs ?_))
    have yes : Ev (fun k => gangsawlaw25_FlatpackBests.j0 k a0 a1 l2 a3 true) true := Ev.step (f := fun _ => some true) (fun k => by rw [gangsawlaw25_FlatpackBests.j0, if_pos rfl]) (Ev.now _)
    cases s with
    | false => exact Ev.congr (fun k => if_neg (by simp)) yes
    | true =>
      obtain ⟨h0, h1, h2, h3⟩ := hsp rfl
      refine Ev.congr (fun k => if_pos rfl) (Ev.bind (⟨4 * l2.length + 100 + 9, fun k hk => check_f a0 a1 l2 a3 (by omega) 100 h3 (by omega) k (by omega)⟩ : Ev (fun k => gangsawref25_Check.f k a0 a1 l2 a3) (checkR a0 a1 l2 a3)) ?_)
      by_cases hc : checkR a0 a1 l2 a3 = 0
      · obtain ⟨g0, g1, g2, g3, g4⟩ := chk0 hc
        obtain ⟨L, rfl⟩ : ∃ n : Nat, a0 = n := ⟨a0.toNat, by omega⟩
        obtain ⟨Wd, rfl⟩ : ∃ n : Nat, a1 = n := ⟨a1.toNat, by omega⟩
        obtain ⟨kf, rfl⟩ : ∃ n : Nat, a3 = n := ⟨a3.toNat, by omega⟩
        have hb := bounds_f L Wd kf l2 (by omega) (by omega) (by omega) (by omega)
        have hT : flatpack_table.f (L : Int) (Wd : Int) l2 (kf : Int) = some (tableR L Wd l2 kf) := tableF hc
        have hB : flatpack_Bounds.f (L : Int) (Wd : Int) l2 (kf : Int) = some (tableR L Wd l2 kf, 0) := by
          unfold flatpack_Bounds.f
          rw [checkF h3, hc]
          simp only [Option.bind_some]
          rw [if_pos trivial, hT]; rfl
        obtain ⟨p, q, e1, e2⟩ := trim_l0 (val (exactF l2) kf) L Wd (by omega) (by omega) _ rfl (by omega) (L - 1) 1 rfl (by omega)
        have hrow : rd (rd_L5 (tableR L Wd l2 kf) (L : Int)) (Wd : Int) = val (exactF l2) kf L Wd := by rw [tab_row (Nat.le_refl _), rd_row (Nat.le_refl _)]
        have pre : ∀ {α : Type} (g : Option α), (if 0 ≤ (L : Int) then (if (L : Int) < ((tableR L Wd l2 kf).length : Int) then (if 0 ≤ (Wd : Int) then (if (Wd : Int) < ((rd_L5 (tableR L Wd l2 kf) (L : Int)).length : Int) then g else none) else none) else none) else none) = g := by
          intro α g
          rw [tab_len, if_pos (by omega), if_pos (by omega), if_pos (by omega), if_pos (by rw [tab_row (Nat.le_refl _), row_len]; omega)]
        have hTr : Ev (fun k => flatpack_Trim.f k (L : Int) (Wd : Int) l2 (kf : Int)) (p, q, 0) := by
          refine Ev.congr (fun k => ?_) e1
          unfold flatpack_Trim.f
          rw [checkF h3, hc]
          simp only [Option.bind_some]
          rw [if_pos trivial, hT]
          simp only [Option.bind_some]
          rw [pre, hrow]; rfl
        have hRT : Ev (fun k => gangsawref25_Trim.f k (L : Int) (Wd : Int) l2 (kf : Int)) (p, q) := by
          refine Ev.bind hb (Ev.congr (fun k => ?_) e2)
          rw [pre, hrow]; rfl
        have hRB : Ev (fun k => gangsawref25_Best.f k (L : Int) (Wd : Int) l2 (kf : Int)) (val (exactF l2) kf L Wd) := by
          refine Ev.bind hb (Ev.congr (fun k => ?_) (Ev.now _))
          rw [pre, hrow]
        have hS : Ev (fun k => gangsawref25_Same.f k (tableR L Wd l2 kf) (tableR L Wd l2 kf)) true := same2_f (val (exactF l2) kf) L Wd (by omega) (by omega)
        refine Ev.step (f := fun k => (flatpack_Trim.f k (L : Int) (Wd : Int) l2 (kf : Int)).bind fun bt330 => (gangsawref25_Trim.f k (L : Int) (Wd : Int) l2 (kf : Int)).bind fun bt333 => if bt330.2.2 = 0 then ((gangsawref25_Best.f k (L : Int) (Wd : Int) l2 (kf : Int)).bind fun t335 => if val (exactF l2) kf L Wd = t335 then ((gangsawref25_Bounds.f k (L : Int) (Wd : Int) l2 (kf : Int)).bind fun t336 => (gangsawref25_Same.f k (tableR L Wd l2 kf) t336).bind fun t339 => if t339 = true then (if bt330.1 = bt333.1 then some (bt330.2.1 == bt333.2) else some false) else some false) else some false) else some false) (fun k => ?_) ?_
        · rw [gangsawlaw25_FlatpackBests.j0, hc, if_neg (by simp), best_f L Wd kf l2 hc h3, hB]
          simp only [Option.bind_some]
          rfl
        · refine Ev.bind hTr (Ev.bind hRT (Ev.congr (fun k => if_pos rfl) (Ev.bind hRB (Ev.congr (fun k => if_pos rfl) (Ev.bind hb (Ev.bind hS (Ev.congr (fun k => ?_) (Ev.now true))))))))
          rw [if_pos rfl, if_pos rfl]; simp
      · have e : (checkR a0 a1 l2 a3 != 0) = true := by simpa using hc
        rw [e]
        exact yes
  exact key.rounds
end Go.Proofs.Ytdnjagfbhppmbaa.Pure
