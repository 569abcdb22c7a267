import Derived.Test.YtdnjagfbhppmbaaPue
namespace Go.Proofs.Ytdnjagfbhppmbaa.Pure
open Go.RowKit Go.Proofs.Ytdnjagfbhppmbaa Go.Proofs.Ytdnjagfbhppmbaa.PA Go.Proofs.YtdnjagfbhppmbaaW.PrintWords Go.Proofs.YtdnjagfbhppmbaaW.PrintLast Go.Proofs.YtdnjagfbhppmbaaW.PrintMore
set_option linter.unusedVariables false
set_option linter.unusedSimpArgs false
def pr : List S36 := [⟨⟨#[97]⟩, ⟨3, 2, 1⟩, 10, 0, 0⟩, ⟨⟨#[98]⟩, ⟨2, 2, 1⟩, 6, 0, 0⟩]
def wantP : List S59 := [⟨3, ⟨#[]⟩, 0, 2, 1, 1, 2⟩, ⟨1, ⟨#[98]⟩, 0, 0, 0, 0, 0⟩, ⟨1, ⟨#[97]⟩, 0, 0, 0, 0, 0⟩]
theorem pr_names : ∀ x ∈ pr, x.f0.size ≤ 100 := by
 intro x hx;simp only [pr, List.mem_cons, List.not_mem_nil, or_false] at hx
 rcases hx with rfl | rfl
 ·show (1 : Nat) ≤ 100; omega
 ·show (1 : Nat) ≤ 100; omega
theorem c7 : checkR 7 2 pr 1 = 0 := by decide +kernel
theorem c6 : checkR 6 2 pr 1 = 0 := by decide +kernel
theorem c4 : checkR 4 2 pr 1 = 0 := by decide +kernel
theorem v7 : val (exactF pr) 1 7 2 = 20 := by decide +kernel
theorem v6 : val (exactF pr) 1 6 2 = 16 := by decide +kernel
def tab6 : List (List Int) := [[0,0,0],[0,0,0],[0,0,6],[0,0,10],[0,0,6],[0,0,12],[0,0,16]]
def tab4 : List (List Int) := [[0,0,0],[0,0,0],[0,0,6],[0,0,10],[0,0,6]]
theorem t6 : tableR 6 2 pr 1 = tab6 := by decide +kernel
theorem t4 : tableR 4 2 pr 1 = tab4 := by decide +kernel
theorem p6 : gangsawref25_part.f 40 [] tab6 pr 1 0 0 6 2 = some wantP := by kernel_rfl
theorem trim4 : flatpack_Trim.l0 20 2 tab4 (rd (rd_L5 tab4 4) 2) 1 1 = some (2, 2, 0) := by kernel_rfl
theorem tab_len (len wid : Nat) (l : List S36) (k : Nat) : (tableR len wid l k).length = len + 1 := by simp [tableR]
theorem tab_row {len wid : Nat} {l : List S36} {k a : Nat} (h : a ≤ len) : rd_L5 (tableR len wid l k) (a : Int) = (List.range (wid + 1)).map fun b => val (exactF l) k a b := rowsL_row (by omega)
theorem best_f (L Wd kf : Nat) (l : List S36) (h : checkR (L : Int) (Wd : Int) l (kf : Int) = 0) (hM : ∀ x ∈ l, x.f0.size ≤ 100) : flatpack_Best.f (L : Int) (Wd : Int) l (kf : Int) = some (val (exactF l) kf L Wd, 0) := by
 unfold flatpack_Best.f
 rw [checkF hM, h];simp only [Option.bind_some];rw [if_pos trivial, tableF h];simp only [Option.bind_some, Int.toNat_natCast];rw [tab_len, if_pos (by omega), if_pos (by omega), if_pos (by omega), if_pos (by rw [tab_row (Nat.le_refl _), row_len]; omega), tab_row (Nat.le_refl _), rd_row (Nat.le_refl _)]
theorem plan6 : flatpack_Plan.f 6 2 pr 1 = some (wantP, 0) := by
 obtain ⟨r, h1, h2, _⟩ := plan_f 6 2 1 pr c6 pr_names (by omega) (by omega)
 have hp : Ev (fun k => gangsawref25_part.f k [] (tableR 6 2 pr 1) pr 1 0 0 6 2) wantP := by
  rw [t6];exact Ev.of (fun k => gangsawref25_part.mono _ _ _ _ _ _ _ _ k) p6
 have e : r = wantP := Ev.uniq h2 hp;rw [← e];exact h1
theorem trim_4 : Ev (fun k => flatpack_Trim.f k 4 2 pr 1) (2, 2, 0) := by
 refine Ev.of (fun k => flatpack_Trim.mono _ _ _ _ k) (k := 20) ?_
 unfold flatpack_Trim.f
 rw [checkF pr_names, c4];simp only [Option.bind_some];rw [if_pos trivial, tableF c4];simp only [Option.bind_some];have e : tableR (4 : Int).toNat (2 : Int).toNat pr (1 : Int).toNat = tab4 := t4;rw [e];exact trim4
theorem awake_f : Ev (fun k => gangsawlaw25_awake.f k) true := by
 have b7 : flatpack_Best.f 7 2 pr 1 = some (20, 0) := by have := best_f 7 2 1 pr c7 pr_names; rw [v7] at this; exact this
 have b6 : flatpack_Best.f 6 2 pr 1 = some (16, 0) := by have := best_f 6 2 1 pr c6 pr_names; rw [v6] at this; exact this
 have hp : gangsawlaw25_pair.f = some pr := rfl
 refine Ev.congr (f := fun k => (flatpack_Trim.f k 4 2 pr 1).bind fun bt142 => (gangsawref24_Same.f k wantP wantP).bind fun t148 => (if t148 = true then (if bt142.2.2 = 0 then (if bt142.1 = 2 then (some (bt142.2.1 == 2)) else (some false)) else (some false)) else (some false))) (fun k => ?_) (Ev.bind trim_4 (Ev.bind (same_f wantP (by decide)) (Ev.now _)))
 unfold gangsawlaw25_awake.f
 rw [hp];simp only [Option.bind_some, b7, b6, plan6];rfl
end Go.Proofs.Ytdnjagfbhppmbaa.Pure
