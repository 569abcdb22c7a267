import Derived.Test.YtdnjagfbhppmbaaGj
import Derived.Test.YtdnjagfbhppmbaaGx
import Derived.Test.YtdnjagfbhppmbaaPAx226
import Derived.Test.YtdnjagfbhppmbaaPua
import Derived.Sort.Walk0
namespace Go.Proofs.Ytdnjagfbhppmbaa.Pure
open Go.RowKit Go.Proofs.Ytdnjagfbhppmbaa Go.Proofs.Ytdnjagfbhppmbaa.PA Go.Proofs.YtdnjagfbhppmbaaW.PrintWords Go.Proofs.YtdnjagfbhppmbaaW.PrintLast Go.Proofs.YtdnjagfbhppmbaaW.PrintMore
set_option linter.unusedVariables false
set_option linter.unusedSimpArgs false
theorem rising {l : List S36} (h : dupB l = false) : ∀ i j, i < j → j < l.length → (l.getD i z36).f0.toList < (l.getD j z36).f0.toList := by
 have h1 : ∀ j, 1 ≤ j → j < l.length → (l.getD (j - 1) z36).f0.toList < (l.getD j z36).f0.toList := by
  intro j a b
  have : dupAt l j = false := by
   cases e : dupAt l j with
   | false => rfl
   | true => rw [dup_of_at a b e] at h; cases h
  unfold dupAt at this
  rw [bytesLess_eq] at this
  simpa using this
 intro i j hij hj
 induction j with
 | zero => omega
 | succ j ih =>
  have h2 := h1 (j + 1) (by omega) hj;rw [Nat.add_sub_cancel] at h2;by_cases e : i = j
  ·subst e; exact h2
  (exact List.lt_trans (ih (by omega) (by omega)) h2)
theorem apart {l : List S36} (h : dupB l = false) (i j : Nat) (hi : i < l.length) (hj : j < l.length) (e : l[i].f0 = l[j].f0) : i = j := by
 have gi : l.getD i z36 = l[i] := by simp [List.getD, hi]
 have gj : l.getD j z36 = l[j] := by simp [List.getD, hj]
 rcases Nat.lt_trichotomy i j with h1 | h1 | h1
 (have := rising h i j h1 hj;rw [gi, gj, e] at this;exact absurd this (List.lt_irrefl _));(exact h1);(have := rising h j i h1 hi;rw [gi, gj, e] at this;exact absurd this (List.lt_irrefl _))
theorem known_at {l : List S36} (h : dupB l = false) (s : ByteArray) (n : Nat) (hn : n < l.length) (e : l[n].f0 = s) : knownR l s = some l[n] := by
 unfold knownR
 cases hf : l.reverse.find? (fun x => decide (x.f0 = s)) with
 | none =>
  rw [List.find?_eq_none] at hf;exact absurd (by simpa using e) (hf l[n] (List.mem_reverse.2 (List.getElem_mem hn)))
 | some y =>
  have hy := List.find?_some hf;have hm := List.mem_reverse.1 (List.mem_of_find?_eq_some hf);obtain ⟨j, hj, rfl⟩ := List.getElem_of_mem hm
  have hy2 : l[j].f0 = s := by simpa using hy
  have := apart h j n hj hn (by rw [hy2, e]);subst this;rfl
theorem rd59 (l : List S59) (i : Nat) (h : i < l.length) : rd_T59 l (i : Int) = l[i] := by unfold rd_T59; simp [List.getD, h]
theorem chk_dup {a0 a1 : Int} {l : List S36} {a3 : Int} (h : checkR a0 a1 l a3 = 0) : dupB l = false := by
 unfold checkR at h
 repeat' split at h
 all_goals first | (exact absurd h (by decide)) | skip
 cases e : dupB l with
 | false => rfl
 | true => rename_i h5; exact absurd e h5
theorem few24_l0 (t : List S59) (ht : t.length ≤ 2000) : ∀ (d i : Nat), t.length - i = d → ∃ b, Ev (fun k => gangsawref24_Few.l0 k t (i : Int)) b := by
 intro d
 induction d with
 | zero =>
  intro i hd;exact ⟨true, Ev.step (f := fun _ => some true) (fun k => by rw [gangsawref24_Few.l0, if_neg (by omega)]) (Ev.now _)⟩
 | succ d ih =>
  intro i hd;by_cases h : (((rd_T59 t (i : Int)).f1).size : Int) > 60
  (exact ⟨false, Ev.step (f := fun _ => some false) (fun k => by rw [gangsawref24_Few.l0, if_pos (by omega), if_pos (by omega), if_pos h]) (Ev.now _)⟩);(obtain ⟨b, hb⟩ := ih (i + 1) (by omega);exact ⟨b, Ev.step (fun k => by rw [gangsawref24_Few.l0, if_pos (by omega), if_pos (by omega), if_neg h, wrap_nat1 (by omega)]) hb⟩)
theorem few24_f (t : List S59) : ∃ b, Ev (fun k => gangsawref24_Few.f k t) b := by
 have yes : Ev (fun k => gangsawref24_Few.j0 k t true) false := Ev.step (f := fun _ => some false) (fun k => by rw [gangsawref24_Few.j0, if_pos rfl]) (Ev.now _)
 have no : t.length ≤ 2000 → ∃ b, Ev (fun k => gangsawref24_Few.j0 k t false) b := by
  intro h;obtain ⟨b, hb⟩ := few24_l0 t h t.length 0 (by omega);exact ⟨b, Ev.step (fun k => by rw [gangsawref24_Few.j0, if_neg (by decide)]; rfl) hb⟩
 by_cases h1 : (t.length : Int) > 60
 ·by_cases h2 : (t.length : Int) ≤ 1024
  (exact ⟨false, Ev.congr (fun k => by unfold gangsawref24_Few.f; rw [if_pos h1, if_pos h2]) yes⟩)
  ·by_cases h3 : (t.length : Int) > 1034
   (exact ⟨false, Ev.congr (fun k => by unfold gangsawref24_Few.f; rw [if_pos h1, if_neg h2, decide_eq_true h3]) yes⟩);(obtain ⟨b, hb⟩ := no (by omega);exact ⟨b, Ev.congr (fun k => by unfold gangsawref24_Few.f; rw [if_pos h1, if_neg h2, decide_eq_false h3]) hb⟩)
 (obtain ⟨b, hb⟩ := no (by omega);exact ⟨b, Ev.congr (fun k => by unfold gangsawref24_Few.f; rw [if_neg h1, decide_eq_false (by omega)]) hb⟩)
end Go.Proofs.Ytdnjagfbhppmbaa.Pure
