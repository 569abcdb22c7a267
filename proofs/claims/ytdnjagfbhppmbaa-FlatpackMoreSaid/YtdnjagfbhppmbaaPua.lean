import Derived.Test.YtdnjagfbhppmbaaLey
import Derived.Test.YtdnjagfbhppmbaaPAx0
import Derived.Shelf.Abstract
namespace Go.Proofs.Ytdnjagfbhppmbaa.Pure
open Go.RowKit Go.Proofs.Ytdnjagfbhppmbaa Go.Proofs.Ytdnjagfbhppmbaa.PA Go.Proofs.YtdnjagfbhppmbaaW.PrintWords Go.Proofs.YtdnjagfbhppmbaaW.PrintLast Go.Proofs.YtdnjagfbhppmbaaW.PrintMore
set_option linter.unusedVariables false
set_option linter.unusedSimpArgs false
theorem wrap_nat1 {n : Nat} (h : n < 9223372036854775807) : wrap64 ((n : Int) + 1) = ((n + 1 : Nat) : Int) := by
 push_cast
 unfold wrap64; omega
theorem tw_all {α : Type} (p : α → Bool) : ∀ (l : List α) (x : α), x ∈ l.takeWhile p → p x = true
 | [], x, h => by simp at h
 | y :: l, x, h => by
  rw [List.takeWhile_cons] at h
  split at h
  ·rcases List.mem_cons.1 h with rfl | h
   ·assumption
   (exact tw_all p l x h)
  ·simp at h
theorem runOf_all (p : Int → Bool) (s : ByteArray) : runOf p s.data.toList = s.size ↔ ∀ j, j < s.size → p (bt s j) = true := by
 unfold runOf
 have hl : s.data.toList.length = s.size := by simp
 constructor
 ·intro h j hj
  have e : s.data.toList.takeWhile (fun b => p (b.toNat : Int)) = s.data.toList := by
   apply List.IsPrefix.eq_of_length (List.takeWhile_prefix _)
   rw [h, hl]
  have hm : s.data.toList[j]'(by omega) ∈ s.data.toList.takeWhile (fun b => p (b.toNat : Int)) := by rw [e]; exact List.getElem_mem _
  have := tw_all _ _ _ hm
  have eb : bt s j = ((s.data.toList[j]'(by omega)).toNat : Int) := by
   unfold bt
   rw [dif_pos (by simpa using hj)];rfl
  rw [eb]; exact this
 ·intro h;rw [takeWhile_all _ s.data.toList (fun x hx => ?_), hl];obtain ⟨j, hj, rfl⟩ := List.getElem_of_mem hx;have := h j (by omega)
  have eb : bt s j = ((s.data.toList[j]'hj).toNat : Int) := by
   unfold bt
   rw [dif_pos (by simpa using (by omega : j < s.size))];rfl
  rw [eb] at this; exact this
end Go.Proofs.Ytdnjagfbhppmbaa.Pure
