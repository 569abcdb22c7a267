import Derived.Test.YtdnjagfbhppmbaaGj
import Derived.Test.YtdnjagfbhppmbaaGp
import Derived.Test.YtdnjagfbhppmbaaGr
import Derived.Maps.OwnOps
import Derived.Maps.OwnSet
namespace Go.Proofs.Ytdnjagfbhppmbaa.Pure
open Go.RowKit Go.Proofs.Ytdnjagfbhppmbaa Go.Proofs.Ytdnjagfbhppmbaa.PA Go.Proofs.YtdnjagfbhppmbaaW.PrintWords Go.Proofs.YtdnjagfbhppmbaaW.PrintLast Go.Proofs.YtdnjagfbhppmbaaW.PrintMore
set_option linter.unusedVariables false
set_option linter.unusedSimpArgs false
def Dec (g : Nat → Option Bool) (P : Prop) : Prop := ∃ b, Ev g b ∧ (b = true ↔ P)
theorem Dec.step {f g : Nat → Option Bool} {P : Prop} (h : ∀ k, f (k + 1) = g k) (d : Dec g P) : Dec f P := by
 obtain ⟨b, e, i⟩ := d;exact ⟨b, Ev.step h e, i⟩
theorem Dec.no {f : Nat → Option Bool} {P : Prop} (h : ∀ k, f (k + 1) = some false) (n : ¬ P) : Dec f P :=
 ⟨false, Ev.step (f := fun _ => some false) h (Ev.now _), by simp [n]⟩
theorem Dec.yes {f : Nat → Option Bool} {P : Prop} (h : ∀ k, f (k + 1) = some true) (n : P) : Dec f P :=
 ⟨true, Ev.step (f := fun _ => some true) h (Ev.now _), by simp [n]⟩
theorem proves_f (L Wd kf : Nat) (t : List (List Int)) (items : List S36) (hc : checkR (L : Int) (Wd : Int) items (kf : Int) = 0) (hl : items.length ≤ 1000) (hM : ∀ x ∈ items, x.f0.size ≤ 100) :
  Dec (fun _ => flatpack_Proves.f (L : Int) (Wd : Int) items (kf : Int) t) (sound L Wd kf t items) := by
 refine ⟨@decide (sound L Wd kf t items) (Classical.propDecidable _), Ev.congr (fun k => ?_) (Ev.now _), by simp⟩
 unfold flatpack_Proves.f
 rw [if_pos ⟨fun x hx => by have := hM x hx; omega, hl⟩, if_pos hc]
 simp
end Go.Proofs.Ytdnjagfbhppmbaa.Pure
