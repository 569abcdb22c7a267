import Derived.Test.YtohcgenhhgipcaaPud
import Derived.ChangeArms
import Derived.Deep.Slices
import Derived.OpenShut
namespace Go.Proofs.Ytohcgenhhgipcaa.Pure
open Go.RowKit Go.Proofs.Ytohcgenhhgipcaa Go.Proofs.Ytohcgenhhgipcaa.PA Go.Proofs.YtohcgenhhgipcaaW.PrintWords Go.Proofs.YtohcgenhhgipcaaW.PrintLast Go.Proofs.YtohcgenhhgipcaaW.PrintMore
set_option linter.unusedVariables false
set_option linter.unusedSimpArgs false

/-! Alone;the law of the checks -/
theorem few_f (l : List S65) : gangsawlaw54_few.f l = some (decide (l.length ≤ 12) || (decide (64 < l.length) && decide (l.length ≤ 100))):=by
 unfold gangsawlaw54_few.f
 by_cases h1 : l.length ≤ 12
 ·rw [if_pos (by omega : (l.length : Int) ≤ 12)];simp [h1]
 ·rw [if_neg (by omega : ¬((l.length : Int) ≤ 12))];by_cases h2 : 64 < l.length
  ·rw [if_pos (by omega : (l.length : Int) > 64)];simp [h1,h2];omega
  ·rw [if_neg (by omega : ¬((l.length : Int) > 64))];simp [h1,h2]
theorem few_len {l : List S65} (h : (decide (l.length ≤ 12) || (decide (64 < l.length) && decide (l.length ≤ 100))) = true) : l.length ≤ 100:=by
 simp at h;omega
theorem sizes64 {l : List S65} (h : ∀ y ∈ l,y.f0.size ≤ 9223372036854775807) : ∀ y ∈ l.map o64,y.f0.size ≤ 9223372036854775807:=by
 intro y hy;obtain ⟨x,hx,rfl⟩ := List.mem_map.1 hy;exact h x hx
end Go.Proofs.Ytohcgenhhgipcaa.Pure
