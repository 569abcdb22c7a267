import Derived.Test.YtdnjagfbhppmbaaGt
import Derived.Maps.OwnOps
import Derived.Maps.OwnSet
import Derived.WalkLawsBesides
namespace Go.Proofs.Ytdnjagfbhppmbaa.PA
open Go.RowKit Go.Shelf Go.Proofs.YtdnjagfbhppmbaaW.PrintWords Go.Proofs.YtdnjagfbhppmbaaW.PrintLast Go.Proofs.YtdnjagfbhppmbaaW.PrintMore
set_option linter.unusedVariables false
set_option linter.unusedSimpArgs false
def LC (W : World) (A : Option Addr) (L : List S87) : Prop :=
 ∀ (X : World), Below W.heap.size W X → ∀ (j : Nat) (hj : j < L.length), ∃ ad, A = some ad ∧
   X.cell? (ad.add (j * 8)) = some (.int .i64 L[j].f0) ∧ X.cell? ⟨(ad.add (j * 8)).block,(ad.add (j * 8)).off + 1,none⟩ = some (.string L[j].f1) ∧
   X.cell? ⟨(ad.add (j * 8)).block,(ad.add (j * 8)).off + 2,none⟩ = some (.int .i64 L[j].f2.f0.f0) ∧ X.cell? ⟨(ad.add (j * 8)).block,(ad.add (j * 8)).off + 3,none⟩ = some (.int .i64 L[j].f2.f0.f1) ∧
   X.cell? ⟨(ad.add (j * 8)).block,(ad.add (j * 8)).off + 4,none⟩ = some (.int .i64 L[j].f2.f0.f2) ∧ X.cell? ⟨(ad.add (j * 8)).block,(ad.add (j * 8)).off + 5,none⟩ = some (.int .i64 L[j].f2.f1.f0) ∧
   X.cell? ⟨(ad.add (j * 8)).block,(ad.add (j * 8)).off + 6,none⟩ = some (.int .i64 L[j].f2.f1.f1) ∧ X.cell? ⟨(ad.add (j * 8)).block,(ad.add (j * 8)).off + 7,none⟩ = some (.int .i64 L[j].f2.f1.f2)
theorem LC.mono {W X : World} {A : Option Addr} {L : List S87} (h : LC W A L) (hb : Below W.heap.size W X) : LC X A L :=
 fun Y hY j hj=>h Y (hb.trans (hY.mono hb.size)) j hj
end Go.Proofs.Ytdnjagfbhppmbaa.PA
