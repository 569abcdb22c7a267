import Derived.Test.YtnjikioimompnaaPuc
namespace Go.Proofs.Ytnjikioimompnaa.Pure
open Go.RowKit Go.Proofs.Ytnjikioimompnaa Go.Proofs.Ytnjikioimompnaa.PA Go.Proofs.YtnjikioimompnaaW.PrintWords Go.Proofs.YtnjikioimompnaaW.PrintLast Go.Proofs.YtnjikioimompnaaW.PrintMore
set_option linter.unusedVariables false
set_option linter.unusedSimpArgs false

/-! The stair -/
/-- the corners' steps -/
def sX (n i : Nat) : Int:=if i = 0 then 0 else (n : Int) - ((i - 1) / 2 : Nat)
def sY (n i : Nat) : Int:=if i ≤ 1 then 0 else (n : Int) - ((i - 2) / 2 : Nat)
def spt (n : Nat) (g r : Int) (i : Nat) : S31:=⟨sX n i * g,sY n i * r⟩
def stailS (g r : Int) : Nat → List S31
  | 0=>[]
  | k + 1=>[⟨((k + 1 : Nat) : Int) * g,((k + 2 : Nat) : Int) * r⟩,⟨((k + 1 : Nat) : Int) * g,((k + 1 : Nat) : Int) * r⟩] ++ stailS g r k
def stair (n : Nat) (g r : Int) : List S31:=[⟨0,0⟩,⟨(n : Int) * g,0⟩,⟨(n : Int) * g,(n : Int) * r⟩] ++ stailS g r (n - 1) ++ [⟨0,r⟩]
theorem stail_len (g r : Int) (m : Nat) : (stailS g r m).length = 2 * m:=by
  induction m with
  | zero=>rfl
  | succ m ih=>simp only [stailS,List.length_append,List.length_cons,List.length_nil,ih];omega
theorem stair_len {n : Nat} (hn : 1 ≤ n) (g r : Int) : (stair n g r).length = 2 * n + 2:=by
  unfold stair
  simp only [List.length_append,List.length_cons,List.length_nil,stail_len];omega
/-- where edge i lies -/
def Edge (n : Nat) (i : Nat) (x0 x1 y0 y1 : Int) : Prop:=sX n i = x0 ∧ sX n (i + 1) = x1 ∧ sY n i = y0 ∧ sY n (i + 1) = y1
theorem sp (n : Nat) (g r : Int) {i : Nat} {x0 x1 y0 y1 : Int} (h : Edge n i x0 x1 y0 y1) : spt n g r i = ⟨x0 * g,y0 * r⟩ ∧ spt n g r (i + 1) = ⟨x1 * g,y1 * r⟩ := by
  obtain ⟨h1,h2,h3,h4⟩ := h
  unfold spt
  rw [h1,h2,h3,h4];exact ⟨rfl,rfl⟩
section
variable {g r : Int} (hg : 1 ≤ g) (hr : 1 ≤ r)
include hg hr
end
end Go.Proofs.Ytnjikioimompnaa.Pure
