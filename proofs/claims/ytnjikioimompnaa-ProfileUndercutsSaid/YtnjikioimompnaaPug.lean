import Derived.Test.YtnjikioimompnaaPuc
namespace Go.Proofs.Ytnjikioimompnaa.Pure
open Go.RowKit Go.Proofs.Ytnjikioimompnaa Go.Proofs.Ytnjikioimompnaa.PA Go.Proofs.YtnjikioimompnaaW.PrintWords Go.Proofs.YtnjikioimompnaaW.PrintLast Go.Proofs.YtnjikioimompnaaW.PrintMore
set_option linter.unusedVariables false
set_option linter.unusedSimpArgs false
def hgt : Nat → S31 → Int
 | 0,p=>p.f1
 | 1,p=>-p.f1
 | 2,p=>-p.f0
 | _,p=>p.f0
def wid : Nat → S31 → Int
 | 0,p=>-p.f0
 | 1,p=>p.f0
 | 2,p=>-p.f1
 | _,p=>p.f1
theorem cases4 {d : Nat} (h : d < 4) : d = 0 ∨ d = 1 ∨ d = 2 ∨ d = 3:=by omega
theorem bad_hgt {l : List S31} (hN : Near l) {d : Nat} (hd : d < 4) {i : Nat} (hi : i < l.length) : badAt l (bdd d) i ↔ hgt d (P l (nx l i)) < hgt d (P l i):=by
 have a:=hN.at hi;have b:=hN.at (nx_lt (l:=l) (by omega) i)
 unfold near at a b
 unfold badAt
 rw [w64 (by omega) (by omega),w64 (by omega) (by omega)]
 rcases cases4 hd with rfl|rfl|rfl|rfl
 ·simp only [bdd,b63,hgt,decide_eq_true_eq];omega
 ·simp only [bdd,b66,hgt,decide_eq_true_eq];omega
 ·simp only [bdd,b69,hgt,decide_eq_true_eq];omega
 ·simp only [bdd,b72,hgt,decide_eq_true_eq];omega
def fbf (d : Nat) (p q : S31) : Prop:=hgt d p < hgt d q ∨ (hgt d p = hgt d q ∧ wid d p < wid d q)
def tbf (d : Nat) (p q : S31) : Prop:=hgt d q < hgt d p ∨ (hgt d p = hgt d q ∧ wid d p < wid d q)
theorem nw {p : S31} (h : near p) : wrap64 (-p.f0) = -p.f0 ∧ wrap64 (-p.f1) = -p.f1:=by unfold near at h;exact ⟨w64 (by omega) (by omega),w64 (by omega) (by omega)⟩
theorem frm_k (l : List S31) (h : 0 < l.length) (d : Nat) (hd : d < 4) : ∃ k0 k1,frm l d = extF k0 k1 l l.length ∧ ∀ p q,near p → near q → (kL k0 k1 p q ↔ fbf d p q):=by
 rcases cases4 hd with rfl|rfl|rfl|rfl
 ·refine ⟨_,_,rfl,fun p q hp hq=>?_⟩
  unfold kL k61_0 k61_1 fbf
  simp only [hgt,wid];rw [(nw hp).1,(nw hq).1]
 ·refine ⟨_,_,rfl,fun p q hp hq=>?_⟩
  unfold kL k64_0 k64_1 fbf
  simp only [hgt,wid];rw [(nw hp).2,(nw hq).2]
 ·refine ⟨_,_,rfl,fun p q hp hq=>?_⟩
  unfold kL k67_0 k67_1 fbf
  simp only [hgt,wid];rw [(nw hp).1,(nw hq).1,(nw hp).2,(nw hq).2]
 ·refine ⟨_,_,rfl,fun p q hp hq=>?_⟩
  unfold kL k70_0 k70_1 fbf
  simp only [hgt,wid]
theorem tow_k (l : List S31) (h : 0 < l.length) (d : Nat) (hd : d < 4) : ∃ k0 k1,tow l d = extF k0 k1 l l.length ∧ ∀ p q,near p → near q → (kL k0 k1 p q ↔ tbf d p q):=by
 rcases cases4 hd with rfl|rfl|rfl|rfl
 ·refine ⟨_,_,rfl,fun p q hp hq=>?_⟩
  unfold kL k62_0 k62_1 tbf
  simp only [hgt,wid];rw [(nw hp).1,(nw hq).1,(nw hp).2,(nw hq).2]
  omega
 ·refine ⟨_,_,rfl,fun p q hp hq=>?_⟩
  unfold kL k65_0 k65_1 tbf
  simp only [hgt,wid]
  omega
 ·refine ⟨_,_,rfl,fun p q hp hq=>?_⟩
  unfold kL k68_0 k68_1 tbf
  simp only [hgt,wid];rw [(nw hp).2,(nw hq).2]
  omega
 ·refine ⟨_,_,rfl,fun p q hp hq=>?_⟩
  unfold kL k71_0 k71_1 tbf
  simp only [hgt,wid];rw [(nw hp).1,(nw hq).1]
  omega
theorem frm_min {l : List S31} (hN : Near l) (h : 0 < l.length) {d : Nat} (hd : d < 4) : frm l d < l.length ∧ ∀ j,j < l.length → ¬ fbf d (P l j) (P l (frm l d)):=by
 obtain ⟨k0,k1,e,hk⟩ := frm_k l h d hd;obtain ⟨h1,h2⟩ := ext_min k0 k1 l l.length h;rw [e];exact ⟨h1,fun j hj g=>h2 j hj ((hk _ _ (hN.at hj) (hN.at h1)).2 g)⟩
theorem tow_min {l : List S31} (hN : Near l) (h : 0 < l.length) {d : Nat} (hd : d < 4) : tow l d < l.length ∧ ∀ j,j < l.length → ¬ tbf d (P l j) (P l (tow l d)):=by
 obtain ⟨k0,k1,e,hk⟩ := tow_k l h d hd;obtain ⟨h1,h2⟩ := ext_min k0 k1 l l.length h;rw [e];exact ⟨h1,fun j hj g=>h2 j hj ((hk _ _ (hN.at hj) (hN.at h1)).2 g)⟩
end Go.Proofs.Ytnjikioimompnaa.Pure
