import Derived.Test.YtnjikioimompnaaPuc
namespace Go.Proofs.Ytnjikioimompnaa.Pure
open Go.RowKit Go.Proofs.Ytnjikioimompnaa Go.Proofs.Ytnjikioimompnaa.PA Go.Proofs.YtnjikioimompnaaW.PrintWords Go.Proofs.YtnjikioimompnaaW.PrintLast Go.Proofs.YtnjikioimompnaaW.PrintMore
set_option linter.unusedVariables false
set_option linter.unusedSimpArgs false

/-! The stair -/
theorem sg_mul (x y : Int) : sg (x * y) = sg x * sg y:=by
  rcases sg_cases x with ⟨hx,ex⟩|⟨hx,ex⟩|⟨hx,ex⟩ <;> rcases sg_cases y with ⟨hy,ey⟩|⟨hy,ey⟩|⟨hy,ey⟩ <;> rw [ex,ey] <;> unfold sg
  · rw [if_neg (by have:=Int.mul_pos_of_neg_of_neg hx hy;omega),if_pos (Int.mul_pos_of_neg_of_neg hx hy)];rfl
  · subst hy;simp
  · rw [if_pos (Int.mul_neg_of_neg_of_pos hx hy)];rfl
  · subst hx;simp
  · subst hx;simp
  · subst hx;simp
  · rw [if_pos (Int.mul_neg_of_pos_of_neg hx hy)];rfl
  · subst hy;simp
  · rw [if_neg (by have:=Int.mul_pos hx hy;omega),if_pos (Int.mul_pos hx hy)];rfl
theorem sg_neg (x : Int) : sg (-x) = - sg x:=by unfold sg;split <;> split <;> (try split) <;> omega
theorem sg_pos {x : Int} (h : 0 < x) : sg x = 1:=by rcases sg_cases x with h1|h1|h1 <;> omega
theorem sg_lt {x : Int} (h : x < 0) : sg x = -1:=by rcases sg_cases x with h1|h1|h1 <;> omega
theorem sg_ne {x : Int} (h : x ≠ 0) : sg x = 1 ∨ sg x = -1:=by rcases sg_cases x with h1|h1|h1 <;> omega
/-- a level edge and an upright one -/
theorem cr_H {a b : S31} (h : a.f1 = b.f1) (c : S31) : cr a b c = (b.f0 - a.f0) * (c.f1 - a.f1):=by unfold cr;rw [h];simp
theorem cr_V {a b : S31} (h : a.f0 = b.f0) (c : S31) : cr a b c = -((b.f1 - a.f1) * (c.f0 - a.f0)):=by unfold cr;rw [h];simp
theorem meet_HV {a b c d : S31} (h1 : a.f1 = b.f1) (h2 : c.f0 = d.f0) (h3 : a.f0 ≠ b.f0) (h4 : c.f1 ≠ d.f1) :
    meet a b c d ≤ 1 ∧ (((c.f0 < a.f0 ∧ c.f0 < b.f0) ∨ (a.f0 < c.f0 ∧ b.f0 < c.f0) ∨ (a.f1 < c.f1 ∧ a.f1 < d.f1) ∨ (c.f1 < a.f1 ∧ d.f1 < a.f1)) → meet a b c d = 0):=by
  unfold meet
  rw [cr_H h1 c,cr_H h1 d,cr_V h2 a,cr_V h2 b]
  simp only [sg_neg,sg_mul]
  have hn : ¬ (sg (b.f0 - a.f0) * sg (c.f1 - a.f1) = 0 ∧ sg (b.f0 - a.f0) * sg (d.f1 - a.f1) = 0):=by
    rintro ⟨e1,e2⟩
    have s1:=sg_cases (c.f1 - a.f1);have s2:=sg_cases (d.f1 - a.f1)
    rcases sg_ne (show b.f0 - a.f0 ≠ 0 by omega) with e|e <;> rw [e] at e1 e2 <;> omega
  rw [if_neg hn]
  constructor
  · split <;> omega
  · intro h
    rw [if_neg]
    rintro ⟨e1,e2⟩
    rcases h with h|h|h|h
    · rw [sg_pos (show 0 < a.f0 - c.f0 by omega),sg_pos (show 0 < b.f0 - c.f0 by omega)] at e2
      rcases sg_ne (show d.f1 - c.f1 ≠ 0 by omega) with e|e <;> rw [e] at e2 <;> omega
    · rw [sg_lt (show a.f0 - c.f0 < 0 by omega),sg_lt (show b.f0 - c.f0 < 0 by omega)] at e2
      rcases sg_ne (show d.f1 - c.f1 ≠ 0 by omega) with e|e <;> rw [e] at e2 <;> omega
    · rw [sg_pos (show 0 < c.f1 - a.f1 by omega),sg_pos (show 0 < d.f1 - a.f1 by omega)] at e1
      rcases sg_ne (show b.f0 - a.f0 ≠ 0 by omega) with e|e <;> rw [e] at e1 <;> omega
    · rw [sg_lt (show c.f1 - a.f1 < 0 by omega),sg_lt (show d.f1 - a.f1 < 0 by omega)] at e1
      rcases sg_ne (show b.f0 - a.f0 ≠ 0 by omega) with e|e <;> rw [e] at e1 <;> omega
theorem meet_VH {a b c d : S31} (h1 : a.f0 = b.f0) (h2 : c.f1 = d.f1) (h3 : a.f1 ≠ b.f1) (h4 : c.f0 ≠ d.f0) :
    meet a b c d ≤ 1 ∧ (((c.f1 < a.f1 ∧ c.f1 < b.f1) ∨ (a.f1 < c.f1 ∧ b.f1 < c.f1) ∨ (a.f0 < c.f0 ∧ a.f0 < d.f0) ∨ (c.f0 < a.f0 ∧ d.f0 < a.f0)) → meet a b c d = 0):=by
  unfold meet
  rw [cr_V h1 c,cr_V h1 d,cr_H h2 a,cr_H h2 b]
  simp only [sg_neg,sg_mul]
  have hn : ¬ (-(sg (b.f1 - a.f1) * sg (c.f0 - a.f0)) = 0 ∧ -(sg (b.f1 - a.f1) * sg (d.f0 - a.f0)) = 0):=by
    rintro ⟨e1,e2⟩
    have s1:=sg_cases (c.f0 - a.f0);have s2:=sg_cases (d.f0 - a.f0)
    rcases sg_ne (show b.f1 - a.f1 ≠ 0 by omega) with e|e <;> rw [e] at e1 e2 <;> omega
  rw [if_neg hn]
  constructor
  · split <;> omega
  · intro h
    rw [if_neg]
    rintro ⟨e1,e2⟩
    rcases h with h|h|h|h
    · rw [sg_pos (show 0 < a.f1 - c.f1 by omega),sg_pos (show 0 < b.f1 - c.f1 by omega)] at e2
      rcases sg_ne (show d.f0 - c.f0 ≠ 0 by omega) with e|e <;> rw [e] at e2 <;> omega
    · rw [sg_lt (show a.f1 - c.f1 < 0 by omega),sg_lt (show b.f1 - c.f1 < 0 by omega)] at e2
      rcases sg_ne (show d.f0 - c.f0 ≠ 0 by omega) with e|e <;> rw [e] at e2 <;> omega
    · rw [sg_pos (show 0 < c.f0 - a.f0 by omega),sg_pos (show 0 < d.f0 - a.f0 by omega)] at e1
      rcases sg_ne (show b.f1 - a.f1 ≠ 0 by omega) with e|e <;> rw [e] at e1 <;> omega
    · rw [sg_lt (show c.f0 - a.f0 < 0 by omega),sg_lt (show d.f0 - a.f0 < 0 by omega)] at e1
      rcases sg_ne (show b.f1 - a.f1 ≠ 0 by omega) with e|e <;> rw [e] at e1 <;> omega
theorem meet_HH {a b c d : S31} (h1 : a.f1 = b.f1) (h2 : c.f1 = d.f1) (h3 : a.f0 ≠ b.f0) (h5 : a.f1 ≠ c.f1) : meet a b c d = 0:=by
  unfold meet
  rw [cr_H h1 c,cr_H h1 d,← h2]
  simp only [sg_mul]
  rcases sg_ne (show b.f0 - a.f0 ≠ 0 by omega) with e|e <;> rcases sg_ne (show c.f1 - a.f1 ≠ 0 by omega) with e'|e' <;> rw [e,e',if_neg (by omega),if_neg (by omega)]
theorem meet_VV {a b c d : S31} (h1 : a.f0 = b.f0) (h2 : c.f0 = d.f0) (h3 : a.f1 ≠ b.f1) (h5 : a.f0 ≠ c.f0) : meet a b c d = 0:=by
  unfold meet
  rw [cr_V h1 c,cr_V h1 d,← h2]
  simp only [sg_neg,sg_mul]
  rcases sg_ne (show b.f1 - a.f1 ≠ 0 by omega) with e|e <;> rcases sg_ne (show c.f0 - a.f0 ≠ 0 by omega) with e'|e' <;> rw [e,e',if_neg (by omega),if_neg (by omega)]

/-- the corners' steps -/
def sX (n i : Nat) : Int:=if i = 0 then 0 else (n : Int) - ((i - 1) / 2 : Nat)
def sY (n i : Nat) : Int:=if i ≤ 1 then 0 else (n : Int) - ((i - 2) / 2 : Nat)
def spt (n : Nat) (g r : Int) (i : Nat) : S31:=⟨sX n i * g,sY n i * r⟩
def stailS (g r : Int) : Nat → List S31
  | 0=>[]
  | k + 1=>[⟨((k + 1 : Nat) : Int) * g,((k + 2 : Nat) : Int) * r⟩,⟨((k + 1 : Nat) : Int) * g,((k + 1 : Nat) : Int) * r⟩] ++ stailS g r k
def stair (n : Nat) (g r : Int) : List S31:=[⟨0,0⟩,⟨(n : Int) * g,0⟩,⟨(n : Int) * g,(n : Int) * r⟩] ++ stailS g r (n - 1) ++ [⟨0,r⟩]
theorem stail_len (g r : Int) (m : Nat) : (stailS g r m).length = 2 * m:=by
  induction m with
  | zero=>rfl
  | succ m ih=>simp only [stailS,List.length_append,List.length_cons,List.length_nil,ih];omega
theorem P_app (a b : List S31) (i : Nat) : P (a ++ b) i = if i < a.length then P a i else P b (i - a.length):=by
  unfold P
  simp only [List.getD_eq_getElem?_getD]
  split
  · rw [List.getElem?_append_left (by assumption)]
  · rw [List.getElem?_append_right (by omega)]
theorem stail_P (g r : Int) : ∀ m j : Nat,j < 2 * m → P (stailS g r m) j = ⟨((m : Int) - (j / 2 : Nat)) * g,((m : Int) + 1 - ((j + 1) / 2 : Nat)) * r⟩ := by
  intro m
  induction m with
  | zero=>intro j hj;omega
  | succ m ih =>
    intro j hj
    simp only [stailS]
    rw [P_app]
    by_cases h0 : j = 0
    · subst h0;simp [P];congr 1
    · by_cases h1 : j = 1
      · subst h1;simp [P]
      · rw [if_neg (by simp;omega),show j - [(⟨((m + 1 : Nat) : Int) * g,((m + 2 : Nat) : Int) * r⟩ : S31),⟨((m + 1 : Nat) : Int) * g,((m + 1 : Nat) : Int) * r⟩].length = j - 2 from rfl,ih (j - 2) (by omega)]
        apply S31_ext
        · show ((m : Int) - ((j - 2) / 2 : Nat)) * g = (((m + 1 : Nat) : Int) - (j / 2 : Nat)) * g
          congr 1;omega
        · show ((m : Int) + 1 - ((j - 2 + 1) / 2 : Nat)) * r = (((m + 1 : Nat) : Int) + 1 - ((j + 1) / 2 : Nat)) * r
          congr 1;omega
theorem stair_len {n : Nat} (hn : 1 ≤ n) (g r : Int) : (stair n g r).length = 2 * n + 2:=by
  unfold stair
  simp only [List.length_append,List.length_cons,List.length_nil,stail_len];omega
theorem stair_P {n : Nat} (hn : 1 ≤ n) (g r : Int) {i : Nat} (hi : i < 2 * n + 2) : P (stair n g r) i = spt n g r i:=by
  unfold stair spt sX sY
  rw [P_app,P_app]
  by_cases h3 : i < 3
  · rw [if_pos (by simp [stail_len];omega),if_pos (by simpa using h3)]
    rcases (show i = 0 ∨ i = 1 ∨ i = 2 by omega) with rfl|rfl|rfl <;> simp [P]
  · by_cases hl : i < 2 * n + 1
    · rw [if_pos (by simp [stail_len];omega),if_neg (by simpa using h3),if_neg (by omega),if_neg (by omega),show ∀ a b c : S31,i - [a,b,c].length = i - 3 from fun _ _ _=>rfl,stail_P g r (n - 1) (i - 3) (by omega)]
      apply S31_ext
      · show (((n - 1 : Nat) : Int) - ((i - 3) / 2 : Nat)) * g = ((n : Int) - ((i - 1) / 2 : Nat)) * g
        congr 1;omega
      · show (((n - 1 : Nat) : Int) + 1 - ((i - 3 + 1) / 2 : Nat)) * r = ((n : Int) - ((i - 2) / 2 : Nat)) * r
        congr 1;omega
    · obtain rfl : i = 2 * n + 1:=by omega
      rw [if_neg (by simp [stail_len];omega),if_neg (by omega),if_neg (by omega)]
      have e : (2 * n + 1 - ([(⟨0,0⟩ : S31),⟨(n : Int) * g,0⟩,⟨(n : Int) * g,(n : Int) * r⟩] ++ stailS g r (n - 1)).length) = 0:=by simp [stail_len];omega
      rw [e]
      apply S31_ext
      · show (0 : Int) = ((n : Int) - ((2 * n + 1 - 1) / 2 : Nat)) * g
        rw [show (n : Int) - ((2 * n + 1 - 1) / 2 : Nat) = 0 from by omega,Int.zero_mul]
      · show r = ((n : Int) - ((2 * n + 1 - 2) / 2 : Nat)) * r
        rw [show (n : Int) - ((2 * n + 1 - 2) / 2 : Nat) = 1 from by omega,Int.one_mul]
theorem stair_nx {n : Nat} (hn : 1 ≤ n) (g r : Int) {i : Nat} (hi : i < 2 * n + 2) : P (stair n g r) (nx (stair n g r) i) = spt n g r (i + 1) ∧ nx (stair n g r) i = if i = 2 * n + 1 then 0 else i + 1:=by
  have e : nx (stair n g r) i = if i = 2 * n + 1 then 0 else i + 1:=by
    unfold nx;rw [stair_len hn]
    split
    · subst i;exact Nat.mod_self _
    · exact Nat.mod_eq_of_lt (by omega)
  refine ⟨?_,e⟩
  rw [e]
  split
  · subst i
    rw [stair_P hn g r (by omega)]
    unfold spt sX sY
    rw [if_pos rfl,if_pos (by omega),if_neg (by omega),if_neg (by omega)]
    apply S31_ext
    · show 0 * g = ((n : Int) - ((2 * n + 1 + 1 - 1) / 2 : Nat)) * g
      congr 1;omega
    · show 0 * r = ((n : Int) - ((2 * n + 1 + 1 - 2) / 2 : Nat)) * r
      congr 1;omega
  · exact stair_P hn g r (by omega)
theorem ml {a b g : Int} (hg : 1 ≤ g) (h : a < b) : a * g < b * g:=Int.mul_lt_mul_of_pos_right h (by omega)
theorem mle {a b g : Int} (hg : 1 ≤ g) (h : a ≤ b) : a * g ≤ b * g:=Int.mul_le_mul_of_nonneg_right h (by omega)
theorem mne {a b g : Int} (hg : 1 ≤ g) (h : a ≠ b) : a * g ≠ b * g:=by
  rcases Int.lt_or_gt_of_ne h with h|h
  · have:=ml hg h;omega
  · have:=ml hg h;omega
/-- where edge i lies -/
def Edge (n : Nat) (i : Nat) (x0 x1 y0 y1 : Int) : Prop:=sX n i = x0 ∧ sX n (i + 1) = x1 ∧ sY n i = y0 ∧ sY n (i + 1) = y1
theorem edge (n i : Nat) : (i = 0 ∧ Edge n i 0 n 0 0) ∨ (i = 1 ∧ Edge n i n n 0 n) ∨ (∃ t : Nat,1 ≤ t ∧ i = 2 * t ∧ Edge n i (n - t + 1) (n - t) (n - t + 1) (n - t + 1)) ∨ (∃ t : Nat,1 ≤ t ∧ i = 2 * t + 1 ∧ Edge n i (n - t) (n - t) (n - t + 1) (n - t)):=by
  unfold Edge sX sY
  rcases (show i = 0 ∨ i = 1 ∨ (2 ≤ i ∧ i % 2 = 0) ∨ (2 ≤ i ∧ i % 2 = 1) by omega) with h|h|⟨h,h'⟩|⟨h,h'⟩
  · subst h;exact .inl ⟨rfl,by simp⟩
  · subst h;exact .inr (.inl ⟨rfl,by simp⟩)
  · refine .inr (.inr (.inl ⟨i / 2,by omega,by omega, ?_, ?_, ?_, ?_⟩))
    · rw [if_neg (by omega)];omega
    · rw [if_neg (by omega)];omega
    · rw [if_neg (by omega)];omega
    · rw [if_neg (by omega)];omega
  · refine .inr (.inr (.inr ⟨i / 2,by omega,by omega, ?_, ?_, ?_, ?_⟩))
    · rw [if_neg (by omega)];omega
    · rw [if_neg (by omega)];omega
    · rw [if_neg (by omega)];omega
    · rw [if_neg (by omega)];omega
theorem sp (n : Nat) (g r : Int) {i : Nat} {x0 x1 y0 y1 : Int} (h : Edge n i x0 x1 y0 y1) : spt n g r i = ⟨x0 * g,y0 * r⟩ ∧ spt n g r (i + 1) = ⟨x1 * g,y1 * r⟩ := by
  obtain ⟨h1,h2,h3,h4⟩ := h
  unfold spt
  rw [h1,h2,h3,h4];exact ⟨rfl,rfl⟩
theorem le_one {q : Prop} [Decidable q] (hq : q) {m : Int} (hm : m ≤ 1) : m ≤ if q then 1 else 0:=by rw [if_pos hq];exact hm
theorem le_zero {q : Prop} [Decidable q] {m : Int} (hm : m = 0) : m ≤ if q then 1 else 0:=by split <;> omega
section
variable {g r : Int} (hg : 1 ≤ g) (hr : 1 ≤ r)
include hg hr
theorem g_HH {a0 a1 y b0 b1 z : Int} (h : a0 ≠ a1) (hy : y ≠ z) : meet ⟨a0 * g,y * r⟩ ⟨a1 * g,y * r⟩ ⟨b0 * g,z * r⟩ ⟨b1 * g,z * r⟩ = 0:=meet_HH rfl rfl (mne hg h) (mne hr hy)
theorem g_VV {x a0 a1 z b0 b1 : Int} (h : a0 ≠ a1) (hx : x ≠ z) : meet ⟨x * g,a0 * r⟩ ⟨x * g,a1 * r⟩ ⟨z * g,b0 * r⟩ ⟨z * g,b1 * r⟩ = 0:=meet_VV rfl rfl (mne hr h) (mne hg hx)
theorem g_HV1 {a0 a1 y x b0 b1 : Int} (h : a0 ≠ a1) (h' : b0 ≠ b1) : meet ⟨a0 * g,y * r⟩ ⟨a1 * g,y * r⟩ ⟨x * g,b0 * r⟩ ⟨x * g,b1 * r⟩ ≤ 1:=(meet_HV (a:=⟨a0 * g,y * r⟩) (b:=⟨a1 * g,y * r⟩) (c:=⟨x * g,b0 * r⟩) (d:=⟨x * g,b1 * r⟩) rfl rfl (mne hg h) (mne hr h')).1
theorem g_HV0 {a0 a1 y x b0 b1 : Int} (h : a0 ≠ a1) (h' : b0 ≠ b1) (hs : a0 < x ∧ a1 < x) : meet ⟨a0 * g,y * r⟩ ⟨a1 * g,y * r⟩ ⟨x * g,b0 * r⟩ ⟨x * g,b1 * r⟩ = 0:=(meet_HV (a:=⟨a0 * g,y * r⟩) (b:=⟨a1 * g,y * r⟩) (c:=⟨x * g,b0 * r⟩) (d:=⟨x * g,b1 * r⟩) rfl rfl (mne hg h) (mne hr h')).2 (.inr (.inl ⟨ml hg hs.1,ml hg hs.2⟩))
theorem g_VH1 {x a0 a1 y b0 b1 : Int} (h : a0 ≠ a1) (h' : b0 ≠ b1) : meet ⟨x * g,a0 * r⟩ ⟨x * g,a1 * r⟩ ⟨b0 * g,y * r⟩ ⟨b1 * g,y * r⟩ ≤ 1:=(meet_VH (a:=⟨x * g,a0 * r⟩) (b:=⟨x * g,a1 * r⟩) (c:=⟨b0 * g,y * r⟩) (d:=⟨b1 * g,y * r⟩) rfl rfl (mne hr h) (mne hg h')).1
theorem g_VH0 {x a0 a1 y b0 b1 : Int} (h : a0 ≠ a1) (h' : b0 ≠ b1) (hs : (y < a0 ∧ y < a1) ∨ (x < b0 ∧ x < b1)) : meet ⟨x * g,a0 * r⟩ ⟨x * g,a1 * r⟩ ⟨b0 * g,y * r⟩ ⟨b1 * g,y * r⟩ = 0:=by
  refine (meet_VH (a:=⟨x * g,a0 * r⟩) (b:=⟨x * g,a1 * r⟩) (c:=⟨b0 * g,y * r⟩) (d:=⟨b1 * g,y * r⟩) rfl rfl (mne hr h) (mne hg h')).2 ?_
  rcases hs with hs|hs
  · exact .inl ⟨ml hr hs.1,ml hr hs.2⟩
  · exact .inr (.inr (.inl ⟨ml hg hs.1,ml hg hs.2⟩))
end
theorem stair_sim {n : Nat} (hn : 1 ≤ n) {g r : Int} (hg : 1 ≤ g) (hr : 1 ≤ r) : Sim (stair n g r):=by
  intro i hi k hk
  rw [stair_len hn] at hi
  unfold SimAt allow
  rw [stair_P hn g r hi,(stair_nx hn g r hi).1,stair_P hn g r (show k < 2 * n + 2 by omega),(stair_nx hn g r (show k < 2 * n + 2 by omega)).1,(stair_nx hn g r hi).2,(stair_nx hn g r (show k < 2 * n + 2 by omega)).2]
  have adj : k + 1 = i → (if k = 2 * n + 1 then 0 else k + 1) = i:=fun h=>by rw [if_neg (by omega)];exact h
  rcases edge n i with ⟨ei,E⟩|⟨ei,E⟩|⟨t,ht,ei,E⟩|⟨t,ht,ei,E⟩
  · omega
  · obtain rfl : k = 0:=by omega
    rcases edge n 0 with ⟨ek,F⟩|⟨ek,F⟩|⟨s,hs,ek,F⟩|⟨s,hs,ek,F⟩
    · rw [(sp n g r E).1,(sp n g r E).2,(sp n g r F).1,(sp n g r F).2]
      exact le_one (.inl (adj (by omega))) (g_VH1 hg hr (by omega) (by omega))
    · omega
    · omega
    · omega
  · rcases edge n k with ⟨ek,F⟩|⟨ek,F⟩|⟨s,hs,ek,F⟩|⟨s,hs,ek,F⟩ <;> rw [(sp n g r E).1,(sp n g r E).2,(sp n g r F).1,(sp n g r F).2]
    · exact le_zero (g_HH hg hr (by omega) (by omega))
    · by_cases ad : k + 1 = i
      · exact le_one (.inl (adj ad)) (g_HV1 hg hr (by omega) (by omega))
      · exact le_zero (g_HV0 hg hr (by omega) (by omega) (by omega))
    · exact le_zero (g_HH hg hr (by omega) (by omega))
    · by_cases ad : k + 1 = i
      · exact le_one (.inl (adj ad)) (g_HV1 hg hr (by omega) (by omega))
      · exact le_zero (g_HV0 hg hr (by omega) (by omega) (by omega))
  · rcases edge n k with ⟨ek,F⟩|⟨ek,F⟩|⟨s,hs,ek,F⟩|⟨s,hs,ek,F⟩ <;> rw [(sp n g r E).1,(sp n g r E).2,(sp n g r F).1,(sp n g r F).2]
    · by_cases ad : i = 2 * n + 1
      · exact le_one (.inr (by rw [if_pos ad];exact ek.symm)) (g_VH1 hg hr (by omega) (by omega))
      · exact le_zero (g_VH0 hg hr (by omega) (by omega) (.inl (by omega)))
    · exact le_zero (g_VV hg hr (by omega) (by omega))
    · by_cases ad : k + 1 = i
      · exact le_one (.inl (adj ad)) (g_VH1 hg hr (by omega) (by omega))
      · exact le_zero (g_VH0 hg hr (by omega) (by omega) (.inr (by omega)))
    · exact le_zero (g_VV hg hr (by omega) (by omega))
end Go.Proofs.Ytnjikioimompnaa.Pure
