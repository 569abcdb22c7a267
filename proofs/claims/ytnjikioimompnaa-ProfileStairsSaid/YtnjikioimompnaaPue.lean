import Derived.Test.YtnjikioimompnaaPud
namespace Go.Proofs.Ytnjikioimompnaa.Pure
open Go.RowKit Go.Proofs.Ytnjikioimompnaa Go.Proofs.Ytnjikioimompnaa.PA Go.Proofs.YtnjikioimompnaaW.PrintWords Go.Proofs.YtnjikioimompnaaW.PrintLast Go.Proofs.YtnjikioimompnaaW.PrintMore
set_option linter.unusedVariables false
set_option linter.unusedSimpArgs false

/-! The stair is valid;its area,rectangle and directions -/
section
variable {n : Nat} (hn : 1 ≤ n) {g r : Int} (hg : 1 ≤ g) (hr : 1 ≤ r)
theorem sX_b (i : Nat) (hi : i ≤ 2 * n + 2) : 0 ≤ sX n i ∧ sX n i ≤ n:=by unfold sX;split <;> omega
theorem sY_b (i : Nat) (hi : i ≤ 2 * n + 2) : 0 ≤ sY n i ∧ sY n i ≤ n:=by unfold sY;split <;> omega
include hg hr in
theorem spt_b (i : Nat) (hi : i ≤ 2 * n + 2) : (0 ≤ (spt n g r i).f0 ∧ (spt n g r i).f0 ≤ n * g) ∧ (0 ≤ (spt n g r i).f1 ∧ (spt n g r i).f1 ≤ n * r):=by
  have h1:=sX_b (n:=n) i hi
  have h2:=sY_b (n:=n) i hi
  unfold spt
  have a:=mle hg h1.1;have b:=mle hg h1.2;have c:=mle hr h2.1;have d:=mle hr h2.2
  simp only [Int.zero_mul] at a c
  exact ⟨⟨a,b⟩,c,d⟩
include hn in
theorem stair_mem {p : S31} (hp : p ∈ stair n g r) : ∃ i,i < 2 * n + 2 ∧ p = spt n g r i:=by
  obtain ⟨i,hi,rfl⟩ := List.getElem_of_mem hp
  rw [stair_len hn] at hi
  refine ⟨i,hi, ?_⟩
  rw [← stair_P hn g r hi]
  unfold P
  rw [List.getD_eq_getElem?_getD,List.getElem?_eq_getElem (by rw [stair_len hn];exact hi)]
  rfl
include hn in
theorem stair_term {i : Nat} (hi : i < 2 * n + 2) {x0 x1 y0 y1 : Int} (E : Edge n i x0 x1 y0 y1) : term (stair n g r) i = (x0 * y1 - x1 * y0) * (g * r):=by
  unfold term
  rw [stair_P hn g r hi,(stair_nx hn g r hi).1,(sp n g r E).1,(sp n g r E).2]
  show x0 * g * (y1 * r) - x1 * g * (y0 * r) = (x0 * y1 - x1 * y0) * (g * r)
  rw [Int.sub_mul]
  congr 1 <;> simp only [Int.mul_assoc,Int.mul_comm,Int.mul_left_comm]
include hn in
theorem stair_ext {k0 k1 : Int → Int → Int} {i : Nat} (hi : i < 2 * n + 2) (h : ∀ j,j < 2 * n + 2 → j ≠ i → kL k0 k1 (spt n g r i) (spt n g r j)) : extF k0 k1 (stair n g r) (stair n g r).length = i:=by
  rw [stair_len hn]
  refine ext_eq hi (fun j hj hne=>?_)
  rw [stair_P hn g r hi,stair_P hn g r hj]
  exact h j hj hne
include hn in
theorem stair_sum : ∀ m : Nat,m ≤ n → sumTo (term (stair n g r)) (2 * m + 2) = ((n : Int) * n + m) * (g * r):=by
  intro m
  induction m with
  | zero =>
    intro _
    have t0:=stair_term hn (g:=g) (r:=r) (i:=0) (by omega) (x0:=0) (x1:=n) (y0:=0) (y1:=0) ⟨by simp [sX],by simp [sX],by simp [sY],by simp [sY]⟩
    have t1:=stair_term hn (g:=g) (r:=r) (i:=1) (by omega) (x0:=n) (x1:=n) (y0:=0) (y1:=n) ⟨by simp [sX],by simp [sX],by simp [sY],by simp [sY]⟩
    simp only [sumTo,t0,t1]
    simp
  | succ m ih =>
    intro hm
    have h:=ih (by omega)
    have E : ∀ i,Edge n i (sX n i) (sX n (i + 1)) (sY n i) (sY n (i + 1)):=fun i=>⟨rfl,rfl,rfl,rfl⟩
    have t0:=stair_term hn (g:=g) (r:=r) (i:=2 * m + 2) (by omega) (E _)
    have t1:=stair_term hn (g:=g) (r:=r) (i:=2 * m + 2 + 1) (by omega) (E _)
    have x0 : sX n (2 * m + 2) = n - m:=by unfold sX;rw [if_neg (by omega)];omega
    have x1 : sX n (2 * m + 2 + 1) = n - m - 1:=by unfold sX;rw [if_neg (by omega)];omega
    have x2 : sX n (2 * m + 2 + 1 + 1) = n - m - 1:=by unfold sX;rw [if_neg (by omega)];omega
    have y0 : sY n (2 * m + 2) = n - m:=by unfold sY;rw [if_neg (by omega)];omega
    have y1 : sY n (2 * m + 2 + 1) = n - m:=by unfold sY;rw [if_neg (by omega)];omega
    have y2 : sY n (2 * m + 2 + 1 + 1) = n - m - 1:=by unfold sY;rw [if_neg (by omega)];omega
    rw [x0,x1,y0,y1] at t0
    rw [x1,x2,y1,y2] at t1
    rw [show 2 * (m + 1) + 2 = 2 * m + 2 + 1 + 1 from by omega]
    show sumTo (term (stair n g r)) (2 * m + 2) + term (stair n g r) (2 * m + 2) + term (stair n g r) (2 * m + 2 + 1) = _
    rw [h,t0,t1,← Int.add_mul,← Int.add_mul]
    congr 1
    generalize (n : Int) - m = a
    have : a * a - (a - 1) * a + ((a - 1) * (a - 1) - (a - 1) * a) = 1:=by
      simp only [Int.sub_mul,Int.mul_sub,Int.one_mul,Int.mul_one];omega
    push_cast
    omega
include hn in
theorem stair_area : area (stair n g r) = ((n : Int) * n + n) * (g * r):=by
  unfold area
  rw [stair_len hn,stair_sum hn n (Nat.le_refl _)]
include hn hg hr
theorem stair_near (h1 : n * g ≤ 1000000) (h2 : n * r ≤ 1000000) : Near (stair n g r):=by
  intro p hp
  obtain ⟨i,hi,rfl⟩ := stair_mem hn hp
  have:=spt_b (n:=n) hg hr i (by omega)
  unfold near
  omega
theorem stair_nodup : NoDup (stair n g r):=by
  intro i hi
  rw [stair_len hn] at hi
  rw [stair_P hn g r hi,(stair_nx hn g r hi).1]
  have key : ∀ {x0 x1 y0 y1 : Int},Edge n i x0 x1 y0 y1 → (x0 ≠ x1 ∨ y0 ≠ y1) → spt n g r i ≠ spt n g r (i + 1):=by
    intro x0 x1 y0 y1 E h e
    rw [(sp n g r E).1,(sp n g r E).2] at e
    obtain ⟨e1,e2⟩ := S31.mk.inj e
    rcases h with h|h
    · exact mne hg h e1
    · exact mne hr h e2
  rcases edge n i with ⟨ei,E⟩|⟨ei,E⟩|⟨t,ht,ei,E⟩|⟨t,ht,ei,E⟩
  · exact key E (.inl (by omega))
  · exact key E (.inr (by omega))
  · exact key E (.inl (by omega))
  · exact key E (.inr (by omega))
theorem stair_valid (hn2 : n ≤ 31) (h1 : n * g ≤ 1000000) (h2 : n * r ≤ 1000000) : Valid (stair n g r):=by
  refine ⟨by rw [stair_len hn];omega,by rw [stair_len hn];omega,stair_near hn hg hr h1 h2,stair_nodup hn hg hr,stair_sim hn hg hr, ?_⟩
  rw [stair_area hn]
  have a : 0 < (n : Int) * n:=Int.mul_pos (by omega) (by omega)
  exact Int.mul_pos (by omega) (Int.mul_pos (by omega) (by omega))
theorem stair_box : Box (stair n g r) 0 0 (n * g) (n * r):=by
  refine ⟨fun i hi=>?_,⟨0,by rw [stair_len hn];omega, ?_⟩,⟨0,by rw [stair_len hn];omega, ?_⟩,⟨2,by rw [stair_len hn];omega, ?_⟩,⟨2,by rw [stair_len hn];omega, ?_⟩⟩
  · rw [stair_len hn] at hi
    rw [stair_P hn g r hi]
    exact spt_b hg hr i (by omega)
  · rw [stair_P hn g r (by omega)];simp [spt,sX]
  · rw [stair_P hn g r (by omega)];simp [spt,sY]
  · rw [stair_P hn g r (by omega)];simp [spt,sX]
  · rw [stair_P hn g r (by omega)];simp [spt,sY]
theorem stair_frm (h1 : n * g ≤ 1000000) (h2 : n * r ≤ 1000000) : (frm (stair n g r) 0 = 1 ∧ tow (stair n g r) 0 = 2) ∧ (frm (stair n g r) 1 = 3 ∧ tow (stair n g r) 1 = 0) ∧ (frm (stair n g r) 2 = 2 ∧ tow (stair n g r) 2 = 2 * n + 1) ∧ (frm (stair n g r) 3 = 0 ∧ tow (stair n g r) 3 = 1):=by
  have ng : ∀ j,j < 2 * n + 2 → wrap64 (-(spt n g r j).f0) = -(spt n g r j).f0 ∧ wrap64 (-(spt n g r j).f1) = -(spt n g r j).f1:=by
    intro j hj
    have:=spt_b (n:=n) hg hr j (by omega)
    exact ⟨w64 (by omega) (by omega),w64 (by omega) (by omega)⟩
  have lx : ∀ {i j : Nat},sX n i < sX n j → (spt n g r i).f0 < (spt n g r j).f0:=fun h=>ml hg h
  have ly : ∀ {i j : Nat},sY n i < sY n j → (spt n g r i).f1 < (spt n g r j).f1:=fun h=>ml hr h
  have ex : ∀ {i j : Nat},sX n i = sX n j → (spt n g r i).f0 = (spt n g r j).f0:=fun h=>by unfold spt;rw [h]
  have ey : ∀ {i j : Nat},sY n i = sY n j → (spt n g r i).f1 = (spt n g r j).f1:=fun h=>by unfold spt;rw [h]
  have X0 : sX n 0 = 0:=rfl
  have X1 : sX n 1 = n:=by simp [sX]
  have X2 : sX n 2 = n:=by simp [sX]
  have X3 : sX n 3 = n - 1:=by simp [sX]
  have Xl : sX n (2 * n + 1) = 0:=by unfold sX;rw [if_neg (by omega)];omega
  have Y0 : sY n 0 = 0:=rfl
  have Y1 : sY n 1 = 0:=rfl
  have Y2 : sY n 2 = n:=by simp [sY]
  have Y3 : sY n 3 = n:=by simp [sY]
  have Yl : sY n (2 * n + 1) = 1:=by unfold sY;rw [if_neg (by omega)];omega
  have gen : ∀ j,j < 2 * n + 2 → j = 0 ∨ j = 1 ∨ j = 2 ∨ j = 3 ∨ (j = 2 * n + 1 ∧ 2 ≤ n) ∨ ((1 ≤ sX n j ∧ sX n j ≤ n - 1) ∧ (1 ≤ sY n j ∧ sY n j ≤ n - 1)):=by
    intro j hj
    unfold sX sY
    by_cases h : j ≤ 3 ∨ j = 2 * n + 1
    · omega
    · rw [if_neg (by omega),if_neg (by omega)];omega
  refine ⟨⟨stair_ext hn (by omega) ?_,stair_ext hn (by omega) ?_⟩,⟨stair_ext hn (by omega) ?_,stair_ext hn (by omega) ?_⟩,⟨stair_ext hn (by omega) ?_,stair_ext hn (by omega) ?_⟩,stair_ext hn (by omega) ?_,stair_ext hn (by omega) ?_⟩
  · intro j hj hne
    unfold kL k61_0 k61_1
    rw [(ng _ (show 1 < 2 * n + 2 by omega)).1,(ng _ hj).1]
    rcases gen j hj with rfl|rfl|rfl|rfl|⟨rfl,h2n⟩|h
    · have a:=lx (i:=0) (j:=1) (by omega);have b:=ey (i:=1) (j:=0) (by omega);omega
    · omega
    · have a:=ly (i:=1) (j:=2) (by omega);omega
    · have a:=ly (i:=1) (j:=3) (by omega);omega
    · have a:=ly (i:=1) (j:=2 * n + 1) (by omega);omega
    · have a:=ly (i:=1) (j:=j) (by omega);omega
  · intro j hj hne
    unfold kL k62_0 k62_1
    rw [(ng _ (show 2 < 2 * n + 2 by omega)).1,(ng _ hj).1,(ng _ (show 2 < 2 * n + 2 by omega)).2,(ng _ hj).2]
    rcases gen j hj with rfl|rfl|rfl|rfl|⟨rfl,h2n⟩|h
    · have a:=ly (i:=0) (j:=2) (by omega);omega
    · have a:=ly (i:=1) (j:=2) (by omega);omega
    · omega
    · have a:=lx (i:=3) (j:=2) (by omega);have b:=ey (i:=2) (j:=3) (by omega);omega
    · have a:=ly (i:=2 * n + 1) (j:=2) (by omega);omega
    · have a:=ly (i:=j) (j:=2) (by omega);omega
  · intro j hj hne
    unfold kL k64_0 k64_1
    rw [(ng _ (show 3 < 2 * n + 2 by omega)).2,(ng _ hj).2]
    rcases gen j hj with rfl|rfl|rfl|rfl|⟨rfl,h2n⟩|h
    · have a:=ly (i:=0) (j:=3) (by omega);omega
    · have a:=ly (i:=1) (j:=3) (by omega);omega
    · have a:=lx (i:=3) (j:=2) (by omega);have b:=ey (i:=2) (j:=3) (by omega);omega
    · omega
    · have a:=ly (i:=2 * n + 1) (j:=3) (by omega);omega
    · have a:=ly (i:=j) (j:=3) (by omega);omega
  · intro j hj hne
    unfold kL k65_0 k65_1
    rcases gen j hj with rfl|rfl|rfl|rfl|⟨rfl,h2n⟩|h
    · omega
    · have a:=lx (i:=0) (j:=1) (by omega);have b:=ey (i:=0) (j:=1) (by omega);omega
    · have a:=ly (i:=0) (j:=2) (by omega);omega
    · have a:=ly (i:=0) (j:=3) (by omega);omega
    · have a:=ly (i:=0) (j:=2 * n + 1) (by omega);omega
    · have a:=ly (i:=0) (j:=j) (by omega);omega
  · intro j hj hne
    unfold kL k67_0 k67_1
    rw [(ng _ (show 2 < 2 * n + 2 by omega)).1,(ng _ hj).1,(ng _ (show 2 < 2 * n + 2 by omega)).2,(ng _ hj).2]
    rcases gen j hj with rfl|rfl|rfl|rfl|⟨rfl,h2n⟩|h
    · have a:=lx (i:=0) (j:=2) (by omega);omega
    · have a:=ly (i:=1) (j:=2) (by omega);have b:=ex (i:=1) (j:=2) (by omega);omega
    · omega
    · have a:=lx (i:=3) (j:=2) (by omega);omega
    · have a:=lx (i:=2 * n + 1) (j:=2) (by omega);omega
    · have a:=lx (i:=j) (j:=2) (by omega);omega
  · intro j hj hne
    unfold kL k68_0 k68_1
    rw [(ng _ (show 2 * n + 1 < 2 * n + 2 by omega)).2,(ng _ hj).2]
    rcases gen j hj with rfl|rfl|rfl|rfl|⟨rfl,h2n⟩|h
    · have a:=ly (i:=0) (j:=2 * n + 1) (by omega);have b:=ex (i:=0) (j:=2 * n + 1) (by omega);omega
    · have a:=lx (i:=2 * n + 1) (j:=1) (by omega);omega
    · have a:=lx (i:=2 * n + 1) (j:=2) (by omega);omega
    · have a:=lx (i:=2 * n + 1) (j:=3) (by omega);omega
    · omega
    · have a:=lx (i:=2 * n + 1) (j:=j) (by omega);omega
  · intro j hj hne
    unfold kL k70_0 k70_1
    rcases gen j hj with rfl|rfl|rfl|rfl|⟨rfl,h2n⟩|h
    · omega
    · have a:=lx (i:=0) (j:=1) (by omega);omega
    · have a:=lx (i:=0) (j:=2) (by omega);omega
    · by_cases e : n = 1
      · subst e
        have a:=ly (i:=0) (j:=3) (by omega);have b:=ex (i:=0) (j:=3) (by omega);omega
      · have a:=lx (i:=0) (j:=3) (by omega);omega
    · have a:=ly (i:=0) (j:=2 * n + 1) (by omega);have b:=ex (i:=0) (j:=2 * n + 1) (by omega);omega
    · have a:=lx (i:=0) (j:=j) (by omega);omega
  · intro j hj hne
    unfold kL k71_0 k71_1
    rw [(ng _ (show 1 < 2 * n + 2 by omega)).1,(ng _ hj).1]
    rcases gen j hj with rfl|rfl|rfl|rfl|⟨rfl,h2n⟩|h
    · have a:=lx (i:=0) (j:=1) (by omega);omega
    · omega
    · have a:=ly (i:=1) (j:=2) (by omega);have b:=ex (i:=1) (j:=2) (by omega);omega
    · have a:=lx (i:=3) (j:=1) (by omega);omega
    · have a:=lx (i:=2 * n + 1) (j:=1) (by omega);omega
    · have a:=lx (i:=j) (j:=1) (by omega);omega
end
end Go.Proofs.Ytnjikioimompnaa.Pure
