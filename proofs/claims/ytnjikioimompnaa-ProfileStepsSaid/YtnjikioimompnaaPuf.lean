import Derived.Test.YtnjikioimompnaaPue
namespace Go.Proofs.Ytnjikioimompnaa.Pure
open Go.RowKit Go.Proofs.Ytnjikioimompnaa Go.Proofs.Ytnjikioimompnaa.PA Go.Proofs.YtnjikioimompnaaW.PrintWords Go.Proofs.YtnjikioimompnaaW.PrintLast Go.Proofs.YtnjikioimompnaaW.PrintMore
set_option linter.unusedVariables false
set_option linter.unusedSimpArgs false

theorem tdiv_le {a n : Int} (hn : 1 ≤ n) : a ≤ Int.tdiv 1000000 n ↔ n * a ≤ 1000000:=by
  rw [Int.tdiv_eq_ediv_of_nonneg (by omega),Int.le_ediv_iff_mul_le (by omega),Int.mul_comm]
theorem tdiv_bd {n : Int} (hn : 1 ≤ n) : 0 ≤ Int.tdiv 1000000 n ∧ Int.tdiv 1000000 n ≤ 1000000:=by
  rw [Int.tdiv_eq_ediv_of_nonneg (by omega)]
  exact ⟨Int.ediv_nonneg (by omega) (by omega),Int.ediv_le_self _ (by omega)⟩
theorem step_l0 (nm : ByteArray) {g r : Int} (hg : 1 ≤ g) (hr : 1 ≤ r) : ∀ (m : Nat) (x : List S31), ((m + 1 : Nat) : Int) * g ≤ 1000000 → ((m + 1 : Nat) : Int) * r ≤ 1000000 → m ≤ 40 → x.length + 2 * m ≤ 1000 →
    Ev (fun k=>profile_Step.l0 k nm g r x (m : Int)) (nm,x ++ stailS g r m ++ [⟨0,r⟩],0):=by
  intro m
  induction m with
  | zero =>
    intro x h1 h2 hm hx
    refine Ev.step (f:=fun _=>some (nm,x ++ stailS g r 0 ++ [⟨0,r⟩],0)) (fun k=>?_) (Ev.now _)
    simp only [profile_Step.l0]
    rw [if_neg (by omega),if_pos (by omega)]
    simp [stailS]
  | succ m ih =>
    intro x h1 h2 hm hx
    have e1 : ((m + 1 + 1 : Nat) : Int) * g = (m + 1 : Nat) * g + g:=by push_cast;rw [Int.add_mul ((m : Int) + 1) 1 g,Int.one_mul]
    have e2 : ((m + 1 + 1 : Nat) : Int) * r = (m + 1 : Nat) * r + r:=by push_cast;rw [Int.add_mul ((m : Int) + 1) 1 r,Int.one_mul]
    have p1 : 0 ≤ ((m + 1 : Nat) : Int) * g:=Int.mul_nonneg (by omega) (by omega)
    have p2 : 0 ≤ ((m + 1 : Nat) : Int) * r:=Int.mul_nonneg (by omega) (by omega)
    have h:=ih (x ++ [⟨((m + 1 : Nat) : Int) * g,((m + 2 : Nat) : Int) * r⟩,⟨((m + 1 : Nat) : Int) * g,((m + 1 : Nat) : Int) * r⟩]) (by omega) (by omega) (by omega) (by simp;omega)
    have ea : x ++ [(⟨((m + 1 : Nat) : Int) * g,((m + 2 : Nat) : Int) * r⟩ : S31),⟨((m + 1 : Nat) : Int) * g,((m + 1 : Nat) : Int) * r⟩] ++ stailS g r m ++ [⟨0,r⟩] = x ++ stailS g r (m + 1) ++ [⟨0,r⟩] := by simp [stailS]
    rw [ea] at h
    refine Ev.step (fun k=>?_) h
    simp only [profile_Step.l0]
    rw [if_pos (by omega)]
    simp only [Option.bind_some]
    rw [if_pos (by simp;omega),w1 (by omega),w64 (n:=((m + 1 : Nat) : Int) * g) (by omega) (by omega),w64 (n:=((m + 1 + 1 : Nat) : Int) * r) (by omega) (by omega),w64 (n:=((m + 1 : Nat) : Int) * r) (by omega) (by omega),w64 (n:=((m + 1 : Nat) : Int) - 1) (by omega) (by omega)]
    congr 1
    omega
theorem Step_f (nm : ByteArray) (hnm : nm.size ≤ 1000000) (a g r : Int) (h1 : -9223372036854775808 ≤ a ∧ a ≤ 9223372036854775807) :
    (∃ e,e ≠ 0 ∧ Ev (fun k=>profile_Step.f k nm a g r) (⟨#[]⟩,[],e)) ∨ (lexName nm = true ∧ ∃ n : Nat,a = n ∧ 1 ≤ n ∧ n ≤ 31 ∧ 1 ≤ g ∧ 1 ≤ r ∧ n * g ≤ 1000000 ∧ n * r ≤ 1000000 ∧ Ev (fun k=>profile_Step.f k nm a g r) (nm,stair n g r,0)):=by
  unfold profile_Step.f lexer_Name.f
  rw [if_pos (show nm.size ≤ 9223372036854775807 by omega)]
  have bad : Ev (fun k=>profile_Step.j0 k nm a g r true) (⟨#[]⟩,[],6):=Ev.step (f:=fun _=>some ((⟨#[]⟩ : ByteArray),([] : List S31),(6 : Int))) (fun k=>by simp only [profile_Step.j0];rfl) (Ev.now _)
  by_cases h0 : lexName nm = true
  · by_cases c1 : a < 1
    · exact .inl ⟨6,by omega,Ev.congr (fun k=>by simp only [Option.bind_some];rw [if_pos h0,if_pos c1]) bad⟩
    by_cases c2 : a > 31
    · exact .inl ⟨6,by omega,Ev.congr (fun k=>by simp only [Option.bind_some];rw [if_pos h0,if_neg c1,if_pos c2]) bad⟩
    by_cases c3 : g < 1
    · exact .inl ⟨6,by omega,Ev.congr (fun k=>by simp only [Option.bind_some];rw [if_pos h0,if_neg c1,if_neg c2,if_pos c3]) bad⟩
    by_cases c4 : r < 1
    · exact .inl ⟨6,by omega,Ev.congr (fun k=>by simp only [Option.bind_some];rw [if_pos h0,if_neg c1,if_neg c2,if_neg c3,if_pos c4]) bad⟩
    have hb:=tdiv_bd (n:=a) (by omega)
    have hw : wrap64 (Int.tdiv 1000000 a) = Int.tdiv 1000000 a:=w64 (by omega) (by omega)
    by_cases c5 : g > Int.tdiv 1000000 a
    · exact .inl ⟨6,by omega,Ev.congr (fun k=>by simp only [Option.bind_some];rw [if_pos h0,if_neg c1,if_neg c2,if_neg c3,if_neg c4,if_neg (by omega),hw,if_pos c5]) bad⟩
    by_cases c6 : r > Int.tdiv 1000000 a
    · exact .inl ⟨6,by omega,Ev.congr (fun k=>by simp only [Option.bind_some];rw [if_pos h0,if_neg c1,if_neg c2,if_neg c3,if_neg c4,if_neg (by omega),hw,if_neg c5,decide_eq_true c6]) bad⟩
    obtain ⟨n,rfl⟩ : ∃ n : Nat,a = n:=⟨a.toNat,by omega⟩
    have g1 : (n : Int) * g ≤ 1000000:=(tdiv_le (by omega)).1 (by omega)
    have g2 : (n : Int) * r ≤ 1000000:=(tdiv_le (by omega)).1 (by omega)
    have q1 : 0 ≤ (n : Int) * g:=Int.mul_nonneg (by omega) (by omega)
    have q2 : 0 ≤ (n : Int) * r:=Int.mul_nonneg (by omega) (by omega)
    refine .inr ⟨h0,n,rfl,by omega,by omega,by omega,by omega,g1,g2, ?_⟩
    have L:=step_l0 nm (g:=g) (r:=r) (by omega) (by omega) (n - 1) [⟨0,0⟩,⟨(n : Int) * g,0⟩,⟨(n : Int) * g,(n : Int) * r⟩] (by rw [show n - 1 + 1 = n from by omega];exact g1) (by rw [show n - 1 + 1 = n from by omega];exact g2) (by omega) (by simp;omega)
    refine Ev.congr (fun k=>by simp only [Option.bind_some];rw [if_pos h0,if_neg c1,if_neg c2,if_neg c3,if_neg c4,if_neg (by omega),hw,if_neg c5,decide_eq_false c6]) (Ev.step (fun k=>?_) L)
    simp only [profile_Step.j0]
    rw [if_neg (by simp),w64 (n:=(n : Int) * g) (by omega) (by omega),w64 (n:=(n : Int) * r) (by omega) (by omega),w64 (n:=(n : Int) - 1) (by omega) (by omega)]
    congr 1
    omega
  · exact .inl ⟨4,by omega,Ev.congr (fun k=>by simp only [Option.bind_some];rw [if_neg h0]) (Ev.now _)⟩
end Go.Proofs.Ytnjikioimompnaa.Pure
