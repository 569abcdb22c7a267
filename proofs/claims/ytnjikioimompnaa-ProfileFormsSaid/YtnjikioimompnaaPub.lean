import Derived.Test.YtnjikioimompnaaGb
import Derived.Test.YtnjikioimompnaaPua
namespace Go.Proofs.Ytnjikioimompnaa.Pure
open Go.RowKit Go.Proofs.Ytnjikioimompnaa Go.Proofs.Ytnjikioimompnaa.PA Go.Proofs.YtnjikioimompnaaW.PrintWords Go.Proofs.YtnjikioimompnaaW.PrintLast Go.Proofs.YtnjikioimompnaaW.PrintMore
set_option linter.unusedVariables false
set_option linter.unusedSimpArgs false
def sumTo (f : Nat → Int) : Nat → Int
 | 0=>0
 | n + 1=>sumTo f n + f n
theorem sumTo_bd {f : Nat → Int} {M : Int} (n : Nat) (h : ∀ i,i < n → -M ≤ f i ∧ f i ≤ M) : -(n * M) ≤ sumTo f n ∧ sumTo f n ≤ n * M:=by
 induction n with
 | zero=>simp [sumTo]
 | succ n ih =>
  have h1:=ih (fun i hi=>h i (by omega));have h2:=h n (by omega);simp only [sumTo]
  have e : ((n + 1 : Nat) : Int) * M = n * M + M:=by push_cast;rw [Int.add_mul,Int.one_mul]
  omega
def term (l : List S31) (i : Nat) : Int:=(P l i).f0 * (P l (nx l i)).f1 - (P l (nx l i)).f0 * (P l i).f1
def area (l : List S31) : Int:=sumTo (term l) l.length
theorem term_bd {l : List S31} (h : Near l) {i : Nat} (hi : i < l.length) :
  (-1000000000000 ≤ (P l i).f0 * (P l (nx l i)).f1 ∧ (P l i).f0 * (P l (nx l i)).f1 ≤ 1000000000000) ∧ (-1000000000000 ≤ (P l (nx l i)).f0 * (P l i).f1 ∧ (P l (nx l i)).f0 * (P l i).f1 ≤ 1000000000000):=by
 have a:=h.at hi;have b:=h.at (nx_lt (l:=l) (by omega) i)
 unfold near at a b
 have h1:=mul_bd (x:=(P l i).f0) (y:=(P l (nx l i)).f1) (X:=1000000) (Y:=1000000) (by omega) (by omega) (by omega) (by omega);have h2:=mul_bd (x:=(P l (nx l i)).f0) (y:=(P l i).f1) (X:=1000000) (Y:=1000000) (by omega) (by omega) (by omega) (by omega)
 omega
theorem part_bd {l : List S31} (h : Near l) (hl : l.length < 1000) {i : Nat} (hi : i ≤ l.length) : -2000000000000000 ≤ sumTo (term l) i ∧ sumTo (term l) i ≤ 2000000000000000:=by
 have:=sumTo_bd (f:=term l) (M:=2000000000000) i (fun j hj=>by
  have:=term_bd h (i:=j) (by omega)
  unfold term;omega)
 omega
theorem area_l {l : List S31} (h : Near l) (hl : l.length < 1000) : ∀ d i : Nat,i + d = l.length → Ev (fun k=>profile_area.l0 k l (sumTo (term l) i) l (l.length : Int) (i : Int)) (area l):=by
 intro d
 induction d with
 | zero =>
  intro i hi
  obtain rfl : i = l.length:=by omega
  exact Ev.step (f:=fun _=>some (area l)) (fun k=>by simp only [profile_area.l0];rw [if_neg (by omega)];rfl) (Ev.now _)
 | succ d ih =>
  intro i hi;have hb:=term_bd h (i:=i) (by omega);have hp:=part_bd h hl (i:=i) (by omega);have hn:=nx_lt (l:=l) (by omega) i
  refine Ev.step (fun k=>?_) (ih (i + 1) (by omega))
  simp only [profile_area.l0];rw [if_pos (by omega),if_pos (by omega),if_pos (by omega),next_f (by omega) (by omega) (by omega)];simp only [Option.bind_some]
  rw [if_pos (by omega),if_pos (by omega),rd_P,rd_P,w1 (by omega),w64 (n:=(P l i).f0 * (P l (nx l i)).f1) (by omega) (by omega),w64 (n:=(P l (nx l i)).f0 * (P l i).f1) (by omega) (by omega),
   w64 (n:=(P l i).f0 * (P l (nx l i)).f1 - (P l (nx l i)).f0 * (P l i).f1) (by omega) (by omega),w64 (by omega) (by omega)]
  rfl
theorem area_f {l : List S31} (h : Near l) (hl : l.length < 1000) : Ev (fun k=>profile_area.f k l) (area l):=area_l h hl l.length 0 (by simp)
def allow (l : List S31) (i k : Nat) : Int:=if nx l k = i ∨ nx l i = k then 1 else 0
def SimAt (l : List S31) (i k : Nat) : Prop:=meet (P l i) (P l (nx l i)) (P l k) (P l (nx l k)) ≤ allow l i k
def Sim (l : List S31) : Prop := ∀ i,i < l.length → ∀ k,k < i → SimAt l i k
def NoDup (l : List S31) : Prop := ∀ i,i < l.length → P l i ≠ P l (nx l i)
theorem simple_l1 {l : List S31} (h : Near l) (hd : NoDup l) (hl : l.length < 1000) {i : Nat} (hi : i < l.length) {b : Bool} (hb : Ev (fun k => profile_simple.l0 k l (l.length : Int) ((i + 1 : Nat) : Int)) b) :
  ∀ d kk : Nat,kk + d = i → ∃ b',Ev (fun k=>profile_simple.l1 k l (i : Int) (l.length : Int) (i : Int) (i : Int) (kk : Int)) b' ∧ (b' = true ↔ (∀ k',kk ≤ k' → k' < i → SimAt l i k') ∧ b = true):=by
 intro d
 induction d with
 | zero =>
  intro kk hk
  obtain rfl : kk = i:=by omega
  refine ⟨b,Ev.step (fun k=>?_) hb,⟨fun h=>⟨fun k' h1 h2=>by omega,h⟩,fun h=>h.2⟩⟩
  simp only [profile_simple.l1];rw [if_neg (by omega),w1 (by omega)]
 | succ d ih =>
  intro kk hk;obtain ⟨b',hb',hiff⟩ := ih (kk + 1) (by omega);have hn:=nx_lt (l:=l) (by omega) i;have hn2:=nx_lt (l:=l) (by omega) kk;have M:=meet_f (h.at (i:=i) (by omega)) (h.at hn) (h.at (i:=kk) (by omega)) (h.at hn2) (hd i (by omega)) (hd kk (by omega))
  have key : ∀ x52 : Bool,(x52 = true ↔ (nx l kk = i ∨ nx l i = kk)) → ∃ b'',Ev (fun k=>profile_simple.j2 k l (i : Int) (meet (P l i) (P l (nx l i)) (P l kk) (P l (nx l kk))) 0 0 (l.length : Int) (i : Int) (i : Int) (kk : Int) x52) b'' ∧ (b'' = true ↔ (∀ k',kk ≤ k' → k' < i → SimAt l i k') ∧ b = true):=by
   intro x hx
   have ha : ∀ m : Int,m = meet (P l i) (P l (nx l i)) (P l kk) (P l (nx l kk)) → (SimAt l i kk ↔ m ≤ if x = true then 1 else 0):=by
    rintro m rfl
    unfold SimAt allow
    by_cases e : nx l kk = i ∨ nx l i = kk
    (rw [if_pos e,if_pos (hx.2 e)]);(rw [if_neg e,if_neg (fun h=>e (hx.1 h))])
   by_cases hs : SimAt l i kk
   ·refine ⟨b',Ev.step (f:=fun k=>profile_simple.l1 k l (i : Int) (l.length : Int) (i : Int) (i : Int) ((kk + 1 : Nat) : Int)) (fun k=>?_) hb', ?_⟩
    ·have hs':=(ha _ rfl).1 hs;simp only [profile_simple.j2];rw [w1 (by omega)];by_cases e : x = true
     (rw [if_pos e] at hs';rw [if_pos e,if_pos trivial,if_neg (by omega)]);(rw [if_neg e] at hs';rw [if_neg e,if_pos trivial,if_neg (by omega)])
    ·rw [hiff]
     refine ⟨fun hh=>⟨fun k' h1 h2=>?_,hh.2⟩,fun hh=>⟨fun k' h1 h2=>hh.1 k' (by omega) h2,hh.2⟩⟩
     by_cases e : k' = kk
     (subst e;exact hs);(exact hh.1 k' (by omega) h2)
   ·refine ⟨false,Ev.step (f:=fun k=>some false) (fun k=>?_) (Ev.now _),⟨fun h=>Bool.noConfusion h,fun hh=>absurd (hh.1 kk (Nat.le_refl _) (by omega)) hs⟩⟩
    have hs':=mt (ha _ rfl).2 hs;simp only [profile_simple.j2];by_cases e : x = true
    (rw [if_pos e] at hs';rw [if_pos e,if_pos trivial,if_pos (by omega)]);(rw [if_neg e] at hs';rw [if_neg e,if_pos trivial,if_pos (by omega)])
  by_cases e : nx l kk = i
  ·obtain ⟨b'',hb'',hi''⟩ := key true (by simp [e])
   refine ⟨b'',Ev.step (f:=fun k=>(vector_Meet.f k (P l i).f0 (P l i).f1 (P l (nx l i)).f0 (P l (nx l i)).f1 (P l kk).f0 (P l kk).f1 (P l (nx l kk)).f0 (P l (nx l kk)).f1).bind fun t=>profile_simple.j2 k l (i : Int) t.1 t.2 0 (l.length : Int) (i : Int) (i : Int) (kk : Int) true) (fun k=>?_) (Ev.bind M hb''),hi''⟩
   simp only [profile_simple.l1];rw [if_pos (by omega),if_pos (by omega),if_pos (by omega),next_f (by omega) (by omega) (by omega)];simp only [Option.bind_some];rw [if_pos (by omega),if_pos (by omega),if_pos (by omega),if_pos (by omega),next_f (by omega) (by omega) (by omega)];simp only [Option.bind_some];rw [if_pos (by omega),if_pos (by omega),rd_P,rd_P,rd_P,rd_P]
   congr 1
   funext t
   rw [if_pos (by omega)]
  ·obtain ⟨b'', hb'', hi''⟩ := key ((nx l i : Int) == (kk : Int)) (by
    rw [beq_iff_eq]
    exact ⟨fun h=>.inr (by omega),fun h=>by rcases h with h|h;exact absurd h e;omega⟩)
   refine ⟨b'',Ev.step (f:=fun k=>(vector_Meet.f k (P l i).f0 (P l i).f1 (P l (nx l i)).f0 (P l (nx l i)).f1 (P l kk).f0 (P l kk).f1 (P l (nx l kk)).f0 (P l (nx l kk)).f1).bind fun t=>profile_simple.j2 k l (i : Int) t.1 t.2 0 (l.length : Int) (i : Int) (i : Int) (kk : Int) ((nx l i : Int) == (kk : Int))) (fun k=>?_) (Ev.bind M hb''),hi''⟩
   simp only [profile_simple.l1];rw [if_pos (by omega),if_pos (by omega),if_pos (by omega),next_f (by omega) (by omega) (by omega)];simp only [Option.bind_some];rw [if_pos (by omega),if_pos (by omega),if_pos (by omega),if_pos (by omega),next_f (by omega) (by omega) (by omega)];simp only [Option.bind_some];rw [if_pos (by omega),if_pos (by omega),rd_P,rd_P,rd_P,rd_P]
   congr 1
   funext t
   rw [if_neg (by omega)]
theorem simple_l0 {l : List S31} (h : Near l) (hd : NoDup l) (hl : l.length < 1000) : ∀ d i : Nat,i + d = l.length → ∃ b,Ev (fun k=>profile_simple.l0 k l (l.length : Int) (i : Int)) b ∧ (b = true ↔ ∀ j,i ≤ j → j < l.length → ∀ k,k < j → SimAt l j k):=by
 intro d
 induction d with
 | zero =>
  intro i hi
  refine ⟨true,Ev.step (f:=fun _=>some true) (fun k=>?_) (Ev.now _),⟨fun _ j h1 h2=>by omega,fun _=>rfl⟩⟩
  simp only [profile_simple.l0];rw [if_neg (by omega)]
 | succ d ih =>
  intro i hi;obtain ⟨b,hb,hiff⟩ := ih (i + 1) (by omega);obtain ⟨b',hb',hi'⟩ := simple_l1 h hd hl (i:=i) (by omega) hb i 0 (by omega)
  refine ⟨b',Ev.step (fun k=>?_) hb', ?_⟩
  (simp only [profile_simple.l0];rw [if_pos (by omega)];rfl)
  ·rw [hi',hiff]
   refine ⟨fun hh j h1 h2 k hk=>?_,fun hh=>⟨fun k' _ h2=>hh i (Nat.le_refl _) (by omega) k' h2,fun j h1 h2=>hh j (by omega) h2⟩⟩
   by_cases e : j = i
   (subst e;exact hh.1 k (Nat.zero_le _) hk);(exact hh.2 j (by omega) h2 k hk)
theorem simple_f {l : List S31} (h : Near l) (hd : NoDup l) (hl : l.length < 1000) : ∃ b,Ev (fun k=>profile_simple.f k l) b ∧ (b = true ↔ Sim l):=by
 obtain ⟨b,hb,hi⟩ := simple_l0 h hd hl l.length 0 (by simp);exact ⟨b,hb,hi.trans ⟨fun hh j h2=>hh j (Nat.zero_le _) h2,fun hh j _ h2=>hh j h2⟩⟩
theorem badP_iff (p : S31) : badP p = false ↔ near p:=by
 unfold badP nearB near
 simp only [Bool.or_eq_false_iff,Bool.not_eq_false',Bool.and_eq_true,decide_eq_true_eq]
theorem Near_iff (l : List S31) : l.any badP = false ↔ Near l:=by
 rw [List.any_eq_false]
 unfold Near
 exact ⟨fun h p hp=>(badP_iff p).1 (by simpa using h p hp),fun h p hp=>by simpa using (badP_iff p).2 (h p hp)⟩
theorem eqP_iff (a b : S31) : eqP a b = true ↔ a = b:=by
 unfold eqP
 rw [Bool.and_eq_true,beq_iff_eq,beq_iff_eq];exact ⟨fun h=>S31_ext h.1 h.2,fun h=>by subst h;exact ⟨rfl,rfl⟩⟩
theorem NoDup_iff (l : List S31) : dupP l = false ↔ NoDup l:=by
 unfold dupP NoDup
 rw [List.any_eq_false]
 constructor
 (intro h i hi e;exact h i (List.mem_range.2 hi) ((eqP_iff _ _).2 e));(intro h i hi e;exact h i (List.mem_range.1 hi) ((eqP_iff _ _).1 e))
structure Valid (l : List S31) : Prop where
 lo : 3 ≤ l.length
 hi : l.length ≤ 64
 near : Near l
 nodup : NoDup l
 sim : Sim l
 pos : 0 < area l
open Classical in
noncomputable def chk (nm : ByteArray) (l : List S31) : Int :=
 if lexName nm = true then (if l.length < 3 ∨ 64 < l.length then 1 else if Near l then (if NoDup l then (if Sim l then (if 0 < area l then 0 else 1) else 11) else 5) else 6) else 4
theorem chk_zero {nm : ByteArray} {l : List S31} : chk nm l = 0 ↔ lexName nm = true ∧ Valid l:=by
 unfold chk
 constructor
 ·intro h
  split at h
  ·split at h
   ·omega
   ·split at h
    ·split at h
     ·split at h
      ·split at h
       (exact ⟨by assumption,by omega,by omega,by assumption,by assumption,by assumption,by assumption⟩)
       ·omega
      ·omega
     ·omega
    ·omega
  ·omega
 (rintro ⟨h0,h1,h2,h3,h4,h5,h6⟩;rw [if_pos h0,if_neg (by omega),if_pos h3,if_pos h4,if_pos h5,if_pos h6])
theorem check_f (nm : ByteArray) (l : List S31) (hnm : nm.size ≤ 1000000) : Ev (fun k=>profile_Check.f k nm l) (chk nm l):=by
 unfold profile_Check.f lexer_Name.f chk
 rw [if_pos (by omega)];simp only [Option.bind_some];by_cases h0 : lexName nm = true
 ·rw [if_pos h0]
  refine Ev.congr (fun k=>if_pos h0) ?_
  by_cases h1 : l.length < 3
  (rw [if_pos (.inl h1)];exact Ev.congr (fun k=>if_pos h1) (Ev.now _))
  ·refine Ev.congr (fun k=>if_neg h1) ?_
   by_cases h2 : 64 < l.length
   (rw [if_pos (.inr h2)];exact Ev.congr (fun k=>if_pos h2) (Ev.now _))
   ·rw [if_neg (by omega)]
    refine Ev.congr (fun k=>if_neg h2) ?_
    by_cases h3 : Near l
    ·rw [if_pos h3]
     refine Ev.congr (fun k=>if_neg (by rw [(Near_iff l).2 h3];simp)) ?_
     by_cases h4 : NoDup l
     ·rw [if_pos h4]
      refine Ev.congr (fun k=>if_neg (by rw [(NoDup_iff l).2 h4];simp)) ?_
      obtain ⟨b,hb,hi⟩ := simple_f h3 h4 (by omega)
      refine Ev.bind hb ?_
      by_cases h5 : Sim l
      ·rw [if_pos h5]
       refine Ev.congr (fun k=>if_pos (hi.2 h5)) (Ev.bind (area_f h3 (by omega)) ?_)
       by_cases h6 : 0 < area l
       (rw [if_pos h6];exact Ev.congr (fun k=>if_neg (by omega)) (Ev.now _));(rw [if_neg h6];exact Ev.congr (fun k=>if_pos (by omega)) (Ev.now _))
      (rw [if_neg h5];exact Ev.congr (fun k=>if_neg (fun h=>h5 (hi.1 h))) (Ev.now _))
     ·rw [if_neg h4]
      refine Ev.congr (fun k=>if_pos (by
       rcases Bool.eq_false_or_eq_true (dupP l) with h|h
       (exact h)
       ·exact absurd ((NoDup_iff l).1 h) h4)) (Ev.now _)
    ·rw [if_neg h3]
     refine Ev.congr (fun k=>if_pos (by
      rcases Bool.eq_false_or_eq_true (l.any badP) with h|h
      (exact h)
      ·exact absurd ((Near_iff l).1 h) h3)) (Ev.now _)
 (rw [if_neg h0];exact Ev.congr (fun k=>if_neg h0) (Ev.now _))
end Go.Proofs.Ytnjikioimompnaa.Pure
