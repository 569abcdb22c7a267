import Derived.Test.YtnjikioimompnaaPAx14
import Derived.Test.YtnjikioimompnaaPuj
import Derived.Test.YtnjikioimompnaaPum
import Derived.Test.YtnjikioimompnaaPuo
namespace Go.Proofs.Ytnjikioimompnaa.Pure
open Go.RowKit Go.Proofs.Ytnjikioimompnaa Go.Proofs.Ytnjikioimompnaa.PA Go.Proofs.YtnjikioimompnaaW.PrintWords Go.Proofs.YtnjikioimompnaaW.PrintLast Go.Proofs.YtnjikioimompnaaW.PrintMore
set_option linter.unusedVariables false
set_option linter.unusedSimpArgs false
theorem tm1 {l : List S31} {i : Nat} (hl : l.length < 1000) (hi : i < l.length) : Int.tmod (wrap64 ((i : Int) + 1)) (l.length : Int) = (nx l i : Int):=by rw [w1 (by omega)];rfl
theorem rArea_l {l : List S31} (h : Near l) (hl : l.length < 1000) : ∀ d i : Nat,i + d = l.length → Ev (fun k=>gangsawref39_Area.l0 k l (sumTo (term l) i) (i : Int)) (area l):=by
 intro d
 induction d with
 | zero =>
  intro i hi
  obtain rfl : i = l.length:=by omega
  exact Ev.step (f:=fun _=>some (area l)) (fun k=>by simp only [gangsawref39_Area.l0];rw [if_neg (by omega)];rfl) (Ev.now _)
 | succ d ih =>
  intro i hi;have hb:=term_bd h (i:=i) (by omega);have hp:=part_bd h hl (i:=i) (by omega);have hn:=nx_lt (l:=l) (by omega) i
  refine Ev.step (fun k=>?_) (ih (i + 1) (by omega))
  simp only [gangsawref39_Area.l0]
  rw [tm1 hl (by omega),if_pos (by omega),if_pos (by omega),if_neg (by omega),if_pos (by omega),if_pos (by omega),rd_P,rd_P,w1 (by omega),w64 (n:=(P l i).f0 * (P l (nx l i)).f1) (by omega) (by omega),w64 (n:=(P l (nx l i)).f0 * (P l i).f1) (by omega) (by omega),
   w64 (n:=sumTo (term l) i + (P l i).f0 * (P l (nx l i)).f1) (by omega) (by omega),w64 (by omega) (by omega)]
  congr 1
  show _ = sumTo (term l) i + ((P l i).f0 * (P l (nx l i)).f1 - (P l (nx l i)).f0 * (P l i).f1)
  omega
theorem rArea_f {l : List S31} (h : Near l) (hl : l.length < 1000) : Ev (fun k=>gangsawref39_Area.f k l) (area l):=rArea_l h hl l.length 0 (by simp)
theorem allow_r {l : List S31} {i k : Nat} (hi : i < l.length) (hk : k < i) : (nx l k = i ∨ nx l i = k) ↔ (k + 1 = i ∨ (k = 0 ∧ i = l.length - 1)):=by
 unfold nx
 rw [Nat.mod_eq_of_lt (show k + 1 < l.length by omega)]
 rcases (show i + 1 < l.length ∨ i + 1 = l.length by omega) with a|a
 ·rw [Nat.mod_eq_of_lt a];omega
 ·rw [a,Nat.mod_self];omega
open Classical in
theorem rSimple_l1 {l : List S31} (h : Near l) (hd : NoDup l) (hl : l.length < 1000) {i : Nat} (hi : i < l.length) {b : Bool} (hb : Ev (fun k => gangsawref39_simple.l0 k l (l.length : Int) ((i + 1 : Nat) : Int)) b) :
  ∀ d kk : Nat,kk + d = i → ∃ b',Ev (fun k=>gangsawref39_simple.l1 k l (l.length : Int) (i : Int) (kk : Int)) b' ∧ (b' = true ↔ (∀ k',kk ≤ k' → k' < i → SimAt l i k') ∧ b = true):=by
 intro d
 induction d with
 | zero =>
  intro kk hk
  obtain rfl : kk = i:=by omega
  refine ⟨b,Ev.step (fun k=>?_) hb,⟨fun h=>⟨fun k' h1 h2=>by omega,h⟩,fun h=>h.2⟩⟩
  simp only [gangsawref39_simple.l1];rw [if_neg (by omega),w1 (by omega)]
 | succ d ih =>
  intro kk hk;obtain ⟨b',hb',hiff⟩ := ih (kk + 1) (by omega);have hn:=nx_lt (l:=l) (by omega) i;have hn2:=nx_lt (l:=l) (by omega) kk;have M:=rMeet_f (h.at (i:=i) (by omega)) (h.at hn) (h.at (i:=kk) (by omega)) (h.at hn2) (hd i (by omega)) (hd kk (by omega))
  have key : ∀ x : Bool,(x = true ↔ (nx l kk = i ∨ nx l i = kk)) → ∃ b'',Ev (fun k=>gangsawref39_simple.j2 k l (l.length : Int) (i : Int) (kk : Int) 0 x) b'' ∧ (b'' = true ↔ (∀ k',kk ≤ k' → k' < i → SimAt l i k') ∧ b = true):=by
   intro x hx
   have ha : SimAt l i kk ↔ meet (P l i) (P l (nx l i)) (P l kk) (P l (nx l kk)) ≤ if x = true then 1 else 0:=by
    unfold SimAt allow
    by_cases e : nx l kk = i ∨ nx l i = kk
    (rw [if_pos e,if_pos (hx.2 e)]);(rw [if_neg e,if_neg (fun h=>e (hx.1 h))])
   have full : Ev (fun k=>(gangsawref03_Meet.f k (P l i).f0 (P l i).f1 (P l (nx l i)).f0 (P l (nx l i)).f1 (P l kk).f0 (P l kk).f1 (P l (nx l kk)).f0 (P l (nx l kk)).f1).bind fun t=>if t > (if x = true then 1 else 0) then some false else gangsawref39_simple.l1 k l (l.length : Int) (i : Int) ((kk + 1 : Nat) : Int)) (if SimAt l i kk then b' else false):=by
    refine Ev.bind M ?_
    by_cases hs : SimAt l i kk
    ·rw [if_pos hs]
     have:=ha.1 hs
     exact Ev.congr (fun k=>if_neg (by omega)) hb'
    ·rw [if_neg hs]
     have:=mt ha.2 hs
     exact Ev.congr (fun k=>if_pos (by omega)) (Ev.now _)
   refine ⟨if SimAt l i kk then b' else false,Ev.step (fun k=>?_) full, ?_⟩
   ·simp only [gangsawref39_simple.j2];rw [tm1 hl hi,tm1 hl (show kk < l.length by omega),rd_P,rd_P,rd_P,rd_P,w1 (by omega)]
    have c1 : (0 : Int) ≤ (i : Int):=by omega
    have c2 : (i : Int) < (l.length : Int):=by omega
    have c3 : ¬ (l.length : Int) = 0:=by omega
    have c4 : (0 : Int) ≤ (nx l i : Int):=by omega
    have c5 : (nx l i : Int) < (l.length : Int):=by omega
    have c6 : (0 : Int) ≤ (kk : Int):=by omega
    have c7 : (kk : Int) < (l.length : Int):=by omega
    have c8 : (0 : Int) ≤ (nx l kk : Int):=by omega
    have c9 : (nx l kk : Int) < (l.length : Int):=by omega
    rw [if_pos c1,if_pos c2,if_neg c3,if_pos c4,if_pos c5,if_pos c6,if_pos c7,if_pos c8,if_pos c9,if_pos c1,if_pos c2,if_neg c3,if_pos c4,if_pos c5,if_pos c6,if_pos c7,if_pos c8,if_pos c9]
    cases x with
    | true=>rfl
    | false=>rfl
   ·by_cases hs : SimAt l i kk
    ·rw [if_pos hs,hiff]
     refine ⟨fun hh=>⟨fun k' h1 h2=>?_,hh.2⟩,fun hh=>⟨fun k' h1 h2=>hh.1 k' (by omega) h2,hh.2⟩⟩
     by_cases e : k' = kk
     (subst e;exact hs);(exact hh.1 k' (by omega) h2)
    (rw [if_neg hs];exact ⟨fun h=>Bool.noConfusion h,fun hh=>absurd (hh.1 kk (Nat.le_refl _) (by omega)) hs⟩)
  have hr:=allow_r (l:=l) hi (show kk < i by omega);by_cases e1 : kk + 1 = i
  ·obtain ⟨b'',h1,h2⟩ := key true (by rw [hr];simp [e1])
   refine ⟨b'',Ev.step (fun k=>?_) h1,h2⟩
   simp only [gangsawref39_simple.l1];rw [if_pos (by omega),if_pos (by rw [w1 (by omega)];omega)]
  ·by_cases e2 : kk = 0
   ·obtain ⟨b'',h1,h2⟩ := key (decide (i = l.length - 1)) (by rw [hr,decide_eq_true_iff];omega)
    refine ⟨b'',Ev.step (fun k=>?_) h1,h2⟩
    simp only [gangsawref39_simple.l1];rw [if_pos (by omega),if_neg (by rw [w1 (by omega)];omega),if_pos (by omega)]
    congr 1
    rw [w64 (by omega) (by omega),Bool.eq_iff_iff,beq_iff_eq,decide_eq_true_iff]
    omega
   ·obtain ⟨b'',h1,h2⟩ := key false (by rw [hr];simp;omega)
    refine ⟨b'',Ev.step (fun k=>?_) h1,h2⟩
    simp only [gangsawref39_simple.l1];rw [if_pos (by omega),if_neg (by rw [w1 (by omega)];omega),if_neg (by omega)]
theorem rSimple_l0 {l : List S31} (h : Near l) (hd : NoDup l) (hl : l.length < 1000) : ∀ d i : Nat,i + d = l.length → ∃ b,Ev (fun k=>gangsawref39_simple.l0 k l (l.length : Int) (i : Int)) b ∧ (b = true ↔ ∀ j,i ≤ j → j < l.length → ∀ k,k < j → SimAt l j k):=by
 intro d
 induction d with
 | zero =>
  intro i hi
  refine ⟨true,Ev.step (f:=fun _=>some true) (fun k=>?_) (Ev.now _),⟨fun _ j h1 h2=>by omega,fun _=>rfl⟩⟩
  simp only [gangsawref39_simple.l0];rw [if_neg (by omega)]
 | succ d ih =>
  intro i hi;obtain ⟨b,hb,hiff⟩ := ih (i + 1) (by omega);obtain ⟨b',hb',hi'⟩ := rSimple_l1 h hd hl (i:=i) (by omega) hb i 0 (by omega)
  refine ⟨b',Ev.step (fun k=>?_) hb', ?_⟩
  (simp only [gangsawref39_simple.l0];rw [if_pos (by omega)];rfl)
  ·rw [hi',hiff]
   refine ⟨fun hh j h1 h2 k hk=>?_,fun hh=>⟨fun k' _ h2=>hh i (Nat.le_refl _) (by omega) k' h2,fun j h1 h2=>hh j (by omega) h2⟩⟩
   by_cases e : j = i
   (subst e;exact hh.1 k (Nat.zero_le _) hk);(exact hh.2 j (by omega) h2 k hk)
theorem rSimple_f {l : List S31} (h : Near l) (hd : NoDup l) (hl : l.length < 1000) : ∃ b,Ev (fun k=>gangsawref39_simple.f k l) b ∧ (b = true ↔ Sim l):=by
 obtain ⟨b,hb,hi⟩ := rSimple_l0 h hd hl l.length 0 (by simp);exact ⟨b,hb,hi.trans ⟨fun hh j h2=>hh j (Nat.zero_le _) h2,fun hh j _ h2=>hh j h2⟩⟩
theorem inPoint_f (p : S31) : (gangsawref03_InPoint.f p.f0 p.f1 = some true ∧ near p) ∨ (gangsawref03_InPoint.f p.f0 p.f1 = some false ∧ ¬ near p):=by
 unfold gangsawref03_InPoint.f gangsawref03_in.f near
 by_cases h1 : p.f0 ≥ -1000000 <;> by_cases h2 : p.f0 ≤ 1000000 <;> by_cases h3 : p.f1 ≥ -1000000 <;> by_cases h4 : p.f1 ≤ 1000000 <;> simp [h1,h2,h3,h4] <;> omega
open Classical in
theorem rCheck_l1 {l : List S31} (h : Near l) (hl : l.length < 1000) : ∀ d i : Nat,i + d = l.length → (∀ j,j < i → P l j ≠ P l (nx l j)) → Ev (fun k=>gangsawref39_Check.l1 k l (i : Int)) (if NoDup l then (if Sim l then (if 0 < area l then 0 else 1) else 11) else 5):=by
 intro d
 induction d with
 | zero =>
  intro i hi hN
  have hd : NoDup l:=fun j hj=>hN j (by omega)
  rw [if_pos hd];obtain ⟨b,hb,hib⟩ := rSimple_f h hd hl
  have key : Ev (α:=Int) (fun k=>(gangsawref39_simple.f k l).bind fun t375=>(if t375 = true then ((gangsawref39_Area.f k l).bind fun t376=>(if t376 ≤ 0 then (some 1) else (some 0))) else (some 11))) (if Sim l then (if 0 < area l then 0 else 1) else 11):=by
   refine Ev.bind hb ?_
   by_cases h5 : Sim l
   ·rw [if_pos h5]
    refine Ev.congr (fun k=>if_pos (hib.2 h5)) (Ev.bind (rArea_f h hl) ?_)
    by_cases h6 : 0 < area l
    (rw [if_pos h6];exact Ev.congr (fun k=>if_neg (by omega)) (Ev.now _));(rw [if_neg h6];exact Ev.congr (fun k=>if_pos (by omega)) (Ev.now _))
   (rw [if_neg h5];exact Ev.congr (fun k=>if_neg (fun h=>h5 (hib.1 h))) (Ev.now _))
  refine Ev.step (fun k=>?_) key
  simp only [gangsawref39_Check.l1];rw [if_neg (by omega)]
 | succ d ih =>
  intro i hi hN;have hn:=nx_lt (l:=l) (by omega) i;by_cases e : P l i = P l (nx l i)
  ·have hd : ¬ NoDup l:=fun g=>g i (by omega) e
   rw [if_neg hd]
   refine Ev.step (f:=fun _=>some 5) (fun k=>?_) (Ev.now _)
   simp only [gangsawref39_Check.l1];rw [tm1 hl (by omega),if_pos (by omega),if_pos (by omega),if_neg (by omega),if_pos (by omega),if_pos (by omega),rd_P,rd_P,← e,if_pos (by simp)]
  ·refine Ev.step (fun k => ?_) (ih (i + 1) (by omega) (fun j hj => by
    by_cases g : j = i
    (subst g;exact e)
    ·exact hN j (by omega)))
   simp only [gangsawref39_Check.l1]
   rw [tm1 hl (by omega),if_pos (by omega),if_pos (by omega),if_neg (by omega),if_pos (by omega),if_pos (by omega),rd_P,rd_P,if_neg (by
    intro g;rw [Bool.and_eq_true] at g
    exact e (S31_ext (by simpa using g.1) (by simpa using g.2))),w1 (by omega)]
open Classical in
theorem rCheck_l0 {l : List S31} (hl : l.length < 1000) : ∀ d i : Nat,i + d = l.length → (∀ j,j < i → near (P l j)) → Ev (fun k=>gangsawref39_Check.l0 k l (i : Int)) (if Near l then (if NoDup l then (if Sim l then (if 0 < area l then 0 else 1) else 11) else 5) else 6):=by
 intro d
 induction d with
 | zero =>
  intro i hi hN;have h : Near l:=near_of (fun j hj=>hN j (by omega));rw [if_pos h]
  refine Ev.step (fun k=>?_) (rCheck_l1 h hl l.length 0 (by simp) (fun j hj=>by omega))
  simp only [gangsawref39_Check.l0];rw [if_neg (by omega)];rfl
 | succ d ih =>
  intro i hi hN
  rcases inPoint_f (P l i) with ⟨e,g⟩|⟨e,g⟩
  ·refine Ev.step (fun k => ?_) (ih (i + 1) (by omega) (fun j hj => by
    by_cases q : j = i
    (subst q;exact g)
    ·exact hN j (by omega)))
   simp only [gangsawref39_Check.l0];rw [if_pos (by omega),if_pos (by omega),rd_P,e];simp only [Option.bind_some];rw [if_pos trivial,w1 (by omega)]
  ·have hN' : ¬ Near l:=fun h=>g (h.at (by omega))
   rw [if_neg hN']
   refine Ev.step (f:=fun _=>some 6) (fun k=>?_) (Ev.now _)
   simp only [gangsawref39_Check.l0];rw [if_pos (by omega),if_pos (by omega),rd_P,e];simp only [Option.bind_some];rw [if_neg (by simp)]
theorem rCheck_f (nm : ByteArray) (l : List S31) (hnm : nm.size ≤ 1000000) : Ev (fun k=>gangsawref39_Check.f k nm l) (chk nm l):=by
 unfold gangsawref39_Check.f chk
 refine Ev.bind (name_f nm hnm) ?_
 by_cases h0 : lexName nm = true
 ·rw [if_pos h0]
  refine Ev.congr (fun k=>if_pos h0) ?_
  have bad : Ev (fun k=>gangsawref39_Check.j0 k l true) 1:=Ev.step (f:=fun _=>some 1) (fun k=>by simp only [gangsawref39_Check.j0];rfl) (Ev.now _);by_cases h1 : l.length < 3
  (rw [if_pos (.inl h1)];exact Ev.congr (fun k=>if_pos (by omega)) bad)
  ·refine Ev.congr (fun k=>if_neg (by omega)) ?_
   by_cases h2 : 64 < l.length
   (rw [if_pos (.inr h2)];exact Ev.congr (fun k=>by rw [decide_eq_true (by omega)]) bad)
   ·rw [if_neg (by omega)]
    refine Ev.congr (fun k=>by rw [decide_eq_false (by omega)]) (Ev.step (fun k=>?_) (rCheck_l0 (by omega) l.length 0 (by simp) (fun j hj=>by omega)))
    simp only [gangsawref39_Check.j0];rw [if_neg (by simp)];rfl
 (rw [if_neg h0];exact Ev.congr (fun k=>if_neg h0) (Ev.now _))
end Go.Proofs.Ytnjikioimompnaa.Pure
