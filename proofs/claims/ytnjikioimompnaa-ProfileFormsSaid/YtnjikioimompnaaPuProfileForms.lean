import Derived.Test.YtnjikioimompnaaOp
import Derived.Test.YtnjikioimompnaaPAx17
import Derived.Test.YtnjikioimompnaaPuProfileMeasures
import Derived.Test.YtnjikioimompnaaPuh
import Derived.Test.YtnjikioimompnaaPul
import Derived.Test.YtnjikioimompnaaPun
import Derived.Test.YtnjikioimompnaaPuq
namespace Go.Proofs.Ytnjikioimompnaa.Pure
open Go.RowKit Go.Proofs.Ytnjikioimompnaa Go.Proofs.Ytnjikioimompnaa.PA Go.Proofs.YtnjikioimompnaaW.PrintWords Go.Proofs.YtnjikioimompnaaW.PrintLast Go.Proofs.YtnjikioimompnaaW.PrintMore
set_option linter.unusedVariables false
set_option linter.unusedSimpArgs false
theorem ptEq_iff (p q : S31) : (!(p.f0 == q.f0) || !(p.f1 == q.f1)) = true ↔ p ≠ q:=by
 constructor
 ·rintro h rfl;simp at h
 ·intro h;by_cases e : p.f0 = q.f0
  ·have : p.f1 ≠ q.f1:=fun g=>h (S31_ext e g)
   simp [this]
  ·simp [e]
theorem eq46_g (p q : List S31) (hl : p.length ≤ 1000) (hq : p.length = q.length) : ∀ d i : Nat,i + d = p.length → (∀ j,j < i → P p j = P q j) → ∃ b,Ev (fun k=>api_Point_46.l0 k p q (p.length : Int) (i : Int)) b ∧ (b = true ↔ p = q):=by
 intro d
 induction d with
 | zero =>
  intro i hi hN
  refine ⟨true,Ev.step (f:=fun _=>some true) (fun k=>?_) (Ev.now _),by simp;exact P_ext hq (fun j hj=>hN j (by omega))⟩
  simp only [api_Point_46.l0];rw [if_neg (by omega)]
 | succ d ih =>
  intro i hi hN;by_cases e : P p i = P q i
  ·obtain ⟨b, h1, h2⟩ := ih (i + 1) (by omega) (fun j hj => by
    by_cases g : j = i
    (subst g;exact e)
    ·exact hN j (by omega))
   refine ⟨b,Ev.step (fun k=>?_) h1,h2⟩
   simp only [api_Point_46.l0];rw [if_pos (by omega),if_pos (by omega),if_pos (by omega),if_pos (by omega),rd_P,rd_P,if_neg (fun g=>(ptEq_iff _ _).1 g e),w1 (by omega)]
  ·refine ⟨false,Ev.step (f:=fun _=>some false) (fun k=>?_) (Ev.now _),by simp;intro g;exact e (by rw [g])⟩
   simp only [api_Point_46.l0];rw [if_pos (by omega),if_pos (by omega),if_pos (by omega),if_pos (by omega),rd_P,rd_P,if_pos ((ptEq_iff _ _).2 e)]
theorem eq46_f (p q : List S31) (hl : p.length ≤ 1000) : ∃ b,Ev (fun k=>api_Point_46.f k p q) b ∧ (b = true ↔ p = q):=by
 unfold api_Point_46.f
 by_cases h : p.length = q.length
 (obtain ⟨b,h1,h2⟩ := eq46_g p q hl h p.length 0 (by omega) (fun j hj=>by omega);exact ⟨b,Ev.congr (fun k=>if_pos (by omega)) h1,h2⟩);(exact ⟨false,Ev.congr (fun k=>if_neg (by omega)) (Ev.now _),by simp;intro g;exact h (by rw [g])⟩)
theorem rSame_g (p q : List S31) (hl : p.length ≤ 1000) (hq : p.length = q.length) : ∀ d i : Nat,i + d = p.length → (∀ j,j < i → P p j = P q j) → ∃ b,Ev (fun k=>gangsawref39_Same.l0 k p q (i : Int)) b ∧ (b = true ↔ p = q):=by
 intro d
 induction d with
 | zero =>
  intro i hi hN
  refine ⟨true,Ev.step (f:=fun _=>some true) (fun k=>?_) (Ev.now _),by simp;exact P_ext hq (fun j hj=>hN j (by omega))⟩
  simp only [gangsawref39_Same.l0];rw [if_neg (by omega)]
 | succ d ih =>
  intro i hi hN;by_cases e : P p i = P q i
  ·obtain ⟨b, h1, h2⟩ := ih (i + 1) (by omega) (fun j hj => by
    by_cases g : j = i
    (subst g;exact e)
    ·exact hN j (by omega))
   refine ⟨b,Ev.step (fun k=>?_) h1,h2⟩
   simp only [gangsawref39_Same.l0];rw [if_pos (by omega),if_pos (by omega),if_pos (by omega),rd_P,rd_P,if_neg (fun g=>(ptEq_iff _ _).1 g e),w1 (by omega)]
  ·refine ⟨false,Ev.step (f:=fun _=>some false) (fun k=>?_) (Ev.now _),by simp;intro g;exact e (by rw [g])⟩
   simp only [gangsawref39_Same.l0];rw [if_pos (by omega),if_pos (by omega),if_pos (by omega),rd_P,rd_P,if_pos ((ptEq_iff _ _).2 e)]
theorem rSame_f (p q : List S31) (hl : p.length ≤ 1000) : ∃ b,Ev (fun k=>gangsawref39_Same.f k p q) b ∧ (b = true ↔ p = q):=by
 unfold gangsawref39_Same.f
 by_cases h : p.length = q.length
 (obtain ⟨b,h1,h2⟩ := rSame_g p q hl h p.length 0 (by omega) (fun j hj=>by omega);exact ⟨b,Ev.congr (fun k=>if_pos (by omega)) h1,h2⟩);(exact ⟨false,Ev.congr (fun k=>if_neg (by omega)) (Ev.now _),by simp;intro g;exact h (by rw [g])⟩)
theorem Equal_f (a b : ByteArray) (l m : List S31) (ha : a.size ≤ 1000000) (hb : b.size ≤ 1000000) (h0 : chk a l = 0) (h1 : chk b m = 0) {C D : List S31} (hC : Ev (fun k => profile_Canonical.f k a l) (a, C, 0)) (hD : Ev (fun k => profile_Canonical.f k b m) (b, D, 0)) (hl : C.length ≤ 1000) :
  ∃ r,Ev (fun k=>profile_Equal.f k a l b m) (r,0) ∧ (r = true ↔ C = D):=by
 obtain ⟨r,e1,e2⟩ := eq46_f C D hl
 refine ⟨r, ?_,e2⟩
 unfold profile_Equal.f
 exact Ev.bind hC (Ev.congr (fun k=>if_pos rfl) (Ev.bind hD (Ev.congr (fun k=>if_pos rfl) (Ev.bind e1 (Ev.now _)))))
theorem Equal_e1 (a b : ByteArray) (l m : List S31) (ha : a.size ≤ 1000000) (h0 : chk a l ≠ 0) : Ev (fun k=>profile_Equal.f k a l b m) (false,chk a l):=by
 unfold profile_Equal.f
 exact Ev.bind (Canonical_e a l ha h0) (Ev.congr (fun k=>if_neg h0) (Ev.now _))
theorem Equal_e2 (a b : ByteArray) (l m : List S31) (hb : b.size ≤ 1000000) {C : List S31} (hC : Ev (fun k=>profile_Canonical.f k a l) (a,C,0)) (h1 : chk b m ≠ 0) : Ev (fun k=>profile_Equal.f k a l b m) (false,chk b m):=by
 unfold profile_Equal.f
 exact Ev.bind hC (Ev.congr (fun k=>if_pos rfl) (Ev.bind (Canonical_e b m hb h1) (Ev.congr (fun k=>if_neg h1) (Ev.now _))))
theorem rCan_l1 {l : List S31} (h : Near l) (h0 : 0 < l.length) (hl : l.length ≤ 1000) {x y : Int} (hx : -3000000 ≤ x ∧ x ≤ 3000000) (hy : -3000000 ≤ y ∧ y ≤ 3000000) {s : Nat} (hs : s < l.length) :
  ∀ d i : Nat,i + d = l.length → Ev (fun k=>gangsawref39_Canonical.l1 k l (s : Int) ((can l s x y).take i) (i : Int) x y) (can l s x y):=by
 intro d
 induction d with
 | zero =>
  intro i hi
  obtain rfl : i = l.length:=by omega
  refine Ev.step (f:=fun _=>some (can l s x y)) (fun k=>?_) (Ev.now _)
  simp only [gangsawref39_Canonical.l1];rw [if_neg (by omega),List.take_of_length_le (by rw [can_len];exact Nat.le_refl _)]
 | succ d ih =>
  intro i hi;have hm : (s + i) % l.length < l.length:=Nat.mod_lt _ h0;have hn:=h.at hm
  unfold near at hn
  have e : Int.tmod (wrap64 ((s : Int) + i)) (l.length : Int) = (((s + i) % l.length : Nat) : Int):=by rw [w64 (by omega) (by omega)];rfl
  have ht : (can l s x y).take (i + 1) = (can l s x y).take i ++ [P (can l s x y) i] := by
   rw [List.take_add_one]
   unfold P
   rw [List.getD_eq_getElem?_getD,List.getElem?_eq_getElem (by rw [can_len];omega)];rfl
  refine Ev.step (fun k=>?_) (ih (i + 1) (by omega))
  simp only [gangsawref39_Canonical.l1];rw [e,if_pos (by omega),if_neg (by omega),if_pos (by omega),if_pos (by omega),if_pos (by rw [List.length_take,can_len];omega),rd_P,w1 (by omega),ht,can_P (by omega)]
  congr 3
  exact S31_ext (by simp only [mv];rw [w64 (by omega) (by omega)];omega) (by simp only [mv];rw [w64 (by omega) (by omega)];omega)
theorem rCan_l0 {l : List S31} (hv : Valid l) {x y : Int} (hx : -3000000 ≤ x ∧ x ≤ 3000000) (hy : -3000000 ≤ y ∧ y ≤ 3000000) :
  ∀ d i b : Nat,i + d = l.length → b < i → (∀ j,j < i → ¬ fL (P l j) (P l b)) → Ev (fun k=>gangsawref39_Canonical.l0 k l (b : Int) (i : Int) x y) (can l (fst l) x y):=by
 have lo:=hv.lo;have hi':=hv.hi;intro d
 induction d with
 | zero =>
  intro i b hi hb hm;have e : b = fst l:=(fst_uniq hv.nodup hv.sim (by omega) (fun j hj=>hm j (by omega))).symm;subst e
  refine Ev.step (fun k=>?_) (rCan_l1 hv.near (by omega) (by omega) hx hy (show fst l < l.length by omega) l.length 0 (by simp))
  simp only [gangsawref39_Canonical.l0];rw [if_neg (by omega)];rfl
 | succ d ih =>
  intro i b hi hb hm;by_cases c : fL (P l i) (P l b)
  ·have H := ih (i + 1) i (by omega) (by omega) (fun j hj g => by
    by_cases q : j = i
    ·subst q;unfold fL at g;omega
    ·exact hm j (by omega) (by unfold fL at *;omega))
   refine Ev.step (fun k=>?_) H
   simp only [gangsawref39_Canonical.l0];rw [if_pos (by omega),if_pos (by omega),if_pos (by omega),if_pos (by omega),rd_P,rd_P,w1 (by omega)]
   unfold fL at c
   rcases c with c|⟨c1,c2⟩
   (rw [if_pos c]);(rw [if_neg (by omega),if_pos c1,if_pos c2])
  ·have H := ih (i + 1) b (by omega) (by omega) (fun j hj g => by
    by_cases q : j = i
    (subst q;exact c g)
    ·exact hm j (by omega) g)
   refine Ev.step (fun k=>?_) H
   simp only [gangsawref39_Canonical.l0];rw [if_pos (by omega),if_pos (by omega),if_pos (by omega),if_pos (by omega),rd_P,rd_P,w1 (by omega)]
   unfold fL at c
   rw [if_neg (by omega)];by_cases c1 : (P l i).f1 = (P l b).f1
   (rw [if_pos c1,if_neg (by omega)]);(rw [if_neg c1])
theorem rCan_f {l : List S31} (hv : Valid l) {lx ly hx hy : Int} (hB : Box l lx ly hx hy) : Ev (fun k=>gangsawref39_Canonical.f k l) (can l (fst l) lx ly):=by
 have lo:=hv.lo;have hi:=hv.hi;obtain ⟨⟨i1,p1,q1⟩,⟨i2,p2,q2⟩⟩ := And.intro hB.lx_ hB.ly_;have n1:=hv.near.at p1;have n2:=hv.near.at p2
 unfold near at n1 n2
 unfold gangsawref39_Canonical.f
 rw [rBounds_f hv.near (by omega) (by omega) hB];show Ev (fun k=>gangsawref39_Canonical.l0 k l 0 1 lx ly) _;exact rCan_l0 hv (by omega) (by omega) (l.length - 1) 1 0 (by omega) (by omega) (fun j hj g=>by rw [show j = 0 by omega] at g;unfold fL at g;omega)
theorem rMir_l {l : List S31} (hN : Near l) (hl : l.length ≤ 1000) {C : List S31} (hC : Ev (fun k=>gangsawref39_Canonical.f k (rev l)) C) : ∀ d i : Nat,i + d = l.length → Ev (fun k=>gangsawref39_Mirror.l0 k l ((rev l).take i) ((d : Int) - 1)) C:=by
 intro d
 induction d with
 | zero =>
  intro i hi
  refine Ev.step (f:=fun k=>(gangsawref39_Canonical.f k (rev l)).bind fun t431=>some t431) (fun k=>?_) (Ev.bind hC (Ev.now _))
  simp only [gangsawref39_Mirror.l0];rw [if_neg (by omega),List.take_of_length_le (by rw [rev_len];omega)]
 | succ d ih =>
  intro i hi;have hn:=hN.at (i:=d) (by omega)
  unfold near at hn
  have ht : (rev l).take (i + 1) = (rev l).take i ++ [P (rev l) i] := by
   rw [List.take_add_one]
   unfold P
   rw [List.getD_eq_getElem?_getD,List.getElem?_eq_getElem (by rw [rev_len];omega)];rfl
  refine Ev.step (fun k=>?_) (ih (i + 1) (by omega))
  simp only [gangsawref39_Mirror.l0];rw [show (((d + 1 : Nat) : Int) - 1) = (d : Int) by omega,if_pos (by omega),if_pos (by omega),if_pos (by omega),if_pos (by rw [List.length_take,rev_len];omega),rd_P,w64 (n:=(d : Int) - 1) (by omega) (by omega),ht,rev_P (by omega),show l.length - 1 - i = d by omega,w64 (n := -(P l d).f0) (by omega) (by omega)];rfl
theorem rMir_f {l : List S31} (hv : Valid l) {lx ly hx hy : Int} (hB : Box l lx ly hx hy) : Ev (fun k=>gangsawref39_Mirror.f k l) (can (rev l) (fst (rev l)) (-hx) ly):=by
 have lo:=hv.lo;have hi:=hv.hi;have H:=rMir_l hv.near (by omega) (rCan_f (rev_valid hv) (rev_box hB)) l.length 0 (by omega)
 unfold gangsawref39_Mirror.f
 rw [w64 (by omega) (by omega)];exact H
theorem ProfileForms (a : ByteArray) (l : List S31) (b : ByteArray) (m : List S31) (_ : a.size ≤ maxLen) (_ : l.length ≤ maxLen) (_ : ∀ p ∈ l,Rng p.f0 ∧ Rng p.f1) (_ : b.size ≤ maxLen) (_ : m.length ≤ maxLen) (_ : ∀ p ∈ m,Rng p.f0 ∧ Rng p.f1) : ∃ k,gangsawlaw39_ProfileForms.f k a l b m = some true:=by
 have key : Ev (fun k=>gangsawlaw39_ProfileForms.f k a l b m) true:=by
  have early : Ev (fun k=>gangsawlaw39_ProfileForms.j0 k true a l b m) true:=by
   refine Ev.step (f:=fun _=>some true) (fun k=>?_) (Ev.now _)
   simp only [gangsawlaw39_ProfileForms.j0];rw [if_pos trivial]
  unfold gangsawlaw39_ProfileForms.f
  refine Ev.bind awake_f (Ev.congr (fun k=>if_pos rfl) ?_)
  rcases short_f a l with g|⟨g,hl,hs⟩
  (rw [g];exact Ev.congr (fun k=>by simp only [Option.bind_some];rw [if_neg (by simp)]) early)
  ·rw [g]
   refine Ev.congr (fun k=>by simp only [Option.bind_some];rw [if_pos trivial]) ?_
   rcases short_f b m with g2|⟨g2,hl2,hs2⟩
   (rw [g2];exact Ev.congr (fun k=>by simp only [Option.bind_some];rfl) early)
   ·rw [g2]
    refine Ev.congr (fun k=>by simp only [Option.bind_some];rfl) (?_ : Ev (fun k=>gangsawlaw39_ProfileForms.j0 k false a l b m) true)
    have ha : a.size ≤ 1000000:=by omega
    have hb : b.size ≤ 1000000:=by omega
    by_cases h0 : chk a l = 0
    ·have hv:=(chk_zero.1 h0).2;have lo:=hv.lo;have hi:=hv.hi;obtain ⟨lx,ly,hx,hy,hB⟩ := box_of (l:=l) (by omega) (by omega);have E1:=Canonical_f a l ha h0 hB;have E2:=Mirror_f a l ha h0 hB;have R1:=rCan_f hv hB;have R2:=rMir_f hv hB
     have lc : (can l (fst l) lx ly).length ≤ 1000:=by rw [can_len];omega
     have lm : (can (rev l) (fst (rev l)) (-hx) ly).length ≤ 1000:=by rw [can_len,rev_len];omega
     obtain ⟨r,e,hE,hJ⟩ : ∃ r e,Ev (fun k=>profile_Equal.f k a l b m) (r,e) ∧ Ev (fun k=>gangsawlaw39_ProfileForms.j1 k r e false a l b m) true:=by
      by_cases h1 : chk b m = 0
      ·have hv2:=(chk_zero.1 h1).2;have lo2:=hv2.lo;have hi2:=hv2.hi;obtain ⟨lx2,ly2,hx2,hy2,hB2⟩ := box_of (l:=m) (by omega) (by omega);obtain ⟨r,e1,e2⟩ := Equal_f a b l m ha hb h0 h1 E1 (Canonical_f b m hb h1 hB2) lc;obtain ⟨s,s1,s2⟩ := rSame_f (can l (fst l) lx ly) (can m (fst m) lx2 ly2) lc
       have ers : r = s:=by rw [Bool.eq_iff_iff,e2,s2]
       refine ⟨r,0,e1,Ev.step (f:=fun k=>(gangsawref39_Check.f k b m).bind fun t464=>(if t464 = 0 then (if (0 : Int) = 0 then ((gangsawref39_Canonical.f k l).bind fun t465=>((gangsawref39_Canonical.f k m).bind fun t468=>((gangsawref39_Same.f k t465 t468).bind fun t471=>(some (r == t471))))) else (none)) else (if (0 : Int) = t464 then (some (!r)) else (none)))) (fun k=>?_) (Ev.bind (rCheck_f b m hb) (Ev.congr (fun k=>by rw [if_pos h1,if_pos rfl]) (Ev.bind R1 (Ev.bind (rCan_f hv2 hB2) (Ev.bind s1 (show Ev (fun _=>some (r == s)) true from by rw [ers,beq_self_eq_true];exact Ev.now _))))))⟩
       simp only [gangsawlaw39_ProfileForms.j1];rw [if_neg (by simp)]
      ·refine ⟨false,chk b m,Equal_e2 a b l m hb E1 h1,Ev.step (f:=fun k=>(gangsawref39_Check.f k b m).bind fun t464=>(if t464 = 0 then (if chk b m = 0 then ((gangsawref39_Canonical.f k l).bind fun t465=>((gangsawref39_Canonical.f k m).bind fun t468=>((gangsawref39_Same.f k t465 t468).bind fun t471=>(some (false == t471))))) else (none)) else (if chk b m = t464 then (some (!false)) else (none)))) (fun k=>?_) (Ev.bind (rCheck_f b m hb) (Ev.congr (fun k=>by rw [if_neg h1,if_pos rfl];rfl) (Ev.now _)))⟩
       simp only [gangsawlaw39_ProfileForms.j1];rw [if_neg (by simp)]
     have Q : Ev (fun k=>(profile_Canonical.f k a l).bind fun bt439=>((profile_Mirror.f k a l).bind fun bt445=>((profile_Equal.f k a l b m).bind fun bt451=>((gangsawref39_Check.f k a l).bind fun t453=>(if t453 = 0 then (if bt439.2.2 = 0 then (if bt445.2.2 = 0 then ((gangsawref39_Canonical.f k l).bind fun t456=>((gangsawlaw39_same.f k bt439.1 bt439.2.1 a t456).bind fun t459=>(if t459 = true then ((gangsawref39_Mirror.f k l).bind fun t460=>((gangsawlaw39_same.f k bt445.1 bt445.2.1 a t460).bind fun t463=>(gangsawlaw39_ProfileForms.j1 k bt451.1 bt451.2 (!t463) a l b m))) else (gangsawlaw39_ProfileForms.j1 k bt451.1 bt451.2 true a l b m)))) else (gangsawlaw39_ProfileForms.j1 k bt451.1 bt451.2 true a l b m)) else (gangsawlaw39_ProfileForms.j1 k bt451.1 bt451.2 true a l b m)) else (if bt439.2.2 = t453 then (if bt445.2.2 = t453 then (if bt451.2 = t453 then ((gangsawlaw39_same.f k bt439.1 bt439.2.1 (⟨#[]⟩ : ByteArray) ([] : List (S31))).bind fun t454=>(if t454 = true then ((gangsawlaw39_same.f k bt445.1 bt445.2.1 (⟨#[]⟩ : ByteArray) ([] : List (S31))).bind fun t455=>(if t455 = true then (some (!bt451.1)) else (none))) else (none))) else (none)) else (none)) else (none))))))) true:=by
      refine Ev.bind E1 (Ev.bind E2 (Ev.bind hE (Ev.bind (rCheck_f a l ha) (Ev.congr (fun k=>by rw [if_pos h0,if_pos rfl,if_pos rfl]) (Ev.bind R1 (Ev.bind (same_refl a _ lc) (Ev.congr (fun k=>if_pos rfl) (Ev.bind R2 (Ev.bind (same_refl a _ lm) hJ)))))))))
     refine Ev.step (fun k=>?_) Q
     simp only [gangsawlaw39_ProfileForms.j0];rw [if_neg (by simp)]
    ·have Q : Ev (fun k => (profile_Canonical.f k a l).bind fun bt439 => ((profile_Mirror.f k a l).bind fun bt445 => ((profile_Equal.f k a l b m).bind fun bt451 => ((gangsawref39_Check.f k a l).bind fun t453 => (if t453 = 0 then (if bt439.2.2 = 0 then (if bt445.2.2 = 0 then ((gangsawref39_Canonical.f k l).bind fun t456 => ((gangsawlaw39_same.f k bt439.1 bt439.2.1 a t456).bind fun t459 => (if t459 = true then ((gangsawref39_Mirror.f k l).bind fun t460 => ((gangsawlaw39_same.f k bt445.1 bt445.2.1 a t460).bind fun t463 => (gangsawlaw39_ProfileForms.j1 k bt451.1 bt451.2 (!t463) a l b m))) else (gangsawlaw39_ProfileForms.j1 k bt451.1 bt451.2 true a l b m)))) else (gangsawlaw39_ProfileForms.j1 k bt451.1 bt451.2 true a l b m)) else (gangsawlaw39_ProfileForms.j1 k bt451.1 bt451.2 true a l b m)) else (if bt439.2.2 = t453 then (if bt445.2.2 = t453 then (if bt451.2 = t453 then ((gangsawlaw39_same.f k bt439.1 bt439.2.1 (⟨#[]⟩ : ByteArray) ([] : List (S31))).bind fun t454 => (if t454 = true then ((gangsawlaw39_same.f k bt445.1 bt445.2.1 (⟨#[]⟩ : ByteArray) ([] : List (S31))).bind fun t455 => (if t455 = true then (some (!bt451.1)) else (none))) else (none))) else (none)) else (none)) else (none))))))) true := by
      refine Ev.bind (Canonical_e a l ha h0) (Ev.bind (Mirror_e a l ha h0) (Ev.bind (Equal_e1 a b l m ha h0) (Ev.bind (rCheck_f a l ha) (Ev.congr (fun k=>by rw [if_neg h0,if_pos rfl,if_pos rfl,if_pos rfl]) (Ev.bind (same_refl _ _ (by simp)) (Ev.congr (fun k=>if_pos rfl) (Ev.bind (same_refl _ _ (by simp)) (Ev.congr (fun k=>if_pos rfl) (Ev.now _)))))))))
     refine Ev.step (fun k=>?_) Q
     simp only [gangsawlaw39_ProfileForms.j0];rw [if_neg (by simp)]
 exact key.rounds
end Go.Proofs.Ytnjikioimompnaa.Pure
