import Derived.Test.YtbggjmdelnmilaaPAx12
import Derived.Test.YtbggjmdelnmilaaPAx13
import Derived.Test.YtbggjmdelnmilaaPAx3
import Derived.Test.YtbggjmdelnmilaaPua
namespace Go.Proofs.Ytbggjmdelnmilaa.Pure
open Go.RowKit Go.Proofs.Ytbggjmdelnmilaa Go.Proofs.Ytbggjmdelnmilaa.PA Go.Proofs.YtbggjmdelnmilaaW.PrintWords Go.Proofs.YtbggjmdelnmilaaW.PrintLast Go.Proofs.YtbggjmdelnmilaaW.PrintMore
set_option linter.unusedVariables false
set_option linter.unusedSimpArgs false
def St (x : S39) : Prop:=x.f0.size ≤ 60 ∧ x.f3.size ≤ 60 ∧ x.f4.size ≤ 60
def Sw (x : S26) : Prop:=x.f0.size ≤ 60 ∧ x.f3.size ≤ 60
abbrev cv (x : S26) : S36:=⟨x.f0,x.f1,x.f2,x.f3,x.f4⟩
theorem drop_at {α : Type} {l : List α} {i : Nat} (h : i < l.length) : l.drop i = l[i] :: l.drop (i + 1):=List.drop_eq_getElem_cons h
theorem rd39 {l : List S39} {i : Nat} (h : i < l.length) : rd_T39 l (i : Int) = l[i] := by unfold rd_T39;rw [Int.toNat_natCast];simp [List.getD,h]
theorem rd26 {l : List S26} {i : Nat} (h : i < l.length) : rd_T26 l (i : Int) = l[i] := by unfold rd_T26;rw [Int.toNat_natCast];simp [List.getD,h]
theorem rd36 {l : List S36} {i : Nat} (h : i < l.length) : rd_T36 l (i : Int) = l[i] := by unfold rd_T36;rw [Int.toNat_natCast];simp [List.getD,h]
theorem opt_f (s : ByteArray) (hs : s.size ≤ 1000000) : Ev (fun k=>gangsawref31_optional.f k s) (namedB s):=by
 unfold gangsawref31_optional.f namedB
 by_cases h : s.toList = []
 (rw [h];exact Ev.congr (fun k=>if_pos rfl) (Ev.now _))
 ·have e : s.toList.isEmpty = false := by cases hl : s.toList with
   | nil=>exact absurd hl h
   | cons a r=>rfl
  rw [e,Bool.false_or];exact Ev.congr (fun k=>if_neg h) (Ev.bind (name_f s hs) (Ev.now _))
theorem size_f (v : S24) : gangsawref31_size.f v.f0 v.f1 v.f2 = some (sizedB v):=by
 unfold gangsawref31_size.f sizedB min3 max3
 by_cases h1 : v.f0 ≥ 1 <;> by_cases h2 : v.f0 ≤ 1000000 <;> by_cases h3 : v.f1 ≥ 1 <;> by_cases h4 : v.f1 ≤ 1000000 <;> by_cases h5 : v.f2 ≥ 1 <;> simp only [h1,h2,h3,h4,h5,if_true,if_false] <;> congr 1 <;> rw [Bool.eq_iff_iff] <;> simp <;> omega
theorem colour_f (n : Int) : gangsawref31_colour.f n = some (tintedB n):=by
 unfold gangsawref31_colour.f tintedB
 by_cases h : n ≥ 0
 ·rw [if_pos h];congr 1;rw [decide_eq_true (show 0 ≤ n from h),Bool.true_and]
 ·rw [if_neg h];congr 1;rw [decide_eq_false (show ¬ 0 ≤ n from h),Bool.false_and]
theorem chk_l2 (l : List S39) (hl : l.length ≤ 1000000) : ∀ d i : Nat,i + d = l.length → 1 ≤ i → Ev (fun k=>gangsawref31_Check.l2 k l (i : Int)) (if ((List.range l.length).any fun j=>decide (i ≤ j) && oosAt l j) = true then 5 else 0):=by
 intro d
 induction d with
 | zero =>
  intro i hi h1
  rw [if_neg (by
   rw [Bool.not_eq_true,List.any_eq_false];intro j hj;rw [List.mem_range] at hj
   rw [decide_eq_false (by omega)];simp)]
  refine Ev.step (f:=fun _=>some 0) (fun k=>?_) (Ev.now _)
  simp only [gangsawref31_Check.l2];rw [if_neg (by omega)]
 | succ d ih =>
  intro i hi h1
  have hlt : i < l.length:=by omega
  have hw : wrap64 ((i : Int) - 1) = ((i - 1 : Nat) : Int):=by rw [w64 (by omega) (by omega)];omega
  have ho : oosAt l i = !(Op.bytesLess (rd_T39 l (wrap64 ((i : Int) - 1))).f0.toList (rd_T39 l (i : Int)).f0.toList):=by
   unfold oosAt
   rw [hw]
   unfold rd_T39
   rw [Int.toNat_natCast,Int.toNat_natCast]
  cases hb : oosAt l i with
  | true =>
   rw [if_pos (by
    rw [List.any_eq_true]
    exact ⟨i,List.mem_range.2 hlt,by rw [hb];simp⟩)]
   refine Ev.step (f:=fun _=>some 5) (fun k=>?_) (Ev.now _)
   simp only [gangsawref31_Check.l2];rw [hb] at ho;rw [if_pos (by omega),if_pos (by rw [hw];omega),if_pos (by rw [hw];omega),if_pos (by omega),if_neg (by intro h;rw [h] at ho;simp at ho)]
  | false =>
   have e : ((List.range l.length).any fun j=>decide (i ≤ j) && oosAt l j) = ((List.range l.length).any fun j=>decide (i + 1 ≤ j) && oosAt l j):=by
    rw [Bool.eq_iff_iff,List.any_eq_true,List.any_eq_true]
    constructor
    ·rintro ⟨j,hj,h⟩;simp only [Bool.and_eq_true,decide_eq_true_eq] at h
     refine ⟨j,hj, ?_⟩
     have : j ≠ i:=fun e=>by rw [e,hb] at h;exact absurd h.2 (by simp)
     rw [decide_eq_true (by omega),h.2];rfl
    (rintro ⟨j,hj,h⟩;simp only [Bool.and_eq_true,decide_eq_true_eq] at h;exact ⟨j,hj,by rw [decide_eq_true (by omega),h.2];rfl⟩)
   rw [e]
   refine Ev.step (fun k=>?_) (ih (i + 1) (by omega) (by omega))
   simp only [gangsawref31_Check.l2];rw [hb] at ho
   have h2 : Op.bytesLess (rd_T39 l (wrap64 ((i : Int) - 1))).f0.toList (rd_T39 l (i : Int)).f0.toList = true:=by
    cases h : Op.bytesLess (rd_T39 l (wrap64 ((i : Int) - 1))).f0.toList (rd_T39 l (i : Int)).f0.toList with
    | true=>rfl
    | false=>rw [h] at ho;cases ho
   rw [if_pos (by omega),if_pos (by rw [hw];omega),if_pos (by rw [hw];omega),if_pos (by omega),if_pos h2,w1 (by omega)]
theorem chk_l1 (l : List S39) (hl : l.length ≤ 1000000) {R : Int} (hR : Ev (fun k=>gangsawref31_Check.l2 k l 1) R) : ∀ d i : Nat,i + d = l.length → Ev (fun k=>gangsawref31_Check.l1 k l (i : Int)) (if ((l.drop i).any badR) = true then 6 else R):=by
 intro d
 induction d with
 | zero =>
  intro i hi;rw [List.drop_of_length_le (by omega)]
  refine Ev.step (fun k=>?_) hR
  simp only [gangsawref31_Check.l1];rw [if_neg (by omega)]
 | succ d ih =>
  intro i hi
  have hlt : i < l.length:=by omega
  rw [drop_at hlt,List.any_cons];have H:=ih (i + 1) (by omega)
  refine Ev.step (f:=fun k=>(gangsawref31_size.f l[i].f1.f0 l[i].f1.f1 l[i].f1.f2).bind fun t355=>(if t355 = true then ((gangsawref31_colour.f l[i].f2).bind fun t357=>(if t357 = true then (gangsawref31_Check.l1 k l ((i + 1 : Nat) : Int)) else (some 6))) else (some 6))) (fun k=>?_) ?_
  (simp only [gangsawref31_Check.l1];rw [if_pos (by omega),if_pos (by omega),rd39 hlt,w1 (by omega)])
  ·rw [size_f,colour_f]
   unfold badR
   cases sizedB l[i].f1 with
   | false=>exact Ev.congr (fun k=>by rfl) (Ev.now _)
   | true =>
    cases tintedB l[i].f2 with
    | false=>exact Ev.congr (fun k=>by rfl) (Ev.now _)
    | true=>exact Ev.congr (fun k=>by rfl) H
theorem chk_l0 (l : List S39) (hl : l.length ≤ 1000000) (hs : ∀ x ∈ l,x.f0.size ≤ 1000000 ∧ x.f3.size ≤ 1000000 ∧ x.f4.size ≤ 1000000) {R : Int} (hR : Ev (fun k=>gangsawref31_Check.l1 k l 0) R) : ∀ d i : Nat,i + d = l.length → Ev (fun k=>gangsawref31_Check.l0 k l (i : Int)) (if ((l.drop i).any badN) = true then 4 else R):=by
 intro d
 induction d with
 | zero =>
  intro i hi;rw [List.drop_of_length_le (by omega)]
  refine Ev.step (fun k=>?_) hR
  simp only [gangsawref31_Check.l0];rw [if_neg (by omega)]
 | succ d ih =>
  intro i hi
  have hlt : i < l.length:=by omega
  rw [drop_at hlt,List.any_cons];have H:=ih (i + 1) (by omega);obtain ⟨h0,h3,h4⟩ := hs l[i] (List.getElem_mem hlt)
  refine Ev.step (f:=fun k=>(gangsawref19_Name.f k l[i].f0).bind fun t349=>(if t349 = true then ((gangsawref31_optional.f k l[i].f3).bind fun t351=>(if t351 = true then ((gangsawref31_optional.f k l[i].f4).bind fun t353=>(if t353 = true then (gangsawref31_Check.l0 k l ((i + 1 : Nat) : Int)) else (some 4))) else (some 4))) else (some 4))) (fun k=>?_) ?_
  (simp only [gangsawref31_Check.l0];rw [if_pos (by omega),if_pos (by omega),rd39 hlt,w1 (by omega)])
  ·refine Ev.bind (name_f _ h0) ?_
   unfold badN
   cases lexName l[i].f0 with
   | false=>exact Ev.congr (fun k=>by rfl) (Ev.now _)
   | true =>
    refine Ev.congr (fun k=>if_pos rfl) (Ev.bind (opt_f _ h3) ?_)
    cases namedB l[i].f3 with
    | false=>exact Ev.congr (fun k=>by rfl) (Ev.now _)
    | true =>
     refine Ev.congr (fun k=>if_pos rfl) (Ev.bind (opt_f _ h4) ?_)
     cases namedB l[i].f4 with
     | false=>exact Ev.congr (fun k=>by rfl) (Ev.now _)
     | true=>exact Ev.congr (fun k=>by rfl) H
theorem rCheck_f (l : List S39) (h : 256 < l.length ∨ ∀ x ∈ l,St x) : Ev (fun k=>gangsawref31_Check.f k l) (checkR l):=by
 unfold gangsawref31_Check.f checkR
 by_cases h1 : 256 < l.length
 (rw [if_pos h1];exact Ev.congr (fun k=>if_pos (by omega)) (Ev.now _))
 ·rw [if_neg h1]
  refine Ev.congr (fun k=>if_neg (by omega)) ?_
  have hs : ∀ x ∈ l,St x:=h.resolve_left h1
  have H2 : Ev (fun k=>gangsawref31_Check.l2 k l 1) (if unsB l = true then 5 else 0):=by
   rcases Nat.eq_zero_or_pos l.length with h0|h0
   ·have : l = [] := List.eq_nil_of_length_eq_zero h0;subst this
    refine Ev.step (f:=fun _=>some 0) (fun k=>?_) (Ev.now _)
    simp only [gangsawref31_Check.l2];rfl
   (exact chk_l2 l (by omega) (l.length - 1) 1 (by omega) (Nat.le_refl _))
  have H1:=chk_l1 l (by omega) H2 l.length 0 (by omega);have H0:=chk_l0 l (by omega) (fun x hx=>by have:=hs x hx;unfold St at this;omega) H1 l.length 0 (by omega)
  simpa using H0
theorem wnt_l1 (l : List S26) (hl : l.length ≤ 1000000) (c : Int) : ∀ d i : Nat,i + d = l.length → Ev (fun k=>gangsawref31_Wants.l1 k l c (i : Int)) (if (((l.map cv).drop i).any wadR) = true then 6 else if c < 0 then 6 else if c > 1000 then 6 else 0):=by
 intro d
 induction d with
 | zero =>
  intro i hi;rw [List.drop_of_length_le (by rw [List.length_map];omega)]
  refine Ev.step (f:=fun _=>(if c < 0 then (some 6) else (if c > 1000 then (some 6) else (some 0)))) (fun k=>?_) ?_
  (simp only [gangsawref31_Wants.l1];rw [if_neg (by omega)])
  ·by_cases h1 : c < 0
   (rw [if_pos h1,if_pos h1];exact Ev.now _)
   ·rw [if_neg h1,if_neg h1];by_cases h2 : c > 1000
    (rw [if_pos h2,if_pos h2];exact Ev.now _);(rw [if_neg h2,if_neg h2];exact Ev.now _)
 | succ d ih =>
  intro i hi
  have hlt : i < l.length:=by omega
  rw [drop_at (l:=l.map cv) (by rw [List.length_map];exact hlt),List.any_cons,List.getElem_map];have H:=ih (i + 1) (by omega)
  refine Ev.step (f:=fun k=>(gangsawref31_size.f l[i].f1.f0 l[i].f1.f1 l[i].f1.f2).bind fun t355=>(if t355 = true then ((gangsawref31_colour.f l[i].f2).bind fun t357=>(if t357 = true then (gangsawref31_Wants.l1 k l c ((i + 1 : Nat) : Int)) else (some 6))) else (some 6))) (fun k=>?_) ?_
  (simp only [gangsawref31_Wants.l1];rw [if_pos (by omega),if_pos (by omega),rd26 hlt,w1 (by omega)])
  ·rw [size_f,colour_f]
   unfold wadR cv
   cases sizedB l[i].f1 with
   | false=>exact Ev.congr (fun k=>by rfl) (Ev.now _)
   | true =>
    cases tintedB l[i].f2 with
    | false=>exact Ev.congr (fun k=>by rfl) (Ev.now _)
    | true=>exact Ev.congr (fun k=>by rfl) H
theorem wnt_l0 (l : List S26) (hl : l.length ≤ 1000000) (hs : ∀ x ∈ l,Sw x) (c : Int) {R : Int} (hR : Ev (fun k=>gangsawref31_Wants.l1 k l c 0) R) : ∀ d i : Nat,i + d = l.length → Ev (fun k=>gangsawref31_Wants.l0 k l c (i : Int)) (if (((l.map cv).drop i).any wadN) = true then 4 else R):=by
 intro d
 induction d with
 | zero =>
  intro i hi;rw [List.drop_of_length_le (by rw [List.length_map];omega)]
  refine Ev.step (fun k=>?_) hR
  simp only [gangsawref31_Wants.l0];rw [if_neg (by omega)]
 | succ d ih =>
  intro i hi
  have hlt : i < l.length:=by omega
  rw [drop_at (l:=l.map cv) (by rw [List.length_map];exact hlt),List.any_cons,List.getElem_map];have H:=ih (i + 1) (by omega);have h03:=hs l[i] (List.getElem_mem hlt)
  unfold Sw at h03
  refine Ev.step (f:=fun k=>(gangsawref19_Name.f k l[i].f0).bind fun t349=>(if t349 = true then ((gangsawref31_optional.f k l[i].f3).bind fun t351=>(if t351 = true then (gangsawref31_Wants.l0 k l c ((i + 1 : Nat) : Int)) else (some 4))) else (some 4))) (fun k=>?_) ?_
  (simp only [gangsawref31_Wants.l0];rw [if_pos (by omega),if_pos (by omega),rd26 hlt,w1 (by omega)])
  ·refine Ev.bind (name_f _ (by omega)) ?_
   unfold wadN cv
   cases lexName l[i].f0 with
   | false=>exact Ev.congr (fun k=>by rfl) (Ev.now _)
   | true =>
    refine Ev.congr (fun k=>if_pos rfl) (Ev.bind (opt_f _ (by omega)) ?_)
    cases namedB l[i].f3 with
    | false=>exact Ev.congr (fun k=>by rfl) (Ev.now _)
    | true=>exact Ev.congr (fun k=>by rfl) H
def wantsR (l : List S36) (c : Int) : Int:=if wantedR l = 0 then (if c < 0 then 6 else if c > 1000 then 6 else 0) else wantedR l
theorem rWants_f (l : List S26) (c : Int) (h : 256 < l.length ∨ ∀ x ∈ l,Sw x) : Ev (fun k=>gangsawref31_Wants.f k l c) (if 256 < l.length then 7 else wantsR (l.map cv) c):=by
 unfold gangsawref31_Wants.f
 by_cases h1 : 256 < l.length
 (rw [if_pos h1];exact Ev.congr (fun k=>if_pos (by omega)) (Ev.now _))
 ·rw [if_neg h1]
  refine Ev.congr (fun k=>if_neg (by omega)) ?_
  have hs:=h.resolve_left h1;have H1:=wnt_l1 l (by omega) c l.length 0 (by omega);have H0:=wnt_l0 l (by omega) hs c H1 l.length 0 (by omega);rw [List.drop_zero] at H0
  have e : wantsR (l.map cv) c = (if (l.map cv).any wadN = true then 4 else if (l.map cv).any wadR = true then 6 else if c < 0 then 6 else if c > 1000 then 6 else 0):=by
   unfold wantsR wantedR
   by_cases a : (l.map cv).any wadN = true
   (rw [if_pos a,if_pos a];rfl)
   ·rw [if_neg a,if_neg a];by_cases b : (l.map cv).any wadR = true
    (rw [if_pos b,if_pos b];rfl);(rw [if_neg b,if_neg b];rfl)
  rw [e];exact H0
def readyR (l : List S39) (ws : List S36) (c : Int) : Int:=if checkR l = 0 then wantsR ws c else checkR l
theorem ready_f {l : List S39} {ws : List S36} (c : Int) (h1 : strsB l = true) (h2 : strsWB ws = true) : offcut_ready.f l ws c = some (readyR l ws c):=by
 unfold offcut_ready.f offcut_Check.f offcut_wanted.f readyR wantsR
 rw [if_pos h1];simp only [Option.bind_some];by_cases a : checkR l = 0
 ·rw [if_pos a,if_pos a,if_pos h2];simp only [Option.bind_some];by_cases b : wantedR ws = 0
  ·rw [if_pos b,if_pos b];by_cases e : c < 0
   (rw [if_pos e,if_pos e])
   ·rw [if_neg e,if_neg e];by_cases g : c > 1000
    (rw [if_pos g,if_pos g]);(rw [if_neg g,if_neg g])
  (rw [if_neg b,if_neg b])
 (rw [if_neg a,if_neg a])
end Go.Proofs.Ytbggjmdelnmilaa.Pure
