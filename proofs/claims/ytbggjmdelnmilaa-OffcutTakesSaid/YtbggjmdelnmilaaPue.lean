import Derived.Test.YtbggjmdelnmilaaPAx19
import Derived.Test.YtbggjmdelnmilaaPAx6
import Derived.Test.YtbggjmdelnmilaaPud
namespace Go.Proofs.Ytbggjmdelnmilaa.Pure
open Go.RowKit Go.Proofs.Ytbggjmdelnmilaa Go.Proofs.Ytbggjmdelnmilaa.PA Go.Proofs.YtbggjmdelnmilaaW.PrintWords Go.Proofs.YtbggjmdelnmilaaW.PrintLast Go.Proofs.YtbggjmdelnmilaaW.PrintMore
set_option linter.unusedVariables false
set_option linter.unusedSimpArgs false
def Gd (x : S39) : Prop:=lexName x.f0 = true ∧ namedB x.f3 = true ∧ namedB x.f4 = true ∧ sizedB x.f1 = true ∧ tintedB x.f2 = true
structure Good (l : List S39) : Prop where
 len : l.length ≤ 256
 el : ∀ x ∈ l,Gd x
 ord : Ord l
theorem uns_ord (l : List S39) : unsB l = false ↔ Ord l:=by
 unfold unsB
 rw [List.any_eq_false]
 constructor
 ·intro h
  have adj : ∀ j,1 ≤ j → (hj : j < l.length) → Op.bytesLess l[j - 1].f0.toList l[j].f0.toList = true:=by
   intro j h1 hj
   have:=h j (List.mem_range.2 hj)
   rw [decide_eq_true h1,Bool.true_and] at this
   unfold oosAt at this
   have e1 : l.getD (j - 1) z39 = l[j - 1] := by simp [List.getD,show j - 1 < l.length by omega]
   have e2 : l.getD j z39 = l[j] := by simp [List.getD,hj]
   rw [e1,e2] at this
   cases hb : Op.bytesLess l[j - 1].f0.toList l[j].f0.toList with
   | true=>rfl
   | false=>rw [hb] at this;simp at this
  unfold PA.Ord
  rw [List.pairwise_iff_getElem]
  have key : ∀ d i,(hi : i < l.length) → (hj : i + d + 1 < l.length) → Op.bytesLess l[i].f0.toList l[i + d + 1].f0.toList = true:=by
   intro d
   induction d with
   | zero=>intro i hi hj;exact adj (i + 1) (by omega) hj
   | succ d ih =>
    intro i hi hj;exact bl_trans _ _ _ (ih i hi (by omega)) (adj (i + d + 1 + 1) (by omega) (by omega))
  intro i j hi hj hij
  have:=key (j - i - 1) i hi (by omega)
  have e : i + (j - i - 1) + 1 = j:=by omega
  simpa only [e] using this
 ·intro h j hj;rw [List.mem_range] at hj;by_cases h1 : 1 ≤ j
  ·rw [decide_eq_true h1,Bool.true_and]
   unfold oosAt
   have e1 : l.getD (j - 1) z39 = l[j - 1] := by simp [List.getD,show j - 1 < l.length by omega]
   have e2 : l.getD j z39 = l[j] := by simp [List.getD,hj]
   rw [e1,e2,List.pairwise_iff_getElem.1 h (j - 1) j (by omega) hj (by omega)]
   simp
  ·rw [decide_eq_false h1];simp
theorem good_iff (l : List S39) : checkR l = 0 ↔ Good l:=by
 unfold checkR
 by_cases h1 : 256 < l.length
 (rw [if_pos h1];exact ⟨fun h=>by omega,fun h=>by have:=h.len;omega⟩)
 ·rw [if_neg h1];by_cases h2 : l.any badN = true
  ·rw [if_pos h2]
   refine ⟨fun h=>by omega,fun h=>?_⟩
   obtain ⟨x,hx,hb⟩ := List.any_eq_true.1 h2;obtain ⟨g0,g1,g2,_⟩ := h.el x hx
   unfold badN at hb
   rw [g0,g1,g2] at hb
   cases hb
  ·rw [if_neg h2];by_cases h3 : l.any badR = true
   ·rw [if_pos h3]
    refine ⟨fun h=>by omega,fun h=>?_⟩
    obtain ⟨x,hx,hb⟩ := List.any_eq_true.1 h3;obtain ⟨_,_,_,g0,g1⟩ := h.el x hx
    unfold badR at hb
    rw [g0,g1] at hb
    cases hb
   ·rw [if_neg h3]
    cases h4 : unsB l with
    | true =>
     refine ⟨fun h=>by simp at h,fun h=>?_⟩
     rw [(uns_ord l).2 h.ord] at h4
     cases h4
    | false =>
     refine ⟨fun _=>⟨by omega,fun x hx=>?_,(uns_ord l).1 h4⟩,fun _=>by simp⟩
     have a:=List.any_eq_false.1 (by simpa using h2) x hx;have b:=List.any_eq_false.1 (by simpa using h3) x hx
     unfold badN at a
     unfold badR at b
     unfold Gd
     revert a b
     cases lexName x.f0 <;> cases namedB x.f3 <;> cases namedB x.f4 <;> cases sizedB x.f1 <;> cases tintedB x.f2 <;> simp
def Gw (y : S36) : Prop:=lexName y.f0 = true ∧ namedB y.f3 = true ∧ sizedB y.f1 = true ∧ tintedB y.f2 = true
theorem wants_iff (ws : List S36) (c : Int) : wantsR ws c = 0 ↔ (∀ y ∈ ws,Gw y) ∧ 0 ≤ c ∧ c ≤ 1000:=by
 unfold wantsR wantedR
 by_cases h2 : ws.any wadN = true
 ·rw [if_pos h2,if_neg (by omega)]
  refine ⟨fun h=>by omega,fun h=>?_⟩
  obtain ⟨x,hx,hb⟩ := List.any_eq_true.1 h2;obtain ⟨g0,g1,_⟩ := h.1 x hx
  unfold wadN at hb
  rw [g0,g1] at hb
  cases hb
 ·rw [if_neg h2];by_cases h3 : ws.any wadR = true
  ·rw [if_pos h3,if_neg (by omega)]
   refine ⟨fun h=>by omega,fun h=>?_⟩
   obtain ⟨x,hx,hb⟩ := List.any_eq_true.1 h3;obtain ⟨_,_,g0,g1⟩ := h.1 x hx
   unfold wadR at hb
   rw [g0,g1] at hb
   cases hb
  ·rw [if_neg h3,if_pos rfl]
   have hg : ∀ y ∈ ws,Gw y:=fun x hx=>by
    have a:=List.any_eq_false.1 (by simpa using h2) x hx;have b:=List.any_eq_false.1 (by simpa using h3) x hx
    unfold wadN at a
    unfold wadR at b
    unfold Gw
    revert a b
    cases lexName x.f0 <;> cases namedB x.f3 <;> cases sizedB x.f1 <;> cases tintedB x.f2 <;> simp
   by_cases h5 : c < 0
   (rw [if_pos h5];exact ⟨fun h=>by omega,fun h=>by omega⟩)
   ·rw [if_neg h5];by_cases h6 : c > 1000
    (rw [if_pos h6];exact ⟨fun h=>by omega,fun h=>by omega⟩);(rw [if_neg h6];exact ⟨fun _=>⟨hg,by omega,by omega⟩,fun _=>rfl⟩)
theorem ready_iff (l : List S39) (ws : List S36) (c : Int) : readyR l ws c = 0 ↔ Good l ∧ (∀ y ∈ ws,Gw y) ∧ 0 ≤ c ∧ c ≤ 1000:=by
 unfold readyR
 by_cases h : checkR l = 0
 (rw [if_pos h,wants_iff];exact ⟨fun g=>⟨(good_iff l).1 h,g⟩,fun g=>g.2⟩);(rw [if_neg h];exact ⟨fun g=>absurd g h,fun g=>absurd ((good_iff l).2 g.1) h⟩)
theorem strs_good {l : List S39} (h : ∀ x ∈ l,St x) : strsB l = true:=by
 unfold strsB
 rw [List.all_eq_true];intro x hx
 have:=h x hx
 unfold St at this
 simp only [Bool.and_eq_true,decide_eq_true_eq]
 unfold bigN
 omega
def tkR (l : List S39) (y : S36) (c n : Int) : T5:=if bestR l y < 0 then none5 9 else takeR l (bestR l y).toNat y c n
def endR (r : Option (List S39)) (y : S36) (x : S39) (t : Bool) : T5:=match r with
 | none=>none5 5
 | some out=>if 256 < out.length then none5 7 else (out,y.f0,x.f0,t,0)
abbrev TL1 (k : Nat) (t : Bool) (kept out : List S39) (j : Int) (y : S36) (x : S39):=gangsawref31_Take.l1 k t kept out j y.f0 y.f1.f0 y.f1.f1 y.f1.f2 y.f2 y.f3 y.f4 x.f0 x.f1.f0 x.f1.f1 x.f1.f2 x.f2 x.f3 x.f4
abbrev TL0 (k : Nat) (l : List S39) (n a : Int) (t : Bool) (acc all : List S39) (i : Int) (y : S36) (x : S39):=gangsawref31_Take.l0 k l n a t acc all i y.f0 y.f1.f0 y.f1.f1 y.f1.f2 y.f2 y.f3 y.f4 x.f0 x.f1.f0 x.f1.f1 x.f1.f2 x.f2 x.f3 x.f4
theorem put_f {out : List S39} (r : S39) (ho : Ord out) (hl : out.length ≤ 100000) : gangsawref31_put.f out r.f0 r.f1.f0 r.f1.f1 r.f1.f2 r.f2 r.f3 r.f4 = some (if foundB out r = true then (out,false) else (putR out r,true)):=by
 unfold gangsawref31_put.f
 rw [if_pos ⟨ho,by unfold room;omega⟩]
theorem tk_l1 (y : S36) (x : S39) (t : Bool) (kept : List S39) (hk : kept.length ≤ 3) : ∀ (d j : Nat) (out : List S39),j + d = kept.length → Ord out → out.length ≤ 1000 + j → Ev (fun k=>TL1 k t kept out (j : Int) y x) (endR (insAll out (kept.drop j)) y x t):=by
 intro d
 induction d with
 | zero =>
  intro j out hj ho hl;rw [List.drop_of_length_le (by omega),insAll_nil]
  unfold endR
  refine Ev.step (f:=fun _=>if (out.length : Int) > 256 then (some (none5 7)) else (some (out,y.f0,x.f0,t,0))) (fun k=>?_) ?_
  ·show gangsawref31_Take.l1 (k + 1) t kept out (j : Int) y.f0 y.f1.f0 y.f1.f1 y.f1.f2 y.f2 y.f3 y.f4 x.f0 x.f1.f0 x.f1.f1 x.f1.f2 x.f2 x.f3 x.f4 = _
   simp only [gangsawref31_Take.l1];rw [if_neg (by omega)];rfl
  ·by_cases h : 256 < out.length
   (simp only [if_pos h];exact Ev.congr (fun k=>if_pos (by omega)) (Ev.now _));(simp only [if_neg h];exact Ev.congr (fun k=>if_neg (by omega)) (Ev.now _))
 | succ d ih =>
  intro j out hj ho hl
  have hlt : j < kept.length:=by omega
  rw [drop_at hlt,insAll_cons]
  refine Ev.step (f:=fun k=>(gangsawref31_put.f out kept[j].f0 kept[j].f1.f0 kept[j].f1.f1 kept[j].f1.f2 kept[j].f2 kept[j].f3 kept[j].f4).bind fun bt552=>(if bt552.2 = true then (TL1 k t kept bt552.1 ((j + 1 : Nat) : Int) y x) else (some (none5 5)))) (fun k=>?_) ?_
  ·show gangsawref31_Take.l1 (k + 1) t kept out (j : Int) y.f0 y.f1.f0 y.f1.f1 y.f1.f2 y.f2 y.f3 y.f4 x.f0 x.f1.f0 x.f1.f1 x.f1.f2 x.f2 x.f3 x.f4 = _
   simp only [gangsawref31_Take.l1];rw [if_pos (by omega),if_pos (by omega),rd39 hlt,w1 (by omega)];rfl
  ·rw [put_f _ ho (by omega)]
   cases hf : foundB out kept[j] with
   | true =>
    rw [if_pos rfl,if_pos rfl];exact Ev.congr (fun k=>by rfl) (Ev.now _)
   | false =>
    rw [if_neg (by simp),if_neg (by simp)];exact Ev.congr (fun k=>by rfl) (ih (j + 1) (putR out kept[j]) (by omega) (ho.put hf) (by rw [putR_len];omega))
theorem tk_l0 (y : S36) (x : S39) (t : Bool) (l : List S39) (a : Nat) (n : Int) (all : List S39) (hall : all.length ≤ 3) (ha : a < l.length) (hlen : l.length ≤ 256) (ho : Ord l) : ∀ (d i : Nat) (acc : List S39), i + d = all.length → acc.length ≤ i →
  Ev (fun k=>TL0 k l n (a : Int) t acc all (i : Int) y x) (if ((acc ++ (all.drop i).filter fun r=>!smallB n r).any fun r=>decide (24 < r.f0.size)) = true then none5 4 else endR (insAll (l.take a ++ l.drop (a + 1)) (acc ++ (all.drop i).filter fun r=>!smallB n r)) y x t):=by
 intro d
 induction d with
 | zero =>
  intro i acc hi hacc;rw [List.drop_of_length_le (by omega),List.filter_nil,List.append_nil]
  refine Ev.step (f:=fun k=>(gangsawref31_long.f k acc).bind fun t533=>(if t533 = true then (some (none5 4)) else (TL1 k t acc (([] ++ l.take a) ++ l.drop (a + 1)) ((0 : Nat) : Int) y x))) (fun k=>?_) ?_
  ·show gangsawref31_Take.l0 (k + 1) l n (a : Int) t acc all (i : Int) y.f0 y.f1.f0 y.f1.f1 y.f1.f2 y.f2 y.f3 y.f4 x.f0 x.f1.f0 x.f1.f1 x.f1.f2 x.f2 x.f3 x.f4 = _
   simp only [gangsawref31_Take.l0];rw [if_neg (by omega)]
   congr 1
   funext t533
   cases t533 with
   | true=>rw [if_pos rfl,if_pos rfl];rfl
   | false =>
    have e1 : ([] : List S39).length + (l.take ((a : Int)).toNat).length < 1759218604441:=by rw [List.length_nil,List.length_take,Int.toNat_natCast];omega
    have e2 : (([] : List S39) ++ l.take ((a : Int)).toNat).length + (l.drop (((a + 1 : Nat) : Int)).toNat).length < 1759218604441:=by rw [List.length_append,List.length_nil,List.length_take,List.length_drop,Int.toNat_natCast,Int.toNat_natCast];omega
    rw [if_neg (show ¬ (false = true) by decide),if_neg (show ¬ (false = true) by decide),Option.bind_some,if_pos (show (0 : Int) ≤ (a : Int) by omega),if_pos (show (a : Int) ≤ (l.length : Int) by omega),Option.bind_some,if_pos e1,Option.bind_some,w1 (by omega),if_pos (show (0 : Int) ≤ ((a + 1 : Nat) : Int) by omega),if_pos (show ((a + 1 : Nat) : Int) ≤ (l.length : Int) by omega),Option.bind_some,if_pos e2,Int.toNat_natCast,Int.toNat_natCast];rfl
  ·refine Ev.bind (long_f acc (by omega)) ?_
   cases (acc.any fun r=>decide (24 < r.f0.size)) with
   | true =>
    rw [if_pos rfl];exact Ev.congr (fun k=>by rfl) (Ev.now _)
   | false =>
    rw [if_neg (by simp)];have H:=tk_l1 y x t acc (by omega) acc.length 0 (([] ++ l.take a) ++ l.drop (a + 1)) (by omega) (by rw [List.nil_append];exact ho.less a) (by simp;omega);rw [List.drop_zero,List.nil_append] at H;exact Ev.congr (fun k=>if_neg (by simp)) H
 | succ d ih =>
  intro i acc hi hacc
  have hlt : i < all.length:=by omega
  rw [drop_at hlt,List.filter_cons];by_cases h : all[i].f1.f0 ≥ n ∧ all[i].f1.f1 ≥ n ∧ all[i].f1.f2 ≥ n
  ·have hb : (!smallB n all[i]) = true:=by unfold smallB min3;simp only [Bool.not_eq_true',decide_eq_false_iff_not];omega
   rw [if_pos hb,← List.singleton_append,← List.append_assoc]
   refine Ev.step (fun k=>?_) (ih (i + 1) (acc ++ [all[i]]) (by omega) (by simp;omega))
   show gangsawref31_Take.l0 (k + 1) l n (a : Int) t acc all (i : Int) y.f0 y.f1.f0 y.f1.f1 y.f1.f2 y.f2 y.f3 y.f4 x.f0 x.f1.f0 x.f1.f1 x.f1.f2 x.f2 x.f3 x.f4 = _
   simp only [gangsawref31_Take.l0];rw [if_pos (by omega),if_pos (by omega),rd39 hlt,if_pos h.1,if_pos h.2.1,if_pos h.2.2,if_pos (by omega),w1 (by omega)]
  ·have hb : ¬ (!smallB n all[i]) = true:=by unfold smallB min3;simp only [Bool.not_eq_true',decide_eq_false_iff_not];omega
   rw [if_neg hb]
   refine Ev.step (fun k=>?_) (ih (i + 1) acc (by omega) (by omega))
   show gangsawref31_Take.l0 (k + 1) l n (a : Int) t acc all (i : Int) y.f0 y.f1.f0 y.f1.f1 y.f1.f2 y.f2 y.f3 y.f4 x.f0 x.f1.f0 x.f1.f1 x.f1.f2 x.f2 x.f3 x.f4 = _
   simp only [gangsawref31_Take.l0];rw [if_pos (by omega),if_pos (by omega),rd39 hlt,w1 (by omega)];by_cases g0 : all[i].f1.f0 ≥ n
   ·rw [if_pos g0];by_cases g1 : all[i].f1.f1 ≥ n
    (rw [if_pos g1,if_neg (fun g2=>h ⟨g0,g1,g2⟩)]);(rw [if_neg g1])
   (rw [if_neg g0])
theorem rTake_f {l : List S39} {y : S36} (c n : Int) (hg : Good l) (hy : Gw y) : Ev (fun k=>gangsawref31_Take.f k l y.f0 y.f1.f0 y.f1.f1 y.f1.f2 y.f2 y.f3 y.f4 c n) (tkR l y c n):=by
 have hlen:=hg.len
 unfold gangsawref31_Take.f tkR
 refine Ev.bind (rbest_f l y (by omega)) ?_
 rcases bestR_spec l y with ⟨h1,_⟩|⟨h0,h1,h2⟩
 (rw [h1,if_pos (by omega)];exact Ev.congr (fun k=>if_pos (by omega)) (Ev.now _))
 ·rw [if_neg (by omega)]
  obtain ⟨a,ha⟩ : ∃ a : Nat,bestR l y = a:=⟨(bestR l y).toNat,by omega⟩
  rw [ha] at h1 h2 ⊢;rw [Int.toNat_natCast] at h2 ⊢
  have hal : a < l.length:=by omega
  refine Ev.congr (fun k=>by rw [if_neg (by omega),if_pos (by omega),if_pos (by omega),rdD]) ?_
  have hx : l.getD a z39 ∈ l:=by
   rw [List.getD_eq_getElem?_getD,List.getElem?_eq_getElem hal];exact List.getElem_mem _
  unfold takeR
  have hgx:=hg.el _ hx;generalize l.getD a z39 = x at h2 hgx ⊢;have hlx:=lex_size hgx.1
  refine Ev.bind (rfits_e x y) (Ev.bind (rRest_f c (sized_pos hgx.2.2.2.1).1 (sized_pos hy.2.2.1).1 (by omega)) ?_)
  have H:=tk_l0 y x (fitsB x y).2 l a n (restR x y c) (restN_len _ _ _ _) hal hlen hg.ord (restR x y c).length 0 [] (by omega) (by simp);rw [List.drop_zero,List.nil_append] at H;have e : ((keptR x y c n).any fun r=>!lexName r.f0) = ((keptR x y c n).any fun r=>decide (24 < r.f0.size)):=nameless_long hgx.1 (fun r hr=>rest_mem (List.mem_filter.1 hr).1);rw [e];exact H
def lastB (n : Int) : Bool:=decide (1 ≤ n) && decide (n ≤ 1000000)
theorem lasting_f (n : Int) : offcut_lasting.f n = some (lastB n):=by
 unfold offcut_lasting.f lastB
 by_cases h : n ≥ 1
 (rw [if_pos h,decide_eq_true (show 1 ≤ n from h),Bool.true_and]);(rw [if_neg h,decide_eq_false (show ¬ 1 ≤ n from h),Bool.false_and])
theorem take_f {l : List S39} {i : Nat} (y : S36) (c n : Int) (hg : Good l) (hi : i < l.length) : offcut_take.f l (i : Int) y.f0 y.f1.f0 y.f1.f1 y.f1.f2 y.f2 y.f3 y.f4 c n = some (takeR l i y c n):=by
 have hx : l.getD i z39 ∈ l:=by
  rw [List.getD_eq_getElem?_getD,List.getElem?_eq_getElem hi];exact List.getElem_mem _
 have:=lex_size (hg.el _ hx).1
 have hlen:=hg.len
 unfold offcut_take.f
 rw [Int.toNat_natCast,if_pos ⟨by omega,hi,by unfold bigN;omega,hg.ord,by unfold room;omega⟩]
def takeA (l : List S39) (y : S36) (c n : Int) : T5:=if readyR l [y] c = 0 then (if lastB n = true then tkR l y c n else none5 6) else none5 (readyR l [y] c)
theorem oTake_f (l : List S39) (y : S36) (c n : Int) (h1 : strsB l = true) (h2 : strsWB [y] = true) : Ev (fun k=>offcut_Take.f k l y.f0 y.f1.f0 y.f1.f1 y.f1.f2 y.f2 y.f3 y.f4 c n) (takeA l y c n):=by
 unfold offcut_Take.f takeA
 rw [show offcut_ready.f l [(⟨y.f0,⟨y.f1.f0,y.f1.f1,y.f1.f2⟩,y.f2,y.f3,y.f4⟩ : S36)] c = some (readyR l [y] c) from ready_f c h1 h2];by_cases h : readyR l [y] c = 0
 ·rw [if_pos h];have hg:=(ready_iff l [y] c).1 h;have hlen:=hg.1.len
  refine Ev.congr (fun k=>by rw [Option.bind_some,if_pos h,lasting_f,Option.bind_some]) ?_
  cases lastB n with
  | false=>exact Ev.congr (fun k=>by rfl) (Ev.now _)
  | true =>
   rw [if_pos rfl]
   refine Ev.congr (fun k=>if_pos rfl) (Ev.bind (best_f l y (by omega)) ?_)
   unfold tkR
   rcases bestR_spec l y with ⟨h1,_⟩|⟨h0,h1,h2⟩
   (rw [h1,if_pos (by omega),if_pos (by omega)];exact Ev.now _)
   ·rw [if_neg (by omega),if_neg (by omega)]
    obtain ⟨a,ha⟩ : ∃ a : Nat,bestR l y = a:=⟨(bestR l y).toNat,by omega⟩
    rw [ha] at h1 ⊢;rw [Int.toNat_natCast];rw [take_f y c n hg.1 (by omega),Option.bind_some];exact Ev.now _
 (rw [if_neg h];exact Ev.congr (fun k=>by rw [Option.bind_some,if_neg h];rfl) (Ev.now _))
end Go.Proofs.Ytbggjmdelnmilaa.Pure
