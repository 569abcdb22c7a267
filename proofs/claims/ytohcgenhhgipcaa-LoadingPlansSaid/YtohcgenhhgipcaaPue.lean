import Derived.Test.YtohcgenhhgipcaaPAx15
import Derived.Test.YtohcgenhhgipcaaPAx5
import Derived.Test.YtohcgenhhgipcaaPud
namespace Go.Proofs.Ytohcgenhhgipcaa.Pure
open Go.RowKit Go.Proofs.Ytohcgenhhgipcaa Go.Proofs.Ytohcgenhhgipcaa.PA Go.Proofs.YtohcgenhhgipcaaW.PrintWords Go.Proofs.YtohcgenhhgipcaaW.PrintLast Go.Proofs.YtohcgenhhgipcaaW.PrintMore
set_option linter.unusedVariables false
set_option linter.unusedSimpArgs false

/-! What fits: the program's and the reference's -/
def sumL : List S64 → Int
 | []=>0
 | x :: r=>x.f1 + sumL r
def packR : List S64 → List S61
 | []=>[]
 | x :: r=>⟨x.f0,sumL r,x.f1,x.f2⟩ :: packR r
def fitsR (t : S24) (l : List S64) : Int:=if sumL l > t.f1 then 15 else if bearsB t (packR l) = true then 0 else 16
/-- few stones,none too long -/
def Few (l : List S64) : Prop:=l.length ≤ 64 ∧ ∀ x ∈ l,1 ≤ x.f1 ∧ x.f1 ≤ 30000
theorem Good.few {t : S24} {l : List S64} (h : Good t l) : Few l:=⟨h.len,fun x hx=>(h.all x hx).2.1⟩
theorem sumL_rng : ∀ (l : List S64),(∀ x ∈ l,1 ≤ x.f1 ∧ x.f1 ≤ 30000) → 0 ≤ sumL l ∧ sumL l ≤ 30000 * (l.length : Int)
 | [],_=>by simp [sumL]
 | x :: r,h=>by
  have h1:=sumL_rng r (fun y hy=>h y (List.mem_cons_of_mem _ hy));have h2:=h x List.mem_cons_self;simp only [sumL,List.length_cons];push_cast
  omega
theorem Few.sub {l m : List S64} (h : Few l) (hs : m.Sublist l) : Few m:=⟨Nat.le_trans hs.length_le h.1,fun x hx=>h.2 x (hs.subset hx)⟩
theorem Few.sum {l : List S64} (h : Few l) : 0 ≤ sumL l ∧ sumL l ≤ 1920000:=by
 have:=sumL_rng l h.2
 have:=h.1
 omega
theorem packR_length : ∀ l : List S64,(packR l).length = l.length
 | []=>rfl
 | x :: r=>by simp [packR,packR_length r]
theorem drop_cons64 (l : List S64) (i : Nat) (h : i < l.length) : l.drop i = rd_T64 l (i : Int) :: l.drop (i + 1):=by
 rw [List.drop_eq_getElem_cons h];unfold rd_T64;simp [h]
theorem drop_cons65 (l : List S65) (i : Nat) (h : i < l.length) : l.drop i = rd_T65 l (i : Int) :: l.drop (i + 1):=by
 rw [List.drop_eq_getElem_cons h];unfold rd_T65;simp [h]
theorem drop_cons54 (l : List S54) (i : Nat) (h : i < l.length) : l.drop i = rd_T54 l (i : Int) :: l.drop (i + 1):=by
 rw [List.drop_eq_getElem_cons h];unfold rd_T54;simp [h]
theorem wrap_small {n : Int} (h : -1000000000000 ≤ n ∧ n ≤ 1000000000000) : wrap64 n = n:=by unfold wrap64;omega
theorem packed_l0 (l : List S64) (hf : Few l) : ∀ (i : Nat) (x3 : List S61), i ≤ l.length → x3.length = l.length → x3.drop i = packR (l.drop i) →
  Ev (fun k=>loading_packed.l0 k l x3 (sumL (l.drop i)) ((i : Int) - 1)) (packR l):=by
 intro i
 induction i with
 | zero =>
  intro x3 _ hx hd;rw [List.drop_zero,List.drop_zero] at hd;subst hd;exact Ev.step (f:=fun _=>some (packR l)) (fun k=>by rw [loading_packed.l0,if_neg (by omega : ¬(((0 : Nat) : Int) - 1 ≥ 0))]) (Ev.now _)
 | succ i ih =>
  intro x3 hi hx hd
  have hlt : i < l.length:=by omega
  have hl:=hf.1;have hs:=(hf.sub (List.drop_sublist (i + 1) l)).sum;have hx1:=hf.2 _ (show rd_T64 l (i : Int) ∈ l from by have:=List.drop_sublist i l;rw [drop_cons64 l i hlt] at this;exact this.subset List.mem_cons_self)
  have e : sumL (l.drop i) = sumL (l.drop (i + 1)) + (rd_T64 l (i : Int)).f1:=by rw [drop_cons64 l i hlt,sumL];omega
  refine Ev.step (f:=fun k=>loading_packed.l0 k l (x3.set i ⟨(rd_T64 l (i : Int)).f0,sumL (l.drop (i + 1)),(rd_T64 l (i : Int)).f1,(rd_T64 l (i : Int)).f2⟩) (sumL (l.drop i)) ((i : Int) - 1)) (fun k=>?_) (ih _ (by omega) (by rw [List.length_set];exact hx) ?_)
  (rw [loading_packed.l0,show ((i + 1 : Nat) : Int) - 1 = (i : Int) from by omega,if_pos (by omega : (i : Int) ≥ 0),if_pos (by omega : (0 : Int) ≤ i),if_pos (by omega : (i : Int) < (l.length : Int)),if_pos (by omega : (i : Int) < (x3.length : Int)),← e,wrap_small (by omega),wrap_small (by omega),Int.toNat_natCast])
  ·have hlx : i < (x3.set i (⟨(rd_T64 l (i : Int)).f0,sumL (l.drop (i + 1)),(rd_T64 l (i : Int)).f1,(rd_T64 l (i : Int)).f2⟩ : S61)).length:=by rw [List.length_set];omega
   rw [List.drop_eq_getElem_cons hlx,List.getElem_set_self,List.drop_set_of_lt (by omega),hd,drop_cons64 l i hlt];rfl
theorem packed_f (l : List S64) (hf : Few l) : Ev (fun k=>loading_packed.f k l) (packR l):=by
 have hl:=hf.1
 unfold loading_packed.f
 refine Ev.congr (fun k=>by rw [if_pos (by omega : (0 : Int) ≤ (l.length : Int)),if_pos (by omega : ((l.length : Int)).toNat ≤ 7036874417766),wrap_small (by omega)]) ?_
 have h:=packed_l0 l hf l.length (List.replicate (l.length : Int).toNat z61) (Nat.le_refl _) (by simp) (by rw [List.drop_of_length_le (by simp),List.drop_of_length_le (Nat.le_refl _)];rfl);rw [List.drop_of_length_le (Nat.le_refl _)] at h;exact h
theorem bears_f (t : S24) (l : List S61) (h : l.length ≤ 1000000000) : loading_bears.f t.f0 t.f1 t.f2 t.f3 t.f4.f0 t.f4.f1 t.f5.f0 t.f5.f1 l = some (bearsB t l):=by
 unfold loading_bears.f
 rw [if_pos h]
theorem fits_l0 (t : S24) (l : List S64) (hf : Few l) : ∀ (d j : Nat) (s : Int), l.length - j = d → j ≤ l.length → s + sumL (l.drop j) = sumL l → 0 ≤ s →
  Ev (fun k=>loading_fits.l0 k l s l (l.length : Int) (j : Int) t.f0 t.f1 t.f2 t.f3 t.f4.f0 t.f4.f1 t.f5.f0 t.f5.f1) (fitsR t l):=by
 have hs:=hf.sum;have hl:=hf.1;intro d
 induction d with
 | zero =>
  intro j s hd hj he h0;rw [List.drop_of_length_le (by omega),sumL,Int.add_zero] at he;subst he
  unfold fitsR
  by_cases h : sumL l > t.f1
  (rw [if_pos h];exact Ev.step (f:=fun _=>some 15) (fun k=>by rw [loading_fits.l0,if_neg (by omega : ¬((j : Int) < (l.length : Int))),if_pos h]) (Ev.now _))
  ·rw [if_neg h]
   refine Ev.step (f:=fun k=>(loading_packed.f k l).bind fun x=>(loading_bears.f t.f0 t.f1 t.f2 t.f3 t.f4.f0 t.f4.f1 t.f5.f0 t.f5.f1 x).bind fun b=>if b = true then some 0 else some 16) (fun k=>by rw [loading_fits.l0,if_neg (by omega : ¬((j : Int) < (l.length : Int))),if_neg h]) ?_
   refine Ev.bind (packed_f l hf) ?_
   rw [bears_f t _ (by rw [packR_length];omega)]
   cases bearsB t (packR l) <;> exact Ev.now _
 | succ d ih =>
  intro j s hd hj he h0
  have hlt : j < l.length:=by omega
  have hq:=(hf.sub (List.drop_sublist (j + 1) l)).sum;rw [drop_cons64 l j hlt,sumL] at he;have hx1:=hf.2 _ (show rd_T64 l (j : Int) ∈ l from by have:=List.drop_sublist j l;rw [drop_cons64 l j hlt] at this;exact this.subset List.mem_cons_self)
  refine Ev.step (f:=fun k=>loading_fits.l0 k l (s + (rd_T64 l (j : Int)).f1) l (l.length : Int) ((j + 1 : Nat) : Int) t.f0 t.f1 t.f2 t.f3 t.f4.f0 t.f4.f1 t.f5.f0 t.f5.f1) (fun k=>?_) (ih (j + 1) _ (by omega) (by omega) (by omega) (by omega))
  rw [loading_fits.l0,if_pos (by omega : (j : Int) < (l.length : Int)),if_pos (by omega : (0 : Int) ≤ j),if_pos (by omega : (j : Int) < (l.length : Int)),wrap_small (by omega : -1000000000000 ≤ s + (rd_T64 l (j : Int)).f1 ∧ s + (rd_T64 l (j : Int)).f1 ≤ 1000000000000),wsucc (by omega)]
theorem fits_f (t : S24) (l : List S64) (hf : Few l) : Ev (fun k=>loading_fits.f k t.f0 t.f1 t.f2 t.f3 t.f4.f0 t.f4.f1 t.f5.f0 t.f5.f1 l) (fitsR t l):=by
 unfold loading_fits.f
 exact fits_l0 t l hf _ 0 0 rfl (by omega) (by rw [List.drop_zero];omega) (by omega)
theorem check_f (t : S24) (l : List S64) (ht : t.f0.size ≤ 9223372036854775807) (hs : ∀ y ∈ l,y.f0.size ≤ 9223372036854775807) : loading_Check.f t.f0 t.f1 t.f2 t.f3 t.f4.f0 t.f4.f1 t.f5.f0 t.f5.f1 l = some (chkR t l):=by
 unfold loading_Check.f
 rw [if_pos ⟨ht,List.all_eq_true.2 fun y h=>decide_eq_true (hs y h)⟩]
/-- the program's Fits -/
def fitR (t : S24) (l : List S64) : Int:=if chkR t l = 0 then fitsR t l else chkR t l
theorem Fits_f (t : S24) (l : List S64) (ht : t.f0.size ≤ 9223372036854775807) (hs : ∀ y ∈ l,y.f0.size ≤ 9223372036854775807) : Ev (fun k=>loading_Fits.f k t.f0 t.f1 t.f2 t.f3 t.f4.f0 t.f4.f1 t.f5.f0 t.f5.f1 l) (fitR t l):=by
 unfold loading_Fits.f fitR
 rw [check_f t l ht hs];by_cases h : chkR t l = 0
 ·rw [if_pos h]
  refine Ev.congr (fun k=>by rw [Option.bind_some,if_pos h]) ?_
  exact Ev.bind (fits_f t l ((good_iff t l).1 h).few) (Ev.now _)
 (rw [if_neg h];exact Ev.congr (fun k=>by rw [Option.bind_some,if_neg h]) (Ev.now _))

/-! the reference -/
theorem sumO (l : List S65) (j : Nat) (h : j < l.length) : sumL ((l.drop j).map o64) = (rd_T65 l (j : Int)).f1 + sumL ((l.drop (j + 1)).map o64):=by
 rw [drop_cons65 l j h,List.map_cons,sumL];rfl
theorem fewO {l : List S65} (hf : Few (l.map o64)) (j : Nat) (h : j < l.length) : Few ((l.drop j).map o64) ∧ 1 ≤ (rd_T65 l (j : Int)).f1 ∧ (rd_T65 l (j : Int)).f1 ≤ 30000:=by
 have e : Few ((l.drop j).map o64):=hf.sub ((List.drop_sublist j l).map o64)
 refine ⟨e, ?_⟩
 rw [drop_cons65 l j h,List.map_cons] at e;exact e.2 _ List.mem_cons_self
theorem length_l0 (l : List S65) (hf : Few (l.map o64)) : ∀ (d j : Nat) (s : Int), l.length - j = d → j ≤ l.length → s + sumL ((l.drop j).map o64) = sumL (l.map o64) → 0 ≤ s →
  Ev (fun k=>gangsawref54_length.l0 k l s (j : Int)) (sumL (l.map o64)):=by
 have hs:=hf.sum;have hl:=hf.1;rw [List.length_map] at hl;intro d
 induction d with
 | zero =>
  intro j s hd hj he h0;rw [List.drop_of_length_le (by omega),List.map_nil,sumL,Int.add_zero] at he;subst he;exact Ev.step (f:=fun _=>some (sumL (l.map o64))) (fun k=>by rw [gangsawref54_length.l0,if_neg (by omega : ¬((j : Int) < (l.length : Int)))]) (Ev.now _)
 | succ d ih =>
  intro j s hd hj he h0
  have hlt : j < l.length:=by omega
  obtain ⟨hq,hx1⟩ := fewO hf j hlt;have hq:=hq.sum;rw [sumO l j hlt] at he hq
  refine Ev.step (f:=fun k=>gangsawref54_length.l0 k l (s + (rd_T65 l (j : Int)).f1) ((j + 1 : Nat) : Int)) (fun k=>?_) (ih (j + 1) _ (by omega) (by omega) (by omega) (by omega))
  rw [gangsawref54_length.l0,if_pos (by omega : (j : Int) < (l.length : Int)),if_pos (by omega : (0 : Int) ≤ j),wrap_small (by omega : -1000000000000 ≤ s + (rd_T65 l (j : Int)).f1 ∧ s + (rd_T65 l (j : Int)).f1 ≤ 1000000000000),wsucc (by omega)]
theorem length_f (l : List S65) (hf : Few (l.map o64)) : Ev (fun k=>gangsawref54_length.f k l) (sumL (l.map o64)):=by
 unfold gangsawref54_length.f
 exact length_l0 l hf _ 0 0 rfl (by omega) (by rw [List.drop_zero];omega) (by omega)
theorem Packed_l1 (l : List S65) (hf : Few (l.map o64)) (i : Nat) (hi : i < l.length) (s : ByteArray) (acc : List S61) (ha : acc.length ≤ 64) (R : ByteArray × List S61)
  (next : Ev (fun k=>gangsawref54_Packed.l0 k l ((i + 1 : Nat) : Int) s (acc ++ [⟨(rd_T65 l (i : Int)).f0,sumL ((l.drop (i + 1)).map o64),(rd_T65 l (i : Int)).f1,(rd_T65 l (i : Int)).f2⟩])) R) : ∀ (d j : Nat) (a : Int),l.length - j = d → j ≤ l.length → a + sumL ((l.drop j).map o64) = sumL ((l.drop (i + 1)).map o64) → 0 ≤ a →
  Ev (fun k=>gangsawref54_Packed.l1 k l (i : Int) a (j : Int) s acc) R:=by
 have hl:=hf.1;rw [List.length_map] at hl;have hs:=(hf.sub ((List.drop_sublist (i + 1) l).map o64)).sum;intro d
 induction d with
 | zero =>
  intro j a hd hj he h0;rw [List.drop_of_length_le (by omega : l.length ≤ j),List.map_nil,sumL,Int.add_zero] at he;subst he
  exact Ev.step (f:=fun k=>gangsawref54_Packed.l0 k l ((i + 1 : Nat) : Int) s (acc ++ [⟨(rd_T65 l (i : Int)).f0,sumL ((l.drop (i + 1)).map o64),(rd_T65 l (i : Int)).f1,(rd_T65 l (i : Int)).f2⟩])) (fun k=>by rw [gangsawref54_Packed.l1,if_neg (by omega : ¬((j : Int) < (l.length : Int))),if_pos (by omega : (0 : Int) ≤ i),if_pos (by omega : (i : Int) < (l.length : Int)),if_pos (by omega : acc.length < 3518437208883),wsucc (by omega)]) next
 | succ d ih =>
  intro j a hd hj he h0
  have hlt : j < l.length:=by omega
  obtain ⟨hq,hx1⟩ := fewO hf j hlt;have hq:=hq.sum;have hq2:=(hf.sub ((List.drop_sublist (j + 1) l).map o64)).sum;rw [sumO l j hlt] at he hq
  refine Ev.step (f:=fun k=>gangsawref54_Packed.l1 k l (i : Int) (a + (rd_T65 l (j : Int)).f1) ((j + 1 : Nat) : Int) s acc) (fun k=>?_) (ih (j + 1) _ (by omega) (by omega) (by omega) (by omega))
  rw [gangsawref54_Packed.l1,if_pos (by omega : (j : Int) < (l.length : Int)),if_pos (by omega : (0 : Int) ≤ j),wrap_small (by omega : -1000000000000 ≤ a + (rd_T65 l (j : Int)).f1 ∧ a + (rd_T65 l (j : Int)).f1 ≤ 1000000000000),wsucc (by omega)]
theorem Packed_l0 (l : List S65) (hf : Few (l.map o64)) (s : ByteArray) : ∀ (d i : Nat) (acc : List S61), l.length - i = d → i ≤ l.length → acc.length = i →
  Ev (fun k=>gangsawref54_Packed.l0 k l (i : Int) s acc) (s,acc ++ packR ((l.drop i).map o64)):=by
 have hl:=hf.1;rw [List.length_map] at hl;intro d
 induction d with
 | zero =>
  intro i acc hd hi ha;rw [List.drop_of_length_le (by omega),List.map_nil,packR,List.append_nil];exact Ev.step (f:=fun _=>some (s,acc)) (fun k=>by rw [gangsawref54_Packed.l0,if_neg (by omega : ¬((i : Int) < (l.length : Int)))]) (Ev.now _)
 | succ d ih =>
  intro i acc hd hi ha
  have hlt : i < l.length:=by omega
  refine Ev.step (f:=fun k=>gangsawref54_Packed.l1 k l (i : Int) 0 ((i + 1 : Nat) : Int) s acc) (fun k=>by rw [gangsawref54_Packed.l0,if_pos (by omega : (i : Int) < (l.length : Int)),wsucc (by omega)]) ?_
  refine Packed_l1 l hf i hlt s acc (by omega) _ ?_ _ (i + 1) 0 rfl (by omega) (by omega) (by omega)
  have h:=ih (i + 1) (acc ++ [⟨(rd_T65 l (i : Int)).f0,sumL ((l.drop (i + 1)).map o64),(rd_T65 l (i : Int)).f1,(rd_T65 l (i : Int)).f2⟩]) (by omega) (by omega) (by simp;omega);rw [List.append_assoc] at h;rw [drop_cons65 l i hlt,List.map_cons];exact h
theorem Packed_f (t : S24) (l : List S65) (hf : Few (l.map o64)) : Ev (fun k=>gangsawref54_Packed.f k t.f0 t.f1 t.f2 t.f3 t.f4.f0 t.f4.f1 t.f5.f0 t.f5.f1 l) (t.f0,packR (l.map o64)):=by
 unfold gangsawref54_Packed.f
 exact Packed_l0 l hf t.f0 _ 0 [] rfl (by omega) rfl
theorem bear_l0 (t : S24) (l : List S61) (hl : l.length ≤ 1000000) : ∀ (d j : Nat), l.length - j = d → j ≤ l.length →
  Ev (fun k=>gangsawref54_bear.l0 k l (dist t) (j : Int) t.f0 t.f1 t.f2 t.f3 t.f4.f0 t.f4.f1 t.f5.f0 t.f5.f1) (bearsB t (l.drop j)):=by
 have st : ∀ (j : Nat) (R : Bool), j ≤ l.length → Ev (fun k => gangsawref54_bear.l0 k l (dist t) ((j + 1 : Nat) : Int) t.f0 t.f1 t.f2 t.f3 t.f4.f0 t.f4.f1 t.f5.f0 t.f5.f1) R →
   Ev (fun k=>gangsawref54_bear.l0 k l (dist t) (j : Int) t.f0 t.f1 t.f2 t.f3 t.f4.f0 t.f4.f1 t.f5.f0 t.f5.f1) (stB t (l.drop j) && R):=by
  intro j R hj hn
  refine Ev.step (f:=fun k=>(gangsawref54_moments.f k t.f0 t.f1 t.f2 t.f3 t.f4.f0 t.f4.f1 t.f5.f0 t.f5.f1 (l.drop j)).bind fun m=>if m.1 < 0 then some false else if m.1 > wrap64 (dist t * t.f4.f0) then some false else if m.2 < 0 then some false else if m.2 > wrap64 (dist t * t.f4.f1) then some false else gangsawref54_bear.l0 k l (dist t) ((j + 1 : Nat) : Int) t.f0 t.f1 t.f2 t.f3 t.f4.f0 t.f4.f1 t.f5.f0 t.f5.f1) (fun k=>?_) ?_
  (rw [gangsawref54_bear.l0,if_pos (by omega : (j : Int) ≤ (l.length : Int)),if_pos (by omega : (0 : Int) ≤ j),wsucc (by omega),Int.toNat_natCast])
  ·refine Ev.bind (moments_f t (l.drop j) (by rw [List.length_drop];omega)) ?_
   unfold stB axO
   by_cases a : (momF t (l.drop j)).1 < 0
   (rw [show ((!(decide ((momF t (l.drop j)).1 < 0) || decide (wrap64 (dist t * t.f4.f0) < (momF t (l.drop j)).1)) && !(decide ((momF t (l.drop j)).2 < 0) || decide (wrap64 (dist t * t.f4.f1) < (momF t (l.drop j)).2))) && R) = false from by simp [a]];exact Ev.congr (fun k=>by rw [if_pos a]) (Ev.now _))
   ·by_cases b : (momF t (l.drop j)).1 > wrap64 (dist t * t.f4.f0)
    (rw [show ((!(decide ((momF t (l.drop j)).1 < 0) || decide (wrap64 (dist t * t.f4.f0) < (momF t (l.drop j)).1)) && !(decide ((momF t (l.drop j)).2 < 0) || decide (wrap64 (dist t * t.f4.f1) < (momF t (l.drop j)).2))) && R) = false from by simp [show wrap64 (dist t * t.f4.f0) < (momF t (l.drop j)).1 from b]];exact Ev.congr (fun k=>by rw [if_neg a,if_pos b]) (Ev.now _))
    ·by_cases c : (momF t (l.drop j)).2 < 0
     (rw [show ((!(decide ((momF t (l.drop j)).1 < 0) || decide (wrap64 (dist t * t.f4.f0) < (momF t (l.drop j)).1)) && !(decide ((momF t (l.drop j)).2 < 0) || decide (wrap64 (dist t * t.f4.f1) < (momF t (l.drop j)).2))) && R) = false from by simp [c]];exact Ev.congr (fun k=>by rw [if_neg a,if_neg b,if_pos c]) (Ev.now _))
     ·by_cases d : (momF t (l.drop j)).2 > wrap64 (dist t * t.f4.f1)
      (rw [show ((!(decide ((momF t (l.drop j)).1 < 0) || decide (wrap64 (dist t * t.f4.f0) < (momF t (l.drop j)).1)) && !(decide ((momF t (l.drop j)).2 < 0) || decide (wrap64 (dist t * t.f4.f1) < (momF t (l.drop j)).2))) && R) = false from by simp [show wrap64 (dist t * t.f4.f1) < (momF t (l.drop j)).2 from d]];exact Ev.congr (fun k=>by rw [if_neg a,if_neg b,if_neg c,if_pos d]) (Ev.now _));(rw [show ((!(decide ((momF t (l.drop j)).1 < 0) || decide (wrap64 (dist t * t.f4.f0) < (momF t (l.drop j)).1)) && !(decide ((momF t (l.drop j)).2 < 0) || decide (wrap64 (dist t * t.f4.f1) < (momF t (l.drop j)).2))) && R) = R from by simp [a,show ¬(wrap64 (dist t * t.f4.f0) < (momF t (l.drop j)).1) from b,c,show ¬(wrap64 (dist t * t.f4.f1) < (momF t (l.drop j)).2) from d]];exact Ev.congr (fun k=>by rw [if_neg a,if_neg b,if_neg c,if_neg d]) hn)
 intro d
 induction d with
 | zero =>
  intro j hd hj;have h:=st j true hj (Ev.step (f:=fun _=>some true) (fun k=>by rw [gangsawref54_bear.l0,if_neg (by omega : ¬(((j + 1 : Nat) : Int) ≤ (l.length : Int)))]) (Ev.now _));rw [List.drop_of_length_le (by omega),Bool.and_true] at h;rw [List.drop_of_length_le (by omega)];exact h
 | succ d ih =>
  intro j hd hj
  have hlt : j < l.length:=by omega
  have h:=st j _ hj (ih (j + 1) (by omega) (by omega));rw [List.drop_eq_getElem_cons hlt] at h ⊢;exact h
theorem bear_f (t : S24) (l : List S61) (hl : l.length ≤ 1000000) : Ev (fun k=>gangsawref54_bear.f k t.f0 t.f1 t.f2 t.f3 t.f4.f0 t.f4.f1 t.f5.f0 t.f5.f1 l) (bearsB t l):=by
 unfold gangsawref54_bear.f
 exact bear_l0 t l hl _ 0 rfl (by omega)
theorem rFits_f (t : S24) (l : List S65) (hl : l.length ≤ 1000000) (ht : t.f0.size ≤ 9223372036854775807) (hs : ∀ y ∈ l, y.f0.size ≤ 9223372036854775807) :
  Ev (fun k=>gangsawref54_Fits.f k t.f0 t.f1 t.f2 t.f3 t.f4.f0 t.f4.f1 t.f5.f0 t.f5.f1 l) (fitR t (l.map o64)):=by
 unfold gangsawref54_Fits.f
 refine Ev.bind (Check_ref t l hl ht hs) ?_
 unfold fitR
 by_cases h : chkR t (l.map o64) = 0
 ·rw [if_pos h];have hf:=((good_iff t (l.map o64)).1 h).few
  refine Ev.congr (fun k=>by rw [if_pos h]) ?_
  refine Ev.bind (length_f l hf) ?_
  unfold fitsR
  by_cases h1 : sumL (l.map o64) > t.f1
  (rw [if_pos h1];exact Ev.congr (fun k=>by rw [if_pos h1]) (Ev.now _))
  ·rw [if_neg h1]
   refine Ev.congr (fun k=>by rw [if_neg h1]) ?_
   refine Ev.bind (Packed_f t l hf) ?_
   refine Ev.bind (bear_f t _ (by rw [packR_length,List.length_map];omega)) ?_
   cases bearsB t (packR (l.map o64)) <;> exact Ev.now _
 (rw [if_neg h];exact Ev.congr (fun k=>by rw [if_neg h]) (Ev.now _))
/-- a list's stones of a valid list are valid -/
theorem fitR_good {t : S24} {l : List S64} (h : Good t l) : fitR t l = fitsR t l:=by
 unfold fitR;rw [if_pos ((good_iff t l).2 h)]
end Go.Proofs.Ytohcgenhhgipcaa.Pure
