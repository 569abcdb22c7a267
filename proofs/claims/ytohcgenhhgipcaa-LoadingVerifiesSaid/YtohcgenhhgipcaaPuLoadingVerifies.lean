import Derived.Test.YtohcgenhhgipcaaOp
import Derived.Test.YtohcgenhhgipcaaPAx27
import Derived.Test.YtohcgenhhgipcaaPue
import Derived.Test.YtohcgenhhgipcaaPui
import Derived.Test.YtohcgenhhgipcaaPuw
namespace Go.Proofs.Ytohcgenhhgipcaa.Pure
open Go.RowKit Go.Proofs.Ytohcgenhhgipcaa Go.Proofs.Ytohcgenhhgipcaa.PA Go.Proofs.YtohcgenhhgipcaaW.PrintWords Go.Proofs.YtohcgenhhgipcaaW.PrintLast Go.Proofs.YtohcgenhhgipcaaW.PrintMore
set_option linter.unusedVariables false
set_option linter.unusedSimpArgs false

/-! The reference's Verify is the program's -/
def t54 (x : S47) : S54:=⟨x.f0,x.f1⟩
theorem trips_l0 (l : List S47) (hl : l.length ≤ 1000000) : ∀ (d j : Nat) (acc : List S54), l.length - j = d → j ≤ l.length → acc.length = j →
  Ev (fun k=>gangsawlaw54_trips.l0 k l acc (j : Int)) (acc ++ (l.drop j).map t54):=by
 intro d
 induction d with
 | zero =>
  intro j acc hd hj ha;rw [List.drop_of_length_le (by omega),List.map_nil,List.append_nil];exact Ev.step (f:=fun _=>some acc) (fun k=>by rw [gangsawlaw54_trips.l0,if_neg (by omega : ¬((j : Int) < (l.length : Int)))]) (Ev.now _)
 | succ d ih =>
  intro j acc hd hj ha
  have hlt : j < l.length:=by omega
  have h:=ih (j + 1) (acc ++ [t54 (rd_T47 l (j : Int))]) (by omega) (by omega) (by rw [List.length_append,List.length_singleton,ha]);rw [drop_cons47 l j hlt,List.map_cons,← List.singleton_append,← List.append_assoc];exact Ev.step (f:=fun k=>gangsawlaw54_trips.l0 k l (acc ++ [t54 (rd_T47 l (j : Int))]) ((j + 1 : Nat) : Int)) (fun k=>by rw [gangsawlaw54_trips.l0,if_pos (by omega : (j : Int) < (l.length : Int)),if_pos (by omega : (0 : Int) ≤ j),if_pos (by omega : acc.length < 3518437208883),wsucc (by omega)];rfl) h
theorem trips_f (l : List S47) (hl : l.length ≤ 1000000) : Ev (fun k=>gangsawlaw54_trips.f k l) (l.map t54):=trips_l0 l hl _ 0 [] rfl (by omega) rfl
theorem drop_cons61 (l : List S61) (i : Nat) (h : i < l.length) : l.drop i = rd_T61 l (i : Int) :: l.drop (i + 1):=by
 rw [List.drop_eq_getElem_cons h];unfold rd_T61;simp [h]
def bd9 (t : S24) (x : S47) : Bool := !bearsB t x.f1
theorem Ver_l9 (t : S24) (T : List S47) (hT : T.length ≤ 1000000) (hm : ∀ x ∈ T, x.f1.length ≤ 1000000) : ∀ (d i : Nat), T.length - i = d → i ≤ T.length →
  Ev (fun k=>gangsawref54_Verify.l9 k T (i : Int) t.f0 t.f1 t.f2 t.f3 t.f4.f0 t.f4.f1 t.f5.f0 t.f5.f1) (if (T.drop i).any (bd9 t) = true then 16 else 0):=by
 intro d
 induction d with
 | zero =>
  intro i hd hi;rw [List.drop_of_length_le (by omega)];exact Ev.step (f:=fun _=>some 0) (fun k=>by rw [gangsawref54_Verify.l9,if_neg (by omega : ¬((i : Int) < (T.length : Int)))]) (Ev.now _)
 | succ d ih =>
  intro i hd hi
  have hlt : i < T.length:=by omega
  have hmem : rd_T47 T (i : Int) ∈ T:=by unfold rd_T47;simp [hlt]
  rw [drop_cons47 T i hlt,List.any_cons]
  refine Ev.step (f:=fun k=>(gangsawref54_bear.f k t.f0 t.f1 t.f2 t.f3 t.f4.f0 t.f4.f1 t.f5.f0 t.f5.f1 (rd_T47 T (i : Int)).f1).bind fun b=>if b = true then gangsawref54_Verify.l9 k T ((i + 1 : Nat) : Int) t.f0 t.f1 t.f2 t.f3 t.f4.f0 t.f4.f1 t.f5.f0 t.f5.f1 else some 16) (fun k=>by rw [gangsawref54_Verify.l9,if_pos (by omega : (i : Int) < (T.length : Int)),if_pos (by omega : (0 : Int) ≤ (i : Int)),wsucc (by omega)]) (Ev.bind (bear_f t _ (hm _ hmem)) ?_)
  unfold bd9 at ih ⊢
  cases hb : bearsB t (rd_T47 T (i : Int)).f1 with
  | true=>exact Ev.congr (fun k=>by rw [if_pos rfl]) (ih (i + 1) (by omega) (by omega))
  | false =>
   rw [Bool.not_false,Bool.true_or,if_pos rfl];exact Ev.congr (fun k=>by rw [if_neg (by decide : ¬(false = true))]) (Ev.now _)
def bd6 (x : S47) : Bool := !clearB x.f1
theorem Ver_l8 (t : S24) (T : List S47) (i : Nat) (hi : i ≤ 1000000) (L : List S61) (hL : L.length ≤ 1000000) (n : Nat) (hn : n < L.length) (R : Int)
  (next : Ev (fun k=>gangsawref54_Verify.l7 k T (i : Int) L ((n + 1 : Nat) : Int) t.f0 t.f1 t.f2 t.f3 t.f4.f0 t.f4.f1 t.f5.f0 t.f5.f1) R) : ∀ (d j : Nat),L.length - j = d → j ≤ L.length →
  Ev (fun k=>gangsawref54_Verify.l8 k T (i : Int) L (n : Int) (j : Int) t.f0 t.f1 t.f2 t.f3 t.f4.f0 t.f4.f1 t.f5.f0 t.f5.f1) (if (L.drop j).any (overB (L.getD n z61).f1) = true then 11 else R):=by
 have hr : rd_T61 L (n : Int) = L.getD n z61:=by unfold rd_T61;simp
 intro d
 induction d with
 | zero =>
  intro j hd hj;rw [List.drop_of_length_le (by omega)]
  exact Ev.step (f:=fun k=>gangsawref54_Verify.l7 k T (i : Int) L ((n + 1 : Nat) : Int) t.f0 t.f1 t.f2 t.f3 t.f4.f0 t.f4.f1 t.f5.f0 t.f5.f1) (fun k=>by rw [gangsawref54_Verify.l8,if_neg (by omega : ¬((j : Int) < (L.length : Int))),wsucc (by omega)]) next
 | succ d ih =>
  intro j hd hj
  have hlt : j < L.length:=by omega
  rw [drop_cons61 L j hlt,List.any_cons]
  unfold overB
  by_cases h : (L.getD n z61).f1 < wrap64 ((rd_T61 L (j : Int)).f1 + (rd_T61 L (j : Int)).f2)
  (rw [decide_eq_true h,Bool.true_or,if_pos rfl];exact Ev.step (f:=fun _=>some 11) (fun k=>by rw [gangsawref54_Verify.l8,if_pos (by omega : (j : Int) < (L.length : Int)),if_pos (by omega : (0 : Int) ≤ (n : Int)),if_pos (by omega : (n : Int) < (L.length : Int)),if_pos (by omega : (0 : Int) ≤ (j : Int)),hr,if_pos h]) (Ev.now _));(rw [decide_eq_false h,Bool.false_or];exact Ev.step (f:=fun k=>gangsawref54_Verify.l8 k T (i : Int) L (n : Int) ((j + 1 : Nat) : Int) t.f0 t.f1 t.f2 t.f3 t.f4.f0 t.f4.f1 t.f5.f0 t.f5.f1) (fun k=>by rw [gangsawref54_Verify.l8,if_pos (by omega : (j : Int) < (L.length : Int)),if_pos (by omega : (0 : Int) ≤ (n : Int)),if_pos (by omega : (n : Int) < (L.length : Int)),if_pos (by omega : (0 : Int) ≤ (j : Int)),hr,if_neg h,wsucc (by omega)]) (ih (j + 1) (by omega) (by omega)))
theorem Ver_l7 (t : S24) (T : List S47) (i : Nat) (hi : i ≤ 1000000) (L : List S61) (hL : L.length ≤ 1000000) (R : Int)
  (next : Ev (fun k=>gangsawref54_Verify.l6 k T ((i + 1 : Nat) : Int) t.f0 t.f1 t.f2 t.f3 t.f4.f0 t.f4.f1 t.f5.f0 t.f5.f1) R) : ∀ (d n : Nat),L.length - n = d → n ≤ L.length →
  Ev (fun k=>gangsawref54_Verify.l7 k T (i : Int) L (n : Int) t.f0 t.f1 t.f2 t.f3 t.f4.f0 t.f4.f1 t.f5.f0 t.f5.f1) (if ((List.range L.length).drop n).any (clrAt L) = true then 11 else R):=by
 intro d
 induction d with
 | zero =>
  intro n hd hn;rw [List.drop_of_length_le (by rw [List.length_range];omega)]
  exact Ev.step (f:=fun k=>gangsawref54_Verify.l6 k T ((i + 1 : Nat) : Int) t.f0 t.f1 t.f2 t.f3 t.f4.f0 t.f4.f1 t.f5.f0 t.f5.f1) (fun k=>by rw [gangsawref54_Verify.l7,if_neg (by omega : ¬((n : Int) < (L.length : Int))),wsucc (by omega)]) next
 | succ d ih =>
  intro n hd hn
  have hlt : n < L.length:=by omega
  have hnr : n < (List.range L.length).length:=by rw [List.length_range];exact hlt
  rw [List.drop_eq_getElem_cons hnr,List.any_cons,List.getElem_range]
  refine Ev.step (f:=fun k=>gangsawref54_Verify.l8 k T (i : Int) L (n : Int) ((n + 1 : Nat) : Int) t.f0 t.f1 t.f2 t.f3 t.f4.f0 t.f4.f1 t.f5.f0 t.f5.f1) (fun k=>by rw [gangsawref54_Verify.l7,if_pos (by omega : (n : Int) < (L.length : Int)),wsucc (by omega)]) ?_
  have h:=Ver_l8 t T i hi L hL n hlt _ (ih (n + 1) (by omega) (by omega)) _ (n + 1) rfl (by omega);rw [show (L.drop (n + 1)).any (overB (L.getD n z61).f1) = clrAt L n from rfl] at h
  cases hq : clrAt L n with
  | true=>rw [hq] at h;rw [Bool.true_or];exact h
  | false=>rw [hq] at h;rw [Bool.false_or];exact h
theorem Ver_l6 (t : S24) (T : List S47) (hT : T.length ≤ 1000000) (hm : ∀ x ∈ T, x.f1.length ≤ 1000000) (R : Int)
  (next : Ev (fun k=>gangsawref54_Verify.l9 k T 0 t.f0 t.f1 t.f2 t.f3 t.f4.f0 t.f4.f1 t.f5.f0 t.f5.f1) R) : ∀ (d i : Nat),T.length - i = d → i ≤ T.length →
  Ev (fun k=>gangsawref54_Verify.l6 k T (i : Int) t.f0 t.f1 t.f2 t.f3 t.f4.f0 t.f4.f1 t.f5.f0 t.f5.f1) (if (T.drop i).any bd6 = true then 11 else R):=by
 intro d
 induction d with
 | zero =>
  intro i hd hi;rw [List.drop_of_length_le (by omega)]
  exact Ev.step (f:=fun k=>gangsawref54_Verify.l9 k T 0 t.f0 t.f1 t.f2 t.f3 t.f4.f0 t.f4.f1 t.f5.f0 t.f5.f1) (fun k=>by rw [gangsawref54_Verify.l6,if_neg (by omega : ¬((i : Int) < (T.length : Int)))]) next
 | succ d ih =>
  intro i hd hi
  have hlt : i < T.length:=by omega
  have hmem : rd_T47 T (i : Int) ∈ T:=by unfold rd_T47;simp [hlt]
  rw [drop_cons47 T i hlt,List.any_cons]
  refine Ev.step (f:=fun k=>gangsawref54_Verify.l7 k T (i : Int) (rd_T47 T (i : Int)).f1 ((0 : Nat) : Int) t.f0 t.f1 t.f2 t.f3 t.f4.f0 t.f4.f1 t.f5.f0 t.f5.f1) (fun k=>by rw [gangsawref54_Verify.l6,if_pos (by omega : (i : Int) < (T.length : Int)),if_pos (by omega : (0 : Int) ≤ (i : Int))];rfl) ?_
  have h:=Ver_l7 t T i (by omega) _ (hm _ hmem) _ (ih (i + 1) (by omega) (by omega)) _ 0 rfl (Nat.zero_le _);rw [List.drop_zero] at h
  have e : bd6 (rd_T47 T (i : Int)) = (List.range (rd_T47 T (i : Int)).f1.length).any (clrAt (rd_T47 T (i : Int)).f1):=by unfold bd6 clearB;rw [Bool.not_not]
  rw [e]
  cases hq : (List.range (rd_T47 T (i : Int)).f1.length).any (clrAt (rd_T47 T (i : Int)).f1) with
  | true=>rw [hq] at h;rw [Bool.true_or];exact h
  | false=>rw [hq] at h;rw [Bool.false_or];exact h
def bd4 (t : S24) (x : S47) : Bool:=x.f1.any fun y=>!onB t y
theorem Ver_l5 (t : S24) (ht : trkB t = true) (T : List S47) (hT : T.length ≤ 1000000) (i : Nat) (hi : i < T.length) (hL : (rd_T47 T (i : Int)).f1.length ≤ 1000000) (hgd : ∀ y ∈ (rd_T47 T (i : Int)).f1, goodL y = true) (R : Int)
  (next : Ev (fun k=>gangsawref54_Verify.l4 k T ((i + 1 : Nat) : Int) t.f0 t.f1 t.f2 t.f3 t.f4.f0 t.f4.f1 t.f5.f0 t.f5.f1) R) : ∀ (d j : Nat),(rd_T47 T (i : Int)).f1.length - j = d → j ≤ (rd_T47 T (i : Int)).f1.length →
  Ev (fun k=>gangsawref54_Verify.l5 k T (i : Int) (j : Int) t.f0 t.f1 t.f2 t.f3 t.f4.f0 t.f4.f1 t.f5.f0 t.f5.f1) (if (((rd_T47 T (i : Int)).f1.drop j).any fun y=>!onB t y) = true then 12 else R):=by
 intro d
 induction d with
 | zero =>
  intro j hd hj;rw [List.drop_of_length_le (by omega)]
  exact Ev.step (f:=fun k=>gangsawref54_Verify.l4 k T ((i + 1 : Nat) : Int) t.f0 t.f1 t.f2 t.f3 t.f4.f0 t.f4.f1 t.f5.f0 t.f5.f1) (fun k=>by rw [gangsawref54_Verify.l5,if_pos (by omega : (0 : Int) ≤ (i : Int)),if_pos (by omega : (i : Int) < (T.length : Int)),if_neg (by omega : ¬((j : Int) < ((rd_T47 T (i : Int)).f1.length : Int))),wsucc (by omega)]) next
 | succ d ih =>
  intro j hd hj
  have hlt : j < (rd_T47 T (i : Int)).f1.length:=by omega
  have hmem : rd_T61 (rd_T47 T (i : Int)).f1 (j : Int) ∈ (rd_T47 T (i : Int)).f1:=by unfold rd_T61;simp [hlt]
  have ho:=onBed_f t (rd_T61 (rd_T47 T (i : Int)).f1 (j : Int)) ht (hgd _ hmem);rw [drop_cons61 _ j hlt,List.any_cons]
  cases hb : onB t (rd_T61 (rd_T47 T (i : Int)).f1 (j : Int)) with
  | false =>
   rw [hb] at ho;exact Ev.step (f:=fun _=>some 12) (fun k=>by rw [gangsawref54_Verify.l5,if_pos (by omega : (0 : Int) ≤ (i : Int)),if_pos (by omega : (i : Int) < (T.length : Int)),if_pos (by omega : (j : Int) < ((rd_T47 T (i : Int)).f1.length : Int)),if_pos (by omega : (0 : Int) ≤ (j : Int)),ho];rfl) (Ev.now _)
  | true =>
   rw [hb] at ho;exact Ev.step (f:=fun k=>gangsawref54_Verify.l5 k T (i : Int) ((j + 1 : Nat) : Int) t.f0 t.f1 t.f2 t.f3 t.f4.f0 t.f4.f1 t.f5.f0 t.f5.f1) (fun k=>by rw [gangsawref54_Verify.l5,if_pos (by omega : (0 : Int) ≤ (i : Int)),if_pos (by omega : (i : Int) < (T.length : Int)),if_pos (by omega : (j : Int) < ((rd_T47 T (i : Int)).f1.length : Int)),if_pos (by omega : (0 : Int) ≤ (j : Int)),ho,wsucc (by omega)];rfl) (ih (j + 1) (by omega) (by omega))
theorem Ver_l4 (t : S24) (ht : trkB t = true) (T : List S47) (hT : T.length ≤ 1000000) (hm : ∀ x ∈ T, x.f1.length ≤ 1000000 ∧ ∀ y ∈ x.f1, goodL y = true) (R : Int)
  (next : Ev (fun k=>gangsawref54_Verify.l6 k T 0 t.f0 t.f1 t.f2 t.f3 t.f4.f0 t.f4.f1 t.f5.f0 t.f5.f1) R) : ∀ (d i : Nat),T.length - i = d → i ≤ T.length →
  Ev (fun k=>gangsawref54_Verify.l4 k T (i : Int) t.f0 t.f1 t.f2 t.f3 t.f4.f0 t.f4.f1 t.f5.f0 t.f5.f1) (if (T.drop i).any (bd4 t) = true then 12 else R):=by
 intro d
 induction d with
 | zero =>
  intro i hd hi;rw [List.drop_of_length_le (by omega)]
  exact Ev.step (f:=fun k=>gangsawref54_Verify.l6 k T 0 t.f0 t.f1 t.f2 t.f3 t.f4.f0 t.f4.f1 t.f5.f0 t.f5.f1) (fun k=>by rw [gangsawref54_Verify.l4,if_neg (by omega : ¬((i : Int) < (T.length : Int)))]) next
 | succ d ih =>
  intro i hd hi
  have hlt : i < T.length:=by omega
  have hmem : rd_T47 T (i : Int) ∈ T:=by unfold rd_T47;simp [hlt]
  rw [drop_cons47 T i hlt,List.any_cons]
  refine Ev.step (f:=fun k=>gangsawref54_Verify.l5 k T (i : Int) ((0 : Nat) : Int) t.f0 t.f1 t.f2 t.f3 t.f4.f0 t.f4.f1 t.f5.f0 t.f5.f1) (fun k=>by rw [gangsawref54_Verify.l4,if_pos (by omega : (i : Int) < (T.length : Int))];rfl) ?_
  have h:=Ver_l5 t ht T hT i hlt (hm _ hmem).1 (hm _ hmem).2 _ (ih (i + 1) (by omega) (by omega)) _ 0 rfl (Nat.zero_le _);rw [List.drop_zero,show ((rd_T47 T (i : Int)).f1.any fun y=>!onB t y) = bd4 t (rd_T47 T (i : Int)) from rfl] at h
  cases hq : bd4 t (rd_T47 T (i : Int)) with
  | true=>rw [hq] at h;rw [Bool.true_or];exact h
  | false=>rw [hq] at h;rw [Bool.false_or];exact h
theorem sameC_o (x : S65) (y : S61) : sameC (o64 x) y = (decide (x.f0.toList = y.f0.toList) && (decide (x.f1 = y.f2) && decide (x.f2 = y.f3))):=by
 unfold sameC o64
 rw [Bool.eq_iff_iff]
 simp
theorem Ver_l3 (t : S24) (l : List S65) (hl : l.length ≤ 1000000) (T : List S47) (hT : T.length ≤ 1000000) (i : Nat) (hi : i < T.length) (hL : (rd_T47 T (i : Int)).f1.length ≤ 1000000) (rest : List S61) (R : Int)
  (next : ∀ n,n ≤ l.length → (fo ((l.drop n).map o64) rest = fo (l.map o64) ((T.flatMap fun x=>x.f1))) → Ev (fun k=>gangsawref54_Verify.l2 k l T (n : Int) ((i + 1 : Nat) : Int) t.f0 t.f1 t.f2 t.f3 t.f4.f0 t.f4.f1 t.f5.f0 t.f5.f1) (if fo ((l.drop n).map o64) rest = true then R else 10)) : ∀ (d j n : Nat),(rd_T47 T (i : Int)).f1.length - j = d → j ≤ (rd_T47 T (i : Int)).f1.length → n ≤ l.length →
  (fo ((l.drop n).map o64) ((rd_T47 T (i : Int)).f1.drop j ++ rest) = fo (l.map o64) ((T.flatMap fun x=>x.f1))) →
  Ev (fun k=>gangsawref54_Verify.l3 k l T (n : Int) (i : Int) (j : Int) t.f0 t.f1 t.f2 t.f3 t.f4.f0 t.f4.f1 t.f5.f0 t.f5.f1) (if fo ((l.drop n).map o64) ((rd_T47 T (i : Int)).f1.drop j ++ rest) = true then R else 10):=by
 intro d
 induction d with
 | zero =>
  intro j n hd hj hn he;rw [List.drop_of_length_le (by omega : (rd_T47 T (i : Int)).f1.length ≤ j),List.nil_append] at he ⊢;exact Ev.step (f:=fun k=>gangsawref54_Verify.l2 k l T (n : Int) ((i + 1 : Nat) : Int) t.f0 t.f1 t.f2 t.f3 t.f4.f0 t.f4.f1 t.f5.f0 t.f5.f1) (fun k=>by rw [gangsawref54_Verify.l3,if_pos (by omega : (0 : Int) ≤ (i : Int)),if_pos (by omega : (i : Int) < (T.length : Int)),if_neg (by omega : ¬((j : Int) < ((rd_T47 T (i : Int)).f1.length : Int))),wsucc (by omega)]) (next n hn he)
 | succ d ih =>
  intro j n hd hj hn he
  have hlt : j < (rd_T47 T (i : Int)).f1.length:=by omega
  rw [drop_cons61 _ j hlt,List.cons_append] at he ⊢;by_cases hnl : n < l.length
  ·rw [drop_cons65 l n hnl,List.map_cons,fo,sameC_o] at he ⊢
   have st : ∀ (R' : Int) (F : Nat → Option Int),(∀ k,gangsawref54_Verify.l3 (k + 1) l T (n : Int) (i : Int) (j : Int) t.f0 t.f1 t.f2 t.f3 t.f4.f0 t.f4.f1 t.f5.f0 t.f5.f1 = F k) → Ev F R' → Ev (fun k=>gangsawref54_Verify.l3 k l T (n : Int) (i : Int) (j : Int) t.f0 t.f1 t.f2 t.f3 t.f4.f0 t.f4.f1 t.f5.f0 t.f5.f1) R':=fun R' F h1 h2=>Ev.step h1 h2
   have e0 : ∀ k,gangsawref54_Verify.l3 (k + 1) l T (n : Int) (i : Int) (j : Int) t.f0 t.f1 t.f2 t.f3 t.f4.f0 t.f4.f1 t.f5.f0 t.f5.f1 = (if ((rd_T65 l (n : Int)).f0).toList = ((rd_T61 ((rd_T47 T (i : Int)).f1) (j : Int)).f0).toList then (if ((rd_T65 l (n : Int)).f1) = ((rd_T61 ((rd_T47 T (i : Int)).f1) (j : Int)).f2) then (if ((rd_T65 l (n : Int)).f2) = ((rd_T61 ((rd_T47 T (i : Int)).f1) (j : Int)).f3) then gangsawref54_Verify.l3 k l T ((n + 1 : Nat) : Int) (i : Int) ((j + 1 : Nat) : Int) t.f0 t.f1 t.f2 t.f3 t.f4.f0 t.f4.f1 t.f5.f0 t.f5.f1 else some 10) else some 10) else some 10):=fun k=>by
    rw [gangsawref54_Verify.l3,if_pos (by omega : (0 : Int) ≤ (i : Int)),if_pos (by omega : (i : Int) < (T.length : Int)),if_pos (by omega : (j : Int) < ((rd_T47 T (i : Int)).f1.length : Int)),if_pos (by omega : (0 : Int) ≤ (j : Int)),if_neg (by omega : ¬((n : Int) ≥ (l.length : Int))),if_pos (by omega : (0 : Int) ≤ (n : Int)),if_pos (by omega : (n : Int) < (l.length : Int)),wsucc (by omega),wsucc (by omega)]
   by_cases h0 : ((rd_T65 l (n : Int)).f0).toList = ((rd_T61 ((rd_T47 T (i : Int)).f1) (j : Int)).f0).toList
   ·by_cases h1 : ((rd_T65 l (n : Int)).f1) = ((rd_T61 ((rd_T47 T (i : Int)).f1) (j : Int)).f2)
    ·by_cases h2 : ((rd_T65 l (n : Int)).f2) = ((rd_T61 ((rd_T47 T (i : Int)).f1) (j : Int)).f3)
     (rw [decide_eq_true h0,decide_eq_true h1,decide_eq_true h2,Bool.true_and,Bool.true_and,Bool.true_and] at he ⊢;exact st _ _ (fun k=>by rw [e0,if_pos h0,if_pos h1,if_pos h2]) (ih (j + 1) (n + 1) (by omega) (by omega) (by omega) he));(rw [decide_eq_false h2,Bool.and_false,Bool.and_false,Bool.false_and,if_neg (by decide : ¬(false = true))];exact st _ _ (fun k=>by rw [e0,if_pos h0,if_pos h1,if_neg h2]) (Ev.now _))
    (rw [decide_eq_false h1,Bool.false_and,Bool.and_false,Bool.false_and,if_neg (by decide : ¬(false = true))];exact st _ _ (fun k=>by rw [e0,if_pos h0,if_neg h1]) (Ev.now _))
   (rw [decide_eq_false h0,Bool.false_and,Bool.false_and,if_neg (by decide : ¬(false = true))];exact st _ _ (fun k=>by rw [e0,if_neg h0]) (Ev.now _))
  (rw [List.drop_of_length_le (by omega : l.length ≤ n),List.map_nil,fo,if_neg (by decide : ¬(false = true))];exact Ev.step (f:=fun _=>some 10) (fun k=>by rw [gangsawref54_Verify.l3,if_pos (by omega : (0 : Int) ≤ (i : Int)),if_pos (by omega : (i : Int) < (T.length : Int)),if_pos (by omega : (j : Int) < ((rd_T47 T (i : Int)).f1.length : Int)),if_pos (by omega : (0 : Int) ≤ (j : Int)),if_pos (by omega : (n : Int) ≥ (l.length : Int))]) (Ev.now _))
theorem Ver_l2 (t : S24) (l : List S65) (hl : l.length ≤ 1000000) (T : List S47) (hT : T.length ≤ 1000000) (hm : ∀ x ∈ T, x.f1.length ≤ 1000000) (R : Int)
  (next : fo (l.map o64) ((T.flatMap fun x=>x.f1)) = true → Ev (fun k=>gangsawref54_Verify.l4 k T 0 t.f0 t.f1 t.f2 t.f3 t.f4.f0 t.f4.f1 t.f5.f0 t.f5.f1) R) : ∀ (d i n : Nat),T.length - i = d → i ≤ T.length → n ≤ l.length →
  (fo ((l.drop n).map o64) ((T.drop i).flatMap fun x=>x.f1) = fo (l.map o64) ((T.flatMap fun x=>x.f1))) →
  Ev (fun k=>gangsawref54_Verify.l2 k l T (n : Int) (i : Int) t.f0 t.f1 t.f2 t.f3 t.f4.f0 t.f4.f1 t.f5.f0 t.f5.f1) (if fo ((l.drop n).map o64) ((T.drop i).flatMap fun x=>x.f1) = true then R else 10):=by
 intro d
 induction d with
 | zero =>
  intro i n hd hi hn he;rw [List.drop_of_length_le (by omega : T.length ≤ i),List.flatMap_nil] at he ⊢;by_cases hnl : n = l.length
  ·have e : fo ((l.drop n).map o64) [] = true:=by rw [List.drop_of_length_le (by omega)];rfl
   rw [e,if_pos rfl];exact Ev.step (f:=fun k=>gangsawref54_Verify.l4 k T 0 t.f0 t.f1 t.f2 t.f3 t.f4.f0 t.f4.f1 t.f5.f0 t.f5.f1) (fun k=>by rw [gangsawref54_Verify.l2,if_neg (by omega : ¬((i : Int) < (T.length : Int))),if_pos (by omega : (n : Int) = (l.length : Int))]) (next (he.symm.trans e))
  ·have e : fo ((l.drop n).map o64) [] = false:=by rw [drop_cons65 l n (by omega)];rfl
   rw [e,if_neg (by decide : ¬(false = true))];exact Ev.step (f:=fun _=>some 10) (fun k=>by rw [gangsawref54_Verify.l2,if_neg (by omega : ¬((i : Int) < (T.length : Int))),if_neg (by omega : ¬((n : Int) = (l.length : Int)))]) (Ev.now _)
 | succ d ih =>
  intro i n hd hi hn he
  have hlt : i < T.length:=by omega
  have hmem : rd_T47 T (i : Int) ∈ T:=by unfold rd_T47;simp [hlt]
  rw [drop_cons47 T i hlt,List.flatMap_cons] at he ⊢
  refine Ev.step (f:=fun k=>gangsawref54_Verify.l3 k l T (n : Int) (i : Int) ((0 : Nat) : Int) t.f0 t.f1 t.f2 t.f3 t.f4.f0 t.f4.f1 t.f5.f0 t.f5.f1) (fun k=>by rw [gangsawref54_Verify.l2,if_pos (by omega : (i : Int) < (T.length : Int))];rfl) ?_
  exact Ver_l3 t l hl T hT i hlt (hm _ hmem) _ R (fun n' h1 h2=>ih (i + 1) n' (by omega) (by omega) h1 h2) _ 0 n rfl (Nat.zero_le _) hn he
theorem Ver_l1 (t : S24) (l : List S65) (T : List S47) (hT : T.length ≤ 1000000) (R : Int)
  (next : Ev (fun k=>gangsawref54_Verify.l2 k l T 0 0 t.f0 t.f1 t.f2 t.f3 t.f4.f0 t.f4.f1 t.f5.f0 t.f5.f1) R) : ∀ (d i : Nat),T.length - i = d → i ≤ T.length →
  Ev (fun k=>gangsawref54_Verify.l1 k l T (i : Int) t.f0 t.f1 t.f2 t.f3 t.f4.f0 t.f4.f1 t.f5.f0 t.f5.f1) (if ((T.drop i).any fun x=>x.f1.isEmpty) = true then 1 else R):=by
 intro d
 induction d with
 | zero =>
  intro i hd hi;rw [List.drop_of_length_le (by omega)]
  exact Ev.step (f:=fun k=>gangsawref54_Verify.l2 k l T 0 0 t.f0 t.f1 t.f2 t.f3 t.f4.f0 t.f4.f1 t.f5.f0 t.f5.f1) (fun k=>by rw [gangsawref54_Verify.l1,if_neg (by omega : ¬((i : Int) < (T.length : Int)))]) next
 | succ d ih =>
  intro i hd hi
  have hlt : i < T.length:=by omega
  rw [drop_cons47 T i hlt,List.any_cons];by_cases h : (rd_T47 T (i : Int)).f1.length = 0
  ·have e : (rd_T47 T (i : Int)).f1.isEmpty = true:=by rw [List.isEmpty_iff];exact List.length_eq_zero_iff.1 h
   rw [e,Bool.true_or,if_pos rfl];exact Ev.step (f:=fun _=>some 1) (fun k=>by rw [gangsawref54_Verify.l1,if_pos (by omega : (i : Int) < (T.length : Int)),if_pos (by omega : (0 : Int) ≤ (i : Int)),if_pos (by omega : ((rd_T47 T (i : Int)).f1.length : Int) = 0)]) (Ev.now _)
  ·have e : (rd_T47 T (i : Int)).f1.isEmpty = false := by
    cases hq : (rd_T47 T (i : Int)).f1 with
    | nil=>rw [hq] at h;exact absurd rfl h
    | cons=>rfl
   rw [e,Bool.false_or];exact Ev.step (f:=fun k=>gangsawref54_Verify.l1 k l T ((i + 1 : Nat) : Int) t.f0 t.f1 t.f2 t.f3 t.f4.f0 t.f4.f1 t.f5.f0 t.f5.f1) (fun k=>by rw [gangsawref54_Verify.l1,if_pos (by omega : (i : Int) < (T.length : Int)),if_pos (by omega : (0 : Int) ≤ (i : Int)),if_neg (by omega : ¬(((rd_T47 T (i : Int)).f1.length : Int) = 0)),wsucc (by omega)]) (ih (i + 1) (by omega) (by omega))
def bd0 (t : S24) (x : S47) : Bool := !(x.f0.toList == t.f0.toList)
theorem Ver_l0 (t : S24) (l : List S65) (T : List S47) (hT : T.length ≤ 1000000) (R : Int)
  (next : Ev (fun k=>gangsawref54_Verify.l1 k l T 0 t.f0 t.f1 t.f2 t.f3 t.f4.f0 t.f4.f1 t.f5.f0 t.f5.f1) R) : ∀ (d i : Nat),T.length - i = d → i ≤ T.length →
  Ev (fun k=>gangsawref54_Verify.l0 k l T (i : Int) t.f0 t.f1 t.f2 t.f3 t.f4.f0 t.f4.f1 t.f5.f0 t.f5.f1) (if (T.drop i).any (bd0 t) = true then 3 else R):=by
 intro d
 induction d with
 | zero =>
  intro i hd hi;rw [List.drop_of_length_le (by omega)]
  exact Ev.step (f:=fun k=>gangsawref54_Verify.l1 k l T 0 t.f0 t.f1 t.f2 t.f3 t.f4.f0 t.f4.f1 t.f5.f0 t.f5.f1) (fun k=>by rw [gangsawref54_Verify.l0,if_neg (by omega : ¬((i : Int) < (T.length : Int)))]) next
 | succ d ih =>
  intro i hd hi
  have hlt : i < T.length:=by omega
  rw [drop_cons47 T i hlt,List.any_cons]
  unfold bd0 at ih ⊢
  by_cases h : (rd_T47 T (i : Int)).f0.toList = t.f0.toList
  (rw [h,BEq.rfl,Bool.not_true,Bool.false_or];exact Ev.step (f:=fun k=>gangsawref54_Verify.l0 k l T ((i + 1 : Nat) : Int) t.f0 t.f1 t.f2 t.f3 t.f4.f0 t.f4.f1 t.f5.f0 t.f5.f1) (fun k=>by rw [gangsawref54_Verify.l0,if_pos (by omega : (i : Int) < (T.length : Int)),if_pos (by omega : (0 : Int) ≤ (i : Int)),if_pos h,wsucc (by omega)]) (ih (i + 1) (by omega) (by omega)));(rw [beq_eq_false_iff_ne.2 h,Bool.not_false,Bool.true_or,if_pos rfl];exact Ev.step (f:=fun _=>some 3) (fun k=>by rw [gangsawref54_Verify.l0,if_pos (by omega : (i : Int) < (T.length : Int)),if_pos (by omega : (0 : Int) ≤ (i : Int)),if_neg h]) (Ev.now _))
theorem fo_good : ∀ (l : List S65) (ys : List S61),fo (l.map o64) ys = true → (∀ x ∈ l,goodC x = true) → ∀ y ∈ ys,goodL y = true
 | [],[],_,_,y,hy=>by cases hy
 | [],_ :: _,h,_,_,_=>by cases h
 | _ :: _,[],h,_,_,hy=>by cases hy
 | x :: l,y :: ys,h,hg,z,hz=>by
  rw [List.map_cons,fo,Bool.and_eq_true,sameC_o,Bool.and_eq_true,Bool.and_eq_true,decide_eq_true_iff,decide_eq_true_iff,decide_eq_true_iff] at h;obtain ⟨⟨h0,h1,h2⟩,h3⟩ := h
  rcases List.mem_cons.1 hz with rfl|hz
  ·have:=hg x List.mem_cons_self
   unfold goodC at this
   unfold goodL
   rw [← h1,← h2];exact this
  (exact fo_good l ys h3 (fun x hx=>hg x (List.mem_cons_of_mem _ hx)) z hz)
theorem any_t54 (p : S54 → Bool) (T : List S47) : (T.map t54).any p = T.any fun x=>p (t54 x):=by rw [List.any_map];rfl
theorem rVerify_f (t : S24) (l : List S65) (T : List S47) (hl : l.length ≤ 1000000) (hT : T.length ≤ 1000000) (hm : ∀ x ∈ T, x.f1.length ≤ 1000000) (ht : t.f0.size ≤ 9223372036854775807) (hs : ∀ y ∈ l, y.f0.size ≤ 9223372036854775807) :
  Ev (fun k=>gangsawref54_Verify.f k t.f0 t.f1 t.f2 t.f3 t.f4.f0 t.f4.f1 t.f5.f0 t.f5.f1 l T) (verR t (l.map o64) (T.map t54)):=by
 unfold gangsawref54_Verify.f verR
 refine Ev.bind (Check_ref t l hl ht hs) ?_
 by_cases h : chkR t (l.map o64) = 0
 ·rw [if_pos h];have hg:=(good_iff t (l.map o64)).1 h
  refine Ev.congr (fun k=>by rw [if_pos h]) ?_
  rw [any_t54,any_t54,any_t54,any_t54,any_t54]
  have ef : followB (l.map o64) (T.map t54) = fo (l.map o64) (T.flatMap fun x=>x.f1):=by
   unfold followB;rw [List.flatMap_map];rfl
  rw [ef]
  have hgc : ∀ x ∈ l,goodC x = true:=by
   intro x hx
   have:=(hg.all (o64 x) (List.mem_map_of_mem hx)).2
   unfold goodC inB
   unfold o64 at this
   simp
   omega
  refine Ver_l0 t l T hT _ ?_ _ 0 rfl (Nat.zero_le _)
  refine Ver_l1 t l T hT _ ?_ _ 0 rfl (Nat.zero_le _)
  refine Ver_l2 t l hl T hT hm _ (fun hfo=>?_) _ 0 0 rfl (Nat.zero_le _) (Nat.zero_le _) rfl
  have hall:=fo_good l _ hfo hgc
  refine Ver_l4 t hg.trk T hT (fun x hx=>⟨hm x hx,fun y hy=>hall y (List.mem_flatMap.2 ⟨x,hx,hy⟩)⟩) _ ?_ _ 0 rfl (Nat.zero_le _)
  refine Ver_l6 t T hT hm _ ?_ _ 0 rfl (Nat.zero_le _)
  exact Ver_l9 t T hT hm _ 0 rfl (Nat.zero_le _)
 (rw [if_neg h];exact Ev.congr (fun k=>by rw [if_neg h]) (Ev.now _))
theorem Law_l0 (t : S24) (l : List S65) (T : List S47) (hl : l.length ≤ 100) (hT : T.length ≤ 15) (ht : t.f0.size ≤ 9223372036854775807) (hs : ∀ y ∈ l, y.f0.size ≤ 9223372036854775807) : ∀ (d i : Nat), T.length - i = d → i ≤ T.length → (∀ x ∈ T.take i, x.f1.length ≤ 15) →
  Ev (fun k=>gangsawlaw54_LoadingVerifies.l0 k l T (i : Int) t.f0 t.f1 t.f2 t.f3 t.f4.f0 t.f4.f1 t.f5.f0 t.f5.f1) true:=by
 intro d
 induction d with
 | zero =>
  intro i hd hi hm;rw [List.take_of_length_le (by omega)] at hm
  refine Ev.step (f:=fun k=>(gangsawlaw54_ours.f k l).bind fun a=>(gangsawlaw54_trips.f k T).bind fun b=>(loading_Verify.f t.f0 t.f1 t.f2 t.f3 t.f4.f0 t.f4.f1 t.f5.f0 t.f5.f1 a b).bind fun c=>(gangsawref54_Verify.f k t.f0 t.f1 t.f2 t.f3 t.f4.f0 t.f4.f1 t.f5.f0 t.f5.f1 l T).bind fun d=>some (c == d)) (fun k=>by rw [gangsawlaw54_LoadingVerifies.l0,if_neg (by omega : ¬((i : Int) < (T.length : Int)))]) ?_
  refine Ev.bind (ours_f l (by omega)) ?_
  refine Ev.bind (trips_f T (by omega)) ?_
  have hsh : shortT (T.map t54) = true:=by
   unfold shortT
   rw [List.all_eq_true];intro x hx;obtain ⟨c,hc,rfl⟩ := List.mem_map.1 hx
   have:=hm c hc
   rw [decide_eq_true_iff]
   unfold t54
   show c.f1.length ≤ 1000000000
   omega
  have hver : loading_Verify.f t.f0 t.f1 t.f2 t.f3 t.f4.f0 t.f4.f1 t.f5.f0 t.f5.f1 (l.map o64) (T.map t54) = some (verR t (l.map o64) (T.map t54)):=by
   unfold loading_Verify.f
   exact if_pos ⟨ht,List.all_eq_true.2 fun y h=>decide_eq_true (sizes64 hs y h),by rw [List.length_map];omega,by rw [List.length_map];omega,hsh⟩
  refine Ev.congr (fun k=>by rw [hver,Option.bind_some]) ?_
  refine Ev.bind (rVerify_f t l T (by omega) (by omega) (fun x hx=>by have:=hm x hx;omega) ht hs) ?_
  exact Ev.congr (fun k=>by rw [beq_self_eq_true]) (Ev.now _)
 | succ d ih =>
  intro i hd hi hm
  have hlt : i < T.length:=by omega
  by_cases h : ((rd_T47 T (i : Int)).f1.length : Int) > 15
  (exact Ev.step (f:=fun _=>some true) (fun k=>by rw [gangsawlaw54_LoadingVerifies.l0,if_pos (by omega : (i : Int) < (T.length : Int)),if_pos (by omega : (0 : Int) ≤ (i : Int)),if_pos h]) (Ev.now _))
  ·refine Ev.step (f:=fun k=>gangsawlaw54_LoadingVerifies.l0 k l T ((i + 1 : Nat) : Int) t.f0 t.f1 t.f2 t.f3 t.f4.f0 t.f4.f1 t.f5.f0 t.f5.f1) (fun k=>by rw [gangsawlaw54_LoadingVerifies.l0,if_pos (by omega : (i : Int) < (T.length : Int)),if_pos (by omega : (0 : Int) ≤ (i : Int)),if_neg h,wsucc (by omega)]) (ih (i + 1) (by omega) (by omega) (fun x hx=>?_))
   obtain ⟨q,hq,rfl⟩ := List.mem_take_iff_getElem.1 hx;by_cases e : q < i
   (exact hm _ (List.mem_take_iff_getElem.2 ⟨q,by omega,rfl⟩))
   ·have : q = i:=by omega
    subst this
    have e2 : rd_T47 T (q : Int) = T[q] := by unfold rd_T47;simp [hlt]
    rw [e2] at h
    omega
theorem LoadingVerifies (s : ByteArray) (a1 a2 a3 a4 a5 a6 a7 : Int) (l : List S65) (T : List S47) (ht : TruckOk s a1 a2 a3 a4 a5 a6 a7) (hlen : l.length ≤ maxLen) (hp : ∀ p ∈ l, CargoOk p) (hlenT : T.length ≤ maxLen) (hq : ∀ p ∈ T, TripOk p) :
  ∃ k,gangsawlaw54_LoadingVerifies.f k s a1 a2 a3 a4 a5 a6 a7 l T = some true:=by
 have hs : s.size ≤ 9223372036854775807:=ht.1
 have hy : ∀ y ∈ l,y.f0.size ≤ 9223372036854775807:=fun y hy=>(hp y hy).1
 refine Ev.rounds (?_ : Ev (fun k=>gangsawlaw54_LoadingVerifies.f k s a1 a2 a3 a4 a5 a6 a7 l T) true)
 unfold gangsawlaw54_LoadingVerifies.f
 refine Ev.bind awake_f ?_
 rw [few_f]
 refine Ev.congr (fun k=>by rw [if_pos rfl,Option.bind_some]) ?_
 cases hfw : (decide (l.length ≤ 12) || (decide (64 < l.length) && decide (l.length ≤ 100))) with
 | false =>
  refine Ev.congr (fun k=>by rw [if_neg (by decide : ¬(false = true))]) ?_
  exact Ev.step (f:=fun _=>some true) (fun k=>by rw [gangsawlaw54_LoadingVerifies.j0,if_pos rfl]) (Ev.now _)
 | true =>
  have hl:=few_len hfw
  refine Ev.congr (fun k=>by rw [if_pos rfl]) ?_
  by_cases h15 : (T.length : Int) > 15
  (rw [decide_eq_true h15];exact Ev.step (f:=fun _=>some true) (fun k=>by rw [gangsawlaw54_LoadingVerifies.j0,if_pos rfl]) (Ev.now _))
  ·rw [decide_eq_false h15]
   refine Ev.step (f:=fun k=>gangsawlaw54_LoadingVerifies.l0 k l T ((0 : Nat) : Int) s a1 a2 a3 a4 a5 a6 a7) (fun k=>by rw [gangsawlaw54_LoadingVerifies.j0,if_neg (by decide : ¬(false = true))];rfl) ?_
   exact Law_l0 (mk24 s a1 a2 a3 a4 a5 a6 a7) l T hl (by omega) hs hy _ 0 rfl (Nat.zero_le _) (fun x hx=>by cases hx)
end Go.Proofs.Ytohcgenhhgipcaa.Pure
