import Derived.Test.YtohcgenhhgipcaaOp
import Derived.Test.YtohcgenhhgipcaaPAx190
import Derived.Test.YtohcgenhhgipcaaPug
import Derived.Test.YtohcgenhhgipcaaPui
import Derived.Test.YtohcgenhhgipcaaPuw
namespace Go.Proofs.Ytohcgenhhgipcaa.Pure
open Go.RowKit Go.Proofs.Ytohcgenhhgipcaa Go.Proofs.Ytohcgenhhgipcaa.PA Go.Proofs.YtohcgenhhgipcaaW.PrintWords Go.Proofs.YtohcgenhhgipcaaW.PrintLast Go.Proofs.YtohcgenhhgipcaaW.PrintMore
set_option linter.unusedVariables false
set_option linter.unusedSimpArgs false

/-! The reference's plan;the law of Plan -/
def trip47 (t : S24) (c : List S64) : S47:=⟨t.f0,packR c⟩
def planW (t : S24) (acc : List S47) : Option (List (List S64)) → List S47 × Int
 | some ps=>(acc ++ ps.map (trip47 t),0)
 | none=>([],9)
theorem rplan_l1 (t : S24) (l : List S65) (hg : Good t (l.map o64)) (ht : t.f0.size ≤ 9223372036854775807) (hs : ∀ y ∈ l, y.f0.size ≤ 9223372036854775807) (acc : List S47) (ha : acc.length ≤ 1000000) (R : List S47 × Int) : ∀ n : Nat, n ≤ l.length →
  (down t (l.map o64) n ≠ 0 → Ev (fun k=>gangsawref54_Plan.l0 k (l.drop (down t (l.map o64) n)) (acc ++ [trip47 t ((l.map o64).take (down t (l.map o64) n))]) t.f0 t.f1 t.f2 t.f3 t.f4.f0 t.f4.f1 t.f5.f0 t.f5.f1) R) → (down t (l.map o64) n = 0 → R = ([],9)) →
  Ev (fun k=>gangsawref54_Plan.l1 k l acc (n : Int) t.f0 t.f1 t.f2 t.f3 t.f4.f0 t.f4.f1 t.f5.f0 t.f5.f1) R:=by
 have hl:=hg.len;rw [List.length_map] at hl;intro n
 induction n with
 | zero =>
  intro _ _ h0;rw [h0 rfl];exact Ev.step (f:=fun _=>some ([],9)) (fun k=>by rw [gangsawref54_Plan.l1,if_neg (by omega : ¬(((0 : Nat) : Int) > 0)),if_pos (by omega : ((0 : Nat) : Int) = 0)]) (Ev.now _)
 | succ n ih =>
  intro hn h1 h0;have hgt:=hg.sub ((List.take_sublist (n + 1) l).map o64);have h1f:=rFits_f t (l.take (n + 1)) (by rw [List.length_take];omega) ht (fun y hy=>hs y (List.mem_of_mem_take hy));have h2f:=Packed_f t (l.take (n + 1)) hgt.few;rw [fitR_good hgt,List.map_take] at h1f;rw [List.map_take] at h2f
  refine Ev.step (f:=fun k=>(gangsawref54_Fits.f k t.f0 t.f1 t.f2 t.f3 t.f4.f0 t.f4.f1 t.f5.f0 t.f5.f1 (l.take (n + 1))).bind fun x=>if x = 0 then (gangsawref54_Packed.f k t.f0 t.f1 t.f2 t.f3 t.f4.f0 t.f4.f1 t.f5.f0 t.f5.f1 (l.take (n + 1))).bind fun y=>gangsawref54_Plan.l0 k (l.drop (n + 1)) (acc ++ [⟨y.1,y.2⟩]) t.f0 t.f1 t.f2 t.f3 t.f4.f0 t.f4.f1 t.f5.f0 t.f5.f1 else gangsawref54_Plan.l1 k l acc (n : Int) t.f0 t.f1 t.f2 t.f3 t.f4.f0 t.f4.f1 t.f5.f0 t.f5.f1) (fun k=>?_) (Ev.bind h1f ?_)
  (rw [gangsawref54_Plan.l1,if_pos (by omega : ((n + 1 : Nat) : Int) > 0),if_pos (by omega : (0 : Int) ≤ ((n + 1 : Nat) : Int)),if_pos (by omega : ((n + 1 : Nat) : Int) ≤ (l.length : Int)),Int.toNat_natCast,if_neg (by omega : ¬(((n + 1 : Nat) : Int) = 0)),wrap_small (by omega : -1000000000000 ≤ ((n + 1 : Nat) : Int) - 1 ∧ ((n + 1 : Nat) : Int) - 1 ≤ 1000000000000),show ((n + 1 : Nat) : Int) - 1 = (n : Int) from by omega];simp only [if_pos (by omega : acc.length < 3518437208883)])
  ·unfold down at h1 h0
   by_cases h : fitsR t ((l.map o64).take (n + 1)) = 0
   (rw [if_pos h] at h1;exact Ev.congr (fun k=>by rw [if_pos h]) (Ev.bind h2f (h1 (by omega))));(rw [if_neg h] at h1 h0;exact Ev.congr (fun k=>by rw [if_neg h]) (ih (by omega) h1 h0))
theorem rplan_l0 (t : S24) (ht : t.f0.size ≤ 9223372036854775807) : ∀ (n : Nat) (l : List S65) (acc : List S47), Good t (l.map o64) → (∀ y ∈ l, y.f0.size ≤ 9223372036854775807) → l.length ≤ n → acc.length + n ≤ 1000000 →
  Ev (fun k=>gangsawref54_Plan.l0 k l acc t.f0 t.f1 t.f2 t.f3 t.f4.f0 t.f4.f1 t.f5.f0 t.f5.f1) (planW t acc (planR t n (l.map o64))):=by
 intro n
 induction n with
 | zero =>
  intro l acc hg hs hn ha
  unfold planR
  rw [show planW t acc (some []) = (acc,0) from by unfold planW;simp];exact Ev.step (f:=fun _=>some (acc,0)) (fun k=>by rw [gangsawref54_Plan.l0,if_neg (by omega : ¬((l.length : Int) > 0))]) (Ev.now _)
 | succ n ih =>
  intro l acc hg hs hn ha
  unfold planR
  rw [List.length_map];by_cases h : l.length = 0
  (rw [if_pos h];rw [show planW t acc (some []) = (acc,0) from by unfold planW;simp];exact Ev.step (f:=fun _=>some (acc,0)) (fun k=>by rw [gangsawref54_Plan.l0,if_neg (by omega : ¬((l.length : Int) > 0))]) (Ev.now _))
  ·rw [if_neg h]
   refine Ev.step (f:=fun k=>gangsawref54_Plan.l1 k l acc (l.length : Int) t.f0 t.f1 t.f2 t.f3 t.f4.f0 t.f4.f1 t.f5.f0 t.f5.f1) (fun k=>by rw [gangsawref54_Plan.l0,if_pos (by omega : (l.length : Int) > 0)]) ?_
   refine rplan_l1 t l hg ht hs acc (by omega) _ l.length (Nat.le_refl _) (fun h1=>?_) (fun h0=>by rw [if_pos h0];rfl)
   rw [if_neg h1];have hdl:=down_le t (l.map o64) l.length;have hq:=ih (l.drop (down t (l.map o64) l.length)) (acc ++ [trip47 t ((l.map o64).take (down t (l.map o64) l.length))]) (hg.sub ((List.drop_sublist _ _).map o64)) (fun y hy=>hs y (List.mem_of_mem_drop hy)) (by rw [List.length_drop];omega) (by simp;omega);rw [List.map_drop] at hq
   refine cast ?_ hq
   congr 1
   cases planR t n ((l.map o64).drop (down t (l.map o64) l.length)) with
   | none=>rfl
   | some ps=>unfold planW;simp
def planQ (t : S24) (l : List S64) : List S47 × Int:=if chkR t l = 0 then planW t [] (planR t l.length l) else ([],chkR t l)
theorem rPlan_f (t : S24) (l : List S65) (hl : l.length ≤ 1000000) (ht : t.f0.size ≤ 9223372036854775807) (hs : ∀ y ∈ l,y.f0.size ≤ 9223372036854775807) : Ev (fun k=>gangsawref54_Plan.f k t.f0 t.f1 t.f2 t.f3 t.f4.f0 t.f4.f1 t.f5.f0 t.f5.f1 l) (planQ t (l.map o64)):=by
 unfold gangsawref54_Plan.f planQ
 refine Ev.bind (Check_ref t l hl ht hs) ?_
 by_cases h : chkR t (l.map o64) = 0
 (rw [if_pos h,List.length_map];exact Ev.congr (fun k=>by rw [if_pos h]) (rplan_l0 t ht l.length l [] ((good_iff t _).1 h) hs (Nat.le_refl _) (by simp;omega)));(rw [if_neg h];exact Ev.congr (fun k=>by rw [if_neg h]) (Ev.now _))
def th47 (x : S54) : S47:=⟨x.f0,x.f1⟩
theorem theirs_l0 (l : List S54) (hl : l.length ≤ 1000000) : ∀ (d j : Nat) (acc : List S47), l.length - j = d → j ≤ l.length → acc.length = j →
  Ev (fun k=>gangsawlaw54_theirs.l0 k l acc (j : Int)) (acc ++ (l.drop j).map th47):=by
 intro d
 induction d with
 | zero =>
  intro j acc hd hj ha;rw [List.drop_of_length_le (by omega),List.map_nil,List.append_nil];exact Ev.step (f:=fun _=>some acc) (fun k=>by rw [gangsawlaw54_theirs.l0,if_neg (by omega : ¬((j : Int) < (l.length : Int)))]) (Ev.now _)
 | succ d ih =>
  intro j acc hd hj ha
  have hlt : j < l.length:=by omega
  have h:=ih (j + 1) (acc ++ [th47 (rd_T54 l (j : Int))]) (by omega) (by omega) (by rw [List.length_append,List.length_singleton,ha]);rw [drop_cons54 l j hlt,List.map_cons,← List.singleton_append,← List.append_assoc];exact Ev.step (f:=fun k=>gangsawlaw54_theirs.l0 k l (acc ++ [th47 (rd_T54 l (j : Int))]) ((j + 1 : Nat) : Int)) (fun k=>by rw [gangsawlaw54_theirs.l0,if_pos (by omega : (j : Int) < (l.length : Int)),if_pos (by omega : (0 : Int) ≤ j),if_pos (by omega : acc.length < 3518437208883),wsucc (by omega)];rfl) h
theorem theirs_f (l : List S54) (hl : l.length ≤ 1000000) : Ev (fun k=>gangsawlaw54_theirs.f k l) (l.map th47):=theirs_l0 l hl _ 0 [] rfl (by omega) rfl
theorem Same_l1 (l : List S47) (hl : l.length ≤ 1000000) (i : Nat) (hi : i < l.length) (hm : (rd_T47 l (i : Int)).f1.length ≤ 1000000) (next : Ev (fun k => gangsawref54_SameTrips.l0 k l l ((i + 1 : Nat) : Int)) true) : ∀ (d j : Nat), (rd_T47 l (i : Int)).f1.length - j = d → j ≤ (rd_T47 l (i : Int)).f1.length →
  Ev (fun k=>gangsawref54_SameTrips.l1 k l l (i : Int) (j : Int)) true:=by
 intro d
 induction d with
 | zero =>
  intro j hd hj
  exact Ev.step (f:=fun k=>gangsawref54_SameTrips.l0 k l l ((i + 1 : Nat) : Int)) (fun k=>by rw [gangsawref54_SameTrips.l1,if_pos (by omega : (0 : Int) ≤ (i : Int)),if_pos (by omega : (i : Int) < (l.length : Int)),if_neg (by omega : ¬((j : Int) < ((rd_T47 l (i : Int)).f1.length : Int))),wsucc (by omega)]) next
 | succ d ih =>
  intro j hd hj;exact Ev.step (f:=fun k=>gangsawref54_SameTrips.l1 k l l (i : Int) ((j + 1 : Nat) : Int)) (fun k=>by rw [gangsawref54_SameTrips.l1,if_pos (by omega : (0 : Int) ≤ (i : Int)),if_pos (by omega : (i : Int) < (l.length : Int)),if_pos (by omega : (j : Int) < ((rd_T47 l (i : Int)).f1.length : Int)),if_pos (by omega : (0 : Int) ≤ (j : Int)),if_pos (by omega : (i : Int) < (l.length : Int)),if_pos (by omega : (j : Int) < ((rd_T47 l (i : Int)).f1.length : Int)),if_neg (by simp),wsucc (by omega)]) (ih (j + 1) (by omega) (by omega))
theorem Same_l0 (l : List S47) (hl : l.length ≤ 1000000) (hm : ∀ x ∈ l, x.f1.length ≤ 1000000) : ∀ (d i : Nat), l.length - i = d → i ≤ l.length →
  Ev (fun k=>gangsawref54_SameTrips.l0 k l l (i : Int)) true:=by
 intro d
 induction d with
 | zero =>
  intro i hd hi;exact Ev.step (f:=fun _=>some true) (fun k=>by rw [gangsawref54_SameTrips.l0,if_neg (by omega : ¬((i : Int) < (l.length : Int)))]) (Ev.now _)
 | succ d ih =>
  intro i hd hi
  have hlt : i < l.length:=by omega
  have hmem : rd_T47 l (i : Int) ∈ l:=by unfold rd_T47;simp [hlt]
  refine Ev.step (f:=fun k=>gangsawref54_SameTrips.j1 k l l (i : Int) false) (fun k=>by rw [gangsawref54_SameTrips.l0,if_pos (by omega : (i : Int) < (l.length : Int)),if_pos (by omega : (0 : Int) ≤ (i : Int)),if_pos (by omega : (i : Int) < (l.length : Int)),if_pos rfl,bne_self_eq_false]) ?_
  refine Ev.step (f:=fun k=>gangsawref54_SameTrips.l1 k l l (i : Int) ((0 : Nat) : Int)) (fun k=>by rw [gangsawref54_SameTrips.j1,if_neg (by decide : ¬(false = true))];rfl) ?_
  exact Same_l1 l hl i hlt (hm _ hmem) (ih (i + 1) (by omega) (by omega)) _ 0 rfl (by omega)
theorem Same_f (l : List S47) (hl : l.length ≤ 1000000) (hm : ∀ x ∈ l,x.f1.length ≤ 1000000) : Ev (fun k=>gangsawref54_SameTrips.f k l l) true:=by
 unfold gangsawref54_SameTrips.f
 exact Ev.congr (fun k=>by rw [if_pos rfl];rfl) (Same_l0 l hl hm _ 0 rfl (by omega))
theorem planR_len (t : S24) : ∀ (n : Nat) (l : List S64) (ps : List (List S64)),planR t n l = some ps → ps.length ≤ n ∧ ∀ c ∈ ps,c.length ≤ l.length:=by
 intro n
 induction n with
 | zero=>intro l ps h;rw [planR] at h;obtain rfl:=Option.some.inj h;simp
 | succ n ih =>
  intro l ps h;rw [planR] at h;by_cases h0 : l.length = 0
  ·rw [if_pos h0] at h;obtain rfl:=Option.some.inj h;simp
  ·rw [if_neg h0] at h;by_cases h1 : down t l l.length = 0
   ·rw [if_pos h1] at h;cases h
   ·rw [if_neg h1] at h
    cases hq : planR t n (l.drop (down t l l.length)) with
    | none=>rw [hq] at h;cases h
    | some qs =>
     rw [hq] at h;obtain rfl:=Option.some.inj h;obtain ⟨h2,h3⟩ := ih _ qs hq
     refine ⟨by simp;omega,fun c hc=>?_⟩
     rcases List.mem_cons.1 hc with rfl|hc
     ·rw [List.length_take];omega
     ·have:=h3 c hc;rw [List.length_drop] at this;omega
theorem LoadingPlans (s : ByteArray) (a1 a2 a3 a4 a5 a6 a7 : Int) (l : List S65) (ht : TruckOk s a1 a2 a3 a4 a5 a6 a7) (hlen : l.length ≤ maxLen) (hp : ∀ p ∈ l, CargoOk p) :
  ∃ k,gangsawlaw54_LoadingPlans.f k s a1 a2 a3 a4 a5 a6 a7 l = some true:=by
 have hs : s.size ≤ 9223372036854775807:=ht.1
 have hy : ∀ y ∈ l,y.f0.size ≤ 9223372036854775807:=fun y hy=>(hp y hy).1
 have hy64:=sizes64 hy
 refine Ev.rounds (?_ : Ev (fun k=>gangsawlaw54_LoadingPlans.f k s a1 a2 a3 a4 a5 a6 a7 l) true)
 unfold gangsawlaw54_LoadingPlans.f
 refine Ev.bind awake_f ?_
 rw [few_f]
 refine Ev.congr (fun k=>by rw [if_pos rfl,Option.bind_some]) ?_
 cases hfw : (decide (l.length ≤ 12) || (decide (64 < l.length) && decide (l.length ≤ 100))) with
 | false=>exact Ev.congr (fun k=>by rw [if_neg (by decide : ¬(false = true))]) (Ev.now _)
 | true =>
  have hl:=few_len hfw;have ho:=ours_f l (by omega)
  refine Ev.congr (fun k=>by rw [if_pos rfl]) ?_
  refine Ev.bind ho ?_
  refine Ev.bind (Plan_f (mk24 s a1 a2 a3 a4 a5 a6 a7) _ hs hy64) ?_
  refine Ev.bind (rPlan_f (mk24 s a1 a2 a3 a4 a5 a6 a7) l (by omega) hs hy) ?_
  have key : ∃ p q e,planP (mk24 s a1 a2 a3 a4 a5 a6 a7) (l.map o64) = (p,e) ∧ planQ (mk24 s a1 a2 a3 a4 a5 a6 a7) (l.map o64) = (q,e) ∧ q = p.map th47 ∧ q.length ≤ 1000000 ∧ ∀ x ∈ q,x.f1.length ≤ 1000000:=by
   unfold planP planQ
   by_cases h : chkR (mk24 s a1 a2 a3 a4 a5 a6 a7) (l.map o64) = 0
   ·rw [if_pos h,if_pos h]
    cases hq : planR (mk24 s a1 a2 a3 a4 a5 a6 a7) (l.map o64).length (l.map o64) with
    | none=>exact ⟨[],[],9,rfl,rfl,rfl,by simp,fun x hx=>by cases hx⟩
    | some ps =>
     obtain ⟨h1,h2⟩ := planR_len _ _ _ _ hq;rw [List.length_map] at h1 h2
     refine ⟨_,_,0,rfl,rfl, ?_, ?_, ?_⟩
     (rw [List.nil_append,List.nil_append,List.map_map];rfl)
     ·rw [List.nil_append,List.length_map];omega
     ·intro x hx;rw [List.nil_append] at hx;obtain ⟨c,hc,rfl⟩ := List.mem_map.1 hx
      have:=h2 c hc
      unfold trip47
      rw [packR_length];omega
   (rw [if_neg h,if_neg h];exact ⟨[],[],_,rfl,rfl,rfl,by simp,fun x hx=>by cases hx⟩)
  obtain ⟨p,q,e,e1,e2,rfl,h3,h4⟩ := key;rw [e1,e2]
  refine Ev.congr (fun k=>by rw [if_pos rfl]) ?_
  refine Ev.bind (theirs_f p (by rw [List.length_map] at h3;exact h3)) ?_
  exact Ev.bind (Same_f _ h3 h4) (Ev.now _)
end Go.Proofs.Ytohcgenhhgipcaa.Pure
