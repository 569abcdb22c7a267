import Derived.Test.YtohcgenhhgipcaaPAx20
import Derived.Test.YtohcgenhhgipcaaPua
import Derived.Test.YtohcgenhhgipcaaPub
namespace Go.Proofs.Ytohcgenhhgipcaa.Pure
open Go.RowKit Go.Proofs.Ytohcgenhhgipcaa Go.Proofs.Ytohcgenhhgipcaa.PA Go.Proofs.YtohcgenhhgipcaaW.PrintWords Go.Proofs.YtohcgenhhgipcaaW.PrintLast Go.Proofs.YtohcgenhhgipcaaW.PrintMore
set_option linter.unusedVariables false
set_option linter.unusedSimpArgs false

/-- what is left when names and numbers are right -/
def momE (t : S24) (l m : List S61) (n : Int) : Int × Int × Int :=
 if (m.any fun y=>!onB t y) = true then (0,0,12) else if n < 0 then (0,0,6) else if (l.length : Int) < n then (0,0,6) else ((momF t (l.drop n.toNat)).1,(momF t (l.drop n.toNat)).2,0)
theorem Moments_l2 (t : S24) (s : ByteArray) (l : List S61) (n : Int) (hl : l.length ≤ 1000000) (ht : trkB t = true) (hg : ∀ y ∈ l, goodL y = true) : ∀ (d j : Nat), l.length - j = d → j ≤ l.length →
  Ev (fun k=>gangsawref54_Moments.l2 k n (j : Int) t.f0 t.f1 t.f2 t.f3 t.f4.f0 t.f4.f1 t.f5.f0 t.f5.f1 s l) (momE t l (l.drop j) n):=by
 intro d
 induction d with
 | zero =>
  intro j hd hj;rw [List.drop_of_length_le (by omega)]
  unfold momE
  rw [if_neg (by simp : ¬((([] : List S61).any fun y=>!onB t y) = true))];by_cases h0 : n < 0
  (rw [if_pos h0];exact Ev.step (f:=fun _=>some (0,0,6)) (fun k=>by rw [gangsawref54_Moments.l2,if_neg (by omega : ¬((j : Int) < (l.length : Int))),if_pos h0]) (Ev.now _))
  ·rw [if_neg h0];by_cases h1 : (l.length : Int) < n
   (rw [if_pos h1];exact Ev.step (f:=fun _=>some (0,0,6)) (fun k=>by rw [gangsawref54_Moments.l2,if_neg (by omega : ¬((j : Int) < (l.length : Int))),if_neg h0,if_pos (by omega : n > (l.length : Int))]) (Ev.now _))
   ·rw [if_neg h1]
    refine Ev.step (f:=fun k=>(gangsawref54_moments.f k t.f0 t.f1 t.f2 t.f3 t.f4.f0 t.f4.f1 t.f5.f0 t.f5.f1 (l.drop n.toNat)).bind fun b=>some (b.1,b.2,0)) (fun k=>?_) ?_
    (rw [gangsawref54_Moments.l2,if_neg (by omega : ¬((j : Int) < (l.length : Int))),if_neg h0,if_neg (by omega : ¬(n > (l.length : Int))),if_pos (by omega : 0 ≤ n),if_pos (by omega : n ≤ (l.length : Int))]);(exact Ev.bind (moments_f t _ (by simp;omega)) (Ev.now _))
 | succ d ih =>
  intro j hd hj
  have hlt : j < l.length:=by omega
  have hr : rd_T61 l (j : Int) = l[j] := by unfold rd_T61;simp [hlt]
  have ho:=onBed_f t l[j] ht (hg _ (List.getElem_mem hlt));rw [List.drop_eq_getElem_cons hlt]
  cases hb : onB t l[j] with
  | false =>
   rw [hb] at ho
   unfold momE
   rw [if_pos (by rw [List.any_cons,hb];rfl)];exact Ev.step (f:=fun _=>some (0,0,12)) (fun k=>by rw [gangsawref54_Moments.l2,if_pos (by omega : (j : Int) < (l.length : Int)),if_pos (by omega : (0 : Int) ≤ j),hr,ho];rfl) (Ev.now _)
  | true =>
   rw [hb] at ho
   have e : momE t l (l[j] :: l.drop (j + 1)) n = momE t l (l.drop (j + 1)) n:=by unfold momE;rw [List.any_cons,hb];rfl
   rw [e];exact Ev.step (f:=fun k=>gangsawref54_Moments.l2 k n ((j + 1 : Nat) : Int) t.f0 t.f1 t.f2 t.f3 t.f4.f0 t.f4.f1 t.f5.f0 t.f5.f1 s l) (fun k=>by rw [gangsawref54_Moments.l2,if_pos (by omega : (j : Int) < (l.length : Int)),if_pos (by omega : (0 : Int) ≤ j),hr,ho,wsucc (by omega)];rfl) (ih (j + 1) (by omega) (by omega))
theorem Moments_l1 (t : S24) (s : ByteArray) (l : List S61) (n : Int) (hl : l.length ≤ 1000000) (R : Int × Int × Int) : ∀ (d j : Nat) (b : Bool), l.length - j = d → j ≤ l.length →
  ((b && (l.drop j).all goodL) = true → Ev (fun k=>gangsawref54_Moments.l2 k n 0 t.f0 t.f1 t.f2 t.f3 t.f4.f0 t.f4.f1 t.f5.f0 t.f5.f1 s l) R) →
  Ev (fun k=>gangsawref54_Moments.l1 k n b (j : Int) t.f0 t.f1 t.f2 t.f3 t.f4.f0 t.f4.f1 t.f5.f0 t.f5.f1 s l) (if (b && (l.drop j).all goodL) = true then R else (0,0,6)):=by
 intro d
 induction d with
 | zero =>
  intro j b hd hj h2;rw [List.drop_of_length_le (by omega)] at h2 ⊢
  cases b with
  | false=>exact Ev.step (f:=fun _=>some (0,0,6)) (fun k=>by rw [gangsawref54_Moments.l1,if_neg (by omega : ¬((j : Int) < (l.length : Int))),if_neg (by simp : ¬(false = true))]) (Ev.now _)
  | true=>exact Ev.step (f:=fun k=>gangsawref54_Moments.l2 k n 0 t.f0 t.f1 t.f2 t.f3 t.f4.f0 t.f4.f1 t.f5.f0 t.f5.f1 s l) (fun k=>by rw [gangsawref54_Moments.l1,if_neg (by omega : ¬((j : Int) < (l.length : Int))),if_pos rfl]) (h2 rfl)
 | succ d ih =>
  intro j b hd hj h2
  have hlt : j < l.length:=by omega
  have hr : rd_T61 l (j : Int) = l[j] := by unfold rd_T61;simp [hlt]
  rw [List.drop_eq_getElem_cons hlt] at h2 ⊢
  have e : (b && (l[j] :: l.drop (j + 1)).all goodL) = ((b && goodL l[j]) && (l.drop (j + 1)).all goodL):=by rw [List.all_cons,Bool.and_assoc]
  rw [e] at h2 ⊢
  refine Ev.step (f:=fun k=>gangsawref54_Moments.l1 k n (b && goodL l[j]) ((j + 1 : Nat) : Int) t.f0 t.f1 t.f2 t.f3 t.f4.f0 t.f4.f1 t.f5.f0 t.f5.f1 s l) (fun k=>?_) (ih (j + 1) _ (by omega) (by omega) h2)
  cases b with
  | false =>
   rw [gangsawref54_Moments.l1,if_pos (by omega : (j : Int) < (l.length : Int)),if_neg (by simp : ¬(false = true)),wsucc (by omega)];rfl
  | true =>
   rw [gangsawref54_Moments.l1,if_pos (by omega : (j : Int) < (l.length : Int)),if_pos rfl,if_pos (by omega : (0 : Int) ≤ j),hr,in_f,in_f,wsucc (by omega)]
   unfold goodL
   simp only [Option.bind_some]
   cases inB l[j].f2 1 30000 <;> simp
theorem Moments_l0 (t : S24) (s : ByteArray) (l : List S61) (n : Int) (hl : l.length ≤ 1000000) (hs : ∀ y ∈ l, y.f0.size ≤ 9223372036854775807) (R : Int × Int × Int) : ∀ (d j : Nat) (b : Bool), l.length - j = d → j ≤ l.length →
  ((b && (l.drop j).all fun y=>lexName y.f0) = true → Ev (fun k=>gangsawref54_Moments.l1 k n (trkB t) 0 t.f0 t.f1 t.f2 t.f3 t.f4.f0 t.f4.f1 t.f5.f0 t.f5.f1 s l) R) →
  Ev (fun k=>gangsawref54_Moments.l0 k n b (j : Int) t.f0 t.f1 t.f2 t.f3 t.f4.f0 t.f4.f1 t.f5.f0 t.f5.f1 s l) (if (b && (l.drop j).all fun y=>lexName y.f0) = true then R else (0,0,4)):=by
 intro d
 induction d with
 | zero =>
  intro j b hd hj h2;rw [List.drop_of_length_le (by omega)] at h2 ⊢
  cases b with
  | false=>exact Ev.step (f:=fun _=>some (0,0,4)) (fun k=>by rw [gangsawref54_Moments.l0,if_neg (by omega : ¬((j : Int) < (l.length : Int))),if_neg (by simp : ¬(false = true))]) (Ev.now _)
  | true =>
   refine Ev.step (f:=fun k=>gangsawref54_Moments.l1 k n (trkB t) 0 t.f0 t.f1 t.f2 t.f3 t.f4.f0 t.f4.f1 t.f5.f0 t.f5.f1 s l) (fun k=>?_) (h2 rfl)
   rw [gangsawref54_Moments.l0,if_neg (by omega : ¬((j : Int) < (l.length : Int))),if_pos rfl]
   unfold gangsawref54_truck.f
   rw [Option.bind_some,show rtR (mk24 t.f0 t.f1 t.f2 t.f3 t.f4.f0 t.f4.f1 t.f5.f0 t.f5.f1) 2 = trkB t from truck_eq t]
 | succ d ih =>
  intro j b hd hj h2
  have hlt : j < l.length:=by omega
  have hr : rd_T61 l (j : Int) = l[j] := by unfold rd_T61;simp [hlt]
  rw [List.drop_eq_getElem_cons hlt] at h2 ⊢
  have e : (b && (l[j] :: l.drop (j + 1)).all fun y=>lexName y.f0) = ((b && lexName l[j].f0) && (l.drop (j + 1)).all fun y=>lexName y.f0):=by rw [List.all_cons,Bool.and_assoc]
  rw [e] at h2 ⊢
  cases b with
  | false =>
   refine Ev.step (f:=fun k=>gangsawref54_Moments.l0 k n false ((j + 1 : Nat) : Int) t.f0 t.f1 t.f2 t.f3 t.f4.f0 t.f4.f1 t.f5.f0 t.f5.f1 s l) (fun k=>?_) (ih (j + 1) false (by omega) (by omega) h2)
   rw [gangsawref54_Moments.l0,if_pos (by omega : (j : Int) < (l.length : Int)),if_neg (by simp : ¬(false = true)),wsucc (by omega)]
  | true =>
   refine Ev.step (f:=fun k=>(gangsawref09_Name.f k l[j].f0).bind fun b=>gangsawref54_Moments.l0 k n b ((j + 1 : Nat) : Int) t.f0 t.f1 t.f2 t.f3 t.f4.f0 t.f4.f1 t.f5.f0 t.f5.f1 s l) (fun k=>?_) ?_
   (rw [gangsawref54_Moments.l0,if_pos (by omega : (j : Int) < (l.length : Int)),if_pos rfl,if_pos (by omega : (0 : Int) ≤ j),hr,wsucc (by omega)]);(exact Ev.bind ⟨l[j].f0.size + 1,fun k hk=>name_f _ (hs _ (List.getElem_mem hlt)) k (by omega)⟩ (ih (j + 1) _ (by omega) (by omega) h2))
theorem plainR_eq (t : S24) (l : List S61) : plainR t (l.map crg) = if 64 < l.length then 7 else if (lexName t.f0 && l.all fun y=>lexName y.f0) = true then (if (trkB t && l.all goodL) = true then 0 else 6) else 4:=by
 have e1 : (l.map crg).any nmC = !(l.all fun y=>lexName y.f0):=by
  rw [List.any_map,List.any_eq_not_all_not];congr 1;apply List.all_congr rfl;intro y;simp [nmC,crg]
 have e2 : (l.map crg).any badC = !(l.all goodL):=by
  rw [List.any_map,List.any_eq_not_all_not];congr 1;apply List.all_congr rfl;intro y;simp [good_eq]
 unfold plainR
 rw [e1,e2,List.length_map]
 cases lexName t.f0 <;> cases (l.all fun y=>lexName y.f0) <;> cases trkB t <;> cases l.all goodL <;> rfl
theorem Moments_ref (t : S24) (s : ByteArray) (l : List S61) (n : Int) (hl : l.length ≤ 1000000) (ht : t.f0.size ≤ 9223372036854775807) (hs : ∀ y ∈ l, y.f0.size ≤ 9223372036854775807) :
  Ev (fun k=>gangsawref54_Moments.f k t.f0 t.f1 t.f2 t.f3 t.f4.f0 t.f4.f1 t.f5.f0 t.f5.f1 s l n) (momR t ⟨s,l⟩ n):=by
 unfold gangsawref54_Moments.f momR
 rw [plainR_eq]
 dsimp only
 by_cases h64 : 64 < l.length
 (rw [if_pos h64,if_neg (by decide : ¬((7 : Int) = 0))];exact Ev.congr (fun k=>by rw [if_pos (by omega : (l.length : Int) > 64)]) (Ev.now _))
 ·rw [if_neg h64]
  have key : Ev (fun k=>(gangsawref09_Name.f k t.f0).bind fun b=>gangsawref54_Moments.l0 k n b 0 t.f0 t.f1 t.f2 t.f3 t.f4.f0 t.f4.f1 t.f5.f0 t.f5.f1 s l) (if (lexName t.f0 && l.all fun y=>lexName y.f0) = true then (if (trkB t && l.all goodL) = true then momE t l l n else (0,0,6)) else (0,0,4)):=by
   refine Ev.bind ⟨t.f0.size + 1,fun k hk=>name_f _ ht k (by omega)⟩ ?_
   refine Moments_l0 t s l n hl hs _ _ 0 (lexName t.f0) rfl (by omega) (fun _=>?_)
   refine Moments_l1 t s l n hl _ _ 0 (trkB t) rfl (by omega) (fun hh=>?_)
   rw [List.drop_zero,Bool.and_eq_true] at hh;exact Moments_l2 t s l n hl hh.1 (List.all_eq_true.1 hh.2) _ 0 rfl (by omega)
  refine Ev.congr (fun k=>by rw [if_neg (by omega : ¬((l.length : Int) > 64))]) ?_
  refine cast ?_ key
  congr 1
  cases (lexName t.f0 && l.all fun y=>lexName y.f0) <;> cases (trkB t && l.all goodL) <;> rfl
end Go.Proofs.Ytohcgenhhgipcaa.Pure
