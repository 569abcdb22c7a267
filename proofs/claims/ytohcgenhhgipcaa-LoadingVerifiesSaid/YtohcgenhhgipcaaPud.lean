import Derived.Test.YtohcgenhhgipcaaPAx11
import Derived.Test.YtohcgenhhgipcaaPua
import Derived.Test.YtohcgenhhgipcaaPub
namespace Go.Proofs.Ytohcgenhhgipcaa.Pure
open Go.RowKit Go.Proofs.Ytohcgenhhgipcaa Go.Proofs.Ytohcgenhhgipcaa.PA Go.Proofs.YtohcgenhhgipcaaW.PrintWords Go.Proofs.YtohcgenhhgipcaaW.PrintLast Go.Proofs.YtohcgenhhgipcaaW.PrintMore
set_option linter.unusedVariables false
set_option linter.unusedSimpArgs false

/-! Valid stones;the reference's Check -/
def o64 (x : S65) : S64:=⟨x.f0,x.f1,x.f2⟩
theorem ours_l0 (l : List S65) (hl : l.length ≤ 1000000) : ∀ (d j : Nat) (acc : List S64), l.length - j = d → j ≤ l.length → acc.length = j →
  Ev (fun k=>gangsawlaw54_ours.l0 k l acc (j : Int)) (acc ++ (l.drop j).map o64):=by
 intro d
 induction d with
 | zero =>
  intro j acc hd hj ha;rw [List.drop_of_length_le (by omega),List.map_nil,List.append_nil];exact Ev.step (f:=fun _=>some acc) (fun k=>by rw [gangsawlaw54_ours.l0,if_neg (by omega : ¬((j : Int) < (l.length : Int)))]) (Ev.now _)
 | succ d ih =>
  intro j acc hd hj ha
  have hlt : j < l.length:=by omega
  have hr : rd_T65 l (j : Int) = l[j] := by unfold rd_T65;simp [hlt]
  rw [List.drop_eq_getElem_cons hlt,List.map_cons,← List.singleton_append,← List.append_assoc];exact Ev.step (f:=fun k=>gangsawlaw54_ours.l0 k l (acc ++ [o64 l[j]]) ((j + 1 : Nat) : Int)) (fun k=>by rw [gangsawlaw54_ours.l0,if_pos (by omega : (j : Int) < (l.length : Int)),if_pos (by omega : (0 : Int) ≤ j),if_pos (by omega : acc.length < 4398046511104),hr,wsucc (by omega)];rfl) (ih (j + 1) (acc ++ [o64 l[j]]) (by omega) (by omega) (by rw [List.length_append,List.length_singleton,ha]))
theorem ours_f (l : List S65) (hl : l.length ≤ 1000000) : Ev (fun k=>gangsawlaw54_ours.f k l) (l.map o64):=ours_l0 l hl _ 0 [] rfl (by omega) rfl
def goodC (y : S65) : Bool:=inB y.f1 1 30000 && inB y.f2 1 1000000000
theorem goodC_eq (y : S65) : goodC y = !badC (o64 y):=by
 unfold goodC badC o64 inB
 rw [Bool.eq_iff_iff]
 simp
 omega
def dAt (l : List S65) (i j : Nat) : Bool:=((l.take i).drop j).any fun x=>x.f0.toList == (l.getD i z65).f0.toList
theorem Check_l3 (l : List S65) (hl : l.length ≤ 1000000) (i : Nat) (hi : i < l.length) (R : Int) (h2 : Ev (fun k => gangsawref54_Check.l2 k l ((i + 1 : Nat) : Int)) R) : ∀ (d j : Nat), i - j = d → j ≤ i →
  Ev (fun k=>gangsawref54_Check.l3 k l (i : Int) (j : Int)) (if dAt l i j = true then 5 else R):=by
 intro d
 induction d with
 | zero =>
  intro j hd hj
  have e : dAt l i j = false:=by unfold dAt;rw [List.drop_of_length_le (by rw [List.length_take];omega)];rfl
  rw [e]
  refine Ev.step (f:=fun k=>gangsawref54_Check.l2 k l ((i + 1 : Nat) : Int)) (fun k=>?_) h2
  rw [gangsawref54_Check.l3,if_neg (by omega : ¬((j : Int) < (i : Int))),wsucc (by omega)]
 | succ d ih =>
  intro j hd hj
  have hlt : j < l.length:=by omega
  have hr : rd_T65 l (j : Int) = l[j] := by unfold rd_T65;simp [hlt]
  have hri : rd_T65 l (i : Int) = l.getD i z65:=by unfold rd_T65;simp
  have hjt : j < (l.take i).length:=by rw [List.length_take];omega
  have e : dAt l i j = ((l[j].f0.toList == (l.getD i z65).f0.toList) || dAt l i (j + 1)):=by
   unfold dAt
   rw [List.drop_eq_getElem_cons hjt,List.any_cons,List.getElem_take]
  by_cases he : (l.getD i z65).f0.toList = l[j].f0.toList
  (rw [e,he,BEq.rfl];exact Ev.step (f:=fun _=>some 5) (fun k=>by rw [gangsawref54_Check.l3,if_pos (by omega : (j : Int) < (i : Int)),if_pos (by omega : (0 : Int) ≤ i),if_pos (by omega : (i : Int) < (l.length : Int)),if_pos (by omega : (0 : Int) ≤ j),if_pos (by omega : (j : Int) < (l.length : Int)),hr,hri,if_pos he]) (Ev.now _))
  ·have hne : (l[j].f0.toList == (l.getD i z65).f0.toList) = false:=beq_eq_false_iff_ne.2 fun h=>he h.symm
   rw [e,hne,Bool.false_or];exact Ev.step (f:=fun k=>gangsawref54_Check.l3 k l (i : Int) ((j + 1 : Nat) : Int)) (fun k=>by rw [gangsawref54_Check.l3,if_pos (by omega : (j : Int) < (i : Int)),if_pos (by omega : (0 : Int) ≤ i),if_pos (by omega : (i : Int) < (l.length : Int)),if_pos (by omega : (0 : Int) ≤ j),if_pos (by omega : (j : Int) < (l.length : Int)),hr,hri,if_neg he,wsucc (by omega)]) (ih (j + 1) (by omega) (by omega))
theorem Check_l2 (l : List S65) (hl : l.length ≤ 1000000) : ∀ (d i : Nat), l.length - i = d → i ≤ l.length →
  Ev (fun k=>gangsawref54_Check.l2 k l (i : Int)) (if (((List.range l.length).drop i).any fun m=>dAt l m 0) = true then 5 else 0):=by
 intro d
 induction d with
 | zero =>
  intro i hd hi;rw [List.drop_of_length_le (by rw [List.length_range];omega)];exact Ev.step (f:=fun _=>some 0) (fun k=>by rw [gangsawref54_Check.l2,if_neg (by omega : ¬((i : Int) < (l.length : Int)))]) (Ev.now _)
 | succ d ih =>
  intro i hd hi
  have hlt : i < l.length:=by omega
  have hir : i < (List.range l.length).length:=by rw [List.length_range];omega
  rw [List.drop_eq_getElem_cons hir,List.any_cons,List.getElem_range]
  refine Ev.step (f:=fun k=>gangsawref54_Check.l3 k l (i : Int) ((0 : Nat) : Int)) (fun k=>by rw [gangsawref54_Check.l2,if_pos (by omega : (i : Int) < (l.length : Int))];rfl) ?_
  have h:=Check_l3 l hl i hlt _ (ih (i + 1) (by omega) (by omega)) _ 0 rfl (Nat.zero_le _)
  cases hq : dAt l i 0 with
  | true=>rw [hq] at h;rw [Bool.true_or];exact h
  | false=>rw [hq] at h;rw [Bool.false_or];exact h
theorem dAt_eq (l : List S65) (i : Nat) : dAt l i 0 = dupAtC (l.map o64) i:=by
 unfold dAt dupAtC
 rw [List.drop_zero,← List.map_take,List.any_map]
 have e : ((l.map o64).getD i z64).f0 = (l.getD i z65).f0:=by
  rw [List.getD_eq_getElem?_getD,List.getD_eq_getElem?_getD,List.getElem?_map]
  cases l[i]? <;> rfl
 rw [e];rfl
theorem dup_eq (l : List S65) : ((List.range l.length).any fun m=>dAt l m 0) = dupC (l.map o64):=by
 unfold dupC
 rw [List.length_map]
 congr 1
 funext m
 exact dAt_eq l m
theorem Check_l1 (l : List S65) (hl : l.length ≤ 1000000) (R : Int) : ∀ (d j : Nat) (b : Bool), l.length - j = d → j ≤ l.length →
  ((b && (l.drop j).all goodC) = true → Ev (fun k=>gangsawref54_Check.l2 k l 0) R) →
  Ev (fun k=>gangsawref54_Check.l1 k l b (j : Int)) (if (b && (l.drop j).all goodC) = true then R else 6):=by
 intro d
 induction d with
 | zero =>
  intro j b hd hj h2;rw [List.drop_of_length_le (by omega)] at h2 ⊢
  cases b with
  | false=>exact Ev.step (f:=fun _=>some 6) (fun k=>by rw [gangsawref54_Check.l1,if_neg (by omega : ¬((j : Int) < (l.length : Int))),if_neg (by simp : ¬(false = true))]) (Ev.now _)
  | true=>exact Ev.step (f:=fun k=>gangsawref54_Check.l2 k l 0) (fun k=>by rw [gangsawref54_Check.l1,if_neg (by omega : ¬((j : Int) < (l.length : Int))),if_pos rfl]) (h2 rfl)
 | succ d ih =>
  intro j b hd hj h2
  have hlt : j < l.length:=by omega
  have hr : rd_T65 l (j : Int) = l[j] := by unfold rd_T65;simp [hlt]
  rw [List.drop_eq_getElem_cons hlt] at h2 ⊢
  have e : (b && (l[j] :: l.drop (j + 1)).all goodC) = ((b && goodC l[j]) && (l.drop (j + 1)).all goodC):=by rw [List.all_cons,Bool.and_assoc]
  rw [e] at h2 ⊢
  refine Ev.step (f:=fun k=>gangsawref54_Check.l1 k l (b && goodC l[j]) ((j + 1 : Nat) : Int)) (fun k=>?_) (ih (j + 1) _ (by omega) (by omega) h2)
  cases b with
  | false =>
   rw [gangsawref54_Check.l1,if_pos (by omega : (j : Int) < (l.length : Int)),if_neg (by simp : ¬(false = true)),wsucc (by omega)];rfl
  | true =>
   rw [gangsawref54_Check.l1,if_pos (by omega : (j : Int) < (l.length : Int)),if_pos rfl,if_pos (by omega : (0 : Int) ≤ j),hr,in_f,in_f,wsucc (by omega)]
   unfold goodC
   simp only [Option.bind_some]
   cases inB l[j].f1 1 30000 <;> simp
theorem Check_l0 (t : S24) (l : List S65) (hl : l.length ≤ 1000000) (hs : ∀ y ∈ l, y.f0.size ≤ 9223372036854775807) (R : Int) : ∀ (d j : Nat) (b : Bool), l.length - j = d → j ≤ l.length →
  ((b && (l.drop j).all fun y=>lexName y.f0) = true → Ev (fun k=>gangsawref54_Check.l1 k l (trkB t) 0) R) →
  Ev (fun k=>gangsawref54_Check.l0 k l b (j : Int) t.f0 t.f1 t.f2 t.f3 t.f4.f0 t.f4.f1 t.f5.f0 t.f5.f1) (if (b && (l.drop j).all fun y=>lexName y.f0) = true then R else 4):=by
 intro d
 induction d with
 | zero =>
  intro j b hd hj h2;rw [List.drop_of_length_le (by omega)] at h2 ⊢
  cases b with
  | false=>exact Ev.step (f:=fun _=>some 4) (fun k=>by rw [gangsawref54_Check.l0,if_neg (by omega : ¬((j : Int) < (l.length : Int))),if_neg (by simp : ¬(false = true))]) (Ev.now _)
  | true =>
   refine Ev.step (f:=fun k=>gangsawref54_Check.l1 k l (trkB t) 0) (fun k=>?_) (h2 rfl)
   rw [gangsawref54_Check.l0,if_neg (by omega : ¬((j : Int) < (l.length : Int))),if_pos rfl]
   unfold gangsawref54_truck.f
   rw [Option.bind_some,show rtR (mk24 t.f0 t.f1 t.f2 t.f3 t.f4.f0 t.f4.f1 t.f5.f0 t.f5.f1) 2 = trkB t from truck_eq t]
 | succ d ih =>
  intro j b hd hj h2
  have hlt : j < l.length:=by omega
  have hr : rd_T65 l (j : Int) = l[j] := by unfold rd_T65;simp [hlt]
  rw [List.drop_eq_getElem_cons hlt] at h2 ⊢
  have e : (b && (l[j] :: l.drop (j + 1)).all fun y=>lexName y.f0) = ((b && lexName l[j].f0) && (l.drop (j + 1)).all fun y=>lexName y.f0):=by rw [List.all_cons,Bool.and_assoc]
  rw [e] at h2 ⊢
  cases b with
  | false =>
   refine Ev.step (f:=fun k=>gangsawref54_Check.l0 k l false ((j + 1 : Nat) : Int) t.f0 t.f1 t.f2 t.f3 t.f4.f0 t.f4.f1 t.f5.f0 t.f5.f1) (fun k=>?_) (ih (j + 1) false (by omega) (by omega) h2)
   rw [gangsawref54_Check.l0,if_pos (by omega : (j : Int) < (l.length : Int)),if_neg (by simp : ¬(false = true)),wsucc (by omega)]
  | true =>
   refine Ev.step (f:=fun k=>(gangsawref09_Name.f k l[j].f0).bind fun b=>gangsawref54_Check.l0 k l b ((j + 1 : Nat) : Int) t.f0 t.f1 t.f2 t.f3 t.f4.f0 t.f4.f1 t.f5.f0 t.f5.f1) (fun k=>?_) ?_
   (rw [gangsawref54_Check.l0,if_pos (by omega : (j : Int) < (l.length : Int)),if_pos rfl,if_pos (by omega : (0 : Int) ≤ j),hr,wsucc (by omega)]);(exact Ev.bind ⟨l[j].f0.size + 1,fun k hk=>name_f _ (hs _ (List.getElem_mem hlt)) k (by omega)⟩ (ih (j + 1) _ (by omega) (by omega) h2))
theorem plainC_eq (t : S24) (l : List S65) : plainR t (l.map o64) = if 64 < l.length then 7 else if (lexName t.f0 && l.all fun y=>lexName y.f0) = true then (if (trkB t && l.all goodC) = true then 0 else 6) else 4:=by
 have e1 : (l.map o64).any nmC = !(l.all fun y=>lexName y.f0):=by
  rw [List.any_map,List.any_eq_not_all_not];congr 1;apply List.all_congr rfl;intro y;simp [nmC,o64]
 have e2 : (l.map o64).any badC = !(l.all goodC):=by
  rw [List.any_map,List.any_eq_not_all_not];congr 1;apply List.all_congr rfl;intro y;simp [goodC_eq]
 unfold plainR
 rw [e1,e2,List.length_map]
 cases lexName t.f0 <;> cases (l.all fun y=>lexName y.f0) <;> cases trkB t <;> cases l.all goodC <;> rfl
theorem Check_ref (t : S24) (l : List S65) (hl : l.length ≤ 1000000) (ht : t.f0.size ≤ 9223372036854775807) (hs : ∀ y ∈ l, y.f0.size ≤ 9223372036854775807) :
  Ev (fun k=>gangsawref54_Check.f k t.f0 t.f1 t.f2 t.f3 t.f4.f0 t.f4.f1 t.f5.f0 t.f5.f1 l) (chkR t (l.map o64)):=by
 unfold gangsawref54_Check.f chkR
 rw [plainC_eq,← dup_eq];by_cases h64 : 64 < l.length
 (rw [if_pos h64,if_neg (by decide : ¬((7 : Int) = 0))];exact Ev.congr (fun k=>by rw [if_pos (by omega : (l.length : Int) > 64)]) (Ev.now _))
 ·rw [if_neg h64]
  have key : Ev (fun k=>(gangsawref09_Name.f k t.f0).bind fun b=>gangsawref54_Check.l0 k l b 0 t.f0 t.f1 t.f2 t.f3 t.f4.f0 t.f4.f1 t.f5.f0 t.f5.f1) (if (lexName t.f0 && l.all fun y=>lexName y.f0) = true then (if (trkB t && l.all goodC) = true then (if ((List.range l.length).any fun m=>dAt l m 0) = true then 5 else 0) else 6) else 4):=by
   refine Ev.bind ⟨t.f0.size + 1,fun k hk=>name_f _ ht k (by omega)⟩ ?_
   refine Check_l0 t l hl hs _ _ 0 (lexName t.f0) rfl (by omega) (fun _=>?_)
   refine Check_l1 l hl _ _ 0 (trkB t) rfl (by omega) (fun hh=>?_)
   exact Check_l2 l hl _ 0 rfl (by omega)
  refine Ev.congr (fun k=>by rw [if_neg (by omega : ¬((l.length : Int) > 64))]) ?_
  refine cast ?_ key
  congr 1
  cases (lexName t.f0 && l.all fun y=>lexName y.f0) <;> cases (trkB t && l.all goodC) <;> rfl
/-- what Check asks of stones -/
structure Good (t : S24) (l : List S64) : Prop where
 len : l.length ≤ 64
 nm : lexName t.f0 = true
 trk : trkB t = true
 all : ∀ x ∈ l,lexName x.f0 = true ∧ (1 ≤ x.f1 ∧ x.f1 ≤ 30000) ∧ 1 ≤ x.f2 ∧ x.f2 ≤ 1000000000
 pw : l.Pairwise fun a b=>a.f0.toList ≠ b.f0.toList
theorem dupC_pw (l : List S64) : dupC l = false ↔ l.Pairwise fun a b=>a.f0.toList ≠ b.f0.toList:=by
 rw [List.pairwise_iff_getElem]
 unfold dupC dupAtC
 rw [List.any_eq_false]
 constructor
 ·intro h i j hi hj hij he
  refine h j (List.mem_range.2 hj) ?_
  rw [List.any_eq_true]
  refine ⟨l[i],List.mem_take_iff_getElem.2 ⟨i,by omega,rfl⟩, ?_⟩
  unfold sameS
  rw [List.getD_eq_getElem?_getD,List.getElem?_eq_getElem hj,Option.getD_some,he,BEq.rfl]
 ·intro h j hj;rw [List.mem_range] at hj;rw [List.any_eq_true];rintro ⟨x,hx,hs⟩;obtain ⟨i,hi,rfl⟩ := List.mem_take_iff_getElem.1 hx
  unfold sameS at hs
  rw [List.getD_eq_getElem?_getD,List.getElem?_eq_getElem hj,Option.getD_some] at hs;exact h i j (by omega) hj (by omega) (beq_iff_eq.1 hs)
theorem good_iff (t : S24) (l : List S64) : chkR t l = 0 ↔ Good t l:=by
 unfold chkR plainR
 have ea : l.any nmC = false ↔ ∀ x ∈ l,lexName x.f0 = true:=by
  rw [List.any_eq_false];unfold nmC;simp
 have eb : l.any badC = false ↔ ∀ x ∈ l,(1 ≤ x.f1 ∧ x.f1 ≤ 30000) ∧ 1 ≤ x.f2 ∧ x.f2 ≤ 1000000000:=by
  rw [List.any_eq_false];unfold badC
  refine forall_congr' fun x=>forall_congr' fun hx=>?_
  simp;omega
 have ec:=dupC_pw l;by_cases h1 : 64 < l.length
 ·simp only [if_pos h1];constructor
  (intro h;rw [if_neg (by decide)] at h;exact absurd h (by decide))
  ·intro h;have:=h.len;omega
 ·simp only [if_neg h1]
  cases h2 : lexName t.f0 with
  | false=>simp;intro h;have:=h.nm;simp [h2] at this
  | true =>
   simp only [if_true]
   cases h3 : l.any nmC with
   | true=>simp;intro h;have:=ea.2 (fun x hx=>(h.all x hx).1);simp [h3] at this
   | false =>
    cases h4 : trkB t with
    | false=>simp;intro h;have:=h.trk;simp [h4] at this
    | true =>
     cases h5 : l.any badC with
     | true=>simp;intro h;have:=eb.2 (fun x hx=>(h.all x hx).2);simp [h5] at this
     | false =>
      cases h6 : dupC l with
      | true=>simp;intro h;have:=ec.2 h.pw;simp [h6] at this
      | false=>simp;exact ⟨by omega,h2,h4,fun x hx=>⟨ea.1 h3 x hx,eb.1 h5 x hx⟩,ec.1 h6⟩
end Go.Proofs.Ytohcgenhhgipcaa.Pure
