import Derived.Test.YtbggjmdelnmilaaLey
import Derived.Test.YtbggjmdelnmilaaPAx11
import Derived.IntWalk
import Derived.Shelf.Abstract
namespace Go.Proofs.Ytbggjmdelnmilaa.Pure
open Go.RowKit Go.Proofs.Ytbggjmdelnmilaa Go.Proofs.Ytbggjmdelnmilaa.PA Go.Proofs.YtbggjmdelnmilaaW.PrintWords Go.Proofs.YtbggjmdelnmilaaW.PrintLast Go.Proofs.YtbggjmdelnmilaaW.PrintMore
set_option linter.unusedVariables false
set_option linter.unusedSimpArgs false
theorem w64 {n : Int} (h : -9223372036854775808 ≤ n) (h2 : n ≤ 9223372036854775807) : wrap64 n = n:=IntWalk.wrap64_in n ⟨h,h2⟩
theorem w1 {n : Nat} (h : n < 1000000000) : wrap64 ((n : Int) + 1) = ((n + 1 : Nat) : Int):=by rw [w64 (by omega) (by omega)];push_cast;rfl
theorem isNm_table : ∀ c : Fin 256,isNm (c.val : Int) = (decide (97 ≤ c.val ∧ c.val ≤ 122) || decide (48 ≤ c.val ∧ c.val ≤ 57) || decide (c.val = 95)):=by decide +kernel
theorem isNm_iff (c : Int) (h0 : 0 ≤ c) (h1 : c ≤ 255) : isNm c = true ↔ (97 ≤ c ∧ c ≤ 122) ∨ (48 ≤ c ∧ c ≤ 57) ∨ c = 95:=by
 have:=isNm_table ⟨c.toNat,by omega⟩
 have e : ((c.toNat : Nat) : Int) = c:=by omega
 simp only [e] at this;rw [this];simp only [Bool.or_eq_true,decide_eq_true_eq]
 omega
theorem bt_rng (s : ByteArray) (i : Int) : 0 ≤ bt s i ∧ bt s i ≤ 255:=by
 unfold bt
 split
 ·rename_i h
  have:=(s[i.toNat]'h).toNat_lt
  omega
 ·omega
theorem name_l0 (s : ByteArray) (hs : s.size ≤ 1000000) : ∀ d i : Nat,i + d = s.size → ∃ b,Ev (fun k=>gangsawref19_Name.l0 k s (i : Int)) b ∧ (b = true ↔ ∀ j,i ≤ j → j < s.size → isNm (bt s j) = true):=by
 intro d
 induction d with
 | zero =>
  intro i hi
  refine ⟨true,Ev.step (f:=fun _=>some true) (fun k=>?_) (Ev.now _),⟨fun _ j h1 h2=>by omega,fun _=>rfl⟩⟩
  simp only [gangsawref19_Name.l0];rw [if_neg (by omega)]
 | succ d ih =>
  intro i hi;obtain ⟨b,hb,hiff⟩ := ih (i + 1) (by omega);obtain ⟨r0,r1⟩ := bt_rng s i;by_cases h : isNm (bt s (i : Int)) = true
  ·refine ⟨b,Ev.step (fun k=>?_) hb, ?_⟩
   ·simp only [gangsawref19_Name.l0];rw [if_pos (by omega),if_pos (by omega),w1 (by omega)];rw [isNm_iff _ r0 r1] at h;generalize bt s (i : Int) = c at h;by_cases a1 : c < 97
    ·rw [if_pos a1];by_cases a2 : c < 48
     ·omega
     ·rw [if_neg a2];by_cases a3 : c > 57
      (rw [if_pos a3,if_pos (by omega)]);(rw [if_neg a3])
    (rw [if_neg a1];rw [if_neg (by omega)])
   ·rw [hiff]
    refine ⟨fun hh j h1 h2=>?_,fun hh j h1 h2=>hh j (by omega) h2⟩
    by_cases e : j = i
    (subst e;exact h);(exact hh j (by omega) h2)
  ·refine ⟨false,Ev.step (f:=fun _=>some false) (fun k=>?_) (Ev.now _),⟨fun h=>Bool.noConfusion h,fun hh=>absurd (hh i (Nat.le_refl _) (by omega)) h⟩⟩
   simp only [gangsawref19_Name.l0];rw [if_pos (by omega),if_pos (by omega)];rw [isNm_iff _ r0 r1] at h;generalize bt s (i : Int) = c at h;by_cases a1 : c < 97
   ·rw [if_pos a1];by_cases a2 : c < 48
    (rw [if_pos a2,if_neg (by omega)]);(rw [if_neg a2,if_pos (by omega),if_neg (by omega)])
   (rw [if_neg a1,if_pos (by omega),if_neg (by omega),if_pos (by omega),if_neg (by omega)])
theorem tw_all {α : Type} (p : α → Bool) : ∀ (l : List α) (x : α),x ∈ l.takeWhile p → p x = true
 | [],x,h=>by simp at h
 | y :: l,x,h=>by
  rw [List.takeWhile_cons] at h
  split at h
  ·rcases List.mem_cons.1 h with rfl|h
   ·assumption
   (exact tw_all p l x h)
  ·simp at h
theorem runOf_all (p : Int → Bool) (s : ByteArray) : runOf p s.data.toList = s.size ↔ ∀ j : Nat,j < s.size → p (bt s j) = true:=by
 unfold runOf
 have hl : s.data.toList.length = s.size:=by simp
 constructor
 ·intro h j hj
  have e : s.data.toList.takeWhile (fun b=>p (b.toNat : Int)) = s.data.toList:=by
   apply List.IsPrefix.eq_of_length (List.takeWhile_prefix _)
   rw [h,hl]
  have hm : s.data.toList[j]'(by omega) ∈ s.data.toList.takeWhile (fun b=>p (b.toNat : Int)):=by rw [e];exact List.getElem_mem _
  have:=tw_all _ _ _ hm
  have eb : bt s j = ((s.data.toList[j]'(by omega)).toNat : Int):=by
   unfold bt
   rw [dif_pos (by simpa using hj)];rfl
  rw [eb];exact this
 ·intro h;rw [takeWhile_all _ s.data.toList (fun x hx=>?_),hl];obtain ⟨j,hj,rfl⟩ := List.getElem_of_mem hx
  have:=h j (by omega)
  have eb : bt s j = ((s.data.toList[j]'hj).toNat : Int):=by
   unfold bt
   rw [dif_pos (by simpa using (by omega : j < s.size))];rfl
  rw [eb] at this;exact this
theorem name_f (s : ByteArray) (hs : s.size ≤ 1000000) : Ev (fun k=>gangsawref19_Name.f k s) (lexName s):=by
 have bad : Ev (fun k=>gangsawref19_Name.j0 k s true) false:=Ev.step (f:=fun _=>some false) (fun k=>by simp only [gangsawref19_Name.j0];rfl) (Ev.now _)
 unfold gangsawref19_Name.f lexName
 by_cases h : 0 < s.size
 ·rw [dif_pos h]
  refine Ev.congr (fun k=>if_neg (by omega)) ?_
  have e0 : bt s 0 = ((s[0]'h).toNat : Int):=by unfold bt;rw [dif_pos (by simpa using h)];rfl
  rw [← e0];by_cases h1 : s.size ≤ 24
  ·refine Ev.congr (fun k=>by rw [if_neg (by omega),if_pos (by omega)]) ?_
   rw [decide_eq_true h1,Bool.true_and];by_cases h2 : 97 ≤ bt s 0
   ·refine Ev.congr (fun k=>if_neg (by omega)) ?_
    rw [show decide (((97 : Nat) : Int) ≤ bt s 0) = true from decide_eq_true h2,Bool.true_and];by_cases h3 : bt s 0 ≤ 122
    ·rw [decide_eq_true h3,Bool.true_and];obtain ⟨b,hb,hi⟩ := name_l0 s hs s.size 0 (by omega)
     have : b = decide (runOf isNm s.data.toList = s.size):=by
      rw [Bool.eq_iff_iff,hi,decide_eq_true_iff,runOf_all];exact ⟨fun hh j hj=>hh j (Nat.zero_le _) hj,fun hh j _ hj=>hh j hj⟩
     rw [← this]
     refine Ev.step (fun k=>?_) hb
     simp only [gangsawref19_Name.j0];rw [if_neg (by simp;omega)];rfl
    (rw [decide_eq_false h3,Bool.false_and];exact Ev.congr (fun k=>by rw [decide_eq_true (by omega)]) bad)
   (rw [show decide (((97 : Nat) : Int) ≤ bt s 0) = false from decide_eq_false h2,Bool.false_and];exact Ev.congr (fun k=>if_pos (by omega)) bad)
  (rw [decide_eq_false h1,Bool.false_and];exact Ev.congr (fun k=>if_pos (by omega)) bad)
 (rw [dif_neg h];exact Ev.congr (fun k=>if_pos (by omega)) bad)
end Go.Proofs.Ytbggjmdelnmilaa.Pure
