import Derived.Test.YtdnjagfbhppmbaaLex
import Derived.WalkSpells
namespace Go.Proofs.Ytdnjagfbhppmbaa
open Go.RowKit
set_option linter.unusedVariables false
set_option linter.unusedSimpArgs false
theorem ret_bool {a b : Bool} (h : a = b) : Ending.returned (.bool a) = .returned (.bool b):=by rw [h]
theorem ret_i64 {a b : Int} (h : a = b) : Ending.returned (.int .i64 a) = .returned (.int .i64 b):=by rw [h]
theorem index_cls (c : Int) (h0 : 0 ≤ c) (h1 : c ≤ 255) (w : World) :
    (Instr.index 118 (.agg (tabA cls)) (.int .u8 c)).run Try.prog w = .ok (.int .u8 (cls c.toNat)) w:=by
  have h : (tabA cls)[c.toNat]? = some (.int .u8 (cls c.toNat)):=tabA_get _ _ (by omega);generalize tabA cls = T at *
  have hp : ∀ w,(part 5 T c.toNat).run Try.prog w = .ok (.int .u8 (cls c.toNat)) w:=by
    intro w
    have ha : (isAgg 5).run Try.prog w = .ok false w:=by
      unfold isAgg
      rw [Sem.run_bind,run_underlying Try.underlying5 w];rfl
    simp [part,Sem.run_bind,ha,h]
  simp [Instr.index,asIntOf,run_underlying Try.underlying118]
  rw [if_pos (by omega)];exact hp w
def isInner (c : Int) : Bool:=decide (cls c.toNat = 1 ∨ cls c.toNat = 2 ∨ cls c.toNat = 3)
set_option maxHeartbeats 400000 in
theorem inner_any (c : Int) (h0 : 0 ≤ c) (h1 : c ≤ 255) (w : World) :
    Calls Try.prog 68 #[.int .u8 c] w fun e w'=>e = .returned (.bool (isInner c)) ∧ Below w.heap.size w w':=by
  unfold isInner
  have hix:=index_cls c h0 h1
  have hcl:=fun W=>classes_any W
  generalize cls c.toNat = q at hix ⊢;generalize tabA cls = T at hix hcl;have HC:=aside hcl;clear hcl h0 h1;by_cases e1 : q = 1
  · subst e1
    go_enter Try.func68,Try.ntmps68
    go_wp2_with (go_at_call 78;refine (HC.out _).mono ?_;rintro e w1 ⟨rfl,hb⟩)
    go_ret
    exact ⟨ret_bool (by simp),hb⟩
  · have b1 : (q == 1) = false:=by simpa using e1
    by_cases e2 : q = 2
    · subst e2
      go_enter Try.func68,Try.ntmps68
      go_wp2_with (go_at_call 78;refine (HC.out _).mono ?_;rintro e w1 ⟨rfl,hb⟩)
      go_ret
      rename_i wa ha
      exact ⟨ret_bool (by simp),ha.trans (hb.mono ha.size)⟩
    · have b2 : (q == 2) = false:=by simpa using e2
      have f1:=aside e1;have f2:=aside e2;clear e1 e2
      go_enter Try.func68,Try.ntmps68
      go_wp2_with (go_at_call 78;refine (HC.out _).mono ?_;rintro e w1 ⟨rfl,hb⟩)
      go_ret
      rename_i wa ha wb hb2
      exact ⟨ret_bool (by have:=f1.out;have:=f2.out;rw [Bool.eq_iff_iff];simp [*]),(ha.trans (hb2.mono ha.size)).trans (hb.mono (ha.trans (hb2.mono ha.size)).size)⟩
def isNm (c : Int) : Bool:=isInner c && (decide (c < 65) || decide (90 < c))
set_option maxHeartbeats 400000 in
theorem name1_any (c : Int) (h0 : 0 ≤ c) (h1 : c ≤ 255) (w : World) :
    Calls Try.prog 67 #[.int .u8 c] w fun e w'=>e = .returned (.bool (isNm c)) ∧ Below w.heap.size w w':=by
  have hin:=fun W=>inner_any c h0 h1 W
  unfold isNm
  generalize isInner c = q at hin ⊢;have HC:=aside hin;clear hin h0 h1
  cases q with
  | false =>
    go_enter Try.func67,Try.ntmps67
    go_wp2_with (go_at_call 68;refine (HC.out _).mono ?_;rintro e w1 ⟨rfl,hb⟩)
    go_ret
    exact ⟨ret_bool (by simp),hb⟩
  | true =>
    by_cases e1 : c < 65
    · go_enter Try.func67,Try.ntmps67
      go_wp2_with (go_at_call 68;refine (HC.out _).mono ?_;rintro e w1 ⟨rfl,hb⟩)
      go_ret
      exact ⟨ret_bool (by simp [e1]),hb⟩
    · have f1:=aside e1
      go_enter Try.func67,Try.ntmps67
      go_wp2_with (go_at_call 68;refine (HC.out _).mono ?_;rintro e w1 ⟨rfl,hb⟩)
      go_ret
      exact ⟨ret_bool (by simp [f1.out]),hb⟩
theorem empty_size {s : ByteArray} (h : s.size = 0) : s.toList = [] := by
  rw [ByteArray.toList_eq];exact List.eq_nil_of_length_eq_zero (by simpa using h)
theorem nonempty_size {s : ByteArray} (h : 0 < s.size) : s.toList.isEmpty = false:=by
  rw [ByteArray.toList_eq]
  cases e : s.data.toList with
  | nil => have : s.data.toList.length = 0 := by rw [e]; rfl
           have h2 : s.data.size = 0:=by simpa using this
           have : s.size = 0:=h2
           omega
  | cons x l=>rfl
def runOf (p : Int → Bool) (l : List UInt8) : Nat:=(l.takeWhile fun b=>p (b.toNat : Int)).length
theorem takeWhile_all {α : Type} (p : α → Bool) (l : List α) (h : ∀ x ∈ l,p x = true) : l.takeWhile p = l:=by
  induction l with
  | nil=>rfl
  | cons x l ih=>rw [List.takeWhile_cons,h x (by simp)];simp;exact ih (fun y hy=>h y (by simp [hy]))
theorem runOf_stop (p : Int → Bool) (s : ByteArray) (n : Nat) (h : n < s.size) (hA : ∀ j (h : j < s.size),j < n → p (s[j].toNat) = true) (hq : p (s[n].toNat) = false) : runOf p s.data.toList = n:=by
  unfold runOf
  have e : s.data.toList = s.data.toList.take n ++ (s[n] :: s.data.toList.drop (n + 1)):=by
    have h' : n < s.data.toList.length:=by simpa using h
    rw [show s[n] = s.data.toList[n]'h' from rfl,List.getElem_cons_drop,List.take_append_drop]
  rw [e,List.takeWhile_append,takeWhile_all,if_pos (by simp),List.takeWhile_cons,hq]
  · simp;have : n < s.data.size:=h;omega
  · intro x hx;obtain ⟨j,hj,rfl⟩ := List.getElem_of_mem hx;rw [List.length_take] at hj;rw [List.getElem_take]
    exact hA j (by have h' : n < s.data.toList.length := by simpa using h
                   omega) (by omega)
theorem runOf_all (p : Int → Bool) (s : ByteArray) (hA : ∀ j (h : j < s.size),p (s[j].toNat) = true) : runOf p s.data.toList = s.size:=by
  unfold runOf
  rw [takeWhile_all]
  · simp
  (intro x hx;obtain ⟨j,hj,rfl⟩ := List.getElem_of_mem hx;exact hA j (by simpa using hj))
set_option maxHeartbeats 400000 in
theorem run_any (s : ByteArray) (w : World) (hs : s.size ≤ 9223372036854775807) :
    Calls Try.prog 66 #[.string s,.func (.func 67) #[] #[]] w fun e w'=>e = .returned (.int .i64 (runOf isNm s.data.toList)) ∧ Below w.heap.size w w':=by
  go_enter Try.func66,Try.ntmps66
  go_wp2
  go_loopg [5] s.size (fun gg v wr=>∃ n : Nat,n ≤ s.size ∧ s.size - n ≤ gg ∧ v = .int .i64 n ∧ Aside (∀ j (h : j < s.size),j < n → isNm (s[j].toNat) = true) ∧ Aside (Below w.heap.size w wr))
  case atStart=>exact ⟨0,by omega,by omega,rfl,(show Aside _ from fun j h hj=>absurd hj (Nat.not_lt_zero _)),Below.refl _ _⟩
  case round =>
    obtain ⟨n,hn,hg,rfl,A,B⟩ := hrel;by_cases hlt : n < s.size
    · have hcall:=fun W=>name1_any (s[n].toNat : Int) (by omega) (by have:=s[n].toNat_lt;omega) W
      obtain ⟨q,hq⟩ : ∃ q,isNm (s[n].toNat : Int) = q:=⟨_,rfl⟩
      rw [hq] at hcall;have HQ:=aside hq;have HC:=aside hcall;clear hq hcall
      cases q with
      | true =>
        go_wp2_with (go_at_call 67;refine (HC.out _).mono ?_;rintro e w1 ⟨rfl,hb⟩)
        go_roundg (s.size - (n + 1))
        case measure=>omega
        case rel =>
          refine ⟨n + 1,by omega,by omega,by go_num,(show Aside _ from fun j h hj=>?_),B.out.trans (hb.mono B.out.size)⟩
          by_cases e : j = n
          (subst e;exact HQ.out);(exact A.out j h (by omega))
      | false =>
        go_wp2_with (go_at_call 67;refine (HC.out _).mono ?_;rintro e w1 ⟨rfl,hb⟩)
        go_ret
        exact ⟨ret_i64 (by rw [runOf_stop isNm s n hlt A.out HQ.out]),B.out.trans (hb.mono B.out.size)⟩
    · obtain rfl : n = s.size:=by omega
      go_wp2
      go_ret
      exact ⟨ret_i64 (by rw [runOf_all isNm s (fun j h=>A.out j h h)]),B.out⟩
def lexName (s : ByteArray) : Bool:=if h : 0 < s.size then decide (s.size ≤ 24) && (decide (97 ≤ ((s[0]'h).toNat : Int)) && (decide (((s[0]'h).toNat : Int) ≤ 122) && decide (runOf isNm s.data.toList = s.size))) else false
set_option maxHeartbeats 400000 in
theorem lexName_any (s : ByteArray) (w : World) (hs : s.size ≤ 9223372036854775807) :
    Calls Try.prog 50 #[.string s] w fun e w'=>e = .returned (.bool (lexName s)) ∧ Below w.heap.size w w':=by
  have hrun:=fun W=>run_any s W hs
  unfold lexName
  generalize hr : runOf isNm s.data.toList = r at hrun ⊢;have HR:=aside hrun;clear hrun hr;by_cases e0 : 0 < s.size
  · have h2 : s.toList.isEmpty = false:=nonempty_size e0;rw [dif_pos e0];have H:=aside e0;by_cases e1 : s.size ≤ 24
    · have b1 : decide (24 < s.size) = false:=by simpa using e1
      by_cases e2 : (s[0].toNat : Int) < 97
      · go_enter Try.func50,Try.ntmps50
        go_wp2_with (go_at_call 66;refine (HR.out _).mono ?_;rintro e w1 ⟨rfl,hb⟩)
        go_ret
        exact ⟨ret_bool (by rw [decide_eq_false (p:=(97 : Int) ≤ (s[0].toNat : Int)) (by omega)];simp),Below.refl _ _⟩
      · by_cases e3 : 122 < (s[0].toNat : Int)
        · go_enter Try.func50,Try.ntmps50
          go_wp2_with (go_at_call 66;refine (HR.out _).mono ?_;rintro e w1 ⟨rfl,hb⟩)
          go_ret
          exact ⟨ret_bool (by rw [decide_eq_false (p:=(s[0].toNat : Int) ≤ 122) (by omega)];simp),Below.refl _ _⟩
        · go_enter Try.func50,Try.ntmps50
          go_wp2_with (go_at_call 66;refine (HR.out _).mono ?_;rintro e w1 ⟨rfl,hb⟩)
          go_ret
          exact ⟨ret_bool (by rw [Bool.eq_iff_iff];simp;omega),hb⟩
    · have b1 : decide (24 < s.size) = true:=by simpa using e1
      go_enter Try.func50,Try.ntmps50
      go_wp2_with (go_at_call 66;refine (HR.out _).mono ?_;rintro e w1 ⟨rfl,hb⟩)
      go_ret
      exact ⟨ret_bool (rfl),Below.refl _ _⟩
  · have h1 : s.toList = [] := empty_size (by omega);rw [dif_neg e0];clear e0
    go_enter Try.func50,Try.ntmps50
    go_wp2_with (go_at_call 66;refine (HR.out _).mono ?_;rintro e w1 ⟨rfl,hb⟩)
    go_ret
    exact ⟨ret_bool rfl,Below.refl _ _⟩
end Go.Proofs.Ytdnjagfbhppmbaa
