import Derived.Test.YtdnjagfbhppmbaaGb
import Derived.Laws.EntriesVeiled
import Derived.WalkLawsBesides
namespace Go.Proofs.Ytdnjagfbhppmbaa.PA
open Go.RowKit Go.Shelf Go.Proofs.YtdnjagfbhppmbaaW.PrintWords Go.Proofs.YtdnjagfbhppmbaaW.PrintLast Go.Proofs.YtdnjagfbhppmbaaW.PrintMore
set_option linter.unusedVariables false
set_option linter.unusedSimpArgs false
structure GoodW (w W : World) (A : Option Addr) (n c : Nat) : Prop where
 below : Below w.heap.size w W
 c0 : W.cell? ⟨w.heap.size,0,none⟩ = some (.slice A n c)
 c1 : W.cell? ⟨w.heap.size + 1,0,none⟩ = some (.func (.func 48) #[] #[])
 lt : w.heap.size + 1 < W.heap.size
theorem ok_i64 {a b : Int} (h : a = b) : Ending.returned (.int .i64 a) = .returned (.int .i64 b):=by rw [h]
theorem GoodW.step {w W W' : World} {A : Option Addr} {n c : Nat} (h : GoodW w W A n c) (hb : Below W.heap.size W W') : GoodW w W' A n c :=
 ⟨h.below.trans (hb.mono h.below.size),(hb.cell (p:=⟨w.heap.size,0,none⟩) (by have:=h.lt;show _ < _;simp;omega)).trans h.c0,(hb.cell (p:=⟨w.heap.size + 1,0,none⟩) (by have:=h.lt;simpa using this)).trans h.c1,Nat.lt_of_lt_of_le h.lt hb.size⟩
theorem good0 (w : World) (A : Option Addr) (n c : Nat) : GoodW w ((w.alloc (.cells #[.slice A n c] 22)).alloc (.cells #[.func (.func 48) #[] #[]] 91)) A n c :=
 ⟨((Below.refl _ _).alloc (Nat.le_refl _) _).alloc (by simp) _,by simp,by simp,by simp⟩
theorem below_drewN_any {w : World} (n : Nat) : Below w.heap.size w (w.drewN n):=⟨rfl,rfl,rfl,Nat.le_refl _,fun _ _=>rfl⟩
theorem dup_of_all {l : List S36} (h : ∀ j,1 ≤ j → j < l.length → dupAt l j = false) : dupB l = false:=by
 unfold dupB
 rw [Bool.eq_false_iff];intro hc;rw [List.any_eq_true] at hc;obtain ⟨j,hj,h2⟩ := hc
 simp at hj h2
 rw [h j h2.1 hj] at h2
 simp at h2
theorem dup_of_at {l : List S36} {j : Nat} (h1 : 1 ≤ j) (h2 : j < l.length) (h : dupAt l j = true) : dupB l = true:=by
 unfold dupB
 rw [List.any_eq_true];exact ⟨j,by simpa using h2,by simp [h1,h]⟩
set_option maxHeartbeats 1000000 in
theorem check_ok (a0 a1 : Int) (A : Option Addr) (c : Nat) (l : List S36) (a3 : Int) (w : World) (hr : Kd.C k36 w A l.length l) (hs : ∀ x ∈ l, x.f0.size ≤ 9223372036854775807)
  (h01 : sideB a0 = true) (h02 : sideB a1 = true) (h03 : ¬ a3 < 0) (h04 : ¬ 40 < a3) (h1 : ¬ 6 < l.length) (q4 q6 q1 : Bool) (hq4 : l.any (fun x=>!lexName x.f0) = q4) (hq6 : l.any badSize = q6) (hq1 : l.any (fun x=>x.f1.f2 != 1) = q1) (R : Int) (hRR : R = if q4 = true then 4 else if q6 = true then 6 else if q1 = true then 1 else if dupB l = true then 5 else 0) :
  Calls Try.prog 30 #[.int .i64 a0,.int .i64 a1,.slice A l.length c,.int .i64 a3] w fun e w'=>e = .returned (.int .i64 R) ∧ Below w.heap.size w w':=by
 have call4 : ∀ W,GoodW w W A l.length c → Calls Try.prog 46 #[.func (.func 49) #[] #[],.pointer (some ⟨w.heap.size,0,none⟩)] W fun e w'=>e = .returned (.bool q4) ∧ GoodW w w' A l.length c:=by
  intro W G
  refine (c46_any (fun x=>!lexName x.f0) 49 #[] eg49 w.heap.size A c l W (Kd.C_below hr G.below) (fun W' x hx _=>c49_any x W' (hs x hx)) G.c0 (by have:=G.lt;omega)).mono ?_
  rintro e w' ⟨rfl,hb⟩;exact ⟨by rw [hq4],G.step hb⟩
 have call6 : ∀ W,GoodW w W A l.length c → Calls Try.prog 46 #[.func (.func 51) #[] #[.pointer (some ⟨w.heap.size + 1,0,none⟩)],.pointer (some ⟨w.heap.size,0,none⟩)] W fun e w'=>e = .returned (.bool q6) ∧ GoodW w w' A l.length c:=by
  intro W G
  refine (c46_any badSize 51 #[.pointer (some ⟨w.heap.size + 1,0,none⟩)] eg51 w.heap.size A c l W (Kd.C_below hr G.below) (fun W' x hx hb=>c51_any x (w.heap.size + 1) W' (G.step hb).c1 (G.step hb).lt) G.c0 (by have:=G.lt;omega)).mono ?_
  rintro e w' ⟨rfl,hb⟩;exact ⟨by rw [hq6],G.step hb⟩
 have call1 : ∀ W,GoodW w W A l.length c → Calls Try.prog 46 #[.func (.func 52) #[] #[],.pointer (some ⟨w.heap.size,0,none⟩)] W fun e w'=>e = .returned (.bool q1) ∧ GoodW w w' A l.length c:=by
  intro W G
  refine (c46_any (fun x=>x.f1.f2 != 1) 52 #[] eg52 w.heap.size A c l W (Kd.C_below hr G.below) (fun W' x hx _=>c52_any x W') G.c0 (by have:=G.lt;omega)).mono ?_
  rintro e w' ⟨rfl,hb⟩;exact ⟨by rw [hq1],G.step hb⟩
 have HM:=aside (Kd.C_max hr);have HR:=aside hr;have C4:=aside call4;have C6:=aside call6;have C1:=aside call1;have RR:=aside hRR;clear hr hs call4 call6 call1 hq4 hq6 hq1 hRR
 cases q4 with
 | true =>
  go_enter Try.func30,Try.ntmps30
  go_wp2_with (first|(go_at_call 48;refine (side_any _ _).mono ?_;rintro e w1 ⟨rfl,rfl⟩)|(go_at_call 46;(with_reducible refine (C4.out _ (good0 _ _ _ _)).mono ?_);rintro e w1 ⟨rfl,G⟩))
  go_ret
  rename_i w1 G
  exact ⟨ok_i64 (by rw [RR.out];rfl),G.below⟩
 | false =>
  cases q6 with
  | true =>
   go_enter Try.func30,Try.ntmps30
   go_wp2_with (first|(go_at_call 48;refine (side_any _ _).mono ?_;rintro e w1 ⟨rfl,rfl⟩)|(go_at_call 46;first|((with_reducible refine (C1.out _ G).mono ?_);clear G;rintro e w1 ⟨rfl,G⟩)|((with_reducible refine (C6.out _ G).mono ?_);clear G;rintro e w1 ⟨rfl,G⟩)|((with_reducible refine (C4.out _ (good0 _ _ _ _)).mono ?_);rintro e w1 ⟨rfl,G⟩)))
   go_ret
   rename_i w1 G
   exact ⟨ok_i64 (by rw [RR.out];rfl),G.below⟩
  | false =>
   cases q1 with
   | true =>
    go_enter Try.func30,Try.ntmps30
    go_wp2_with (first|(go_at_call 48;refine (side_any _ _).mono ?_;rintro e w1 ⟨rfl,rfl⟩)|(go_at_call 46;first|((with_reducible refine (C1.out _ G).mono ?_);clear G;rintro e w1 ⟨rfl,G⟩)|((with_reducible refine (C6.out _ G).mono ?_);clear G;rintro e w1 ⟨rfl,G⟩)|((with_reducible refine (C4.out _ (good0 _ _ _ _)).mono ?_);rintro e w1 ⟨rfl,G⟩)))
    go_ret
    rename_i w1 G
    exact ⟨ok_i64 (by rw [RR.out];rfl),G.below⟩
   | false =>
    go_enter Try.func30,Try.ntmps30
    go_wp2_with (first|(go_at_call 48;refine (side_any _ _).mono ?_;rintro e w1 ⟨rfl,rfl⟩)|(go_at_call 46;first|((with_reducible refine (C1.out _ G).mono ?_);clear G;rintro e w1 ⟨rfl,G⟩)|((with_reducible refine (C6.out _ G).mono ?_);clear G;rintro e w1 ⟨rfl,G⟩)|((with_reducible refine (C4.out _ (good0 _ _ _ _)).mono ?_);rintro e w1 ⟨rfl,G⟩)))
    clear C4 C6 C1 h01 h02 h03 h04 h1;have hm:=HM.out
    go_loopg [11] l.length (fun gg v wr=>∃ n : Nat,1 ≤ n ∧ l.length - n ≤ gg ∧ v = .int .i64 n ∧ Aside (∀ j,1 ≤ j → j < n → dupAt l j = false) ∧ Aside (GoodW w wr A l.length c))
    case atStart=>exact ⟨1,by omega,by omega,rfl,(show Aside _ from fun j h hj=>by omega),G⟩
    case round =>
     obtain ⟨n,hn,hg,rfl,D,G'⟩ := hrel;have g0:=G'.out.c0;by_cases hlt : n < l.length
     ·have hlt' : (n : Int) < (l.length : Int):=by omega
      have RD:=Kd.C_below HR.out G'.out.below;obtain ⟨ad,hA,q0,-⟩ := at_T36 RD (n : Int) (by omega) (by omega)
      obtain ⟨m,hm0⟩ : ∃ m : Int,IntKind.i64.wrap ((n : Int) - 1) = m:=⟨_,rfl⟩
      have hm1 : m = (n : Int) - 1:=by rw [← hm0];exact IntWalk.i64_in _ (by omega)
      obtain ⟨ad',hA',p0,-⟩ := at_T36 RD m (by omega) (by omega);rw [hA] at hA';obtain rfl:=Option.some.inj hA';subst hA
      have hx : rd_T36 l (n : Int) = l.getD n z36:=by unfold rd_T36;simp
      have hy : rd_T36 l m = l.getD (n - 1) z36:=by unfold rd_T36;congr 1;omega
      obtain ⟨t,ht⟩ : ∃ t,dupAt l n = t:=⟨_,rfl⟩
      have ht':=ht
      unfold dupAt at ht'
      rw [hx] at q0;rw [hy] at p0;generalize (l.getD n z36).f0 = s1 at q0 ht';generalize (l.getD (n - 1) z36).f0 = s2 at p0 ht';simp only [Int.toNat_natCast] at q0;have HT:=aside ht;have k1 : (0 ≤ m) = True:=eq_true (by omega);have k2 : (m < (l.length : Int)) = True:=eq_true (by omega);clear hx hy ht RD hm1
      cases t with
      | true =>
       go_wp2
       go_quiet (fail)
       go_wp2
       go_ret
       exact ⟨ok_i64 (by rw [RR.out,dup_of_at hn hlt HT.out];rfl),G'.out.below.trans (Below.mono (below_drewN_any _) G'.out.below.size)⟩
      | false =>
       go_wp2
       go_quiet (fail)
       go_wp2
       go_roundg (l.length - (n + 1))
       case measure=>omega
       case rel =>
        refine ⟨n + 1,by omega,by omega,by go_num,(show Aside _ from fun j h1 h2=>?_),G'.out.step (below_drewN_any _)⟩
        by_cases e : j = n
        (subst e;exact HT.out);(exact D.out j h1 (by omega))
     ·have hge : (l.length : Int) ≤ (n : Int):=by omega
      go_wp2
      go_ret
      exact ⟨ok_i64 (by rw [RR.out,dup_of_all (fun j h1 h2=>D.out j h1 (by omega))];rfl),G'.out.below⟩
set_option maxHeartbeats 1000000 in
theorem check_any (a0 a1 : Int) (A : Option Addr) (c : Nat) (l : List S36) (a3 : Int) (w : World) (hr : Kd.C k36 w A l.length l) (hs : ∀ x ∈ l, x.f0.size ≤ 9223372036854775807) :
  Calls Try.prog 30 #[.int .i64 a0,.int .i64 a1,.slice A l.length c,.int .i64 a3] w fun e w'=>e = .returned (.int .i64 (checkR a0 a1 l a3)) ∧ Below w.heap.size w w':=by
 unfold checkR
 by_cases h0 : sideB a0 = true ∧ sideB a1 = true ∧ ¬ a3 < 0 ∧ ¬ 40 < a3
 ·rw [if_pos h0];obtain ⟨h01,h02,h03,h04⟩ := h0;by_cases h1 : 6 < l.length
  ·rw [if_pos h1];have HR:=aside hr;clear hr hs
   go_enter Try.func30,Try.ntmps30
   go_wp2_with (go_at_call 48;refine (side_any _ _).mono ?_;rintro e w1 ⟨rfl,rfl⟩)
   go_ret
   exact ⟨ok_i64 rfl,(good0 w A l.length c).below⟩
  (rw [if_neg h1];exact check_ok a0 a1 A c l a3 w hr hs h01 h02 h03 h04 h1 _ _ _ rfl rfl rfl _ rfl)
 ·rw [if_neg h0];have H0:=aside h0;clear h0 hr hs
  cases e0 : sideB a0 with
  | false =>
   go_enter Try.func30,Try.ntmps30
   go_wp2_with (go_at_call 48;refine (side_any _ _).mono ?_;rintro e w1 ⟨rfl,rfl⟩)
   go_ret
   exact ⟨ok_i64 rfl,(good0 w A l.length c).below⟩
  | true =>
   cases e1 : sideB a1 with
   | false =>
    go_enter Try.func30,Try.ntmps30
    go_wp2_with (go_at_call 48;refine (side_any _ _).mono ?_;rintro e w1 ⟨rfl,rfl⟩)
    go_ret
    exact ⟨ok_i64 rfl,(good0 w A l.length c).below⟩
   | true =>
    by_cases e3 : a3 < 0
    ·go_enter Try.func30,Try.ntmps30
     go_wp2_with (go_at_call 48;refine (side_any _ _).mono ?_;rintro e w1 ⟨rfl,rfl⟩)
     go_ret
     exact ⟨ok_i64 rfl,(good0 w A l.length c).below⟩
    ·have e4 : 40 < a3 := by
      apply Classical.byContradiction
      intro e4;exact H0.out ⟨e0,e1,e3,e4⟩
     go_enter Try.func30,Try.ntmps30
     go_wp2_with (go_at_call 48;refine (side_any _ _).mono ?_;rintro e w1 ⟨rfl,rfl⟩)
     go_ret
     exact ⟨ok_i64 rfl,(good0 w A l.length c).below⟩
def flatpack_Check.f (a0 : Int) (a1 : Int) (l2 : List S36) (a3 : Int) : Option (Int):=if ∀ x ∈ l2,x.f0.size ≤ 9223372036854775807 then some (checkR a0 a1 l2 a3) else none
theorem flatpack_Check.calls (a0 : Int) (a1 : Int) (A2 : Option Addr) (c2 : Nat) (l2 : List (S36)) (a3 : Int) (r : Int) (w : World) (hr2 : Kd.C k36 w A2 l2.length l2) (hc2 : l2.length ≤ c2) (h : flatpack_Check.f a0 a1 l2 a3 = some r) :
  Calls Try.prog 30 #[.int .i64 a0,.int .i64 a1,.slice A2 l2.length c2,.int .i64 a3] w fun e w'=>e = .returned (.int .i64 r) ∧ Below w.heap.size w w':=by
 unfold flatpack_Check.f at h
 split at h
 (obtain rfl:=Option.some.inj h;exact check_any a0 a1 A2 c2 l2 a3 w hr2 ‹_›)
 ·cases h
end Go.Proofs.Ytdnjagfbhppmbaa.PA
