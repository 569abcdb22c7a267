import Derived.Test.YtnjikioimompnaaGb
namespace Go.Proofs.Ytnjikioimompnaa.PA
open Go.RowKit Go.Shelf Go.Proofs.YtnjikioimompnaaW.PrintWords Go.Proofs.YtnjikioimompnaaW.PrintLast Go.Proofs.YtnjikioimompnaaW.PrintMore
set_option linter.unusedVariables false
set_option linter.unusedSimpArgs false
attribute [local go_sem high] eqA31
set_option maxHeartbeats 400000 in
theorem next_any (A : Option Addr) (c len n m : Nat) (w : World) (h : n < len) (hl : len ≤ 1000000) (hm : (n + 1) % len = m) :
  Calls Try.prog 42 #[.slice A len c,.int .i64 n] w fun e w'=>e = .returned (.int .i64 m) ∧ w' = w:=by
 have hne : ((len : Int) == 0) = false:=by simp;omega
 have hne' : ¬ ((len : Int) = 0):=by omega
 have HM:=aside hm;clear hm
 go_enter Try.func42,Try.ntmps42
 go_wp2
 go_ret
 exact ⟨ok_i64 (by rw [← HM.out];simp),rfl⟩
theorem any40_41 (A : Option Addr) (c : Nat) (l : List S31) (w w1 : World) (hr : Kd.C k31 w A l.length l) (hb : Below w.heap.size w w1) :
  Calls Try.prog 40 #[.slice A l.length c,.func (.func 41) #[] #[.pointer (some ⟨w1.heap.size,0,none⟩)]] (w1.alloc (.cells #[.func (.func 39) #[] #[]] 63)) fun e w'=>e = .returned (.bool (l.any badP)) ∧ Below w.heap.size w w':=by
 have hb1 : Below w.heap.size w (w1.alloc (.cells #[.func (.func 39) #[] #[]] 63)):=hb.alloc hb.size _
 refine (any40 badP 41 #[.pointer (some ⟨w1.heap.size,0,none⟩)] eg41 A c l _ (Kd.C_below hr hb1) (fun W x hx hB=>c41_any x w1.heap.size W ((hB.cell (p:=⟨w1.heap.size,0,none⟩) (by simp)).trans (by simp)) (Nat.lt_of_lt_of_le (by simp) hB.size))).mono ?_
 rintro e w' ⟨rfl,h⟩;exact ⟨rfl,hb1.trans (h.mono hb1.size)⟩
set_option maxRecDepth 100000 in
set_option maxHeartbeats 2000000 in
theorem check_long (k : Nat) (s : ByteArray) (A : Option Addr) (c : Nat) (l : List S31) (r : Int) (w : World) (hr : Kd.C k31 w A l.length l) (hc : l.length ≤ c) (hs : s.size ≤ 9223372036854775807) (hn : lexName s = true) (h3 : ¬ l.length < 3) (h64 : ¬ 64 < l.length) (hb : l.any badP = false)
  (h : (if dupP l = true then some 5 else (profile_simple.f k l).bind fun s=>if s = true then ((profile_area.f k l).bind fun a=>if a ≤ 0 then some 1 else some 0) else some 11) = some r) :
  Calls Try.prog 17 #[.agg #[.string s,.slice A l.length c]] w fun e w'=>e = .returned (.int .i64 r) ∧ Below w.heap.size w w':=by
 have CN:=fun W=>lexName_any s W hs
 rw [hn] at CN
 have CA:=fun w1=>any40_41 A c l w w1 hr
 rw [hb] at CA
 have CS:=fun W (r : Bool) (hB : Below w.heap.size w W)=>profile_simple.calls k A c l r W (Kd.C_below hr hB) hc
 have CR:=fun W (r : Int) (hB : Below w.heap.size w W)=>profile_area.calls k A c l r W (Kd.C_below hr hB) hc
 have H:=aside h;have HN:=aside CN;have HA:=aside CA;have HS:=aside CS;have HT:=aside CR;have HR:=aside hr;have d3 : decide (l.length < 3) = false:=decide_eq_false h3;have d64 : decide (64 < l.length) = false:=decide_eq_false h64;clear CN CA CS CR h hr hs hn hb hc
 go_enter Try.func17,Try.ntmps17
 go_wp2_with (first|(go_at_call 38;refine (HN.out _).mono ?_;rintro e w1 ⟨rfl,hb⟩;have HB:=aside (((Below.refl _ _).alloc (Nat.le_refl _) _).trans (hb.mono (by simp)) : Below w.heap.size w w1);clear hb)|(go_at_call 40;refine (HA.out _ HB.out).mono ?_;rintro e w2 ⟨rfl,hb2⟩;have HB2:=aside hb2;clear hb2))
 go_loopg [25] l.length (fun gg v wr=>∃ n : Nat,n ≤ l.length ∧ l.length - n ≤ gg ∧ v = .int .i64 n ∧ Aside (∀ j,j < n → dupAt l j = false) ∧ Aside (Below w.heap.size w wr))
 case atStart=>exact ⟨0,by omega,by omega,rfl,(show Aside _ from fun j hj=>absurd hj (Nat.not_lt_zero _)),HB2⟩
 case round =>
  obtain ⟨n,hn,hg,rfl,D,B⟩ := hrel;by_cases hlt : n < l.length
  ·have hlt' : (n : Int) < (l.length : Int):=by omega
   obtain ⟨m,hm⟩ : ∃ m,(n + 1) % l.length = m:=⟨_,rfl⟩
   have hml : m < l.length:=by rw [← hm];exact Nat.mod_lt _ (by omega)
   have RB:=Kd.C_below HR.out B.out;obtain ⟨ad,hA,q0,q1⟩ := at_T31 RB (n : Int) (by omega) (by omega);obtain ⟨ad',hA',p0,p1⟩ := at_T31 RB (m : Int) (by omega) (by omega);rw [hA] at hA';obtain rfl:=Option.some.inj hA'
   have hx : rd_T31 l (n : Int) = l.getD n z31:=by unfold rd_T31;simp
   have hy : rd_T31 l (m : Int) = l.getD m z31:=by unfold rd_T31;simp
   rw [hx] at q0 q1;rw [hy] at p0 p1;simp only [Int.toNat_natCast] at q0 q1 p0 p1
   obtain ⟨t,ht⟩ : ∃ t,dupAt l n = t:=⟨_,rfl⟩
   have ht':=ht
   unfold dupAt eqP at ht'
   rw [hm] at ht';generalize (l.getD n z31).f0 = x0 at q0 ht';generalize (l.getD n z31).f1 = x1 at q1 ht';generalize (l.getD m z31).f0 = y0 at p0 ht';generalize (l.getD m z31).f1 = y1 at p1 ht'
   have CX:=fun W=>next_any A c l.length n m W hlt (by omega) hm
   have HX:=aside CX;have HM:=aside hm;have HT':=aside ht
   have hmi : (m : Int) < (l.length : Int):=by omega
   subst hA;clear RB hx hy ht CX hm
   cases t with
   | true =>
    have hd : r = 5:=by
     have:=H.out
     rw [if_pos (dup_of_at hlt HT'.out)] at this;exact (Option.some.inj this).symm
    subst hd
    go_wp2
    go_quiet ((go_at_call 42;exact Calls.quiet_of_same (HX.out _)))
    go_wp2
    go_ret
    exact ⟨rfl,below_drewN_of B.out _⟩
   | false =>
    go_wp2
    go_quiet ((go_at_call 42;exact Calls.quiet_of_same (HX.out _)))
    go_wp2
    go_roundg (l.length - (n + 1))
    case measure=>omega
    case rel =>
     refine ⟨n + 1,by omega,by omega,by go_num,(show Aside _ from fun j h1=>?_),below_drewN_of B.out _⟩
     by_cases e : j = n
     (subst e;exact HT'.out);(exact D.out j (by omega))
  ·obtain rfl : n = l.length:=by omega
   have hnd : dupP l = false:=dup_of_all (fun j h1=>D.out j h1);have h:=H.out;rw [if_neg (by simp [hnd])] at h;clear D H hnd
   cases hs : profile_simple.f k l with
   | none=>rw [hs] at h;cases h
   | some q =>
    rw [hs] at h;simp only [Option.bind_some] at h;have CQ:=HS.out wr q B.out hs;have HQ:=aside CQ;clear CQ hs
    cases q with
    | false =>
     rw [if_neg (by simp)] at h;obtain rfl:=Option.some.inj h
     go_wp2_with (go_at_call 43;refine HQ.out.mono ?_;rintro e w3 ⟨rfl,hb3⟩)
     go_ret
     exact ⟨rfl,B.out.trans (hb3.mono B.out.size)⟩
    | true =>
     rw [if_pos rfl] at h
     cases ha : profile_area.f k l with
     | none=>rw [ha] at h;cases h
     | some a =>
      rw [ha] at h;simp only [Option.bind_some] at h
      have CZ:=fun W hB=>HT.out W a hB ha
      have HZ:=aside CZ;clear CZ ha;by_cases h0 : a ≤ 0
      ·rw [if_pos h0] at h;obtain rfl:=Option.some.inj h
       go_wp2_with (first|(go_at_call 43;refine HQ.out.mono ?_;rintro e w3 ⟨rfl,hb3⟩;have HB3:=aside (B.out.trans (hb3.mono B.out.size));clear hb3)|(go_at_call 37;refine (HZ.out _ HB3.out).mono ?_;rintro e w4 ⟨rfl,hb4⟩;have HB4:=aside (HB3.out.trans (hb4.mono HB3.out.size));clear hb4))
       go_ret
       exact ⟨rfl,HB4.out⟩
      ·rw [if_neg h0] at h;obtain rfl:=Option.some.inj h
       go_wp2_with (first|(go_at_call 43;refine HQ.out.mono ?_;rintro e w3 ⟨rfl,hb3⟩;have HB3:=aside (B.out.trans (hb3.mono B.out.size));clear hb3)|(go_at_call 37;refine (HZ.out _ HB3.out).mono ?_;rintro e w4 ⟨rfl,hb4⟩;have HB4:=aside (HB3.out.trans (hb4.mono HB3.out.size));clear hb4))
       go_ret
       exact ⟨rfl,HB4.out⟩
set_option maxRecDepth 100000 in
set_option maxHeartbeats 2000000 in
theorem profile_Check.calls (k : Nat) (a0_0 : ByteArray) (A0_1 : Option Addr) (c0_1 : Nat) (l0_1 : List (S31)) (r : Int) (w : World) (hr0_1 : Kd.C k31 w A0_1 l0_1.length l0_1) (hc0_1 : l0_1.length ≤ c0_1) (h : profile_Check.f k a0_0 l0_1 = some r) :
  Calls Try.prog 17 #[.agg #[.string a0_0,.slice A0_1 l0_1.length c0_1]] w fun e w'=>e = .returned (.int .i64 r) ∧ Below w.heap.size w w':=by
 unfold profile_Check.f lexer_Name.f at h
 by_cases hs : a0_0.size ≤ 9223372036854775807
 ·rw [if_pos hs] at h;simp only [Option.bind_some] at h
  have CN:=fun W=>lexName_any a0_0 W hs
  cases hn : lexName a0_0 with
  | false =>
   rw [hn] at h CN;rw [if_neg (by simp)] at h;obtain rfl:=Option.some.inj h;have HN:=aside CN;clear CN h hr0_1 hs hn
   go_enter Try.func17,Try.ntmps17
   go_wp2_with (go_at_call 38;refine (HN.out _).mono ?_;rintro e w1 ⟨rfl,hb⟩)
   go_ret
   exact ⟨rfl,((Below.refl _ _).alloc (Nat.le_refl _) _).trans (hb.mono (by simp))⟩
  | true =>
   rw [hn] at h CN;rw [if_pos rfl] at h;by_cases h3 : l0_1.length < 3
   ·rw [if_pos h3] at h;obtain rfl:=Option.some.inj h;have HN:=aside CN;have d3 : decide (l0_1.length < 3) = true:=decide_eq_true h3;clear CN h hr0_1 hs hn
    go_enter Try.func17,Try.ntmps17
    go_wp2_with (go_at_call 38;refine (HN.out _).mono ?_;rintro e w1 ⟨rfl,hb⟩)
    go_ret
    exact ⟨rfl,((Below.refl _ _).alloc (Nat.le_refl _) _).trans (hb.mono (by simp))⟩
   ·rw [if_neg h3] at h;by_cases h64 : 64 < l0_1.length
    ·rw [if_pos h64] at h;obtain rfl:=Option.some.inj h;have HN:=aside CN;have d3 : decide (l0_1.length < 3) = false:=decide_eq_false h3;have d64 : decide (64 < l0_1.length) = true:=decide_eq_true h64;clear CN h hr0_1 hs hn
     go_enter Try.func17,Try.ntmps17
     go_wp2_with (go_at_call 38;refine (HN.out _).mono ?_;rintro e w1 ⟨rfl,hb⟩)
     go_ret
     exact ⟨rfl,((Below.refl _ _).alloc (Nat.le_refl _) _).trans (hb.mono (by simp))⟩
    ·rw [if_neg h64] at h
     cases hb : l0_1.any badP with
     | true =>
      rw [if_pos hb] at h;obtain rfl:=Option.some.inj h
      have CA:=fun w1=>any40_41 A0_1 c0_1 l0_1 w w1 hr0_1
      rw [hb] at CA;have HN:=aside CN;have HA:=aside CA;have d3 : decide (l0_1.length < 3) = false:=decide_eq_false h3;have d64 : decide (64 < l0_1.length) = false:=decide_eq_false h64;clear CN CA h hr0_1 hs hn hb
      go_enter Try.func17,Try.ntmps17
      go_wp2_with (first|(go_at_call 38;refine (HN.out _).mono ?_;rintro e w1 ⟨rfl,hb⟩;have HB:=aside (((Below.refl _ _).alloc (Nat.le_refl _) _).trans (hb.mono (by simp)) : Below w.heap.size w w1);clear hb)|(go_at_call 40;refine (HA.out _ HB.out).mono ?_;rintro e w2 ⟨rfl,hb2⟩;have HB2:=aside hb2;clear hb2))
      go_ret
      exact ⟨rfl,HB2.out⟩
     | false =>
      rw [if_neg (by simp [hb])] at h;exact check_long k a0_0 A0_1 c0_1 l0_1 r w hr0_1 hc0_1 hs hn h3 h64 hb h
 ·rw [if_neg hs] at h;cases h
end Go.Proofs.Ytnjikioimompnaa.PA
