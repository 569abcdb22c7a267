import Derived.Test.YtohcgenhhgipcaaGc
namespace Go.Proofs.Ytohcgenhhgipcaa.PA
open Go.RowKit Go.Shelf Go.Proofs.YtohcgenhhgipcaaW.PrintWords Go.Proofs.YtohcgenhhgipcaaW.PrintLast Go.Proofs.YtohcgenhhgipcaaW.PrintMore
set_option linter.unusedVariables false
set_option linter.unusedSimpArgs false

/-! loading.Check -/
def sameS (s : ByteArray) (x : S64) : Bool:=x.f0.toList == s.toList
set_option maxHeartbeats 400000 in
theorem c33_any (x : S64) (s : ByteArray) (b : Nat) (w : World) (hc : w.cell? ⟨b,0,none⟩ = some (.string s)) : Calls Try.prog 33 #[.agg #[.string x.f0,.int .i64 x.f1,.int .i64 x.f2],.pointer (some ⟨b,0,none⟩)] w fun e w'=>e = .returned (.bool (sameS s x)) ∧ Below w.heap.size w w':=by
 have hb:=World.block_lt_of_cell? w _ hc
 have hne : b ≠ w.heap.size:=by have : b < w.heap.size:=hb;omega
 unfold sameS
 go_enter Try.func33,Try.ntmps33
 go_wp2
 go_ret
 exact ⟨ok_bool (by first|rfl|simp),(Below.refl _ _).alloc (Nat.le_refl _) _⟩
theorem eg33 : ∀ args w,(callFunc 33 args).run Try.prog w = .ok (.enter 33 args) w:=enters_of Try.func33 (by kernel_rfl) rfl
def dupAtC (l : List S64) (i : Nat) : Bool:=(l.take i).any (sameS (l.getD i z64).f0)
def dupC (l : List S64) : Bool:=(List.range l.length).any (dupAtC l)
def chkR (t : S24) (l : List S64) : Int:=if plainR t l = 0 then (if dupC l = true then 5 else 0) else plainR t l
theorem dupC_at {l : List S64} {n : Nat} (h : n < l.length) (hd : dupAtC l n = true) : dupC l = true:=by
 unfold dupC
 rw [List.any_eq_true];exact ⟨n,List.mem_range.2 h,hd⟩
theorem dupC_not {l : List S64} (h : ∀ j,j < l.length → dupAtC l j = false) : dupC l = false:=by
 unfold dupC
 rw [List.any_eq_false];intro j hj
 rw [h j (List.mem_range.1 hj)];simp
theorem run32 (A : Option Addr) (c : Nat) (l : List S64) (w : World) (hr : Kd.C k64 w A l.length l) (n : Nat) (hn : n < l.length) (b : Nat) (hb : w.heap.size ≤ b) (W : World) (hB : Below w.heap.size w W) (hc : W.cell? ⟨b, 0, none⟩ = some (.string (l.getD n z64).f0)) :
  Calls Try.prog 32 #[.slice A n c,.func (.func 33) #[] #[.pointer (some ⟨b,0,none⟩)]] W fun e w'=>e = .returned (.bool (dupAtC l n)) ∧ Below W.heap.size W w':=by
 have hC:=Kd.C_take (m:=n) (Kd.C_below hr hB) (by omega)
 have hlen : (l.take n).length = n:=by rw [List.length_take];omega
 have h:=any32 (sameS (l.getD n z64).f0) 33 #[.pointer (some ⟨b,0,none⟩)] eg33 A c (l.take n) W hC (fun W' x hx hB'=>c33_any x _ b W' ((hB'.cell (p:=⟨b,0,none⟩) (World.block_lt_of_cell? W _ hc)).trans hc));rw [hlen] at h;exact h
set_option maxRecDepth 100000 in
set_option maxHeartbeats 2000000 in
theorem check_any (t : S24) (A : Option Addr) (c : Nat) (l : List S64) (w : World) (hr : Kd.C k64 w A l.length l) (hlc : l.length ≤ c) (hs : t.f0.size ≤ 9223372036854775807) (hl : ∀ x ∈ l, x.f0.size ≤ 9223372036854775807) :
  Calls Try.prog 15 #[e24 t,.slice A l.length c] w fun e w'=>e = .returned (.int .i64 (chkR t l)) ∧ Below w.heap.size w w':=by
 have CP : ∀ W,Below w.heap.size w W → Calls Try.prog 31 #[e24 t,.slice A l.length c] W fun e w'=>e = .returned (.int .i64 (plainR t l)) ∧ Below W.heap.size W w':=fun W hB=>plain_any t A c l W (Kd.C_below hr hB) hs hl
 have CR:=run32 A c l w hr
 obtain ⟨r,hR⟩ : ∃ r,chkR t l = r:=⟨_,rfl⟩
 rw [hR]
 unfold chkR at hR
 generalize plainR t l = q at CP hR
 unfold e24 at *
 obtain ⟨nm,ln,fr,re,⟨l0,l1⟩,⟨e0,e1⟩⟩ := t
 dsimp only at *
 have hm:=Kd.C_max hr;have HP:=aside CP;have HC:=aside CR;have HR:=aside hr;have HQ:=aside hR
 clear CP CR hs hl hr hR;by_cases hq : q = 0
 ·subst hq
  go_enter Try.func15,Try.ntmps15
  go_wp2_with (go_at_call 31;refine (HP.out _ ((Below.refl _ _).alloc (Nat.le_refl _) _)).mono ?_;rintro e w1 ⟨rfl,hb⟩;have HB1:=aside (plain_bel _ hb);clear hb)
  go_loopg [16] l.length (fun gg v wr=>∃ n : Nat,n ≤ l.length ∧ l.length - n ≤ gg ∧ v = .int .i64 n ∧ Aside (∀ j,j < n → dupAtC l j = false) ∧ Aside (Below w.heap.size w wr))
  case atStart=>exact ⟨0,by omega,by omega,rfl,(show Aside _ from fun j hj=>absurd hj (Nat.not_lt_zero _)),HB1⟩
  case round =>
   obtain ⟨n,hn,hg,rfl,D,B⟩ := hrel;by_cases hlt : n < l.length
   ·have hlt' : (n : Int) < (l.length : Int):=by omega
    have hnc : n ≤ c:=by omega
    obtain ⟨ad,hA,q0,q1,q2⟩ := at_T64 (Kd.C_below HR.out B.out) (n : Int) (by omega) (by omega)
    have hx : rd_T64 l (n : Int) = l.getD n z64:=by unfold rd_T64;simp
    rw [hx] at q0 q1 q2;simp only [Int.toNat_natCast] at q0 q1 q2
    have CD:=fun W h1 h2=>HC.out n hlt wr.heap.size B.out.size W h1 h2
    generalize l.getD n z64 = y at q0 q1 q2 CD
    obtain ⟨d,hd⟩ : ∃ d,dupAtC l n = d:=⟨_,rfl⟩
    rw [hd] at CD;have HD:=aside hd;have HX:=aside CD;have BS:=aside B.out.size;subst hA;clear hx CD hd
    cases d with
    | true =>
     have e5 : r = 5:=by rw [← HQ.out,if_pos trivial,if_pos (dupC_at hlt HD.out)]
     subst e5
     go_wp2_with (go_at_call 32;refine (HX.out _ ?s1 ?s2).mono ?_;(case s1=>exact B.out.alloc B.out.size _);(case s2=>simp);rintro e w2 ⟨rfl,hb⟩;have HB2:=aside ((B.out.alloc B.out.size _).trans (hb.mono (B.out.alloc B.out.size _).size));clear hb)
     go_ret
     exact ⟨rfl,HB2.out⟩
    | false =>
     go_wp2_with (go_at_call 32;refine (HX.out _ ?s1 ?s2).mono ?_;(case s1=>exact B.out.alloc B.out.size _);(case s2=>simp);rintro e w2 ⟨rfl,hb⟩;have HB2:=aside ((B.out.alloc B.out.size _).trans (hb.mono (B.out.alloc B.out.size _).size));clear hb)
     go_roundg (l.length - (n + 1))
     case measure=>omega
     case rel =>
      refine ⟨n + 1,by omega,by omega,by go_num,(show Aside _ from fun j h1=>?_), ?_⟩
      ·by_cases e : j = n
       (subst e;exact HD.out);(exact D.out j (by omega))
      (exact HB2)
   ·obtain rfl : n = l.length:=by omega
    have e0' : r = 0:=by rw [← HQ.out,if_pos trivial,dupC_not (fun j hj=>D.out j hj)];rfl
    subst e0'
    go_wp2
    go_ret
    exact ⟨rfl,B.out⟩
 ·have e1 : r = q:=by rw [← HQ.out,if_neg hq]
  subst e1
  have hq' : (r != 0) = true:=by simpa using hq
  go_enter Try.func15,Try.ntmps15
  go_wp2_with (go_at_call 31;refine (HP.out _ ((Below.refl _ _).alloc (Nat.le_refl _) _)).mono ?_;rintro e w1 ⟨rfl,hb⟩;have HB1:=aside (plain_bel _ hb);clear hb)
  go_ret
  exact ⟨rfl,HB1.out⟩
end Go.Proofs.Ytohcgenhhgipcaa.PA
