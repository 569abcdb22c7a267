import Derived.Test.YtbggjmdelnmilaaGc
import Derived.BigQuiet
import Derived.WalkLawsBesides
namespace Go.Proofs.Ytbggjmdelnmilaa.PA
open Go.RowKit Go.Shelf Go.Proofs.YtbggjmdelnmilaaW.PrintWords Go.Proofs.YtbggjmdelnmilaaW.PrintLast Go.Proofs.YtbggjmdelnmilaaW.PrintMore
set_option linter.unusedVariables false
set_option linter.unusedSimpArgs false
abbrev bigN : Nat:=9223372036854775807
def strs (x : S39) : Prop:=x.f0.size ≤ bigN ∧ x.f3.size ≤ bigN ∧ x.f4.size ≤ bigN
def strsW (x : S36) : Prop:=x.f0.size ≤ bigN ∧ x.f3.size ≤ bigN
set_option maxHeartbeats 1000000 in
theorem c39_any (p : S39 → Bool) (g : Nat) (eg : ∀ args w, (callFunc g args).run Try.prog w = .ok (.enter g args) w) (A : Option Addr) (c : Nat) (l : List S39) (w : World) (b : Nat) (hc : w.cell? ⟨b, 0, none⟩ = some (.slice A l.length c)) (hr : Kd.C k39 w A l.length l) (hp : Pred39 l g #[] p w) :
  Calls Try.prog 39 #[.func (.func g) #[] #[],.pointer (some ⟨b,0,none⟩)] w fun e w'=>e = .returned (.bool (l.any p)) ∧ Below w.heap.size w w':=by
 have HA:=aside (any40 p g #[] eg A c l w hr hp);generalize l.any p = q at HA;clear hr hp
 go_enter Try.func39,Try.ntmps39
 go_wp2_with (go_at_call 40;refine HA.out.mono ?_;rintro e w1 ⟨rfl,hb⟩)
 go_ret
 exact ⟨rfl,hb⟩
def oosAt (l : List S39) (i : Nat) : Bool := !(Op.bytesLess (l.getD (i - 1) z39).f0.toList (l.getD i z39).f0.toList)
def unsB (l : List S39) : Bool:=(List.range l.length).any fun i=>decide (1 ≤ i) && oosAt l i
def checkR (l : List S39) : Int:=if 256 < l.length then 7 else if l.any badN = true then 4 else if l.any badR = true then 6 else if unsB l = true then 5 else 0
theorem uns_hit {l : List S39} {n : Nat} (h : n < l.length) (h1 : 1 ≤ n) (hd : oosAt l n = true) : unsB l = true:=by
 unfold unsB
 rw [List.any_eq_true];exact ⟨n,List.mem_range.2 h,by simp [h1,hd]⟩
theorem uns_not {l : List S39} (h : ∀ j,1 ≤ j → j < l.length → oosAt l j = false) : unsB l = false:=by
 unfold unsB
 rw [List.any_eq_false];intro j hj;by_cases h1 : 1 ≤ j
 ·rw [h j h1 (List.mem_range.1 hj)];simp
 ·simp [h1]
theorem cellB {W : World} {b ty : Nat} {cs : Array Value} (h : W.heap[b]? = some (.cells cs ty (0,0))) (i : Nat) (v : Value) (hv : cs[i]? = some v) : W.cell? ⟨b,i,none⟩ = some v:=by
 simp [World.cell?,h,hv]
theorem below_dN {w W : World} (h : Below w.heap.size w W) (n : Nat) : Below w.heap.size w (W.drewN n):=h.trans (Below.mono ⟨rfl,rfl,rfl,Nat.le_refl _,fun _ _=>rfl⟩ h.size)
set_option maxRecDepth 100000 in
set_option maxHeartbeats 4000000 in
theorem check_any (A : Option Addr) (c : Nat) (l : List S39) (w : World) (hr : Kd.C k39 w A l.length l) (hlc : l.length ≤ c) (hs : ∀ x ∈ l, strs x) :
  Calls Try.prog 17 #[.slice A l.length c] w fun e w'=>e = .returned (.int .i64 (checkR l)) ∧ Below w.heap.size w w':=by
 have hm:=Kd.C_max hr
 have C1 : ∀ W,Below w.heap.size w W → W.cell? ⟨w.heap.size,0,none⟩ = some (.slice A l.length c) → Calls Try.prog 39 #[.func (.func 41) #[] #[],.pointer (some ⟨w.heap.size,0,none⟩)] W fun e w'=>e = .returned (.bool (l.any badN)) ∧ Below W.heap.size W w':=fun W hB hc =>
  c39_any badN 41 eg41 A c l W _ hc (Kd.C_below hr hB) (fun W' x hx _=>c41_any x W' (hs x hx).1 (hs x hx).2.1 (hs x hx).2.2)
 have C2 : ∀ W,Below w.heap.size w W → W.cell? ⟨w.heap.size,0,none⟩ = some (.slice A l.length c) → Calls Try.prog 39 #[.func (.func 44) #[] #[],.pointer (some ⟨w.heap.size,0,none⟩)] W fun e w'=>e = .returned (.bool (l.any badR)) ∧ Below W.heap.size W w':=fun W hB hc =>
  c39_any badR 44 eg44 A c l W _ hc (Kd.C_below hr hB) (fun W' x hx _=>c44_any x W')
 obtain ⟨r,hR⟩ : ∃ r,checkR l = r:=⟨_,rfl⟩
 rw [hR]
 unfold checkR at hR
 generalize l.any badN = q1 at C1 hR;generalize l.any badR = q2 at C2 hR;have H1:=aside C1;have H2:=aside C2;have HR:=aside hr;have HQ:=aside hR
 clear C1 C2 hs hr hR;by_cases h256 : 256 < l.length
 ·have e7 : r = 7:=by rw [← HQ.out,if_pos h256]
  subst e7
  go_enter Try.func17,Try.ntmps17
  go_wp2
  go_ret
  exact ⟨rfl,(Below.refl _ _).alloc (Nat.le_refl _) _⟩
 ·cases q1 with
  | true =>
   have e4 : r = 4:=by rw [← HQ.out,if_neg h256];rfl
   subst e4
   go_enter Try.func17,Try.ntmps17
   go_wp2_with (go_at_call 39;refine (H1.out _ ?s1 ?s2).mono ?_;(case s1=>exact (Below.refl _ _).alloc (Nat.le_refl _) _);(case s2=>simp);rintro e w1 ⟨rfl,hb⟩;have HB:=aside (box_bel _ hb);clear hb)
   go_ret
   exact ⟨rfl,HB.out⟩
  | false =>
   cases q2 with
   | true =>
    have e6 : r = 6:=by rw [← HQ.out,if_neg h256];rfl
    subst e6
    go_enter Try.func17,Try.ntmps17
    go_wp2_with (first|(go_at_call 39;with_reducible refine (H1.out _ ?s1 ?s2).mono ?_;(case s1=>exact (Below.refl _ _).alloc (Nat.le_refl _) _);(case s2=>simp);rintro e w1 ⟨rfl,hb⟩;have c0 : w1.cell? ⟨w.heap.size,0,none⟩ = some (.slice A l.length c):=(hb.cell (p:=⟨w.heap.size,0,none⟩) (by simp)).trans (by simp);have HL:=aside (show w.heap.size < w1.heap.size from Nat.lt_of_lt_of_le (by simp) hb.size);have HB:=aside (box_bel _ hb);clear hb)|(go_at_call 39;refine (H2.out _ ?s1 ?s2).mono ?_;(case s1=>exact HB.out);(case s2=>exact c0);rintro e w2 ⟨rfl,hb⟩;have c1 : w2.cell? ⟨w.heap.size,0,none⟩ = some (.slice A l.length c):=(hb.cell (p:=⟨w.heap.size,0,none⟩) HL.out).trans c0;have HB2:=aside (HB.out.trans (hb.mono HB.out.size));have C2:=aside c1;clear hb))
    go_ret
    exact ⟨rfl,HB2.out⟩
   | false =>
    have hz : (if unsB l = true then 5 else 0) = r:=by rw [← HQ.out,if_neg h256];rfl
    have HZ:=aside hz;clear hz HQ
    go_enter Try.func17,Try.ntmps17
    go_wp2_with (first|(go_at_call 39;with_reducible refine (H1.out _ ?s1 ?s2).mono ?_;(case s1=>exact (Below.refl _ _).alloc (Nat.le_refl _) _);(case s2=>simp);rintro e w1 ⟨rfl,hb⟩;have c0 : w1.cell? ⟨w.heap.size,0,none⟩ = some (.slice A l.length c):=(hb.cell (p:=⟨w.heap.size,0,none⟩) (by simp)).trans (by simp);have HL:=aside (show w.heap.size < w1.heap.size from Nat.lt_of_lt_of_le (by simp) hb.size);have HB:=aside (box_bel _ hb);clear hb)|(go_at_call 39;refine (H2.out _ ?s1 ?s2).mono ?_;(case s1=>exact HB.out);(case s2=>exact c0);rintro e w2 ⟨rfl,hb⟩;have c1 : w2.cell? ⟨w.heap.size,0,none⟩ = some (.slice A l.length c):=(hb.cell (p:=⟨w.heap.size,0,none⟩) HL.out).trans c0;have HB2:=aside (HB.out.trans (hb.mono HB.out.size));have C2:=aside c1;clear hb))
    go_loopg [4] l.length (fun gg v wr=>∃ n : Nat,1 ≤ n ∧ n ≤ l.length + 1 ∧ l.length - n ≤ gg ∧ v = .int .i64 n ∧ Aside (∀ j,1 ≤ j → j < n → j < l.length → oosAt l j = false) ∧ Aside (Below w.heap.size w wr) ∧ Aside (wr.cell? ⟨w.heap.size,0,none⟩ = some (.slice A l.length c)))
    case atStart=>exact ⟨1,by omega,by omega,by omega,rfl,(show Aside _ from fun j h1 hj=>by omega),HB2,C2⟩
    case round =>
     obtain ⟨n,hn1,hn,hg,rfl,D,B,CC⟩ := hrel;have hc0:=CC.out;by_cases hlt : n < l.length
     ·have hlt' : (n : Int) < (l.length : Int):=by omega
      have hw : IntKind.i64.wrap ((n : Int) - 1) = (n : Int) - 1:=(i64_w _).trans (by unfold wrap64;omega);obtain ⟨ad,hA,q0,_⟩ := at_T39 (Kd.C_below HR.out B.out) (n : Int) (by omega) (by omega);obtain ⟨ad2,hA2,p0,_⟩ := at_T39 (Kd.C_below HR.out B.out) (IntKind.i64.wrap ((n : Int) - 1)) (by rw [hw];omega) (by rw [hw];omega)
      have hw0 : 0 ≤ IntKind.i64.wrap ((n : Int) - 1):=by rw [hw];omega
      have hw1 : IntKind.i64.wrap ((n : Int) - 1) < (l.length : Int):=by rw [hw];omega
      have hx : rd_T39 l (n : Int) = l.getD n z39:=by unfold rd_T39;simp
      have hy : rd_T39 l (IntKind.i64.wrap ((n : Int) - 1)) = l.getD (n - 1) z39:=by rw [hw];unfold rd_T39;congr 1;omega
      rw [hx,Int.toNat_natCast] at q0;rw [hy] at p0;have ho : oosAt l n = !(Op.bytesLess (l.getD (n - 1) z39).f0.toList (l.getD n z39).f0.toList):=rfl;subst hA
      obtain rfl : ad = ad2:=by injection hA2
      generalize (l.getD (n - 1) z39).f0 = s1 at p0 ho;generalize (l.getD n z39).f0 = s2 at q0 ho;have HO:=aside ho;clear hx hy ho hA2 hw
      cases hb : Op.bytesLess s1.toList s2.toList with
      | true =>
       have HN:=aside (HO.out.trans (by rw [hb];rfl : _ = false))
       go_upto_region 11 with fail
       go_quiet (fail)
       go_wp2
       go_roundg (l.length - (n + 1))
       case measure=>omega
       case rel=>exact ⟨n + 1,by omega,by omega,by omega,by go_num,(show Aside _ from fun j h1 h2 h3=>by
        by_cases e : j = n
        (subst e;exact HN.out)
        ·exact D.out j h1 (by omega) h3),(show Aside _ from below_dN B.out _),CC⟩
      | false =>
       have e5 : r = 5:=by rw [← HZ.out,if_pos (uns_hit hlt hn1 (HO.out.trans (by rw [hb];rfl)))]
       subst e5
       go_upto_region 11 with fail
       go_quiet (fail)
       go_wp2
       go_ret
       exact ⟨rfl,below_dN B.out _⟩
     ·have e0 : r = 0:=by rw [← HZ.out,uns_not (fun j h1 h2=>D.out j h1 (by omega) h2)];rfl
      subst e0
      go_wp2
      go_ret
      exact ⟨rfl,B.out⟩
set_option maxHeartbeats 1000000 in
theorem wanted_any (A : Option Addr) (c : Nat) (l : List S36) (w : World) (hr : Kd.C k36 w A l.length l) (hs : ∀ x ∈ l, strsW x) :
  Calls Try.prog 63 #[.slice A l.length c] w fun e w'=>e = .returned (.int .i64 (if l.any wadN = true then 4 else if l.any wadR = true then 6 else 0)) ∧ Below w.heap.size w w':=by
 have H1 : Aside (Calls Try.prog 81 #[.slice A l.length c,.func (.func 82) #[] #[]] w fun e w'=>e = .returned (.bool (l.any wadN)) ∧ Below w.heap.size w w'):=any81 wadN 82 #[] eg82 A c l w hr (fun W x hx _=>c82_any x W (hs x hx).1 (hs x hx).2)
 have H2 : Aside (∀ W,Below w.heap.size w W → Calls Try.prog 81 #[.slice A l.length c,.func (.func 83) #[] #[]] W fun e w'=>e = .returned (.bool (l.any wadR)) ∧ Below W.heap.size W w'):=fun W hB=>any81 wadR 83 #[] eg83 A c l W (Kd.C_below hr hB) (fun W' x hx _=>c83_any x W')
 generalize l.any wadN = q1 at H1 ⊢;generalize l.any wadR = q2 at H2 ⊢;clear hs hr
 cases q1 with
 | true =>
  go_enter Try.func63,Try.ntmps63
  go_wp2_with (go_at_call 81;refine H1.out.mono ?_;rintro e w1 ⟨rfl,hb⟩)
  go_ret
  exact ⟨rfl,hb⟩
 | false =>
  cases q2 with
  | true =>
   go_enter Try.func63,Try.ntmps63
   go_wp2_with (first|(go_at_call 81;with_reducible refine H1.out.mono ?_;rintro e w1 ⟨rfl,hb⟩;have HB:=aside hb;clear hb)|(go_at_call 81;refine (H2.out _ HB.out).mono ?_;rintro e w2 ⟨rfl,hb⟩;have HB2:=aside (HB.out.trans (hb.mono HB.out.size));clear hb))
   go_ret
   exact ⟨rfl,HB2.out⟩
  | false =>
   go_enter Try.func63,Try.ntmps63
   go_wp2_with (first|(go_at_call 81;with_reducible refine H1.out.mono ?_;rintro e w1 ⟨rfl,hb⟩;have HB:=aside hb;clear hb)|(go_at_call 81;refine (H2.out _ HB.out).mono ?_;rintro e w2 ⟨rfl,hb⟩;have HB2:=aside (HB.out.trans (hb.mono HB.out.size));clear hb))
   go_ret
   exact ⟨rfl,HB2.out⟩
end Go.Proofs.Ytbggjmdelnmilaa.PA
