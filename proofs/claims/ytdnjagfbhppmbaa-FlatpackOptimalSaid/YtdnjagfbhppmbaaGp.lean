import Derived.Test.YtdnjagfbhppmbaaGc
import Derived.Test.YtdnjagfbhppmbaaGd
namespace Go.Proofs.Ytdnjagfbhppmbaa.PA
open Go.RowKit Go.Shelf Go.Proofs.YtdnjagfbhppmbaaW.PrintWords Go.Proofs.YtdnjagfbhppmbaaW.PrintLast Go.Proofs.YtdnjagfbhppmbaaW.PrintMore
set_option linter.unusedVariables false
set_option linter.unusedSimpArgs false
def PredI (l : List Int) (g : Nat) (lb : Array Value) (p : Int → Bool) (w : World) : Prop :=
 ∀ (W : World) (x : Int),x ∈ l → Below w.heap.size w W → Calls Try.prog g (#[.int .i64 x] ++ lb) W fun e w'=>e = .returned (.bool (p x)) ∧ Below W.heap.size W w'
set_option maxHeartbeats 400000 in
theorem idx58 (p : Int → Bool) (g : Nat) (lb : Array Value) (eg : ∀ args w, (callFunc g args).run Try.prog w = .ok (.enter g args) w) (A : Option Addr) (c : Nat) (l : List Int) (w : World) (hr : Kd.C (Kd.int .i64) w A l.length l) (hp : PredI l g lb p w) :
  Calls Try.prog 58 #[.slice A l.length c,.func (.func g) #[] lb] w fun e w'=>e = .returned (.int .i64 (idxOf p l)) ∧ Below w.heap.size w w':=by
 have hm:=Kd.C_max hr;have HR:=aside hr;have HP:=aside hp;clear hr hp
 go_enter Try.func58,Try.ntmps58
 go_wp2
 go_loopg [8] l.length (fun gg v wr=>∃ n : Nat,n ≤ l.length ∧ l.length - n ≤ gg ∧ v = .int .i64 n ∧ Aside (∀ j (h : j < l.length),j < n → p l[j] = false) ∧ Aside (Below w.heap.size w wr))
 case atStart=>exact ⟨0,by omega,by omega,rfl,(show Aside _ from fun j h hj=>absurd hj (Nat.not_lt_zero _)),Below.refl _ _⟩
 case round =>
  obtain ⟨n,hn,hg,rfl,A1,B⟩ := hrel;by_cases hlt : n < l.length
  ·have hlt' : (n : Int) < (l.length : Int):=by omega
   obtain ⟨ad,hA,q0⟩ := Kd.at_int (Kd.C_below HR.out B.out) (n : Int) (by omega) (by omega)
   have hx : rd l (n : Int) = l[n] := by unfold rd;simp [List.getD,hlt]
   rw [hx] at q0;simp only [Int.toNat_natCast] at q0;have hcall:=HP.out wr l[n] (List.getElem_mem hlt) B.out
   obtain ⟨y,hy⟩ : ∃ y,l[n] = y:=⟨_,rfl⟩
   rw [hy] at q0 hcall;have HY:=aside hy;clear hx hy HP;subst hA
   cases hq : p y with
   | true =>
    rw [hq] at hcall;have HQ:=aside hq;clear hq
    go_wp2_with (go_at_fn g;refine hcall.mono ?_;rintro e w' ⟨rfl,hb'⟩)
    go_ret
    exact ⟨ret_i64 (by rw [idxOf_hit p l n hlt (by rw [HY.out];exact HQ.out) A1.out]),B.out.trans (hb'.mono B.out.size)⟩
   | false =>
    rw [hq] at hcall;have HQ:=aside hq;clear hq
    go_wp2_with (go_at_fn g;refine hcall.mono ?_;rintro e w' ⟨rfl,hb'⟩)
    go_roundg (l.length - (n + 1))
    case measure=>omega
    case rel =>
     refine ⟨n + 1,by omega,by omega,by go_num,(show Aside _ from fun j h hj=>?_),B.out.trans (hb'.mono B.out.size)⟩
     by_cases e : j = n
     (subst e;rw [HY.out];exact HQ.out);(exact A1.out j h (by omega))
  ·obtain rfl : n = l.length:=by omega
   go_wp2
   go_ret
   exact ⟨ret_i64 (by rw [idxOf_miss p l (fun j h=>A1.out j h h)]),B.out⟩
set_option maxHeartbeats 400000 in
theorem any38 (p : Int → Bool) (g : Nat) (lb : Array Value) (eg : ∀ args w, (callFunc g args).run Try.prog w = .ok (.enter g args) w) (A : Option Addr) (c : Nat) (l : List Int) (w : World) (hr : Kd.C (Kd.int .i64) w A l.length l) (hp : PredI l g lb p w) :
  Calls Try.prog 38 #[.slice A l.length c,.func (.func g) #[] lb] w fun e w'=>e = .returned (.bool (l.any p)) ∧ Below w.heap.size w w':=by
 have HI:=aside (idx58 p g lb eg A c l w hr hp);have ha:=idxOf_any p l;generalize l.any p = q at ha ⊢;generalize idxOf p l = i at ha HI;subst ha;clear hp hr
 go_enter Try.func38,Try.ntmps38
 go_wp2_with (go_at_call 58;refine HI.out.mono ?_;rintro e w1 ⟨rfl,hb⟩)
 go_ret
 exact ⟨rfl,hb⟩
def badN (n : Int) : Bool:=decide (n < 0) || decide (1000000000000000 < n)
set_option maxHeartbeats 400000 in
theorem c39_any (n : Int) (w : World) : Calls Try.prog 39 #[.int .i64 n] w fun e w'=>e = .returned (.bool (badN n)) ∧ Below w.heap.size w w':=by
 unfold badN
 by_cases h1 : n < 0
 ·go_enter Try.func39,Try.ntmps39
  go_wp2
  go_ret
  exact ⟨ok_bool (by simp [h1]),Below.refl _ _⟩
 ·have H1:=aside h1
  go_enter Try.func39,Try.ntmps39
  go_wp2
  go_ret
  exact ⟨ok_bool (by have:=H1.out;simp;omega),Below.refl _ _⟩
theorem eg39 : ∀ args w,(callFunc 39 args).run Try.prog w = .ok (.enter 39 args) w:=enters_of Try.func39 (by kernel_rfl) rfl
theorem any38_39 (A : Option Addr) (c : Nat) (l : List Int) (w : World) (hr : Kd.C (Kd.int .i64) w A l.length l) :
  Calls Try.prog 38 #[.slice A l.length c,.func (.func 39) #[] #[]] w fun e w'=>e = .returned (.bool (l.any badN)) ∧ Below w.heap.size w w':=any38 badN 39 #[] eg39 A c l w hr (fun W x _ _=>c39_any x W)
def G (t : List (List Int)) (a b : Nat) : Int:=rd (rd_L5 t (a : Int)) (b : Int)
def cA (t : List (List Int)) (kf l w a : Nat) : Prop := ∀ c,a ≤ c → c + kf < l → ¬ G t l w < wrap64 (G t c w + G t (l - c - kf) w)
def cB (t : List (List Int)) (kf l w b : Nat) : Prop := ∀ c,b ≤ c → c + kf < w → ¬ G t l w < wrap64 (G t l c + G t l (w - c - kf))
def iOK (L Wd : Nat) (t : List (List Int)) (x : S36) : Prop:=x.f1.f0 ≤ (L : Int) → x.f1.f1 ≤ (Wd : Int) → ¬ G t x.f1.f0.toNat x.f1.f1.toNat < x.f2
def rowOK (Wd : Nat) (t : List (List Int)) (i : Nat) : Prop:=(rd_L5 t (i : Int)).length = Wd + 1 ∧ (rd_L5 t (i : Int)).any badN = false
def sound (L Wd kf : Nat) (t : List (List Int)) (items : List S36) : Prop :=
 t.length = L + 1 ∧ (∀ j,j < t.length → rowOK Wd t j) ∧ (∀ j,0 ≤ j → j < items.length → iOK L Wd t (items.getD j z36)) ∧ ∀ a,1 ≤ a → a ≤ L → ∀ c,1 ≤ c → c ≤ Wd → cA t kf a c 1 ∧ cB t kf a c 1
theorem below_tr {a b c : World} (h : Below a.heap.size a b) (k : Below b.heap.size b c) : Below a.heap.size a c:=h.trans (k.mono h.size)
theorem below_al {a b : World} (h : Below a.heap.size a b) (o : Obj) : Below a.heap.size a (b.alloc o):=h.alloc h.size o
theorem below_drewN_any2 {w : World} (n : Nat) : Below w.heap.size w (w.drewN n):=⟨rfl,rfl,rfl,Nat.le_refl _,fun _ _=>rfl⟩
theorem wrapI {n : Int} (h : -9223372036854775808 ≤ n) (h2 : n ≤ 9223372036854775807) : IntKind.i64.wrap n = n:=IntWalk.i64_in _ (by omega)
theorem boolR {q : Bool} (h : ¬ q = true) : Ending.returned (.bool false) = .returned (.bool q):=by cases q <;> simp_all
theorem boolT {q : Bool} (h : q = true) : Ending.returned (.bool true) = .returned (.bool q):=by rw [h]
def doneL (Wd kf : Nat) (t : List (List Int)) (l : Nat) : Prop := ∀ a,1 ≤ a → a < l → ∀ c,1 ≤ c → c ≤ Wd → cA t kf a c 1 ∧ cB t kf a c 1
def doneW (kf : Nat) (t : List (List Int)) (l w : Nat) : Prop := ∀ c,1 ≤ c → c < w → cA t kf l c 1 ∧ cB t kf l c 1
def doneA (kf : Nat) (t : List (List Int)) (l w a : Nat) : Prop := ∀ c,1 ≤ c → c < a → c + kf < l → ¬ G t l w < wrap64 (G t c w + G t (l - c - kf) w)
def doneB (kf : Nat) (t : List (List Int)) (l w b : Nat) : Prop := ∀ c,1 ≤ c → c < b → c + kf < w → ¬ G t l w < wrap64 (G t l c + G t l (w - c - kf))
set_option maxRecDepth 100000 in
set_option maxHeartbeats 8000000 in
theorem proves_ok (L Wd kf : Nat) (hL : 1 ≤ L ∧ L ≤ 40) (hW : 1 ≤ Wd ∧ Wd ≤ 40) (hk : kf ≤ 40) (A2 : Option Addr) (c2 : Nat) (l2 : List S36) (A4 : Option Addr) (c4 : Nat) (t : List (List Int)) (w : World) (hr2 : Kd.C k36 w A2 l2.length l2) (hr4 : Kd.C (Kd.slice 2 (Kd.int .i64)) w A4 t.length t)
  (hl2 : l2.length ≤ 1000) (hv : ∀ x ∈ l2,1 ≤ x.f1.f0 ∧ 1 ≤ x.f1.f1)
  (hck : ∀ W,Below w.heap.size w W → Calls Try.prog 30 #[.int .i64 L,.int .i64 Wd,.slice A2 l2.length c2,.int .i64 kf] W fun e w'=>e = .returned (.int .i64 0) ∧ Below W.heap.size W w')
  (q : Bool) (hq : q = true ↔ sound L Wd kf t l2) (hlen : t.length = L + 1) :
  Calls Try.prog 25 #[.int .i64 L,.int .i64 Wd,.slice A2 l2.length c2,.int .i64 kf,.slice A4 t.length c4] w fun e w'=>e = .returned (.bool q) ∧ Below w.heap.size w w':=by
 have HQ:=aside hq;have HR2:=aside hr2;have HR4:=aside hr4;have HV:=aside hv;have HCK:=aside (hck w (Below.refl _ _))
 have hb1 : ((t.length : Int) != (L : Int) + 1) = false:=by simp;omega
 have HLEN:=aside hlen;clear hq hr2 hr4 hv hck hlen
 go_enter Try.func25,Try.ntmps25
 go_wp2_with (go_at_call 30;refine HCK.out.mono ?_;rintro e w1 ⟨rfl,hb⟩;have B1:=aside hb;clear hb)
 clear hb1 HCK
 go_loopg [34] t.length (fun gg v wr=>∃ i : Nat,i ≤ t.length ∧ t.length - i ≤ gg ∧ v = .int .i64 i ∧ Aside (∀ j,j < i → rowOK Wd t j) ∧ Aside (Below w.heap.size w wr))
 case atStart=>exact ⟨0,by omega,by omega,rfl,(show Aside _ from fun j hj=>absurd hj (Nat.not_lt_zero _)),B1⟩
 clear B1
 case round =>
  obtain ⟨i,hi,hg,rfl,D,B⟩ := hrel;have hlen:=HLEN.out
  have hbd : t.length ≤ 41:=by omega
  by_cases hlt : i < t.length
  ·have hlt' : (i : Int) < (t.length : Int):=by omega
   obtain ⟨ad,A0,c0,hA,q0,hc0,hC0⟩ := at_L5 (Kd.C_below HR4.out B.out) (i : Int) (by omega) (by omega);simp only [Int.toNat_natCast] at q0
   obtain ⟨row,hrow⟩ : ∃ row,rd_L5 t (i : Int) = row:=⟨_,rfl⟩
   rw [hrow] at q0 hC0 hc0;have HROW:=aside hrow;have CA:=any38_39 A0 c0 row wr hC0;subst hA;by_cases hrl : row.length = Wd + 1
   ·have hb2 : ((row.length : Int) != (Wd : Int) + 1) = false:=by simp;omega
    cases ha : row.any badN with
    | true =>
     rw [ha] at CA;have HCA:=aside CA
     have hns : ¬ q = true:=fun h=>by
      have h2:=(HQ.out.1 h).2.1 i hlt
      unfold rowOK at h2
      rw [HROW.out,ha] at h2;exact absurd h2.2 (by simp)
     have HNS:=aside hns;clear CA hrow hC0 hrl ha hns hlen
     go_wp2_with (go_at_call 38;refine HCA.out.mono ?_;rintro e w2 ⟨rfl,hb⟩;have B2:=aside (below_tr B.out hb);clear hb)
     go_ret
     exact ⟨boolR HNS.out,B2.out⟩
    | false =>
     rw [ha] at CA;have HCA:=aside CA
     have HOK : Aside (rowOK Wd t i):=by
      show rowOK Wd t i
      unfold rowOK;rw [HROW.out];exact ⟨hrl,ha⟩
     clear CA hrow hC0 hrl ha hlen
     go_wp2_with (go_at_call 38;refine HCA.out.mono ?_;rintro e w2 ⟨rfl,hb⟩;have B2:=aside (below_tr B.out hb);clear hb)
     go_roundg (t.length - (i + 1))
     case measure=>omega
     case rel =>
      refine ⟨i + 1,by omega,by omega,by go_num,(show Aside _ from fun j hj=>?_),B2⟩
      by_cases e : j = i
      (subst e;exact HOK.out);(exact D.out j (by omega))
   ·have hb2 : ((row.length : Int) != (Wd : Int) + 1) = true:=by simp;omega
    have hns : ¬ q = true:=fun h=>by
     have h2:=(HQ.out.1 h).2.1 i hlt
     unfold rowOK at h2
     rw [HROW.out] at h2;exact hrl h2.1
    have HNS:=aside hns;clear CA hrow hC0 hrl hns hlen
    go_wp2
    go_ret
    exact ⟨boolR HNS.out,B.out⟩
  ·obtain rfl : i = t.length:=by omega
   have HRO:=aside D.out;have hge : (t.length : Int) ≤ (t.length : Int):=Int.le_refl _;clear hg hlt hi D hlen
   go_wp2
   clear hge
   go_loopg [50] l2.length (fun gg v wr=>∃ i : Nat,i ≤ l2.length ∧ l2.length - i ≤ gg ∧ v = .int .i64 i ∧ Aside (∀ j,j < i → iOK L Wd t (l2.getD j z36)) ∧ Aside (Below w.heap.size w wr))
   case atStart=>exact ⟨0,by omega,by omega,rfl,(show Aside _ from fun j hj=>absurd hj (Nat.not_lt_zero _)),B⟩
   clear B
   case round =>
    obtain ⟨i,hi,hg,rfl,D,B⟩ := hrel;by_cases hlt : i < l2.length
    ·have hlt' : (i : Int) < (l2.length : Int):=by omega
     obtain ⟨ad,hA,q0,q1,q2,q3,q4,q5,q6⟩ := at_T36 (Kd.C_below HR2.out B.out) (i : Int) (by omega) (by omega)
     have hx : rd_T36 l2 (i : Int) = l2.getD i z36:=by unfold rd_T36;simp
     have hm : l2.getD i z36 ∈ l2:=by
      rw [List.getD_eq_getElem?_getD,List.getElem?_eq_getElem hlt];exact List.getElem_mem _
     obtain ⟨v1,v2⟩ := HV.out _ hm;rw [hx] at q0 q1 q2 q3 q4 q5 q6;simp only [Int.toNat_natCast] at q0 q1 q2 q3 q4 q5 q6
     obtain ⟨y,hy⟩ : ∃ y,l2.getD i z36 = y:=⟨_,rfl⟩
     rw [hy] at q0 q1 q2 q3 q4 q5 q6 v1 v2;have HY:=aside hy
     obtain ⟨a,ha⟩ : ∃ a : Nat,y.f1.f0 = a:=⟨y.f1.f0.toNat,by omega⟩
     obtain ⟨b,hb⟩ : ∃ b : Nat,y.f1.f1 = b:=⟨y.f1.f1.toNat,by omega⟩
     rw [ha] at q1 v1;rw [hb] at q2 v2;have HAa:=aside ha;have HBb:=aside hb;subst hA;clear hx hm hy ha hb;by_cases hxl : a ≤ L
     ·by_cases hyl : b ≤ Wd
      ·have hlen:=HLEN.out;have hrl:=(HRO.out a (by omega)).1;obtain ⟨adT,A0,c0,hAT,t0,hc0,hC0⟩ := at_L5 (Kd.C_below HR4.out (below_al B.out (.cells #[.string y.f0,.int .i64 a,.int .i64 b,.int .i64 y.f1.f2,.int .i64 y.f2,.int .i64 y.f3,.int .i64 y.f4] 36))) (a : Int) (by omega) (by omega);simp only [Int.toNat_natCast] at t0
       obtain ⟨row,hrow⟩ : ∃ row,rd_L5 t (a : Int) = row:=⟨_,rfl⟩
       rw [hrow] at t0 hC0 hc0 hrl;obtain ⟨ad0,hA0,t1⟩ := Kd.at_int hC0 (b : Int) (by omega) (by omega);simp only [Int.toNat_natCast] at t1
       obtain ⟨g,hgv⟩ : ∃ g,rd row (b : Int) = g:=⟨_,rfl⟩
       rw [hgv] at t1
       have HG : Aside (G t y.f1.f0.toNat y.f1.f1.toNat = g):=by
        show _ = _
        rw [HAa.out,HBb.out,Int.toNat_natCast,Int.toNat_natCast];unfold G;rw [hrow,hgv]
       subst hAT hA0;have g1 : ((a : Int) ≤ (L : Int)) = True:=eq_true (by omega);have g2 : ((b : Int) ≤ (Wd : Int)) = True:=eq_true (by omega);have g3 : ((a : Int) < (t.length : Int)) = True:=eq_true (by omega);have g4 : ((b : Int) < (row.length : Int)) = True:=eq_true (by omega);have g5 : (a ≤ L) = True:=eq_true hxl;have g6 : (b ≤ Wd) = True:=eq_true hyl;have g7 : (a < t.length) = True:=eq_true (by omega);have g8 : (b < row.length) = True:=eq_true (by omega);clear hrow hgv hC0 hc0 hrl hxl hyl v1 v2 hlen;by_cases hlv : g < y.f2
       ·have hns : ¬ q = true := fun h => by
         have h2:=(HQ.out.1 h).2.2.1 i (Nat.zero_le _) hlt;rw [HY.out] at h2
         unfold iOK at h2
         rw [HG.out] at h2;exact h2 (by rw [HAa.out];simpa using g1) (by rw [HBb.out];simpa using g2) hlv
        have HNS:=aside hns;have g9 : decide (g < y.f2) = true:=decide_eq_true hlv;clear hns
        go_wp2
        have hb1:=below_al (B.out) (.cells #[.string y.f0,.int .i64 a,.int .i64 b,.int .i64 y.f1.f2,.int .i64 y.f2,.int .i64 y.f3,.int .i64 y.f4] 36)
        have x1 : (wr.alloc (.cells #[.string y.f0,.int .i64 a,.int .i64 b,.int .i64 y.f1.f2,.int .i64 y.f2,.int .i64 y.f3,.int .i64 y.f4] 36)).cell? ⟨wr.heap.size,1,none⟩ = some (.int .i64 a):=by simp
        have x2 : (wr.alloc (.cells #[.string y.f0,.int .i64 a,.int .i64 b,.int .i64 y.f1.f2,.int .i64 y.f2,.int .i64 y.f3,.int .i64 y.f4] 36)).cell? ⟨wr.heap.size,2,none⟩ = some (.int .i64 b):=by simp
        have x3 : (wr.alloc (.cells #[.string y.f0,.int .i64 a,.int .i64 b,.int .i64 y.f1.f2,.int .i64 y.f2,.int .i64 y.f3,.int .i64 y.f4] 36)).cell? ⟨wr.heap.size,4,none⟩ = some (.int .i64 y.f2):=by simp
        have BW:=aside hb1;clear q0 q1 q2 q3 q4 q5 q6 hb1;generalize (wr.alloc (.cells #[.string y.f0,.int .i64 a,.int .i64 b,.int .i64 y.f1.f2,.int .i64 y.f2,.int .i64 y.f3,.int .i64 y.f4] 36)) = W at *
        go_quiet (fail)
        go_wp2
        go_ret
        exact ⟨boolR HNS.out,below_tr BW.out (below_drewN_any2 _)⟩
       ·have IOK : Aside (iOK L Wd t y) := by
         show iOK L Wd t y
         intro _ _;rw [HG.out];exact hlv
        have g9 : decide (g < y.f2) = false:=decide_eq_false hlv
        go_wp2
        have hb1:=below_al (B.out) (.cells #[.string y.f0,.int .i64 a,.int .i64 b,.int .i64 y.f1.f2,.int .i64 y.f2,.int .i64 y.f3,.int .i64 y.f4] 36)
        have x1 : (wr.alloc (.cells #[.string y.f0,.int .i64 a,.int .i64 b,.int .i64 y.f1.f2,.int .i64 y.f2,.int .i64 y.f3,.int .i64 y.f4] 36)).cell? ⟨wr.heap.size,1,none⟩ = some (.int .i64 a):=by simp
        have x2 : (wr.alloc (.cells #[.string y.f0,.int .i64 a,.int .i64 b,.int .i64 y.f1.f2,.int .i64 y.f2,.int .i64 y.f3,.int .i64 y.f4] 36)).cell? ⟨wr.heap.size,2,none⟩ = some (.int .i64 b):=by simp
        have x3 : (wr.alloc (.cells #[.string y.f0,.int .i64 a,.int .i64 b,.int .i64 y.f1.f2,.int .i64 y.f2,.int .i64 y.f3,.int .i64 y.f4] 36)).cell? ⟨wr.heap.size,4,none⟩ = some (.int .i64 y.f2):=by simp
        have BW:=aside hb1;clear q0 q1 q2 q3 q4 q5 q6 hb1;generalize (wr.alloc (.cells #[.string y.f0,.int .i64 a,.int .i64 b,.int .i64 y.f1.f2,.int .i64 y.f2,.int .i64 y.f3,.int .i64 y.f4] 36)) = W at *
        go_quiet (fail)
        go_wp2
        go_roundg (l2.length - (i + 1))
        case measure=>omega
        case rel =>
         refine ⟨i + 1,by omega,by omega,by go_num,(show Aside _ from fun j hj=>?_),below_tr BW.out (below_drewN_any2 _)⟩
         by_cases e : j = i
         (subst e;rw [HY.out];exact IOK.out);(exact D.out j (by omega))
      ·have IOK : Aside (iOK L Wd t y):=fun _ h=>by rw [HBb.out] at h;omega
       have g1 : decide ((a : Int) ≤ (L : Int)) = true:=decide_eq_true (by omega);have g2 : decide ((b : Int) ≤ (Wd : Int)) = false:=decide_eq_false (by omega);have g5 : decide (a ≤ L) = true:=decide_eq_true hxl;have g6 : decide (b ≤ Wd) = false:=decide_eq_false hyl;clear hxl hyl v1 v2
       go_wp2
       have hb1:=below_al (B.out) (.cells #[.string y.f0,.int .i64 a,.int .i64 b,.int .i64 y.f1.f2,.int .i64 y.f2,.int .i64 y.f3,.int .i64 y.f4] 36)
       have x1 : (wr.alloc (.cells #[.string y.f0,.int .i64 a,.int .i64 b,.int .i64 y.f1.f2,.int .i64 y.f2,.int .i64 y.f3,.int .i64 y.f4] 36)).cell? ⟨wr.heap.size,1,none⟩ = some (.int .i64 a):=by simp
       have x2 : (wr.alloc (.cells #[.string y.f0,.int .i64 a,.int .i64 b,.int .i64 y.f1.f2,.int .i64 y.f2,.int .i64 y.f3,.int .i64 y.f4] 36)).cell? ⟨wr.heap.size,2,none⟩ = some (.int .i64 b):=by simp
       have x3 : (wr.alloc (.cells #[.string y.f0,.int .i64 a,.int .i64 b,.int .i64 y.f1.f2,.int .i64 y.f2,.int .i64 y.f3,.int .i64 y.f4] 36)).cell? ⟨wr.heap.size,4,none⟩ = some (.int .i64 y.f2):=by simp
       have BW:=aside hb1;clear q0 q1 q2 q3 q4 q5 q6 hb1;generalize (wr.alloc (.cells #[.string y.f0,.int .i64 a,.int .i64 b,.int .i64 y.f1.f2,.int .i64 y.f2,.int .i64 y.f3,.int .i64 y.f4] 36)) = W at *
       go_quiet (fail)
       go_wp2
       go_roundg (l2.length - (i + 1))
       case measure=>omega
       case rel =>
        refine ⟨i + 1,by omega,by omega,by go_num,(show Aside _ from fun j hj=>?_),below_tr BW.out (below_drewN_any2 _)⟩
        by_cases e : j = i
        (subst e;rw [HY.out];exact IOK.out);(exact D.out j (by omega))
     ·have IOK : Aside (iOK L Wd t y):=fun h _=>by rw [HAa.out] at h;omega
      have g1 : decide ((a : Int) ≤ (L : Int)) = false:=decide_eq_false (by omega);have g5 : decide (a ≤ L) = false:=decide_eq_false hxl;clear hxl v1 v2
      go_wp2
      have hb1:=below_al (B.out) (.cells #[.string y.f0,.int .i64 a,.int .i64 b,.int .i64 y.f1.f2,.int .i64 y.f2,.int .i64 y.f3,.int .i64 y.f4] 36)
      have x1 : (wr.alloc (.cells #[.string y.f0,.int .i64 a,.int .i64 b,.int .i64 y.f1.f2,.int .i64 y.f2,.int .i64 y.f3,.int .i64 y.f4] 36)).cell? ⟨wr.heap.size,1,none⟩ = some (.int .i64 a):=by simp
      have x2 : (wr.alloc (.cells #[.string y.f0,.int .i64 a,.int .i64 b,.int .i64 y.f1.f2,.int .i64 y.f2,.int .i64 y.f3,.int .i64 y.f4] 36)).cell? ⟨wr.heap.size,2,none⟩ = some (.int .i64 b):=by simp
      have x3 : (wr.alloc (.cells #[.string y.f0,.int .i64 a,.int .i64 b,.int .i64 y.f1.f2,.int .i64 y.f2,.int .i64 y.f3,.int .i64 y.f4] 36)).cell? ⟨wr.heap.size,4,none⟩ = some (.int .i64 y.f2):=by simp
      have BW:=aside hb1;clear q0 q1 q2 q3 q4 q5 q6 hb1;generalize (wr.alloc (.cells #[.string y.f0,.int .i64 a,.int .i64 b,.int .i64 y.f1.f2,.int .i64 y.f2,.int .i64 y.f3,.int .i64 y.f4] 36)) = W at *
      go_quiet (fail)
      go_wp2
      go_roundg (l2.length - (i + 1))
      case measure=>omega
      case rel =>
       refine ⟨i + 1,by omega,by omega,by go_num,(show Aside _ from fun j hj=>?_),below_tr BW.out (below_drewN_any2 _)⟩
       by_cases e : j = i
       (subst e;rw [HY.out];exact IOK.out);(exact D.out j (by omega))
    ·obtain rfl : i = l2.length:=by omega
     have hge : (l2.length : Int) ≤ (l2.length : Int):=Int.le_refl _;have IO:=aside D.out;clear hg hlt hi D
     go_wp2
     clear hge
     go_loopg [15] L (fun gg v wr=>∃ l : Nat,1 ≤ l ∧ l ≤ L + 1 ∧ L + 1 - l ≤ gg ∧ v = .int .i64 l ∧ Aside (doneL Wd kf t l) ∧ Aside (Below w.heap.size w wr))
     case atStart=>exact ⟨1,by omega,by omega,by omega,rfl,(show Aside _ from fun a h1 h2=>by omega),B⟩
     clear B
     case round =>
      obtain ⟨l,hl1,hl2',hg,rfl,DL,B⟩ := hrel;by_cases hlt : l ≤ L
      ·have k1 : ((l : Int) ≤ (L : Int)) = True:=eq_true (by omega);have k2 : (l ≤ L) = True:=eq_true hlt;have hgl:=aside hg;clear hg
       go_wp2
       clear k1 k2
       go_loopg [16] (Wd + 1) (fun gg v wr=>∃ w_ : Nat,1 ≤ w_ ∧ w_ ≤ Wd + 1 ∧ Wd + 1 - w_ ≤ gg ∧ v = .int .i64 w_ ∧ Aside (doneW kf t l w_) ∧ Aside (Below w.heap.size w wr))
       case atStart=>exact ⟨1,by omega,by omega,by omega,rfl,(show Aside _ from fun c h1 h2=>by omega),B⟩
       clear B
       case round =>
        obtain ⟨w_,hw1,hw2,hg,rfl,DW,B⟩ := hrel;by_cases hlw : w_ ≤ Wd
        ·have k1 : ((w_ : Int) ≤ (Wd : Int)) = True:=eq_true (by omega);have k2 : (w_ ≤ Wd) = True:=eq_true hlw;have hgw:=aside hg;clear hg
         go_wp2
         clear k1 k2
         go_loopg [17] l (fun gg v wr=>∃ a : Nat,1 ≤ a ∧ (a = 1 ∨ a + kf ≤ l) ∧ l - a ≤ gg ∧ v = .int .i64 a ∧ Aside (doneA kf t l w_ a) ∧ Aside (Below w.heap.size w wr))
         case atStart=>exact ⟨1,by omega,by omega,by omega,rfl,(show Aside _ from fun c h1 h2=>by omega),B⟩
         clear B
         case round =>
          obtain ⟨a,ha1,ha2,hg,rfl,DA,B⟩ := hrel;have hlen:=HLEN.out;by_cases hin : a + kf + 1 ≤ l
          ·obtain ⟨p,hp⟩ : ∃ p,l - a - kf = p:=⟨_,rfl⟩
           have hin1 : (1 : Int) ≤ (p : Int):=by omega
           obtain ⟨ad0,A0,c00,hA0,t0,hc0,hC0⟩ := at_L5 (Kd.C_below HR4.out B.out) (l : Int) (by omega) (by omega);subst hA0;simp only [Int.toNat_natCast] at t0;have hrl0:=(HRO.out l (by omega)).1
           obtain ⟨row0,hrow0⟩ : ∃ row,rd_L5 t (l : Int) = row:=⟨_,rfl⟩
           rw [hrow0] at t0 hC0 hc0 hrl0;obtain ⟨ae0,hE0,u0⟩ := Kd.at_int hC0 (w_ : Int) (by omega) (by omega);subst hE0;simp only [Int.toNat_natCast] at u0
           obtain ⟨g1,hgv0⟩ : ∃ g,rd row0 (w_ : Int) = g:=⟨_,rfl⟩
           rw [hgv0] at u0
           have HG1 : Aside (G t l w_ = g1):=by show _ = _;unfold G;rw [hrow0,hgv0]
           have n0 : ((w_ : Int) < (row0.length : Int)) = True:=eq_true (by omega);have n0b : (w_ < row0.length) = True:=eq_true (by omega);obtain ⟨ad1,A1,c01,hA1,t1,hc1,hC1⟩ := at_L5 (Kd.C_below HR4.out B.out) (a : Int) (by omega) (by omega);obtain rfl:=Option.some.inj hA1;simp only [Int.toNat_natCast] at t1;have hrl1:=(HRO.out a (by omega)).1
           obtain ⟨row1,hrow1⟩ : ∃ row,rd_L5 t (a : Int) = row:=⟨_,rfl⟩
           rw [hrow1] at t1 hC1 hc1 hrl1;obtain ⟨ae1,hE1,u1⟩ := Kd.at_int hC1 (w_ : Int) (by omega) (by omega);subst hE1;simp only [Int.toNat_natCast] at u1
           obtain ⟨g2,hgv1⟩ : ∃ g,rd row1 (w_ : Int) = g:=⟨_,rfl⟩
           rw [hgv1] at u1
           have HG2 : Aside (G t a w_ = g2):=by show _ = _;unfold G;rw [hrow1,hgv1]
           have n1 : ((w_ : Int) < (row1.length : Int)) = True:=eq_true (by omega);have n1b : (w_ < row1.length) = True:=eq_true (by omega);obtain ⟨ad2,A2,c02,hA2,t2,hc2,hC2⟩ := at_L5 (Kd.C_below HR4.out B.out) (p : Int) (by omega) (by omega);obtain rfl:=Option.some.inj hA2;simp only [Int.toNat_natCast] at t2;have hrl2:=(HRO.out p (by omega)).1
           obtain ⟨row2,hrow2⟩ : ∃ row,rd_L5 t (p : Int) = row:=⟨_,rfl⟩
           rw [hrow2] at t2 hC2 hc2 hrl2;obtain ⟨ae2,hE2,u2⟩ := Kd.at_int hC2 (w_ : Int) (by omega) (by omega);subst hE2;simp only [Int.toNat_natCast] at u2
           obtain ⟨g3,hgv2⟩ : ∃ g,rd row2 (w_ : Int) = g:=⟨_,rfl⟩
           rw [hgv2] at u2
           have HG3 : Aside (G t p w_ = g3):=by show _ = _;unfold G;rw [hrow2,hgv2]
           have n2 : ((w_ : Int) < (row2.length : Int)) = True:=eq_true (by omega);have n2b : (w_ < row2.length) = True:=eq_true (by omega);have m0 : ((l : Int) < (t.length : Int)) = True:=eq_true (by omega);have m0b : (l < t.length) = True:=eq_true (by omega);clear hC0 hc0 hrl0;have m1 : ((a : Int) < (t.length : Int)) = True:=eq_true (by omega);have m1b : (a < t.length) = True:=eq_true (by omega);clear hC1 hc1 hrl1;have m2 : ((p : Int) < (t.length : Int)) = True:=eq_true (by omega);have m2b : (p < t.length) = True:=eq_true (by omega);clear hC2 hc2 hrl2;clear hgv0 hgv1 hgv2 hrow0 hrow1 hrow2
           obtain ⟨s,hs⟩ : ∃ s,IntKind.i64.wrap (g2 + g3) = s:=⟨_,rfl⟩
           have hs2 : wrap64 (g2 + g3) = s:=(i64_w _).symm.trans hs
           obtain ⟨d,hd⟩ : ∃ d,IntKind.i64.wrap ((l : Int) - (a : Int)) = d:=⟨_,rfl⟩
           have hd1 : d = (l : Int) - a:=by rw [← hd];exact wrapI (by omega) (by omega)
           have hd2 : IntKind.i64.wrap (d - (kf : Int)) = (p : Int):=by rw [hd1,wrapI (by omega) (by omega)];omega
           have HP:=aside hp;have HIN:=aside hin;have HS2:=aside hs2;clear hd1 hp hs2 hin hlen;by_cases hlv : g1 < s
           ·have hns : ¬ q = true := fun h => by
             have h2:=((HQ.out.1 h).2.2.2 l hl1 (by omega) w_ hw1 (by omega)).1 a ha1 (by have:=HIN.out;omega);rw [HP.out,HG1.out,HG2.out,HG3.out,HS2.out] at h2;exact h2 hlv
            have HNS:=aside hns;have g9 : decide (g1 < s) = true:=decide_eq_true hlv;clear hns
            go_wp2
            go_quiet (fail)
            go_wp2
            go_ret
            exact ⟨boolR HNS.out,below_tr B.out (below_drewN_any2 _)⟩
           ·have g9 : decide (g1 < s) = false:=decide_eq_false hlv
            have HD : Aside (doneA kf t l w_ (a + 1)):=by
             show doneA kf t l w_ (a + 1)
             intro c h1 h2 h3;by_cases e : c = a
             (subst e;rw [HP.out,HG1.out,HG2.out,HG3.out,HS2.out];exact hlv);(exact DA.out c h1 (by omega) h3)
            go_wp2
            go_quiet (fail)
            go_wp2
            go_roundg (l - (a + 1))
            case measure=>have:=HIN.out;omega
            case rel=>exact ⟨a + 1,by omega,by have:=HIN.out;omega,by omega,by go_num,HD,below_tr B.out (below_drewN_any2 _)⟩
          ·have hin1 : (l : Int) - (a : Int) - (kf : Int) < 1:=by omega
           have ha3 : a ≤ 41:=by omega
           have HDA : cA t kf l w_ 1:=fun c h1 h2=>DA.out c h1 (by omega) h2
           have HCX:=aside HDA;clear hlen HDA ha2 hg hin DA
           go_wp2
           clear hin1 ha1 ha3;have HCA:=HCX;clear HCX
           go_loopg [18] w_ (fun gg v wr=>∃ a : Nat,1 ≤ a ∧ (a = 1 ∨ a + kf ≤ w_) ∧ w_ - a ≤ gg ∧ v = .int .i64 a ∧ Aside (doneB kf t l w_ a) ∧ Aside (Below w.heap.size w wr))
           case atStart=>exact ⟨1,by omega,by omega,by omega,rfl,(show Aside _ from fun c h1 h2=>by omega),B⟩
           clear B
           case round =>
            obtain ⟨a,ha1,ha2,hg,rfl,DA,B⟩ := hrel;have hlen:=HLEN.out;by_cases hin : a + kf + 1 ≤ w_
            ·obtain ⟨p,hp⟩ : ∃ p,w_ - a - kf = p:=⟨_,rfl⟩
             have hin1 : (1 : Int) ≤ (p : Int):=by omega
             obtain ⟨ad0,A0,c00,hA0,t0,hc0,hC0⟩ := at_L5 (Kd.C_below HR4.out B.out) (l : Int) (by omega) (by omega);subst hA0;simp only [Int.toNat_natCast] at t0;have hrl0:=(HRO.out l (by omega)).1
             obtain ⟨row0,hrow0⟩ : ∃ row,rd_L5 t (l : Int) = row:=⟨_,rfl⟩
             rw [hrow0] at t0 hC0 hc0 hrl0;obtain ⟨ae0,hE0,u0⟩ := Kd.at_int hC0 (w_ : Int) (by omega) (by omega);subst hE0;simp only [Int.toNat_natCast] at u0
             obtain ⟨g1,hgv0⟩ : ∃ g,rd row0 (w_ : Int) = g:=⟨_,rfl⟩
             rw [hgv0] at u0
             have HG1 : Aside (G t l w_ = g1):=by show _ = _;unfold G;rw [hrow0,hgv0]
             have n0 : ((w_ : Int) < (row0.length : Int)) = True:=eq_true (by omega);have n0b : (w_ < row0.length) = True:=eq_true (by omega);obtain ⟨ae1,hE1,u1⟩ := Kd.at_int hC0 (a : Int) (by omega) (by omega);obtain rfl:=Option.some.inj hE1;simp only [Int.toNat_natCast] at u1
             obtain ⟨g2,hgv1⟩ : ∃ g,rd row0 (a : Int) = g:=⟨_,rfl⟩
             rw [hgv1] at u1
             have HG2 : Aside (G t l a = g2):=by show _ = _;unfold G;rw [hrow0,hgv1]
             have n1 : ((a : Int) < (row0.length : Int)) = True:=eq_true (by omega);have n1b : (a < row0.length) = True:=eq_true (by omega);obtain ⟨ae2,hE2,u2⟩ := Kd.at_int hC0 (p : Int) (by omega) (by omega);obtain rfl:=Option.some.inj hE2;simp only [Int.toNat_natCast] at u2
             obtain ⟨g3,hgv2⟩ : ∃ g,rd row0 (p : Int) = g:=⟨_,rfl⟩
             rw [hgv2] at u2
             have HG3 : Aside (G t l p = g3):=by show _ = _;unfold G;rw [hrow0,hgv2]
             have n2 : ((p : Int) < (row0.length : Int)) = True:=eq_true (by omega);have n2b : (p < row0.length) = True:=eq_true (by omega);have m0 : ((l : Int) < (t.length : Int)) = True:=eq_true (by omega);have m0b : (l < t.length) = True:=eq_true (by omega);clear hC0 hc0 hrl0;clear hgv0 hgv1 hgv2 hrow0
             obtain ⟨s,hs⟩ : ∃ s,IntKind.i64.wrap (g2 + g3) = s:=⟨_,rfl⟩
             have hs2 : wrap64 (g2 + g3) = s:=(i64_w _).symm.trans hs
             obtain ⟨d,hd⟩ : ∃ d,IntKind.i64.wrap ((w_ : Int) - (a : Int)) = d:=⟨_,rfl⟩
             have hd1 : d = (w_ : Int) - a:=by rw [← hd];exact wrapI (by omega) (by omega)
             have hd2 : IntKind.i64.wrap (d - (kf : Int)) = (p : Int):=by rw [hd1,wrapI (by omega) (by omega)];omega
             have HP:=aside hp;have HIN:=aside hin;have HS2:=aside hs2;clear hd1 hp hs2 hin hlen;by_cases hlv : g1 < s
             ·have hns : ¬ q = true := fun h => by
               have h2:=((HQ.out.1 h).2.2.2 l hl1 (by omega) w_ hw1 (by omega)).2 a ha1 (by have:=HIN.out;omega);rw [HP.out,HG1.out,HG2.out,HG3.out,HS2.out] at h2;exact h2 hlv
              have HNS:=aside hns;have g9 : decide (g1 < s) = true:=decide_eq_true hlv;clear hns
              go_wp2
              go_quiet (fail)
              go_wp2
              go_ret
              exact ⟨boolR HNS.out,below_tr B.out (below_drewN_any2 _)⟩
             ·have g9 : decide (g1 < s) = false:=decide_eq_false hlv
              have HD : Aside (doneB kf t l w_ (a + 1)):=by
               show doneB kf t l w_ (a + 1)
               intro c h1 h2 h3;by_cases e : c = a
               (subst e;rw [HP.out,HG1.out,HG2.out,HG3.out,HS2.out];exact hlv);(exact DA.out c h1 (by omega) h3)
              go_wp2
              go_quiet (fail)
              go_wp2
              go_roundg (w_ - (a + 1))
              case measure=>have:=HIN.out;omega
              case rel=>exact ⟨a + 1,by omega,by have:=HIN.out;omega,by omega,by go_num,HD,below_tr B.out (below_drewN_any2 _)⟩
            ·have hin1 : (w_ : Int) - (a : Int) - (kf : Int) < 1:=by omega
             have ha3 : a ≤ 41:=by omega
             have HDA : cB t kf l w_ 1:=fun c h1 h2=>DA.out c h1 (by omega) h2
             have HCX:=aside HDA;clear hlen HDA ha2 hg hin DA
             go_wp2
             clear hin1 ha1 ha3
             have HW : Aside (doneW kf t l (w_ + 1)):=by
              show doneW kf t l (w_ + 1)
              intro c h1 h2;by_cases e : c = w_
              (subst e;exact ⟨HCA.out,HCX.out⟩);(exact DW.out c h1 (by omega))
             go_roundg (Wd + 1 - (w_ + 1))
             case measure=>have:=hgw.out;omega
             case rel=>exact ⟨w_ + 1,by omega,by omega,by omega,by go_num,HW,B⟩
        ·obtain rfl : w_ = Wd + 1:=by omega
         have k1 : (((Wd + 1 : Nat) : Int) ≤ (Wd : Int)) = False:=eq_false (by omega)
         have HL : Aside (doneL Wd kf t (l + 1)):=by
          show doneL Wd kf t (l + 1)
          intro a h1 h2 c h3 h4;by_cases e : a = l
          (subst e;exact DW.out c h3 (by omega));(exact DL.out a h1 (by omega) c h3 h4)
         go_wp2
         go_roundg (L + 1 - (l + 1))
         case measure=>have:=hgl.out;omega
         case rel=>exact ⟨l + 1,by omega,by omega,by omega,by go_num,HL,B⟩
      ·obtain rfl : l = L + 1:=by omega
       have hs : q = true:=HQ.out.2 ⟨HLEN.out,HRO.out,fun j _ hj=>IO.out j hj,fun a h1 h2 c h3 h4=>DL.out a h1 (by omega) c h3 h4⟩;have HS:=aside hs;have k1 : (((L + 1 : Nat) : Int) ≤ (L : Int)) = False:=eq_false (by omega);clear hs
       go_wp2
       go_ret
       exact ⟨boolT HS.out,B.out⟩
theorem chk_in {a0 a1 : Int} {l : List S36} {a3 : Int} (h : checkR a0 a1 l a3 = 0) : (1 ≤ a0 ∧ a0 ≤ 40) ∧ (1 ≤ a1 ∧ a1 ≤ 40) ∧ (0 ≤ a3 ∧ a3 ≤ 40) ∧ ∀ x ∈ l,1 ≤ x.f1.f0 ∧ 1 ≤ x.f1.f1:=by
 unfold checkR at h
 by_cases c : sideB a0 = true ∧ sideB a1 = true ∧ ¬ a3 < 0 ∧ ¬ 40 < a3
 ·rw [if_pos c] at h;obtain ⟨c1,c2,c3,c4⟩ := c;simp only [sideB,decide_eq_true_eq] at c1 c2
  refine ⟨c1,c2,by omega,fun x hx=>?_⟩
  by_cases h6 : 6 < l.length
  ·rw [if_pos h6] at h;omega
  ·rw [if_neg h6] at h;by_cases h4 : l.any (fun x=>!lexName x.f0) = true
   ·rw [if_pos h4] at h;omega
   ·rw [if_neg h4] at h;by_cases hb : l.any badSize = true
    ·rw [if_pos hb] at h;omega
    ·have e : badSize x = false := by
      cases e : badSize x with
      | false=>rfl
      | true=>exact absurd (List.any_eq_true.2 ⟨x,hx,e⟩) hb
     unfold badSize sideB at e
     simp at e
     omega
 ·rw [if_neg c] at h;omega
open Classical in
noncomputable def flatpack_Proves.f (a0 : Int) (a1 : Int) (l2 : List S36) (a3 : Int) (l4 : List (List Int)) : Option Bool :=
 if (∀ x ∈ l2,x.f0.size ≤ 9223372036854775807) ∧ l2.length ≤ 1000 then (if checkR a0 a1 l2 a3 = 0 then some (decide (sound a0.toNat a1.toNat a3.toNat l4 l2)) else some false) else none
set_option maxHeartbeats 1000000 in
theorem proves_out (a0 a1 : Int) (A2 : Option Addr) (c2 : Nat) (l2 : List S36) (a3 : Int) (A4 : Option Addr) (c4 : Nat) (n : Nat) (c : Int) (w : World) (hn : n ≤ 9223372036854775807) (ha : -1000 ≤ a0 ∧ a0 ≤ 1000 ∨ ¬ c = 0)
  (hck : Calls Try.prog 30 #[.int .i64 a0,.int .i64 a1,.slice A2 l2.length c2,.int .i64 a3] w fun e w'=>e = .returned (.int .i64 c) ∧ Below w.heap.size w w') (h : ¬ c = 0 ∨ ¬ (n : Int) = a0 + 1) :
  Calls Try.prog 25 #[.int .i64 a0,.int .i64 a1,.slice A2 l2.length c2,.int .i64 a3,.slice A4 n c4] w fun e w'=>e = .returned (.bool false) ∧ Below w.heap.size w w':=by
 by_cases hc : c = 0
 ·subst hc;have ha:=ha.resolve_right (fun h=>h rfl)
  have hb : ((n : Int) != a0 + 1) = true:=by
   have:=h.resolve_left (fun h=>h rfl)
   simpa using this
  have HC:=aside hck;clear hck h
  go_enter Try.func25,Try.ntmps25
  go_wp2_with (go_at_call 30;refine HC.out.mono ?_;rintro e w1 ⟨rfl,hB⟩)
  go_ret
  exact ⟨rfl,hB⟩
 ·have hb : (c != 0) = true:=by simpa using hc
  have HC:=aside hck;clear hck h ha hc
  go_enter Try.func25,Try.ntmps25
  go_wp2_with (go_at_call 30;refine HC.out.mono ?_;rintro e w1 ⟨rfl,hB⟩)
  go_ret
  exact ⟨rfl,hB⟩
theorem flatpack_Proves.calls (a0 : Int) (a1 : Int) (A2 : Option Addr) (c2 : Nat) (l2 : List (S36)) (a3 : Int) (A4 : Option Addr) (c4 : Nat) (l4 : List (List Int)) (r : Bool) (w : World) (hr2 : Kd.C k36 w A2 l2.length l2) (hc2 : l2.length ≤ c2) (hr4 : Kd.C (Kd.slice 2 (Kd.int .i64)) w A4 l4.length l4) (hc4 : l4.length ≤ c4) (h : flatpack_Proves.f a0 a1 l2 a3 l4 = some r) :
  Calls Try.prog 25 #[.int .i64 a0,.int .i64 a1,.slice A2 l2.length c2,.int .i64 a3,.slice A4 l4.length c4] w fun e w'=>e = .returned (.bool r) ∧ Below w.heap.size w w':=by
 have hm:=Kd.C_max hr4
 unfold flatpack_Proves.f at h
 split at h
 ·obtain ⟨hs,hl⟩ := ‹(∀ x ∈ l2,x.f0.size ≤ 9223372036854775807) ∧ l2.length ≤ 1000›;have CK:=check_any a0 a1 A2 c2 l2 a3 w hr2 hs;by_cases hc : checkR a0 a1 l2 a3 = 0
  ·rw [if_pos hc] at h;obtain ⟨g0,g1,g2,g3⟩ := chk_in hc;have hq:=Option.some.inj h;by_cases hlen : l4.length = a0.toNat + 1
   ·obtain ⟨L,rfl⟩ : ∃ n : Nat,a0 = n:=⟨a0.toNat,by omega⟩
    obtain ⟨Wd,rfl⟩ : ∃ n : Nat,a1 = n:=⟨a1.toNat,by omega⟩
    obtain ⟨kf,rfl⟩ : ∃ n : Nat,a3 = n:=⟨a3.toNat,by omega⟩
    refine proves_ok L Wd kf (by omega) (by omega) (by omega) A2 c2 l2 A4 c4 l4 w hr2 hr4 hl g3 (fun W hB=>?_) r (by rw [← hq];simp) (by simpa using hlen)
    have:=check_any (L : Int) (Wd : Int) A2 c2 l2 (kf : Int) W (Kd.C_below hr2 hB) hs
    rw [hc] at this;exact this
   ·have hr : r = false := by
     rw [← hq];simp only [decide_eq_false_iff_not];intro hso;exact hlen hso.1
    subst hr;exact proves_out a0 a1 A2 c2 l2 a3 A4 c4 l4.length _ w hm (.inl (by omega)) CK (.inr (by omega))
  (rw [if_neg hc] at h;obtain rfl:=Option.some.inj h;exact proves_out a0 a1 A2 c2 l2 a3 A4 c4 l4.length _ w hm (.inr hc) CK (.inl hc))
 ·cases h
end Go.Proofs.Ytdnjagfbhppmbaa.PA
