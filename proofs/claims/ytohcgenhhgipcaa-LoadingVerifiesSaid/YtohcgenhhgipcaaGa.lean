import Derived.Test.YtohcgenhhgipcaaLey
import Derived.Test.YtohcgenhhgipcaaPAx0
import Derived.Shelf.Abstract
namespace Go.Proofs.Ytohcgenhhgipcaa.PA
open Go.RowKit Go.Shelf Go.Proofs.YtohcgenhhgipcaaW.PrintWords Go.Proofs.YtohcgenhhgipcaaW.PrintLast Go.Proofs.YtohcgenhhgipcaaW.PrintMore
set_option linter.unusedVariables false
set_option linter.unusedSimpArgs false

/-- the first index at which p holds,or -1 -/
def idxOf {α : Type} (p : α → Bool) (l : List α) : Int:=match l.findIdx? p with|some i=>(i : Int)|none=>-1
theorem idxOf_hit {α : Type} (p : α → Bool) (l : List α) (n : Nat) (h : n < l.length) (hp : p l[n] = true) (hA : ∀ j (hj : j < l.length),j < n → p l[j] = false) : idxOf p l = n:=by
 have : l.findIdx? p = some n:=by
  rw [List.findIdx?_eq_some_iff_getElem];exact ⟨h,hp,fun j hj=>by simp [hA j (by omega) hj]⟩
 simp [idxOf,this]
theorem idxOf_miss {α : Type} (p : α → Bool) (l : List α) (hA : ∀ j (hj : j < l.length),p l[j] = false) : idxOf p l = -1:=by
 have : l.findIdx? p = none:=by
  rw [List.findIdx?_eq_none_iff];intro x hx;obtain ⟨j,hj,rfl⟩ := List.getElem_of_mem hx;exact hA j hj
 simp [idxOf,this]
theorem idxOf_any {α : Type} (p : α → Bool) (l : List α) : decide (0 ≤ idxOf p l) = l.any p:=by
 unfold idxOf
 rw [Bool.eq_iff_iff]
 cases e : l.findIdx? p with
 | none =>
  rw [List.findIdx?_eq_none_iff] at e
  simp;exact e
 | some i =>
  rw [List.findIdx?_eq_some_iff_getElem] at e;obtain ⟨h,hp,_⟩ := e
  simp;exact ⟨_,List.getElem_mem h,hp⟩

/-- what a predicate on elements of type 64 must do -/
def Pred64 (l : List S64) (g : Nat) (lb : Array Value) (p : S64 → Bool) (w : World) : Prop :=
 ∀ (W : World) (x : S64),x ∈ l → Below w.heap.size w W → Calls Try.prog g (#[.agg #[.string x.f0,.int .i64 x.f1,.int .i64 x.f2]] ++ lb) W fun e w'=>e = .returned (.bool (p x)) ∧ Below W.heap.size W w'
set_option maxHeartbeats 400000 in
theorem idx63 (p : S64 → Bool) (g : Nat) (lb : Array Value) (eg : ∀ args w, (callFunc g args).run Try.prog w = .ok (.enter g args) w) (A : Option Addr) (c : Nat) (l : List S64) (w : World) (hr : Kd.C k64 w A l.length l) (hp : Pred64 l g lb p w) :
  Calls Try.prog 63 #[.slice A l.length c,.func (.func g) #[] lb] w fun e w'=>e = .returned (.int .i64 (idxOf p l)) ∧ Below w.heap.size w w':=by
 have hm:=Kd.C_max hr;have HR:=aside hr;have HP:=aside hp;clear hr hp
 go_enter Try.func63,Try.ntmps63
 go_wp2
 go_loopg [8] l.length (fun gg v wr=>∃ n : Nat,n ≤ l.length ∧ l.length - n ≤ gg ∧ v = .int .i64 n ∧ Aside (∀ j (h : j < l.length),j < n → p l[j] = false) ∧ Aside (Below w.heap.size w wr))
 case atStart=>exact ⟨0,by omega,by omega,rfl,(show Aside _ from fun j h hj=>absurd hj (Nat.not_lt_zero _)),Below.refl _ _⟩
 case round =>
  obtain ⟨n,hn,hg,rfl,A1,B⟩ := hrel;by_cases hlt : n < l.length
  ·have hlt' : (n : Int) < (l.length : Int):=by omega
   obtain ⟨ad,hA,q0,q1,q2⟩ := at_T64 (Kd.C_below HR.out B.out) (n : Int) (by omega) (by omega)
   have hx : rd_T64 l (n : Int) = l[n] := by unfold rd_T64;simp [List.getD,hlt]
   rw [hx] at q0 q1 q2;simp only [Int.toNat_natCast] at q0 q1 q2;have hcall:=HP.out wr l[n] (List.getElem_mem hlt) B.out
   obtain ⟨y,hy⟩ : ∃ y,l[n] = y:=⟨_,rfl⟩
   rw [hy] at q0 q1 q2 hcall;have HY:=aside hy;clear hx hy HP;subst hA
   cases hq : p y with
   | true =>
    rw [hq] at hcall;have HQ:=aside hq;clear hq
    go_wp2_with (go_at_fn g;refine hcall.mono ?_;rintro e w' ⟨rfl,hb'⟩)
    go_ret
    exact ⟨ret_i64 (by rw [idxOf_hit p l n hlt (by rw [HY.out];exact HQ.out) A1.out]),B.out.trans (hb'.mono B.out.size)⟩
   | false =>
    rw [hq] at hcall;have HQ:=aside hq;clear hq
    go_wp2_with (go_at_fn g;refine hcall.mono ?_;rintro e w' ⟨rfl,hb'⟩)
    go_roundg (l.length - (n + 1))
    case measure=>omega
    case rel =>
     refine ⟨n + 1,by omega,by omega,by go_num,(show Aside _ from fun j h hj=>?_),B.out.trans (hb'.mono B.out.size)⟩
     by_cases e : j = n
     (subst e;rw [HY.out];exact HQ.out);(exact A1.out j h (by omega))
  ·obtain rfl : n = l.length:=by omega
   go_wp2
   go_ret
   exact ⟨ret_i64 (by rw [idxOf_miss p l (fun j h=>A1.out j h h)]),B.out⟩
set_option maxHeartbeats 400000 in
theorem any32 (p : S64 → Bool) (g : Nat) (lb : Array Value) (eg : ∀ args w, (callFunc g args).run Try.prog w = .ok (.enter g args) w) (A : Option Addr) (c : Nat) (l : List S64) (w : World) (hr : Kd.C k64 w A l.length l) (hp : Pred64 l g lb p w) :
  Calls Try.prog 32 #[.slice A l.length c,.func (.func g) #[] lb] w fun e w'=>e = .returned (.bool (l.any p)) ∧ Below w.heap.size w w':=by
 have hi:=fun W (h : Below w.heap.size w W)=>idx63 p g lb eg A c l W (Kd.C_below hr h) (fun W' x hx hb=>hp W' x hx (h.trans (hb.mono h.size)))
 have HI:=aside (hi w (Below.refl _ _));have ha:=idxOf_any p l;generalize l.any p = q at ha ⊢;generalize idxOf p l = i at ha HI;subst ha;clear hi hp hr
 go_enter Try.func32,Try.ntmps32
 go_wp2_with (go_at_call 63;refine HI.out.mono ?_;rintro e w1 ⟨rfl,hb⟩)
 go_ret
 exact ⟨rfl,hb⟩

/-- what a predicate on elements of type 61 must do -/
def Pred61 (l : List S61) (g : Nat) (lb : Array Value) (p : S61 → Bool) (w : World) : Prop :=
 ∀ (W : World) (x : S61),x ∈ l → Below w.heap.size w W → Calls Try.prog g (#[.agg #[.string x.f0,.int .i64 x.f1,.int .i64 x.f2,.int .i64 x.f3]] ++ lb) W fun e w'=>e = .returned (.bool (p x)) ∧ Below W.heap.size W w'
set_option maxHeartbeats 400000 in
theorem idx67 (p : S61 → Bool) (g : Nat) (lb : Array Value) (eg : ∀ args w, (callFunc g args).run Try.prog w = .ok (.enter g args) w) (A : Option Addr) (c : Nat) (l : List S61) (w : World) (hr : Kd.C k61 w A l.length l) (hp : Pred61 l g lb p w) :
  Calls Try.prog 67 #[.slice A l.length c,.func (.func g) #[] lb] w fun e w'=>e = .returned (.int .i64 (idxOf p l)) ∧ Below w.heap.size w w':=by
 have hm:=Kd.C_max hr;have HR:=aside hr;have HP:=aside hp;clear hr hp
 go_enter Try.func67,Try.ntmps67
 go_wp2
 go_loopg [8] l.length (fun gg v wr=>∃ n : Nat,n ≤ l.length ∧ l.length - n ≤ gg ∧ v = .int .i64 n ∧ Aside (∀ j (h : j < l.length),j < n → p l[j] = false) ∧ Aside (Below w.heap.size w wr))
 case atStart=>exact ⟨0,by omega,by omega,rfl,(show Aside _ from fun j h hj=>absurd hj (Nat.not_lt_zero _)),Below.refl _ _⟩
 case round =>
  obtain ⟨n,hn,hg,rfl,A1,B⟩ := hrel;by_cases hlt : n < l.length
  ·have hlt' : (n : Int) < (l.length : Int):=by omega
   obtain ⟨ad,hA,q0,q1,q2,q3⟩ := at_T61 (Kd.C_below HR.out B.out) (n : Int) (by omega) (by omega)
   have hx : rd_T61 l (n : Int) = l[n] := by unfold rd_T61;simp [List.getD,hlt]
   rw [hx] at q0 q1 q2 q3;simp only [Int.toNat_natCast] at q0 q1 q2 q3;have hcall:=HP.out wr l[n] (List.getElem_mem hlt) B.out
   obtain ⟨y,hy⟩ : ∃ y,l[n] = y:=⟨_,rfl⟩
   rw [hy] at q0 q1 q2 q3 hcall;have HY:=aside hy;clear hx hy HP;subst hA
   cases hq : p y with
   | true =>
    rw [hq] at hcall;have HQ:=aside hq;clear hq
    go_wp2_with (go_at_fn g;refine hcall.mono ?_;rintro e w' ⟨rfl,hb'⟩)
    go_ret
    exact ⟨ret_i64 (by rw [idxOf_hit p l n hlt (by rw [HY.out];exact HQ.out) A1.out]),B.out.trans (hb'.mono B.out.size)⟩
   | false =>
    rw [hq] at hcall;have HQ:=aside hq;clear hq
    go_wp2_with (go_at_fn g;refine hcall.mono ?_;rintro e w' ⟨rfl,hb'⟩)
    go_roundg (l.length - (n + 1))
    case measure=>omega
    case rel =>
     refine ⟨n + 1,by omega,by omega,by go_num,(show Aside _ from fun j h hj=>?_),B.out.trans (hb'.mono B.out.size)⟩
     by_cases e : j = n
     (subst e;rw [HY.out];exact HQ.out);(exact A1.out j h (by omega))
  ·obtain rfl : n = l.length:=by omega
   go_wp2
   go_ret
   exact ⟨ret_i64 (by rw [idxOf_miss p l (fun j h=>A1.out j h h)]),B.out⟩
set_option maxHeartbeats 400000 in
theorem any47 (p : S61 → Bool) (g : Nat) (lb : Array Value) (eg : ∀ args w, (callFunc g args).run Try.prog w = .ok (.enter g args) w) (A : Option Addr) (c : Nat) (l : List S61) (w : World) (hr : Kd.C k61 w A l.length l) (hp : Pred61 l g lb p w) :
  Calls Try.prog 47 #[.slice A l.length c,.func (.func g) #[] lb] w fun e w'=>e = .returned (.bool (l.any p)) ∧ Below w.heap.size w w':=by
 have hi:=fun W (h : Below w.heap.size w W)=>idx67 p g lb eg A c l W (Kd.C_below hr h) (fun W' x hx hb=>hp W' x hx (h.trans (hb.mono h.size)))
 have HI:=aside (hi w (Below.refl _ _));have ha:=idxOf_any p l;generalize l.any p = q at ha ⊢;generalize idxOf p l = i at ha HI;subst ha;clear hi hp hr
 go_enter Try.func47,Try.ntmps47
 go_wp2_with (go_at_call 67;refine HI.out.mono ?_;rintro e w1 ⟨rfl,hb⟩)
 go_ret
 exact ⟨rfl,hb⟩

/-- what a predicate on elements of type 54 must do -/
def Pred54 (l : List S54) (g : Nat) (lb : Array Value) (p : S54 → Bool) (w : World) : Prop :=
 ∀ (W : World) (x : S54) (A_f1 : Option Addr) (c_f1 : Nat),x ∈ l → Below w.heap.size w W → Kd.C k61 W A_f1 x.f1.length x.f1 → x.f1.length ≤ c_f1 → Calls Try.prog g (#[.agg #[.string x.f0,.slice A_f1 x.f1.length c_f1]] ++ lb) W fun e w'=>e = .returned (.bool (p x)) ∧ Below W.heap.size W w'
set_option maxHeartbeats 400000 in
theorem idx66 (p : S54 → Bool) (g : Nat) (lb : Array Value) (eg : ∀ args w, (callFunc g args).run Try.prog w = .ok (.enter g args) w) (A : Option Addr) (c : Nat) (l : List S54) (w : World) (hr : Kd.C k54 w A l.length l) (hp : Pred54 l g lb p w) :
  Calls Try.prog 66 #[.slice A l.length c,.func (.func g) #[] lb] w fun e w'=>e = .returned (.int .i64 (idxOf p l)) ∧ Below w.heap.size w w':=by
 have hm:=Kd.C_max hr;have HR:=aside hr;have HP:=aside hp;clear hr hp
 go_enter Try.func66,Try.ntmps66
 go_wp2
 go_loopg [8] l.length (fun gg v wr=>∃ n : Nat,n ≤ l.length ∧ l.length - n ≤ gg ∧ v = .int .i64 n ∧ Aside (∀ j (h : j < l.length),j < n → p l[j] = false) ∧ Aside (Below w.heap.size w wr))
 case atStart=>exact ⟨0,by omega,by omega,rfl,(show Aside _ from fun j h hj=>absurd hj (Nat.not_lt_zero _)),Below.refl _ _⟩
 case round =>
  obtain ⟨n,hn,hg,rfl,A1,B⟩ := hrel;by_cases hlt : n < l.length
  ·have hlt' : (n : Int) < (l.length : Int):=by omega
   obtain ⟨ad,A0,c0,hA,q0,q1,h0,hC0⟩ := at_T54 (Kd.C_below HR.out B.out) (n : Int) (by omega) (by omega)
   have hx : rd_T54 l (n : Int) = l[n] := by unfold rd_T54;simp [List.getD,hlt]
   rw [hx] at q0 q1 hC0 h0;simp only [Int.toNat_natCast] at q0 q1;have hcall:=HP.out wr l[n] A0 c0 (List.getElem_mem hlt) B.out hC0 h0
   obtain ⟨y,hy⟩ : ∃ y,l[n] = y:=⟨_,rfl⟩
   rw [hy] at q0 q1 hcall;have HY:=aside hy;clear hx hy HP hC0 h0;subst hA
   cases hq : p y with
   | true =>
    rw [hq] at hcall;have HQ:=aside hq;clear hq
    go_wp2_with (go_at_fn g;refine hcall.mono ?_;rintro e w' ⟨rfl,hb'⟩)
    go_ret
    exact ⟨ret_i64 (by rw [idxOf_hit p l n hlt (by rw [HY.out];exact HQ.out) A1.out]),B.out.trans (hb'.mono B.out.size)⟩
   | false =>
    rw [hq] at hcall;have HQ:=aside hq;clear hq
    go_wp2_with (go_at_fn g;refine hcall.mono ?_;rintro e w' ⟨rfl,hb'⟩)
    go_roundg (l.length - (n + 1))
    case measure=>omega
    case rel =>
     refine ⟨n + 1,by omega,by omega,by go_num,(show Aside _ from fun j h hj=>?_),B.out.trans (hb'.mono B.out.size)⟩
     by_cases e : j = n
     (subst e;rw [HY.out];exact HQ.out);(exact A1.out j h (by omega))
  ·obtain rfl : n = l.length:=by omega
   go_wp2
   go_ret
   exact ⟨ret_i64 (by rw [idxOf_miss p l (fun j h=>A1.out j h h)]),B.out⟩
set_option maxHeartbeats 400000 in
theorem any42 (p : S54 → Bool) (g : Nat) (lb : Array Value) (eg : ∀ args w, (callFunc g args).run Try.prog w = .ok (.enter g args) w) (A : Option Addr) (c : Nat) (l : List S54) (w : World) (hr : Kd.C k54 w A l.length l) (hp : Pred54 l g lb p w) :
  Calls Try.prog 42 #[.slice A l.length c,.func (.func g) #[] lb] w fun e w'=>e = .returned (.bool (l.any p)) ∧ Below w.heap.size w w':=by
 have hi:=fun W (h : Below w.heap.size w W)=>idx66 p g lb eg A c l W (Kd.C_below hr h) (fun W' x A_f1 c_f1 hx hb r0 s0=>hp W' x A_f1 c_f1 hx (h.trans (hb.mono h.size)) r0 s0)
 have HI:=aside (hi w (Below.refl _ _));have ha:=idxOf_any p l;generalize l.any p = q at ha ⊢;generalize idxOf p l = i at ha HI;subst ha;clear hi hp hr
 go_enter Try.func42,Try.ntmps42
 go_wp2_with (go_at_call 66;refine HI.out.mono ?_;rintro e w1 ⟨rfl,hb⟩)
 go_ret
 exact ⟨rfl,hb⟩

theorem ok_bool {a b : Bool} (h : a = b) : Ending.returned (.bool a) = .returned (.bool b):=by rw [h]
end Go.Proofs.Ytohcgenhhgipcaa.PA
