import Derived.Test.YtdnjagfbhppmbaaLey
import Derived.Test.YtdnjagfbhppmbaaPAx0
import Derived.Shelf.Abstract
namespace Go.Proofs.Ytdnjagfbhppmbaa.PA
open Go.RowKit Go.Shelf Go.Proofs.YtdnjagfbhppmbaaW.PrintWords Go.Proofs.YtdnjagfbhppmbaaW.PrintLast Go.Proofs.YtdnjagfbhppmbaaW.PrintMore
set_option linter.unusedVariables false
set_option linter.unusedSimpArgs false
def idxOf {α : Type} (p : α → Bool) (l : List α) : Int:=match l.findIdx? p with|some i=>(i : Int)|none=>-1
theorem idxOf_hit {α : Type} (p : α → Bool) (l : List α) (n : Nat) (h : n < l.length) (hp : p l[n] = true) (hA : ∀ j (hj : j < l.length),j < n → p l[j] = false) : idxOf p l = n:=by
 have : l.findIdx? p = some n:=by
  rw [List.findIdx?_eq_some_iff_getElem];exact ⟨h,hp,fun j hj=>by simp [hA j (by omega) hj]⟩
 simp [idxOf,this]
theorem idxOf_miss {α : Type} (p : α → Bool) (l : List α) (hA : ∀ j (hj : j < l.length),p l[j] = false) : idxOf p l = -1:=by
 have : l.findIdx? p = none:=by
  rw [List.findIdx?_eq_none_iff];intro x hx;obtain ⟨j,hj,rfl⟩ := List.getElem_of_mem hx;exact hA j hj
 simp [idxOf,this]
theorem idxOf_any {α : Type} (p : α → Bool) (l : List α) : decide (0 ≤ idxOf p l) = l.any p:=by
 unfold idxOf
 rw [Bool.eq_iff_iff]
 cases e : l.findIdx? p with
 | none =>
  rw [List.findIdx?_eq_none_iff] at e
  simp;exact e
 | some i =>
  rw [List.findIdx?_eq_some_iff_getElem] at e;obtain ⟨h,hp,_⟩ := e
  simp;exact ⟨_,List.getElem_mem h,hp⟩
def e36 (x : S36) : Value:=.agg #[.string x.f0,.int .i64 x.f1.f0,.int .i64 x.f1.f1,.int .i64 x.f1.f2,.int .i64 x.f2,.int .i64 x.f3,.int .i64 x.f4]
def Pred36 (l : List S36) (g : Nat) (lb : Array Value) (p : S36 → Bool) (w : World) : Prop :=
 ∀ (W : World) (x : S36),x ∈ l → Below w.heap.size w W → Calls Try.prog g (#[e36 x] ++ lb) W fun e w'=>e = .returned (.bool (p x)) ∧ Below W.heap.size W w'
set_option maxHeartbeats 400000 in
theorem idx55 (p : S36 → Bool) (g : Nat) (lb : Array Value) (eg : ∀ args w, (callFunc g args).run Try.prog w = .ok (.enter g args) w) (A : Option Addr) (c : Nat) (l : List S36) (w : World) (hr : Kd.C k36 w A l.length l) (hp : Pred36 l g lb p w) :
  Calls Try.prog 55 #[.slice A l.length c,.func (.func g) #[] lb] w fun e w'=>e = .returned (.int .i64 (idxOf p l)) ∧ Below w.heap.size w w':=by
 have hm:=Kd.C_max hr;have HR:=aside hr;have HP:=aside hp;clear hr hp
 go_enter Try.func55,Try.ntmps55
 go_wp2
 go_loopg [8] l.length (fun gg v wr=>∃ n : Nat,n ≤ l.length ∧ l.length - n ≤ gg ∧ v = .int .i64 n ∧ Aside (∀ j (h : j < l.length),j < n → p l[j] = false) ∧ Aside (Below w.heap.size w wr))
 case atStart=>exact ⟨0,by omega,by omega,rfl,(show Aside _ from fun j h hj=>absurd hj (Nat.not_lt_zero _)),Below.refl _ _⟩
 case round =>
  obtain ⟨n,hn,hg,rfl,A1,B⟩ := hrel;by_cases hlt : n < l.length
  ·have hlt' : (n : Int) < (l.length : Int):=by omega
   obtain ⟨ad,hA,q0,q1,q2,q3,q4,q5,q6⟩ := at_T36 (Kd.C_below HR.out B.out) (n : Int) (by omega) (by omega)
   have hx : rd_T36 l (n : Int) = l[n] := by unfold rd_T36;simp [List.getD,hlt]
   rw [hx] at q0 q1 q2 q3 q4 q5 q6;simp only [Int.toNat_natCast] at q0 q1 q2 q3 q4 q5 q6;have hcall:=HP.out wr l[n] (List.getElem_mem hlt) B.out
   obtain ⟨y,hy⟩ : ∃ y,l[n] = y:=⟨_,rfl⟩
   rw [hy] at q0 q1 q2 q3 q4 q5 q6 hcall;have HY:=aside hy;clear hx hy HP;subst hA
   unfold e36 at hcall
   cases hq : p y with
   | true =>
    rw [hq] at hcall;have HQ:=aside hq;clear hq
    go_wp2_with (go_at_fn g;refine hcall.mono ?_;rintro e w' ⟨rfl,hb'⟩)
    go_ret
    exact ⟨ret_i64 (by rw [idxOf_hit p l n hlt (by rw [HY.out];exact HQ.out) A1.out]),B.out.trans (hb'.mono B.out.size)⟩
   | false =>
    rw [hq] at hcall;have HQ:=aside hq;clear hq
    go_wp2_with (go_at_fn g;refine hcall.mono ?_;rintro e w' ⟨rfl,hb'⟩)
    go_roundg (l.length - (n + 1))
    case measure=>omega
    case rel =>
     refine ⟨n + 1,by omega,by omega,by go_num,(show Aside _ from fun j h hj=>?_),B.out.trans (hb'.mono B.out.size)⟩
     by_cases e : j = n
     (subst e;rw [HY.out];exact HQ.out);(exact A1.out j h (by omega))
  ·obtain rfl : n = l.length:=by omega
   go_wp2
   go_ret
   exact ⟨ret_i64 (by rw [idxOf_miss p l (fun j h=>A1.out j h h)]),B.out⟩
theorem ok_bool {a b : Bool} (h : a = b) : Ending.returned (.bool a) = .returned (.bool b):=by rw [h]
set_option maxHeartbeats 400000 in
theorem any47 (p : S36 → Bool) (g : Nat) (lb : Array Value) (eg : ∀ args w, (callFunc g args).run Try.prog w = .ok (.enter g args) w) (A : Option Addr) (c : Nat) (l : List S36) (w : World) (hr : Kd.C k36 w A l.length l) (hp : Pred36 l g lb p w) :
  Calls Try.prog 47 #[.slice A l.length c,.func (.func g) #[] lb] w fun e w'=>e = .returned (.bool (l.any p)) ∧ Below w.heap.size w w':=by
 have hi:=fun W (h : Below w.heap.size w W)=>idx55 p g lb eg A c l W (Kd.C_below hr h) (fun W' x hx hb=>hp W' x hx (h.trans (hb.mono h.size)))
 have HI:=aside (hi w (Below.refl _ _));have ha:=idxOf_any p l;generalize l.any p = q at ha ⊢;generalize idxOf p l = i at ha HI;subst ha;clear hi hp hr
 go_enter Try.func47,Try.ntmps47
 go_wp2_with (go_at_call 55;refine HI.out.mono ?_;rintro e w1 ⟨rfl,hb⟩)
 go_ret
 exact ⟨rfl,hb⟩
end Go.Proofs.Ytdnjagfbhppmbaa.PA
