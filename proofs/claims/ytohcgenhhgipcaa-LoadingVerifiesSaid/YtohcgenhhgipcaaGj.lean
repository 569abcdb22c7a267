import Derived.Test.YtohcgenhhgipcaaGd
import Derived.Test.YtohcgenhhgipcaaGi
import Derived.Test.YtohcgenhhgipcaaPAx7
namespace Go.Proofs.Ytohcgenhhgipcaa.PA
open Go.RowKit Go.Shelf Go.Proofs.YtohcgenhhgipcaaW.PrintWords Go.Proofs.YtohcgenhhgipcaaW.PrintLast Go.Proofs.YtohcgenhhgipcaaW.PrintMore
set_option linter.unusedVariables false
set_option linter.unusedSimpArgs false

/-! loading.Verify -/
set_option maxHeartbeats 400000 in
theorem c50_any (x : S54) (A : Option Addr) (c : Nat) (w : World) (hr : Kd.C k61 w A x.f1.length x.f1) (hc : x.f1.length ≤ c) (hlen : x.f1.length ≤ 1000000000) : Calls Try.prog 50 #[.agg #[.string x.f0,.slice A x.f1.length c]] w fun e w'=>e = .returned (.bool (!clearB x.f1)) ∧ Below w.heap.size w w':=by
 have C : ∀ W,Below w.heap.size w W → Calls Try.prog 51 #[.slice A x.f1.length c] W fun e w'=>e = .returned (.bool (clearB x.f1)) ∧ Below W.heap.size W w':=fun W hb=>clear_any A c x.f1 W (Kd.C_below hr hb) hc hlen
 generalize clearB x.f1 = q at C ⊢;obtain ⟨x0,x1⟩ := x
 dsimp only at *
 have HC:=aside C;clear C hr hc hlen
 go_enter Try.func50,Try.ntmps50
 go_wp2_with (go_at_call 51;refine (HC.out _ (al1 _ _)).mono ?_;rintro e w1 ⟨rfl,hb⟩;have HBB:=aside (al1_then _ hb);clear hb)
 go_ret
 exact ⟨rfl,HBB.out⟩
set_option maxHeartbeats 400000 in
theorem c41_any (p : S54 → Bool) (g : Nat) (lb : Array Value) (eg : ∀ args w, (callFunc g args).run Try.prog w = .ok (.enter g args) w) (A : Option Addr) (c : Nat) (l : List S54) (B : Nat) (w : World) (hbox : w.cell? ⟨B, 0, none⟩ = some (.slice A l.length c)) (hr : Kd.C k54 w A l.length l) (hp : Pred54 l g lb p w) :
  Calls Try.prog 41 #[.func (.func g) #[] lb,.pointer (some ⟨B,0,none⟩)] w fun e w'=>e = .returned (.bool (l.any p)) ∧ Below w.heap.size w w':=by
 have C:=any42 p g lb eg A c l w hr hp;generalize l.any p = q at C ⊢;have HC:=aside C;clear C hr hp
 go_enter Try.func41,Try.ntmps41
 go_wp2_with (go_at_call 42;refine HC.out.mono ?_;rintro e w1 ⟨rfl,hb⟩)
 go_ret
 exact ⟨rfl,hb⟩
/-- the loads are the stones -/
def sameC (x : S64) (y : S61) : Bool := !(!(x.f0.toList == y.f0.toList) || (!(x.f1 == y.f2) || !(x.f2 == y.f3)))
def fo : List S64 → List S61 → Bool
 | [],[]=>true
 | [],_ :: _=>false
 | _ :: _,[]=>false
 | x :: xs,y :: ys=>sameC x y && fo xs ys
def followB (l : List S64) (ts : List S54) : Bool:=fo l (ts.flatMap (·.f1))
theorem wsucc {n : Nat} (h : n < 1000000000000) : wrap64 ((n : Int) + 1) = ((n + 1 : Nat) : Int):=by unfold wrap64;omega
theorem fol_l1 (x0 : List S64) (ts : List S54) (lt i : Int) (loads : List S61) (R : List S61) (h0 : x0.length ≤ 1000000000) (hl : loads.length ≤ 1000000000)
  (hn : ∀ at_ : Nat,at_ ≤ x0.length → ∃ K,∀ k,K ≤ k → loading_follow.l0 k x0 (at_ : Int) ts lt (wrap64 (i + 1)) = some (fo (x0.drop at_) R)) :
  ∀ (m j at_ : Nat),loads.length - j = m → j ≤ loads.length → at_ ≤ x0.length → ∃ K,∀ k,K ≤ k → loading_follow.l1 k x0 (at_ : Int) ts lt i loads (loads.length : Int) (j : Int) = some (fo (x0.drop at_) (loads.drop j ++ R)):=by
 intro m
 induction m with
 | zero =>
  intro j a hm hj ha;obtain ⟨K,hK⟩ := hn a ha
  refine ⟨K + 1,fun k hk=>?_⟩
  obtain ⟨k,rfl⟩ : ∃ k',k = k' + 1:=⟨k - 1,by omega⟩
  rw [loading_follow.l1,if_neg (by omega : ¬((j : Int) < (loads.length : Int))),List.drop_of_length_le (i:=j) (by omega),List.nil_append];exact hK k (by omega)
 | succ m ih =>
  intro j a hm hj ha
  have hlt : j < loads.length:=by omega
  rw [List.drop_eq_getElem_cons hlt,List.cons_append]
  have hr : rd_T61 loads (j : Int) = loads[j] := by unfold rd_T61;simp [hlt]
  by_cases hA : a < x0.length
  ·have hr2 : rd_T64 x0 (a : Int) = x0[a] := by unfold rd_T64;simp [hA]
   obtain ⟨K,hK⟩ := ih (j + 1) (a + 1) (by omega) (by omega) (by omega)
   refine ⟨K + 1,fun k hk=>?_⟩
   obtain ⟨k,rfl⟩ : ∃ k',k = k' + 1:=⟨k - 1,by omega⟩
   rw [loading_follow.l1,if_pos (by omega : (j : Int) < (loads.length : Int)),if_pos (by omega : (0 : Int) ≤ j),if_pos (by omega : (j : Int) < (loads.length : Int)),if_neg (by omega : ¬((a : Int) ≥ (x0.length : Int))),if_pos (by omega : (0 : Int) ≤ a),if_pos (by omega : (a : Int) < (x0.length : Int)),hr,hr2,wsucc (by omega),wsucc (by omega),hK k (by omega),List.drop_eq_getElem_cons hA,fo]
   unfold sameC
   cases (!(x0[a].f0.toList == loads[j].f0.toList) || (!(x0[a].f1 == loads[j].f2) || !(x0[a].f2 == loads[j].f3))) <;> simp
  ·refine ⟨1,fun k hk=>?_⟩
   obtain ⟨k,rfl⟩ : ∃ k',k = k' + 1:=⟨k - 1,by omega⟩
   rw [loading_follow.l1,if_pos (by omega : (j : Int) < (loads.length : Int)),if_pos (by omega : (0 : Int) ≤ j),if_pos (by omega : (j : Int) < (loads.length : Int)),if_pos (by omega : (a : Int) ≥ (x0.length : Int)),List.drop_of_length_le (by omega),fo]
theorem fo_nil (l : List S64) : fo l [] = l.isEmpty:=by cases l <;> rfl
theorem fol_l0 (x0 : List S64) (ts : List S54) (h0 : x0.length ≤ 1000000000) (ht : ts.length ≤ 1000000000) (hl : ∀ x ∈ ts, x.f1.length ≤ 1000000000) :
  ∀ (m i at_ : Nat),ts.length - i = m → i ≤ ts.length → at_ ≤ x0.length → ∃ K,∀ k,K ≤ k → loading_follow.l0 k x0 (at_ : Int) ts (ts.length : Int) (i : Int) = some (fo (x0.drop at_) ((ts.drop i).flatMap (·.f1))):=by
 intro m
 induction m with
 | zero =>
  intro i a hm hi ha
  refine ⟨1,fun k hk=>?_⟩
  obtain ⟨k,rfl⟩ : ∃ k',k = k' + 1:=⟨k - 1,by omega⟩
  rw [loading_follow.l0,if_neg (by omega : ¬((i : Int) < (ts.length : Int))),List.drop_of_length_le (i:=i) (by omega),List.flatMap_nil,fo_nil]
  congr 1
  rw [Bool.eq_iff_iff]
  simp
  omega
 | succ m ih =>
  intro i a hm hi ha
  have hlt : i < ts.length:=by omega
  have hr : rd_T54 ts (i : Int) = ts[i] := by unfold rd_T54;simp [hlt]
  obtain ⟨K,hK⟩ := fol_l1 x0 ts (ts.length : Int) (i : Int) ts[i].f1 ((ts.drop (i + 1)).flatMap (·.f1)) h0 (hl _ (List.getElem_mem hlt)) (fun b hb=>by
   obtain ⟨K,hK⟩ := ih (i + 1) b (by omega) (by omega) hb
   exact ⟨K,fun k hk=>by rw [wsucc (by omega)];exact hK k hk⟩) _ 0 a rfl (by omega) ha
  refine ⟨K + 1,fun k hk=>?_⟩
  obtain ⟨k,rfl⟩ : ∃ k',k = k' + 1:=⟨k - 1,by omega⟩
  rw [loading_follow.l0,if_pos (by omega : (i : Int) < (ts.length : Int)),if_pos (by omega : (0 : Int) ≤ i),if_pos (by omega : (i : Int) < (ts.length : Int)),hr,List.drop_eq_getElem_cons hlt,List.flatMap_cons];exact hK k (by omega)
theorem follow_ev (x0 : List S64) (ts : List S54) (h0 : x0.length ≤ 1000000000) (ht : ts.length ≤ 1000000000) (hl : ∀ x ∈ ts,x.f1.length ≤ 1000000000) : ∃ k,loading_follow.f k x0 ts = some (followB x0 ts):=by
 obtain ⟨K,hK⟩ := fol_l0 x0 ts h0 ht hl _ 0 0 rfl (by omega) (by omega);exact ⟨K,hK K (Nat.le_refl _)⟩
def verR (t : S24) (l : List S64) (ts : List S54) : Int :=
 if chkR t l = 0 then (if ts.any (unk t) = true then 3 else if ts.any (fun x=>x.f1.isEmpty) = true then 1 else if followB l ts = true then (if ts.any (fun x=>x.f1.any fun y=>!onB t y) = true then 12 else if ts.any (fun x=>!clearB x.f1) = true then 11 else if ts.any (fun x=>!bearsB t x.f1) = true then 16 else 0) else 10) else chkR t l
structure VW (w : World) (t : S24) (A : Option Addr) (m c : Nat) (W : World) : Prop where
 truck : Rowed W w.heap.size 24 (rowT t)
 box : Rowed W (w.heap.size + 1) 37 #[.slice A m c]
 below : Below w.heap.size w W
theorem VW.mono {w W w2 : World} {t : S24} {A : Option Addr} {m c : Nat} (h : VW w t A m c W) (hb : Below W.heap.size W w2) : VW w t A m c w2 :=
 ⟨h.truck.below hb h.truck.lt,h.box.below hb h.box.lt,h.below.trans (hb.mono h.below.size)⟩
set_option maxRecDepth 100000 in
set_option maxHeartbeats 2000000 in
theorem verify_any (t : S24) (A : Option Addr) (c : Nat) (l : List S64) (A2 : Option Addr) (c2 : Nat) (ts : List S54) (w : World) (hr : Kd.C k64 w A l.length l) (hlc : l.length ≤ c) (hr2 : Kd.C k54 w A2 ts.length ts) (hlc2 : ts.length ≤ c2)
  (hs : t.f0.size ≤ 9223372036854775807) (hl : ∀ x ∈ l,x.f0.size ≤ 9223372036854775807) (h0 : l.length ≤ 1000000000) (ht : ts.length ≤ 1000000000) (hl2 : ∀ x ∈ ts,x.f1.length ≤ 1000000000) :
  Calls Try.prog 23 #[e24 t,.slice A l.length c,.slice A2 ts.length c2] w fun e w'=>e = .returned (.int .i64 (verR t l ts)) ∧ Below w.heap.size w w':=by
 have C0 : ∀ W,VW w t A2 ts.length c2 W → Calls Try.prog 15 #[e24 t,.slice A l.length c] W fun e w'=>e = .returned (.int .i64 (chkR t l)) ∧ Below W.heap.size W w':=fun W h=>check_any t A c l W (Kd.C_below hr h.below) hlc hs hl
 have C1 : ∀ W,VW w t A2 ts.length c2 W → Calls Try.prog 41 #[.func (.func 43) #[] #[.pointer (some ⟨w.heap.size,0,none⟩)],.pointer (some ⟨w.heap.size + 1,0,none⟩)] W fun e w'=>e = .returned (.bool (ts.any (unk t))) ∧ Below W.heap.size W w':=fun W h =>
  c41_any (unk t) 43 _ eg43 A2 c2 ts (w.heap.size + 1) W (blk_cell h.box 0) (Kd.C_below hr2 h.below) (fun W' x A' c' hx hb hC hc=>c43_any t x A' c' w.heap.size W' (h.mono hb).truck)
 have C2 : ∀ W,VW w t A2 ts.length c2 W → Calls Try.prog 41 #[.func (.func 44) #[] #[],.pointer (some ⟨w.heap.size + 1,0,none⟩)] W fun e w'=>e = .returned (.bool (ts.any (fun x=>x.f1.isEmpty))) ∧ Below W.heap.size W w':=fun W h =>
  c41_any (fun x=>x.f1.isEmpty) 44 _ eg44 A2 c2 ts (w.heap.size + 1) W (blk_cell h.box 0) (Kd.C_below hr2 h.below) (fun W' x A' c' hx hb hC hc=>c44_any x A' c' W')
 have C3 : ∀ W,VW w t A2 ts.length c2 W → Calls Try.prog 45 #[.slice A l.length c,.slice A2 ts.length c2] W fun e w'=>e = .returned (.bool (followB l ts)) ∧ Below W.heap.size W w':=fun W h=>by
  obtain ⟨k,hk⟩ := follow_ev l ts h0 ht hl2;exact loading_follow.calls k A c l A2 c2 ts _ W (Kd.C_below hr h.below) hlc (Kd.C_below hr2 h.below) hlc2 hk
 have C4 : ∀ W,VW w t A2 ts.length c2 W → Calls Try.prog 41 #[.func (.func 46) #[] #[.pointer (some ⟨w.heap.size,0,none⟩)],.pointer (some ⟨w.heap.size + 1,0,none⟩)] W fun e w'=>e = .returned (.bool (ts.any (fun x=>x.f1.any fun y=>!onB t y))) ∧ Below W.heap.size W w':=fun W h =>
  c41_any (fun x=>x.f1.any fun y=>!onB t y) 46 _ eg46 A2 c2 ts (w.heap.size + 1) W (blk_cell h.box 0) (Kd.C_below hr2 h.below) (fun W' x A' c' hx hb hC hc=>c46_any t x A' c' w.heap.size W' hC (h.mono hb).truck)
 have C5 : ∀ W,VW w t A2 ts.length c2 W → Calls Try.prog 41 #[.func (.func 50) #[] #[],.pointer (some ⟨w.heap.size + 1,0,none⟩)] W fun e w'=>e = .returned (.bool (ts.any (fun x=>!clearB x.f1))) ∧ Below W.heap.size W w':=fun W h =>
  c41_any (fun x=>!clearB x.f1) 50 _ eg50 A2 c2 ts (w.heap.size + 1) W (blk_cell h.box 0) (Kd.C_below hr2 h.below) (fun W' x A' c' hx hb hC hc=>c50_any x A' c' W' hC hc (hl2 x hx))
 have C6 : ∀ W,VW w t A2 ts.length c2 W → Calls Try.prog 41 #[.func (.func 52) #[] #[.pointer (some ⟨w.heap.size,0,none⟩)],.pointer (some ⟨w.heap.size + 1,0,none⟩)] W fun e w'=>e = .returned (.bool (ts.any (fun x=>!bearsB t x.f1))) ∧ Below W.heap.size W w':=fun W h =>
  c41_any (fun x=>!bearsB t x.f1) 52 _ eg52 A2 c2 ts (w.heap.size + 1) W (blk_cell h.box 0) (Kd.C_below hr2 h.below) (fun W' x A' c' hx hb hC hc=>c52_any t x A' c' w.heap.size W' hC hc (hl2 x hx) (h.mono hb).truck)
 have hv : VW w t A2 ts.length c2 ((w.alloc (.cells (rowT t) 24)).alloc (.cells #[.slice A2 ts.length c2] 37)):=by
  refine ⟨(show Rowed _ w.heap.size 24 _ from World.alloc_heap_new w (.cells (rowT t) 24)).alloc _, ?_,(al1 _ _).trans ((al1 _ _).mono (by simp))⟩
  have:=World.alloc_heap_new (w.alloc (.cells (rowT t) 24)) (.cells #[.slice A2 ts.length c2] 37)
  rw [World.size_alloc] at this;exact this
 unfold verR
 generalize chkR t l = q0 at C0 ⊢;generalize ts.any (unk t) = q1 at C1 ⊢;generalize ts.any (fun x=>x.f1.isEmpty) = q2 at C2 ⊢;generalize followB l ts = q3 at C3 ⊢;generalize (ts.any fun x=>x.f1.any fun y=>!onB t y) = q4 at C4 ⊢;generalize (ts.any fun x=>!clearB x.f1) = q5 at C5 ⊢;generalize (ts.any fun x=>!bearsB t x.f1) = q6 at C6 ⊢;generalize ts.length = n2 at *;generalize l.length = n1 at *;have HV:=aside hv
 have hT : ∀ W,VW w t A2 n2 c2 W → ∃ nm ln fr re l0 l1 e0 e1,True:=fun _ _=>⟨t.f0,0,0,0,0,0,0,0,trivial⟩
 clear hT;obtain ⟨nm,ln,fr,re,⟨l0,l1⟩,⟨e0,e1⟩⟩ := t
 unfold e24 rowT at *
 dsimp only at *
 have H0:=aside C0;have H1:=aside C1;have H2:=aside C2;have H3:=aside C3;have H4:=aside C4;have H5:=aside C5;have H6:=aside C6
 clear C0 C1 C2 C3 C4 C5 C6 hr hr2 hlc hlc2 hs hl h0 ht hl2 hv;by_cases z : q0 = 0
 ·subst z;rw [if_pos rfl]
  cases q1 with
  | true =>
   simp only [if_true,if_false,Bool.false_eq_true]
   go_enter Try.func23,Try.ntmps23
   go_wp2_with (first|(go_at_call 15;with_reducible refine (H0.out _ HV.out).mono ?_;rintro e w1 ⟨rfl,hb⟩;have n_:=aside (HV.out.mono hb);clear HV;have HV:=n_;clear n_ hb)|(go_at_call 41;with_reducible refine (H1.out _ HV.out).mono ?_;rintro e w1 ⟨rfl,hb⟩;have n_:=aside (HV.out.mono hb);clear HV;have HV:=n_;clear n_ hb)|(go_at_call 41;with_reducible refine (H2.out _ HV.out).mono ?_;rintro e w1 ⟨rfl,hb⟩;have n_:=aside (HV.out.mono hb);clear HV;have HV:=n_;clear n_ hb)|(go_at_call 41;with_reducible refine (H4.out _ HV.out).mono ?_;rintro e w1 ⟨rfl,hb⟩;have n_:=aside (HV.out.mono hb);clear HV;have HV:=n_;clear n_ hb)|(go_at_call 41;with_reducible refine (H5.out _ HV.out).mono ?_;rintro e w1 ⟨rfl,hb⟩;have n_:=aside (HV.out.mono hb);clear HV;have HV:=n_;clear n_ hb)|(go_at_call 41;with_reducible refine (H6.out _ HV.out).mono ?_;rintro e w1 ⟨rfl,hb⟩;have n_:=aside (HV.out.mono hb);clear HV;have HV:=n_;clear n_ hb)|(go_at_call 45;with_reducible refine (H3.out _ HV.out).mono ?_;rintro e w1 ⟨rfl,hb⟩;have n_:=aside (HV.out.mono hb);clear HV;have HV:=n_;clear n_ hb))
   go_ret
   exact ⟨rfl,HV.out.below⟩
  | false =>
   cases q2 with
   | true =>
    simp only [if_true,if_false,Bool.false_eq_true]
    go_enter Try.func23,Try.ntmps23
    go_wp2_with (first|(go_at_call 15;with_reducible refine (H0.out _ HV.out).mono ?_;rintro e w1 ⟨rfl,hb⟩;have n_:=aside (HV.out.mono hb);clear HV;have HV:=n_;clear n_ hb)|(go_at_call 41;with_reducible refine (H1.out _ HV.out).mono ?_;rintro e w1 ⟨rfl,hb⟩;have n_:=aside (HV.out.mono hb);clear HV;have HV:=n_;clear n_ hb)|(go_at_call 41;with_reducible refine (H2.out _ HV.out).mono ?_;rintro e w1 ⟨rfl,hb⟩;have n_:=aside (HV.out.mono hb);clear HV;have HV:=n_;clear n_ hb)|(go_at_call 41;with_reducible refine (H4.out _ HV.out).mono ?_;rintro e w1 ⟨rfl,hb⟩;have n_:=aside (HV.out.mono hb);clear HV;have HV:=n_;clear n_ hb)|(go_at_call 41;with_reducible refine (H5.out _ HV.out).mono ?_;rintro e w1 ⟨rfl,hb⟩;have n_:=aside (HV.out.mono hb);clear HV;have HV:=n_;clear n_ hb)|(go_at_call 41;with_reducible refine (H6.out _ HV.out).mono ?_;rintro e w1 ⟨rfl,hb⟩;have n_:=aside (HV.out.mono hb);clear HV;have HV:=n_;clear n_ hb)|(go_at_call 45;with_reducible refine (H3.out _ HV.out).mono ?_;rintro e w1 ⟨rfl,hb⟩;have n_:=aside (HV.out.mono hb);clear HV;have HV:=n_;clear n_ hb))
    go_ret
    exact ⟨rfl,HV.out.below⟩
   | false =>
    cases q3 with
    | false =>
     simp only [if_true,if_false,Bool.false_eq_true]
     go_enter Try.func23,Try.ntmps23
     go_upto_region 9 with (first|(go_at_call 15;with_reducible refine (H0.out _ HV.out).mono ?_;rintro e w1 ⟨rfl,hb⟩;have n_:=aside (HV.out.mono hb);clear HV;have HV:=n_;clear n_ hb)|(go_at_call 41;with_reducible refine (H1.out _ HV.out).mono ?_;rintro e w1 ⟨rfl,hb⟩;have n_:=aside (HV.out.mono hb);clear HV;have HV:=n_;clear n_ hb)|(go_at_call 41;with_reducible refine (H2.out _ HV.out).mono ?_;rintro e w1 ⟨rfl,hb⟩;have n_:=aside (HV.out.mono hb);clear HV;have HV:=n_;clear n_ hb)|(go_at_call 41;with_reducible refine (H4.out _ HV.out).mono ?_;rintro e w1 ⟨rfl,hb⟩;have n_:=aside (HV.out.mono hb);clear HV;have HV:=n_;clear n_ hb)|(go_at_call 41;with_reducible refine (H5.out _ HV.out).mono ?_;rintro e w1 ⟨rfl,hb⟩;have n_:=aside (HV.out.mono hb);clear HV;have HV:=n_;clear n_ hb)|(go_at_call 41;with_reducible refine (H6.out _ HV.out).mono ?_;rintro e w1 ⟨rfl,hb⟩;have n_:=aside (HV.out.mono hb);clear HV;have HV:=n_;clear n_ hb)|(go_at_call 45;with_reducible refine (H3.out _ HV.out).mono ?_;rintro e w1 ⟨rfl,hb⟩;have n_:=aside (HV.out.mono hb);clear HV;have HV:=n_;clear n_ hb))
     have cB : w1.cell? ⟨w.heap.size + 1,0,none⟩ = some (.slice A2 n2 c2):=blk_cell HV.out.box 0
     go_wp2_with (first|(go_at_call 15;with_reducible refine (H0.out _ HV.out).mono ?_;rintro e w1 ⟨rfl,hb⟩;have n_:=aside (HV.out.mono hb);clear HV;have HV:=n_;clear n_ hb)|(go_at_call 41;with_reducible refine (H1.out _ HV.out).mono ?_;rintro e w1 ⟨rfl,hb⟩;have n_:=aside (HV.out.mono hb);clear HV;have HV:=n_;clear n_ hb)|(go_at_call 41;with_reducible refine (H2.out _ HV.out).mono ?_;rintro e w1 ⟨rfl,hb⟩;have n_:=aside (HV.out.mono hb);clear HV;have HV:=n_;clear n_ hb)|(go_at_call 41;with_reducible refine (H4.out _ HV.out).mono ?_;rintro e w1 ⟨rfl,hb⟩;have n_:=aside (HV.out.mono hb);clear HV;have HV:=n_;clear n_ hb)|(go_at_call 41;with_reducible refine (H5.out _ HV.out).mono ?_;rintro e w1 ⟨rfl,hb⟩;have n_:=aside (HV.out.mono hb);clear HV;have HV:=n_;clear n_ hb)|(go_at_call 41;with_reducible refine (H6.out _ HV.out).mono ?_;rintro e w1 ⟨rfl,hb⟩;have n_:=aside (HV.out.mono hb);clear HV;have HV:=n_;clear n_ hb)|(go_at_call 45;with_reducible refine (H3.out _ HV.out).mono ?_;rintro e w1 ⟨rfl,hb⟩;have n_:=aside (HV.out.mono hb);clear HV;have HV:=n_;clear n_ hb))
     go_ret
     exact ⟨rfl,HV.out.below⟩
    | true =>
     cases q4 with
     | true =>
      simp only [if_true,if_false,Bool.false_eq_true]
      go_enter Try.func23,Try.ntmps23
      go_upto_region 9 with (first|(go_at_call 15;with_reducible refine (H0.out _ HV.out).mono ?_;rintro e w1 ⟨rfl,hb⟩;have n_:=aside (HV.out.mono hb);clear HV;have HV:=n_;clear n_ hb)|(go_at_call 41;with_reducible refine (H1.out _ HV.out).mono ?_;rintro e w1 ⟨rfl,hb⟩;have n_:=aside (HV.out.mono hb);clear HV;have HV:=n_;clear n_ hb)|(go_at_call 41;with_reducible refine (H2.out _ HV.out).mono ?_;rintro e w1 ⟨rfl,hb⟩;have n_:=aside (HV.out.mono hb);clear HV;have HV:=n_;clear n_ hb)|(go_at_call 41;with_reducible refine (H4.out _ HV.out).mono ?_;rintro e w1 ⟨rfl,hb⟩;have n_:=aside (HV.out.mono hb);clear HV;have HV:=n_;clear n_ hb)|(go_at_call 41;with_reducible refine (H5.out _ HV.out).mono ?_;rintro e w1 ⟨rfl,hb⟩;have n_:=aside (HV.out.mono hb);clear HV;have HV:=n_;clear n_ hb)|(go_at_call 41;with_reducible refine (H6.out _ HV.out).mono ?_;rintro e w1 ⟨rfl,hb⟩;have n_:=aside (HV.out.mono hb);clear HV;have HV:=n_;clear n_ hb)|(go_at_call 45;with_reducible refine (H3.out _ HV.out).mono ?_;rintro e w1 ⟨rfl,hb⟩;have n_:=aside (HV.out.mono hb);clear HV;have HV:=n_;clear n_ hb))
      have cB : w1.cell? ⟨w.heap.size + 1,0,none⟩ = some (.slice A2 n2 c2):=blk_cell HV.out.box 0
      go_wp2_with (first|(go_at_call 15;with_reducible refine (H0.out _ HV.out).mono ?_;rintro e w1 ⟨rfl,hb⟩;have n_:=aside (HV.out.mono hb);clear HV;have HV:=n_;clear n_ hb)|(go_at_call 41;with_reducible refine (H1.out _ HV.out).mono ?_;rintro e w1 ⟨rfl,hb⟩;have n_:=aside (HV.out.mono hb);clear HV;have HV:=n_;clear n_ hb)|(go_at_call 41;with_reducible refine (H2.out _ HV.out).mono ?_;rintro e w1 ⟨rfl,hb⟩;have n_:=aside (HV.out.mono hb);clear HV;have HV:=n_;clear n_ hb)|(go_at_call 41;with_reducible refine (H4.out _ HV.out).mono ?_;rintro e w1 ⟨rfl,hb⟩;have n_:=aside (HV.out.mono hb);clear HV;have HV:=n_;clear n_ hb)|(go_at_call 41;with_reducible refine (H5.out _ HV.out).mono ?_;rintro e w1 ⟨rfl,hb⟩;have n_:=aside (HV.out.mono hb);clear HV;have HV:=n_;clear n_ hb)|(go_at_call 41;with_reducible refine (H6.out _ HV.out).mono ?_;rintro e w1 ⟨rfl,hb⟩;have n_:=aside (HV.out.mono hb);clear HV;have HV:=n_;clear n_ hb)|(go_at_call 45;with_reducible refine (H3.out _ HV.out).mono ?_;rintro e w1 ⟨rfl,hb⟩;have n_:=aside (HV.out.mono hb);clear HV;have HV:=n_;clear n_ hb))
      go_ret
      exact ⟨rfl,HV.out.below⟩
     | false =>
      cases q5 with
      | true =>
       simp only [if_true,if_false,Bool.false_eq_true]
       go_enter Try.func23,Try.ntmps23
       go_upto_region 9 with (first|(go_at_call 15;with_reducible refine (H0.out _ HV.out).mono ?_;rintro e w1 ⟨rfl,hb⟩;have n_:=aside (HV.out.mono hb);clear HV;have HV:=n_;clear n_ hb)|(go_at_call 41;with_reducible refine (H1.out _ HV.out).mono ?_;rintro e w1 ⟨rfl,hb⟩;have n_:=aside (HV.out.mono hb);clear HV;have HV:=n_;clear n_ hb)|(go_at_call 41;with_reducible refine (H2.out _ HV.out).mono ?_;rintro e w1 ⟨rfl,hb⟩;have n_:=aside (HV.out.mono hb);clear HV;have HV:=n_;clear n_ hb)|(go_at_call 41;with_reducible refine (H4.out _ HV.out).mono ?_;rintro e w1 ⟨rfl,hb⟩;have n_:=aside (HV.out.mono hb);clear HV;have HV:=n_;clear n_ hb)|(go_at_call 41;with_reducible refine (H5.out _ HV.out).mono ?_;rintro e w1 ⟨rfl,hb⟩;have n_:=aside (HV.out.mono hb);clear HV;have HV:=n_;clear n_ hb)|(go_at_call 41;with_reducible refine (H6.out _ HV.out).mono ?_;rintro e w1 ⟨rfl,hb⟩;have n_:=aside (HV.out.mono hb);clear HV;have HV:=n_;clear n_ hb)|(go_at_call 45;with_reducible refine (H3.out _ HV.out).mono ?_;rintro e w1 ⟨rfl,hb⟩;have n_:=aside (HV.out.mono hb);clear HV;have HV:=n_;clear n_ hb))
       have cB : w1.cell? ⟨w.heap.size + 1,0,none⟩ = some (.slice A2 n2 c2):=blk_cell HV.out.box 0
       go_wp2_with (first|(go_at_call 15;with_reducible refine (H0.out _ HV.out).mono ?_;rintro e w1 ⟨rfl,hb⟩;have n_:=aside (HV.out.mono hb);clear HV;have HV:=n_;clear n_ hb)|(go_at_call 41;with_reducible refine (H1.out _ HV.out).mono ?_;rintro e w1 ⟨rfl,hb⟩;have n_:=aside (HV.out.mono hb);clear HV;have HV:=n_;clear n_ hb)|(go_at_call 41;with_reducible refine (H2.out _ HV.out).mono ?_;rintro e w1 ⟨rfl,hb⟩;have n_:=aside (HV.out.mono hb);clear HV;have HV:=n_;clear n_ hb)|(go_at_call 41;with_reducible refine (H4.out _ HV.out).mono ?_;rintro e w1 ⟨rfl,hb⟩;have n_:=aside (HV.out.mono hb);clear HV;have HV:=n_;clear n_ hb)|(go_at_call 41;with_reducible refine (H5.out _ HV.out).mono ?_;rintro e w1 ⟨rfl,hb⟩;have n_:=aside (HV.out.mono hb);clear HV;have HV:=n_;clear n_ hb)|(go_at_call 41;with_reducible refine (H6.out _ HV.out).mono ?_;rintro e w1 ⟨rfl,hb⟩;have n_:=aside (HV.out.mono hb);clear HV;have HV:=n_;clear n_ hb)|(go_at_call 45;with_reducible refine (H3.out _ HV.out).mono ?_;rintro e w1 ⟨rfl,hb⟩;have n_:=aside (HV.out.mono hb);clear HV;have HV:=n_;clear n_ hb))
       go_ret
       exact ⟨rfl,HV.out.below⟩
      | false =>
       cases q6 with
       | true =>
        simp only [if_true,if_false,Bool.false_eq_true]
        go_enter Try.func23,Try.ntmps23
        go_upto_region 9 with (first|(go_at_call 15;with_reducible refine (H0.out _ HV.out).mono ?_;rintro e w1 ⟨rfl,hb⟩;have n_:=aside (HV.out.mono hb);clear HV;have HV:=n_;clear n_ hb)|(go_at_call 41;with_reducible refine (H1.out _ HV.out).mono ?_;rintro e w1 ⟨rfl,hb⟩;have n_:=aside (HV.out.mono hb);clear HV;have HV:=n_;clear n_ hb)|(go_at_call 41;with_reducible refine (H2.out _ HV.out).mono ?_;rintro e w1 ⟨rfl,hb⟩;have n_:=aside (HV.out.mono hb);clear HV;have HV:=n_;clear n_ hb)|(go_at_call 41;with_reducible refine (H4.out _ HV.out).mono ?_;rintro e w1 ⟨rfl,hb⟩;have n_:=aside (HV.out.mono hb);clear HV;have HV:=n_;clear n_ hb)|(go_at_call 41;with_reducible refine (H5.out _ HV.out).mono ?_;rintro e w1 ⟨rfl,hb⟩;have n_:=aside (HV.out.mono hb);clear HV;have HV:=n_;clear n_ hb)|(go_at_call 41;with_reducible refine (H6.out _ HV.out).mono ?_;rintro e w1 ⟨rfl,hb⟩;have n_:=aside (HV.out.mono hb);clear HV;have HV:=n_;clear n_ hb)|(go_at_call 45;with_reducible refine (H3.out _ HV.out).mono ?_;rintro e w1 ⟨rfl,hb⟩;have n_:=aside (HV.out.mono hb);clear HV;have HV:=n_;clear n_ hb))
        have cB : w1.cell? ⟨w.heap.size + 1,0,none⟩ = some (.slice A2 n2 c2):=blk_cell HV.out.box 0
        go_wp2_with (first|(go_at_call 15;with_reducible refine (H0.out _ HV.out).mono ?_;rintro e w1 ⟨rfl,hb⟩;have n_:=aside (HV.out.mono hb);clear HV;have HV:=n_;clear n_ hb)|(go_at_call 41;with_reducible refine (H1.out _ HV.out).mono ?_;rintro e w1 ⟨rfl,hb⟩;have n_:=aside (HV.out.mono hb);clear HV;have HV:=n_;clear n_ hb)|(go_at_call 41;with_reducible refine (H2.out _ HV.out).mono ?_;rintro e w1 ⟨rfl,hb⟩;have n_:=aside (HV.out.mono hb);clear HV;have HV:=n_;clear n_ hb)|(go_at_call 41;with_reducible refine (H4.out _ HV.out).mono ?_;rintro e w1 ⟨rfl,hb⟩;have n_:=aside (HV.out.mono hb);clear HV;have HV:=n_;clear n_ hb)|(go_at_call 41;with_reducible refine (H5.out _ HV.out).mono ?_;rintro e w1 ⟨rfl,hb⟩;have n_:=aside (HV.out.mono hb);clear HV;have HV:=n_;clear n_ hb)|(go_at_call 41;with_reducible refine (H6.out _ HV.out).mono ?_;rintro e w1 ⟨rfl,hb⟩;have n_:=aside (HV.out.mono hb);clear HV;have HV:=n_;clear n_ hb)|(go_at_call 45;with_reducible refine (H3.out _ HV.out).mono ?_;rintro e w1 ⟨rfl,hb⟩;have n_:=aside (HV.out.mono hb);clear HV;have HV:=n_;clear n_ hb))
        go_ret
        exact ⟨rfl,HV.out.below⟩
       | false =>
        simp only [if_true,if_false,Bool.false_eq_true]
        go_enter Try.func23,Try.ntmps23
        go_upto_region 9 with (first|(go_at_call 15;with_reducible refine (H0.out _ HV.out).mono ?_;rintro e w1 ⟨rfl,hb⟩;have n_:=aside (HV.out.mono hb);clear HV;have HV:=n_;clear n_ hb)|(go_at_call 41;with_reducible refine (H1.out _ HV.out).mono ?_;rintro e w1 ⟨rfl,hb⟩;have n_:=aside (HV.out.mono hb);clear HV;have HV:=n_;clear n_ hb)|(go_at_call 41;with_reducible refine (H2.out _ HV.out).mono ?_;rintro e w1 ⟨rfl,hb⟩;have n_:=aside (HV.out.mono hb);clear HV;have HV:=n_;clear n_ hb)|(go_at_call 41;with_reducible refine (H4.out _ HV.out).mono ?_;rintro e w1 ⟨rfl,hb⟩;have n_:=aside (HV.out.mono hb);clear HV;have HV:=n_;clear n_ hb)|(go_at_call 41;with_reducible refine (H5.out _ HV.out).mono ?_;rintro e w1 ⟨rfl,hb⟩;have n_:=aside (HV.out.mono hb);clear HV;have HV:=n_;clear n_ hb)|(go_at_call 41;with_reducible refine (H6.out _ HV.out).mono ?_;rintro e w1 ⟨rfl,hb⟩;have n_:=aside (HV.out.mono hb);clear HV;have HV:=n_;clear n_ hb)|(go_at_call 45;with_reducible refine (H3.out _ HV.out).mono ?_;rintro e w1 ⟨rfl,hb⟩;have n_:=aside (HV.out.mono hb);clear HV;have HV:=n_;clear n_ hb))
        have cB : w1.cell? ⟨w.heap.size + 1,0,none⟩ = some (.slice A2 n2 c2):=blk_cell HV.out.box 0
        go_wp2_with (first|(go_at_call 15;with_reducible refine (H0.out _ HV.out).mono ?_;rintro e w1 ⟨rfl,hb⟩;have n_:=aside (HV.out.mono hb);clear HV;have HV:=n_;clear n_ hb)|(go_at_call 41;with_reducible refine (H1.out _ HV.out).mono ?_;rintro e w1 ⟨rfl,hb⟩;have n_:=aside (HV.out.mono hb);clear HV;have HV:=n_;clear n_ hb)|(go_at_call 41;with_reducible refine (H2.out _ HV.out).mono ?_;rintro e w1 ⟨rfl,hb⟩;have n_:=aside (HV.out.mono hb);clear HV;have HV:=n_;clear n_ hb)|(go_at_call 41;with_reducible refine (H4.out _ HV.out).mono ?_;rintro e w1 ⟨rfl,hb⟩;have n_:=aside (HV.out.mono hb);clear HV;have HV:=n_;clear n_ hb)|(go_at_call 41;with_reducible refine (H5.out _ HV.out).mono ?_;rintro e w1 ⟨rfl,hb⟩;have n_:=aside (HV.out.mono hb);clear HV;have HV:=n_;clear n_ hb)|(go_at_call 41;with_reducible refine (H6.out _ HV.out).mono ?_;rintro e w1 ⟨rfl,hb⟩;have n_:=aside (HV.out.mono hb);clear HV;have HV:=n_;clear n_ hb)|(go_at_call 45;with_reducible refine (H3.out _ HV.out).mono ?_;rintro e w1 ⟨rfl,hb⟩;have n_:=aside (HV.out.mono hb);clear HV;have HV:=n_;clear n_ hb))
        go_ret
        exact ⟨rfl,HV.out.below⟩
 ·rw [if_neg z]
  have z' : (q0 != 0) = true:=by simpa using z
  go_enter Try.func23,Try.ntmps23
  go_wp2_with (first|(go_at_call 15;with_reducible refine (H0.out _ HV.out).mono ?_;rintro e w1 ⟨rfl,hb⟩;have n_:=aside (HV.out.mono hb);clear HV;have HV:=n_;clear n_ hb)|(go_at_call 41;with_reducible refine (H1.out _ HV.out).mono ?_;rintro e w1 ⟨rfl,hb⟩;have n_:=aside (HV.out.mono hb);clear HV;have HV:=n_;clear n_ hb)|(go_at_call 41;with_reducible refine (H2.out _ HV.out).mono ?_;rintro e w1 ⟨rfl,hb⟩;have n_:=aside (HV.out.mono hb);clear HV;have HV:=n_;clear n_ hb)|(go_at_call 41;with_reducible refine (H4.out _ HV.out).mono ?_;rintro e w1 ⟨rfl,hb⟩;have n_:=aside (HV.out.mono hb);clear HV;have HV:=n_;clear n_ hb)|(go_at_call 41;with_reducible refine (H5.out _ HV.out).mono ?_;rintro e w1 ⟨rfl,hb⟩;have n_:=aside (HV.out.mono hb);clear HV;have HV:=n_;clear n_ hb)|(go_at_call 41;with_reducible refine (H6.out _ HV.out).mono ?_;rintro e w1 ⟨rfl,hb⟩;have n_:=aside (HV.out.mono hb);clear HV;have HV:=n_;clear n_ hb)|(go_at_call 45;with_reducible refine (H3.out _ HV.out).mono ?_;rintro e w1 ⟨rfl,hb⟩;have n_:=aside (HV.out.mono hb);clear HV;have HV:=n_;clear n_ hb))
  go_ret
  exact ⟨rfl,HV.out.below⟩
end Go.Proofs.Ytohcgenhhgipcaa.PA
