import Derived.Test.YtdnjagfbhppmbaaGw
import Derived.Maps.OwnSet
import Derived.Maps.OwnOps
namespace Go.Proofs.Ytdnjagfbhppmbaa.PA
open Go.RowKit Go.Shelf Go.Proofs.YtdnjagfbhppmbaaW.PrintWords Go.Proofs.YtdnjagfbhppmbaaW.PrintLast Go.Proofs.YtdnjagfbhppmbaaW.PrintMore
set_option linter.unusedVariables false
set_option linter.unusedSimpArgs false
def Pred59 (l : List S59) (g : Nat) (lb : Array Value) (p : S59 → Bool) (w : World) : Prop :=
 ∀ (W : World) (x : S59),x ∈ l → Below w.heap.size w W → Calls Try.prog g (#[e59 x] ++ lb) W fun e w'=>e = .returned (.bool (p x)) ∧ Below W.heap.size W w'
set_option maxHeartbeats 400000 in
theorem idx61 (p : S59 → Bool) (g : Nat) (lb : Array Value) (eg : ∀ args w, (callFunc g args).run Try.prog w = .ok (.enter g args) w) (A : Option Addr) (c : Nat) (l : List S59) (w : World) (hr : Kd.C k59 w A l.length l) (hp : Pred59 l g lb p w) :
  Calls Try.prog 61 #[.slice A l.length c,.func (.func g) #[] lb] w fun e w'=>e = .returned (.int .i64 (idxOf p l)) ∧ Below w.heap.size w w':=by
 have hm:=Kd.C_max hr;have HR:=aside hr;have HP:=aside hp;clear hr hp
 go_enter Try.func61,Try.ntmps61
 go_wp2
 go_loopg [8] l.length (fun gg v wr=>∃ n : Nat,n ≤ l.length ∧ l.length - n ≤ gg ∧ v = .int .i64 n ∧ Aside (∀ j (h : j < l.length),j < n → p l[j] = false) ∧ Aside (Below w.heap.size w wr))
 case atStart=>exact ⟨0,by omega,by omega,rfl,(show Aside _ from fun j h hj=>absurd hj (Nat.not_lt_zero _)),Below.refl _ _⟩
 case round =>
  obtain ⟨n,hn,hg,rfl,A1,B⟩ := hrel;by_cases hlt : n < l.length
  ·have hlt' : (n : Int) < (l.length : Int):=by omega
   obtain ⟨ad,hA,q0,q1,q2,q3,q4,q5,q6⟩ := at_T59 (Kd.C_below HR.out B.out) (n : Int) (by omega) (by omega)
   have hx : rd_T59 l (n : Int) = l[n] := by unfold rd_T59;simp [List.getD,hlt]
   rw [hx] at q0 q1 q2 q3 q4 q5 q6;simp only [Int.toNat_natCast] at q0 q1 q2 q3 q4 q5 q6;have hcall:=HP.out wr l[n] (List.getElem_mem hlt) B.out
   obtain ⟨y,hy⟩ : ∃ y,l[n] = y:=⟨_,rfl⟩
   rw [hy] at q0 q1 q2 q3 q4 q5 q6 hcall;have HY:=aside hy;clear hx hy HP;subst hA
   unfold e59 a59 at hcall
   cases hq : p y with
   | true =>
    rw [hq] at hcall;have HQ:=aside hq;clear hq
    go_wp2_with (go_at_fn g;refine hcall.mono ?_;rintro e w' ⟨rfl,hb'⟩)
    go_ret
    exact ⟨ret_i64 (by rw [idxOf_hit p l n hlt (by rw [HY.out];exact HQ.out) A1.out]),B.out.trans (hb'.mono B.out.size)⟩
   | false =>
    rw [hq] at hcall;have HQ:=aside hq;clear hq
    go_wp2_with (go_at_fn g;refine hcall.mono ?_;rintro e w' ⟨rfl,hb'⟩)
    go_roundg (l.length - (n + 1))
    case measure=>omega
    case rel =>
     refine ⟨n + 1,by omega,by omega,by go_num,(show Aside _ from fun j h hj=>?_),B.out.trans (hb'.mono B.out.size)⟩
     by_cases e : j = n
     (subst e;rw [HY.out];exact HQ.out);(exact A1.out j h (by omega))
  ·obtain rfl : n = l.length:=by omega
   go_wp2
   go_ret
   exact ⟨ret_i64 (by rw [idxOf_miss p l (fun j h=>A1.out j h h)]),B.out⟩
set_option maxHeartbeats 400000 in
theorem any41 (p : S59 → Bool) (g : Nat) (lb : Array Value) (eg : ∀ args w, (callFunc g args).run Try.prog w = .ok (.enter g args) w) (A : Option Addr) (c : Nat) (l : List S59) (w : World) (hr : Kd.C k59 w A l.length l) (hp : Pred59 l g lb p w) :
  Calls Try.prog 41 #[.slice A l.length c,.func (.func g) #[] lb] w fun e w'=>e = .returned (.bool (l.any p)) ∧ Below w.heap.size w w':=by
 have HI:=aside (idx61 p g lb eg A c l w hr hp);have ha:=idxOf_any p l;generalize l.any p = q at ha ⊢;generalize idxOf p l = i at ha HI;subst ha;clear hp hr
 go_enter Try.func41,Try.ntmps41
 go_wp2_with (go_at_call 61;refine HI.out.mono ?_;rintro e w1 ⟨rfl,hb⟩)
 go_ret
 exact ⟨rfl,hb⟩
def bad42 (kf : Int) (n : S59) : Bool:=decide (n.f0 = 3) && (decide (n.f2 = 2) || !decide (n.f4 = kf))
set_option maxHeartbeats 800000 in
theorem c42_any (n : S59) (b : Nat) (kf : Int) (W : World) (hk : W.cell? ⟨b,0,none⟩ = some (.int .i64 kf)) : Calls Try.prog 42 (#[e59 n] ++ #[.pointer (some ⟨b,0,none⟩)]) W fun e w'=>e = .returned (.bool (bad42 kf n)) ∧ Below W.heap.size W w':=by
 obtain ⟨f0,f1,f2,f3,f4,f5,f6⟩ := n;have hlt:=World.block_lt_of_cell? W _ hk
 unfold e59 a59 bad42
 dsimp only
 by_cases h0 : f0 = 3
 ·subst h0;by_cases h1 : f2 = 2
  ·subst h1
   go_enter Try.func42,Try.ntmps42
   go_wp2
   go_ret
   exact ⟨rfl,below_alloc (Below.refl _ _) _⟩
  ·have b1 : (f2 == 2) = false:=by simpa using h1
   have hd : decide (f2 = 2) = false:=by simpa using h1
   by_cases h2 : f4 = kf
   ·subst h2
    go_enter Try.func42,Try.ntmps42
    go_wp2
    go_ret
    exact ⟨ok_bool (by simp [h1]),below_alloc (Below.refl _ _) _⟩
   ·have b2 : (f4 != kf) = true:=by simpa using h2
    have H1:=aside h1;have H2:=aside h2;clear h1 h2 hd
    go_enter Try.func42,Try.ntmps42
    go_wp2
    go_ret
    exact ⟨ok_bool (by simp [H1.out,H2.out]),below_alloc (Below.refl _ _) _⟩
 ·have b0 : (f0 == 3) = false:=by simpa using h0
  have H0:=aside h0;clear h0
  go_enter Try.func42,Try.ntmps42
  go_wp2
  go_ret
  exact ⟨ok_bool (by simp [H0.out]),below_alloc (Below.refl _ _) _⟩
theorem eg42 : ∀ args w,(callFunc 42 args).run Try.prog w = .ok (.enter 42 args) w:=enters_of Try.func42 (by kernel_rfl) rfl
def R36 (v : Value) : Option (DataW S36 × List MemPlace) :=
 match v with
 | .agg ⟨[.string a,.int .i64 b,.int .i64 c,.int .i64 d,.int .i64 e,.int .i64 f,.int .i64 g]⟩=>some (.held ⟨a,⟨b,c,d⟩,e,f,g⟩,[])
 | _=>none
theorem R36_mk (x : S36) : R36 (e36 x) = some (.held x,[]):=rfl
theorem R36_inv {v : Value} {x : S36} {ps : List MemPlace} (h : R36 v = some (.held x,ps)) : v = e36 x:=by
 unfold R36 at h
 split at h
 ·cases h;rfl
 ·cases h
def knownR (l : List S36) (s : ByteArray) : Option S36:=l.reverse.find? (fun x=>decide (x.f0 = s))
def itemOf (l : List S36) (s : ByteArray) : S36:=(knownR l s).getD z36
theorem known_snoc (l : List S36) (x : S36) (s : ByteArray) : knownR (l ++ [x]) s = if x.f0 = s then some x else knownR l s:=by
 unfold knownR
 rw [List.reverse_append];by_cases h : x.f0 = s <;> simp [h]
structure MI (W : World) (b n : Nat) (l : List S36) : Prop where
 ex : ∃ D : DataW S36,W.ownsMap Try.prog 9 R36 b n D ∧ Maps.IsMap D ∧ ∀ s : ByteArray,(∀ zd,D.atKey (.string s.data.toList) zd = (match knownR l s with|some x=>.held x|none=>zd)) ∧ Maps.has D (.string s.data.toList) = (knownR l s).isSome
theorem MI.made (W : World) : MI (W.alloc (.map #[] 0)) W.heap.size 0 [] :=
 ⟨⟨_,World.ownsMap_made W _ _ _,Maps.isMap_empty,fun s=>⟨fun zd=>rfl,rfl⟩⟩⟩
theorem MI.lt {W : World} {b n : Nat} {l : List S36} (h : MI W b n l) : b < W.heap.size:=by
 obtain ⟨D,h1,_⟩ := h.ex;exact h1.lt
theorem MI.below {W X : World} {b n B : Nat} {l : List S36} (h : MI W b n l) (hb : Below B W X) (hB : b < B) : MI X b n l:=by
 obtain ⟨D,⟨es,clock,h1,h2⟩,h3⟩ := h.ex;exact ⟨⟨D,⟨es,clock,(hb.block b hB).trans h1,h2⟩,h3⟩⟩
theorem law9 : Maps.Keyed Try.prog 9:=Maps.string_keyed Try.underlying9
theorem zero36 (w : World) : (zeroValue 36).run Try.prog w = .ok (e36 z36) w:=by kernel_rfl
theorem MI.look_ok {W : World} {b n : Nat} {l : List S36} (h : MI W b n l) (s : ByteArray) (hs : s.size ≤ 9223372036854775807) :
  (Instr.lookup 77 (.map (some b)) (.string s) true).run Try.prog W = .ok (.tuple #[e36 (itemOf l s),.bool (knownR l s).isSome]) W:=by
 obtain ⟨D,h1,h2,h3⟩ := h.ex;obtain ⟨v,ps,hrun,hv⟩ := h1.look_ok law9 Try.underlying77 (zero36 W) (R36_mk z36) (WideMaps.keyOf_string_mk (P:=Try.prog) Try.underlying9 (s:=s) hs);rw [(h3 s).1] at hv;rw [hrun,(h3 s).2]
 have : v = e36 (itemOf l s):=by
  unfold itemOf
  cases hk : knownR l s with
  | none=>rw [hk] at hv;exact R36_inv hv
  | some x=>rw [hk] at hv;exact R36_inv hv
 rw [this]
theorem MI.look {W : World} {b n : Nat} {l : List S36} (h : MI W b n l) (s : ByteArray) (hs : s.size ≤ 9223372036854775807) :
  (Instr.lookup 77 (.map (some b)) (.string s) false).run Try.prog W = .ok (e36 (itemOf l s)) W:=by
 obtain ⟨D,h1,h2,h3⟩ := h.ex;obtain ⟨v,ps,hrun,hv⟩ := h1.lookup law9 Try.underlying77 (zero36 W) (R36_mk z36) (WideMaps.keyOf_string_mk (P:=Try.prog) Try.underlying9 (s:=s) hs);rw [(h3 s).1] at hv;rw [hrun]
 have : v = e36 (itemOf l s):=by
  unfold itemOf
  cases hk : knownR l s with
  | none=>rw [hk] at hv;exact R36_inv hv
  | some x=>rw [hk] at hv;exact R36_inv hv
 rw [this]
theorem MI.put {W : World} {b n : Nat} {l : List S36} {D : DataW S36} (x : S36) (h2 : Maps.IsMap D) (h3 : ∀ s : ByteArray, (∀ zd, D.atKey (.string s.data.toList) zd = (match knownR l s with | some x => .held x | none => zd)) ∧ Maps.has D (.string s.data.toList) = (knownR l s).isSome)
  (h1 : W.ownsMap Try.prog 9 R36 b (n + 1) (D.put (.string x.f0.data.toList) (.held x))) : MI W b (n + 1) (l ++ [x]):=by
 refine ⟨⟨_,h1,h2.put _ _,fun s=>?_⟩⟩
 rw [known_snoc];by_cases e : x.f0 = s
 (subst e;rw [if_pos rfl];exact ⟨fun zd=>Maps.atKey_put_same h2 (show WideAt.IsKeyLit (.string _) from trivial) _ _,Maps.has_put_same h2 (show WideAt.IsKeyLit (.string _) from trivial) _⟩)
 ·rw [if_neg e]
  have hne : Lit.string s.data.toList ≠ Lit.string x.f0.data.toList:=fun h=>e (by
   have h:=Lit.string.inj h
   cases hx : x.f0 with|mk dx=>cases s with|mk ds=>rw [hx] at h;simp at h;rw [h])
  exact ⟨fun zd=>by rw [Maps.atKey_put_other hne];exact (h3 s).1 zd,by rw [Maps.has_put_other hne];exact (h3 s).2⟩
def sumR (l : List S36) : List S87 → Int → Int × Int
 | [],s=>(s,0)
 | x :: r,s =>
  if x.f0 = 1 then
   (if wrap64 (x.f2.f1.f0 - x.f2.f0.f0) = (itemOf l x.f1).f1.f0 then
    (if wrap64 (x.f2.f1.f1 - x.f2.f0.f1) = (itemOf l x.f1).f1.f1 then sumR l r (wrap64 (s + (itemOf l x.f1).f2)) else (0,10)) else (0,10))
  else sumR l r s
def unk (l : List S36) (n : S59) : Bool:=decide (n.f0 = 1) && !(knownR l n.f1).isSome
def valueR (a0 a1 : Int) (l2 : List S36) (a3 : Int) (l4 : List S59) : Int × Int :=
 if checkR a0 a1 l2 a3 = 0 then
  (if gCheckR l4 ⟨a0,a1,1⟩ = 0 then
   (if l4.any (bad42 a3) = true then (0,10) else if l4.any (unk l2) = true then (0,3) else sumR l2 (gLeavesR l4 ⟨a0,a1,1⟩) 0)
  else (0,gCheckR l4 ⟨a0,a1,1⟩))
 else (0,checkR a0 a1 l2 a3)
theorem own87 {W : World} {base : Nat} {u : Value} {L : List S87} (h : W.ownsRow base 82 8 u L.length (rows87 L)) :
  ∃ A c,u = .slice A L.length c ∧ L.length ≤ 9223372036854775807 ∧ ∀ (X : World),Below W.heap.size W X → ∀ (j : Nat) (hj : j < L.length),∃ ad,A = some ad ∧
   X.cell? (ad.add (j * 8)) = some (.int .i64 L[j].f0) ∧ X.cell? ⟨(ad.add (j * 8)).block,(ad.add (j * 8)).off + 1,none⟩ = some (.string L[j].f1) ∧
   X.cell? ⟨(ad.add (j * 8)).block,(ad.add (j * 8)).off + 2,none⟩ = some (.int .i64 L[j].f2.f0.f0) ∧ X.cell? ⟨(ad.add (j * 8)).block,(ad.add (j * 8)).off + 3,none⟩ = some (.int .i64 L[j].f2.f0.f1) ∧
   X.cell? ⟨(ad.add (j * 8)).block,(ad.add (j * 8)).off + 4,none⟩ = some (.int .i64 L[j].f2.f0.f2) ∧ X.cell? ⟨(ad.add (j * 8)).block,(ad.add (j * 8)).off + 5,none⟩ = some (.int .i64 L[j].f2.f1.f0) ∧
   X.cell? ⟨(ad.add (j * 8)).block,(ad.add (j * 8)).off + 6,none⟩ = some (.int .i64 L[j].f2.f1.f1) ∧ X.cell? ⟨(ad.add (j * 8)).block,(ad.add (j * 8)).off + 7,none⟩ = some (.int .i64 L[j].f2.f1.f2):=by
 obtain ⟨h1,h2⟩ := h
 rcases h2 with ⟨rfl,h3⟩|⟨g,cap,cur,rfl,hg,hb,hc,hm,hs,ht⟩
 ·refine ⟨none,0,by rw [h3],by omega,fun X hX j hj=>absurd hj (by omega)⟩
 ·refine ⟨some ⟨g,0,none⟩,cap,rfl,by unfold maxLen at hm;omega,fun X hX j hj=>⟨⟨g,0,none⟩,rfl, ?_⟩⟩
  have hb2 : X.heap[g]? = some (.cells cur 82 (0,0)):=(hX.block g (blk_lt hb)).trans hb
  have key : ∀ i,i < 8 → cur[j * 8 + i]? = (c87 L[j])[i]? := by
   intro i hi
   have e1 : (rows87 L)[j * 8 + i]? = (c87 L[j])[i]? := by
    have hl : ∀ (M : List S87) (j : Nat) (hj : j < M.length),(rows87 M)[j * 8 + i]? = (c87 M[j])[i]? := by
     intro M
     induction M with
     | nil=>intro j hj;cases hj
     | cons a r ih =>
      intro j hj
      have e : rows87 (a :: r) = c87 a ++ rows87 r:=by simp [rows87]
      have l8 : (c87 a).length = 8:=rfl;rw [e]
      cases j with
      | zero=>rw [List.getElem?_append_left (by rw [l8];omega)];simp
      | succ j =>
       rw [List.getElem?_append_right (by rw [l8];omega),l8]
       have : (j + 1) * 8 + i - 8 = j * 8 + i:=by omega
       rw [this]
       simpa using ih j (by simpa using hj)
    exact hl L j hj
   rw [← e1,← ht,List.getElem?_take,if_pos (by omega),Array.getElem?_toList]
  have cell : ∀ i v,i < 8 → (c87 L[j])[i]? = some v → X.cell? ⟨g,0 + j * 8 + i,none⟩ = some v:=by
   intro i v hi hv;rw [blk_cell hb2];rw [show 0 + j * 8 + i = j * 8 + i by omega];rw [key i hi,hv]
  have ha : (⟨g,0,none⟩ : Addr).add (j * 8) = ⟨g,0 + j * 8,none⟩ := by unfold Addr.add;split <;> simp_all
  rw [ha];exact ⟨cell 0 _ (by omega) rfl,cell 1 _ (by omega) rfl,cell 2 _ (by omega) rfl,cell 3 _ (by omega) rfl,cell 4 _ (by omega) rfl,cell 5 _ (by omega) rfl,cell 6 _ (by omega) rfl,cell 7 _ (by omega) rfl⟩
end Go.Proofs.Ytdnjagfbhppmbaa.PA
