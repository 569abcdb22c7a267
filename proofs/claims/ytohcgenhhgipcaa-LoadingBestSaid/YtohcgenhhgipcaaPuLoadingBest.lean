import Derived.Test.YtohcgenhhgipcaaOp
import Derived.Test.YtohcgenhhgipcaaPAx23
import Derived.Test.YtohcgenhhgipcaaPuh
import Derived.Test.YtohcgenhhgipcaaPui
import Derived.Test.YtohcgenhhgipcaaPuw
namespace Go.Proofs.Ytohcgenhhgipcaa.Pure
open Go.RowKit Go.Proofs.Ytohcgenhhgipcaa Go.Proofs.Ytohcgenhhgipcaa.PA Go.Proofs.YtohcgenhhgipcaaW.PrintWords Go.Proofs.YtohcgenhhgipcaaW.PrintLast Go.Proofs.YtohcgenhhgipcaaW.PrintMore
set_option linter.unusedVariables false
set_option linter.unusedSimpArgs false

/-! The reference's least number of trips;the law of Best -/
theorem least_l0 (t : S24) (l : List S65) (hg : Good t (l.map o64)) (ht : t.f0.size ≤ 9223372036854775807) (hs : ∀ y ∈ l, y.f0.size ≤ 9223372036854775807) (R : Int)
  (ih : ∀ m,1 ≤ m → m ≤ l.length → Ev (fun k=>gangsawref54_least.f k t.f0 t.f1 t.f2 t.f3 t.f4.f0 t.f4.f1 t.f5.f0 t.f5.f1 (l.drop m)) (lst t ((l.drop m).map o64))) : ∀ (d m : Nat) (b : Int),l.length + 1 - m = d → m ≤ l.length + 1 → 1 ≤ m →
  scan (lstF t (l.map o64) (lst t)) d m b = R →
  Ev (fun k=>gangsawref54_least.l0 k l b (m : Int) t.f0 t.f1 t.f2 t.f3 t.f4.f0 t.f4.f1 t.f5.f0 t.f5.f1) R:=by
 have hl:=hg.len;rw [List.length_map] at hl;intro d
 induction d with
 | zero =>
  intro m b hd hm h1 hR;rw [scan] at hR;subst hR;exact Ev.step (f:=fun _=>some b) (fun k=>by rw [gangsawref54_least.l0,if_neg (by omega : ¬((m : Int) ≤ (l.length : Int)))]) (Ev.now _)
 | succ d ihd =>
  intro m b hd hm h1 hR;rw [scan] at hR;have hw : wrap64 ((m : Int) + 1) = ((m + 1 : Nat) : Int):=wsucc (by omega);have h1f:=rFits_f t (l.take m) (by rw [List.length_take];omega) ht (fun y hy=>hs y (List.mem_of_mem_take hy));rw [fitR_good (hg.sub ((List.take_sublist m l).map o64)),List.map_take] at h1f;have h2f:=ih m h1 (by omega);have hb:=lst_le t ((l.drop m).map o64);rw [List.length_map,List.length_drop] at hb;rw [List.map_drop] at h2f hb
  unfold lstF at hR
  generalize lst t ((l.map o64).drop m) = g at h2f hb hR
  have next:=ihd (m + 1)
  unfold lstF at next
  refine Ev.step (f:=fun k=>(gangsawref54_Fits.f k t.f0 t.f1 t.f2 t.f3 t.f4.f0 t.f4.f1 t.f5.f0 t.f5.f1 (l.take m)).bind fun x=>if x = 0 then (gangsawref54_least.f k t.f0 t.f1 t.f2 t.f3 t.f4.f0 t.f4.f1 t.f5.f0 t.f5.f1 (l.drop m)).bind fun y=>if y ≥ 0 then (if b < 0 then gangsawref54_least.l0 k l (wrap64 (y + 1)) ((m + 1 : Nat) : Int) t.f0 t.f1 t.f2 t.f3 t.f4.f0 t.f4.f1 t.f5.f0 t.f5.f1 else if wrap64 (y + 1) < b then gangsawref54_least.l0 k l (wrap64 (y + 1)) ((m + 1 : Nat) : Int) t.f0 t.f1 t.f2 t.f3 t.f4.f0 t.f4.f1 t.f5.f0 t.f5.f1 else gangsawref54_least.l0 k l b ((m + 1 : Nat) : Int) t.f0 t.f1 t.f2 t.f3 t.f4.f0 t.f4.f1 t.f5.f0 t.f5.f1) else gangsawref54_least.l0 k l b ((m + 1 : Nat) : Int) t.f0 t.f1 t.f2 t.f3 t.f4.f0 t.f4.f1 t.f5.f0 t.f5.f1 else gangsawref54_least.l0 k l b ((m + 1 : Nat) : Int) t.f0 t.f1 t.f2 t.f3 t.f4.f0 t.f4.f1 t.f5.f0 t.f5.f1) (fun k=>?_) (Ev.bind h1f ?_)
  (rw [gangsawref54_least.l0,if_pos (by omega : (m : Int) ≤ (l.length : Int)),if_pos (by omega : (0 : Int) ≤ (m : Int)),Int.toNat_natCast,hw])
  ·by_cases hx : fitsR t ((l.map o64).take m) = 0
   ·refine Ev.congr (fun k=>by rw [if_pos hx]) (Ev.bind h2f ?_)
    by_cases hy : g ≥ 0
    ·refine Ev.congr (fun k=>by rw [if_pos hy,wrap_small (by omega : -1000000000000 ≤ g + 1 ∧ g + 1 ≤ 1000000000000)]) ?_
     by_cases hz : b < 0
     (rw [if_pos ⟨hx,hy,.inl hz⟩] at hR;exact Ev.congr (fun k=>by rw [if_pos hz]) (next _ (by omega) (by omega) (by omega) hR))
     ·by_cases hz2 : g + 1 < b
      (rw [if_pos ⟨hx,hy,.inr hz2⟩] at hR;exact Ev.congr (fun k=>by rw [if_neg hz,if_pos hz2]) (next _ (by omega) (by omega) (by omega) hR));(rw [if_neg (by omega)] at hR;exact Ev.congr (fun k=>by rw [if_neg hz,if_neg hz2]) (next _ (by omega) (by omega) (by omega) hR))
    (rw [if_neg (by omega)] at hR;exact Ev.congr (fun k=>by rw [if_neg hy]) (next _ (by omega) (by omega) (by omega) hR))
   (rw [if_neg (fun h=>hx h.1)] at hR;exact Ev.congr (fun k=>by rw [if_neg hx]) (next _ (by omega) (by omega) (by omega) hR))
theorem least_f (t : S24) (ht : t.f0.size ≤ 9223372036854775807) : ∀ (n : Nat) (l : List S65), l.length ≤ n → Good t (l.map o64) → (∀ y ∈ l, y.f0.size ≤ 9223372036854775807) →
  Ev (fun k=>gangsawref54_least.f k t.f0 t.f1 t.f2 t.f3 t.f4.f0 t.f4.f1 t.f5.f0 t.f5.f1 l) (lst t (l.map o64)):=by
 intro n
 induction n with
 | zero =>
  intro l hn hg hs;rw [lst_nil t _ (by rw [List.length_map];omega)];exact Ev.step (f:=fun _=>some 0) (fun k=>by rw [gangsawref54_least.f,if_pos (by omega : (l.length : Int) = 0)]) (Ev.now _)
 | succ n ih =>
  intro l hn hg hs;by_cases h0 : l.length = 0
  (rw [lst_nil t _ (by rw [List.length_map];omega)];exact Ev.step (f:=fun _=>some 0) (fun k=>by rw [gangsawref54_least.f,if_pos (by omega : (l.length : Int) = 0)]) (Ev.now _))
  ·refine Ev.step (f:=fun k=>gangsawref54_least.l0 k l (-1) ((1 : Nat) : Int) t.f0 t.f1 t.f2 t.f3 t.f4.f0 t.f4.f1 t.f5.f0 t.f5.f1) (fun k=>by rw [gangsawref54_least.f,if_neg (by omega : ¬((l.length : Int) = 0))];rfl) ?_
   refine least_l0 t l hg ht hs _ (fun m h1 h2=>?_) _ 1 (-1) rfl (by omega) (Nat.le_refl _) ?_
   (exact ih (l.drop m) (by rw [List.length_drop];omega) (hg.sub ((List.drop_sublist m l).map o64)) (fun y hy=>hs y (List.mem_of_mem_drop hy)));(rw [lst_eq t _ (by rw [List.length_map];exact h0),List.length_map,show l.length + 1 - 1 = l.length from by omega])
theorem rBest_f (t : S24) (l : List S65) (hl : l.length ≤ 1000000) (ht : t.f0.size ≤ 9223372036854775807) (hs : ∀ y ∈ l, y.f0.size ≤ 9223372036854775807) :
  Ev (fun k=>gangsawref54_Best.f k t.f0 t.f1 t.f2 t.f3 t.f4.f0 t.f4.f1 t.f5.f0 t.f5.f1 l) (bestR t (l.map o64)):=by
 unfold gangsawref54_Best.f bestR
 refine Ev.bind (Check_ref t l hl ht hs) ?_
 rw [List.length_map];by_cases h : chkR t (l.map o64) = 0
 ·rw [if_pos h]
  refine Ev.congr (fun k=>by rw [if_pos h]) ?_
  by_cases h8 : l.length > 8
  (rw [if_pos h8];exact Ev.congr (fun k=>by rw [if_pos (by omega : (l.length : Int) > 8)]) (Ev.now _))
  ·rw [if_neg h8]
   refine Ev.congr (fun k=>by rw [if_neg (by omega : ¬((l.length : Int) > 8))]) ?_
   refine Ev.bind (least_f t ht l.length l (Nat.le_refl _) ((good_iff t _).1 h) hs) ?_
   by_cases hz : lst t (l.map o64) < 0
   (rw [if_pos hz];exact Ev.congr (fun k=>by rw [if_pos hz]) (Ev.now _));(rw [if_neg hz];exact Ev.congr (fun k=>by rw [if_neg hz]) (Ev.now _))
 (rw [if_neg h];exact Ev.congr (fun k=>by rw [if_neg h]) (Ev.now _))
theorem LoadingBest (s : ByteArray) (a1 a2 a3 a4 a5 a6 a7 : Int) (l : List S65) (ht : TruckOk s a1 a2 a3 a4 a5 a6 a7) (hlen : l.length ≤ maxLen) (hp : ∀ p ∈ l, CargoOk p) :
  ∃ k,gangsawlaw54_LoadingBest.f k s a1 a2 a3 a4 a5 a6 a7 l = some true:=by
 have hs : s.size ≤ 9223372036854775807:=ht.1
 have hy : ∀ y ∈ l,y.f0.size ≤ 9223372036854775807:=fun y hy=>(hp y hy).1
 have hy64:=sizes64 hy
 refine Ev.rounds (?_ : Ev (fun k=>gangsawlaw54_LoadingBest.f k s a1 a2 a3 a4 a5 a6 a7 l) true)
 unfold gangsawlaw54_LoadingBest.f
 refine Ev.bind awake_f ?_
 rw [few_f]
 refine Ev.congr (fun k=>by rw [if_pos rfl,Option.bind_some]) ?_
 cases hfw : (decide (l.length ≤ 12) || (decide (64 < l.length) && decide (l.length ≤ 100))) with
 | false=>exact Ev.congr (fun k=>by rw [if_neg (by decide : ¬(false = true))]) (Ev.now _)
 | true =>
  have hl:=few_len hfw;have ho:=ours_f l (by omega)
  refine Ev.congr (fun k=>by rw [if_pos rfl]) ?_
  refine Ev.bind ho ?_
  refine Ev.bind (Best_f (mk24 s a1 a2 a3 a4 a5 a6 a7) _ hs hy64) ?_
  refine Ev.bind (rBest_f (mk24 s a1 a2 a3 a4 a5 a6 a7) l (by omega) hs hy) ?_
  exact Ev.congr (fun k=>by rw [if_pos rfl];simp) (Ev.now _)
end Go.Proofs.Ytohcgenhhgipcaa.Pure
