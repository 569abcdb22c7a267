import Derived.Test.YtohcgenhhgipcaaPAx8
import Derived.Test.YtohcgenhhgipcaaPue
namespace Go.Proofs.Ytohcgenhhgipcaa.Pure
open Go.RowKit Go.Proofs.Ytohcgenhhgipcaa Go.Proofs.Ytohcgenhhgipcaa.PA Go.Proofs.YtohcgenhhgipcaaW.PrintWords Go.Proofs.YtohcgenhhgipcaaW.PrintLast Go.Proofs.YtohcgenhhgipcaaW.PrintMore
set_option linter.unusedVariables false
set_option linter.unusedSimpArgs false

/-! The least number of trips: the program's table -/
def scan (f : Nat → Int → Int) : Nat → Nat → Int → Int
 | 0,_,b=>b
 | d + 1,j,b=>scan f d (j + 1) (f j b)
def lstF (t : S24) (l : List S64) (rec : List S64 → Int) (j : Nat) (b : Int) : Int :=
 if fitsR t (l.take j) = 0 ∧ 0 ≤ rec (l.drop j) ∧ (b < 0 ∨ rec (l.drop j) + 1 < b) then rec (l.drop j) + 1 else b
def lstR (t : S24) : Nat → List S64 → Int
 | 0,_=>0
 | n + 1,l=>if l.length = 0 then 0 else scan (lstF t l (lstR t n)) l.length 1 (-1)
theorem scan_congr {f g : Nat → Int → Int} : ∀ (d j : Nat) (b : Int),(∀ i b,j ≤ i → i < j + d → f i b = g i b) → scan f d j b = scan g d j b
 | 0,_,_,_=>rfl
 | d + 1,j,b,h=>by
  unfold scan
  rw [h j b (Nat.le_refl _) (by omega)];exact scan_congr d (j + 1) _ (fun i b h1 h2=>h i b (by omega) (by omega))
theorem scan_keep {f : Nat → Int → Int} (P : Int → Prop) : ∀ (d j : Nat) (b : Int),P b → (∀ i b,P b → j ≤ i → i < j + d → P (f i b)) → P (scan f d j b)
 | 0,_,_,h,_=>h
 | d + 1,j,b,h,hs=>by
  unfold scan
  exact scan_keep P d (j + 1) _ (hs j b h (Nat.le_refl _) (by omega)) (fun i b h1 h2 h3=>hs i b h1 (by omega) (by omega))
theorem lst_succ (t : S24) : ∀ (n : Nat) (l : List S64),l.length ≤ n → lstR t (n + 1) l = lstR t n l:=by
 intro n
 induction n with
 | zero=>intro l h;rw [lstR,lstR,if_pos (by omega)]
 | succ n ih =>
  intro l h;rw [lstR,lstR];by_cases h0 : l.length = 0
  (rw [if_pos h0,if_pos h0])
  ·rw [if_neg h0,if_neg h0]
   refine scan_congr _ _ _ (fun i b h1 h2=>?_)
   unfold lstF
   rw [ih (l.drop i) (by rw [List.length_drop];omega)]
theorem lst_any (t : S24) (l : List S64) : ∀ n,l.length ≤ n → lstR t n l = lstR t l.length l:=by
 intro n hn
 obtain ⟨d,rfl⟩ : ∃ d,n = l.length + d:=⟨n - l.length,by omega⟩
 induction d with
 | zero=>rfl
 | succ d ih =>
  rw [← Nat.add_assoc,lst_succ t _ l (by omega)];exact ih (by omega)
def lst (t : S24) (l : List S64) : Int:=lstR t l.length l
theorem lst_nil (t : S24) (l : List S64) (h : l.length = 0) : lst t l = 0:=by unfold lst;rw [h];rfl
theorem lst_eq (t : S24) (l : List S64) (h : l.length ≠ 0) : lst t l = scan (lstF t l (lst t)) l.length 1 (-1):=by
 unfold lst
 obtain ⟨n,hn⟩ : ∃ n,l.length = n + 1:=⟨l.length - 1,by omega⟩
 rw [hn,lstR,if_neg h,hn]
 refine scan_congr _ _ _ (fun i b h1 h2=>?_)
 unfold lstF
 rw [lst_any t (l.drop i) n (by rw [List.length_drop];omega)]
theorem lst_rng (t : S24) : ∀ (n : Nat) (l : List S64),-1 ≤ lstR t n l ∧ lstR t n l ≤ n:=by
 intro n
 induction n with
 | zero=>intro l;rw [lstR];omega
 | succ n ih =>
  intro l;rw [lstR]
  split
  ·omega
  ·refine scan_keep (fun b=>-1 ≤ b ∧ b ≤ ((n + 1 : Nat) : Int)) _ _ _ (by omega) (fun i b h1 h2 h3=>?_)
   unfold lstF
   have:=ih (l.drop i)
   split <;> omega
theorem lst_le (t : S24) (l : List S64) : -1 ≤ lst t l ∧ lst t l ≤ l.length:=lst_rng t l.length l

def bestR (t : S24) (l : List S64) : Int × Int:=if chkR t l = 0 then (if l.length > 8 then (0,7) else if lst t l < 0 then (0,9) else (lst t l,0)) else (0,chkR t l)
theorem rd_set_self (l : List Int) (i : Nat) (v : Int) (h : i < l.length) : rd (l.set i v) (i : Int) = v:=by unfold rd;simp [h]
theorem rd_set_ne (l : List Int) (i j : Nat) (v : Int) (h : i ≠ j) : rd (l.set i v) (j : Int) = rd l (j : Int):=by unfold rd;simp [List.getElem?_set,h]
/-- the table from an index on -/
def Tab (t : S24) (l : List S64) (x : List Int) (i : Nat) : Prop:=x.length = l.length + 1 ∧ ∀ k,i < k → k ≤ l.length → rd x (k : Int) = lst t (l.drop k)
theorem best_l1 (t : S24) (l : List S64) (hf : Few l) (i : Nat) (hi : i < l.length) (R : Int × Int)
  (next : ∀ x,Tab t l x i → rd x (i : Int) = lst t (l.drop i) → Ev (fun k=>loading_Best.l0 k l x ((i : Int) - 1) t.f0 t.f1 t.f2 t.f3 t.f4.f0 t.f4.f1 t.f5.f0 t.f5.f1) R) : ∀ (d m : Nat) (x : List Int),l.length + 1 - (i + m) = d → i + m ≤ l.length + 1 → 1 ≤ m → Tab t l x i →
  scan (lstF t (l.drop i) (lst t)) d m (rd x (i : Int)) = lst t (l.drop i) →
  Ev (fun k=>loading_Best.l1 k l x (i : Int) ((i + m : Nat) : Int) t.f0 t.f1 t.f2 t.f3 t.f4.f0 t.f4.f1 t.f5.f0 t.f5.f1) R:=by
 have hl:=hf.1;intro d
 induction d with
 | zero =>
  intro m x hd hm h1 hT hs
  refine Ev.step (f:=fun k=>loading_Best.l0 k l x ((i : Int) - 1) t.f0 t.f1 t.f2 t.f3 t.f4.f0 t.f4.f1 t.f5.f0 t.f5.f1) (fun k=>by rw [loading_Best.l1,if_neg (by omega : ¬(((i + m : Nat) : Int) ≤ (l.length : Int))),wrap_small (by omega)]) (next x hT hs)
 | succ d ih =>
  intro m x hd hm h1 hT hs;have hx:=hT.1;have hk:=hT.2 (i + m) (by omega) (by omega);have hb:=lst_le t (l.drop (i + m))
  have hbl : (l.drop (i + m)).length ≤ l.length:=by rw [List.length_drop];omega
  have hdd : (l.drop i).drop m = l.drop (i + m):=by rw [List.drop_drop]
  have hdt : (l.take (i + m)).drop i = (l.drop i).take m:=by rw [List.drop_take,show i + m - i = m from by omega]
  have hw : wrap64 (((i + m : Nat) : Int) + 1) = ((i + (m + 1) : Nat) : Int):=by rw [wrap_small (by omega)];omega
  rw [scan] at hs;generalize hg : lst t (l.drop (i + m)) = g at hk hb;by_cases g0 : g ≥ 0
  ·have hft:=fits_f t ((l.drop i).take m) (hf.sub ((List.take_sublist _ _).trans (List.drop_sublist _ _)))
   refine Ev.step (f:=fun k=>(loading_fits.f k t.f0 t.f1 t.f2 t.f3 t.f4.f0 t.f4.f1 t.f5.f0 t.f5.f1 ((l.drop i).take m)).bind fun y=>if y = 0 then (if rd x (i : Int) < 0 then loading_Best.l1 k l (x.set i (g + 1)) (i : Int) ((i + (m + 1) : Nat) : Int) t.f0 t.f1 t.f2 t.f3 t.f4.f0 t.f4.f1 t.f5.f0 t.f5.f1 else if g + 1 < rd x (i : Int) then loading_Best.l1 k l (x.set i (g + 1)) (i : Int) ((i + (m + 1) : Nat) : Int) t.f0 t.f1 t.f2 t.f3 t.f4.f0 t.f4.f1 t.f5.f0 t.f5.f1 else loading_Best.l1 k l x (i : Int) ((i + (m + 1) : Nat) : Int) t.f0 t.f1 t.f2 t.f3 t.f4.f0 t.f4.f1 t.f5.f0 t.f5.f1) else loading_Best.l1 k l x (i : Int) ((i + (m + 1) : Nat) : Int) t.f0 t.f1 t.f2 t.f3 t.f4.f0 t.f4.f1 t.f5.f0 t.f5.f1) (fun k=>?_) (Ev.bind hft ?_)
   (rw [loading_Best.l1,if_pos (by omega : ((i + m : Nat) : Int) ≤ (l.length : Int)),if_pos (by omega : (0 : Int) ≤ ((i + m : Nat) : Int)),if_pos (by omega : ((i + m : Nat) : Int) < (x.length : Int)),hk,if_pos g0,if_pos (by omega : (0 : Int) ≤ (i : Int)),if_pos (by omega : (i : Int) ≤ ((i + m : Nat) : Int)),Int.toNat_natCast,Int.toNat_natCast,hdt,hw,wrap_small (by omega : -1000000000000 ≤ g + 1 ∧ g + 1 ≤ 1000000000000)];simp only [if_pos (by omega : (i : Int) < (x.length : Int))])
   ·have hset : Tab t l (x.set i (g + 1)) i:=⟨by rw [List.length_set];exact hx,fun k h2 h3=>by rw [rd_set_ne _ _ _ _ (by omega)];exact hT.2 k h2 h3⟩
    have hrs : rd (x.set i (g + 1)) (i : Int) = g + 1:=rd_set_self _ _ _ (by omega);by_cases hy : fitsR t ((l.drop i).take m) = 0
    ·refine Ev.congr (fun k=>by rw [if_pos hy]) ?_
     by_cases hn : rd x (i : Int) < 0
     ·refine Ev.congr (fun k=>by rw [if_pos hn]) (ih (m + 1) _ (by omega) (by omega) (by omega) hset ?_)
      rw [hrs]
      unfold lstF at hs ⊢
      rw [if_pos (by rw [hdd,hg];exact ⟨hy,g0,.inl hn⟩),hdd,hg] at hs;exact hs
     ·by_cases hn2 : g + 1 < rd x (i : Int)
      ·refine Ev.congr (fun k=>by rw [if_neg hn,if_pos hn2]) (ih (m + 1) _ (by omega) (by omega) (by omega) hset ?_)
       rw [hrs]
       unfold lstF at hs ⊢
       rw [if_pos (by rw [hdd,hg];exact ⟨hy,g0,.inr hn2⟩),hdd,hg] at hs;exact hs
      ·refine Ev.congr (fun k=>by rw [if_neg hn,if_neg hn2]) (ih (m + 1) _ (by omega) (by omega) (by omega) hT ?_)
       unfold lstF at hs ⊢
       rw [if_neg (by rw [hdd,hg];omega)] at hs;exact hs
    ·refine Ev.congr (fun k=>by rw [if_neg hy]) (ih (m + 1) _ (by omega) (by omega) (by omega) hT ?_)
     unfold lstF at hs ⊢
     rw [if_neg (fun h=>hy h.1)] at hs;exact hs
  ·refine Ev.step (f:=fun k=>loading_Best.l1 k l x (i : Int) ((i + (m + 1) : Nat) : Int) t.f0 t.f1 t.f2 t.f3 t.f4.f0 t.f4.f1 t.f5.f0 t.f5.f1) (fun k=>?_) (ih (m + 1) _ (by omega) (by omega) (by omega) hT ?_)
   (rw [loading_Best.l1,if_pos (by omega : ((i + m : Nat) : Int) ≤ (l.length : Int)),if_pos (by omega : (0 : Int) ≤ ((i + m : Nat) : Int)),if_pos (by omega : ((i + m : Nat) : Int) < (x.length : Int)),hk,if_neg g0,hw])
   ·unfold lstF at hs ⊢
    rw [if_neg (by rw [hdd,hg];omega)] at hs;exact hs
theorem best_l0 (t : S24) (l : List S64) (hf : Few l) : ∀ (i : Nat) (x : List Int), i ≤ l.length → x.length = l.length + 1 → (∀ k, i ≤ k → k ≤ l.length → rd x (k : Int) = lst t (l.drop k)) →
  Ev (fun k=>loading_Best.l0 k l x ((i : Int) - 1) t.f0 t.f1 t.f2 t.f3 t.f4.f0 t.f4.f1 t.f5.f0 t.f5.f1) (if lst t l < 0 then (0,9) else (lst t l,0)):=by
 have hl:=hf.1;intro i
 induction i with
 | zero =>
  intro x hi hx hT;have h0:=hT 0 (Nat.le_refl _) (by omega);rw [List.drop_zero] at h0;have h0' : rd x 0 = lst t l:=h0
  refine Ev.step (f:=fun _=>if lst t l < 0 then some (0,9) else some (lst t l,0)) (fun k=>by rw [loading_Best.l0,if_neg (by omega : ¬(((0 : Nat) : Int) - 1 ≥ 0)),if_pos (by omega : (0 : Int) < (x.length : Int)),h0']) ?_
  split <;> exact Ev.now _
 | succ i ih =>
  intro x hi hx hT
  refine Ev.step (f:=fun k=>loading_Best.l1 k l (x.set i (-1)) (i : Int) ((i + 1 : Nat) : Int) t.f0 t.f1 t.f2 t.f3 t.f4.f0 t.f4.f1 t.f5.f0 t.f5.f1) (fun k=>?_) ?_
  (rw [loading_Best.l0,show ((i + 1 : Nat) : Int) - 1 = (i : Int) from by omega,if_pos (by omega : (i : Int) ≥ 0),if_pos (by omega : (0 : Int) ≤ (i : Int)),if_pos (by omega : (i : Int) < (x.length : Int)),Int.toNat_natCast,wsucc (by omega)])
  ·refine best_l1 t l hf i (by omega) _ (fun y hy hr=>?_) _ 1 _ rfl (by omega) (Nat.le_refl _) ⟨by rw [List.length_set];exact hx,fun k h1 h2=>by rw [rd_set_ne _ _ _ _ (by omega)];exact hT k (by omega) h2⟩ ?_
   ·refine ih y (by omega) hy.1 (fun k h1 h2=>?_)
    by_cases e : k = i
    (subst e;exact hr);(exact hy.2 k (by omega) h2)
   (rw [rd_set_self _ _ _ (by omega),lst_eq t (l.drop i) (by rw [List.length_drop];omega),List.length_drop,show l.length + 1 - (i + 1) = l.length - i from by omega])
theorem Best_f (t : S24) (l : List S64) (ht : t.f0.size ≤ 9223372036854775807) (hs : ∀ y ∈ l,y.f0.size ≤ 9223372036854775807) : Ev (fun k=>loading_Best.f k t.f0 t.f1 t.f2 t.f3 t.f4.f0 t.f4.f1 t.f5.f0 t.f5.f1 l) (bestR t l):=by
 unfold loading_Best.f bestR
 rw [check_f t l ht hs];by_cases h : chkR t l = 0
 ·rw [if_pos h];have hg:=(good_iff t l).1 h;have hl:=hg.len;by_cases h8 : l.length > 8
  (rw [if_pos h8];exact Ev.congr (fun k=>by rw [Option.bind_some,if_pos h,if_pos (by omega : (l.length : Int) > 8)]) (Ev.now _))
  ·rw [if_neg h8]
   have e1 : wrap64 ((l.length : Int) + 1) = ((l.length + 1 : Nat) : Int):=by rw [wrap_small (by omega)];omega
   have e2 : wrap64 ((l.length : Int) - 1) = (l.length : Int) - 1:=wrap_small (by omega)
   refine Ev.congr (fun k=>by rw [Option.bind_some,if_pos h,if_neg (by omega : ¬((l.length : Int) > 8)),e1,e2,Int.toNat_natCast,if_pos (by omega : (0 : Int) ≤ ((l.length + 1 : Nat) : Int)),if_pos (by omega : l.length + 1 ≤ 35184372088832)]) ?_
   refine best_l0 t l hg.few l.length _ (Nat.le_refl _) (by simp) (fun k h1 h2=>?_)
   obtain rfl : k = l.length:=by omega
   rw [lst_nil t _ (by simp)]
   unfold rd
   simp
 (rw [if_neg h];exact Ev.congr (fun k=>by rw [Option.bind_some,if_neg h]) (Ev.now _))
end Go.Proofs.Ytohcgenhhgipcaa.Pure
