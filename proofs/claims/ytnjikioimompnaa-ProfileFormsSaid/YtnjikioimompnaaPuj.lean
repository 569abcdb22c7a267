import Derived.Test.YtnjikioimompnaaGh
import Derived.Test.YtnjikioimompnaaPub
import Derived.Test.YtnjikioimompnaaPui
namespace Go.Proofs.Ytnjikioimompnaa.Pure
open Go.RowKit Go.Proofs.Ytnjikioimompnaa Go.Proofs.Ytnjikioimompnaa.PA Go.Proofs.YtnjikioimompnaaW.PrintWords Go.Proofs.YtnjikioimompnaaW.PrintLast Go.Proofs.YtnjikioimompnaaW.PrintMore
set_option linter.unusedVariables false
set_option linter.unusedSimpArgs false
theorem allow_comm (l : List S31) (i k : Nat) : allow l i k = allow l k i:=by
 unfold allow
 by_cases h : nx l k = i ∨ nx l i = k
 (rw [if_pos h,if_pos h.symm]);(rw [if_neg h,if_neg (fun g=>h g.symm)])
theorem nx_inj {l : List S31} {i k : Nat} (hi : i < l.length) (hk : k < l.length) (h : nx l i = nx l k) : i = k:=by
 unfold nx at h
 rcases (show i + 1 < l.length ∨ i + 1 = l.length by omega) with a|a <;> rcases (show k + 1 < l.length ∨ k + 1 = l.length by omega) with b|b
 ·rw [Nat.mod_eq_of_lt a,Nat.mod_eq_of_lt b] at h;omega
 ·rw [Nat.mod_eq_of_lt a,b,Nat.mod_self] at h;omega
 ·rw [Nat.mod_eq_of_lt b,a,Nat.mod_self] at h;omega
 ·omega
theorem SimAt.symm {l : List S31} (hd : NoDup l) {i k : Nat} (hi : i < l.length) (hk : k < l.length) (h : SimAt l i k) : SimAt l k i:=by
 unfold SimAt at *
 rw [allow_comm,meet_comm (hd k hk) (hd i hi)];exact h
theorem Sim.at {l : List S31} (h : Sim l) (hd : NoDup l) {i k : Nat} (hi : i < l.length) (hk : k < l.length) (hne : i ≠ k) : SimAt l i k:=by
 rcases Nat.lt_or_gt_of_ne hne with g|g
 (exact (h k hk i g).symm hd hk hi);(exact h i hi k g)
theorem corners {l : List S31} (hd : NoDup l) (hs : Sim l) {i k : Nat} (hi : i < l.length) (hk : k < l.length) (e : P l i = P l k) : i = k:=by
 by_cases hne : i = k
 (exact hne)
 exfalso
 have h:=hs.at hd hi hk hne
 unfold SimAt allow at h
 by_cases g1 : nx l k = i
 (exact hd k hk (by rw [g1];exact e.symm))
 by_cases g2 : nx l i = k
 (exact hd i hi (by rw [g2];exact e));rw [if_neg (by omega),← e] at h
 have:=meet_corner (a:=P l i) (b:=P l (nx l i)) (d:=P l (nx l k)) (hd i hi)
 omega
theorem cyc {n s i : Nat} (hs : s < n) (hi : i < n) : (s + ((n - s) % n + i) % n) % n = i:=by
 simp only [Nat.add_mod_mod,Nat.mod_add_mod];rw [show s + (n - s + i) = n + i by omega,Nat.add_mod_left,Nat.mod_eq_of_lt hi]
theorem cyc2 {n s i : Nat} (hs : s < n) (hi : i < n) : ((n - s) % n + (s + i) % n) % n = i:=by
 simp only [Nat.add_mod_mod,Nat.mod_add_mod];rw [show n - s + (s + i) = n + i by omega,Nat.add_mod_left,Nat.mod_eq_of_lt hi]
theorem sh (n s i : Nat) : (s + (i + 1) % n) % n = ((s + i) % n + 1) % n:=by
 simp only [Nat.add_mod_mod,Nat.mod_add_mod,Nat.add_assoc]
structure Turned (l l' : List S31) (s : Nat) (x y : Int) : Prop where
 len : l'.length = l.length
 lt : s < l.length
 pt : ∀ i,i < l.length → P l' i = mv x y (P l ((s + i) % l.length))
theorem Turned.nx {l l' : List S31} {s : Nat} {x y : Int} (h : Turned l l' s x y) {i : Nat} (hi : i < l.length) : P l' (nx l' i) = mv x y (P l (nx l ((s + i) % l.length))) ∧ (s + nx l' i) % l.length = nx l ((s + i) % l.length):=by
 have e : (s + Pure.nx l' i) % l.length = Pure.nx l ((s + i) % l.length):=by unfold Pure.nx;rw [h.len,sh]
 refine ⟨?_,e⟩
 rw [h.pt _ (by have:=nx_lt (l:=l') (by have:=h.len;omega) i;rw [h.len] at this;exact this),e]
theorem Turned.symm {l l' : List S31} {s : Nat} {x y : Int} (h : Turned l l' s x y) : Turned l' l ((l.length - s) % l.length) (-x) (-y):=by
 have hl:=h.lt
 refine ⟨h.len.symm,by rw [h.len];exact Nat.mod_lt _ (by omega),fun i hi=>?_⟩
 rw [h.len] at hi ⊢;rw [h.pt _ (Nat.mod_lt _ (by omega)),cyc hl hi];exact S31_ext (by simp only [mv];omega) (by simp only [mv];omega)
theorem Turned.nodup {l l' : List S31} {s : Nat} {x y : Int} (h : Turned l l' s x y) (hd : NoDup l) : NoDup l':=by
 intro i hi e;rw [h.len] at hi;rw [(h.nx hi).1,h.pt i hi] at e;exact hd _ (Nat.mod_lt _ (by omega)) (mv_inj e)
theorem cyc_inj {n s i k : Nat} (hs : s < n) (hi : i < n) (hk : k < n) (h : (s + i) % n = (s + k) % n) : i = k:=by
 rw [← cyc2 hs hi,h,cyc2 hs hk]
theorem Turned.sim {l l' : List S31} {s : Nat} {x y : Int} (h : Turned l l' s x y) (hd : NoDup l) (hs : Sim l) : Sim l':=by
 intro i hi k hk;rw [h.len] at hi
 have hk' : k < l.length:=by omega
 have ha : (s + i) % l.length < l.length:=Nat.mod_lt _ (by omega);have hb : (s + k) % l.length < l.length:=Nat.mod_lt _ (by omega);have S:=hs.at hd ha hb (fun e=>by have:=cyc_inj h.lt hi hk' e;omega)
 unfold SimAt at S ⊢
 rw [h.pt i hi,h.pt k hk',(h.nx hi).1,(h.nx hk').1,meet_mv];have e1:=(h.nx hi).2;have e2:=(h.nx hk').2;have n1:=nx_lt (l:=l') (by have:=h.len;omega) i;have n2:=nx_lt (l:=l') (by have:=h.len;omega) k;rw [h.len] at n1 n2
 have ea : allow l' i k = allow l ((s + i) % l.length) ((s + k) % l.length):=by
  unfold allow
  rw [← e1,← e2]
  have : (Pure.nx l' k = i ∨ Pure.nx l' i = k) ↔ ((s + Pure.nx l' k) % l.length = (s + i) % l.length ∨ (s + Pure.nx l' i) % l.length = (s + k) % l.length):=by
   constructor
   ·rintro (g|g);(exact .inl (by rw [g]));(exact .inr (by rw [g]))
   ·rintro (g|g);(exact .inl (cyc_inj h.lt n2 hi g));(exact .inr (cyc_inj h.lt n1 hk' g))
  by_cases g : Pure.nx l' k = i ∨ Pure.nx l' i = k
  (rw [if_pos g,if_pos (this.1 g)]);(rw [if_neg g,if_neg (fun k=>g (this.2 k))])
 rw [ea];exact S
theorem sumTo_congr {f g : Nat → Int} (n : Nat) (h : ∀ i,i < n → f i = g i) : sumTo f n = sumTo g n:=by
 induction n with
 | zero=>rfl
 | succ n ih=>simp only [sumTo];rw [ih (fun i hi=>h i (by omega)),h n (by omega)]
theorem sumTo_front (f : Nat → Int) (n : Nat) : sumTo f (n + 1) = f 0 + sumTo (fun i=>f (i + 1)) n:=by
 induction n with
 | zero=>simp [sumTo]
 | succ n ih=>rw [sumTo,ih];simp only [sumTo];omega
theorem sumTo_one (f : Nat → Int) (n : Nat) : sumTo (fun i=>f ((i + 1) % n)) n = sumTo f n:=by
 cases n with
 | zero=>rfl
 | succ m =>
  rw [sumTo_front f];simp only [sumTo,Nat.mod_self];rw [sumTo_congr (f:=fun i=>f ((i + 1) % (m + 1))) (g:=fun i=>f (i + 1)) m (fun i hi=>by show f _ = f _;rw [Nat.mod_eq_of_lt (by omega)])]
  omega
theorem sumTo_cyc (f : Nat → Int) (n s : Nat) : sumTo (fun i=>f ((s + i) % n)) n = sumTo f n:=by
 induction s with
 | zero=>exact sumTo_congr n (fun i hi=>by show f _ = f _;rw [Nat.zero_add,Nat.mod_eq_of_lt hi])
 | succ s ih =>
  rw [← ih,← sumTo_one (fun j=>f ((s + j) % n)) n];exact sumTo_congr n (fun i hi=>by show f _ = f _;rw [Nat.add_mod_mod];congr 2;omega)
theorem sumTo_rev (f : Nat → Int) (n : Nat) : sumTo (fun i=>f (n - 1 - i)) n = sumTo f n:=by
 induction n with
 | zero=>rfl
 | succ n ih =>
  rw [sumTo_front]
  show f (n + 1 - 1 - 0) + _ = _
  rw [sumTo_congr (f:=fun i=>f (n + 1 - 1 - (i + 1))) (g:=fun i=>f (n - 1 - i)) n (fun i hi=>by show f _ = f _;congr 1;omega),ih];simp only [sumTo,Nat.add_sub_cancel,Nat.sub_zero]
  omega
theorem sumTo_lin (f g h : Nat → Int) (x y : Int) (n : Nat) : sumTo (fun i=>f i + g i * y + x * h i) n = sumTo f n + sumTo g n * y + x * sumTo h n:=by
 induction n with
 | zero=>simp [sumTo]
 | succ n ih=>simp only [sumTo,ih,Int.add_mul,Int.mul_add];omega
theorem sumTo_sub (f g : Nat → Int) (n : Nat) : sumTo (fun i=>f i - g i) n = sumTo f n - sumTo g n:=by
 induction n with
 | zero=>rfl
 | succ n ih=>simp only [sumTo,ih];omega
theorem Turned.area {l l' : List S31} {s : Nat} {x y : Int} (h : Turned l l' s x y) : area l' = area l:=by
 unfold Pure.area
 rw [h.len]
 have z1 : sumTo (fun i=>(P l i).f0 - (P l (Pure.nx l i)).f0) l.length = 0:=by
  rw [sumTo_sub]
  have:=sumTo_one (fun j=>(P l j).f0) l.length
  unfold Pure.nx
  omega
 have z2 : sumTo (fun i=>(P l (Pure.nx l i)).f1 - (P l i).f1) l.length = 0:=by
  rw [sumTo_sub]
  have:=sumTo_one (fun j=>(P l j).f1) l.length
  unfold Pure.nx
  omega
 have k:=sumTo_lin (term l) (fun i=>(P l i).f0 - (P l (Pure.nx l i)).f0) (fun i=>(P l (Pure.nx l i)).f1 - (P l i).f1) x y l.length;rw [z1,z2,Int.zero_mul,Int.mul_zero,Int.add_zero,Int.add_zero] at k;rw [← k]
 refine Eq.trans ?_ (sumTo_cyc _ l.length s)
 refine sumTo_congr l.length (fun i hi=>?_)
 show term l' i = _
 unfold term
 rw [h.pt i hi,(h.nx hi).1];simp only [mv,Int.add_mul,Int.mul_add,Int.sub_mul,Int.mul_sub];have e1:=Int.mul_comm x (P l ((s + i) % l.length)).f1
 omega
theorem near_of {l : List S31} (h : ∀ i,i < l.length → near (P l i)) : Near l:=by
 intro p hp;obtain ⟨i,hi,rfl⟩ := List.getElem_of_mem hp
 have:=h i hi
 unfold P at this
 rw [List.getD_eq_getElem?_getD,List.getElem?_eq_getElem hi] at this;exact this
theorem P_ext {l l' : List S31} (hl : l.length = l'.length) (h : ∀ i,i < l.length → P l i = P l' i) : l = l':=by
 apply List.ext_getElem hl
 intro i h1 h2
 have:=h i h1
 unfold P at this
 rw [List.getD_eq_getElem?_getD,List.getElem?_eq_getElem h1,List.getD_eq_getElem?_getD,List.getElem?_eq_getElem h2] at this;exact this
theorem Turned.onto {l l' : List S31} {s : Nat} {x y : Int} (h : Turned l l' s x y) {j : Nat} (hj : j < l.length) : ∃ i,i < l.length ∧ (s + i) % l.length = j:=by
 refine ⟨((l.length - s) % l.length + j) % l.length,Nat.mod_lt _ (by omega),cyc h.lt hj⟩
end Go.Proofs.Ytnjikioimompnaa.Pure
