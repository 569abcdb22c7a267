import Derived.Test.YtnjikioimompnaaPuj
namespace Go.Proofs.Ytnjikioimompnaa.Pure
open Go.RowKit Go.Proofs.Ytnjikioimompnaa Go.Proofs.Ytnjikioimompnaa.PA Go.Proofs.YtnjikioimompnaaW.PrintWords Go.Proofs.YtnjikioimompnaaW.PrintLast Go.Proofs.YtnjikioimompnaaW.PrintMore
set_option linter.unusedVariables false
set_option linter.unusedSimpArgs false
def rev (l : List S31) : List S31:=(l.map mir).reverse
theorem rev_len (l : List S31) : (rev l).length = l.length:=by unfold rev;simp
theorem rev_P {l : List S31} {i : Nat} (hi : i < l.length) : P (rev l) i = mir (P l (l.length - 1 - i)):=by
 unfold rev P
 rw [List.getD_eq_getElem?_getD,List.getD_eq_getElem?_getD,List.getElem?_eq_getElem (by simp;exact hi),List.getElem?_eq_getElem (by omega)]
 simp
def bk (l : List S31) (i : Nat) : Nat:=l.length - 1 - nx l i
theorem bk_lt {l : List S31} {i : Nat} (hi : i < l.length) : bk l i < l.length:=by unfold bk;omega
theorem bk_nx {l : List S31} {i : Nat} (hi : i < l.length) : nx l (bk l i) = l.length - 1 - i:=by
 unfold bk nx
 rcases (show i + 1 < l.length ∨ i + 1 = l.length by omega) with a|a
 ·rw [Nat.mod_eq_of_lt a,Nat.mod_eq_of_lt (by omega)];omega
 ·rw [a,Nat.mod_self,show l.length - 1 - 0 + 1 = l.length by omega,Nat.mod_self];omega
theorem rev_nx {l : List S31} {i : Nat} (hi : i < l.length) : nx (rev l) i = nx l i ∧ P (rev l) (nx (rev l) i) = mir (P l (bk l i)) ∧ P (rev l) i = mir (P l (nx l (bk l i))):=by
 have e : nx (rev l) i = nx l i:=by unfold nx;rw [rev_len]
 refine ⟨e, ?_, ?_⟩
 (rw [e,rev_P (nx_lt (by omega) i)];rfl);(rw [rev_P hi,bk_nx hi])
theorem bk_inj {l : List S31} {i k : Nat} (hi : i < l.length) (hk : k < l.length) (h : bk l i = bk l k) : i = k:=by
 have a:=nx_lt (l:=l) (by omega) i;have b:=nx_lt (l:=l) (by omega) k
 unfold bk at h
 exact nx_inj hi hk (by omega)
theorem rev_near {l : List S31} (h : Near l) : Near (rev l):=by
 refine near_of (fun i hi=>?_)
 rw [rev_len] at hi;rw [rev_P hi]
 have:=h.at (i:=l.length - 1 - i) (by omega)
 unfold near mir at *
 simp only []
 omega
theorem rev_nodup {l : List S31} (h : NoDup l) : NoDup (rev l):=by
 intro i hi e;rw [rev_len] at hi;rw [(rev_nx hi).2.1,(rev_nx hi).2.2] at e;exact h _ (bk_lt hi) (mir_inj e).symm
theorem rev_sim {l : List S31} (hd : NoDup l) (hs : Sim l) : Sim (rev l):=by
 intro i hi k hk;rw [rev_len] at hi
 have hk' : k < l.length:=by omega
 have ha:=bk_lt hi;have hb:=bk_lt hk';have S:=hs.at hd ha hb (fun e=>by have:=bk_inj hi hk' e;omega)
 unfold SimAt at S ⊢
 rw [(rev_nx hi).2.1,(rev_nx hi).2.2,(rev_nx hk').2.1,(rev_nx hk').2.2,meet_mir,meet_flip1,meet_flip2];have n1:=nx_lt (l:=l) (by omega) i;have n2:=nx_lt (l:=l) (by omega) k
 have ea : allow (rev l) i k = allow l (bk l i) (bk l k):=by
  unfold allow
  rw [(rev_nx hi).1,(rev_nx hk').1,bk_nx hi,bk_nx hk']
  unfold bk
  have : (nx l k = i ∨ nx l i = k) ↔ (l.length - 1 - k = l.length - 1 - nx l i ∨ l.length - 1 - i = l.length - 1 - nx l k):=by omega
  by_cases g : nx l k = i ∨ nx l i = k
  (rw [if_pos g,if_pos (this.1 g)]);(rw [if_neg g,if_neg (fun k=>g (this.2 k))])
 rw [ea];exact S
theorem rev_area (l : List S31) : area (rev l) = area l:=by
 unfold area
 rw [rev_len]
 have e : ∀ i,i < l.length → term (rev l) i = (fun j=>term l (l.length - 1 - j)) ((i + 1) % l.length):=by
  intro i hi
  show _ = term l (bk l i)
  unfold term
  rw [(rev_nx hi).2.1,(rev_nx hi).2.2];simp only [mir,Int.neg_mul];have e1:=Int.mul_comm (P l (nx l (bk l i))).f0 (P l (bk l i)).f1
  omega
 rw [sumTo_congr l.length e,sumTo_one (fun j=>term l (l.length - 1 - j)),sumTo_rev]
theorem rev_valid {l : List S31} (h : Valid l) : Valid (rev l) :=
 ⟨by rw [rev_len];exact h.lo,by rw [rev_len];exact h.hi,rev_near h.near,rev_nodup h.nodup,rev_sim h.nodup h.sim,by rw [rev_area];exact h.pos⟩
theorem rev_box {l : List S31} {a b c d : Int} (hB : Box l a b c d) : Box (rev l) (-c) b (-a) d:=by
 have fx : ∀ j,j < l.length → ∃ i,i < (rev l).length ∧ P (rev l) i = mir (P l j):=by
  intro j hj
  refine ⟨l.length - 1 - j,by rw [rev_len];omega, ?_⟩
  rw [rev_P (by omega),show l.length - 1 - (l.length - 1 - j) = j by omega]
 obtain ⟨⟨i1,p1,q1⟩,⟨i2,p2,q2⟩,⟨i3,p3,q3⟩,⟨i4,p4,q4⟩⟩ := And.intro hB.lx_ (And.intro hB.ly_ (And.intro hB.hx_ hB.hy_))
 refine ⟨fun i hi=>?_, ?_, ?_, ?_, ?_⟩
 ·rw [rev_len] at hi
  have:=hB.all (l.length - 1 - i) (by omega)
  rw [rev_P hi];simp only [mir]
  omega
 (obtain ⟨i,hi,e⟩ := fx i3 p3;exact ⟨i,hi,by rw [e];simp only [mir];omega⟩);(obtain ⟨i,hi,e⟩ := fx i2 p2;exact ⟨i,hi,by rw [e];simp only [mir];omega⟩);(obtain ⟨i,hi,e⟩ := fx i1 p1;exact ⟨i,hi,by rw [e];simp only [mir];omega⟩);(obtain ⟨i,hi,e⟩ := fx i4 p4;exact ⟨i,hi,by rw [e];simp only [mir];omega⟩)
theorem Turned.rev {l l' : List S31} {s : Nat} {x y : Int} (h : Turned l l' s x y) : ∃ s',Turned (rev l) (rev l') s' (-x) y:=by
 have hs:=h.lt
 refine ⟨(l.length - s) % l.length,by rw [rev_len,rev_len,h.len],by rw [rev_len];exact Nat.mod_lt _ (by omega),fun i hi=>?_⟩
 rw [rev_len] at hi ⊢;have hm : ((l.length - s) % l.length + i) % l.length < l.length:=Nat.mod_lt _ (by omega);rw [rev_P (by rw [h.len];exact hi),rev_P hm,h.len,h.pt _ (by omega)]
 have e : (s + (l.length - 1 - i)) % l.length = l.length - 1 - ((l.length - s) % l.length + i) % l.length:=by
  by_cases s0 : s = 0
  (subst s0;rw [Nat.sub_zero,Nat.mod_self,Nat.zero_add,Nat.zero_add,Nat.mod_eq_of_lt (by omega),Nat.mod_eq_of_lt hi])
  ·rw [Nat.mod_eq_of_lt (show l.length - s < l.length by omega)]
   rcases Nat.lt_or_ge (l.length - s + i) l.length with a|a
   ·rw [Nat.mod_eq_of_lt a,Nat.mod_eq_sub_mod (by omega),Nat.mod_eq_of_lt (by omega)];omega
   ·rw [Nat.mod_eq_sub_mod a,Nat.mod_eq_of_lt (show l.length - s + i - l.length < l.length by omega),Nat.mod_eq_of_lt (by omega)];omega
 rw [e];exact S31_ext (by simp only [mir,mv];omega) rfl
end Go.Proofs.Ytnjikioimompnaa.Pure
