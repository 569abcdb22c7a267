import Derived.Test.YtnjikioimompnaaPAx6
import Derived.Test.YtnjikioimompnaaPuk
namespace Go.Proofs.Ytnjikioimompnaa.Pure
open Go.RowKit Go.Proofs.Ytnjikioimompnaa Go.Proofs.Ytnjikioimompnaa.PA Go.Proofs.YtnjikioimompnaaW.PrintWords Go.Proofs.YtnjikioimompnaaW.PrintLast Go.Proofs.YtnjikioimompnaaW.PrintMore
set_option linter.unusedVariables false
set_option linter.unusedSimpArgs false
def can (l : List S31) (s : Nat) (x y : Int) : List S31:=(List.range l.length).map fun i=>mv (-x) (-y) (P l ((s + i) % l.length))
theorem can_len (l : List S31) (s : Nat) (x y : Int) : (can l s x y).length = l.length:=by unfold can;simp
theorem can_P {l : List S31} {s : Nat} {x y : Int} {i : Nat} (hi : i < l.length) : P (can l s x y) i = mv (-x) (-y) (P l ((s + i) % l.length)):=by
 show List.getD _ i z31 = _
 unfold can
 rw [List.getD_eq_getElem?_getD,List.getElem?_eq_getElem (by simp;exact hi)]
 simp
def fst (l : List S31) : Nat:=extF k59_0 k59_1 l l.length
def fL (p q : S31) : Prop:=p.f1 < q.f1 ∨ (p.f1 = q.f1 ∧ p.f0 < q.f0)
theorem fst_min {l : List S31} (h : 0 < l.length) : fst l < l.length ∧ ∀ j,j < l.length → ¬ fL (P l j) (P l (fst l)):=ext_min k59_0 k59_1 l l.length h
theorem fst_uniq {l : List S31} (hd : NoDup l) (hs : Sim l) {i : Nat} (hi : i < l.length) (h : ∀ j,j < l.length → ¬ fL (P l j) (P l i)) : fst l = i:=by
 obtain ⟨f1,f2⟩ := fst_min (l:=l) (by omega);have a:=h _ f1;have b:=f2 _ hi
 unfold fL at a b
 exact corners hd hs f1 hi (S31_ext (by omega) (by omega))
theorem Turned.first {l l' : List S31} {s : Nat} {x y : Int} (h : Turned l l' s x y) (hd : NoDup l) (hs : Sim l) : (s + fst l') % l.length = fst l:=by
 have hl:=h.lt;obtain ⟨f1,f2⟩ := fst_min (l:=l') (by rw [h.len];omega);have f1':=f1;rw [h.len] at f1'
 refine (fst_uniq hd hs (Nat.mod_lt _ (by omega)) (fun j hj g=>?_)).symm
 obtain ⟨i,hi,rfl⟩ := h.onto hj
 refine f2 i (by rw [h.len];exact hi) ?_
 rw [h.pt i hi,h.pt _ f1']
 unfold fL mv at *
 simp only []
 omega
theorem canonical_l {l : List S31} (h : Near l) (h0 : 0 < l.length) (hl : l.length ≤ 1000) {x y : Int} (hx : -3000000 ≤ x ∧ x ≤ 3000000) (hy : -3000000 ≤ y ∧ y ≤ 3000000) {s : Nat} (hs : s < l.length) :
  ∀ d i : Nat,i + d = l.length → Ev (fun k=>profile_canonical.l0 k l (s : Int) ((can l s x y).take i) (l.length : Int) (i : Int) x y) (can l s x y):=by
 intro d
 induction d with
 | zero =>
  intro i hi
  obtain rfl : i = l.length:=by omega
  refine Ev.step (f:=fun _=>some (can l s x y)) (fun k=>?_) (Ev.now _)
  simp only [profile_canonical.l0];rw [if_neg (by omega),List.take_of_length_le (by rw [can_len];exact Nat.le_refl _)]
 | succ d ih =>
  intro i hi;have hm : (s + i) % l.length < l.length:=Nat.mod_lt _ h0;have hn:=h.at hm
  unfold near at hn
  have e : Int.tmod (wrap64 ((s : Int) + i)) (l.length : Int) = (((s + i) % l.length : Nat) : Int):=by rw [w64 (by omega) (by omega)];rfl
  have ht : (can l s x y).take (i + 1) = (can l s x y).take i ++ [P (can l s x y) i] := by
   rw [List.take_add_one]
   unfold P
   rw [List.getD_eq_getElem?_getD,List.getElem?_eq_getElem (by rw [can_len];omega)];rfl
  refine Ev.step (fun k=>?_) (ih (i + 1) (by omega))
  simp only [profile_canonical.l0];rw [e,if_pos (by omega),if_neg (by omega),if_pos (by omega),if_pos (by omega),if_pos (by rw [List.length_take,can_len];omega),rd_P,w1 (by omega),ht,can_P (by omega)]
  congr 3
  exact S31_ext (by simp only [mv];rw [w64 (by omega) (by omega)];omega) (by simp only [mv];rw [w64 (by omega) (by omega)];omega)
theorem canonical_f {l : List S31} (h : Near l) (h0 : 0 < l.length) (hl : l.length ≤ 1000) {lx ly hx hy : Int} (hB : Box l lx ly hx hy) : Ev (fun k=>profile_canonical.f k l) (can l (fst l) lx ly):=by
 obtain ⟨a,b,c,d,hE,hb⟩ := bounds_f l h0 hl;obtain ⟨rfl,rfl,rfl,rfl⟩ := hb.uniq hB;obtain ⟨⟨i1,p1,q1⟩,⟨i2,p2,q2⟩⟩ := And.intro hB.lx_ hB.ly_;have n1:=h.at p1;have n2:=h.at p2
 unfold near at n1 n2
 unfold profile_canonical.f
 refine Ev.bind hE (Ev.congr (fun k=>?_) (canonical_l h h0 hl (x:=a) (y:=b) (by omega) (by omega) (s:=fst l) (fst_min h0).1 l.length 0 (by simp)))
 unfold extreme_59.f
 rw [if_pos (by omega)];rfl
theorem Canonical_f (nm : ByteArray) (l : List S31) (hnm : nm.size ≤ 1000000) (h0 : chk nm l = 0) {lx ly hx hy : Int} (hB : Box l lx ly hx hy) : Ev (fun k=>profile_Canonical.f k nm l) (nm,can l (fst l) lx ly,0):=by
 have hv:=(chk_zero.1 h0).2
 unfold profile_Canonical.f
 exact Ev.bind (check_f nm l hnm) (Ev.congr (fun k=>if_pos h0) (Ev.bind (canonical_f hv.near (by have:=hv.lo;omega) (by have:=hv.hi;omega) hB) (Ev.now _)))
theorem Canonical_e (nm : ByteArray) (l : List S31) (hnm : nm.size ≤ 1000000) (h0 : chk nm l ≠ 0) : Ev (fun k=>profile_Canonical.f k nm l) (⟨#[]⟩,[],chk nm l):=by
 unfold profile_Canonical.f
 exact Ev.bind (check_f nm l hnm) (Ev.congr (fun k=>if_neg h0) (Ev.now _))
theorem mirL_rev {l : List S31} (h : Near l) : mirL l = rev l:=by
 have hlen : (mirL l).length = l.length:=by unfold mirL;rw [mirOf_len,given_len]
 refine P_ext (by rw [hlen,rev_len]) (fun i hi=>?_)
 rw [hlen] at hi;rw [rev_P hi];have hn:=h.at (i:=l.length - 1 - i) (by omega)
 unfold near at hn
 unfold mirL mirOf given P
 rw [List.getD_eq_getElem?_getD,List.getElem?_eq_getElem (by simp;exact hi)];simp only [List.getElem_map,List.getElem_range,Option.getD_some]
 unfold P at hn
 exact S31_ext (by simp only [mirP,mir];rw [w64 (by omega) (by omega)]) rfl
theorem Mirror_f (nm : ByteArray) (l : List S31) (hnm : nm.size ≤ 1000000) (h0 : chk nm l = 0) {lx ly hx hy : Int} (hB : Box l lx ly hx hy) : Ev (fun k=>profile_Mirror.f k nm l) (nm,can (rev l) (fst (rev l)) (-hx) ly,0):=by
 have hv:=(chk_zero.1 h0).2;have a:=hv.lo;have b:=hv.hi
 unfold profile_Mirror.f
 refine Ev.bind (check_f nm l hnm) (Ev.congr (fun k=>by rw [if_pos h0,if_pos (by omega),mirL_rev hv.near]) (Ev.bind (canonical_f (rev_near hv.near) (by rw [rev_len];omega) (by rw [rev_len];omega) (rev_box hB)) (Ev.now _)))
theorem Mirror_e (nm : ByteArray) (l : List S31) (hnm : nm.size ≤ 1000000) (h0 : chk nm l ≠ 0) : Ev (fun k=>profile_Mirror.f k nm l) (⟨#[]⟩,[],chk nm l):=by
 unfold profile_Mirror.f
 exact Ev.bind (check_f nm l hnm) (Ev.congr (fun k=>if_neg h0) (Ev.now _))
theorem box_of {l : List S31} (h : 0 < l.length) (hl : l.length ≤ 1000) : ∃ lx ly hx hy,Box l lx ly hx hy:=by
 obtain ⟨a,b,c,d,_,hb⟩ := bounds_f l h hl;exact ⟨a,b,c,d,hb⟩
end Go.Proofs.Ytnjikioimompnaa.Pure
