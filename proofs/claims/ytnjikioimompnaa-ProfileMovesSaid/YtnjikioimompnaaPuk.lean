import Derived.Test.YtnjikioimompnaaPuj
namespace Go.Proofs.Ytnjikioimompnaa.Pure
open Go.RowKit Go.Proofs.Ytnjikioimompnaa Go.Proofs.Ytnjikioimompnaa.PA Go.Proofs.YtnjikioimompnaaW.PrintWords Go.Proofs.YtnjikioimompnaaW.PrintLast Go.Proofs.YtnjikioimompnaaW.PrintMore
set_option linter.unusedVariables false
set_option linter.unusedSimpArgs false

/-! The mirrored outline,backwards -/
def rev (l : List S31) : List S31:=(l.map mir).reverse
theorem rev_len (l : List S31) : (rev l).length = l.length:=by unfold rev;simp
theorem rev_P {l : List S31} {i : Nat} (hi : i < l.length) : P (rev l) i = mir (P l (l.length - 1 - i)):=by
  unfold rev P
  rw [List.getD_eq_getElem?_getD,List.getD_eq_getElem?_getD,List.getElem?_eq_getElem (by simp;exact hi),List.getElem?_eq_getElem (by omega)]
  simp
theorem rev_rev (l : List S31) : rev (rev l) = l:=by
  unfold rev
  rw [List.map_reverse,List.reverse_reverse,List.map_map]
  have : mir ∘ mir = id:=funext mir_mir
  rw [this,List.map_id]
/-- edge i of the mirrored outline is edge b l i of the outline,backwards -/
def bk (l : List S31) (i : Nat) : Nat:=l.length - 1 - nx l i
theorem bk_lt {l : List S31} {i : Nat} (hi : i < l.length) : bk l i < l.length:=by unfold bk;omega
theorem bk_nx {l : List S31} {i : Nat} (hi : i < l.length) : nx l (bk l i) = l.length - 1 - i:=by
  unfold bk nx
  rcases (show i + 1 < l.length ∨ i + 1 = l.length by omega) with a|a
  · rw [Nat.mod_eq_of_lt a,Nat.mod_eq_of_lt (by omega)];omega
  · rw [a,Nat.mod_self,show l.length - 1 - 0 + 1 = l.length by omega,Nat.mod_self];omega
theorem rev_nx {l : List S31} {i : Nat} (hi : i < l.length) : nx (rev l) i = nx l i ∧ P (rev l) (nx (rev l) i) = mir (P l (bk l i)) ∧ P (rev l) i = mir (P l (nx l (bk l i))):=by
  have e : nx (rev l) i = nx l i:=by unfold nx;rw [rev_len]
  refine ⟨e, ?_, ?_⟩
  · rw [e,rev_P (nx_lt (by omega) i)];rfl
  · rw [rev_P hi,bk_nx hi]
theorem bk_inj {l : List S31} {i k : Nat} (hi : i < l.length) (hk : k < l.length) (h : bk l i = bk l k) : i = k:=by
  have a:=nx_lt (l:=l) (by omega) i
  have b:=nx_lt (l:=l) (by omega) k
  unfold bk at h
  exact nx_inj hi hk (by omega)
theorem rev_near {l : List S31} (h : Near l) : Near (rev l):=by
  refine near_of (fun i hi=>?_)
  rw [rev_len] at hi
  rw [rev_P hi]
  have:=h.at (i:=l.length - 1 - i) (by omega)
  unfold near mir at *
  simp only []
  omega
theorem rev_nodup {l : List S31} (h : NoDup l) : NoDup (rev l):=by
  intro i hi e
  rw [rev_len] at hi
  rw [(rev_nx hi).2.1,(rev_nx hi).2.2] at e
  exact h _ (bk_lt hi) (mir_inj e).symm
theorem rev_sim {l : List S31} (hd : NoDup l) (hs : Sim l) : Sim (rev l):=by
  intro i hi k hk
  rw [rev_len] at hi
  have hk' : k < l.length:=by omega
  have ha:=bk_lt hi
  have hb:=bk_lt hk'
  have S:=hs.at hd ha hb (fun e=>by have:=bk_inj hi hk' e;omega)
  unfold SimAt at S ⊢
  rw [(rev_nx hi).2.1,(rev_nx hi).2.2,(rev_nx hk').2.1,(rev_nx hk').2.2,meet_mir,meet_flip1,meet_flip2]
  have n1:=nx_lt (l:=l) (by omega) i
  have n2:=nx_lt (l:=l) (by omega) k
  have ea : allow (rev l) i k = allow l (bk l i) (bk l k):=by
    unfold allow
    rw [(rev_nx hi).1,(rev_nx hk').1,bk_nx hi,bk_nx hk']
    unfold bk
    have : (nx l k = i ∨ nx l i = k) ↔ (l.length - 1 - k = l.length - 1 - nx l i ∨ l.length - 1 - i = l.length - 1 - nx l k):=by omega
    by_cases g : nx l k = i ∨ nx l i = k
    · rw [if_pos g,if_pos (this.1 g)]
    · rw [if_neg g,if_neg (fun k=>g (this.2 k))]
  rw [ea];exact S
theorem rev_area (l : List S31) : area (rev l) = area l:=by
  unfold area
  rw [rev_len]
  have e : ∀ i,i < l.length → term (rev l) i = (fun j=>term l (l.length - 1 - j)) ((i + 1) % l.length):=by
    intro i hi
    show _ = term l (bk l i)
    unfold term
    rw [(rev_nx hi).2.1,(rev_nx hi).2.2]
    simp only [mir,Int.neg_mul]
    have e1:=Int.mul_comm (P l (nx l (bk l i))).f0 (P l (bk l i)).f1
    omega
  rw [sumTo_congr l.length e,sumTo_one (fun j=>term l (l.length - 1 - j)),sumTo_rev]
theorem rev_valid {l : List S31} (h : Valid l) : Valid (rev l) :=
  ⟨by rw [rev_len];exact h.lo,by rw [rev_len];exact h.hi,rev_near h.near,rev_nodup h.nodup,rev_sim h.nodup h.sim,by rw [rev_area];exact h.pos⟩
/-- the direction that the mirrored outline has in place of d -/
def oth (d : Nat) : Nat:=if d < 2 then 1 - d else d
theorem oth_lt {d : Nat} (h : d < 4) : oth d < 4:=by unfold oth;split <;> omega
theorem hgt_mir {d : Nat} (hd : d < 4) (p : S31) : hgt (oth d) (mir p) = - hgt d p ∧ wid (oth d) (mir p) = wid d p:=by
  rcases cases4 hd with rfl|rfl|rfl|rfl <;> simp [oth,hgt,wid,mir]
theorem bf_mir {d : Nat} (hd : d < 4) (p q : S31) : (fbf (oth d) (mir p) (mir q) ↔ tbf d p q) ∧ (tbf (oth d) (mir p) (mir q) ↔ fbf d p q):=by
  unfold fbf tbf
  rw [(hgt_mir hd p).1,(hgt_mir hd q).1,(hgt_mir hd p).2,(hgt_mir hd q).2]
  omega
theorem rev_frm {l : List S31} (hv : Valid l) {d : Nat} (hd : d < 4) : l.length - 1 - frm (rev l) (oth d) = tow l d ∧ l.length - 1 - tow (rev l) (oth d) = frm l d:=by
  have hr:=rev_valid hv
  have h0:=hv.lo
  obtain ⟨f1,f2⟩ := frm_min hr.near (by rw [rev_len];omega) (oth_lt hd)
  obtain ⟨t1,t2⟩ := tow_min hr.near (by rw [rev_len];omega) (oth_lt hd)
  have ix : ∀ j,j < l.length → P l j = mir (P (rev l) (l.length - 1 - j)):=by
    intro j hj
    rw [rev_P (by omega),mir_mir,show l.length - 1 - (l.length - 1 - j) = j by omega]
  have un : ∀ {p q : S31},(tbf d (mir p) (mir q) ↔ fbf (oth d) p q) ∧ (fbf d (mir p) (mir q) ↔ tbf (oth d) p q):=by
    intro p q
    have h:=bf_mir hd (mir p) (mir q)
    rw [mir_mir,mir_mir] at h
    exact ⟨h.1.symm,h.2.symm⟩
  rw [rev_len] at f1 t1 f2 t2
  constructor
  · refine (tow_uniq hv hd (by omega) (fun j hj g=>?_)).symm
    rw [ix j hj,ix _ (show l.length - 1 - frm (rev l) (oth d) < l.length by omega),show l.length - 1 - (l.length - 1 - frm (rev l) (oth d)) = frm (rev l) (oth d) by omega] at g
    exact f2 _ (by omega) (un.1.1 g)
  · refine (frm_uniq hv hd (by omega) (fun j hj g=>?_)).symm
    rw [ix j hj,ix _ (show l.length - 1 - tow (rev l) (oth d) < l.length by omega),show l.length - 1 - (l.length - 1 - tow (rev l) (oth d)) = tow (rev l) (oth d) by omega] at g
    exact t2 _ (by omega) (un.2.1 g)
theorem rev_steps {n f t m f' t' : Nat} (hf : f < n) (ht : t < n) (hm : m < n) (h : (f + m) % n = t) (e1 : n - 1 - f' = t) (e2 : n - 1 - t' = f) (h1 : f' < n) (h2 : t' < n) :
    (f' + m) % n = t' ∧ ∀ j,j < m → n - 1 - ((f' + j) % n + 1) % n = (f + (m - 1 - j)) % n:=by
  rw [show f' = n - 1 - t by omega,show t' = n - 1 - f by omega]
  rcases Nat.lt_or_ge (f + m) n with a|a
  · rw [Nat.mod_eq_of_lt a] at h
    refine ⟨by rw [Nat.mod_eq_of_lt (by omega)];omega,fun j hj=>?_⟩
    rw [Nat.mod_eq_of_lt (show n - 1 - t + j < n by omega),Nat.mod_eq_of_lt (show n - 1 - t + j + 1 < n by omega),Nat.mod_eq_of_lt (by omega)]
    omega
  · have h' : f + m - n = t:=by rw [← h,Nat.mod_eq_sub_mod a,Nat.mod_eq_of_lt (by omega)]
    refine ⟨by rw [Nat.mod_eq_sub_mod (by omega),Nat.mod_eq_of_lt (by omega)];omega,fun j hj=>?_⟩
    rw [Nat.mod_add_mod]
    rcases Nat.lt_or_ge j t with b|b
    · rw [Nat.mod_eq_of_lt (show n - 1 - t + j + 1 < n by omega),Nat.mod_eq_sub_mod (show f + (m - 1 - j) ≥ n by omega),Nat.mod_eq_of_lt (by omega)]
      omega
    · rw [Nat.mod_eq_sub_mod (show n - 1 - t + j + 1 ≥ n by omega),Nat.mod_eq_of_lt (show n - 1 - t + j + 1 - n < n by omega),Nat.mod_eq_of_lt (by omega)]
      omega
theorem rev_noUnd {l : List S31} (hv : Valid l) {d : Nat} (hd : d < 4) : noUnd (rev l) (oth d) ↔ noUnd l d:=by
  have hr:=rev_valid hv
  have h0:=hv.lo
  have f1:=(frm_min hr.near (by rw [rev_len];omega) (oth_lt hd)).1
  have t1:=(tow_min hr.near (by rw [rev_len];omega) (oth_lt hd)).1
  have f0:=(frm_min hv.near (by omega) hd).1
  have t0:=(tow_min hv.near (by omega) hd).1
  rw [rev_len] at f1 t1
  have e:=rev_frm hv hd
  have st:=stp_to f0 t0
  have R:=rev_steps f0 t0 st.1 st.2 e.1 e.2 f1 t1
  have es : stp (rev l) (oth d) = stp l d:=by
    unfold stp
    rw [rev_len]
    exact stp_uq f1 st.1 R.1
  have key : ∀ j,j < stp l d → (badAt (rev l) (bdd (oth d)) ((frm (rev l) (oth d) + j) % (rev l).length) ↔ badAt l (bdd d) ((frm l d + (stp l d - 1 - j)) % l.length)):=by
    intro j hj
    have hj' : (frm (rev l) (oth d) + j) % l.length < l.length:=Nat.mod_lt _ (by omega)
    rw [rev_len,bad_hgt hr.near (oth_lt hd) (by rw [rev_len];exact hj'),bad_hgt hv.near hd (Nat.mod_lt _ (by omega)),(rev_nx hj').2.1,(rev_nx hj').2.2,(hgt_mir hd _).1,(hgt_mir hd _).1]
    have eb : bk l ((frm (rev l) (oth d) + j) % l.length) = (frm l d + (stp l d - 1 - j)) % l.length:=R.2 j hj
    rw [eb]
    omega
  unfold noUnd
  rw [es]
  constructor
  · intro g j hj b
    refine g (stp l d - 1 - j) (by omega) ((key _ (by omega)).2 ?_)
    rw [show stp l d - 1 - (stp l d - 1 - j) = j by omega];exact b
  · intro g j hj b
    exact g _ (by omega) ((key j hj).1 b)
/-! The rectangle around -/
theorem Turned.box {l l' : List S31} {s : Nat} {x y : Int} (h : Turned l l' s x y) {a b c d : Int} (hB : Box l a b c d) : Box l' (a + x) (b + y) (c + x) (d + y):=by
  have fx : ∀ j,j < l.length → ∃ i,i < l'.length ∧ P l' i = mv x y (P l j):=by
    intro j hj
    obtain ⟨i,hi,rfl⟩ := h.onto hj
    exact ⟨i,by rw [h.len];exact hi,h.pt i hi⟩
  obtain ⟨⟨i1,p1,q1⟩,⟨i2,p2,q2⟩,⟨i3,p3,q3⟩,⟨i4,p4,q4⟩⟩ := And.intro hB.lx_ (And.intro hB.ly_ (And.intro hB.hx_ hB.hy_))
  refine ⟨fun i hi=>?_, ?_, ?_, ?_, ?_⟩
  · rw [h.len] at hi
    have:=hB.all ((s + i) % l.length) (Nat.mod_lt _ (by omega))
    rw [h.pt i hi]
    simp only [mv]
    omega
  · obtain ⟨i,hi,e⟩ := fx i1 p1;exact ⟨i,hi,by rw [e];simp only [mv];omega⟩
  · obtain ⟨i,hi,e⟩ := fx i2 p2;exact ⟨i,hi,by rw [e];simp only [mv];omega⟩
  · obtain ⟨i,hi,e⟩ := fx i3 p3;exact ⟨i,hi,by rw [e];simp only [mv];omega⟩
  · obtain ⟨i,hi,e⟩ := fx i4 p4;exact ⟨i,hi,by rw [e];simp only [mv];omega⟩
theorem rev_box {l : List S31} {a b c d : Int} (hB : Box l a b c d) : Box (rev l) (-c) b (-a) d:=by
  have fx : ∀ j,j < l.length → ∃ i,i < (rev l).length ∧ P (rev l) i = mir (P l j):=by
    intro j hj
    refine ⟨l.length - 1 - j,by rw [rev_len];omega, ?_⟩
    rw [rev_P (by omega),show l.length - 1 - (l.length - 1 - j) = j by omega]
  obtain ⟨⟨i1,p1,q1⟩,⟨i2,p2,q2⟩,⟨i3,p3,q3⟩,⟨i4,p4,q4⟩⟩ := And.intro hB.lx_ (And.intro hB.ly_ (And.intro hB.hx_ hB.hy_))
  refine ⟨fun i hi=>?_, ?_, ?_, ?_, ?_⟩
  · rw [rev_len] at hi
    have:=hB.all (l.length - 1 - i) (by omega)
    rw [rev_P hi]
    simp only [mir]
    omega
  · obtain ⟨i,hi,e⟩ := fx i3 p3;exact ⟨i,hi,by rw [e];simp only [mir];omega⟩
  · obtain ⟨i,hi,e⟩ := fx i2 p2;exact ⟨i,hi,by rw [e];simp only [mir];omega⟩
  · obtain ⟨i,hi,e⟩ := fx i1 p1;exact ⟨i,hi,by rw [e];simp only [mir];omega⟩
  · obtain ⟨i,hi,e⟩ := fx i4 p4;exact ⟨i,hi,by rw [e];simp only [mir];omega⟩
theorem Turned.rev {l l' : List S31} {s : Nat} {x y : Int} (h : Turned l l' s x y) : ∃ s',Turned (rev l) (rev l') s' (-x) y:=by
  have hs:=h.lt
  refine ⟨(l.length - s) % l.length,by rw [rev_len,rev_len,h.len],by rw [rev_len];exact Nat.mod_lt _ (by omega),fun i hi=>?_⟩
  rw [rev_len] at hi ⊢
  have hm : ((l.length - s) % l.length + i) % l.length < l.length:=Nat.mod_lt _ (by omega)
  rw [rev_P (by rw [h.len];exact hi),rev_P hm,h.len,h.pt _ (by omega)]
  have e : (s + (l.length - 1 - i)) % l.length = l.length - 1 - ((l.length - s) % l.length + i) % l.length:=by
    by_cases s0 : s = 0
    · subst s0
      rw [Nat.sub_zero,Nat.mod_self,Nat.zero_add,Nat.zero_add,Nat.mod_eq_of_lt (by omega),Nat.mod_eq_of_lt hi]
    · rw [Nat.mod_eq_of_lt (show l.length - s < l.length by omega)]
      rcases Nat.lt_or_ge (l.length - s + i) l.length with a|a
      · rw [Nat.mod_eq_of_lt a,Nat.mod_eq_sub_mod (by omega),Nat.mod_eq_of_lt (by omega)];omega
      · rw [Nat.mod_eq_sub_mod a,Nat.mod_eq_of_lt (show l.length - s + i - l.length < l.length by omega),Nat.mod_eq_of_lt (by omega)];omega
  rw [e]
  exact S31_ext (by simp only [mir,mv];omega) rfl
end Go.Proofs.Ytnjikioimompnaa.Pure
