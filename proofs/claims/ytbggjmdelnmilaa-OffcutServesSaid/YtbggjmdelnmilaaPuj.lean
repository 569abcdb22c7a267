import Derived.Test.YtbggjmdelnmilaaPuh
namespace Go.Proofs.Ytbggjmdelnmilaa.Pure
open Go.RowKit Go.Proofs.Ytbggjmdelnmilaa Go.Proofs.Ytbggjmdelnmilaa.PA Go.Proofs.YtbggjmdelnmilaaW.PrintWords Go.Proofs.YtbggjmdelnmilaaW.PrintLast Go.Proofs.YtbggjmdelnmilaaW.PrintMore
set_option linter.unusedVariables false
set_option linter.unusedSimpArgs false
def vol (v : S24) : Int:=v.f0 * v.f1 * v.f2
def vs : List S39 → Int
 | []=>0
 | x :: l=>vol x.f1 + vs l
theorem vs_append : ∀ (l r : List S39),vs (l ++ r) = vs l + vs r
 | [],r=>by simp [vs]
 | x :: l,r=>by
  show vol x.f1 + vs (l ++ r) = vol x.f1 + vs l + vs r
  rw [vs_append l r];omega
theorem vs_perm {l r : List S39} (h : l.Perm r) : vs l = vs r:=by
 induction h with
 | nil=>rfl
 | cons x _ ih=>simp only [vs,ih]
 | swap x y l=>simp only [vs];omega
 | trans _ _ h1 h2=>exact h1.trans h2
theorem vol_rng {v : S24} (h : pos3 v) (h0 : v.f0 ≤ 1000000) (h1 : v.f1 ≤ 1000000) (h2 : v.f2 ≤ 1000000) : 1 ≤ vol v ∧ vol v ≤ 1000000000000000000 ∧ 1 ≤ v.f0 * v.f1 ∧ v.f0 * v.f1 ≤ 1000000000000:=by
 unfold pos3 at h
 have a1 : 1 * 1 ≤ v.f0 * v.f1:=Int.mul_le_mul h.1 h.2.1 (by omega) (by omega);have a2 : v.f0 * v.f1 ≤ 1000000 * 1000000:=Int.mul_le_mul h0 h1 (by omega) (by omega);have b1 : 1 * 1 ≤ v.f0 * v.f1 * v.f2:=Int.mul_le_mul (by omega) h.2.2 (by omega) (by omega);have b2 : v.f0 * v.f1 * v.f2 ≤ 1000000000000 * 1000000:=Int.mul_le_mul (by omega) h2 (by omega) (by omega)
 unfold vol
 omega
theorem volR_eq {v : S24} (h : pos3 v) (h0 : v.f0 ≤ 1000000) (h1 : v.f1 ≤ 1000000) (h2 : v.f2 ≤ 1000000) : volR v = vol v:=by
 have:=vol_rng h h0 h1 h2
 unfold volR
 rw [w64 (n:=v.f0 * v.f1) (by omega) (by omega),w64 (by unfold vol at this;omega) (by unfold vol at this;omega)];rfl
theorem Gd.vol {x : S39} (h : Gd x) : volR x.f1 = vol x.f1 ∧ 1 ≤ vol x.f1 ∧ vol x.f1 ≤ 1000000000000000000:=by
 obtain ⟨p,a,b,c⟩ := sized_pos h.2.2.2.1
 have:=vol_rng p a b c
 exact ⟨volR_eq p a b c,this.1,this.2.1⟩
theorem vs_nn : ∀ {l : List S39},(∀ x ∈ l,Gd x) → 0 ≤ vs l
 | [],_=>Int.le_refl _
 | x :: l,h=>by
  have h1:=(h x (by simp)).vol;have h2:=vs_nn (l:=l) (fun z hz=>h z (by simp [hz]))
  show 0 ≤ vol x.f1 + vs l
  omega
theorem volW_eq : ∀ {l : List S39} (_ : ∀ x ∈ l,Gd x) (a : Int),0 ≤ a → a ≤ 8000000000000000000 → volW a l = if a + vs l ≤ 8000000000000000000 then some (a + vs l) else none
 | [],_,a,h0,h1=>by
  show some a = if a + 0 ≤ 8000000000000000000 then some (a + 0) else none
  rw [Int.add_zero,if_pos h1]
 | x :: l,h,a,h0,h1=>by
  obtain ⟨e,g1,g2⟩ := (h x (by simp)).vol;have hn:=vs_nn (l:=l) (fun z hz=>h z (by simp [hz]))
  unfold volW
  rw [e,w64 (by omega) (by omega)]
  show _ = if a + (vol x.f1 + vs l) ≤ _ then some (a + (vol x.f1 + vs l)) else none
  by_cases c : a > 8000000000000000000 - vol x.f1
  (rw [if_pos c,if_neg (by omega)]);(rw [if_neg c,w64 (by omega) (by omega),volW_eq (fun z hz=>h z (by simp [hz])) _ (by omega) (by omega)];rw [Int.add_assoc])
theorem volA_good {l : List S39} (h : Good l) : volA l = if vs l ≤ 8000000000000000000 then (vs l,0) else (0,6):=by
 unfold volA
 rw [if_pos ((good_iff l).2 h),volW_eq h.el 0 (by omega) (by omega),Int.zero_add]
 split <;> rfl
theorem putR_perm (l : List S39) (r : S39) : (putR l r).Perm (r :: l):=by
 unfold putR
 rw [List.append_assoc,List.singleton_append]
 refine List.perm_middle.trans ?_
 rw [List.take_append_drop]
theorem insAll_perm : ∀ (ks base out : List S39),insAll base ks = some out → out.Perm (ks ++ base)
 | [],base,out,h=>by
  rw [insAll_nil] at h;obtain rfl:=Option.some.inj h;exact List.Perm.refl _
 | r :: ks,base,out,h=>by
  rw [insAll_cons] at h
  split at h
  ·cases h
  ·refine (insAll_perm ks _ out h).trans ?_
   refine ((putR_perm base r).append_left ks).trans ?_
   exact List.perm_middle
theorem insAll_ord : ∀ (ks base out : List S39),Ord base → insAll base ks = some out → Ord out
 | [],base,out,ho,h=>by
  rw [insAll_nil] at h;obtain rfl:=Option.some.inj h;exact ho
 | r :: ks,base,out,ho,h=>by
  rw [insAll_cons] at h
  split at h
  ·cases h
  ·rename_i hf
   exact insAll_ord ks _ out (ho.put (by simpa using hf)) h
theorem less_perm {l : List S39} {i : Nat} (h : i < l.length) : l.Perm (l[i] :: (l.take i ++ l.drop (i + 1))):=by
 have e : l = l.take i ++ l[i] :: l.drop (i + 1):=by
  rw [← drop_at h,List.take_append_drop]
 exact (List.Perm.of_eq e).trans List.perm_middle
theorem fits_stone {x : S39} {y : S36} (h : (fitsB x y).1 = true) : (stoneV x y).f0 ≤ x.f1.f0 ∧ (stoneV x y).f1 ≤ x.f1.f1 ∧ (stoneV x y).f2 ≤ x.f1.f2:=by
 unfold stoneV
 unfold fitsB at h ⊢
 split at h
 ·cases h
 ·rename_i hu
  rw [if_neg hu]
  split at h
  ·rename_i hc
   rw [if_pos hc,if_neg (by decide)]
   unfold contB at hc
   simp only [Bool.and_eq_true,decide_eq_true_eq] at hc
   omega
  ·rename_i hc
   rw [if_neg hc,if_pos h];rw [Bool.and_eq_true] at h;have h2:=h.2
   unfold contB at h2
   simp only [Bool.and_eq_true,decide_eq_true_eq] at h2
   unfold swapV at h2 ⊢
   simpa using h2
theorem stone_vol (x : S39) (y : S36) : vol (stoneV x y) = vol y.f1:=by
 unfold stoneV
 split
 ·unfold vol swapV
  show y.f1.f1 * y.f1.f0 * y.f1.f2 = _
  rw [Int.mul_comm y.f1.f1 y.f1.f0]
 (rfl)
structure RestOk (x : S39) (r : S39) : Prop where
 pos : pos3 r.f1
 le0 : r.f1.f0 ≤ x.f1.f0
 le1 : r.f1.f1 ≤ x.f1.f1
 le2 : r.f1.f2 ≤ x.f1.f2
 nm : ∃ i,i < 3 ∧ r.f0 = x.f0 ++ abc i
 c2 : r.f2 = x.f2
 c3 : r.f3 = x.f3
 c4 : r.f4 = x.f4
theorem lf_eq {a p k : Int} (ha : a ≤ 1000000) (hp : 1 ≤ p) (hpa : p ≤ a) (hk0 : 0 ≤ k) (hk : k ≤ 1000) : lf a p k = a - p - k:=by
 unfold lf
 rw [w64 (n:=a - p) (by omega) (by omega),w64 (by omega) (by omega)]
theorem rests {x : S39} {y : S36} {k : Int} (hx : Gd x) (hy : pos3 y.f1) (hf : (fitsB x y).1 = true) (hk0 : 0 ≤ k) (hk : k ≤ 1000) : (∀ r ∈ restR x y k,RestOk x r) ∧ vs (restR x y k) + vol y.f1 ≤ vol x.f1 ∧ (k = 0 → vs (restR x y k) + vol y.f1 = vol x.f1):=by
 obtain ⟨g0,g1,g2⟩ := fits_stone hf;have hp:=stone_pos (x:=x) hy;rw [← stone_vol x y];obtain ⟨px,b0,b1,b2⟩ := sized_pos hx.2.2.2.1
 unfold restR
 generalize stoneV x y = s at g0 g1 g2 hp;obtain ⟨p0,p1,p2⟩ := hp;obtain ⟨q0,q1,q2⟩ := px;have e0:=lf_eq (k:=k) b0 p0 g0 hk0 hk;have e1:=lf_eq (k:=k) b1 p1 g1 hk0 hk;have e2:=lf_eq (k:=k) b2 p2 g2 hk0 hk
 have v0 : vs (r0 x s k) = if 0 < lf x.f1.f0 s.f0 k then lf x.f1.f0 s.f0 k * x.f1.f1 * x.f1.f2 else 0:=by
  unfold r0;split
  ·show vol ⟨_,_,_⟩ + 0 = _;rw [Int.add_zero];rfl
  (rfl)
 have v1 : vs (r1 x s k) = if 0 < lf x.f1.f1 s.f1 k then s.f0 * lf x.f1.f1 s.f1 k * x.f1.f2 else 0:=by
  unfold r1;split
  ·show vol ⟨_,_,_⟩ + 0 = _;rw [Int.add_zero];rfl
  (rfl)
 have v2 : vs (r2 x s k) = if 0 < lf x.f1.f2 s.f2 k then s.f0 * s.f1 * lf x.f1.f2 s.f2 k else 0:=by
  unfold r2;split
  ·show vol ⟨_,_,_⟩ + 0 = _;rw [Int.add_zero];rfl
  (rfl)
 have key : vol x.f1 = (x.f1.f0 - s.f0) * x.f1.f1 * x.f1.f2 + s.f0 * (x.f1.f1 - s.f1) * x.f1.f2 + s.f0 * s.f1 * (x.f1.f2 - s.f2) + vol s:=by
  unfold vol
  simp only [Int.sub_mul,Int.mul_sub]
  omega
 refine ⟨fun r hr=>?_, ?_⟩
 ·unfold restN r0 r1 r2 at hr
  simp only [List.mem_append] at hr
  rcases hr with (hr|hr)|hr
  ·split at hr
   ·rename_i hc
    rw [List.mem_singleton] at hr;subst hr;exact ⟨⟨by show 1 ≤ lf _ _ _;omega,q1,q2⟩,by show lf _ _ _ ≤ _;omega,Int.le_refl _,Int.le_refl _,⟨0,by omega,rfl⟩,rfl,rfl,rfl⟩
   ·cases hr
  ·split at hr
   ·rename_i hc
    rw [List.mem_singleton] at hr;subst hr;exact ⟨⟨p0,by show 1 ≤ lf _ _ _;omega,q2⟩,g0,by show lf _ _ _ ≤ _;omega,Int.le_refl _,⟨1,by omega,rfl⟩,rfl,rfl,rfl⟩
   ·cases hr
  ·split at hr
   ·rename_i hc
    rw [List.mem_singleton] at hr;subst hr;exact ⟨⟨p0,p1,by show 1 ≤ lf _ _ _;omega⟩,g0,g1,by show lf _ _ _ ≤ _;omega,⟨2,by omega,rfl⟩,rfl,rfl,rfl⟩
   ·cases hr
 ·have es : vs (restN x s k 3) = vs (r0 x s k) + vs (r1 x s k) + vs (r2 x s k) := by
   show vs ((r0 x s k ++ r1 x s k) ++ r2 x s k) = _
   rw [vs_append,vs_append]
  rw [es,v0,v1,v2,e0,e1,e2,key]
  have m0 : ∀ {a b c : Int},0 ≤ a → 0 ≤ b → 0 ≤ c → 0 ≤ a * b * c:=fun ha hb hc=>Int.mul_nonneg (Int.mul_nonneg ha hb) hc
  have t0 : (if 0 < x.f1.f0 - s.f0 - k then (x.f1.f0 - s.f0 - k) * x.f1.f1 * x.f1.f2 else 0) ≤ (x.f1.f0 - s.f0) * x.f1.f1 * x.f1.f2:=by
   split
   (exact Int.mul_le_mul_of_nonneg_right (Int.mul_le_mul_of_nonneg_right (by omega) (by omega)) (by omega));(exact m0 (by omega) (by omega) (by omega))
  have t1 : (if 0 < x.f1.f1 - s.f1 - k then s.f0 * (x.f1.f1 - s.f1 - k) * x.f1.f2 else 0) ≤ s.f0 * (x.f1.f1 - s.f1) * x.f1.f2:=by
   split
   (exact Int.mul_le_mul_of_nonneg_right (Int.mul_le_mul_of_nonneg_left (by omega) (by omega)) (by omega));(exact m0 (by omega) (by omega) (by omega))
  have t2 : (if 0 < x.f1.f2 - s.f2 - k then s.f0 * s.f1 * (x.f1.f2 - s.f2 - k) else 0) ≤ s.f0 * s.f1 * (x.f1.f2 - s.f2):=by
   split
   (exact Int.mul_le_mul_of_nonneg_left (by omega) (Int.mul_nonneg (by omega) (by omega)));(exact m0 (by omega) (by omega) (by omega))
  refine ⟨by omega,fun hk0=>?_⟩
  subst hk0
  have u0 : (if 0 < x.f1.f0 - s.f0 - 0 then (x.f1.f0 - s.f0 - 0) * x.f1.f1 * x.f1.f2 else 0) = (x.f1.f0 - s.f0) * x.f1.f1 * x.f1.f2:=by
   split
   (rw [Int.sub_zero])
   ·rw [show x.f1.f0 - s.f0 = 0 by omega];simp
  have u1 : (if 0 < x.f1.f1 - s.f1 - 0 then s.f0 * (x.f1.f1 - s.f1 - 0) * x.f1.f2 else 0) = s.f0 * (x.f1.f1 - s.f1) * x.f1.f2:=by
   split
   (rw [Int.sub_zero])
   ·rw [show x.f1.f1 - s.f1 = 0 by omega];simp
  have u2 : (if 0 < x.f1.f2 - s.f2 - 0 then s.f0 * s.f1 * (x.f1.f2 - s.f2 - 0) else 0) = s.f0 * s.f1 * (x.f1.f2 - s.f2):=by
   split
   (rw [Int.sub_zero])
   ·rw [show x.f1.f2 - s.f2 = 0 by omega];simp
  omega
theorem vs_filter {p : S39 → Bool} : ∀ {l : List S39},(∀ x ∈ l,0 ≤ vol x.f1) → vs (l.filter p) ≤ vs l
 | [],_=>Int.le_refl _
 | x :: l,h=>by
  have h1:=h x (by simp);have h2:=vs_filter (p:=p) (l:=l) (fun z hz=>h z (by simp [hz]));rw [List.filter_cons]
  show _ ≤ vol x.f1 + vs l
  split
  ·show vol x.f1 + vs _ ≤ _;omega
  ·omega
end Go.Proofs.Ytbggjmdelnmilaa.Pure
namespace Go.Proofs.Ytbggjmdelnmilaa.Pure
open Go.RowKit Go.Proofs.Ytbggjmdelnmilaa Go.Proofs.Ytbggjmdelnmilaa.PA Go.Proofs.YtbggjmdelnmilaaW.PrintWords Go.Proofs.YtbggjmdelnmilaaW.PrintLast Go.Proofs.YtbggjmdelnmilaaW.PrintMore
set_option linter.unusedVariables false
set_option linter.unusedSimpArgs false
structure Taken (l : List S39) (y : S36) (t : T5) (x : S39) : Prop where
 good : Good t.1
 mem : x ∈ l
 id : t.2.2.1 = x.f0
 nm : t.2.1 = y.f0
 gone : ∀ r ∈ t.1,r.f0.toList ≠ x.f0.toList
 vol : vs t.1 + vol y.f1 ≤ vs l
 from_ : ∀ r ∈ t.1,r ∈ l ∨ RestOk x r
 len : t.1.length ≤ l.length + 2
theorem abc_ne (s : ByteArray) {i : Nat} (hi : i < 3) : (s ++ abc i).toList ≠ s.toList:=by
 intro h;have h2:=congrArg List.length h;rw [ByteArray.toList_eq,ByteArray.toList_eq] at h2;simp only [Array.length_toList] at h2;have h3:=snoc_size s hi;have e1 : (s ++ abc i).data.size = (s ++ abc i).size:=rfl;have e2 : s.data.size = s.size:=rfl
 omega
theorem takeR_err (l : List S39) (i : Nat) (y : S36) (k n : Int) : (takeR l i y k n).2.2.2.2 = 0 ∨ (takeR l i y k n = none5 (takeR l i y k n).2.2.2.2 ∧ (takeR l i y k n).2.2.2.2 ≠ 9 ∧ (takeR l i y k n).2.2.2.2 ≠ 0):=by
 unfold takeR
 split
 (exact .inr ⟨rfl,by decide,by decide⟩)
 ·split
  (exact .inr ⟨rfl,by decide,by decide⟩)
  ·split
   (exact .inr ⟨rfl,by decide,by decide⟩);(exact .inl rfl)
theorem takeR_ok {l : List S39} {i : Nat} {y : S36} {k n : Int} (hg : Good l) (hy : Gw y) (hi : i < l.length) (hf : (fitsB (l.getD i z39) y).1 = true) (hk0 : 0 ≤ k) (hk : k ≤ 1000) (h : (takeR l i y k n).2.2.2.2 = 0) : Taken l y (takeR l i y k n) (l.getD i z39):=by
 have hx : l.getD i z39 = l[i] := by simp [List.getD,hi]
 have hgx:=hg.el l[i] (List.getElem_mem hi);have hpy:=(sized_pos hy.2.2.1).1;rw [hx] at hf ⊢;obtain ⟨hr,hv,_⟩ := rests (k:=k) hgx hpy hf hk0 hk;have hxs:=sized_pos hgx.2.2.2.1;have hord:=hg.ord;have hp:=less_perm hi
 unfold takeR at h ⊢
 rw [hx] at h ⊢
 split at h
 (exact absurd h (by decide))
 ·rename_i hnm
  rw [if_neg hnm]
  have hkr : ∀ r ∈ keptR l[i] y k n,RestOk l[i] r:=fun r hr'=>hr r (List.mem_filter.1 hr').1
  have hkg : ∀ r ∈ keptR l[i] y k n,Gd r:=fun r hr'=>by
   have q:=hkr r hr';have a0:=q.le0;have a1:=q.le1;have a2:=q.le2
   refine ⟨?_,by rw [q.c3];exact hgx.2.1,by rw [q.c4];exact hgx.2.2.1,sized_of q.pos (by omega) (by omega) (by omega),by rw [q.c2];exact hgx.2.2.2.2⟩
   have:=List.any_eq_false.1 (by simpa only [Bool.not_eq_true] using hnm) r hr'
   simpa using this
  split at h
  (exact absurd h (by decide))
  ·rename_i out ho
   split at h
   (exact absurd h (by decide))
   ·rename_i hlen
    show Taken l y (if 256 < out.length then none5 7 else _) _
    rw [if_neg hlen];have hperm:=insAll_perm _ _ _ ho
    have hmem : ∀ r ∈ out,r ∈ keptR l[i] y k n ∨ r ∈ l.take i ++ l.drop (i + 1):=fun r hr'=>List.mem_append.1 (hperm.mem_iff.1 hr')
    have hbase : ∀ r ∈ l.take i ++ l.drop (i + 1),r ∈ l:=fun r hr'=>hp.mem_iff.2 (List.mem_cons_of_mem _ hr')
    have hdis : ∀ r ∈ l.take i ++ l.drop (i + 1),r.f0.toList ≠ l[i].f0.toList:=fun r hr' he=>by
     rcases List.mem_append.1 hr' with hm|hm
     ·obtain ⟨j,hj,e⟩ := List.getElem_of_mem hm;rw [List.getElem_take] at e
      have hj' : j < i:=by rw [List.length_take] at hj;omega
      have:=List.pairwise_iff_getElem.1 hord j i (by omega) hi hj'
      rw [e,he,bl_irr] at this
      cases this
     ·obtain ⟨j,hj,e⟩ := List.getElem_of_mem hm;rw [List.getElem_drop] at e
      have hj' : i + 1 + j < l.length:=by rw [List.length_drop] at hj;omega
      have:=List.pairwise_iff_getElem.1 hord i (i + 1 + j) hi hj' (by omega)
      rw [e,he,bl_irr] at this
      cases this
    refine ⟨⟨by show out.length ≤ 256;omega,fun r hr'=>?_,insAll_ord _ _ _ (hord.less i) ho⟩,List.getElem_mem hi,rfl,rfl,fun r hr'=>?_, ?_,fun r hr'=>?_, ?_⟩
    ·rcases hmem r hr' with hm|hm
     (exact hkg r hm);(exact hg.el r (hbase r hm))
    ·rcases hmem r hr' with hm|hm
     (obtain ⟨j,hj,e⟩ := (hkr r hm).nm;rw [e];exact abc_ne _ hj);(exact hdis r hm)
    ·show vs out + _ ≤ _
     rw [vs_perm hperm,vs_append,vs_perm hp]
     have hfl : vs (keptR l[i] y k n) ≤ vs (restR l[i] y k):=vs_filter (fun r hr'=>by
      have q:=hr r hr';have a0:=q.le0;have a1:=q.le1;have a2:=q.le2
      have:=(vol_rng q.pos (by omega) (by omega) (by omega)).1
      omega)
     show vs (keptR l[i] y k n) + vs (l.take i ++ l.drop (i + 1)) + _ ≤ Pure.vol l[i].f1 + vs (l.take i ++ l.drop (i + 1))
     omega
    ·rcases hmem r hr' with hm|hm
     (exact .inr (hkr r hm));(exact .inl (hbase r hm))
    ·show out.length ≤ _
     rw [hperm.length_eq,List.length_append]
     have:=keptR_len l[i] y k n
     have e:=hp.length_eq;rw [List.length_cons] at e
     omega
theorem tkR_ok {l : List S39} {y : S36} {k n : Int} (hg : Good l) (hy : Gw y) (hk0 : 0 ≤ k) (hk : k ≤ 1000) (h : (tkR l y k n).2.2.2.2 = 0) : ∃ x,Taken l y (tkR l y k n) x:=by
 unfold tkR at h ⊢
 rcases bestR_spec l y with ⟨h1,_⟩|⟨h0,h1,h2⟩
 (rw [h1,if_pos (by omega)] at h;exact absurd h (by decide));(rw [if_neg (by omega)] at h ⊢;exact ⟨_,takeR_ok hg hy (by omega) h2 hk0 hk h⟩)
theorem tkR_err (l : List S39) (y : S36) (k n : Int) : (tkR l y k n).2.2.2.2 = 0 ∨ (tkR l y k n = none5 (tkR l y k n).2.2.2.2 ∧ (tkR l y k n).2.2.2.2 ≠ 0):=by
 unfold tkR
 split
 (exact .inr ⟨rfl,by decide⟩)
 ·rcases takeR_err l (bestR l y).toNat y k n with h|h
  (exact .inl h);(exact .inr ⟨h.1,h.2.2⟩)
end Go.Proofs.Ytbggjmdelnmilaa.Pure
