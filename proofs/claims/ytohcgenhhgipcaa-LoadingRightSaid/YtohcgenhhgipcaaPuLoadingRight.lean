import Derived.Test.YtohcgenhhgipcaaOp
import Derived.Test.YtohcgenhhgipcaaPAx24
import Derived.Test.YtohcgenhhgipcaaPug
import Derived.Test.YtohcgenhhgipcaaPuh
import Derived.Test.YtohcgenhhgipcaaPui
import Derived.Test.YtohcgenhhgipcaaPuw
namespace Go.Proofs.Ytohcgenhhgipcaa.Pure
open Go.RowKit Go.Proofs.Ytohcgenhhgipcaa Go.Proofs.Ytohcgenhhgipcaa.PA Go.Proofs.YtohcgenhhgipcaaW.PrintWords Go.Proofs.YtohcgenhhgipcaaW.PrintLast Go.Proofs.YtohcgenhhgipcaaW.PrintMore
set_option linter.unusedVariables false
set_option linter.unusedSimpArgs false

/-! What the plan is -/
theorem down_hit (t : S24) (l : List S64) : ∀ n,down t l n ≠ 0 → fitsR t (l.take (down t l n)) = 0
 | 0,h=>absurd rfl h
 | n + 1,h=>by
  unfold down at h ⊢
  by_cases c : fitsR t (l.take (n + 1)) = 0
  (rw [if_pos c];exact c);(rw [if_neg c] at h ⊢;exact down_hit t l n h)
theorem down_miss (t : S24) (l : List S64) : ∀ n j,down t l n < j → j ≤ n → fitsR t (l.take j) ≠ 0
 | 0,j,h,hj=>by omega
 | n + 1,j,h,hj=>by
  unfold down at h
  by_cases c : fitsR t (l.take (n + 1)) = 0
  ·rw [if_pos c] at h;omega
  ·rw [if_neg c] at h;by_cases e : j = n + 1
   (subst e;exact c);(exact down_miss t l n j h (by omega))
/-- a plan of stones: each trip holds as many as fit -/
inductive Plan (t : S24) : List S64 → List (List S64) → Prop
 | nil : Plan t [] []
 | cons (l : List S64) (m : Nat) (ps : List (List S64)) (hm : m ≠ 0) (hl : m ≤ l.length) (hf : fitsR t (l.take m) = 0) (hn : ∀ j,m < j → j ≤ l.length → fitsR t (l.take j) ≠ 0) (h : Plan t (l.drop m) ps) : Plan t l (l.take m :: ps)
theorem plan_of (t : S24) : ∀ (n : Nat) (l : List S64) (ps : List (List S64)),l.length ≤ n → planR t n l = some ps → Plan t l ps:=by
 intro n
 induction n with
 | zero =>
  intro l ps hn h;rw [planR] at h;obtain rfl:=Option.some.inj h;obtain rfl : l = [] := List.length_eq_zero_iff.1 (by omega);exact .nil
 | succ n ih =>
  intro l ps hn h;rw [planR] at h;by_cases h0 : l.length = 0
  ·rw [if_pos h0] at h;obtain rfl:=Option.some.inj h;obtain rfl : l = [] := List.length_eq_zero_iff.1 h0;exact .nil
  ·rw [if_neg h0] at h;by_cases h1 : down t l l.length = 0
   ·rw [if_pos h1] at h;cases h
   ·rw [if_neg h1] at h
    cases hq : planR t n (l.drop (down t l l.length)) with
    | none=>rw [hq] at h;cases h
    | some qs =>
     rw [hq] at h;obtain rfl:=Option.some.inj h;exact .cons l _ qs h1 (down_le t l _) (down_hit t l _ h1) (fun j h2 h3=>down_miss t l _ j h2 h3) (ih _ qs (by rw [List.length_drop];omega) hq)
theorem alone_drop (t : S24) : ∀ (m : Nat) (l : List S64),(aloneL t (l.drop m)).2 = 0 → (aloneL t l).2 = 0
 | 0,l,h=>h
 | m + 1,[],h=>by rw [List.drop_nil] at h;exact h
 | m + 1,x :: r,h=>by
  rw [List.drop_succ_cons] at h;rw [aloneL]
  split
  (exact alone_drop t m r h);(rfl)
theorem plan_none (t : S24) : ∀ (n : Nat) (l : List S64),planR t n l = none → (aloneL t l).2 = 0:=by
 intro n
 induction n with
 | zero=>intro l h;rw [planR] at h;cases h
 | succ n ih =>
  intro l h;rw [planR] at h;by_cases h0 : l.length = 0
  ·rw [if_pos h0] at h;cases h
  ·rw [if_neg h0] at h;by_cases h1 : down t l l.length = 0
   ·have:=down_miss t l l.length 1 (by omega) (by omega)
    match l,h0 with
    | x :: r,_ =>
     rw [aloneL,if_neg (by simpa using this)]
   ·rw [if_neg h1] at h
    cases hq : planR t n (l.drop (down t l l.length)) with
    | none=>exact alone_drop t _ l (ih _ hq)
    | some qs=>rw [hq] at h;cases h
/-! the least number is no more than the plan's -/
theorem scan_low (f : Nat → Int → Int) (I P : Int → Prop) (hI : ∀ j b,I b → I (f j b)) (hs : ∀ j b,P b → P (f j b)) (i : Nat) (hi : ∀ b,I b → P (f i b)) : ∀ (d j : Nat) (b : Int),I b → j ≤ i → i < j + d → P (scan f d j b)
 | 0,j,b,h0,h1,h2=>by omega
 | d + 1,j,b,h0,h1,h2=>by
  rw [scan];by_cases e : j = i
  (subst e;exact scan_keep P d (j + 1) _ (hi b h0) (fun k b hb _ _=>hs k b hb));(exact scan_low f I P hI hs i hi d (j + 1) _ (hI j b h0) (by omega) (by omega))
theorem lst_plan (t : S24) {l : List S64} {ps : List (List S64)} (h : Plan t l ps) : 0 ≤ lst t l ∧ lst t l ≤ ps.length ∧ (l.length ≠ 0 → 1 ≤ lst t l):=by
 induction h with
 | nil=>rw [lst_nil t [] rfl];simp
 | cons l m ps hm hl hf hn h ih =>
  obtain ⟨h1,h2,h3⟩ := ih;rw [lst_eq t l (by omega)];have key:=scan_low (lstF t l (lst t)) (fun b=>b ≠ 0) (fun b=>1 ≤ b ∧ b ≤ ((ps.length + 1 : Nat) : Int)) (fun j b hb=>?_) (fun j b hb=>?_) m (fun b hb=>?_) l.length 1 (-1) (by decide) (by omega) (by omega);(obtain ⟨k1,k2⟩ := key;exact ⟨by omega,k2,fun _=>k1⟩)
  ·have hb' : b ≠ 0:=hb
   show lstF t l (lst t) j b ≠ 0
   unfold lstF
   split <;> omega
  ·have hb' : 1 ≤ b ∧ b ≤ ((ps.length + 1 : Nat) : Int):=hb
   show 1 ≤ lstF t l (lst t) j b ∧ lstF t l (lst t) j b ≤ ((ps.length + 1 : Nat) : Int)
   unfold lstF
   split <;> omega
  ·have hb' : b ≠ 0:=hb
   show 1 ≤ lstF t l (lst t) m b ∧ lstF t l (lst t) m b ≤ ((ps.length + 1 : Nat) : Int)
   unfold lstF
   by_cases c : fitsR t (l.take m) = 0 ∧ 0 ≤ lst t (l.drop m) ∧ (b < 0 ∨ lst t (l.drop m) + 1 < b)
   ·rw [if_pos c];omega
   ·rw [if_neg c]
    have : ¬(b < 0 ∨ lst t (l.drop m) + 1 < b):=fun hh=>c ⟨hf,h1,hh⟩
    omega
/-! what is packed is right -/
theorem pack_mem : ∀ (l : List S64),(∀ x ∈ l,1 ≤ x.f1 ∧ x.f1 ≤ 30000) → ∀ y ∈ packR l,0 ≤ y.f1 ∧ y.f1 + y.f2 ≤ sumL l ∧ 1 ≤ y.f2 ∧ y.f2 ≤ 30000
 | [],_,y,hy=>by cases hy
 | x :: r,h,y,hy=>by
  have hr:=sumL_rng r (fun z hz=>h z (List.mem_cons_of_mem _ hz));have hx:=h x List.mem_cons_self;rw [packR] at hy
  rcases List.mem_cons.1 hy with rfl|hy
  ·simp only [sumL];omega
  ·have:=pack_mem r (fun z hz=>h z (List.mem_cons_of_mem _ hz)) y hy
   simp only [sumL];omega
theorem pack_drop : ∀ (l : List S64) (n : Nat),(packR l).drop n = packR (l.drop n)
 | l,0=>rfl
 | [],n + 1=>rfl
 | x :: r,n + 1=>by rw [packR,List.drop_succ_cons,List.drop_succ_cons];exact pack_drop r n
theorem pack_clear (l : List S64) (hf : Few l) : clearB (packR l) = true:=by
 unfold clearB
 rw [Bool.not_eq_true',List.any_eq_false];intro n hn;rw [List.mem_range,packR_length] at hn
 unfold clrAt
 rw [List.any_eq_true];rintro ⟨y,hy,ho⟩;rw [pack_drop] at hy;have hsub:=hf.sub (List.drop_sublist (n + 1) l);have h1:=pack_mem _ hsub.2 y hy;have hsum:=hsub.sum
 have e : ((packR l).getD n z61).f1 = sumL (l.drop (n + 1)):=by
  have h2:=pack_drop l n;rw [drop_cons64 l n hn,packR] at h2;rw [List.getD_eq_getElem?_getD,← List.head?_drop,h2];rfl
 unfold overB at ho
 rw [e,wrap_small (by omega),decide_eq_true_iff] at ho
 omega
theorem same_pack (x : S64) (n : Int) : sameC x ⟨x.f0,n,x.f1,x.f2⟩ = true:=by simp [sameC]
theorem fo_pack : ∀ (a b : List S64) (ys : List S61),fo (a ++ b) (packR a ++ ys) = fo b ys
 | [],b,ys=>rfl
 | x :: r,b,ys=>by
  rw [packR,List.cons_append,List.cons_append,fo,same_pack,Bool.true_and];exact fo_pack r b ys
theorem plan_follow (t : S24) {l : List S64} {ps : List (List S64)} (h : Plan t l ps) : followB l (ps.map (trip54 t)) = true:=by
 unfold followB
 induction h with
 | nil=>rfl
 | cons l m ps hm hl hf hn h ih =>
  rw [List.map_cons,List.flatMap_cons]
  have:=fo_pack (l.take m) (l.drop m) ((ps.map (trip54 t)).flatMap (·.f1))
  rw [List.take_append_drop] at this;exact this.trans ih
theorem plan_parts (t : S24) {l : List S64} {ps : List (List S64)} (h : Plan t l ps) : ∀ c ∈ ps,c.Sublist l ∧ c.length ≠ 0 ∧ fitsR t c = 0:=by
 induction h with
 | nil=>intro c hc;cases hc
 | cons l m ps hm hl hf hn h ih =>
  intro c hc
  rcases List.mem_cons.1 hc with rfl|hc
  (exact ⟨List.take_sublist _ _,by rw [List.length_take];omega,hf⟩);(obtain ⟨h1,h2,h3⟩ := ih c hc;exact ⟨h1.trans (List.drop_sublist _ _),h2,h3⟩)
theorem plan_verify (t : S24) (l : List S64) (hg : Good t l) {ps : List (List S64)} (h : Plan t l ps) : verR t l (ps.map (trip54 t)) = 0:=by
 have hp:=plan_parts t h;have ht:=hg.trk
 have ht1 : 1 ≤ t.f1 ∧ t.f1 ≤ 30000:=by unfold trkB at ht;simp at ht;omega
 have fin : ∀ c ∈ ps,sumL c ≤ t.f1 ∧ bearsB t (packR c) = true:=by
  intro c hc;obtain ⟨_,_,h3⟩ := hp c hc
  unfold fitsR at h3
  by_cases a : sumL c > t.f1
  ·rw [if_pos a] at h3;cases h3
  ·rw [if_neg a] at h3
   refine ⟨by omega, ?_⟩
   by_cases b : bearsB t (packR c) = true
   (exact b)
   ·rw [if_neg b] at h3;cases h3
 have any0 : ∀ (p : S54 → Bool),(∀ c ∈ ps,p (trip54 t c) = false) → (ps.map (trip54 t)).any p = false:=by
  intro p hh;rw [List.any_map,List.any_eq_false];intro c hc
  simpa using hh c hc
 unfold verR
 rw [if_pos ((good_iff t l).2 hg)];rw [any0 (unk t) (fun c hc=>by simp [unk,trip54]),if_neg (by decide)]
 rw [any0 (fun x=>x.f1.isEmpty) (fun c hc=>by
  have:=(hp c hc).2.1
  rw [← packR_length] at this
  show (packR c).isEmpty = false
  cases hq : packR c with
  | nil=>rw [hq] at this;exact absurd rfl this
  | cons=>rfl),if_neg (by decide)]
 rw [if_pos (plan_follow t h)]
 rw [any0 (fun x=>x.f1.any fun y=>!onB t y) (fun c hc=>by
  show (packR c).any (fun y=>!onB t y) = false
  rw [List.any_eq_false];intro y hy;have hf:=hg.few.sub (hp c hc).1;have h1:=pack_mem c hf.2 y hy;have h2:=(fin c hc).1
  have h3 : onB t y = true:=by
   unfold onB
   rw [wrap_small (by omega),Bool.and_eq_true,decide_eq_true_iff,decide_eq_true_iff]
   omega
  simp [h3]),if_neg (by decide)]
 rw [any0 (fun x=>!clearB x.f1) (fun c hc=>by
  show (!clearB (packR c)) = false
  rw [pack_clear c (hg.few.sub (hp c hc).1)];rfl),if_neg (by decide)]
 rw [any0 (fun x=>!bearsB t x.f1) (fun c hc=>by
  show (!bearsB t (packR c)) = false
  rw [(fin c hc).2];rfl),if_neg (by decide)]
/-! the law's own loop -/
theorem mid_eq (l : List S64) (a b : Nat) : (l.take b).drop a = (l.drop a).take (b - a):=List.drop_take
theorem right_l1 (t : S24) (l : List S64) (hg : Good t l) (ht : t.f0.size ≤ 9223372036854775807) (hs : ∀ y ∈ l, y.f0.size ≤ 9223372036854775807) (T : List S54) (a i k : Nat) (hak : a ≤ k) (hi : i ≤ 1000000)
  (no : ∀ j,k - a < j → j ≤ (l.drop a).length → fitsR t ((l.drop a).take j) ≠ 0)
  (next : Ev (fun q=>gangsawlaw54_LoadingRight.l0 q l T (k : Int) ((i + 1 : Nat) : Int) t.f0 t.f1 t.f2 t.f3 t.f4.f0 t.f4.f1 t.f5.f0 t.f5.f1) true) : ∀ (d m : Nat),l.length + 1 - m = d → k < m →
  Ev (fun q=>gangsawlaw54_LoadingRight.l1 q l T (a : Int) (i : Int) (k : Int) (m : Int) t.f0 t.f1 t.f2 t.f3 t.f4.f0 t.f4.f1 t.f5.f0 t.f5.f1) true:=by
 have hl:=hg.len;intro d
 induction d with
 | zero =>
  intro m hd hm
  exact Ev.step (f:=fun q=>gangsawlaw54_LoadingRight.l0 q l T (k : Int) ((i + 1 : Nat) : Int) t.f0 t.f1 t.f2 t.f3 t.f4.f0 t.f4.f1 t.f5.f0 t.f5.f1) (fun q=>by rw [gangsawlaw54_LoadingRight.l1,if_neg (by omega : ¬((m : Int) ≤ (l.length : Int))),wsucc (by omega)]) next
 | succ d ih =>
  intro m hd hm;have hsub : ((l.take m).drop a).Sublist l:=(List.drop_sublist _ _).trans (List.take_sublist _ _);have h1:=Fits_f t ((l.take m).drop a) ht (fun y hy=>hs y (hsub.subset hy));rw [fitR_good (hg.sub hsub)] at h1
  have h2 : fitsR t ((l.take m).drop a) ≠ 0:=by
   rw [mid_eq];exact no (m - a) (by omega) (by rw [List.length_drop];omega)
  refine Ev.step (f:=fun q=>(loading_Fits.f q t.f0 t.f1 t.f2 t.f3 t.f4.f0 t.f4.f1 t.f5.f0 t.f5.f1 ((l.take m).drop a)).bind fun x=>if x = 0 then none else gangsawlaw54_LoadingRight.l1 q l T (a : Int) (i : Int) (k : Int) ((m + 1 : Nat) : Int) t.f0 t.f1 t.f2 t.f3 t.f4.f0 t.f4.f1 t.f5.f0 t.f5.f1) (fun q=>by rw [gangsawlaw54_LoadingRight.l1,if_pos (by omega : (m : Int) ≤ (l.length : Int)),if_pos (by omega : (0 : Int) ≤ (a : Int)),if_pos (by omega : (a : Int) ≤ (m : Int)),Int.toNat_natCast,Int.toNat_natCast,wsucc (by omega)]) (Ev.bind h1 ?_)
  exact Ev.congr (fun q=>by rw [if_neg h2]) (ih (m + 1) (by omega) (by omega))
theorem right_l0 (t : S24) (l : List S64) (hg : Good t l) (ht : t.f0.size ≤ 9223372036854775807) (hs : ∀ y ∈ l, y.f0.size ≤ 9223372036854775807) (T : List S54) (hT : T.length ≤ 1000000) {r : List S64} {ps : List (List S64)} (h : Plan t r ps) : ∀ (a i : Nat), a ≤ l.length → l.drop a = r → i ≤ T.length → T.drop i = ps.map (trip54 t) →
  Ev (fun q=>gangsawlaw54_LoadingRight.l0 q l T (a : Int) (i : Int) t.f0 t.f1 t.f2 t.f3 t.f4.f0 t.f4.f1 t.f5.f0 t.f5.f1) true:=by
 have hl:=hg.len
 induction h with
 | nil =>
  intro a i ha hr hi hd
  have h1 : l.length = a:=by have:=congrArg List.length hr;rw [List.length_drop] at this;simp at this;omega
  have h2 : T.length = i:=by have:=congrArg List.length hd;rw [List.length_drop] at this;simp at this;omega
  exact Ev.step (f:=fun _=>some true) (fun q=>by rw [gangsawlaw54_LoadingRight.l0,if_neg (by omega : ¬((i : Int) < (T.length : Int))),h1];simp) (Ev.now _)
 | cons r m ps hm hlm hf hn h ih =>
  intro a i ha hr hi hd;subst hr;rw [List.length_drop] at hlm
  have hlt : i < T.length:=by have:=congrArg List.length hd;rw [List.length_drop] at this;simp at this;omega
  rw [drop_cons54 T i hlt,List.map_cons] at hd
  injection hd with e1 e2
  have e3 : ((rd_T54 T (i : Int)).f1).length = m:=by
   rw [e1];unfold trip54;rw [packR_length,List.length_take,List.length_drop];omega
  have hw : wrap64 ((a : Int) + ((m : Nat) : Int)) = ((a + m : Nat) : Int):=by rw [wrap_small (by omega)];omega
  have hsub : ((l.take (a + m)).drop a).Sublist l:=(List.drop_sublist _ _).trans (List.take_sublist _ _);have h1:=Fits_f t ((l.take (a + m)).drop a) ht (fun y hy=>hs y (hsub.subset hy));rw [fitR_good (hg.sub hsub),mid_eq,show a + m - a = m from by omega,hf] at h1
  refine Ev.step (f:=fun q=>(loading_Fits.f q t.f0 t.f1 t.f2 t.f3 t.f4.f0 t.f4.f1 t.f5.f0 t.f5.f1 ((l.drop a).take m)).bind fun x=>gangsawlaw54_LoadingRight.j2 q l T (a : Int) (i : Int) ((a + m : Nat) : Int) (x != 0) t.f0 t.f1 t.f2 t.f3 t.f4.f0 t.f4.f1 t.f5.f0 t.f5.f1) (fun q=>?_) (Ev.bind h1 ?_)
  (rw [gangsawlaw54_LoadingRight.l0,if_pos (by omega : (i : Int) < (T.length : Int)),if_pos (by omega : (0 : Int) ≤ (i : Int)),e3,hw,if_neg (by omega : ¬(((a + m : Nat) : Int) > (l.length : Int))),if_pos (by omega : (0 : Int) ≤ (a : Int)),if_pos (by omega : (a : Int) ≤ ((a + m : Nat) : Int)),if_pos (by omega : ((a + m : Nat) : Int) ≤ (l.length : Int)),Int.toNat_natCast,Int.toNat_natCast,mid_eq,show a + m - a = m from by omega])
  ·refine Ev.step (f:=fun q=>gangsawlaw54_LoadingRight.l1 q l T (a : Int) (i : Int) ((a + m : Nat) : Int) ((a + m + 1 : Nat) : Int) t.f0 t.f1 t.f2 t.f3 t.f4.f0 t.f4.f1 t.f5.f0 t.f5.f1) (fun q=>by rw [gangsawlaw54_LoadingRight.j2,if_neg (by decide : ¬(((0 : Int) != 0) = true)),wsucc (by omega)]) ?_
   refine right_l1 t l hg ht hs T a i (a + m) (by omega) (by omega) (fun j h2 h3=>hn j (by omega) h3) ?_ _ (a + m + 1) rfl (by omega)
   exact ih (a + m) (i + 1) (by omega) (by rw [List.drop_drop]) (by omega) e2
theorem LoadingRight (s : ByteArray) (a1 a2 a3 a4 a5 a6 a7 : Int) (l : List S65) (ht : TruckOk s a1 a2 a3 a4 a5 a6 a7) (hlen : l.length ≤ maxLen) (hp : ∀ p ∈ l, CargoOk p) :
  ∃ k,gangsawlaw54_LoadingRight.f k s a1 a2 a3 a4 a5 a6 a7 l = some true:=by
 have hs : s.size ≤ 9223372036854775807:=ht.1
 have hy : ∀ y ∈ l,y.f0.size ≤ 9223372036854775807:=fun y hy=>(hp y hy).1
 have hy64:=sizes64 hy
 refine Ev.rounds (?_ : Ev (fun k=>gangsawlaw54_LoadingRight.f k s a1 a2 a3 a4 a5 a6 a7 l) true)
 unfold gangsawlaw54_LoadingRight.f
 refine Ev.bind awake_f ?_
 refine Ev.congr (fun k=>by rw [if_pos rfl]) ?_
 by_cases hl : (l.length : Int) > 12
 (exact Ev.congr (fun k=>by rw [if_pos hl]) (Ev.now _))
 ·refine Ev.congr (fun k=>by rw [if_neg hl]) ?_
  refine Ev.bind (ours_f l (by omega)) ?_
  generalize hT : mk24 s a1 a2 a3 a4 a5 a6 a7 = t
  have e0 : s = t.f0:=by rw [← hT]
  have e1 : a1 = t.f1:=by rw [← hT]
  have e2 : a2 = t.f2:=by rw [← hT]
  have e3 : a3 = t.f3:=by rw [← hT]
  have e4 : a4 = t.f4.f0:=by rw [← hT]
  have e5 : a5 = t.f4.f1:=by rw [← hT]
  have e6 : a6 = t.f5.f0:=by rw [← hT]
  have e7 : a7 = t.f5.f1:=by rw [← hT]
  subst e0 e1 e2 e3 e4 e5 e6 e7
  refine Ev.bind (Plan_f t _ hs hy64) ?_
  refine Ev.bind (Best_f t _ hs hy64) ?_
  refine Ev.bind (Alone_f t _ hs hy64) ?_
  generalize hL : l.map o64 = L;rw [hL] at hy64
  have hLl : L.length = l.length:=by rw [← hL,List.length_map]
  refine Ev.congr (fun k=>by rw [check_f t L hs hy64,Option.bind_some]) ?_
  unfold planP bestR aloneR
  by_cases hc : chkR t L = 0
  ·rw [if_pos hc,if_pos hc,if_pos hc];have hg:=(good_iff t L).1 hc
   refine Ev.congr (fun k=>by rw [if_pos hc]) ?_
   cases hq : planR t L.length L with
   | none =>
    have:=plan_none t _ _ hq
    refine Ev.congr (fun k=>by rw [show planV t [] none = ([],9) from rfl,if_neg (by decide : ¬((9 : Int) = 0)),if_pos rfl,if_pos this]) ?_
    exact Ev.now _
   | some ps =>
    have hpl:=plan_of t _ _ ps (Nat.le_refl _) hq;have hv:=plan_verify t L hg hpl;obtain ⟨b0,b1,b2⟩ := lst_plan t hpl;have hpart:=plan_parts t hpl
    have hpn : ps.length ≤ 1000000:=by
     have : ∀ (n : Nat) (m : List S64) (qs : List (List S64)),planR t n m = some qs → qs.length ≤ n:=by
      intro n
      induction n with
      | zero=>intro m qs h;rw [planR] at h;obtain rfl:=Option.some.inj h;exact Nat.le_refl _
      | succ n ih =>
       intro m qs h;rw [planR] at h;by_cases h0 : m.length = 0
       (rw [if_pos h0] at h;obtain rfl:=Option.some.inj h;exact Nat.zero_le _)
       ·rw [if_neg h0] at h;by_cases h1 : down t m m.length = 0
        ·rw [if_pos h1] at h;cases h
        ·rw [if_neg h1] at h
         cases hq : planR t n (m.drop (down t m m.length)) with
         | none=>rw [hq] at h;cases h
         | some rs=>rw [hq] at h;obtain rfl:=Option.some.inj h;have:=ih _ _ hq;simp;omega
     have:=this _ _ _ hq
     omega
    have hver : loading_Verify.f t.f0 t.f1 t.f2 t.f3 t.f4.f0 t.f4.f1 t.f5.f0 t.f5.f1 L (ps.map (trip54 t)) = some 0:=by
     have hsh : shortT (ps.map (trip54 t)) = true:=by
      unfold shortT
      rw [List.all_eq_true];intro x hx;obtain ⟨c,hc',rfl⟩ := List.mem_map.1 hx
      have:=(hpart c hc').1.length_le
      rw [decide_eq_true_iff]
      unfold trip54
      rw [packR_length]
      omega
     have hl2 : (ps.map (trip54 t)).length ≤ 1000000000:=by rw [List.length_map];omega
     unfold loading_Verify.f
     exact (if_pos ⟨hs,List.all_eq_true.2 fun y h=>decide_eq_true (hy64 y h),by omega,hl2,hsh⟩).trans (congrArg some hv)
    have fin : Ev (fun k=>gangsawlaw54_LoadingRight.j0 k L (ps.map (trip54 t)) false t.f0 t.f1 t.f2 t.f3 t.f4.f0 t.f4.f1 t.f5.f0 t.f5.f1) true:=by
     refine Ev.step (f:=fun k=>gangsawlaw54_LoadingRight.l0 k L (ps.map (trip54 t)) ((0 : Nat) : Int) ((0 : Nat) : Int) t.f0 t.f1 t.f2 t.f3 t.f4.f0 t.f4.f1 t.f5.f0 t.f5.f1) (fun k=>by rw [gangsawlaw54_LoadingRight.j0,if_neg (by decide : ¬(false = true))];rfl) ?_
     exact right_l0 t L hg hs hy64 _ (by rw [List.length_map];exact hpn) hpl 0 0 (Nat.zero_le _) rfl (Nat.zero_le _) rfl
    have hpv : planV t [] (some ps) = (ps.map (trip54 t),0):=rfl;rw [hpv]
    refine Ev.congr (fun k=>by rw [if_pos rfl,hver,Option.bind_some,if_pos rfl]) ?_
    have hlm : (ps.map (trip54 t)).length = ps.length:=List.length_map _;by_cases h8 : L.length > 8
    (rw [if_pos h8];exact Ev.congr (fun k=>by rw [if_neg (by decide : ¬((7 : Int) = 0)),if_pos rfl]) fin)
    ·rw [if_neg h8,if_neg (by omega : ¬(lst t L < 0))]
     refine Ev.congr (fun k=>by rw [if_pos rfl,if_neg (by rw [hlm];omega : ¬(lst t L > ((ps.map (trip54 t)).length : Int))),if_neg (by omega : ¬(lst t L < 0))]) ?_
     by_cases h0 : lst t L = 0
     ·have : L.length = 0 := by
       by_cases e : L.length = 0
       (exact e)
       ·have:=b2 e;omega
      exact Ev.congr (fun k=>by rw [if_pos h0,decide_eq_false (by omega : ¬((L.length : Int) > 0))]) fin
     (exact Ev.congr (fun k=>by rw [if_neg h0]) fin)
  ·rw [if_neg hc,if_neg hc,if_neg hc]
   refine Ev.congr (fun k=>by rw [if_neg hc,Option.bind_some,if_pos rfl,if_pos rfl]) ?_
   exact Ev.congr (fun k=>by rw [beq_self_eq_true]) (Ev.now _)
end Go.Proofs.Ytohcgenhhgipcaa.Pure
