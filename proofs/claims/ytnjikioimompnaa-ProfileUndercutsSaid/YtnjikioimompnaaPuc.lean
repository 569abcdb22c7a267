import Derived.Test.YtnjikioimompnaaPAx5
import Derived.Test.YtnjikioimompnaaPAx7
import Derived.Test.YtnjikioimompnaaPub
namespace Go.Proofs.Ytnjikioimompnaa.Pure
open Go.RowKit Go.Proofs.Ytnjikioimompnaa Go.Proofs.Ytnjikioimompnaa.PA Go.Proofs.YtnjikioimompnaaW.PrintWords Go.Proofs.YtnjikioimompnaaW.PrintLast Go.Proofs.YtnjikioimompnaaW.PrintMore
set_option linter.unusedVariables false
set_option linter.unusedSimpArgs false
theorem keyLt_iff (a0 a1 b0 b1 : Int) : keyLt a0 a1 b0 b1 = true ↔ a0 < b0 ∨ (a0 = b0 ∧ a1 < b1):=by unfold keyLt;simp
def kL (k0 k1 : Int → Int → Int) (p q : S31) : Prop:=k0 p.f0 p.f1 < k0 q.f0 q.f1 ∨ (k0 p.f0 p.f1 = k0 q.f0 q.f1 ∧ k1 p.f0 p.f1 < k1 q.f0 q.f1)
theorem kL_trans {k0 k1 : Int → Int → Int} {p q r : S31} (h : kL k0 k1 p q) (g : kL k0 k1 q r) : kL k0 k1 p r:=by unfold kL at *;omega
theorem kL_irr {k0 k1 : Int → Int → Int} {p : S31} (h : kL k0 k1 p p) : False:=by unfold kL at *;omega
theorem ext_step (k0 k1 : Int → Int → Int) (l : List S31) (b i : Nat) : (kL k0 k1 (P l i) (P l b) ∧ extStep k0 k1 l b i = i) ∨ (¬ kL k0 k1 (P l i) (P l b) ∧ extStep k0 k1 l b i = b):=by
  unfold extStep
  by_cases h : kL k0 k1 (P l i) (P l b)
  (exact .inl ⟨h,if_pos ((keyLt_iff _ _ _ _).2 h)⟩);(exact .inr ⟨h,if_neg (fun g=>h ((keyLt_iff _ _ _ _).1 g))⟩)
theorem ext_min (k0 k1 : Int → Int → Int) (l : List S31) : ∀ n,1 ≤ n → extF k0 k1 l n < n ∧ ∀ j,j < n → ¬ kL k0 k1 (P l j) (P l (extF k0 k1 l n)):=by
  intro n
  induction n with
  | zero=>intro h;omega
  | succ n ih =>
    intro _;rw [extF_succ];by_cases hn : n = 0
    · subst hn
      rcases ext_step k0 k1 l (extF k0 k1 l 0) 0 with ⟨h,e⟩|⟨h,e⟩
      (exact absurd h (show ¬ kL k0 k1 (P l 0) (P l 0) from kL_irr));(rw [e];exact ⟨Nat.zero_lt_one,fun j hj=>by rw [show j = 0 from by omega];exact h⟩)
    · obtain ⟨h1,h2⟩ := ih (by omega)
      rcases ext_step k0 k1 l (extF k0 k1 l n) n with ⟨h,e⟩|⟨h,e⟩
      · rw [e]
        refine ⟨by omega,fun j hj g=>?_⟩
        by_cases hj' : j = n
        (subst hj';exact kL_irr g);(exact h2 j (by omega) (kL_trans g h))
      · rw [e]
        refine ⟨by omega,fun j hj g=>?_⟩
        by_cases hj' : j = n
        (subst hj';exact h g);(exact h2 j (by omega) g)
def badAt (l : List S31) (p : Int → Int → Bool) (i : Nat) : Prop:=p (wrap64 ((P l (nx l i)).f0 - (P l i).f0)) (wrap64 ((P l (nx l i)).f1 - (P l i).f1)) = true
def UncS (l : List S31) (p : Int → Int → Bool) (s m : Nat) (r : Int) : Prop :=
  (r = -1 ∧ ∀ j,j < m → ¬ badAt l p ((s + j) % l.length)) ∨ ∃ j,j < m ∧ r = (((s + j) % l.length : Nat) : Int) ∧ badAt l p ((s + j) % l.length) ∧ ∀ j',j' < j → ¬ badAt l p ((s + j') % l.length)
theorem mod_next {n s j : Nat} : ((s + 1) % n + j) % n = (s + (j + 1)) % n:=by rw [Nat.mod_add_mod];congr 1;omega
theorem steps_next {n s e m : Nat} (hs : s < n) (he : e < n) (h : (e + n - s) % n = m + 1) : s ≠ e ∧ (e + n - (s + 1) % n) % n = m:=by
  have hne : s ≠ e:=by rintro rfl;rw [show s + n - s = n from by omega,Nat.mod_self] at h;omega
  refine ⟨hne, ?_⟩
  by_cases h1 : s < e
  · have e1 : (e + n - s) % n = e - s:=by rw [show e + n - s = e - s + n from by omega,Nat.add_mod_right,Nat.mod_eq_of_lt (by omega)]
    rw [Nat.mod_eq_of_lt (show s + 1 < n from by omega),show e + n - (s + 1) = e - s - 1 + n from by omega,Nat.add_mod_right,Nat.mod_eq_of_lt (by omega)]
    omega
  · have e1 : (e + n - s) % n = e + n - s:=Nat.mod_eq_of_lt (by omega);by_cases h2 : s + 1 = n
    · rw [h2,Nat.mod_self,Nat.sub_zero,Nat.add_mod_right,Nat.mod_eq_of_lt he];omega
    · rw [Nat.mod_eq_of_lt (show s + 1 < n from by omega),Nat.mod_eq_of_lt (by omega)];omega
theorem unc_spec (l : List S31) (e : Nat) (p : Int → Int → Bool) (he : e < l.length) : ∀ m s : Nat,s < l.length → (e + l.length - s) % l.length = m → ∃ r,Ev (fun k=>uncL l e p k s) r ∧ UncS l p s m r:=by
  intro m
  induction m with
  | zero =>
    intro s hs hm
    have hse : s = e:=by
      by_cases h : s ≤ e
      · rw [show e + l.length - s = e - s + l.length from by omega,Nat.add_mod_right,Nat.mod_eq_of_lt (by omega)] at hm;omega
      · rw [Nat.mod_eq_of_lt (by omega)] at hm;omega
    refine ⟨-1,Ev.step (f:=fun _=>some (-1)) (fun k=>?_) (Ev.now _),.inl ⟨rfl,fun j hj=>by omega⟩⟩
    simp only [uncL];rw [if_pos hse]
  | succ m ih =>
    intro s hs hm;obtain ⟨hne,hm'⟩ := steps_next hs he hm
    have es : (s + 0) % l.length = s:=by rw [Nat.add_zero,Nat.mod_eq_of_lt hs]
    by_cases hb : badAt l p s
    · refine ⟨(s : Int),Ev.step (f:=fun _=>some (s : Int)) (fun k=>?_) (Ev.now _),.inr ⟨0,by omega,by rw [es],by rw [es];exact hb,fun j' hj=>by omega⟩⟩
      simp only [uncL];rw [if_neg hne];exact if_pos hb
    · obtain ⟨r,hr,hS⟩ := ih ((s + 1) % l.length) (Nat.mod_lt _ (by omega)) hm'
      refine ⟨r,Ev.step (fun k=>?_) hr, ?_⟩
      (simp only [uncL];rw [if_neg hne];exact if_neg hb)
      · have first : ∀ j, (∀ i, i + 1 < j + 1 → ¬ badAt l p (((s + 1) % l.length + i) % l.length)) → ∀ i, i < j + 1 → ¬ badAt l p ((s + i) % l.length) := by
          intro j h i hi;by_cases h0 : i = 0
          (subst h0;rw [es];exact hb)
          · have:=h (i - 1) (by omega)
            rw [mod_next,show i - 1 + 1 = i from by omega] at this;exact this
        rcases hS with ⟨rfl,h⟩|⟨j,hj,rfl,h1,h2⟩
        (exact .inl ⟨rfl,first m (fun i hi=>h i (by omega))⟩)
        · refine .inr ⟨j + 1,by omega, ?_, ?_,first j (fun i hi=>h2 i (by omega))⟩
          (rw [mod_next]);(rw [mod_next] at h1;exact h1)
def frm (l : List S31) : Nat → Nat
  | 0=>extF k61_0 k61_1 l l.length
  | 1=>extF k64_0 k64_1 l l.length
  | 2=>extF k67_0 k67_1 l l.length
  | _=>extF k70_0 k70_1 l l.length
def tow (l : List S31) : Nat → Nat
  | 0=>extF k62_0 k62_1 l l.length
  | 1=>extF k65_0 k65_1 l l.length
  | 2=>extF k68_0 k68_1 l l.length
  | _=>extF k71_0 k71_1 l l.length
def bdd : Nat → Int → Int → Bool
  | 0=>b63
  | 1=>b66
  | 2=>b69
  | _=>b72
def stp (l : List S31) (d : Nat) : Nat:=(tow l d + l.length - frm l d) % l.length
def UndS (l : List S31) (d : Nat) (r : Int) : Prop:=UncS l (bdd d) (frm l d) (stp l d) r
theorem und_f (l : List S31) (h : 0 < l.length) (hl : l.length ≤ 1000) (d : Nat) (hd : d < 4) : ∃ r,Ev (fun k=>profile_undercut.f k l (d : Int)) r ∧ UndS l d r:=by
  have hf : frm l d < l.length ∧ tow l d < l.length:=by
    rcases (show d = 0 ∨ d = 1 ∨ d = 2 ∨ d = 3 by omega) with rfl|rfl|rfl|rfl <;> exact ⟨(ext_min _ _ l _ h).1,(ext_min _ _ l _ h).1⟩
  obtain ⟨r,hr,hS⟩ := unc_spec l (tow l d) (bdd d) hf.2 (stp l d) (frm l d) hf.1 rfl
  refine ⟨r,Ev.congr (fun k=>?_) hr,hS⟩
  unfold profile_undercut.f
  rw [if_pos ⟨h,by omega⟩]
  rcases (show d = 0 ∨ d = 1 ∨ d = 2 ∨ d = 3 by omega) with rfl|rfl|rfl|rfl <;> rfl
def noUnd (l : List S31) (d : Nat) : Prop := ∀ j,j < stp l d → ¬ badAt l (bdd d) ((frm l d + j) % l.length)
theorem UndS.neg {l : List S31} {d : Nat} {r : Int} (h : UndS l d r) : (r < 0 ↔ noUnd l d) ∧ (r < 0 → r = -1):=by
  rcases h with ⟨rfl,h⟩|⟨j,hj,rfl,h1,_⟩
  (exact ⟨⟨fun _=>h,fun _=>by omega⟩,fun _=>rfl⟩);(exact ⟨⟨fun h=>by omega,fun h=>absurd h1 (h j hj)⟩,fun h=>by omega⟩)
open Classical in
theorem Undercut_f (nm : ByteArray) (l : List S31) (hnm : nm.size ≤ 1000000) (h0 : chk nm l = 0) (d : Nat) (hd : d < 4) : ∃ r,UndS l d r ∧ Ev (fun k=>profile_Undercut.f k nm l (d : Int)) (if noUnd l d then (0,9) else (r,0)):=by
  have hv:=(chk_zero.1 h0).2;obtain ⟨r,hr,hS⟩ := und_f l (by have:=hv.lo;omega) (by have:=hv.hi;omega) d hd
  refine ⟨r,hS, ?_⟩
  unfold profile_Undercut.f sides_c.f
  refine Ev.bind (check_f nm l hnm) (Ev.congr (fun k=>by rw [if_pos h0,if_neg (by omega)]) ?_)
  refine Ev.step (f:=fun k=>(profile_undercut.f k l (d : Int)).bind fun t=>if t < 0 then some (0,9) else some (t,0)) (fun k=>?_) (Ev.bind hr ?_)
  (simp only [profile_Undercut.j0];rw [if_neg (by simp;omega)];rfl)
  · by_cases e : noUnd l d
    (rw [if_pos e];exact Ev.congr (fun k=>if_pos (hS.neg.1.2 e)) (Ev.now _));(rw [if_neg e];exact Ev.congr (fun k=>if_neg (fun g=>e (hS.neg.1.1 g))) (Ev.now _))
theorem Undercut_e (nm : ByteArray) (l : List S31) (hnm : nm.size ≤ 1000000) (h0 : chk nm l ≠ 0) (d : Int) : Ev (fun k=>profile_Undercut.f k nm l d) (0,chk nm l):=by
  unfold profile_Undercut.f
  exact Ev.bind (check_f nm l hnm) (Ev.congr (fun k=>if_neg h0) (Ev.now _))
open Classical in
noncomputable def dirs (l : List S31) (d : Nat) : Nat → List Int
  | 0=>[]
  | m + 1=>if noUnd l d then (d : Int) :: dirs l (d + 1) m else dirs l (d + 1) m
theorem dirs_l (nm : ByteArray) (l : List S31) (h : 0 < l.length) (hl : l.length ≤ 1000) : ∀ m d : Nat,d + m = 4 → ∀ acc : List Int,acc.length ≤ d → Ev (fun k=>profile_Directions.l0 k acc (d : Int) nm l) (acc ++ dirs l d m,0):=by
  intro m
  induction m with
  | zero =>
    intro d hd acc hacc
    refine Ev.step (f:=fun _=>some (acc ++ dirs l d 0,0)) (fun k=>?_) (Ev.now _)
    simp only [profile_Directions.l0];rw [if_neg (by omega)]
    simp [dirs]
  | succ m ih =>
    intro d hd acc hacc;obtain ⟨r,hr,hS⟩ := und_f l h hl d (by omega)
    refine Ev.step (f:=fun k=>(profile_undercut.f k l (d : Int)).bind fun t=>if t < 0 then profile_Directions.l0 k (acc ++ [(d : Int)]) ((d + 1 : Nat) : Int) nm l else profile_Directions.l0 k acc ((d + 1 : Nat) : Int) nm l) (fun k=>?_) (Ev.bind hr ?_)
    (simp only [profile_Directions.l0];rw [if_pos (by omega),w1 (by omega),if_pos (by omega)])
    · unfold dirs
      by_cases e : noUnd l d
      · rw [if_pos e]
        refine Ev.congr (fun k=>if_pos (hS.neg.1.2 e)) ?_
        have:=ih (d + 1) (by omega) (acc ++ [(d : Int)]) (by simp;omega)
        rw [List.append_assoc] at this;exact this
      (rw [if_neg e];exact Ev.congr (fun k=>if_neg (fun g=>e (hS.neg.1.1 g))) (ih (d + 1) (by omega) acc (by omega)))
theorem Directions_f (nm : ByteArray) (l : List S31) (hnm : nm.size ≤ 1000000) (h0 : chk nm l = 0) : Ev (fun k=>profile_Directions.f k nm l) (dirs l 0 4,0):=by
  have hv:=(chk_zero.1 h0).2
  unfold profile_Directions.f sides_c.f
  refine Ev.bind (check_f nm l hnm) (Ev.congr (fun k=>by rw [if_pos h0]) ?_)
  exact dirs_l nm l (by have:=hv.lo;omega) (by have:=hv.hi;omega) 4 0 rfl [] (by simp)
theorem Directions_e (nm : ByteArray) (l : List S31) (hnm : nm.size ≤ 1000000) (h0 : chk nm l ≠ 0) : Ev (fun k=>profile_Directions.f k nm l) ([],chk nm l):=by
  unfold profile_Directions.f
  exact Ev.bind (check_f nm l hnm) (Ev.congr (fun k=>if_neg h0) (Ev.now _))
structure Box (l : List S31) (lx ly hx hy : Int) : Prop where
  all : ∀ i,i < l.length → (lx ≤ (P l i).f0 ∧ (P l i).f0 ≤ hx) ∧ (ly ≤ (P l i).f1 ∧ (P l i).f1 ≤ hy)
  lx_ : ∃ i,i < l.length ∧ (P l i).f0 = lx
  ly_ : ∃ i,i < l.length ∧ (P l i).f1 = ly
  hx_ : ∃ i,i < l.length ∧ (P l i).f0 = hx
  hy_ : ∃ i,i < l.length ∧ (P l i).f1 = hy
theorem mn_c (a b : Int) : mn a b ≤ a ∧ mn a b ≤ b ∧ (mn a b = a ∨ mn a b = b):=by unfold mn;split <;> omega
theorem mx_c (a b : Int) : a ≤ mx a b ∧ b ≤ mx a b ∧ (mx a b = a ∨ mx a b = b):=by unfold mx;split <;> omega
structure BoxI (l : List S31) (i : Nat) (lx ly hx hy : Int) : Prop where
  all : ∀ j,j < i → (lx ≤ (P l j).f0 ∧ (P l j).f0 ≤ hx) ∧ (ly ≤ (P l j).f1 ∧ (P l j).f1 ≤ hy)
  lx_ : ∃ j,j < l.length ∧ (P l j).f0 = lx
  ly_ : ∃ j,j < l.length ∧ (P l j).f1 = ly
  hx_ : ∃ j,j < l.length ∧ (P l j).f0 = hx
  hy_ : ∃ j,j < l.length ∧ (P l j).f1 = hy
theorem bounds_l (l : List S31) (hl : l.length ≤ 1000) : ∀ d i : Nat,i + d = l.length → ∀ lx ly hx hy,BoxI l i lx ly hx hy → ∃ lx' ly' hx' hy',Ev (fun k=>profile_bounds.l0 k l (l.length : Int) (i : Int) lx ly hx hy) (lx',ly',wrap64 (hx' - lx'),wrap64 (hy' - ly')) ∧ Box l lx' ly' hx' hy':=by
  intro d
  induction d with
  | zero =>
    intro i hi lx ly hx hy h
    refine ⟨lx,ly,hx,hy,Ev.step (f:=fun _=>some (lx,ly,wrap64 (hx - lx),wrap64 (hy - ly))) (fun k=>?_) (Ev.now _),⟨fun j hj=>h.all j (by omega),h.lx_,h.ly_,h.hx_,h.hy_⟩⟩
    simp only [profile_bounds.l0];rw [if_neg (by omega)]
  | succ d ih =>
    intro i hi lx ly hx hy h;have m1:=mn_c lx (P l i).f0;have m2:=mn_c ly (P l i).f1;have m3:=mx_c hx (P l i).f0;have m4:=mx_c hy (P l i).f1
    have pick : ∀ {f : S31 → Int} {a b : Int},(∃ j,j < l.length ∧ f (P l j) = a) → f (P l i) = b → ∀ c,(c = a ∨ c = b) → ∃ j,j < l.length ∧ f (P l j) = c:=by
      rintro f a b h1 h2 c (rfl|rfl);(exact h1);(exact ⟨i,by omega,h2⟩)
    obtain ⟨lx',ly',hx',hy',hE,hB⟩ := ih (i + 1) (by omega) (mn lx (P l i).f0) (mn ly (P l i).f1) (mx hx (P l i).f0) (mx hy (P l i).f1)
      ⟨fun j hj=>by
        by_cases e : j = i
        · subst e;omega
        · have:=h.all j (by omega);omega,
       pick (f:=S31.f0) h.lx_ rfl _ m1.2.2,pick (f:=S31.f1) h.ly_ rfl _ m2.2.2,pick (f:=S31.f0) h.hx_ rfl _ m3.2.2,pick (f:=S31.f1) h.hy_ rfl _ m4.2.2⟩
    refine ⟨lx',ly',hx',hy',Ev.step (fun k=>?_) hE,hB⟩
    simp only [profile_bounds.l0];rw [if_pos (by omega),if_pos (by omega),if_pos (by omega),w1 (by omega),rd_P]
theorem bounds_f (l : List S31) (h : 0 < l.length) (hl : l.length ≤ 1000) : ∃ lx ly hx hy,Ev (fun k=>profile_bounds.f k l) (lx,ly,wrap64 (hx - lx),wrap64 (hy - ly)) ∧ Box l lx ly hx hy:=by
  obtain ⟨lx,ly,hx,hy,hE,hB⟩ := bounds_l l hl l.length 0 (by simp) (P l 0).f0 (P l 0).f1 (P l 0).f0 (P l 0).f1 ⟨fun j hj=>by omega,⟨0,h,rfl⟩,⟨0,h,rfl⟩,⟨0,h,rfl⟩,⟨0,h,rfl⟩⟩
  refine ⟨lx,ly,hx,hy,Ev.congr (fun k=>?_) hE,hB⟩
  unfold profile_bounds.f
  rw [if_pos (by omega)];rfl
theorem Box.uniq {l : List S31} {a b c d a' b' c' d' : Int} (h : Box l a b c d) (g : Box l a' b' c' d') : a = a' ∧ b = b' ∧ c = c' ∧ d = d':=by
  obtain ⟨⟨i1,p1,q1⟩,⟨i2,p2,q2⟩,⟨i3,p3,q3⟩,⟨i4,p4,q4⟩⟩ := And.intro h.lx_ (And.intro h.ly_ (And.intro h.hx_ h.hy_));obtain ⟨⟨j1,r1,s1⟩,⟨j2,r2,s2⟩,⟨j3,r3,s3⟩,⟨j4,r4,s4⟩⟩ := And.intro g.lx_ (And.intro g.ly_ (And.intro g.hx_ g.hy_));have a1:=g.all i1 p1;have a2:=g.all i2 p2;have a3:=g.all i3 p3;have a4:=g.all i4 p4;have b1:=h.all j1 r1;have b2:=h.all j2 r2;have b3:=h.all j3 r3;have b4:=h.all j4 r4
  omega
theorem Bounds_f (nm : ByteArray) (l : List S31) (hnm : nm.size ≤ 1000000) (h0 : chk nm l = 0) {lx ly hx hy : Int} (hB : Box l lx ly hx hy) : Ev (fun k=>profile_Bounds.f k nm l) (lx,ly,hx - lx,hy - ly,0):=by
  have hv:=(chk_zero.1 h0).2;obtain ⟨a,b,c,d,hE,hb⟩ := bounds_f l (by have:=hv.lo;omega) (by have:=hv.hi;omega);obtain ⟨rfl,rfl,rfl,rfl⟩ := hb.uniq hB;obtain ⟨⟨i1,p1,q1⟩,⟨i2,p2,q2⟩,⟨i3,p3,q3⟩,⟨i4,p4,q4⟩⟩ := And.intro hB.lx_ (And.intro hB.ly_ (And.intro hB.hx_ hB.hy_));have n1:=hv.near.at p1;have n2:=hv.near.at p2;have n3:=hv.near.at p3;have n4:=hv.near.at p4
  unfold near at n1 n2 n3 n4
  rw [w64 (n:=c - a) (by omega) (by omega),w64 (n:=d - b) (by omega) (by omega)] at hE
  unfold profile_Bounds.f
  exact Ev.bind (check_f nm l hnm) (Ev.congr (fun k=>if_pos h0) (Ev.bind hE (Ev.now _)))
theorem Bounds_e (nm : ByteArray) (l : List S31) (hnm : nm.size ≤ 1000000) (h0 : chk nm l ≠ 0) : Ev (fun k=>profile_Bounds.f k nm l) (0,0,0,0,chk nm l):=by
  unfold profile_Bounds.f
  exact Ev.bind (check_f nm l hnm) (Ev.congr (fun k=>if_neg h0) (Ev.now _))
theorem Area_f (nm : ByteArray) (l : List S31) (hnm : nm.size ≤ 1000000) (h0 : chk nm l = 0) : Ev (fun k=>profile_Area.f k nm l) (area l,0):=by
  have hv:=(chk_zero.1 h0).2
  unfold profile_Area.f
  exact Ev.bind (check_f nm l hnm) (Ev.congr (fun k=>if_pos h0) (Ev.bind (area_f hv.near (by have:=hv.hi;omega)) (Ev.now _)))
theorem Area_e (nm : ByteArray) (l : List S31) (hnm : nm.size ≤ 1000000) (h0 : chk nm l ≠ 0) : Ev (fun k=>profile_Area.f k nm l) (0,chk nm l):=by
  unfold profile_Area.f
  exact Ev.bind (check_f nm l hnm) (Ev.congr (fun k=>if_neg h0) (Ev.now _))
end Go.Proofs.Ytnjikioimompnaa.Pure
