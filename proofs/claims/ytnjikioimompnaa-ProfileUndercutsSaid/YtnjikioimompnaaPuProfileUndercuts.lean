import Derived.Test.YtnjikioimompnaaOp
import Derived.Test.YtnjikioimompnaaPAx19
import Derived.Test.YtnjikioimompnaaPuh
import Derived.Test.YtnjikioimompnaaPuq
namespace Go.Proofs.Ytnjikioimompnaa.Pure
open Go.RowKit Go.Proofs.Ytnjikioimompnaa Go.Proofs.Ytnjikioimompnaa.PA Go.Proofs.YtnjikioimompnaaW.PrintWords Go.Proofs.YtnjikioimompnaaW.PrintLast Go.Proofs.YtnjikioimompnaaW.PrintMore
set_option linter.unusedVariables false
set_option linter.unusedSimpArgs false
def sbf (d : Nat) (e : Bool) (p q : S31) : Prop:=if e = true then tbf d p q else fbf d p q
theorem lead_f {d : Nat} (hd : d < 4) (e : Bool) {p : S31} (hp : near p) : Ev (fun k=>gangsawref39_lead.f k p.f0 p.f1 (d : Int) e) ((if e = true then hgt d p else - hgt d p),- wid d p):=by
 unfold near at hp
 have n1 : wrap64 (-p.f0) = -p.f0:=w64 (by omega) (by omega);have n2 : wrap64 (-p.f1) = -p.f1:=w64 (by omega) (by omega);have m1 : wrap64 (-1 : Int) = -1:=w64 (by decide) (by decide);have m2 : wrap64 (- -1 : Int) = 1:=w64 (by decide) (by decide);have m5 : wrap64 (1 : Int) = 1:=w64 (by decide) (by decide);have m3 : wrap64 p.f0 = p.f0:=w64 (by omega) (by omega);have m4 : wrap64 p.f1 = p.f1:=w64 (by omega) (by omega)
 unfold gangsawref39_lead.f
 have j : ∀ s : Int,(s = 1 ∨ s = -1) → Ev (fun k=>gangsawref39_lead.j0 k (d : Int) s p.f0 p.f1) ((if s = -1 then hgt d p else - hgt d p),- wid d p):=by
  intro s hs
  refine Ev.step (f:=fun _=>some ((if s = -1 then hgt d p else - hgt d p),- wid d p)) (fun k=>?_) (Ev.now _)
  simp only [gangsawref39_lead.j0]
  rcases hs with rfl|rfl <;> rcases cases4 hd with rfl|rfl|rfl|rfl <;> simp [hgt,wid,n1,n2,m1,m2,m3,m4,m5]
 cases e with
 | true=>exact Ev.congr (fun k=>if_pos rfl) (j (-1) (.inr rfl))
 | false=>exact Ev.congr (fun k=>if_neg (by simp)) (j 1 (.inl rfl))
theorem sbf_iff (d : Nat) (e : Bool) (p q : S31) : sbf d e p q ↔ ((if e = true then hgt d p else - hgt d p) > (if e = true then hgt d q else - hgt d q)) ∨ ((if e = true then hgt d p else - hgt d p) = (if e = true then hgt d q else - hgt d q) ∧ - wid d p > - wid d q):=by
 unfold sbf fbf tbf
 cases e <;> simp <;> omega
theorem sbf_trans {d : Nat} {e : Bool} {p q r : S31} (h : sbf d e p q) (g : sbf d e q r) : sbf d e p r:=by
 unfold sbf fbf tbf at *
 cases e <;> simp at * <;> omega
theorem sbf_irr {d : Nat} {e : Bool} {p : S31} (h : sbf d e p p) : False:=by
 unfold sbf fbf tbf at *
 cases e <;> simp at *
theorem rExt_l {l : List S31} (hN : Near l) (hl : l.length ≤ 1000) {d : Nat} (hd : d < 4) (e : Bool) : ∀ m i b : Nat,i + m = l.length → b < i → (∀ j,j < i → ¬ sbf d e (P l j) (P l b)) → ∃ r : Nat,r < l.length ∧ Ev (fun k=>gangsawref39_extreme.l0 k l (d : Int) e (b : Int) (i : Int)) (r : Int) ∧ ∀ j,j < l.length → ¬ sbf d e (P l j) (P l r):=by
 intro m
 induction m with
 | zero =>
  intro i b hi hb hm
  refine ⟨b,by omega,Ev.step (f:=fun _=>some (b : Int)) (fun k=>?_) (Ev.now _),fun j hj=>hm j (by omega)⟩
  simp only [gangsawref39_extreme.l0];rw [if_neg (by omega)]
 | succ m ih =>
  intro i b hi hb hm;have L1:=lead_f hd e (hN.at (i:=i) (by omega));have L2:=lead_f hd e (hN.at (i:=b) (by omega));have s:=sbf_iff d e (P l i) (P l b)
  obtain ⟨x0,hx0⟩ : ∃ x,x = (if e = true then hgt d (P l i) else - hgt d (P l i)):=⟨_,rfl⟩
  obtain ⟨y0,hy0⟩ : ∃ x,x = (if e = true then hgt d (P l b) else - hgt d (P l b)):=⟨_,rfl⟩
  rw [← hx0] at L1 s;rw [← hy0] at L2 s
  have full : ∀ t : Nat,t = (if x0 > y0 ∨ (x0 = y0 ∧ -wid d (P l i) > -wid d (P l b)) then i else b) → ∀ r : Int,Ev (fun k=>gangsawref39_extreme.l0 k l (d : Int) e (t : Int) ((i + 1 : Nat) : Int)) r → Ev (fun k=>gangsawref39_extreme.l0 k l (d : Int) e (b : Int) (i : Int)) r:=by
   intro t ht r hr
   refine Ev.step (f:=fun k=>(gangsawref39_lead.f k (P l i).f0 (P l i).f1 (d : Int) e).bind fun bt474=>(gangsawref39_lead.f k (P l b).f0 (P l b).f1 (d : Int) e).bind fun bt477=>(if bt474.1 > bt477.1 then (gangsawref39_extreme.l0 k l (d : Int) e (i : Int) ((i + 1 : Nat) : Int)) else (if bt474.1 = bt477.1 then (if bt474.2 > bt477.2 then (gangsawref39_extreme.l0 k l (d : Int) e (i : Int) ((i + 1 : Nat) : Int)) else (gangsawref39_extreme.l0 k l (d : Int) e (b : Int) ((i + 1 : Nat) : Int))) else (gangsawref39_extreme.l0 k l (d : Int) e (b : Int) ((i + 1 : Nat) : Int))))) (fun k=>?_) (Ev.bind L1 (Ev.bind L2 (Ev.congr (fun k=>?_) hr)))
   ·simp only [gangsawref39_extreme.l0]
    have c1 : (0 : Int) ≤ (b : Int):=by omega
    have c2 : (b : Int) < (l.length : Int):=by omega
    rw [if_pos (by omega),if_pos (by omega)];simp only [c1,c2,if_true];rw [rd_P,rd_P,w1 (by omega)]
   ·subst ht
    show (if x0 > y0 then _ else if x0 = y0 then (if -wid d (P l i) > -wid d (P l b) then _ else _) else _) = _
    by_cases c1 : x0 > y0
    (rw [if_pos c1,if_pos (.inl c1)])
    ·by_cases c2 : x0 = y0
     ·by_cases c3 : -wid d (P l i) > -wid d (P l b)
      (rw [if_neg c1,if_pos c2,if_pos c3,if_pos (.inr ⟨c2,c3⟩)]);(rw [if_neg c1,if_pos c2,if_neg c3,if_neg (by omega)])
     (rw [if_neg c1,if_neg c2,if_neg (by omega)])
  by_cases c : sbf d e (P l i) (P l b)
  ·obtain ⟨r, r1, r2, r3⟩ := ih (i + 1) i (by omega) (by omega) (fun j hj g => by
    by_cases q : j = i
    (subst q;exact sbf_irr g)
    ·exact hm j (by omega) (sbf_trans g c))
   exact ⟨r,r1,full i (by rw [if_pos (s.1 c)]) _ r2,r3⟩
  ·obtain ⟨r, r1, r2, r3⟩ := ih (i + 1) b (by omega) (by omega) (fun j hj g => by
    by_cases q : j = i
    (subst q;exact c g)
    ·exact hm j (by omega) g)
   exact ⟨r,r1,full b (by rw [if_neg (fun g=>c (s.2 g))]) _ r2,r3⟩
theorem rExt_f {l : List S31} (hv : Valid l) {d : Nat} (hd : d < 4) (e : Bool) : Ev (fun k=>gangsawref39_extreme.f k l (d : Int) e) ((if e = true then tow l d else frm l d : Nat) : Int):=by
 have lo:=hv.lo;have hi:=hv.hi;obtain ⟨r,r1,r2,r3⟩ := rExt_l hv.near (by omega) hd e (l.length - 1) 1 0 (by omega) (by omega) (fun j hj g=>by rw [show j = 0 by omega] at g;exact sbf_irr g)
 have er : r = (if e = true then tow l d else frm l d):=by
  cases e with
  | true=>rw [if_pos rfl];exact (tow_uniq hv hd r1 (fun j hj g=>r3 j hj g)).symm
  | false=>rw [if_neg (by simp)];exact (frm_uniq hv hd r1 (fun j hj g=>r3 j hj g)).symm
 rw [← er];exact r2
theorem prevents_f {l : List S31} (hN : Near l) {d : Nat} (hd : d < 4) {i : Nat} (hi : i < l.length) : gangsawref39_prevents.f (P l i).f0 (P l i).f1 (P l (nx l i)).f0 (P l (nx l i)).f1 (d : Int) = some (bdd d (wrap64 ((P l (nx l i)).f0 - (P l i).f0)) (wrap64 ((P l (nx l i)).f1 - (P l i).f1))):=by
 have a:=hN.at hi;have b:=hN.at (nx_lt (l:=l) (by omega) i)
 unfold near at a b
 rw [w64 (by omega) (by omega),w64 (by omega) (by omega)]
 unfold gangsawref39_prevents.f
 rcases cases4 hd with rfl|rfl|rfl|rfl <;> simp [bdd,b63,b66,b69,b72] <;> (try rw [Bool.eq_iff_iff]) <;> (try simp) <;> omega
theorem rUnd_l {l : List S31} (hN : Near l) (hl : l.length < 1000) {d : Nat} (hd : d < 4) (e : Nat) : ∀ (k i : Nat),i < l.length → gangsawref39_Undercut.l0 k l (d : Int) (e : Int) (i : Int) = uncL l e (bdd d) k i:=by
 intro k
 induction k with
 | zero=>intro i hi;rfl
 | succ k ih =>
  intro i hi;have hn:=nx_lt (l:=l) (by omega) i;simp only [gangsawref39_Undercut.l0,uncL];by_cases c : i = e
  (rw [if_pos c,if_pos (show (i : Int) = (e : Int) by omega)])
  ·have c1 : (0 : Int) ≤ (i : Int):=by omega
   have c2 : (i : Int) < (l.length : Int):=by omega
   have c3 : ¬ (l.length : Int) = 0:=by omega
   have c4 : (0 : Int) ≤ (nx l i : Int):=by omega
   have c5 : (nx l i : Int) < (l.length : Int):=by omega
   rw [if_neg c,if_neg (show ¬ (i : Int) = (e : Int) by omega),tm1 (by omega) hi,if_pos c1,if_pos c2,if_neg c3,if_pos c4,if_pos c5,rd_P,rd_P,prevents_f hN hd hi];simp only [Option.bind_some];rw [ih _ hn];rfl
theorem und_eq {l : List S31} (h : 0 < l.length) (hl : l.length ≤ 1000000) {d : Nat} (hd : d < 4) (k : Nat) : profile_undercut.f k l (d : Int) = uncL l (tow l d) (bdd d) k (frm l d):=by
 unfold profile_undercut.f
 rw [if_pos ⟨h,hl⟩]
 rcases cases4 hd with rfl|rfl|rfl|rfl <;> rfl
theorem rUnd_f {l : List S31} (hv : Valid l) {d : Nat} (hd : d < 4) {r : Int} (hr : Ev (fun k=>profile_undercut.f k l (d : Int)) r) : Ev (fun k=>gangsawref39_Undercut.f k l (d : Int)) r:=by
 have lo:=hv.lo;have hi:=hv.hi;have f0:=(frm_min hv.near (by omega) hd).1
 unfold gangsawref39_Undercut.f
 refine Ev.bind (rExt_f hv hd true) (Ev.bind (rExt_f hv hd false) (Ev.congr (fun k=>?_) hr))
 rw [und_eq (by omega) (by omega) hd];exact rUnd_l hv.near (by omega) hd _ k _ f0
theorem Undercut_r (nm : ByteArray) (l : List S31) (hnm : nm.size ≤ 1000000) (h0 : chk nm l = 0) (d : Int) (hd : d < 0 ∨ 3 < d) : Ev (fun k=>profile_Undercut.f k nm l d) (0,6):=by
 unfold profile_Undercut.f sides_c.f
 have bad : Ev (fun k=>profile_Undercut.j0 k d true nm l) (0,6):=Ev.step (f:=fun _=>some (0,6)) (fun k=>by simp only [profile_Undercut.j0];rfl) (Ev.now _)
 refine Ev.bind (check_f nm l hnm) (Ev.congr (fun k=>by rw [if_pos h0]) ?_)
 by_cases g : d < 0
 (exact Ev.congr (fun k=>if_pos g) bad)
 ·refine Ev.congr (fun k=>?_) bad
  rw [if_neg g];simp only [Option.bind_some];rw [decide_eq_true (by omega)]
open Classical in
theorem undercuts_l0 {nm : ByteArray} {l : List S31} (hv : Valid l) {x n e : Int} (hJ : Ev (fun k=>gangsawlaw39_ProfileUndercuts.j1 k x n e false nm l) true) {D : List Int} : ∀ m d : Nat,d + m = 4 → ∀ pre : List Int,pre ++ dirs l d m = D → pre.length ≤ d → Ev (fun k=>gangsawlaw39_ProfileUndercuts.l0 k x n e D 0 (pre.length : Int) (d : Int) nm l) true:=by
 intro m
 induction m with
 | zero =>
  intro d hd pre hp hle
  have : pre = D:=by rw [← hp];simp [dirs]
  subst this
  refine Ev.step (fun k=>?_) hJ
  simp only [gangsawlaw39_ProfileUndercuts.l0];rw [if_neg (by omega),if_pos trivial,bne_self_eq_false]
 | succ m ih =>
  intro d hd pre hp hle;obtain ⟨r,hr,hS⟩ := und_f l (by have:=hv.lo;omega) (by have:=hv.hi;omega) d (by omega);have hr':=rUnd_f hv (show d < 4 by omega) hr
  unfold dirs at hp
  by_cases g : noUnd l d
  ·have hneg:=hS.neg.1.2 g;rw [if_pos g] at hp;have H:=ih (d + 1) (by omega) (pre ++ [(d : Int)]) (by rw [List.append_assoc];exact hp) (by simp;omega)
   have hD : pre.length < D.length:=by rw [← hp];simp
   have hrd : rd D (pre.length : Int) = (d : Int):=by
    unfold rd
    rw [← hp]
    simp
   refine Ev.step (f:=fun k=>(gangsawref39_Undercut.f k l (d : Int)).bind fun t496=>(if t496 ≥ 0 then (gangsawlaw39_ProfileUndercuts.l0 k x n e D 0 (pre.length : Int) ((d + 1 : Nat) : Int) nm l) else (gangsawlaw39_ProfileUndercuts.l0 k x n e D 0 (((pre ++ [(d : Int)]).length : Nat) : Int) ((d + 1 : Nat) : Int) nm l))) (fun k=>?_) (Ev.bind hr' (Ev.congr (fun k=>if_neg (by omega)) H))
   simp only [gangsawlaw39_ProfileUndercuts.l0];rw [if_pos (by omega),if_neg (show ¬ (pre.length : Int) ≥ (D.length : Int) by omega),if_pos (show (0 : Int) ≤ (pre.length : Int) by omega),if_pos (show (pre.length : Int) < (D.length : Int) by omega),hrd,if_pos rfl,w1 (by omega),w1 (by omega),List.length_append];rfl
  ·have hnn : r ≥ 0:=by have:=mt hS.neg.1.1 g;omega
   rw [if_neg g] at hp;have H:=ih (d + 1) (by omega) pre hp (by omega)
   refine Ev.step (f:=fun k=>(gangsawref39_Undercut.f k l (d : Int)).bind fun t496=>(if t496 ≥ 0 then (gangsawlaw39_ProfileUndercuts.l0 k x n e D 0 (pre.length : Int) ((d + 1 : Nat) : Int) nm l) else (if (pre.length : Int) ≥ (D.length : Int) then (none) else (if 0 ≤ (pre.length : Int) then (if (pre.length : Int) < (D.length : Int) then (if (rd D (pre.length : Int)) = (d : Int) then (gangsawlaw39_ProfileUndercuts.l0 k x n e D 0 (wrap64 ((pre.length : Int) + 1)) ((d + 1 : Nat) : Int) nm l) else (none)) else (none)) else (none))))) (fun k=>?_) (Ev.bind hr' (Ev.congr (fun k=>if_pos hnn) H))
   simp only [gangsawlaw39_ProfileUndercuts.l0];rw [if_pos (by omega),w1 (n:=d) (by omega)]
open Classical in
theorem ProfileUndercuts (nm : ByteArray) (l : List S31) (x : Int) (_ : nm.size ≤ maxLen) (_ : l.length ≤ maxLen) (_ : ∀ p ∈ l,Rng p.f0 ∧ Rng p.f1) (_ : Rng x) : ∃ k,gangsawlaw39_ProfileUndercuts.f k nm l x = some true:=by
 have key : Ev (fun k=>gangsawlaw39_ProfileUndercuts.f k nm l x) true:=by
  unfold gangsawlaw39_ProfileUndercuts.f
  refine Ev.bind awake_f (Ev.congr (fun k=>if_pos rfl) ?_)
  rcases short_f nm l with g|⟨g,hl,hs⟩
  (rw [g];exact Ev.congr (fun k=>by simp only [Option.bind_some];rw [if_neg (by simp)]) (Ev.now _))
  ·rw [g]
   refine Ev.congr (fun k=>by simp only [Option.bind_some];rw [if_pos trivial]) ?_
   have hnm : nm.size ≤ 1000000:=by omega
   by_cases h0 : chk nm l = 0
   ·have hv:=(chk_zero.1 h0).2;have lo:=hv.lo;have hi:=hv.hi
    obtain ⟨n,e,hU,hJ2⟩ : ∃ n e,Ev (fun k=>profile_Undercut.f k nm l x) (n,e) ∧ Ev (fun k=>gangsawlaw39_ProfileUndercuts.j2 k x n e (decide (x < 0 ∨ 3 < x)) nm l) true:=by
     by_cases c : x < 0 ∨ 3 < x
     ·refine ⟨0,6,Undercut_r nm l hnm h0 x c,Ev.step (f:=fun _=>some true) (fun k=>?_) (Ev.now _)⟩
      simp only [gangsawlaw39_ProfileUndercuts.j2];rw [if_pos (decide_eq_true c),if_pos trivial];rfl
     ·obtain ⟨d,rfl⟩ : ∃ d : Nat,x = d:=⟨x.toNat,by omega⟩
      have hd : d < 4:=by omega
      obtain ⟨r,hr,hS⟩ := und_f l (by omega) (by omega) d hd;obtain ⟨r',hS',hU⟩ := Undercut_f nm l hnm h0 d hd;have hr2:=rUnd_f hv hd hr
      have er : r' = r:=by
       unfold UndS UncS at hS hS'
       rcases hS with ⟨a,b⟩|⟨j,j1,j2,j3,j4⟩ <;> rcases hS' with ⟨a',b'⟩|⟨j',j1',j2',j3',j4'⟩
       ·omega
       (exact absurd j3' (b j' j1'));(exact absurd j3 (b' j j1))
       ·have : j = j' := by
         rcases Nat.lt_trichotomy j j' with q|q|q
         (exact absurd j3 (j4' j q));(exact q);(exact absurd j3' (j4 j' q))
        subst this
        omega
      subst er;by_cases q : noUnd l d
      ·rw [if_pos q] at hU;have hneg:=hS.neg.1.2 q
       refine ⟨0,9,hU,Ev.step (f:=fun k=>(gangsawref39_Undercut.f k l (d : Int)).bind fun t498=>(if t498 < 0 then (if (9 : Int) = 9 then (some ((0 : Int) == 0)) else (none)) else (if (9 : Int) = 0 then (some ((0 : Int) == t498)) else (none)))) (fun k=>?_) (Ev.bind hr2 (Ev.congr (fun k=>by rw [if_pos hneg,if_pos rfl];rfl) (Ev.now _)))⟩
       simp only [gangsawlaw39_ProfileUndercuts.j2];rw [if_neg (by simpa using c)]
      ·rw [if_neg q] at hU
       have hnn : ¬ r' < 0:=fun k=>q (hS.neg.1.1 k)
       refine ⟨r',0,hU,Ev.step (f:=fun k=>(gangsawref39_Undercut.f k l (d : Int)).bind fun t498=>(if t498 < 0 then (if (0 : Int) = 9 then (some (r' == 0)) else (none)) else (if (0 : Int) = 0 then (some (r' == t498)) else (none)))) (fun k=>?_) (Ev.bind hr2 (Ev.congr (fun k=>by rw [if_neg hnn,if_pos rfl,beq_self_eq_true]) (Ev.now _)))⟩
       simp only [gangsawlaw39_ProfileUndercuts.j2];rw [if_neg (by simpa using c)]
    have hJ1 : Ev (fun k=>gangsawlaw39_ProfileUndercuts.j1 k x n e false nm l) true:=by
     refine Ev.step (fun k=>?_) hJ2
     simp only [gangsawlaw39_ProfileUndercuts.j1];rw [if_neg (by simp)];by_cases c : x < 0
     (rw [if_pos c,decide_eq_true (.inl c)])
     ·rw [if_neg c]
      congr 1
      rw [decide_eq_decide];omega
    refine Ev.bind hU (Ev.bind (Directions_f nm l hnm h0) (Ev.bind (rCheck_f nm l hnm) (Ev.congr (fun k=>if_pos h0) ?_)))
    exact undercuts_l0 hv hJ1 4 0 rfl [] rfl (Nat.le_refl _)
   ·refine Ev.bind (Undercut_e nm l hnm h0 x) (Ev.bind (Directions_e nm l hnm h0) (Ev.bind (rCheck_f nm l hnm) (Ev.congr (fun k=>?_) (Ev.now _))))
    rw [if_neg h0,if_pos rfl,if_pos rfl,if_pos rfl];rfl
 exact key.rounds
end Go.Proofs.Ytnjikioimompnaa.Pure
