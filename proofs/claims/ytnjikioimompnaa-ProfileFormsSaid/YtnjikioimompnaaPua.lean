import Derived.Test.YtnjikioimompnaaPAx3
import Derived.IntWalk
import Derived.Laws.EntriesVeiled
import Derived.Shelf.Abstract
import Derived.WalkSpells
namespace Go.Proofs.Ytnjikioimompnaa.Pure
open Go.RowKit Go.Proofs.Ytnjikioimompnaa Go.Proofs.Ytnjikioimompnaa.PA Go.Proofs.YtnjikioimompnaaW.PrintWords Go.Proofs.YtnjikioimompnaaW.PrintLast Go.Proofs.YtnjikioimompnaaW.PrintMore
set_option linter.unusedVariables false
set_option linter.unusedSimpArgs false
theorem w64 {n : Int} (h : -9223372036854775808 ≤ n) (h2 : n ≤ 9223372036854775807) : wrap64 n = n:=IntWalk.wrap64_in n ⟨h,h2⟩
theorem w1 {n : Nat} (h : n < 1000000000) : wrap64 ((n : Int) + 1) = ((n + 1 : Nat) : Int):=by rw [w64 (by omega) (by omega)];push_cast;rfl
theorem mul_bd {x y X Y : Int} (hx : -X ≤ x) (hx' : x ≤ X) (hy : -Y ≤ y) (hy' : y ≤ Y) : -(X * Y) ≤ x * y ∧ x * y ≤ X * Y:=by
 have h1:=Int.mul_nonneg (show 0 ≤ X - x by omega) (show 0 ≤ Y - y by omega);have h2:=Int.mul_nonneg (show 0 ≤ X - x by omega) (show 0 ≤ Y + y by omega);have h3:=Int.mul_nonneg (show 0 ≤ X + x by omega) (show 0 ≤ Y - y by omega);have h4:=Int.mul_nonneg (show 0 ≤ X + x by omega) (show 0 ≤ Y + y by omega);simp only [Int.sub_mul,Int.mul_sub,Int.add_mul,Int.mul_add] at h1 h2 h3 h4
 omega
def P (l : List S31) (i : Nat) : S31:=l.getD i z31
def nx (l : List S31) (i : Nat) : Nat:=(i + 1) % l.length
def near (p : S31) : Prop:=(-1000000 ≤ p.f0 ∧ p.f0 ≤ 1000000) ∧ (-1000000 ≤ p.f1 ∧ p.f1 ≤ 1000000)
def Near (l : List S31) : Prop := ∀ p ∈ l,near p
theorem P_mem {l : List S31} {i : Nat} (h : i < l.length) : P l i ∈ l:=by
 unfold P
 rw [List.getD_eq_getElem?_getD,List.getElem?_eq_getElem h];exact List.getElem_mem _
theorem Near.at {l : List S31} (h : Near l) {i : Nat} (hi : i < l.length) : near (P l i):=h _ (P_mem hi)
theorem rd_P (l : List S31) (i : Nat) : rd_T31 l (i : Int) = P l i:=by unfold rd_T31 P;simp
theorem nx_lt {l : List S31} (h : 0 < l.length) (i : Nat) : nx l i < l.length:=Nat.mod_lt _ h
theorem next_f {l : List S31} (h : 0 < l.length) (hl : l.length < 1000000) {i : Nat} (hi : i < l.length) : profile_next.f l (i : Int) = some (nx l i : Int):=by
 unfold profile_next.f
 rw [if_neg (by omega),w1 (by omega)];rfl
theorem S31_ext {p q : S31} (h0 : p.f0 = q.f0) (h1 : p.f1 = q.f1) : p = q:=by cases p;cases q;simp_all
def sg (n : Int) : Int:=if n < 0 then -1 else if n > 0 then 1 else 0
theorem sg_cases (n : Int) : (n < 0 ∧ sg n = -1) ∨ (n = 0 ∧ sg n = 0) ∨ (0 < n ∧ sg n = 1):=by unfold sg;split <;> (try split) <;> omega
theorem cmp0 (n : Int) : cmp_Compare_int.f n 0 = some (sg n):=by
 unfold cmp_Compare_int.f cmp_isNaN_int.f sg
 simp only [Option.bind_some,bne_self_eq_false,Bool.false_eq_true,if_false]
 split
 (rfl)
 ·split <;> rfl
def cr (a b c : S31) : Int:=(b.f0 - a.f0) * (c.f1 - a.f1) - (b.f1 - a.f1) * (c.f0 - a.f0)
theorem turn_f {a b c : S31} (ha : near a) (hb : near b) (hc : near c) : vector_turn.f a.f0 a.f1 b.f0 b.f1 c.f0 c.f1 = some (sg (cr a b c)):=by
 unfold near at ha hb hc
 unfold vector_turn.f
 have h1:=mul_bd (x:=b.f0 - a.f0) (y:=c.f1 - a.f1) (X:=2000000) (Y:=2000000) (by omega) (by omega) (by omega) (by omega);have h2:=mul_bd (x:=b.f1 - a.f1) (y:=c.f0 - a.f0) (X:=2000000) (Y:=2000000) (by omega) (by omega) (by omega) (by omega)
 rw [w64 (n:=b.f0 - a.f0) (by omega) (by omega),w64 (n:=c.f1 - a.f1) (by omega) (by omega),w64 (n:=b.f1 - a.f1) (by omega) (by omega),w64 (n:=c.f0 - a.f0) (by omega) (by omega),
  w64 (n:=(b.f0 - a.f0) * (c.f1 - a.f1)) (by omega) (by omega),w64 (n:=(b.f1 - a.f1) * (c.f0 - a.f0)) (by omega) (by omega),w64 (by omega) (by omega),cmp0]
 rfl
def spans (a b c d : Int) : Int:=mx 0 (mn 2 (mn (mx a b) (mx c d) - mx (mn a b) (mn c d) + 1))
theorem common_f {a b c d : Int} (ha : -1000000 ≤ a ∧ a ≤ 1000000) (hb : -1000000 ≤ b ∧ b ≤ 1000000) (hc : -1000000 ≤ c ∧ c ≤ 1000000) (hd : -1000000 ≤ d ∧ d ≤ 1000000) : vector_common.f a b c d = some (spans a b c d):=by
 unfold vector_common.f spans
 have e1 : ∀ x y : Int,(x ≤ mx x y ∧ y ≤ mx x y) ∧ (mx x y = x ∨ mx x y = y):=by intro x y;unfold mx;split <;> omega
 have e2 : ∀ x y : Int,(mn x y ≤ x ∧ mn x y ≤ y) ∧ (mn x y = x ∨ mn x y = y):=by intro x y;unfold mn;split <;> omega
 have h1:=e1 a b;have h2:=e1 c d;have h3:=e2 a b;have h4:=e2 c d;have h5:=e2 (mx a b) (mx c d);have h6:=e1 (mn a b) (mn c d);rw [w64 (n:=mn (mx a b) (mx c d) - mx (mn a b) (mn c d)) (by omega) (by omega),w64 (by omega) (by omega)]
def meet (a b c d : S31) : Int :=
 if sg (cr a b c) = 0 ∧ sg (cr a b d) = 0 then (if a.f0 = b.f0 then spans a.f1 b.f1 c.f1 d.f1 else spans a.f0 b.f0 c.f0 d.f0)
 else if sg (cr a b c) * sg (cr a b d) ≤ 0 ∧ sg (cr c d a) * sg (cr c d b) ≤ 0 then 1 else 0
theorem near2 {x y : Int} (hx : -1000000 ≤ x ∧ x ≤ 1000000) (hy : -1000000 ≤ y ∧ y ≤ 1000000) : Ev (fun k=>vector_near.f k [x,y]) true:=by
 unfold vector_near.f
 refine Ev.step (f:=fun k=>vector_near.l0 k [x,y] 2 1) (fun k=>?_) (Ev.step (f:=fun k=>vector_near.l0 k [x,y] 2 2) (fun k=>?_) (Ev.step (f:=fun _=>some true) (fun k=>?_) (Ev.now _)))
 (simp only [vector_near.l0];rw [if_pos (by simp),if_pos (by omega),if_pos (by simp),show rd [x,y] 0 = x from rfl,if_neg (by omega),if_neg (by omega),w64 (n:=0 + 1) (by omega) (by omega)];rfl);(simp only [vector_near.l0];rw [if_pos (by omega),if_pos (by omega),if_pos (by simp),show rd [x,y] 1 = y from rfl,if_neg (by omega),if_neg (by omega),w64 (n:=1 + 1) (by omega) (by omega)];rfl);(simp only [vector_near.l0];rw [if_neg (by omega)])
theorem points_l (l : List S31) (h : Near l) (hl : l.length < 1000000) : ∀ d i : Nat,i + d = l.length → Ev (fun k=>vector_points.l0 k l (l.length : Int) (i : Int)) 0:=by
 intro d
 induction d with
 | zero=>intro i hi;exact Ev.step (f:=fun _=>some 0) (fun k=>by simp only [vector_points.l0];rw [if_neg (by omega)]) (Ev.now _)
 | succ d ih =>
  intro i hi;have hn:=h.at (i:=i) (by omega)
  refine Ev.step (f:=fun k=>(vector_near.f k [(P l i).f0,(P l i).f1]).bind fun t=>if t = true then vector_points.l0 k l (l.length : Int) ((i + 1 : Nat) : Int) else some 6) (fun k=>?_) (Ev.bind (near2 hn.1 hn.2) (Ev.congr (fun k=>if_pos rfl) (ih (i + 1) (by omega))))
  simp only [vector_points.l0];rw [if_pos (by omega),if_pos (by omega),if_pos (by omega),w1 (by omega),rd_P]
theorem meet_f {a b c d : S31} (ha : near a) (hb : near b) (hc : near c) (hd : near d) (hab : a ≠ b) (hcd : c ≠ d) : Ev (fun k=>vector_Meet.f k a.f0 a.f1 b.f0 b.f1 c.f0 c.f1 d.f0 d.f1) (meet a b c d,0):=by
 unfold vector_Meet.f
 have hp : Ev (fun k=>vector_points.f k [a,b,c,d]) 0:=by
  unfold vector_points.f
  exact points_l [a,b,c,d] (by intro p hp;simp at hp;rcases hp with rfl|rfl|rfl|rfl <;> assumption) (by simp) 4 0 (by simp)
 have hne : ∀ {p q : S31},p ≠ q → ¬ (p.f0 == q.f0 && p.f1 == q.f1) = true:=by
  intro p q h e;rw [Bool.and_eq_true] at e;exact h (S31_ext (by simpa using e.1) (by simpa using e.2))
 refine Ev.bind hp (Ev.congr (fun k=>by rw [if_pos rfl,if_neg (hne hab),if_neg (hne hcd),turn_f ha hb hc,turn_f ha hb hd]) ?_)
 have fin : ∀ x53 : Bool,(x53 = true ↔ sg (cr a b c) = 0 ∧ sg (cr a b d) = 0) → Ev (fun k=>vector_Meet.j0 k (sg (cr a b c)) (sg (cr a b d)) x53 a.f0 a.f1 b.f0 b.f1 c.f0 c.f1 d.f0 d.f1) (meet a b c d,0):=by
  intro x hx
  refine Ev.step (f:=fun _=>some (meet a b c d,0)) (fun k=>?_) (Ev.now _)
  simp only [vector_Meet.j0]
  unfold meet
  have s1:=sg_cases (cr a b c);have s2:=sg_cases (cr a b d);have s3:=sg_cases (cr c d a);have s4:=sg_cases (cr c d b)
  have ws : ∀ {x y : Int},(x = -1 ∨ x = 0 ∨ x = 1) → (y = -1 ∨ y = 0 ∨ y = 1) → wrap64 (x * y) = x * y:=by
   rintro x y (rfl|rfl|rfl) (rfl|rfl|rfl) <;> exact w64 (by decide) (by decide)
  by_cases hc0 : sg (cr a b c) = 0 ∧ sg (cr a b d) = 0
  ·rw [if_pos (hx.2 hc0),if_pos hc0];by_cases e : a.f0 = b.f0
   (rw [if_pos e,if_pos e,common_f ha.2 hb.2 hc.2 hd.2];rfl);(rw [if_neg e,if_neg e,common_f ha.1 hb.1 hc.1 hd.1];rfl)
  ·rw [if_neg (fun h=>hc0 (hx.1 h)),if_neg hc0,ws (by omega) (by omega),turn_f hc hd ha,turn_f hc hd hb];simp only [Option.bind_some];rw [ws (by omega) (by omega)]
   unfold vector_one.f
   by_cases e : sg (cr a b c) * sg (cr a b d) ≤ 0
   ·rw [if_pos e];by_cases e2 : sg (cr c d a) * sg (cr c d b) ≤ 0
    (rw [if_pos (by simpa using e2),if_pos ⟨e,e2⟩];rfl);(rw [if_neg (by simpa using e2),if_neg (fun h=>e2 h.2)];rfl)
   (rw [if_neg e,if_neg (show ¬ (false = true) from by simp),if_neg (fun h : _ ∧ _=>e h.1)];rfl)
 by_cases e : sg (cr a b c) = 0
 ·refine Ev.congr (fun k=>if_pos e) (fin _ ?_)
  simp [e]
 ·refine Ev.congr (fun k=>if_neg e) (fin false ?_)
  simp [e]
end Go.Proofs.Ytnjikioimompnaa.Pure
