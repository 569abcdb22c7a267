import Derived.Test.YtbggjmdelnmilaaPAx17
import Derived.Test.YtbggjmdelnmilaaPAx5
import Derived.Test.YtbggjmdelnmilaaPua
namespace Go.Proofs.Ytbggjmdelnmilaa.Pure
open Go.RowKit Go.Proofs.Ytbggjmdelnmilaa Go.Proofs.Ytbggjmdelnmilaa.PA Go.Proofs.YtbggjmdelnmilaaW.PrintWords Go.Proofs.YtbggjmdelnmilaaW.PrintLast Go.Proofs.YtbggjmdelnmilaaW.PrintMore
set_option linter.unusedVariables false
set_option linter.unusedSimpArgs false
abbrev Fo (k : Nat) (x : S39) (y : S36):=offcut_fits.f k x.f0 x.f1.f0 x.f1.f1 x.f1.f2 x.f2 x.f3 x.f4 y.f0 y.f1.f0 y.f1.f1 y.f1.f2 y.f2 y.f3 y.f4
abbrev Fr (k : Nat) (x : S39) (y : S36):=gangsawref31_Fits.f k x.f0 x.f1.f0 x.f1.f1 x.f1.f2 x.f2 x.f3 x.f4 y.f0 y.f1.f0 y.f1.f1 y.f1.f2 y.f2 y.f3 y.f4
theorem within_f (o i : S24) : gangsawref31_within.f i.f0 i.f1 i.f2 o.f0 o.f1 o.f2 = some (contB o i):=by
 unfold gangsawref31_within.f contB
 by_cases h1 : i.f0 ≤ o.f0 <;> by_cases h2 : i.f1 ≤ o.f1 <;> simp [h1,h2]
theorem rfits_j0 (k : Nat) (b : Bool) (x : S39) (y : S36) : gangsawref31_Fits.j0 (k + 1) b x.f0 x.f1.f0 x.f1.f1 x.f1.f2 x.f2 x.f3 x.f4 y.f0 y.f1.f0 y.f1.f1 y.f1.f2 y.f2 y.f3 y.f4 = some (if b = true then (false,false) else if contB x.f1 y.f1 = true then (true,false) else (y.f4 && contB x.f1 (swapV y.f1),y.f4 && contB x.f1 (swapV y.f1))):=by
 rw [gangsawref31_Fits.j0,within_f]
 cases b with
 | true=>rfl
 | false =>
  simp only [Option.bind_some,Bool.false_eq_true,if_false]
  cases contB x.f1 y.f1 with
  | true=>rfl
  | false =>
   cases h4 : y.f4 with
   | false=>simp
   | true =>
    unfold gangsawref31_turned.f
    simp only [Option.bind_some,Bool.false_eq_true,if_false,if_true];rw [show gangsawref31_within.f y.f1.f1 y.f1.f0 y.f1.f2 x.f1.f0 x.f1.f1 x.f1.f2 = some (contB x.f1 (swapV y.f1)) from within_f x.f1 (swapV y.f1)]
    cases contB x.f1 (swapV y.f1) <;> simp
theorem rfits_f (k : Nat) (x : S39) (y : S36) : Fr (k + 1) x y = some (fitsB x y):=by
 unfold Fr gangsawref31_Fits.f fitsB unlikeB
 rw [rfits_j0,rfits_j0,rfits_j0];by_cases h1 : y.f2 = 0
 ·rw [if_pos h1];by_cases h2 : y.f3.toList = []
  ·rw [if_pos h2];simp [h1,h2]
  ·rw [if_neg h2];simp [h1,h2]
 ·rw [if_neg h1];by_cases h3 : y.f2 = x.f2
  ·rw [if_pos h3];by_cases h2 : y.f3.toList = []
   ·rw [if_pos h2];simp [h3,h2]
   ·rw [if_neg h2];simp [h3,h2]
  ·rw [if_neg h3];simp [h1,h3]
theorem fits_e (x : S39) (y : S36) : Ev (fun k=>Fo k x y) (fitsB x y):=Ev.step (f:=fun _=>some (fitsB x y)) (fun k=>fits_f k x y) (Ev.now _)
theorem rfits_e (x : S39) (y : S36) : Ev (fun k=>Fr k x y) (fitsB x y):=Ev.step (f:=fun _=>some (fitsB x y)) (fun k=>rfits_f k x y) (Ev.now _)
def volR (v : S24) : Int:=wrap64 (wrap64 (v.f0 * v.f1) * v.f2)
theorem volume_f (v : S24) : offcut_volume.f v.f0 v.f1 v.f2 = some (volR v):=rfl
theorem product_f (v : S24) : gangsawref31_Product.f v.f0 v.f1 v.f2 = some (volR v):=rfl
def better (l : List S39) (y : S36) (b : Int) (i : Nat) : Bool:=(fitsB (l.getD i z39) y).1 && (decide (b < 0) || decide (volR (l.getD i z39).f1 < volR (l.getD b.toNat z39).f1))
def bestN (l : List S39) (y : S36) : Nat → Int → Nat → Int
 | 0,b,_=>b
 | d + 1,b,i=>bestN l y d (if better l y b i = true then (i : Int) else b) (i + 1)
def bestR (l : List S39) (y : S36) : Int:=bestN l y l.length (-1) 0
theorem rdD (l : List S39) (i : Nat) : rd_T39 l (i : Int) = l.getD i z39:=by unfold rd_T39;rw [Int.toNat_natCast]
theorem rdZ (l : List S39) (b : Int) : rd_T39 l b = l.getD b.toNat z39:=rfl
theorem best_l0 (l : List S39) (y : S36) (hl : l.length ≤ 1000000) : ∀ (d i : Nat) (b : Int), i + d = l.length → (b = -1 ∨ (0 ≤ b ∧ b < i)) →
  Ev (fun k=>offcut_best.l0 k l b l (l.length : Int) (i : Int) y.f0 y.f1.f0 y.f1.f1 y.f1.f2 y.f2 y.f3 y.f4) (bestN l y d b i):=by
 intro d
 induction d with
 | zero =>
  intro i b hi hb
  refine Ev.step (f:=fun _=>some b) (fun k=>?_) (Ev.now _)
  simp only [offcut_best.l0];rw [if_neg (by omega)]
 | succ d ih =>
  intro i b hi hb
  unfold bestN
  refine Ev.step (f:=fun k=>(Fo k (rd_T39 l (i : Int)) y).bind fun bt118=>(if bt118.1 = true then (if b < 0 then (offcut_best.l0 k l (i : Int) l (l.length : Int) ((i + 1 : Nat) : Int) y.f0 y.f1.f0 y.f1.f1 y.f1.f2 y.f2 y.f3 y.f4) else ((offcut_volume.f (rd_T39 l (i : Int)).f1.f0 (rd_T39 l (i : Int)).f1.f1 (rd_T39 l (i : Int)).f1.f2).bind fun t120=>(if 0 ≤ b then (if b < (l.length : Int) then ((offcut_volume.f (rd_T39 l b).f1.f0 (rd_T39 l b).f1.f1 (rd_T39 l b).f1.f2).bind fun t122=>(if t120 < t122 then (offcut_best.l0 k l (i : Int) l (l.length : Int) ((i + 1 : Nat) : Int) y.f0 y.f1.f0 y.f1.f1 y.f1.f2 y.f2 y.f3 y.f4) else (offcut_best.l0 k l b l (l.length : Int) ((i + 1 : Nat) : Int) y.f0 y.f1.f0 y.f1.f1 y.f1.f2 y.f2 y.f3 y.f4))) else (none)) else (none)))) else (offcut_best.l0 k l b l (l.length : Int) ((i + 1 : Nat) : Int) y.f0 y.f1.f0 y.f1.f1 y.f1.f2 y.f2 y.f3 y.f4))) (fun k=>?_) ?_
  (simp only [offcut_best.l0];rw [if_pos (by omega),if_pos (by omega),if_pos (by omega),w1 (by omega)])
  ·rw [volume_f,volume_f,rdD,rdZ]
   refine Ev.bind (fits_e _ y) ?_
   unfold better
   cases (fitsB (l.getD i z39) y).1 with
   | false=>exact Ev.congr (fun k=>by rfl) (ih (i + 1) b (by omega) (by omega))
   | true =>
    refine Ev.congr (fun k=>if_pos rfl) ?_
    rw [Bool.true_and];by_cases h : b < 0
    (rw [decide_eq_true h,Bool.true_or,if_pos rfl];exact Ev.congr (fun k=>if_pos h) (ih (i + 1) i (by omega) (by omega)))
    ·rw [decide_eq_false h,Bool.false_or]
     refine Ev.congr (fun k=>by rw [if_neg h,Option.bind_some,if_pos (by omega),if_pos (by omega),Option.bind_some]) ?_
     by_cases g : volR (l.getD i z39).f1 < volR (l.getD b.toNat z39).f1
     (rw [decide_eq_true g,if_pos rfl];exact Ev.congr (fun k=>if_pos g) (ih (i + 1) i (by omega) (by omega)));(rw [decide_eq_false g,if_neg (by simp)];exact Ev.congr (fun k=>if_neg g) (ih (i + 1) b (by omega) (by omega)))
theorem rbest_l0 (l : List S39) (y : S36) (hl : l.length ≤ 1000000) : ∀ (d i : Nat) (b : Int), i + d = l.length → (b = -1 ∨ (0 ≤ b ∧ b < i)) →
  Ev (fun k=>gangsawref31_Best.l0 k l b (i : Int) y.f0 y.f1.f0 y.f1.f1 y.f1.f2 y.f2 y.f3 y.f4) (bestN l y d b i):=by
 intro d
 induction d with
 | zero =>
  intro i b hi hb
  refine Ev.step (f:=fun _=>some b) (fun k=>?_) (Ev.now _)
  simp only [gangsawref31_Best.l0];rw [if_neg (by omega)]
 | succ d ih =>
  intro i b hi hb
  unfold bestN
  refine Ev.step (f:=fun k=>(Fr k (rd_T39 l (i : Int)) y).bind fun bt118=>(if bt118.1 = true then (if b < 0 then (gangsawref31_Best.l0 k l (i : Int) ((i + 1 : Nat) : Int) y.f0 y.f1.f0 y.f1.f1 y.f1.f2 y.f2 y.f3 y.f4) else ((gangsawref31_Product.f (rd_T39 l (i : Int)).f1.f0 (rd_T39 l (i : Int)).f1.f1 (rd_T39 l (i : Int)).f1.f2).bind fun t120=>(if 0 ≤ b then (if b < (l.length : Int) then ((gangsawref31_Product.f (rd_T39 l b).f1.f0 (rd_T39 l b).f1.f1 (rd_T39 l b).f1.f2).bind fun t122=>(if t120 < t122 then (gangsawref31_Best.l0 k l (i : Int) ((i + 1 : Nat) : Int) y.f0 y.f1.f0 y.f1.f1 y.f1.f2 y.f2 y.f3 y.f4) else (gangsawref31_Best.l0 k l b ((i + 1 : Nat) : Int) y.f0 y.f1.f0 y.f1.f1 y.f1.f2 y.f2 y.f3 y.f4))) else (none)) else (none)))) else (gangsawref31_Best.l0 k l b ((i + 1 : Nat) : Int) y.f0 y.f1.f0 y.f1.f1 y.f1.f2 y.f2 y.f3 y.f4))) (fun k=>?_) ?_
  (simp only [gangsawref31_Best.l0];rw [if_pos (by omega),if_pos (by omega),w1 (by omega)])
  ·rw [product_f,product_f,rdD,rdZ]
   refine Ev.bind (rfits_e _ y) ?_
   unfold better
   cases (fitsB (l.getD i z39) y).1 with
   | false=>exact Ev.congr (fun k=>by rfl) (ih (i + 1) b (by omega) (by omega))
   | true =>
    refine Ev.congr (fun k=>if_pos rfl) ?_
    rw [Bool.true_and];by_cases h : b < 0
    (rw [decide_eq_true h,Bool.true_or,if_pos rfl];exact Ev.congr (fun k=>if_pos h) (ih (i + 1) i (by omega) (by omega)))
    ·rw [decide_eq_false h,Bool.false_or]
     refine Ev.congr (fun k=>by rw [if_neg h,Option.bind_some,if_pos (by omega),if_pos (by omega),Option.bind_some]) ?_
     by_cases g : volR (l.getD i z39).f1 < volR (l.getD b.toNat z39).f1
     (rw [decide_eq_true g,if_pos rfl];exact Ev.congr (fun k=>if_pos g) (ih (i + 1) i (by omega) (by omega)));(rw [decide_eq_false g,if_neg (by simp)];exact Ev.congr (fun k=>if_neg g) (ih (i + 1) b (by omega) (by omega)))
theorem best_f (l : List S39) (y : S36) (hl : l.length ≤ 1000000) : Ev (fun k=>offcut_best.f k l y.f0 y.f1.f0 y.f1.f1 y.f1.f2 y.f2 y.f3 y.f4) (bestR l y):=best_l0 l y hl l.length 0 (-1) (by omega) (.inl rfl)
theorem rbest_f (l : List S39) (y : S36) (hl : l.length ≤ 1000000) : Ev (fun k=>gangsawref31_Best.f k l y.f0 y.f1.f0 y.f1.f1 y.f1.f2 y.f2 y.f3 y.f4) (bestR l y):=rbest_l0 l y hl l.length 0 (-1) (by omega) (.inl rfl)
theorem bestN_spec (l : List S39) (y : S36) : ∀ (d i : Nat) (b : Int), i + d = l.length → ((b = -1 ∧ ∀ j, j < i → (fitsB (l.getD j z39) y).1 = false) ∨ (0 ≤ b ∧ b < i ∧ (fitsB (l.getD b.toNat z39) y).1 = true)) →
  (bestN l y d b i = -1 ∧ ∀ j,j < l.length → (fitsB (l.getD j z39) y).1 = false) ∨ (0 ≤ bestN l y d b i ∧ bestN l y d b i < l.length ∧ (fitsB (l.getD (bestN l y d b i).toNat z39) y).1 = true):=by
 intro d
 induction d with
 | zero =>
  intro i b hi hb
  obtain rfl : i = l.length:=by omega
  exact hb
 | succ d ih =>
  intro i b hi hb
  unfold bestN
  refine ih (i + 1) _ (by omega) ?_
  by_cases h : better l y b i = true
  ·rw [if_pos h]
   unfold better at h
   rw [Bool.and_eq_true] at h;exact .inr ⟨by omega,by omega,by rw [Int.toNat_natCast];exact h.1⟩
  ·rw [if_neg h]
   rcases hb with ⟨hb,hn⟩|⟨h0,h1,h2⟩
   ·refine .inl ⟨hb,fun j hj=>?_⟩
    by_cases e : j = i
    ·subst e
     cases hf : (fitsB (l.getD j z39) y).1 with
     | false=>rfl
     | true =>
      exfalso
      apply h
      unfold better
      rw [hf,decide_eq_true (show b < 0 by omega)];rfl
    (exact hn j (by omega))
   (exact .inr ⟨h0,by omega,h2⟩)
theorem bestR_spec (l : List S39) (y : S36) : (bestR l y = -1 ∧ ∀ j,j < l.length → (fitsB (l.getD j z39) y).1 = false) ∨ (0 ≤ bestR l y ∧ bestR l y < l.length ∧ (fitsB (l.getD (bestR l y).toNat z39) y).1 = true) :=
 bestN_spec l y l.length 0 (-1) (by omega) (.inl ⟨rfl,fun j hj=>absurd hj (Nat.not_lt_zero _)⟩)
end Go.Proofs.Ytbggjmdelnmilaa.Pure
