import Derived.Test.YtbggjmdelnmilaaPAx17
import Derived.Test.YtbggjmdelnmilaaPAx5
import Derived.Test.YtbggjmdelnmilaaPua
import Derived.Test.YtbggjmdelnmilaaPAx15
import Derived.Test.YtbggjmdelnmilaaPub
import Derived.Test.YtbggjmdelnmilaaPAx19
import Derived.Test.YtbggjmdelnmilaaPAx6
namespace Go.Proofs.Ytbggjmdelnmilaa.Pure
open Go.RowKit Go.Proofs.Ytbggjmdelnmilaa Go.Proofs.Ytbggjmdelnmilaa.PA Go.Proofs.YtbggjmdelnmilaaW.PrintWords Go.Proofs.YtbggjmdelnmilaaW.PrintLast Go.Proofs.YtbggjmdelnmilaaW.PrintMore
set_option linter.unusedVariables false
set_option linter.unusedSimpArgs false
abbrev Fo (k : Nat) (x : S39) (y : S36):=offcut_fits.f k x.f0 x.f1.f0 x.f1.f1 x.f1.f2 x.f2 x.f3 x.f4 y.f0 y.f1.f0 y.f1.f1 y.f1.f2 y.f2 y.f3 y.f4
abbrev Fr (k : Nat) (x : S39) (y : S36):=gangsawref31_Fits.f k x.f0 x.f1.f0 x.f1.f1 x.f1.f2 x.f2 x.f3 x.f4 y.f0 y.f1.f0 y.f1.f1 y.f1.f2 y.f2 y.f3 y.f4
theorem within_f (o i : S24) : gangsawref31_within.f i.f0 i.f1 i.f2 o.f0 o.f1 o.f2 = some (contB o i):=by
 unfold gangsawref31_within.f contB
 by_cases h1 : i.f0 ≤ o.f0 <;> by_cases h2 : i.f1 ≤ o.f1 <;> simp [h1,h2]
theorem rfits_j0 (k : Nat) (b : Bool) (x : S39) (y : S36) : gangsawref31_Fits.j0 (k + 1) b x.f0 x.f1.f0 x.f1.f1 x.f1.f2 x.f2 x.f3 x.f4 y.f0 y.f1.f0 y.f1.f1 y.f1.f2 y.f2 y.f3 y.f4 = some (if b = true then (false,false) else if contB x.f1 y.f1 = true then (true,false) else (y.f4 && contB x.f1 (swapV y.f1),y.f4 && contB x.f1 (swapV y.f1))):=by
 rw [gangsawref31_Fits.j0,within_f]
 cases b with
 | true=>rfl
 | false =>
  simp only [Option.bind_some,Bool.false_eq_true,if_false]
  cases contB x.f1 y.f1 with
  | true=>rfl
  | false =>
   cases h4 : y.f4 with
   | false=>simp
   | true =>
    unfold gangsawref31_turned.f
    simp only [Option.bind_some,Bool.false_eq_true,if_false,if_true];rw [show gangsawref31_within.f y.f1.f1 y.f1.f0 y.f1.f2 x.f1.f0 x.f1.f1 x.f1.f2 = some (contB x.f1 (swapV y.f1)) from within_f x.f1 (swapV y.f1)]
    cases contB x.f1 (swapV y.f1) <;> simp
theorem rfits_f (k : Nat) (x : S39) (y : S36) : Fr (k + 1) x y = some (fitsB x y):=by
 unfold Fr gangsawref31_Fits.f fitsB unlikeB
 rw [rfits_j0,rfits_j0,rfits_j0];by_cases h1 : y.f2 = 0
 ·rw [if_pos h1];by_cases h2 : y.f3.toList = []
  ·rw [if_pos h2];simp [h1,h2]
  ·rw [if_neg h2];simp [h1,h2]
 ·rw [if_neg h1];by_cases h3 : y.f2 = x.f2
  ·rw [if_pos h3];by_cases h2 : y.f3.toList = []
   ·rw [if_pos h2];simp [h3,h2]
   ·rw [if_neg h2];simp [h3,h2]
  ·rw [if_neg h3];simp [h1,h3]
theorem fits_e (x : S39) (y : S36) : Ev (fun k=>Fo k x y) (fitsB x y):=Ev.step (f:=fun _=>some (fitsB x y)) (fun k=>fits_f k x y) (Ev.now _)
theorem rfits_e (x : S39) (y : S36) : Ev (fun k=>Fr k x y) (fitsB x y):=Ev.step (f:=fun _=>some (fitsB x y)) (fun k=>rfits_f k x y) (Ev.now _)
def volR (v : S24) : Int:=wrap64 (wrap64 (v.f0 * v.f1) * v.f2)
theorem volume_f (v : S24) : offcut_volume.f v.f0 v.f1 v.f2 = some (volR v):=rfl
theorem product_f (v : S24) : gangsawref31_Product.f v.f0 v.f1 v.f2 = some (volR v):=rfl
def better (l : List S39) (y : S36) (b : Int) (i : Nat) : Bool:=(fitsB (l.getD i z39) y).1 && (decide (b < 0) || decide (volR (l.getD i z39).f1 < volR (l.getD b.toNat z39).f1))
def bestN (l : List S39) (y : S36) : Nat → Int → Nat → Int
 | 0,b,_=>b
 | d + 1,b,i=>bestN l y d (if better l y b i = true then (i : Int) else b) (i + 1)
def bestR (l : List S39) (y : S36) : Int:=bestN l y l.length (-1) 0
theorem rdD (l : List S39) (i : Nat) : rd_T39 l (i : Int) = l.getD i z39:=by unfold rd_T39;rw [Int.toNat_natCast]
theorem rdZ (l : List S39) (b : Int) : rd_T39 l b = l.getD b.toNat z39:=rfl
theorem best_l0 (l : List S39) (y : S36) (hl : l.length ≤ 1000000) : ∀ (d i : Nat) (b : Int), i + d = l.length → (b = -1 ∨ (0 ≤ b ∧ b < i)) →
  Ev (fun k=>offcut_best.l0 k l b l (l.length : Int) (i : Int) y.f0 y.f1.f0 y.f1.f1 y.f1.f2 y.f2 y.f3 y.f4) (bestN l y d b i):=by
 intro d
 induction d with
 | zero =>
  intro i b hi hb
  refine Ev.step (f:=fun _=>some b) (fun k=>?_) (Ev.now _)
  simp only [offcut_best.l0];rw [if_neg (by omega)]
 | succ d ih =>
  intro i b hi hb
  unfold bestN
  refine Ev.step (f:=fun k=>(Fo k (rd_T39 l (i : Int)) y).bind fun bt118=>(if bt118.1 = true then (if b < 0 then (offcut_best.l0 k l (i : Int) l (l.length : Int) ((i + 1 : Nat) : Int) y.f0 y.f1.f0 y.f1.f1 y.f1.f2 y.f2 y.f3 y.f4) else ((offcut_volume.f (rd_T39 l (i : Int)).f1.f0 (rd_T39 l (i : Int)).f1.f1 (rd_T39 l (i : Int)).f1.f2).bind fun t120=>(if 0 ≤ b then (if b < (l.length : Int) then ((offcut_volume.f (rd_T39 l b).f1.f0 (rd_T39 l b).f1.f1 (rd_T39 l b).f1.f2).bind fun t122=>(if t120 < t122 then (offcut_best.l0 k l (i : Int) l (l.length : Int) ((i + 1 : Nat) : Int) y.f0 y.f1.f0 y.f1.f1 y.f1.f2 y.f2 y.f3 y.f4) else (offcut_best.l0 k l b l (l.length : Int) ((i + 1 : Nat) : Int) y.f0 y.f1.f0 y.f1.f1 y.f1.f2 y.f2 y.f3 y.f4))) else (none)) else (none)))) else (offcut_best.l0 k l b l (l.length : Int) ((i + 1 : Nat) : Int) y.f0 y.f1.f0 y.f1.f1 y.f1.f2 y.f2 y.f3 y.f4))) (fun k=>?_) ?_
  (simp only [offcut_best.l0];rw [if_pos (by omega),if_pos (by omega),if_pos (by omega),w1 (by omega)])
  ·rw [volume_f,volume_f,rdD,rdZ]
   refine Ev.bind (fits_e _ y) ?_
   unfold better
   cases (fitsB (l.getD i z39) y).1 with
   | false=>exact Ev.congr (fun k=>by rfl) (ih (i + 1) b (by omega) (by omega))
   | true =>
    refine Ev.congr (fun k=>if_pos rfl) ?_
    rw [Bool.true_and];by_cases h : b < 0
    (rw [decide_eq_true h,Bool.true_or,if_pos rfl];exact Ev.congr (fun k=>if_pos h) (ih (i + 1) i (by omega) (by omega)))
    ·rw [decide_eq_false h,Bool.false_or]
     refine Ev.congr (fun k=>by rw [if_neg h,Option.bind_some,if_pos (by omega),if_pos (by omega),Option.bind_some]) ?_
     by_cases g : volR (l.getD i z39).f1 < volR (l.getD b.toNat z39).f1
     (rw [decide_eq_true g,if_pos rfl];exact Ev.congr (fun k=>if_pos g) (ih (i + 1) i (by omega) (by omega)));(rw [decide_eq_false g,if_neg (by simp)];exact Ev.congr (fun k=>if_neg g) (ih (i + 1) b (by omega) (by omega)))
theorem rbest_l0 (l : List S39) (y : S36) (hl : l.length ≤ 1000000) : ∀ (d i : Nat) (b : Int), i + d = l.length → (b = -1 ∨ (0 ≤ b ∧ b < i)) →
  Ev (fun k=>gangsawref31_Best.l0 k l b (i : Int) y.f0 y.f1.f0 y.f1.f1 y.f1.f2 y.f2 y.f3 y.f4) (bestN l y d b i):=by
 intro d
 induction d with
 | zero =>
  intro i b hi hb
  refine Ev.step (f:=fun _=>some b) (fun k=>?_) (Ev.now _)
  simp only [gangsawref31_Best.l0];rw [if_neg (by omega)]
 | succ d ih =>
  intro i b hi hb
  unfold bestN
  refine Ev.step (f:=fun k=>(Fr k (rd_T39 l (i : Int)) y).bind fun bt118=>(if bt118.1 = true then (if b < 0 then (gangsawref31_Best.l0 k l (i : Int) ((i + 1 : Nat) : Int) y.f0 y.f1.f0 y.f1.f1 y.f1.f2 y.f2 y.f3 y.f4) else ((gangsawref31_Product.f (rd_T39 l (i : Int)).f1.f0 (rd_T39 l (i : Int)).f1.f1 (rd_T39 l (i : Int)).f1.f2).bind fun t120=>(if 0 ≤ b then (if b < (l.length : Int) then ((gangsawref31_Product.f (rd_T39 l b).f1.f0 (rd_T39 l b).f1.f1 (rd_T39 l b).f1.f2).bind fun t122=>(if t120 < t122 then (gangsawref31_Best.l0 k l (i : Int) ((i + 1 : Nat) : Int) y.f0 y.f1.f0 y.f1.f1 y.f1.f2 y.f2 y.f3 y.f4) else (gangsawref31_Best.l0 k l b ((i + 1 : Nat) : Int) y.f0 y.f1.f0 y.f1.f1 y.f1.f2 y.f2 y.f3 y.f4))) else (none)) else (none)))) else (gangsawref31_Best.l0 k l b ((i + 1 : Nat) : Int) y.f0 y.f1.f0 y.f1.f1 y.f1.f2 y.f2 y.f3 y.f4))) (fun k=>?_) ?_
  (simp only [gangsawref31_Best.l0];rw [if_pos (by omega),if_pos (by omega),w1 (by omega)])
  ·rw [product_f,product_f,rdD,rdZ]
   refine Ev.bind (rfits_e _ y) ?_
   unfold better
   cases (fitsB (l.getD i z39) y).1 with
   | false=>exact Ev.congr (fun k=>by rfl) (ih (i + 1) b (by omega) (by omega))
   | true =>
    refine Ev.congr (fun k=>if_pos rfl) ?_
    rw [Bool.true_and];by_cases h : b < 0
    (rw [decide_eq_true h,Bool.true_or,if_pos rfl];exact Ev.congr (fun k=>if_pos h) (ih (i + 1) i (by omega) (by omega)))
    ·rw [decide_eq_false h,Bool.false_or]
     refine Ev.congr (fun k=>by rw [if_neg h,Option.bind_some,if_pos (by omega),if_pos (by omega),Option.bind_some]) ?_
     by_cases g : volR (l.getD i z39).f1 < volR (l.getD b.toNat z39).f1
     (rw [decide_eq_true g,if_pos rfl];exact Ev.congr (fun k=>if_pos g) (ih (i + 1) i (by omega) (by omega)));(rw [decide_eq_false g,if_neg (by simp)];exact Ev.congr (fun k=>if_neg g) (ih (i + 1) b (by omega) (by omega)))
theorem best_f (l : List S39) (y : S36) (hl : l.length ≤ 1000000) : Ev (fun k=>offcut_best.f k l y.f0 y.f1.f0 y.f1.f1 y.f1.f2 y.f2 y.f3 y.f4) (bestR l y):=best_l0 l y hl l.length 0 (-1) (by omega) (.inl rfl)
theorem rbest_f (l : List S39) (y : S36) (hl : l.length ≤ 1000000) : Ev (fun k=>gangsawref31_Best.f k l y.f0 y.f1.f0 y.f1.f1 y.f1.f2 y.f2 y.f3 y.f4) (bestR l y):=rbest_l0 l y hl l.length 0 (-1) (by omega) (.inl rfl)
theorem bestN_spec (l : List S39) (y : S36) : ∀ (d i : Nat) (b : Int), i + d = l.length → ((b = -1 ∧ ∀ j, j < i → (fitsB (l.getD j z39) y).1 = false) ∨ (0 ≤ b ∧ b < i ∧ (fitsB (l.getD b.toNat z39) y).1 = true)) →
  (bestN l y d b i = -1 ∧ ∀ j,j < l.length → (fitsB (l.getD j z39) y).1 = false) ∨ (0 ≤ bestN l y d b i ∧ bestN l y d b i < l.length ∧ (fitsB (l.getD (bestN l y d b i).toNat z39) y).1 = true):=by
 intro d
 induction d with
 | zero =>
  intro i b hi hb
  obtain rfl : i = l.length:=by omega
  exact hb
 | succ d ih =>
  intro i b hi hb
  unfold bestN
  refine ih (i + 1) _ (by omega) ?_
  by_cases h : better l y b i = true
  ·rw [if_pos h]
   unfold better at h
   rw [Bool.and_eq_true] at h;exact .inr ⟨by omega,by omega,by rw [Int.toNat_natCast];exact h.1⟩
  ·rw [if_neg h]
   rcases hb with ⟨hb,hn⟩|⟨h0,h1,h2⟩
   ·refine .inl ⟨hb,fun j hj=>?_⟩
    by_cases e : j = i
    ·subst e
     cases hf : (fitsB (l.getD j z39) y).1 with
     | false=>rfl
     | true =>
      exfalso
      apply h
      unfold better
      rw [hf,decide_eq_true (show b < 0 by omega)];rfl
    (exact hn j (by omega))
   (exact .inr ⟨h0,by omega,h2⟩)
theorem bestR_spec (l : List S39) (y : S36) : (bestR l y = -1 ∧ ∀ j,j < l.length → (fitsB (l.getD j z39) y).1 = false) ∨ (0 ≤ bestR l y ∧ bestR l y < l.length ∧ (fitsB (l.getD (bestR l y).toNat z39) y).1 = true) :=
 bestN_spec l y l.length 0 (-1) (by omega) (.inl ⟨rfl,fun j hj=>absurd hj (Nat.not_lt_zero _)⟩)
theorem bestR_none (l : List S39) (y : S36) (h : ∀ x ∈ l,(fitsB x y).1 = false) : bestR l y = -1:=by
 rcases bestR_spec l y with h1|⟨h0,h1,h2⟩
 (exact h1.1)
 ·exfalso
  have hlt : (bestR l y).toNat < l.length:=by omega
  have:=h (l.getD (bestR l y).toNat z39) (by
   rw [List.getD_eq_getElem?_getD,List.getElem?_eq_getElem hlt]
   exact List.getElem_mem _)
  rw [this] at h2
  cases h2
end Go.Proofs.Ytbggjmdelnmilaa.Pure
namespace Go.Proofs.Ytbggjmdelnmilaa.Pure
open Go.RowKit Go.Proofs.Ytbggjmdelnmilaa Go.Proofs.Ytbggjmdelnmilaa.PA Go.Proofs.YtbggjmdelnmilaaW.PrintWords Go.Proofs.YtbggjmdelnmilaaW.PrintLast Go.Proofs.YtbggjmdelnmilaaW.PrintMore
set_option linter.unusedVariables false
set_option linter.unusedSimpArgs false
theorem abc_list : ∀ i,i < 3 → (abc i).data.toList = [(97 + i).toUInt8] := by decide +kernel
theorem abc_len : ∀ i,i < 3 → (abc i).size = 1:=by decide +kernel
theorem abc_nm : ∀ i,i < 3 → isNm (((97 + i).toUInt8).toNat : Int) = true:=by decide +kernel
theorem snoc_size (s : ByteArray) {i : Nat} (hi : i < 3) : (s ++ abc i).size = s.size + 1:=by rw [ByteArray.size_append,abc_len i hi]
theorem lex_size {s : ByteArray} (h : lexName s = true) : 0 < s.size ∧ s.size ≤ 24:=by
 unfold lexName at h
 split at h
 ·rename_i h0
  simp only [Bool.and_eq_true,decide_eq_true_eq] at h;exact ⟨h0,h.1⟩
 ·cases h
theorem lex_snoc {s : ByteArray} (h : lexName s = true) {i : Nat} (hi : i < 3) : lexName (s ++ abc i) = decide (s.size + 1 ≤ 24):=by
 obtain ⟨h0,h24⟩ := lex_size h;have hsz:=snoc_size s hi
 have h1 : 0 < (s ++ abc i).size:=by omega
 unfold lexName at h ⊢
 rw [dif_pos h0] at h;rw [dif_pos h1];simp only [Bool.and_eq_true,decide_eq_true_eq] at h;obtain ⟨_,ha,hb,hr⟩ := h;have e0 : (s ++ abc i)[0]'h1 = s[0]'h0:=ByteArray.getElem_append_left h0
 have hrun : runOf isNm (s ++ abc i).data.toList = (s ++ abc i).size:=by
  unfold runOf at hr ⊢
  rw [ByteArray.data_append,Array.toList_append,abc_list i hi]
  have hl : s.data.toList.length = s.size:=by simp
  have hall : s.data.toList.takeWhile (fun b=>isNm (b.toNat : Int)) = s.data.toList:=List.IsPrefix.eq_of_length (List.takeWhile_prefix _) (by rw [hr,hl]);rw [List.takeWhile_append,hall,if_pos rfl,List.takeWhile_cons,abc_nm i hi,if_pos rfl,List.length_append,hl,hsz];rfl
 rw [e0,hrun,hsz,decide_eq_true ha,decide_eq_true hb]
 simp
theorem rest_mem {x : S39} {y : S36} {k : Int} {r : S39} (h : r ∈ restR x y k) : ∃ i v,i < 3 ∧ r = one x i v:=by
 unfold restR restN r0 r1 r2 at h
 simp only [List.mem_append] at h
 rcases h with (h|h)|h
 ·split at h
  (rw [List.mem_singleton] at h;exact ⟨0,_,by omega,h⟩)
  ·cases h
 ·split at h
  (rw [List.mem_singleton] at h;exact ⟨1,_,by omega,h⟩)
  ·cases h
 ·split at h
  (rw [List.mem_singleton] at h;exact ⟨2,_,by omega,h⟩)
  ·cases h
theorem any_congr {α : Type} {p q : α → Bool} : ∀ {l : List α},(∀ x ∈ l,p x = q x) → l.any p = l.any q
 | [],_=>rfl
 | a :: l,h=>by rw [List.any_cons,List.any_cons,h a (by simp),any_congr (l:=l) (fun x hx=>h x (by simp [hx]))]
theorem nameless_long {x : S39} (hx : lexName x.f0 = true) {l : List S39} (h : ∀ r ∈ l,∃ i v,i < 3 ∧ r = one x i v) : (l.any fun r=>!lexName r.f0) = (l.any fun r=>decide (24 < r.f0.size)):=by
 refine any_congr (fun r hr=>?_)
 obtain ⟨i,v,hi,rfl⟩ := h r hr
 show (!lexName (x.f0 ++ abc i)) = decide (24 < (x.f0 ++ abc i).size)
 rw [lex_snoc hx hi,snoc_size _ hi,Bool.eq_iff_iff];simp only [Bool.not_eq_true',decide_eq_false_iff_not,decide_eq_true_eq]
 omega
theorem long_l0 (l : List S39) (hl : l.length ≤ 1000000) : ∀ d i : Nat,i + d = l.length → Ev (fun k=>gangsawref31_long.l0 k l (i : Int)) ((l.drop i).any fun r=>decide (24 < r.f0.size)):=by
 intro d
 induction d with
 | zero =>
  intro i hi;rw [List.drop_of_length_le (by omega)]
  refine Ev.step (f:=fun _=>some false) (fun k=>?_) (Ev.now _)
  simp only [gangsawref31_long.l0];rw [if_neg (by omega)]
 | succ d ih =>
  intro i hi
  have hlt : i < l.length:=by omega
  rw [drop_at hlt,List.any_cons];by_cases h : 24 < l[i].f0.size
  ·rw [decide_eq_true h,Bool.true_or]
   refine Ev.step (f:=fun _=>some true) (fun k=>?_) (Ev.now _)
   simp only [gangsawref31_long.l0];rw [if_pos (by omega),if_pos (by omega),rd39 hlt,if_pos (by omega)]
  ·rw [decide_eq_false h,Bool.false_or]
   refine Ev.step (fun k=>?_) (ih (i + 1) (by omega))
   simp only [gangsawref31_long.l0];rw [if_pos (by omega),if_pos (by omega),rd39 hlt,if_neg (by omega),w1 (by omega)]
theorem long_f (l : List S39) (hl : l.length ≤ 1000000) : Ev (fun k=>gangsawref31_long.f k l) (l.any fun r=>decide (24 < r.f0.size)):=by
 have h:=long_l0 l hl l.length 0 (by omega);rw [List.drop_zero] at h;exact h
theorem stone_f (x : S39) (y : S36) : Ev (fun k=>gangsawref31_Stone.f k x.f0 x.f1.f0 x.f1.f1 x.f1.f2 x.f2 x.f3 x.f4 y.f0 y.f1.f0 y.f1.f1 y.f1.f2 y.f2 y.f3 y.f4) ((stoneV x y).f0,(stoneV x y).f1,(stoneV x y).f2):=by
 unfold gangsawref31_Stone.f stoneV
 refine Ev.bind (rfits_e x y) ?_
 cases (fitsB x y).2 with
 | true=>exact Ev.congr (fun k=>if_pos rfl) (Ev.congr (fun k=>by unfold gangsawref31_turned.f;rfl) (Ev.now _))
 | false=>exact Ev.congr (fun k=>if_neg (by simp)) (Ev.now _)
def pos3 (v : S24) : Prop:=1 ≤ v.f0 ∧ 1 ≤ v.f1 ∧ 1 ≤ v.f2
theorem sized_pos {v : S24} (h : sizedB v = true) : pos3 v ∧ v.f0 ≤ 1000000 ∧ v.f1 ≤ 1000000 ∧ v.f2 ≤ 1000000:=by
 unfold sizedB min3 max3 at h
 simp only [Bool.and_eq_true,decide_eq_true_eq] at h
 unfold pos3
 omega
theorem sized_of {v : S24} (h : pos3 v) (h0 : v.f0 ≤ 1000000) (h1 : v.f1 ≤ 1000000) (h2 : v.f2 ≤ 1000000) : sizedB v = true:=by
 unfold pos3 at h
 unfold sizedB min3 max3
 simp only [Bool.and_eq_true,decide_eq_true_eq]
 omega
theorem stone_pos {x : S39} {y : S36} (h : pos3 y.f1) : pos3 (stoneV x y):=by
 unfold stoneV
 unfold pos3 at *
 split
 ·unfold swapV;exact ⟨h.2.1,h.1,h.2.2⟩
 (exact h)
abbrev RL (k : Nat) (acc : List S39) (ss : List S24) (i : Int) (x : S39):=gangsawref31_Rest.l0 k acc ss i x.f0 x.f1.f0 x.f1.f1 x.f1.f2 x.f2 x.f3 x.f4
theorem rest_round {x : S39} {acc : List S39} {ss : List S24} {i : Nat} (hi : i < 3) (hs : ss.length = 3) (hsz : x.f0.size ≤ 1000000) (hacc : acc.length ≤ 3) {v : S24} (hv : rd_T24 ss (i : Int) = v) {R : List S39} (p : Prop) [Decidable p] (hp : (v.f0 > 0 ∧ v.f1 > 0 ∧ v.f2 > 0) ↔ p)
  (H : Ev (fun k=>RL k (acc ++ (if p then [one x i v] else [])) ss ((i + 1 : Nat) : Int) x) R) : Ev (fun k=>RL k acc ss (i : Int) x) R:=by
 refine Ev.step (fun k=>?_) H
 show gangsawref31_Rest.l0 (k + 1) acc ss (i : Int) x.f0 x.f1.f0 x.f1.f1 x.f1.f2 x.f2 x.f3 x.f4 = _
 simp only [gangsawref31_Rest.l0];rw [if_pos (by omega),if_pos (by omega),hv,w1 (by omega)]
 have ha : (⟨#[97,98,99]⟩ : ByteArray).extract (i : Int).toNat ((i + 1 : Nat) : Int).toNat = abc i:=by rw [Int.toNat_natCast,Int.toNat_natCast];rfl
 have hb:=abc_len i hi;by_cases h : p
 (obtain ⟨g0,g1,g2⟩ := hp.2 h;rw [if_pos g0,if_pos g1,if_pos g2,if_pos (by omega),if_pos (by omega),ha,if_pos (by omega),if_pos (by omega),if_pos h];rfl)
 ·rw [if_neg h,List.append_nil];by_cases g0 : v.f0 > 0
  ·rw [if_pos g0];by_cases g1 : v.f1 > 0
   (rw [if_pos g1,if_neg (fun g2=>h (hp.1 ⟨g0,g1,g2⟩))]);(rw [if_neg g1])
  (rw [if_neg g0])
theorem rRest_f {x : S39} {y : S36} (c : Int) (hx : pos3 x.f1) (hy : pos3 y.f1) (hsz : x.f0.size ≤ 1000000) : Ev (fun k=>gangsawref31_Rest.f k x.f0 x.f1.f0 x.f1.f1 x.f1.f2 x.f2 x.f3 x.f4 y.f0 y.f1.f0 y.f1.f1 y.f1.f2 y.f2 y.f3 y.f4 c) (restR x y c):=by
 unfold gangsawref31_Rest.f
 refine Ev.bind (stone_f x y) ?_
 have hp:=stone_pos (x:=x) hy;generalize hS : stoneV x y = s at hp
 have e : restR x y c = [] ++ (if 0 < lf x.f1.f0 s.f0 c then [one x 0 ⟨lf x.f1.f0 s.f0 c,x.f1.f1,x.f1.f2⟩] else []) ++ (if 0 < lf x.f1.f1 s.f1 c then [one x 1 ⟨s.f0,lf x.f1.f1 s.f1 c,x.f1.f2⟩] else []) ++ (if 0 < lf x.f1.f2 s.f2 c then [one x 2 ⟨s.f0,s.f1,lf x.f1.f2 s.f2 c⟩] else []):=by
  unfold restR restN r0 r1 r2
  rw [hS];rfl
 rw [e]
 unfold pos3 at hx hp
 have l0 : ∀ (p : Prop) [Decidable p] (a : S39),(if p then [a] else []).length ≤ 1:=by intro p _ a;split <;> simp
 refine rest_round (x:=x) (i:=0) (by omega) rfl hsz (by simp) rfl (0 < lf x.f1.f0 s.f0 c) (by show (lf x.f1.f0 s.f0 c > 0 ∧ x.f1.f1 > 0 ∧ x.f1.f2 > 0) ↔ _;omega) ?_
 refine rest_round (x:=x) (i:=1) (by omega) rfl hsz (by rw [List.nil_append];have:=l0 (0 < lf x.f1.f0 s.f0 c) (one x 0 ⟨lf x.f1.f0 s.f0 c,x.f1.f1,x.f1.f2⟩);exact Nat.le_trans this (by omega)) rfl (0 < lf x.f1.f1 s.f1 c) (by show (s.f0 > 0 ∧ lf x.f1.f1 s.f1 c > 0 ∧ x.f1.f2 > 0) ↔ _;omega) ?_
 refine rest_round (x:=x) (i:=2) (by omega) rfl hsz (by rw [List.length_append];have h1:=l0 (0 < lf x.f1.f0 s.f0 c) (one x 0 ⟨lf x.f1.f0 s.f0 c,x.f1.f1,x.f1.f2⟩);have h2:=l0 (0 < lf x.f1.f1 s.f1 c) (one x 1 ⟨s.f0,lf x.f1.f1 s.f1 c,x.f1.f2⟩);exact Nat.le_trans (Nat.add_le_add h1 h2) (by omega)) rfl (0 < lf x.f1.f2 s.f2 c) (by show (s.f0 > 0 ∧ s.f1 > 0 ∧ lf x.f1.f2 s.f2 c > 0) ↔ _;omega) ?_
 refine Ev.step (fun k=>?_) (Ev.now _)
 simp only [gangsawref31_Rest.l0];rw [if_neg (by simp)];rfl
end Go.Proofs.Ytbggjmdelnmilaa.Pure
namespace Go.Proofs.Ytbggjmdelnmilaa.Pure
open Go.RowKit Go.Proofs.Ytbggjmdelnmilaa Go.Proofs.Ytbggjmdelnmilaa.PA Go.Proofs.YtbggjmdelnmilaaW.PrintWords Go.Proofs.YtbggjmdelnmilaaW.PrintLast Go.Proofs.YtbggjmdelnmilaaW.PrintMore
set_option linter.unusedVariables false
set_option linter.unusedSimpArgs false
def Gd (x : S39) : Prop:=lexName x.f0 = true ∧ namedB x.f3 = true ∧ namedB x.f4 = true ∧ sizedB x.f1 = true ∧ tintedB x.f2 = true
structure Good (l : List S39) : Prop where
 len : l.length ≤ 256
 el : ∀ x ∈ l,Gd x
 ord : Ord l
theorem named_size {s : ByteArray} (h : namedB s = true) : s.size ≤ 24:=by
 unfold namedB at h
 rw [Bool.or_eq_true] at h
 rcases h with h|h
 ·have : s.toList = [] := by cases e : s.toList with
   | nil=>rfl
   | cons a r=>rw [e] at h;cases h
  have h2 : s.toList.length = s.size:=by rw [ByteArray.toList_eq s];simp
  rw [this] at h2
  simp at h2
  omega
 (exact (lex_size h).2)
theorem Gd.st {x : S39} (h : Gd x) : St x:=by
 have h0:=(lex_size h.1).2;have h3:=named_size h.2.1;have h4:=named_size h.2.2.1
 unfold St
 omega
theorem uns_ord (l : List S39) : unsB l = false ↔ Ord l:=by
 unfold unsB
 rw [List.any_eq_false]
 constructor
 ·intro h
  have adj : ∀ j,1 ≤ j → (hj : j < l.length) → Op.bytesLess l[j - 1].f0.toList l[j].f0.toList = true:=by
   intro j h1 hj
   have:=h j (List.mem_range.2 hj)
   rw [decide_eq_true h1,Bool.true_and] at this
   unfold oosAt at this
   have e1 : l.getD (j - 1) z39 = l[j - 1] := by simp [List.getD,show j - 1 < l.length by omega]
   have e2 : l.getD j z39 = l[j] := by simp [List.getD,hj]
   rw [e1,e2] at this
   cases hb : Op.bytesLess l[j - 1].f0.toList l[j].f0.toList with
   | true=>rfl
   | false=>rw [hb] at this;simp at this
  unfold PA.Ord
  rw [List.pairwise_iff_getElem]
  have key : ∀ d i,(hi : i < l.length) → (hj : i + d + 1 < l.length) → Op.bytesLess l[i].f0.toList l[i + d + 1].f0.toList = true:=by
   intro d
   induction d with
   | zero=>intro i hi hj;exact adj (i + 1) (by omega) hj
   | succ d ih =>
    intro i hi hj;exact bl_trans _ _ _ (ih i hi (by omega)) (adj (i + d + 1 + 1) (by omega) (by omega))
  intro i j hi hj hij
  have:=key (j - i - 1) i hi (by omega)
  have e : i + (j - i - 1) + 1 = j:=by omega
  simpa only [e] using this
 ·intro h j hj;rw [List.mem_range] at hj;by_cases h1 : 1 ≤ j
  ·rw [decide_eq_true h1,Bool.true_and]
   unfold oosAt
   have e1 : l.getD (j - 1) z39 = l[j - 1] := by simp [List.getD,show j - 1 < l.length by omega]
   have e2 : l.getD j z39 = l[j] := by simp [List.getD,hj]
   rw [e1,e2,List.pairwise_iff_getElem.1 h (j - 1) j (by omega) hj (by omega)]
   simp
  ·rw [decide_eq_false h1];simp
theorem good_iff (l : List S39) : checkR l = 0 ↔ Good l:=by
 unfold checkR
 by_cases h1 : 256 < l.length
 (rw [if_pos h1];exact ⟨fun h=>by omega,fun h=>by have:=h.len;omega⟩)
 ·rw [if_neg h1];by_cases h2 : l.any badN = true
  ·rw [if_pos h2]
   refine ⟨fun h=>by omega,fun h=>?_⟩
   obtain ⟨x,hx,hb⟩ := List.any_eq_true.1 h2;obtain ⟨g0,g1,g2,_⟩ := h.el x hx
   unfold badN at hb
   rw [g0,g1,g2] at hb
   cases hb
  ·rw [if_neg h2];by_cases h3 : l.any badR = true
   ·rw [if_pos h3]
    refine ⟨fun h=>by omega,fun h=>?_⟩
    obtain ⟨x,hx,hb⟩ := List.any_eq_true.1 h3;obtain ⟨_,_,_,g0,g1⟩ := h.el x hx
    unfold badR at hb
    rw [g0,g1] at hb
    cases hb
   ·rw [if_neg h3]
    cases h4 : unsB l with
    | true =>
     refine ⟨fun h=>by simp at h,fun h=>?_⟩
     rw [(uns_ord l).2 h.ord] at h4
     cases h4
    | false =>
     refine ⟨fun _=>⟨by omega,fun x hx=>?_,(uns_ord l).1 h4⟩,fun _=>by simp⟩
     have a:=List.any_eq_false.1 (by simpa using h2) x hx;have b:=List.any_eq_false.1 (by simpa using h3) x hx
     unfold badN at a
     unfold badR at b
     unfold Gd
     revert a b
     cases lexName x.f0 <;> cases namedB x.f3 <;> cases namedB x.f4 <;> cases sizedB x.f1 <;> cases tintedB x.f2 <;> simp
def Gw (y : S36) : Prop:=lexName y.f0 = true ∧ namedB y.f3 = true ∧ sizedB y.f1 = true ∧ tintedB y.f2 = true
theorem wants_iff (ws : List S36) (c : Int) : wantsR ws c = 0 ↔ (∀ y ∈ ws,Gw y) ∧ 0 ≤ c ∧ c ≤ 1000:=by
 unfold wantsR wantedR
 by_cases h2 : ws.any wadN = true
 ·rw [if_pos h2,if_neg (by omega)]
  refine ⟨fun h=>by omega,fun h=>?_⟩
  obtain ⟨x,hx,hb⟩ := List.any_eq_true.1 h2;obtain ⟨g0,g1,_⟩ := h.1 x hx
  unfold wadN at hb
  rw [g0,g1] at hb
  cases hb
 ·rw [if_neg h2];by_cases h3 : ws.any wadR = true
  ·rw [if_pos h3,if_neg (by omega)]
   refine ⟨fun h=>by omega,fun h=>?_⟩
   obtain ⟨x,hx,hb⟩ := List.any_eq_true.1 h3;obtain ⟨_,_,g0,g1⟩ := h.1 x hx
   unfold wadR at hb
   rw [g0,g1] at hb
   cases hb
  ·rw [if_neg h3,if_pos rfl]
   have hg : ∀ y ∈ ws,Gw y:=fun x hx=>by
    have a:=List.any_eq_false.1 (by simpa using h2) x hx;have b:=List.any_eq_false.1 (by simpa using h3) x hx
    unfold wadN at a
    unfold wadR at b
    unfold Gw
    revert a b
    cases lexName x.f0 <;> cases namedB x.f3 <;> cases sizedB x.f1 <;> cases tintedB x.f2 <;> simp
   by_cases h5 : c < 0
   (rw [if_pos h5];exact ⟨fun h=>by omega,fun h=>by omega⟩)
   ·rw [if_neg h5];by_cases h6 : c > 1000
    (rw [if_pos h6];exact ⟨fun h=>by omega,fun h=>by omega⟩);(rw [if_neg h6];exact ⟨fun _=>⟨hg,by omega,by omega⟩,fun _=>rfl⟩)
theorem ready_iff (l : List S39) (ws : List S36) (c : Int) : readyR l ws c = 0 ↔ Good l ∧ (∀ y ∈ ws,Gw y) ∧ 0 ≤ c ∧ c ≤ 1000:=by
 unfold readyR
 by_cases h : checkR l = 0
 (rw [if_pos h,wants_iff];exact ⟨fun g=>⟨(good_iff l).1 h,g⟩,fun g=>g.2⟩);(rw [if_neg h];exact ⟨fun g=>absurd g h,fun g=>absurd ((good_iff l).2 g.1) h⟩)
theorem strs_good {l : List S39} (h : ∀ x ∈ l,St x) : strsB l = true:=by
 unfold strsB
 rw [List.all_eq_true];intro x hx
 have:=h x hx
 unfold St at this
 simp only [Bool.and_eq_true,decide_eq_true_eq]
 unfold bigN
 omega
theorem Good.st {l : List S39} (h : Good l) : ∀ x ∈ l,St x:=fun x hx=>(h.el x hx).st
def tkR (l : List S39) (y : S36) (c n : Int) : T5:=if bestR l y < 0 then none5 9 else takeR l (bestR l y).toNat y c n
def endR (r : Option (List S39)) (y : S36) (x : S39) (t : Bool) : T5:=match r with
 | none=>none5 5
 | some out=>if 256 < out.length then none5 7 else (out,y.f0,x.f0,t,0)
abbrev TL1 (k : Nat) (t : Bool) (kept out : List S39) (j : Int) (y : S36) (x : S39):=gangsawref31_Take.l1 k t kept out j y.f0 y.f1.f0 y.f1.f1 y.f1.f2 y.f2 y.f3 y.f4 x.f0 x.f1.f0 x.f1.f1 x.f1.f2 x.f2 x.f3 x.f4
abbrev TL0 (k : Nat) (l : List S39) (n a : Int) (t : Bool) (acc all : List S39) (i : Int) (y : S36) (x : S39):=gangsawref31_Take.l0 k l n a t acc all i y.f0 y.f1.f0 y.f1.f1 y.f1.f2 y.f2 y.f3 y.f4 x.f0 x.f1.f0 x.f1.f1 x.f1.f2 x.f2 x.f3 x.f4
theorem put_f {out : List S39} (r : S39) (ho : Ord out) (hl : out.length ≤ 100000) : gangsawref31_put.f out r.f0 r.f1.f0 r.f1.f1 r.f1.f2 r.f2 r.f3 r.f4 = some (if foundB out r = true then (out,false) else (putR out r,true)):=by
 unfold gangsawref31_put.f
 rw [if_pos ⟨ho,by unfold room;omega⟩]
theorem tk_l1 (y : S36) (x : S39) (t : Bool) (kept : List S39) (hk : kept.length ≤ 3) : ∀ (d j : Nat) (out : List S39),j + d = kept.length → Ord out → out.length ≤ 1000 + j → Ev (fun k=>TL1 k t kept out (j : Int) y x) (endR (insAll out (kept.drop j)) y x t):=by
 intro d
 induction d with
 | zero =>
  intro j out hj ho hl;rw [List.drop_of_length_le (by omega),insAll_nil]
  unfold endR
  refine Ev.step (f:=fun _=>if (out.length : Int) > 256 then (some (none5 7)) else (some (out,y.f0,x.f0,t,0))) (fun k=>?_) ?_
  ·show gangsawref31_Take.l1 (k + 1) t kept out (j : Int) y.f0 y.f1.f0 y.f1.f1 y.f1.f2 y.f2 y.f3 y.f4 x.f0 x.f1.f0 x.f1.f1 x.f1.f2 x.f2 x.f3 x.f4 = _
   simp only [gangsawref31_Take.l1];rw [if_neg (by omega)];rfl
  ·by_cases h : 256 < out.length
   (simp only [if_pos h];exact Ev.congr (fun k=>if_pos (by omega)) (Ev.now _));(simp only [if_neg h];exact Ev.congr (fun k=>if_neg (by omega)) (Ev.now _))
 | succ d ih =>
  intro j out hj ho hl
  have hlt : j < kept.length:=by omega
  rw [drop_at hlt,insAll_cons]
  refine Ev.step (f:=fun k=>(gangsawref31_put.f out kept[j].f0 kept[j].f1.f0 kept[j].f1.f1 kept[j].f1.f2 kept[j].f2 kept[j].f3 kept[j].f4).bind fun bt552=>(if bt552.2 = true then (TL1 k t kept bt552.1 ((j + 1 : Nat) : Int) y x) else (some (none5 5)))) (fun k=>?_) ?_
  ·show gangsawref31_Take.l1 (k + 1) t kept out (j : Int) y.f0 y.f1.f0 y.f1.f1 y.f1.f2 y.f2 y.f3 y.f4 x.f0 x.f1.f0 x.f1.f1 x.f1.f2 x.f2 x.f3 x.f4 = _
   simp only [gangsawref31_Take.l1];rw [if_pos (by omega),if_pos (by omega),rd39 hlt,w1 (by omega)];rfl
  ·rw [put_f _ ho (by omega)]
   cases hf : foundB out kept[j] with
   | true =>
    rw [if_pos rfl,if_pos rfl];exact Ev.congr (fun k=>by rfl) (Ev.now _)
   | false =>
    rw [if_neg (by simp),if_neg (by simp)];exact Ev.congr (fun k=>by rfl) (ih (j + 1) (putR out kept[j]) (by omega) (ho.put hf) (by rw [putR_len];omega))
theorem tk_l0 (y : S36) (x : S39) (t : Bool) (l : List S39) (a : Nat) (n : Int) (all : List S39) (hall : all.length ≤ 3) (ha : a < l.length) (hlen : l.length ≤ 256) (ho : Ord l) : ∀ (d i : Nat) (acc : List S39), i + d = all.length → acc.length ≤ i →
  Ev (fun k=>TL0 k l n (a : Int) t acc all (i : Int) y x) (if ((acc ++ (all.drop i).filter fun r=>!smallB n r).any fun r=>decide (24 < r.f0.size)) = true then none5 4 else endR (insAll (l.take a ++ l.drop (a + 1)) (acc ++ (all.drop i).filter fun r=>!smallB n r)) y x t):=by
 intro d
 induction d with
 | zero =>
  intro i acc hi hacc;rw [List.drop_of_length_le (by omega),List.filter_nil,List.append_nil]
  refine Ev.step (f:=fun k=>(gangsawref31_long.f k acc).bind fun t533=>(if t533 = true then (some (none5 4)) else (TL1 k t acc (([] ++ l.take a) ++ l.drop (a + 1)) ((0 : Nat) : Int) y x))) (fun k=>?_) ?_
  ·show gangsawref31_Take.l0 (k + 1) l n (a : Int) t acc all (i : Int) y.f0 y.f1.f0 y.f1.f1 y.f1.f2 y.f2 y.f3 y.f4 x.f0 x.f1.f0 x.f1.f1 x.f1.f2 x.f2 x.f3 x.f4 = _
   simp only [gangsawref31_Take.l0];rw [if_neg (by omega)]
   congr 1
   funext t533
   cases t533 with
   | true=>rw [if_pos rfl,if_pos rfl];rfl
   | false =>
    have e1 : ([] : List S39).length + (l.take ((a : Int)).toNat).length < 1759218604441:=by rw [List.length_nil,List.length_take,Int.toNat_natCast];omega
    have e2 : (([] : List S39) ++ l.take ((a : Int)).toNat).length + (l.drop (((a + 1 : Nat) : Int)).toNat).length < 1759218604441:=by rw [List.length_append,List.length_nil,List.length_take,List.length_drop,Int.toNat_natCast,Int.toNat_natCast];omega
    rw [if_neg (show ¬ (false = true) by decide),if_neg (show ¬ (false = true) by decide),Option.bind_some,if_pos (show (0 : Int) ≤ (a : Int) by omega),if_pos (show (a : Int) ≤ (l.length : Int) by omega),Option.bind_some,if_pos e1,Option.bind_some,w1 (by omega),if_pos (show (0 : Int) ≤ ((a + 1 : Nat) : Int) by omega),if_pos (show ((a + 1 : Nat) : Int) ≤ (l.length : Int) by omega),Option.bind_some,if_pos e2,Int.toNat_natCast,Int.toNat_natCast];rfl
  ·refine Ev.bind (long_f acc (by omega)) ?_
   cases (acc.any fun r=>decide (24 < r.f0.size)) with
   | true =>
    rw [if_pos rfl];exact Ev.congr (fun k=>by rfl) (Ev.now _)
   | false =>
    rw [if_neg (by simp)];have H:=tk_l1 y x t acc (by omega) acc.length 0 (([] ++ l.take a) ++ l.drop (a + 1)) (by omega) (by rw [List.nil_append];exact ho.less a) (by simp;omega);rw [List.drop_zero,List.nil_append] at H;exact Ev.congr (fun k=>if_neg (by simp)) H
 | succ d ih =>
  intro i acc hi hacc
  have hlt : i < all.length:=by omega
  rw [drop_at hlt,List.filter_cons];by_cases h : all[i].f1.f0 ≥ n ∧ all[i].f1.f1 ≥ n ∧ all[i].f1.f2 ≥ n
  ·have hb : (!smallB n all[i]) = true:=by unfold smallB min3;simp only [Bool.not_eq_true',decide_eq_false_iff_not];omega
   rw [if_pos hb,← List.singleton_append,← List.append_assoc]
   refine Ev.step (fun k=>?_) (ih (i + 1) (acc ++ [all[i]]) (by omega) (by simp;omega))
   show gangsawref31_Take.l0 (k + 1) l n (a : Int) t acc all (i : Int) y.f0 y.f1.f0 y.f1.f1 y.f1.f2 y.f2 y.f3 y.f4 x.f0 x.f1.f0 x.f1.f1 x.f1.f2 x.f2 x.f3 x.f4 = _
   simp only [gangsawref31_Take.l0];rw [if_pos (by omega),if_pos (by omega),rd39 hlt,if_pos h.1,if_pos h.2.1,if_pos h.2.2,if_pos (by omega),w1 (by omega)]
  ·have hb : ¬ (!smallB n all[i]) = true:=by unfold smallB min3;simp only [Bool.not_eq_true',decide_eq_false_iff_not];omega
   rw [if_neg hb]
   refine Ev.step (fun k=>?_) (ih (i + 1) acc (by omega) (by omega))
   show gangsawref31_Take.l0 (k + 1) l n (a : Int) t acc all (i : Int) y.f0 y.f1.f0 y.f1.f1 y.f1.f2 y.f2 y.f3 y.f4 x.f0 x.f1.f0 x.f1.f1 x.f1.f2 x.f2 x.f3 x.f4 = _
   simp only [gangsawref31_Take.l0];rw [if_pos (by omega),if_pos (by omega),rd39 hlt,w1 (by omega)];by_cases g0 : all[i].f1.f0 ≥ n
   ·rw [if_pos g0];by_cases g1 : all[i].f1.f1 ≥ n
    (rw [if_pos g1,if_neg (fun g2=>h ⟨g0,g1,g2⟩)]);(rw [if_neg g1])
   (rw [if_neg g0])
theorem rTake_f {l : List S39} {y : S36} (c n : Int) (hg : Good l) (hy : Gw y) : Ev (fun k=>gangsawref31_Take.f k l y.f0 y.f1.f0 y.f1.f1 y.f1.f2 y.f2 y.f3 y.f4 c n) (tkR l y c n):=by
 have hlen:=hg.len
 unfold gangsawref31_Take.f tkR
 refine Ev.bind (rbest_f l y (by omega)) ?_
 rcases bestR_spec l y with ⟨h1,_⟩|⟨h0,h1,h2⟩
 (rw [h1,if_pos (by omega)];exact Ev.congr (fun k=>if_pos (by omega)) (Ev.now _))
 ·rw [if_neg (by omega)]
  obtain ⟨a,ha⟩ : ∃ a : Nat,bestR l y = a:=⟨(bestR l y).toNat,by omega⟩
  rw [ha] at h1 h2 ⊢;rw [Int.toNat_natCast] at h2 ⊢
  have hal : a < l.length:=by omega
  refine Ev.congr (fun k=>by rw [if_neg (by omega),if_pos (by omega),if_pos (by omega),rdD]) ?_
  have hx : l.getD a z39 ∈ l:=by
   rw [List.getD_eq_getElem?_getD,List.getElem?_eq_getElem hal];exact List.getElem_mem _
  unfold takeR
  have hgx:=hg.el _ hx;generalize l.getD a z39 = x at h2 hgx ⊢;have hlx:=lex_size hgx.1
  refine Ev.bind (rfits_e x y) (Ev.bind (rRest_f c (sized_pos hgx.2.2.2.1).1 (sized_pos hy.2.2.1).1 (by omega)) ?_)
  have H:=tk_l0 y x (fitsB x y).2 l a n (restR x y c) (restN_len _ _ _ _) hal hlen hg.ord (restR x y c).length 0 [] (by omega) (by simp);rw [List.drop_zero,List.nil_append] at H;have e : ((keptR x y c n).any fun r=>!lexName r.f0) = ((keptR x y c n).any fun r=>decide (24 < r.f0.size)):=nameless_long hgx.1 (fun r hr=>rest_mem (List.mem_filter.1 hr).1);rw [e];exact H
def lastB (n : Int) : Bool:=decide (1 ≤ n) && decide (n ≤ 1000000)
theorem lasting_f (n : Int) : offcut_lasting.f n = some (lastB n):=by
 unfold offcut_lasting.f lastB
 by_cases h : n ≥ 1
 (rw [if_pos h,decide_eq_true (show 1 ≤ n from h),Bool.true_and]);(rw [if_neg h,decide_eq_false (show ¬ 1 ≤ n from h),Bool.false_and])
theorem take_f {l : List S39} {i : Nat} (y : S36) (c n : Int) (hg : Good l) (hi : i < l.length) : offcut_take.f l (i : Int) y.f0 y.f1.f0 y.f1.f1 y.f1.f2 y.f2 y.f3 y.f4 c n = some (takeR l i y c n):=by
 have hx : l.getD i z39 ∈ l:=by
  rw [List.getD_eq_getElem?_getD,List.getElem?_eq_getElem hi];exact List.getElem_mem _
 have:=lex_size (hg.el _ hx).1
 have hlen:=hg.len
 unfold offcut_take.f
 rw [Int.toNat_natCast,if_pos ⟨by omega,hi,by unfold bigN;omega,hg.ord,by unfold room;omega⟩]
def takeA (l : List S39) (y : S36) (c n : Int) : T5:=if readyR l [y] c = 0 then (if lastB n = true then tkR l y c n else none5 6) else none5 (readyR l [y] c)
theorem oTake_f (l : List S39) (y : S36) (c n : Int) (h1 : strsB l = true) (h2 : strsWB [y] = true) : Ev (fun k=>offcut_Take.f k l y.f0 y.f1.f0 y.f1.f1 y.f1.f2 y.f2 y.f3 y.f4 c n) (takeA l y c n):=by
 unfold offcut_Take.f takeA
 rw [show offcut_ready.f l [(⟨y.f0,⟨y.f1.f0,y.f1.f1,y.f1.f2⟩,y.f2,y.f3,y.f4⟩ : S36)] c = some (readyR l [y] c) from ready_f c h1 h2];by_cases h : readyR l [y] c = 0
 ·rw [if_pos h];have hg:=(ready_iff l [y] c).1 h;have hlen:=hg.1.len
  refine Ev.congr (fun k=>by rw [Option.bind_some,if_pos h,lasting_f,Option.bind_some]) ?_
  cases lastB n with
  | false=>exact Ev.congr (fun k=>by rfl) (Ev.now _)
  | true =>
   rw [if_pos rfl]
   refine Ev.congr (fun k=>if_pos rfl) (Ev.bind (best_f l y (by omega)) ?_)
   unfold tkR
   rcases bestR_spec l y with ⟨h1,_⟩|⟨h0,h1,h2⟩
   (rw [h1,if_pos (by omega),if_pos (by omega)];exact Ev.now _)
   ·rw [if_neg (by omega),if_neg (by omega)]
    obtain ⟨a,ha⟩ : ∃ a : Nat,bestR l y = a:=⟨(bestR l y).toNat,by omega⟩
    rw [ha] at h1 ⊢;rw [Int.toNat_natCast];rw [take_f y c n hg.1 (by omega),Option.bind_some];exact Ev.now _
 (rw [if_neg h];exact Ev.congr (fun k=>by rw [Option.bind_some,if_neg h];rfl) (Ev.now _))
end Go.Proofs.Ytbggjmdelnmilaa.Pure
