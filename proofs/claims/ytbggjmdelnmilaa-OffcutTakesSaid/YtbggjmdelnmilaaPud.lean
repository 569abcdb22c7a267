import Derived.Test.YtbggjmdelnmilaaPAx15
import Derived.Test.YtbggjmdelnmilaaPub
import Derived.Test.YtbggjmdelnmilaaPuc
namespace Go.Proofs.Ytbggjmdelnmilaa.Pure
open Go.RowKit Go.Proofs.Ytbggjmdelnmilaa Go.Proofs.Ytbggjmdelnmilaa.PA Go.Proofs.YtbggjmdelnmilaaW.PrintWords Go.Proofs.YtbggjmdelnmilaaW.PrintLast Go.Proofs.YtbggjmdelnmilaaW.PrintMore
set_option linter.unusedVariables false
set_option linter.unusedSimpArgs false
theorem abc_list : ∀ i,i < 3 → (abc i).data.toList = [(97 + i).toUInt8] := by decide +kernel
theorem abc_len : ∀ i,i < 3 → (abc i).size = 1:=by decide +kernel
theorem abc_nm : ∀ i,i < 3 → isNm (((97 + i).toUInt8).toNat : Int) = true:=by decide +kernel
theorem snoc_size (s : ByteArray) {i : Nat} (hi : i < 3) : (s ++ abc i).size = s.size + 1:=by rw [ByteArray.size_append,abc_len i hi]
theorem lex_size {s : ByteArray} (h : lexName s = true) : 0 < s.size ∧ s.size ≤ 24:=by
 unfold lexName at h
 split at h
 ·rename_i h0
  simp only [Bool.and_eq_true,decide_eq_true_eq] at h;exact ⟨h0,h.1⟩
 ·cases h
theorem lex_snoc {s : ByteArray} (h : lexName s = true) {i : Nat} (hi : i < 3) : lexName (s ++ abc i) = decide (s.size + 1 ≤ 24):=by
 obtain ⟨h0,h24⟩ := lex_size h;have hsz:=snoc_size s hi
 have h1 : 0 < (s ++ abc i).size:=by omega
 unfold lexName at h ⊢
 rw [dif_pos h0] at h;rw [dif_pos h1];simp only [Bool.and_eq_true,decide_eq_true_eq] at h;obtain ⟨_,ha,hb,hr⟩ := h;have e0 : (s ++ abc i)[0]'h1 = s[0]'h0:=ByteArray.getElem_append_left h0
 have hrun : runOf isNm (s ++ abc i).data.toList = (s ++ abc i).size:=by
  unfold runOf at hr ⊢
  rw [ByteArray.data_append,Array.toList_append,abc_list i hi]
  have hl : s.data.toList.length = s.size:=by simp
  have hall : s.data.toList.takeWhile (fun b=>isNm (b.toNat : Int)) = s.data.toList:=List.IsPrefix.eq_of_length (List.takeWhile_prefix _) (by rw [hr,hl]);rw [List.takeWhile_append,hall,if_pos rfl,List.takeWhile_cons,abc_nm i hi,if_pos rfl,List.length_append,hl,hsz];rfl
 rw [e0,hrun,hsz,decide_eq_true ha,decide_eq_true hb]
 simp
theorem rest_mem {x : S39} {y : S36} {k : Int} {r : S39} (h : r ∈ restR x y k) : ∃ i v,i < 3 ∧ r = one x i v:=by
 unfold restR restN r0 r1 r2 at h
 simp only [List.mem_append] at h
 rcases h with (h|h)|h
 ·split at h
  (rw [List.mem_singleton] at h;exact ⟨0,_,by omega,h⟩)
  ·cases h
 ·split at h
  (rw [List.mem_singleton] at h;exact ⟨1,_,by omega,h⟩)
  ·cases h
 ·split at h
  (rw [List.mem_singleton] at h;exact ⟨2,_,by omega,h⟩)
  ·cases h
theorem any_congr {α : Type} {p q : α → Bool} : ∀ {l : List α},(∀ x ∈ l,p x = q x) → l.any p = l.any q
 | [],_=>rfl
 | a :: l,h=>by rw [List.any_cons,List.any_cons,h a (by simp),any_congr (l:=l) (fun x hx=>h x (by simp [hx]))]
theorem nameless_long {x : S39} (hx : lexName x.f0 = true) {l : List S39} (h : ∀ r ∈ l,∃ i v,i < 3 ∧ r = one x i v) : (l.any fun r=>!lexName r.f0) = (l.any fun r=>decide (24 < r.f0.size)):=by
 refine any_congr (fun r hr=>?_)
 obtain ⟨i,v,hi,rfl⟩ := h r hr
 show (!lexName (x.f0 ++ abc i)) = decide (24 < (x.f0 ++ abc i).size)
 rw [lex_snoc hx hi,snoc_size _ hi,Bool.eq_iff_iff];simp only [Bool.not_eq_true',decide_eq_false_iff_not,decide_eq_true_eq]
 omega
theorem long_l0 (l : List S39) (hl : l.length ≤ 1000000) : ∀ d i : Nat,i + d = l.length → Ev (fun k=>gangsawref31_long.l0 k l (i : Int)) ((l.drop i).any fun r=>decide (24 < r.f0.size)):=by
 intro d
 induction d with
 | zero =>
  intro i hi;rw [List.drop_of_length_le (by omega)]
  refine Ev.step (f:=fun _=>some false) (fun k=>?_) (Ev.now _)
  simp only [gangsawref31_long.l0];rw [if_neg (by omega)]
 | succ d ih =>
  intro i hi
  have hlt : i < l.length:=by omega
  rw [drop_at hlt,List.any_cons];by_cases h : 24 < l[i].f0.size
  ·rw [decide_eq_true h,Bool.true_or]
   refine Ev.step (f:=fun _=>some true) (fun k=>?_) (Ev.now _)
   simp only [gangsawref31_long.l0];rw [if_pos (by omega),if_pos (by omega),rd39 hlt,if_pos (by omega)]
  ·rw [decide_eq_false h,Bool.false_or]
   refine Ev.step (fun k=>?_) (ih (i + 1) (by omega))
   simp only [gangsawref31_long.l0];rw [if_pos (by omega),if_pos (by omega),rd39 hlt,if_neg (by omega),w1 (by omega)]
theorem long_f (l : List S39) (hl : l.length ≤ 1000000) : Ev (fun k=>gangsawref31_long.f k l) (l.any fun r=>decide (24 < r.f0.size)):=by
 have h:=long_l0 l hl l.length 0 (by omega);rw [List.drop_zero] at h;exact h
theorem stone_f (x : S39) (y : S36) : Ev (fun k=>gangsawref31_Stone.f k x.f0 x.f1.f0 x.f1.f1 x.f1.f2 x.f2 x.f3 x.f4 y.f0 y.f1.f0 y.f1.f1 y.f1.f2 y.f2 y.f3 y.f4) ((stoneV x y).f0,(stoneV x y).f1,(stoneV x y).f2):=by
 unfold gangsawref31_Stone.f stoneV
 refine Ev.bind (rfits_e x y) ?_
 cases (fitsB x y).2 with
 | true=>exact Ev.congr (fun k=>if_pos rfl) (Ev.congr (fun k=>by unfold gangsawref31_turned.f;rfl) (Ev.now _))
 | false=>exact Ev.congr (fun k=>if_neg (by simp)) (Ev.now _)
def pos3 (v : S24) : Prop:=1 ≤ v.f0 ∧ 1 ≤ v.f1 ∧ 1 ≤ v.f2
theorem sized_pos {v : S24} (h : sizedB v = true) : pos3 v ∧ v.f0 ≤ 1000000 ∧ v.f1 ≤ 1000000 ∧ v.f2 ≤ 1000000:=by
 unfold sizedB min3 max3 at h
 simp only [Bool.and_eq_true,decide_eq_true_eq] at h
 unfold pos3
 omega
theorem stone_pos {x : S39} {y : S36} (h : pos3 y.f1) : pos3 (stoneV x y):=by
 unfold stoneV
 unfold pos3 at *
 split
 ·unfold swapV;exact ⟨h.2.1,h.1,h.2.2⟩
 (exact h)
abbrev RL (k : Nat) (acc : List S39) (ss : List S24) (i : Int) (x : S39):=gangsawref31_Rest.l0 k acc ss i x.f0 x.f1.f0 x.f1.f1 x.f1.f2 x.f2 x.f3 x.f4
theorem rest_round {x : S39} {acc : List S39} {ss : List S24} {i : Nat} (hi : i < 3) (hs : ss.length = 3) (hsz : x.f0.size ≤ 1000000) (hacc : acc.length ≤ 3) {v : S24} (hv : rd_T24 ss (i : Int) = v) {R : List S39} (p : Prop) [Decidable p] (hp : (v.f0 > 0 ∧ v.f1 > 0 ∧ v.f2 > 0) ↔ p)
  (H : Ev (fun k=>RL k (acc ++ (if p then [one x i v] else [])) ss ((i + 1 : Nat) : Int) x) R) : Ev (fun k=>RL k acc ss (i : Int) x) R:=by
 refine Ev.step (fun k=>?_) H
 show gangsawref31_Rest.l0 (k + 1) acc ss (i : Int) x.f0 x.f1.f0 x.f1.f1 x.f1.f2 x.f2 x.f3 x.f4 = _
 simp only [gangsawref31_Rest.l0];rw [if_pos (by omega),if_pos (by omega),hv,w1 (by omega)]
 have ha : (⟨#[97,98,99]⟩ : ByteArray).extract (i : Int).toNat ((i + 1 : Nat) : Int).toNat = abc i:=by rw [Int.toNat_natCast,Int.toNat_natCast];rfl
 have hb:=abc_len i hi;by_cases h : p
 (obtain ⟨g0,g1,g2⟩ := hp.2 h;rw [if_pos g0,if_pos g1,if_pos g2,if_pos (by omega),if_pos (by omega),ha,if_pos (by omega),if_pos (by omega),if_pos h];rfl)
 ·rw [if_neg h,List.append_nil];by_cases g0 : v.f0 > 0
  ·rw [if_pos g0];by_cases g1 : v.f1 > 0
   (rw [if_pos g1,if_neg (fun g2=>h (hp.1 ⟨g0,g1,g2⟩))]);(rw [if_neg g1])
  (rw [if_neg g0])
theorem rRest_f {x : S39} {y : S36} (c : Int) (hx : pos3 x.f1) (hy : pos3 y.f1) (hsz : x.f0.size ≤ 1000000) : Ev (fun k=>gangsawref31_Rest.f k x.f0 x.f1.f0 x.f1.f1 x.f1.f2 x.f2 x.f3 x.f4 y.f0 y.f1.f0 y.f1.f1 y.f1.f2 y.f2 y.f3 y.f4 c) (restR x y c):=by
 unfold gangsawref31_Rest.f
 refine Ev.bind (stone_f x y) ?_
 have hp:=stone_pos (x:=x) hy;generalize hS : stoneV x y = s at hp
 have e : restR x y c = [] ++ (if 0 < lf x.f1.f0 s.f0 c then [one x 0 ⟨lf x.f1.f0 s.f0 c,x.f1.f1,x.f1.f2⟩] else []) ++ (if 0 < lf x.f1.f1 s.f1 c then [one x 1 ⟨s.f0,lf x.f1.f1 s.f1 c,x.f1.f2⟩] else []) ++ (if 0 < lf x.f1.f2 s.f2 c then [one x 2 ⟨s.f0,s.f1,lf x.f1.f2 s.f2 c⟩] else []):=by
  unfold restR restN r0 r1 r2
  rw [hS];rfl
 rw [e]
 unfold pos3 at hx hp
 have l0 : ∀ (p : Prop) [Decidable p] (a : S39),(if p then [a] else []).length ≤ 1:=by intro p _ a;split <;> simp
 refine rest_round (x:=x) (i:=0) (by omega) rfl hsz (by simp) rfl (0 < lf x.f1.f0 s.f0 c) (by show (lf x.f1.f0 s.f0 c > 0 ∧ x.f1.f1 > 0 ∧ x.f1.f2 > 0) ↔ _;omega) ?_
 refine rest_round (x:=x) (i:=1) (by omega) rfl hsz (by rw [List.nil_append];have:=l0 (0 < lf x.f1.f0 s.f0 c) (one x 0 ⟨lf x.f1.f0 s.f0 c,x.f1.f1,x.f1.f2⟩);exact Nat.le_trans this (by omega)) rfl (0 < lf x.f1.f1 s.f1 c) (by show (s.f0 > 0 ∧ lf x.f1.f1 s.f1 c > 0 ∧ x.f1.f2 > 0) ↔ _;omega) ?_
 refine rest_round (x:=x) (i:=2) (by omega) rfl hsz (by rw [List.length_append];have h1:=l0 (0 < lf x.f1.f0 s.f0 c) (one x 0 ⟨lf x.f1.f0 s.f0 c,x.f1.f1,x.f1.f2⟩);have h2:=l0 (0 < lf x.f1.f1 s.f1 c) (one x 1 ⟨s.f0,lf x.f1.f1 s.f1 c,x.f1.f2⟩);exact Nat.le_trans (Nat.add_le_add h1 h2) (by omega)) rfl (0 < lf x.f1.f2 s.f2 c) (by show (s.f0 > 0 ∧ s.f1 > 0 ∧ lf x.f1.f2 s.f2 c > 0) ↔ _;omega) ?_
 refine Ev.step (fun k=>?_) (Ev.now _)
 simp only [gangsawref31_Rest.l0];rw [if_neg (by simp)];rfl
end Go.Proofs.Ytbggjmdelnmilaa.Pure
