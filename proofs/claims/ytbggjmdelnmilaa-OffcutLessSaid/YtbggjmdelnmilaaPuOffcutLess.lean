import Derived.Test.YtbggjmdelnmilaaPAx9
import Derived.Test.YtbggjmdelnmilaaPuf
import Derived.Test.YtbggjmdelnmilaaPuh
import Derived.Test.YtbggjmdelnmilaaPuj
namespace Go.Proofs.Ytbggjmdelnmilaa.Pure
open Go.RowKit Go.Proofs.Ytbggjmdelnmilaa Go.Proofs.Ytbggjmdelnmilaa.PA Go.Proofs.YtbggjmdelnmilaaW.PrintWords Go.Proofs.YtbggjmdelnmilaaW.PrintLast Go.Proofs.YtbggjmdelnmilaaW.PrintMore
set_option linter.unusedVariables false
set_option linter.unusedSimpArgs false
theorem takeA_cases (l : List S39) (y : S36) (c n : Int) : (∃ e,e ≠ 0 ∧ takeA l y c n = none5 e) ∨ (readyR l [y] c = 0 ∧ takeA l y c n = tkR l y c n ∧ (tkR l y c n).2.2.2.2 = 0):=by
 unfold takeA
 by_cases h : readyR l [y] c = 0
 ·rw [if_pos h]
  cases lastB n with
  | false=>exact .inl ⟨6,by decide,rfl⟩
  | true =>
   rw [if_pos rfl]
   rcases tkR_err l y c n with h1|h1
   (exact .inr ⟨h,rfl,h1⟩);(exact .inl ⟨_,h1.2,h1.1⟩)
 (rw [if_neg h];exact .inl ⟨_,h,rfl⟩)
theorem less_nil : (⟨#[]⟩ : ByteArray).toList = ([] : List UInt8):=by rw [ByteArray.toList_eq]
theorem less_none (e : Int) : (if (((none5 e).1.length : Nat) : Int) = 0 then (some ((none5 e).2.1.toList == ([] : List UInt8) && ((none5 e).2.2.1.toList == ([] : List UInt8) && (!(none5 e).2.2.2.1)))) else none) = some true:=by
 show (if ((0 : Nat) : Int) = 0 then (some ((⟨#[]⟩ : ByteArray).toList == ([] : List UInt8) && ((⟨#[]⟩ : ByteArray).toList == ([] : List UInt8) && (!false)))) else none) = some true
 rw [less_nil];rfl
abbrev Z0 (k : Nat) (l o : List S39) (b : Bool) (i : Int) (w : S26) (u v : ByteArray) (t : Bool):=gangsawlaw31_OffcutLess.l0 k l o b i w.f0 w.f1.f0 w.f1.f1 w.f1.f2 w.f2 w.f3 w.f4 u v t
abbrev Z1 (k : Nat) (l o : List S39) (b : Bool) (i : Int) (w : S26) (u v : ByteArray) (t : Bool):=gangsawlaw31_OffcutLess.l1 k l o b i w.f0 w.f1.f0 w.f1.f1 w.f1.f2 w.f2 w.f3 w.f4 u v t
theorem less_l0 (l o : List S39) (w : S26) (u v : ByteArray) (t : Bool) (hl : l.length ≤ 1000000) {R : Bool} (hR : Ev (fun k=>Z1 k l o true 0 w u v t) R) : ∀ (d i : Nat) (b : Bool),i + d = l.length → (b = true ∨ ∃ x ∈ l.drop i,x.f0.toList = v.toList) → Ev (fun k=>Z0 k l o b (i : Int) w u v t) R:=by
 intro d
 induction d with
 | zero =>
  intro i b hi hb
  rcases hb with rfl|⟨x,hx,_⟩
  ·refine Ev.step (fun k=>?_) hR
   show gangsawlaw31_OffcutLess.l0 (k + 1) l o true (i : Int) w.f0 w.f1.f0 w.f1.f1 w.f1.f2 w.f2 w.f3 w.f4 u v t = _
   simp only [gangsawlaw31_OffcutLess.l0];rw [if_neg (by omega)]
  ·rw [List.drop_of_length_le (by omega)] at hx
   cases hx
 | succ d ih =>
  intro i b hi hb
  have hlt : i < l.length:=by omega
  cases b with
  | true =>
   refine Ev.step (fun k=>?_) (ih (i + 1) true (by omega) (.inl rfl))
   show gangsawlaw31_OffcutLess.l0 (k + 1) l o true (i : Int) w.f0 w.f1.f0 w.f1.f1 w.f1.f2 w.f2 w.f3 w.f4 u v t = _
   simp only [gangsawlaw31_OffcutLess.l0];rw [if_pos (by omega),if_pos trivial,w1 (by omega)]
  | false =>
   refine Ev.step (fun k=>?_) (ih (i + 1) (l[i].f0.toList == v.toList) (by omega) ?_)
   ·show gangsawlaw31_OffcutLess.l0 (k + 1) l o false (i : Int) w.f0 w.f1.f0 w.f1.f1 w.f1.f2 w.f2 w.f3 w.f4 u v t = _
    simp only [gangsawlaw31_OffcutLess.l0];rw [if_pos (by omega),if_neg (by decide),if_pos (by omega),rd39 hlt,w1 (by omega)]
   ·rcases hb with hb|⟨x,hx,hv⟩
    ·cases hb
    ·rw [drop_at hlt,List.mem_cons] at hx
     rcases hx with rfl|hx
     (exact .inl (by rw [hv];exact beq_self_eq_true _));(exact .inr ⟨x,hx,hv⟩)
theorem less_l1 (l o : List S39) (w : S26) (u v : ByteArray) (t : Bool) (hl : o.length ≤ 1000000) (hg : Good l) (ho : Good o) (hu : u.toList = w.f0.toList) (hv : ∀ x ∈ o,x.f0.toList ≠ v.toList) (hpw : pos3 w.f1 ∧ w.f1.f0 ≤ 1000000 ∧ w.f1.f1 ≤ 1000000 ∧ w.f1.f2 ≤ 1000000) (hvol : vs o + vol w.f1 ≤ vs l) : ∀ (d i : Nat),i + d = o.length → Ev (fun k=>Z1 k l o true (i : Int) w u v t) true:=by
 intro d
 induction d with
 | zero =>
  intro i hi;have hvw:=vol_rng hpw.1 hpw.2.1 hpw.2.2.1 hpw.2.2.2;have hvr : wrap64 ((wrap64 (w.f1.f0 * w.f1.f1)) * w.f1.f2) = vol w.f1:=volR_eq hpw.1 hpw.2.1 hpw.2.2.1 hpw.2.2.2;have hno:=vs_nn ho.el;have H1:=oVolume_f l (strs_good hg.st);have H2:=oVolume_f o (strs_good ho.st);rw [volA_good hg] at H1;rw [volA_good ho] at H2
  show Ev (fun k=>gangsawlaw31_OffcutLess.l1 k l o true (i : Int) w.f0 w.f1.f0 w.f1.f1 w.f1.f2 w.f2 w.f3 w.f4 u v t) true
  refine Ev.step (fun k=>(by rw [gangsawlaw31_OffcutLess.l1])) (Ev.congr (fun k=>if_neg (by omega)) ?_)
  refine Ev.bind H1 (Ev.bind H2 ?_)
  ·by_cases hb : vs l ≤ 8000000000000000000
   ·rw [if_pos hb,if_pos (show vs o ≤ 8000000000000000000 by omega),check_f (strs_good ho.st),(good_iff o).2 ho,hvr]
    refine Ev.congr (fun k=>?_) (Ev.now _)
    show (if (0 : Int) = 0 then (if true = true then (if (0 : Int) = 0 then (if u.toList = w.f0.toList then ((some (0 : Int)).bind fun t303=>(if t303 = 0 then (some (decide (wrap64 (vs o + vol w.f1) ≤ vs l))) else none)) else none) else none) else none) else _) = some true
    rw [if_pos rfl,if_pos rfl,if_pos rfl,if_pos hu,Option.bind_some,if_pos rfl,w64 (by omega) (by omega),decide_eq_true hvol]
   (rw [if_neg hb];exact Ev.congr (fun k=>by rfl) (Ev.now _))
 | succ d ih =>
  intro i hi
  have hlt : i < o.length:=by omega
  refine Ev.step (fun k=>?_) (ih (i + 1) (by omega))
  show gangsawlaw31_OffcutLess.l1 (k + 1) l o true (i : Int) w.f0 w.f1.f0 w.f1.f1 w.f1.f2 w.f2 w.f3 w.f4 u v t = _
  simp only [gangsawlaw31_OffcutLess.l1];rw [if_pos (by omega),if_pos (by omega),rd39 hlt,if_neg (hv _ (List.getElem_mem hlt)),w1 (by omega)]
theorem less_j0 (l : List S39) (w : S26) (c n : Int) (hl : ∀ x ∈ l,St x) (hw : Sw w) : Ev (fun k=>gangsawlaw31_OffcutLess.j0 k l c n false w.f0 w.f1.f0 w.f1.f1 w.f1.f2 w.f2 w.f3 w.f4) true:=by
 have hs:=strs_good hl
 refine Ev.step (fun k=>(by rw [gangsawlaw31_OffcutLess.j0])) (Ev.congr (fun k=>if_neg (by decide)) ?_)
 refine Ev.bind (Ev.now (w.f0,w.f1.f0,w.f1.f1,w.f1.f2,w.f2,w.f3,w.f4)) ?_
 refine Ev.bind (oTake_f l (cv w) c n hs hw.strs) ?_
 rcases takeA_cases l (cv w) c n with ⟨e,he,h⟩|⟨hr,h,h0⟩
 (rw [h];exact Ev.congr (fun k=>by show (if e = 0 then _ else _) = _;rw [if_neg he];exact less_none e) (Ev.now _))
 ·rw [h];obtain ⟨hg,hgw,hc0,hc1⟩ := (ready_iff l [cv w] c).1 hr;have hgy:=hgw _ (List.mem_singleton.2 rfl);obtain ⟨x,T⟩ := tkR_ok hg hgy hc0 hc1 h0;have hlen:=hg.len;have hlo:=T.good.len;generalize tkR l (cv w) c n = t at T h0 hlo
  refine Ev.congr (fun k=>if_pos h0) ?_
  have H1:=less_l1 l t.1 w t.2.1 t.2.2.1 t.2.2.2.1 (by omega) hg T.good (by rw [T.nm]) (fun r hr'=>by rw [T.id];exact T.gone r hr') (sized_pos hgy.2.2.1) T.vol t.1.length 0 (by omega);exact less_l0 l t.1 w t.2.1 t.2.2.1 t.2.2.2.1 (by omega) H1 l.length 0 false (by omega) (.inr ⟨x,by rw [List.drop_zero];exact T.mem,by rw [T.id]⟩)
theorem OffcutLess (l : List S39) (a0 : ByteArray) (a1 a2 a3 a4 : Int) (a5 : ByteArray) (a6 : Bool) (c n : Int) (hlen : l.length ≤ maxLen) (hp : ∀ p ∈ l,RemP p) (hw : WantOk a0 a1 a2 a3 a4 a5) (hc : Rng c) (hn : Rng n) : ∃ k,gangsawlaw31_OffcutLess.f k l a0 a1 a2 a3 a4 a5 a6 c n = some true:=by
 refine Ev.rounds (?_ : Ev (fun k=>gangsawlaw31_OffcutLess.f k l a0 a1 a2 a3 a4 a5 a6 c n) true)
 unfold gangsawlaw31_OffcutLess.f
 refine Ev.bind awake_f ?_
 refine Ev.congr (fun k=>if_pos rfl) ?_
 obtain ⟨b,hb,hbb⟩ := small_f l 20 (by omega)
 refine Ev.bind hb ?_
 have skip : Ev (fun k=>gangsawlaw31_OffcutLess.j0 k l c n true a0 a1 a2 a3 a4 a5 a6) true:=Ev.step (f:=fun _=>some true) (fun k=>by rw [gangsawlaw31_OffcutLess.j0];exact if_pos rfl) (Ev.now _)
 cases b with
 | false=>exact Ev.congr (fun k=>if_neg (by decide)) skip
 | true =>
  refine Ev.congr (fun k=>if_pos rfl) ?_
  obtain ⟨d,hd,hdd⟩ := few1 ⟨a0,⟨a1,a2,a3⟩,a4,a5,a6⟩
  refine Ev.bind hd ?_
  cases d with
  | false=>exact skip
  | true=>exact less_j0 l ⟨a0,⟨a1,a2,a3⟩,a4,a5,a6⟩ c n (hbb rfl).2 (hdd rfl)
end Go.Proofs.Ytbggjmdelnmilaa.Pure
