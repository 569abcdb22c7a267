import Derived.Test.YtbggjmdelnmilaaPAx22
import Derived.Test.YtbggjmdelnmilaaPuf
import Derived.Test.YtbggjmdelnmilaaPuh
import Derived.Test.YtbggjmdelnmilaaPuj
namespace Go.Proofs.Ytbggjmdelnmilaa.Pure
open Go.RowKit Go.Proofs.Ytbggjmdelnmilaa Go.Proofs.Ytbggjmdelnmilaa.PA Go.Proofs.YtbggjmdelnmilaaW.PrintWords Go.Proofs.YtbggjmdelnmilaaW.PrintLast Go.Proofs.YtbggjmdelnmilaaW.PrintMore
set_option linter.unusedVariables false
set_option linter.unusedSimpArgs false
abbrev XL (k : Nat) (c : Int) (l : List S39) (s i : Int) (x : S39):=gangsawlaw31_OffcutRests.l0 k c l s i x.f0 x.f1.f0 x.f1.f1 x.f1.f2 x.f2 x.f3 x.f4
theorem rests_l0 (x : S39) (c : Int) (l : List S39) (hx : Gd x) (hl : l.length ≤ 3) (hr : ∀ r ∈ l,RestOk x r) : ∀ (d i : Nat) (s : Int),i + d = l.length → 0 ≤ s → s + vs (l.drop i) ≤ vol x.f1 → (c ≤ 0 → s + vs (l.drop i) = vol x.f1) → Ev (fun k=>XL k c l s (i : Int) x) true:=by
 obtain ⟨px,b0,b1,b2⟩ := sized_pos hx.2.2.2.1;have hvx:=hx.vol;intro d
 induction d with
 | zero =>
  intro i s hi hs h1 h2;rw [List.drop_of_length_le (by omega)] at h1 h2;have z : s + vs [] = s:=Int.add_zero s;rw [z] at h1 h2
  refine Ev.step (f:=fun _=>some true) (fun k=>?_) (Ev.now _)
  show gangsawlaw31_OffcutRests.l0 (k + 1) c l s (i : Int) x.f0 x.f1.f0 x.f1.f1 x.f1.f2 x.f2 x.f3 x.f4 = _
  simp only [gangsawlaw31_OffcutRests.l0];have e : wrap64 ((wrap64 (x.f1.f0 * x.f1.f1)) * x.f1.f2) = vol x.f1:=hvx.1;rw [if_neg (by omega),if_pos (by omega),e,if_pos h1];by_cases hc : c > 0
  (rw [if_pos hc]);(rw [if_neg hc,h2 (by omega),beq_self_eq_true])
 | succ d ih =>
  intro i s hi hs h1 h2
  have hlt : i < l.length:=by omega
  have hi1:=hr l[i] (List.getElem_mem hlt);rw [drop_at hlt] at h1 h2
  have z : s + vs (l[i] :: l.drop (i + 1)) = s + vol l[i].f1 + vs (l.drop (i + 1)):=by show s + (_ + _) = _;omega
  rw [z] at h1 h2;have hp:=hi1.pos;have l0:=hi1.le0;have l1:=hi1.le1;have l2:=hi1.le2;have hv:=vol_rng hp (by omega) (by omega) (by omega);have hve:=volR_eq hp (by omega) (by omega) (by omega)
  unfold volR at hve
  have hn : 0 ≤ vs (l.drop (i + 1)):=by
   have key : ∀ m : List S39,(∀ r ∈ m,RestOk x r) → 0 ≤ vs m:=by
    intro m
    induction m with
    | nil=>intro _;exact Int.le_refl _
    | cons r m im =>
     intro hm;have h1:=hm r (by simp);have a0:=h1.le0;have a1:=h1.le1;have a2:=h1.le2
     have:=vol_rng h1.pos (by omega) (by omega) (by omega)
     have h2:=im (fun z hz=>hm z (by simp [hz]))
     show 0 ≤ vol r.f1 + vs m
     omega
   exact key _ (fun r hr'=>hr r (List.mem_of_mem_drop hr'))
  unfold pos3 at hp
  refine Ev.step (fun k=>?_) (ih (i + 1) (s + vol l[i].f1) (by omega) (by omega) h1 h2)
  show gangsawlaw31_OffcutRests.l0 (k + 1) c l s (i : Int) x.f0 x.f1.f0 x.f1.f1 x.f1.f2 x.f2 x.f3 x.f4 = _
  simp only [gangsawlaw31_OffcutRests.l0];rw [if_pos (by omega),if_pos (by omega),rd39 hlt,if_neg (by omega),if_neg (by omega),if_neg (by omega),if_neg (by omega),if_neg (by omega),if_neg (by omega),if_pos hi1.c2,if_pos (by rw [hi1.c3]),if_pos (by rw [hi1.c4]),w1 (by omega),hve,w64 (by omega) (by omega)]
theorem rests_j0 (x : S39) (w : S26) (c : Int) (hx : St x) (hw : Sw w) : Ev (fun k=>gangsawlaw31_OffcutRests.j0 k c false x.f0 x.f1.f0 x.f1.f1 x.f1.f2 x.f2 x.f3 x.f4 w.f0 w.f1.f0 w.f1.f1 w.f1.f2 w.f2 w.f3 w.f4) true:=by
 have hl : ∀ z ∈ [x],St z:=fun z hz=>by rw [List.mem_singleton] at hz;subst hz;exact hx
 have hs:=strs_good hl
 refine Ev.step (fun k=>(by rw [gangsawlaw31_OffcutRests.j0])) (Ev.congr (fun k=>if_neg (by decide)) ?_)
 refine Ev.bind (Ev.now (w.f0,w.f1.f0,w.f1.f1,w.f1.f2,w.f2,w.f3,w.f4)) ?_
 refine Ev.bind (oFits_f x (cv w) c hs hw.strs) ?_
 refine Ev.bind (Ev.now (w.f0,w.f1.f0,w.f1.f1,w.f1.f2,w.f2,w.f3,w.f4)) ?_
 refine Ev.bind (oRest_f x (cv w) c hs hw.strs) ?_
 have J1 : ∀ e : Int,e ≠ 0 → Ev (fun k=>gangsawlaw31_OffcutRests.j1 k c [] e true x.f0 x.f1.f0 x.f1.f1 x.f1.f2 x.f2 x.f3 x.f4 w.f0 w.f1.f0 w.f1.f1 w.f1.f2 w.f2 w.f3 w.f4) true:=fun e he=>by
  refine Ev.step (f:=fun _=>some true) (fun k=>?_) (Ev.now _)
  rw [gangsawlaw31_OffcutRests.j1,if_pos rfl]
  show (if ((0 : Nat) : Int) = 0 then some (e != 0) else none) = some true
  rw [show (e != 0) = true by simpa using he];rfl
 unfold fitsA restA
 by_cases h : readyR [x] [cv w] c = 0
 ·rw [if_pos h,if_pos h];have hg:=(ready_iff [x] [cv w] c).1 h;have hgx:=hg.1.el x (by simp);have hgw:=hg.2.1 _ (List.mem_singleton.2 rfl)
  have hpw:=(sized_pos hgw.2.2.1)
  refine Ev.congr (fun k=>if_pos rfl) ?_
  unfold restO
  cases hf : (fitsB x (cv w)).1 with
  | false =>
   rw [if_neg (by decide)];exact J1 9 (by decide)
  | true =>
   rw [if_pos rfl];obtain ⟨hr,hv1,hv2⟩ := rests (k:=c) hgx hpw.1 hf hg.2.2.1 hg.2.2.2;have hlen : (restR x (cv w) c).length ≤ 3:=restN_len _ _ _ _;generalize restR x (cv w) c = rs at hr hv1 hv2 hlen;have hvw:=vol_rng hpw.1 hpw.2.1 hpw.2.2.1 hpw.2.2.2
   cases hnm : (rs.any fun r=>!lexName r.f0) with
   | true =>
    rw [if_pos rfl]
    refine Ev.step (f:=fun _=>some true) (fun k=>?_) (Ev.now _)
    show gangsawlaw31_OffcutRests.j1 (k + 1) c [] 4 false x.f0 x.f1.f0 x.f1.f1 x.f1.f2 x.f2 x.f3 x.f4 w.f0 w.f1.f0 w.f1.f1 w.f1.f2 w.f2 w.f3 w.f4 = _
    rw [gangsawlaw31_OffcutRests.j1];rfl
   | false =>
    rw [if_neg (by decide)];have H:=rests_l0 x c rs hgx hlen hr rs.length 0 (vol w.f1) (by omega) (by have:=hvw.1;show 0 ≤ vol (cv w).f1;omega) (by rw [List.drop_zero];have : vol (cv w).f1 = vol w.f1:=rfl;omega) (fun hc=>by rw [List.drop_zero];have:=hv2 (by have:=hg.2.2.1;omega);have e : vol (cv w).f1 = vol w.f1:=rfl;omega)
    refine Ev.step (fun k=>?_) H
    show gangsawlaw31_OffcutRests.j1 (k + 1) c rs 0 false x.f0 x.f1.f0 x.f1.f1 x.f1.f2 x.f2 x.f3 x.f4 w.f0 w.f1.f0 w.f1.f1 w.f1.f2 w.f2 w.f3 w.f4 = _
    rw [gangsawlaw31_OffcutRests.j1,if_neg (by decide),if_pos rfl];rw [show wrap64 ((wrap64 (w.f1.f0 * w.f1.f1)) * w.f1.f2) = vol w.f1 from volR_eq hpw.1 hpw.2.1 hpw.2.2.1 hpw.2.2.2];rfl
 ·rw [if_neg h,if_neg h]
  refine Ev.congr (fun k=>if_neg h) ?_
  exact J1 _ h
theorem OffcutRests (b0 : ByteArray) (b1 b2 b3 b4 : Int) (b5 b6 : ByteArray) (a0 : ByteArray) (a1 a2 a3 a4 : Int) (a5 : ByteArray) (a6 : Bool) (c : Int) (hr : RemOk b0 b1 b2 b3 b4 b5 b6) (hw : WantOk a0 a1 a2 a3 a4 a5) (hc : Rng c) : ∃ k,gangsawlaw31_OffcutRests.f k b0 b1 b2 b3 b4 b5 b6 a0 a1 a2 a3 a4 a5 a6 c = some true:=by
 refine Ev.rounds (?_ : Ev (fun k=>gangsawlaw31_OffcutRests.f k b0 b1 b2 b3 b4 b5 b6 a0 a1 a2 a3 a4 a5 a6 c) true)
 unfold gangsawlaw31_OffcutRests.f
 refine Ev.bind awake_f ?_
 refine Ev.congr (fun k=>if_pos rfl) ?_
 obtain ⟨b,hb,hbb⟩ := small_f [(⟨b0,⟨b1,b2,b3⟩,b4,b5,b6⟩ : S39)] 1 (by omega)
 refine Ev.bind hb ?_
 have skip : Ev (fun k=>gangsawlaw31_OffcutRests.j0 k c true b0 b1 b2 b3 b4 b5 b6 a0 a1 a2 a3 a4 a5 a6) true:=Ev.step (f:=fun _=>some true) (fun k=>by rw [gangsawlaw31_OffcutRests.j0];exact if_pos rfl) (Ev.now _)
 cases b with
 | false=>exact Ev.congr (fun k=>if_neg (by decide)) skip
 | true =>
  refine Ev.congr (fun k=>if_pos rfl) ?_
  obtain ⟨d,hd,hdd⟩ := few1 ⟨a0,⟨a1,a2,a3⟩,a4,a5,a6⟩
  refine Ev.bind hd ?_
  cases d with
  | false=>exact skip
  | true=>exact rests_j0 ⟨b0,⟨b1,b2,b3⟩,b4,b5,b6⟩ ⟨a0,⟨a1,a2,a3⟩,a4,a5,a6⟩ c ((hbb rfl).2 _ (by simp)) (hdd rfl)
end Go.Proofs.Ytbggjmdelnmilaa.Pure
