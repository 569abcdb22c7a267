import Derived.Test.YtbggjmdelnmilaaPAx10
import Derived.Test.YtbggjmdelnmilaaPuf
import Derived.Test.YtbggjmdelnmilaaPuh
import Derived.Test.YtbggjmdelnmilaaPul
namespace Go.Proofs.Ytbggjmdelnmilaa.Pure
open Go.RowKit Go.Proofs.Ytbggjmdelnmilaa Go.Proofs.Ytbggjmdelnmilaa.PA Go.Proofs.YtbggjmdelnmilaaW.PrintWords Go.Proofs.YtbggjmdelnmilaaW.PrintLast Go.Proofs.YtbggjmdelnmilaaW.PrintMore
set_option linter.unusedVariables false
set_option linter.unusedSimpArgs false
theorem fits1 (x : S39) (y : S36) : (fitsB x y).1 = (!unlikeB x y && (contB x.f1 y.f1 || (y.f4 && contB x.f1 (swapV y.f1)))):=by
 unfold fitsB
 cases unlikeB x y with
 | true=>rfl
 | false =>
  rw [if_neg (by decide)]
  cases contB x.f1 y.f1 with
  | true=>rfl
  | false=>rfl
theorem cont_mono {o o' i : S24} (h0 : o'.f0 ≤ o.f0) (h1 : o'.f1 ≤ o.f1) (h2 : o'.f2 ≤ o.f2) (h : contB o' i = true) : contB o i = true:=by
 unfold contB at *
 simp only [Bool.and_eq_true,decide_eq_true_eq] at *
 omega
theorem fits_rest {x r : S39} {y : S36} (h : RestOk x r) (hf : (fitsB r y).1 = true) : (fitsB x y).1 = true:=by
 rw [fits1] at hf ⊢
 have eu : unlikeB r y = unlikeB x y:=by unfold unlikeB;rw [h.c2,h.c3]
 rw [eu] at hf;simp only [Bool.and_eq_true,Bool.or_eq_true] at hf ⊢
 refine ⟨hf.1,hf.2.imp (cont_mono h.le0 h.le1 h.le2) (fun g=>⟨g.1,cont_mono h.le0 h.le1 h.le2 g.2⟩)⟩
def Non (l : List S39) (y : S36) : Prop := ∀ x ∈ l,(fitsB x y).1 = false
theorem Taken.non {l : List S39} {y z : S36} {t : T5} {x : S39} (T : Taken l y t x) (h : Non l z) : Non t.1 z:=fun r hr=>by
 rcases T.from_ r hr with hm|hm
 (exact h r hm)
 ·cases hb : (fitsB r z).1 with
  | false=>rfl
  | true=>exact absurd (fits_rest hm hb) (by rw [h x T.mem];decide)
theorem none_non {l : List S39} {y : S36} (h : bestR l y < 0) : Non l y:=by
 rcases bestR_spec l y with ⟨_,h2⟩|⟨h0,_⟩
 ·intro x hx;obtain ⟨j,hj,rfl⟩ := List.getElem_of_mem hx
  have:=h2 j hj
  simpa [List.getD,hj] using this
 ·omega
theorem srv_spec (c n : Int) (hc0 : 0 ≤ c) (hc1 : c ≤ 1000) : ∀ (ws : List S36) (l : List S39) (us : List U3) (ns : List ByteArray), (∀ y ∈ ws, Gw y) → Good l →
  (∃ e,e ≠ 0 ∧ srvN c n ws l us ns = err4 e) ∨ ((srvN c n ws l us ns).2.2.2 = 0 ∧ Good (srvN c n ws l us ns).1 ∧ (srvN c n ws l us ns).2.1.length + (srvN c n ws l us ns).2.2.1.length = us.length + ns.length + ws.length ∧
   (∀ m ∈ (srvN c n ws l us ns).2.2.1,m ∈ ns ∨ ∃ y ∈ ws,y.f0 = m ∧ Non (srvN c n ws l us ns).1 y) ∧ (∀ z,Non l z → Non (srvN c n ws l us ns).1 z))
 | [],l,us,ns,hw,hg=>.inr ⟨rfl,hg,rfl,fun m hm=>.inl hm,fun z hz=>hz⟩
 | y :: ws,l,us,ns,hw,hg=>by
  unfold srvN
  by_cases h : bestR l y < 0
  ·rw [if_pos h]
   rcases srv_spec c n hc0 hc1 ws l us (ns ++ [y.f0]) (fun z hz=>hw z (List.mem_cons_of_mem _ hz)) hg with ⟨e,he,h1⟩|⟨h1,h2,h3,h4,h5⟩
   (exact .inl ⟨e,he,h1⟩)
   ·refine .inr ⟨h1,h2,by rw [h3];simp only [List.length_append,List.length_cons,List.length_nil];omega,fun m hm=>?_,h5⟩
    rcases h4 m hm with hm|⟨z,hz,hz2⟩
    ·rcases List.mem_append.1 hm with hm|hm
     (exact .inl hm);(rw [List.mem_singleton] at hm;exact .inr ⟨y,List.mem_cons_self ..,hm.symm,h5 y (none_non h)⟩)
    (exact .inr ⟨z,List.mem_cons_of_mem _ hz,hz2⟩)
  ·rw [if_neg h];by_cases g : (tkR l y c n).2.2.2.2 = 0
   ·rw [if_pos g];obtain ⟨x,T⟩ := tkR_ok hg (hw y (List.mem_cons_self ..)) hc0 hc1 g
    rcases srv_spec c n hc0 hc1 ws (tkR l y c n).1 (us ++ [((tkR l y c n).2.1,(tkR l y c n).2.2.1,(tkR l y c n).2.2.2.1)]) ns (fun z hz=>hw z (List.mem_cons_of_mem _ hz)) T.good with ⟨e,he,h1⟩|⟨h1,h2,h3,h4,h5⟩
    (exact .inl ⟨e,he,h1⟩)
    ·refine .inr ⟨h1,h2,by rw [h3];simp only [List.length_append,List.length_cons,List.length_nil];omega,fun m hm=>?_,fun z hz=>h5 z (T.non hz)⟩
     rcases h4 m hm with hm|⟨z,hz,hz2⟩
     (exact .inl hm);(exact .inr ⟨z,List.mem_cons_of_mem _ hz,hz2⟩)
   (rw [if_neg g];exact .inl ⟨_,g,rfl⟩)
theorem serveA_cases (l : List S39) (ws : List S36) (c n : Int) : (∃ e,e ≠ 0 ∧ serveA l ws c n = err4 e) ∨ (Good l ∧ (∀ y ∈ ws,Gw y) ∧ 0 ≤ c ∧ c ≤ 1000 ∧ serveA l ws c n = srvN c n ws l [] []):=by
 unfold serveA
 by_cases h : checkR l = 0
 ·rw [if_pos h];by_cases hl : 256 < ws.length
  (rw [if_pos hl];exact .inl ⟨7,by decide,rfl⟩)
  ·rw [if_neg hl];by_cases g : wantsR ws c = 0
   ·rw [if_pos g]
    cases lastB n with
    | false=>exact .inl ⟨6,by decide,rfl⟩
    | true=>exact .inr ⟨(good_iff l).1 h,((wants_iff ws c).1 g).1,((wants_iff ws c).1 g).2.1,((wants_iff ws c).1 g).2.2,if_pos rfl⟩
   (rw [if_neg g];exact .inl ⟨_,g,rfl⟩)
 (rw [if_neg h];exact .inl ⟨_,h,rfl⟩)
theorem rdN {l : List ByteArray} {i : Nat} (h : i < l.length) : rdOf ByteArray.empty l (i : Int) = l[i] := by unfold rdOf;rw [Int.toNat_natCast];simp [List.getD,h]
theorem first_l1 (ws : List S26) (c : Int) (l : List S39) (ns : List ByteArray) (i : Nat) (hws : ws.length ≤ 8) (hg : Good l) (hgw : ∀ w ∈ ws, Gw (cv w)) (hc0 : 0 ≤ c) (hc1 : c ≤ 1000) (hi : i < ns.length) (hsw : ∀ w ∈ ws, Sw w) {R : Bool} (hR : Ev (fun k => gangsawlaw31_OffcutFirst.l0 k ws c l ns (wrap64 ((i : Int) + 1))) R) : ∀ (d j : Nat) (b : Bool), j + d = ws.length → (b = true ∨ ∃ w ∈ ws.drop j, w.f0 = ns[i] ∧ Non l (cv w)) →
  Ev (fun k=>gangsawlaw31_OffcutFirst.l1 k ws c l ns (i : Int) b (j : Int)) R:=by
 intro d
 induction d with
 | zero =>
  intro j b hj hb
  rcases hb with rfl|⟨w,hw,_⟩
  ·refine Ev.step (fun k=>?_) hR
   simp only [gangsawlaw31_OffcutFirst.l1];rw [if_neg (by omega),if_pos trivial]
  ·rw [List.drop_of_length_le (by omega)] at hw
   cases hw
 | succ d ih =>
  intro j b hj hb
  have hlt : j < ws.length:=by omega
  have hm:=List.getElem_mem hlt;have hs:=strs_good hg.st
  refine Ev.step (fun k=>(by rw [gangsawlaw31_OffcutFirst.l1])) (Ev.congr (fun k=>by rw [if_pos (by omega),if_pos (by omega),if_pos (by omega),if_pos (by omega),rd26 hlt,rdN hi,w1 (by omega)]) ?_)
  by_cases he : ws[j].f0.toList = ns[i].toList
  ·refine Ev.congr (fun k=>if_pos he) (Ev.bind (Ev.now (ws[j].f0,ws[j].f1.f0,ws[j].f1.f1,ws[j].f1.f2,ws[j].f2,ws[j].f3,ws[j].f4)) (Ev.bind (oRefused_f l (cv ws[j]) c hs (hsw _ hm).strs) ?_))
   cases b with
   | true=>exact Ev.congr (fun k=>if_pos rfl) (ih (j + 1) true (by omega) (.inl rfl))
   | false =>
    have hr : refuA l (cv ws[j]) c = (decide (bestR l (cv ws[j]) < 0),0):=by
     unfold refuA
     rw [if_pos ((ready_iff l [cv ws[j]] c).2 ⟨hg,fun y hy=>by rw [List.mem_singleton] at hy;subst hy;exact hgw _ hm,hc0,hc1⟩)]
    rw [hr]
    refine Ev.congr (fun k=>by rw [if_neg (by decide),if_pos rfl]) (ih (j + 1) _ (by omega) ?_)
    rcases hb with hb|⟨w,hw,h1,h2⟩
    ·cases hb
    ·rw [drop_at hlt,List.mem_cons] at hw
     rcases hw with rfl|hw
     (exact .inl (by rw [bestR_none l _ h2];rfl));(exact .inr ⟨w,hw,h1,h2⟩)
  ·refine Ev.congr (fun k=>if_neg he) (ih (j + 1) b (by omega) ?_)
   rcases hb with hb|⟨w,hw,h1,h2⟩
   (exact .inl hb)
   ·rw [drop_at hlt,List.mem_cons] at hw
    rcases hw with rfl|hw
    (exact absurd (by rw [h1]) he);(exact .inr ⟨w,hw,h1,h2⟩)
theorem first_l0 (ws : List S26) (c : Int) (l : List S39) (ns : List ByteArray) (hws : ws.length ≤ 8) (hg : Good l) (hgw : ∀ w ∈ ws,Gw (cv w)) (hc0 : 0 ≤ c) (hc1 : c ≤ 1000) (hsw : ∀ w ∈ ws,Sw w) (hns : ns.length ≤ 1000) (hm : ∀ m ∈ ns,∃ w ∈ ws,w.f0 = m ∧ Non l (cv w)) : ∀ d i : Nat,i + d = ns.length → Ev (fun k=>gangsawlaw31_OffcutFirst.l0 k ws c l ns (i : Int)) true:=by
 intro d
 induction d with
 | zero =>
  intro i hi
  refine Ev.step (f:=fun _=>some true) (fun k=>?_) (Ev.now _)
  simp only [gangsawlaw31_OffcutFirst.l0];rw [if_neg (by omega)]
 | succ d ih =>
  intro i hi
  have hlt : i < ns.length:=by omega
  have H:=ih (i + 1) (by omega);rw [← w1 (by omega)] at H;have H1:=first_l1 ws c l ns i hws hg hgw hc0 hc1 hlt hsw H ws.length 0 false (by omega) (.inr (by rw [List.drop_zero];exact hm _ (List.getElem_mem hlt)))
  refine Ev.step (fun k=>?_) H1
  simp only [gangsawlaw31_OffcutFirst.l0];rw [if_pos (by omega)];rfl
theorem first_j0 (l : List S39) (ws : List S26) (c n : Int) (hl : ∀ x ∈ l,St x) (hws : ws.length ≤ 8) (hw : ∀ x ∈ ws,Sw x) : Ev (fun k=>gangsawlaw31_OffcutFirst.j0 k l ws c n false) true:=by
 have hs:=strs_good hl
 have hsw : strsWB (ws.map cv) = true:=by
  unfold strsWB
  rw [List.all_eq_true];intro y hy;obtain ⟨x,hx,rfl⟩ := List.mem_map.1 hy
  have:=hw x hx
  unfold Sw at this
  simp only [Bool.and_eq_true,decide_eq_true_eq]
  unfold bigN
  omega
 refine Ev.step (fun k=>(by rw [gangsawlaw31_OffcutFirst.j0])) (Ev.congr (fun k=>if_neg (by decide)) ?_)
 refine Ev.bind (all_f ws (by omega)) (Ev.bind (oServe_f l (ws.map cv) c n hs hsw) ?_)
 rcases serveA_cases l (ws.map cv) c n with ⟨e,he,h⟩|⟨hg,hgw,hc0,hc1,h⟩
 (rw [h];exact Ev.congr (fun k=>by show (if e = 0 then _ else _) = _;rw [if_neg he];rfl) (Ev.now _))
 ·rw [h]
  have hgw' : ∀ w ∈ ws,Gw (cv w):=fun w hw=>hgw _ (List.mem_map_of_mem hw)
  rcases srv_spec c n hc0 hc1 (ws.map cv) l [] [] hgw hg with ⟨e,he,h1⟩|⟨h1,h2,h3,h4,h5⟩
  (rw [h1];exact Ev.congr (fun k=>by show (if e = 0 then _ else _) = _;rw [if_neg he];rfl) (Ev.now _))
  ·generalize srvN c n (ws.map cv) l [] [] = r at h1 h2 h3 h4 h5;rw [List.length_map] at h3;have e1 : (o32 r).2.2.2 = 0:=h1
   have e3 : r.2.1.length + r.2.2.1.length = ws.length:=by rw [h3];simp
   have e2 : wrap64 (((o32 r).2.1.length : Int) + ((o32 r).2.2.1.length : Int)) = (ws.length : Int):=by
    show wrap64 ((((r.2.1.map u32).length : Nat) : Int) + ((r.2.2.1.length : Nat) : Int)) = _
    rw [List.length_map,w64 (by omega) (by omega)]
    omega
   refine Ev.congr (fun k=>by rw [if_pos e1,if_pos e2]) ?_
   have H:=first_l0 ws c r.1 r.2.2.1 hws h2 hgw' hc0 hc1 hw (by omega) (fun m hm=>by
    rcases h4 m hm with hm|⟨y,hy,h6,h7⟩
    ·cases hm
    ·obtain ⟨w,hw',rfl⟩ := List.mem_map.1 hy
     exact ⟨w,hw',h6,h7⟩) r.2.2.1.length 0 (by omega)
   exact H
theorem OffcutFirst (l : List S39) (ws : List S26) (c n : Int) (hlen : l.length ≤ maxLen) (hp : ∀ p ∈ l,RemP p) (hwlen : ws.length ≤ maxLen) (hwp : ∀ p ∈ ws,WantP p) (hc : Rng c) (hn : Rng n) : ∃ k,gangsawlaw31_OffcutFirst.f k l ws c n = some true:=by
 refine Ev.rounds (?_ : Ev (fun k=>gangsawlaw31_OffcutFirst.f k l ws c n) true)
 unfold gangsawlaw31_OffcutFirst.f
 refine Ev.bind awake_f ?_
 refine Ev.congr (fun k=>if_pos rfl) ?_
 obtain ⟨b,hb,hbb⟩ := small_f l 12 (by omega)
 refine Ev.bind hb ?_
 have skip : Ev (fun k=>gangsawlaw31_OffcutFirst.j0 k l ws c n true) true:=Ev.step (f:=fun _=>some true) (fun k=>by rw [gangsawlaw31_OffcutFirst.j0];exact if_pos rfl) (Ev.now _)
 cases b with
 | false=>exact Ev.congr (fun k=>if_neg (by decide)) skip
 | true =>
  refine Ev.congr (fun k=>if_pos rfl) ?_
  obtain ⟨d,hd,hdd⟩ := few_f ws 8 (by omega)
  refine Ev.bind hd ?_
  cases d with
  | false=>exact skip
  | true=>exact first_j0 l ws c n (hbb rfl).2 (hdd rfl).1 (hdd rfl).2
end Go.Proofs.Ytbggjmdelnmilaa.Pure
