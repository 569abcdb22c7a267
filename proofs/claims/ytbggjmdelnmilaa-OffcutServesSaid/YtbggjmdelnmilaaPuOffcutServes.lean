import Derived.Test.YtbggjmdelnmilaaPAx21
import Derived.Test.YtbggjmdelnmilaaPuf
import Derived.Test.YtbggjmdelnmilaaPuh
import Derived.Test.YtbggjmdelnmilaaPul
namespace Go.Proofs.Ytbggjmdelnmilaa.Pure
open Go.RowKit Go.Proofs.Ytbggjmdelnmilaa Go.Proofs.Ytbggjmdelnmilaa.PA Go.Proofs.YtbggjmdelnmilaaW.PrintWords Go.Proofs.YtbggjmdelnmilaaW.PrintLast Go.Proofs.YtbggjmdelnmilaaW.PrintMore
set_option linter.unusedVariables false
set_option linter.unusedSimpArgs false
abbrev u71 (u : U3) : S71:=⟨u.1,u.2.1,u.2.2⟩
def o71 (r : R4) : List S39 × List S71 × List ByteArray × Int:=(r.1,r.2.1.map u71,r.2.2.1,r.2.2.2)
theorem rServe_l0 (ws : List S26) (c n : Int) (hws : ws.length ≤ 256) (hw : ∀ y ∈ ws, Gw (cv y)) (hc0 : 0 ≤ c) (hc1 : c ≤ 1000) : ∀ (d i : Nat) (l : List S39) (us : List U3) (ns : List ByteArray), i + d = ws.length → Good l → us.length ≤ i → ns.length ≤ i →
  Ev (fun k=>gangsawref31_Serve.l0 k l ws c n (us.map u71) ns (i : Int)) (o71 (srvN c n ((ws.map cv).drop i) l us ns)):=by
 intro d
 induction d with
 | zero =>
  intro i l us ns hi hg hu hn;rw [List.drop_of_length_le (by rw [List.length_map];omega)]
  refine Ev.step (f:=fun _=>some (l,us.map u71,ns,0)) (fun k=>?_) (Ev.now _)
  simp only [gangsawref31_Serve.l0];rw [if_neg (by omega)]
 | succ d ih =>
  intro i l us ns hi hg hu hn
  have hlt : i < ws.length:=by omega
  have hy:=hw ws[i] (List.getElem_mem hlt);have hlen:=hg.len;rw [drop_at (l:=ws.map cv) (by rw [List.length_map];exact hlt),List.getElem_map]
  unfold srvN
  refine Ev.step (fun k=>(by rw [gangsawref31_Serve.l0])) (Ev.congr (fun k=>by rw [if_pos (by omega),if_pos (by omega),rd26 hlt,w1 (by omega),if_pos (show ns.length < 8796093022208 by omega)]) ?_)
  refine Ev.bind (rTake_f (y:=cv ws[i]) c n hg hy) ?_
  rcases bestR_spec l (cv ws[i]) with ⟨h1,_⟩|⟨h0,h1,h2⟩
  ·have et : tkR l (cv ws[i]) c n = none5 9 := by
    unfold tkR
    rw [if_pos (by omega)]
   rw [h1,if_pos (by omega),et];exact Ev.congr (fun k=>if_pos rfl) (ih (i + 1) l us (ns ++ [ws[i].f0]) (by omega) hg (by omega) (by rw [List.length_append,List.length_singleton];omega))
  ·rw [if_neg (show ¬ bestR l (cv ws[i]) < 0 by omega)]
   have e9 : (tkR l (cv ws[i]) c n).2.2.2.2 ≠ 9:=by
    unfold tkR
    rw [if_neg (by omega)]
    rcases takeR_err l (bestR l (cv ws[i])).toNat (cv ws[i]) c n with h|h
    ·rw [h];decide
    (exact h.2.1)
   refine Ev.congr (fun k=>if_neg e9) ?_
   by_cases g : (tkR l (cv ws[i]) c n).2.2.2.2 = 0
   ·rw [if_pos g]
    refine Ev.congr (fun k=>if_pos g) ?_
    obtain ⟨x,T⟩ := tkR_ok hg hy hc0 hc1 g;have H:=ih (i + 1) (tkR l (cv ws[i]) c n).1 (us ++ [((tkR l (cv ws[i]) c n).2.1,(tkR l (cv ws[i]) c n).2.2.1,(tkR l (cv ws[i]) c n).2.2.2.1)]) ns (by omega) T.good (by rw [List.length_append,List.length_singleton];omega) (by omega);rw [List.map_append] at H;exact Ev.congr (fun k=>by rw [if_pos (show (us.map u71).length < 3518437208883 by rw [List.length_map];omega)];rfl) H
   (rw [if_neg g];exact Ev.congr (fun k=>if_neg g) (Ev.now _))
theorem rServe_f (l : List S39) (ws : List S26) (c n : Int) (hg : Good l) (hws : ws.length ≤ 256) (hw : ∀ y ∈ ws,Gw (cv y)) (hc0 : 0 ≤ c) (hc1 : c ≤ 1000) : Ev (fun k=>gangsawref31_Serve.f k l ws c n) (o71 (srvN c n (ws.map cv) l [] [])):=by
 have h:=rServe_l0 ws c n hws hw hc0 hc1 ws.length 0 l [] [] (by omega) hg (Nat.zero_le _) (Nat.zero_le _);rw [List.drop_zero] at h;exact h
theorem serve_taking (l : List S39) (ws : List S26) (c n : Int) : (takingR l ws c n ≠ 0 ∧ serveA l (ws.map cv) c n = err4 (takingR l ws c n)) ∨ (takingR l ws c n = 0 ∧ Good l ∧ ws.length ≤ 256 ∧ (∀ y ∈ ws,Gw (cv y)) ∧ 0 ≤ c ∧ c ≤ 1000 ∧ serveA l (ws.map cv) c n = srvN c n (ws.map cv) l [] []):=by
 unfold takingR serveA
 rw [List.length_map];by_cases h : checkR l = 0
 ·rw [if_pos h,if_pos h];by_cases hl : 256 < ws.length
  (rw [if_pos hl,if_pos hl,if_neg (show ¬ (7 : Int) = 0 by decide)];exact .inl ⟨by decide,rfl⟩)
  ·rw [if_neg hl,if_neg hl];by_cases g : wantsR (ws.map cv) c = 0
   ·rw [if_pos g,if_pos g]
    cases lastB n with
    | false=>exact .inl ⟨by decide,rfl⟩
    | true =>
     have:=(wants_iff (ws.map cv) c).1 g
     exact .inr ⟨rfl,(good_iff l).1 h,by omega,fun y hy=>this.1 _ (List.mem_map_of_mem hy),this.2.1,this.2.2,if_pos rfl⟩
   (rw [if_neg g,if_neg g];exact .inl ⟨g,rfl⟩)
 (rw [if_neg h,if_neg h];exact .inl ⟨h,rfl⟩)
theorem srv_len (c n : Int) : ∀ (ws : List S36) (l : List S39) (us : List U3) (ns : List ByteArray),l.length ≤ 256 → (srvN c n ws l us ns).1.length ≤ 256 ∧ (srvN c n ws l us ns).2.1.length ≤ us.length + ws.length ∧ (srvN c n ws l us ns).2.2.1.length ≤ ns.length + ws.length
 | [],l,us,ns,h=>⟨h,Nat.le_refl _,Nat.le_refl _⟩
 | y :: ws,l,us,ns,h=>by
  unfold srvN
  split
  ·have:=srv_len c n ws l us (ns ++ [y.f0]) h
   simp only [List.length_append,List.length_cons,List.length_nil] at this ⊢
   omega
  ·split
   ·have hl : (tkR l y c n).1.length ≤ 256 := by
     unfold tkR takeR
     split
     (exact Nat.zero_le _)
     ·split
      (exact Nat.zero_le _)
      ·split
       (exact Nat.zero_le _)
       ·split
        (exact Nat.zero_le _)
        ·rename_i _ h
         exact Nat.le_of_not_lt h
    have:=srv_len c n ws (tkR l y c n).1 (us ++ [((tkR l y c n).2.1,(tkR l y c n).2.2.1,(tkR l y c n).2.2.2.1)]) ns hl
    simp only [List.length_append,List.length_cons,List.length_nil] at this ⊢
    omega
   (exact ⟨Nat.zero_le _,Nat.zero_le _,Nat.zero_le _⟩)
theorem serves_l1 (ns : List ByteArray) (hl : ns.length ≤ 1000000) : ∀ d i : Nat,i + d = ns.length → Ev (fun k=>gangsawlaw31_OffcutServes.l1 k ns ns (i : Int)) true:=by
 intro d
 induction d with
 | zero =>
  intro i hi
  refine Ev.step (f:=fun _=>some true) (fun k=>?_) (Ev.now _)
  simp only [gangsawlaw31_OffcutServes.l1];rw [if_neg (by omega)]
 | succ d ih =>
  intro i hi
  refine Ev.step (fun k=>?_) (ih (i + 1) (by omega))
  simp only [gangsawlaw31_OffcutServes.l1];rw [if_pos (by omega),if_pos (by omega),if_pos (by omega),if_pos trivial,w1 (by omega)]
theorem rd32 (us : List U3) {i : Nat} (h : i < us.length) : rd_T32 (us.map u32) (i : Int) = u32 us[i] := by unfold rd_T32;rw [Int.toNat_natCast];simp [List.getD,h]
theorem rd71 (us : List U3) {i : Nat} (h : i < us.length) : rd_T71 (us.map u71) (i : Int) = u71 us[i] := by unfold rd_T71;rw [Int.toNat_natCast];simp [List.getD,h]
theorem serves_l0 (us : List U3) (ns : List ByteArray) (hu : us.length ≤ 1000000) (hl : ns.length ≤ 1000000) : ∀ d i : Nat,i + d = us.length → Ev (fun k=>gangsawlaw31_OffcutServes.l0 k (us.map u32) ns (us.map u71) ns (i : Int)) true:=by
 intro d
 induction d with
 | zero =>
  intro i hi
  refine Ev.step (fun k=>?_) (serves_l1 ns hl ns.length 0 (by omega))
  simp only [gangsawlaw31_OffcutServes.l0];rw [List.length_map,if_neg (by omega)];rfl
 | succ d ih =>
  intro i hi
  have hlt : i < us.length:=by omega
  refine Ev.step (fun k=>?_) (ih (i + 1) (by omega))
  simp only [gangsawlaw31_OffcutServes.l0];rw [List.length_map,List.length_map,if_pos (by omega),if_pos (by omega),if_pos (by omega),rd32 us hlt,rd71 us hlt,if_neg (by simp),w1 (by omega)]
theorem serves_j0 (l : List S39) (ws : List S26) (c n : Int) (hl : ∀ x ∈ l,St x) (hws : ws.length ≤ 1954687338268) (hs2 : strsWB (ws.map cv) = true) (hw : 256 < ws.length ∨ ∀ x ∈ ws,Sw x) : Ev (fun k=>gangsawlaw31_OffcutServes.j0 k l ws c n false) true:=by
 have hs:=strs_good hl
 refine Ev.step (fun k=>(by rw [gangsawlaw31_OffcutServes.j0])) (Ev.congr (fun k=>if_neg (by decide)) ?_)
 refine Ev.bind (all_f ws hws) (Ev.bind (oServe_f l (ws.map cv) c n hs hs2) (Ev.bind (rTaking_f l ws c n hl hw) ?_))
 rcases serve_taking l ws c n with ⟨h0,h⟩|⟨h0,hg,hlen,hgw,hc0,hc1,h⟩
 ·rw [h]
  refine Ev.congr (fun k=>by rw [if_neg h0]) (Ev.congr (fun k=>?_) (Ev.now _))
  show (if takingR l ws c n = takingR l ws c n then (if ((0 : Nat) : Int) = 0 then (if ((0 : Nat) : Int) = 0 then (some (((0 : Nat) : Int) == 0)) else none) else none) else none) = some true
  rw [if_pos rfl];rfl
 ·rw [h]
  refine Ev.congr (fun k=>if_pos h0) (Ev.bind (rServe_f l ws c n hg hlen hgw hc0 hc1) ?_)
  have hln:=srv_len c n (ws.map cv) l [] [] hg.len;rw [List.length_map] at hln;generalize srvN c n (ws.map cv) l [] [] = r at hln;simp only [List.length_nil] at hln
  refine Ev.congr (fun k=>if_pos rfl) (Ev.bind (same_f r.1 (by omega)) ?_)
  have e1 : ((o32 r).2.1.length : Int) = ((o71 r).2.1.length : Int):=by
   show (((r.2.1.map u32).length : Nat) : Int) = (((r.2.1.map u71).length : Nat) : Int)
   rw [List.length_map,List.length_map]
  refine Ev.congr (fun k=>by rw [if_pos rfl,if_pos e1]) ?_
  have e2 : (((o32 r).2.2.1.length : Int) != ((o71 r).2.2.1.length : Int)) = false:=by
   show (((r.2.2.1.length : Nat) : Int) != ((r.2.2.1.length : Nat) : Int)) = false
   simp
  rw [e2]
  refine Ev.step (fun k=>?_) (serves_l0 r.2.1 r.2.2.1 (by omega) (by omega) r.2.1.length 0 (by omega))
  rw [gangsawlaw31_OffcutServes.j1,if_neg (by decide)];rfl
theorem OffcutServes (l : List S39) (ws : List S26) (c n : Int) (hlen : l.length ≤ maxLen) (hp : ∀ p ∈ l,RemP p) (hwlen : ws.length ≤ maxLen) (hwp : ∀ p ∈ ws,WantP p) (hc : Rng c) (hn : Rng n) (hroom : ws.length * 72 ≤ 140737488351232) : ∃ k,gangsawlaw31_OffcutServes.f k l ws c n = some true:=by
 have hws : ws.length ≤ 1954687338268:=by omega
 have hs2:=strsW_ok hwp
 refine Ev.rounds (?_ : Ev (fun k=>gangsawlaw31_OffcutServes.f k l ws c n) true)
 unfold gangsawlaw31_OffcutServes.f
 refine Ev.bind awake_f ?_
 refine Ev.congr (fun k=>if_pos rfl) ?_
 obtain ⟨b,hb,hbb⟩ := small_f l 12 (by omega)
 refine Ev.bind hb ?_
 have skip : Ev (fun k=>gangsawlaw31_OffcutServes.j0 k l ws c n true) true:=Ev.step (f:=fun _=>some true) (fun k=>by rw [gangsawlaw31_OffcutServes.j0];exact if_pos rfl) (Ev.now _)
 cases b with
 | false=>exact Ev.congr (fun k=>if_neg (by decide)) skip
 | true =>
  refine Ev.congr (fun k=>if_pos rfl) ?_
  obtain ⟨d,hd,hdd⟩ := few_f ws 8 (by omega)
  refine Ev.bind hd ?_
  cases d with
  | true=>exact Ev.congr (fun k=>if_pos rfl) (serves_j0 l ws c n (hbb rfl).2 hws hs2 (.inr (hdd rfl).2))
  | false =>
   refine Ev.congr (fun k=>if_neg (by decide)) ?_
   by_cases h : ws.length ≤ 256
   (rw [show decide ((ws.length : Int) ≤ 256) = true from decide_eq_true (by omega)];exact skip);(rw [show decide ((ws.length : Int) ≤ 256) = false from decide_eq_false (by omega)];exact serves_j0 l ws c n (hbb rfl).2 hws hs2 (.inl (by omega)))
end Go.Proofs.Ytbggjmdelnmilaa.Pure
