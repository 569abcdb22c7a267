import Derived.Test.YtbggjmdelnmilaaPAx74
import Derived.Test.YtbggjmdelnmilaaPAx76
import Derived.Test.YtbggjmdelnmilaaPuj
namespace Go.Proofs.Ytbggjmdelnmilaa.Pure
open Go.RowKit Go.Proofs.Ytbggjmdelnmilaa Go.Proofs.Ytbggjmdelnmilaa.PA Go.Proofs.YtbggjmdelnmilaaW.PrintWords Go.Proofs.YtbggjmdelnmilaaW.PrintLast Go.Proofs.YtbggjmdelnmilaaW.PrintMore
set_option linter.unusedVariables false
set_option linter.unusedSimpArgs false
abbrev U3:=ByteArray × ByteArray × Bool
abbrev R4:=List S39 × List U3 × List ByteArray × Int
abbrev u32 (u : U3) : S32:=⟨u.1,u.2.1,u.2.2⟩
def err4 (e : Int) : R4:=([],[],[],e)
def srvN (c n : Int) : List S36 → List S39 → List U3 → List ByteArray → R4
 | [],l,us,ns=>(l,us,ns,0)
 | y :: ws,l,us,ns=>if bestR l y < 0 then srvN c n ws l us (ns ++ [y.f0]) else
  if (tkR l y c n).2.2.2.2 = 0 then srvN c n ws (tkR l y c n).1 (us ++ [((tkR l y c n).2.1,(tkR l y c n).2.2.1,(tkR l y c n).2.2.2.1)]) ns else err4 (tkR l y c n).2.2.2.2
def o32 (r : R4) : List S39 × List S32 × List ByteArray × Int:=(r.1,r.2.1.map u32,r.2.2.1,r.2.2.2)
theorem clone_f {l : List S39} (hg : Good l) : api_Remnant_47.f l = some l:=by
 have:=hg.len
 unfold api_Remnant_47.f
 rw [if_pos (by unfold room;omega)]
theorem oServe_l0 (ws : List S36) (c n : Int) (hws : ws.length ≤ 256) (hw : ∀ y ∈ ws, Gw y) (hc0 : 0 ≤ c) (hc1 : c ≤ 1000) : ∀ (d i : Nat) (l : List S39) (us : List U3) (ns : List ByteArray), i + d = ws.length → Good l → us.length ≤ i → ns.length ≤ i →
  Ev (fun k=>offcut_Serve.l0 k l c n (us.map u32) ns ws (ws.length : Int) (i : Int)) (o32 (srvN c n (ws.drop i) l us ns)):=by
 intro d
 induction d with
 | zero =>
  intro i l us ns hi hg hu hn;rw [List.drop_of_length_le (by omega)]
  refine Ev.step (f:=fun _=>some (l,us.map u32,ns,0)) (fun k=>?_) (Ev.now _)
  simp only [offcut_Serve.l0];rw [if_neg (by omega),clone_f hg,Option.bind_some]
 | succ d ih =>
  intro i l us ns hi hg hu hn
  have hlt : i < ws.length:=by omega
  have hy:=hw ws[i] (List.getElem_mem hlt);have hlen:=hg.len;rw [drop_at hlt]
  unfold srvN
  refine Ev.step (f:=fun k=>(offcut_best.f k l ws[i].f0 ws[i].f1.f0 ws[i].f1.f1 ws[i].f1.f2 ws[i].f2 ws[i].f3 ws[i].f4).bind fun t168=>(if t168 < 0 then (offcut_Serve.l0 k l c n (us.map u32) (ns ++ [ws[i].f0]) ws (ws.length : Int) ((i + 1 : Nat) : Int)) else ((offcut_take.f l t168 ws[i].f0 ws[i].f1.f0 ws[i].f1.f1 ws[i].f1.f2 ws[i].f2 ws[i].f3 ws[i].f4 c n).bind fun bt172=>(if bt172.2.2.2.2 = 0 then (if (us.map u32).length < 3518437208883 then (offcut_Serve.l0 k bt172.1 c n (us.map u32 ++ [(⟨bt172.2.1,bt172.2.2.1,bt172.2.2.2.1⟩ : S32)]) ns ws (ws.length : Int) ((i + 1 : Nat) : Int)) else none) else (some (([] : List (S39)),([] : List (S32)),([] : List ByteArray),bt172.2.2.2.2)))))) (fun k=>?_) ?_
  (simp only [offcut_Serve.l0];rw [if_pos (by omega),if_pos (by omega),if_pos (by omega),rd36 hlt,w1 (by omega),if_pos (show ns.length < 8796093022208 by omega)])
  ·refine Ev.bind (best_f l ws[i] (by omega)) ?_
   rcases bestR_spec l ws[i] with ⟨h1,_⟩|⟨h0,h1,h2⟩
   (rw [h1,if_pos (by omega)];exact Ev.congr (fun k=>if_pos (by omega)) (ih (i + 1) l us (ns ++ [ws[i].f0]) (by omega) hg (by omega) (by rw [List.length_append,List.length_singleton];omega)))
   ·rw [if_neg (by omega)]
    have et : tkR l ws[i] c n = takeR l (bestR l ws[i]).toNat ws[i] c n:=by
     unfold tkR
     rw [if_neg (by omega)]
    obtain ⟨a,ha⟩ : ∃ a : Nat,bestR l ws[i] = a:=⟨(bestR l ws[i]).toNat,by omega⟩
    rw [ha] at h1 h2 et ⊢;rw [Int.toNat_natCast] at et
    refine Ev.congr (fun k=>by rw [if_neg (by omega),take_f ws[i] c n hg (by omega),Option.bind_some,← et]) ?_
    by_cases g : (tkR l ws[i] c n).2.2.2.2 = 0
    (rw [if_pos g];obtain ⟨x,T⟩ := tkR_ok hg hy hc0 hc1 g;have H:=ih (i + 1) (tkR l ws[i] c n).1 (us ++ [((tkR l ws[i] c n).2.1,(tkR l ws[i] c n).2.2.1,(tkR l ws[i] c n).2.2.2.1)]) ns (by omega) T.good (by rw [List.length_append,List.length_singleton];omega) (by omega);rw [List.map_append] at H;exact Ev.congr (fun k=>by rw [if_pos g,if_pos (show (us.map u32).length < 3518437208883 by rw [List.length_map];omega)];rfl) H);(rw [if_neg g];exact Ev.congr (fun k=>if_neg g) (Ev.now _))
def serveA (l : List S39) (ws : List S36) (c n : Int) : R4:=if checkR l = 0 then (if 256 < ws.length then err4 7 else if wantsR ws c = 0 then (if lastB n = true then srvN c n ws l [] [] else err4 6) else err4 (wantsR ws c)) else err4 (checkR l)
theorem oServe_f (l : List S39) (ws : List S36) (c n : Int) (h1 : strsB l = true) (h2 : strsWB ws = true) : Ev (fun k=>offcut_Serve.f k l ws c n) (o32 (serveA l ws c n)):=by
 unfold offcut_Serve.f serveA
 rw [check_f h1];by_cases h : checkR l = 0
 ·rw [if_pos h]
  refine Ev.congr (fun k=>by rw [Option.bind_some,if_pos h]) ?_
  by_cases hl : 256 < ws.length
  (rw [if_pos hl];exact Ev.congr (fun k=>if_pos (by omega)) (Ev.now _))
  ·rw [if_neg hl]
   have er : readyR l ws c = wantsR ws c:=by unfold readyR;rw [if_pos h]
   refine Ev.congr (fun k=>by rw [if_neg (by omega),ready_f c h1 h2,Option.bind_some,er]) ?_
   by_cases g : wantsR ws c = 0
   ·rw [if_pos g]
    refine Ev.congr (fun k=>by rw [if_pos g,lasting_f,Option.bind_some]) ?_
    cases lastB n with
    | false=>exact Ev.congr (fun k=>by rfl) (Ev.now _)
    | true =>
     rw [if_pos rfl];have hw:=(wants_iff ws c).1 g;exact Ev.congr (fun k=>if_pos rfl) (oServe_l0 ws c n (by omega) hw.1 hw.2.1 hw.2.2 ws.length 0 l [] [] (by omega) ((good_iff l).1 h) (Nat.zero_le _) (Nat.zero_le _))
   (rw [if_neg g];exact Ev.congr (fun k=>if_neg g) (Ev.now _))
 (rw [if_neg h];exact Ev.congr (fun k=>by rw [Option.bind_some,if_neg h];rfl) (Ev.now _))
theorem all_l0 (l : List S26) (hl : l.length ≤ 1954687338268) : ∀ (d i : Nat) (acc : List S36),i + d = l.length → acc.length = i → Ev (fun k=>gangsawlaw31_all.l0 k l acc (i : Int)) (acc ++ (l.drop i).map cv):=by
 intro d
 induction d with
 | zero =>
  intro i acc hi ha;rw [List.drop_of_length_le (by omega),List.map_nil,List.append_nil]
  refine Ev.step (f:=fun _=>some acc) (fun k=>?_) (Ev.now _)
  simp only [gangsawlaw31_all.l0];rw [if_neg (by omega)]
 | succ d ih =>
  intro i acc hi ha
  have hlt : i < l.length:=by omega
  rw [drop_at hlt,List.map_cons,← List.singleton_append,← List.append_assoc]
  refine Ev.step (fun k=>?_) (ih (i + 1) (acc ++ [cv l[i]]) (by omega) (by rw [List.length_append,List.length_singleton];omega))
  simp only [gangsawlaw31_all.l0];rw [if_pos (by omega),if_pos (by omega),rd26 hlt,show wrap64 ((i : Int) + 1) = ((i + 1 : Nat) : Int) by rw [w64 (by omega) (by omega)];push_cast;rfl]
  show (if acc.length < 1954687338268 then _ else none) = _
  rw [if_pos (by omega)]
theorem all_f (l : List S26) (hl : l.length ≤ 1954687338268) : Ev (fun k=>gangsawlaw31_all.f k l) (l.map cv):=by
 have h:=all_l0 l hl l.length 0 [] (by omega) rfl;rw [List.drop_zero,List.nil_append] at h;exact h
end Go.Proofs.Ytbggjmdelnmilaa.Pure
