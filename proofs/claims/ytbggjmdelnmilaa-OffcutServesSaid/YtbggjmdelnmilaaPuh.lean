import Derived.Test.YtbggjmdelnmilaaOp
import Derived.Test.YtbggjmdelnmilaaPuc
import Derived.Test.YtbggjmdelnmilaaPAx18
import Derived.Test.YtbggjmdelnmilaaPAx7
import Derived.Test.YtbggjmdelnmilaaPug
import Derived.ChangeArms
import Derived.Deep.Slices
import Derived.OpenShut
namespace Go.Proofs.Ytbggjmdelnmilaa.Pure
open Go.RowKit Go.Proofs.Ytbggjmdelnmilaa Go.Proofs.Ytbggjmdelnmilaa.PA Go.Proofs.YtbggjmdelnmilaaW.PrintWords Go.Proofs.YtbggjmdelnmilaaW.PrintLast Go.Proofs.YtbggjmdelnmilaaW.PrintMore
set_option linter.unusedVariables false
set_option linter.unusedSimpArgs false
def volW (a : Int) : List S39 → Option Int
 | []=>some a
 | x :: r=>if a > wrap64 (8000000000000000000 - volR x.f1) then none else volW (wrap64 (a + volR x.f1)) r
def volE (o : Option Int) : Int × Int:=match o with|some v=>(v,0)|none=>(0,6)
theorem ovol_l0 (l : List S39) (hl : l.length ≤ 1000000) : ∀ (d i : Nat) (a : Int),i + d = l.length → Ev (fun k=>offcut_Volume.l0 k a l (l.length : Int) (i : Int)) (volE (volW a (l.drop i))):=by
 intro d
 induction d with
 | zero =>
  intro i a hi;rw [List.drop_of_length_le (by omega)]
  refine Ev.step (f:=fun _=>some (a,0)) (fun k=>?_) (Ev.now _)
  simp only [offcut_Volume.l0];rw [if_neg (by omega)]
 | succ d ih =>
  intro i a hi
  have hlt : i < l.length:=by omega
  rw [drop_at hlt]
  unfold volW
  by_cases h : a > wrap64 (8000000000000000000 - volR l[i].f1)
  ·rw [if_pos h]
   refine Ev.step (f:=fun _=>some (0,6)) (fun k=>?_) (Ev.now _)
   simp only [offcut_Volume.l0];rw [if_pos (by omega),if_pos (by omega),if_pos (by omega),rd39 hlt,volume_f,Option.bind_some,if_pos h]
  ·rw [if_neg h]
   refine Ev.step (fun k=>?_) (ih (i + 1) (wrap64 (a + volR l[i].f1)) (by omega))
   simp only [offcut_Volume.l0];rw [if_pos (by omega),if_pos (by omega),if_pos (by omega),rd39 hlt,volume_f,Option.bind_some,if_neg h,w1 (by omega)]
def volA (l : List S39) : Int × Int:=if checkR l = 0 then volE (volW 0 l) else (0,checkR l)
theorem check_f {l : List S39} (h1 : strsB l = true) : offcut_Check.f l = some (checkR l):=by
 unfold offcut_Check.f
 rw [if_pos h1]
theorem oVolume_f (l : List S39) (h1 : strsB l = true) : Ev (fun k=>offcut_Volume.f k l) (volA l):=by
 unfold offcut_Volume.f volA
 rw [check_f h1];by_cases h : checkR l = 0
 (rw [if_pos h];have hg:=((good_iff l).1 h).len;have H:=ovol_l0 l (by omega) l.length 0 0 (by omega);rw [List.drop_zero] at H;exact Ev.congr (fun k=>by rw [Option.bind_some,if_pos h];rfl) H);(rw [if_neg h];exact Ev.congr (fun k=>by rw [Option.bind_some,if_neg h]) (Ev.now _))
theorem strsW_ok {l : List S26} (h : ∀ p ∈ l,WantP p) : strsWB (l.map cv) = true:=by
 unfold strsWB
 rw [List.all_eq_true];intro y hy;obtain ⟨x,hx,rfl⟩ := List.mem_map.1 hy
 have:=h x hx
 unfold WantP WantOk at this
 simp only [Bool.and_eq_true,decide_eq_true_eq];exact ⟨this.1,this.2.2.2.2.2⟩
end Go.Proofs.Ytbggjmdelnmilaa.Pure
namespace Go.Proofs.Ytbggjmdelnmilaa.Pure
open Go.RowKit Go.Proofs.Ytbggjmdelnmilaa Go.Proofs.Ytbggjmdelnmilaa.PA Go.Proofs.YtbggjmdelnmilaaW.PrintWords Go.Proofs.YtbggjmdelnmilaaW.PrintLast Go.Proofs.YtbggjmdelnmilaaW.PrintMore
set_option linter.unusedVariables false
set_option linter.unusedSimpArgs false
abbrev one36 (y : S36) : S36:=⟨y.f0,⟨y.f1.f0,y.f1.f1,y.f1.f2⟩,y.f2,y.f3,y.f4⟩
abbrev one39 (x : S39) : S39:=⟨x.f0,⟨x.f1.f0,x.f1.f1,x.f1.f2⟩,x.f2,x.f3,x.f4⟩
def refuA (l : List S39) (y : S36) (c : Int) : Bool × Int:=if readyR l [y] c = 0 then (decide (bestR l y < 0),0) else (false,readyR l [y] c)
def fitsA (x : S39) (y : S36) (c : Int) : Bool × Bool × Int:=if readyR [x] [y] c = 0 then ((fitsB x y).1,(fitsB x y).2,0) else (false,false,readyR [x] [y] c)
def restO (x : S39) (y : S36) (c : Int) : List S39 × Int:=if (fitsB x y).1 = true then (if ((restR x y c).any fun r=>!lexName r.f0) = true then ([],4) else (restR x y c,0)) else ([],9)
def restA (x : S39) (y : S36) (c : Int) : List S39 × Int:=if readyR [x] [y] c = 0 then restO x y c else ([],readyR [x] [y] c)
theorem oRefused_f (l : List S39) (y : S36) (c : Int) (h1 : strsB l = true) (h2 : strsWB [y] = true) : Ev (fun k=>offcut_Refused.f k l y.f0 y.f1.f0 y.f1.f1 y.f1.f2 y.f2 y.f3 y.f4 c) (refuA l y c):=by
 unfold offcut_Refused.f refuA
 rw [show offcut_ready.f l [one36 y] c = some (readyR l [y] c) from ready_f c h1 h2];by_cases h : readyR l [y] c = 0
 (rw [if_pos h];have hg:=((ready_iff l [y] c).1 h).1.len;exact Ev.congr (fun k=>by rw [Option.bind_some,if_pos h]) (Ev.bind (best_f l y (by omega)) (Ev.now _)));(rw [if_neg h];exact Ev.congr (fun k=>by rw [Option.bind_some,if_neg h]) (Ev.now _))
theorem oFits_f (x : S39) (y : S36) (c : Int) (h1 : strsB [x] = true) (h2 : strsWB [y] = true) : Ev (fun k=>offcut_Fits.f k x.f0 x.f1.f0 x.f1.f1 x.f1.f2 x.f2 x.f3 x.f4 y.f0 y.f1.f0 y.f1.f1 y.f1.f2 y.f2 y.f3 y.f4 c) (fitsA x y c):=by
 unfold offcut_Fits.f fitsA
 rw [show offcut_ready.f [one39 x] [one36 y] c = some (readyR [x] [y] c) from ready_f c h1 h2];by_cases h : readyR [x] [y] c = 0
 (rw [if_pos h];exact Ev.congr (fun k=>by rw [Option.bind_some,if_pos h]) (Ev.bind (fits_e x y) (Ev.now _)));(rw [if_neg h];exact Ev.congr (fun k=>by rw [Option.bind_some,if_neg h]) (Ev.now _))
theorem oRest_f (x : S39) (y : S36) (c : Int) (h1 : strsB [x] = true) (h2 : strsWB [y] = true) : Ev (fun k=>offcut_Rest.f k x.f0 x.f1.f0 x.f1.f1 x.f1.f2 x.f2 x.f3 x.f4 y.f0 y.f1.f0 y.f1.f1 y.f1.f2 y.f2 y.f3 y.f4 c) (restA x y c):=by
 unfold offcut_Rest.f restA
 rw [show offcut_ready.f [one39 x] [one36 y] c = some (readyR [x] [y] c) from ready_f c h1 h2];by_cases h : readyR [x] [y] c = 0
 ·rw [if_pos h];have hg:=((ready_iff [x] [y] c).1 h).1.el x (by simp);have hx:=lex_size hg.1
  refine Ev.congr (fun k=>by rw [Option.bind_some,if_pos h]) (Ev.bind (fits_e x y) ?_)
  unfold restO
  cases (fitsB x y).1 with
  | false=>exact Ev.congr (fun k=>by rfl) (Ev.now _)
  | true =>
   rw [if_pos rfl]
   have e1 : offcut_rest.f x.f0 x.f1.f0 x.f1.f1 x.f1.f2 x.f2 x.f3 x.f4 y.f0 y.f1.f0 y.f1.f1 y.f1.f2 y.f2 y.f3 y.f4 c = some (restR x y c):=by
    unfold offcut_rest.f
    rw [if_pos (by unfold bigN;omega)]
   have e2 : anyNameless.f (restR x y c) = some ((restR x y c).any fun r=>!lexName r.f0):=by
    unfold anyNameless.f namesB
    rw [if_pos (by
     rw [List.all_eq_true];intro r hr
     exact decide_eq_true (rest_size x y c bigN (by unfold bigN;omega) r hr))]
   refine Ev.congr (fun k=>by rw [e1,Option.bind_some,e2,Option.bind_some]) ?_
   cases ((restR x y c).any fun r=>!lexName r.f0) with
   | true=>exact Ev.congr (fun k=>by rfl) (Ev.now _)
   | false=>exact Ev.congr (fun k=>by rfl) (Ev.now _)
 (rw [if_neg h];exact Ev.congr (fun k=>by rw [Option.bind_some,if_neg h]) (Ev.now _))
theorem least_f (n : Int) : gangsawref31_least.f n = some (lastB n):=by
 unfold gangsawref31_least.f lastB
 by_cases h : n ≥ 1
 (rw [if_pos h,decide_eq_true (show 1 ≤ n from h),Bool.true_and]);(rw [if_neg h,decide_eq_false (show ¬ 1 ≤ n from h),Bool.false_and])
def takingR (l : List S39) (ws : List S26) (c n : Int) : Int:=if checkR l = 0 then (if (if 256 < ws.length then 7 else wantsR (ws.map cv) c) = 0 then (if lastB n = true then 0 else 6) else (if 256 < ws.length then 7 else wantsR (ws.map cv) c)) else checkR l
theorem rTaking_f (l : List S39) (ws : List S26) (c n : Int) (hl : ∀ x ∈ l,St x) (hw : 256 < ws.length ∨ ∀ x ∈ ws,Sw x) : Ev (fun k=>gangsawref31_Taking.f k l ws c n) (takingR l ws c n):=by
 unfold gangsawref31_Taking.f takingR
 refine Ev.bind (rCheck_f l (.inr hl)) ?_
 by_cases h : checkR l = 0
 ·rw [if_pos h]
  refine Ev.congr (fun k=>if_pos h) (Ev.bind (rWants_f ws c hw) ?_)
  by_cases g : (if 256 < ws.length then 7 else wantsR (ws.map cv) c) = 0
  ·rw [if_pos g,if_pos g]
   refine Ev.congr (fun k=>by rw [least_f,Option.bind_some]) ?_
   cases lastB n with
   | true=>exact Ev.congr (fun k=>by rfl) (Ev.now _)
   | false=>exact Ev.congr (fun k=>by rfl) (Ev.now _)
  (rw [if_neg g,if_neg g];exact Ev.now _)
 (rw [if_neg h];exact Ev.congr (fun k=>if_neg h) (Ev.now _))
theorem few1 (w : S26) : ∃ b,Ev (fun k=>gangsawref31_Few.f k [w] 1) b ∧ (b = true → Sw w):=by
 obtain ⟨b,hb,h⟩ := few_f [w] 1 (by omega);exact ⟨b,hb,fun g=>(h g).2 w (by simp)⟩
end Go.Proofs.Ytbggjmdelnmilaa.Pure
