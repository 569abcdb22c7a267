import Derived.Test.YtbggjmdelnmilaaOp
import Derived.Test.YtbggjmdelnmilaaPue
namespace Go.Proofs.Ytbggjmdelnmilaa.Pure
open Go.RowKit Go.Proofs.Ytbggjmdelnmilaa Go.Proofs.Ytbggjmdelnmilaa.PA Go.Proofs.YtbggjmdelnmilaaW.PrintWords Go.Proofs.YtbggjmdelnmilaaW.PrintLast Go.Proofs.YtbggjmdelnmilaaW.PrintMore
set_option linter.unusedVariables false
set_option linter.unusedSimpArgs false
def volW (a : Int) : List S39 → Option Int
 | []=>some a
 | x :: r=>if a > wrap64 (8000000000000000000 - volR x.f1) then none else volW (wrap64 (a + volR x.f1)) r
def volB (o : Option Int) : Int × Bool:=match o with|some v=>(v,true)|none=>(0,false)
def volE (o : Option Int) : Int × Int:=match o with|some v=>(v,0)|none=>(0,6)
theorem rvol_l0 (l : List S39) (hl : l.length ≤ 1000000) : ∀ (d i : Nat) (a : Int),i + d = l.length → Ev (fun k=>gangsawref31_Volume.l0 k l a (i : Int)) (volB (volW a (l.drop i))):=by
 intro d
 induction d with
 | zero =>
  intro i a hi;rw [List.drop_of_length_le (by omega)]
  refine Ev.step (f:=fun _=>some (a,true)) (fun k=>?_) (Ev.now _)
  simp only [gangsawref31_Volume.l0];rw [if_neg (by omega)]
 | succ d ih =>
  intro i a hi
  have hlt : i < l.length:=by omega
  rw [drop_at hlt]
  unfold volW
  by_cases h : a > wrap64 (8000000000000000000 - volR l[i].f1)
  ·rw [if_pos h]
   refine Ev.step (f:=fun _=>some (0,false)) (fun k=>?_) (Ev.now _)
   simp only [gangsawref31_Volume.l0];rw [if_pos (by omega),if_pos (by omega),rd39 hlt,product_f,Option.bind_some,if_pos h]
  ·rw [if_neg h]
   refine Ev.step (fun k=>?_) (ih (i + 1) (wrap64 (a + volR l[i].f1)) (by omega))
   simp only [gangsawref31_Volume.l0];rw [if_pos (by omega),if_pos (by omega),rd39 hlt,product_f,Option.bind_some,if_neg h,w1 (by omega)]
theorem rVolume_f (l : List S39) (hl : l.length ≤ 1000000) : Ev (fun k=>gangsawref31_Volume.f k l) (volB (volW 0 l)):=by
 have h:=rvol_l0 l hl l.length 0 0 (by omega);rw [List.drop_zero] at h;exact h
theorem ovol_l0 (l : List S39) (hl : l.length ≤ 1000000) : ∀ (d i : Nat) (a : Int),i + d = l.length → Ev (fun k=>offcut_Volume.l0 k a l (l.length : Int) (i : Int)) (volE (volW a (l.drop i))):=by
 intro d
 induction d with
 | zero =>
  intro i a hi;rw [List.drop_of_length_le (by omega)]
  refine Ev.step (f:=fun _=>some (a,0)) (fun k=>?_) (Ev.now _)
  simp only [offcut_Volume.l0];rw [if_neg (by omega)]
 | succ d ih =>
  intro i a hi
  have hlt : i < l.length:=by omega
  rw [drop_at hlt]
  unfold volW
  by_cases h : a > wrap64 (8000000000000000000 - volR l[i].f1)
  ·rw [if_pos h]
   refine Ev.step (f:=fun _=>some (0,6)) (fun k=>?_) (Ev.now _)
   simp only [offcut_Volume.l0];rw [if_pos (by omega),if_pos (by omega),if_pos (by omega),rd39 hlt,volume_f,Option.bind_some,if_pos h]
  ·rw [if_neg h]
   refine Ev.step (fun k=>?_) (ih (i + 1) (wrap64 (a + volR l[i].f1)) (by omega))
   simp only [offcut_Volume.l0];rw [if_pos (by omega),if_pos (by omega),if_pos (by omega),rd39 hlt,volume_f,Option.bind_some,if_neg h,w1 (by omega)]
def volA (l : List S39) : Int × Int:=if checkR l = 0 then volE (volW 0 l) else (0,checkR l)
theorem check_f {l : List S39} (h1 : strsB l = true) : offcut_Check.f l = some (checkR l):=by
 unfold offcut_Check.f
 rw [if_pos h1]
theorem oVolume_f (l : List S39) (h1 : strsB l = true) : Ev (fun k=>offcut_Volume.f k l) (volA l):=by
 unfold offcut_Volume.f volA
 rw [check_f h1];by_cases h : checkR l = 0
 (rw [if_pos h];have hg:=((good_iff l).1 h).len;have H:=ovol_l0 l (by omega) l.length 0 0 (by omega);rw [List.drop_zero] at H;exact Ev.congr (fun k=>by rw [Option.bind_some,if_pos h];rfl) H);(rw [if_neg h];exact Ev.congr (fun k=>by rw [Option.bind_some,if_neg h]) (Ev.now _))
theorem strs_ok {l : List S39} (h : ∀ p ∈ l,RemP p) : strsB l = true:=by
 unfold strsB
 rw [List.all_eq_true];intro x hx
 have:=h x hx
 unfold RemP RemOk at this
 have e : maxLen = 9223372036854775807:=rfl;simp only [Bool.and_eq_true,decide_eq_true_eq];exact ⟨this.1,this.2.2.2.2.2.1,this.2.2.2.2.2.2⟩
end Go.Proofs.Ytbggjmdelnmilaa.Pure
