import Derived.Test.YtnjikioimompnaaPul
import Derived.Test.YtnjikioimompnaaPun
import Derived.Test.YtnjikioimompnaaPAx21
import Derived.Test.YtnjikioimompnaaOp
namespace Go.Proofs.Ytnjikioimompnaa.Pure
open Go.RowKit Go.Proofs.Ytnjikioimompnaa Go.Proofs.Ytnjikioimompnaa.PA Go.Proofs.YtnjikioimompnaaW.PrintWords Go.Proofs.YtnjikioimompnaaW.PrintLast Go.Proofs.YtnjikioimompnaaW.PrintMore
set_option linter.unusedVariables false
set_option linter.unusedSimpArgs false

open Classical in
theorem mirrored_l {nm : ByteArray} {l m : List S31} (hnm : nm.size ≤ 1000000) (hc : chk nm l = 0) (hc' : chk nm m = 0) (hu : ∀ d, d < 4 → (noUnd m (oth d) ↔ noUnd l d)) :
    ∀ e d : Nat,d + e = 4 → Ev (fun k=>gangsawlaw39_ProfileMirrored.l0 k (d : Int) nm l nm m) true:=by
  intro e
  induction e with
  | zero =>
    intro d hd
    refine Ev.step (f:=fun _=>some true) (fun k=>?_) (Ev.now _)
    simp only [gangsawlaw39_ProfileMirrored.l0]
    rw [if_neg (by omega)]
  | succ e ih =>
    intro d hd
    obtain ⟨r1,_,E1⟩ := Undercut_f nm l hnm hc d (by omega)
    obtain ⟨r2,_,E2⟩ := Undercut_f nm m hnm hc' (oth d) (oth_lt (by omega))
    have J : Ev (fun k=>gangsawlaw39_ProfileMirrored.j4 k (d : Int) (oth d : Int) nm l nm m) true:=by
      refine Ev.step (f:=fun k=>(profile_Undercut.f k nm l (d : Int)).bind fun bt=>(profile_Undercut.f k nm m (oth d : Int)).bind fun bt2=>if bt.2 = bt2.2 then gangsawlaw39_ProfileMirrored.l0 k ((d + 1 : Nat) : Int) nm l nm m else none) (fun k=>?_) (Ev.bind E1 (Ev.bind E2 (Ev.congr (fun k=>if_pos ?_) (ih (d + 1) (by omega)))))
      · simp only [gangsawlaw39_ProfileMirrored.j4]
        rw [w1 (by omega)]
      · by_cases g : noUnd l d
        · rw [if_pos g,if_pos ((hu d (by omega)).2 g)]
        · rw [if_neg g,if_neg (fun k=>g ((hu d (by omega)).1 k))]
    refine Ev.step (fun k=>?_) J
    simp only [gangsawlaw39_ProfileMirrored.l0]
    rw [if_pos (by omega)]
    unfold oth
    by_cases g : d < 2
    · rw [if_pos (by omega),if_pos g,w64 (by omega) (by omega)]
      congr 1
      omega
    · rw [if_neg (by omega),if_neg g]
theorem ProfileMirrored (nm : ByteArray) (l : List S31) (_ : nm.size ≤ maxLen) (_ : l.length ≤ maxLen) (_ : ∀ p ∈ l,Rng p.f0 ∧ Rng p.f1) : ∃ k,gangsawlaw39_ProfileMirrored.f k nm l = some true:=by
  have key : Ev (fun k=>gangsawlaw39_ProfileMirrored.f k nm l) true:=by
    unfold gangsawlaw39_ProfileMirrored.f
    refine Ev.bind awake_f (Ev.congr (fun k=>if_pos rfl) ?_)
    rcases short_f nm l with h|⟨h,hl,hs⟩
    · rw [h];exact Ev.congr (fun k=>by simp only [Option.bind_some];rw [if_neg (by simp)]) (Ev.now _)
    · rw [h]
      refine Ev.congr (fun k=>by simp only [Option.bind_some];rw [if_pos trivial]) ?_
      have hnm : nm.size ≤ 1000000:=by omega
      by_cases h0 : chk nm l = 0
      · obtain ⟨hN,hv⟩ := chk_zero.1 h0
        have lo:=hv.lo;have hi:=hv.hi
        obtain ⟨lx,ly,hx,hy,hB⟩ := box_of (l:=l) (by omega) (by omega)
        have hr:=rev_valid hv
        have hf:=(fst_min (l:=l) (by omega)).1
        have hf':=(fst_min (l:=rev l) (by rw [rev_len];omega)).1
        have hBr:=rev_box hB
        refine Ev.bind (Canonical_f nm l hnm h0 hB) (Ev.congr (fun k=>if_pos rfl) (Ev.bind (Bounds_f nm l hnm h0 hB) (Ev.congr (fun k=>if_pos rfl) ?_)))
        have early : Ev (fun k=>gangsawlaw39_ProfileMirrored.j0 k 0 true nm l nm (can l (fst l) lx ly) lx ly) true:=by
          refine Ev.step (f:=fun _=>some true) (fun k=>?_) (Ev.now _)
          simp only [gangsawlaw39_ProfileMirrored.j0]
          obtain ⟨i,p,q⟩ := hB.lx_
          have n1:=hv.near.at p
          unfold near at n1
          rw [if_pos trivial,if_pos trivial,decide_eq_true (by omega)]
        by_cases g1 : hx - lx > 1000000
        · exact Ev.congr (fun k=>if_pos g1) early
        by_cases g2 : hy - ly > 1000000
        · exact Ev.congr (fun k=>by rw [if_neg g1,decide_eq_true g2]) early
        refine Ev.congr (fun k=>by rw [if_neg g1,decide_eq_false g2]) ?_
        have T1:=can_turned (l:=l) (x:=lx) (y:=ly) hf
        have T2:=can_turned (l:=rev l) (x := -hx) (y:=ly) hf'
        have hvc:=can_valid hv hf hB (by omega) (by omega)
        have hvm:=can_valid hr hf' hBr (by omega) (by omega)
        obtain ⟨C,hC⟩ : ∃ C,C = can l (fst l) lx ly:=⟨_,rfl⟩
        obtain ⟨M,hM⟩ : ∃ M,M = can (rev l) (fst (rev l)) (-hx) ly:=⟨_,rfl⟩
        rw [← hC] at T1 hvc
        rw [← hM] at T2 hvm
        have hcC : chk nm C = 0:=chk_zero.2 ⟨hN,hvc⟩
        have hcM : chk nm M = 0:=chk_zero.2 ⟨hN,hvm⟩
        have E1:=Mirror_f nm l hnm h0 hB
        have E2:=Canonical_f nm C hnm hcC (T1.box hB)
        rw [T1.canon hv.nodup hv.sim lx ly,← hC] at E2
        rw [← hM] at E1
        have E3:=Mirror_f nm M hnm hcM (T2.box hBr)
        obtain ⟨s',T3⟩ := T2.rev
        rw [rev_rev] at T3
        have e3:=T3.canon hv.nodup hv.sim lx ly
        rw [← hC] at e3
        rw [show -(-lx + - -hx) = lx + - - -hx by omega,e3] at E3
        have lc : C.length ≤ 1000:=by have:=hvc.hi;omega
        refine Ev.step (f:=fun k=>(profile_Mirror.f k nm l).bind fun bt543=>(profile_Canonical.f k nm C).bind fun bt549=>(profile_Mirror.f k bt543.1 bt543.2.1).bind fun bt555=>(if bt543.2.2 = 0 then (if bt549.2.2 = 0 then (if bt555.2.2 = 0 then ((gangsawlaw39_same.f k nm C bt549.1 bt549.2.1).bind fun t561=>(if t561 = true then ((gangsawlaw39_same.f k nm C bt555.1 bt555.2.1).bind fun t562=>(gangsawlaw39_ProfileMirrored.j1 k (!t562) nm l nm C bt543.1 bt543.2.1)) else (gangsawlaw39_ProfileMirrored.j1 k true nm l nm C bt543.1 bt543.2.1))) else (gangsawlaw39_ProfileMirrored.j1 k true nm l nm C bt543.1 bt543.2.1)) else (gangsawlaw39_ProfileMirrored.j1 k true nm l nm C bt543.1 bt543.2.1)) else (gangsawlaw39_ProfileMirrored.j1 k true nm l nm C bt543.1 bt543.2.1))) (fun k=>?_) (Ev.bind E1 (Ev.bind E2 (Ev.bind E3 (Ev.congr (fun k=>by rw [if_pos rfl,if_pos rfl,if_pos rfl]) (Ev.bind (same_refl nm C lc) (Ev.congr (fun k=>if_pos rfl) (Ev.bind (same_refl nm C lc) ?_)))))))
        · simp only [gangsawlaw39_ProfileMirrored.j0]
          rw [if_neg (by simp),hC]
        · refine Ev.step (f:=fun k=>(profile_Area.f k nm l).bind fun bt563=>(profile_Area.f k nm C).bind fun bt565=>(profile_Area.f k nm M).bind fun bt567=>(if bt563.2 = 0 then (if bt565.2 = 0 then (if bt567.2 = 0 then (if bt563.1 = bt565.1 then (gangsawlaw39_ProfileMirrored.j2 k (bt563.1 != bt567.1) nm l nm M) else (gangsawlaw39_ProfileMirrored.j2 k true nm l nm M)) else (gangsawlaw39_ProfileMirrored.j2 k true nm l nm M)) else (gangsawlaw39_ProfileMirrored.j2 k true nm l nm M)) else (gangsawlaw39_ProfileMirrored.j2 k true nm l nm M))) (fun k=>?_) (Ev.bind (Area_f nm l hnm h0) (Ev.bind (Area_f nm C hnm hcC) (Ev.bind (Area_f nm M hnm hcM) ?_)))
          · simp only [gangsawlaw39_ProfileMirrored.j1]
            rw [if_neg (by simp)]
          · have eC : area C = area l:=T1.area
            have eM : area M = area l:=by rw [T2.area,rev_area]
            rw [eC,eM]
            refine Ev.congr (fun k=>by rw [if_pos rfl,if_pos rfl,if_pos rfl,if_pos rfl,bne_self_eq_false]) (Ev.step (fun k=>?_) (mirrored_l hnm h0 hcM (fun d hd=>?_) 4 0 rfl))
            · simp only [gangsawlaw39_ProfileMirrored.j2]
              rw [if_neg (by simp)]
              rfl
            · rw [T2.noUnd hr hvm (oth_lt hd)]
              exact rev_noUnd hv hd
      · refine Ev.bind (Canonical_e nm l hnm h0) (Ev.congr (fun k=>if_neg h0) (Ev.now _))
  exact key.rounds
end Go.Proofs.Ytnjikioimompnaa.Pure
