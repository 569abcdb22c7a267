import Derived.Test.YtnjikioimompnaaPug
import Derived.Test.YtnjikioimompnaaPuh
import Derived.Test.YtnjikioimompnaaPAx22
import Derived.Test.YtnjikioimompnaaOp
namespace Go.Proofs.Ytnjikioimompnaa.Pure
open Go.RowKit Go.Proofs.Ytnjikioimompnaa Go.Proofs.Ytnjikioimompnaa.PA Go.Proofs.YtnjikioimompnaaW.PrintWords Go.Proofs.YtnjikioimompnaaW.PrintLast Go.Proofs.YtnjikioimompnaaW.PrintMore
set_option linter.unusedVariables false
set_option linter.unusedSimpArgs false

theorem sides_j1 {nm : ByteArray} {l : List S31} (hv : Valid l) {d : Nat} (hd : d < 4) {i : Nat} (hi : i < l.length) (hb : badAt l (bdd d) i) {b : Bool} (hE : Ev (fun k => gangsawlaw39_ProfileSides.l0 k ((d + 1 : Nat) : Int) nm l) b) :
    Ev (fun k=>gangsawlaw39_ProfileSides.j1 k (d : Int) (i : Int) false nm l) b:=by
  have h1:=hv.lo;have h2:=hv.hi
  have hnx:=nx_lt (l:=l) (by omega) i
  rw [bad_hgt hv.near hd hi] at hb
  refine Ev.step (fun k=>?_) hE
  simp only [gangsawlaw39_ProfileSides.j1]
  have em : Int.tmod (wrap64 ((i : Int) + 1)) (l.length : Int) = (nx l i : Int):=by rw [w1 (by omega)];rfl
  rw [if_neg (by simp),if_pos (by omega),if_pos (by omega),if_neg (by omega),em,if_pos (by omega),if_pos (by omega)]
  simp only [Option.bind_some]
  rw [if_pos (by omega),if_pos (by simp;omega),rd_P,rd_P,w1 (by omega)]
  rcases cases4 hd with rfl|rfl|rfl|rfl
  · simp only [hgt] at hb
    rw [if_pos]
    show decide _ = true
    exact decide_eq_true hb
  · simp only [hgt] at hb
    rw [if_pos]
    show decide _ = true
    exact decide_eq_true (by omega)
  · simp only [hgt] at hb
    rw [if_pos]
    show decide _ = true
    exact decide_eq_true (by omega)
  · simp only [hgt] at hb
    rw [if_pos]
    show decide _ = true
    exact decide_eq_true hb
open Classical in
theorem sides_l0 {nm : ByteArray} {l : List S31} (hnm : nm.size ≤ 1000000) (h0 : chk nm l = 0) : ∀ m d : Nat,d + m = 4 → Ev (fun k=>gangsawlaw39_ProfileSides.l0 k (d : Int) nm l) true:=by
  intro m
  have hv:=(chk_zero.1 h0).2
  have h1:=hv.lo;have h2:=hv.hi
  induction m with
  | zero =>
    intro d hd
    refine Ev.step (f:=fun _=>some true) (fun k=>?_) (Ev.now _)
    simp only [gangsawlaw39_ProfileSides.l0]
    rw [if_neg (by omega)]
  | succ m ih =>
    intro d hd
    have hE:=ih (d + 1) (by omega)
    obtain ⟨r,hS,hU⟩ := Undercut_f nm l hnm h0 d (by omega)
    refine Ev.step (f:=fun k=>(profile_Undercut.f k nm l (d : Int)).bind fun bt=>if bt.2 = 9 then gangsawlaw39_ProfileSides.l0 k ((d + 1 : Nat) : Int) nm l else if bt.2 = 0 then (if bt.1 < 0 then gangsawlaw39_ProfileSides.j1 k (d : Int) bt.1 true nm l else if bt.1 ≥ (l.length : Int) then gangsawlaw39_ProfileSides.j1 k (d : Int) bt.1 true nm l else gangsawlaw39_ProfileSides.j1 k (d : Int) bt.1 ((l.length : Int) == 3) nm l) else some (bt.1 == 0)) (fun k=>?_) (Ev.bind hU ?_)
    · simp only [gangsawlaw39_ProfileSides.l0]
      rw [if_pos (by omega),w1 (by omega)]
    · by_cases e : noUnd l d
      · rw [if_pos e]
        exact Ev.congr (fun k=>if_pos rfl) hE
      · rw [if_neg e]
        have hn3 : l.length ≠ 3:=fun h=>e (tri hv.near h (by omega))
        rcases hS with ⟨_,h⟩|⟨j,hj,rfl,hb,_⟩
        · exact absurd h e
        · have hi : (frm l d + j) % l.length < l.length:=Nat.mod_lt _ (by omega)
          have J:=sides_j1 (nm:=nm) hv (by omega) hi hb hE
          refine Ev.congr (fun k=>?_) J
          rw [if_neg (by simp),if_pos rfl,if_neg (by omega),if_neg (by omega),show ((l.length : Int) == 3) = false from by rw [beq_eq_false_iff_ne];omega]
theorem chk_ne9 (nm : ByteArray) (l : List S31) : chk nm l ≠ 9:=by unfold chk;repeat' split;all_goals omega
theorem ProfileSides (nm : ByteArray) (l : List S31) (_ : nm.size ≤ maxLen) (_ : l.length ≤ maxLen) (_ : ∀ p ∈ l,Rng p.f0 ∧ Rng p.f1) : ∃ k,gangsawlaw39_ProfileSides.f k nm l = some true:=by
  have key : Ev (fun k=>gangsawlaw39_ProfileSides.f k nm l) true:=by
    unfold gangsawlaw39_ProfileSides.f
    refine Ev.bind awake_f (Ev.congr (fun k=>if_pos rfl) ?_)
    rcases short_f nm l with h|⟨h,hl,hs⟩
    · rw [h];exact Ev.congr (fun k=>by simp only [Option.bind_some];rw [if_neg (by simp)]) (Ev.now _)
    · rw [h]
      refine Ev.congr (fun k=>by simp only [Option.bind_some];rw [if_pos trivial]) ?_
      by_cases h0 : chk nm l = 0
      · exact sides_l0 (by omega) h0 4 0 rfl
      · refine Ev.step (f:=fun k=>(profile_Undercut.f k nm l 0).bind fun bt=>if bt.2 = 9 then gangsawlaw39_ProfileSides.l0 k 1 nm l else if bt.2 = 0 then (if bt.1 < 0 then gangsawlaw39_ProfileSides.j1 k 0 bt.1 true nm l else if bt.1 ≥ (l.length : Int) then gangsawlaw39_ProfileSides.j1 k 0 bt.1 true nm l else gangsawlaw39_ProfileSides.j1 k 0 bt.1 ((l.length : Int) == 3) nm l) else some (bt.1 == 0)) (fun k=>?_) (Ev.bind (Undercut_e nm l (by omega) h0 0) ?_)
        · simp only [gangsawlaw39_ProfileSides.l0]
          rw [if_pos (by omega),w64 (n:=0 + 1) (by omega) (by omega)]
          rfl
        · exact Ev.congr (fun k=>by rw [if_neg (chk_ne9 nm l),if_neg h0];rfl) (Ev.now _)
  exact key.rounds
end Go.Proofs.Ytnjikioimompnaa.Pure
