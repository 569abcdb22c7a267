import Derived.Test.YtnjikioimompnaaPul
import Derived.Test.YtnjikioimompnaaPAx24
import Derived.Test.YtnjikioimompnaaOp
namespace Go.Proofs.Ytnjikioimompnaa.Pure
open Go.RowKit Go.Proofs.Ytnjikioimompnaa Go.Proofs.Ytnjikioimompnaa.PA Go.Proofs.YtnjikioimompnaaW.PrintWords Go.Proofs.YtnjikioimompnaaW.PrintLast Go.Proofs.YtnjikioimompnaaW.PrintMore
set_option linter.unusedVariables false
set_option linter.unusedSimpArgs false

theorem eq46_l (l : List S31) (hl : l.length ≤ 1000) : ∀ d i : Nat,i + d = l.length → Ev (fun k=>api_Point_46.l0 k l l (l.length : Int) (i : Int)) true:=by
  intro d
  induction d with
  | zero =>
    intro i hi
    refine Ev.step (f:=fun _=>some true) (fun k=>?_) (Ev.now _)
    simp only [api_Point_46.l0]
    rw [if_neg (by omega)]
  | succ d ih =>
    intro i hi
    refine Ev.step (fun k=>?_) (ih (i + 1) (by omega))
    simp only [api_Point_46.l0]
    rw [if_pos (by omega),if_pos (by omega),if_pos (by omega),if_pos (by omega),if_neg (by simp),w1 (by omega)]
/-- two profiles with the same canonical outline -/
theorem Equal_t (nm nm' : ByteArray) (l q : List S31) (hnm : nm.size ≤ 1000000) (hnm' : nm'.size ≤ 1000000) (h0 : chk nm l = 0) (h1 : chk nm' q = 0) {C : List S31} (hE : Ev (fun k => profile_Canonical.f k nm l) (nm, C, 0)) (hE' : Ev (fun k => profile_Canonical.f k nm' q) (nm', C, 0)) (hC : C.length ≤ 1000) :
    Ev (fun k=>profile_Equal.f k nm l nm' q) (true,0):=by
  unfold profile_Equal.f
  refine Ev.bind hE (Ev.congr (fun k=>if_pos rfl) (Ev.bind hE' (Ev.congr (fun k=>if_pos rfl) (Ev.bind ?_ (Ev.now _)))))
  unfold api_Point_46.f
  exact Ev.congr (fun k=>if_pos rfl) (eq46_l C hC C.length 0 (by simp))
theorem moves_l1 (D : List Int) (hD : D.length ≤ 1000) : ∀ d i : Nat,i + d = D.length → Ev (fun k=>gangsawlaw39_ProfileMoves.l1 k D D (i : Int)) true:=by
  intro d
  induction d with
  | zero =>
    intro i hi
    refine Ev.step (f:=fun _=>some true) (fun k=>?_) (Ev.now _)
    simp only [gangsawlaw39_ProfileMoves.l1]
    rw [if_neg (by omega)]
  | succ d ih =>
    intro i hi
    refine Ev.step (fun k=>?_) (ih (i + 1) (by omega))
    simp only [gangsawlaw39_ProfileMoves.l1]
    rw [if_pos (by omega),if_pos (by omega),if_pos (by omega),if_pos trivial,w1 (by omega)]
open Classical in
theorem dirs_congr {l q : List S31} (h : ∀ d,d < 4 → (noUnd q d ↔ noUnd l d)) : ∀ m d,d + m = 4 → dirs q d m = dirs l d m:=by
  intro m
  induction m with
  | zero=>intro d _;rfl
  | succ m ih =>
    intro d hd
    unfold dirs
    rw [ih (d + 1) (by omega)]
    by_cases g : noUnd l d
    · rw [if_pos g,if_pos ((h d (by omega)).2 g)]
    · rw [if_neg g,if_neg (fun k=>g ((h d (by omega)).1 k))]
open Classical in
theorem dirs_len (l : List S31) : ∀ m d,(dirs l d m).length ≤ m:=by
  intro m
  induction m with
  | zero=>intro d;exact Nat.le_refl _
  | succ m ih =>
    intro d
    unfold dirs
    have:=ih (d + 1)
    split
    · simp;exact this
    · omega
/-- what is asked of the moved profile -/
theorem moves_end (nm : ByteArray) (l q : List S31) (hnm : nm.size ≤ 1000000) (hl : l.length ≤ 80) {s : Nat} {x y : Int} (T : Turned l q s x y) (hN : Near l) (t : Int) (h1 : chk nm q = 0) :
    Ev (fun k=>(profile_Equal.f k nm l nm q).bind fun bt618=>((profile_Area.f k nm l).bind fun bt620=>((profile_Area.f k nm q).bind fun bt622=>((profile_Directions.f k nm l).bind fun bt624=>((profile_Directions.f k nm q).bind fun bt628=>(if bt618.2 = 0 then (if bt618.1 = true then (if bt620.2 = 0 then (if bt622.2 = 0 then (if bt620.1 = bt622.1 then (if bt624.2 = 0 then (if bt628.2 = 0 then (gangsawlaw39_ProfileMoves.j2 k bt624.1 bt628.1 ((bt624.1.length : Int) != (bt628.1.length : Int))) else (gangsawlaw39_ProfileMoves.j2 k bt624.1 bt628.1 true)) else (gangsawlaw39_ProfileMoves.j2 k bt624.1 bt628.1 true)) else (gangsawlaw39_ProfileMoves.j2 k bt624.1 bt628.1 true)) else (gangsawlaw39_ProfileMoves.j2 k bt624.1 bt628.1 true)) else (gangsawlaw39_ProfileMoves.j2 k bt624.1 bt628.1 true)) else (gangsawlaw39_ProfileMoves.j2 k bt624.1 bt628.1 true)) else (gangsawlaw39_ProfileMoves.j2 k bt624.1 bt628.1 true))))))) true:=by
  obtain ⟨hn,hq⟩ := chk_zero.1 h1
  have hv : Valid l:=T.symm.valid hq hN
  have h0 : chk nm l = 0:=chk_zero.2 ⟨hn,hv⟩
  obtain ⟨lx,ly,hx,hy,hB⟩ := box_of (l:=l) (by have:=hv.lo;omega) (by omega)
  have E1:=Canonical_f nm l hnm h0 hB
  have E2:=Canonical_f nm q hnm h1 (T.box hB)
  rw [T.canon hv.nodup hv.sim] at E2
  refine Ev.bind (Equal_t nm nm l q hnm hnm h0 h1 E1 E2 (by rw [can_len];omega)) (Ev.bind (Area_f nm l hnm h0) (Ev.bind (Area_f nm q hnm h1) (Ev.bind (Directions_f nm l hnm h0) (Ev.bind (Directions_f nm q hnm h1) ?_))))
  have ed:=dirs_congr (l:=l) (q:=q) (fun d hd=>T.noUnd hv hq hd) 4 0 rfl
  have el:=dirs_len l 4 0
  refine Ev.congr (fun k=>by rw [if_pos rfl,if_pos rfl,if_pos rfl,if_pos rfl,if_pos T.area.symm,if_pos rfl,if_pos rfl,ed,bne_self_eq_false]) (Ev.step (fun k=>?_) (moves_l1 (dirs l 0 4) (by omega) (dirs l 0 4).length 0 (by simp)))
  simp only [gangsawlaw39_ProfileMoves.j2]
  rw [if_neg (by simp)]
  rfl
theorem moves_l0 (nm : ByteArray) (l : List S31) (hnm : nm.size ≤ 1000000) (hl : l.length ≤ 80) {s : Nat} (hs : s < l.length) {x y : Int} (hx : -1000000 ≤ x ∧ x ≤ 1000000) (hy : -1000000 ≤ y ∧ y ≤ 1000000) :
    ∀ d i : Nat,i + d = l.length → (∀ j,j < i → near (P l ((s + j) % l.length))) → Ev (fun k=>gangsawlaw39_ProfileMoves.l0 k (s : Int) (i : Int) nm l x y nm ((can l s (-x) (-y)).take i)) true:=by
  intro d
  induction d with
  | zero =>
    intro i hi hN
    obtain rfl : i = l.length:=by omega
    have T : Turned l (can l s (-x) (-y)) s (- -x) (- -y):=can_turned hs
    have hNl : Near l:=near_of (fun j hj=>by
      obtain ⟨i,hi,rfl⟩ := T.onto hj
      exact hN i hi)
    have key : Ev (fun k=>(profile_Check.f k nm (can l s (-x) (-y))).bind fun t617=>if t617 = 0 then ((profile_Equal.f k nm l nm (can l s (-x) (-y))).bind fun bt618=>((profile_Area.f k nm l).bind fun bt620=>((profile_Area.f k nm (can l s (-x) (-y))).bind fun bt622=>((profile_Directions.f k nm l).bind fun bt624=>((profile_Directions.f k nm (can l s (-x) (-y))).bind fun bt628=>(if bt618.2 = 0 then (if bt618.1 = true then (if bt620.2 = 0 then (if bt622.2 = 0 then (if bt620.1 = bt622.1 then (if bt624.2 = 0 then (if bt628.2 = 0 then (gangsawlaw39_ProfileMoves.j2 k bt624.1 bt628.1 ((bt624.1.length : Int) != (bt628.1.length : Int))) else (gangsawlaw39_ProfileMoves.j2 k bt624.1 bt628.1 true)) else (gangsawlaw39_ProfileMoves.j2 k bt624.1 bt628.1 true)) else (gangsawlaw39_ProfileMoves.j2 k bt624.1 bt628.1 true)) else (gangsawlaw39_ProfileMoves.j2 k bt624.1 bt628.1 true)) else (gangsawlaw39_ProfileMoves.j2 k bt624.1 bt628.1 true)) else (gangsawlaw39_ProfileMoves.j2 k bt624.1 bt628.1 true)) else (gangsawlaw39_ProfileMoves.j2 k bt624.1 bt628.1 true))))))) else some true) true:=by
      refine Ev.bind (check_f nm _ hnm) ?_
      by_cases h1 : chk nm (can l s (-x) (-y)) = 0
      · exact Ev.congr (fun k=>if_pos h1) (moves_end nm l _ hnm hl T hNl 0 h1)
      · exact Ev.congr (fun k=>if_neg h1) (Ev.now _)
    refine Ev.step (fun k=>?_) key
    simp only [gangsawlaw39_ProfileMoves.l0]
    rw [if_neg (by omega),List.take_of_length_le (by rw [can_len];exact Nat.le_refl _)]
  | succ d ih =>
    intro i hi hN
    have hm : (s + i) % l.length < l.length:=Nat.mod_lt _ (by omega)
    have e : Int.tmod (wrap64 ((i : Int) + s)) (l.length : Int) = (((s + i) % l.length : Nat) : Int):=by rw [w64 (by omega) (by omega),Int.add_comm];rfl
    by_cases hn : near (P l ((s + i) % l.length))
    · have H := ih (i + 1) (by omega) (fun j hj => by
        by_cases g : j = i
        · subst g;exact hn
        · exact hN j (by omega))
      have ht : (can l s (-x) (-y)).take (i + 1) = (can l s (-x) (-y)).take i ++ [P (can l s (-x) (-y)) i] := by
        rw [List.take_add_one]
        unfold P
        rw [List.getD_eq_getElem?_getD,List.getElem?_eq_getElem (by rw [can_len];omega)]
        rfl
      unfold near at hn
      refine Ev.step (fun k=>?_) H
      simp only [gangsawlaw39_ProfileMoves.l0]
      rw [e,rd_P,if_pos (by omega),if_neg (by omega),if_pos (by omega),if_pos (by omega),if_neg (by omega),if_neg (by omega),if_neg (by omega),if_neg (by omega),if_pos (by rw [List.length_take,can_len];omega),w1 (by omega),ht,can_P (by omega)]
      congr 3
      exact S31_ext (by simp only [mv];rw [w64 (by omega) (by omega)];omega) (by simp only [mv];rw [w64 (by omega) (by omega)];omega)
    · unfold near at hn
      refine Ev.step (f:=fun _=>some true) (fun k=>?_) (Ev.now _)
      simp only [gangsawlaw39_ProfileMoves.l0]
      rw [e,rd_P,if_pos (by omega),if_neg (by omega),if_pos (by omega),if_pos (by omega)]
      by_cases g1 : (P l ((s + i) % l.length)).f0 < -1000000
      · rw [if_pos g1]
      by_cases g2 : (P l ((s + i) % l.length)).f0 > 1000000
      · rw [if_neg g1,if_pos g2]
      by_cases g3 : (P l ((s + i) % l.length)).f1 < -1000000
      · rw [if_neg g1,if_neg g2,if_pos g3]
      · rw [if_neg g1,if_neg g2,if_neg g3,if_pos (by omega)]
theorem ProfileMoves (nm : ByteArray) (l : List S31) (x y t : Int) (_ : nm.size ≤ maxLen) (_ : l.length ≤ maxLen) (_ : ∀ p ∈ l,Rng p.f0 ∧ Rng p.f1) (_ : Rng x) (_ : Rng y) (_ : Rng t) : ∃ k,gangsawlaw39_ProfileMoves.f k nm l x y t = some true:=by
  have key : Ev (fun k=>gangsawlaw39_ProfileMoves.f k nm l x y t) true:=by
    have early : Ev (fun k=>gangsawlaw39_ProfileMoves.j0 k t true nm l x y) true:=by
      refine Ev.step (f:=fun _=>some true) (fun k=>?_) (Ev.now _)
      simp only [gangsawlaw39_ProfileMoves.j0]
      rw [if_pos trivial]
    unfold gangsawlaw39_ProfileMoves.f
    refine Ev.bind awake_f (Ev.congr (fun k=>if_pos rfl) ?_)
    rcases short_f nm l with h|⟨h,hl,hs⟩
    · rw [h];exact Ev.congr (fun k=>by simp only [Option.bind_some];rw [if_neg (by simp)]) early
    · rw [h]
      refine Ev.congr (fun k=>by simp only [Option.bind_some];rw [if_pos trivial]) ?_
      by_cases g1 : x < -1000000
      · exact Ev.congr (fun k=>if_pos g1) early
      by_cases g2 : x > 1000000
      · exact Ev.congr (fun k=>by rw [if_neg g1,if_pos g2]) early
      by_cases g3 : y < -1000000
      · exact Ev.congr (fun k=>by rw [if_neg g1,if_neg g2,if_pos g3]) early
      by_cases g4 : y > 1000000
      · exact Ev.congr (fun k=>by rw [if_neg g1,if_neg g2,if_neg g3,if_pos g4]) early
      by_cases g5 : t < 0
      · exact Ev.congr (fun k=>by rw [if_neg g1,if_neg g2,if_neg g3,if_neg g4,if_pos g5]) early
      by_cases g6 : t ≥ (l.length : Int)
      · exact Ev.congr (fun k=>by rw [if_neg g1,if_neg g2,if_neg g3,if_neg g4,if_neg g5,decide_eq_true g6]) early
      obtain ⟨s,rfl⟩ : ∃ s : Nat,t = s:=⟨t.toNat,by omega⟩
      have L:=moves_l0 nm l (by omega) hl (s:=s) (by omega) (x:=x) (y:=y) (by omega) (by omega) l.length 0 (by simp) (fun j hj=>by omega)
      refine Ev.congr (fun k=>by rw [if_neg g1,if_neg g2,if_neg g3,if_neg g4,if_neg g5,decide_eq_false g6]) (Ev.step (fun k=>?_) L)
      simp only [gangsawlaw39_ProfileMoves.j0]
      rw [if_neg (by simp)]
      rfl
  exact key.rounds
end Go.Proofs.Ytnjikioimompnaa.Pure
