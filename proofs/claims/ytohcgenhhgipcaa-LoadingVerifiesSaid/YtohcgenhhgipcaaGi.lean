import Derived.Test.YtohcgenhhgipcaaGh
namespace Go.Proofs.Ytohcgenhhgipcaa.PA
open Go.RowKit Go.Shelf Go.Proofs.YtohcgenhhgipcaaW.PrintWords Go.Proofs.YtohcgenhhgipcaaW.PrintLast Go.Proofs.YtohcgenhhgipcaaW.PrintMore
set_option linter.unusedVariables false
set_option linter.unusedSimpArgs false

/-! loading.clear -/
def clrAt (l : List S61) (n : Nat) : Bool:=(l.drop (n + 1)).any (overB (l.getD n z61).f1)
def clearB (l : List S61) : Bool := !(List.range l.length).any (clrAt l)
theorem clear_no {l : List S61} {n : Nat} (h : n < l.length) (hd : clrAt l n = true) : clearB l = false:=by
 unfold clearB
 rw [show (List.range l.length).any (clrAt l) = true from List.any_eq_true.2 ⟨n,List.mem_range.2 h,hd⟩];rfl
theorem clear_yes {l : List S61} (h : ∀ j,j < l.length → clrAt l j = false) : clearB l = true:=by
 unfold clearB
 rw [show (List.range l.length).any (clrAt l) = false from by
  rw [List.any_eq_false];intro j hj;rw [h j (List.mem_range.1 hj)]
  simp]
 rfl
set_option maxRecDepth 100000 in
set_option maxHeartbeats 2000000 in
theorem clear_any (A : Option Addr) (c : Nat) (l : List S61) (w : World) (hr : Kd.C k61 w A l.length l) (hc : l.length ≤ c) (hlen : l.length ≤ 1000000000) : Calls Try.prog 51 #[.slice A l.length c] w fun e w'=>e = .returned (.bool (clearB l)) ∧ Below w.heap.size w w':=by
 have HR:=aside hr;have HC:=aside hc;clear hr hc
 go_enter Try.func51,Try.ntmps51
 go_wp2
 go_loopg [7] l.length (fun gg v wr=>∃ n : Nat,n ≤ l.length ∧ l.length - n ≤ gg ∧ v = .int .i64 n ∧ Aside (∀ j,j < n → clrAt l j = false) ∧ Aside (Below w.heap.size w wr))
 case atStart=>exact ⟨0,by omega,by omega,rfl,(show Aside _ from fun j hj=>absurd hj (Nat.not_lt_zero _)),Below.refl _ _⟩
 case round =>
  obtain ⟨n,hn,hg,rfl,A1,B⟩ := hrel;by_cases hlt : n < l.length
  ·have hlt' : (n : Int) < (l.length : Int):=by omega
   obtain ⟨ad,hA,q0,q1,q2,q3⟩ := at_T61 (Kd.C_below HR.out B.out) (n : Int) (by omega) (by omega)
   have hx : rd_T61 l (n : Int) = l.getD n z61:=by unfold rd_T61;simp
   rw [hx] at q0 q1 q2 q3;simp only [Int.toNat_natCast] at q0 q1 q2 q3;obtain ⟨A',c',hcut,hC,hcc⟩ := cut_C (W:=w) HR.out HC.out (n + 1) (Below.refl _ _)
   have hcut1 : ∀ W,(Instr.slice 45 (.slice A l.length c) (some (.int .i64 ((n : Int) + 1))) none none).run Try.prog W = .ok (cutV A l.length c (n + 1)) W:=fun W=>by
    have:=cut45 A l.length c (n + 1) (by omega) W
    rwa [show ((n + 1 : Nat) : Int) = (n : Int) + 1 from by push_cast;rfl] at this
   rw [hcut] at hcut1
   obtain ⟨t,ht⟩ : ∃ t,clrAt l n = t:=⟨_,rfl⟩
   have ht':=ht
   unfold clrAt at ht'
   obtain ⟨y,hy⟩ : ∃ y,l.getD n z61 = y:=⟨_,rfl⟩
   rw [hy] at q0 q1 q2 q3 ht'
   obtain ⟨L,hL⟩ : ∃ L,l.drop (n + 1) = L:=⟨_,rfl⟩
   rw [hL] at hcut1 hC hcc ht'
   have CA : ∀ (W : World) (g : Nat),Below w.heap.size w W → W.cell? ⟨g,1,none⟩ = some (.int .i64 y.f1) → Calls Try.prog 47 #[.slice A' L.length c',.func (.func 68) #[] #[.pointer (some ⟨g,0,none⟩)]] W fun e w'=>e = .returned (.bool t) ∧ Below W.heap.size W w':=fun W g hb hcell=>by
    rw [← ht'];exact any47 (overB y.f1) 68 #[.pointer (some ⟨g,0,none⟩)] eg68 A' c' L W (Kd.C_below hC hb) (fun W' z hz hb'=>c68_any z y.f1 g W' ((hb'.cell (World.block_lt_of_cell? W _ hcell)).trans hcell))
   obtain ⟨y0,y1,y2,y3⟩ := y
   dsimp only at q0 q1 q2 q3 CA
   have HCA:=aside CA;have HT:=aside ht;have HN:=aside hlen;subst hA;clear CA ht ht' hC hcc hcut hx hy hL
   cases t with
   | true =>
    go_wp2_with (first
     | ((with_reducible refine gate_dst (N:=4) rfl ?_);refine box_event ?hg (N:=4) ?hd (cs:=#[.string (⟨#[]⟩ : ByteArray),.int .i64 0,.int .i64 0,.int .i64 0]) (t:=61) ?hr ?_;(case hd=>rfl);(case hg=>rfl);(case hr=>first|(go_simp;done)|(go_simp;rfl));intro gb hgb w4 hbox hb4;have z0 : w4.cell? ⟨gb,0,none⟩ = some (.string (⟨#[]⟩ : ByteArray)):=blk_cell hbox 0;have z1 : w4.cell? ⟨gb,1,none⟩ = some (.int .i64 0):=blk_cell hbox 1;have z2 : w4.cell? ⟨gb,2,none⟩ = some (.int .i64 0):=blk_cell hbox 2;have z3 : w4.cell? ⟨gb,3,none⟩ = some (.int .i64 0):=blk_cell hbox 3;have f0:=blk_frozen hbox 0;have f1:=blk_frozen hbox 1;have f2:=blk_frozen hbox 2;have f3:=blk_frozen hbox 3;have HX:=aside hbox;have HG:=aside (show w.heap.size ≤ gb from hgb ▸ B.out.size);have HB4:=aside (B.out.trans (hb4.mono B.out.size));clear hbox hb4 hgb)
     | (go_at_call 47;refine (HCA.out _ _ (by repeat (first|exact HB4.out|refine below_set ?_ HG.out)) (blk_cell (blk_put (cs':=#[.string y0,.int .i64 y1,.int .i64 y2,.int .i64 y3]) (blk_put (cs':=#[.string y0,.int .i64 y1,.int .i64 y2,.int .i64 0]) (blk_put (cs':=#[.string y0,.int .i64 y1,.int .i64 0,.int .i64 0]) (blk_put (cs':=#[.string y0,.int .i64 0,.int .i64 0,.int .i64 0]) HX.out 0 _ rfl) 1 _ rfl) 2 _ rfl) 3 _ rfl) 1)).mono ?_;rintro e w5 ⟨rfl,hb5⟩;have HB5:=aside (below_step (w:=w) (by repeat (first|exact HB4.out|refine below_set ?_ HG.out)) hb5);clear hb5))
    go_ret
    exact ⟨ok_bool (by rw [clear_no hlt HT.out]),HB5.out⟩
   | false =>
    go_wp2_with (first
     | ((with_reducible refine gate_dst (N:=4) rfl ?_);refine box_event ?hg (N:=4) ?hd (cs:=#[.string (⟨#[]⟩ : ByteArray),.int .i64 0,.int .i64 0,.int .i64 0]) (t:=61) ?hr ?_;(case hd=>rfl);(case hg=>rfl);(case hr=>first|(go_simp;done)|(go_simp;rfl));intro gb hgb w4 hbox hb4;have z0 : w4.cell? ⟨gb,0,none⟩ = some (.string (⟨#[]⟩ : ByteArray)):=blk_cell hbox 0;have z1 : w4.cell? ⟨gb,1,none⟩ = some (.int .i64 0):=blk_cell hbox 1;have z2 : w4.cell? ⟨gb,2,none⟩ = some (.int .i64 0):=blk_cell hbox 2;have z3 : w4.cell? ⟨gb,3,none⟩ = some (.int .i64 0):=blk_cell hbox 3;have f0:=blk_frozen hbox 0;have f1:=blk_frozen hbox 1;have f2:=blk_frozen hbox 2;have f3:=blk_frozen hbox 3;have HX:=aside hbox;have HG:=aside (show w.heap.size ≤ gb from hgb ▸ B.out.size);have HB4:=aside (B.out.trans (hb4.mono B.out.size));clear hbox hb4 hgb)
     | (go_at_call 47;refine (HCA.out _ _ (by repeat (first|exact HB4.out|refine below_set ?_ HG.out)) (blk_cell (blk_put (cs':=#[.string y0,.int .i64 y1,.int .i64 y2,.int .i64 y3]) (blk_put (cs':=#[.string y0,.int .i64 y1,.int .i64 y2,.int .i64 0]) (blk_put (cs':=#[.string y0,.int .i64 y1,.int .i64 0,.int .i64 0]) (blk_put (cs':=#[.string y0,.int .i64 0,.int .i64 0,.int .i64 0]) HX.out 0 _ rfl) 1 _ rfl) 2 _ rfl) 3 _ rfl) 1)).mono ?_;rintro e w5 ⟨rfl,hb5⟩;have HB5:=aside (below_step (w:=w) (by repeat (first|exact HB4.out|refine below_set ?_ HG.out)) hb5);clear hb5))
    go_roundg (l.length - (n + 1))
    case measure=>omega
    case rel=>exact ⟨n + 1,by omega,by omega,by go_num,(show Aside _ from fun j hj=>by
     rcases Nat.lt_succ_iff_lt_or_eq.1 hj with h1|h1
     (exact A1.out j h1)
     ·rw [h1];exact HT.out),HB5⟩
  ·obtain rfl : n = l.length:=by omega
   go_wp2
   go_ret
   exact ⟨ok_bool (by rw [clear_yes A1.out]),B.out⟩
end Go.Proofs.Ytohcgenhhgipcaa.PA
