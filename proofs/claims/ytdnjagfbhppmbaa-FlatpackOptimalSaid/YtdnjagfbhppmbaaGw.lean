import Derived.Test.YtdnjagfbhppmbaaGt
import Derived.Test.YtdnjagfbhppmbaaPux
namespace Go.Proofs.Ytdnjagfbhppmbaa.PA
open Go.RowKit Go.Shelf Go.Proofs.YtdnjagfbhppmbaaW.PrintWords Go.Proofs.YtdnjagfbhppmbaaW.PrintLast Go.Proofs.YtdnjagfbhppmbaaW.PrintMore
set_option linter.unusedVariables false
set_option linter.unusedSimpArgs false
def gCheckR (ns : List S59) (v : S34) : Int:=if sizedB v = true then (if ns.length = 0 then 1 else if shapeR ns = 0 then placesR ns v else shapeR ns) else 1
set_option maxRecDepth 100000 in
set_option maxHeartbeats 2000000 in
theorem gcheck_any (v : S34) (A : Option Addr) (c : Nat) (ns : List S59) (w : World) (hr : Kd.C k59 w A ns.length ns) (hs : ∀ x ∈ ns, x.f1.size ≤ 9223372036854775807) :
    Calls Try.prog 59 #[.agg #[.int .i64 v.f0,.int .i64 v.f1,.int .i64 v.f2],.slice A ns.length c] w fun e w'=>e = .returned (.int .i64 (gCheckR ns v)) ∧ Below w.heap.size w w':=by
  have H70:=aside (fun W : World=>sized_any v W);have hm:=Kd.C_max hr
  unfold gCheckR
  cases hz : sizedB v
  · rw [hz] at H70;rw [if_neg (by decide)];clear hz hr hs hm;obtain ⟨v0,v1,v2⟩ := v
    dsimp only at *
    go_enter Try.func59,Try.ntmps59
    go_wp2_with (go_at_call 70;refine (H70.out _).mono ?_;rintro e w1 ⟨rfl,hb⟩)
    go_ret
    exact ⟨rfl,belT (below_alloc (Below.refl _ _) _) hb⟩
  · rw [hz] at H70;rw [if_pos rfl];clear hz;by_cases h0 : ns.length = 0
    · rw [if_pos h0]
      have h0i : ((ns.length : Nat) : Int) == 0:=by simpa using h0
      clear hr hs hm;obtain ⟨v0,v1,v2⟩ := v
      dsimp only at *
      rw [h0];clear h0 h0i
      go_enter Try.func59,Try.ntmps59
      go_wp2_with (go_at_call 70;refine (H70.out _).mono ?_;rintro e w1 ⟨rfl,hb⟩)
      go_ret
      exact ⟨rfl,belT (below_alloc (Below.refl _ _) _) hb⟩
    · rw [if_neg h0]
      have hp : 0 < ns.length:=by omega
      have hne : (((ns.length : Nat) : Int) == 0) = false:=by simpa using h0
      have H71:=aside (fun (W : World) (hb : Below w.heap.size w W)=>shape_any A c ns W (Kd.C_below hr hb) hs hp);by_cases hq : shapeR ns = 0
      · rw [if_pos hq];have H72:=aside (fun (W : World) (hb : Below w.heap.size w W)=>places_any v A c ns W (Kd.C_below hr hb) (shaped_of hq).good hp);rw [hq] at H71;generalize placesR ns v = q at H72 ⊢;generalize ns.length = n at *;clear hr hs hq h0;obtain ⟨v0,v1,v2⟩ := v
        dsimp only at *
        have hnz : (0 : Int) < (n : Int):=by omega
        clear hp
        go_enter Try.func59,Try.ntmps59
        have HB0:=aside (below_alloc (Below.refl w.heap.size w) (.cells #[.int .i64 v0,.int .i64 v1,.int .i64 v2] 34))
        have hvx : ∀ X : World,Below (w.alloc (.cells #[.int .i64 v0,.int .i64 v1,.int .i64 v2] 34)).heap.size (w.alloc (.cells #[.int .i64 v0,.int .i64 v1,.int .i64 v2] 34)) X → X.heap[w.heap.size]? = some (.cells #[.int .i64 v0,.int .i64 v1,.int .i64 v2] 34 (0,0)):=fun X hb=>(hb.block _ (blk_lt (heap_alloc_new w _))).trans (heap_alloc_new w _)
        have HVX:=aside hvx;clear hvx
        go_wp2_with (first
          | (go_at_call 70;refine (H70.out _).mono ?_;rintro e w1 ⟨rfl,hb1⟩;have HB1:=aside hb1;clear hb1)
          | (go_at_call 71; refine (H71.out _ (belT HB0.out HB1.out)).mono ?_; rintro e w2 ⟨rfl, hb2⟩; have HB2 := aside hb2; clear hb2
             have y0 : w2.cell? ⟨w.heap.size,0,none⟩ = some (.int .i64 v0):=(blk_cell (HVX.out w2 (belT HB1.out HB2.out)) 0).trans rfl;have y1 : w2.cell? ⟨w.heap.size,1,none⟩ = some (.int .i64 v1):=(blk_cell (HVX.out w2 (belT HB1.out HB2.out)) 1).trans rfl
             have y2 : w2.cell? ⟨w.heap.size,2,none⟩ = some (.int .i64 v2):=(blk_cell (HVX.out w2 (belT HB1.out HB2.out)) 2).trans rfl)
          | (go_at_call 72;refine (H72.out _ (belT (belT HB0.out HB1.out) HB2.out)).mono ?_;rintro e w3 ⟨rfl,hb3⟩))
        go_ret
        exact ⟨rfl,belT (belT (belT HB0.out HB1.out) HB2.out) hb3⟩
      · rw [if_neg hq]
        have hq2 : (shapeR ns != 0) = true:=by simpa using hq
        generalize shapeR ns = q at H71 hq2 ⊢;generalize ns.length = n at *;clear hr hs hq h0;obtain ⟨v0,v1,v2⟩ := v
        dsimp only at *
        have hnz : (0 : Int) < (n : Int):=by omega
        clear hp
        go_enter Try.func59,Try.ntmps59
        have HB0:=aside (below_alloc (Below.refl w.heap.size w) (.cells #[.int .i64 v0,.int .i64 v1,.int .i64 v2] 34))
        go_wp2_with (first
          | (go_at_call 70;refine (H70.out _).mono ?_;rintro e w1 ⟨rfl,hb1⟩;have HB1:=aside hb1;clear hb1)
          | (go_at_call 71;refine (H71.out _ (belT HB0.out HB1.out)).mono ?_;rintro e w2 ⟨rfl,hb2⟩;have HB2:=aside hb2;clear hb2))
        go_ret
        exact ⟨rfl,belT (belT HB0.out HB1.out) HB2.out⟩
def gLeavesR (ns : List S59) (v : S34) : List S87:=if gCheckR ns v = 0 then leavesL ns (walkS ns v) else []
theorem gcheck_zero {ns : List S59} {v : S34} (h : gCheckR ns v = 0) : sizedB v = true ∧ 0 < ns.length ∧ shapeR ns = 0 ∧ placesR ns v = 0:=by
  unfold gCheckR at h
  by_cases h1 : sizedB v = true
  · rw [if_pos h1] at h;by_cases h2 : ns.length = 0
    · rw [if_pos h2] at h;cases h
    · rw [if_neg h2] at h;by_cases h3 : shapeR ns = 0
      (rw [if_pos h3] at h;exact ⟨h1,by omega,h3,h⟩);(rw [if_neg h3] at h;exact absurd h h3)
  · rw [if_neg h1] at h;cases h
set_option maxRecDepth 100000 in
set_option maxHeartbeats 2000000 in
theorem gleaves_any (v : S34) (A : Option Addr) (c : Nat) (ns : List S59) (w : World) (hr : Kd.C k59 w A ns.length ns) (hs : ∀ x ∈ ns, x.f1.size ≤ 9223372036854775807) :
    Calls Try.prog 40 #[.agg #[.int .i64 v.f0,.int .i64 v.f1,.int .i64 v.f2],.slice A ns.length c] w fun e w'=>∃ u,e = .returned (.tuple #[u,.int .i64 (gCheckR ns v)]) ∧ w'.ownsRow w.heap.size 82 8 u (gLeavesR ns v).length (rows87 (gLeavesR ns v)) ∧ Below w.heap.size w w':=by
  have H59:=aside (fun (W : World) (hb : Below w.heap.size w W)=>gcheck_any v A c ns W (Kd.C_below hr hb) hs)
  have HB0 : Aside (Below w.heap.size w (w.alloc (.cells #[.int .i64 v.f0,.int .i64 v.f1,.int .i64 v.f2] 34))):=(show Below _ _ _ from below_alloc (Below.refl w.heap.size w) _)
  have HVX : Aside (∀ X : World,Below (w.alloc (.cells #[.int .i64 v.f0,.int .i64 v.f1,.int .i64 v.f2] 34)).heap.size (w.alloc (.cells #[.int .i64 v.f0,.int .i64 v.f1,.int .i64 v.f2] 34)) X → X.heap[w.heap.size]? = some (.cells #[.int .i64 v.f0,.int .i64 v.f1,.int .i64 v.f2] 34 (0,0))):=(show ∀ X : World,_ from fun X hb=>(hb.block _ (blk_lt (heap_alloc_new w _))).trans (heap_alloc_new w _))
  unfold gLeavesR
  by_cases hq : gCheckR ns v = 0
  · rw [if_pos hq,hq];rw [hq] at H59;obtain ⟨h1,h2,h3,h4⟩ := gcheck_zero hq;have H60:=aside (fun (W : World) (hb : Below w.heap.size w W)=>leaves_any v A c ns W (Kd.C_below hr hb) (shaped_of h3).good h2 (by have:=walk_len (shaped_of h3) h2 v;have:=(shaped_of h3).le;omega));generalize leavesL ns (walkS ns v) = L at H60 ⊢;generalize ns.length = n at *;clear hr hs hq h1 h2 h3 h4;obtain ⟨v0,v1,v2⟩ := v
    dsimp only at *
    go_enter Try.func40,Try.ntmps40
    go_wp2_with (first
      | (go_at_call 59; refine (H59.out _ HB0.out).mono ?_; rintro e w1 ⟨rfl, hb1⟩; have HB1 := aside hb1; clear hb1
         have y0 : w1.cell? ⟨w.heap.size,0,none⟩ = some (.int .i64 v0):=(blk_cell (HVX.out w1 HB1.out) 0).trans rfl;have y1 : w1.cell? ⟨w.heap.size,1,none⟩ = some (.int .i64 v1):=(blk_cell (HVX.out w1 HB1.out) 1).trans rfl
         have y2 : w1.cell? ⟨w.heap.size,2,none⟩ = some (.int .i64 v2):=(blk_cell (HVX.out w1 HB1.out) 2).trans rfl)
      | (go_at_call 60;refine (H60.out _ (belT HB0.out HB1.out)).mono ?_;rintro e w2 ⟨u6,u7,rfl,ho,hb2⟩;have HO:=aside ho;have HB2:=aside hb2;clear ho hb2))
    go_ret2
    refine ⟨u6,rfl, ?_,belT (belT HB0.out HB1.out) HB2.out⟩
    have h:=HO.out;have hl:=(belT HB0.out HB1.out).size
    rcases h with ⟨h1,h2⟩
    refine ⟨h1, ?_⟩
    rcases h2 with h2|⟨g,cap,cur,e1,e2,e3⟩
    (exact .inl h2);(exact .inr ⟨g,cap,cur,e1,Nat.le_trans hl e2,e3⟩)
  · rw [if_neg hq]
    have hq2 : (gCheckR ns v != 0) = true:=by simpa using hq
    generalize gCheckR ns v = q at H59 hq2 ⊢;generalize ns.length = n at *;clear hr hs hq;obtain ⟨v0,v1,v2⟩ := v
    dsimp only at *
    go_enter Try.func40,Try.ntmps40
    go_wp2_with (go_at_call 59;refine (H59.out _ HB0.out).mono ?_;rintro e w1 ⟨rfl,hb1⟩;have HB1:=aside hb1;clear hb1)
    go_ret2
    exact ⟨_,rfl,own_nil _ _ _ _,belT HB0.out HB1.out⟩
end Go.Proofs.Ytdnjagfbhppmbaa.PA
