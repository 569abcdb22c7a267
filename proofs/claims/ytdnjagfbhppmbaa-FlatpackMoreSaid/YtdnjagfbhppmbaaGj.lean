import Derived.Test.YtdnjagfbhppmbaaGc
import Derived.Test.YtdnjagfbhppmbaaGh
import Derived.Test.YtdnjagfbhppmbaaGi
import Derived.StillTailTactics
namespace Go.Proofs.Ytdnjagfbhppmbaa.PA
open Go.RowKit Go.Shelf Go.Proofs.YtdnjagfbhppmbaaW.PrintWords Go.Proofs.YtdnjagfbhppmbaaW.PrintLast Go.Proofs.YtdnjagfbhppmbaaW.PrintMore
set_option linter.unusedVariables false
set_option linter.unusedSimpArgs false
attribute [local go_sem] max2_int min2_int max_two min_two max_three min_three max_four min_four
set_option maxHeartbeats 400000 in
theorem c56_any (x : S36) (l w v : Int) (bl bw bv : Nat) (W : World) (h1 : W.cell? ⟨bl, 0, none⟩ = some (.int .i64 l)) (h2 : W.cell? ⟨bw, 0, none⟩ = some (.int .i64 w)) (h3 : W.cell? ⟨bv, 0, none⟩ = some (.int .i64 v))
    (n1 : bl < W.heap.size) (n2 : bw < W.heap.size) (n3 : bv < W.heap.size) :
    Calls Try.prog 56 #[e36 x,.pointer (some ⟨bl,0,none⟩),.pointer (some ⟨bw,0,none⟩),.pointer (some ⟨bv,0,none⟩)] W fun e w'=>e = .returned (.bool (fits l w v x)) ∧ Below W.heap.size W w':=by
  unfold fits e36
  by_cases e1 : x.f1.f0 = l
  · by_cases e2 : x.f1.f1 = w
    · have E1:=aside e1;have E2:=aside e2;subst e1 e2
      go_enter Try.func56,Try.ntmps56
      go_wp2
      go_ret
      exact ⟨ok_bool (by rw [Bool.eq_iff_iff];simp),(Below.refl _ _).alloc (Nat.le_refl _) _⟩
    · have E1:=aside e1;have E2:=aside e2
      have b2 : (x.f1.f1 == w) = false:=by simpa using e2
      subst e1
      go_enter Try.func56,Try.ntmps56
      go_wp2
      go_ret
      exact ⟨ok_bool (by simp [E2.out]),(Below.refl _ _).alloc (Nat.le_refl _) _⟩
  · have E1:=aside e1
    have b1 : (x.f1.f0 == l) = false:=by simpa using e1
    go_enter Try.func56,Try.ntmps56
    go_wp2
    go_ret
    exact ⟨ok_bool (by simp [E1.out]),(Below.refl _ _).alloc (Nat.le_refl _) _⟩
theorem eg56 : ∀ args w,(callFunc 56 args).run Try.prog w = .ok (.enter 56 args) w:=enters_of Try.func56 (by kernel_rfl) rfl
theorem boxes3 (W : World) (p l w : Value) : (((W.alloc (.cells #[p] 63)).alloc (.cells #[l] 3)).alloc (.cells #[w] 3)).cell? ⟨W.heap.size, 0, none⟩ = some p ∧ (((W.alloc (.cells #[p] 63)).alloc (.cells #[l] 3)).alloc (.cells #[w] 3)).cell? ⟨W.heap.size + 1, 0, none⟩ = some l ∧
    (((W.alloc (.cells #[p] 63)).alloc (.cells #[l] 3)).alloc (.cells #[w] 3)).cell? ⟨W.heap.size + 2,0,none⟩ = some w:=by
  have h1 : (W.alloc (.cells #[p] 63)).heap[W.heap.size]? = some (.cells #[p] 63 (0,0)):=heap_alloc_new W _
  have h2 : ((W.alloc (.cells #[p] 63)).alloc (.cells #[l] 3)).heap[W.heap.size + 1]? = some (.cells #[l] 3 (0,0)):=by
    have:=heap_alloc_new (W.alloc (.cells #[p] 63)) (.cells #[l] 3)
    simpa using this
  have h3 : (((W.alloc (.cells #[p] 63)).alloc (.cells #[l] 3)).alloc (.cells #[w] 3)).heap[W.heap.size + 2]? = some (.cells #[w] 3 (0,0)):=by
    have:=heap_alloc_new ((W.alloc (.cells #[p] 63)).alloc (.cells #[l] 3)) (.cells #[w] 3)
    simpa using this
  refine ⟨?_, ?_, ?_⟩
  (rw [cell_of_row _ _ 0 _ _ _ ((Below.heap_alloc _ _ _ (by simp;omega)).trans ((Below.heap_alloc _ _ _ (by simp)).trans h1))];rfl);(rw [cell_of_row _ _ 0 _ _ _ ((Below.heap_alloc _ _ _ (by simp)).trans h2)];rfl);(rw [cell_of_row _ _ 0 _ _ _ h3];rfl)
structure AW (base g : Nat) (T I : Value) (kf l w v : Int) (W0 : World) (u0 : Value) (b5 b8 b9 b10 : Nat) (W : World) (u : Value) (ns : List S59) : Prop where
  ps : PS base g T I kf W u ns
  c5 : W.cell? ⟨b5,0,none⟩ = some (.pointer (some ⟨g,0,none⟩))
  c8 : W.cell? ⟨b8,0,none⟩ = some (.int .i64 l)
  c9 : W.cell? ⟨b9,0,none⟩ = some (.int .i64 w)
  c10 : W.cell? ⟨b10,0,none⟩ = some (.int .i64 v)
  n5 : W0.heap.size ≤ b5 ∧ b5 < W.heap.size ∧ u.ownBlock ≠ some b5
  n8 : W0.heap.size ≤ b8 ∧ b8 < W.heap.size ∧ u.ownBlock ≠ some b8
  n9 : W0.heap.size ≤ b9 ∧ b9 < W.heap.size ∧ u.ownBlock ≠ some b9
  n10 : W0.heap.size ≤ b10 ∧ b10 < W.heap.size ∧ u.ownBlock ≠ some b10
  fr : Kept W0 W (fun k=>k = g ∨ some k = u0.ownBlock)
  bl : ∀ w0,base ≤ g → Below base w0 W0 → Below base w0 W
  ob : u.ownBlock = u0.ownBlock ∨ ∃ b,u.ownBlock = some b ∧ W0.heap.size ≤ b
  hg : g < W0.heap.size
section
variable {base g : Nat} {T I : Value} {kf l w v : Int} {W0 : World} {u0 : Value} {b5 b8 b9 b10 : Nat} {W W' : World} {u u' : Value} {ns ns' : List S59}
theorem below_of_own {w0 W W' : World} (h : Below base w0 W) (hb : base ≤ W.heap.size) (hq : Below W.heap.size W W') : Below base w0 W':=h.trans (hq.mono hb)
theorem PS.quiet (h : PS base g T I kf W u ns) (hq : Below W.heap.size W W') : PS base g T I kf W' u ns :=
  ⟨(hq.block g h.lt).trans h.blk,own_move h.own (fun k hk=>hq.block k (own_lt h.own k hk)),Nat.le_trans h.hb hq.size⟩
theorem AW.quiet (h : AW base g T I kf l w v W0 u0 b5 b8 b9 b10 W u ns) (hq : Below W.heap.size W W') : AW base g T I kf l w v W0 u0 b5 b8 b9 b10 W' u ns :=
  ⟨h.ps.quiet hq,(hq.cell (p:=⟨b5,0,none⟩) h.n5.2.1).trans h.c5,(hq.cell (p:=⟨b8,0,none⟩) h.n8.2.1).trans h.c8,(hq.cell (p:=⟨b9,0,none⟩) h.n9.2.1).trans h.c9,(hq.cell (p:=⟨b10,0,none⟩) h.n10.2.1).trans h.c10,
   ⟨h.n5.1,Nat.lt_of_lt_of_le h.n5.2.1 hq.size,h.n5.2.2⟩,⟨h.n8.1,Nat.lt_of_lt_of_le h.n8.2.1 hq.size,h.n8.2.2⟩,⟨h.n9.1,Nat.lt_of_lt_of_le h.n9.2.1 hq.size,h.n9.2.2⟩,⟨h.n10.1,Nat.lt_of_lt_of_le h.n10.2.1 hq.size,h.n10.2.2⟩,
   h.fr.below hq,fun w0 hb hB=>below_of_own (h.bl w0 hb hB) h.ps.hb hq,h.ob,h.hg⟩
theorem stp_box {b : Nat} (hs : Stp base g W W' u u') (hg : g ≠ b) (h2 : b < W.heap.size) (h3 : u.ownBlock ≠ some b) : W'.heap[b]? = W.heap[b]? ∧ b < W'.heap.size ∧ u'.ownBlock ≠ some b:=by
  refine ⟨hs.kept.2 b h2 (fun hc=>?_),Nat.lt_of_lt_of_le h2 hs.kept.1,fun hc=>?_⟩
  · rcases hc with hc|hc
    (exact hg hc.symm);(exact h3 hc.symm)
  · rcases hs.at_ with e|⟨b',e,hle⟩
    (exact h3 (e ▸ hc))
    · rw [e] at hc;injection hc with hc;omega
theorem AW.step (h : AW base g T I kf l w v W0 u0 b5 b8 b9 b10 W u ns) (hp : PS base g T I kf W' u' ns') (hs : Stp base g W W' u u') : AW base g T I kf l w v W0 u0 b5 b8 b9 b10 W' u' ns':=by
  have hg:=h.hg;have x5:=stp_box hs (by have:=h.n5.1;omega) h.n5.2.1 h.n5.2.2;have x8:=stp_box hs (by have:=h.n8.1;omega) h.n8.2.1 h.n8.2.2;have x9:=stp_box hs (by have:=h.n9.1;omega) h.n9.2.1 h.n9.2.2;have x10:=stp_box hs (by have:=h.n10.1;omega) h.n10.2.1 h.n10.2.2
  refine ⟨hp,(World.cell?_of_block x5.1).trans h.c5,(World.cell?_of_block x8.1).trans h.c8,(World.cell?_of_block x9.1).trans h.c9,(World.cell?_of_block x10.1).trans h.c10,⟨h.n5.1,x5.2⟩,⟨h.n8.1,x8.2⟩,⟨h.n9.1,x9.2⟩,⟨h.n10.1,x10.2⟩, ?_,fun w0 hb hB=>hs.below w0 hb (h.bl w0 hb hB), ?_,h.hg⟩
  · refine h.fr.then_ hs.kept (fun k hk=>?_)
    rcases hk with hk|hk
    (exact .inl (.inl hk))
    · rcases h.ob with e|⟨b,e,hle⟩
      (exact .inl (.inr (by rw [← e];exact hk)))
      · rw [e] at hk;injection hk with hk;exact .inr (by omega)
  · rcases hs.at_ with e|⟨b,e,hle⟩
    (rw [e];exact h.ob);(exact .inr ⟨b,e,Nat.le_trans h.fr.1 hle⟩)
theorem AW.reads {P : World → Prop} (h : AW base g T I kf l w v W0 u0 b5 b8 b9 b10 W u ns) (hP : ∀ W',Kept W0 W' (fun k=>k = g ∨ some k = u0.ownBlock) → P W') : ∀ W',Kept W W' (fun k=>k = g ∨ some k = u.ownBlock) → P W':=by
  intro W' hk
  refine hP W' (h.fr.then_ hk (fun k hk=>?_))
  rcases hk with hk|hk
  (exact .inl (.inl hk))
  · rcases h.ob with e|⟨b,e,hle⟩
    (exact .inl (.inr (by rw [← e];exact hk)))
    · rw [e] at hk;injection hk with hk;exact .inr (by omega)
theorem AW.done (h : AW base g T I kf l w v W0 u0 b5 b8 b9 b10 W u ns) : Stp base g W0 W u0 u:=⟨h.bl,h.fr,h.ob⟩
end
theorem aw0 (base g : Nat) (T I : Value) (kf l w v : Int) (W : World) (u : Value) (ns : List S59) (ps : PS base g T I kf W u ns) :
    AW base g T I kf l w v W u W.heap.size (W.heap.size + 1) (W.heap.size + 1 + 1) (W.heap.size + 1 + 1 + 1) ((((W.alloc (.cells #[.pointer (some ⟨g,0,none⟩)] 63)).alloc (.cells #[.int .i64 l] 3)).alloc (.cells #[.int .i64 w] 3)).alloc (.cells #[.int .i64 v] 2)).drew u ns:=by
  have hb : Below W.heap.size W ((((W.alloc (.cells #[.pointer (some ⟨g,0,none⟩)] 63)).alloc (.cells #[.int .i64 l] 3)).alloc (.cells #[.int .i64 w] 3)).alloc (.cells #[.int .i64 v] 2)).drew :=
    ((((((Below.refl _ _).alloc (Nat.le_refl _) _).alloc (by simp) _).alloc (by simp;omega) _).alloc (by simp;omega) _).drew)
  have hu:=fun k=>own_lt ps.own k
  have b3:=boxes3 W (.pointer (some ⟨g,0,none⟩)) (.int .i64 l) (.int .i64 w)
  have K4 : ∀ {a : Addr} {x : Value},(((W.alloc (.cells #[.pointer (some ⟨g,0,none⟩)] 63)).alloc (.cells #[.int .i64 l] 3)).alloc (.cells #[.int .i64 w] 3)).cell? a = some x → ((((W.alloc (.cells #[.pointer (some ⟨g,0,none⟩)] 63)).alloc (.cells #[.int .i64 l] 3)).alloc (.cells #[.int .i64 w] 3)).alloc (.cells #[.int .i64 v] 2)).drew.cell? a = some x :=
    fun h=>cell_kept h (Kept.alloc (Kept.refl _ (fun _=>False)) _) id
  have h4 : ((((W.alloc (.cells #[.pointer (some ⟨g,0,none⟩)] 63)).alloc (.cells #[.int .i64 l] 3)).alloc (.cells #[.int .i64 w] 3)).alloc (.cells #[.int .i64 v] 2)).drew.heap[W.heap.size + 1 + 1 + 1]? = some (.cells #[.int .i64 v] 2 (0,0)):=by
    have:=heap_alloc_new (((W.alloc (.cells #[.pointer (some ⟨g,0,none⟩)] 63)).alloc (.cells #[.int .i64 l] 3)).alloc (.cells #[.int .i64 w] 3)) (.cells #[.int .i64 v] 2)
    have e : (((W.alloc (.cells #[.pointer (some ⟨g,0,none⟩)] 63)).alloc (.cells #[.int .i64 l] 3)).alloc (.cells #[.int .i64 w] 3)).heap.size = W.heap.size + 1 + 1 + 1:=by simp
    rw [e] at this;exact this
  refine ⟨ps.quiet hb,K4 b3.1,K4 b3.2.1,K4 b3.2.2, ?_,⟨Nat.le_refl _,by simp;omega,fun e=>by have:=hu _ e;omega⟩,⟨by omega,by simp,fun e=>by have:=hu _ e;omega⟩,⟨by omega,by simp,fun e=>by have:=hu _ e;omega⟩,⟨by omega,by simp,fun e=>by have:=hu _ e;omega⟩,Kept.of_below hb _,fun w0 _ hB=>below_of_own hB ps.hb hb,.inl rfl,ps.lt⟩
  rw [cell_of_row _ _ 0 _ _ _ h4];rfl
structure AX (base g : Nat) (T I : Value) (kf l w v : Int) (W0 : World) (u0 : Value) (b5 b8 b9 b10 b12 : Nat) (at_ : Int) (W : World) (u : Value) (ns : List S59) : Prop where
  aw : AW base g T I kf l w v W0 u0 b5 b8 b9 b10 W u ns
  c12 : W.cell? ⟨b12,0,none⟩ = some (.int .i64 at_)
  n12 : W0.heap.size ≤ b12 ∧ b12 < W.heap.size ∧ u.ownBlock ≠ some b12
section
variable {base g : Nat} {T I : Value} {kf l w v : Int} {W0 : World} {u0 : Value} {b5 b8 b9 b10 b12 : Nat} {at_ : Int} {W W' : World} {u u' : Value} {ns ns' : List S59}
theorem AX.quiet (h : AX base g T I kf l w v W0 u0 b5 b8 b9 b10 b12 at_ W u ns) (hq : Below W.heap.size W W') : AX base g T I kf l w v W0 u0 b5 b8 b9 b10 b12 at_ W' u ns :=
  ⟨h.aw.quiet hq,(hq.cell (p:=⟨b12,0,none⟩) h.n12.2.1).trans h.c12,⟨h.n12.1,Nat.lt_of_lt_of_le h.n12.2.1 hq.size,h.n12.2.2⟩⟩
theorem AX.step (h : AX base g T I kf l w v W0 u0 b5 b8 b9 b10 b12 at_ W u ns) (hp : PS base g T I kf W' u' ns') (hs : Stp base g W W' u u') : AX base g T I kf l w v W0 u0 b5 b8 b9 b10 b12 at_ W' u' ns':=by
  have hg:=h.aw.hg;have x12:=stp_box hs (by have:=h.n12.1;omega) h.n12.2.1 h.n12.2.2;exact ⟨h.aw.step hp hs,(World.cell?_of_block x12.1).trans h.c12,⟨h.n12.1,x12.2⟩⟩
theorem ax0 (h : AW base g T I kf l w v W0 u0 b5 b8 b9 b10 W u ns) (n : Int) : AX base g T I kf l w v W0 u0 b5 b8 b9 b10 W.heap.size n (W.alloc (.cells #[.int .i64 n] 3)) u ns:=by
  refine ⟨h.quiet ((Below.refl _ _).alloc (Nat.le_refl _) _), ?_,h.fr.1,by simp,fun e=>by have:=own_lt h.ps.own _ e;omega⟩
  rw [cell_of_row _ _ 0 _ _ _ (heap_alloc_new W _)];rfl
theorem rows59_set : ∀ (ns : List S59) (i : Nat) (q : Int) (x : S59),ns[i]? = some x → rows59 (ns.set i ⟨x.f0,x.f1,x.f2,x.f3,x.f4,x.f5,q⟩) = (rows59 ns).set (i * 7 + 6) (.int .i64 q)
  | [],i,q,x,h=>by simp at h
  | y :: r,0,q,x,h=>by
    simp at h
    subst h
    simp [rows59,c59]
  | y :: r,i + 1,q,x,h=>by
    have ih:=rows59_set r i q x (by simpa using h)
    have e1 : rows59 (y :: r) = c59 y ++ rows59 r:=by simp [rows59]
    have e2 : rows59 ((y :: r).set (i + 1) ⟨x.f0,x.f1,x.f2,x.f3,x.f4,x.f5,q⟩) = c59 y ++ rows59 (r.set i ⟨x.f0,x.f1,x.f2,x.f3,x.f4,x.f5,q⟩):=by simp [rows59]
    rw [e1,e2,ih,List.set_append_right _ _ (by simp [c59];omega)]
    congr 2
    simp [c59];omega
theorem AX.right {gn cap : Nat} (h : AX base g T I kf l w v W0 u0 b5 b8 b9 b10 b12 at_ W (.slice (some ⟨gn, 0, none⟩) ns.length cap) ns) (a0 : 0 ≤ at_) (a1 : at_ < (ns.length : Int)) (q : Int) :
    AX base g T I kf l w v W0 u0 b5 b8 b9 b10 b12 at_ (W.setCell ⟨gn,at_.toNat * 7 + 6,none⟩ (.int .i64 q)) (.slice (some ⟨gn,0,none⟩) ns.length cap)
      (ns.set at_.toNat ⟨(rd_T59 ns at_).f0,(rd_T59 ns at_).f1,(rd_T59 ns at_).f2,(rd_T59 ns at_).f3,(rd_T59 ns at_).f4,(rd_T59 ns at_).f5,q⟩):=by
  have hl : at_.toNat < ns.length:=by omega
  have hx : ns[at_.toNat]? = some (rd_T59 ns at_):=by
    unfold rd_T59
    rw [List.getD_eq_getElem?_getD,List.getElem?_eq_getElem hl];rfl
  have hs:=World.ownsRow.stored h.aw.ps.own (at_.toNat * 7 + 6) (.int .i64 q)
  have hne : g ≠ gn:=fun e=>h.aw.ps.ne (by rw [e];rfl)
  refine h.step ⟨?_, ?_, ?_⟩ ⟨fun w0 hb hB=>?_, ?_,.inl rfl⟩
  (exact (Below.heap_setCell _ _ _ _ hne).trans h.aw.ps.blk);(rw [rows59_set ns _ q _ hx,List.length_set];exact hs.1)
  · have:=h.aw.ps.hb;simpa using this
  (exact hB.setCell (own_base h.aw.ps.own gn rfl) _);(exact Kept.setCell (Kept.refl W _) (.inl (.inr rfl)) _)
theorem ax_cut (h : AX base g T I kf l w v W0 u0 b5 b8 b9 b10 b12 at_ W u ns) (axis pos : Int) (hl : ns.length < 2199023255552) :
    Calls Try.prog 57 #[.int .i64 axis,.int .i64 pos,.pointer (some ⟨b5,0,none⟩),.pointer (some ⟨b12,0,none⟩)] W fun e w'=>e = .returned (.tuple #[]) ∧ ∃ u',AX base g T I kf l w v W0 u0 b5 b8 b9 b10 b12 at_ w' u' (ns ++ [⟨3,⟨#[]⟩,axis,pos,kf,wrap64 (at_ + 1),0⟩]):=by
  refine (cut57_any base g b5 b12 T I kf at_ axis pos W u ns h.aw.ps h.aw.c5 h.c12 h.aw.n5.2.2 h.n12.2.2 hl).mono ?_
  rintro e w' ⟨rfl,u',hp,hs⟩;exact ⟨rfl,u',h.step hp hs⟩
end
def AddOK (base g c1 c2 : Nat) (A1 A2 : Option Addr) (t : List (List Int)) (items : List S36) (kf : Int) (k : Nat) : Prop :=
  ∀ (x y l w : Int) (ns r : List S59) (W : World) (u : Value),l ≤ 1000 → w ≤ 1000 → PS base g (.slice A1 t.length c1) (.slice A2 items.length c2) kf W u ns →
    (∀ W',Kept W W' (fun k=>k = g ∨ some k = u.ownBlock) → Kd.C (Kd.slice 2 (Kd.int .i64)) W' A1 t.length t) →
    (∀ W',Kept W W' (fun k=>k = g ∨ some k = u.ownBlock) → Kd.C k36 W' A2 items.length items) →
    gangsawref25_part.f k ns t items kf x y l w = some r →
    Calls Try.prog 35 #[.pointer (some ⟨g,0,none⟩),.int .i64 x,.int .i64 y,.int .i64 l,.int .i64 w] W fun e w'=>e = .returned (.tuple #[]) ∧ ∃ u',PS base g (.slice A1 t.length c1) (.slice A2 items.length c2) kf w' u' r ∧ Stp base g W w' u u'
theorem ax_add {base g c1 c2 : Nat} {A1 A2 : Option Addr} {t : List (List Int)} {items : List S36} {kf l w v : Int} {W0 : World} {u0 : Value} {b5 b8 b9 b10 b12 : Nat} {at_ : Int} {W : World} {u : Value} {ns : List S59} {k : Nat}
    (ok : AddOK base g c1 c2 A1 A2 t items kf k) (h : AX base g (.slice A1 t.length c1) (.slice A2 items.length c2) kf l w v W0 u0 b5 b8 b9 b10 b12 at_ W u ns)
    (hT : ∀ W',Kept W0 W' (fun k=>k = g ∨ some k = u0.ownBlock) → Kd.C (Kd.slice 2 (Kd.int .i64)) W' A1 t.length t)
    (hI : ∀ W',Kept W0 W' (fun k=>k = g ∨ some k = u0.ownBlock) → Kd.C k36 W' A2 items.length items)
    (x y l' w' : Int) (hl : l' ≤ 1000) (hw : w' ≤ 1000) (r : List S59) (hf : gangsawref25_part.f k ns t items kf x y l' w' = some r) :
    Calls Try.prog 35 #[.pointer (some ⟨g,0,none⟩),.int .i64 x,.int .i64 y,.int .i64 l',.int .i64 w'] W fun e w'=>e = .returned (.tuple #[]) ∧ ∃ u',AX base g (.slice A1 t.length c1) (.slice A2 items.length c2) kf l w v W0 u0 b5 b8 b9 b10 b12 at_ w' u' r:=by
  refine (ok x y l' w' ns r W u hl hw h.aw.ps (h.aw.reads hT) (h.aw.reads hI) hf).mono ?_
  rintro e w1 ⟨rfl,u',hp,hs⟩;exact ⟨rfl,u',h.step hp hs⟩
end Go.Proofs.Ytdnjagfbhppmbaa.PA
