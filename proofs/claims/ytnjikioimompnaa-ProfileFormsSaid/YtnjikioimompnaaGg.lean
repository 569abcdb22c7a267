import Derived.Test.YtnjikioimompnaaGf
namespace Go.Proofs.Ytnjikioimompnaa.PA
open Go.RowKit Go.Shelf Go.Proofs.YtnjikioimompnaaW.PrintWords Go.Proofs.YtnjikioimompnaaW.PrintLast Go.Proofs.YtnjikioimompnaaW.PrintMore
set_option linter.unusedVariables false
set_option linter.unusedSimpArgs false
attribute [local go_sem] max2_int min2_int max_two min_two max_three min_three max_four min_four
abbrev B4:=Int × Int × Int × Int
def bStep (s : B4) (p : S31) : B4:=(mn s.1 p.f0,mn s.2.1 p.f1,mx s.2.2.1 p.f0,mx s.2.2.2 p.f1)
def bF (l : List S31) (n : Nat) : B4:=(List.range' 1 (n - 1)).foldl (fun s i=>bStep s (l.getD i z31)) ((l.getD 0 z31).f0,(l.getD 0 z31).f1,(l.getD 0 z31).f0,(l.getD 0 z31).f1)
theorem bF_succ (l : List S31) (n : Nat) (h : 1 ≤ n) : bF l (n + 1) = bStep (bF l n) (l.getD n z31):=by
 obtain ⟨m,rfl⟩ : ∃ m,n = m + 1:=⟨n - 1,by omega⟩
 unfold bF
 rw [show m + 1 + 1 - 1 = m + 1 from rfl,show m + 1 - 1 = m from rfl,List.range'_1_concat,List.foldl_append,Nat.add_comm 1 m];rfl
theorem setCell_ne {w : World} {a : Addr} {b : Addr} (u : Value) {v : Value} (hne : b ≠ a) (h : w.cell? b = some v) : (w.setCell a u).cell? b = some v:=by
 rw [World.cell?_setCell_other (h:=Ne.symm hne)];exact h
structure BW (w W : World) (b2 b3 b4 b5 : Nat) (s : B4) : Prop where
 below : Below w.heap.size w W
 r2 : W.heap[b2]? = some (.cells #[.int .i64 0,.int .i64 0] 31)
 r3 : W.heap[b3]? = some (.cells #[.int .i64 0,.int .i64 0] 31)
 lo : W.heap[b4]? = some (.cells #[.int .i64 s.1,.int .i64 s.2.1] 31)
 hi : W.heap[b5]? = some (.cells #[.int .i64 s.2.2.1,.int .i64 s.2.2.2] 31)
 ne : b4 ≠ b5 ∧ b2 ≠ b3 ∧ b2 ≠ b4 ∧ b2 ≠ b5 ∧ b3 ≠ b4 ∧ b3 ≠ b5
 ge : w.heap.size ≤ b2 ∧ w.heap.size ≤ b3 ∧ w.heap.size ≤ b4 ∧ w.heap.size ≤ b5
theorem BW.putLo {w W : World} {b2 b3 b4 b5 : Nat} {v0 v1 y0 y1 : Int} (h : BW w W b2 b3 b4 b5 (v0,v1,y0,y1)) (a b : Int) : BW w ((W.setCell ⟨b4,0,none⟩ (.int .i64 a)).setCell ⟨b4,1,none⟩ (.int .i64 b)).drew b2 b3 b4 b5 (a,b,y0,y1):=by
 obtain ⟨n45,n23,n24,n25,n34,n35⟩ := h.ne;obtain ⟨e2,e3,e4,e5⟩ := h.ge
 have f : ∀ k,k ≠ b4 → ((W.setCell ⟨b4,0,none⟩ (.int .i64 a)).setCell ⟨b4,1,none⟩ (.int .i64 b)).drew.heap[k]? = W.heap[k]? := fun k hk=>(heap_far _ b4 k 1 _ hk).trans (heap_far _ b4 k 0 _ hk)
 refine ⟨below_dr ((h.below.setCell e4 _).setCell e4 _),(f _ n24).trans h.r2,(f _ n34).trans h.r3, ?_,(f _ (Ne.symm n45)).trans h.hi,h.ne,h.ge⟩
 have h1 : (W.setCell ⟨b4,0,none⟩ (.int .i64 a)).heap[b4]? = some (.cells #[.int .i64 a,.int .i64 v1] 31):=blk_put h.lo 0 _ rfl;exact blk_put h1 1 _ rfl
theorem BW.putHi {w W : World} {b2 b3 b4 b5 : Nat} {v0 v1 y0 y1 : Int} (h : BW w W b2 b3 b4 b5 (v0,v1,y0,y1)) (a b : Int) : BW w ((W.setCell ⟨b5,0,none⟩ (.int .i64 a)).setCell ⟨b5,1,none⟩ (.int .i64 b)).drew b2 b3 b4 b5 (v0,v1,a,b):=by
 obtain ⟨n45,n23,n24,n25,n34,n35⟩ := h.ne;obtain ⟨e2,e3,e4,e5⟩ := h.ge
 have f : ∀ k,k ≠ b5 → ((W.setCell ⟨b5,0,none⟩ (.int .i64 a)).setCell ⟨b5,1,none⟩ (.int .i64 b)).drew.heap[k]? = W.heap[k]? := fun k hk=>(heap_far _ b5 k 1 _ hk).trans (heap_far _ b5 k 0 _ hk)
 refine ⟨below_dr ((h.below.setCell e5 _).setCell e5 _),(f _ n25).trans h.r2,(f _ n35).trans h.r3,(f _ n45).trans h.lo, ?_,h.ne,h.ge⟩
 have h1 : (W.setCell ⟨b5,0,none⟩ (.int .i64 a)).heap[b5]? = some (.cells #[.int .i64 a,.int .i64 y1] 31):=blk_put h.hi 0 _ rfl;exact blk_put h1 1 _ rfl
set_option maxRecDepth 100000 in
set_option maxHeartbeats 4000000 in
theorem refBounds_any (A : Option Addr) (c : Nat) (l : List S31) (w : World) (hr : Kd.C k31 w A l.length l) (hl : l.length ≤ 1000000) (h0 : 0 < l.length) :
  Calls Try.prog 18 #[.slice A l.length c] w fun e w'=>e = .returned (.tuple #[.agg #[.int .i64 (bF l l.length).1,.int .i64 (bF l l.length).2.1],.agg #[.int .i64 (wrap64 ((bF l l.length).2.2.1 - (bF l l.length).1)),.int .i64 (wrap64 ((bF l l.length).2.2.2 - (bF l l.length).2.1))]]) ∧ Below w.heap.size w w':=by
 have HR:=aside hr
 have h0' : (0 : Int) < (l.length : Int):=by omega
 obtain ⟨ad,hA,c0,c1⟩ := at_T31 hr (0 : Int) (by omega) (by omega);have hx : rd_T31 l (0 : Int) = l.getD 0 z31:=rfl;rw [hx] at c0 c1;have e0 : (0 : Int).toNat = 0:=rfl;rw [e0] at c0 c1
 have ea : ad.add (0 * 2) = ad:=by simp [Addr.add]
 rw [ea] at c0 c1;clear hr hx e0 ea;subst hA
 go_enter Try.func18,Try.ntmps18
 go_upto_region 1 with fail
 have hB2 : Below w.heap.size w ((w.alloc (.cells #[.int .i64 0,.int .i64 0] 31)).alloc (.cells #[.int .i64 0,.int .i64 0] 31)):=below_al (below_al (Below.refl _ w) _) _;have r2 : ((w.alloc (.cells #[.int .i64 0,.int .i64 0] 31)).alloc (.cells #[.int .i64 0,.int .i64 0] 31)).heap[w.heap.size]? = some (.cells #[.int .i64 0,.int .i64 0] 31):=(Below.heap_alloc _ _ _ (by simp)).trans (heap_alloc_new _ _)
 have r3 : ((w.alloc (.cells #[.int .i64 0,.int .i64 0] 31)).alloc (.cells #[.int .i64 0,.int .i64 0] 31)).heap[w.heap.size + 1]? = some (.cells #[.int .i64 0,.int .i64 0] 31):=by
  have h:=heap_alloc_new (w.alloc (.cells #[.int .i64 0,.int .i64 0] 31)) (.cells #[.int .i64 0,.int .i64 0] 31)
  rwa [show (w.alloc (.cells #[.int .i64 0,.int .i64 0] 31)).heap.size = w.heap.size + 1 from by simp] at h
 have hz : w.heap.size + 2 ≤ ((w.alloc (.cells #[.int .i64 0,.int .i64 0] 31)).alloc (.cells #[.int .i64 0,.int .i64 0] 31)).heap.size:=by simp
 replace c0:=cellB hB2 c0;replace c1:=cellB hB2 c1;generalize ((w.alloc (.cells #[.int .i64 0,.int .i64 0] 31)).alloc (.cells #[.int .i64 0,.int .i64 0] 31)) = W at *;have HB2:=aside hB2;have R2:=aside r2;have R3:=aside r3;clear hB2 r2 r3
 obtain ⟨x0,hx0⟩ : ∃ x,(l.getD 0 z31).f0 = x:=⟨_,rfl⟩
 obtain ⟨x1,hx1⟩ : ∃ x,(l.getD 0 z31).f1 = x:=⟨_,rfl⟩
 rw [hx0] at c0;rw [hx1] at c1;have X0:=aside hx0;have X1:=aside hx1;clear hx0 hx1;have B0:=below_dr (Below.refl _ W)
 refine start_ (n:=10) (S:=fun w'=>w'.cell? ad = some (.int .i64 x0) ∧ w'.cell? ⟨ad.block,ad.off + 1,none⟩ = some (.int .i64 x1)) (ds:=[9]) #[false,false,false,false,false,false,false,false,false,false] (by kernel_rfl) rfl rfl ⟨cellB B0 c0,cellB B0 c1⟩ (fun hHeld=>?_)
 refine pure_ (i:=0) (N:=some 7) (v:=?_) (a':=?_) #[true,false,false,false,false,false,false,false,false,false] rfl rfl (by kernel_rfl) (fun _ _ _ h=>h) (Or.inl ⟨by rfl, ?_⟩) ?_ ?_;rotate_left;(intro w';go_simp;with_reducible rfl);rotate_left;(simp only [Act.put,List.setIfInBounds_toArray,List.set_cons_zero,List.set_cons_succ,i64_w,i32_w];rfl);refine pure_ (i:=1) (N:=some 8) (v:=?_) (a':=?_) #[true,true,false,false,false,false,false,false,false,false] rfl rfl (by kernel_rfl) (fun _ _ _ h=>h) (Or.inl ⟨by rfl, ?_⟩) ?_ ?_;rotate_left;(intro w';go_simp;with_reducible rfl);rotate_left;(simp only [Act.put,List.setIfInBounds_toArray,List.set_cons_zero,List.set_cons_succ,i64_w,i32_w];rfl);refine pure_ (i:=3) (N:=some 10) (v:=?_) (a':=?_) #[true,true,false,true,false,false,false,false,false,false] rfl rfl (by kernel_rfl) (fun _ _ _ h=>h) (Or.inl ⟨by rfl, ?_⟩) ?_ ?_;rotate_left;(intro w';go_simp;with_reducible rfl);rotate_left;(simp only [Act.put,List.setIfInBounds_toArray,List.set_cons_zero,List.set_cons_succ,i64_w,i32_w];rfl);refine pure_ (i:=4) (N:=some 11) (v:=?_) (a':=?_) #[true,true,false,true,true,false,false,false,false,false] rfl rfl (by kernel_rfl) (fun _ _ _ h=>h) (Or.inl ⟨by rfl, ?_⟩) ?_ ?_;rotate_left;(intro w';go_simp;with_reducible rfl);rotate_left;(simp only [Act.put,List.setIfInBounds_toArray,List.set_cons_zero,List.set_cons_succ,i64_w,i32_w];rfl);refine take_ (i:=2) (N:=some 9) (v:=?_) (a':=?_) #[true,true,true,true,true,false,false,false,false,false] rfl rfl (by kernel_rfl) (fun _ _ _ h=>h) (Or.inl ⟨by rfl, ?_⟩) hHeld ?_ ?_;rotate_left;(rintro w' ⟨s0,s1⟩;go_simp;with_reducible rfl);rotate_left;(simp only [Act.put,List.setIfInBounds_toArray,List.set_cons_zero,List.set_cons_succ,i64_w,i32_w];rfl);refine take_ (i:=5) (N:=some 12) (v:=?_) (a':=?_) #[true,true,true,true,true,true,false,false,false,false] rfl rfl (by kernel_rfl) (fun _ _ _ h=>h) (Or.inl ⟨by rfl, ?_⟩) hHeld ?_ ?_;rotate_left;(rintro w' ⟨s0,s1⟩;go_simp;with_reducible rfl);rotate_left;(simp only [Act.put,List.setIfInBounds_toArray,List.set_cons_zero,List.set_cons_succ,i64_w,i32_w];rfl)
 refine join_ (σ:=Nat × Nat) 2 #[true,true,true,true,true,true,true,true,false,false] (fun s=>[(4,.pointer (some ⟨s.1,0,none⟩)),(5,.pointer (some ⟨s.2,0,none⟩))]) (fun s w'=>Below W.heap.size W w' ∧ w'.heap[s.1]? = some (.cells #[.int .i64 0,.int .i64 0] 31) ∧ w'.heap[s.2]? = some (.cells #[.int .i64 0,.int .i64 0] 31) ∧ s.1 ≠ s.2 ∧ W.heap.size ≤ s.1 ∧ W.heap.size ≤ s.2) ?_ ?_
 rotate_left
 ·intro hCont
  refine two_ (i:=6) (j:=7) (Ni:=some 4) (Nj:=some 5) #[true,true,true,true,true,true,true,false,false,false] #[true,true,true,true,true,true,false,true,false,false] rfl rfl rfl rfl (by kernel_rfl) (by decide) (by decide) (fun K hK=>?_) (fun K hK=>?_)
  ·skip
   refine value_ (w1:=?_) (v:=?_) (by rfl) rfl ?_ ?_
   rotate_left 2
   ·go_simp
    constructor
    (rfl);(rfl)
   have B1:=below_al B0 (.cells #[.int .i64 0,.int .i64 0] 31)
   have h6_1 : (W.drew.alloc (.cells #[.int .i64 0,.int .i64 0] 31)).heap[W.heap.size]? = some (.cells #[.int .i64 0,.int .i64 0] 31):=by have h:=heap_alloc_new (W.drew) (.cells #[.int .i64 0,.int .i64 0] 31);rwa [show (W.drew).heap.size = W.heap.size from by simp] at h
   have g6 : W.heap.size ≤ W.heap.size:=by have h:=B0.size;(try simp at h);omega
   refine hK.out _ _ ⟨cellB B1 c0,cellB B1 c1⟩ (fun hHeld=>?_)
   clear hK K;refine norm_ (a':=?_) ?_ ?_;rotate_left
   ·show Act.put _ (some 4) _ = _
    simp only [Act.put,List.setIfInBounds_toArray,List.set_cons_zero,List.set_cons_succ,i64_w,i32_w];rfl
   refine one_ (i:=7) (N:=some 5) #[true,true,true,true,true,true,true,true,false,false] rfl rfl (by kernel_rfl) (by decide) (fun K hK=>?_)
   refine value_ (w1:=?_) (v:=?_) (by rfl) rfl ?_ ?_
   rotate_left 2
   ·go_simp
    constructor
    (rfl);(rfl)
   have B2:=below_al B1 (.cells #[.int .i64 0,.int .i64 0] 31)
   have h7_2 : ((W.drew.alloc (.cells #[.int .i64 0,.int .i64 0] 31)).alloc (.cells #[.int .i64 0,.int .i64 0] 31)).heap[W.heap.size + 1]? = some (.cells #[.int .i64 0,.int .i64 0] 31):=by have h:=heap_alloc_new ((W.drew.alloc (.cells #[.int .i64 0,.int .i64 0] 31))) (.cells #[.int .i64 0,.int .i64 0] 31);rwa [show ((W.drew.alloc (.cells #[.int .i64 0,.int .i64 0] 31))).heap.size = W.heap.size + 1 from by simp] at h
   have g7 : W.heap.size ≤ W.heap.size + 1:=by have h:=B1.size;(try simp at h);omega
   have h6_2:=(Below.heap_alloc ((W.drew.alloc (.cells #[.int .i64 0,.int .i64 0] 31))) (.cells #[.int .i64 0,.int .i64 0] 31) _ (blk_lt h6_1)).trans h6_1
   have hne : W.heap.size ≠ W.heap.size + 1:=by have h:=blk_lt h6_1;(try simp at h);omega
   refine hK.out _ _ ⟨cellB B2 c0,cellB B2 c1⟩ (fun hHeld=>?_)
   clear hK K;refine norm_ (a':=?_) ?_ ?_;rotate_left
   ·show Act.put _ (some 5) _ = _
    simp only [Act.put,List.setIfInBounds_toArray,List.set_cons_zero,List.set_cons_succ,i64_w,i32_w];rfl
   exact norm_ (by simp only [putAll,Act.put,List.setIfInBounds_toArray,List.set_cons_zero,List.set_cons_succ]) (hCont (W.heap.size,W.heap.size + 1) _ ⟨B2,h6_2,h7_2,hne,g6,g7⟩)
  ·skip
   refine value_ (w1:=?_) (v:=?_) (by rfl) rfl ?_ ?_
   rotate_left 2
   ·go_simp
    constructor
    (rfl);(rfl)
   have B1:=below_al B0 (.cells #[.int .i64 0,.int .i64 0] 31)
   have h7_1 : (W.drew.alloc (.cells #[.int .i64 0,.int .i64 0] 31)).heap[W.heap.size]? = some (.cells #[.int .i64 0,.int .i64 0] 31):=by have h:=heap_alloc_new (W.drew) (.cells #[.int .i64 0,.int .i64 0] 31);rwa [show (W.drew).heap.size = W.heap.size from by simp] at h
   have g7 : W.heap.size ≤ W.heap.size:=by have h:=B0.size;(try simp at h);omega
   refine hK.out _ _ ⟨cellB B1 c0,cellB B1 c1⟩ (fun hHeld=>?_)
   clear hK K;refine norm_ (a':=?_) ?_ ?_;rotate_left
   ·show Act.put _ (some 5) _ = _
    simp only [Act.put,List.setIfInBounds_toArray,List.set_cons_zero,List.set_cons_succ,i64_w,i32_w];rfl
   refine one_ (i:=6) (N:=some 4) #[true,true,true,true,true,true,true,true,false,false] rfl rfl (by kernel_rfl) (by decide) (fun K hK=>?_)
   refine value_ (w1:=?_) (v:=?_) (by rfl) rfl ?_ ?_
   rotate_left 2
   ·go_simp
    constructor
    (rfl);(rfl)
   have B2:=below_al B1 (.cells #[.int .i64 0,.int .i64 0] 31)
   have h6_2 : ((W.drew.alloc (.cells #[.int .i64 0,.int .i64 0] 31)).alloc (.cells #[.int .i64 0,.int .i64 0] 31)).heap[W.heap.size + 1]? = some (.cells #[.int .i64 0,.int .i64 0] 31):=by have h:=heap_alloc_new ((W.drew.alloc (.cells #[.int .i64 0,.int .i64 0] 31))) (.cells #[.int .i64 0,.int .i64 0] 31);rwa [show ((W.drew.alloc (.cells #[.int .i64 0,.int .i64 0] 31))).heap.size = W.heap.size + 1 from by simp] at h
   have g6 : W.heap.size ≤ W.heap.size + 1:=by have h:=B1.size;(try simp at h);omega
   have h7_2:=(Below.heap_alloc ((W.drew.alloc (.cells #[.int .i64 0,.int .i64 0] 31))) (.cells #[.int .i64 0,.int .i64 0] 31) _ (blk_lt h7_1)).trans h7_1
   have hne : W.heap.size + 1 ≠ W.heap.size:=by have h:=blk_lt h7_1;(try simp at h);omega
   refine hK.out _ _ ⟨cellB B2 c0,cellB B2 c1⟩ (fun hHeld=>?_)
   clear hK K;refine norm_ (a':=?_) ?_ ?_;rotate_left
   ·show Act.put _ (some 4) _ = _
    simp only [Act.put,List.setIfInBounds_toArray,List.set_cons_zero,List.set_cons_succ,i64_w,i32_w];rfl
   exact norm_ (by simp only [putAll,Act.put,List.setIfInBounds_toArray,List.set_cons_zero,List.set_cons_succ]) (hCont (W.heap.size + 1,W.heap.size) _ ⟨B2,h6_2,h7_2,hne,g6,g7⟩)
 rintro ⟨b4,b5⟩ w5 ⟨B5,h4,h5,hne,g4,g5⟩
 dsimp only at h4 h5 hne g4 g5
 have hHeld : w5.cell? ad = some (.int .i64 x0) ∧ w5.cell? ⟨ad.block,ad.off + 1,none⟩ = some (.int .i64 x1):=⟨cellB B5 c0,cellB B5 c1⟩
 refine norm_ (a':=?_) ?_ ?_;rotate_left;(simp only [putAll,Act.put,List.setIfInBounds_toArray,List.set_cons_zero,List.set_cons_succ];rfl);refine one_ (i:=8) (N:=none) #[true,true,true,true,true,true,true,true,true,false] rfl rfl (by kernel_rfl) (by decide) (fun K hK=>?_)
 refine skip_ (w1:=w5.setRow b4 #[.int .i64 x0,.int .i64 x1]) (by rfl) rfl ?_ ?_
 (exact store_row_run 31 _ _ rfl rfl rfl (store31 w5 b4 _ _ h4));have B6:=below_row B5 g4 #[.int .i64 x0,.int .i64 x1]
 refine hK.out _ _ ⟨cellB B6 c0,cellB B6 c1⟩ (fun hHeld=>?_)
 clear hK K
 refine last_ (i:=9) (N:=none) #[true,true,true,true,true,true,true,true,true,true] rfl rfl (by kernel_rfl) (by decide) (fun K hK=>?_)
 refine skip_ (w1:=(w5.setRow b4 #[.int .i64 x0,.int .i64 x1]).setRow b5 #[.int .i64 x0,.int .i64 x1]) (by rfl) rfl ?_ ?_
 (exact store_row_run 31 _ _ rfl rfl rfl (store31 _ b5 _ _ ((setRow_other _ _ _ _ (Ne.symm hne)).trans h5)))
 refine hK.out _ _ ?_
 clear hK K
 refine done_ (by kernel_rfl) ?_
 have BX : BW w ((w5.setRow b4 #[.int .i64 x0,.int .i64 x1]).setRow b5 #[.int .i64 x0,.int .i64 x1]) w.heap.size (w.heap.size + 1) b4 b5 (bF l 1):=by
  have hb:=HB2.out.size
  have e : bF l 1 = (x0,x1,x0,x1):=by unfold bF;rw [← X0.out,← X1.out];rfl
  rw [e]
  refine ⟨below_row (below_row (below_trans HB2.out B5) (by omega) _) (by omega) _, ?_, ?_, ?_, ?_,⟨hne,by omega,by omega,by omega,by omega,by omega⟩,by omega⟩
  (exact ((setRow_other _ _ _ _ (by omega)).trans (setRow_other _ _ _ _ (by omega))).trans ((B5.block _ (by omega)).trans R2.out));(exact ((setRow_other _ _ _ _ (by omega)).trans (setRow_other _ _ _ _ (by omega))).trans ((B5.block _ (by omega)).trans R3.out));(exact (setRow_other _ _ _ _ hne).trans (setRow_heap _ _ _ _ _ _ h4));(exact setRow_heap _ _ _ _ _ _ ((setRow_other _ _ _ _ (Ne.symm hne)).trans h5))
 have HBX:=aside BX;clear hHeld h4 h5 hne g4 g5 B5 B6 B0 c0 c1 BX HB2 R2 R3 X0 X1 hz;generalize ((w5.setRow b4 #[.int .i64 x0,.int .i64 x1]).setRow b5 #[.int .i64 x0,.int .i64 x1]) = W0 at HBX ⊢;generalize hb2 : w.heap.size = b2 at HBX ⊢;generalize hb3 : b2 + 1 = b3 at HBX ⊢
 go_wp2
 go_loopg [6] l.length (fun gg v wr=>∃ n : Nat,1 ≤ n ∧ n ≤ l.length ∧ l.length - n ≤ gg ∧ v = .int .i64 n ∧ Aside (BW w wr b2 b3 b4 b5 (bF l n)))
 case atStart=>exact ⟨1,by omega,by omega,by omega,rfl,HBX⟩
 clear HBX
 case round =>
  obtain ⟨n,hn1,hn,hg,rfl,X⟩ := hrel;by_cases hlt : n < l.length
  ·have hlt' : (n : Int) < (l.length : Int):=by omega
   have RB:=Kd.C_below HR.out X.out.below;obtain ⟨ad',hA,c0,c1⟩ := at_T31 RB (n : Int) (by omega) (by omega);obtain rfl:=Option.some.inj hA
   have hx : rd_T31 l (n : Int) = l.getD n z31:=by unfold rd_T31;simp
   rw [hx] at c0 c1;simp only [Int.toNat_natCast] at c0 c1;have hes:=bF_succ l n hn1
   unfold bStep at hes
   generalize (l.getD n z31).f0 = x0 at c0 hes;generalize (l.getD n z31).f1 = x1 at c1 hes
   obtain ⟨⟨v0,v1,y0,y1⟩,hs⟩ : ∃ s : B4,bF l n = s:=⟨_,rfl⟩
   rw [hs] at hes X
   dsimp only at hes
   have k0 : wr.cell? ⟨b4,0,none⟩ = some (.int .i64 v0):=by rw [cell_of_row wr b4 0 _ _ _ X.out.lo];rfl
   have k1 : wr.cell? ⟨b4,1,none⟩ = some (.int .i64 v1):=by rw [cell_of_row wr b4 1 _ _ _ X.out.lo];rfl
   have kf : wr.frozen? ⟨b4,0,none⟩ = false:=frozen_of_row wr b4 0 _ _ X.out.lo;have kf1 : wr.frozen? ⟨b4,1,none⟩ = false:=frozen_of_row wr b4 1 _ _ X.out.lo;have HE:=aside hes;obtain ⟨ad2,hA2,cw,_⟩ := at_T31 HR.out (n : Int) (by omega) (by omega);obtain rfl:=Option.some.inj hA2;have hbl:=World.block_lt_of_cell? w _ cw;simp only [Int.toNat_natCast] at hbl
   have hadb : ad.add (n * 2) ≠ (⟨b4,0,none⟩ : Addr):=fun e=>by have e':=congrArg Addr.block e;have g:=X.out.ge;dsimp only at e';omega
   have hadb2 : (⟨(ad.add (n * 2)).block,(ad.add (n * 2)).off + 1,none⟩ : Addr) ≠ (⟨b4,0,none⟩ : Addr):=fun e=>by have e':=congrArg Addr.block e;have g:=X.out.ge;dsimp only at e';omega
   have hadc : ad.add (n * 2) ≠ (⟨b5,0,none⟩ : Addr):=fun e=>by have e':=congrArg Addr.block e;have g:=X.out.ge;dsimp only at e';omega
   have hadc2 : (⟨(ad.add (n * 2)).block,(ad.add (n * 2)).off + 1,none⟩ : Addr) ≠ (⟨b5,0,none⟩ : Addr):=fun e=>by have e':=congrArg Addr.block e;have g:=X.out.ge;dsimp only at e';omega
   have hblA:=aside hbl;clear RB hx hes hs cw hbl
   go_upto_region 5 with fail
   generalize hW : wr = W at *
   refine start_ (n:=20) (S:=fun w'=>w'.cell? ⟨b4,1,none⟩ = some (.int .i64 v1) ∧ w'.cell? (ad.add (n * 2)) = some (.int .i64 x0) ∧ w'.cell? ⟨(ad.add (n * 2)).block,(ad.add (n * 2)).off + 1,none⟩ = some (.int .i64 x1)) (ds:=[19]) #[false,false,false,false,false,false,false,false,false,false,false,false,false,false,false,false,false,false,false,false] (by kernel_rfl) rfl rfl ⟨(show W.drew.cell? _ = _ from k1),(show W.drew.cell? _ = _ from c0),(show W.drew.cell? _ = _ from c1)⟩ (fun hHeld=>?_)
   refine pure_ (i:=0) (N:=some 19) (v:=?_) (a':=?_) #[true,false,false,false,false,false,false,false,false,false,false,false,false,false,false,false,false,false,false,false] rfl rfl (by kernel_rfl) (fun _ _ _ h=>h) (Or.inl ⟨by rfl, ?_⟩) ?_ ?_;rotate_left;(intro w';go_simp;with_reducible rfl);rotate_left;(simp only [Act.put,List.setIfInBounds_toArray,List.set_cons_zero,List.set_cons_succ,i64_w,i32_w];rfl);refine pure_ (i:=2) (N:=some 21) (v:=?_) (a':=?_) #[true,false,true,false,false,false,false,false,false,false,false,false,false,false,false,false,false,false,false,false] rfl rfl (by kernel_rfl) (fun _ _ _ h=>h) (Or.inl ⟨by rfl, ?_⟩) ?_ ?_;rotate_left;(intro w';go_simp;with_reducible rfl);rotate_left;(simp only [Act.put,List.setIfInBounds_toArray,List.set_cons_zero,List.set_cons_succ,i64_w,i32_w];rfl);refine pure_ (i:=3) (N:=some 22) (v:=?_) (a':=?_) #[true,false,true,true,false,false,false,false,false,false,false,false,false,false,false,false,false,false,false,false] rfl rfl (by kernel_rfl) (fun _ _ _ h=>h) (Or.inl ⟨by rfl, ?_⟩) ?_ ?_;rotate_left;(intro w';go_simp;with_reducible rfl);rotate_left;(simp only [Act.put,List.setIfInBounds_toArray,List.set_cons_zero,List.set_cons_succ,i64_w,i32_w];rfl);refine pure_ (i:=4) (N:=some 23) (v:=?_) (a':=?_) #[true,false,true,true,true,false,false,false,false,false,false,false,false,false,false,false,false,false,false,false] rfl rfl (by kernel_rfl) (fun _ _ _ h=>h) (Or.inl ⟨by rfl, ?_⟩) ?_ ?_;rotate_left;(intro w';go_simp;with_reducible rfl);rotate_left;(simp only [Act.put,List.setIfInBounds_toArray,List.set_cons_zero,List.set_cons_succ,i64_w,i32_w];rfl);refine pure_ (i:=5) (N:=some 24) (v:=?_) (a':=?_) #[true,false,true,true,true,true,false,false,false,false,false,false,false,false,false,false,false,false,false,false] rfl rfl (by kernel_rfl) (fun _ _ _ h=>h) (Or.inl ⟨by rfl, ?_⟩) ?_ ?_;rotate_left;(intro w';go_simp;with_reducible rfl);rotate_left;(simp only [Act.put,List.setIfInBounds_toArray,List.set_cons_zero,List.set_cons_succ,i64_w,i32_w];rfl);refine pure_ (i:=8) (N:=some 27) (v:=?_) (a':=?_) #[true,false,true,true,true,true,false,false,true,false,false,false,false,false,false,false,false,false,false,false] rfl rfl (by kernel_rfl) (fun _ _ _ h=>h) (Or.inl ⟨by rfl, ?_⟩) ?_ ?_;rotate_left;(intro w';go_simp;with_reducible rfl);rotate_left;(simp only [Act.put,List.setIfInBounds_toArray,List.set_cons_zero,List.set_cons_succ,i64_w,i32_w];rfl);refine pure_ (i:=10) (N:=some 29) (v:=?_) (a':=?_) #[true,false,true,true,true,true,false,false,true,false,true,false,false,false,false,false,false,false,false,false] rfl rfl (by kernel_rfl) (fun _ _ _ h=>h) (Or.inl ⟨by rfl, ?_⟩) ?_ ?_;rotate_left;(intro w';go_simp;with_reducible rfl);rotate_left;(simp only [Act.put,List.setIfInBounds_toArray,List.set_cons_zero,List.set_cons_succ,i64_w,i32_w];rfl);refine pure_ (i:=11) (N:=some 30) (v:=?_) (a':=?_) #[true,false,true,true,true,true,false,false,true,false,true,true,false,false,false,false,false,false,false,false] rfl rfl (by kernel_rfl) (fun _ _ _ h=>h) (Or.inl ⟨by rfl, ?_⟩) ?_ ?_;rotate_left;(intro w';go_simp;with_reducible rfl);rotate_left;(simp only [Act.put,List.setIfInBounds_toArray,List.set_cons_zero,List.set_cons_succ,i64_w,i32_w];rfl);refine pure_ (i:=12) (N:=some 31) (v:=?_) (a':=?_) #[true,false,true,true,true,true,false,false,true,false,true,true,true,false,false,false,false,false,false,false] rfl rfl (by kernel_rfl) (fun _ _ _ h=>h) (Or.inl ⟨by rfl, ?_⟩) ?_ ?_;rotate_left;(intro w';go_simp;with_reducible rfl);rotate_left;(simp only [Act.put,List.setIfInBounds_toArray,List.set_cons_zero,List.set_cons_succ,i64_w,i32_w];rfl);refine pure_ (i:=13) (N:=some 32) (v:=?_) (a':=?_) #[true,false,true,true,true,true,false,false,true,false,true,true,true,true,false,false,false,false,false,false] rfl rfl (by kernel_rfl) (fun _ _ _ h=>h) (Or.inl ⟨by rfl, ?_⟩) ?_ ?_;rotate_left;(intro w';go_simp;with_reducible rfl);rotate_left;(simp only [Act.put,List.setIfInBounds_toArray,List.set_cons_zero,List.set_cons_succ,i64_w,i32_w];rfl);refine take_ (i:=6) (N:=some 25) (v:=?_) (a':=?_) #[true,false,true,true,true,true,true,false,true,false,true,true,true,true,false,false,false,false,false,false] rfl rfl (by kernel_rfl) (fun _ _ _ h=>h) (Or.inl ⟨by rfl, ?_⟩) hHeld ?_ ?_;rotate_left;(rintro w' ⟨s0,s1,s2⟩;go_simp;with_reducible rfl);rotate_left;(simp only [Act.put,List.setIfInBounds_toArray,List.set_cons_zero,List.set_cons_succ,i64_w,i32_w];rfl);refine take_ (i:=9) (N:=some 28) (v:=?_) (a':=?_) #[true,false,true,true,true,true,true,false,true,true,true,true,true,true,false,false,false,false,false,false] rfl rfl (by kernel_rfl) (fun _ _ _ h=>h) (Or.inl ⟨by rfl, ?_⟩) hHeld ?_ ?_;rotate_left;(rintro w' ⟨s0,s1,s2⟩;go_simp;with_reducible rfl);rotate_left;(simp only [Act.put,List.setIfInBounds_toArray,List.set_cons_zero,List.set_cons_succ,i64_w,i32_w];rfl);refine take_ (i:=14) (N:=some 33) (v:=?_) (a':=?_) #[true,false,true,true,true,true,true,false,true,true,true,true,true,true,true,false,false,false,false,false] rfl rfl (by kernel_rfl) (fun _ _ _ h=>h) (Or.inl ⟨by rfl, ?_⟩) hHeld ?_ ?_;rotate_left;(rintro w' ⟨s0,s1,s2⟩;go_simp;with_reducible rfl);rotate_left;(simp only [Act.put,List.setIfInBounds_toArray,List.set_cons_zero,List.set_cons_succ,i64_w,i32_w];rfl);refine pure_ (i:=15) (N:=some 34) (v:=?_) (a':=?_) #[true,false,true,true,true,true,true,false,true,true,true,true,true,true,true,true,false,false,false,false] rfl rfl (by kernel_rfl) (fun _ _ _ h=>h) (Or.inl ⟨by rfl, ?_⟩) ?_ ?_;rotate_left;(intro w';go_simp;with_reducible rfl);rotate_left;(simp only [Act.put,List.setIfInBounds_toArray,List.set_cons_zero,List.set_cons_succ,i64_w,i32_w];rfl);refine one_ (i:=1) (N:=some 20) #[true,true,true,true,true,true,true,false,true,true,true,true,true,true,true,true,false,false,false,false] rfl rfl (by kernel_rfl) (by decide) (fun K hK=>?_)
   refine value_ (w1:=?_) (v:=?_) (by rfl) rfl ?_ ?_
   rotate_left 2
   ·go_simp
    constructor
    (rfl);(rfl)
   refine hK.out _ _ ⟨hHeld.1,hHeld.2.1,hHeld.2.2⟩ (fun hHeld=>?_)
   clear hK K;refine norm_ (a':=?_) ?_ ?_;rotate_left
   ·show Act.put _ (some 20) _ = _
    simp only [Act.put,List.setIfInBounds_toArray,List.set_cons_zero,List.set_cons_succ,i64_w,i32_w];rfl
   refine pure_ (i:=7) (N:=some 26) (v:=?_) (a':=?_) #[true,true,true,true,true,true,true,true,true,true,true,true,true,true,true,true,false,false,false,false] rfl rfl (by kernel_rfl) (fun _ _ _ h=>h) (Or.inl ⟨by rfl, ?_⟩) ?_ ?_;rotate_left;(intro w';go_simp;with_reducible rfl);rotate_left;(simp only [Act.put,List.setIfInBounds_toArray,List.set_cons_zero,List.set_cons_succ,i64_w,i32_w];rfl);refine pure_ (i:=16) (N:=some 35) (v:=?_) (a':=?_) #[true,true,true,true,true,true,true,true,true,true,true,true,true,true,true,true,true,false,false,false] rfl rfl (by kernel_rfl) (fun _ _ _ h=>h) (Or.inl ⟨by rfl, ?_⟩) ?_ ?_;rotate_left;(intro w';go_simp;with_reducible rfl);rotate_left;(simp only [Act.put,List.setIfInBounds_toArray,List.set_cons_zero,List.set_cons_succ,i64_w,i32_w];rfl);refine one_ (i:=17) (N:=none) #[true,true,true,true,true,true,true,true,true,true,true,true,true,true,true,true,true,true,false,false] rfl rfl (by kernel_rfl) (by decide) (fun K hK=>?_)
   refine skip_ (w1:=?_) (by rfl) rfl ?_ ?_
   rotate_left;(go_simp;rfl)
   refine hK.out _ _ ⟨(setCell_ne _ (by simp) hHeld.1),(setCell_ne _ hadb hHeld.2.1),(setCell_ne _ hadb2 hHeld.2.2)⟩ (fun hHeld=>?_)
   clear hK K;refine pure_ (i:=18) (N:=some 36) (v:=?_) (a':=?_) #[true,true,true,true,true,true,true,true,true,true,true,true,true,true,true,true,true,true,true,false] rfl rfl (by kernel_rfl) (fun _ _ _ h=>h) (Or.inl ⟨by rfl, ?_⟩) ?_ ?_;rotate_left;(intro w';go_simp;with_reducible rfl);rotate_left;(simp only [Act.put,List.setIfInBounds_toArray,List.set_cons_zero,List.set_cons_succ,i64_w,i32_w];rfl)
   refine last_ (i:=19) (N:=none) #[true,true,true,true,true,true,true,true,true,true,true,true,true,true,true,true,true,true,true,true] rfl rfl (by kernel_rfl) (by decide) (fun K hK=>?_)
   refine skip_ (w1:=?_) (by rfl) rfl ?_ ?_
   rotate_left;(go_simp;rfl)
   refine hK.out _ _ ?_
   clear hK K
   refine done_ (by kernel_rfl) ?_
   have X2:=X.out.putLo (if x0 < v0 then x0 else v0) (if x1 < v1 then x1 else v1);have d0 : ((W.setCell ⟨b4,0,none⟩ (.int .i64 (if x0 < v0 then x0 else v0))).setCell ⟨b4,1,none⟩ (.int .i64 (if x1 < v1 then x1 else v1))).drew.cell? (ad.add (n * 2)) = some (.int .i64 x0):=setCell_ne _ (fun e=>by have e':=congrArg Addr.block e;have g:=X.out.ge;have:=hblA.out;dsimp only at e';omega) (setCell_ne _ hadb c0);have d1 : ((W.setCell ⟨b4,0,none⟩ (.int .i64 (if x0 < v0 then x0 else v0))).setCell ⟨b4,1,none⟩ (.int .i64 (if x1 < v1 then x1 else v1))).drew.cell? ⟨(ad.add (n * 2)).block,(ad.add (n * 2)).off + 1,none⟩ = some (.int .i64 x1):=setCell_ne _ (fun e=>by have e':=congrArg Addr.block e;have g:=X.out.ge;have:=hblA.out;dsimp only at e';omega) (setCell_ne _ hadb2 c1);clear hHeld k0 k1 kf kf1 X c0 c1;generalize ((W.setCell ⟨b4,0,none⟩ (.int .i64 (if x0 < v0 then x0 else v0))).setCell ⟨b4,1,none⟩ (.int .i64 (if x1 < v1 then x1 else v1))).drew = W2 at X2 d0 d1 ⊢
   have k0 : W2.cell? ⟨b5,0,none⟩ = some (.int .i64 y0):=by rw [cell_of_row W2 b5 0 _ _ _ X2.hi];rfl
   have k1 : W2.cell? ⟨b5,1,none⟩ = some (.int .i64 y1):=by rw [cell_of_row W2 b5 1 _ _ _ X2.hi];rfl
   have kf : W2.frozen? ⟨b5,0,none⟩ = false:=frozen_of_row W2 b5 0 _ _ X2.hi;have kf1 : W2.frozen? ⟨b5,1,none⟩ = false:=frozen_of_row W2 b5 1 _ _ X2.hi;have X3:=aside X2;clear X2
   go_upto_region 6 with fail
   refine start_ (n:=20) (S:=fun w'=>w'.cell? ⟨b5,1,none⟩ = some (.int .i64 y1) ∧ w'.cell? (ad.add (n * 2)) = some (.int .i64 x0) ∧ w'.cell? ⟨(ad.add (n * 2)).block,(ad.add (n * 2)).off + 1,none⟩ = some (.int .i64 x1)) (ds:=[19]) #[false,false,false,false,false,false,false,false,false,false,false,false,false,false,false,false,false,false,false,false] (by kernel_rfl) rfl rfl ⟨(show W2.drew.cell? _ = _ from k1),(show W2.drew.cell? _ = _ from d0),(show W2.drew.cell? _ = _ from d1)⟩ (fun hHeld=>?_)
   refine pure_ (i:=0) (N:=some 37) (v:=?_) (a':=?_) #[true,false,false,false,false,false,false,false,false,false,false,false,false,false,false,false,false,false,false,false] rfl rfl (by kernel_rfl) (fun _ _ _ h=>h) (Or.inl ⟨by rfl, ?_⟩) ?_ ?_;rotate_left;(intro w';go_simp;with_reducible rfl);rotate_left;(simp only [Act.put,List.setIfInBounds_toArray,List.set_cons_zero,List.set_cons_succ,i64_w,i32_w];rfl);refine pure_ (i:=2) (N:=some 39) (v:=?_) (a':=?_) #[true,false,true,false,false,false,false,false,false,false,false,false,false,false,false,false,false,false,false,false] rfl rfl (by kernel_rfl) (fun _ _ _ h=>h) (Or.inl ⟨by rfl, ?_⟩) ?_ ?_;rotate_left;(intro w';go_simp;with_reducible rfl);rotate_left;(simp only [Act.put,List.setIfInBounds_toArray,List.set_cons_zero,List.set_cons_succ,i64_w,i32_w];rfl);refine pure_ (i:=3) (N:=some 40) (v:=?_) (a':=?_) #[true,false,true,true,false,false,false,false,false,false,false,false,false,false,false,false,false,false,false,false] rfl rfl (by kernel_rfl) (fun _ _ _ h=>h) (Or.inl ⟨by rfl, ?_⟩) ?_ ?_;rotate_left;(intro w';go_simp;with_reducible rfl);rotate_left;(simp only [Act.put,List.setIfInBounds_toArray,List.set_cons_zero,List.set_cons_succ,i64_w,i32_w];rfl);refine pure_ (i:=4) (N:=some 41) (v:=?_) (a':=?_) #[true,false,true,true,true,false,false,false,false,false,false,false,false,false,false,false,false,false,false,false] rfl rfl (by kernel_rfl) (fun _ _ _ h=>h) (Or.inl ⟨by rfl, ?_⟩) ?_ ?_;rotate_left;(intro w';go_simp;with_reducible rfl);rotate_left;(simp only [Act.put,List.setIfInBounds_toArray,List.set_cons_zero,List.set_cons_succ,i64_w,i32_w];rfl);refine pure_ (i:=5) (N:=some 42) (v:=?_) (a':=?_) #[true,false,true,true,true,true,false,false,false,false,false,false,false,false,false,false,false,false,false,false] rfl rfl (by kernel_rfl) (fun _ _ _ h=>h) (Or.inl ⟨by rfl, ?_⟩) ?_ ?_;rotate_left;(intro w';go_simp;with_reducible rfl);rotate_left;(simp only [Act.put,List.setIfInBounds_toArray,List.set_cons_zero,List.set_cons_succ,i64_w,i32_w];rfl);refine pure_ (i:=8) (N:=some 45) (v:=?_) (a':=?_) #[true,false,true,true,true,true,false,false,true,false,false,false,false,false,false,false,false,false,false,false] rfl rfl (by kernel_rfl) (fun _ _ _ h=>h) (Or.inl ⟨by rfl, ?_⟩) ?_ ?_;rotate_left;(intro w';go_simp;with_reducible rfl);rotate_left;(simp only [Act.put,List.setIfInBounds_toArray,List.set_cons_zero,List.set_cons_succ,i64_w,i32_w];rfl);refine pure_ (i:=10) (N:=some 47) (v:=?_) (a':=?_) #[true,false,true,true,true,true,false,false,true,false,true,false,false,false,false,false,false,false,false,false] rfl rfl (by kernel_rfl) (fun _ _ _ h=>h) (Or.inl ⟨by rfl, ?_⟩) ?_ ?_;rotate_left;(intro w';go_simp;with_reducible rfl);rotate_left;(simp only [Act.put,List.setIfInBounds_toArray,List.set_cons_zero,List.set_cons_succ,i64_w,i32_w];rfl);refine pure_ (i:=11) (N:=some 48) (v:=?_) (a':=?_) #[true,false,true,true,true,true,false,false,true,false,true,true,false,false,false,false,false,false,false,false] rfl rfl (by kernel_rfl) (fun _ _ _ h=>h) (Or.inl ⟨by rfl, ?_⟩) ?_ ?_;rotate_left;(intro w';go_simp;with_reducible rfl);rotate_left;(simp only [Act.put,List.setIfInBounds_toArray,List.set_cons_zero,List.set_cons_succ,i64_w,i32_w];rfl);refine pure_ (i:=12) (N:=some 49) (v:=?_) (a':=?_) #[true,false,true,true,true,true,false,false,true,false,true,true,true,false,false,false,false,false,false,false] rfl rfl (by kernel_rfl) (fun _ _ _ h=>h) (Or.inl ⟨by rfl, ?_⟩) ?_ ?_;rotate_left;(intro w';go_simp;with_reducible rfl);rotate_left;(simp only [Act.put,List.setIfInBounds_toArray,List.set_cons_zero,List.set_cons_succ,i64_w,i32_w];rfl);refine pure_ (i:=13) (N:=some 50) (v:=?_) (a':=?_) #[true,false,true,true,true,true,false,false,true,false,true,true,true,true,false,false,false,false,false,false] rfl rfl (by kernel_rfl) (fun _ _ _ h=>h) (Or.inl ⟨by rfl, ?_⟩) ?_ ?_;rotate_left;(intro w';go_simp;with_reducible rfl);rotate_left;(simp only [Act.put,List.setIfInBounds_toArray,List.set_cons_zero,List.set_cons_succ,i64_w,i32_w];rfl);refine take_ (i:=6) (N:=some 43) (v:=?_) (a':=?_) #[true,false,true,true,true,true,true,false,true,false,true,true,true,true,false,false,false,false,false,false] rfl rfl (by kernel_rfl) (fun _ _ _ h=>h) (Or.inl ⟨by rfl, ?_⟩) hHeld ?_ ?_;rotate_left;(rintro w' ⟨s0,s1,s2⟩;go_simp;with_reducible rfl);rotate_left;(simp only [Act.put,List.setIfInBounds_toArray,List.set_cons_zero,List.set_cons_succ,i64_w,i32_w];rfl);refine take_ (i:=9) (N:=some 46) (v:=?_) (a':=?_) #[true,false,true,true,true,true,true,false,true,true,true,true,true,true,false,false,false,false,false,false] rfl rfl (by kernel_rfl) (fun _ _ _ h=>h) (Or.inl ⟨by rfl, ?_⟩) hHeld ?_ ?_;rotate_left;(rintro w' ⟨s0,s1,s2⟩;go_simp;with_reducible rfl);rotate_left;(simp only [Act.put,List.setIfInBounds_toArray,List.set_cons_zero,List.set_cons_succ,i64_w,i32_w];rfl);refine take_ (i:=14) (N:=some 51) (v:=?_) (a':=?_) #[true,false,true,true,true,true,true,false,true,true,true,true,true,true,true,false,false,false,false,false] rfl rfl (by kernel_rfl) (fun _ _ _ h=>h) (Or.inl ⟨by rfl, ?_⟩) hHeld ?_ ?_;rotate_left;(rintro w' ⟨s0,s1,s2⟩;go_simp;with_reducible rfl);rotate_left;(simp only [Act.put,List.setIfInBounds_toArray,List.set_cons_zero,List.set_cons_succ,i64_w,i32_w];rfl);refine pure_ (i:=15) (N:=some 52) (v:=?_) (a':=?_) #[true,false,true,true,true,true,true,false,true,true,true,true,true,true,true,true,false,false,false,false] rfl rfl (by kernel_rfl) (fun _ _ _ h=>h) (Or.inl ⟨by rfl, ?_⟩) ?_ ?_;rotate_left;(intro w';go_simp;with_reducible rfl);rotate_left;(simp only [Act.put,List.setIfInBounds_toArray,List.set_cons_zero,List.set_cons_succ,i64_w,i32_w];rfl);refine one_ (i:=1) (N:=some 38) #[true,true,true,true,true,true,true,false,true,true,true,true,true,true,true,true,false,false,false,false] rfl rfl (by kernel_rfl) (by decide) (fun K hK=>?_)
   refine value_ (w1:=?_) (v:=?_) (by rfl) rfl ?_ ?_
   rotate_left 2
   ·go_simp
    constructor
    (rfl);(rfl)
   refine hK.out _ _ ⟨hHeld.1,hHeld.2.1,hHeld.2.2⟩ (fun hHeld=>?_)
   clear hK K;refine norm_ (a':=?_) ?_ ?_;rotate_left
   ·show Act.put _ (some 38) _ = _
    simp only [Act.put,List.setIfInBounds_toArray,List.set_cons_zero,List.set_cons_succ,i64_w,i32_w];rfl
   refine pure_ (i:=7) (N:=some 44) (v:=?_) (a':=?_) #[true,true,true,true,true,true,true,true,true,true,true,true,true,true,true,true,false,false,false,false] rfl rfl (by kernel_rfl) (fun _ _ _ h=>h) (Or.inl ⟨by rfl, ?_⟩) ?_ ?_;rotate_left;(intro w';go_simp;with_reducible rfl);rotate_left;(simp only [Act.put,List.setIfInBounds_toArray,List.set_cons_zero,List.set_cons_succ,i64_w,i32_w];rfl);refine pure_ (i:=16) (N:=some 53) (v:=?_) (a':=?_) #[true,true,true,true,true,true,true,true,true,true,true,true,true,true,true,true,true,false,false,false] rfl rfl (by kernel_rfl) (fun _ _ _ h=>h) (Or.inl ⟨by rfl, ?_⟩) ?_ ?_;rotate_left;(intro w';go_simp;with_reducible rfl);rotate_left;(simp only [Act.put,List.setIfInBounds_toArray,List.set_cons_zero,List.set_cons_succ,i64_w,i32_w];rfl);refine one_ (i:=17) (N:=none) #[true,true,true,true,true,true,true,true,true,true,true,true,true,true,true,true,true,true,false,false] rfl rfl (by kernel_rfl) (by decide) (fun K hK=>?_)
   refine skip_ (w1:=?_) (by rfl) rfl ?_ ?_
   rotate_left;(go_simp;rfl)
   refine hK.out _ _ ⟨(setCell_ne _ (by simp) hHeld.1),(setCell_ne _ hadc hHeld.2.1),(setCell_ne _ hadc2 hHeld.2.2)⟩ (fun hHeld=>?_)
   clear hK K;refine pure_ (i:=18) (N:=some 54) (v:=?_) (a':=?_) #[true,true,true,true,true,true,true,true,true,true,true,true,true,true,true,true,true,true,true,false] rfl rfl (by kernel_rfl) (fun _ _ _ h=>h) (Or.inl ⟨by rfl, ?_⟩) ?_ ?_;rotate_left;(intro w';go_simp;with_reducible rfl);rotate_left;(simp only [Act.put,List.setIfInBounds_toArray,List.set_cons_zero,List.set_cons_succ,i64_w,i32_w];rfl)
   refine last_ (i:=19) (N:=none) #[true,true,true,true,true,true,true,true,true,true,true,true,true,true,true,true,true,true,true,true] rfl rfl (by kernel_rfl) (by decide) (fun K hK=>?_)
   refine skip_ (w1:=?_) (by rfl) rfl ?_ ?_
   rotate_left;(go_simp;rfl)
   refine hK.out _ _ ?_
   clear hK K
   refine done_ (by kernel_rfl) ?_
   have X4:=X3.out.putHi (if y0 < x0 then x0 else y0) (if y1 < x1 then x1 else y1);clear hHeld k0 k1 kf kf1 X3 d0 d1
   have HX4 : Aside (BW w ((W2.setCell ⟨b5,0,none⟩ (.int .i64 (if y0 < x0 then x0 else y0))).setCell ⟨b5,1,none⟩ (.int .i64 (if y1 < x1 then x1 else y1))).drew b2 b3 b4 b5 (bF l (n + 1))):=by rw [HE.out];exact X4
   clear X4;generalize ((W2.setCell ⟨b5,0,none⟩ (.int .i64 (if y0 < x0 then x0 else y0))).setCell ⟨b5,1,none⟩ (.int .i64 (if y1 < x1 then x1 else y1))).drew = W3 at HX4 ⊢;generalize (if x0 < v0 then x0 else v0) = z1;generalize (if x1 < v1 then x1 else v1) = z2;generalize (if y0 < x0 then x0 else y0) = z3;generalize (if y1 < x1 then x1 else y1) = z4
   go_wp2
   go_roundg (l.length - (n + 1))
   case measure=>omega
   case rel=>exact ⟨n + 1,by omega,by omega,by omega,by go_num,HX4⟩
  ·obtain rfl : n = l.length:=by omega
   obtain ⟨⟨p0,p1,q0,q1⟩,hs⟩ : ∃ s : B4,bF l l.length = s:=⟨_,rfl⟩
   rw [hs] at X;have HS:=aside hs;clear hs
   have m0 : wr.cell? ⟨b4,0,none⟩ = some (.int .i64 p0):=by rw [cell_of_row wr b4 0 _ _ _ X.out.lo];rfl
   have m1 : wr.cell? ⟨b4,1,none⟩ = some (.int .i64 p1):=by rw [cell_of_row wr b4 1 _ _ _ X.out.lo];rfl
   have m2 : wr.cell? ⟨b5,0,none⟩ = some (.int .i64 q0):=by rw [cell_of_row wr b5 0 _ _ _ X.out.hi];rfl
   have m3 : wr.cell? ⟨b5,1,none⟩ = some (.int .i64 q1):=by rw [cell_of_row wr b5 1 _ _ _ X.out.hi];rfl
   obtain ⟨n45,n23,n24',n25',n34,n35⟩ := X.out.ne;have n24 : (⟨b4,0,none⟩ : Addr).block ≠ b2:=Ne.symm n24';have n25 : (⟨b5,0,none⟩ : Addr).block ≠ b2:=Ne.symm n25';have n24b : (⟨b4,1,none⟩ : Addr).block ≠ b2:=Ne.symm n24';have n25b : (⟨b5,1,none⟩ : Addr).block ≠ b2:=Ne.symm n25';have n32 : b3 ≠ b2:=Ne.symm n23;have r2:=X.out.r2;have r3:=X.out.r3
   go_upto_region 7 with fail
   refine start_ (n:=14) (S:=fun w'=>w'.cell? ⟨b4,0,none⟩ = some (.int .i64 p0) ∧ w'.cell? ⟨b4,1,none⟩ = some (.int .i64 p1) ∧ w'.cell? ⟨b5,0,none⟩ = some (.int .i64 q0) ∧ w'.cell? ⟨b5,1,none⟩ = some (.int .i64 q1)) (ds:=[13]) #[false,false,false,false,false,false,false,false,false,false,false,false,false,false] (by kernel_rfl) rfl rfl ⟨(show wr.drew.cell? _ = _ from m0),(show wr.drew.cell? _ = _ from m1),(show wr.drew.cell? _ = _ from m2),(show wr.drew.cell? _ = _ from m3)⟩ (fun hHeld=>?_)
   refine pure_ (i:=1) (N:=some 56) (v:=?_) (a':=?_) #[false,true,false,false,false,false,false,false,false,false,false,false,false,false] rfl rfl (by kernel_rfl) (fun _ _ _ h=>h) (Or.inl ⟨by rfl, ?_⟩) ?_ ?_;rotate_left;(intro w';go_simp;with_reducible rfl);rotate_left;(simp only [Act.put,List.setIfInBounds_toArray,List.set_cons_zero,List.set_cons_succ,i64_w,i32_w];rfl);refine pure_ (i:=3) (N:=some 58) (v:=?_) (a':=?_) #[false,true,false,true,false,false,false,false,false,false,false,false,false,false] rfl rfl (by kernel_rfl) (fun _ _ _ h=>h) (Or.inl ⟨by rfl, ?_⟩) ?_ ?_;rotate_left;(intro w';go_simp;with_reducible rfl);rotate_left;(simp only [Act.put,List.setIfInBounds_toArray,List.set_cons_zero,List.set_cons_succ,i64_w,i32_w];rfl);refine pure_ (i:=6) (N:=some 61) (v:=?_) (a':=?_) #[false,true,false,true,false,false,true,false,false,false,false,false,false,false] rfl rfl (by kernel_rfl) (fun _ _ _ h=>h) (Or.inl ⟨by rfl, ?_⟩) ?_ ?_;rotate_left;(intro w';go_simp;with_reducible rfl);rotate_left;(simp only [Act.put,List.setIfInBounds_toArray,List.set_cons_zero,List.set_cons_succ,i64_w,i32_w];rfl);refine pure_ (i:=8) (N:=some 63) (v:=?_) (a':=?_) #[false,true,false,true,false,false,true,false,true,false,false,false,false,false] rfl rfl (by kernel_rfl) (fun _ _ _ h=>h) (Or.inl ⟨by rfl, ?_⟩) ?_ ?_;rotate_left;(intro w';go_simp;with_reducible rfl);rotate_left;(simp only [Act.put,List.setIfInBounds_toArray,List.set_cons_zero,List.set_cons_succ,i64_w,i32_w];rfl);refine take_ (i:=0) (N:=some 55) (v:=?_) (a':=?_) #[true,true,false,true,false,false,true,false,true,false,false,false,false,false] rfl rfl (by kernel_rfl) (fun _ _ _ h=>h) (Or.inl ⟨by rfl, ?_⟩) hHeld ?_ ?_;rotate_left;(rintro w' ⟨s0,s1,s2,s3⟩;go_simp;with_reducible rfl);rotate_left;(simp only [Act.put,List.setIfInBounds_toArray,List.set_cons_zero,List.set_cons_succ,i64_w,i32_w];rfl);refine take_ (i:=2) (N:=some 57) (v:=?_) (a':=?_) #[true,true,true,true,false,false,true,false,true,false,false,false,false,false] rfl rfl (by kernel_rfl) (fun _ _ _ h=>h) (Or.inl ⟨by rfl, ?_⟩) hHeld ?_ ?_;rotate_left;(rintro w' ⟨s0,s1,s2,s3⟩;go_simp;with_reducible rfl);rotate_left;(simp only [Act.put,List.setIfInBounds_toArray,List.set_cons_zero,List.set_cons_succ,i64_w,i32_w];rfl);refine take_ (i:=4) (N:=some 59) (v:=?_) (a':=?_) #[true,true,true,true,true,false,true,false,true,false,false,false,false,false] rfl rfl (by kernel_rfl) (fun _ _ _ h=>h) (Or.inl ⟨by rfl, ?_⟩) hHeld ?_ ?_;rotate_left;(rintro w' ⟨s0,s1,s2,s3⟩;go_simp;with_reducible rfl);rotate_left;(simp only [Act.put,List.setIfInBounds_toArray,List.set_cons_zero,List.set_cons_succ,i64_w,i32_w];rfl);refine pure_ (i:=5) (N:=some 60) (v:=?_) (a':=?_) #[true,true,true,true,true,true,true,false,true,false,false,false,false,false] rfl rfl (by kernel_rfl) (fun _ _ _ h=>h) (Or.inl ⟨by rfl, ?_⟩) ?_ ?_;rotate_left;(intro w';go_simp;with_reducible rfl);rotate_left;(simp only [Act.put,List.setIfInBounds_toArray,List.set_cons_zero,List.set_cons_succ,i64_w,i32_w];rfl);refine take_ (i:=7) (N:=some 62) (v:=?_) (a':=?_) #[true,true,true,true,true,true,true,true,true,false,false,false,false,false] rfl rfl (by kernel_rfl) (fun _ _ _ h=>h) (Or.inl ⟨by rfl, ?_⟩) hHeld ?_ ?_;rotate_left;(rintro w' ⟨s0,s1,s2,s3⟩;go_simp;with_reducible rfl);rotate_left;(simp only [Act.put,List.setIfInBounds_toArray,List.set_cons_zero,List.set_cons_succ,i64_w,i32_w];rfl);refine take_ (i:=9) (N:=some 64) (v:=?_) (a':=?_) #[true,true,true,true,true,true,true,true,true,true,false,false,false,false] rfl rfl (by kernel_rfl) (fun _ _ _ h=>h) (Or.inl ⟨by rfl, ?_⟩) hHeld ?_ ?_;rotate_left;(rintro w' ⟨s0,s1,s2,s3⟩;go_simp;with_reducible rfl);rotate_left;(simp only [Act.put,List.setIfInBounds_toArray,List.set_cons_zero,List.set_cons_succ,i64_w,i32_w];rfl);refine pure_ (i:=10) (N:=some 65) (v:=?_) (a':=?_) #[true,true,true,true,true,true,true,true,true,true,true,false,false,false] rfl rfl (by kernel_rfl) (fun _ _ _ h=>h) (Or.inl ⟨by rfl, ?_⟩) ?_ ?_;rotate_left;(intro w';go_simp;with_reducible rfl);rotate_left;(simp only [Act.put,List.setIfInBounds_toArray,List.set_cons_zero,List.set_cons_succ,i64_w,i32_w];rfl);refine pure_ (i:=11) (N:=some 66) (v:=?_) (a':=?_) #[true,true,true,true,true,true,true,true,true,true,true,true,false,false] rfl rfl (by kernel_rfl) (fun _ _ _ h=>h) (Or.inl ⟨by rfl, ?_⟩) ?_ ?_;rotate_left;(intro w';go_simp;with_reducible rfl);rotate_left;(simp only [Act.put,List.setIfInBounds_toArray,List.set_cons_zero,List.set_cons_succ,i64_w,i32_w];rfl);refine one_ (i:=12) (N:=none) #[true,true,true,true,true,true,true,true,true,true,true,true,true,false] rfl rfl (by kernel_rfl) (by decide) (fun K hK=>?_)
   refine skip_ (w1:=wr.drew.setRow b2 #[.int .i64 p0,.int .i64 p1]) (by rfl) rfl ?_ ?_
   (exact store_row_run 31 _ _ rfl rfl rfl (store31 _ b2 _ _ r2))
   refine hK.out _ _ ⟨((cell_setRow_other _ _ _ _ n24).trans hHeld.1),((cell_setRow_other _ _ _ _ n24b).trans hHeld.2.1),((cell_setRow_other _ _ _ _ n25).trans hHeld.2.2.1),((cell_setRow_other _ _ _ _ n25b).trans hHeld.2.2.2)⟩ (fun hHeld=>?_)
   clear hK K
   refine last_ (i:=13) (N:=none) #[true,true,true,true,true,true,true,true,true,true,true,true,true,true] rfl rfl (by kernel_rfl) (by decide) (fun K hK=>?_)
   refine skip_ (w1:=(wr.drew.setRow b2 #[.int .i64 p0,.int .i64 p1]).setRow b3 #[.int .i64 (wrap64 (q0 - p0)),.int .i64 (wrap64 (q1 - p1))]) (by rfl) rfl ?_ ?_
   (exact store_row_run 31 _ _ rfl rfl rfl (store31 _ b3 _ _ ((setRow_other _ _ _ _ n32).trans r3)))
   refine hK.out _ _ ?_
   clear hK K
   refine done_ (by kernel_rfl) ?_
   have hBe : Below w.heap.size w ((wr.drew.setRow b2 #[.int .i64 p0,.int .i64 p1]).setRow b3 #[.int .i64 (wrap64 (q0 - p0)),.int .i64 (wrap64 (q1 - p1))]):=below_row (below_row (below_dr X.out.below) X.out.ge.1 _) X.out.ge.2.1 _;have e2 : ((wr.drew.setRow b2 #[.int .i64 p0,.int .i64 p1]).setRow b3 #[.int .i64 (wrap64 (q0 - p0)),.int .i64 (wrap64 (q1 - p1))]).heap[b2]? = some (.cells #[.int .i64 p0,.int .i64 p1] 31):=(setRow_other _ _ _ _ n23).trans (setRow_heap _ _ _ _ _ _ r2);have e3 : ((wr.drew.setRow b2 #[.int .i64 p0,.int .i64 p1]).setRow b3 #[.int .i64 (wrap64 (q0 - p0)),.int .i64 (wrap64 (q1 - p1))]).heap[b3]? = some (.cells #[.int .i64 (wrap64 (q0 - p0)),.int .i64 (wrap64 (q1 - p1))] 31):=setRow_heap _ _ _ _ _ _ ((setRow_other _ _ _ _ n32).trans r3);clear hHeld r2 r3 m0 m1 m2 m3;generalize ((wr.drew.setRow b2 #[.int .i64 p0,.int .i64 p1]).setRow b3 #[.int .i64 (wrap64 (q0 - p0)),.int .i64 (wrap64 (q1 - p1))]) = Z at hBe e2 e3 ⊢
   have z0 : Z.cell? ⟨b2,0,none⟩ = some (.int .i64 p0):=by rw [cell_of_row Z b2 0 _ _ _ e2];rfl
   have z1 : Z.cell? ⟨b2,1,none⟩ = some (.int .i64 p1):=by rw [cell_of_row Z b2 1 _ _ _ e2];rfl
   have z2 : Z.cell? ⟨b3,0,none⟩ = some (.int .i64 (wrap64 (q0 - p0))):=by rw [cell_of_row Z b3 0 _ _ _ e3];rfl
   have z3 : Z.cell? ⟨b3,1,none⟩ = some (.int .i64 (wrap64 (q1 - p1))):=by rw [cell_of_row Z b3 1 _ _ _ e3];rfl
   clear e2 e3
   go_wp2
   exact bodyPost_ret (v:=.tuple #[.agg #[.int .i64 p0,.int .i64 p1],.agg #[.int .i64 (wrap64 (q0 - p0)),.int .i64 (wrap64 (q1 - p1))]]) (by simp [results,Try.results18,go_sem,z0,z1,z2,z3]) rfl ⟨by rw [HS.out],by rw [← hb2];exact hBe⟩
def gangsawref39_Bounds.f (l0 : List S31) : Option (Int × Int × Int × Int):=if 0 < l0.length ∧ l0.length ≤ 1000000 then some ((bF l0 l0.length).1,(bF l0 l0.length).2.1,wrap64 ((bF l0 l0.length).2.2.1 - (bF l0 l0.length).1),wrap64 ((bF l0 l0.length).2.2.2 - (bF l0 l0.length).2.1)) else none
theorem gangsawref39_Bounds.calls (A0 : Option Addr) (c0 : Nat) (l0 : List (S31)) (r1 : Int) (r2 : Int) (r3 : Int) (r4 : Int) (w : World) (hr0 : Kd.C k31 w A0 l0.length l0) (hc0 : l0.length ≤ c0) (h : gangsawref39_Bounds.f l0 = some (r1, r2, r3, r4)) :
  Calls Try.prog 18 #[.slice A0 l0.length c0] w fun e w'=>e = .returned (.tuple #[.agg #[.int .i64 r1,.int .i64 r2],.agg #[.int .i64 r3,.int .i64 r4]]) ∧ Below w.heap.size w w':=by
 unfold gangsawref39_Bounds.f at h
 split at h
 (obtain ⟨h0,hl⟩ := ‹0 < l0.length ∧ l0.length ≤ 1000000›;have h:=Option.some.inj h;simp only [Prod.mk.injEq] at h;obtain ⟨rfl,rfl,rfl,rfl⟩ := h;exact refBounds_any A0 c0 l0 w hr0 hl h0)
 ·cases h
end Go.Proofs.Ytnjikioimompnaa.PA
