import Derived.Test.YtdnjagfbhppmbaaGj
import Derived.StillTailTactics
namespace Go.Proofs.Ytdnjagfbhppmbaa.PA
open Go.RowKit Go.Shelf Go.Proofs.YtdnjagfbhppmbaaW.PrintWords Go.Proofs.YtdnjagfbhppmbaaW.PrintLast Go.Proofs.YtdnjagfbhppmbaaW.PrintMore
set_option linter.unusedVariables false
set_option linter.unusedSimpArgs false
attribute [local go_sem] max2_int min2_int max_two min_two max_three min_three max_four min_four
theorem own_form {w : World} {base e size n : Nat} {v : Value} {xs : List Value} (h : w.ownsRow base e size v n xs) : ∃ A c,v = .slice A n c:=by
 rcases h.2 with ⟨rfl,rfl⟩|⟨g,cap,cur,rfl,_⟩
 (exact ⟨_,_,rfl⟩);(exact ⟨_,_,rfl⟩)
set_option maxRecDepth 200000 in
set_option maxHeartbeats 8000000 in
theorem add_step (base g c1 c2 : Nat) (A1 A2 : Option Addr) (t : List (List Int)) (items : List S36) (kf : Int) (hgb : base ≤ g) (hm : items.length ≤ 9223372036854775806) (kf0 : 0 ≤ kf) (kf1 : kf ≤ 1000) (k : Nat) (ih : ∀ k',k' < k → AddOK base g c1 c2 A1 A2 t items kf k') : AddOK base g c1 c2 A1 A2 t items kf k:=by
 intro x y l w ns r W u lB wB ps hT hI hf
 cases k with
 | zero=>simp [gangsawref25_part.f] at hf
 | succ k =>
 obtain ⟨lA,lC,wA,wC,hor⟩ := part_step hf;clear hf
 obtain ⟨v,hv⟩ : ∃ v,rd (rd_L5 t l) w = v:=⟨_,rfl⟩
 rw [hv] at hor;obtain ⟨i0,hi0,hz0,hz1,hz2⟩ := info_parts info59;obtain ⟨adT,A0,c0,hA,q0,hc0,hC0⟩ := at_L5 (hT W (Kept.refl _ _)) l lA lC;obtain ⟨ad0,hA0,q1⟩ := Kd.at_int hC0 w wA wC;rw [hv] at q1;subst hA hA0;obtain ⟨Au,cu,rfl⟩ := own_form ps.own
 have g0 : W.cell? ⟨g,0,none⟩ = some (.slice (some adT) t.length c1):=by rw [cell_of_row W g 0 _ _ _ ps.blk];rfl
 have lg:=ps.lt;have PS0:=aside ps;have HT:=aside hT;have HI:=aside hI;have HC0:=aside hC0;have HV:=aside hv;have HOR:=aside hor;have IH:=aside ih;have HM:=aside hm;have k1:=eq_true lA;have k2:=eq_true lC;have k3:=eq_true wA;have k4:=eq_true wC;clear ps hT hI hC0 hv hor ih hm
 go_enter Try.func35,Try.ntmps35
 go_wp2_with fail
 refine start_ (n:=12) (S:=fun w'=>w'.cell? ⟨W.heap.size,0,none⟩ = some (.pointer (some ⟨g,0,none⟩)) ∧ w'.cell? ⟨W.heap.size + 1,0,none⟩ = some (.int .i64 l) ∧ w'.cell? ⟨W.heap.size + 2,0,none⟩ = some (.int .i64 w) ∧ w'.cell? ⟨g,0,none⟩ = some (.slice (some adT) t.length c1) ∧ w'.cell? (adT.add l.toNat) = some (.slice (some ad0) (rd_L5 t l).length c0) ∧ w'.cell? (ad0.add w.toNat) = some (.int .i64 v)) (ds:=[11]) #[false,false,false,false,false,false,false,false,false,false,false,false] (by kernel_rfl) rfl rfl ⟨(boxes3 W _ _ _ |>.1),(boxes3 W _ _ _ |>.2.1),(boxes3 W _ _ _ |>.2.2),(cell_kept g0 (Kept.alloc (Kept.alloc (Kept.alloc (Kept.refl _ (fun _=>False)) _) _) _) id),(cell_kept q0 (Kept.alloc (Kept.alloc (Kept.alloc (Kept.refl _ (fun _=>False)) _) _) _) id),(cell_kept q1 (Kept.alloc (Kept.alloc (Kept.alloc (Kept.refl _ (fun _=>False)) _) _) _) id)⟩ (fun hHeld=>?_)
 refine take_ (i:=0) (N:=some 16) (v:=?_) (a':=?_) #[true,false,false,false,false,false,false,false,false,false,false,false] rfl rfl (by kernel_rfl) (fun _ _ _ h=>h) (Or.inl ⟨by rfl, ?_⟩) hHeld ?_ ?_;rotate_left;(rintro w' ⟨s0,s1,s2,s3,s4,s5⟩;go_simp;with_reducible rfl);rotate_left;(simp only [Act.put,List.setIfInBounds_toArray,List.set_cons_zero,List.set_cons_succ,i64_w,i32_w];rfl);refine pure_ (i:=1) (N:=some 17) (v:=?_) (a':=?_) #[true,true,false,false,false,false,false,false,false,false,false,false] rfl rfl (by kernel_rfl) (fun _ _ _ h=>h) (Or.inl ⟨by rfl, ?_⟩) ?_ ?_;rotate_left;(intro w';go_simp;with_reducible rfl);rotate_left;(simp only [Act.put,List.setIfInBounds_toArray,List.set_cons_zero,List.set_cons_succ,i64_w,i32_w];rfl);refine pure_ (i:=2) (N:=some 18) (v:=?_) (a':=?_) #[true,true,true,false,false,false,false,false,false,false,false,false] rfl rfl (by kernel_rfl) (fun _ _ _ h=>h) (Or.inl ⟨by rfl, ?_⟩) ?_ ?_;rotate_left;(intro w';go_simp;with_reducible rfl);rotate_left;(simp only [Act.put,List.setIfInBounds_toArray,List.set_cons_zero,List.set_cons_succ,i64_w,i32_w];rfl);refine take_ (i:=3) (N:=some 19) (v:=?_) (a':=?_) #[true,true,true,true,false,false,false,false,false,false,false,false] rfl rfl (by kernel_rfl) (fun _ _ _ h=>h) (Or.inl ⟨by rfl, ?_⟩) hHeld ?_ ?_;rotate_left;(rintro w' ⟨s0,s1,s2,s3,s4,s5⟩;go_simp;with_reducible rfl);rotate_left;(simp only [Act.put,List.setIfInBounds_toArray,List.set_cons_zero,List.set_cons_succ,i64_w,i32_w];rfl);refine take_ (i:=4) (N:=some 20) (v:=?_) (a':=?_) #[true,true,true,true,true,false,false,false,false,false,false,false] rfl rfl (by kernel_rfl) (fun _ _ _ h=>h) (Or.inl ⟨by rfl, ?_⟩) hHeld ?_ ?_;rotate_left;(rintro w' ⟨s0,s1,s2,s3,s4,s5⟩;go_simp;with_reducible rfl);rotate_left;(simp only [Act.put,List.setIfInBounds_toArray,List.set_cons_zero,List.set_cons_succ,i64_w,i32_w];rfl);refine pure_ (i:=5) (N:=some 21) (v:=?_) (a':=?_) #[true,true,true,true,true,true,false,false,false,false,false,false] rfl rfl (by kernel_rfl) (fun _ _ _ h=>h) (Or.inl ⟨by rfl, ?_⟩) ?_ ?_;rotate_left;(intro w';go_simp;with_reducible rfl);rotate_left;(simp only [Act.put,List.setIfInBounds_toArray,List.set_cons_zero,List.set_cons_succ,i64_w,i32_w];rfl);refine take_ (i:=6) (N:=some 22) (v:=?_) (a':=?_) #[true,true,true,true,true,true,true,false,false,false,false,false] rfl rfl (by kernel_rfl) (fun _ _ _ h=>h) (Or.inl ⟨by rfl, ?_⟩) hHeld ?_ ?_;rotate_left;(rintro w' ⟨s0,s1,s2,s3,s4,s5⟩;go_simp;with_reducible rfl);rotate_left;(simp only [Act.put,List.setIfInBounds_toArray,List.set_cons_zero,List.set_cons_succ,i64_w,i32_w];rfl);refine take_ (i:=7) (N:=some 23) (v:=?_) (a':=?_) #[true,true,true,true,true,true,true,true,false,false,false,false] rfl rfl (by kernel_rfl) (fun _ _ _ h=>h) (Or.inl ⟨by rfl, ?_⟩) hHeld ?_ ?_;rotate_left;(rintro w' ⟨s0,s1,s2,s3,s4,s5⟩;go_simp;with_reducible rfl);rotate_left;(simp only [Act.put,List.setIfInBounds_toArray,List.set_cons_zero,List.set_cons_succ,i64_w,i32_w];rfl);refine pure_ (i:=8) (N:=some 24) (v:=?_) (a':=?_) #[true,true,true,true,true,true,true,true,true,false,false,false] rfl rfl (by kernel_rfl) (fun _ _ _ h=>h) (Or.inl ⟨by rfl, ?_⟩) ?_ ?_;rotate_left;(intro w';go_simp;with_reducible rfl);rotate_left;(simp only [Act.put,List.setIfInBounds_toArray,List.set_cons_zero,List.set_cons_succ,i64_w,i32_w];rfl);refine take_ (i:=9) (N:=some 25) (v:=?_) (a':=?_) #[true,true,true,true,true,true,true,true,true,true,false,false] rfl rfl (by kernel_rfl) (fun _ _ _ h=>h) (Or.inl ⟨by rfl, ?_⟩) hHeld ?_ ?_;rotate_left;(rintro w' ⟨s0,s1,s2,s3,s4,s5⟩;go_simp;with_reducible rfl);rotate_left;(simp only [Act.put,List.setIfInBounds_toArray,List.set_cons_zero,List.set_cons_succ,i64_w,i32_w];rfl);refine one_ (i:=10) (N:=some 10) #[true,true,true,true,true,true,true,true,true,true,true,false] rfl rfl (by kernel_rfl) (by decide) (fun K hK=>?_)
 refine value_ (w1:=?_) (v:=?_) (by rfl) rfl ?_ ?_
 rotate_left 2
 ·go_simp
  constructor
  (rfl);(rfl)
 refine hK.out _ _ ⟨(cell_kept (hHeld.1) (Kept.alloc (Kept.refl _ (fun _=>False)) _) (fun h=>h)),(cell_kept (hHeld.2.1) (Kept.alloc (Kept.refl _ (fun _=>False)) _) (fun h=>h)),(cell_kept (hHeld.2.2.1) (Kept.alloc (Kept.refl _ (fun _=>False)) _) (fun h=>h)),(cell_kept (hHeld.2.2.2.1) (Kept.alloc (Kept.refl _ (fun _=>False)) _) (fun h=>h)),(cell_kept (hHeld.2.2.2.2.1) (Kept.alloc (Kept.refl _ (fun _=>False)) _) (fun h=>h)),(cell_kept (hHeld.2.2.2.2.2) (Kept.alloc (Kept.refl _ (fun _=>False)) _) (fun h=>h))⟩ (fun hHeld=>?_)
 clear hK K;refine norm_ (a':=?_) ?_ ?_;rotate_left
 ·show Act.put _ (some 10) _ = _
  simp only [Act.put,List.setIfInBounds_toArray,List.set_cons_zero,List.set_cons_succ,i64_w,i32_w];rfl
 refine last_ (i:=11) (N:=none) #[true,true,true,true,true,true,true,true,true,true,true,true] rfl rfl (by kernel_rfl) (by decide) (fun K hK=>?_)
 refine skip_ (w1:=?_) (by rfl) rfl ?_ ?_
 rotate_left;(go_simp;rfl)
 refine hK.out _ _ ?_
 clear hK K
 refine done_ (by kernel_rfl) ?_
 have HA:=aw0 base g (.slice (some adT) t.length c1) (.slice A2 items.length c2) kf l w v W (.slice Au ns.length cu) ns PS0.out;generalize ((((W.alloc (.cells #[.pointer (some ⟨g,0,none⟩)] 63)).alloc (.cells #[.int .i64 l] 3)).alloc (.cells #[.int .i64 w] 3)).alloc (.cells #[.int .i64 v] 2)).drew = W1 at HA ⊢;clear hHeld q0 q1 g0;have f5:=HA.c5;have f8:=HA.c8;have f9:=HA.c9;have f10:=HA.c10
 have g3 : W1.cell? ⟨g,3,none⟩ = some (.slice Au ns.length cu):=by rw [cell_of_row W1 g 3 _ _ _ HA.ps.blk];rfl
 have g1 : W1.cell? ⟨g,1,none⟩ = some (.slice A2 items.length c2):=by rw [cell_of_row W1 g 1 _ _ _ HA.ps.blk];rfl
 rcases HOR.out with ⟨ev,hlen,hr⟩|⟨ev,h0⟩
 ·-- [[
  have gf : W1.frozen? ⟨g,3,none⟩ = false:=frozen_of_row W1 g 3 _ _ HA.ps.blk;have lg1:=HA.ps.lt;have l5:=HA.n5.2.1;have n5:=HA.n5.2.2;have ag:=HA.ps.ne;have ho:=aside HA.ps.own;have hbb:=aside HA.ps.hb;have HN:=aside hlen;have HR:=aside hr;have HA':=aside HA;subst ev;clear HA hlen hr f8 f9
  go_wp2_with fail
  refine start_ (n:=11) (S:=fun w'=>w'.cell? ⟨W.heap.size,0,none⟩ = some (.pointer (some ⟨g,0,none⟩)) ∧ w'.cell? ⟨g,3,none⟩ = some (.slice Au ns.length cu)) (ds:=[10]) #[false,false,false,false,false,false,false,false,false,false,false] (by kernel_rfl) rfl rfl ⟨f5,g3⟩ (fun hHeld=>?_)
  refine pure_ (i:=5) (N:=some 33) (v:=?_) (a':=?_) #[false,false,false,false,false,true,false,false,false,false,false] rfl rfl (by kernel_rfl) (fun _ _ _ h=>h) (Or.inl ⟨by rfl, ?_⟩) ?_ ?_;rotate_left;(intro w';go_simp;with_reducible rfl);rotate_left;(simp only [Act.put,List.setIfInBounds_toArray,List.set_cons_zero,List.set_cons_succ,i64_w,i32_w];rfl);refine take_ (i:=0) (N:=some 28) (v:=?_) (a':=?_) #[true,false,false,false,false,true,false,false,false,false,false] rfl rfl (by kernel_rfl) (fun _ _ _ h=>h) (Or.inl ⟨by rfl, ?_⟩) hHeld ?_ ?_;rotate_left;(rintro w' ⟨s0,s1⟩;go_simp;with_reducible rfl);rotate_left;(simp only [Act.put,List.setIfInBounds_toArray,List.set_cons_zero,List.set_cons_succ,i64_w,i32_w];rfl);refine take_ (i:=1) (N:=some 29) (v:=?_) (a':=?_) #[true,true,false,false,false,true,false,false,false,false,false] rfl rfl (by kernel_rfl) (fun _ _ _ h=>h) (Or.inl ⟨by rfl, ?_⟩) hHeld ?_ ?_;rotate_left;(rintro w' ⟨s0,s1⟩;go_simp;with_reducible rfl);rotate_left;(simp only [Act.put,List.setIfInBounds_toArray,List.set_cons_zero,List.set_cons_succ,i64_w,i32_w];rfl);refine pure_ (i:=2) (N:=some 30) (v:=?_) (a':=?_) #[true,true,true,false,false,true,false,false,false,false,false] rfl rfl (by kernel_rfl) (fun _ _ _ h=>h) (Or.inl ⟨by rfl, ?_⟩) ?_ ?_;rotate_left;(intro w';go_simp;with_reducible rfl);rotate_left;(simp only [Act.put,List.setIfInBounds_toArray,List.set_cons_zero,List.set_cons_succ,i64_w,i32_w];rfl);refine pure_ (i:=3) (N:=some 31) (v:=?_) (a':=?_) #[true,true,true,true,false,true,false,false,false,false,false] rfl rfl (by kernel_rfl) (fun _ _ _ h=>h) (Or.inl ⟨by rfl, ?_⟩) ?_ ?_;rotate_left;(intro w';go_simp;with_reducible rfl);rotate_left;(simp only [Act.put,List.setIfInBounds_toArray,List.set_cons_zero,List.set_cons_succ,i64_w,i32_w];rfl);refine take_ (i:=4) (N:=some 32) (v:=?_) (a':=?_) #[true,true,true,true,true,true,false,false,false,false,false] rfl rfl (by kernel_rfl) (fun _ _ _ h=>h) (Or.inl ⟨by rfl, ?_⟩) hHeld ?_ ?_;rotate_left;(rintro w' ⟨s0,s1⟩;go_simp;with_reducible rfl);rotate_left;(simp only [Act.put,List.setIfInBounds_toArray,List.set_cons_zero,List.set_cons_succ,i64_w,i32_w];rfl);refine one_ (i:=6) (N:=some 34) #[true,true,true,true,true,true,true,false,false,false,false] rfl rfl (by kernel_rfl) (by decide) (fun K hK=>?_)
  refine value_ (w1:=?_) (v:=?_) (by rfl) rfl ?_ ?_
  rotate_left 2
  ·go_simp
   constructor
   (rfl);(rfl)
  refine hK.out _ _ ⟨(cell_kept (hHeld.1) (Kept.alloc (Kept.refl _ (fun _=>False)) _) (fun h=>h)),(cell_kept (hHeld.2) (Kept.alloc (Kept.refl _ (fun _=>False)) _) (fun h=>h))⟩ (fun hHeld=>?_)
  clear hK K;refine norm_ (a':=?_) ?_ ?_;rotate_left
  ·show Act.put _ (some 34) _ = _
   simp only [Act.put,List.setIfInBounds_toArray,List.set_cons_zero,List.set_cons_succ,i64_w,i32_w];rfl
  refine one_ (i:=7) (N:=some 35) #[true,true,true,true,true,true,true,true,false,false,false] rfl rfl (by kernel_rfl) (by decide) (fun K hK=>?_)
  refine step_append_lies _ (by rfl) _ _ _ (by rfl) base 59 i0 _ 7 64 Try.underlying27 hi0 hz0 hz1 hz2 rfl (by omega) (.slice Au ns.length cu) _ _ (by rfl) (ho.out.alloc _) ⟨W1.heap.size,0,none⟩ 1 1 (c59 (⟨0,⟨#[]⟩,0,0,0,0,0⟩ : S59)) (by rfl) (by rfl) (World.news_of_block (cs:=#[.int .i64 0,.string ⟨#[]⟩,.int .i64 0,.int .i64 0,.int .i64 0,.int .i64 0,.int .i64 0]) (t:=59) (fr:=(0,0)) (heap_alloc_new W1 _)) (by simp [c59,Value.oneCell']) (by omega) (by have:=HN.out;simp [maxLen];omega) (by have:=HN.out;omega) (by have:=hbb.out;simp;omega) (W1.heap.size + 1) (by simp) ?_
  intro gg cap w1 hown1 hgrow hat hlt;have gf1 : w1.frozen? ⟨g,3,none⟩ = false:=(hgrow.frozen_far _ (by simp;omega) (Ne.symm ag)).trans (frz_alloc gf lg1 _)
  refine hK.out _ _ ⟨((hgrow.cell_far _ (by simp;omega) (Ne.symm n5)).trans (hHeld.1)),((hgrow.cell_far _ (by simp;omega) (Ne.symm ag)).trans (hHeld.2))⟩ (fun hHeld=>?_)
  clear hK K;refine norm_ (a':=?_) ?_ ?_;rotate_left
  ·show Act.put _ (some 35) _ = _
   simp only [Act.put,List.setIfInBounds_toArray,List.set_cons_zero,List.set_cons_succ,i64_w,i32_w];rfl
  refine pure_ (i:=8) (N:=some 36) (v:=?_) (a':=?_) #[true,true,true,true,true,true,true,true,true,false,false] rfl rfl (by kernel_rfl) (fun _ _ _ h=>h) (Or.inl ⟨by rfl, ?_⟩) ?_ ?_;rotate_left;(intro w';go_simp;with_reducible rfl);rotate_left;(simp only [Act.put,List.setIfInBounds_toArray,List.set_cons_zero,List.set_cons_succ,i64_w,i32_w];rfl);refine pure_ (i:=9) (N:=some 37) (v:=?_) (a':=?_) #[true,true,true,true,true,true,true,true,true,true,false] rfl rfl (by kernel_rfl) (fun _ _ _ h=>h) (Or.inl ⟨by rfl, ?_⟩) ?_ ?_;rotate_left;(intro w';go_simp;with_reducible rfl);rotate_left;(simp only [Act.put,List.setIfInBounds_toArray,List.set_cons_zero,List.set_cons_succ,i64_w,i32_w];rfl)
  refine last_ (i:=10) (N:=none) #[true,true,true,true,true,true,true,true,true,true,true] rfl rfl (by kernel_rfl) (by decide) (fun K hK=>?_)
  refine skip_ (w1:=?_) (by rfl) rfl ?_ ?_
  rotate_left;(go_simp;rfl)
  refine hK.out _ _ ?_
  clear hK K
  refine done_ (by kernel_rfl) ?_
  go_wp2
  (try simp only [Exit.inBlock,Exit.then])
  refine bodyPost_ret (results_none rfl _ _ _) rfl ?_
  have hown2 : w1.ownsRow base 59 7 (.slice (some ⟨gg,0,none⟩) (ns.length + 1) cap) r.length (rows59 r):=by
   rw [HR.out,List.length_append,rows59_snoc];exact hown1
  obtain ⟨hg2,hat2⟩ := grown_alloc hgrow hat;have hp:=HA'.out.ps.put hown2 hg2;exact ⟨rfl,_,hp,(HA'.out.step hp (HA'.out.ps.stp hg2 hat2)).done⟩
  -- ]]
 ·have hidx := idx55 (fits l w v) 56 #[.pointer (some ⟨W.heap.size + 1, 0, none⟩), .pointer (some ⟨W.heap.size + 1 + 1, 0, none⟩), .pointer (some ⟨W.heap.size + 1 + 1 + 1, 0, none⟩)] eg56 A2 c2 items W1 (HI.out _ HA.fr)
   (fun W' x _ hb=>c56_any x l w v _ _ _ W' (HA.quiet hb).c8 (HA.quiet hb).c9 (HA.quiet hb).c10 (HA.quiet hb).n8.2.1 (HA.quiet hb).n9.2.1 (HA.quiet hb).n10.2.1)
  have bv : (v == 0) = false:=by simpa using ev
  rcases l0_steps HM.out k 0 h0 (Nat.zero_le _) (fun j _ hj=>absurd hj (Nat.not_lt_zero _)) with ⟨j,hj,hji,hlen,hr⟩|⟨hji,k',hk',h1⟩
  ·-- [[
   rw [hji] at hidx;have HIX:=aside hidx;have HN:=aside hlen;have HR:=aside hr;have HA':=aside HA;have hj1 : ((j : Int) < (items.length : Int)) = True:=eq_true (by omega);have hj2 : (0 ≤ (j : Int)) = True:=eq_true (by omega);have HJ:=aside hj;clear hidx hlen hr HA ev h0 hji f8 f9
   go_wp2_with (go_at_call 55;refine HIX.out.mono ?_;rintro e w2 ⟨rfl,hb⟩)
   have HB:=HA'.out.quiet hb;clear HA' f5 f10 g1 g3;obtain ⟨adI,hAI,qn,-⟩ := at_T36 (HI.out w2 HB.fr) (j : Int) (of_eq_true hj2) (of_eq_true hj1)
   have hx : rd_T36 items (j : Int) = items[j]'HJ.out:=by unfold rd_T36;simp [List.getD,HJ.out]
   rw [hx] at qn;have hr:=HR.out;clear HR
   obtain ⟨nm,hnm⟩ : ∃ nm,(items[j]'HJ.out).f0 = nm:=⟨_,rfl⟩
   rw [hnm] at qn hr;subst hAI;simp only [Int.toNat_natCast] at qn;have f5:=HB.c5
   have g3 : w2.cell? ⟨g,3,none⟩ = some (.slice Au ns.length cu):=by rw [cell_of_row w2 g 3 _ _ _ HB.ps.blk];rfl
   have g1 : w2.cell? ⟨g,1,none⟩ = some (.slice (some adI) items.length c2):=by rw [cell_of_row w2 g 1 _ _ _ HB.ps.blk];rfl
   have gf : w2.frozen? ⟨g,3,none⟩ = false:=frozen_of_row w2 g 3 _ _ HB.ps.blk;have lg1:=HB.ps.lt;have l5:=HB.n5.2.1;have n5:=HB.n5.2.2;have ag:=HB.ps.ne;have ho:=aside HB.ps.own;have hbb:=aside HB.ps.hb
   have nI : (Value.slice Au ns.length cu).ownBlock ≠ some (adI.add (j * 7)).block:=by
    have:=Kd.foot_neS (HB.reads HI.out) (by have:=HJ.out;omega) (by decide)
    have e : (adI.add (j * 7)).block = adI.block:=by unfold Addr.add;split <;> rfl
    rw [e];intro hc;exact this (.inr hc.symm)
   have lI : (adI.add (j * 7)).block < w2.heap.size:=World.block_lt_of_cell? w2 _ qn;have HR:=aside hr;have HB':=aside HB;clear hr HB hx hnm hb
   go_wp2_with fail
   refine start_ (n:=19) (S:=fun w'=>w'.cell? ⟨W.heap.size,0,none⟩ = some (.pointer (some ⟨g,0,none⟩)) ∧ w'.cell? ⟨g,3,none⟩ = some (.slice Au ns.length cu) ∧ w'.cell? ⟨g,1,none⟩ = some (.slice (some adI) items.length c2) ∧ w'.cell? (adI.add (j * 7)) = some (.string nm)) (ds:=[18]) #[false,false,false,false,false,false,false,false,false,false,false,false,false,false,false,false,false,false,false] (by kernel_rfl) rfl rfl ⟨f5,g3,g1,qn⟩ (fun hHeld=>?_)
   refine pure_ (i:=9) (N:=some 55) (v:=?_) (a':=?_) #[false,false,false,false,false,false,false,false,false,true,false,false,false,false,false,false,false,false,false] rfl rfl (by kernel_rfl) (fun _ _ _ h=>h) (Or.inl ⟨by rfl, ?_⟩) ?_ ?_;rotate_left;(intro w';go_simp;with_reducible rfl);rotate_left;(simp only [Act.put,List.setIfInBounds_toArray,List.set_cons_zero,List.set_cons_succ,i64_w,i32_w];rfl);refine take_ (i:=0) (N:=some 46) (v:=?_) (a':=?_) #[true,false,false,false,false,false,false,false,false,true,false,false,false,false,false,false,false,false,false] rfl rfl (by kernel_rfl) (fun _ _ _ h=>h) (Or.inl ⟨by rfl, ?_⟩) hHeld ?_ ?_;rotate_left;(rintro w' ⟨s0,s1,s2,s3⟩;go_simp;with_reducible rfl);rotate_left;(simp only [Act.put,List.setIfInBounds_toArray,List.set_cons_zero,List.set_cons_succ,i64_w,i32_w];rfl);refine take_ (i:=1) (N:=some 47) (v:=?_) (a':=?_) #[true,true,false,false,false,false,false,false,false,true,false,false,false,false,false,false,false,false,false] rfl rfl (by kernel_rfl) (fun _ _ _ h=>h) (Or.inl ⟨by rfl, ?_⟩) hHeld ?_ ?_;rotate_left;(rintro w' ⟨s0,s1,s2,s3⟩;go_simp;with_reducible rfl);rotate_left;(simp only [Act.put,List.setIfInBounds_toArray,List.set_cons_zero,List.set_cons_succ,i64_w,i32_w];rfl);refine pure_ (i:=2) (N:=some 48) (v:=?_) (a':=?_) #[true,true,true,false,false,false,false,false,false,true,false,false,false,false,false,false,false,false,false] rfl rfl (by kernel_rfl) (fun _ _ _ h=>h) (Or.inl ⟨by rfl, ?_⟩) ?_ ?_;rotate_left;(intro w';go_simp;with_reducible rfl);rotate_left;(simp only [Act.put,List.setIfInBounds_toArray,List.set_cons_zero,List.set_cons_succ,i64_w,i32_w];rfl);refine pure_ (i:=3) (N:=some 49) (v:=?_) (a':=?_) #[true,true,true,true,false,false,false,false,false,true,false,false,false,false,false,false,false,false,false] rfl rfl (by kernel_rfl) (fun _ _ _ h=>h) (Or.inl ⟨by rfl, ?_⟩) ?_ ?_;rotate_left;(intro w';go_simp;with_reducible rfl);rotate_left;(simp only [Act.put,List.setIfInBounds_toArray,List.set_cons_zero,List.set_cons_succ,i64_w,i32_w];rfl);refine take_ (i:=4) (N:=some 50) (v:=?_) (a':=?_) #[true,true,true,true,true,false,false,false,false,true,false,false,false,false,false,false,false,false,false] rfl rfl (by kernel_rfl) (fun _ _ _ h=>h) (Or.inl ⟨by rfl, ?_⟩) hHeld ?_ ?_;rotate_left;(rintro w' ⟨s0,s1,s2,s3⟩;go_simp;with_reducible rfl);rotate_left;(simp only [Act.put,List.setIfInBounds_toArray,List.set_cons_zero,List.set_cons_succ,i64_w,i32_w];rfl);refine take_ (i:=5) (N:=some 51) (v:=?_) (a':=?_) #[true,true,true,true,true,true,false,false,false,true,false,false,false,false,false,false,false,false,false] rfl rfl (by kernel_rfl) (fun _ _ _ h=>h) (Or.inl ⟨by rfl, ?_⟩) hHeld ?_ ?_;rotate_left;(rintro w' ⟨s0,s1,s2,s3⟩;go_simp;with_reducible rfl);rotate_left;(simp only [Act.put,List.setIfInBounds_toArray,List.set_cons_zero,List.set_cons_succ,i64_w,i32_w];rfl);refine pure_ (i:=6) (N:=some 52) (v:=?_) (a':=?_) #[true,true,true,true,true,true,true,false,false,true,false,false,false,false,false,false,false,false,false] rfl rfl (by kernel_rfl) (fun _ _ _ h=>h) (Or.inl ⟨by rfl, ?_⟩) ?_ ?_;rotate_left;(intro w';go_simp;with_reducible rfl);rotate_left;(simp only [Act.put,List.setIfInBounds_toArray,List.set_cons_zero,List.set_cons_succ,i64_w,i32_w];rfl);refine pure_ (i:=7) (N:=some 53) (v:=?_) (a':=?_) #[true,true,true,true,true,true,true,true,false,true,false,false,false,false,false,false,false,false,false] rfl rfl (by kernel_rfl) (fun _ _ _ h=>h) (Or.inl ⟨by rfl, ?_⟩) ?_ ?_;rotate_left;(intro w';go_simp;with_reducible rfl);rotate_left;(simp only [Act.put,List.setIfInBounds_toArray,List.set_cons_zero,List.set_cons_succ,i64_w,i32_w];rfl);refine take_ (i:=8) (N:=some 54) (v:=?_) (a':=?_) #[true,true,true,true,true,true,true,true,true,true,false,false,false,false,false,false,false,false,false] rfl rfl (by kernel_rfl) (fun _ _ _ h=>h) (Or.inl ⟨by rfl, ?_⟩) hHeld ?_ ?_;rotate_left;(rintro w' ⟨s0,s1,s2,s3⟩;go_simp;with_reducible rfl);rotate_left;(simp only [Act.put,List.setIfInBounds_toArray,List.set_cons_zero,List.set_cons_succ,i64_w,i32_w];rfl);refine pure_ (i:=10) (N:=some 56) (v:=?_) (a':=?_) #[true,true,true,true,true,true,true,true,true,true,true,false,false,false,false,false,false,false,false] rfl rfl (by kernel_rfl) (fun _ _ _ h=>h) (Or.inl ⟨by rfl, ?_⟩) ?_ ?_;rotate_left;(intro w';go_simp;with_reducible rfl);rotate_left;(simp only [Act.put,List.setIfInBounds_toArray,List.set_cons_zero,List.set_cons_succ,i64_w,i32_w];rfl);refine pure_ (i:=11) (N:=some 57) (v:=?_) (a':=?_) #[true,true,true,true,true,true,true,true,true,true,true,true,false,false,false,false,false,false,false] rfl rfl (by kernel_rfl) (fun _ _ _ h=>h) (Or.inl ⟨by rfl, ?_⟩) ?_ ?_;rotate_left;(intro w';go_simp;with_reducible rfl);rotate_left;(simp only [Act.put,List.setIfInBounds_toArray,List.set_cons_zero,List.set_cons_succ,i64_w,i32_w];rfl);refine take_ (i:=12) (N:=some 58) (v:=?_) (a':=?_) #[true,true,true,true,true,true,true,true,true,true,true,true,true,false,false,false,false,false,false] rfl rfl (by kernel_rfl) (fun _ _ _ h=>h) (Or.inl ⟨by rfl, ?_⟩) hHeld ?_ ?_;rotate_left;(rintro w' ⟨s0,s1,s2,s3⟩;go_simp;with_reducible rfl);rotate_left;(simp only [Act.put,List.setIfInBounds_toArray,List.set_cons_zero,List.set_cons_succ,i64_w,i32_w];rfl);refine pure_ (i:=13) (N:=some 59) (v:=?_) (a':=?_) #[true,true,true,true,true,true,true,true,true,true,true,true,true,true,false,false,false,false,false] rfl rfl (by kernel_rfl) (fun _ _ _ h=>h) (Or.inl ⟨by rfl, ?_⟩) ?_ ?_;rotate_left;(intro w';go_simp;with_reducible rfl);rotate_left;(simp only [Act.put,List.setIfInBounds_toArray,List.set_cons_zero,List.set_cons_succ,i64_w,i32_w];rfl);refine one_ (i:=14) (N:=some 60) #[true,true,true,true,true,true,true,true,true,true,true,true,true,true,true,false,false,false,false] rfl rfl (by kernel_rfl) (by decide) (fun K hK=>?_)
   refine value_ (w1:=?_) (v:=?_) (by rfl) rfl ?_ ?_
   rotate_left 2
   ·go_simp
    constructor
    (rfl);(rfl)
   refine hK.out _ _ ⟨(cell_kept (hHeld.1) (Kept.alloc (Kept.refl _ (fun _=>False)) _) (fun h=>h)),(cell_kept (hHeld.2.1) (Kept.alloc (Kept.refl _ (fun _=>False)) _) (fun h=>h)),(cell_kept (hHeld.2.2.1) (Kept.alloc (Kept.refl _ (fun _=>False)) _) (fun h=>h)),(cell_kept (hHeld.2.2.2) (Kept.alloc (Kept.refl _ (fun _=>False)) _) (fun h=>h))⟩ (fun hHeld=>?_)
   clear hK K;refine norm_ (a':=?_) ?_ ?_;rotate_left
   ·show Act.put _ (some 60) _ = _
    simp only [Act.put,List.setIfInBounds_toArray,List.set_cons_zero,List.set_cons_succ,i64_w,i32_w];rfl
   refine one_ (i:=15) (N:=some 61) #[true,true,true,true,true,true,true,true,true,true,true,true,true,true,true,true,false,false,false] rfl rfl (by kernel_rfl) (by decide) (fun K hK=>?_)
   refine step_append_lies _ (by rfl) _ _ _ (by rfl) base 59 i0 _ 7 64 Try.underlying27 hi0 hz0 hz1 hz2 rfl (by omega) (.slice Au ns.length cu) _ _ (by rfl) (ho.out.alloc _) ⟨w2.heap.size,0,none⟩ 1 1 (c59 (⟨1,nm,0,0,0,0,0⟩ : S59)) (by rfl) (by rfl) (World.news_of_block (cs:=#[.int .i64 1,.string nm,.int .i64 0,.int .i64 0,.int .i64 0,.int .i64 0,.int .i64 0]) (t:=59) (fr:=(0,0)) (heap_alloc_new w2 _)) (by simp [c59,Value.oneCell']) (by omega) (by have:=HN.out;simp [maxLen];omega) (by have:=HN.out;omega) (by have:=hbb.out;simp;omega) (w2.heap.size + 1) (by simp) ?_
   intro gg cap w1 hown1 hgrow hat hlt;have gf1 : w1.frozen? ⟨g,3,none⟩ = false:=(hgrow.frozen_far _ (by simp;omega) (Ne.symm ag)).trans (frz_alloc gf lg1 _)
   refine hK.out _ _ ⟨((hgrow.cell_far _ (by simp;omega) (Ne.symm n5)).trans (hHeld.1)),((hgrow.cell_far _ (by simp;omega) (Ne.symm ag)).trans (hHeld.2.1)),((hgrow.cell_far _ (by simp;omega) (Ne.symm ag)).trans (hHeld.2.2.1)),((hgrow.cell_far _ (by simp;omega) (Ne.symm nI)).trans (hHeld.2.2.2))⟩ (fun hHeld=>?_)
   clear hK K;refine norm_ (a':=?_) ?_ ?_;rotate_left
   ·show Act.put _ (some 61) _ = _
    simp only [Act.put,List.setIfInBounds_toArray,List.set_cons_zero,List.set_cons_succ,i64_w,i32_w];rfl
   refine pure_ (i:=16) (N:=some 62) (v:=?_) (a':=?_) #[true,true,true,true,true,true,true,true,true,true,true,true,true,true,true,true,true,false,false] rfl rfl (by kernel_rfl) (fun _ _ _ h=>h) (Or.inl ⟨by rfl, ?_⟩) ?_ ?_;rotate_left;(intro w';go_simp;with_reducible rfl);rotate_left;(simp only [Act.put,List.setIfInBounds_toArray,List.set_cons_zero,List.set_cons_succ,i64_w,i32_w];rfl);refine pure_ (i:=17) (N:=some 63) (v:=?_) (a':=?_) #[true,true,true,true,true,true,true,true,true,true,true,true,true,true,true,true,true,true,false] rfl rfl (by kernel_rfl) (fun _ _ _ h=>h) (Or.inl ⟨by rfl, ?_⟩) ?_ ?_;rotate_left;(intro w';go_simp;with_reducible rfl);rotate_left;(simp only [Act.put,List.setIfInBounds_toArray,List.set_cons_zero,List.set_cons_succ,i64_w,i32_w];rfl)
   refine last_ (i:=18) (N:=none) #[true,true,true,true,true,true,true,true,true,true,true,true,true,true,true,true,true,true,true] rfl rfl (by kernel_rfl) (by decide) (fun K hK=>?_)
   refine skip_ (w1:=?_) (by rfl) rfl ?_ ?_
   rotate_left;(go_simp;rfl)
   refine hK.out _ _ ?_
   clear hK K
   refine done_ (by kernel_rfl) ?_
   go_wp2
   (try simp only [Exit.inBlock,Exit.then])
   refine bodyPost_ret (results_none rfl _ _ _) rfl ?_
   have hown2 : w1.ownsRow base 59 7 (.slice (some ⟨gg,0,none⟩) (ns.length + 1) cap) r.length (rows59 r):=by
    rw [HR.out,List.length_append,rows59_snoc];exact hown1
   obtain ⟨hg2,hat2⟩ := grown_alloc hgrow hat;have hp:=HB'.out.ps.put hown2 hg2;exact ⟨rfl,_,hp,(HB'.out.step hp (HB'.out.ps.stp hg2 hat2)).done⟩
   -- ]]
  ·rw [hji] at hidx;have HIX:=aside hidx;have HA':=aside HA;have H1:=aside h1;clear hidx HA ev h0 hji f8 f9 h1
   go_wp2_with (go_at_call 55;refine HIX.out.mono ?_;rintro e w2 ⟨rfl,hb⟩;have HB:=aside (HA'.out.quiet hb);clear f5 f10 g1 g3 hb HA';have f5:=HB.out.c5;have g3 : w2.cell? ⟨g,3,none⟩ = some (.slice Au ns.length cu):=(by rw [cell_of_row w2 g 3 _ _ _ HB.out.ps.blk];rfl))
   have HX0:=aside (ax0 HB.out (ns.length : Int));clear HB HIX f5 g3
   go_loopg [14] k' (fun gg vv wr=>∃ a : Nat,vv = .int .i64 a ∧ 1 ≤ a ∧ a ≤ 1001 ∧ gg ≤ k' ∧ Aside (gangsawref25_part.l1 gg ns t items kf x y l w v (ns.length : Int) (a : Int) = some r) ∧ Aside (AX base g (.slice (some adT) t.length c1) (.slice A2 items.length c2) kf l w v W (.slice Au ns.length cu) W.heap.size (W.heap.size + 1) (W.heap.size + 1 + 1) (W.heap.size + 1 + 1 + 1) w2.heap.size (ns.length : Int) wr (.slice Au ns.length cu) ns))
   case atStart=>exact ⟨1,rfl,by omega,by omega,Nat.le_refl _,H1,HX0⟩
   case round =>
    obtain ⟨a,rfl,ha1,ha2,hgk,HL,HX⟩ := hrel
    cases gk with
    | zero=>exact absurd HL.out (by simp [gangsawref25_part.l1])
    | succ q =>
    have hl:=HL.out;clear HL H1 HX0
    obtain ⟨d1,hd1⟩ : ∃ d,IntKind.i64.wrap (l - (a : Int)) = d:=⟨_,rfl⟩
    obtain ⟨d,hd⟩ : ∃ z,IntKind.i64.wrap (d1 - kf) = z:=⟨_,rfl⟩
    have ed1 : d1 = l - a:=by rw [← hd1];exact IntWalk.i64_in _ (by omega)
    have ed : d = l - a - kf:=by rw [← hd,ed1];exact IntWalk.i64_in _ (by omega)
    have es : wrap64 ((a : Int) + kf) = a + kf:=by rw [← i64_w];exact IntWalk.i64_in _ (by omega)
    have en : wrap64 ((a : Int) + 1) = ((a + 1 : Nat) : Int):=by rw [← i64_w];push_cast;exact IntWalk.i64_in _ (by omega)
    have hor:=l1_step hl;rw [← i64_w (l - (a : Int)),hd1,← i64_w (d1 - kf),hd,es,en] at hor;clear hl;have f5:=HX.out.aw.c5;have f8:=HX.out.aw.c8;have f9:=HX.out.aw.c9;have f10:=HX.out.aw.c10
    have g2 : wr.cell? ⟨g,2,none⟩ = some (.int .i64 kf):=by rw [cell_of_row wr g 2 _ _ _ HX.out.aw.ps.blk];rfl
    have g0 : wr.cell? ⟨g,0,none⟩ = some (.slice (some adT) t.length c1):=by rw [cell_of_row wr g 0 _ _ _ HX.out.aw.ps.blk];rfl
    rcases hor with ⟨m1,m2,m3,m4,m5,m6,m7,m8,hor⟩|⟨m1,h2⟩
    ·have z1 : (1 ≤ d) = True:=eq_true (by omega);have CT:=HT.out wr HX.out.aw.fr;obtain ⟨ad_,A1_,n1_,hA,r1,-,hC1⟩ := at_L5 CT (a : Int) (by omega) m3;obtain rfl:=Option.some.inj hA;obtain ⟨e1_,hE1,s1⟩ := Kd.at_int hC1 w m4 m5;obtain ⟨ad_,A2_,n2_,hA2,r2,-,hC2⟩ := at_L5 CT d m6 m7;obtain rfl:=Option.some.inj hA2;obtain ⟨e2_,hE2,s2⟩ := Kd.at_int hC2 w m4 m8;subst hE1 hE2;simp only [Int.toNat_natCast] at r1
     obtain ⟨p1,hp1⟩ : ∃ p,rd (rd_L5 t (a : Int)) w = p:=⟨_,rfl⟩
     obtain ⟨p2,hp2⟩ : ∃ p,rd (rd_L5 t d) w = p:=⟨_,rfl⟩
     rw [hp1] at s1 hor;rw [hp2] at s2 hor
     obtain ⟨sm,hsm⟩ : ∃ z,IntKind.i64.wrap (p1 + p2) = z:=⟨_,rfl⟩
     rw [← i64_w (p1 + p2),hsm] at hor;have z2:=eq_true m3;have z3:=eq_true m5;have z4:=eq_true m6;have z5:=eq_true m7;have z6:=eq_true m8;clear CT hC1 hp1 hp2 es en hA hA2 hC2
     rcases hor with ⟨ev,hcut⟩|⟨ev,hnext⟩
     ·have z7 : (sm == v) = true:=by simpa using ev
      obtain ⟨px,hpx⟩ : ∃ z,IntKind.i64.wrap (x + (a : Int)) = z:=⟨_,rfl⟩
      obtain ⟨px2,hpx2⟩ : ∃ z,IntKind.i64.wrap (px + kf) = z:=⟨_,rfl⟩
      obtain ⟨hlen,n1,hf1,ha0,hat,hf2⟩ := hcut;rw [← i64_w (x + (a : Int)),hpx] at hf1 hf2;rw [← i64_w (px + kf),hpx2] at hf2;have L1:=aside hlen;have L2:=aside hf1;have L3:=aside hf2;have L4:=aside ha0;have L5:=aside hat;have B1:=aside (show d ≤ 1000 by omega);have B2:=aside (show (a : Int) ≤ 1000 by omega);have B3:=aside wB;have B4:=aside (show q < k + 1 by omega)
      have HX1:=fun n=>HX.out.quiet (below_drewN_any n)
      clear hlen hf1 hf2 ha0 hat ev ed ed1 ha1 ha2 hgk hk' lB wB m1 m3 m4 m5 m6 m7 m8
      go_wp2
      go_quiet (fail)
      go_wp2
      go_quiet (fail)
      go_wp2_with (first|(go_at_call 57;refine (ax_cut (HX1 _) 0 px L1.out).mono ?_;rintro e w3 ⟨rfl,u3,HX3⟩;have f53:=HX3.aw.c5;have f93:=HX3.aw.c9;have f83:=HX3.aw.c8;have HY3:=aside HX3;clear HX3)|(go_at_call 35;refine (ax_add (IH.out _ B4.out) HY3.out HT.out HI.out x y a w B2.out B3.out n1 L2.out).mono ?_;rintro e w4 ⟨rfl,u4,HX4⟩))
      have ha0:=L4.out;have hat:=L5.out;obtain ⟨gn,cap,hu,-,-⟩ := World.ownsRow.form HX4.aw.ps.own (by omega);subst hu;clear f5 f8 f9 f10 g2 g0 f53 f93 f83 HX HY3 L1 L2 L4 L5;have f5:=HX4.aw.c5
      have g3 : w4.cell? ⟨g,3,none⟩ = some (.slice (some ⟨gn,0,none⟩) n1.length cap):=by rw [cell_of_row w4 g 3 _ _ _ HX4.aw.ps.blk];rfl
      have f12:=HX4.c12;have gf : w4.frozen? ⟨gn,ns.length * 7 + 6,none⟩ = false:=World.ownsRow.frozenAt HX4.aw.ps.own _;have z8 : ((ns.length : Int) < (n1.length : Int)) = True:=eq_true hat;have z9 : (0 ≤ (ns.length : Int)) = True:=eq_true ha0
      obtain ⟨old,hold⟩ : ∃ old,w4.cell? ⟨gn,ns.length * 7 + 6,none⟩ = some old:=by
       rw [World.ownsRow.cellAt HX4.aw.ps.own _ (by omega)];exact ⟨_,List.getElem?_eq_getElem (by rw [rows59_len];omega)⟩
      have HX5:=(HX4.right ha0 hat (n1.length : Int)).quiet ((Below.refl _ _).drew);simp only [Int.toNat_natCast] at HX5;replace HX5:=aside HX5;clear HX4 ha0 hat
      go_still_tail 12,(by kernel_rfl)
      go_wp2
      have HX6:=HX5.out;generalize (w4.setCell ⟨gn,ns.length * 7 + 6,none⟩ (.int .i64 (n1.length : Int))).drew = w5 at HX6 ⊢;clear HX5 f5 g3 f12 gf hold z8 z9;have f5:=HX6.aw.c5;have f8:=HX6.aw.c8;have f9:=HX6.aw.c9
      have g2 : w5.cell? ⟨g,2,none⟩ = some (.int .i64 kf):=by rw [cell_of_row w5 g 2 _ _ _ HX6.aw.ps.blk];rfl
      have l3:=L3.out;simp only [Int.toNat_natCast] at l3;have HY6:=aside (HX6.quiet (Below.refl _ w5).drew);have LL:=aside l3;clear HX6 l3 L3
      go_still_tail 19,(by kernel_rfl)
      go_wp2_with (go_at_call 35;refine (ax_add (IH.out _ B4.out) HY6.out HT.out HI.out px2 y d w B1.out B3.out r LL.out).mono ?_;rintro e w6 ⟨rfl,u6,HX7⟩)
      (try simp only [Exit.inBlock,Exit.then])
      refine bodyPost_ret (results_none rfl _ _ _) rfl ?_
      exact ⟨rfl,_,HX7.aw.ps,HX7.aw.done⟩
     ·have z7 : (sm == v) = false:=by simpa using ev
      have HN:=aside hnext;have B1:=aside (show a + 1 ≤ 1001 by omega);have B2:=aside hgk;clear hnext ev ed ed1 m1 m3 m4 m5 m6 m7 m8 hgk
      go_wp2
      go_quiet (fail)
      go_wp2
      go_quiet (fail)
      go_wp2
      go_roundg q
      case measure=>omega
      case rel=>exact ⟨a + 1,by go_num,by omega,B1.out,by have:=B2.out;omega,HN,aside (by repeat (first|exact HX.out|refine AX.quiet ?_ (below_drewN_any _)))⟩
    ·have z1 : (1 ≤ d) = False:=eq_false (by omega);have H2:=aside h2;have B2:=aside hgk;clear h2 ed ed1 es en m1 hgk
     go_wp2
     go_quiet (fail)
     go_wp2
     have HX9:=HX;have hgkA:=B2.out;clear HX B2 f5 f8 f9 f10 g2 g0 hd hd1 z1 ha1 ha2
     go_loopg [15] q (fun gg vv wr=>∃ a : Nat,vv = .int .i64 a ∧ 1 ≤ a ∧ a ≤ 1001 ∧ gg ≤ q ∧ Aside (gangsawref25_part.l2 gg ns t items kf x y l w v (ns.length : Int) (a : Int) = some r) ∧ Aside (AX base g (.slice (some adT) t.length c1) (.slice A2 items.length c2) kf l w v W (.slice Au ns.length cu) W.heap.size (W.heap.size + 1) (W.heap.size + 1 + 1) (W.heap.size + 1 + 1 + 1) w2.heap.size (ns.length : Int) wr (.slice Au ns.length cu) ns))
     case atStart=>exact ⟨1,rfl,by omega,by omega,Nat.le_refl _,H2,aside (HX9.out.quiet (below_drewN_any _))⟩
     case round =>
      obtain ⟨a,rfl,ha1,ha2,hgk,HL,HX⟩ := hrel
      cases gk with
      | zero=>exact absurd HL.out (by simp [gangsawref25_part.l2])
      | succ q2 =>
      have hl:=HL.out;clear HL H2 HX9
      obtain ⟨d1,hd1⟩ : ∃ d,IntKind.i64.wrap (w - (a : Int)) = d:=⟨_,rfl⟩
      obtain ⟨d,hd⟩ : ∃ z,IntKind.i64.wrap (d1 - kf) = z:=⟨_,rfl⟩
      have ed1 : d1 = w - a:=by rw [← hd1];exact IntWalk.i64_in _ (by omega)
      have ed : d = w - a - kf:=by rw [← hd,ed1];exact IntWalk.i64_in _ (by omega)
      have es : wrap64 ((a : Int) + kf) = a + kf:=by rw [← i64_w];exact IntWalk.i64_in _ (by omega)
      have en : wrap64 ((a : Int) + 1) = ((a + 1 : Nat) : Int):=by rw [← i64_w];push_cast;exact IntWalk.i64_in _ (by omega)
      have hor:=l2_step hl;rw [← i64_w (w - (a : Int)),hd1,← i64_w (d1 - kf),hd,es,en] at hor;clear hl;have f5:=HX.out.aw.c5;have f8:=HX.out.aw.c8;have f9:=HX.out.aw.c9;have f10:=HX.out.aw.c10
      have g2 : wr.cell? ⟨g,2,none⟩ = some (.int .i64 kf):=by rw [cell_of_row wr g 2 _ _ _ HX.out.aw.ps.blk];rfl
      have g0 : wr.cell? ⟨g,0,none⟩ = some (.slice (some adT) t.length c1):=by rw [cell_of_row wr g 0 _ _ _ HX.out.aw.ps.blk];rfl
      rcases hor with ⟨m1,m2,m3,m4,m5,m6,m7,hor⟩|⟨m1,h2⟩
      ·have z1 : (1 ≤ d) = True:=eq_true (by omega);have CT:=HT.out wr HX.out.aw.fr;obtain ⟨ad_,A1_,n1_,hA,r1,-,hC1⟩ := at_L5 CT l m2 m3;obtain rfl:=Option.some.inj hA;obtain ⟨e1_,hE1,s1⟩ := Kd.at_int hC1 (a : Int) m4 m5;obtain ⟨e2_,hE2,s2⟩ := Kd.at_int hC1 d m6 m7;subst hE1;obtain rfl:=Option.some.inj hE2;simp only [Int.toNat_natCast] at s1
       obtain ⟨p1,hp1⟩ : ∃ p,rd (rd_L5 t l) (a : Int) = p:=⟨_,rfl⟩
       obtain ⟨p2,hp2⟩ : ∃ p,rd (rd_L5 t l) d = p:=⟨_,rfl⟩
       rw [hp1] at s1 hor;rw [hp2] at s2 hor
       obtain ⟨sm,hsm⟩ : ∃ z,IntKind.i64.wrap (p1 + p2) = z:=⟨_,rfl⟩
       rw [← i64_w (p1 + p2),hsm] at hor;have z2:=eq_true m2;have z3:=eq_true m3;have z4:=eq_true m4;have z5:=eq_true m5;have z6:=eq_true m6;have z7:=eq_true m7;clear CT hC1 hp1 hp2 es en hA hE2
       rcases hor with ⟨ev,hcut⟩|⟨ev,hnext⟩
       ·have z8 : (sm == v) = true:=by simpa using ev
        obtain ⟨px,hpx⟩ : ∃ z,IntKind.i64.wrap (y + (a : Int)) = z:=⟨_,rfl⟩
        obtain ⟨px2,hpx2⟩ : ∃ z,IntKind.i64.wrap (px + kf) = z:=⟨_,rfl⟩
        obtain ⟨hlen,n1,hf1,ha0,hat,hf2⟩ := hcut;rw [← i64_w (y + (a : Int)),hpx] at hf1 hf2;rw [← i64_w (px + kf),hpx2] at hf2;have L1:=aside hlen;have L2:=aside hf1;have L3:=aside hf2;have L4:=aside ha0;have L5:=aside hat;have B1:=aside (show d ≤ 1000 by omega);have B2:=aside (show (a : Int) ≤ 1000 by omega);have B3:=aside lB;have B4:=aside (show q2 < k + 1 by omega)
        have HX1:=fun n=>HX.out.quiet (below_drewN_any n)
        clear hlen hf1 hf2 ha0 hat ev ed ed1 ha1 ha2 hgk hgkA hk' lB wB m1 m2 m3 m4 m5 m6 m7
        go_wp2
        go_quiet (fail)
        go_wp2
        go_quiet (fail)
        go_wp2_with (first|(go_at_call 57;refine (ax_cut (HX1 _) 1 px L1.out).mono ?_;rintro e w3 ⟨rfl,u3,HX3⟩;have f53:=HX3.aw.c5;have f93:=HX3.aw.c9;have f83:=HX3.aw.c8;have HY3:=aside HX3;clear HX3)|(go_at_call 35;refine (ax_add (IH.out _ B4.out) HY3.out HT.out HI.out x y l a B3.out B2.out n1 L2.out).mono ?_;rintro e w4 ⟨rfl,u4,HX4⟩))
        have ha0:=L4.out;have hat:=L5.out;obtain ⟨gn,cap,hu,-,-⟩ := World.ownsRow.form HX4.aw.ps.own (by omega);subst hu;clear f5 f8 f9 f10 g2 g0 f53 f93 f83 HX HY3 L1 L2 L4 L5;have f5:=HX4.aw.c5
        have g3 : w4.cell? ⟨g,3,none⟩ = some (.slice (some ⟨gn,0,none⟩) n1.length cap):=by rw [cell_of_row w4 g 3 _ _ _ HX4.aw.ps.blk];rfl
        have f12:=HX4.c12;have gf : w4.frozen? ⟨gn,ns.length * 7 + 6,none⟩ = false:=World.ownsRow.frozenAt HX4.aw.ps.own _;have z8 : ((ns.length : Int) < (n1.length : Int)) = True:=eq_true hat;have z9 : (0 ≤ (ns.length : Int)) = True:=eq_true ha0
        obtain ⟨old,hold⟩ : ∃ old,w4.cell? ⟨gn,ns.length * 7 + 6,none⟩ = some old:=by
         rw [World.ownsRow.cellAt HX4.aw.ps.own _ (by omega)];exact ⟨_,List.getElem?_eq_getElem (by rw [rows59_len];omega)⟩
        have HX5:=(HX4.right ha0 hat (n1.length : Int)).quiet ((Below.refl _ _).drew);simp only [Int.toNat_natCast] at HX5;replace HX5:=aside HX5;clear HX4 ha0 hat
        go_still_tail 12,(by kernel_rfl)
        go_wp2
        have HX6:=HX5.out;generalize (w4.setCell ⟨gn,ns.length * 7 + 6,none⟩ (.int .i64 (n1.length : Int))).drew = w5 at HX6 ⊢;clear HX5 f5 g3 f12 gf hold z8 z9;have f5:=HX6.aw.c5;have f8:=HX6.aw.c8;have f9:=HX6.aw.c9
        have g2 : w5.cell? ⟨g,2,none⟩ = some (.int .i64 kf):=by rw [cell_of_row w5 g 2 _ _ _ HX6.aw.ps.blk];rfl
        have l3:=L3.out;simp only [Int.toNat_natCast] at l3;have HY6:=aside (HX6.quiet (Below.refl _ w5).drew);have LL:=aside l3;clear HX6 l3 L3
        go_still_tail 19,(by kernel_rfl)
        go_wp2_with (go_at_call 35;refine (ax_add (IH.out _ B4.out) HY6.out HT.out HI.out x px2 l d B3.out B1.out r LL.out).mono ?_;rintro e w6 ⟨rfl,u6,HX7⟩)
        (try simp only [Exit.inBlock,Exit.then])
        refine bodyPost_ret (results_none rfl _ _ _) rfl ?_
        exact ⟨rfl,_,HX7.aw.ps,HX7.aw.done⟩
       ·have z8 : (sm == v) = false:=by simpa using ev
        have HN:=aside hnext;have B1:=aside (show a + 1 ≤ 1001 by omega);have B2:=aside hgk;clear hnext ev ed ed1 m1 m2 m3 m4 m5 m6 m7 hgk
        go_wp2
        go_quiet (fail)
        go_wp2
        go_quiet (fail)
        go_wp2
        go_roundg q2
        case measure=>omega
        case rel=>exact ⟨a + 1,by go_num,by omega,B1.out,by have:=B2.out;omega,HN,aside (by repeat (first|exact HX.out|refine AX.quiet ?_ (below_drewN_any _)))⟩
      ·have z1 : (1 ≤ d) = False:=eq_false (by omega);have H2:=aside h2;have B2:=aside hgk;clear h2 ed ed1 es en m1 hgk
       go_wp2
       go_quiet (fail)
       go_wp2
       (try simp only [Exit.inBlock,Exit.then])
       first|refine bodyPost_end (results_none rfl _ _ _) rfl ?_|refine bodyPost_ret (results_none rfl _ _ _) rfl ?_
       have hr2:=H2.out;subst hr2;exact ⟨rfl,_,(HX.out.quiet (below_drewN_any _)).aw.ps,(HX.out.quiet (below_drewN_any _)).aw.done⟩
theorem add_any (base g c1 c2 : Nat) (A1 A2 : Option Addr) (t : List (List Int)) (items : List S36) (kf : Int) (hgb : base ≤ g) (hm : items.length ≤ 9223372036854775806) (kf0 : 0 ≤ kf) (kf1 : kf ≤ 1000) (k : Nat) : AddOK base g c1 c2 A1 A2 t items kf k:=by
 induction k using Nat.strongRecOn with
 | _ k ih=>exact add_step base g c1 c2 A1 A2 t items kf hgb hm kf0 kf1 k ih
end Go.Proofs.Ytdnjagfbhppmbaa.PA
