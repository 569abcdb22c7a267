import Derived.Test.YtdnjagfbhppmbaaLex
import Derived.Test.YtdnjagfbhppmbaaPAx0
import Derived.Deep.RegionHeld3
import Derived.Deep.AppendLies
import Derived.StillTactics
import Derived.Laws.Pointers
import Derived.Laws.EntriesVeiled
import Derived.Shelf.Abstract
import Derived.WalkLawsBesides
import Derived.WalkSpells
namespace Go.Proofs.Ytdnjagfbhppmbaa.PA
open Go.RowKit Go.Shelf Go.Proofs.YtdnjagfbhppmbaaW.PrintWords Go.Proofs.YtdnjagfbhppmbaaW.PrintLast Go.Proofs.YtdnjagfbhppmbaaW.PrintMore
set_option linter.unusedVariables false
set_option linter.unusedSimpArgs false
def c59 (x : S59) : List Value:=[.int .i64 x.f0,.string x.f1,.int .i64 x.f2,.int .i64 x.f3,.int .i64 x.f4,.int .i64 x.f5,.int .i64 x.f6]
def rows59 (ns : List S59) : List Value:=ns.flatMap c59
theorem rows59_len (ns : List S59) : (rows59 ns).length = ns.length * 7:=by
 unfold rows59
 induction ns with
 | nil=>rfl
 | cons x t ih=>simp [List.flatMap_cons,c59,ih];omega
theorem rows59_snoc (ns : List S59) (x : S59) : rows59 (ns ++ [x]) = rows59 ns ++ c59 x:=by simp [rows59,List.flatMap_append]
structure PS (base g : Nat) (T I : Value) (kf : Int) (W : World) (u : Value) (ns : List S59) : Prop where
 blk : W.heap[g]? = some (.cells #[T,I,.int .i64 kf,u] 66 (0,0))
 own : W.ownsRow base 59 7 u ns.length (rows59 ns)
 hb : base ≤ W.heap.size
theorem PS.ne {base g : Nat} {T I : Value} {kf : Int} {W : World} {u : Value} {ns : List S59} (h : PS base g T I kf W u ns) : u.ownBlock ≠ some g:=by
 intro hc;obtain ⟨cells,h2⟩ := own_typed h.own g hc;rw [h.blk] at h2
 simp at h2
theorem PS.lt {base g : Nat} {T I : Value} {kf : Int} {W : World} {u : Value} {ns : List S59} (h : PS base g T I kf W u ns) : g < W.heap.size:=blk_lt h.blk
structure Stp (base g : Nat) (W W' : World) (u u' : Value) : Prop where
 below : ∀ w0,base ≤ g → Below base w0 W → Below base w0 W'
 kept : Kept W W' (fun k=>k = g ∨ some k = u.ownBlock)
 at_ : u'.ownBlock = u.ownBlock ∨ ∃ b,u'.ownBlock = some b ∧ W.heap.size ≤ b
theorem PS.put {base g : Nat} {T I : Value} {kf : Int} {W w1 : World} {u u1 : Value} {ns ns1 : List S59} (h : PS base g T I kf W u ns) (ho : w1.ownsRow base 59 7 u1 ns1.length (rows59 ns1)) (hg : W.grownBy w1 u.ownBlock) :
  PS base g T I kf (w1.setCell ⟨g,3,none⟩ u1) u1 ns1:=by
 have hb : w1.heap[g]? = some (.cells #[T,I,.int .i64 kf,u] 66 (0,0)):=(hg.block g h.lt (fun e=>h.ne e.symm)).trans h.blk
 have hne : some g ≠ u1.ownBlock:=by
  intro hc;obtain ⟨cells,h2⟩ := own_typed ho g hc.symm;rw [hb] at h2
  simp at h2
 refine ⟨?_,own_setCell ho hne u1, ?_⟩
 (exact blk_put hb 3 u1 rfl)
 ·have:=hg.size;have:=h.hb;simp;omega
theorem PS.stp {base g : Nat} {T I : Value} {kf : Int} {W w1 : World} {u u1 : Value} {ns : List S59} (h : PS base g T I kf W u ns) (hg : W.grownBy w1 u.ownBlock) (hat : u1.ownBlock = u.ownBlock ∨ ∃ b, u1.ownBlock = some b ∧ W.heap.size ≤ b) :
  Stp base g W (w1.setCell ⟨g,3,none⟩ u1) u u1:=by
 refine ⟨fun w0 hgb hB=>?_, ?_,hat⟩
 (exact (hB.grown hg h.hb (fun k hk=>own_base h.own k hk)).setCell hgb _);(exact Kept.setCell (Kept.of_grown hg (Kept.refl W _) (fun k hk=>.inl (.inr hk.symm))) (.inl (.inl rfl)) _)
theorem frz_alloc {W : World} {a : Addr} (h : W.frozen? a = false) (hl : a.block < W.heap.size) (o : Obj) : (W.alloc o).drew.frozen? a = false :=
 (World.frozen?_of_block (w':=(W.alloc o).drew) (Below.heap_alloc W o a.block hl)).trans h
theorem grown_alloc {W w1 : World} {o : Obj} {row : Option Nat} {gg : Nat} {n cap : Nat} (hg : (W.alloc o).drew.grownBy w1 row) (hat : row = some gg ∨ gg = W.heap.size + 1) :
  W.grownBy w1 row ∧ ((Value.slice (some ⟨gg,0,none⟩) n cap).ownBlock = row ∨ ∃ b,(Value.slice (some ⟨gg,0,none⟩) n cap).ownBlock = some b ∧ W.heap.size ≤ b):=by
 refine ⟨⟨hg.os,hg.tape,hg.output,Nat.le_trans (by simp) hg.size,fun k hk hr=>?_⟩, ?_⟩
 (exact (hg.block k (by simp;omega) hr).trans (Below.heap_alloc W o k hk))
 ·rcases hat with h|h
  (exact .inl h.symm);(exact .inr ⟨gg,rfl,by omega⟩)
set_option maxRecDepth 100000 in
set_option maxHeartbeats 1600000 in
theorem cut57_any (base g b5 b12 : Nat) (T I : Value) (kf at_ axis pos : Int) (W : World) (u : Value) (ns : List S59) (h : PS base g T I kf W u ns)
  (h5 : W.cell? ⟨b5,0,none⟩ = some (.pointer (some ⟨g,0,none⟩))) (h12 : W.cell? ⟨b12,0,none⟩ = some (.int .i64 at_)) (n5 : u.ownBlock ≠ some b5) (n12 : u.ownBlock ≠ some b12) (hl : ns.length < 2199023255552) :
  Calls Try.prog 57 #[.int .i64 axis,.int .i64 pos,.pointer (some ⟨b5,0,none⟩),.pointer (some ⟨b12,0,none⟩)] W fun e w'=>e = .returned (.tuple #[]) ∧ ∃ u',PS base g T I kf w' u' (ns ++ [⟨3,⟨#[]⟩,axis,pos,kf,wrap64 (at_ + 1),0⟩]) ∧ Stp base g W w' u u':=by
 obtain ⟨i0,hi0,hz0,hz1,hz2⟩ := info_parts info59;have l5:=World.block_lt_of_cell? W _ h5;have l12:=World.block_lt_of_cell? W _ h12;have lg:=h.lt
 have g2 : W.cell? ⟨g,2,none⟩ = some (.int .i64 kf):=by rw [cell_of_row W g 2 _ _ _ h.blk];rfl
 have g3 : W.cell? ⟨g,3,none⟩ = some u:=by rw [cell_of_row W g 3 _ _ _ h.blk];rfl
 have gf : W.frozen? ⟨g,3,none⟩ = false:=frozen_of_row W g 3 _ _ h.blk;have ag:=h.ne;have HP:=aside h;have HN:=aside hl;have ho:=aside h.own;have hbb:=aside h.hb;clear h hl
 go_enter Try.func57,Try.ntmps57
 go_wp2_with fail
 refine start_ (n:=19) (S:=fun w'=>w'.cell? ⟨b5,0,none⟩ = some (.pointer (some ⟨g,0,none⟩)) ∧ w'.cell? ⟨g,2,none⟩ = some (.int .i64 kf) ∧ w'.cell? ⟨g,3,none⟩ = some u ∧ w'.cell? ⟨b12,0,none⟩ = some (.int .i64 at_)) (ds:=[18]) #[false,false,false,false,false,false,false,false,false,false,false,false,false,false,false,false,false,false,false] (by kernel_rfl) rfl rfl ⟨h5,g2,g3,h12⟩ (fun hHeld=>?_)
 refine pure_ (i:=5) (N:=some 11) (v:=?_) (a':=?_) #[false,false,false,false,false,true,false,false,false,false,false,false,false,false,false,false,false,false,false] rfl rfl (by kernel_rfl) (fun _ _ _ h=>h) (Or.inl ⟨by rfl, ?_⟩) ?_ ?_;rotate_left;(intro w';go_simp;with_reducible rfl);rotate_left;(simp only [Act.put,List.setIfInBounds_toArray,List.set_cons_zero,List.set_cons_succ,i64_w,i32_w];rfl);refine pure_ (i:=6) (N:=some 12) (v:=?_) (a':=?_) #[false,false,false,false,false,true,true,false,false,false,false,false,false,false,false,false,false,false,false] rfl rfl (by kernel_rfl) (fun _ _ _ h=>h) (Or.inl ⟨by rfl, ?_⟩) ?_ ?_;rotate_left;(intro w';go_simp;with_reducible rfl);rotate_left;(simp only [Act.put,List.setIfInBounds_toArray,List.set_cons_zero,List.set_cons_succ,i64_w,i32_w];rfl);refine take_ (i:=0) (N:=some 6) (v:=?_) (a':=?_) #[true,false,false,false,false,true,true,false,false,false,false,false,false,false,false,false,false,false,false] rfl rfl (by kernel_rfl) (fun _ _ _ h=>h) (Or.inl ⟨by rfl, ?_⟩) hHeld ?_ ?_;rotate_left;(rintro w' ⟨s0,s1,s2,s3⟩;go_simp;with_reducible rfl);rotate_left;(simp only [Act.put,List.setIfInBounds_toArray,List.set_cons_zero,List.set_cons_succ,i64_w,i32_w];rfl);refine take_ (i:=1) (N:=some 7) (v:=?_) (a':=?_) #[true,true,false,false,false,true,true,false,false,false,false,false,false,false,false,false,false,false,false] rfl rfl (by kernel_rfl) (fun _ _ _ h=>h) (Or.inl ⟨by rfl, ?_⟩) hHeld ?_ ?_;rotate_left;(rintro w' ⟨s0,s1,s2,s3⟩;go_simp;with_reducible rfl);rotate_left;(simp only [Act.put,List.setIfInBounds_toArray,List.set_cons_zero,List.set_cons_succ,i64_w,i32_w];rfl);refine pure_ (i:=2) (N:=some 8) (v:=?_) (a':=?_) #[true,true,true,false,false,true,true,false,false,false,false,false,false,false,false,false,false,false,false] rfl rfl (by kernel_rfl) (fun _ _ _ h=>h) (Or.inl ⟨by rfl, ?_⟩) ?_ ?_;rotate_left;(intro w';go_simp;with_reducible rfl);rotate_left;(simp only [Act.put,List.setIfInBounds_toArray,List.set_cons_zero,List.set_cons_succ,i64_w,i32_w];rfl);refine pure_ (i:=3) (N:=some 9) (v:=?_) (a':=?_) #[true,true,true,true,false,true,true,false,false,false,false,false,false,false,false,false,false,false,false] rfl rfl (by kernel_rfl) (fun _ _ _ h=>h) (Or.inl ⟨by rfl, ?_⟩) ?_ ?_;rotate_left;(intro w';go_simp;with_reducible rfl);rotate_left;(simp only [Act.put,List.setIfInBounds_toArray,List.set_cons_zero,List.set_cons_succ,i64_w,i32_w];rfl);refine take_ (i:=4) (N:=some 10) (v:=?_) (a':=?_) #[true,true,true,true,true,true,true,false,false,false,false,false,false,false,false,false,false,false,false] rfl rfl (by kernel_rfl) (fun _ _ _ h=>h) (Or.inl ⟨by rfl, ?_⟩) hHeld ?_ ?_;rotate_left;(rintro w' ⟨s0,s1,s2,s3⟩;go_simp;with_reducible rfl);rotate_left;(simp only [Act.put,List.setIfInBounds_toArray,List.set_cons_zero,List.set_cons_succ,i64_w,i32_w];rfl);refine take_ (i:=7) (N:=some 13) (v:=?_) (a':=?_) #[true,true,true,true,true,true,true,true,false,false,false,false,false,false,false,false,false,false,false] rfl rfl (by kernel_rfl) (fun _ _ _ h=>h) (Or.inl ⟨by rfl, ?_⟩) hHeld ?_ ?_;rotate_left;(rintro w' ⟨s0,s1,s2,s3⟩;go_simp;with_reducible rfl);rotate_left;(simp only [Act.put,List.setIfInBounds_toArray,List.set_cons_zero,List.set_cons_succ,i64_w,i32_w];rfl);refine pure_ (i:=8) (N:=some 14) (v:=?_) (a':=?_) #[true,true,true,true,true,true,true,true,true,false,false,false,false,false,false,false,false,false,false] rfl rfl (by kernel_rfl) (fun _ _ _ h=>h) (Or.inl ⟨by rfl, ?_⟩) ?_ ?_;rotate_left;(intro w';go_simp;with_reducible rfl);rotate_left;(simp only [Act.put,List.setIfInBounds_toArray,List.set_cons_zero,List.set_cons_succ,i64_w,i32_w];rfl);refine pure_ (i:=9) (N:=some 15) (v:=?_) (a':=?_) #[true,true,true,true,true,true,true,true,true,true,false,false,false,false,false,false,false,false,false] rfl rfl (by kernel_rfl) (fun _ _ _ h=>h) (Or.inl ⟨by rfl, ?_⟩) ?_ ?_;rotate_left;(intro w';go_simp;with_reducible rfl);rotate_left;(simp only [Act.put,List.setIfInBounds_toArray,List.set_cons_zero,List.set_cons_succ,i64_w,i32_w];rfl);refine take_ (i:=10) (N:=some 16) (v:=?_) (a':=?_) #[true,true,true,true,true,true,true,true,true,true,true,false,false,false,false,false,false,false,false] rfl rfl (by kernel_rfl) (fun _ _ _ h=>h) (Or.inl ⟨by rfl, ?_⟩) hHeld ?_ ?_;rotate_left;(rintro w' ⟨s0,s1,s2,s3⟩;go_simp;with_reducible rfl);rotate_left;(simp only [Act.put,List.setIfInBounds_toArray,List.set_cons_zero,List.set_cons_succ,i64_w,i32_w];rfl);refine take_ (i:=11) (N:=some 17) (v:=?_) (a':=?_) #[true,true,true,true,true,true,true,true,true,true,true,true,false,false,false,false,false,false,false] rfl rfl (by kernel_rfl) (fun _ _ _ h=>h) (Or.inl ⟨by rfl, ?_⟩) hHeld ?_ ?_;rotate_left;(rintro w' ⟨s0,s1,s2,s3⟩;go_simp;with_reducible rfl);rotate_left;(simp only [Act.put,List.setIfInBounds_toArray,List.set_cons_zero,List.set_cons_succ,i64_w,i32_w];rfl);refine pure_ (i:=12) (N:=some 18) (v:=?_) (a':=?_) #[true,true,true,true,true,true,true,true,true,true,true,true,true,false,false,false,false,false,false] rfl rfl (by kernel_rfl) (fun _ _ _ h=>h) (Or.inl ⟨by rfl, ?_⟩) ?_ ?_;rotate_left;(intro w';go_simp;with_reducible rfl);rotate_left;(simp only [Act.put,List.setIfInBounds_toArray,List.set_cons_zero,List.set_cons_succ,i64_w,i32_w];rfl);refine pure_ (i:=13) (N:=some 19) (v:=?_) (a':=?_) #[true,true,true,true,true,true,true,true,true,true,true,true,true,true,false,false,false,false,false] rfl rfl (by kernel_rfl) (fun _ _ _ h=>h) (Or.inl ⟨by rfl, ?_⟩) ?_ ?_;rotate_left;(intro w';go_simp;with_reducible rfl);rotate_left;(simp only [Act.put,List.setIfInBounds_toArray,List.set_cons_zero,List.set_cons_succ,i64_w,i32_w];rfl);refine one_ (i:=14) (N:=some 20) #[true,true,true,true,true,true,true,true,true,true,true,true,true,true,true,false,false,false,false] rfl rfl (by kernel_rfl) (by decide) (fun K hK=>?_)
 refine value_ (w1:=?_) (v:=?_) (by rfl) rfl ?_ ?_
 rotate_left 2
 ·go_simp
  constructor
  (rfl);(rfl)
 refine hK.out _ _ ⟨(cell_kept (hHeld.1) (Kept.alloc (Kept.refl _ (fun _=>False)) _) (fun h=>h)),(cell_kept (hHeld.2.1) (Kept.alloc (Kept.refl _ (fun _=>False)) _) (fun h=>h)),(cell_kept (hHeld.2.2.1) (Kept.alloc (Kept.refl _ (fun _=>False)) _) (fun h=>h)),(cell_kept (hHeld.2.2.2) (Kept.alloc (Kept.refl _ (fun _=>False)) _) (fun h=>h))⟩ (fun hHeld=>?_)
 clear hK K;refine norm_ (a':=?_) ?_ ?_;rotate_left
 ·show Act.put _ (some 20) _ = _
  simp only [Act.put,List.setIfInBounds_toArray,List.set_cons_zero,List.set_cons_succ,i64_w,i32_w];rfl
 refine one_ (i:=15) (N:=some 21) #[true,true,true,true,true,true,true,true,true,true,true,true,true,true,true,true,false,false,false] rfl rfl (by kernel_rfl) (by decide) (fun K hK=>?_)
 refine step_append_lies _ (by rfl) _ _ _ (by rfl) base 59 i0 _ 7 64 Try.underlying27 hi0 hz0 hz1 hz2 rfl (by omega) u _ _ (by rfl) (ho.out.alloc _) ⟨W.heap.size,0,none⟩ 1 1 (c59 ⟨3,⟨#[]⟩,axis,pos,kf,wrap64 (at_ + 1),0⟩) (by rfl) (by rfl) (World.news_of_block (cs:=#[.int .i64 3,.string ⟨#[]⟩,.int .i64 axis,.int .i64 pos,.int .i64 kf,.int .i64 (wrap64 (at_ + 1)),.int .i64 0]) (t:=59) (fr:=(0,0)) (heap_alloc_new W _)) (by simp [c59,Value.oneCell']) (by omega) (by have:=HN.out;simp [maxLen];omega) (by have:=HN.out;omega) (by have:=hbb.out;simp;omega) (W.heap.size + 1) (by simp) ?_
 intro gg cap w1 hown1 hgrow hat hlt;have gf1 : w1.frozen? ⟨g,3,none⟩ = false:=(hgrow.frozen_far _ (by simp;omega) (Ne.symm ag)).trans (frz_alloc gf lg _)
 refine hK.out _ _ ⟨((hgrow.cell_far _ (by simp;omega) (Ne.symm n5)).trans (hHeld.1)),((hgrow.cell_far _ (by simp;omega) (Ne.symm ag)).trans (hHeld.2.1)),((hgrow.cell_far _ (by simp;omega) (Ne.symm ag)).trans (hHeld.2.2.1)),((hgrow.cell_far _ (by simp;omega) (Ne.symm n12)).trans (hHeld.2.2.2))⟩ (fun hHeld=>?_)
 clear hK K;refine norm_ (a':=?_) ?_ ?_;rotate_left
 ·show Act.put _ (some 21) _ = _
  simp only [Act.put,List.setIfInBounds_toArray,List.set_cons_zero,List.set_cons_succ,i64_w,i32_w];rfl
 refine pure_ (i:=16) (N:=some 22) (v:=?_) (a':=?_) #[true,true,true,true,true,true,true,true,true,true,true,true,true,true,true,true,true,false,false] rfl rfl (by kernel_rfl) (fun _ _ _ h=>h) (Or.inl ⟨by rfl, ?_⟩) ?_ ?_;rotate_left;(intro w';go_simp;with_reducible rfl);rotate_left;(simp only [Act.put,List.setIfInBounds_toArray,List.set_cons_zero,List.set_cons_succ,i64_w,i32_w];rfl);refine pure_ (i:=17) (N:=some 23) (v:=?_) (a':=?_) #[true,true,true,true,true,true,true,true,true,true,true,true,true,true,true,true,true,true,false] rfl rfl (by kernel_rfl) (fun _ _ _ h=>h) (Or.inl ⟨by rfl, ?_⟩) ?_ ?_;rotate_left;(intro w';go_simp;with_reducible rfl);rotate_left;(simp only [Act.put,List.setIfInBounds_toArray,List.set_cons_zero,List.set_cons_succ,i64_w,i32_w];rfl)
 refine last_ (i:=18) (N:=none) #[true,true,true,true,true,true,true,true,true,true,true,true,true,true,true,true,true,true,true] rfl rfl (by kernel_rfl) (by decide) (fun K hK=>?_)
 refine skip_ (w1:=?_) (by rfl) rfl ?_ ?_
 rotate_left;(go_simp;rfl)
 refine hK.out _ _ ?_
 clear hK K
 refine done_ (by kernel_rfl) ?_
 go_wp2
 (try simp only [Exit.inBlock,Exit.then])
 refine bodyPost_end (results_none rfl _ _ _) rfl ?_
 have hown2 : w1.ownsRow base 59 7 (.slice (some ⟨gg,0,none⟩) (ns.length + 1) cap) (ns ++ [(⟨3,⟨#[]⟩,axis,pos,kf,wrap64 (at_ + 1),0⟩ : S59)]).length (rows59 (ns ++ [(⟨3,⟨#[]⟩,axis,pos,kf,wrap64 (at_ + 1),0⟩ : S59)])):=by
  rw [List.length_append,rows59_snoc];exact hown1
 obtain ⟨hg2,hat2⟩ := grown_alloc hgrow hat;exact ⟨rfl,_,HP.out.put hown2 hg2,HP.out.stp hg2 hat2⟩
end Go.Proofs.Ytdnjagfbhppmbaa.PA
