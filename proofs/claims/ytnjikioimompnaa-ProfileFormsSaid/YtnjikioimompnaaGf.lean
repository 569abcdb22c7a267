import Derived.Test.YtnjikioimompnaaGc
import Derived.Test.YtnjikioimompnaaGe
namespace Go.Proofs.Ytnjikioimompnaa.PA
open Go.RowKit Go.Shelf Go.Proofs.YtnjikioimompnaaW.PrintWords Go.Proofs.YtnjikioimompnaaW.PrintLast Go.Proofs.YtnjikioimompnaaW.PrintMore
set_option linter.unusedVariables false
set_option linter.unusedSimpArgs false
theorem size31 : (Try.prog.info? 31).map (·.size) = some 2:=by kernel_rfl
theorem store31 (w : World) (b : Nat) (a0 a1 : Int) (h : w.heap[b]? = some (.cells #[.int .i64 0,.int .i64 0] 31)) : (Instr.storeAt 31 (.pointer (some ⟨b,0,none⟩)) (.agg #[.int .i64 a0,.int .i64 a1])).run Try.prog w = .ok () (w.setRow b #[.int .i64 a0,.int .i64 a1]) :=
 run_storeAt_row w b 31 31 _ _ h rfl size31 (by intro v hv;simp at hv;rcases hv with rfl|rfl <;> rfl)
def uncL (l : List S31) (e : Nat) (p : Int → Int → Bool) : Nat → Nat → Option Int
 | 0,_=>none
 | k + 1,i=>if i = e then some (-1) else if p (wrap64 ((l.getD ((i + 1) % l.length) z31).f0 - (l.getD i z31).f0)) (wrap64 ((l.getD ((i + 1) % l.length) z31).f1 - (l.getD i z31).f1)) = true then some i else uncL l e p k ((i + 1) % l.length)
theorem extF_lt (k0 k1 : Int → Int → Int) (l : List S31) (h : 0 < l.length) : extF k0 k1 l l.length < l.length:=by have:=extF_le k0 k1 l l.length;omega
set_option maxRecDepth 100000 in
set_option maxHeartbeats 4000000 in
theorem undercut_any (d : Int) (g1 g2 g3 : Nat) (f0 f1 t0 t1 : Int → Int → Int) (p : Int → Int → Bool)
  (e3 : ∀ args w,(callFunc g3 args).run Try.prog w = .ok (.enter g3 args) w)
  (C1 : ∀ (A : Option Addr) (c : Nat) (l : List S31) (w : World),Kd.C k31 w A l.length l → l.length ≤ 1000000 → Calls Try.prog 58 #[.slice A l.length c,.func (.func g1) #[] #[]] w fun e w'=>e = .returned (.int .i64 (extF f0 f1 l l.length)) ∧ Below w.heap.size w w')
  (C2 : ∀ (A : Option Addr) (c : Nat) (l : List S31) (w : World),Kd.C k31 w A l.length l → l.length ≤ 1000000 → Calls Try.prog 58 #[.slice A l.length c,.func (.func g2) #[] #[]] w fun e w'=>e = .returned (.int .i64 (extF t0 t1 l l.length)) ∧ Below w.heap.size w w')
  (C3 : Bad g3 p) (hix : ∀ w,(Instr.index 72 sidesV (.int .i64 d)).run Try.prog w = .ok (.agg #[.func (.func g1) #[] #[],.func (.func g2) #[] #[],.func (.func g3) #[] #[]]) w)
  (k : Nat) (A : Option Addr) (c : Nat) (l : List S31) (r : Int) (w : World) (hr : Kd.C k31 w A l.length l) (hl : l.length ≤ 1000000) (h0 : 0 < l.length) (h : uncL l (extF t0 t1 l l.length) p k (extF f0 f1 l l.length) = some r) :
  Calls Try.prog 48 #[.slice A l.length c,.int .i64 d] w fun e w'=>e = .returned (.int .i64 r) ∧ Below w.heap.size w w':=by
 have D1:=fun W (hB : Below w.heap.size w W)=>C1 A c l W (Kd.C_below hr hB) hl
 have D2:=fun W (hB : Below w.heap.size w W)=>C2 A c l W (Kd.C_below hr hB) hl
 have HE0:=aside (extF_lt t0 t1 l h0);have HS0:=aside (extF_lt f0 f1 l h0);generalize extF f0 f1 l l.length = st at D1 h HS0;generalize extF t0 t1 l l.length = en at D2 h HE0;have H1:=aside D1;have H2:=aside D2;have H3:=aside C3;have H:=aside h;have HR:=aside hr;have HS:=aside (fun W=>sides_any W);generalize sidesV = SV at hix HS;clear C1 C2 C3 D1 D2 h hr
 go_enter Try.func48,Try.ntmps48
 go_upto_region 2 with (go_at_call 47;refine (HS.out _).mono ?_;rintro e w1 ⟨rfl,hb⟩;have B1:=aside hb;clear hb)
 have B2:=below_al B1.out (.cells #[.func (.func g1) #[] #[],.func (.func g2) #[] #[],.func (.func g3) #[] #[]] 71)
 have u0 : (w1.alloc (.cells #[.func (.func g1) #[] #[],.func (.func g2) #[] #[],.func (.func g3) #[] #[]] 71)).cell? ⟨w1.heap.size,0,none⟩ = some (.func (.func g1) #[] #[]):=by simp
 have u1 : (w1.alloc (.cells #[.func (.func g1) #[] #[],.func (.func g2) #[] #[],.func (.func g3) #[] #[]] 71)).cell? ⟨w1.heap.size,1,none⟩ = some (.func (.func g2) #[] #[]):=by simp
 have u2 : (w1.alloc (.cells #[.func (.func g1) #[] #[],.func (.func g2) #[] #[],.func (.func g3) #[] #[]] 71)).cell? ⟨w1.heap.size,2,none⟩ = some (.func (.func g3) #[] #[]):=by simp
 have HB2:=aside B2;have U0:=aside u0;have U2:=aside u2;clear B1 B2 hix HS u0 u2;generalize (w1.alloc (.cells #[.func (.func g1) #[] #[],.func (.func g2) #[] #[],.func (.func g3) #[] #[]] 71)) = W1 at *
 go_upto_region 3 with (go_at_call 58;refine (H2.out _ HB2.out).mono ?_;rintro e w2 ⟨rfl,hb⟩;have B2:=aside hb;clear hb)
 have u0:=cellB B2.out U0.out;have HB3:=aside (below_trans HB2.out B2.out);have U2':=aside (cellB B2.out U2.out);clear u1 U0 U2 B2 HB2
 go_wp2_with (go_at_call 58;refine (H1.out _ HB3.out).mono ?_;rintro e w3 ⟨rfl,hb⟩;have B3:=aside hb;clear hb)
 have HB4:=aside (below_trans HB3.out B3.out);have U2:=aside (cellB B3.out U2'.out);clear u0 U2' HB3 B3 H1 H2
 go_loopg [7] k (fun gg v7 wr=>∃ i : Nat,v7 = .int .i64 i ∧ i < l.length ∧ Aside (uncL l en p gg i = some r) ∧ Aside (wr.cell? ⟨w1.heap.size,2,none⟩ = some (.func (.func g3) #[] #[])) ∧ Aside (Below w.heap.size w wr))
 case atStart=>exact ⟨st,rfl,HS0.out,H,U2,HB4⟩
 clear H U2 HB4 HS0
 case round =>
  obtain ⟨i,rfl,hi,H,U,B⟩ := hrel;have hen:=HE0.out
  cases gk with
  | zero=>exact absurd H.out (by simp [uncL])
  | succ gk =>
  have h:=H.out
  unfold uncL at h
  by_cases hie : i = en
  ·rw [if_pos hie] at h;obtain rfl:=Option.some.inj h
   have hb1 : ((i : Int) != (en : Int)) = false:=by simp [hie]
   have hb2 : ((i : Int) == (en : Int)) = true:=by simp [hie]
   clear H h hie
   go_wp2
   go_ret
   exact ⟨rfl,B.out⟩
  ·rw [if_neg hie] at h
   have hb1 : ((i : Int) != (en : Int)) = true:=by simp;omega
   have hb2 : ((i : Int) == (en : Int)) = false:=by simp;omega
   obtain ⟨m,hm⟩ : ∃ m,(i + 1) % l.length = m:=⟨_,rfl⟩
   have hml : m < l.length:=by rw [← hm];exact Nat.mod_lt _ (by omega)
   rw [hm] at h;have RB:=Kd.C_below HR.out B.out;obtain ⟨ad,hA,c0,c1⟩ := at_T31 RB (i : Int) (by omega) (by omega);obtain ⟨ad',hA',d0,d1⟩ := at_T31 RB (m : Int) (by omega) (by omega);rw [hA] at hA';obtain rfl:=Option.some.inj hA'
   have hx : rd_T31 l (i : Int) = l.getD i z31:=by unfold rd_T31;simp
   have hy : rd_T31 l (m : Int) = l.getD m z31:=by unfold rd_T31;simp
   rw [hx] at c0 c1;rw [hy] at d0 d1;simp only [Int.toNat_natCast] at c0 c1 d0 d1
   have CN:=fun W=>next_any A c l.length i m W hi hl hm
   have HN:=aside CN;have HM:=aside hm;generalize (l.getD i z31).f0 = x0 at c0 h;generalize (l.getD i z31).f1 = x1 at c1 h;generalize (l.getD m z31).f0 = y0 at d0 h;generalize (l.getD m z31).f1 = y1 at d1 h;have H':=aside h
   have hi' : (i : Int) < (l.length : Int):=by omega
   have hmi' : (m : Int) < (l.length : Int):=by omega
   subst hA;clear RB hx hy CN hm h H hie
   go_upto_region 6 with fail
   have B0:=below_dr (Below.refl _ wr)
   refine start_ (n:=14) (S:=fun w'=>w'.cell? (ad.add (i * 2)) = some (.int .i64 x0) ∧ w'.cell? ⟨(ad.add (i * 2)).block,(ad.add (i * 2)).off + 1,none⟩ = some (.int .i64 x1) ∧ w'.cell? (ad.add (m * 2)) = some (.int .i64 y0) ∧ w'.cell? ⟨(ad.add (m * 2)).block,(ad.add (m * 2)).off + 1,none⟩ = some (.int .i64 y1)) (ds:=[13]) #[false,false,false,false,false,false,false,false,false,false,false,false,false,false] (by kernel_rfl) rfl rfl ⟨cellB B0 c0,cellB B0 c1,cellB B0 d0,cellB B0 d1⟩ (fun hHeld=>?_)
   refine pure_ (i:=0) (N:=some 27) (v:=?_) (a':=?_) #[true,false,false,false,false,false,false,false,false,false,false,false,false,false] rfl rfl (by kernel_rfl) (fun _ _ _ h=>h) (Or.inl ⟨by rfl, ?_⟩) ?_ ?_;rotate_left;(intro w';go_simp;with_reducible rfl);rotate_left;(simp only [Act.put,List.setIfInBounds_toArray,List.set_cons_zero,List.set_cons_succ,i64_w,i32_w];rfl);refine pure_ (i:=1) (N:=some 28) (v:=?_) (a':=?_) #[true,true,false,false,false,false,false,false,false,false,false,false,false,false] rfl rfl (by kernel_rfl) (fun _ _ _ h=>h) (Or.inl ⟨by rfl, ?_⟩) ?_ ?_;rotate_left;(intro w';go_simp;with_reducible rfl);rotate_left;(simp only [Act.put,List.setIfInBounds_toArray,List.set_cons_zero,List.set_cons_succ,i64_w,i32_w];rfl);refine pure_ (i:=2) (N:=some 29) (v:=?_) (a':=?_) #[true,true,true,false,false,false,false,false,false,false,false,false,false,false] rfl rfl (by kernel_rfl) (fun _ _ _ h=>h) (Or.inl ⟨by rfl, ?_⟩) ?_ ?_;rotate_left;(intro w';go_simp;with_reducible rfl);rotate_left;(simp only [Act.put,List.setIfInBounds_toArray,List.set_cons_zero,List.set_cons_succ,i64_w,i32_w];rfl);refine pure_ (i:=4) (N:=some 31) (v:=?_) (a':=?_) #[true,true,true,false,true,false,false,false,false,false,false,false,false,false] rfl rfl (by kernel_rfl) (fun _ _ _ h=>h) (Or.inl ⟨by rfl, ?_⟩) ?_ ?_;rotate_left;(intro w';go_simp;with_reducible rfl);rotate_left;(simp only [Act.put,List.setIfInBounds_toArray,List.set_cons_zero,List.set_cons_succ,i64_w,i32_w];rfl);refine pure_ (i:=5) (N:=some 32) (v:=?_) (a':=?_) #[true,true,true,false,true,true,false,false,false,false,false,false,false,false] rfl rfl (by kernel_rfl) (fun _ _ _ h=>h) (Or.inl ⟨by rfl, ?_⟩) ?_ ?_;rotate_left;(intro w';go_simp;with_reducible rfl);rotate_left;(simp only [Act.put,List.setIfInBounds_toArray,List.set_cons_zero,List.set_cons_succ,i64_w,i32_w];rfl);refine pure_ (i:=6) (N:=some 33) (v:=?_) (a':=?_) #[true,true,true,false,true,true,true,false,false,false,false,false,false,false] rfl rfl (by kernel_rfl) (fun _ _ _ h=>h) (Or.inl ⟨by rfl, ?_⟩) ?_ ?_;rotate_left;(intro w';go_simp;with_reducible rfl);rotate_left;(simp only [Act.put,List.setIfInBounds_toArray,List.set_cons_zero,List.set_cons_succ,i64_w,i32_w];rfl);refine take_ (i:=3) (N:=some 30) (v:=?_) (a':=?_) #[true,true,true,true,true,true,true,false,false,false,false,false,false,false] rfl rfl (by kernel_rfl) (fun _ _ _ h=>h) (Or.inl ⟨by rfl, ?_⟩) hHeld ?_ ?_;rotate_left;(rintro w' ⟨s0,s1,s2,s3⟩;go_simp;with_reducible rfl);rotate_left;(simp only [Act.put,List.setIfInBounds_toArray,List.set_cons_zero,List.set_cons_succ,i64_w,i32_w];rfl)
   refine join_ (σ:=Nat × Nat) 2 #[true,true,true,true,true,true,true,true,true,true,true,true,false,false] (fun s=>[(34,.int .i64 m),(35,.pointer (some (ad.add (m * 2)))),(36,.agg #[.int .i64 y0,.int .i64 y1]),(8,.pointer (some ⟨s.1,0,none⟩)),(9,.pointer (some ⟨s.2,0,none⟩))]) (fun s w'=>Below wr.heap.size wr w' ∧ w'.heap[s.1]? = some (.cells #[.int .i64 0,.int .i64 0] 31) ∧ w'.heap[s.2]? = some (.cells #[.int .i64 0,.int .i64 0] 31) ∧ s.1 ≠ s.2 ∧ wr.heap.size ≤ s.1 ∧ wr.heap.size ≤ s.2) ?_ ?_
   rotate_left
   ·intro hCont
    refine three_ (i:=7) (j:=10) (k:=11) (Ni:=some 34) (Nj:=some 8) (Nk:=some 9) #[true,true,true,true,true,true,true,true,false,false,false,false,false,false] #[true,true,true,true,true,true,true,false,false,false,true,false,false,false] #[true,true,true,true,true,true,true,false,false,false,false,true,false,false] rfl rfl rfl rfl rfl rfl (by kernel_rfl) (by decide) (by decide) (by decide) (fun K hK=>?_) (fun K hK=>?_) (fun K hK=>?_)
    ·skip
     refine goes_ Try.func42 (by kernel_rfl) rfl #[.slice (some ad) l.length c,.int .i64 i] (by rfl) rfl rfl (by simp only [List.map_toArray,List.map_cons,List.map_nil];rfl) ?_
     with_reducible refine (HN.out _).mono ?_
     rintro e w_ ⟨rfl,rfl⟩;refine ⟨_,rfl, ?_⟩;have B1:=B0
     refine hK.out _ _ ⟨cellB B1 c0,cellB B1 c1,cellB B1 d0,cellB B1 d1⟩ (fun hHeld=>?_)
     clear hK K;refine norm_ (a':=?_) ?_ ?_;rotate_left
     ·show Act.put _ (some 34) _ = _
      simp only [Act.put,List.setIfInBounds_toArray,List.set_cons_zero,List.set_cons_succ,i64_w,i32_w];rfl
     refine pure_ (i:=8) (N:=some 35) (v:=?_) (a':=?_) #[true,true,true,true,true,true,true,true,true,false,false,false,false,false] rfl rfl (by kernel_rfl) (fun _ _ _ h=>h) (Or.inl ⟨by rfl, ?_⟩) ?_ ?_;rotate_left;(intro w';go_simp;with_reducible rfl);rotate_left;(simp only [Act.put,List.setIfInBounds_toArray,List.set_cons_zero,List.set_cons_succ,i64_w,i32_w];rfl);refine take_ (i:=9) (N:=some 36) (v:=?_) (a':=?_) #[true,true,true,true,true,true,true,true,true,true,false,false,false,false] rfl rfl (by kernel_rfl) (fun _ _ _ h=>h) (Or.inl ⟨by rfl, ?_⟩) hHeld ?_ ?_;rotate_left;(rintro w' ⟨s0,s1,s2,s3⟩;go_simp;with_reducible rfl);rotate_left;(simp only [Act.put,List.setIfInBounds_toArray,List.set_cons_zero,List.set_cons_succ,i64_w,i32_w];rfl)
     refine two_ (i:=10) (j:=11) (Ni:=some 8) (Nj:=some 9) #[true,true,true,true,true,true,true,true,true,true,true,false,false,false] #[true,true,true,true,true,true,true,true,true,true,false,true,false,false] rfl rfl rfl rfl (by kernel_rfl) (by decide) (by decide) (fun K hK=>?_) (fun K hK=>?_)
     ·skip
      refine value_ (w1:=?_) (v:=?_) (by rfl) rfl ?_ ?_
      rotate_left 2
      ·go_simp
       constructor
       (rfl);(rfl)
      have B2:=below_al B1 (.cells #[.int .i64 0,.int .i64 0] 31)
      have h10_2 : (wr.drew.alloc (.cells #[.int .i64 0,.int .i64 0] 31)).heap[wr.heap.size]? = some (.cells #[.int .i64 0,.int .i64 0] 31):=by have h:=heap_alloc_new (wr.drew) (.cells #[.int .i64 0,.int .i64 0] 31);rwa [show (wr.drew).heap.size = wr.heap.size from by simp] at h
      have g10 : wr.heap.size ≤ wr.heap.size:=by have h:=B1.size;(try simp at h);omega
      refine hK.out _ _ ⟨cellB B2 c0,cellB B2 c1,cellB B2 d0,cellB B2 d1⟩ (fun hHeld=>?_)
      clear hK K;refine norm_ (a':=?_) ?_ ?_;rotate_left
      ·show Act.put _ (some 8) _ = _
       simp only [Act.put,List.setIfInBounds_toArray,List.set_cons_zero,List.set_cons_succ,i64_w,i32_w];rfl
      refine one_ (i:=11) (N:=some 9) #[true,true,true,true,true,true,true,true,true,true,true,true,false,false] rfl rfl (by kernel_rfl) (by decide) (fun K hK=>?_)
      refine value_ (w1:=?_) (v:=?_) (by rfl) rfl ?_ ?_
      rotate_left 2
      ·go_simp
       constructor
       (rfl);(rfl)
      have B3:=below_al B2 (.cells #[.int .i64 0,.int .i64 0] 31)
      have h11_3 : ((wr.drew.alloc (.cells #[.int .i64 0,.int .i64 0] 31)).alloc (.cells #[.int .i64 0,.int .i64 0] 31)).heap[wr.heap.size + 1]? = some (.cells #[.int .i64 0,.int .i64 0] 31):=by have h:=heap_alloc_new ((wr.drew.alloc (.cells #[.int .i64 0,.int .i64 0] 31))) (.cells #[.int .i64 0,.int .i64 0] 31);rwa [show ((wr.drew.alloc (.cells #[.int .i64 0,.int .i64 0] 31))).heap.size = wr.heap.size + 1 from by simp] at h
      have g11 : wr.heap.size ≤ wr.heap.size + 1:=by have h:=B2.size;(try simp at h);omega
      have h10_3:=(Below.heap_alloc ((wr.drew.alloc (.cells #[.int .i64 0,.int .i64 0] 31))) (.cells #[.int .i64 0,.int .i64 0] 31) _ (blk_lt h10_2)).trans h10_2
      have hne : wr.heap.size ≠ wr.heap.size + 1:=by have h:=blk_lt h10_2;(try simp at h);omega
      refine hK.out _ _ ⟨cellB B3 c0,cellB B3 c1,cellB B3 d0,cellB B3 d1⟩ (fun hHeld=>?_)
      clear hK K;refine norm_ (a':=?_) ?_ ?_;rotate_left
      ·show Act.put _ (some 9) _ = _
       simp only [Act.put,List.setIfInBounds_toArray,List.set_cons_zero,List.set_cons_succ,i64_w,i32_w];rfl
      exact norm_ (by simp only [putAll,Act.put,List.setIfInBounds_toArray,List.set_cons_zero,List.set_cons_succ]) (hCont (wr.heap.size,wr.heap.size + 1) _ ⟨B3,h10_3,h11_3,hne,g10,g11⟩)
     ·skip
      refine value_ (w1:=?_) (v:=?_) (by rfl) rfl ?_ ?_
      rotate_left 2
      ·go_simp
       constructor
       (rfl);(rfl)
      have B2:=below_al B1 (.cells #[.int .i64 0,.int .i64 0] 31)
      have h11_2 : (wr.drew.alloc (.cells #[.int .i64 0,.int .i64 0] 31)).heap[wr.heap.size]? = some (.cells #[.int .i64 0,.int .i64 0] 31):=by have h:=heap_alloc_new (wr.drew) (.cells #[.int .i64 0,.int .i64 0] 31);rwa [show (wr.drew).heap.size = wr.heap.size from by simp] at h
      have g11 : wr.heap.size ≤ wr.heap.size:=by have h:=B1.size;(try simp at h);omega
      refine hK.out _ _ ⟨cellB B2 c0,cellB B2 c1,cellB B2 d0,cellB B2 d1⟩ (fun hHeld=>?_)
      clear hK K;refine norm_ (a':=?_) ?_ ?_;rotate_left
      ·show Act.put _ (some 9) _ = _
       simp only [Act.put,List.setIfInBounds_toArray,List.set_cons_zero,List.set_cons_succ,i64_w,i32_w];rfl
      refine one_ (i:=10) (N:=some 8) #[true,true,true,true,true,true,true,true,true,true,true,true,false,false] rfl rfl (by kernel_rfl) (by decide) (fun K hK=>?_)
      refine value_ (w1:=?_) (v:=?_) (by rfl) rfl ?_ ?_
      rotate_left 2
      ·go_simp
       constructor
       (rfl);(rfl)
      have B3:=below_al B2 (.cells #[.int .i64 0,.int .i64 0] 31)
      have h10_3 : ((wr.drew.alloc (.cells #[.int .i64 0,.int .i64 0] 31)).alloc (.cells #[.int .i64 0,.int .i64 0] 31)).heap[wr.heap.size + 1]? = some (.cells #[.int .i64 0,.int .i64 0] 31):=by have h:=heap_alloc_new ((wr.drew.alloc (.cells #[.int .i64 0,.int .i64 0] 31))) (.cells #[.int .i64 0,.int .i64 0] 31);rwa [show ((wr.drew.alloc (.cells #[.int .i64 0,.int .i64 0] 31))).heap.size = wr.heap.size + 1 from by simp] at h
      have g10 : wr.heap.size ≤ wr.heap.size + 1:=by have h:=B2.size;(try simp at h);omega
      have h11_3:=(Below.heap_alloc ((wr.drew.alloc (.cells #[.int .i64 0,.int .i64 0] 31))) (.cells #[.int .i64 0,.int .i64 0] 31) _ (blk_lt h11_2)).trans h11_2
      have hne : wr.heap.size + 1 ≠ wr.heap.size:=by have h:=blk_lt h11_2;(try simp at h);omega
      refine hK.out _ _ ⟨cellB B3 c0,cellB B3 c1,cellB B3 d0,cellB B3 d1⟩ (fun hHeld=>?_)
      clear hK K;refine norm_ (a':=?_) ?_ ?_;rotate_left
      ·show Act.put _ (some 8) _ = _
       simp only [Act.put,List.setIfInBounds_toArray,List.set_cons_zero,List.set_cons_succ,i64_w,i32_w];rfl
      exact norm_ (by simp only [putAll,Act.put,List.setIfInBounds_toArray,List.set_cons_zero,List.set_cons_succ]) (hCont (wr.heap.size + 1,wr.heap.size) _ ⟨B3,h10_3,h11_3,hne,g10,g11⟩)
    ·skip
     refine value_ (w1:=?_) (v:=?_) (by rfl) rfl ?_ ?_
     rotate_left 2
     ·go_simp
      constructor
      (rfl);(rfl)
     have B1:=below_al B0 (.cells #[.int .i64 0,.int .i64 0] 31)
     have h10_1 : (wr.drew.alloc (.cells #[.int .i64 0,.int .i64 0] 31)).heap[wr.heap.size]? = some (.cells #[.int .i64 0,.int .i64 0] 31):=by have h:=heap_alloc_new (wr.drew) (.cells #[.int .i64 0,.int .i64 0] 31);rwa [show (wr.drew).heap.size = wr.heap.size from by simp] at h
     have g10 : wr.heap.size ≤ wr.heap.size:=by have h:=B0.size;(try simp at h);omega
     refine hK.out _ _ ⟨cellB B1 c0,cellB B1 c1,cellB B1 d0,cellB B1 d1⟩ (fun hHeld=>?_)
     clear hK K;refine norm_ (a':=?_) ?_ ?_;rotate_left
     ·show Act.put _ (some 8) _ = _
      simp only [Act.put,List.setIfInBounds_toArray,List.set_cons_zero,List.set_cons_succ,i64_w,i32_w];rfl
     refine two_ (i:=7) (j:=11) (Ni:=some 34) (Nj:=some 9) #[true,true,true,true,true,true,true,true,false,false,true,false,false,false] #[true,true,true,true,true,true,true,false,false,false,true,true,false,false] rfl rfl rfl rfl (by kernel_rfl) (by decide) (by decide) (fun K hK=>?_) (fun K hK=>?_)
     ·skip
      refine goes_ Try.func42 (by kernel_rfl) rfl #[.slice (some ad) l.length c,.int .i64 i] (by rfl) rfl rfl (by simp only [List.map_toArray,List.map_cons,List.map_nil];rfl) ?_
      with_reducible refine (HN.out _).mono ?_
      rintro e w_ ⟨rfl,rfl⟩;refine ⟨_,rfl, ?_⟩;have B2:=B1;have h10_2:=h10_1
      refine hK.out _ _ ⟨cellB B2 c0,cellB B2 c1,cellB B2 d0,cellB B2 d1⟩ (fun hHeld=>?_)
      clear hK K;refine norm_ (a':=?_) ?_ ?_;rotate_left
      ·show Act.put _ (some 34) _ = _
       simp only [Act.put,List.setIfInBounds_toArray,List.set_cons_zero,List.set_cons_succ,i64_w,i32_w];rfl
      refine pure_ (i:=8) (N:=some 35) (v:=?_) (a':=?_) #[true,true,true,true,true,true,true,true,true,false,true,false,false,false] rfl rfl (by kernel_rfl) (fun _ _ _ h=>h) (Or.inl ⟨by rfl, ?_⟩) ?_ ?_;rotate_left;(intro w';go_simp;with_reducible rfl);rotate_left;(simp only [Act.put,List.setIfInBounds_toArray,List.set_cons_zero,List.set_cons_succ,i64_w,i32_w];rfl);refine take_ (i:=9) (N:=some 36) (v:=?_) (a':=?_) #[true,true,true,true,true,true,true,true,true,true,true,false,false,false] rfl rfl (by kernel_rfl) (fun _ _ _ h=>h) (Or.inl ⟨by rfl, ?_⟩) hHeld ?_ ?_;rotate_left;(rintro w' ⟨s0,s1,s2,s3⟩;go_simp;with_reducible rfl);rotate_left;(simp only [Act.put,List.setIfInBounds_toArray,List.set_cons_zero,List.set_cons_succ,i64_w,i32_w];rfl);refine one_ (i:=11) (N:=some 9) #[true,true,true,true,true,true,true,true,true,true,true,true,false,false] rfl rfl (by kernel_rfl) (by decide) (fun K hK=>?_)
      refine value_ (w1:=?_) (v:=?_) (by rfl) rfl ?_ ?_
      rotate_left 2
      ·go_simp
       constructor
       (rfl);(rfl)
      have B3:=below_al B2 (.cells #[.int .i64 0,.int .i64 0] 31)
      have h11_3 : ((wr.drew.alloc (.cells #[.int .i64 0,.int .i64 0] 31)).alloc (.cells #[.int .i64 0,.int .i64 0] 31)).heap[wr.heap.size + 1]? = some (.cells #[.int .i64 0,.int .i64 0] 31):=by have h:=heap_alloc_new ((wr.drew.alloc (.cells #[.int .i64 0,.int .i64 0] 31))) (.cells #[.int .i64 0,.int .i64 0] 31);rwa [show ((wr.drew.alloc (.cells #[.int .i64 0,.int .i64 0] 31))).heap.size = wr.heap.size + 1 from by simp] at h
      have g11 : wr.heap.size ≤ wr.heap.size + 1:=by have h:=B2.size;(try simp at h);omega
      have h10_3:=(Below.heap_alloc ((wr.drew.alloc (.cells #[.int .i64 0,.int .i64 0] 31))) (.cells #[.int .i64 0,.int .i64 0] 31) _ (blk_lt h10_2)).trans h10_2
      have hne : wr.heap.size ≠ wr.heap.size + 1:=by have h:=blk_lt h10_2;(try simp at h);omega
      refine hK.out _ _ ⟨cellB B3 c0,cellB B3 c1,cellB B3 d0,cellB B3 d1⟩ (fun hHeld=>?_)
      clear hK K;refine norm_ (a':=?_) ?_ ?_;rotate_left
      ·show Act.put _ (some 9) _ = _
       simp only [Act.put,List.setIfInBounds_toArray,List.set_cons_zero,List.set_cons_succ,i64_w,i32_w];rfl
      exact norm_ (by simp only [putAll,Act.put,List.setIfInBounds_toArray,List.set_cons_zero,List.set_cons_succ]) (hCont (wr.heap.size,wr.heap.size + 1) _ ⟨B3,h10_3,h11_3,hne,g10,g11⟩)
     ·skip
      refine value_ (w1:=?_) (v:=?_) (by rfl) rfl ?_ ?_
      rotate_left 2
      ·go_simp
       constructor
       (rfl);(rfl)
      have B2:=below_al B1 (.cells #[.int .i64 0,.int .i64 0] 31)
      have h11_2 : ((wr.drew.alloc (.cells #[.int .i64 0,.int .i64 0] 31)).alloc (.cells #[.int .i64 0,.int .i64 0] 31)).heap[wr.heap.size + 1]? = some (.cells #[.int .i64 0,.int .i64 0] 31):=by have h:=heap_alloc_new ((wr.drew.alloc (.cells #[.int .i64 0,.int .i64 0] 31))) (.cells #[.int .i64 0,.int .i64 0] 31);rwa [show ((wr.drew.alloc (.cells #[.int .i64 0,.int .i64 0] 31))).heap.size = wr.heap.size + 1 from by simp] at h
      have g11 : wr.heap.size ≤ wr.heap.size + 1:=by have h:=B1.size;(try simp at h);omega
      have h10_2:=(Below.heap_alloc ((wr.drew.alloc (.cells #[.int .i64 0,.int .i64 0] 31))) (.cells #[.int .i64 0,.int .i64 0] 31) _ (blk_lt h10_1)).trans h10_1
      have hne : wr.heap.size ≠ wr.heap.size + 1:=by have h:=blk_lt h10_1;(try simp at h);omega
      refine hK.out _ _ ⟨cellB B2 c0,cellB B2 c1,cellB B2 d0,cellB B2 d1⟩ (fun hHeld=>?_)
      clear hK K;refine norm_ (a':=?_) ?_ ?_;rotate_left
      ·show Act.put _ (some 9) _ = _
       simp only [Act.put,List.setIfInBounds_toArray,List.set_cons_zero,List.set_cons_succ,i64_w,i32_w];rfl
      refine one_ (i:=7) (N:=some 34) #[true,true,true,true,true,true,true,true,false,false,true,true,false,false] rfl rfl (by kernel_rfl) (by decide) (fun K hK=>?_);refine goes_ Try.func42 (by kernel_rfl) rfl #[.slice (some ad) l.length c,.int .i64 i] (by rfl) rfl rfl (by simp only [List.map_toArray,List.map_cons,List.map_nil];rfl) ?_
      with_reducible refine (HN.out _).mono ?_
      rintro e w_ ⟨rfl,rfl⟩;refine ⟨_,rfl, ?_⟩;have B3:=B2;have h10_3:=h10_2;have h11_3:=h11_2
      refine hK.out _ _ ⟨cellB B3 c0,cellB B3 c1,cellB B3 d0,cellB B3 d1⟩ (fun hHeld=>?_)
      clear hK K;refine norm_ (a':=?_) ?_ ?_;rotate_left
      ·show Act.put _ (some 34) _ = _
       simp only [Act.put,List.setIfInBounds_toArray,List.set_cons_zero,List.set_cons_succ,i64_w,i32_w];rfl
      refine pure_ (i:=8) (N:=some 35) (v:=?_) (a':=?_) #[true,true,true,true,true,true,true,true,true,false,true,true,false,false] rfl rfl (by kernel_rfl) (fun _ _ _ h=>h) (Or.inl ⟨by rfl, ?_⟩) ?_ ?_;rotate_left;(intro w';go_simp;with_reducible rfl);rotate_left;(simp only [Act.put,List.setIfInBounds_toArray,List.set_cons_zero,List.set_cons_succ,i64_w,i32_w];rfl);refine take_ (i:=9) (N:=some 36) (v:=?_) (a':=?_) #[true,true,true,true,true,true,true,true,true,true,true,true,false,false] rfl rfl (by kernel_rfl) (fun _ _ _ h=>h) (Or.inl ⟨by rfl, ?_⟩) hHeld ?_ ?_;rotate_left;(rintro w' ⟨s0,s1,s2,s3⟩;go_simp;with_reducible rfl);rotate_left;(simp only [Act.put,List.setIfInBounds_toArray,List.set_cons_zero,List.set_cons_succ,i64_w,i32_w];rfl);exact norm_ (by simp only [putAll,Act.put,List.setIfInBounds_toArray,List.set_cons_zero,List.set_cons_succ]) (hCont (wr.heap.size,wr.heap.size + 1) _ ⟨B3,h10_3,h11_3,hne,g10,g11⟩)
    ·skip
     refine value_ (w1:=?_) (v:=?_) (by rfl) rfl ?_ ?_
     rotate_left 2
     ·go_simp
      constructor
      (rfl);(rfl)
     have B1:=below_al B0 (.cells #[.int .i64 0,.int .i64 0] 31)
     have h11_1 : (wr.drew.alloc (.cells #[.int .i64 0,.int .i64 0] 31)).heap[wr.heap.size]? = some (.cells #[.int .i64 0,.int .i64 0] 31):=by have h:=heap_alloc_new (wr.drew) (.cells #[.int .i64 0,.int .i64 0] 31);rwa [show (wr.drew).heap.size = wr.heap.size from by simp] at h
     have g11 : wr.heap.size ≤ wr.heap.size:=by have h:=B0.size;(try simp at h);omega
     refine hK.out _ _ ⟨cellB B1 c0,cellB B1 c1,cellB B1 d0,cellB B1 d1⟩ (fun hHeld=>?_)
     clear hK K;refine norm_ (a':=?_) ?_ ?_;rotate_left
     ·show Act.put _ (some 9) _ = _
      simp only [Act.put,List.setIfInBounds_toArray,List.set_cons_zero,List.set_cons_succ,i64_w,i32_w];rfl
     refine two_ (i:=7) (j:=10) (Ni:=some 34) (Nj:=some 8) #[true,true,true,true,true,true,true,true,false,false,false,true,false,false] #[true,true,true,true,true,true,true,false,false,false,true,true,false,false] rfl rfl rfl rfl (by kernel_rfl) (by decide) (by decide) (fun K hK=>?_) (fun K hK=>?_)
     ·skip
      refine goes_ Try.func42 (by kernel_rfl) rfl #[.slice (some ad) l.length c,.int .i64 i] (by rfl) rfl rfl (by simp only [List.map_toArray,List.map_cons,List.map_nil];rfl) ?_
      with_reducible refine (HN.out _).mono ?_
      rintro e w_ ⟨rfl,rfl⟩;refine ⟨_,rfl, ?_⟩;have B2:=B1;have h11_2:=h11_1
      refine hK.out _ _ ⟨cellB B2 c0,cellB B2 c1,cellB B2 d0,cellB B2 d1⟩ (fun hHeld=>?_)
      clear hK K;refine norm_ (a':=?_) ?_ ?_;rotate_left
      ·show Act.put _ (some 34) _ = _
       simp only [Act.put,List.setIfInBounds_toArray,List.set_cons_zero,List.set_cons_succ,i64_w,i32_w];rfl
      refine pure_ (i:=8) (N:=some 35) (v:=?_) (a':=?_) #[true,true,true,true,true,true,true,true,true,false,false,true,false,false] rfl rfl (by kernel_rfl) (fun _ _ _ h=>h) (Or.inl ⟨by rfl, ?_⟩) ?_ ?_;rotate_left;(intro w';go_simp;with_reducible rfl);rotate_left;(simp only [Act.put,List.setIfInBounds_toArray,List.set_cons_zero,List.set_cons_succ,i64_w,i32_w];rfl);refine take_ (i:=9) (N:=some 36) (v:=?_) (a':=?_) #[true,true,true,true,true,true,true,true,true,true,false,true,false,false] rfl rfl (by kernel_rfl) (fun _ _ _ h=>h) (Or.inl ⟨by rfl, ?_⟩) hHeld ?_ ?_;rotate_left;(rintro w' ⟨s0,s1,s2,s3⟩;go_simp;with_reducible rfl);rotate_left;(simp only [Act.put,List.setIfInBounds_toArray,List.set_cons_zero,List.set_cons_succ,i64_w,i32_w];rfl);refine one_ (i:=10) (N:=some 8) #[true,true,true,true,true,true,true,true,true,true,true,true,false,false] rfl rfl (by kernel_rfl) (by decide) (fun K hK=>?_)
      refine value_ (w1:=?_) (v:=?_) (by rfl) rfl ?_ ?_
      rotate_left 2
      ·go_simp
       constructor
       (rfl);(rfl)
      have B3:=below_al B2 (.cells #[.int .i64 0,.int .i64 0] 31)
      have h10_3 : ((wr.drew.alloc (.cells #[.int .i64 0,.int .i64 0] 31)).alloc (.cells #[.int .i64 0,.int .i64 0] 31)).heap[wr.heap.size + 1]? = some (.cells #[.int .i64 0,.int .i64 0] 31):=by have h:=heap_alloc_new ((wr.drew.alloc (.cells #[.int .i64 0,.int .i64 0] 31))) (.cells #[.int .i64 0,.int .i64 0] 31);rwa [show ((wr.drew.alloc (.cells #[.int .i64 0,.int .i64 0] 31))).heap.size = wr.heap.size + 1 from by simp] at h
      have g10 : wr.heap.size ≤ wr.heap.size + 1:=by have h:=B2.size;(try simp at h);omega
      have h11_3:=(Below.heap_alloc ((wr.drew.alloc (.cells #[.int .i64 0,.int .i64 0] 31))) (.cells #[.int .i64 0,.int .i64 0] 31) _ (blk_lt h11_2)).trans h11_2
      have hne : wr.heap.size + 1 ≠ wr.heap.size:=by have h:=blk_lt h11_2;(try simp at h);omega
      refine hK.out _ _ ⟨cellB B3 c0,cellB B3 c1,cellB B3 d0,cellB B3 d1⟩ (fun hHeld=>?_)
      clear hK K;refine norm_ (a':=?_) ?_ ?_;rotate_left
      ·show Act.put _ (some 8) _ = _
       simp only [Act.put,List.setIfInBounds_toArray,List.set_cons_zero,List.set_cons_succ,i64_w,i32_w];rfl
      exact norm_ (by simp only [putAll,Act.put,List.setIfInBounds_toArray,List.set_cons_zero,List.set_cons_succ]) (hCont (wr.heap.size + 1,wr.heap.size) _ ⟨B3,h10_3,h11_3,hne,g10,g11⟩)
     ·skip
      refine value_ (w1:=?_) (v:=?_) (by rfl) rfl ?_ ?_
      rotate_left 2
      ·go_simp
       constructor
       (rfl);(rfl)
      have B2:=below_al B1 (.cells #[.int .i64 0,.int .i64 0] 31)
      have h10_2 : ((wr.drew.alloc (.cells #[.int .i64 0,.int .i64 0] 31)).alloc (.cells #[.int .i64 0,.int .i64 0] 31)).heap[wr.heap.size + 1]? = some (.cells #[.int .i64 0,.int .i64 0] 31):=by have h:=heap_alloc_new ((wr.drew.alloc (.cells #[.int .i64 0,.int .i64 0] 31))) (.cells #[.int .i64 0,.int .i64 0] 31);rwa [show ((wr.drew.alloc (.cells #[.int .i64 0,.int .i64 0] 31))).heap.size = wr.heap.size + 1 from by simp] at h
      have g10 : wr.heap.size ≤ wr.heap.size + 1:=by have h:=B1.size;(try simp at h);omega
      have h11_2:=(Below.heap_alloc ((wr.drew.alloc (.cells #[.int .i64 0,.int .i64 0] 31))) (.cells #[.int .i64 0,.int .i64 0] 31) _ (blk_lt h11_1)).trans h11_1
      have hne : wr.heap.size + 1 ≠ wr.heap.size:=by have h:=blk_lt h11_1;(try simp at h);omega
      refine hK.out _ _ ⟨cellB B2 c0,cellB B2 c1,cellB B2 d0,cellB B2 d1⟩ (fun hHeld=>?_)
      clear hK K;refine norm_ (a':=?_) ?_ ?_;rotate_left
      ·show Act.put _ (some 8) _ = _
       simp only [Act.put,List.setIfInBounds_toArray,List.set_cons_zero,List.set_cons_succ,i64_w,i32_w];rfl
      refine one_ (i:=7) (N:=some 34) #[true,true,true,true,true,true,true,true,false,false,true,true,false,false] rfl rfl (by kernel_rfl) (by decide) (fun K hK=>?_);refine goes_ Try.func42 (by kernel_rfl) rfl #[.slice (some ad) l.length c,.int .i64 i] (by rfl) rfl rfl (by simp only [List.map_toArray,List.map_cons,List.map_nil];rfl) ?_
      with_reducible refine (HN.out _).mono ?_
      rintro e w_ ⟨rfl,rfl⟩;refine ⟨_,rfl, ?_⟩;have B3:=B2;have h10_3:=h10_2;have h11_3:=h11_2
      refine hK.out _ _ ⟨cellB B3 c0,cellB B3 c1,cellB B3 d0,cellB B3 d1⟩ (fun hHeld=>?_)
      clear hK K;refine norm_ (a':=?_) ?_ ?_;rotate_left
      ·show Act.put _ (some 34) _ = _
       simp only [Act.put,List.setIfInBounds_toArray,List.set_cons_zero,List.set_cons_succ,i64_w,i32_w];rfl
      refine pure_ (i:=8) (N:=some 35) (v:=?_) (a':=?_) #[true,true,true,true,true,true,true,true,true,false,true,true,false,false] rfl rfl (by kernel_rfl) (fun _ _ _ h=>h) (Or.inl ⟨by rfl, ?_⟩) ?_ ?_;rotate_left;(intro w';go_simp;with_reducible rfl);rotate_left;(simp only [Act.put,List.setIfInBounds_toArray,List.set_cons_zero,List.set_cons_succ,i64_w,i32_w];rfl);refine take_ (i:=9) (N:=some 36) (v:=?_) (a':=?_) #[true,true,true,true,true,true,true,true,true,true,true,true,false,false] rfl rfl (by kernel_rfl) (fun _ _ _ h=>h) (Or.inl ⟨by rfl, ?_⟩) hHeld ?_ ?_;rotate_left;(rintro w' ⟨s0,s1,s2,s3⟩;go_simp;with_reducible rfl);rotate_left;(simp only [Act.put,List.setIfInBounds_toArray,List.set_cons_zero,List.set_cons_succ,i64_w,i32_w];rfl);exact norm_ (by simp only [putAll,Act.put,List.setIfInBounds_toArray,List.set_cons_zero,List.set_cons_succ]) (hCont (wr.heap.size + 1,wr.heap.size) _ ⟨B3,h10_3,h11_3,hne,g10,g11⟩)
   rintro ⟨b8,b9⟩ w5 ⟨B5,h8,h9,hne,g8,g9⟩
   dsimp only at h8 h9 hne g8 g9
   have hHeld : w5.cell? (ad.add (i * 2)) = some (.int .i64 x0) ∧ w5.cell? ⟨(ad.add (i * 2)).block,(ad.add (i * 2)).off + 1,none⟩ = some (.int .i64 x1) ∧ w5.cell? (ad.add (m * 2)) = some (.int .i64 y0) ∧ w5.cell? ⟨(ad.add (m * 2)).block,(ad.add (m * 2)).off + 1,none⟩ = some (.int .i64 y1):=⟨cellB B5 c0,cellB B5 c1,cellB B5 d0,cellB B5 d1⟩
   refine norm_ (a':=?_) ?_ ?_;rotate_left;(simp only [putAll,Act.put,List.setIfInBounds_toArray,List.set_cons_zero,List.set_cons_succ];rfl);refine one_ (i:=12) (N:=none) #[true,true,true,true,true,true,true,true,true,true,true,true,true,false] rfl rfl (by kernel_rfl) (by decide) (fun K hK=>?_)
   refine skip_ (w1:=w5.setRow b8 #[.int .i64 x0,.int .i64 x1]) (by rfl) rfl ?_ ?_
   (exact store_row_run 31 _ _ rfl rfl rfl (store31 w5 b8 _ _ h8));have B6:=below_row B5 g8 #[.int .i64 x0,.int .i64 x1]
   refine hK.out _ _ ⟨cellB B6 c0,cellB B6 c1,cellB B6 d0,cellB B6 d1⟩ (fun hHeld=>?_)
   clear hK K
   refine last_ (i:=13) (N:=none) #[true,true,true,true,true,true,true,true,true,true,true,true,true,true] rfl rfl (by kernel_rfl) (by decide) (fun K hK=>?_)
   refine skip_ (w1:=(w5.setRow b8 #[.int .i64 x0,.int .i64 x1]).setRow b9 #[.int .i64 y0,.int .i64 y1]) (by rfl) rfl ?_ ?_
   (exact store_row_run 31 _ _ rfl rfl rfl (store31 _ b9 _ _ ((setRow_other _ _ _ _ (Ne.symm hne)).trans h9)))
   refine hK.out _ _ ?_
   clear hK K
   refine done_ (by kernel_rfl) ?_
   have hX:=below_row (below_row B5 g8 #[.int .i64 x0,.int .i64 x1]) g9 #[.int .i64 y0,.int .i64 y1];have h8' : ((w5.setRow b8 #[.int .i64 x0,.int .i64 x1]).setRow b9 #[.int .i64 y0,.int .i64 y1]).heap[b8]? = some (.cells #[.int .i64 x0,.int .i64 x1] 31):=(setRow_other _ _ _ _ hne).trans (setRow_heap _ _ _ _ _ _ h8);have h9' : ((w5.setRow b8 #[.int .i64 x0,.int .i64 x1]).setRow b9 #[.int .i64 y0,.int .i64 y1]).heap[b9]? = some (.cells #[.int .i64 y0,.int .i64 y1] 31):=setRow_heap _ _ _ _ _ _ ((setRow_other _ _ _ _ (Ne.symm hne)).trans h9);clear hHeld h8 h9 hne g8 g9 B5 c0 c1 d0 d1 B0;generalize ((w5.setRow b8 #[.int .i64 x0,.int .i64 x1]).setRow b9 #[.int .i64 y0,.int .i64 y1]) = X at hX h8' h9' ⊢;have HX:=aside (below_trans B.out hX)
   have m0 : X.cell? ⟨b8,0,none⟩ = some (.int .i64 x0):=by rw [cell_of_row X b8 0 _ _ _ h8'];rfl
   have m1 : X.cell? ⟨b8,1,none⟩ = some (.int .i64 x1):=by rw [cell_of_row X b8 1 _ _ _ h8'];rfl
   have m2 : X.cell? ⟨b9,0,none⟩ = some (.int .i64 y0):=by rw [cell_of_row X b9 0 _ _ _ h9'];rfl
   have m3 : X.cell? ⟨b9,1,none⟩ = some (.int .i64 y1):=by rw [cell_of_row X b9 1 _ _ _ h9'];rfl
   have u2:=cellB hX U.out;have HU:=aside u2;clear hX h8' h9' B
   have CB:=fun W=>H3.out W (wrap64 (y0 - x0)) (wrap64 (y1 - x1))
   obtain ⟨t,ht⟩ : ∃ t,p (wrap64 (y0 - x0)) (wrap64 (y1 - x1)) = t:=⟨_,rfl⟩
   rw [ht] at CB;have h:=H'.out;rw [ht] at h;have HC:=aside CB;clear H' ht CB HU
   cases t with
   | true =>
    rw [if_pos rfl] at h;obtain rfl:=Option.some.inj h;clear h
    go_wp2_with (go_at_fn g3;refine (HC.out _).mono ?_;rintro e w7 ⟨rfl,rfl⟩)
    go_ret
    exact ⟨rfl,HX.out⟩
   | false =>
    rw [if_neg (by simp)] at h;have H:=aside h;have HU:=aside u2;clear h
    go_wp2_with (first|(go_at_call 42;refine (HN.out _).mono ?_;rintro e w7 ⟨rfl,rfl⟩)|(go_at_fn g3;refine (HC.out _).mono ?_;rintro e w7 ⟨rfl,rfl⟩))
    go_roundg gk
    case measure=>omega
    case rel=>exact ⟨m,rfl,hml,H,HU,HX.out⟩
def uncD (k : Nat) (l : List S31) : Int → Option Int
 | 0=>uncL l (extF k62_0 k62_1 l l.length) b63 k (extF k61_0 k61_1 l l.length)
 | 1=>uncL l (extF k65_0 k65_1 l l.length) b66 k (extF k64_0 k64_1 l l.length)
 | 2=>uncL l (extF k68_0 k68_1 l l.length) b69 k (extF k67_0 k67_1 l l.length)
 | 3=>uncL l (extF k71_0 k71_1 l l.length) b72 k (extF k70_0 k70_1 l l.length)
 | _=>none
def profile_undercut.f (k : Nat) (l0 : List S31) (a1 : Int) : Option Int:=if 0 < l0.length ∧ l0.length ≤ 1000000 then uncD k l0 a1 else none
theorem uncL_mono (l : List S31) (e : Nat) (p : Int → Int → Bool) : ∀ k i,LeO (uncL l e p k i) (uncL l e p (k + 1) i):=by
 intro k
 induction k with
 | zero=>intro i;exact LeO.none _
 | succ k ih =>
  intro i
  show LeO (if i = e then some (-1) else _) (if i = e then some (-1) else _)
  exact LeO.ite (LeO.refl _) (LeO.ite (LeO.refl _) (ih _))
theorem profile_undercut.mono : ∀ a0 a1 k,LeO (profile_undercut.f k a0 a1) (profile_undercut.f (k + 1) a0 a1):=by
 intro a0 a1 k
 unfold profile_undercut.f
 refine LeO.ite ?_ (LeO.none _)
 unfold uncD
 split <;> first|exact uncL_mono _ _ _ _ _|exact LeO.none _
theorem profile_undercut.calls (k : Nat) (A0 : Option Addr) (c0 : Nat) (l0 : List (S31)) (a1 : Int) (r : Int) (w : World) (hr0 : Kd.C k31 w A0 l0.length l0) (hc0 : l0.length ≤ c0) (h : profile_undercut.f k l0 a1 = some r) :
  Calls Try.prog 48 #[.slice A0 l0.length c0,.int .i64 a1] w fun e w'=>e = .returned (.int .i64 r) ∧ Below w.heap.size w w':=by
 unfold profile_undercut.f at h
 split at h
 ·obtain ⟨h0,hl⟩ := ‹0 < l0.length ∧ l0.length ≤ 1000000›
  unfold uncD at h
  split at h
  (exact undercut_any 0 61 62 63 k61_0 k61_1 k62_0 k62_1 b63 eg63 (extreme_any 61 eg61 k61_0 k61_1 keys61) (extreme_any 62 eg62 k62_0 k62_1 keys62) bad63 side_at0 k A0 c0 l0 r w hr0 hl h0 h);(exact undercut_any 1 64 65 66 k64_0 k64_1 k65_0 k65_1 b66 eg66 (extreme_any 64 eg64 k64_0 k64_1 keys64) (extreme_any 65 eg65 k65_0 k65_1 keys65) bad66 side_at1 k A0 c0 l0 r w hr0 hl h0 h);(exact undercut_any 2 67 68 69 k67_0 k67_1 k68_0 k68_1 b69 eg69 (extreme_any 67 eg67 k67_0 k67_1 keys67) (extreme_any 68 eg68 k68_0 k68_1 keys68) bad69 side_at2 k A0 c0 l0 r w hr0 hl h0 h);(exact undercut_any 3 70 71 72 k70_0 k70_1 k71_0 k71_1 b72 eg72 (extreme_any 70 eg70 k70_0 k70_1 keys70) (extreme_any 71 eg71 k71_0 k71_1 keys71) bad72 side_at3 k A0 c0 l0 r w hr0 hl h0 h)
  ·cases h
 ·cases h
end Go.Proofs.Ytnjikioimompnaa.PA
