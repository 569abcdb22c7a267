import Derived.Test.YtdnjagfbhppmbaaGq
import Derived.Laws.EntriesVeiled
namespace Go.Proofs.Ytdnjagfbhppmbaa.PA
open Go.RowKit Go.Shelf Go.Proofs.YtdnjagfbhppmbaaW.PrintWords Go.Proofs.YtdnjagfbhppmbaaW.PrintLast Go.Proofs.YtdnjagfbhppmbaaW.PrintMore
set_option linter.unusedVariables false
set_option linter.unusedSimpArgs false
attribute [local go_sem] Oper.semAt_some
def a107 (s : S107) : Array Value:=#[.int .i64 s.f0,.int .i64 s.f1.f0.f0,.int .i64 s.f1.f0.f1,.int .i64 s.f1.f0.f2,.int .i64 s.f1.f1.f0,.int .i64 s.f1.f1.f1,.int .i64 s.f1.f1.f2,.int .i64 s.f2]
def e107 (s : S107) : Value:=.agg (a107 s)
def stepsK (ns : List S59) : Nat → S107 → List S107
  | 0,_=>[]
  | k + 1,s=>s :: (if (rd_T59 ns s.f0).f0 = 3 then stepsK ns k ⟨(rd_T59 ns s.f0).f5,divL (rd_T59 ns s.f0) s.f1,wrap64 (s.f2 + 1)⟩ ++ stepsK ns k ⟨(rd_T59 ns s.f0).f6,divR (rd_T59 ns s.f0) s.f1,wrap64 (s.f2 + 1)⟩ else [])
def GoodN (ns : List S59) : Prop := ∀ i : Int,0 ≤ i → i < (ns.length : Int) → (rd_T59 ns i).f0 = 3 → (i < (rd_T59 ns i).f5 ∧ (rd_T59 ns i).f5 < (ns.length : Int)) ∧ (i < (rd_T59 ns i).f6 ∧ (rd_T59 ns i).f6 < (ns.length : Int))
structure KT (n₀ : Nat) (W W' : World) : Prop where
  bel : Below n₀ W W'
  typ : ∀ (k : Nat) (cs : Array Value) (t : TypeId),W.heap[k]? = some (Obj.cells cs t (0,0)) → t ∉ [25,72,98,82,3] → W'.heap[k]? = some (Obj.cells cs t (0,0))
theorem KT.trans {n₀ : Nat} {A B C : World} (h : KT n₀ A B) (k : KT n₀ B C) : KT n₀ A C:=⟨h.bel.trans k.bel,fun q cs t hq ht=>k.typ q cs t (h.typ q cs t hq ht) ht⟩
theorem KT.of_below {n₀ : Nat} {A B : World} (h : Below A.heap.size A B) (hn : n₀ ≤ A.heap.size) : KT n₀ A B:=⟨h.mono hn,fun q cs t hq _=>(h.block q (blk_lt hq)).trans hq⟩
structure VS (w : World) (l Y Pl V : Nat) (A : Option Addr) (n c : Nat) (W : World) : Prop where
  yb : W.heap[Y]? = some (.cells #[.func (.yield l) #[] #[]] 126 (0,0))
  pb : W.heap[Pl]? = some (.cells #[.slice A n c] 27 (0,0))
  vb : W.heap[V]? = some (.cells #[.func (.func 86) #[] #[.pointer (some ⟨Y,0,none⟩),.pointer (some ⟨Pl,0,none⟩),.pointer (some ⟨V,0,none⟩)]] 126 (0,0))
  bel : Below w.heap.size w W
theorem VS.keep {w W W' : World} {l Y Pl V n c : Nat} {A : Option Addr} (h : VS w l Y Pl V A n c W) (k : KT w.heap.size W W') : VS w l Y Pl V A n c W' :=
  ⟨k.typ _ _ _ h.yb (by decide),k.typ _ _ _ h.pb (by decide),k.typ _ _ _ h.vb (by decide),h.bel.trans k.bel⟩
theorem VS.step {w W W' : World} {l Y Pl V n c : Nat} {A : Option Addr} (h : VS w l Y Pl V A n c W) (k : Below W.heap.size W W') : VS w l Y Pl V A n c W':=h.keep (KT.of_below k h.bel.size)
theorem anyDepth {F : Fence} (hd : F.depth = none) {m : Nat} (m' : Nat) {P : Program} {l : Nat} {args : Array Value} {W : World} {R : Ending → World → Prop} (h : YieldAt F m P l args W R) : YieldAt F m' P l args W R:=by
  obtain ⟨fn,tmps,assign,body,hy,h1,h2⟩ := h;exact ⟨fn,tmps,assign,body,hy,h1,fun c cs _=>h2 c cs (fun d h=>by rw [hd] at h;cases h)⟩
theorem belT {a b c : World} (h : Below a.heap.size a b) (k : Below b.heap.size b c) : Below a.heap.size a c:=h.trans (k.mono h.size)
theorem three_al (W : World) (x y z : Array Value) : Below W.heap.size W (((W.alloc (.cells x 80)).alloc (.cells y 80)).alloc (.cells z 80)) ∧ (((W.alloc (.cells x 80)).alloc (.cells y 80)).alloc (.cells z 80)).heap[W.heap.size + 1 + 1]? = some (.cells z 80 (0,0)):=by
  refine ⟨below_alloc (below_alloc (below_alloc (Below.refl _ _) _) _) _, ?_⟩
  have:=heap_alloc_new ((W.alloc (.cells x 80)).alloc (.cells y 80)) (.cells z 80)
  simpa using this
set_option maxRecDepth 100000 in
set_option maxHeartbeats 4000000 in
theorem visit_in (l Y Pl V N : Nat) (w : World) (A : Option Addr) (c : Nat) (ns : List S59) (hr : Kd.C k59 w A ns.length ns) (hg : GoodN ns) (J Jx : List S107 → World → Prop) (hJ : ∀ s W W', J s W → Below W.heap.size W W' → J s W')
    (hY : ∀ m pre (x : S107) W,J pre W → pre.length < N → 0 ≤ x.f0 → x.f0 < (ns.length : Int) → YieldAt Fence.wide m Try.prog l #[e107 x] W fun e W' =>
      (e = .returned (.bool true) ∧ J (pre ++ [x]) W' ∧ KT w.heap.size W W') ∨ (e = .returned (.bool false) ∧ Jx (pre ++ [x]) W')) :
    ∀ (k n : Nat) (s : S107) (pre : List S107) (W : World),VS w l Y Pl V A ns.length c W → 0 ≤ s.f0 → s.f0 < (ns.length : Int) → (ns.length : Int) - s.f0 ≤ k → J pre W → pre.length + (stepsK ns k s).length ≤ N →
      CallsIn Fence.wide n Try.prog 86 #[e107 s,.pointer (some ⟨Y,0,none⟩),.pointer (some ⟨Pl,0,none⟩),.pointer (some ⟨V,0,none⟩)] W fun e W' =>
        (e = .returned (.bool true) ∧ J (pre ++ stepsK ns k s) W' ∧ KT w.heap.size W W') ∨ (e = .returned (.bool false) ∧ ∃ q,q <+: stepsK ns k s ∧ Jx (pre ++ q) W'):=by
  intro k
  induction k with
  | zero =>
    intro n s pre W hV h0 h1 hk
    omega
  | succ k ih =>
    intro n s pre W hV h0 h1 hk hJp hN
    have hdd : ∀ k : Nat,(Fence.wide.depth.isSome = true → 1 ≤ k):=fun k h=>by simp [Fence.wide] at h
    obtain ⟨nd,hnd⟩ : ∃ nd,rd_T59 ns s.f0 = nd:=⟨_,rfl⟩
    have hG:=hg s.f0 h0 h1;rw [hnd] at hG;have hb1 : Below W.heap.size W (W.alloc (.cells (a107 s) 114)):=below_alloc (Below.refl _ _) _;have hV1:=hV.step hb1;have hbox : (W.alloc (.cells (a107 s) 114)).heap[W.heap.size]? = some (.cells (a107 s) 114 (0,0)):=heap_alloc_new W _;have y0 : W.cell? ⟨Y,0,none⟩ = some (.func (.yield l) #[] #[]):=(blk_cell hV.yb 0).trans rfl;have yl:=blk_lt hV.yb
    have hlen : pre.length < N:=by simp only [stepsK,List.length_cons] at hN;omega
    have hy1:=YieldAt.mono (hY (n - 1) pre s _ (hJ pre _ _ hJp hb1) hlen h0 h1) (R':=fun e W2 =>
      (e = .returned (.bool true) ∧ Aside (J (pre ++ [s]) W2) ∧ Aside (KT w.heap.size W W2) ∧ Aside (W2.heap[W.heap.size]? = some (.cells (a107 s) 114 (0,0))) ∧ Aside (VS w l Y Pl V A ns.length c W2)) ∨ (e = .returned (.bool false) ∧ Aside (Jx (pre ++ [s]) W2)))
      (fun e W2 h=>h.elim (fun ⟨he,hj,hk2⟩=>.inl ⟨he,hj,(KT.of_below hb1 hV.bel.size).trans hk2,hk2.typ _ _ _ hbox (by decide),hV1.keep hk2⟩) .inr)
    have HB1:=aside hb1;have HV1:=aside hV1;have HV:=aside hV;have HJP:=aside hJp;have HBOX:=aside hbox;have HND:=aside hnd;have HN:=aside hN;have HGG:=aside hG;have HR:=aside hr;have HJ:=aside hJ
    have HS : Aside (stepsK ns (k + 1) s = s :: (if nd.f0 = 3 then stepsK ns k ⟨nd.f5,divL nd s.f1,wrap64 (s.f2 + 1)⟩ ++ stepsK ns k ⟨nd.f6,divR nd s.f1,wrap64 (s.f2 + 1)⟩ else [])):=(show _ = _ by rw [stepsK,hnd])
    clear hb1 hV1 hV hJp hbox hnd hN hG hJ hY hg hlen;obtain ⟨at_,⟨⟨p0,p1,p2⟩,⟨p3,p4,p5⟩⟩,d⟩ := s
    dsimp only [e107,a107] at *
    obtain ⟨fn,tmps,assign,body,hy,hRR⟩ := hy1;have HRR:=aside hRR;clear hRR
    refine callsIn_of_wp Try.func86 rfl trivial ?_ rfl
    simp only [Try.ntmps86,List.size_toArray,List.length_cons,List.length_nil,Nat.reduceAdd,Nat.reduceSub,Array.replicate_succ,Array.replicate_zero,List.push_toArray,List.append_toArray,List.nil_append,List.cons_append]
    gi_wp2
    refine ⟨hdd _,HRR.out.mono ?_⟩
    clear HRR hy y0 yl;rintro e W2 (⟨rfl,HJ2,HK2,HB2,HV2⟩|⟨rfl,HX⟩)
    · have c14 : W2.cell? ⟨Pl,0,none⟩ = some (.slice A ns.length c):=(blk_cell HV2.out.pb 0).trans rfl;have s0 : W2.cell? ⟨W.heap.size,0,none⟩ = some (.int .i64 at_):=(blk_cell HB2.out 0).trans rfl;obtain ⟨ad,rfl,n0,n1,n2,n3,n4,n5,n6⟩ := at_T59 (Kd.C_below HR.out HV2.out.bel) at_ h0 h1;rw [HND.out] at n0 n1 n2 n3 n4 n5 n6;by_cases hc : nd.f0 = 3
      · have G:=HGG.out hc
        have b0 : (nd.f0 == 3) = true:=by simpa using hc
        have b1 : (nd.f0 != 3) = false:=by simpa using hc
        have HC:=aside hc;have HG2:=aside G
        obtain ⟨L,hL⟩ : ∃ L,divL nd ⟨⟨p0,p1,p2⟩,⟨p3,p4,p5⟩⟩ = L:=⟨_,rfl⟩
        obtain ⟨K,hK⟩ : ∃ K,divK nd ⟨⟨p0,p1,p2⟩,⟨p3,p4,p5⟩⟩ = K:=⟨_,rfl⟩
        obtain ⟨R,hR⟩ : ∃ R,divR nd ⟨⟨p0,p1,p2⟩,⟨p3,p4,p5⟩⟩ = R:=⟨_,rfl⟩
        have C87 : Aside (∀ X,Calls Try.prog 87 #[.agg #[.int .i64 nd.f0,.string nd.f1,.int .i64 nd.f2,.int .i64 nd.f3,.int .i64 nd.f4,.int .i64 nd.f5,.int .i64 nd.f6],.agg #[.int .i64 p0,.int .i64 p1,.int .i64 p2,.int .i64 p3,.int .i64 p4,.int .i64 p5]] X fun e w'=>e = .returned (.tuple #[.agg #[.int .i64 L.f0.f0,.int .i64 L.f0.f1,.int .i64 L.f0.f2,.int .i64 L.f1.f0,.int .i64 L.f1.f1,.int .i64 L.f1.f2],.agg #[.int .i64 K.f0.f0,.int .i64 K.f0.f1,.int .i64 K.f0.f2,.int .i64 K.f1.f0,.int .i64 K.f1.f1,.int .i64 K.f1.f2],.agg #[.int .i64 R.f0.f0,.int .i64 R.f0.f1,.int .i64 R.f0.f2,.int .i64 R.f1.f0,.int .i64 R.f1.f1,.int .i64 R.f1.f2]]) ∧ Below X.heap.size X w'):=(show ∀ X,_ from fun X=>by
          have h:=divide_any nd ⟨⟨p0,p1,p2⟩,⟨p3,p4,p5⟩⟩ X;rw [hL,hK,hR] at h
          exact h)
        have HS2 : Aside (stepsK ns (k + 1) { f0:=at_,f1 := { f0 := { f0:=p0,f1:=p1,f2:=p2 },f1 := { f0:=p3,f1:=p4,f2:=p5 } },f2:=d } = { f0:=at_,f1 := { f0 := { f0:=p0,f1:=p1,f2:=p2 },f1 := { f0:=p3,f1:=p4,f2:=p5 } },f2:=d } :: (stepsK ns k ⟨nd.f5,L,wrap64 (d + 1)⟩ ++ stepsK ns k ⟨nd.f6,R,wrap64 (d + 1)⟩)):=(show _ = _ from by rw [HS.out,if_pos hc,hL,hR])
        have s1 : W2.cell? ⟨W.heap.size,1,none⟩ = some (.int .i64 p0):=(blk_cell HB2.out 1).trans rfl;have s2 : W2.cell? ⟨W.heap.size,2,none⟩ = some (.int .i64 p1):=(blk_cell HB2.out 2).trans rfl;have s3 : W2.cell? ⟨W.heap.size,3,none⟩ = some (.int .i64 p2):=(blk_cell HB2.out 3).trans rfl;have s4 : W2.cell? ⟨W.heap.size,4,none⟩ = some (.int .i64 p3):=(blk_cell HB2.out 4).trans rfl;have s5 : W2.cell? ⟨W.heap.size,5,none⟩ = some (.int .i64 p4):=(blk_cell HB2.out 5).trans rfl;have s6 : W2.cell? ⟨W.heap.size,6,none⟩ = some (.int .i64 p5):=(blk_cell HB2.out 6).trans rfl;have sl:=blk_lt HB2.out;clear hL hK hR hc;have g1:=G.1.1;have g2:=G.1.2;have g3:=G.2.1;have g4:=G.2.2
        have IHL : Aside (∀ X,VS w l Y Pl V (some ad) ns.length c X → J (pre ++ [{ f0:=at_,f1 := { f0 := { f0:=p0,f1:=p1,f2:=p2 },f1 := { f0:=p3,f1:=p4,f2:=p5 } },f2:=d }]) X → CallsIn Fence.wide (n - 1) Try.prog 86 #[.agg #[.int .i64 nd.f5,.int .i64 L.f0.f0,.int .i64 L.f0.f1,.int .i64 L.f0.f2,.int .i64 L.f1.f0,.int .i64 L.f1.f1,.int .i64 L.f1.f2,.int .i64 (wrap64 (d + 1))],.pointer (some ⟨Y,0,none⟩),.pointer (some ⟨Pl,0,none⟩),.pointer (some ⟨V,0,none⟩)] X fun e W' =>
          (e = .returned (.bool true) ∧ Aside (J (pre ++ [{ f0:=at_,f1 := { f0 := { f0:=p0,f1:=p1,f2:=p2 },f1 := { f0:=p3,f1:=p4,f2:=p5 } },f2:=d }] ++ stepsK ns k ⟨nd.f5,L,wrap64 (d + 1)⟩) W') ∧ Aside (KT w.heap.size X W')) ∨ (e = .returned (.bool false) ∧ Aside (∃ q,q <+: stepsK ns k ⟨nd.f5,L,wrap64 (d + 1)⟩ ∧ Jx (pre ++ [{ f0:=at_,f1 := { f0 := { f0:=p0,f1:=p1,f2:=p2 },f1 := { f0:=p3,f1:=p4,f2:=p5 } },f2:=d }] ++ q) W'))):=(show ∀ X,_ from fun X hX hJX=>by
          refine (ih (n - 1) ⟨nd.f5,L,wrap64 (d + 1)⟩ (pre ++ [{ f0:=at_,f1 := { f0 := { f0:=p0,f1:=p1,f2:=p2 },f1 := { f0:=p3,f1:=p4,f2:=p5 } },f2:=d }]) X hX ?_ ?_ ?_ hJX ?_).mono ?_
          · show 0 ≤ nd.f5;omega
          · show nd.f5 < _;omega
          · show _ - nd.f5 ≤ _;omega
          · have h:=HN.out;rw [HS2.out] at h;simp only [List.length_append,List.length_cons,List.length_nil] at h ⊢;omega
          · rintro e W' (⟨he,hj,hk⟩|⟨he,hx⟩);(exact .inl ⟨he,hj,hk⟩)
            · exact .inr ⟨he,hx⟩)
        have IHR : Aside (∀ X,VS w l Y Pl V (some ad) ns.length c X → J ((pre ++ [{ f0:=at_,f1 := { f0 := { f0:=p0,f1:=p1,f2:=p2 },f1 := { f0:=p3,f1:=p4,f2:=p5 } },f2:=d }]) ++ stepsK ns k ⟨nd.f5,L,wrap64 (d + 1)⟩) X → CallsIn Fence.wide (n - 1) Try.prog 86 #[.agg #[.int .i64 nd.f6,.int .i64 R.f0.f0,.int .i64 R.f0.f1,.int .i64 R.f0.f2,.int .i64 R.f1.f0,.int .i64 R.f1.f1,.int .i64 R.f1.f2,.int .i64 (wrap64 (d + 1))],.pointer (some ⟨Y,0,none⟩),.pointer (some ⟨Pl,0,none⟩),.pointer (some ⟨V,0,none⟩)] X fun e W' =>
          (e = .returned (.bool true) ∧ Aside (J ((pre ++ [{ f0:=at_,f1 := { f0 := { f0:=p0,f1:=p1,f2:=p2 },f1 := { f0:=p3,f1:=p4,f2:=p5 } },f2:=d }]) ++ stepsK ns k ⟨nd.f5,L,wrap64 (d + 1)⟩ ++ stepsK ns k ⟨nd.f6,R,wrap64 (d + 1)⟩) W') ∧ Aside (KT w.heap.size X W')) ∨ (e = .returned (.bool false) ∧ Aside (∃ q,q <+: stepsK ns k ⟨nd.f6,R,wrap64 (d + 1)⟩ ∧ Jx ((pre ++ [{ f0:=at_,f1 := { f0 := { f0:=p0,f1:=p1,f2:=p2 },f1 := { f0:=p3,f1:=p4,f2:=p5 } },f2:=d }]) ++ stepsK ns k ⟨nd.f5,L,wrap64 (d + 1)⟩ ++ q) W'))):=(show ∀ X,_ from fun X hX hJX=>by
          refine (ih (n - 1) ⟨nd.f6,R,wrap64 (d + 1)⟩ ((pre ++ [{ f0:=at_,f1 := { f0 := { f0:=p0,f1:=p1,f2:=p2 },f1 := { f0:=p3,f1:=p4,f2:=p5 } },f2:=d }]) ++ stepsK ns k ⟨nd.f5,L,wrap64 (d + 1)⟩) X hX ?_ ?_ ?_ hJX ?_).mono ?_
          · show 0 ≤ nd.f6;omega
          · show nd.f6 < _;omega
          · show _ - nd.f6 ≤ _;omega
          · have h:=HN.out;rw [HS2.out] at h;simp only [List.length_append,List.length_cons,List.length_nil] at h ⊢;omega
          · rintro e W' (⟨he,hj,hk⟩|⟨he,hx⟩);(exact .inl ⟨he,hj,hk⟩)
            · exact .inr ⟨he,hx⟩)
        clear g1 g2 g3 g4 G ih
        have HNB : Aside (∀ X,(X : World) = W2.alloc (.cells #[.int .i64 nd.f0,.string nd.f1,.int .i64 nd.f2,.int .i64 nd.f3,.int .i64 nd.f4,.int .i64 nd.f5,.int .i64 nd.f6] 59) → Below W2.heap.size W2 X ∧ X.heap[W2.heap.size]? = some (.cells #[.int .i64 nd.f0,.string nd.f1,.int .i64 nd.f2,.int .i64 nd.f3,.int .i64 nd.f4,.int .i64 nd.f5,.int .i64 nd.f6] 59 (0,0))):=(show ∀ X,_ from fun X hX=>by subst hX;exact ⟨below_alloc (Below.refl _ _) _,heap_alloc_new W2 _⟩)
        gi_wp2_with (first
          | (refine ⟨trivial, hdd _, ?_⟩; gi_at_call 87; refine (callsIn_wide.2 (C87.out _)).mono ?_; clear C87; rintro e W3 ⟨rfl, hb3⟩
             have HB3:=aside hb3;clear hb3;have V3:=HV2.out.step (belT (HNB.out _ rfl).1 HB3.out);have HV3:=aside V3;clear V3;have v3 : W3.cell? ⟨V,0,none⟩ = some (.func (.func 86) #[] #[.pointer (some ⟨Y,0,none⟩),.pointer (some ⟨Pl,0,none⟩),.pointer (some ⟨V,0,none⟩)]):=(blk_cell HV3.out.vb 0).trans rfl;have vl3:=blk_lt HV3.out.vb;have HNB3:=aside ((HB3.out.block _ (blk_lt (HNB.out _ rfl).2)).trans (HNB.out _ rfl).2);have HBX3:=aside (((belT (HNB.out _ rfl).1 HB3.out).block _ (blk_lt HB2.out)).trans HB2.out);have m5 : W3.cell? ⟨W2.heap.size,5,none⟩ = some (.int .i64 nd.f5):=(blk_cell HNB3.out 5).trans rfl;have ml:=blk_lt HNB3.out;have t7 : W3.cell? ⟨W.heap.size,7,none⟩ = some (.int .i64 d):=(blk_cell HBX3.out 7).trans rfl;have tl:=blk_lt HBX3.out
             have vl4 : V < W3.heap.size + 1:=by omega
             have vl5 : V < W3.heap.size + 1 + 1:=by omega
             have ml4 : W2.heap.size < W3.heap.size + 1:=by omega
             have ml5 : W2.heap.size < W3.heap.size + 1 + 1:=by omega
             have tl4 : W.heap.size < W3.heap.size + 1:=by omega
             have tl5 : W.heap.size < W3.heap.size + 1 + 1:=by omega)
          | (refine ⟨trivial, hdd _, ?_⟩; gi_at_call 86; refine (IHL.out _ (HV3.out.step (three_al W3 _ _ _).1) (HJ.out _ _ _ HJ2.out (belT (belT (HNB.out _ rfl).1 HB3.out) (three_al W3 _ _ _).1))).mono ?_; clear IHL; rintro e W5 (⟨rfl, HJ5, HK5⟩ | ⟨rfl, HX5⟩)
             · have HV5:=aside ((HV3.out.step (three_al W3 _ _ _).1).keep HK5.out);have v5 : W5.cell? ⟨V,0,none⟩ = some (.func (.func 86) #[] #[.pointer (some ⟨Y,0,none⟩),.pointer (some ⟨Pl,0,none⟩),.pointer (some ⟨V,0,none⟩)]):=(blk_cell HV5.out.vb 0).trans rfl;have m6 : W5.cell? ⟨W2.heap.size,6,none⟩ = some (.int .i64 nd.f6):=(blk_cell (HK5.out.typ _ _ _ (((three_al W3 _ _ _).1.block _ (blk_lt HNB3.out)).trans HNB3.out) (by decide)) 6).trans rfl;have HRB:=aside (HK5.out.typ _ _ _ (three_al W3 _ _ _).2 (by decide));have r0 : W5.cell? ⟨W3.heap.size + 1 + 1,0,none⟩ = some (.int .i64 R.f0.f0):=(blk_cell HRB.out 0).trans rfl;have r1 : W5.cell? ⟨W3.heap.size + 1 + 1,1,none⟩ = some (.int .i64 R.f0.f1):=(blk_cell HRB.out 1).trans rfl;have r2 : W5.cell? ⟨W3.heap.size + 1 + 1,2,none⟩ = some (.int .i64 R.f0.f2):=(blk_cell HRB.out 2).trans rfl;have r3 : W5.cell? ⟨W3.heap.size + 1 + 1,3,none⟩ = some (.int .i64 R.f1.f0):=(blk_cell HRB.out 3).trans rfl;have r4 : W5.cell? ⟨W3.heap.size + 1 + 1,4,none⟩ = some (.int .i64 R.f1.f1):=(blk_cell HRB.out 4).trans rfl;have r5 : W5.cell? ⟨W3.heap.size + 1 + 1,5,none⟩ = some (.int .i64 R.f1.f2):=(blk_cell HRB.out 5).trans rfl;have t5 : W5.cell? ⟨W.heap.size,7,none⟩ = some (.int .i64 d):=(blk_cell (HK5.out.typ _ _ _ (((three_al W3 _ _ _).1.block _ (blk_lt HBX3.out)).trans HBX3.out) (by decide)) 7).trans rfl
               gi_wp2_with (refine ⟨trivial,hdd _, ?_⟩;gi_at_call 86;refine (IHR.out _ HV5.out HJ5.out).mono ?_;clear IHR;rintro e W6 (⟨rfl,HJ6,HK6⟩|⟨rfl,HX6⟩))
               · go_ret
                 refine .inl ⟨rfl, ?_,((((HK2.out.trans (KT.of_below (belT (HNB.out _ rfl).1 HB3.out) HV2.out.bel.size)).trans (KT.of_below (three_al W3 _ _ _).1 HV3.out.bel.size)).trans HK5.out).trans HK6.out)⟩
                 rw [HS2.out]
                 simpa using HJ6.out
               · go_ret
                 obtain ⟨q,hq,hx⟩ := HX6.out;obtain ⟨r,hr⟩ := hq
                 refine .inr ⟨rfl,{ f0:=at_,f1 := { f0 := { f0:=p0,f1:=p1,f2:=p2 },f1 := { f0:=p3,f1:=p4,f2:=p5 } },f2:=d } :: (stepsK ns k ⟨nd.f5,L,wrap64 (d + 1)⟩ ++ q), ?_,by simpa using hx⟩
                 rw [HS2.out];exact ⟨r,by simp [← hr]⟩
             · gi_wp2
               refine ⟨fun _ h=>(by cases h), ?_⟩
               gi_wp2
               go_ret
               obtain ⟨q,hq,hx⟩ := HX5.out;obtain ⟨r,hr⟩ := hq
               refine .inr ⟨rfl,{ f0:=at_,f1 := { f0 := { f0:=p0,f1:=p1,f2:=p2 },f1 := { f0:=p3,f1:=p4,f2:=p5 } },f2:=d } :: q, ?_,by simpa using hx⟩
               rw [HS2.out]
               exact ⟨r ++ stepsK ns k ⟨nd.f6,R,wrap64 (d + 1)⟩,by simp [← hr]⟩))
      · have b0 : (nd.f0 == 3) = false:=by simpa using hc
        have b1 : (nd.f0 != 3) = true:=by simpa using hc
        have HC:=aside hc;clear hc
        gi_wp2
        go_ret
        refine .inl ⟨rfl, ?_,HK2.out.trans (KT.of_below (below_alloc (Below.refl _ _) _) HV2.out.bel.size)⟩
        rw [HS.out,if_neg HC.out];exact HJ.out _ _ _ HJ2.out (below_alloc (Below.refl _ _) _)
    · gi_wp2
      go_ret
      refine .inr ⟨rfl,_, ?_,HX.out⟩
      rw [HS.out];exact ⟨_,rfl⟩
def root (v : S34) : S107:=⟨0,⟨⟨0,0,0⟩,v⟩,0⟩
def walkS (ns : List S59) (v : S34) : List S107:=stepsK ns ns.length (root v)
theorem eg85 : ∀ args w,(callFunc 85 args).run Try.prog w = .ok (.enter 85 args) w:=enters_of Try.func85 (by kernel_rfl) rfl
set_option maxRecDepth 100000 in
set_option maxHeartbeats 2000000 in
theorem walk1_in (n : Nat) (l Pl Sz : Nat) (w W : World) (A : Option Addr) (c : Nat) (ns : List S59) (v : S34) (hr : Kd.C k59 w A ns.length ns) (hg : GoodN ns) (h0 : 0 < ns.length) (J Jx : List S107 → World → Prop) (hJ : ∀ s W W', J s W → Below W.heap.size W W' → J s W')
    (hY : ∀ m pre (x : S107) W,J pre W → pre.length < (walkS ns v).length → 0 ≤ x.f0 → x.f0 < (ns.length : Int) → YieldAt Fence.wide m Try.prog l #[e107 x] W fun e W' =>
      (e = .returned (.bool true) ∧ J (pre ++ [x]) W' ∧ KT w.heap.size W W') ∨ (e = .returned (.bool false) ∧ Jx (pre ++ [x]) W'))
    (hb : Below w.heap.size w W) (hp : W.heap[Pl]? = some (.cells #[.slice A ns.length c] 27 (0,0))) (hs : W.heap[Sz]? = some (.cells #[.int .i64 v.f0,.int .i64 v.f1,.int .i64 v.f2] 34 (0,0))) (hj : J [] W) :
    CallsIn Fence.wide n Try.prog 85 #[.func (.yield l) #[] #[],.pointer (some ⟨Pl,0,none⟩),.pointer (some ⟨Sz,0,none⟩)] W fun e W'=>(∃ v,e = .returned v) ∧ ((∃ ys,ys = walkS ns v ∧ J ys W') ∨ (∃ pre,pre <+: walkS ns v ∧ Jx pre W')):=by
  have hdd : ∀ k : Nat,(Fence.wide.depth.isSome = true → 1 ≤ k):=fun k h=>by simp [Fence.wide] at h
  obtain ⟨X,hX⟩ : ∃ X,(W.alloc (.cells #[.func (.yield l) #[] #[]] 126)).alloc (.cells #[.func (.func 86) #[] #[.pointer (some ⟨W.heap.size,0,none⟩),.pointer (some ⟨Pl,0,none⟩),.pointer (some ⟨W.heap.size + 1,0,none⟩)]] 126) = X:=⟨_,rfl⟩
  have hWX : Below W.heap.size W X:=by rw [← hX];exact below_alloc (below_alloc (Below.refl _ _) _) _
  have hV : VS w l W.heap.size Pl (W.heap.size + 1) A ns.length c X:=by
    refine ⟨?_,(hWX.block _ (blk_lt hp)).trans hp, ?_,hb.trans (hWX.mono hb.size)⟩
    (rw [← hX];exact (Below.heap_alloc _ _ _ (by simp)).trans (heap_alloc_new W _))
    · rw [← hX]
      have:=heap_alloc_new (W.alloc (.cells #[.func (.yield l) #[] #[]] 126)) (.cells #[.func (.func 86) #[] #[.pointer (some ⟨W.heap.size,0,none⟩),.pointer (some ⟨Pl,0,none⟩),.pointer (some ⟨W.heap.size + 1,0,none⟩)]] 126)
      simpa using this
  have C86:=visit_in l W.heap.size Pl (W.heap.size + 1) (walkS ns v).length w A c ns hr hg J Jx hJ hY ns.length (n - 1) (root v) [] X hV (by show (0 : Int) ≤ 0;omega) (by show (0 : Int) < _;omega) (by show _ - (0 : Int) ≤ _;omega) (hJ _ _ _ hj hWX) (by simp [walkS]);rw [← hX] at C86;have s0 : W.cell? ⟨Sz,0,none⟩ = some (.int .i64 v.f0):=(blk_cell hs 0).trans rfl;have s1 : W.cell? ⟨Sz,1,none⟩ = some (.int .i64 v.f1):=(blk_cell hs 1).trans rfl;have s2 : W.cell? ⟨Sz,2,none⟩ = some (.int .i64 v.f2):=(blk_cell hs 2).trans rfl;have sl:=blk_lt hs
  have sl2 : Sz < W.heap.size + 1:=by omega
  have C:=aside C86;clear C86 hV hWX hX hs hp hb hr hg hJ hY hj h0;obtain ⟨v0,v1,v2⟩ := v
  dsimp only at s0 s1 s2
  refine callsIn_of_wp Try.func85 rfl trivial ?_ rfl
  simp only [Try.ntmps85,List.size_toArray,List.length_cons,List.length_nil,Nat.reduceAdd,Nat.reduceSub,Array.replicate_succ,Array.replicate_zero,List.push_toArray,List.append_toArray,List.nil_append,List.cons_append]
  gi_wp2_with (refine ⟨trivial,hdd _, ?_⟩;gi_at_call 86;refine C.out.mono ?_;clear C;rintro e W1 (⟨rfl,hj1,_⟩|⟨rfl,q,hq,hx⟩))
  · go_end0
    exact ⟨⟨_,rfl⟩,.inl ⟨_,rfl,by simpa [walkS] using hj1⟩⟩
  · go_end0
    exact ⟨⟨_,rfl⟩,.inr ⟨q,hq,by simpa using hx⟩⟩
theorem abides_below {β : Type} {B : Nat} {J : β → World → Prop} (h : AbidesFrom B J) : ∀ s W W',J s W → Below W.heap.size W W' → J s W':=fun s W W' hj hb=>h s W W' none hj (grown_of_below hb none) (fun r e=>by cases e)
abbrev StepN (ns : List S59) := { s : S107 // 0 ≤ s.f0 ∧ s.f0 < (ns.length : Int) }
theorem walk_stops (n : Nat) (Pl Sz : Nat) (w W0 : World) (A : Option Addr) (c : Nat) (ns : List S59) (v : S34) (hr : Kd.C k59 w A ns.length ns) (hg : GoodN ns) (h0 : 0 < ns.length)
    (hb : Below w.heap.size w W0) (hp : W0.heap[Pl]? = some (.cells #[.slice A ns.length c] 27 (0,0))) (hs : W0.heap[Sz]? = some (.cells #[.int .i64 v.f0,.int .i64 v.f1,.int .i64 v.f2] 34 (0,0))) :
    SeqStopsK Fence.wide n Try.prog 85 #[.pointer (some ⟨Pl,0,none⟩),.pointer (some ⟨Sz,0,none⟩)] (fun x : StepN ns=>#[e107 x.1]) (KT w.heap.size) (fun ys=>ys.map (·.1) = walkS ns v) (fun pre=>pre.map (·.1) <+: walkS ns v) (walkS ns v).length W0 :=
  fun l J Jx W hW hJ _ hY hj=>by
    refine (walk1_in n l Pl Sz w W A c ns v hr hg h0 (fun ys W'=>∃ l',l'.map (·.1) = ys ∧ J l' W') (fun ys W'=>∃ l',l'.map (·.1) = ys ∧ Jx l' W') ?_ ?_ (hb.trans (hW.mono hb.size)) ((hW.block _ (blk_lt hp)).trans hp) ((hW.block _ (blk_lt hs)).trans hs) ⟨[],rfl,hj⟩).mono ?_
    (rintro s W1 W2 ⟨l',hl,hj⟩ hb;exact ⟨l',hl,abides_below hJ _ _ _ hj hb⟩)
    · rintro m pre x W1 ⟨l',hl,hj⟩ hlen x0 x1
      refine YieldAt.mono (anyDepth rfl m (hY l' ⟨x,x0,x1⟩ W1 hj (by rw [← hl,List.length_map] at hlen;exact hlen))) fun e W2 h=>h.elim (fun ⟨he,hj2,hk⟩=>.inl ⟨he,⟨_, ?_,hj2⟩,hk⟩) (fun ⟨he,hj2⟩=>.inr ⟨he,_, ?_,hj2⟩) <;> simp [hl]
    · rintro e W' ⟨hv,⟨ys,rfl,l',hl,hj⟩|⟨pre,hp,l',hl,hj⟩⟩;(exact ⟨hv,.inl ⟨l',hl,hj⟩⟩);(exact ⟨hv,.inr ⟨l',(show l'.map (·.1) <+: walkS ns v by rw [hl];exact hp),hj⟩⟩)
theorem KT_b {n₀ : Nat} {w : World} (hn : n₀ ≤ w.heap.size) (W : World) (l : Nat) (o o' : Obj) (hl : w.heap.size ≤ l) (h : W.heap[l]? = some o) (hc : o.isCells = false) (hw : o.isWalk = false) : KT n₀ W (W.putObj l o') :=
  ⟨belowK_b hn W l o o' hl h hc hw,fun q cs t hq ht=>(World.putObj_heap_other (fun e=>by subst e;rw [h] at hq;cases hq;cases hc)).trans hq⟩
set_option maxHeartbeats 1000000 in
theorem walk_in (n : Nat) (A : Option Addr) (m c : Nat) (v : S34) (w : World) : CallsIn Fence.wide n Try.prog 73 #[.agg #[.int .i64 v.f0, .int .i64 v.f1, .int .i64 v.f2], .slice A m c] w fun e w' =>
    e = .returned (.func (.func 85) #[] #[.pointer (some ⟨w.heap.size + 1,0,none⟩),.pointer (some ⟨w.heap.size,0,none⟩)]) ∧ w' = (w.alloc (.cells #[.int .i64 v.f0,.int .i64 v.f1,.int .i64 v.f2] 34)).alloc (.cells #[.slice A m c] 27):=by
  refine callsIn_of_wp Try.func73 rfl trivial ?_ rfl
  simp only [Try.ntmps73,List.size_toArray,List.length_cons,List.length_nil,Nat.reduceAdd,Nat.reduceSub,Array.replicate_succ,Array.replicate_zero,List.push_toArray,List.append_toArray,List.nil_append,List.cons_append]
  gi_wp2
  go_ret
  exact ⟨rfl,rfl⟩
end Go.Proofs.Ytdnjagfbhppmbaa.PA
