import Derived.Test.YtdnjagfbhppmbaaGr
namespace Go.Proofs.Ytdnjagfbhppmbaa.PA
open Go.RowKit Go.Shelf Go.Proofs.YtdnjagfbhppmbaaW.PrintWords Go.Proofs.YtdnjagfbhppmbaaW.PrintLast Go.Proofs.YtdnjagfbhppmbaaW.PrintMore
set_option linter.unusedVariables false
set_option linter.unusedSimpArgs false
attribute [local go_sem] Oper.semAt_some
def noDefer (o : Oper) : Bool:=match o.op with|.defer _=>false|_=>true
theorem noDefer_ne {o : Oper} (h : noDefer o = true) : ∀ c,o.op ≠ .defer c:=fun c e=>by rw [noDefer,e] at h;cases h
theorem Oper_round {F : Fence} {n l : Nat} {P : Program} {o : Oper} {a : Act} {w : World} {K : Act → World → Prop} {Q : Exit → Act → World → Prop} (hro : F.round = none) (hd : noDefer o = true) (h : o.wpIn F n P a w K Q) : o.wpIn (F.inRound l) n P a w K Q:=by
 unfold Oper.wpIn at h ⊢
 refine ⟨h.1, ?_⟩
 have h2:=h.2;rw [Oper.semAt_eq _ _ _ (noDefer_ne hd)] at h2 ⊢;generalize (execOp a.eval o).run P w = r at h2 ⊢
 cases r with
 | ok x w'=>cases x <;> exact h2
 | halt x w'=>cases x <;> exact h2
theorem wpAny_round {F : Fence} {n l : Nat} {P : Program} {md : Region.Mode} {ops : Array Oper} {Q : Exit → Act → World → Prop} (hro : F.round = none) (hd : ops.toList.all noDefer = true) : ∀ (fuel : Nat) (listed : Array Bool) (a : Act) (w : World),
  wpAnyIn F n P md ops Q fuel listed a w → wpAnyIn (F.inRound l) n P md ops Q fuel listed a w
 | 0,_,_,_,h=>h
 | fuel + 1, _, _, _, h => ⟨h.1, fun i hi => by
   have h1:=h.2 i hi
   unfold wpOpIn at h1 ⊢
   split at h1
   (exact wpAny_round hro hd fuel _ _ _ h1)
   ·rename_i o ho
    split at h1
    ·rename_i hw
     rw [if_pos hw]
     refine Oper_round hro (List.all_eq_true.1 hd o (Array.mem_toList_iff.2 (Array.mem_of_getElem? ho))) ?_
     exact Oper.wpIn_mono (fun a w hk=>wpAny_round hro hd fuel _ a w hk) h1
    ·rename_i hw
     rw [if_neg hw]
     exact ⟨h1.1,wpAny_round hro hd fuel _ _ _ h1.2⟩⟩
theorem quiet_round {F : Fence} {n ll : Nat} {P : Program} {id : Nat} {Q : Exit → Act → World → Prop} {a : Act} {w : World} {l : List Oper} (hro : F.round = none) (hm : P.follows .mixedOrders = true) (hB : Region.lexB .any l.toArray = true) (hd : l.all noDefer = true)
  (h : wpQuietIn F n P l.toArray (fun w'=>∃ n,w' = w.drewN n) (fun a'=>∀ w',(∃ n,w' = w.drewN n) → Q .normal a' w') l a) : (Code.region id l.toArray true).wpIn (F.inRound ll) n P Q a w:=by
 simp only [Region.lexB,Bool.and_eq_true] at hB
 refine wpIn_region_any hm (wpAny_round hro (by simpa using hd) _ _ _ _ (wpAnyIn_of_quiet (C:=fun w'=>∃ n,w' = w.drewN n) (Q:=fun a'=>∀ w',(∃ n,w' = w.drewN n) → Q .normal a' w') hro (fun _ w' hw' h=>h w' hw') _ _ _ _ ⟨1,rfl⟩ ?_))
 have:=wpAnyQIn_lex (F:=F) (n:=n) (P:=P) (C:=fun w'=>∃ n,w' = w.drewN n) (md:=.any) hB.1 l.toArray.toList 0 (Array.replicate l.toArray.size false) a (by simp) (by simpa using hB.2) (by simpa using h)
 simpa using this
def Rowed (W : World) (B : Nat) (t : TypeId) (vs : Array Value) : Prop:=W.heap[B]? = some (.cells vs t (0,0))
theorem Rowed.lt {W : World} {B : Nat} {t : TypeId} {vs : Array Value} (h : Rowed W B t vs) : B < W.heap.size:=(Array.getElem?_eq_some_iff.1 h).1
theorem Rowed.kept {W W' : World} {row : Option Nat} {B : Nat} {t : TypeId} {v : Array Value} (h : Rowed W B t v) (hg : W.grownBy W' row) (hne : some B ≠ row) : Rowed W' B t v:=(hg.block B h.lt hne).trans h
theorem Rowed.alloc {W : World} {B : Nat} {t : TypeId} {v : Array Value} (h : Rowed W B t v) (o : Obj) : Rowed (W.alloc o) B t v:=h.kept (World.grownBy_alloc W o none) (by simp)
theorem rowed_own {β : Type} (B : Nat) (t : TypeId) (f : β → Array Value) : Own (fun s W=>Rowed W B t (f s)):=fun s X Y row hs hg hrow =>
 hs.kept hg (fun e'=>by obtain ⟨o,ho,hc⟩ := hrow B e'.symm;rw [show X.heap[B]? = _ from hs] at ho;cases ho;cases hc)
theorem Rowed.below {W W' : World} {n B : Nat} {t : TypeId} {v : Array Value} (h : Rowed W B t v) (hb : Below n W W') (hB : B < n) : Rowed W' B t v:=(hb.block B hB).trans h
theorem keepF {B : Nat} {W V : World} (h : Below W.heap.size W V) : KeepsFrom B W V:=⟨h.size,fun k o _ hk _=>(h.block k (Array.getElem?_eq_some_iff.1 hk).1).trans hk⟩
theorem keepS {B b : Nat} {W V : World} {v : Value} (hb : b < B) (h : Below W.heap.size W V) : KeepsFrom B W (V.setCell ⟨b,0,none⟩ v):=(keepF h).trans (KeepsFrom.of_grownBy (grownBy_setCell' V b v) (fun j e=>by cases e;exact hb))
theorem asked_wide {P : Program} {o : Oper} {a : Act} {C : World → Prop} : o.askedIn Fence.wide P a C:=fun _ _ _ _=>trivial
theorem coord_q {r : Nat} (b o : Nat) (ax : Int) (w : World) (n : Nat) : CallsIn Fence.wide r Try.prog 84 #[.pointer (some ⟨b,o,none⟩),.int .i64 ax] (w.drewN n) fun e w''=>e = .returned (.pointer (some ⟨b,o + axo ax,none⟩)) ∧ ∃ m,w'' = w.drewN m :=
 callsIn_wide.2 ((coord_any b o ax _).mono fun _ _ ⟨he,hw⟩=>⟨he,n,hw.symm⟩)
def badS (ns : List S59) (s : S107) : Bool:=(rd_T59 ns s.f0).f0 == 3 && (decide ((rd_T59 ns s.f0).f3 ≤ vget s.f1.f0 (rd_T59 ns s.f0).f2) || decide (wrap64 (vget s.f1.f1 (rd_T59 ns s.f0).f2 - (rd_T59 ns s.f0).f4) ≤ (rd_T59 ns s.f0).f3))
def placesR (ns : List S59) (v : S34) : Int:=if (walkS ns v).any (badS ns) = true then 12 else 0
structure PW (w : World) (v : S34) (A : Option Addr) (n c : Nat) (r : Int) (W : World) : Prop where
 size : Rowed W w.heap.size 34 #[.int .i64 v.f0,.int .i64 v.f1,.int .i64 v.f2]
 plan : Rowed W (w.heap.size + 1) 27 #[.slice A n c]
 res : Rowed W (w.heap.size + 2) 25 #[.int .i64 r]
 below : Below w.heap.size w W
theorem PW.own {β : Type} {w : World} {v : S34} {A : Option Addr} {n c B : Nat} {r : Int} (hB : w.heap.size ≤ B) : OwnFrom B (fun (_ : β) W=>PW w v A n c r W):=fun s W W' row hs hg hr =>
 ⟨rowed_own _ _ (fun (_ : Unit)=>#[.int .i64 v.f0,.int .i64 v.f1,.int .i64 v.f2]) () W W' row hs.size hg (fun r e=>(hr r e).2),rowed_own _ _ (fun (_ : Unit)=>#[.slice A n c]) () W W' row hs.plan hg (fun r e=>(hr r e).2),rowed_own _ _ (fun (_ : Unit)=>#[.int .i64 r]) () W W' row hs.res hg (fun r e=>(hr r e).2),
  ownFrom_below (β:=Unit) (Nat.le_refl _) hB () W W' row hs.below hg hr⟩
theorem PW.lt {w W : World} {v : S34} {A : Option Addr} {n c : Nat} {r : Int} (h : PW w v A n c r W) : w.heap.size + 2 < W.heap.size:=h.res.lt
theorem PW.mono {w W w2 : World} {v : S34} {A : Option Addr} {n c : Nat} {r : Int} (h : PW w v A n c r W) (hb : Below W.heap.size W w2) : PW w v A n c r w2 :=
 ⟨h.size.below hb h.size.lt,h.plan.below hb h.plan.lt,h.res.below hb h.res.lt,h.below.trans (hb.mono h.below.size)⟩
theorem PW.put {w W : World} {v : S34} {A : Option Addr} {n c : Nat} {r q : Int} (h : PW w v A n c r W) : PW w v A n c q (W.setCell ⟨w.heap.size + 2,0,none⟩ (.int .i64 q)) :=
 ⟨(Below.heap_setCell _ _ _ _ (by show w.heap.size ≠ w.heap.size + 2;omega)).trans h.size,(Below.heap_setCell _ _ _ _ (by show w.heap.size + 1 ≠ w.heap.size + 2;omega)).trans h.plan,blk_put h.res 0 (.int .i64 q) rfl,h.below.setCell (p:=⟨w.heap.size + 2,0,none⟩) (by show w.heap.size ≤ w.heap.size + 2;omega) _⟩
theorem places0 (w : World) (v : S34) (A : Option Addr) (n c : Nat) :
  PW w v A n c 0 (((((w.alloc (.cells #[.int .i64 v.f0,.int .i64 v.f1,.int .i64 v.f2] 34)).alloc (.cells #[.slice A n c] 27)).alloc (.cells #[.int .i64 0] 25)).alloc (.cells #[.int .i64 v.f0,.int .i64 v.f1,.int .i64 v.f2] 34)).alloc (.cells #[.slice A n c] 27)) ∧
  (((((w.alloc (.cells #[.int .i64 v.f0,.int .i64 v.f1,.int .i64 v.f2] 34)).alloc (.cells #[.slice A n c] 27)).alloc (.cells #[.int .i64 0] 25)).alloc (.cells #[.int .i64 v.f0,.int .i64 v.f1,.int .i64 v.f2] 34)).alloc (.cells #[.slice A n c] 27)).heap[w.heap.size + 3]? = some (.cells #[.int .i64 v.f0,.int .i64 v.f1,.int .i64 v.f2] 34 (0,0)) ∧
  (((((w.alloc (.cells #[.int .i64 v.f0,.int .i64 v.f1,.int .i64 v.f2] 34)).alloc (.cells #[.slice A n c] 27)).alloc (.cells #[.int .i64 0] 25)).alloc (.cells #[.int .i64 v.f0,.int .i64 v.f1,.int .i64 v.f2] 34)).alloc (.cells #[.slice A n c] 27)).heap[w.heap.size + 4]? = some (.cells #[.slice A n c] 27 (0,0)) ∧
  (((((w.alloc (.cells #[.int .i64 v.f0,.int .i64 v.f1,.int .i64 v.f2] 34)).alloc (.cells #[.slice A n c] 27)).alloc (.cells #[.int .i64 0] 25)).alloc (.cells #[.int .i64 v.f0,.int .i64 v.f1,.int .i64 v.f2] 34)).alloc (.cells #[.slice A n c] 27)).heap.size = w.heap.size + 5:=by
 have e1 : ∀ (W : World) (o : Obj) (k : Nat),k < W.heap.size → (W.alloc o).heap[k]? = W.heap[k]? := fun W o k h=>Below.heap_alloc W o k h
 have e2 : ∀ (W : World) (o : Obj) (k : Nat),k = W.heap.size → (W.alloc o).heap[k]? = some o:=fun W o k h=>by rw [h];exact heap_alloc_new W o
 refine ⟨⟨?_, ?_, ?_,below_alloc (below_alloc (below_alloc (below_alloc (below_alloc (Below.refl _ _) _) _) _) _) _⟩, ?_, ?_,by simp⟩
 ·unfold Rowed;rw [e1 _ _ _ (by simp;omega),e1 _ _ _ (by simp;omega),e1 _ _ _ (by simp;omega),e1 _ _ _ (by simp)];exact e2 _ _ _ rfl
 ·unfold Rowed;rw [e1 _ _ _ (by simp),e1 _ _ _ (by simp),e1 _ _ _ (by simp)];exact e2 _ _ _ (by simp)
 ·unfold Rowed;rw [e1 _ _ _ (by simp),e1 _ _ _ (by simp)];exact e2 _ _ _ (by simp)
 (rw [e1 _ _ _ (by simp)];exact e2 _ _ _ (by simp));(exact e2 _ _ _ (by simp))
theorem pl_end {w W : World} {D : Nat} {r : Int} {tmps : Array Value} (hB : Below w.heap.size w W) (hKD : W.heap[D]? = some (.deferred (some []))) (hD : w.heap.size + 3 ≤ D) (hr : Rowed W (w.heap.size + 2) 25 #[.int .i64 r]) (h2 : tmps.getD 4 undef = .pointer (some ⟨w.heap.size + 2, 0, none⟩)) :
  bodyPostM Fence.wide 3 Try.prog Try.f72 (fun e w'=>e = .returned (.int .i64 r) ∧ Below w.heap.size w w') Exit.ret { tmps:=tmps,defers:=[{ target:=Target.collected D,args:=#[] }] } W:=by
 refine ⟨by simp,.inl ⟨_,_,rfl,run_takeDeferred hKD, ?_⟩⟩
 refine ⟨_, ?_,rfl,hB.trans (belowK_b (w:=w) (Nat.le_refl _) _ D _ _ (by omega) hKD rfl rfl)⟩
 have hc : ∀ o,(W.putObj D o).cell? ⟨w.heap.size + 2,0,none⟩ = some (.int .i64 r):=fun o=>blk_cell ((World.putObj_heap_other (by omega)).trans hr) 0
 have h2' : tmps[4]?.getD undef = .pointer (some ⟨w.heap.size + 2,0,none⟩):=by simpa using h2
 have hres : Try.f72.results = #[.cell 4 25] := rfl
 simp [results,hres,h2',asAddr,go_sem,hc]
set_option maxRecDepth 100000 in
set_option maxHeartbeats 4000000 in
theorem places_any (v : S34) (A : Option Addr) (c : Nat) (ns : List S59) (w : World) (hr : Kd.C k59 w A ns.length ns) (hg : GoodN ns) (h0 : 0 < ns.length) :
  Calls Try.prog 72 #[.agg #[.int .i64 v.f0,.int .i64 v.f1,.int .i64 v.f2],.slice A ns.length c] w fun e w'=>e = .returned (.int .i64 (placesR ns v)) ∧ Below w.heap.size w w':=by
 refine (callsIn_wide (n:=3)).1 ?_
 have HR:=aside hr;have HG:=aside hg;have H0:=aside h0;clear hr hg h0
 refine callsIn_of_wp_marks Try.func72 rfl trivial ?_ rfl
 simp only [Try.ntmps72,List.size_toArray,List.length_cons,List.length_nil,Nat.reduceAdd,Nat.reduceSub,Array.replicate_succ,Array.replicate_zero,List.push_toArray,List.append_toArray,List.nil_append,List.cons_append]
 gi_wp2_with (first
    | (refine ⟨trivial, ?_⟩;gi_at_call 73;refine (walk_in _ _ _ _ v _).mono ?_;rintro e w' ⟨rfl,rfl⟩))
 simp only [Nat.add_assoc,Nat.reduceAdd]
 obtain ⟨W5,hW5⟩ : ∃ W5,(((((w.alloc (.cells #[.int .i64 v.f0,.int .i64 v.f1,.int .i64 v.f2] 34)).alloc (.cells #[.slice A ns.length c] 27)).alloc (.cells #[.int .i64 0] 25)).alloc (.cells #[.int .i64 v.f0,.int .i64 v.f1,.int .i64 v.f2] 34)).alloc (.cells #[.slice A ns.length c] 27)) = W5:=⟨_,rfl⟩
 obtain ⟨hpw,hs3,hp4,hsz⟩ := places0 w v A ns.length c;rw [hW5] at hpw hs3 hp4 hsz ⊢;clear hW5
 refine wpIn_rangeFunc_ownH (α:=StepN ns) rfl (by omega) (gf:=85) (lb:=#[.pointer (some ⟨w.heap.size + 4,0,none⟩),.pointer (some ⟨w.heap.size + 3,0,none⟩)]) rfl trivial eg85
  (encs:=fun x : StepN ns=>#[e107 x.1]) (Kp:=KT w.heap.size) (S:=fun ys=>ys.map (·.1) = walkS ns v) (Sp:=fun pre=>pre.map (·.1) <+: walkS ns v) (N:=(walkS ns v).length) (w0:=W5)
  (walk_stops 2 _ _ w W5 A c ns v HR.out HG.out H0.out hpw.below hp4 hs3) (fun h k=>KT.trans h k) (fun W l o o' hl h hc hw=>KT_b (w:=W5) (by omega) W l o o' hl h hc hw) (Below.refl _ _) (fun _=>rfl)
  (fun pre W=>PW w v A ns.length c 0 W ∧ (pre.map (·.1)).any (badS ns) = false) (fun cd pre W=>(cd = .ret ∧ (pre.map (·.1)).any (badS ns) = true) ∧ PW w v A ns.length c 12 W)
  (fun pre W W' row hs hg hr=>⟨PW.own (β:=Unit) (by omega) () W W' row hs.1 hg hr,hs.2⟩) (fun cd pre W W' row hs hg hr=>⟨hs.1,PW.own (β:=Unit) (by omega) () W W' row hs.2 hg hr⟩) ⟨hpw,rfl⟩
  (fun x a' W=>∃ Bx,w.heap.size + 3 ≤ Bx ∧ Rowed W Bx 114 (a107 x.1) ∧ a' = { tmps:=#[.agg #[.int .i64 v.f0,.int .i64 v.f1,.int .i64 v.f2],.slice A ns.length c,.pointer (some ⟨w.heap.size,0,none⟩),.pointer (some ⟨w.heap.size + 1,0,none⟩),.pointer (some ⟨w.heap.size + 2,0,none⟩),.pointer (some ⟨Bx,0,none⟩),undef,.agg #[.int .i64 v.f0,.int .i64 v.f1,.int .i64 v.f2],.slice A ns.length c,.func (.func 85) #[] #[.pointer (some ⟨w.heap.size + 4,0,none⟩),.pointer (some ⟨w.heap.size + 3,0,none⟩)],e107 x.1,undef,undef,undef,undef,undef,undef,undef,undef,undef,undef,undef,undef,undef,undef,undef,undef,undef,undef,undef,undef,undef,undef,undef,undef,undef,undef,undef,undef,undef,undef,undef,undef,undef,undef,undef],defers:=[] })
  (fun x a' _ X Y row hs hg hr=>by obtain ⟨Bx,h1,h2,h3⟩ := hs;exact ⟨Bx,h1,rowed_own Bx 114 (fun (_ : Unit)=>a107 x.1) () X Y row h2 hg (fun r e=>(hr r e).2),h3⟩)
  ?assign ?body ?done ?stop
 case assign =>
  rintro l pre ⟨⟨at_,⟨⟨p0,p1,p2⟩,⟨p3,p4,p5⟩⟩,d⟩,x0,x1⟩ W K hI hK;have hl:=hI.1.lt;have HK:=aside hK;have HI:=aside hI;clear hK hI
  dsimp only [e107,a107] at *
  gi_wp2
  have hb1 : Below W.heap.size W (W.alloc (.cells #[.int .i64 at_,.int .i64 p0,.int .i64 p1,.int .i64 p2,.int .i64 p3,.int .i64 p4,.int .i64 p5,.int .i64 d] 114)):=below_alloc (Below.refl _ _) _;exact HK.out _ _ (keepF hb1) (KT.of_below hb1 HI.out.1.below.size) ⟨HI.out.1.mono hb1,HI.out.2⟩ ⟨W.heap.size,by omega,heap_alloc_new W _,rfl⟩
 case body =>
  rintro l pre ⟨s,x0,x1⟩ a' W hl _ ⟨hpw,hpre⟩ ⟨Bx,hB,hBx,rfl⟩ hlt
  obtain ⟨nd,hnd⟩ : ∃ nd,rd_T59 ns s.f0 = nd:=⟨_,rfl⟩
  have hbad : badS ns s = (nd.f0 == 3 && (decide (nd.f3 ≤ vget s.f1.f0 nd.f2) || decide (wrap64 (vget s.f1.f1 nd.f2 - nd.f4) ≤ nd.f3))):=by unfold badS;rw [hnd]
  obtain ⟨ad,rfl,n0,n1,n2,n3,n4,n5,n6⟩ := at_T59 (Kd.C_below HR.out hpw.below) s.f0 x0 x1;rw [hnd] at n0 n1 n2 n3 n4 n5 n6;have q0 : W.cell? ⟨w.heap.size + 1,0,none⟩ = some (.slice (some ad) ns.length c):=(blk_cell hpw.plan 0).trans rfl;have s0 : W.cell? ⟨Bx,0,none⟩ = some (.int .i64 s.f0):=(blk_cell hBx 0).trans rfl;have m0 : W.cell? ⟨Bx,1 + axo nd.f2,none⟩ = some (.int .i64 (vget s.f1.f0 nd.f2)):=(blk_cell hBx _).trans (by unfold a107 axo vget;split <;> (try split) <;> rfl);have m1 : W.cell? ⟨Bx,4 + axo nd.f2,none⟩ = some (.int .i64 (vget s.f1.f1 nd.f2)):=(blk_cell hBx _).trans (by unfold a107 axo vget;split <;> (try split) <;> rfl);have hbl:=hBx.lt
  have hpre2 : ∀ q,badS ns s = q → ((pre ++ [(⟨s,x0,x1⟩ : StepN ns)]).map (·.1)).any (badS ns) = q:=fun q hq=>by rw [List.map_append,List.any_append,hpre,List.map_cons,List.map_nil,List.any_cons,List.any_nil];simp [hq]
  have HP:=aside hpre2;have HPW:=aside hpw;have HBD:=aside hbad
  obtain ⟨sat,smn,smx,sd⟩ : ∃ a b c d,s = ⟨a,⟨b,c⟩,d⟩ := ⟨_,_,_,_,rfl⟩
  generalize vget s.f1.f0 nd.f2 = u0 at m0 HBD;generalize vget s.f1.f1 nd.f2 = u1 at m1 HBD;have hrl : w.heap.size + 2 < W.heap.size:=hpw.lt;have r0 : W.cell? ⟨w.heap.size + 2,0,none⟩ = some (.int .i64 0):=(blk_cell hpw.res 0).trans rfl;have rf : W.frozen? ⟨w.heap.size + 2,0,none⟩ = false:=blk_frozen hpw.res 0;clear hpre hpre2 hpw hbad hBx hnd
  cases hk : (nd.f0 == 3)
  ·have hk2 : (nd.f0 != 3) = true:=by rw [bne,hk];rfl
   gi_wp2
   refine quiet_round rfl (by kernel_rfl) (by kernel_rfl) (by kernel_rfl) ?_
   repeat (refine wpQuietIn_step asked_wide (fun K hK=>?_);go_simp;first|(refine hK _ ?_;clear hK K)|(apply Exists.intro;refine ⟨fun _=>?_,hK _ ?_⟩;(fail);clear hK K))
   refine wpQuietIn_nil ?_
   intro _ hw';obtain ⟨nq,hw''⟩ := hw';subst hw''
   gi_wp2
   have hbW : Below W.heap.size W ((W.alloc (.cells #[.int .i64 nd.f0,.string nd.f1,.int .i64 nd.f2,.int .i64 nd.f3,.int .i64 nd.f4,.int .i64 nd.f5,.int .i64 nd.f6] 59)).drewN nq):=pw_below_drewN (below_alloc (Below.refl _ _) _) nq;exact ⟨keepF hbW,KT.of_below hbW HPW.out.below.size,HPW.out.mono hbW,HP.out false (by rw [HBD.out];rw [hk];rfl)⟩
  ·have hk2 : (nd.f0 != 3) = false:=by rw [bne,hk];rfl
   cases hz : decide (nd.f3 ≤ u0)
   ·cases hy : decide (wrap64 (u1 - nd.f4) ≤ nd.f3)
    ·have hy2 : decide (IntKind.i64.wrap (u1 - nd.f4) ≤ nd.f3) = false:=by rw [IntWalk.i64_left];exact hy
     gi_wp2
     refine quiet_round rfl (by kernel_rfl) (by kernel_rfl) (by kernel_rfl) ?_
     repeat (refine wpQuietIn_step asked_wide (fun K hK=>?_);go_simp;first|(refine hK _ ?_;clear hK K)|(apply Exists.intro;refine ⟨fun _=>?_,hK _ ?_⟩;(first|exact coord_q _ _ _ _ _);clear hK K))
     refine wpQuietIn_nil ?_
     intro _ hw';obtain ⟨nq,hw''⟩ := hw';subst hw''
     gi_wp2
     have hbW : Below W.heap.size W ((W.alloc (.cells #[.int .i64 nd.f0,.string nd.f1,.int .i64 nd.f2,.int .i64 nd.f3,.int .i64 nd.f4,.int .i64 nd.f5,.int .i64 nd.f6] 59)).drewN nq):=pw_below_drewN (below_alloc (Below.refl _ _) _) nq;exact ⟨keepF hbW,KT.of_below hbW HPW.out.below.size,HPW.out.mono hbW,HP.out false (by rw [HBD.out];rw [hk,hz,hy];rfl)⟩
    ·have hy2 : decide (IntKind.i64.wrap (u1 - nd.f4) ≤ nd.f3) = true:=by rw [IntWalk.i64_left];exact hy
     gi_wp2
     refine quiet_round rfl (by kernel_rfl) (by kernel_rfl) (by kernel_rfl) ?_
     repeat (refine wpQuietIn_step asked_wide (fun K hK=>?_);go_simp;first|(refine hK _ ?_;clear hK K)|(apply Exists.intro;refine ⟨fun _=>?_,hK _ ?_⟩;(first|exact coord_q _ _ _ _ _);clear hK K))
     refine wpQuietIn_nil ?_
     intro _ hw';obtain ⟨nq,hw''⟩ := hw';subst hw''
     gi_wp2
     have hbW : Below W.heap.size W ((W.alloc (.cells #[.int .i64 nd.f0,.string nd.f1,.int .i64 nd.f2,.int .i64 nd.f3,.int .i64 nd.f4,.int .i64 nd.f5,.int .i64 nd.f6] 59)).drewN nq):=pw_below_drewN (below_alloc (Below.refl _ _) _) nq;exact ⟨keepS (by omega) hbW,⟨rfl,HP.out true (by rw [HBD.out];rw [hk,hz,hy];rfl)⟩,(HPW.out.mono hbW).put⟩
   ·skip
    gi_wp2
    refine quiet_round rfl (by kernel_rfl) (by kernel_rfl) (by kernel_rfl) ?_
    repeat (refine wpQuietIn_step asked_wide (fun K hK=>?_);go_simp;first|(refine hK _ ?_;clear hK K)|(apply Exists.intro;refine ⟨fun _=>?_,hK _ ?_⟩;(first|exact coord_q _ _ _ _ _);clear hK K))
    refine wpQuietIn_nil ?_
    intro _ hw';obtain ⟨nq,hw''⟩ := hw';subst hw''
    gi_wp2
    have hbW : Below W.heap.size W ((W.alloc (.cells #[.int .i64 nd.f0,.string nd.f1,.int .i64 nd.f2,.int .i64 nd.f3,.int .i64 nd.f4,.int .i64 nd.f5,.int .i64 nd.f6] 59)).drewN nq):=pw_below_drewN (below_alloc (Below.refl _ _) _) nq;exact ⟨keepS (by omega) hbW,⟨rfl,HP.out true (by rw [HBD.out];rw [hk,hz];rfl)⟩,(HPW.out.mono hbW).put⟩
 case done =>
  rintro D ys W hD hys ⟨hpw1,hall⟩ hK;have cr : W.cell? ⟨w.heap.size + 2,0,none⟩ = some (.int .i64 0):=blk_cell hpw1.res 0;have fz : W.frozen? ⟨w.heap.size + 2,0,none⟩ = false:=blk_frozen hpw1.res 0;have HB1:=aside hpw1;have HAll:=aside hall;have HK:=aside hK;have HY:=aside hys;clear hpw1 hall hK hys
  dsimp only
  gi_wp2
  have hy : placesR ns v = 0:=by unfold placesR;rw [← HY.out,HAll.out];rfl
  rw [hy];exact pl_end (hB:=HB1.out.below.setCell (p:=⟨w.heap.size + 2,0,none⟩) (by show w.heap.size ≤ w.heap.size + 2;omega) _) (r:=0) (by rw [Below.heap_setCell _ _ _ _ (by show D ≠ w.heap.size + 2;omega)];exact HK.out) (by omega) (blk_put HB1.out.res 0 (.int .i64 0) rfl) rfl
 case stop =>
  rintro D cd pre W hD hsp ⟨⟨rfl,hj⟩,hpw1⟩ hK;have HB1:=aside hpw1;have HJ:=aside hj;have HK:=aside hK;have HY:=aside hsp;clear hpw1 hj hK hsp
  dsimp only
  gi_wp2
  have hy : placesR ns v = 12:=by
   obtain ⟨r,hr⟩ := HY.out
   unfold placesR
   rw [← hr,List.any_append,HJ.out];rfl
  rw [hy];exact pl_end (hB:=HB1.out.below) (r:=12) HK.out (by omega) HB1.out.res rfl
end Go.Proofs.Ytdnjagfbhppmbaa.PA
