import Derived.Test.YtohcgenhhgipcaaGe
import Derived.Test.YtohcgenhhgipcaaGf
import Derived.Test.YtohcgenhhgipcaaPAx3
namespace Go.Proofs.Ytohcgenhhgipcaa.PA
open Go.RowKit Go.Shelf Go.Proofs.YtohcgenhhgipcaaW.PrintWords Go.Proofs.YtohcgenhhgipcaaW.PrintLast Go.Proofs.YtohcgenhhgipcaaW.PrintMore
set_option linter.unusedVariables false
set_option linter.unusedSimpArgs false
attribute [local go_sem] Oper.semAt_some

/-- a row of cells -/
def Rowed (W : World) (B : Nat) (t : TypeId) (vs : Array Value) : Prop:=W.heap[B]? = some (.cells vs t (0,0))
theorem Rowed.lt {W : World} {B : Nat} {t : TypeId} {vs : Array Value} (h : Rowed W B t vs) : B < W.heap.size:=(Array.getElem?_eq_some_iff.1 h).1
theorem Rowed.kept {W W' : World} {row : Option Nat} {B : Nat} {t : TypeId} {v : Array Value} (h : Rowed W B t v) (hg : W.grownBy W' row) (hne : some B ≠ row) : Rowed W' B t v:=(hg.block B h.lt hne).trans h
theorem Rowed.alloc {W : World} {B : Nat} {t : TypeId} {v : Array Value} (h : Rowed W B t v) (o : Obj) : Rowed (W.alloc o) B t v:=h.kept (World.grownBy_alloc W o none) (by simp)
theorem rowed_own {β : Type} (B : Nat) (t : TypeId) (f : β → Array Value) : Own (fun s W=>Rowed W B t (f s)):=fun s X Y row hs hg hrow =>
 hs.kept hg (fun e'=>by obtain ⟨o,ho,hc⟩ := hrow B e'.symm;rw [show X.heap[B]? = _ from hs] at ho;cases ho;cases hc)
theorem Rowed.below {W W' : World} {n B : Nat} {t : TypeId} {v : Array Value} (h : Rowed W B t v) (hb : Below n W W') (hB : B < n) : Rowed W' B t v:=(hb.block B hB).trans h
/-- the moments when one load more is there -/
def stp (t : S24) (m : Int × Int) (x : S61) : Int × Int :=
 (wrap64 (m.1 + wrap64 (x.f3 * wrap64 (wrap64 (2 * t.f3) - wrap64 (wrap64 (2 * x.f1) + x.f2)))),wrap64 (m.2 + wrap64 (x.f3 * wrap64 (wrap64 (wrap64 (2 * x.f1) + x.f2) - wrap64 (2 * t.f2)))))
def dist (t : S24) : Int:=wrap64 (2 * wrap64 (t.f3 - t.f2))
def momF (t : S24) (l : List S61) : Int × Int:=l.foldl (stp t) (wrap64 (dist t * t.f5.f0),wrap64 (dist t * t.f5.f1))
theorem mom_l0 (t : S24) (l : List S61) (hl : l.length ≤ 1000000000) : ∀ (j : Nat) (k : Nat) (m : Int × Int), j ≤ l.length → l.length - j < k →
  loading_moments.l0 k l (l.length : Int) (j : Int) t.f0 t.f1 t.f2 t.f3 t.f4.f0 t.f4.f1 t.f5.f0 t.f5.f1 m.1 m.2 = some ((l.drop j).foldl (stp t) m):=by
 intro j
 induction hn : l.length - j generalizing j with
 | zero =>
  intro k m hj hk
  cases k with
  | zero=>omega
  | succ k =>
   rw [loading_moments.l0,if_neg (by omega : ¬((j : Int) < (l.length : Int))),List.drop_of_length_le (by omega)];rfl
 | succ d ih =>
  intro k m hj hk
  cases k with
  | zero=>omega
  | succ k =>
   have hlt : j < l.length:=by omega
   have hw : wrap64 ((j : Int) + 1) = ((j + 1 : Nat) : Int):=by unfold wrap64;omega
   have hr : rd_T61 l (j : Int) = l[j] := by unfold rd_T61;simp [hlt]
   rw [loading_moments.l0,if_pos (by omega : (j : Int) < (l.length : Int)),if_pos (by omega : (0 : Int) ≤ j),if_pos (by omega : (j : Int) < (l.length : Int)),hw,hr]
   have:=ih (j + 1) (by omega) k (stp t m l[j]) (by omega) (by omega)
   rw [List.drop_eq_getElem_cons hlt,List.foldl_cons];exact this
theorem mom_f (t : S24) (l : List S61) (hl : l.length ≤ 1000000000) : loading_moments.f (l.length + 1) t.f0 t.f1 t.f2 t.f3 t.f4.f0 t.f4.f1 t.f5.f0 t.f5.f1 l = some (momF t l):=by
 have:=mom_l0 t l hl 0 (l.length + 1) (wrap64 (dist t * t.f5.f0),wrap64 (dist t * t.f5.f1)) (by omega) (by omega)
 exact this
/-- an axle bears -/
def axO (d m n : Int) : Bool := !(decide (m < 0) || decide (wrap64 (d * n) < m))
def stB (t : S24) (l : List S61) : Bool:=axO (dist t) (momF t l).1 t.f4.f0 && axO (dist t) (momF t l).2 t.f4.f1
def bearsB (t : S24) : List S61 → Bool
 | []=>stB t []
 | x :: r=>stB t (x :: r) && bearsB t r
theorem bears_no (t : S24) : ∀ (l : List S61) (j : Nat),stB t (l.drop j) = false → bearsB t l = false
 | [],j,h=>by simpa [bearsB] using h
 | x :: r,0,h=>by simp [bearsB,show stB t (x :: r) = false from h]
 | x :: r,j + 1,h=>by simp [bearsB,bears_no t r j (by simpa using h)]
theorem bears_yes (t : S24) : ∀ (l : List S61),(∀ j ≤ l.length,stB t (l.drop j) = true) → bearsB t l = true
 | [],h=>h 0 (by simp)
 | x :: r,h=>by
  rw [bearsB,show stB t (x :: r) = true from h 0 (by simp),bears_yes t r (fun j hj=>by simpa using h (j + 1) (by simpa using hj))];rfl
def loading_bears.f (a0_0 : ByteArray) (a0_1 a0_2 a0_3 a0_4 a0_5 a0_6 a0_7 : Int) (l1 : List S61) : Option Bool :=
 if l1.length ≤ 1000000000 then some (bearsB ⟨a0_0,a0_1,a0_2,a0_3,⟨a0_4,a0_5⟩,⟨a0_6,a0_7⟩⟩ l1) else none

def rowT (t : S24) : Array Value:=#[.string t.f0,.int .i64 t.f1,.int .i64 t.f2,.int .i64 t.f3,.int .i64 t.f4.f0,.int .i64 t.f4.f1,.int .i64 t.f5.f0,.int .i64 t.f5.f1]
/-- what the loop keeps -/
structure BW (w : World) (t : S24) (A : Option Addr) (m c : Nat) (W : World) : Prop where
 truck : Rowed W w.heap.size 24 (rowT t)
 res : Rowed W (w.heap.size + 1) 4 #[.bool false]
 dst : Rowed W (w.heap.size + 2) 2 #[.int .i64 (dist t)]
 box : Rowed W (w.heap.size + 3) 45 #[.slice A m c]
 below : Below w.heap.size w W
theorem BW.own {β : Type} {w : World} {t : S24} {A : Option Addr} {m c B : Nat} (hB : w.heap.size ≤ B) : OwnFrom B (fun (_ : β) W=>BW w t A m c W):=fun s W W' row hs hg hr =>
 ⟨rowed_own _ _ (fun (_ : Unit)=>rowT t) () W W' row hs.truck hg (fun r e=>(hr r e).2),rowed_own _ _ (fun (_ : Unit)=>#[.bool false]) () W W' row hs.res hg (fun r e=>(hr r e).2),rowed_own _ _ (fun (_ : Unit)=>#[.int .i64 (dist t)]) () W W' row hs.dst hg (fun r e=>(hr r e).2),rowed_own _ _ (fun (_ : Unit)=>#[.slice A m c]) () W W' row hs.box hg (fun r e=>(hr r e).2),
  ownFrom_below (β:=Unit) (Nat.le_refl _) hB () W W' row hs.below hg hr⟩
theorem BW.mono {w W w2 : World} {t : S24} {A : Option Addr} {m c : Nat} (h : BW w t A m c W) (hl : w.heap.size + 3 < W.heap.size) (hb : Below W.heap.size W w2) : BW w t A m c w2 :=
 ⟨h.truck.below hb (by omega),h.res.below hb (by omega),h.dst.below hb (by omega),h.box.below hb (by omega),h.below.trans (hb.mono h.below.size)⟩
theorem BW.put {w W : World} {t : S24} {A : Option Addr} {m c : Nat} (h : BW w t A m c W) : BW w t A m c (W.setCell ⟨w.heap.size + 1,0,none⟩ (.bool false)) :=
 ⟨(Below.heap_setCell _ _ _ _ (by show w.heap.size ≠ w.heap.size + 1;omega)).trans h.truck,blk_put h.res 0 (.bool false) rfl,(Below.heap_setCell _ _ _ _ (by show w.heap.size + 2 ≠ w.heap.size + 1;omega)).trans h.dst,(Below.heap_setCell _ _ _ _ (by show w.heap.size + 3 ≠ w.heap.size + 1;omega)).trans h.box,h.below.setCell (p:=⟨w.heap.size + 1,0,none⟩) (by show w.heap.size ≤ w.heap.size + 1;omega) _⟩
theorem keepF {B : Nat} {W V : World} (h : Below W.heap.size W V) : KeepsFrom B W V:=⟨h.size,fun k o _ hk _=>(h.block k (Array.getElem?_eq_some_iff.1 hk).1).trans hk⟩
theorem keepS {B b : Nat} {W V : World} {v : Value} (hb : b < B) (h : Below W.heap.size W V) : KeepsFrom B W (V.setCell ⟨b,0,none⟩ v):=(keepF h).trans (KeepsFrom.of_grownBy (grownBy_setCell' V b v) (fun j e=>by cases e;exact hb))
theorem bear_end {w W : World} {D : Nat} {b : Bool} {tmps : Array Value} (hB : Below w.heap.size w W) (hKD : W.heap[D]? = some (.deferred (some []))) (hD : w.heap.size + 2 ≤ D) (hr : Rowed W (w.heap.size + 1) 4 #[.bool b]) (h2 : tmps.getD 4 undef = .pointer (some ⟨w.heap.size + 1, 0, none⟩)) :
  bodyPostM Fence.wide 3 Try.prog Try.f53 (fun e w'=>e = .returned (.bool b) ∧ Below w.heap.size w w') Exit.ret { tmps:=tmps,defers:=[{ target:=Target.collected D,args:=#[] }] } W:=by
 refine ⟨by simp,.inl ⟨_,_,rfl,run_takeDeferred hKD, ?_⟩⟩
 refine ⟨_, ?_,rfl,hB.trans (belowK_b (w:=w) (Nat.le_refl _) _ D _ _ (by omega) hKD rfl rfl)⟩
 have hc : ∀ o,(W.putObj D o).cell? ⟨w.heap.size + 1,0,none⟩ = some (.bool b):=fun o=>blk_cell ((World.putObj_heap_other (by omega)).trans hr) 0
 have h2' : tmps[4]?.getD undef = .pointer (some ⟨w.heap.size + 1,0,none⟩):=by simpa using h2
 have hres : Try.f53.results = #[.cell 4 4] := rfl
 simp [results,hres,h2',asAddr,go_sem,hc]
theorem cut_C {w W : World} {A : Option Addr} {c : Nat} {ls : List S61} (hr : Kd.C k61 w A ls.length ls) (hc : ls.length ≤ c) (x : Nat) (hb : Below w.heap.size w W) : ∃ A' c',cutV A ls.length c x = .slice A' (ls.drop x).length c' ∧ Kd.C k61 W A' (ls.drop x).length (ls.drop x) ∧ (ls.drop x).length ≤ c':=by
 have hC:=Kd.C_below hr hb
 unfold cutV
 by_cases hx : x ≤ ls.length
 (exact ⟨_,c - x,by rw [List.length_drop];rfl,Kd.C_drop (m:=x) hC hx hc,by rw [List.length_drop];omega⟩);(have e : ls.drop x = [] := List.drop_of_length_le (by omega);exact ⟨_,c - x,by rw [List.length_drop],by rw [e];exact ⟨rfl,by simp,fun h=>absurd h (Nat.lt_irrefl 0)⟩,by rw [List.length_drop];omega⟩)
set_option maxRecDepth 100000 in
set_option maxHeartbeats 4000000 in
theorem bears_any (t : S24) (A : Option Addr) (c : Nat) (ls : List S61) (w : World) (hr : Kd.C k61 w A ls.length ls) (hc : ls.length ≤ c) (hlen : ls.length ≤ 1000000000) :
  Calls Try.prog 53 #[e24 t,.slice A ls.length c] w fun e w'=>e = .returned (.bool (bearsB t ls)) ∧ Below w.heap.size w w':=by
 refine (callsIn_wide (n:=3)).1 ?_
 obtain ⟨d,hd⟩ : ∃ d,dist t = d:=⟨_,rfl⟩
 have HD:=aside hd;have HR:=aside hr;have HC:=aside hc;have HL:=aside hlen;have Hrt : rowT t = rowT t:=rfl
 unfold e24
 obtain ⟨nm,ln,fr,re,⟨l0,l1⟩,⟨e0,e1⟩⟩ := t
 dsimp only
 have hd' : wrap64 (2 * wrap64 (re - fr)) = d:=hd;clear hr hc hlen hd Hrt
 refine callsIn_of_wp_marks Try.func53 rfl trivial ?_ rfl
 simp only [Try.ntmps53,List.size_toArray,List.length_cons,List.length_nil,Nat.reduceAdd,Nat.reduceSub,Array.replicate_succ,Array.replicate_zero,List.push_toArray,List.append_toArray,List.nil_append,List.cons_append]
 gi_wp2_with (first
    | (refine ⟨trivial, ?_⟩;gi_at_call 69;refine (stages_in _ _ _ _ _).mono ?_;rintro e w' ⟨rfl,rfl⟩))
 simp only [Nat.add_assoc,Nat.reduceAdd]
 have hb0:=(((Below.refl w.heap.size w).alloc (Nat.le_refl _) (.cells #[.string nm,.int .i64 ln,.int .i64 fr,.int .i64 re,.int .i64 l0,.int .i64 l1,.int .i64 e0,.int .i64 e1] 24)).alloc (by simp) (.cells #[.bool false] 4)).alloc (by simp;omega) (.cells #[.int .i64 d] 2) |>.alloc (by simp;omega) (.cells #[.slice A ls.length c] 45)
 have hbw : BW w ⟨nm,ln,fr,re,⟨l0,l1⟩,⟨e0,e1⟩⟩ A ls.length c ((((w.alloc (.cells #[.string nm,.int .i64 ln,.int .i64 fr,.int .i64 re,.int .i64 l0,.int .i64 l1,.int .i64 e0,.int .i64 e1] 24)).alloc (.cells #[.bool false] 4)).alloc (.cells #[.int .i64 d] 2)).alloc (.cells #[.slice A ls.length c] 45)):=by
  refine ⟨?_, ?_, ?_, ?_,hb0⟩
  (exact (((show Rowed (w.alloc _) w.heap.size 24 _ from World.alloc_heap_new _ _).alloc _).alloc _).alloc _)
  ·have:=World.alloc_heap_new (w.alloc (.cells #[.string nm,.int .i64 ln,.int .i64 fr,.int .i64 re,.int .i64 l0,.int .i64 l1,.int .i64 e0,.int .i64 e1] 24)) (.cells #[.bool false] 4)
   rw [World.size_alloc] at this;exact ((show Rowed _ (w.heap.size + 1) 4 _ from this).alloc _).alloc _
  ·have:=World.alloc_heap_new ((w.alloc (.cells #[.string nm,.int .i64 ln,.int .i64 fr,.int .i64 re,.int .i64 l0,.int .i64 l1,.int .i64 e0,.int .i64 e1] 24)).alloc (.cells #[.bool false] 4)) (.cells #[.int .i64 d] 2)
   rw [World.size_alloc,World.size_alloc] at this;rw [HD.out];exact (show Rowed _ (w.heap.size + 2) 2 _ from this).alloc _
  ·have:=World.alloc_heap_new (((w.alloc (.cells #[.string nm,.int .i64 ln,.int .i64 fr,.int .i64 re,.int .i64 l0,.int .i64 l1,.int .i64 e0,.int .i64 e1] 24)).alloc (.cells #[.bool false] 4)).alloc (.cells #[.int .i64 d] 2)) (.cells #[.slice A ls.length c] 45)
   rw [World.size_alloc,World.size_alloc,World.size_alloc] at this;exact this
 have hsz : ((((w.alloc (.cells #[.string nm,.int .i64 ln,.int .i64 fr,.int .i64 re,.int .i64 l0,.int .i64 l1,.int .i64 e0,.int .i64 e1] 24)).alloc (.cells #[.bool false] 4)).alloc (.cells #[.int .i64 d] 2)).alloc (.cells #[.slice A ls.length c] 45)).heap.size = w.heap.size + 4:=by simp
 clear hb0;generalize ((((w.alloc (.cells #[.string nm,.int .i64 ln,.int .i64 fr,.int .i64 re,.int .i64 l0,.int .i64 l1,.int .i64 e0,.int .i64 e1] 24)).alloc (.cells #[.bool false] 4)).alloc (.cells #[.int .i64 d] 2)).alloc (.cells #[.slice A ls.length c] 45)) = W0 at hbw hsz ⊢
 refine wpIn_rangeFunc_ownH (α:=Nat) rfl (by omega) (gf:=75) (lb:=#[.pointer (some ⟨w.heap.size + 3,0,none⟩)]) rfl trivial (enters_of Try.func75 (by kernel_rfl) rfl)
  (encs:=fun x : Nat=>#[cutV A ls.length c x]) (Kp:=KB w.heap.size (w.heap.size + 3)) (S:=fun ys=>ys = List.range (ls.length + 1)) (Sp:=fun _=>True) (N:=ls.length + 1) (w0:=W0)
  (fun l J Jx W hW _ _ hY h0=>stages1_in 2 (by omega) l (w.heap.size + 3) w W A ls.length c HL.out J Jx hY ((hW.block _ hbw.box.lt).trans hbw.box) h0)
  (fun h k=>KB.trans h k)
  (fun W l o o' hl h hc hw=>⟨belowK_b (w:=W0) (by omega) W l o o' hl h hc hw,World.putObj_heap_other (by omega)⟩)
  (Below.refl _ _) (fun _=>rfl)
  (fun pre W=>BW w ⟨nm,ln,fr,re,⟨l0,l1⟩,⟨e0,e1⟩⟩ A ls.length c W ∧ ∀ j ∈ pre,stB ⟨nm,ln,fr,re,⟨l0,l1⟩,⟨e0,e1⟩⟩ (ls.drop j) = true) (fun cd pre W=>(cd = .ret ∧ ∃ j,stB ⟨nm,ln,fr,re,⟨l0,l1⟩,⟨e0,e1⟩⟩ (ls.drop j) = false) ∧ BW w ⟨nm,ln,fr,re,⟨l0,l1⟩,⟨e0,e1⟩⟩ A ls.length c W)
  (fun pre W W' row hs hg hr=>⟨BW.own (β:=Unit) (by omega) () W W' row hs.1 hg hr,hs.2⟩) (fun cd pre W W' row hs hg hr=>⟨hs.1,BW.own (β:=Unit) (by omega) () W W' row hs.2 hg hr⟩) ⟨hbw,fun _ h=>by cases h⟩
  (fun x a' W=>a' = { tmps:=#[.agg #[.string nm,.int .i64 ln,.int .i64 fr,.int .i64 re,.int .i64 l0,.int .i64 l1,.int .i64 e0,.int .i64 e1],.slice A ls.length c,.pointer (some ⟨w.heap.size,0,none⟩),undef,.pointer (some ⟨w.heap.size + 1,0,none⟩),.pointer (some ⟨w.heap.size + 2,0,none⟩),cutV A ls.length c x,undef,undef,.pointer (some ⟨w.heap.size,3,none⟩),.int .i64 re,.pointer (some ⟨w.heap.size,2,none⟩),.int .i64 fr,.int .i64 (wrap64 (re - fr)),.int .i64 d,.slice A ls.length c,.func (.func 75) #[] #[.pointer (some ⟨w.heap.size + 3,0,none⟩)],cutV A ls.length c x,undef,undef,undef,undef,undef,undef,undef,undef,undef,undef,undef,undef,undef,undef,undef,undef,undef,undef,undef,undef],defers:=[] }) (fun x a' _ X Y row hs hg hr=>hs)
  ?assign ?body ?done ?stop
 case assign =>
  rintro l pre x W K hI hK
  dsimp only
  generalize cutV A ls.length c x = sv at hK ⊢
  gi_wp2
  exact hK _ _ (KeepsFrom.refl _ _) ⟨Below.refl _ _,rfl⟩ hI rfl
 case body =>
  rintro l pre x a' W hl _ ⟨hbw,hpre⟩ rfl hlt;obtain ⟨A',c',hcut,hC,hcc⟩ := cut_C (HR.out) HC.out x hbw.below;rw [hcut]
  dsimp only
  have hdl : (ls.drop x).length ≤ 1000000000:=by have:=HL.out;simp;omega
  obtain ⟨L,hL⟩ : ∃ L,ls.drop x = L:=⟨_,rfl⟩
  rw [hL] at hC hcc hdl ⊢;have C:=loading_moments.calls (L.length + 1) nm ln fr re l0 l1 e0 e1 A' c' L (momF ⟨nm,ln,fr,re,⟨l0,l1⟩,⟨e0,e1⟩⟩ L).1 (momF ⟨nm,ln,fr,re,⟨l0,l1⟩,⟨e0,e1⟩⟩ L).2 W hC hcc (mom_f ⟨nm,ln,fr,re,⟨l0,l1⟩,⟨e0,e1⟩⟩ L hdl)
  obtain ⟨m0,hm0⟩ : ∃ m0,(momF ⟨nm,ln,fr,re,⟨l0,l1⟩,⟨e0,e1⟩⟩ L).1 = m0:=⟨_,rfl⟩
  obtain ⟨m1,hm1⟩ : ∃ m1,(momF ⟨nm,ln,fr,re,⟨l0,l1⟩,⟨e0,e1⟩⟩ L).2 = m1:=⟨_,rfl⟩
  obtain ⟨q,hq⟩ : ∃ q,stB ⟨nm,ln,fr,re,⟨l0,l1⟩,⟨e0,e1⟩⟩ L = q:=⟨_,rfl⟩
  have hq' : (axO d m0 l0 && axO d m1 l1) = q:=by rw [← hq,← hm0,← hm1,← HD.out];rfl
  rw [hm0,hm1] at C;have HC1:=aside C;have HQ:=aside hq;have HQ':=aside hq';have HBW:=aside hbw;have HP:=aside hpre;have HC0:=aside hC;have HCC:=aside hcc;have HLx:=aside hL;clear C hm0 hm1 hq hq' hcut hC hcc hbw hpre hdl hL;have hrow : W.heap[w.heap.size]? = some (.cells #[.string nm,.int .i64 ln,.int .i64 fr,.int .i64 re,.int .i64 l0,.int .i64 l1,.int .i64 e0,.int .i64 e1] 24 (0,0)):=HBW.out.truck;have c0 : W.cell? ⟨w.heap.size,0,none⟩ = some (.string nm):=blk_cell hrow 0;have c1 : W.cell? ⟨w.heap.size,1,none⟩ = some (.int .i64 ln):=blk_cell hrow 1;have c2 : W.cell? ⟨w.heap.size,2,none⟩ = some (.int .i64 fr):=blk_cell hrow 2;have c3 : W.cell? ⟨w.heap.size,3,none⟩ = some (.int .i64 re):=blk_cell hrow 3;have c4 : W.cell? ⟨w.heap.size,4,none⟩ = some (.int .i64 l0):=blk_cell hrow 4;have c5 : W.cell? ⟨w.heap.size,5,none⟩ = some (.int .i64 l1):=blk_cell hrow 5;have c6 : W.cell? ⟨w.heap.size,6,none⟩ = some (.int .i64 e0):=blk_cell hrow 6;have c7 : W.cell? ⟨w.heap.size,7,none⟩ = some (.int .i64 e1):=blk_cell hrow 7
  gi_wp2_with (first
    | (refine ⟨trivial, ?_⟩;gi_at_call 56;refine (CallsIn.inRound l (callsIn_wide.2 HC1.out)).mono ?_;rintro e w' ⟨rfl,hbe⟩))
  have hW4 : w.heap.size + 3 < W.heap.size:=HBW.out.box.lt
  gi_loopw [21] (fun v wr=>∃ n : Nat,n ≤ 2 ∧ v = .int .i64 (n : Int) ∧ Aside ((1 ≤ n → axO d m0 l0 = true) ∧ (2 ≤ n → axO d m1 l1 = true)) ∧ Aside (Below W.heap.size W wr)) (fun v _=>(2 - intOf v).toNat)
  case atStart=>exact ⟨0,by omega,rfl,(show Aside _ from ⟨fun h=>absurd h (by omega),fun h=>absurd h (by omega)⟩),aside hbe⟩
  case round =>
   obtain ⟨n,hn,rfl,HA,HWr⟩ := hrel;have hl4 : w.heap.size + 3 < W.heap.size:=hW4
   rcases (show n = 0 ∨ n = 1 ∨ n = 2 by omega) with rfl|rfl|rfl
   ·have hix:=fun V=>(index22 m0 m1 V).1
    have hb:=HWr.out;have hrw:=HBW.out.mono (w2:=wr) hl4 hb;have cd : wr.cell? ⟨w.heap.size + 2,0,none⟩ = some (.int .i64 d):=(blk_cell hrw.dst 0).trans (by rw [HD.out];rfl);have cl : wr.cell? ⟨w.heap.size,4,none⟩ = some (.int .i64 l0):=blk_cell hrw.truck 4;have cr : wr.cell? ⟨w.heap.size + 1,0,none⟩ = some (.bool false):=blk_cell hrw.res 0;have fz : wr.frozen? ⟨w.heap.size + 1,0,none⟩ = false:=blk_frozen hrw.res 0;have HRW:=aside hrw;clear hrw hb
    cases hz : decide (m0 < 0)
    ·cases hy : decide (wrap64 (d * l0) < m0)
     ·have HT : Aside (axO d m0 l0 = true):=(show axO d m0 l0 = true from by rw [axO,hz,hy];rfl)
      have hy2 : decide (IntKind.i64.wrap (d * l0) < m0) = false:=by rw [IntWalk.i64_left];exact hy
      gi_wp2
      refine quiet_round rfl (by kernel_rfl) (by kernel_rfl) (by kernel_rfl) ?_
      repeat (quiet_step_in (fail))
      refine wpQuietIn_nil ?_
      intro _ hw';obtain ⟨nq,hw''⟩ := hw';subst hw''
      gi_wp2
      go_roundw
      case rel=>exact ⟨1,by omega,by go_num,(show Aside _ from ⟨fun _=>HT.out,fun h=>absurd h (by omega)⟩),aside (below_dN HWr.out nq)⟩
      case measure=>simp [intOf]
     ·have HT : Aside (q = false):=(show q = false from by rw [← HQ'.out,show axO d m0 l0 = false from by rw [axO,hz,hy];rfl];rfl)
      have hy2 : decide (IntKind.i64.wrap (d * l0) < m0) = true:=by rw [IntWalk.i64_left];exact hy
      gi_wp2
      refine quiet_round rfl (by kernel_rfl) (by kernel_rfl) (by kernel_rfl) ?_
      repeat (quiet_step_in (fail))
      refine wpQuietIn_nil ?_
      intro _ hw';obtain ⟨nq,hw''⟩ := hw';subst hw''
      gi_wp2
      exact ⟨keepS (by omega) (below_dN HWr.out nq),⟨rfl,x,by rw [HLx.out,HQ.out];exact HT.out⟩,BW.put ((HBW.out).mono hl4 (below_dN HWr.out nq))⟩
    ·have HT : Aside (q = false):=(show q = false from by rw [← HQ'.out,show axO d m0 l0 = false from by rw [axO,hz];rfl];rfl)
     gi_wp2
     refine quiet_round rfl (by kernel_rfl) (by kernel_rfl) (by kernel_rfl) ?_
     repeat (quiet_step_in (fail))
     refine wpQuietIn_nil ?_
     intro _ hw';obtain ⟨nq,hw''⟩ := hw';subst hw''
     gi_wp2
     exact ⟨keepS (by omega) (below_dN HWr.out nq),⟨rfl,x,by rw [HLx.out,HQ.out];exact HT.out⟩,BW.put ((HBW.out).mono hl4 (below_dN HWr.out nq))⟩
   ·have hix:=fun V=>(index22 m0 m1 V).2
    have hb:=HWr.out;have hrw:=HBW.out.mono (w2:=wr) hl4 hb;have cd : wr.cell? ⟨w.heap.size + 2,0,none⟩ = some (.int .i64 d):=(blk_cell hrw.dst 0).trans (by rw [HD.out];rfl);have cl : wr.cell? ⟨w.heap.size,5,none⟩ = some (.int .i64 l1):=blk_cell hrw.truck 5;have cr : wr.cell? ⟨w.heap.size + 1,0,none⟩ = some (.bool false):=blk_cell hrw.res 0;have fz : wr.frozen? ⟨w.heap.size + 1,0,none⟩ = false:=blk_frozen hrw.res 0;have HRW:=aside hrw;clear hrw hb
    cases hz : decide (m1 < 0)
    ·cases hy : decide (wrap64 (d * l1) < m1)
     ·have HT : Aside (axO d m1 l1 = true):=(show axO d m1 l1 = true from by rw [axO,hz,hy];rfl)
      have hy2 : decide (IntKind.i64.wrap (d * l1) < m1) = false:=by rw [IntWalk.i64_left];exact hy
      gi_wp2
      refine quiet_round rfl (by kernel_rfl) (by kernel_rfl) (by kernel_rfl) ?_
      repeat (quiet_step_in (fail))
      refine wpQuietIn_nil ?_
      intro _ hw';obtain ⟨nq,hw''⟩ := hw';subst hw''
      gi_wp2
      go_roundw
      case rel=>exact ⟨2,by omega,by go_num,(show Aside _ from ⟨fun _=>HA.out.1 (by omega),fun h=>HT.out⟩),aside (below_dN HWr.out nq)⟩
      case measure=>simp [intOf]
     ·have HT : Aside (q = false):=(show q = false from by rw [← HQ'.out,show axO d m1 l1 = false from by rw [axO,hz,hy];rfl];exact Bool.and_false _)
      have hy2 : decide (IntKind.i64.wrap (d * l1) < m1) = true:=by rw [IntWalk.i64_left];exact hy
      gi_wp2
      refine quiet_round rfl (by kernel_rfl) (by kernel_rfl) (by kernel_rfl) ?_
      repeat (quiet_step_in (fail))
      refine wpQuietIn_nil ?_
      intro _ hw';obtain ⟨nq,hw''⟩ := hw';subst hw''
      gi_wp2
      exact ⟨keepS (by omega) (below_dN HWr.out nq),⟨rfl,x,by rw [HLx.out,HQ.out];exact HT.out⟩,BW.put ((HBW.out).mono hl4 (below_dN HWr.out nq))⟩
    ·have HT : Aside (q = false):=(show q = false from by rw [← HQ'.out,show axO d m1 l1 = false from by rw [axO,hz];rfl];exact Bool.and_false _)
     gi_wp2
     refine quiet_round rfl (by kernel_rfl) (by kernel_rfl) (by kernel_rfl) ?_
     repeat (quiet_step_in (fail))
     refine wpQuietIn_nil ?_
     intro _ hw';obtain ⟨nq,hw''⟩ := hw';subst hw''
     gi_wp2
     exact ⟨keepS (by omega) (below_dN HWr.out nq),⟨rfl,x,by rw [HLx.out,HQ.out];exact HT.out⟩,BW.put ((HBW.out).mono hl4 (below_dN HWr.out nq))⟩
   ·have HT : Aside (q = true):=(show q = true from by rw [← HQ'.out,HA.out.1 (by omega),HA.out.2 (by omega)];rfl)
    gi_wp2
    refine ⟨keepF HWr.out,⟨HWr.out.mono HBW.out.below.size,(HWr.out).block _ hl4⟩,(HBW.out).mono hl4 HWr.out,fun j hj=>?_⟩
    rcases List.mem_append.1 hj with h1|h1
    (exact HP.out j h1);(rw [List.mem_singleton.1 h1,HLx.out,HQ.out];exact HT.out)
 case done =>
  rintro D ys W hD rfl ⟨hbw1,hall⟩ hK;have cr : W.cell? ⟨w.heap.size + 1,0,none⟩ = some (.bool false):=blk_cell hbw1.res 0;have fz : W.frozen? ⟨w.heap.size + 1,0,none⟩ = false:=blk_frozen hbw1.res 0;have HB1:=aside hbw1;have HAll:=aside hall;have HK:=aside hK;clear hbw1 hall hK
  dsimp only
  gi_wp2
  have hy : bearsB ⟨nm,ln,fr,re,⟨l0,l1⟩,⟨e0,e1⟩⟩ ls = true:=bears_yes _ _ (fun j hj=>HAll.out j (by simp;omega));rw [hy];exact bear_end (hB:=HB1.out.below.setCell (p:=⟨w.heap.size + 1,0,none⟩) (by show w.heap.size ≤ w.heap.size + 1;omega) _) (b:=true) (by rw [Below.heap_setCell _ _ _ _ (by show D ≠ w.heap.size + 1;omega)];exact HK.out) (by omega) (blk_put HB1.out.res 0 (.bool true) rfl) rfl
 case stop =>
  rintro D cd pre W hD _ ⟨⟨rfl,j,hj⟩,hbw1⟩ hK;have HB1:=aside hbw1;have HJ:=aside hj;have HK:=aside hK;clear hbw1 hj hK
  dsimp only
  gi_wp2
  have hy : bearsB ⟨nm,ln,fr,re,⟨l0,l1⟩,⟨e0,e1⟩⟩ ls = false:=bears_no _ _ j HJ.out;rw [hy];exact bear_end (hB:=HB1.out.below) (b:=false) HK.out (by omega) HB1.out.res rfl
end Go.Proofs.Ytohcgenhhgipcaa.PA
