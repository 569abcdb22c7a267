import Derived.Test.YtnjikioimompnaaGc
import Derived.Test.YtnjikioimompnaaPAx92
import Derived.RangeFuncNested
import Derived.RangeFuncBound
import Derived.RangeFuncCalls
import Derived.RangeFuncLeaves
import Derived.Shelf.Abstract
import Derived.Shelf.RegionOpen
import Derived.WalkKit
import Derived.OwnWalkIn
import Derived.TacticsInMore
import Derived.LoopNIn
import Derived.LoopIn
namespace Go.Proofs.Ytnjikioimompnaa.PA
open Go.RowKit Go.Shelf Go.Proofs.YtnjikioimompnaaW.PrintWords Go.Proofs.YtnjikioimompnaaW.PrintLast Go.Proofs.YtnjikioimompnaaW.PrintMore
set_option linter.unusedVariables false
set_option linter.unusedSimpArgs false
attribute [local go_sem] Oper.semAt_some
abbrev IP:=Nat × S31
def encIP (x : IP) : Array Value:=#[.int .i64 (x.1 : Int),.agg #[.int .i64 x.2.f0,.int .i64 x.2.f1]]
def given (ls : List S31) (k : Nat) : List IP:=(List.range k).map fun j=>(ls.length - 1 - j,ls.getD (ls.length - 1 - j) z31)
theorem given_succ (ls : List S31) (k : Nat) : given ls (k + 1) = given ls k ++ [(ls.length - 1 - k,ls.getD (ls.length - 1 - k) z31)] := by simp [given,List.range_succ]
theorem given_len (ls : List S31) (k : Nat) : (given ls k).length = k:=by simp [given]
def KB (n₀ Bs : Nat) (W W' : World) : Prop:=Below n₀ W W' ∧ W'.heap[Bs]? = W.heap[Bs]?
theorem KB.trans {n₀ Bs : Nat} {A B C : World} (h : KB n₀ Bs A B) (k : KB n₀ Bs B C) : KB n₀ Bs A C:=⟨h.1.trans k.1,k.2.trans h.2⟩
set_option maxRecDepth 100000 in
set_option maxHeartbeats 2000000 in
theorem back1_in (n : Nat) (hn : 1 ≤ n) (l Bs : Nat) (w0 W : World) (A : Option Addr) (c : Nat) (ls : List S31) (hr : Kd.C k31 w0 A ls.length ls) (hlen : ls.length ≤ 1000000) (J Jx : List IP → World → Prop)
  (hY : ∀ pre x W1,J pre W1 → pre.length < ls.length → YieldAt Fence.wide (n - 1) Try.prog l (encIP x) W1 fun e W' =>
   (e = .returned (.bool true) ∧ J (pre ++ [x]) W' ∧ KB w0.heap.size Bs W1 W') ∨ (e = .returned (.bool false) ∧ Jx (pre ++ [x]) W'))
  (hbox : W.heap[Bs]? = some (.cells #[.slice A ls.length c] 23 (0,0))) (hW : Below w0.heap.size w0 W) (h0 : J [] W) :
  CallsIn Fence.wide n Try.prog 60 #[.func (.yield l) #[] #[],.pointer (some ⟨Bs,0,none⟩)] W fun e W'=>(∃ v,e = .returned v) ∧
   ((∃ ys,ys = given ls ls.length ∧ J ys W') ∨ (∃ pre,True ∧ Jx pre W')):=by
 have HR:=aside hr;have HY:=aside hY
 have hc0 : W.cell? ⟨Bs,0,none⟩ = some (.slice A ls.length c):=by rw [cell_of_row W Bs 0 _ _ _ hbox];rfl
 have HW:=aside hW;have HB:=aside hbox;have HJ:=aside h0;clear hr hY hW hbox h0
 refine callsIn_of_wp Try.func60 rfl trivial ?_ rfl
 simp only [Try.ntmps60,List.size_toArray,List.length_cons,List.length_nil,Nat.reduceAdd,Nat.reduceSub,Array.replicate_succ,Array.replicate_zero,List.push_toArray,List.append_toArray,List.nil_append,List.cons_append]
 gi_wp2
 clear hc0
 gi_loopw [3] (fun v wr=>∃ k : Nat,k ≤ ls.length ∧ v = .int .i64 ((ls.length : Int) - 1 - k) ∧ Aside (J (given ls k) wr) ∧ Aside (wr.heap[Bs]? = some (.cells #[.slice A ls.length c] 23 (0,0))) ∧ Aside (Below w0.heap.size w0 wr))
  (fun v _=>(intOf v + 1).toNat)
 case atStart=>exact ⟨0,Nat.zero_le _,by simp,HJ,HB,HW⟩
 clear HJ HB HW
 case round =>
  obtain ⟨k,hk,rfl,HJ,HB,HW⟩ := hrel;by_cases hlt : k < ls.length
  ·obtain ⟨i,hi⟩ : ∃ i : Nat,ls.length - 1 - k = i:=⟨_,rfl⟩
   have hic : (ls.length : Int) - 1 - k = (i : Int):=by omega
   have hil : i < ls.length:=by omega
   obtain ⟨ad,hA,q0,q1⟩ := at_T31 (Kd.C_below HR.out HW.out) (i : Int) (by omega) (by omega)
   have hx : rd_T31 ls (i : Int) = ls.getD i z31:=by unfold rd_T31;simp
   rw [hx] at q0 q1;simp only [Int.toNat_natCast] at q0 q1;obtain ⟨fn,tmps,assign,body,hy,hR⟩ := HY.out (given ls k) (i,ls.getD i z31) wr HJ.out (by rw [given_len];exact hlt)
   have hgs : given ls (k + 1) = given ls k ++ [(i,ls.getD i z31)] := by rw [given_succ,hi]
   unfold encIP at hy
   dsimp only at hy
   obtain ⟨x,hX⟩ : ∃ x,ls.getD i z31 = x:=⟨_,rfl⟩
   rw [hX] at q0 q1 hy hR hgs;clear hX;have HG:=aside hgs;have HRd:=aside hR
   have hc0 : wr.cell? ⟨Bs,0,none⟩ = some (.slice A ls.length c):=by rw [cell_of_row wr Bs 0 _ _ _ HB.out];rfl
   have hil' : (i : Int) < (ls.length : Int):=by omega
   have HI:=aside hi;subst hA;rw [hic];clear hx hgs hR hi
   gi_wp2
   refine HRd.out.mono ?_
   clear HRd;rintro e W3 (⟨rfl,hJ3,hk3⟩|⟨rfl,hJx3⟩)
   ·have HJ3:=aside hJ3;have HK3:=aside hk3;clear hJ3 hk3
    gi_wp2
    go_roundw
    case rel =>
     have h1:=HG.out;exact ⟨k + 1,by omega,by congr 1;omega,aside (by rw [h1];exact HJ3.out),aside (HK3.out.2.trans HB.out),aside (HW.out.trans (HK3.out.1.mono (Nat.le_refl _)))⟩
    case measure=>simp [intOf]
   ·gi_wp2
    refine bodyPost_ret (results_none rfl _ _ _) rfl ?_
    exact ⟨⟨_,rfl⟩,.inr ⟨_,trivial,hJx3⟩⟩
  ·obtain rfl : k = ls.length:=by omega
   gi_wp2
   go_end0
   exact ⟨⟨_,rfl⟩,.inl ⟨_,rfl,HJ.out⟩⟩
theorem ends_normal {F : Fence} {n : Nat} {P : Program} {c : Code} {K : Act → World → Prop} {Q : Exit → Act → World → Prop} {a : Act} {w : World} (h : c.wpIn F n P (Exit.then K (fun _ _ _=>False)) a w) : c.wpIn F n P (Exit.then K Q) a w :=
 Code.wpIn_mono (fun e a w q=>by cases e <;> first|exact q|exact q.elim) h
set_option maxHeartbeats 1000000 in
theorem back_in (n : Nat) (A : Option Addr) (m c : Nat) (w : World) : CallsIn Fence.wide n Try.prog 45 #[.slice A m c] w fun e w'=>e = .returned (.func (.func 60) #[] #[.pointer (some ⟨w.heap.size,0,none⟩)]) ∧ w' = w.alloc (.cells #[.slice A m c] 23):=by
 refine callsIn_of_wp Try.func45 rfl trivial ?_ rfl
 simp only [Try.ntmps45,List.size_toArray,List.length_cons,List.length_nil,Nat.reduceAdd,Nat.reduceSub,Array.replicate_succ,Array.replicate_zero,List.push_toArray,List.append_toArray,List.nil_append,List.cons_append]
 gi_wp2
 go_ret
 exact ⟨rfl,rfl⟩
def mirP (p : S31) : S31:=⟨wrap64 (-p.f0),p.f1⟩
def mirOf (pre : List IP) : List S31:=pre.map fun x=>mirP x.2
def mirL (ls : List S31) : List S31:=mirOf (given ls ls.length)
def Rowed (W : World) (B : Nat) (t : TypeId) (vs : Array Value) : Prop:=W.heap[B]? = some (.cells vs t (0,0))
theorem Rowed.lt {W : World} {B : Nat} {t : TypeId} {vs : Array Value} (h : Rowed W B t vs) : B < W.heap.size:=(Array.getElem?_eq_some_iff.1 h).1
theorem Rowed.kept {W W' : World} {row : Option Nat} {B : Nat} {t : TypeId} {v : Array Value} (h : Rowed W B t v) (hg : W.grownBy W' row) (hne : some B ≠ row) : Rowed W' B t v:=(hg.block B h.lt hne).trans h
theorem Rowed.alloc {W : World} {B : Nat} {t : TypeId} {v : Array Value} (h : Rowed W B t v) (o : Obj) : Rowed (W.alloc o) B t v:=h.kept (World.grownBy_alloc W o none) (by simp)
theorem rowed_own {β : Type} (B : Nat) (t : TypeId) (f : β → Array Value) : Own (fun s W=>Rowed W B t (f s)):=fun s X Y row hs hg hrow =>
 hs.kept hg (fun e'=>by obtain ⟨o,ho,hc⟩ := hrow B e'.symm;rw [show X.heap[B]? = _ from hs] at ho;cases ho;cases hc)
theorem Rowed.other {W : World} {B B' : Nat} {t : TypeId} {v : Array Value} (h : Rowed W B t v) (hne : B ≠ B') (u : Value) : Rowed (W.setCell ⟨B',0,none⟩ u) B t v:=h.kept (grownBy_setCell' W B' u) (fun e=>hne (by cases e;rfl))
theorem Rowed.below {W W' : World} {n B : Nat} {t : TypeId} {v : Array Value} (h : Rowed W B t v) (hb : Below n W W') (hB : B < n) : Rowed W' B t v:=(hb.block B hB).trans h
def pts (l : List S31) : List Value:=l.flatMap fun p=>[.int .i64 p.f0,.int .i64 p.f1]
theorem pts_snoc (l : List S31) (p : S31) : pts (l ++ [p]) = pts l ++ [.int .i64 p.f0,.int .i64 p.f1] := by simp [pts]
theorem pts_len (l : List S31) : (pts l).length = l.length * 2:=by
 induction l with
 | nil=>rfl
 | cons x r ih=>rw [show pts (x :: r) = [.int .i64 x.f0,.int .i64 x.f1] ++ pts r from rfl,List.length_append,ih];simp;omega
theorem mirOf_len (pre : List IP) : (mirOf pre).length = pre.length:=by simp [mirOf]
theorem mirOf_snoc (pre : List IP) (x : IP) : mirOf (pre ++ [x]) = mirOf pre ++ [mirP x.2] := by simp [mirOf]
theorem R31_of {w : World} {base : Nat} {u : Value} {ns : List S31} (h : w.ownsRow base 31 2 u ns.length (pts ns)) : Kd.R k31 31 w base (fun _=>True) u ns:=by
 refine ⟨fun _ _=>trivial,pts ns,h, ?_⟩
 refine ⟨pts_len ns, ?_⟩
 intro j p hj
 have key : ∀ (ns : List S31) (j : Nat),ns[j]? = some p → ((pts ns).drop (j * 2)).take 2 = [.int .i64 p.f0,.int .i64 p.f1] := by
  intro ns
  induction ns with
  | nil=>intro j hj;simp at hj
  | cons y r ih =>
   intro j hj;have e1 : pts (y :: r) = [.int .i64 y.f0,.int .i64 y.f1] ++ pts r:=rfl
   cases j with
   | zero =>
    have : y = p:=by simpa using hj
    subst this
    rw [e1];simp
   | succ j =>
    have e2 : List.drop ((j + 1) * 2) ([.int .i64 y.f0,.int .i64 y.f1] ++ pts r) = List.drop (j * 2) (pts r):=by
     rw [List.drop_append,List.drop_of_length_le (by simp;omega),List.nil_append]
     congr 1
     simp;omega
    rw [e1,e2];exact ih j (by simpa using hj)
 show k31.M _ _ _ p (List.take 2 (List.drop (j * 2) (pts ns)))
 rw [key ns j hj];exact k31_mkM _ _ _ p
theorem Rowed.not_row {W : World} {B : Nat} {t e : TypeId} {u : Array Value} (h : Rowed W B t u) (hte : t ≠ e) {base size k : Nat} {v : Value} {xs : List Value} (hr : W.ownsRow base e size v k xs) : some B ≠ v.ownBlock:=by
 rcases hr.2 with ⟨rfl,_⟩|⟨g,cap,cur,rfl,_,hgb,_⟩
 ·simp [Value.ownBlock]
 ·intro e'
  obtain rfl : B = g:=by simpa [Value.ownBlock] using e'
  have:=(show W.heap[B]? = _ from h).symm.trans hgb
  simp at this
  exact hte this.2
theorem two_new (w : World) (x y : Value) (t : TypeId) : ∀ j u,[x,y][j]? = some u → (w.alloc (.cells #[x,y] t)).cell? ((⟨w.heap.size,0,none⟩ : Addr).add j) = some u:=by
 intro j u hj;have h:=blk_cell (World.alloc_heap_new w (.cells #[x,y] t)) j
 have e : (⟨w.heap.size,0,none⟩ : Addr).add j = ⟨w.heap.size,j,none⟩ := by unfold Addr.add;split <;> simp_all
 rw [e,h]
 simpa using hj
def MI (w : World) (Bo : Nat) (A : Option Addr) (n c : Nat) (nm : ByteArray) (pre : List IP) (W : World) : Prop :=
 ((∃ v,Boxed W Bo 23 v ∧ W.ownsRow w.heap.size 31 2 v pre.length (pts (mirOf pre)) ∧ True) ∧ (Boxed W (Bo + 1) 23 (.slice A n c) ∧ (Rowed W w.heap.size 25 #[.string nm,.slice A n c] ∧ Rowed W (w.heap.size + 1) 25 #[.string ⟨#[]⟩,.slice none 0 0]))) ∧ Below w.heap.size w W
theorem MI_own (w : World) (Bo : Nat) (A : Option Addr) (n c : Nat) (nm : ByteArray) (B : Nat) (hB : w.heap.size ≤ B) : OwnFrom B (MI w Bo A n c nm) :=
 OwnFrom.and (OwnFrom.and (Own.from (holdsRow_own _ _ _ _ _ (fun pre : List IP=>pre.length) (fun pre=>pts (mirOf pre)) (fun _ _=>True)) _) (OwnFrom.and (Own.from (boxed_own _ _ _) _) (OwnFrom.and (Own.from (rowed_own _ _ _) _) (Own.from (rowed_own _ _ _) _)))) (ownFrom_below (Nat.le_refl _) hB)
theorem mir_end {w w2 : World} {D : Nat} {nm : ByteArray} {A2 : Option Addr} {c2 : Nat} {rr : List S31} {tmps : Array Value} (hb : Below w.heap.size w w2) (hKD : w2.heap[D]? = some (.deferred (some []))) (hD : w.heap.size + 2 ≤ D)
  (hr : Rowed w2 (w.heap.size + 1) 25 #[.string ⟨#[]⟩,.slice none 0 0]) (hR : Kd.R k31 31 w2 w.heap.size (fun _=>True) (.slice A2 rr.length c2) rr) (h2 : tmps.getD 2 undef = .pointer (some ⟨w.heap.size + 1,0,none⟩)) (h3 : tmps.getD 3 undef = .int .i64 0) :
  bodyPostM Fence.wide 3 Try.prog Try.f21 (fun e w'=>∃ v1_,e = .returned (.tuple #[.agg #[.string nm,v1_],.int .i64 0]) ∧ Kd.R k31 31 w' w.heap.size (fun _=>True) v1_ rr ∧ Below w.heap.size w w') Exit.ret
   { tmps:=tmps,defers:=[{ target:=Target.collected D,args:=#[] }] } ((w2.setCell ⟨w.heap.size + 1,0,none⟩ (.string nm)).setCell ⟨w.heap.size + 1,1,none⟩ (.slice A2 rr.length c2)):=by
 have hrow:=blk_put (cs:=#[.string nm,.slice none 0 0]) (blk_put (cs:=#[.string ⟨#[]⟩,.slice none 0 0]) hr 0 (.string nm) rfl) 1 (.slice A2 rr.length c2) rfl
 have hKf : ((w2.setCell ⟨w.heap.size + 1,0,none⟩ (.string nm)).setCell ⟨w.heap.size + 1,1,none⟩ (.slice A2 rr.length c2)).heap[D]? = some (.deferred (some [])):=by
  rw [Below.heap_setCell _ _ _ _ (by show D ≠ w.heap.size + 1;omega),Below.heap_setCell _ _ _ _ (by show D ≠ w.heap.size + 1;omega)];exact hKD
 have hR1 : Kd.R k31 31 w2 w.heap.size (fun k=>(True ∧ k ≠ w.heap.size + 1) ∧ k ≠ D) (.slice A2 rr.length c2) rr :=
  Kd.R_mono (Kd.R_bound (Kd.R_types hR hr (by decide))) (fun k hk=>⟨hk.1,by
   rintro rfl;obtain ⟨_,_,_,q,hq,cells,hc⟩ := hk;rw [hKD] at hc
   cases hc⟩)
 have hR2:=Kd.R_far (p:=⟨w.heap.size + 1,1,none⟩) (Kd.R_far (p:=⟨w.heap.size + 1,0,none⟩) hR1 (fun k hk=>hk.1.2) (.string nm)) (fun k hk=>hk.1.2) (.slice A2 rr.length c2)
 refine ⟨by simp,.inl ⟨_,_,rfl,run_takeDeferred hKf, ?_⟩⟩
 refine ⟨_,results_ct rfl _ _ (w.heap.size + 1) 25 #[.string nm,.slice A2 rr.length c2] (0,0) _ h2 ((World.putObj_heap_other (by omega)).trans hrow) Try.underlying25 rfl (by kernel_rfl),_,by rw [h3],Kd.R_mono (Kd.R_move hR2 (fun k hk=>World.putObj_heap_other (fun e=>hk.2 (by omega)))) (fun _ _=>trivial), ?_⟩
 exact ((hb.setCell (p:=⟨w.heap.size + 1,0,none⟩) (by show w.heap.size ≤ w.heap.size + 1;omega) _).setCell (p:=⟨w.heap.size + 1,1,none⟩) (by show w.heap.size ≤ w.heap.size + 1;omega) _).trans (belowK_b (w:=w) (Nat.le_refl _) _ D _ _ (by omega) hKf rfl rfl)
def profile_Mirror.f (k : Nat) (a0_0 : ByteArray) (l0_1 : List S31) : Option (ByteArray × (List S31) × Int) :=
 (profile_Check.f k a0_0 l0_1).bind fun e=>if e = 0 then (if l0_1.length ≤ 1000000 then (profile_canonical.f k (mirL l0_1)).bind fun t=>some (a0_0,t,0) else none) else some ((⟨#[]⟩ : ByteArray),[],e)
theorem profile_Mirror.mono : ∀ a0 a1 k,LeO (profile_Mirror.f k a0 a1) (profile_Mirror.f (k + 1) a0 a1):=by
 intro a0 a1 k
 unfold profile_Mirror.f
 refine LeO.bind (profile_Check.mono _ _ _) fun e=>?_
 refine LeO.ite ?_ (LeO.refl _)
 refine LeO.ite ?_ (LeO.refl _)
 exact LeO.bind (profile_canonical.mono _ _) fun _=>LeO.refl _
set_option maxRecDepth 100000 in
set_option maxHeartbeats 4000000 in
theorem profile_Mirror.calls (k : Nat) (a0_0 : ByteArray) (A0_1 : Option Addr) (c0_1 : Nat) (l0_1 : List (S31)) (r1 : ByteArray) (r2 : List (S31)) (r3 : Int) (w : World) (hr0_1 : Kd.C k31 w A0_1 l0_1.length l0_1) (hc0_1 : l0_1.length ≤ c0_1) (h : profile_Mirror.f k a0_0 l0_1 = some (r1, r2, r3)) :
  Calls Try.prog 21 #[.agg #[.string a0_0,.slice A0_1 l0_1.length c0_1]] w fun e w'=>∃ v1_ : Value,e = .returned (.tuple #[.agg #[.string r1,v1_],.int .i64 r3]) ∧ Kd.R k31 31 w' w.heap.size (fun _=>True) v1_ r2 ∧ Below w.heap.size w w':=by
 unfold profile_Mirror.f at h
 obtain ⟨e,he,h⟩ := Option.bind_eq_some_iff.mp h
 refine (callsIn_wide (n:=3)).1 ?_
 have HR:=aside hr0_1;have HC:=aside hc0_1;have HE:=aside he;clear hr0_1 hc0_1 he
 refine callsIn_of_wp_marks Try.func21 rfl trivial ?_ rfl
 simp only [Try.ntmps21,List.size_toArray,List.length_cons,List.length_nil,Nat.reduceAdd,Nat.reduceSub,Array.replicate_succ,Array.replicate_zero,List.push_toArray,List.append_toArray,List.nil_append,List.cons_append]
 gi_wp2
 have hB0 : Below w.heap.size w ((w.alloc (.cells #[.string a0_0,.slice A0_1 l0_1.length c0_1] 25)).alloc (.cells #[.string ⟨#[]⟩,.slice none 0 0] 25)):=below_al (below_al (Below.refl _ _) _) _;have HB0:=aside hB0;have hR0 : Rowed ((w.alloc (.cells #[.string a0_0,.slice A0_1 l0_1.length c0_1] 25)).alloc (.cells #[.string ⟨#[]⟩,.slice none 0 0] 25)) w.heap.size 25 #[.string a0_0,.slice A0_1 l0_1.length c0_1] := Rowed.alloc (World.alloc_heap_new _ _) _
 have hR1 : Rowed ((w.alloc (.cells #[.string a0_0,.slice A0_1 l0_1.length c0_1] 25)).alloc (.cells #[.string ⟨#[]⟩,.slice none 0 0] 25)) (w.heap.size + 1) 25 #[.string ⟨#[]⟩,.slice none 0 0] := by
  have:=World.alloc_heap_new (w.alloc (.cells #[.string a0_0,.slice A0_1 l0_1.length c0_1] 25)) (.cells #[.string ⟨#[]⟩,.slice none 0 0] 25)
  rwa [World.size_alloc] at this
 have C:=profile_Check.calls k a0_0 A0_1 c0_1 l0_1 e _ (Kd.C_below HR.out hB0) HC.out HE.out;have HC1:=aside C;have HR0:=aside hR0;have HR1:=aside hR1;clear hB0 hR0 hR1 C;by_cases hz : e = 0
 ·subst hz;by_cases hl : l0_1.length ≤ 1000000
  ·rw [if_pos rfl,if_pos hl] at h;obtain ⟨rr,hcan,h⟩ := Option.bind_eq_some_iff.mp h
   obtain ⟨rfl,rfl,rfl⟩ : a0_0 = r1 ∧ rr = r2 ∧ 0 = r3:=by cases h;exact ⟨rfl,rfl,rfl⟩
   have HCan:=aside hcan;have HL:=aside hl;clear h hcan hl
   refine ⟨trivial, ?_⟩
   gi_at_call 17
   refine (callsIn_wide.2 HC1.out).mono ?_
   clear HC1;rintro e w1 ⟨rfl,hb⟩;have hR0:=HR0.out.below hb (by simp only [World.size_alloc];omega);have hR1:=HR1.out.below hb (by simp only [World.size_alloc];omega)
   have hq1 : w1.cell? ⟨w.heap.size,1,none⟩ = some (.slice A0_1 l0_1.length c0_1):=by rw [cell_of_row w1 w.heap.size 1 _ _ _ hR0];rfl
   have hlt1 : w.heap.size < w1.heap.size:=hR0.lt;have HR01:=aside hR0;have HR11:=aside hR1;have HBx:=aside hb;clear hR0 hR1 HR0 HR1 hb
   gi_wp2_with (first
    | (refine ⟨trivial, ?_⟩;gi_at_call 45;refine (back_in _ _ _ _ _).mono ?_;rintro e w' ⟨rfl,rfl⟩))
   have hB1 : Below w.heap.size w ((w1.alloc (.cells #[.slice none 0 0] 23)).alloc (.cells #[.slice A0_1 l0_1.length c0_1] 23)):=below_al (below_al (HB0.out.trans (HBx.out.mono HB0.out.size)) _) _;have bO:=(Boxed.new w1 23 (.slice none 0 0)).alloc (.cells #[.slice A0_1 l0_1.length c0_1] 23);have bS:=Boxed.new (w1.alloc (.cells #[.slice none 0 0] 23)) 23 (.slice A0_1 l0_1.length c0_1);have r0:=(HR01.out.alloc (.cells #[.slice none 0 0] 23)).alloc (.cells #[.slice A0_1 l0_1.length c0_1] 23);have r1:=(HR11.out.alloc (.cells #[.slice none 0 0] 23)).alloc (.cells #[.slice A0_1 l0_1.length c0_1] 23);have hs1 : w.heap.size + 2 ≤ w1.heap.size:=HR11.out.lt
   have hsz : ((w1.alloc (.cells #[.slice none 0 0] 23)).alloc (.cells #[.slice A0_1 l0_1.length c0_1] 23)).heap.size = w1.heap.size + 2:=by simp
   rw [World.size_alloc] at bS
   obtain ⟨W0,hW0⟩ : ∃ W0,(w1.alloc (.cells #[.slice none 0 0] 23)).alloc (.cells #[.slice A0_1 l0_1.length c0_1] 23) = W0:=⟨_,rfl⟩
   obtain ⟨Bo,hBo⟩ : ∃ Bo,w1.heap.size = Bo:=⟨_,rfl⟩
   rw [hW0] at bO bS r0 r1 hB1 hsz ⊢;rw [hBo] at bO bS hsz hs1 ⊢;clear hW0 hBo hlt1 hq1 HR01 HR11 HBx HB0
   have hI0 : MI w Bo A0_1 l0_1.length c0_1 a0_0 [] W0:=⟨⟨⟨_,bO,World.ownsRow_nil _ _ _ _,trivial⟩,bS,r0,r1⟩,hB1⟩
   refine wpIn_rangeFunc_ownH (α:=IP) rfl (by omega) (gf:=60) (lb:=#[.pointer (some ⟨Bo + 1,0,none⟩)]) rfl trivial (enters_of Try.func60 (by kernel_rfl) rfl)
    (encs:=fun x : IP=>#[.int .i64 (x.1 : Int),.agg #[.int .i64 x.2.f0,.int .i64 x.2.f1]]) (Kp:=KB w.heap.size (Bo + 1)) (S:=fun ys=>ys = given l0_1 l0_1.length) (Sp:=fun _=>True) (N:=l0_1.length) (w0:=W0)
    (fun l J Jx W hW _ _ hY h0=>back1_in 2 (by omega) l (Bo + 1) w W A0_1 c0_1 l0_1 HR.out HL.out J Jx hY ((hW.block _ bS.lt).trans bS) (hB1.trans (hW.mono hB1.size)) h0)
    (fun h k=>KB.trans h k)
    (fun W l o o' hl h hc hw=>⟨belowK_b (w:=W0) (by omega) W l o o' hl h hc hw,World.putObj_heap_other (by omega)⟩)
    (Below.refl _ _) (fun _=>rfl)
    (MI w Bo A0_1 l0_1.length c0_1 a0_0) (fun _ _ _=>False)
    (MI_own _ _ _ _ _ _ _ (by omega)) (fun _ _ _ _ _ hs _ _=>hs) hI0
    (fun x a' W=>∃ Bx,Bo + 1 < Bx ∧ Rowed W Bx 31 #[.int .i64 x.2.f0,.int .i64 x.2.f1] ∧ a' = { tmps:=#[.agg #[.string a0_0,.slice A0_1 l0_1.length c0_1],.pointer (some ⟨w.heap.size,0,none⟩),.pointer (some ⟨w.heap.size + 1,0,none⟩),.int .i64 0,.int .i64 0,.pointer (some ⟨Bo,0,none⟩),undef,.pointer (some ⟨Bx,0,none⟩),.agg #[.string a0_0,.slice A0_1 l0_1.length c0_1],.int .i64 0,.int .i64 0,.bool false,undef,undef,.pointer (some ⟨w.heap.size,1,none⟩),.slice A0_1 l0_1.length c0_1,.func (.func 60) #[] #[.pointer (some ⟨Bo + 1,0,none⟩)],.int .i64 (x.1 : Int),.agg #[.int .i64 x.2.f0,.int .i64 x.2.f1],undef,undef,undef,undef,undef,undef,undef,undef,undef,undef,undef,undef,undef,undef],defers:=[] })
    (fun x a' _ X Y row hs hg hr=>by obtain ⟨Bx,h1,h2,h3⟩ := hs;exact ⟨Bx,h1,rowed_own Bx 31 (fun (_ : Unit)=>#[.int .i64 x.2.f0,.int .i64 x.2.f1]) () X Y row h2 hg (fun r e=>(hr r e).2),h3⟩)
    ?assign ?body ?done ?stop
   case assign =>
    rintro l pre x W K hI hK
    gi_wp2
    have hg0 : W.grownBy (W.alloc (.cells #[.int .i64 x.2.f0,.int .i64 x.2.f1] 31)) none:=World.grownBy_alloc W _ none;have hRow : Rowed (W.alloc (.cells #[.int .i64 x.2.f0,.int .i64 x.2.f1] 31)) W.heap.size 31 #[.int .i64 x.2.f0,.int .i64 x.2.f1] := World.alloc_heap_new _ _;have hlt:=hI.1.2.1.lt
    refine hK _ _ ((KeepsOthers.alloc _ _).from _) ⟨(Below.refl _ W).grown hg0 (by have:=hI.2.size;omega) (fun k e=>by cases e),hg0.block _ hlt (by simp)⟩ (MI_own _ _ _ _ _ _ _ (Nat.le_refl _) pre W _ none hI hg0 (fun r e=>by cases e)) ⟨W.heap.size,hlt,hRow,rfl⟩
   case body =>
    rintro l pre x a' W hl _ ⟨⟨⟨v,bO1,hrow,_⟩,bS1,r01,r11⟩,hB⟩ ⟨Bx,hBx,rX,rfl⟩ hlt;have cX0 : W.cell? ⟨Bx,0,none⟩ = some (.int .i64 x.2.f0):=blk_cell rX 0;have cX1 : W.cell? ⟨Bx,1,none⟩ = some (.int .i64 x.2.f1):=blk_cell rX 1;have cO:=bO1.cell;have fO:=bO1.frozen
    have hle : w.heap.size ≤ Bo:=by omega
    have hln:=HL.out;obtain ⟨i0,hi,hz0,hz1,hz2⟩ := info_parts info31
    gi_wp2_with (gi_at_builtin;refine wpListIn_append_own _ rfl _ _ 23 rfl w.heap.size 31 i0 (.agg #[.int .i64 0,.int .i64 0]) 2 16 Try.underlying23 hi hz0 hz1 hz2 rfl (by decide) _ _ _ rfl (hrow.alloc _) ⟨W.heap.size,0,none⟩ 1 1 [.int .i64 (wrap64 (-x.2.f0)),.int .i64 x.2.f1] rfl rfl (two_new _ _ _ _) (by simp [Value.oneCell']) (by show pre.length + 1 ≤ 9223372036854775807;omega) (by omega) (by have:=hB.size;simp;omega) ?_;intro v' w2 hown' hgrow _;obtain ⟨g',cap',rfl⟩ := ownsRow_succ hown';obtain ⟨hv1,hv2,hr2,hk2,hb2⟩ := bO1.appended (by decide) hrow hB.size hle hown' hgrow;have hc1:=hv1.cell;have hf1:=hv1.frozen;have bS2:=(bS1.alloc _).kept hgrow (bS1.not_row (by decide) hrow);have r02:=(r01.alloc _).kept hgrow (r01.not_row (by decide) hrow);have r12:=(r11.alloc _).kept hgrow (r11.not_row (by decide) hrow))
    have hr3 : World.ownsRow (w2.setCell ⟨Bo,0,none⟩ (.slice (some ⟨g',0,none⟩) (pre.length + 1) cap')) w.heap.size 31 2 (.slice (some ⟨g',0,none⟩) (pre.length + 1) cap') (pre ++ [x]).length (pts (mirOf (pre ++ [x]))):=by
     rw [mirOf_snoc,pts_snoc,show (pre ++ [x]).length = pre.length + 1 from by simp];exact hr2
    refine ⟨hk2.from _,⟨hb2, ?_⟩,⟨⟨⟨_,hv2,hr3,trivial⟩,bS2.other (by omega) _,r02.other (by omega) _,r12.other (by omega) _⟩,hB.trans hb2⟩⟩
    have e1:=bS2.other (B':=Bo) (by omega) (.slice (some ⟨g',0,none⟩) (pre.length + 1) cap');have e2:=bS1
    unfold Boxed at e1 e2
    rw [e1,e2]
   case done =>
    rintro D ys W hD rfl ⟨⟨⟨v,bO1,hrow,_⟩,bS1,r01,r11⟩,hB⟩ hK;have hR : Kd.R k31 31 W w.heap.size (fun _=>True) v (mirL l0_1):=R31_of (by rw [show (mirL l0_1).length = (given l0_1 l0_1.length).length from mirOf_len _];exact hrow);obtain ⟨A',c',rfl,hc',hC⟩ := Kd.R_reads hR;have cN : W.cell? ⟨w.heap.size,0,none⟩ = some (.string a0_0):=blk_cell r01 0;have cO:=bO1.cell;have q0 : W.cell? ⟨w.heap.size + 1,0,none⟩ = some (.string ⟨#[]⟩):=blk_cell r11 0;have q1 : W.cell? ⟨w.heap.size + 1,1,none⟩ = some (.slice none 0 0):=blk_cell r11 1;have f0:=blk_frozen r11 0;have f1:=blk_frozen r11 1;have HCC:=aside hC;have HC':=aside hc';have HROW:=aside hrow;have HK:=aside hK;have hl0 : w.heap.size + 1 < W.heap.size:=r11.lt;have hR0:=aside r01;have hR1:=aside r11;clear hR hC hc' hrow hK r01 r11
    gi_wp2
    have hmx : Try.prog.follows .mixedOrders = true:=by kernel_rfl
    refine ends_normal ?_
    gi_region_with_o (refine ⟨trivial, ?_⟩;gi_at_call 44;refine (callsIn_wide.2 (profile_canonical.calls k A' c' (mirL l0_1) rr _ (Kd.C_below HCC.out (by repeat (first|exact Below.refl _ _|apply pw_below_drewN|apply below_drew))) HC'.out HCan.out)).mono ?_;rintro e w2 ⟨v1,rfl,hR2,hb⟩;have hbW : Below W.heap.size W w2:=Below.trans (by repeat (first|exact Below.refl _ _|apply pw_below_drewN|apply below_drew)) (hb.mono (Nat.le_refl _));obtain ⟨A2,c2,rfl,hc2,hC2⟩ := Kd.R_reads hR2;have r12:=hR1.out.below hbW hl0;have r02:=hR0.out.below hbW (by omega);have cN2 : w2.cell? ⟨w.heap.size,0,none⟩ = some (.string a0_0):=blk_cell r02 0;have q02 : w2.cell? ⟨w.heap.size + 1,0,none⟩ = some (.string ⟨#[]⟩):=blk_cell r12 0;have q12 : w2.cell? ⟨w.heap.size + 1,1,none⟩ = some (.slice none 0 0):=blk_cell r12 1;have f02:=blk_frozen r12 0;have f12:=blk_frozen r12 1;have HRes:=aside hR2;have HbW:=aside hbW;have HR12:=aside r12;clear hR2 hbW r12 r02 hb hc2 hC2)
    all_goals gi_wp2
    all_goals
     have hb' : Below w.heap.size w w2:=hB.trans (HbW.out.mono hB.size);have hKD : w2.heap[D]? = some (.deferred (some [])):=(HbW.out.block D (Array.getElem?_eq_some_iff.1 HK.out).1).trans HK.out;exact mir_end hb' hKD (by omega) HR12.out (Kd.R_lower HRes.out hB.size) rfl rfl
   case stop =>
    rintro D c pre W _ _ h _;exact h.elim
  ·rw [if_pos rfl,if_neg hl] at h
   cases h
 ·rw [if_neg hz] at h
  obtain ⟨rfl,rfl,rfl⟩ : (⟨#[]⟩ : ByteArray) = r1 ∧ ([] : List S31) = r2 ∧ e = r3:=by cases h;exact ⟨rfl,rfl,rfl⟩
  have hz' : (e != 0) = true:=by simpa using hz
  clear h
  refine ⟨trivial, ?_⟩
  gi_at_call 17
  refine (callsIn_wide.2 HC1.out).mono ?_
  clear HC1;rintro _ w1 ⟨rfl,hb⟩;have hR1:=HR1.out.below hb (by simp only [World.size_alloc];omega)
  have hc10 : w1.cell? ⟨w.heap.size + 1,0,none⟩ = some (.string ⟨#[]⟩):=by rw [cell_of_row w1 (w.heap.size + 1) 0 _ _ _ hR1];rfl
  have hc11 : w1.cell? ⟨w.heap.size + 1,1,none⟩ = some (.slice none 0 0):=by rw [cell_of_row w1 (w.heap.size + 1) 1 _ _ _ hR1];rfl
  have hf10 : w1.frozen? ⟨w.heap.size + 1,0,none⟩ = false:=by simp [World.frozen?,show w1.heap[w.heap.size + 1]? = _ from hR1]
  have hf11 : w1.frozen? ⟨w.heap.size + 1,1,none⟩ = false:=by simp [World.frozen?,show w1.heap[w.heap.size + 1]? = _ from hR1]
  have HR11:=aside hR1;have HBx:=aside hb;clear hR1 HR0 HR1 hb
  gi_wp2
  have hb1 : Below w.heap.size w w1:=HB0.out.trans (HBx.out.mono HB0.out.size);exact ⟨_,results_ct rfl _ _ (w.heap.size + 1) 25 #[.string ⟨#[]⟩,.slice none 0 0] (0,0) _ rfl (blk_put (cs:=#[.string ⟨#[]⟩,.slice none 0 0]) (blk_put (cs:=#[.string ⟨#[]⟩,.slice none 0 0]) HR11.out 0 _ rfl) 1 _ rfl) Try.underlying25 rfl (by kernel_rfl),_,rfl,Kd.R_nil _ _ _ _ _,(hb1.setCell (p:=⟨w.heap.size + 1,0,none⟩) (by show w.heap.size ≤ w.heap.size + 1;omega) _).setCell (p:=⟨w.heap.size + 1,1,none⟩) (by show w.heap.size ≤ w.heap.size + 1;omega) _⟩
end Go.Proofs.Ytnjikioimompnaa.PA
