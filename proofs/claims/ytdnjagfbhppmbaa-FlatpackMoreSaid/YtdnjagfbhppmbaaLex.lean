import Derived.Test.YtdnjagfbhppmbaaProg
import Derived.WalkKit
import Derived.KernelRfl
import Derived.RowKit3
import Derived.Deep.LoopGhost
import Derived.Deep.QuietTactic
import Derived.BigQuiet
import Derived.WideLaws
import Derived.Deep.DeepCutAuto
import Derived.Deep.CutBlock
import Derived.Deep.RegionHeld3
namespace Go.Proofs.Ytdnjagfbhppmbaa
open Go.RowKit
set_option linter.unusedVariables false
set_option linter.unusedSimpArgs false
theorem aside {p : Prop} (h : p) : Aside p:=h
def tabA (t : Nat → Int) : Array Value:=(Array.range 256).map fun c=>.int .u8 (t c)
theorem tabA_size (t : Nat → Int) : (tabA t).size = 256:=by simp [tabA]
theorem tabA_get (t : Nat → Int) (i : Nat) (h : i < 256) : (tabA t)[i]? = some (.int .u8 (t i)):=by
 simp [tabA,h]
theorem tabA_set (t : Nat → Int) (i : Nat) (v : Int) : (tabA t).setIfInBounds i (.int .u8 v) = tabA (fun c=>if c = i then v else t c):=by
 apply Array.ext_getElem?
 intro j;by_cases hj : j < 256
 ·rw [tabA_get _ j hj];by_cases e : j = i
  ·subst e
   simp [Array.getElem?_setIfInBounds,tabA_size,hj]
  ·simp [Array.getElem?_setIfInBounds,tabA_get _ j hj,e,Ne.symm e]
 ·simp [Array.getElem?_setIfInBounds,hj,tabA]
theorem tabA_zero : Try.zeroCells118 = tabA (fun _=>0):=by kernel_rfl
def Tb (wr : World) (B : Nat) (t : Nat → Int) : Prop:=wr.heap[B]? = some (.cells (tabA t) 118 (0,0))
theorem Tb.cell {wr : World} {B : Nat} {t : Nat → Int} (h : Tb wr B t) (i : Nat) (hi : i < 256) : wr.cell? ⟨B,i,none⟩ = some (.int .u8 (t i)):=by
 have h' : wr.heap[B]? = some (.cells (tabA t) 118 (0,0)):=h
 simp [World.cell?,h',tabA_get _ i hi]
theorem Tb.free {wr : World} {B : Nat} {t : Nat → Int} (h : Tb wr B t) (i : Nat) : wr.frozen? ⟨B,i,none⟩ = false:=by
 have h' : wr.heap[B]? = some (.cells (tabA t) 118 (0,0)):=h
 simp [World.frozen?,h']
theorem Tb.set {wr : World} {B : Nat} {t : Nat → Int} (h : Tb wr B t) (i : Nat) (v : Int) {t' : Nat → Int} (he : ∀ c,t' c = if c = i then v else t c) : Tb (wr.setCell ⟨B,i,none⟩ (.int .u8 v)) B t':=by
 have h' : wr.heap[B]? = some (.cells (tabA t) 118 (0,0)):=h;obtain rfl : t' = (fun c=>if c = i then v else t c):=funext he
 unfold Tb
 simp [World.setCell,Array.getElem?_modify,h',tabA_set]
theorem heap_far (w : World) (B g i : Nat) (v : Value) (h : g ≠ B) : (w.setCell ⟨B,i,none⟩ v).heap[g]? = w.heap[g]? := Below.heap_setCell w ⟨B,i,none⟩ v g h
def t1 (n : Nat) (c : Nat) : Int:=if (97 ≤ c ∧ c < 97 + n) ∨ (65 ≤ c ∧ c < 65 + n) then 1 else 0
def t2 (n : Nat) (c : Nat) : Int:=if 48 ≤ c ∧ c < 48 + n then 2 else t1 26 c
def t3 (c : Nat) : Int:=if c = 95 then 3 else t2 10 c
def sgs : List Nat:=[40,41,44,61,58,60,62,43,47]
def t4 (n : Nat) (c : Nat) : Int:=if c ∈ sgs.take n then 4 else t3 c
def cls (c : Nat) : Int:=t4 9 c
def sgA : ByteArray:=⟨#[40,41,44,61,58,60,62,43,47]⟩
def itSet (w : World) (g : Nat) (s : ByteArray) (pos : Nat) : World := { w with heap:=w.heap.setIfInBounds g (.stringIter s pos) }
theorem run_next_at {P : Program} {w : World} {g pos : Nat} {s : ByteArray} (ty : TypeId) (hg : w.heap[g]? = some (.stringIter s pos)) (h : pos < s.size) (ha : (s[pos]'h).toNat < 128) {q : Nat} (hq : (s[pos]'h).toNat = q) :
  (Instr.next (.pointer (some ⟨g,0,none⟩)) true ty).run P w = .ok (.tuple #[.bool true,.int .i64 pos,.int .i32 q]) (itSet w g s (pos + 1)):=by
 subst hq;simp only [Instr.next,getObj,setObj,Sem.run_bind,Sem.run,hg,Result.andThen,h,if_true,decode_ascii s pos h ha]
 simp [goInt,Sem.run,hg,itSet]
theorem itSet_far (w : World) (g k : Nat) (s : ByteArray) (pos : Nat) (h : k ≠ g) : (itSet w g s pos).heap[k]? = w.heap[k]? := by
 simp [itSet,Array.getElem?_setIfInBounds,Ne.symm h]
theorem itSet_same (w : World) (g : Nat) (s : ByteArray) (pos : Nat) (h : g < w.heap.size) : (itSet w g s pos).heap[g]? = some (.stringIter s pos):=by
 simp [itSet,Array.getElem?_setIfInBounds,h]
theorem itSet_below {B : Nat} {w W : World} (h : Below B w W) (g : Nat) (hg : B ≤ g) (s : ByteArray) (pos : Nat) : Below B w (itSet W g s pos) :=
 h.trans ⟨rfl,rfl,rfl,by simp [itSet],fun k hk=>itSet_far _ _ _ _ _ (by omega)⟩
theorem run_next_over {P : Program} {w : World} {g pos : Nat} {s : ByteArray} (ty : TypeId) (hg : w.heap[g]? = some (.stringIter s pos)) (h : ¬ pos < s.size) :
  (Instr.next (.pointer (some ⟨g,0,none⟩)) true ty).run P w = .ok (.tuple #[.bool false]) w:=by
 simp [Instr.next,getObj,Sem.run,hg,h]
theorem sg_at (n : Nat) (h : n < 9) : ∃ q,(sgA[n]'(by show n < 9;exact h)).toNat = q ∧ q < 128 ∧ sgs[n]? = some q:=by
 refine ⟨_,rfl, ?_⟩
 revert n
 decide
theorem run_storeAt_row {P : Program} (w : World) (g : Nat) (t ty : TypeId) (cur cs : Array Value) (hg : w.heap[g]? = some (.cells cur t (0, 0))) (hl : cur.size = cs.size) (hi : (P.info? ty).map (·.size) = some cs.size) (h1 : ∀ v ∈ cs.toList, v.oneCell' = true) :
  (Instr.storeAt ty (.pointer (some ⟨g,0,none⟩)) (.agg cs)).run P w = .ok () (w.setRow g cs):=by
 have hs:=run_storeCells_at (P:=P) g 0 t cs.toList 0 cur w hg (by simp;omega) h1;simp only [Nat.add_zero,List.take_zero,List.nil_append,Nat.zero_add] at hs;rw [List.drop_eq_nil_of_le (by simp;omega),List.append_nil,Array.toArray_toList] at hs
 cases hq : P.info? ty with
 | none=>simp [hq] at hi
 | some i =>
  have hz : i.size = cs.size:=by simpa [hq] using hi
  simp [Instr.storeAt,Instr.sureAddr,storeVar,Sem.run_bind,sizeOf,typeInfo,hq,hz,Value.cells,hs]
theorem wpList_store_run {P : Program} {ops : Array Oper} {rest : List Oper} {o : Oper} {a : Act} {w w' : World} {Q : Exit → Act → World → Prop} (hgd : o.guard = none) (ty : TypeId) (x y : Operand) (ho : o.op = .store ty x y)
  {vx vy : Value} (hx : a.eval x = vx) (hy : a.eval y = vy) (hrun : (Instr.storeAt ty vx vy).run P w = .ok () w')
  (h : wpList P ops Q rest (a.put o.dst undef) w') : wpList P ops Q (o :: rest) a w :=
 wpList_plain hgd fun K hK=>by
  unfold Oper.wp execOp
  simp only [ho,hx,hy,Sem.run_bind,hrun,Result.andThen_ok,Sem.run_pure];exact hK _ _ h
theorem size118 : (Try.prog.info? 118).map (·.size) = some 256:=by kernel_rfl
set_option maxHeartbeats 1000000 in
theorem table_any (w : World) :
  Calls Try.prog 90 #[] w fun e w'=>e = .returned (.agg (tabA cls)) ∧ Below w.heap.size w w':=by
 go_enter Try.func90,Try.ntmps90
 go_wp2
 go_loopg [2] 26 (fun gg v wr=>∃ n : Nat,n ≤ 26 ∧ 26 - n ≤ gg ∧ v = .int .i32 (97 + n) ∧ Aside (Tb wr (w.heap.size + 1) (t1 n)) ∧ Aside (Below w.heap.size w wr) ∧ Aside (Tb wr w.heap.size (fun _=>0)) ∧ Aside (wr.heap.size = w.heap.size + 2))
 case atStart =>
  refine ⟨0,by omega,by omega,rfl, ?_, ?_, ?_, ?_⟩
  ·show Tb _ _ _
   unfold Tb;rw [tabA_zero,heap_alloc2_new]
   have : t1 0 = fun _=>0:=by funext c;unfold t1;rw [if_neg (by omega)]
   rw [this]
  (exact ((Below.refl _ _).alloc (Nat.le_refl _) _).alloc (by simp) _)
  ·show Tb _ _ _
   unfold Tb;rw [tabA_zero,heap_alloc2_old]
  ·show _ = _;simp
 case round =>
  obtain ⟨n,hn,hg,rfl,A,B,C,D⟩ := hrel;by_cases hlt : n < 26
  ·have hc1:=A.out.cell (97 + n) (by omega);have hc2:=A.out.cell (n + 65) (by omega);have hf1:=A.out.free (97 + n);have hf2:=A.out.free (n + 65)
   go_wp2
   go_roundg (26 - (n + 1))
   case measure=>omega
   case rel =>
    refine ⟨n + 1,by omega,by omega,by go_num, ?_, ?_, ?_, ?_⟩
    ·refine (Tb.set (Tb.set A.out (97 + n) 1 (fun _=>rfl)) (n + 65) 1 ?_)
     intro c;unfold t1;split <;> split <;> first|rfl|(split <;> first|rfl|(split <;> first|rfl|omega)|omega)|omega
    (exact (B.out.setCell (by simp) _).setCell (by simp) _)
    ·show Tb _ _ _;unfold Tb;rw [heap_far _ _ _ _ _ (by omega),heap_far _ _ _ _ _ (by omega)];exact C.out
    ·show _ = _;simp;exact D.out
  ·obtain rfl : n = 26:=by omega
   go_wp2
   go_loopg [3] 10 (fun gg v wr=>∃ n : Nat,n ≤ 10 ∧ 10 - n ≤ gg ∧ v = .int .i32 (48 + n) ∧ Aside (Tb wr (w.heap.size + 1) (t2 n)) ∧ Aside (Below w.heap.size w wr) ∧ Aside (Tb wr w.heap.size (fun _=>0)) ∧ Aside (wr.heap.size = w.heap.size + 2))
   case atStart =>
    refine ⟨0,by omega,by omega,rfl, ?_,B,C,D⟩
    show Tb _ _ _
    have : t2 0 = t1 26:=by funext c;unfold t2;rw [if_neg (by omega)]
    rw [this];exact A.out
   clear A B C D hn hg hlt
   case round =>
    obtain ⟨n,hn,hg,rfl,A,B,C,D⟩ := hrel;by_cases hlt : n < 10
    ·have hc1:=A.out.cell (48 + n) (by omega);have hf1:=A.out.free (48 + n)
     go_wp2
     go_roundg (10 - (n + 1))
     case measure=>omega
     case rel =>
      refine ⟨n + 1,by omega,by omega,by go_num, ?_, ?_, ?_, ?_⟩
      ·refine Tb.set A.out (48 + n) 2 ?_
       intro c;unfold t2;split <;> split <;> first|rfl|(split <;> first|rfl|omega)|omega
      (exact B.out.setCell (by simp) _)
      ·show Tb _ _ _;unfold Tb;rw [heap_far _ _ _ _ _ (by omega)];exact C.out
      ·show _ = _;simp;exact D.out
    ·obtain rfl : n = 10:=by omega
     have hc1:=A.out.cell 95 (by omega);have hf1:=A.out.free 95
     go_wp2
     have S0 : sgA.size = 9:=rfl;have A' : Tb (wr.setCell ⟨w.heap.size + 1,95,none⟩ (.int .u8 3)) (w.heap.size + 1) t3:=Tb.set A.out 95 3 (fun _=>rfl);have B' : Below w.heap.size w (wr.setCell ⟨w.heap.size + 1,95,none⟩ (.int .u8 3)):=B.out.setCell (by simp) _
     have C' : Tb (wr.setCell ⟨w.heap.size + 1,95,none⟩ (.int .u8 3)) w.heap.size (fun _=>0):=by unfold Tb;rw [heap_far _ _ _ _ _ (by omega)];exact C.out
     have D' : (wr.setCell ⟨w.heap.size + 1,95,none⟩ (.int .u8 3)).heap.size = w.heap.size + 2:=by simp;exact D.out
     clear A B C hc1 hf1 hn hg hlt;rw [D.out];generalize (wr.setCell ⟨w.heap.size + 1,95,none⟩ (.int .u8 3)) = wx at A' B' C' D' ⊢;clear D
     go_loopg [] 9 (fun gg wr=>∃ n : Nat,n ≤ 9 ∧ 9 - n ≤ gg ∧ Aside (wr.heap[w.heap.size + 2]? = some (.stringIter sgA n)) ∧ Aside (Tb wr (w.heap.size + 1) (t4 n)) ∧ Aside (Below w.heap.size w wr) ∧ Aside (Tb wr w.heap.size (fun _=>0)) ∧ Aside (wr.heap.size = w.heap.size + 3))
     case atStart =>
      refine ⟨0,by omega,by omega, ?_, ?_, ?_, ?_, ?_⟩
      ·show _ = _
       rw [← D'];exact World.iter_heap _ _ _
      ·show Tb _ _ _
       have e0 : t4 0 = t3:=by funext c;unfold t4;simp
       unfold Tb;rw [e0];show (wx.heap.push _)[_]? = _
       rw [Array.getElem?_push,if_neg (by omega)];exact A'
      (exact B'.alloc (by omega) _)
      ·show Tb _ _ _
       unfold Tb;show (wx.heap.push _)[_]? = _
       rw [Array.getElem?_push,if_neg (by omega)];exact C'
      ·show _ = _
       simp [World.iter];omega
     case round =>
      obtain ⟨n,hn,hg,I,A,B,C,D⟩ := hrel;by_cases hlt : n < 9
      ·obtain ⟨q,hq,hq1,hq2⟩ : ∃ q,(sgA[n]'(by rw [S0];exact hlt)).toNat = q ∧ q < 128 ∧ sgs[n]? = some q:=sg_at n hlt;have hnx:=run_next_at (P:=Try.prog) 0 I.out (by rw [S0];exact hlt) (by rw [hq];exact hq1) hq
       have A1 : Tb (itSet wr (w.heap.size + 2) sgA (n + 1)) (w.heap.size + 1) (t4 n):=by unfold Tb;rw [itSet_far _ _ _ _ _ (by omega)];exact A.out
       have I1 : (itSet wr (w.heap.size + 2) sgA (n + 1)).heap[w.heap.size + 2]? = some (.stringIter sgA (n + 1)):=itSet_same _ _ _ _ (by have:=D.out;omega);have B1 : Below w.heap.size w (itSet wr (w.heap.size + 2) sgA (n + 1)):=itSet_below B.out _ (by omega) _ _
       have C1 : Tb (itSet wr (w.heap.size + 2) sgA (n + 1)) w.heap.size (fun _=>0):=by unfold Tb;rw [itSet_far _ _ _ _ _ (by omega)];exact C.out
       have D1 : (itSet wr (w.heap.size + 2) sgA (n + 1)).heap.size = w.heap.size + 3:=by simp [itSet];exact D.out
       have hc1:=A1.cell q (by omega);have hf1:=A1.free q;clear A B C D I hq S0;generalize (itSet wr (w.heap.size + 2) sgA (n + 1)) = wy at A1 B1 C1 D1 I1 hc1 hf1 hnx;have A:=aside A1;have B:=aside B1;have C:=aside C1;have D:=aside D1;have I:=aside I1;have Q:=aside hq2;clear A1 B1 C1 D1 I1 hq2
       go_wp2
       go_roundg (9 - (n + 1))
       case measure=>omega
       case rel =>
        refine ⟨n + 1,by omega,by omega,(show Aside _ from (heap_far _ _ _ _ _ (by omega)).trans I.out), ?_, ?_, ?_, ?_⟩
        ·refine Tb.set A.out q 4 ?_
         intro c
         unfold t4
         rw [List.take_add_one,Q.out];by_cases e : c = q
         ·subst e;simp
         ·simp [e]
        (exact B.out.setCell (by simp) _)
        ·show Tb _ _ _;unfold Tb;rw [heap_far _ _ _ _ _ (by omega)];exact C.out
        ·show _ = _;simp;exact D.out
      ·obtain rfl : n = 9:=by omega
       have hnx:=run_next_over (P:=Try.prog) 0 I.out (by rw [S0];omega)
       have h1 : ∀ v ∈ (tabA cls).toList,v.oneCell' = true:=by
        intro v hv;simp only [tabA,Array.toList_map,List.mem_map] at hv;obtain ⟨c,_,rfl⟩ := hv;rfl
       have hst:=run_storeAt_row (P:=Try.prog) wr w.heap.size 118 118 _ (tabA cls) C.out (by simp [tabA_size]) (by rw [size118,tabA_size]) h1;have hre : (wr.setRow w.heap.size (tabA cls)).heap[w.heap.size]? = some (.cells (tabA cls) 118 (0,0)):=setRow_heap _ _ _ _ _ _ C.out;have B1 : Below w.heap.size w (wr.setRow w.heap.size (tabA cls)):=B.out.trans ⟨rfl,rfl,rfl,by simp,fun k hk=>setRow_other _ _ _ _ (by omega)⟩;have HA : wr.heap[w.heap.size + 1]? = some (.cells (tabA cls) 118 (0,0)):=A.out
       have hz : (Try.prog.info? 118).map (·.size) = some (tabA cls).size:=by rw [size118,tabA_size]
       clear B C D I h1 S0 A;generalize hT0 : tabA cls = T at hst hre B1 HA hz;have hT:=aside hT0;clear hT0;generalize wr.setRow w.heap.size T = wz at *;have HR:=aside hre;have HB:=aside B1;have HT:=aside HA;have HZ:=aside hz;clear hre B1 HA hz hg hn hlt
       go_upto_region 15 with (fail)
       refine wp_region_lit ?_
       refine wpList_load_row rfl 118 (.tmp 1) rfl (w.heap.size + 1) ?hx 118 T (0,0) _ HT.out Try.underlying118 ?hd HZ.out ?_
       case hx=>rfl
       case hd=>rfl
       refine wpList_store_run rfl 118 (.tmp 0) (.tmp 29) rfl rfl rfl hst ?_
       go_wp2
       refine bodyPost_ret (v:=.agg T) (results_cell_row rfl _ _ w.heap.size 118 T (0,0) _ rfl HR.out Try.underlying118 rfl HZ.out) rfl ⟨by rw [hT.out],HB.out⟩
set_option maxHeartbeats 400000 in
theorem classes_any (w : World) :
  Calls Try.prog 78 #[] w fun e w'=>e = .returned (.agg (tabA cls)) ∧ Below w.heap.size w w':=by
 obtain ⟨T,hT⟩ : ∃ T,tabA cls = T:=⟨_,rfl⟩
 have hz : (Try.prog.info? 118).map (·.size) = some T.size:=by rw [size118,← hT,tabA_size]
 have hz2 : T.size = 256:=by rw [← hT,tabA_size]
 have h1 : ∀ v ∈ T.toList,v.oneCell' = true:=by
  intro v hv;rw [← hT] at hv;simp only [tabA,Array.toList_map,List.mem_map] at hv;obtain ⟨c,_,rfl⟩ := hv;rfl
 have hz0 : Try.zeroCells118.size = 256:=by rw [tabA_zero,tabA_size]
 rw [hT];have HT:=aside hT;have HZ:=aside hz;have H2:=aside hz2;have H1:=aside h1;have H0:=aside hz0;clear hT hz hz2 h1 hz0
 go_enter Try.func78,Try.ntmps78
 have F : ∀ w1,Below (w.alloc (.cells Try.zeroCells118 118)).heap.size (w.alloc (.cells Try.zeroCells118 118)) w1 → (Instr.storeAt 118 (.pointer (some ⟨w.heap.size,0,none⟩)) (.agg T)).run Try.prog w1 = .ok () (w1.setRow w.heap.size T) ∧ (w1.setRow w.heap.size T).heap[w.heap.size]? = some (.cells T 118 (0,0)) ∧ Below w.heap.size w (w1.setRow w.heap.size T):=by
  intro w1 hb;have hc : w1.heap[w.heap.size]? = some (.cells Try.zeroCells118 118 (0,0)):=(hb.block _ (by simp)).trans (heap_alloc_new _ _)
  refine ⟨run_storeAt_row (P:=Try.prog) w1 w.heap.size 118 118 _ T hc (by rw [H0.out,H2.out]) HZ.out H1.out,setRow_heap _ _ _ _ _ _ hc, ?_⟩
  exact (((Below.refl _ _).alloc (Nat.le_refl _) _).trans (hb.mono (by simp))).trans ⟨rfl,rfl,rfl,by simp,fun k hk=>setRow_other _ _ _ _ (by omega)⟩
 have F':=aside F;clear F
 go_wp2_with (go_at_call 90;refine (table_any _).mono ?_;rw [HT.out];rintro e w1 ⟨rfl,hb⟩;refine Hid.out ?_)
 rename_i w1 hb
 obtain ⟨hst,hre,hb0⟩ := F'.out w1 hb;simp only [Hid]
 go_step
 refine wpList_store_run rfl 118 (.tmp 0) (.tmp 1) rfl rfl rfl hst ?_
 have hre':=aside hre;have HB:=aside hb0;clear hst hre hb0 hb F';generalize w1.setRow w.heap.size T = wz at *
 go_wp2
 exact bodyPost_ret (v:=.agg T) (results_cell_row rfl _ _ w.heap.size 118 T (0,0) _ rfl hre'.out Try.underlying118 rfl HZ.out) rfl ⟨rfl,HB.out⟩
end Go.Proofs.Ytdnjagfbhppmbaa
