import Derived.Test.YtohcgenhhgipcaaLex
import Derived.Test.YtohcgenhhgipcaaPAx0
import Derived.RangeFuncNested
import Derived.RangeFuncBound
import Derived.RangeFuncCalls
import Derived.RangeFuncLeaves
import Derived.Shelf.Abstract
import Derived.Shelf.RegionOpen
import Derived.WalkKit
import Derived.OwnWalkIn
import Derived.TacticsInMore
import Derived.LoopNIn
import Derived.LoopIn
import Derived.Sort.BigQuietIn
import Derived.WalkSpells
namespace Go.Proofs.Ytohcgenhhgipcaa.PA
open Go.RowKit Go.Shelf Go.Proofs.YtohcgenhhgipcaaW.PrintWords Go.Proofs.YtohcgenhhgipcaaW.PrintLast Go.Proofs.YtohcgenhhgipcaaW.PrintMore
set_option linter.unusedVariables false
set_option linter.unusedSimpArgs false
attribute [local go_sem] Oper.semAt_some

/-! A region that draws,inside a round: one quiet walk -/
def noDefer (o : Oper) : Bool:=match o.op with|.defer _=>false|_=>true
theorem noDefer_ne {o : Oper} (h : noDefer o = true) : ∀ c,o.op ≠ .defer c:=fun c e=>by rw [noDefer,e] at h;cases h
theorem Oper_round {F : Fence} {n l : Nat} {P : Program} {o : Oper} {a : Act} {w : World} {K : Act → World → Prop} {Q : Exit → Act → World → Prop} (hro : F.round = none) (hd : noDefer o = true) (h : o.wpIn F n P a w K Q) : o.wpIn (F.inRound l) n P a w K Q:=by
 unfold Oper.wpIn at h ⊢
 refine ⟨h.1, ?_⟩
 have h2:=h.2;rw [Oper.semAt_eq _ _ _ (noDefer_ne hd)] at h2 ⊢;generalize (execOp a.eval o).run P w = r at h2 ⊢
 cases r with
 | ok x w'=>cases x <;> exact h2
 | halt x w'=>cases x <;> exact h2
theorem wpAny_round {F : Fence} {n l : Nat} {P : Program} {md : Region.Mode} {ops : Array Oper} {Q : Exit → Act → World → Prop} (hro : F.round = none) (hd : ops.toList.all noDefer = true) : ∀ (fuel : Nat) (listed : Array Bool) (a : Act) (w : World),
  wpAnyIn F n P md ops Q fuel listed a w → wpAnyIn (F.inRound l) n P md ops Q fuel listed a w
 | 0,_,_,_,h=>h
 | fuel + 1, _, _, _, h => ⟨h.1, fun i hi => by
   have h1:=h.2 i hi
   unfold wpOpIn at h1 ⊢
   split at h1
   (exact wpAny_round hro hd fuel _ _ _ h1)
   ·rename_i o ho
    split at h1
    ·rename_i hw
     rw [if_pos hw]
     refine Oper_round hro (List.all_eq_true.1 hd o (Array.mem_toList_iff.2 (Array.mem_of_getElem? ho))) ?_
     exact Oper.wpIn_mono (fun a w hk=>wpAny_round hro hd fuel _ a w hk) h1
    ·rename_i hw
     rw [if_neg hw]
     exact ⟨h1.1,wpAny_round hro hd fuel _ _ _ h1.2⟩⟩
theorem quiet_round {F : Fence} {n ll : Nat} {P : Program} {id : Nat} {Q : Exit → Act → World → Prop} {a : Act} {w : World} {l : List Oper} (hro : F.round = none) (hm : P.follows .mixedOrders = true) (hB : Region.lexB .any l.toArray = true) (hd : l.all noDefer = true)
  (h : wpQuietIn F n P l.toArray (fun w'=>∃ n,w' = w.drewN n) (fun a'=>∀ w',(∃ n,w' = w.drewN n) → Q .normal a' w') l a) : (Code.region id l.toArray true).wpIn (F.inRound ll) n P Q a w:=by
 simp only [Region.lexB,Bool.and_eq_true] at hB
 refine wpIn_region_any hm (wpAny_round hro (by simpa using hd) _ _ _ _ (wpAnyIn_of_quiet (C:=fun w'=>∃ n,w' = w.drewN n) (Q:=fun a'=>∀ w',(∃ n,w' = w.drewN n) → Q .normal a' w') hro (fun _ w' hw' h=>h w' hw') _ _ _ _ ⟨1,rfl⟩ ?_))
 have:=wpAnyQIn_lex (F:=F) (n:=n) (P:=P) (C:=fun w'=>∃ n,w' = w.drewN n) (md:=.any) hB.1 l.toArray.toList 0 (Array.replicate l.toArray.size false) a (by simp) (by simpa using hB.2) (by simpa using h)
 simpa using this

/-! loading.bears: the stages of unloading,and the loop over them -/
/-- the loads from the k-th on,as a slice -/
def cutV (A : Option Addr) (m c k : Nat) : Value:=.slice (if c = k then A else A.map (·.add (k * 4))) (m - k) (c - k)
/-- what a round must keep: whatever lay below n₀,and the block Bs -/
def KB (n₀ Bs : Nat) (W W' : World) : Prop:=Below n₀ W W' ∧ W'.heap[Bs]? = W.heap[Bs]?
theorem KB.trans {n₀ Bs : Nat} {A B C : World} (h : KB n₀ Bs A B) (k : KB n₀ Bs B C) : KB n₀ Bs A C:=⟨h.1.trans k.1,k.2.trans h.2⟩
theorem cut45 (A : Option Addr) (m c k : Nat) (hk : k ≤ m) (W : World) : (Instr.slice 45 (.slice A m c) (some (.int .i64 (k : Int))) none none).run Try.prog W = .ok (cutV A m c k) W:=by
 obtain ⟨i0,hi0,_,hsz,_⟩ := info_parts info61
 have:=cut_from (P:=Try.prog) 45 61 .i64 Try.underlying45 hi0 4 hsz A m c k (by omega) (by omega) W
 simpa [cutV] using this
set_option maxRecDepth 100000 in
set_option maxHeartbeats 2000000 in
theorem stages1_in (n : Nat) (hn : 1 ≤ n) (l Bs : Nat) (w0 W : World) (A : Option Addr) (m c : Nat) (hlen : m ≤ 1000000000) (J Jx : List Nat → World → Prop)
  (hY : ∀ pre x W1,J pre W1 → pre.length < m + 1 → YieldAt Fence.wide (n - 1) Try.prog l #[cutV A m c x] W1 fun e W' =>
   (e = .returned (.bool true) ∧ J (pre ++ [x]) W' ∧ KB w0.heap.size Bs W1 W') ∨ (e = .returned (.bool false) ∧ Jx (pre ++ [x]) W'))
  (hbox : W.heap[Bs]? = some (.cells #[.slice A m c] 45 (0,0))) (h0 : J [] W) :
  CallsIn Fence.wide n Try.prog 75 #[.func (.yield l) #[] #[],.pointer (some ⟨Bs,0,none⟩)] W fun e W'=>(∃ v,e = .returned v) ∧
   ((∃ ys,ys = List.range (m + 1) ∧ J ys W') ∨ (∃ pre,True ∧ Jx pre W')):=by
 have HY:=aside hY;have HB:=aside hbox;have HJ:=aside h0;clear hY hbox h0
 refine callsIn_of_wp Try.func75 rfl trivial ?_ rfl
 simp only [Try.ntmps75,List.size_toArray,List.length_cons,List.length_nil,Nat.reduceAdd,Nat.reduceSub,Array.replicate_succ,Array.replicate_zero,List.push_toArray,List.append_toArray,List.nil_append,List.cons_append]
 gi_wp2
 gi_loopw [3] (fun v wr=>∃ k : Nat,k ≤ m + 1 ∧ v = .int .i64 (k : Int) ∧ Aside (J (List.range k) wr) ∧ Aside (wr.heap[Bs]? = some (.cells #[.slice A m c] 45 (0,0))))
  (fun v _=>(m + 1 - intOf v).toNat)
 case atStart=>exact ⟨0,Nat.zero_le _,rfl,HJ,HB⟩
 clear HJ HB
 case round =>
  obtain ⟨k,hk,rfl,HJ,HB⟩ := hrel
  have hc0 : wr.cell? ⟨Bs,0,none⟩ = some (.slice A m c):=by rw [cell_of_row wr Bs 0 _ _ _ HB.out];rfl
  by_cases hlt : k ≤ m
  ·obtain ⟨fn,tmps,assign,body,hy,hR⟩ := HY.out (List.range k) k wr HJ.out (by rw [List.length_range];omega);have hgs : List.range (k + 1) = List.range k ++ [k] := List.range_succ
   have hcut:=fun W=>cut45 A m c k hlt W
   generalize cutV A m c k = sv at hy hR hcut;have HG:=aside hgs;have HRd:=aside hR
   have hil : (k : Int) ≤ (m : Int):=by omega
   clear hgs hR
   gi_wp2
   refine HRd.out.mono ?_
   clear HRd;rintro e W3 (⟨rfl,hJ3,hk3⟩|⟨rfl,hJx3⟩)
   ·have HJ3:=aside hJ3;have HK3:=aside hk3;clear hJ3 hk3 hy hcut
    gi_wp2
    go_roundw
    case rel =>
     have h1:=HG.out;exact ⟨k + 1,by omega,by go_num,aside (by rw [h1];exact HJ3.out),aside (HK3.out.2.trans HB.out)⟩
    case measure=>simp [intOf];omega
   ·gi_wp2
    refine bodyPost_ret (results_none rfl _ _ _) rfl ?_
    exact ⟨⟨_,rfl⟩,.inr ⟨_,trivial,hJx3⟩⟩
  ·obtain rfl : k = m + 1:=by omega
   gi_wp2
   go_end0
   exact ⟨⟨_,rfl⟩,.inl ⟨_,rfl,HJ.out⟩⟩
set_option maxHeartbeats 1000000 in
theorem stages_in (n : Nat) (A : Option Addr) (m c : Nat) (w : World) : CallsIn Fence.wide n Try.prog 69 #[.slice A m c] w fun e w'=>e = .returned (.func (.func 75) #[] #[.pointer (some ⟨w.heap.size,0,none⟩)]) ∧ w' = w.alloc (.cells #[.slice A m c] 45):=by
 refine callsIn_of_wp Try.func69 rfl trivial ?_ rfl
 simp only [Try.ntmps69,List.size_toArray,List.length_cons,List.length_nil,Nat.reduceAdd,Nat.reduceSub,Array.replicate_succ,Array.replicate_zero,List.push_toArray,List.append_toArray,List.nil_append,List.cons_append]
 gi_wp2
 go_ret
 exact ⟨rfl,rfl⟩
end Go.Proofs.Ytohcgenhhgipcaa.PA
