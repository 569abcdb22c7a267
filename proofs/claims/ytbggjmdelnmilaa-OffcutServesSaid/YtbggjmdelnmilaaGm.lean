import Derived.Test.YtbggjmdelnmilaaGd
import Derived.Lib.AppendZerosOnto
import Derived.Lib.Overlaps
import Derived.Shelf.RegionOpenPlain
import Derived.Deep.RegionLaw
import Derived.Deep.RegionWith
import Derived.Laws.Cover1
import Derived.Lib.SliceRun
import Derived.StillTailTactics
set_option linter.unusedSimpArgs false
set_option linter.unusedVariables false
namespace Go.Proofs.Ytbggjmdelnmilaa.PA
open Go.RowKit Go.Shelf Go.Proofs.YtbggjmdelnmilaaW.PrintWords Go.Proofs.YtbggjmdelnmilaaW.PrintLast Go.Proofs.YtbggjmdelnmilaaW.PrintMore
def c39 (x : S39) : List Value:=[.string x.f0,.int .i64 x.f1.f0,.int .i64 x.f1.f1,.int .i64 x.f1.f2,.int .i64 x.f2,.string x.f3,.string x.f4]
abbrev P39 : S39 → List Value → Prop:=fun x cs=>cs = c39 x
theorem R39_open {w : World} {base : Nat} {ok : Nat → Prop} {v : Value} {xs : List S39} (h : Kd.R k39 39 w base ok v xs) :
  (v = .slice none 0 0 ∧ xs = []) ∨ ∃ g cap cur inner,v = .slice (some ⟨g,0,none⟩) xs.length cap ∧ ok g ∧ base ≤ g ∧ w.heap[g]? = some (.cells cur 39 (0,0)) ∧ xs.length ≤ cap ∧ cap ≤ maxLen ∧ cur.size = cap * 7 ∧ cur.toList.take (xs.length * 7) = inner ∧ Reps P39 7 xs inner:=by
 obtain ⟨h0,inner,ho,hr⟩ := h
 rcases ho.2 with ⟨rfl,hn⟩|⟨g,cap,cur,rfl,hb,hg,hnc,hcm,hcs,ht⟩
 (exact .inl ⟨rfl,List.eq_nil_of_length_eq_zero hn⟩);(exact .inr ⟨g,cap,cur,inner,rfl,h0 g rfl,hb,hg,hnc,hcm,hcs,ht,hr.imp_ (fun x c hx=>k39_openM hx)⟩)
theorem R39_mk {w : World} {base : Nat} {ok : Nat → Prop} {xs : List S39} {g cap : Nat} {cur : Array Value} (inner : List Value) (hr : Reps P39 7 xs inner) (hok : ok g) (hb : base ≤ g) (hg : w.heap[g]? = some (.cells cur 39 (0, 0))) (hnc : xs.length ≤ cap) (hcm : cap ≤ maxLen) (hcs : cur.size = cap * 7) (ht : cur.toList.take (xs.length * 7) = inner) :
  Kd.R k39 39 w base ok (.slice (some ⟨g,0,none⟩) xs.length cap) xs :=
 ⟨fun k hk=>by injection hk with hk;exact hk ▸ hok,inner,⟨hr.1,.inr ⟨g,cap,cur,rfl,hb,hg,hnc,hcm,hcs,ht⟩⟩,hr.imp_ (fun x c hx=>hx ▸ k39_mkM _ _ _ x)⟩
theorem one39 {xs : List S39} {inner : List Value} (h : Reps P39 7 xs inner) : ∀ u ∈ inner,u.oneCell' = true :=
 Kd.reps_one h (by decide) (fun p c hc u hu=>by
  have hc' : c = c39 p:=hc;subst hc';simp only [c39,List.mem_cons,List.not_mem_nil,or_false] at hu
  rcases hu with rfl|rfl|rfl|rfl|rfl|rfl|rfl <;> rfl)
theorem below_row {B : Nat} {a w : World} (h : Below B a w) {g : Nat} (hg : B ≤ g) (cs : Array Value) : Below B a (w.setRow g cs) :=
 h.trans ⟨rfl,rfl,rfl,by simp,fun k hk=>setRow_other w g k _ (by omega)⟩
theorem row_cell {w : World} {g : Nat} {cur : Array Value} {t : TypeId} (hg : w.heap[g]? = some (.cells cur t (0,0))) (k : Nat) (u : Value) (h : cur.toList[k]? = some u) : w.cell? ⟨g,k,none⟩ = some u:=cellB hg k u (by simpa using h)
theorem inner_cell {cur : Array Value} {m : Nat} {inner : List Value} (ht : cur.toList.take m = inner) {j : Nat} {u : Value} (h : inner[j]? = some u) : cur.toList[j]? = some u:=by
 rw [← ht,List.getElem?_take] at h
 split at h
 (exact h)
 ·cases h
theorem run_copy_row {P : Program} (w : World) (dT sT ty elem : TypeId) (size : Nat) (b o dLen dCap : Nat) (a : Addr) (sLen sCap : Nat) (cs : List Value) (cur : Array Value) (t : TypeId)
  (hu : P.underlying dT = some (.slice elem)) (hs : (P.info? elem).map (·.size) = some size) (hn : cs.length = Nat.min sLen dLen * size)
  (hg : w.heap[b]? = some (.cells cur t (0,0))) (hfit : o + cs.length ≤ cur.size)
  (hsrc : ∀ j v,cs[j]? = some v → w.cell? (a.add j) = some v) (h1 : ∀ v ∈ cs,v.oneCell' = true) :
  (Builtin.copy_ #[dT,sT] ty #[.slice (some ⟨b,o,none⟩) dLen dCap,.slice (some a) sLen sCap]).run P w = .ok (goInt (Nat.min sLen dLen)) (w.setRow b (cur.toList.take o ++ cs ++ cur.toList.drop (o + cs.length)).toArray):=by
 have hl:=run_loadCells_list (P:=P) w a cs hsrc;have hst:=run_storeCells_at P b o t cs 0 cur w hg (by simpa using hfit) h1;simp only [Nat.add_zero] at hst
 cases hq : P.info? elem with
 | none=>simp [hq] at hs
 | some i =>
  have hi : i.size = size:=by simpa [hq] using hs
  simp [Builtin.copy_,run_underlying hu,Builtin.lenOf,Builtin.firstCells,sizeOf,typeInfo,hq,hi,← hn,hl,hst]
theorem run_clear_row {P : Program} (w : World) (t e : TypeId) (z : Value) (ht : P.underlying t = some (.slice e)) (hv : ∀ w, (zeroValue e).run P w = .ok z w) (h1 : ∀ v ∈ z.cells, v.oneCell' = true) (b o n : Nat) (hn : 0 < n) (cur : Array Value) (q : TypeId)
  (hg : w.heap[b]? = some (.cells cur q (0,0))) (hfit : o + n * z.cells.size ≤ cur.size) :
  ∃ zs : List Value,zs.length = n * z.cells.size ∧ ∀ (ty : TypeId) (c : Nat),(Builtin.clear_ #[t] ty #[.slice (some ⟨b,o,none⟩) n c]).run P w = .ok (.tuple #[]) (w.setRow b (cur.toList.take o ++ zs ++ cur.toList.drop (o + zs.length)).toArray):=by
 have hl : (Builtin.zeroCells z.cells n).toList.length = n * z.cells.size:=by simp [Builtin.zeroCells]
 refine ⟨_,hl,fun ty c=>?_⟩
 have hst:=run_storeCells_at P b o q (Builtin.zeroCells z.cells n).toList 0 cur w hg (by rw [hl];simpa using hfit) (by
  intro v hv';simp only [Builtin.zeroCells,Array.toList_map,Array.toList_range,List.mem_map,List.mem_range] at hv';obtain ⟨i,hi,rfl⟩ := hv'
  have hpos : 0 < z.cells.size:=by
   rcases Nat.eq_zero_or_pos z.cells.size with h|h
   ·rw [h] at hi;omega
   (exact h)
  have hlt:=Nat.mod_lt i hpos;rw [getElem!_pos z.cells _ hlt]
  exact h1 _ (Array.getElem_mem hlt))
 simp only [Nat.add_zero] at hst
 obtain ⟨m,rfl⟩ : ∃ m,n = m + 1:=⟨n - 1,by omega⟩
 simp [Builtin.clear_,run_underlying ht,hv,hst]
section
variable {P : Program} {ops : Array Oper} {o : Oper} {rest : List Oper} {a : Act} {w : World} {K : Act → World → Prop} {Q : Exit → Act → World → Prop} {E : Prop}
theorem step_append_run (hg : o.guard = none) (d x : Operand) (dT sT : TypeId) (hop : o.op = Op.call { callee := Callee.builtin Builtin.append, args := #[d, x], argTypes := #[dT, sT] })
  (v u : Value) (hd : a.eval d = v) (hx : a.eval x = u) {v' : Value} {w' : World} (hr : (Builtin.append_ #[dT,sT] o.type #[v,u]).run P w = .ok v' w') (hK : K (a.put o.dst v') w') :
  if Region.wanted o (yielded ops a.tmps) = true then Oper.wp P o a w K Q else E:=by
 have hw : Region.wanted o (yielded ops a.tmps) = true:=by simp [Region.wanted,hg]
 rw [if_pos hw]
 unfold Oper.wp
 simp [execOp,hop,resolve,invoke,builtin,hd,hx,hr,Result.andThen]
 exact hK
theorem step_copy_run (hg : o.guard = none) (d x : Operand) (dT sT : TypeId) (hop : o.op = Op.call { callee := Callee.builtin Builtin.copy, args := #[d, x], argTypes := #[dT, sT] })
  (v u : Value) (hd : a.eval d = v) (hx : a.eval x = u) {v' : Value} {w' : World} (hr : (Builtin.copy_ #[dT,sT] o.type #[v,u]).run P w = .ok v' w') (hK : K (a.put o.dst v') w') :
  if Region.wanted o (yielded ops a.tmps) = true then Oper.wp P o a w K Q else E:=by
 have hw : Region.wanted o (yielded ops a.tmps) = true:=by simp [Region.wanted,hg]
 rw [if_pos hw]
 unfold Oper.wp
 simp [execOp,hop,resolve,invoke,builtin,hd,hx,hr,Result.andThen]
 exact hK
theorem ev_append (hgd : o.guard = none) (d s : Operand) (t t' : TypeId)
  (ho : o.op = .call { callee:=.builtin .append,args:=#[d,s],argTypes:=#[t,t'] }) (v u : Value) (hd : a.eval d = v) (hs : a.eval s = u) {v' : Value} {w' : World}
  (hr : (Builtin.append_ #[t,t'] o.type #[v,u]).run P w = .ok v' w') (h : wpList P ops Q rest (a.put o.dst v') w') : wpList P ops Q (o :: rest) a w :=
 wpList_plain hgd fun _ hK=>by
  unfold Oper.wp execOp
  simp only [ho,resolve,invoke,builtin,Sem.run_bind,Sem.run_pure,Result.andThen_ok,List.map_toArray,List.map_cons,List.map_nil,hd,hs,hr];exact hK _ _ h
end
theorem zero39 : ∀ w : World,(zeroValue 39).run Try.prog w = .ok (.agg #[(.string ⟨#[]⟩),(.int .i64 0),(.int .i64 0),(.int .i64 0),(.int .i64 0),(.string ⟨#[]⟩),(.string ⟨#[]⟩)]) w:=fun _=>by kernel_rfl
end Go.Proofs.Ytbggjmdelnmilaa.PA
namespace Go.Proofs.Ytbggjmdelnmilaa.PA
open Go.RowKit Go.Shelf Go.Proofs.YtbggjmdelnmilaaW.PrintWords Go.Proofs.YtbggjmdelnmilaaW.PrintLast Go.Proofs.YtbggjmdelnmilaaW.PrintMore
theorem tk_app {α : Type} (a b : List α) (n : Nat) (h : a.length = n) : (a ++ b).take n = a:=by subst h;simp
set_option maxHeartbeats 4000000 in
set_option maxRecDepth 100000 in
theorem del68 (v : Value) (xs : List S39) (i : Nat) (w : World) (base : Nat) (ok : Nat → Prop) (HR : Kd.R k39 39 w base ok v xs) (hi : i < xs.length) :
  Calls Try.prog 68 #[v,.int .i64 i,.int .i64 ((i : Int) + 1)] w fun e w'=>∃ v' : Value,e = .returned v' ∧ Kd.R k39 39 w' base ok v' (xs.take i ++ xs.drop (i + 1)) ∧ Below base w w':=by
 rcases R39_open HR with ⟨rfl,rfl⟩|⟨g,cap,cur,inner,rfl,hok,hbg,hgc,hnc,hcm,hcs,ht,hr⟩
 ·simp at hi
 clear HR;have h1:=one39 hr;have hil : inner.length = xs.length * 7:=hr.1
 have hcm' : cap ≤ 9223372036854775807:=by unfold maxLen at hcm;omega
 obtain ⟨n,hn⟩ : ∃ n,xs.length = n + 1:=⟨xs.length - 1,by omega⟩
 have hcl : cur.toList.length = cap * 7:=by simpa using hcs
 -- the cells behind
 obtain ⟨news,hnews⟩ : ∃ news,news = inner.drop ((i + 1) * 7):=⟨_,rfl⟩
 have hnl : news.length = (n - i) * 7:=by rw [hnews,List.length_drop,hil,hn];omega
 obtain ⟨cur1,hcur1⟩ : ∃ c,c = (cur.toList.take (i * 7) ++ news ++ cur.toList.drop (i * 7 + news.length)).toArray:=⟨_,rfl⟩
 have hcs1 : cur1.size = cap * 7:=by
  rw [hcur1];simp only [List.size_toArray,List.length_append,List.length_take,List.length_drop,hcl,hnl];omega
 have htk : cur.toList.take (i * 7) = inner.take (i * 7):=by rw [← ht,List.take_take,Nat.min_eq_left (by omega)]
 have ht1 : cur1.toList.take (n * 7) = inner.take (i * 7) ++ news:=by
  rw [hcur1,List.toList_toArray,htk];exact tk_app _ _ _ (by rw [List.length_append,List.length_take,hil,hnl];omega)
 have hrep : Reps P39 7 (xs.take i ++ xs.drop (i + 1)) (inner.take (i * 7) ++ news):=by
  rw [hnews];exact Kd.reps_append (Kd.reps_take hr (by omega)) (Kd.reps_drop hr)
 have hxl : (xs.take i ++ xs.drop (i + 1)).length = n:=by simp;omega
 -- the source of the append
 obtain ⟨A,hA,hsrc⟩ : ∃ A : Addr,(if cap = i + 1 then some (⟨g,0,none⟩ : Addr) else some ⟨g,(i + 1) * 7,none⟩) = some A ∧ ∀ W : World,W.heap[g]? = w.heap[g]? → ∀ j u,news[j]? = some u → W.cell? (A.add j) = some u:=by
  by_cases h : cap = i + 1
  ·refine ⟨⟨g,0,none⟩,by rw [if_pos h],fun W _ j u hu=>?_⟩
   have h0 : news.length = 0:=by rw [hnl];omega
   rw [List.length_eq_zero_iff.1 h0] at hu
   simp at hu
  ·refine ⟨⟨g,(i + 1) * 7,none⟩,by rw [if_neg h],fun W hW j u hu=>?_⟩
   rw [Addr.add_lit];rw [hnews,List.getElem?_drop] at hu;exact row_cell (hW.trans hgc) _ _ (inner_cell ht hu)
 obtain ⟨i0,hi0,hinf⟩ := Option.map_eq_some_iff.1 info39
 have hz1 : i0.size = 7:=by simpa using congrArg (fun q=>q.2.1) hinf
 have happ : ∀ (W : World) (ty : TypeId) (m c : Nat),m = n - i → W.heap[g]? = w.heap[g]? → (Builtin.append_ #[22,22] ty #[.slice (some ⟨g,0,none⟩) i cap,.slice (some A) m c]).run Try.prog W = .ok (.slice (some ⟨g,0,none⟩) n cap) (W.setRow g cur1):=by
  intro W ty m c hm hW;have h:=run_append_room (P:=Try.prog) W 22 ty 39 i0 Try.underlying22 hi0 g i cap cur (hW.trans hgc) A m c news (by rw [hnl,hz1,hm]) (hsrc W hW) (fun u hu=>h1 u (List.mem_of_mem_drop (hnews ▸ hu))) (by omega) (by rw [hz1,hnl,hcs];omega);rw [hz1,← hcur1,show i + m = n by omega] at h;exact h
 have hg1 : ∀ W : World,W.heap[g]? = w.heap[g]? → (W.setRow g cur1).heap[g]? = some (.cells cur1 39 (0,0)):=fun W hW=>setRow_heap W g cur cur1 39 (0,0) (hW.trans hgc)
 have hclr : ∀ (W : World),W.heap[g]? = some (.cells cur1 39 (0,0)) → ∃ cur2 : Array Value,cur2.size = cap * 7 ∧ cur2.toList.take (n * 7) = inner.take (i * 7) ++ news ∧ ∀ (ty : TypeId) (c : Nat),(Builtin.clear_ #[22] ty #[.slice (some ⟨g,n * 7,none⟩) 1 c]).run Try.prog W = .ok (.tuple #[]) (W.setRow g cur2):=by
  intro W hW;obtain ⟨zs,hzl,hz⟩ := run_clear_row (P:=Try.prog) W 22 39 _ Try.underlying22 zero39 (by decide) g (n * 7) 1 (by omega) cur1 39 hW (by rw [hcs1];simp [Value.cells];omega)
  refine ⟨_, ?_, ?_,hz⟩
  ·have : zs.length = 7:=by rw [hzl];rfl
   simp only [List.size_toArray,List.length_append,List.length_take,List.length_drop,Array.length_toList,hcs1,this];omega
  (rw [List.toList_toArray,List.append_assoc];rw [tk_app _ _ _ (by rw [List.length_take,Array.length_toList,hcs1];omega),ht1])
 have HA:=aside happ;have HG:=aside hg1;have HC:=aside hclr;have HREP:=aside hrep;have HXL:=aside hxl
 have hi' : (i : Int) < (n : Int) + 1:=by omega
 have e1 : ((i : Int) + 1).toNat = i + 1:=by omega
 have e2 : ¬ (cap = n):=by omega
 have e3 : IntKind.i64.wrap ((i : Int) + 1) = (i : Int) + 1:=by rw [IntKind.wrap_i64];omega
 have e4 : (i : Int) + 1 ≤ (n : Int) + 1:=by omega
 have e5 : (n : Int) + 1 ≤ (cap : Int):=by omega
 have e6 : ¬ ((i : Int) = (i : Int) + 1):=by omega
 have e7 : i ≤ cap:=by omega
 have e8 : i + 1 ≤ cap:=by omega
 have e9 : (0 : Int) ≤ (i : Int) + 1:=by omega
 have mixed : Try.prog.follows .mixedOrders = true:=by kernel_rfl
 rw [hn];clear happ hg1 hclr hsrc hnews htk ht1 hrep hxl hcur1 hcs1 h1 hr hil ht hinf hz1 hi0 hnl
 go_enter Try.func68,Try.ntmps68
 go_wp2
 go_region_law_o (refine step_append_run rfl (.tmp 22) (.tmp 25) 22 22 rfl (.slice (some ⟨g,0,none⟩) i cap) (.slice (some A) (n - i) (cap - (i + 1))) (by simp [Act.eval,Act.put]) (by simp [Act.eval,Act.put,hA]) (HA.out _ _ _ _ rfl rfl) ?_)
 have hW:=HG.out w.drew rfl;have hB:=aside (below_row (below_drew1 (Below.refl base w)) hbg cur1);generalize w.drew.setRow g cur1 = W1 at hW hB ⊢;obtain ⟨cur2,hs2,ht2,hz2⟩ := HC.out W1 hW;have HZ:=aside hz2;have HF:=aside (show (W1.setRow g cur2).heap[g]? = some (.cells cur2 39 (0,0)) from setRow_heap W1 g cur1 cur2 39 (0,0) hW);have HS:=aside hs2;have HT:=aside ht2;have HB:=aside (below_row hB.out hbg cur2)
 have e10 : n + 1 - n = 1:=by omega
 have e11 : (n : Int) ≤ (n : Int) + 1:=by omega
 clear hz2 hW hB HC HA HG hs2 ht2 hA
 go_wp2
 rw [HZ.out]
 go_wp2
 go_ret
 refine ⟨_,rfl, ?_,HB.out⟩
 have h:=R39_mk (base:=base) (ok:=ok) _ HREP.out hok hbg HF.out (by rw [HXL.out];omega) hcm HS.out (by rw [HXL.out];exact HT.out);rw [HXL.out] at h;exact h
end Go.Proofs.Ytbggjmdelnmilaa.PA
