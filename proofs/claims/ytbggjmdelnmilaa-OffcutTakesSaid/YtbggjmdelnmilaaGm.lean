import Derived.Test.YtbggjmdelnmilaaGd
import Derived.Lib.AppendZerosOnto
import Derived.Lib.Overlaps
import Derived.Shelf.RegionOpenPlain
import Derived.Deep.RegionLaw
import Derived.Deep.RegionWith
import Derived.Laws.Cover1
import Derived.Lib.SliceRun
import Derived.StillTailTactics
namespace Go.Proofs.Ytbggjmdelnmilaa.PA
open Go.RowKit Go.Shelf Go.Proofs.YtbggjmdelnmilaaW.PrintWords Go.Proofs.YtbggjmdelnmilaaW.PrintLast Go.Proofs.YtbggjmdelnmilaaW.PrintMore
def c39 (x : S39) : List Value:=[.string x.f0,.int .i64 x.f1.f0,.int .i64 x.f1.f1,.int .i64 x.f1.f2,.int .i64 x.f2,.string x.f3,.string x.f4]
abbrev P39 : S39 → List Value → Prop:=fun x cs=>cs = c39 x
theorem R39_open {w : World} {base : Nat} {ok : Nat → Prop} {v : Value} {xs : List S39} (h : Kd.R k39 39 w base ok v xs) :
  (v = .slice none 0 0 ∧ xs = []) ∨ ∃ g cap cur inner,v = .slice (some ⟨g,0,none⟩) xs.length cap ∧ ok g ∧ base ≤ g ∧ w.heap[g]? = some (.cells cur 39 (0,0)) ∧ xs.length ≤ cap ∧ cap ≤ maxLen ∧ cur.size = cap * 7 ∧ cur.toList.take (xs.length * 7) = inner ∧ Reps P39 7 xs inner:=by
 obtain ⟨h0,inner,ho,hr⟩ := h
 rcases ho.2 with ⟨rfl,hn⟩|⟨g,cap,cur,rfl,hb,hg,hnc,hcm,hcs,ht⟩
 (exact .inl ⟨rfl,List.eq_nil_of_length_eq_zero hn⟩);(exact .inr ⟨g,cap,cur,inner,rfl,h0 g rfl,hb,hg,hnc,hcm,hcs,ht,hr.imp_ (fun x c hx=>k39_openM hx)⟩)
theorem R39_mk {w : World} {base : Nat} {ok : Nat → Prop} {xs : List S39} {g cap : Nat} {cur : Array Value} (inner : List Value) (hr : Reps P39 7 xs inner) (hok : ok g) (hb : base ≤ g) (hg : w.heap[g]? = some (.cells cur 39 (0, 0))) (hnc : xs.length ≤ cap) (hcm : cap ≤ maxLen) (hcs : cur.size = cap * 7) (ht : cur.toList.take (xs.length * 7) = inner) :
  Kd.R k39 39 w base ok (.slice (some ⟨g,0,none⟩) xs.length cap) xs :=
 ⟨fun k hk=>by injection hk with hk;exact hk ▸ hok,inner,⟨hr.1,.inr ⟨g,cap,cur,rfl,hb,hg,hnc,hcm,hcs,ht⟩⟩,hr.imp_ (fun x c hx=>hx ▸ k39_mkM _ _ _ x)⟩
theorem one39 {xs : List S39} {inner : List Value} (h : Reps P39 7 xs inner) : ∀ u ∈ inner,u.oneCell' = true :=
 Kd.reps_one h (by decide) (fun p c hc u hu=>by
  have hc' : c = c39 p:=hc;subst hc';simp only [c39,List.mem_cons,List.not_mem_nil,or_false] at hu
  rcases hu with rfl|rfl|rfl|rfl|rfl|rfl|rfl <;> rfl)
theorem below_row {B : Nat} {a w : World} (h : Below B a w) {g : Nat} (hg : B ≤ g) (cs : Array Value) : Below B a (w.setRow g cs) :=
 h.trans ⟨rfl,rfl,rfl,by simp,fun k hk=>setRow_other w g k _ (by omega)⟩
theorem row_cell {w : World} {g : Nat} {cur : Array Value} {t : TypeId} (hg : w.heap[g]? = some (.cells cur t (0,0))) (k : Nat) (u : Value) (h : cur.toList[k]? = some u) : w.cell? ⟨g,k,none⟩ = some u:=cellB hg k u (by simpa using h)
theorem inner_cell {cur : Array Value} {m : Nat} {inner : List Value} (ht : cur.toList.take m = inner) {j : Nat} {u : Value} (h : inner[j]? = some u) : cur.toList[j]? = some u:=by
 rw [← ht,List.getElem?_take] at h
 split at h
 (exact h)
 ·cases h
theorem run_copy_row {P : Program} (w : World) (dT sT ty elem : TypeId) (size : Nat) (b o dLen dCap : Nat) (a : Addr) (sLen sCap : Nat) (cs : List Value) (cur : Array Value) (t : TypeId)
  (hu : P.underlying dT = some (.slice elem)) (hs : (P.info? elem).map (·.size) = some size) (hn : cs.length = Nat.min sLen dLen * size)
  (hg : w.heap[b]? = some (.cells cur t (0,0))) (hfit : o + cs.length ≤ cur.size)
  (hsrc : ∀ j v,cs[j]? = some v → w.cell? (a.add j) = some v) (h1 : ∀ v ∈ cs,v.oneCell' = true) :
  (Builtin.copy_ #[dT,sT] ty #[.slice (some ⟨b,o,none⟩) dLen dCap,.slice (some a) sLen sCap]).run P w = .ok (goInt (Nat.min sLen dLen)) (w.setRow b (cur.toList.take o ++ cs ++ cur.toList.drop (o + cs.length)).toArray):=by
 have hl:=run_loadCells_list (P:=P) w a cs hsrc;have hst:=run_storeCells_at P b o t cs 0 cur w hg (by simpa using hfit) h1;simp only [Nat.add_zero] at hst
 cases hq : P.info? elem with
 | none=>simp [hq] at hs
 | some i =>
  have hi : i.size = size:=by simpa [hq] using hs
  simp [Builtin.copy_,run_underlying hu,Builtin.lenOf,Builtin.firstCells,sizeOf,typeInfo,hq,hi,← hn,hl,hst]
theorem run_clear_row {P : Program} (w : World) (t e : TypeId) (z : Value) (ht : P.underlying t = some (.slice e)) (hv : ∀ w, (zeroValue e).run P w = .ok z w) (h1 : ∀ v ∈ z.cells, v.oneCell' = true) (b o n : Nat) (hn : 0 < n) (cur : Array Value) (q : TypeId)
  (hg : w.heap[b]? = some (.cells cur q (0,0))) (hfit : o + n * z.cells.size ≤ cur.size) :
  ∃ zs : List Value,zs.length = n * z.cells.size ∧ ∀ (ty : TypeId) (c : Nat),(Builtin.clear_ #[t] ty #[.slice (some ⟨b,o,none⟩) n c]).run P w = .ok (.tuple #[]) (w.setRow b (cur.toList.take o ++ zs ++ cur.toList.drop (o + zs.length)).toArray):=by
 have hl : (Builtin.zeroCells z.cells n).toList.length = n * z.cells.size:=by simp [Builtin.zeroCells]
 refine ⟨_,hl,fun ty c=>?_⟩
 have hst:=run_storeCells_at P b o q (Builtin.zeroCells z.cells n).toList 0 cur w hg (by rw [hl];simpa using hfit) (by
  intro v hv';simp only [Builtin.zeroCells,Array.toList_map,Array.toList_range,List.mem_map,List.mem_range] at hv';obtain ⟨i,hi,rfl⟩ := hv'
  have hpos : 0 < z.cells.size:=by
   rcases Nat.eq_zero_or_pos z.cells.size with h|h
   ·rw [h] at hi;omega
   (exact h)
  have hlt:=Nat.mod_lt i hpos;rw [getElem!_pos z.cells _ hlt]
  exact h1 _ (Array.getElem_mem hlt))
 simp only [Nat.add_zero] at hst
 obtain ⟨m,rfl⟩ : ∃ m,n = m + 1:=⟨n - 1,by omega⟩
 simp [Builtin.clear_,run_underlying ht,hv,hst]
section
variable {P : Program} {ops : Array Oper} {o : Oper} {rest : List Oper} {a : Act} {w : World} {K : Act → World → Prop} {Q : Exit → Act → World → Prop} {E : Prop}
theorem step_append_run (hg : o.guard = none) (d x : Operand) (dT sT : TypeId) (hop : o.op = Op.call { callee := Callee.builtin Builtin.append, args := #[d, x], argTypes := #[dT, sT] })
  (v u : Value) (hd : a.eval d = v) (hx : a.eval x = u) {v' : Value} {w' : World} (hr : (Builtin.append_ #[dT,sT] o.type #[v,u]).run P w = .ok v' w') (hK : K (a.put o.dst v') w') :
  if Region.wanted o (yielded ops a.tmps) = true then Oper.wp P o a w K Q else E:=by
 have hw : Region.wanted o (yielded ops a.tmps) = true:=by simp [Region.wanted,hg]
 rw [if_pos hw]
 unfold Oper.wp
 simp [execOp,hop,resolve,invoke,builtin,hd,hx,hr,Result.andThen]
 exact hK
theorem step_copy_run (hg : o.guard = none) (d x : Operand) (dT sT : TypeId) (hop : o.op = Op.call { callee := Callee.builtin Builtin.copy, args := #[d, x], argTypes := #[dT, sT] })
  (v u : Value) (hd : a.eval d = v) (hx : a.eval x = u) {v' : Value} {w' : World} (hr : (Builtin.copy_ #[dT,sT] o.type #[v,u]).run P w = .ok v' w') (hK : K (a.put o.dst v') w') :
  if Region.wanted o (yielded ops a.tmps) = true then Oper.wp P o a w K Q else E:=by
 have hw : Region.wanted o (yielded ops a.tmps) = true:=by simp [Region.wanted,hg]
 rw [if_pos hw]
 unfold Oper.wp
 simp [execOp,hop,resolve,invoke,builtin,hd,hx,hr,Result.andThen]
 exact hK
theorem ev_append (hgd : o.guard = none) (d s : Operand) (t t' : TypeId)
  (ho : o.op = .call { callee:=.builtin .append,args:=#[d,s],argTypes:=#[t,t'] }) (v u : Value) (hd : a.eval d = v) (hs : a.eval s = u) {v' : Value} {w' : World}
  (hr : (Builtin.append_ #[t,t'] o.type #[v,u]).run P w = .ok v' w') (h : wpList P ops Q rest (a.put o.dst v') w') : wpList P ops Q (o :: rest) a w :=
 wpList_plain hgd fun _ hK=>by
  unfold Oper.wp execOp
  simp only [ho,resolve,invoke,builtin,Sem.run_bind,Sem.run_pure,Result.andThen_ok,List.map_toArray,List.map_cons,List.map_nil,hd,hs,hr];exact hK _ _ h
end
theorem zero39 : ∀ w : World,(zeroValue 39).run Try.prog w = .ok (.agg #[(.string ⟨#[]⟩),(.int .i64 0),(.int .i64 0),(.int .i64 0),(.int .i64 0),(.string ⟨#[]⟩),(.string ⟨#[]⟩)]) w:=fun _=>by kernel_rfl
end Go.Proofs.Ytbggjmdelnmilaa.PA
