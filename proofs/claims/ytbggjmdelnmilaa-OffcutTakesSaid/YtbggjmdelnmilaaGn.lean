import Derived.Test.YtbggjmdelnmilaaGm
namespace Go.Proofs.Ytbggjmdelnmilaa.PA
open Go.RowKit Go.Shelf Go.Proofs.YtbggjmdelnmilaaW.PrintWords Go.Proofs.YtbggjmdelnmilaaW.PrintLast Go.Proofs.YtbggjmdelnmilaaW.PrintMore
theorem tk_app {α : Type} (a b : List α) (n : Nat) (h : a.length = n) : (a ++ b).take n = a:=by subst h;simp
set_option maxHeartbeats 4000000 in
set_option maxRecDepth 100000 in
theorem del68 (v : Value) (xs : List S39) (i : Nat) (w : World) (base : Nat) (ok : Nat → Prop) (HR : Kd.R k39 39 w base ok v xs) (hi : i < xs.length) :
  Calls Try.prog 68 #[v,.int .i64 i,.int .i64 ((i : Int) + 1)] w fun e w'=>∃ v' : Value,e = .returned v' ∧ Kd.R k39 39 w' base ok v' (xs.take i ++ xs.drop (i + 1)) ∧ Below base w w':=by
 rcases R39_open HR with ⟨rfl,rfl⟩|⟨g,cap,cur,inner,rfl,hok,hbg,hgc,hnc,hcm,hcs,ht,hr⟩
 ·simp at hi
 clear HR;have h1:=one39 hr;have hil : inner.length = xs.length * 7:=hr.1
 have hcm' : cap ≤ 9223372036854775807:=by unfold maxLen at hcm;omega
 obtain ⟨n,hn⟩ : ∃ n,xs.length = n + 1:=⟨xs.length - 1,by omega⟩
 have hcl : cur.toList.length = cap * 7:=by simpa using hcs
 -- the cells behind
 obtain ⟨news,hnews⟩ : ∃ news,news = inner.drop ((i + 1) * 7):=⟨_,rfl⟩
 have hnl : news.length = (n - i) * 7:=by rw [hnews,List.length_drop,hil,hn];omega
 obtain ⟨cur1,hcur1⟩ : ∃ c,c = (cur.toList.take (i * 7) ++ news ++ cur.toList.drop (i * 7 + news.length)).toArray:=⟨_,rfl⟩
 have hcs1 : cur1.size = cap * 7:=by
  rw [hcur1];simp only [List.size_toArray,List.length_append,List.length_take,List.length_drop,hcl,hnl];omega
 have htk : cur.toList.take (i * 7) = inner.take (i * 7):=by rw [← ht,List.take_take,Nat.min_eq_left (by omega)]
 have ht1 : cur1.toList.take (n * 7) = inner.take (i * 7) ++ news:=by
  rw [hcur1,List.toList_toArray,htk];exact tk_app _ _ _ (by rw [List.length_append,List.length_take,hil,hnl];omega)
 have hrep : Reps P39 7 (xs.take i ++ xs.drop (i + 1)) (inner.take (i * 7) ++ news):=by
  rw [hnews];exact Kd.reps_append (Kd.reps_take hr (by omega)) (Kd.reps_drop hr)
 have hxl : (xs.take i ++ xs.drop (i + 1)).length = n:=by simp;omega
 -- the source of the append
 obtain ⟨A,hA,hsrc⟩ : ∃ A : Addr,(if cap = i + 1 then some (⟨g,0,none⟩ : Addr) else some ⟨g,(i + 1) * 7,none⟩) = some A ∧ ∀ W : World,W.heap[g]? = w.heap[g]? → ∀ j u,news[j]? = some u → W.cell? (A.add j) = some u:=by
  by_cases h : cap = i + 1
  ·refine ⟨⟨g,0,none⟩,by rw [if_pos h],fun W _ j u hu=>?_⟩
   have h0 : news.length = 0:=by rw [hnl];omega
   rw [List.length_eq_zero_iff.1 h0] at hu
   simp at hu
  ·refine ⟨⟨g,(i + 1) * 7,none⟩,by rw [if_neg h],fun W hW j u hu=>?_⟩
   rw [Addr.add_lit];rw [hnews,List.getElem?_drop] at hu;exact row_cell (hW.trans hgc) _ _ (inner_cell ht hu)
 obtain ⟨i0,hi0,hinf⟩ := Option.map_eq_some_iff.1 info39
 have hz1 : i0.size = 7:=by simpa using congrArg (fun q=>q.2.1) hinf
 have happ : ∀ (W : World) (ty : TypeId) (m c : Nat),m = n - i → W.heap[g]? = w.heap[g]? → (Builtin.append_ #[22,22] ty #[.slice (some ⟨g,0,none⟩) i cap,.slice (some A) m c]).run Try.prog W = .ok (.slice (some ⟨g,0,none⟩) n cap) (W.setRow g cur1):=by
  intro W ty m c hm hW;have h:=run_append_room (P:=Try.prog) W 22 ty 39 i0 Try.underlying22 hi0 g i cap cur (hW.trans hgc) A m c news (by rw [hnl,hz1,hm]) (hsrc W hW) (fun u hu=>h1 u (List.mem_of_mem_drop (hnews ▸ hu))) (by omega) (by rw [hz1,hnl,hcs];omega);rw [hz1,← hcur1,show i + m = n by omega] at h;exact h
 have hg1 : ∀ W : World,W.heap[g]? = w.heap[g]? → (W.setRow g cur1).heap[g]? = some (.cells cur1 39 (0,0)):=fun W hW=>setRow_heap W g cur cur1 39 (0,0) (hW.trans hgc)
 have hclr : ∀ (W : World),W.heap[g]? = some (.cells cur1 39 (0,0)) → ∃ cur2 : Array Value,cur2.size = cap * 7 ∧ cur2.toList.take (n * 7) = inner.take (i * 7) ++ news ∧ ∀ (ty : TypeId) (c : Nat),(Builtin.clear_ #[22] ty #[.slice (some ⟨g,n * 7,none⟩) 1 c]).run Try.prog W = .ok (.tuple #[]) (W.setRow g cur2):=by
  intro W hW;obtain ⟨zs,hzl,hz⟩ := run_clear_row (P:=Try.prog) W 22 39 _ Try.underlying22 zero39 (by decide) g (n * 7) 1 (by omega) cur1 39 hW (by rw [hcs1];simp [Value.cells];omega)
  refine ⟨_, ?_, ?_,hz⟩
  ·have : zs.length = 7:=by rw [hzl];rfl
   simp only [List.size_toArray,List.length_append,List.length_take,List.length_drop,Array.length_toList,hcs1,this];omega
  (rw [List.toList_toArray,List.append_assoc];rw [tk_app _ _ _ (by rw [List.length_take,Array.length_toList,hcs1];omega),ht1])
 have HA:=aside happ;have HG:=aside hg1;have HC:=aside hclr;have HREP:=aside hrep;have HXL:=aside hxl
 have hi' : (i : Int) < (n : Int) + 1:=by omega
 have e1 : ((i : Int) + 1).toNat = i + 1:=by omega
 have e2 : ¬ (cap = n):=by omega
 have e3 : IntKind.i64.wrap ((i : Int) + 1) = (i : Int) + 1:=by rw [IntKind.wrap_i64];omega
 have e4 : (i : Int) + 1 ≤ (n : Int) + 1:=by omega
 have e5 : (n : Int) + 1 ≤ (cap : Int):=by omega
 have e6 : ¬ ((i : Int) = (i : Int) + 1):=by omega
 have e7 : i ≤ cap:=by omega
 have e8 : i + 1 ≤ cap:=by omega
 have e9 : (0 : Int) ≤ (i : Int) + 1:=by omega
 have mixed : Try.prog.follows .mixedOrders = true:=by kernel_rfl
 rw [hn];clear happ hg1 hclr hsrc hnews htk ht1 hrep hxl hcur1 hcs1 h1 hr hil ht hinf hz1 hi0 hnl
 go_enter Try.func68,Try.ntmps68
 go_wp2
 go_region_law_o (refine step_append_run rfl (.tmp 22) (.tmp 25) 22 22 rfl (.slice (some ⟨g,0,none⟩) i cap) (.slice (some A) (n - i) (cap - (i + 1))) (by simp [Act.eval,Act.put]) (by simp [Act.eval,Act.put,hA]) (HA.out _ _ _ _ rfl rfl) ?_)
 have hW:=HG.out w.drew rfl;have hB:=aside (below_row (below_drew1 (Below.refl base w)) hbg cur1);generalize w.drew.setRow g cur1 = W1 at hW hB ⊢;obtain ⟨cur2,hs2,ht2,hz2⟩ := HC.out W1 hW;have HZ:=aside hz2;have HF:=aside (show (W1.setRow g cur2).heap[g]? = some (.cells cur2 39 (0,0)) from setRow_heap W1 g cur1 cur2 39 (0,0) hW);have HS:=aside hs2;have HT:=aside ht2;have HB:=aside (below_row hB.out hbg cur2)
 have e10 : n + 1 - n = 1:=by omega
 have e11 : (n : Int) ≤ (n : Int) + 1:=by omega
 clear hz2 hW hB HC HA HG hs2 ht2 hA
 go_wp2
 rw [HZ.out]
 go_wp2
 go_ret
 refine ⟨_,rfl, ?_,HB.out⟩
 have h:=R39_mk (base:=base) (ok:=ok) _ HREP.out hok hbg HF.out (by rw [HXL.out];omega) hcm HS.out (by rw [HXL.out];exact HT.out);rw [HXL.out] at h;exact h
end Go.Proofs.Ytbggjmdelnmilaa.PA
