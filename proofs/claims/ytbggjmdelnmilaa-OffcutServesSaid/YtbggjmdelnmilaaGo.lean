import Derived.Test.YtbggjmdelnmilaaGm
set_option linter.unusedSimpArgs false
set_option linter.unusedVariables false
namespace Go.Proofs.Ytbggjmdelnmilaa.PA
open Go.RowKit Go.Shelf Go.Proofs.YtbggjmdelnmilaaW.PrintWords Go.Proofs.YtbggjmdelnmilaaW.PrintLast Go.Proofs.YtbggjmdelnmilaaW.PrintMore
theorem size39 : ∀ w : World,(Go.sizeOf 39).run Try.prog w = .ok 7 w:=fun _=>by kernel_rfl
theorem apart85 (w : World) (gv g o lb cb : Nat) (cv cg : Array Value) (hne : gv ≠ g) (hv : w.heap[gv]? = some (.cells cv 39 (0, 0))) (hg : w.heap[g]? = some (.cells cg 39 (0, 0))) (h0 : cg.size ≠ 0) :
  (callFunc 85 #[.slice (some ⟨gv,0,none⟩) 1 1,.slice (some ⟨g,o,none⟩) lb cb]).run Try.prog w = .ok (.value (.bool false)) w:=by
 rw [run_callFunc_extern Try.func85 (by kernel_rfl) (by kernel_rfl) (by kernel_rfl) (e:=Extern.SlicesOverlaps.overlaps #[22,22] #[4]) (by kernel_rfl),
  Lib.run_overlaps_apart w 22 4 39 Try.underlying22 7 size39 ⟨gv,0,none⟩ ⟨g,o,none⟩ 1 1 lb cb hne 39 39 cv.size cg.size (by simp [World.shape?,hv]) (by simp [World.shape?,hg]) h0 (blk_frozen hv 0) (blk_frozen hv _)]
 rfl
theorem below_alloc' (w : World) (base : Nat) (h : base ≤ w.heap.size) (c : Array Value) : Below base w (w.drew.alloc (.cells c 39)):=(below_drew1 (Below.refl base w)).alloc h _
set_option maxHeartbeats 4000000 in
set_option maxRecDepth 100000 in
theorem ins72_room (g cap n i gv : Nat) (y : S39) (xs : List S39) (cur : Array Value) (inner : List Value) (w : World) (base : Nat) (ok : Nat → Prop) (hok : ok g) (hbg : base ≤ g) (hgc : w.heap[g]? = some (.cells cur 39 (0, 0))) (hn : xs.length = n) (hcm : cap ≤ maxLen) (hcs : cur.size = cap * 7) (ht : cur.toList.take (n * 7) = inner) (hr : Reps P39 7 xs inner)
  (hy : w.heap[gv]? = some (.cells (c39 y).toArray 39 (0,0))) (hne : gv ≠ g) (hi : i < n) (hroom : n + 1 ≤ cap) :
  Calls Try.prog 72 #[.slice (some ⟨g,0,none⟩) n cap,.int .i64 i,.slice (some ⟨gv,0,none⟩) 1 1] w fun e w'=>∃ v' : Value,e = .returned v' ∧ Kd.R k39 39 w' base ok v' (xs.take i ++ [y] ++ xs.drop i) ∧ Below base w w':=by
 have h1:=one39 hr
 have hil : inner.length = n * 7:=by rw [hr.1,hn]
 have hcm' : cap ≤ 9223372036854775807:=by unfold maxLen at hcm;omega
 have hcl : cur.toList.length = cap * 7:=by simpa using hcs
 have hyl : (c39 y).length = 7:=rfl
 obtain ⟨cur1,hcur1⟩ : ∃ c,c = (cur.toList.take ((i + 1) * 7) ++ inner.drop (i * 7) ++ cur.toList.drop ((i + 1) * 7 + (inner.drop (i * 7)).length)).toArray:=⟨_,rfl⟩
 have hdl : (inner.drop (i * 7)).length = (n - i) * 7:=by rw [List.length_drop,hil];omega
 have hcs1 : cur1.size = cap * 7:=by
  rw [hcur1];simp only [List.size_toArray,List.length_append,List.length_take,List.length_drop,hcl,hil];omega
 obtain ⟨cur2,hcur2⟩ : ∃ c,c = (cur1.toList.take (i * 7) ++ c39 y ++ cur1.toList.drop (i * 7 + (c39 y).length)).toArray:=⟨_,rfl⟩
 have hcl1 : cur1.toList.length = cap * 7:=by simpa using hcs1
 have hcs2 : cur2.size = cap * 7:=by
  rw [hcur2];simp only [List.size_toArray,List.length_append,List.length_take,List.length_drop,hcl1,hyl];omega
 have ht2 : cur2.toList.take ((n + 1) * 7) = inner.take (i * 7) ++ c39 y ++ inner.drop (i * 7):=by
  have e1 : cur1.toList.take (i * 7) = inner.take (i * 7):=by
   rw [hcur1,List.toList_toArray,List.append_assoc,List.take_append_of_le_length (by rw [List.length_take,hcl];omega),List.take_take,Nat.min_eq_left (by omega),← ht,List.take_take,Nat.min_eq_left (by omega)]
  have e2 : (cur1.toList.drop (i * 7 + 7)).take ((n - i) * 7) = inner.drop (i * 7):=by
   rw [hcur1,List.toList_toArray,List.append_assoc,show i * 7 + 7 = (i + 1) * 7 by omega,List.drop_left' (by rw [List.length_take,hcl];omega),tk_app _ _ _ hdl]
  rw [hcur2,List.toList_toArray,e1,hyl,List.take_append,List.take_of_length_le (by rw [List.length_append,List.length_take,hil,hyl];omega),List.length_append,List.length_take,hil,hyl,
   show (n + 1) * 7 - (min (i * 7) (n * 7) + 7) = (n - i) * 7 by omega,e2]
 have hrep : Reps P39 7 (xs.take i ++ [y] ++ xs.drop i) (inner.take (i * 7) ++ c39 y ++ inner.drop (i * 7)) :=
  Kd.reps_append (Kd.reps_append (Kd.reps_take hr (by omega)) (Reps.snoc (Reps.none _ _) rfl rfl)) (Kd.reps_drop hr)
 have hxl : (xs.take i ++ [y] ++ xs.drop i).length = n + 1:=by simp;omega
 have HOV:=aside (fun (lb cb : Nat)=>apart85 w gv g ((i + 1) * 7) lb cb _ _ hne hy hgc (by omega))
 have hsz : (Try.prog.info? 39).map (·.size) = some 7:=by kernel_rfl
 have hm1 : Nat.min (n + 1 - i) (n - i) = n - i:=Nat.min_eq_right (by omega);have hm2 : Nat.min 1 (n + 1 - i) = 1:=Nat.min_eq_left (by omega)
 have hc1 : ∀ (W : World) (ty : TypeId) (dc sc : Nat),W.heap[g]? = w.heap[g]? → (Builtin.copy_ #[22,22] ty #[.slice (some ⟨g,(i + 1) * 7,none⟩) (n - i) dc,.slice (some ⟨g,i * 7,none⟩) (n + 1 - i) sc]).run Try.prog W = .ok (goInt ((n - i : Nat) : Int)) (W.setRow g cur1):=by
  intro W ty dc sc hW
  have h:=run_copy_row (P:=Try.prog) W 22 22 ty 39 7 g ((i + 1) * 7) (n - i) dc ⟨g,i * 7,none⟩ (n + 1 - i) sc (inner.drop (i * 7)) cur 39 Try.underlying22 hsz (by rw [hdl,hm1]) (hW.trans hgc) (by rw [hdl,hcs];omega)
   (fun j u hj=>by rw [Addr.add_lit];rw [List.getElem?_drop] at hj;exact row_cell (hW.trans hgc) _ _ (inner_cell ht hj)) (fun u hu=>h1 u (List.mem_of_mem_drop hu))
  rw [← hcur1,hm1] at h;exact h
 have hc2 : ∀ (W : World) (ty : TypeId) (dc : Nat),W.heap[g]? = some (.cells cur1 39 (0,0)) → W.heap[gv]? = w.heap[gv]? → (Builtin.copy_ #[22,22] ty #[.slice (some ⟨g,i * 7,none⟩) (n + 1 - i) dc,.slice (some ⟨gv,0,none⟩) 1 1]).run Try.prog W = .ok (goInt ((1 : Nat) : Int)) (W.setRow g cur2):=by
  intro W ty dc hW hV
  have h:=run_copy_row (P:=Try.prog) W 22 22 ty 39 7 g (i * 7) (n + 1 - i) dc ⟨gv,0,none⟩ 1 1 (c39 y) cur1 39 Try.underlying22 hsz (by rw [hm2];rfl) hW (by rw [hyl,hcs1];omega)
   (fun j u hj=>by rw [Addr.add_lit,Nat.zero_add];exact cellB (hV.trans hy) j u (by simpa using hj)) (fun u hu=>by
    simp only [c39,List.mem_cons,List.not_mem_nil,or_false] at hu
    rcases hu with rfl|rfl|rfl|rfl|rfl|rfl|rfl <;> rfl)
  rw [← hcur2,hm2] at h;exact h
 have HC1:=aside hc1;have HC2:=aside hc2;have HREP:=aside hrep;have HXL:=aside hxl;have HT2:=aside ht2;have HS2:=aside hcs2;have HG:=aside hgc;have HY:=aside hy
 have e1 : ((i : Int) + 1).toNat = i + 1:=by omega
 have e2 : ¬ (cap = i + 1):=by omega
 have e3 : IntKind.i64.wrap ((i : Int) + 1) = (i : Int) + 1:=by rw [IntKind.wrap_i64];omega
 have e4 : (i : Int) + 1 ≤ (n : Int) + 1:=by omega
 have e5 : IntKind.i64.wrap ((n : Int) + 1) = (n : Int) + 1:=by rw [IntKind.wrap_i64];omega
 have e6 : ¬ ((i : Int) = (n : Int)):=by omega
 have e7 : i ≤ n:=by omega
 have e8 : ¬ (cap = i):=by omega
 have e9 : (0 : Int) ≤ (i : Int) + 1:=by omega
 have e10 : ¬ ((cap : Int) < (n : Int) + 1):=by omega
 have e11 : (i : Int) ≤ (n : Int):=by omega
 have e12 : (n : Int) + 1 ≤ (cap : Int):=by omega
 have e13 : ((n : Int) + 1).toNat = n + 1:=by omega
 have e14 : (i : Int) ≤ (n : Int) + 1:=by omega
 have e15 : n + 1 - (i + 1) = n - i:=by omega
 have e16 : (0 : Int) ≤ (n : Int) + 1:=by omega
 have mixed : Try.prog.follows .mixedOrders = true:=by kernel_rfl
 clear hc1 hc2 hrep hxl ht2 hcs2 hgc hy hcur1 hcur2 hcs hcs1 hcl hcl1 h1 hr hil ht hdl hyl
 go_enter Try.func72,Try.ntmps72
 go_wp2_with (rw [HOV.out])
 go_region_law_o (refine step_copy_run rfl (.tmp 73) (.tmp 76) 22 22 rfl (.slice (some ⟨g,(i + 1) * 7,none⟩) (n - i) (cap - (i + 1))) (.slice (some ⟨g,i * 7,none⟩) (n + 1 - i) (cap - i)) (by simp [Act.eval,Act.put]) (by simp [Act.eval,Act.put]) (HC1.out _ _ _ _ rfl) ?_)
 have hB:=aside (below_row (below_drew1 (Below.refl base w)) hbg cur1);have hW:=aside (setRow_heap w.drew g cur cur1 39 (0,0) HG.out);have hV:=aside (show (w.drew.setRow g cur1).heap[gv]? = w.heap[gv]? from setRow_other w.drew g gv cur1 hne);generalize w.drew.setRow g cur1 = W1 at hW hV hB ⊢;have HC:=aside (fun ty dc=>HC2.out W1 ty dc hW.out hV.out);have HB:=aside (below_row hB.out hbg cur2);have HF:=aside (setRow_heap W1 g cur1 cur2 39 (0,0) hW.out);clear HC1 HC2 hW hV hB HOV
 go_wp2
 rw [HC.out]
 go_wp2
 go_ret
 refine ⟨_,rfl, ?_,HB.out⟩
 have h:=R39_mk (base:=base) (ok:=ok) _ HREP.out hok hbg HF.out (by rw [HXL.out];omega) hcm HS2.out (by rw [HXL.out];exact HT2.out);rw [HXL.out] at h;exact h
set_option maxHeartbeats 4000000 in
set_option maxRecDepth 100000 in
theorem ins72_grow (g cap n i gv : Nat) (y : S39) (xs : List S39) (cur : Array Value) (inner : List Value) (w : World) (base : Nat) (ok : Nat → Prop) (hok : ok w.heap.size) (hbw : base ≤ w.heap.size) (hgc : w.heap[g]? = some (.cells cur 39 (0, 0))) (hn : xs.length = n) (hcm : cap ≤ maxLen) (hcs : cur.size = cap * 7) (ht : cur.toList.take (n * 7) = inner) (hr : Reps P39 7 xs inner)
  (hy : w.heap[gv]? = some (.cells (c39 y).toArray 39 (0,0))) (hi : i < n) (hnc : n ≤ cap) (hroom : cap < n + 1) (hbig : (n + 1) * 80 ≤ 140737488355328) :
  Calls Try.prog 72 #[.slice (some ⟨g,0,none⟩) n cap,.int .i64 i,.slice (some ⟨gv,0,none⟩) 1 1] w fun e w'=>∃ v' : Value,e = .returned v' ∧ Kd.R k39 39 w' base ok v' (xs.take i ++ [y] ++ xs.drop i) ∧ Below base w w':=by
 have h1:=one39 hr
 have hil : inner.length = n * 7:=by rw [hr.1,hn]
 have hcm' : cap ≤ 9223372036854775807:=by unfold maxLen at hcm;omega
 have hcl : cur.toList.length = cap * 7:=by simpa using hcs
 have hyl : (c39 y).length = 7:=rfl;have hgl:=blk_lt hgc;have hvl:=blk_lt hy;obtain ⟨i0,hi0,hinf⟩ := Option.map_eq_some_iff.1 info39
 have hz0 : i0.zero = some (.agg #[(.string ⟨#[]⟩),(.int .i64 0),(.int .i64 0),(.int .i64 0),(.int .i64 0),(.string ⟨#[]⟩),(.string ⟨#[]⟩)]):=by simpa using congrArg (fun q=>q.1) hinf
 have hz1 : i0.size = 7:=by simpa using congrArg (fun q=>q.2.1) hinf
 have hz2 : i0.bytes = 80:=by simpa using congrArg (fun q=>q.2.2) hinf
 have hold : ∀ W : World,W.heap[g]? = w.heap[g]? → (Builtin.firstCells i0.size i (.slice (some ⟨g,0,none⟩) i cap)).run Try.prog W = .ok (inner.take (i * 7)).toArray W:=by
  intro W hW;rw [hz1]
  exact run_firstCells_some W 7 i ⟨g,0,none⟩ i cap (inner.take (i * 7)) (by rw [List.length_take,hil];omega) (fun j v hj=>by
   rw [Addr.add_lit,Nat.zero_add];rw [List.getElem?_take] at hj
   split at hj
   (exact row_cell (hW.trans hgc) _ _ (inner_cell ht hj))
   ·cases hj)
 obtain ⟨zc,hzc⟩ : ∃ zc : Array Value,zc = (Value.agg #[(.string ⟨#[]⟩),(.int .i64 0),(.int .i64 0),(.int .i64 0),(.int .i64 0),(.string ⟨#[]⟩),(.string ⟨#[]⟩)]).cells:=⟨_,rfl⟩
 have hzs : zc.size = 7:=by rw [hzc];rfl
 obtain ⟨G,hG⟩ : ∃ G,G = grownCap w (n + 1) cap 39:=⟨_,rfl⟩
 have hGn : n + 1 ≤ G:=by rw [hG];exact grownCap_ge w _ _ _
 have hGm : G ≤ maxLen:=by rw [hG];exact grownCap_le_maxLen w _ _ _ (by unfold maxLen;omega)
 obtain ⟨cur0,hcur0⟩ : ∃ c : Array Value,c = (inner.take (i * 7)).toArray ++ Builtin.zeroCells zc (n + 1 - i) ++ Builtin.zeroCells zc (G - (n + 1)):=⟨_,rfl⟩
 have happ : ∀ ty,(Builtin.append_ #[22,3] ty #[.slice (some ⟨g,0,none⟩) i cap,.int .i64 ((n : Int) + 1 - (i : Int))]).run Try.prog w = .ok (.slice (some ⟨w.heap.size,0,none⟩) (n + 1) G) (w.drew.alloc (.cells cur0 39)):=by
  intro ty;have h:=Lib.run_append_grow_zeros (P:=Try.prog) w 22 3 ty 39 i0 _ .i64 .i64 Try.underlying22 Try.underlying3 hi0 hz0 (some ⟨g,0,none⟩) i cap (inner.take (i * 7)) (hold w.drew rfl) (n + 1 - i) (by omega) (by omega) (by omega) (by omega) (by rw [hz2];omega) (by rw [hz2,show i + (n + 1 - i) = n + 1 by omega];exact growslice_fits (by omega) hbig);rw [show i + (n + 1 - i) = n + 1 by omega,← hzc,← hG,← hcur0] at h;rw [show (n : Int) + 1 - (i : Int) = ((n + 1 - i : Nat) : Int) by omega];exact h
 have hcs0 : cur0.size = G * 7:=by
  rw [hcur0];simp only [Array.size_append,List.size_toArray,List.length_take,size_zeroCells,hzs,hil];omega
 have hcl0 : cur0.toList.length = G * 7:=by simpa using hcs0
 obtain ⟨cur1,hcur1⟩ : ∃ c,c = (cur0.toList.take (i * 7) ++ c39 y ++ cur0.toList.drop (i * 7 + (c39 y).length)).toArray:=⟨_,rfl⟩
 have hcs1 : cur1.size = G * 7:=by
  rw [hcur1];simp only [List.size_toArray,List.length_append,List.length_take,List.length_drop,hcl0,hyl];omega
 have hcl1 : cur1.toList.length = G * 7:=by simpa using hcs1
 have hdl : (inner.drop (i * 7)).length = (n - i) * 7:=by rw [List.length_drop,hil];omega
 obtain ⟨cur2,hcur2⟩ : ∃ c,c = (cur1.toList.take ((i + 1) * 7) ++ inner.drop (i * 7) ++ cur1.toList.drop ((i + 1) * 7 + (inner.drop (i * 7)).length)).toArray:=⟨_,rfl⟩
 have hcs2 : cur2.size = G * 7:=by
  rw [hcur2];simp only [List.size_toArray,List.length_append,List.length_take,List.length_drop,hcl1,hil];omega
 have ht2 : cur2.toList.take ((n + 1) * 7) = inner.take (i * 7) ++ c39 y ++ inner.drop (i * 7):=by
  have e0 : cur0.toList.take (i * 7) = inner.take (i * 7):=by
   rw [hcur0,Array.toList_append,Array.toList_append,List.toList_toArray,List.append_assoc,tk_app _ _ _ (by rw [List.length_take,hil];omega)]
  have e1 : cur1.toList.take ((i + 1) * 7) = inner.take (i * 7) ++ c39 y:=by
   rw [hcur1,List.toList_toArray,e0,tk_app _ _ _ (by rw [List.length_append,List.length_take,hil,hyl];omega)]
  rw [hcur2,List.toList_toArray,e1,tk_app _ _ _ (by rw [List.length_append,List.length_append,List.length_take,hil,hyl,hdl];omega)]
 have hrep : Reps P39 7 (xs.take i ++ [y] ++ xs.drop i) (inner.take (i * 7) ++ c39 y ++ inner.drop (i * 7)) :=
  Kd.reps_append (Kd.reps_append (Kd.reps_take hr (by omega)) (Reps.snoc (Reps.none _ _) rfl rfl)) (Kd.reps_drop hr)
 have hxl : (xs.take i ++ [y] ++ xs.drop i).length = n + 1:=by simp;omega
 have hsz : (Try.prog.info? 39).map (·.size) = some 7:=by kernel_rfl
 have hm1 : Nat.min 1 (n + 1 - i) = 1:=Nat.min_eq_left (by omega);have hm2 : Nat.min (n - i) (n - i) = n - i:=Nat.min_self _
 have hcpA : ∀ (W : World) (ty : TypeId) (dc : Nat),W.heap[w.heap.size]? = some (.cells cur0 39 (0,0)) → W.heap[gv]? = w.heap[gv]? → (Builtin.copy_ #[22,22] ty #[.slice (some ⟨w.heap.size,i * 7,none⟩) (n + 1 - i) dc,.slice (some ⟨gv,0,none⟩) 1 1]).run Try.prog W = .ok (goInt ((1 : Nat) : Int)) (W.setRow w.heap.size cur1):=by
  intro W ty dc hW hV
  have h:=run_copy_row (P:=Try.prog) W 22 22 ty 39 7 w.heap.size (i * 7) (n + 1 - i) dc ⟨gv,0,none⟩ 1 1 (c39 y) cur0 39 Try.underlying22 hsz (by rw [hm1];rfl) hW (by rw [hyl,hcs0];omega)
   (fun j u hj=>by rw [Addr.add_lit,Nat.zero_add];exact cellB (hV.trans hy) j u (by simpa using hj)) (fun u hu=>by
    simp only [c39,List.mem_cons,List.not_mem_nil,or_false] at hu
    rcases hu with rfl|rfl|rfl|rfl|rfl|rfl|rfl <;> rfl)
  rw [← hcur1,hm1] at h;exact h
 have hcpB : ∀ (W : World) (ty : TypeId) (dc sc : Nat),W.heap[w.heap.size]? = some (.cells cur1 39 (0,0)) → W.heap[g]? = w.heap[g]? → (Builtin.copy_ #[22,22] ty #[.slice (some ⟨w.heap.size,(i + 1) * 7,none⟩) (n - i) dc,.slice (some ⟨g,i * 7,none⟩) (n - i) sc]).run Try.prog W = .ok (goInt ((n - i : Nat) : Int)) (W.setRow w.heap.size cur2):=by
  intro W ty dc sc hW hV
  have h:=run_copy_row (P:=Try.prog) W 22 22 ty 39 7 w.heap.size ((i + 1) * 7) (n - i) dc ⟨g,i * 7,none⟩ (n - i) sc (inner.drop (i * 7)) cur1 39 Try.underlying22 hsz (by rw [hdl,hm2]) hW (by rw [hdl,hcs1];omega)
   (fun j u hj=>by rw [Addr.add_lit];rw [List.getElem?_drop] at hj;exact row_cell (hV.trans hgc) _ _ (inner_cell ht hj)) (fun u hu=>h1 u (List.mem_of_mem_drop hu))
  rw [← hcur2,hm2] at h;exact h
 have HA:=aside happ;have HCA:=aside hcpA;have HCB:=aside hcpB;have HREP:=aside hrep;have HXL:=aside hxl;have HT2:=aside ht2;have HS2:=aside hcs2
 have hGm' : G ≤ 9223372036854775807:=by unfold maxLen at hGm;omega
 have e1 : ((i : Int) + 1).toNat = i + 1:=by omega
 have e2 : ¬ (G = i + 1):=by omega
 have e3 : IntKind.i64.wrap ((i : Int) + 1) = (i : Int) + 1:=by rw [IntKind.wrap_i64];omega
 have e4 : (i : Int) + 1 ≤ (n : Int) + 1:=by omega
 have e5 : IntKind.i64.wrap ((n : Int) + 1) = (n : Int) + 1:=by rw [IntKind.wrap_i64];omega
 have e6 : ¬ ((i : Int) = (n : Int)):=by omega
 have e7 : i ≤ n:=by omega
 have e8 : ¬ (cap = i):=by omega
 have e9 : (0 : Int) ≤ (i : Int) + 1:=by omega
 have e10 : (cap : Int) < (n : Int) + 1:=by omega
 have e11 : (i : Int) ≤ (n : Int):=by omega
 have e14 : (i : Int) ≤ (n : Int) + 1:=by omega
 have e15 : n + 1 - (i + 1) = n - i:=by omega
 have e16 : ¬ (G = i):=by omega
 have e17 : IntKind.i64.wrap ((n : Int) + 1 - (i : Int)) = (n : Int) + 1 - (i : Int):=by rw [IntKind.wrap_i64];omega
 have mixed : Try.prog.follows .mixedOrders = true:=by kernel_rfl
 have hB0:=aside (below_alloc' w base hbw cur0);have hW0:=aside (show (w.drew.alloc (.cells cur0 39)).heap[w.heap.size]? = some (.cells cur0 39 (0,0)) from heap_alloc_new w.drew _);have hV0:=aside (show (w.drew.alloc (.cells cur0 39)).heap[gv]? = w.heap[gv]? from heap_alloc_old w.drew _ hvl);have hU0:=aside (show (w.drew.alloc (.cells cur0 39)).heap[g]? = w.heap[g]? from heap_alloc_old w.drew _ hgl);generalize w.drew.alloc (.cells cur0 39) = W0 at HA hB0 hW0 hV0 hU0;have HA1:=aside (fun ty dc=>HCA.out W0 ty dc hW0.out hV0.out);have hB1:=aside (below_row hB0.out hbw cur1);have hW1:=aside (setRow_heap W0 w.heap.size cur0 cur1 39 (0,0) hW0.out);have hU1:=aside ((setRow_other W0 w.heap.size g cur1 (by omega)).trans hU0.out);generalize W0.setRow w.heap.size cur1 = W1 at HA1 hB1 hW1 hU1;have HB1:=aside (fun ty dc sc=>HCB.out W1.drew ty dc sc hW1.out hU1.out);have hB2:=aside (below_row (below_drew1 hB1.out) hbw cur2);have hW2:=aside (setRow_heap W1.drew w.heap.size cur1 cur2 39 (0,0) hW1.out);generalize W1.drew.setRow w.heap.size cur2 = W2 at HB1 hB2 hW2;clear happ hcpA hcpB hrep hxl ht2 hcs2 hgc hy hcur1 hcur2 hcs hcs1 hcl hcl1 h1 hr hil ht hdl hyl hcur0 hcs0 hcl0 hold hz0 hz1 hz2 hinf hi0 hzc hzs hG HCA HCB hB0 hW0 hV0 hU0 hB1 hW1 hU1;generalize w.heap.size = gn at *
 go_enter Try.func72,Try.ntmps72
 go_wp2_with (at_builtin;refine ev_append rfl (.tmp 34) (.tmp 39) 22 3 rfl _ _ rfl rfl (HA.out _) ?_)
 rw [HA1.out]
 go_wp2
 go_region_law_o (refine step_copy_run rfl (.tmp 50) (.tmp 53) 22 22 rfl (.slice (some ⟨gn,(i + 1) * 7,none⟩) (n - i) (G - (i + 1))) (.slice (some ⟨g,i * 7,none⟩) (n - i) (cap - i)) (by simp [Act.eval,Act.put]) (by simp [Act.eval,Act.put]) (HB1.out _ _ _) ?_)
 go_wp2
 go_ret
 refine ⟨_,rfl, ?_,hB2.out⟩
 have h:=R39_mk (base:=base) (ok:=ok) _ HREP.out hok hbw hW2.out (by rw [HXL.out];omega) hGm HS2.out (by rw [HXL.out];exact HT2.out);rw [HXL.out] at h;exact h
set_option maxHeartbeats 4000000 in
set_option maxRecDepth 100000 in
theorem ins72_end (A : Option Addr) (c gv : Nat) (y : S39) (xs : List S39) (w : World) (base : Nat) (ok : Nat → Prop) (HR : Kd.R k39 39 w base ok (.slice A xs.length c) xs) (hfresh : ∀ k, w.heap.size ≤ k → ok k) (hbw : base ≤ w.heap.size)
  (hy : w.heap[gv]? = some (.cells (c39 y).toArray 39 (0,0))) (hbig : (xs.length + 1) * 80 ≤ 140737488355328) :
  Calls Try.prog 72 #[.slice A xs.length c,.int .i64 xs.length,.slice (some ⟨gv,0,none⟩) 1 1] w fun e w'=>∃ v' : Value,e = .returned v' ∧ Kd.R k39 39 w' base ok v' (xs ++ [y]) ∧ Below base w w':=by
 have hm:=Kd.C_max (Kd.R_reads' HR).2.2;have hc:=(Kd.R_reads' HR).2.1
 have HY : Kd.C k39 w (some ⟨gv,0,none⟩) [y].length [y] := ⟨rfl,by simp,fun _=>⟨_,rfl,fun j p hj=>by
  match j,hj with
  | 0,hj =>
   obtain rfl : y = p:=by simpa using hj
   exact ⟨c39 y,rfl,k39_mk _ _,fun q u hq=>by rw [Addr.add_lit,Nat.zero_mul,Nat.zero_add,Nat.zero_add];exact cellB hy q u (by simpa using hq)⟩
  | j + 1,hj=>simp at hj⟩⟩
 have H1:=aside HR;have H2:=aside HY;have H3:=aside hfresh;have H4:=aside hbig;clear HR HY hfresh hbig hy;generalize hn : xs.length = n at *
 go_enter Try.func72,Try.ntmps72
 go_wp2_with (at_builtin;refine Kd.R_append_rows k39 (w0:=w) base rfl (.tmp 23) (.tmp 24) 22 39 (.agg #[(.string ⟨#[]⟩),(.int .i64 0),(.int .i64 0),(.int .i64 0),(.int .i64 0),(.string ⟨#[]⟩),(.string ⟨#[]⟩)]) 80 rfl Try.underlying22 info39 rfl (by decide) (by decide) (.slice A n c) xs [y] _ _ _ ok (fun _=>False) rfl rfl H1.out H2.out ?aK (fun _ h=>h.elim) H3.out (Below.refl _ _) hbw (by rw [hn];exact H4.out) ?_;(case aK=>exact fun x cs hx=>by rw [k39_open hx];exact k39_mkM _ _ _ _);intro v1 w1 ho hb hg hat;have HO:=aside ho;have HB:=aside hb;clear ho hb hg hat)
 all_goals
  go_ret
  exact ⟨_,rfl,HO.out,HB.out⟩
theorem ins72 (v : Value) (i gv : Nat) (y : S39) (xs : List S39) (w : World) (base : Nat) (ok : Nat → Prop) (HR : Kd.R k39 39 w base ok v xs) (hi : i ≤ xs.length) (hfresh : ∀ k, w.heap.size ≤ k → ok k) (hbw : base ≤ w.heap.size)
  (hy : w.heap[gv]? = some (.cells (c39 y).toArray 39 (0,0))) (hne : some gv ≠ v.ownBlock) (hbig : (xs.length + 1) * 80 ≤ 140737488355328) :
  Calls Try.prog 72 #[v,.int .i64 i,.slice (some ⟨gv,0,none⟩) 1 1] w fun e w'=>∃ v' : Value,e = .returned v' ∧ Kd.R k39 39 w' base ok v' (xs.take i ++ [y] ++ xs.drop i) ∧ Below base w w':=by
 by_cases he : i = xs.length
 (subst he;obtain ⟨A,c,rfl⟩ := Kd.R_slice HR;rw [List.take_length,List.drop_length,List.append_nil];exact ins72_end A c gv y xs w base ok HR hfresh hbw hy hbig)
 ·rcases R39_open HR with ⟨rfl,rfl⟩|⟨g,cap,cur,inner,rfl,hok,hbg,hgc,hnc,hcm,hcs,ht,hr⟩
  ·simp at hi;simp [hi] at he
  ·by_cases hroom : xs.length + 1 ≤ cap
   (exact ins72_room g cap xs.length i gv y xs cur inner w base ok hok hbg hgc rfl hcm hcs ht hr hy (fun h=>hne (by simp [Value.ownBlock,h])) (by omega) hroom);(exact ins72_grow g cap xs.length i gv y xs cur inner w base ok (hfresh _ (Nat.le_refl _)) hbw hgc rfl hcm hcs ht hr hy (by omega) hnc (by omega) hbig)
end Go.Proofs.Ytbggjmdelnmilaa.PA
