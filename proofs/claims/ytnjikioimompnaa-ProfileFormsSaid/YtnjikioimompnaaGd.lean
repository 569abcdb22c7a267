import Derived.Test.YtnjikioimompnaaGb
import Derived.Test.YtnjikioimompnaaPAx90
import Derived.Deep.RegionHeld3
import Derived.Deep.DeepCutAuto
namespace Go.Proofs.Ytnjikioimompnaa.PA
open Go.RowKit Go.Shelf Go.Proofs.YtnjikioimompnaaW.PrintWords Go.Proofs.YtnjikioimompnaaW.PrintLast Go.Proofs.YtnjikioimompnaaW.PrintMore
set_option linter.unusedVariables false
set_option linter.unusedSimpArgs false
def keyLt (a0 a1 b0 b1 : Int) : Bool:=decide (a0 < b0) || (decide (a0 = b0) && decide (a1 < b1))
def Keys (g : Nat) (k0 k1 : Int → Int → Int) : Prop := ∀ (W : World) (a b : Int),Calls Try.prog g #[.agg #[.int .i64 a,.int .i64 b]] W fun e w'=>e = .returned (.agg #[.int .i64 (k0 a b),.int .i64 (k1 a b)]) ∧ Below W.heap.size W w'
theorem cellB {w W : World} (h : Below w.heap.size w W) {a : Addr} {v : Value} (hc : w.cell? a = some v) : W.cell? a = some v:=(h.cell (World.block_lt_of_cell? w a hc)).trans hc
theorem below_trans {a b c : World} (h : Below a.heap.size a b) (k : Below b.heap.size b c) : Below a.heap.size a c:=h.trans (k.mono h.size)
theorem below_al {a b : World} (h : Below a.heap.size a b) (o : Obj) : Below a.heap.size a (b.alloc o):=h.alloc h.size o
theorem below_dr {a b : World} (h : Below a.heap.size a b) : Below a.heap.size a b.drew:=below_trans h (below_drewN_any 1)
theorem keys_at {g : Nat} {k0 k1 : Int → Int → Int} (h : Keys g k0 k1) (W : World) (a b : Int) : Calls Try.prog g #[.agg #[.int .i64 a,.int .i64 b]] W fun e w'=>e = .returned (.agg #[.int .i64 (k0 a b),.int .i64 (k1 a b)]) ∧ Below W.heap.size W w':=h W a b
theorem below_row {a b : World} (h : Below a.heap.size a b) {g : Nat} (hg : a.heap.size ≤ g) (cs : Array Value) : Below a.heap.size a (b.setRow g cs):=h.trans ⟨rfl,rfl,rfl,by simp,fun k hk=>setRow_other _ _ _ _ (by omega)⟩
theorem goesV_ {ops : Array Oper} {Q : Exit → Act → World → Prop} {oi : Oper} {N : Option Tmp} {a : Act} {w : World} {K : Act → World → Prop} {g : Nat} {s : Tmp} {ars : Array Operand} {ts : Array TypeId} (eg : ∀ args w, (callFunc g args).run Try.prog w = .ok (.enter g args) w) (args : Array Value)
  (hw : Region.wanted oi (yielded ops a.tmps) = true) (hN : oi.dst = N) (hop : oi.op = .call { callee:=.value (.tmp s),args:=ars,argTypes:=ts }) (hs : a.eval (.tmp s) = .func (.func g) #[] #[]) (hargs : ars.map a.eval = args)
  (h : Calls Try.prog g args w fun e w'=>∃ v,e = .returned v ∧ K (a.put N v) w') : if Region.wanted oi (yielded ops a.tmps) = true then Oper.wp Try.prog oi a w K Q else K (a.put N undef) w:=by
 refine call_ g args hw hN ?_ h
 have he:=eg args w
 unfold execOp
 simp [hop,resolve,Deferred.ofValue,invoke,hs,hargs,he]
theorem store_row_run {a : Act} {oi : Oper} {w w1 : World} (ty : TypeId) (x y : Operand) {vx vy : Value} (ho : oi.op = .store ty x y) (hx : a.eval x = vx) (hy : a.eval y = vy) (hrun : (Instr.storeAt ty vx vy).run Try.prog w = .ok () w1) :
  (execOp a.eval oi).run Try.prog w = .ok .skip w1:=by
 unfold execOp
 simp only [ho,hx,hy,Sem.run_bind,hrun,Result.andThen_ok,Sem.run_pure]
theorem size82 : (Try.prog.info? 82).map (·.size) = some 2:=by kernel_rfl
theorem store82 (w : World) (b : Nat) (a0 a1 : Int) (h : w.heap[b]? = some (.cells #[.int .i64 0,.int .i64 0] 82)) : (Instr.storeAt 82 (.pointer (some ⟨b,0,none⟩)) (.agg #[.int .i64 a0,.int .i64 a1])).run Try.prog w = .ok () (w.setRow b #[.int .i64 a0,.int .i64 a1]) :=
 run_storeAt_row w b 82 82 _ _ h rfl size82 (by intro v hv;simp at hv;rcases hv with rfl|rfl <;> rfl)
def cmpI (a b : Int) : Int:=if a < b then -1 else if a > b then 1 else 0
theorem cmpC (a b : Int) : cmp_Compare_int.f a b = some (cmpI a b):=by
 unfold cmp_Compare_int.f cmpI
 have h : ∀ c,cmp_isNaN_int.f c = some false:=fun c=>by unfold cmp_isNaN_int.f;simp
 rw [h,h];simp only [Option.bind_some,Bool.false_eq_true,if_false]
 split
 (rfl)
 ·split <;> rfl
def orI (x y : Int) : Int:=if x = 0 then y else x
theorem orF (x y : Int) : cmp_Or_int.f 4 [x,y] = some (orI x y):=by
 unfold cmp_Or_int.f orI
 by_cases hx : x = 0
 ·subst hx;by_cases hy : y = 0
  ·subst hy;simp [cmp_Or_int.l0,rd,wrap64]
  ·simp [cmp_Or_int.l0,rd,hy,wrap64]
 ·simp [cmp_Or_int.l0,rd,hx]
theorem C_two (w : World) (x y : Int) : Kd.C (Kd.int .i64) (w.alloc (.cells #[.int .i64 x,.int .i64 y] 3)) (some ⟨w.heap.size,0,none⟩) [x,y].length [x,y] := by
 refine ⟨rfl,by simp [maxLen],fun _=>⟨_,rfl,fun j p hp=>⟨[.int .i64 p],rfl,rfl,fun i u hu=>?_⟩⟩⟩
 have e1 : (Kd.int .i64).sz = 1:=rfl
 match i,hu with
 | 0,hu =>
  simp at hu
  subst hu
  match j,hp with
  | 0,hp=>simp at hp;subst hp;simp [Addr.add]
  | 1,hp=>simp at hp;subst hp;simp [e1,Addr.add]
theorem or_two (w : World) (x y : Int) : Calls Try.prog 84 #[.slice (some ⟨w.heap.size,0,none⟩) 2 2] (w.alloc (.cells #[.int .i64 x,.int .i64 y] 3)) fun e w'=>e = .returned (.int .i64 (orI x y)) ∧ Drawn0 (w.alloc (.cells #[.int .i64 x,.int .i64 y] 3)) w' :=
 cmp_Or_int.calls 4 _ 2 [x,y] _ _ (C_two w x y) (by simp) (orF x y)
theorem key_lt (a0 a1 b0 b1 : Int) : decide (orI (cmpI a0 b0) (cmpI a1 b1) < 0) = keyLt a0 a1 b0 b1:=by
 unfold keyLt orI cmpI
 rw [Bool.eq_iff_iff];simp only [decide_eq_true_eq,Bool.or_eq_true,Bool.and_eq_true]
 repeat' split
 all_goals omega
def extStep (k0 k1 : Int → Int → Int) (l : List S31) (b i : Nat) : Nat :=
 if keyLt (k0 (l.getD i z31).f0 (l.getD i z31).f1) (k1 (l.getD i z31).f0 (l.getD i z31).f1) (k0 (l.getD b z31).f0 (l.getD b z31).f1) (k1 (l.getD b z31).f0 (l.getD b z31).f1) = true then i else b
def extF (k0 k1 : Int → Int → Int) (l : List S31) (n : Nat) : Nat:=(List.range n).foldl (extStep k0 k1 l) 0
theorem extF_succ (k0 k1 : Int → Int → Int) (l : List S31) (n : Nat) : extF k0 k1 l (n + 1) = extStep k0 k1 l (extF k0 k1 l n) n:=by
 unfold extF;rw [List.range_succ,List.foldl_append];rfl
theorem extF_le (k0 k1 : Int → Int → Int) (l : List S31) (n : Nat) : extF k0 k1 l n ≤ n - 1:=by
 induction n with
 | zero=>simp [extF]
 | succ n ih =>
  rw [extF_succ]
  unfold extStep
  split <;> omega
set_option maxRecDepth 100000 in
set_option maxHeartbeats 4000000 in
theorem extreme_any (g : Nat) (eg : ∀ args w, (callFunc g args).run Try.prog w = .ok (.enter g args) w) (k0 k1 : Int → Int → Int) (hk : Keys g k0 k1) (A : Option Addr) (c : Nat) (l : List S31) (w : World) (hr : Kd.C k31 w A l.length l) (hl : l.length ≤ 1000000) :
  Calls Try.prog 58 #[.slice A l.length c,.func (.func g) #[] #[]] w fun e w'=>e = .returned (.int .i64 (extF k0 k1 l l.length)) ∧ Below w.heap.size w w':=by
 have HR:=aside hr;have HK:=aside hk;clear hr hk
 go_enter Try.func58,Try.ntmps58
 go_wp2
 go_loopg [5,12] l.length (fun gg v5 v12 wr=>∃ n b : Nat,n ≤ l.length ∧ l.length - n ≤ gg ∧ v12 = .int .i64 n ∧ v5 = .int .i64 b ∧ Aside (b = extF k0 k1 l n) ∧ Aside (Below w.heap.size w wr))
 case atStart=>exact ⟨0,0,by omega,by omega,rfl,rfl,rfl,Below.refl _ _⟩
 case round =>
  obtain ⟨n,b,hn,hg,rfl,rfl,E,B⟩ := hrel;by_cases hlt : n < l.length
  ·have hlt' : (n : Int) < (l.length : Int):=by omega
   have hbl : b < l.length:=by have:=extF_le k0 k1 l n;have:=E.out;omega
   have hbl' : (b : Int) < (l.length : Int):=by omega
   have RB:=Kd.C_below HR.out B.out;obtain ⟨ad,hA,q0,q1⟩ := at_T31 RB (n : Int) (by omega) (by omega);obtain ⟨ad',hA',p0,p1⟩ := at_T31 RB (b : Int) (by omega) (by omega);rw [hA] at hA';obtain rfl:=Option.some.inj hA'
   have hx : rd_T31 l (n : Int) = l.getD n z31:=by unfold rd_T31;simp
   have hy : rd_T31 l (b : Int) = l.getD b z31:=by unfold rd_T31;simp
   rw [hx] at q0 q1;rw [hy] at p0 p1;simp only [Int.toNat_natCast] at q0 q1 p0 p1;have hes:=extF_succ k0 k1 l n;rw [← E.out] at hes
   unfold extStep at hes
   generalize (l.getD n z31).f0 = x0 at q0 hes;generalize (l.getD n z31).f1 = x1 at q1 hes;generalize (l.getD b z31).f0 = y0 at p0 hes;generalize (l.getD b z31).f1 = y1 at p1 hes;have HE:=aside hes;subst hA;clear RB hx hy hes
   go_upto_region 5 with fail
   have hBW:=below_al B.out (.cells #[.int .i64 x0,.int .i64 x1] 31)
   have c0 : (wr.alloc (.cells #[.int .i64 x0,.int .i64 x1] 31)).cell? ⟨wr.heap.size,0,none⟩ = some (.int .i64 x0):=by simp
   have c1 : (wr.alloc (.cells #[.int .i64 x0,.int .i64 x1] 31)).cell? ⟨wr.heap.size,1,none⟩ = some (.int .i64 x1):=by simp
   have d0 : (wr.alloc (.cells #[.int .i64 x0,.int .i64 x1] 31)).cell? (ad.add (b * 2)) = some (.int .i64 y0):=cellB (below_al (Below.refl _ _) _) p0;have d1 : (wr.alloc (.cells #[.int .i64 x0,.int .i64 x1] 31)).cell? ⟨(ad.add (b * 2)).block,(ad.add (b * 2)).off + 1,none⟩ = some (.int .i64 y1):=cellB (below_al (Below.refl _ _) _) p1;have HBW:=aside hBW;clear q0 q1 p0 p1 B hBW;generalize (wr.alloc (.cells #[.int .i64 x0,.int .i64 x1] 31)) = W at *;have B0:=below_dr (Below.refl _ W)
   refine start_ (n:=13) (S:=fun w'=>w'.cell? ⟨wr.heap.size,0,none⟩ = some (.int .i64 x0) ∧ w'.cell? ⟨wr.heap.size,1,none⟩ = some (.int .i64 x1) ∧ w'.cell? (ad.add (b * 2)) = some (.int .i64 y0) ∧ w'.cell? ⟨(ad.add (b * 2)).block,(ad.add (b * 2)).off + 1,none⟩ = some (.int .i64 y1)) (ds:=[11,12]) #[false,false,false,false,false,false,false,false,false,false,false,false,false] (by kernel_rfl) rfl rfl ⟨cellB B0 c0,cellB B0 c1,cellB B0 d0,cellB B0 d1⟩ (fun hHeld=>?_)
   refine pure_ (i:=0) (N:=some 17) (v:=?_) (a':=?_) #[true,false,false,false,false,false,false,false,false,false,false,false,false] rfl rfl (by kernel_rfl) (fun _ _ _ h=>h) (Or.inl ⟨by rfl, ?_⟩) ?_ ?_;rotate_left;(intro w';go_simp;with_reducible rfl);rotate_left;(simp only [Act.put,List.setIfInBounds_toArray,List.set_cons_zero,List.set_cons_succ,i64_w,i32_w];rfl);refine pure_ (i:=3) (N:=some 20) (v:=?_) (a':=?_) #[true,false,false,true,false,false,false,false,false,false,false,false,false] rfl rfl (by kernel_rfl) (fun _ _ _ h=>h) (Or.inl ⟨by rfl, ?_⟩) ?_ ?_;rotate_left;(intro w';go_simp;with_reducible rfl);rotate_left;(simp only [Act.put,List.setIfInBounds_toArray,List.set_cons_zero,List.set_cons_succ,i64_w,i32_w];rfl);refine pure_ (i:=4) (N:=some 21) (v:=?_) (a':=?_) #[true,false,false,true,true,false,false,false,false,false,false,false,false] rfl rfl (by kernel_rfl) (fun _ _ _ h=>h) (Or.inl ⟨by rfl, ?_⟩) ?_ ?_;rotate_left;(intro w';go_simp;with_reducible rfl);rotate_left;(simp only [Act.put,List.setIfInBounds_toArray,List.set_cons_zero,List.set_cons_succ,i64_w,i32_w];rfl);refine pure_ (i:=5) (N:=some 22) (v:=?_) (a':=?_) #[true,false,false,true,true,true,false,false,false,false,false,false,false] rfl rfl (by kernel_rfl) (fun _ _ _ h=>h) (Or.inl ⟨by rfl, ?_⟩) ?_ ?_;rotate_left;(intro w';go_simp;with_reducible rfl);rotate_left;(simp only [Act.put,List.setIfInBounds_toArray,List.set_cons_zero,List.set_cons_succ,i64_w,i32_w];rfl);refine pure_ (i:=6) (N:=some 23) (v:=?_) (a':=?_) #[true,false,false,true,true,true,true,false,false,false,false,false,false] rfl rfl (by kernel_rfl) (fun _ _ _ h=>h) (Or.inl ⟨by rfl, ?_⟩) ?_ ?_;rotate_left;(intro w';go_simp;with_reducible rfl);rotate_left;(simp only [Act.put,List.setIfInBounds_toArray,List.set_cons_zero,List.set_cons_succ,i64_w,i32_w];rfl);refine take_ (i:=1) (N:=some 18) (v:=?_) (a':=?_) #[true,true,false,true,true,true,true,false,false,false,false,false,false] rfl rfl (by kernel_rfl) (fun _ _ _ h=>h) (Or.inl ⟨by rfl, ?_⟩) hHeld ?_ ?_;rotate_left;(rintro w' ⟨s0,s1,s2,s3⟩;go_simp;with_reducible rfl);rotate_left;(simp only [Act.put,List.setIfInBounds_toArray,List.set_cons_zero,List.set_cons_succ,i64_w,i32_w];rfl);refine take_ (i:=7) (N:=some 24) (v:=?_) (a':=?_) #[true,true,false,true,true,true,true,true,false,false,false,false,false] rfl rfl (by kernel_rfl) (fun _ _ _ h=>h) (Or.inl ⟨by rfl, ?_⟩) hHeld ?_ ?_;rotate_left;(rintro w' ⟨s0,s1,s2,s3⟩;go_simp;with_reducible rfl);rotate_left;(simp only [Act.put,List.setIfInBounds_toArray,List.set_cons_zero,List.set_cons_succ,i64_w,i32_w];rfl)
   refine join_ (σ:=Nat × Nat) 2 #[true,true,true,true,true,true,true,true,true,true,true,false,false] (fun s=>[(19,.agg #[.int .i64 (k0 x0 x1),.int .i64 (k1 x0 x1)]),(25,.agg #[.int .i64 (k0 y0 y1),.int .i64 (k1 y0 y1)]),(8,.pointer (some ⟨s.1,0,none⟩)),(9,.pointer (some ⟨s.2,0,none⟩))]) (fun s w'=>Below W.heap.size W w' ∧ w'.heap[s.1]? = some (.cells #[.int .i64 0,.int .i64 0] 82) ∧ w'.heap[s.2]? = some (.cells #[.int .i64 0,.int .i64 0] 82) ∧ s.1 ≠ s.2 ∧ W.heap.size ≤ s.1 ∧ W.heap.size ≤ s.2) ?_ ?_
   rotate_left
   ·intro hCont
    refine three_ (i:=2) (j:=9) (k:=10) (Ni:=some 19) (Nj:=some 8) (Nk:=some 9) #[true,true,true,true,true,true,true,true,false,false,false,false,false] #[true,true,false,true,true,true,true,true,false,true,false,false,false] #[true,true,false,true,true,true,true,true,false,false,true,false,false] rfl rfl rfl rfl rfl rfl (by kernel_rfl) (by decide) (by decide) (by decide) (fun K hK=>?_) (fun K hK=>?_) (fun K hK=>?_)
    ·skip
     refine goesV_ eg #[.agg #[.int .i64 x0,.int .i64 x1]] (by rfl) rfl rfl (by rfl) (by simp only [List.map_toArray,List.map_cons,List.map_nil];rfl) ?_
     with_reducible refine (keys_at HK.out _ _ _).mono ?_
     rintro e w1 ⟨rfl,hb1⟩;refine ⟨_,rfl, ?_⟩;have B1:=below_trans B0 hb1
     refine hK.out _ _ ⟨cellB B1 c0,cellB B1 c1,cellB B1 d0,cellB B1 d1⟩ (fun hHeld=>?_)
     clear hK K;refine norm_ (a':=?_) ?_ ?_;rotate_left
     ·show Act.put _ (some 19) _ = _
      simp only [Act.put,List.setIfInBounds_toArray,List.set_cons_zero,List.set_cons_succ,i64_w,i32_w];rfl
     refine three_ (i:=8) (j:=9) (k:=10) (Ni:=some 25) (Nj:=some 8) (Nk:=some 9) #[true,true,true,true,true,true,true,true,true,false,false,false,false] #[true,true,true,true,true,true,true,true,false,true,false,false,false] #[true,true,true,true,true,true,true,true,false,false,true,false,false] rfl rfl rfl rfl rfl rfl (by kernel_rfl) (by decide) (by decide) (by decide) (fun K hK=>?_) (fun K hK=>?_) (fun K hK=>?_)
     ·skip
      refine goesV_ eg #[.agg #[.int .i64 y0,.int .i64 y1]] (by rfl) rfl rfl (by rfl) (by simp only [List.map_toArray,List.map_cons,List.map_nil];rfl) ?_
      with_reducible refine (keys_at HK.out _ _ _).mono ?_
      rintro e w2 ⟨rfl,hb2⟩;refine ⟨_,rfl, ?_⟩;have B2:=below_trans B1 hb2
      refine hK.out _ _ ⟨cellB B2 c0,cellB B2 c1,cellB B2 d0,cellB B2 d1⟩ (fun hHeld=>?_)
      clear hK K;refine norm_ (a':=?_) ?_ ?_;rotate_left
      ·show Act.put _ (some 25) _ = _
       simp only [Act.put,List.setIfInBounds_toArray,List.set_cons_zero,List.set_cons_succ,i64_w,i32_w];rfl
      refine two_ (i:=9) (j:=10) (Ni:=some 8) (Nj:=some 9) #[true,true,true,true,true,true,true,true,true,true,false,false,false] #[true,true,true,true,true,true,true,true,true,false,true,false,false] rfl rfl rfl rfl (by kernel_rfl) (by decide) (by decide) (fun K hK=>?_) (fun K hK=>?_)
      ·skip
       refine value_ (w1:=?_) (v:=?_) (by rfl) rfl ?_ ?_
       rotate_left 2
       ·go_simp
        constructor
        (rfl);(rfl)
       have B3:=below_al B2 (.cells #[.int .i64 0,.int .i64 0] 82)
       have h9_3 : (w2.alloc (.cells #[.int .i64 0,.int .i64 0] 82)).heap[w2.heap.size]? = some (.cells #[.int .i64 0,.int .i64 0] 82):=by have h:=heap_alloc_new (w2) (.cells #[.int .i64 0,.int .i64 0] 82);rwa [show (w2).heap.size = w2.heap.size from by simp] at h
       have g9 : W.heap.size ≤ w2.heap.size:=by have h:=B2.size;(try simp at h);omega
       refine hK.out _ _ ⟨cellB B3 c0,cellB B3 c1,cellB B3 d0,cellB B3 d1⟩ (fun hHeld=>?_)
       clear hK K;refine norm_ (a':=?_) ?_ ?_;rotate_left
       ·show Act.put _ (some 8) _ = _
        simp only [Act.put,List.setIfInBounds_toArray,List.set_cons_zero,List.set_cons_succ,i64_w,i32_w];rfl
       refine one_ (i:=10) (N:=some 9) #[true,true,true,true,true,true,true,true,true,true,true,false,false] rfl rfl (by kernel_rfl) (by decide) (fun K hK=>?_)
       refine value_ (w1:=?_) (v:=?_) (by rfl) rfl ?_ ?_
       rotate_left 2
       ·go_simp
        constructor
        (rfl);(rfl)
       have B4:=below_al B3 (.cells #[.int .i64 0,.int .i64 0] 82)
       have h10_4 : ((w2.alloc (.cells #[.int .i64 0,.int .i64 0] 82)).alloc (.cells #[.int .i64 0,.int .i64 0] 82)).heap[w2.heap.size + 1]? = some (.cells #[.int .i64 0,.int .i64 0] 82):=by have h:=heap_alloc_new ((w2.alloc (.cells #[.int .i64 0,.int .i64 0] 82))) (.cells #[.int .i64 0,.int .i64 0] 82);rwa [show ((w2.alloc (.cells #[.int .i64 0,.int .i64 0] 82))).heap.size = w2.heap.size + 1 from by simp] at h
       have g10 : W.heap.size ≤ w2.heap.size + 1:=by have h:=B3.size;(try simp at h);omega
       have h9_4:=(Below.heap_alloc ((w2.alloc (.cells #[.int .i64 0,.int .i64 0] 82))) (.cells #[.int .i64 0,.int .i64 0] 82) _ (blk_lt h9_3)).trans h9_3
       have hne : w2.heap.size ≠ w2.heap.size + 1:=by have h:=blk_lt h9_3;(try simp at h);omega
       refine hK.out _ _ ⟨cellB B4 c0,cellB B4 c1,cellB B4 d0,cellB B4 d1⟩ (fun hHeld=>?_)
       clear hK K;refine norm_ (a':=?_) ?_ ?_;rotate_left
       ·show Act.put _ (some 9) _ = _
        simp only [Act.put,List.setIfInBounds_toArray,List.set_cons_zero,List.set_cons_succ,i64_w,i32_w];rfl
       exact norm_ (by simp only [putAll,Act.put,List.setIfInBounds_toArray,List.set_cons_zero,List.set_cons_succ]) (hCont (w2.heap.size,w2.heap.size + 1) _ ⟨B4,h9_4,h10_4,hne,g9,g10⟩)
      ·skip
       refine value_ (w1:=?_) (v:=?_) (by rfl) rfl ?_ ?_
       rotate_left 2
       ·go_simp
        constructor
        (rfl);(rfl)
       have B3:=below_al B2 (.cells #[.int .i64 0,.int .i64 0] 82)
       have h10_3 : (w2.alloc (.cells #[.int .i64 0,.int .i64 0] 82)).heap[w2.heap.size]? = some (.cells #[.int .i64 0,.int .i64 0] 82):=by have h:=heap_alloc_new (w2) (.cells #[.int .i64 0,.int .i64 0] 82);rwa [show (w2).heap.size = w2.heap.size from by simp] at h
       have g10 : W.heap.size ≤ w2.heap.size:=by have h:=B2.size;(try simp at h);omega
       refine hK.out _ _ ⟨cellB B3 c0,cellB B3 c1,cellB B3 d0,cellB B3 d1⟩ (fun hHeld=>?_)
       clear hK K;refine norm_ (a':=?_) ?_ ?_;rotate_left
       ·show Act.put _ (some 9) _ = _
        simp only [Act.put,List.setIfInBounds_toArray,List.set_cons_zero,List.set_cons_succ,i64_w,i32_w];rfl
       refine one_ (i:=9) (N:=some 8) #[true,true,true,true,true,true,true,true,true,true,true,false,false] rfl rfl (by kernel_rfl) (by decide) (fun K hK=>?_)
       refine value_ (w1:=?_) (v:=?_) (by rfl) rfl ?_ ?_
       rotate_left 2
       ·go_simp
        constructor
        (rfl);(rfl)
       have B4:=below_al B3 (.cells #[.int .i64 0,.int .i64 0] 82)
       have h9_4 : ((w2.alloc (.cells #[.int .i64 0,.int .i64 0] 82)).alloc (.cells #[.int .i64 0,.int .i64 0] 82)).heap[w2.heap.size + 1]? = some (.cells #[.int .i64 0,.int .i64 0] 82):=by have h:=heap_alloc_new ((w2.alloc (.cells #[.int .i64 0,.int .i64 0] 82))) (.cells #[.int .i64 0,.int .i64 0] 82);rwa [show ((w2.alloc (.cells #[.int .i64 0,.int .i64 0] 82))).heap.size = w2.heap.size + 1 from by simp] at h
       have g9 : W.heap.size ≤ w2.heap.size + 1:=by have h:=B3.size;(try simp at h);omega
       have h10_4:=(Below.heap_alloc ((w2.alloc (.cells #[.int .i64 0,.int .i64 0] 82))) (.cells #[.int .i64 0,.int .i64 0] 82) _ (blk_lt h10_3)).trans h10_3
       have hne : w2.heap.size + 1 ≠ w2.heap.size:=by have h:=blk_lt h10_3;(try simp at h);omega
       refine hK.out _ _ ⟨cellB B4 c0,cellB B4 c1,cellB B4 d0,cellB B4 d1⟩ (fun hHeld=>?_)
       clear hK K;refine norm_ (a':=?_) ?_ ?_;rotate_left
       ·show Act.put _ (some 8) _ = _
        simp only [Act.put,List.setIfInBounds_toArray,List.set_cons_zero,List.set_cons_succ,i64_w,i32_w];rfl
       exact norm_ (by simp only [putAll,Act.put,List.setIfInBounds_toArray,List.set_cons_zero,List.set_cons_succ]) (hCont (w2.heap.size + 1,w2.heap.size) _ ⟨B4,h9_4,h10_4,hne,g9,g10⟩)
     ·skip
      refine value_ (w1:=?_) (v:=?_) (by rfl) rfl ?_ ?_
      rotate_left 2
      ·go_simp
       constructor
       (rfl);(rfl)
      have B2:=below_al B1 (.cells #[.int .i64 0,.int .i64 0] 82)
      have h9_2 : (w1.alloc (.cells #[.int .i64 0,.int .i64 0] 82)).heap[w1.heap.size]? = some (.cells #[.int .i64 0,.int .i64 0] 82):=by have h:=heap_alloc_new (w1) (.cells #[.int .i64 0,.int .i64 0] 82);rwa [show (w1).heap.size = w1.heap.size from by simp] at h
      have g9 : W.heap.size ≤ w1.heap.size:=by have h:=B1.size;(try simp at h);omega
      refine hK.out _ _ ⟨cellB B2 c0,cellB B2 c1,cellB B2 d0,cellB B2 d1⟩ (fun hHeld=>?_)
      clear hK K;refine norm_ (a':=?_) ?_ ?_;rotate_left
      ·show Act.put _ (some 8) _ = _
       simp only [Act.put,List.setIfInBounds_toArray,List.set_cons_zero,List.set_cons_succ,i64_w,i32_w];rfl
      refine two_ (i:=8) (j:=10) (Ni:=some 25) (Nj:=some 9) #[true,true,true,true,true,true,true,true,true,true,false,false,false] #[true,true,true,true,true,true,true,true,false,true,true,false,false] rfl rfl rfl rfl (by kernel_rfl) (by decide) (by decide) (fun K hK=>?_) (fun K hK=>?_)
      ·skip
       refine goesV_ eg #[.agg #[.int .i64 y0,.int .i64 y1]] (by rfl) rfl rfl (by rfl) (by simp only [List.map_toArray,List.map_cons,List.map_nil];rfl) ?_
       with_reducible refine (keys_at HK.out _ _ _).mono ?_
       rintro e w3 ⟨rfl,hb3⟩;refine ⟨_,rfl, ?_⟩;have B3:=below_trans B2 hb3;have h9_3:=(hb3.block _ (blk_lt h9_2)).trans h9_2
       refine hK.out _ _ ⟨cellB B3 c0,cellB B3 c1,cellB B3 d0,cellB B3 d1⟩ (fun hHeld=>?_)
       clear hK K;refine norm_ (a':=?_) ?_ ?_;rotate_left
       ·show Act.put _ (some 25) _ = _
        simp only [Act.put,List.setIfInBounds_toArray,List.set_cons_zero,List.set_cons_succ,i64_w,i32_w];rfl
       refine one_ (i:=10) (N:=some 9) #[true,true,true,true,true,true,true,true,true,true,true,false,false] rfl rfl (by kernel_rfl) (by decide) (fun K hK=>?_)
       refine value_ (w1:=?_) (v:=?_) (by rfl) rfl ?_ ?_
       rotate_left 2
       ·go_simp
        constructor
        (rfl);(rfl)
       have B4:=below_al B3 (.cells #[.int .i64 0,.int .i64 0] 82)
       have h10_4 : (w3.alloc (.cells #[.int .i64 0,.int .i64 0] 82)).heap[w3.heap.size]? = some (.cells #[.int .i64 0,.int .i64 0] 82):=by have h:=heap_alloc_new (w3) (.cells #[.int .i64 0,.int .i64 0] 82);rwa [show (w3).heap.size = w3.heap.size from by simp] at h
       have g10 : W.heap.size ≤ w3.heap.size:=by have h:=B3.size;(try simp at h);omega
       have h9_4:=(Below.heap_alloc (w3) (.cells #[.int .i64 0,.int .i64 0] 82) _ (blk_lt h9_3)).trans h9_3
       have hne : w1.heap.size ≠ w3.heap.size:=by have h:=blk_lt h9_3;(try simp at h);omega
       refine hK.out _ _ ⟨cellB B4 c0,cellB B4 c1,cellB B4 d0,cellB B4 d1⟩ (fun hHeld=>?_)
       clear hK K;refine norm_ (a':=?_) ?_ ?_;rotate_left
       ·show Act.put _ (some 9) _ = _
        simp only [Act.put,List.setIfInBounds_toArray,List.set_cons_zero,List.set_cons_succ,i64_w,i32_w];rfl
       exact norm_ (by simp only [putAll,Act.put,List.setIfInBounds_toArray,List.set_cons_zero,List.set_cons_succ]) (hCont (w1.heap.size,w3.heap.size) _ ⟨B4,h9_4,h10_4,hne,g9,g10⟩)
      ·skip
       refine value_ (w1:=?_) (v:=?_) (by rfl) rfl ?_ ?_
       rotate_left 2
       ·go_simp
        constructor
        (rfl);(rfl)
       have B3:=below_al B2 (.cells #[.int .i64 0,.int .i64 0] 82)
       have h10_3 : ((w1.alloc (.cells #[.int .i64 0,.int .i64 0] 82)).alloc (.cells #[.int .i64 0,.int .i64 0] 82)).heap[w1.heap.size + 1]? = some (.cells #[.int .i64 0,.int .i64 0] 82):=by have h:=heap_alloc_new ((w1.alloc (.cells #[.int .i64 0,.int .i64 0] 82))) (.cells #[.int .i64 0,.int .i64 0] 82);rwa [show ((w1.alloc (.cells #[.int .i64 0,.int .i64 0] 82))).heap.size = w1.heap.size + 1 from by simp] at h
       have g10 : W.heap.size ≤ w1.heap.size + 1:=by have h:=B2.size;(try simp at h);omega
       have h9_3:=(Below.heap_alloc ((w1.alloc (.cells #[.int .i64 0,.int .i64 0] 82))) (.cells #[.int .i64 0,.int .i64 0] 82) _ (blk_lt h9_2)).trans h9_2
       have hne : w1.heap.size ≠ w1.heap.size + 1:=by have h:=blk_lt h9_2;(try simp at h);omega
       refine hK.out _ _ ⟨cellB B3 c0,cellB B3 c1,cellB B3 d0,cellB B3 d1⟩ (fun hHeld=>?_)
       clear hK K;refine norm_ (a':=?_) ?_ ?_;rotate_left
       ·show Act.put _ (some 9) _ = _
        simp only [Act.put,List.setIfInBounds_toArray,List.set_cons_zero,List.set_cons_succ,i64_w,i32_w];rfl
       refine one_ (i:=8) (N:=some 25) #[true,true,true,true,true,true,true,true,true,true,true,false,false] rfl rfl (by kernel_rfl) (by decide) (fun K hK=>?_)
       refine goesV_ eg #[.agg #[.int .i64 y0,.int .i64 y1]] (by rfl) rfl rfl (by rfl) (by simp only [List.map_toArray,List.map_cons,List.map_nil];rfl) ?_
       with_reducible refine (keys_at HK.out _ _ _).mono ?_
       rintro e w4 ⟨rfl,hb4⟩;refine ⟨_,rfl, ?_⟩;have B4:=below_trans B3 hb4;have h9_4:=(hb4.block _ (blk_lt h9_3)).trans h9_3;have h10_4:=(hb4.block _ (blk_lt h10_3)).trans h10_3
       refine hK.out _ _ ⟨cellB B4 c0,cellB B4 c1,cellB B4 d0,cellB B4 d1⟩ (fun hHeld=>?_)
       clear hK K;refine norm_ (a':=?_) ?_ ?_;rotate_left
       ·show Act.put _ (some 25) _ = _
        simp only [Act.put,List.setIfInBounds_toArray,List.set_cons_zero,List.set_cons_succ,i64_w,i32_w];rfl
       exact norm_ (by simp only [putAll,Act.put,List.setIfInBounds_toArray,List.set_cons_zero,List.set_cons_succ]) (hCont (w1.heap.size,w1.heap.size + 1) _ ⟨B4,h9_4,h10_4,hne,g9,g10⟩)
     ·skip
      refine value_ (w1:=?_) (v:=?_) (by rfl) rfl ?_ ?_
      rotate_left 2
      ·go_simp
       constructor
       (rfl);(rfl)
      have B2:=below_al B1 (.cells #[.int .i64 0,.int .i64 0] 82)
      have h10_2 : (w1.alloc (.cells #[.int .i64 0,.int .i64 0] 82)).heap[w1.heap.size]? = some (.cells #[.int .i64 0,.int .i64 0] 82):=by have h:=heap_alloc_new (w1) (.cells #[.int .i64 0,.int .i64 0] 82);rwa [show (w1).heap.size = w1.heap.size from by simp] at h
      have g10 : W.heap.size ≤ w1.heap.size:=by have h:=B1.size;(try simp at h);omega
      refine hK.out _ _ ⟨cellB B2 c0,cellB B2 c1,cellB B2 d0,cellB B2 d1⟩ (fun hHeld=>?_)
      clear hK K;refine norm_ (a':=?_) ?_ ?_;rotate_left
      ·show Act.put _ (some 9) _ = _
       simp only [Act.put,List.setIfInBounds_toArray,List.set_cons_zero,List.set_cons_succ,i64_w,i32_w];rfl
      refine two_ (i:=8) (j:=9) (Ni:=some 25) (Nj:=some 8) #[true,true,true,true,true,true,true,true,true,false,true,false,false] #[true,true,true,true,true,true,true,true,false,true,true,false,false] rfl rfl rfl rfl (by kernel_rfl) (by decide) (by decide) (fun K hK=>?_) (fun K hK=>?_)
      ·skip
       refine goesV_ eg #[.agg #[.int .i64 y0,.int .i64 y1]] (by rfl) rfl rfl (by rfl) (by simp only [List.map_toArray,List.map_cons,List.map_nil];rfl) ?_
       with_reducible refine (keys_at HK.out _ _ _).mono ?_
       rintro e w3 ⟨rfl,hb3⟩;refine ⟨_,rfl, ?_⟩;have B3:=below_trans B2 hb3;have h10_3:=(hb3.block _ (blk_lt h10_2)).trans h10_2
       refine hK.out _ _ ⟨cellB B3 c0,cellB B3 c1,cellB B3 d0,cellB B3 d1⟩ (fun hHeld=>?_)
       clear hK K;refine norm_ (a':=?_) ?_ ?_;rotate_left
       ·show Act.put _ (some 25) _ = _
        simp only [Act.put,List.setIfInBounds_toArray,List.set_cons_zero,List.set_cons_succ,i64_w,i32_w];rfl
       refine one_ (i:=9) (N:=some 8) #[true,true,true,true,true,true,true,true,true,true,true,false,false] rfl rfl (by kernel_rfl) (by decide) (fun K hK=>?_)
       refine value_ (w1:=?_) (v:=?_) (by rfl) rfl ?_ ?_
       rotate_left 2
       ·go_simp
        constructor
        (rfl);(rfl)
       have B4:=below_al B3 (.cells #[.int .i64 0,.int .i64 0] 82)
       have h9_4 : (w3.alloc (.cells #[.int .i64 0,.int .i64 0] 82)).heap[w3.heap.size]? = some (.cells #[.int .i64 0,.int .i64 0] 82):=by have h:=heap_alloc_new (w3) (.cells #[.int .i64 0,.int .i64 0] 82);rwa [show (w3).heap.size = w3.heap.size from by simp] at h
       have g9 : W.heap.size ≤ w3.heap.size:=by have h:=B3.size;(try simp at h);omega
       have h10_4:=(Below.heap_alloc (w3) (.cells #[.int .i64 0,.int .i64 0] 82) _ (blk_lt h10_3)).trans h10_3
       have hne : w3.heap.size ≠ w1.heap.size:=by have h:=blk_lt h10_3;(try simp at h);omega
       refine hK.out _ _ ⟨cellB B4 c0,cellB B4 c1,cellB B4 d0,cellB B4 d1⟩ (fun hHeld=>?_)
       clear hK K;refine norm_ (a':=?_) ?_ ?_;rotate_left
       ·show Act.put _ (some 8) _ = _
        simp only [Act.put,List.setIfInBounds_toArray,List.set_cons_zero,List.set_cons_succ,i64_w,i32_w];rfl
       exact norm_ (by simp only [putAll,Act.put,List.setIfInBounds_toArray,List.set_cons_zero,List.set_cons_succ]) (hCont (w3.heap.size,w1.heap.size) _ ⟨B4,h9_4,h10_4,hne,g9,g10⟩)
      ·skip
       refine value_ (w1:=?_) (v:=?_) (by rfl) rfl ?_ ?_
       rotate_left 2
       ·go_simp
        constructor
        (rfl);(rfl)
       have B3:=below_al B2 (.cells #[.int .i64 0,.int .i64 0] 82)
       have h9_3 : ((w1.alloc (.cells #[.int .i64 0,.int .i64 0] 82)).alloc (.cells #[.int .i64 0,.int .i64 0] 82)).heap[w1.heap.size + 1]? = some (.cells #[.int .i64 0,.int .i64 0] 82):=by have h:=heap_alloc_new ((w1.alloc (.cells #[.int .i64 0,.int .i64 0] 82))) (.cells #[.int .i64 0,.int .i64 0] 82);rwa [show ((w1.alloc (.cells #[.int .i64 0,.int .i64 0] 82))).heap.size = w1.heap.size + 1 from by simp] at h
       have g9 : W.heap.size ≤ w1.heap.size + 1:=by have h:=B2.size;(try simp at h);omega
       have h10_3:=(Below.heap_alloc ((w1.alloc (.cells #[.int .i64 0,.int .i64 0] 82))) (.cells #[.int .i64 0,.int .i64 0] 82) _ (blk_lt h10_2)).trans h10_2
       have hne : w1.heap.size + 1 ≠ w1.heap.size:=by have h:=blk_lt h10_2;(try simp at h);omega
       refine hK.out _ _ ⟨cellB B3 c0,cellB B3 c1,cellB B3 d0,cellB B3 d1⟩ (fun hHeld=>?_)
       clear hK K;refine norm_ (a':=?_) ?_ ?_;rotate_left
       ·show Act.put _ (some 8) _ = _
        simp only [Act.put,List.setIfInBounds_toArray,List.set_cons_zero,List.set_cons_succ,i64_w,i32_w];rfl
       refine one_ (i:=8) (N:=some 25) #[true,true,true,true,true,true,true,true,true,true,true,false,false] rfl rfl (by kernel_rfl) (by decide) (fun K hK=>?_)
       refine goesV_ eg #[.agg #[.int .i64 y0,.int .i64 y1]] (by rfl) rfl rfl (by rfl) (by simp only [List.map_toArray,List.map_cons,List.map_nil];rfl) ?_
       with_reducible refine (keys_at HK.out _ _ _).mono ?_
       rintro e w4 ⟨rfl,hb4⟩;refine ⟨_,rfl, ?_⟩;have B4:=below_trans B3 hb4;have h9_4:=(hb4.block _ (blk_lt h9_3)).trans h9_3;have h10_4:=(hb4.block _ (blk_lt h10_3)).trans h10_3
       refine hK.out _ _ ⟨cellB B4 c0,cellB B4 c1,cellB B4 d0,cellB B4 d1⟩ (fun hHeld=>?_)
       clear hK K;refine norm_ (a':=?_) ?_ ?_;rotate_left
       ·show Act.put _ (some 25) _ = _
        simp only [Act.put,List.setIfInBounds_toArray,List.set_cons_zero,List.set_cons_succ,i64_w,i32_w];rfl
       exact norm_ (by simp only [putAll,Act.put,List.setIfInBounds_toArray,List.set_cons_zero,List.set_cons_succ]) (hCont (w1.heap.size + 1,w1.heap.size) _ ⟨B4,h9_4,h10_4,hne,g9,g10⟩)
    ·skip
     refine value_ (w1:=?_) (v:=?_) (by rfl) rfl ?_ ?_
     rotate_left 2
     ·go_simp
      constructor
      (rfl);(rfl)
     have B1:=below_al B0 (.cells #[.int .i64 0,.int .i64 0] 82)
     have h9_1 : (W.drew.alloc (.cells #[.int .i64 0,.int .i64 0] 82)).heap[W.heap.size]? = some (.cells #[.int .i64 0,.int .i64 0] 82):=by have h:=heap_alloc_new (W.drew) (.cells #[.int .i64 0,.int .i64 0] 82);rwa [show (W.drew).heap.size = W.heap.size from by simp] at h
     have g9 : W.heap.size ≤ W.heap.size:=by have h:=B0.size;(try simp at h);omega
     refine hK.out _ _ ⟨cellB B1 c0,cellB B1 c1,cellB B1 d0,cellB B1 d1⟩ (fun hHeld=>?_)
     clear hK K;refine norm_ (a':=?_) ?_ ?_;rotate_left
     ·show Act.put _ (some 8) _ = _
      simp only [Act.put,List.setIfInBounds_toArray,List.set_cons_zero,List.set_cons_succ,i64_w,i32_w];rfl
     refine two_ (i:=2) (j:=10) (Ni:=some 19) (Nj:=some 9) #[true,true,true,true,true,true,true,true,false,true,false,false,false] #[true,true,false,true,true,true,true,true,false,true,true,false,false] rfl rfl rfl rfl (by kernel_rfl) (by decide) (by decide) (fun K hK=>?_) (fun K hK=>?_)
     ·skip
      refine goesV_ eg #[.agg #[.int .i64 x0,.int .i64 x1]] (by rfl) rfl rfl (by rfl) (by simp only [List.map_toArray,List.map_cons,List.map_nil];rfl) ?_
      with_reducible refine (keys_at HK.out _ _ _).mono ?_
      rintro e w2 ⟨rfl,hb2⟩;refine ⟨_,rfl, ?_⟩;have B2:=below_trans B1 hb2;have h9_2:=(hb2.block _ (blk_lt h9_1)).trans h9_1
      refine hK.out _ _ ⟨cellB B2 c0,cellB B2 c1,cellB B2 d0,cellB B2 d1⟩ (fun hHeld=>?_)
      clear hK K;refine norm_ (a':=?_) ?_ ?_;rotate_left
      ·show Act.put _ (some 19) _ = _
       simp only [Act.put,List.setIfInBounds_toArray,List.set_cons_zero,List.set_cons_succ,i64_w,i32_w];rfl
      refine two_ (i:=8) (j:=10) (Ni:=some 25) (Nj:=some 9) #[true,true,true,true,true,true,true,true,true,true,false,false,false] #[true,true,true,true,true,true,true,true,false,true,true,false,false] rfl rfl rfl rfl (by kernel_rfl) (by decide) (by decide) (fun K hK=>?_) (fun K hK=>?_)
      ·skip
       refine goesV_ eg #[.agg #[.int .i64 y0,.int .i64 y1]] (by rfl) rfl rfl (by rfl) (by simp only [List.map_toArray,List.map_cons,List.map_nil];rfl) ?_
       with_reducible refine (keys_at HK.out _ _ _).mono ?_
       rintro e w3 ⟨rfl,hb3⟩;refine ⟨_,rfl, ?_⟩;have B3:=below_trans B2 hb3;have h9_3:=(hb3.block _ (blk_lt h9_2)).trans h9_2
       refine hK.out _ _ ⟨cellB B3 c0,cellB B3 c1,cellB B3 d0,cellB B3 d1⟩ (fun hHeld=>?_)
       clear hK K;refine norm_ (a':=?_) ?_ ?_;rotate_left
       ·show Act.put _ (some 25) _ = _
        simp only [Act.put,List.setIfInBounds_toArray,List.set_cons_zero,List.set_cons_succ,i64_w,i32_w];rfl
       refine one_ (i:=10) (N:=some 9) #[true,true,true,true,true,true,true,true,true,true,true,false,false] rfl rfl (by kernel_rfl) (by decide) (fun K hK=>?_)
       refine value_ (w1:=?_) (v:=?_) (by rfl) rfl ?_ ?_
       rotate_left 2
       ·go_simp
        constructor
        (rfl);(rfl)
       have B4:=below_al B3 (.cells #[.int .i64 0,.int .i64 0] 82)
       have h10_4 : (w3.alloc (.cells #[.int .i64 0,.int .i64 0] 82)).heap[w3.heap.size]? = some (.cells #[.int .i64 0,.int .i64 0] 82):=by have h:=heap_alloc_new (w3) (.cells #[.int .i64 0,.int .i64 0] 82);rwa [show (w3).heap.size = w3.heap.size from by simp] at h
       have g10 : W.heap.size ≤ w3.heap.size:=by have h:=B3.size;(try simp at h);omega
       have h9_4:=(Below.heap_alloc (w3) (.cells #[.int .i64 0,.int .i64 0] 82) _ (blk_lt h9_3)).trans h9_3
       have hne : W.heap.size ≠ w3.heap.size:=by have h:=blk_lt h9_3;(try simp at h);omega
       refine hK.out _ _ ⟨cellB B4 c0,cellB B4 c1,cellB B4 d0,cellB B4 d1⟩ (fun hHeld=>?_)
       clear hK K;refine norm_ (a':=?_) ?_ ?_;rotate_left
       ·show Act.put _ (some 9) _ = _
        simp only [Act.put,List.setIfInBounds_toArray,List.set_cons_zero,List.set_cons_succ,i64_w,i32_w];rfl
       exact norm_ (by simp only [putAll,Act.put,List.setIfInBounds_toArray,List.set_cons_zero,List.set_cons_succ]) (hCont (W.heap.size,w3.heap.size) _ ⟨B4,h9_4,h10_4,hne,g9,g10⟩)
      ·skip
       refine value_ (w1:=?_) (v:=?_) (by rfl) rfl ?_ ?_
       rotate_left 2
       ·go_simp
        constructor
        (rfl);(rfl)
       have B3:=below_al B2 (.cells #[.int .i64 0,.int .i64 0] 82)
       have h10_3 : (w2.alloc (.cells #[.int .i64 0,.int .i64 0] 82)).heap[w2.heap.size]? = some (.cells #[.int .i64 0,.int .i64 0] 82):=by have h:=heap_alloc_new (w2) (.cells #[.int .i64 0,.int .i64 0] 82);rwa [show (w2).heap.size = w2.heap.size from by simp] at h
       have g10 : W.heap.size ≤ w2.heap.size:=by have h:=B2.size;(try simp at h);omega
       have h9_3:=(Below.heap_alloc (w2) (.cells #[.int .i64 0,.int .i64 0] 82) _ (blk_lt h9_2)).trans h9_2
       have hne : W.heap.size ≠ w2.heap.size:=by have h:=blk_lt h9_2;(try simp at h);omega
       refine hK.out _ _ ⟨cellB B3 c0,cellB B3 c1,cellB B3 d0,cellB B3 d1⟩ (fun hHeld=>?_)
       clear hK K;refine norm_ (a':=?_) ?_ ?_;rotate_left
       ·show Act.put _ (some 9) _ = _
        simp only [Act.put,List.setIfInBounds_toArray,List.set_cons_zero,List.set_cons_succ,i64_w,i32_w];rfl
       refine one_ (i:=8) (N:=some 25) #[true,true,true,true,true,true,true,true,true,true,true,false,false] rfl rfl (by kernel_rfl) (by decide) (fun K hK=>?_)
       refine goesV_ eg #[.agg #[.int .i64 y0,.int .i64 y1]] (by rfl) rfl rfl (by rfl) (by simp only [List.map_toArray,List.map_cons,List.map_nil];rfl) ?_
       with_reducible refine (keys_at HK.out _ _ _).mono ?_
       rintro e w4 ⟨rfl,hb4⟩;refine ⟨_,rfl, ?_⟩;have B4:=below_trans B3 hb4;have h9_4:=(hb4.block _ (blk_lt h9_3)).trans h9_3;have h10_4:=(hb4.block _ (blk_lt h10_3)).trans h10_3
       refine hK.out _ _ ⟨cellB B4 c0,cellB B4 c1,cellB B4 d0,cellB B4 d1⟩ (fun hHeld=>?_)
       clear hK K;refine norm_ (a':=?_) ?_ ?_;rotate_left
       ·show Act.put _ (some 25) _ = _
        simp only [Act.put,List.setIfInBounds_toArray,List.set_cons_zero,List.set_cons_succ,i64_w,i32_w];rfl
       exact norm_ (by simp only [putAll,Act.put,List.setIfInBounds_toArray,List.set_cons_zero,List.set_cons_succ]) (hCont (W.heap.size,w2.heap.size) _ ⟨B4,h9_4,h10_4,hne,g9,g10⟩)
     ·skip
      refine value_ (w1:=?_) (v:=?_) (by rfl) rfl ?_ ?_
      rotate_left 2
      ·go_simp
       constructor
       (rfl);(rfl)
      have B2:=below_al B1 (.cells #[.int .i64 0,.int .i64 0] 82)
      have h10_2 : ((W.drew.alloc (.cells #[.int .i64 0,.int .i64 0] 82)).alloc (.cells #[.int .i64 0,.int .i64 0] 82)).heap[W.heap.size + 1]? = some (.cells #[.int .i64 0,.int .i64 0] 82):=by have h:=heap_alloc_new ((W.drew.alloc (.cells #[.int .i64 0,.int .i64 0] 82))) (.cells #[.int .i64 0,.int .i64 0] 82);rwa [show ((W.drew.alloc (.cells #[.int .i64 0,.int .i64 0] 82))).heap.size = W.heap.size + 1 from by simp] at h
      have g10 : W.heap.size ≤ W.heap.size + 1:=by have h:=B1.size;(try simp at h);omega
      have h9_2:=(Below.heap_alloc ((W.drew.alloc (.cells #[.int .i64 0,.int .i64 0] 82))) (.cells #[.int .i64 0,.int .i64 0] 82) _ (blk_lt h9_1)).trans h9_1
      have hne : W.heap.size ≠ W.heap.size + 1:=by have h:=blk_lt h9_1;(try simp at h);omega
      refine hK.out _ _ ⟨cellB B2 c0,cellB B2 c1,cellB B2 d0,cellB B2 d1⟩ (fun hHeld=>?_)
      clear hK K;refine norm_ (a':=?_) ?_ ?_;rotate_left
      ·show Act.put _ (some 9) _ = _
       simp only [Act.put,List.setIfInBounds_toArray,List.set_cons_zero,List.set_cons_succ,i64_w,i32_w];rfl
      refine one_ (i:=2) (N:=some 19) #[true,true,true,true,true,true,true,true,false,true,true,false,false] rfl rfl (by kernel_rfl) (by decide) (fun K hK=>?_)
      refine goesV_ eg #[.agg #[.int .i64 x0,.int .i64 x1]] (by rfl) rfl rfl (by rfl) (by simp only [List.map_toArray,List.map_cons,List.map_nil];rfl) ?_
      with_reducible refine (keys_at HK.out _ _ _).mono ?_
      rintro e w3 ⟨rfl,hb3⟩;refine ⟨_,rfl, ?_⟩;have B3:=below_trans B2 hb3;have h9_3:=(hb3.block _ (blk_lt h9_2)).trans h9_2;have h10_3:=(hb3.block _ (blk_lt h10_2)).trans h10_2
      refine hK.out _ _ ⟨cellB B3 c0,cellB B3 c1,cellB B3 d0,cellB B3 d1⟩ (fun hHeld=>?_)
      clear hK K;refine norm_ (a':=?_) ?_ ?_;rotate_left
      ·show Act.put _ (some 19) _ = _
       simp only [Act.put,List.setIfInBounds_toArray,List.set_cons_zero,List.set_cons_succ,i64_w,i32_w];rfl
      refine one_ (i:=8) (N:=some 25) #[true,true,true,true,true,true,true,true,true,true,true,false,false] rfl rfl (by kernel_rfl) (by decide) (fun K hK=>?_)
      refine goesV_ eg #[.agg #[.int .i64 y0,.int .i64 y1]] (by rfl) rfl rfl (by rfl) (by simp only [List.map_toArray,List.map_cons,List.map_nil];rfl) ?_
      with_reducible refine (keys_at HK.out _ _ _).mono ?_
      rintro e w4 ⟨rfl,hb4⟩;refine ⟨_,rfl, ?_⟩;have B4:=below_trans B3 hb4;have h9_4:=(hb4.block _ (blk_lt h9_3)).trans h9_3;have h10_4:=(hb4.block _ (blk_lt h10_3)).trans h10_3
      refine hK.out _ _ ⟨cellB B4 c0,cellB B4 c1,cellB B4 d0,cellB B4 d1⟩ (fun hHeld=>?_)
      clear hK K;refine norm_ (a':=?_) ?_ ?_;rotate_left
      ·show Act.put _ (some 25) _ = _
       simp only [Act.put,List.setIfInBounds_toArray,List.set_cons_zero,List.set_cons_succ,i64_w,i32_w];rfl
      exact norm_ (by simp only [putAll,Act.put,List.setIfInBounds_toArray,List.set_cons_zero,List.set_cons_succ]) (hCont (W.heap.size,W.heap.size + 1) _ ⟨B4,h9_4,h10_4,hne,g9,g10⟩)
    ·skip
     refine value_ (w1:=?_) (v:=?_) (by rfl) rfl ?_ ?_
     rotate_left 2
     ·go_simp
      constructor
      (rfl);(rfl)
     have B1:=below_al B0 (.cells #[.int .i64 0,.int .i64 0] 82)
     have h10_1 : (W.drew.alloc (.cells #[.int .i64 0,.int .i64 0] 82)).heap[W.heap.size]? = some (.cells #[.int .i64 0,.int .i64 0] 82):=by have h:=heap_alloc_new (W.drew) (.cells #[.int .i64 0,.int .i64 0] 82);rwa [show (W.drew).heap.size = W.heap.size from by simp] at h
     have g10 : W.heap.size ≤ W.heap.size:=by have h:=B0.size;(try simp at h);omega
     refine hK.out _ _ ⟨cellB B1 c0,cellB B1 c1,cellB B1 d0,cellB B1 d1⟩ (fun hHeld=>?_)
     clear hK K;refine norm_ (a':=?_) ?_ ?_;rotate_left
     ·show Act.put _ (some 9) _ = _
      simp only [Act.put,List.setIfInBounds_toArray,List.set_cons_zero,List.set_cons_succ,i64_w,i32_w];rfl
     refine two_ (i:=2) (j:=9) (Ni:=some 19) (Nj:=some 8) #[true,true,true,true,true,true,true,true,false,false,true,false,false] #[true,true,false,true,true,true,true,true,false,true,true,false,false] rfl rfl rfl rfl (by kernel_rfl) (by decide) (by decide) (fun K hK=>?_) (fun K hK=>?_)
     ·skip
      refine goesV_ eg #[.agg #[.int .i64 x0,.int .i64 x1]] (by rfl) rfl rfl (by rfl) (by simp only [List.map_toArray,List.map_cons,List.map_nil];rfl) ?_
      with_reducible refine (keys_at HK.out _ _ _).mono ?_
      rintro e w2 ⟨rfl,hb2⟩;refine ⟨_,rfl, ?_⟩;have B2:=below_trans B1 hb2;have h10_2:=(hb2.block _ (blk_lt h10_1)).trans h10_1
      refine hK.out _ _ ⟨cellB B2 c0,cellB B2 c1,cellB B2 d0,cellB B2 d1⟩ (fun hHeld=>?_)
      clear hK K;refine norm_ (a':=?_) ?_ ?_;rotate_left
      ·show Act.put _ (some 19) _ = _
       simp only [Act.put,List.setIfInBounds_toArray,List.set_cons_zero,List.set_cons_succ,i64_w,i32_w];rfl
      refine two_ (i:=8) (j:=9) (Ni:=some 25) (Nj:=some 8) #[true,true,true,true,true,true,true,true,true,false,true,false,false] #[true,true,true,true,true,true,true,true,false,true,true,false,false] rfl rfl rfl rfl (by kernel_rfl) (by decide) (by decide) (fun K hK=>?_) (fun K hK=>?_)
      ·skip
       refine goesV_ eg #[.agg #[.int .i64 y0,.int .i64 y1]] (by rfl) rfl rfl (by rfl) (by simp only [List.map_toArray,List.map_cons,List.map_nil];rfl) ?_
       with_reducible refine (keys_at HK.out _ _ _).mono ?_
       rintro e w3 ⟨rfl,hb3⟩;refine ⟨_,rfl, ?_⟩;have B3:=below_trans B2 hb3;have h10_3:=(hb3.block _ (blk_lt h10_2)).trans h10_2
       refine hK.out _ _ ⟨cellB B3 c0,cellB B3 c1,cellB B3 d0,cellB B3 d1⟩ (fun hHeld=>?_)
       clear hK K;refine norm_ (a':=?_) ?_ ?_;rotate_left
       ·show Act.put _ (some 25) _ = _
        simp only [Act.put,List.setIfInBounds_toArray,List.set_cons_zero,List.set_cons_succ,i64_w,i32_w];rfl
       refine one_ (i:=9) (N:=some 8) #[true,true,true,true,true,true,true,true,true,true,true,false,false] rfl rfl (by kernel_rfl) (by decide) (fun K hK=>?_)
       refine value_ (w1:=?_) (v:=?_) (by rfl) rfl ?_ ?_
       rotate_left 2
       ·go_simp
        constructor
        (rfl);(rfl)
       have B4:=below_al B3 (.cells #[.int .i64 0,.int .i64 0] 82)
       have h9_4 : (w3.alloc (.cells #[.int .i64 0,.int .i64 0] 82)).heap[w3.heap.size]? = some (.cells #[.int .i64 0,.int .i64 0] 82):=by have h:=heap_alloc_new (w3) (.cells #[.int .i64 0,.int .i64 0] 82);rwa [show (w3).heap.size = w3.heap.size from by simp] at h
       have g9 : W.heap.size ≤ w3.heap.size:=by have h:=B3.size;(try simp at h);omega
       have h10_4:=(Below.heap_alloc (w3) (.cells #[.int .i64 0,.int .i64 0] 82) _ (blk_lt h10_3)).trans h10_3
       have hne : w3.heap.size ≠ W.heap.size:=by have h:=blk_lt h10_3;(try simp at h);omega
       refine hK.out _ _ ⟨cellB B4 c0,cellB B4 c1,cellB B4 d0,cellB B4 d1⟩ (fun hHeld=>?_)
       clear hK K;refine norm_ (a':=?_) ?_ ?_;rotate_left
       ·show Act.put _ (some 8) _ = _
        simp only [Act.put,List.setIfInBounds_toArray,List.set_cons_zero,List.set_cons_succ,i64_w,i32_w];rfl
       exact norm_ (by simp only [putAll,Act.put,List.setIfInBounds_toArray,List.set_cons_zero,List.set_cons_succ]) (hCont (w3.heap.size,W.heap.size) _ ⟨B4,h9_4,h10_4,hne,g9,g10⟩)
      ·skip
       refine value_ (w1:=?_) (v:=?_) (by rfl) rfl ?_ ?_
       rotate_left 2
       ·go_simp
        constructor
        (rfl);(rfl)
       have B3:=below_al B2 (.cells #[.int .i64 0,.int .i64 0] 82)
       have h9_3 : (w2.alloc (.cells #[.int .i64 0,.int .i64 0] 82)).heap[w2.heap.size]? = some (.cells #[.int .i64 0,.int .i64 0] 82):=by have h:=heap_alloc_new (w2) (.cells #[.int .i64 0,.int .i64 0] 82);rwa [show (w2).heap.size = w2.heap.size from by simp] at h
       have g9 : W.heap.size ≤ w2.heap.size:=by have h:=B2.size;(try simp at h);omega
       have h10_3:=(Below.heap_alloc (w2) (.cells #[.int .i64 0,.int .i64 0] 82) _ (blk_lt h10_2)).trans h10_2
       have hne : w2.heap.size ≠ W.heap.size:=by have h:=blk_lt h10_2;(try simp at h);omega
       refine hK.out _ _ ⟨cellB B3 c0,cellB B3 c1,cellB B3 d0,cellB B3 d1⟩ (fun hHeld=>?_)
       clear hK K;refine norm_ (a':=?_) ?_ ?_;rotate_left
       ·show Act.put _ (some 8) _ = _
        simp only [Act.put,List.setIfInBounds_toArray,List.set_cons_zero,List.set_cons_succ,i64_w,i32_w];rfl
       refine one_ (i:=8) (N:=some 25) #[true,true,true,true,true,true,true,true,true,true,true,false,false] rfl rfl (by kernel_rfl) (by decide) (fun K hK=>?_)
       refine goesV_ eg #[.agg #[.int .i64 y0,.int .i64 y1]] (by rfl) rfl rfl (by rfl) (by simp only [List.map_toArray,List.map_cons,List.map_nil];rfl) ?_
       with_reducible refine (keys_at HK.out _ _ _).mono ?_
       rintro e w4 ⟨rfl,hb4⟩;refine ⟨_,rfl, ?_⟩;have B4:=below_trans B3 hb4;have h9_4:=(hb4.block _ (blk_lt h9_3)).trans h9_3;have h10_4:=(hb4.block _ (blk_lt h10_3)).trans h10_3
       refine hK.out _ _ ⟨cellB B4 c0,cellB B4 c1,cellB B4 d0,cellB B4 d1⟩ (fun hHeld=>?_)
       clear hK K;refine norm_ (a':=?_) ?_ ?_;rotate_left
       ·show Act.put _ (some 25) _ = _
        simp only [Act.put,List.setIfInBounds_toArray,List.set_cons_zero,List.set_cons_succ,i64_w,i32_w];rfl
       exact norm_ (by simp only [putAll,Act.put,List.setIfInBounds_toArray,List.set_cons_zero,List.set_cons_succ]) (hCont (w2.heap.size,W.heap.size) _ ⟨B4,h9_4,h10_4,hne,g9,g10⟩)
     ·skip
      refine value_ (w1:=?_) (v:=?_) (by rfl) rfl ?_ ?_
      rotate_left 2
      ·go_simp
       constructor
       (rfl);(rfl)
      have B2:=below_al B1 (.cells #[.int .i64 0,.int .i64 0] 82)
      have h9_2 : ((W.drew.alloc (.cells #[.int .i64 0,.int .i64 0] 82)).alloc (.cells #[.int .i64 0,.int .i64 0] 82)).heap[W.heap.size + 1]? = some (.cells #[.int .i64 0,.int .i64 0] 82):=by have h:=heap_alloc_new ((W.drew.alloc (.cells #[.int .i64 0,.int .i64 0] 82))) (.cells #[.int .i64 0,.int .i64 0] 82);rwa [show ((W.drew.alloc (.cells #[.int .i64 0,.int .i64 0] 82))).heap.size = W.heap.size + 1 from by simp] at h
      have g9 : W.heap.size ≤ W.heap.size + 1:=by have h:=B1.size;(try simp at h);omega
      have h10_2:=(Below.heap_alloc ((W.drew.alloc (.cells #[.int .i64 0,.int .i64 0] 82))) (.cells #[.int .i64 0,.int .i64 0] 82) _ (blk_lt h10_1)).trans h10_1
      have hne : W.heap.size + 1 ≠ W.heap.size:=by have h:=blk_lt h10_1;(try simp at h);omega
      refine hK.out _ _ ⟨cellB B2 c0,cellB B2 c1,cellB B2 d0,cellB B2 d1⟩ (fun hHeld=>?_)
      clear hK K;refine norm_ (a':=?_) ?_ ?_;rotate_left
      ·show Act.put _ (some 8) _ = _
       simp only [Act.put,List.setIfInBounds_toArray,List.set_cons_zero,List.set_cons_succ,i64_w,i32_w];rfl
      refine one_ (i:=2) (N:=some 19) #[true,true,true,true,true,true,true,true,false,true,true,false,false] rfl rfl (by kernel_rfl) (by decide) (fun K hK=>?_)
      refine goesV_ eg #[.agg #[.int .i64 x0,.int .i64 x1]] (by rfl) rfl rfl (by rfl) (by simp only [List.map_toArray,List.map_cons,List.map_nil];rfl) ?_
      with_reducible refine (keys_at HK.out _ _ _).mono ?_
      rintro e w3 ⟨rfl,hb3⟩;refine ⟨_,rfl, ?_⟩;have B3:=below_trans B2 hb3;have h9_3:=(hb3.block _ (blk_lt h9_2)).trans h9_2;have h10_3:=(hb3.block _ (blk_lt h10_2)).trans h10_2
      refine hK.out _ _ ⟨cellB B3 c0,cellB B3 c1,cellB B3 d0,cellB B3 d1⟩ (fun hHeld=>?_)
      clear hK K;refine norm_ (a':=?_) ?_ ?_;rotate_left
      ·show Act.put _ (some 19) _ = _
       simp only [Act.put,List.setIfInBounds_toArray,List.set_cons_zero,List.set_cons_succ,i64_w,i32_w];rfl
      refine one_ (i:=8) (N:=some 25) #[true,true,true,true,true,true,true,true,true,true,true,false,false] rfl rfl (by kernel_rfl) (by decide) (fun K hK=>?_)
      refine goesV_ eg #[.agg #[.int .i64 y0,.int .i64 y1]] (by rfl) rfl rfl (by rfl) (by simp only [List.map_toArray,List.map_cons,List.map_nil];rfl) ?_
      with_reducible refine (keys_at HK.out _ _ _).mono ?_
      rintro e w4 ⟨rfl,hb4⟩;refine ⟨_,rfl, ?_⟩;have B4:=below_trans B3 hb4;have h9_4:=(hb4.block _ (blk_lt h9_3)).trans h9_3;have h10_4:=(hb4.block _ (blk_lt h10_3)).trans h10_3
      refine hK.out _ _ ⟨cellB B4 c0,cellB B4 c1,cellB B4 d0,cellB B4 d1⟩ (fun hHeld=>?_)
      clear hK K;refine norm_ (a':=?_) ?_ ?_;rotate_left
      ·show Act.put _ (some 25) _ = _
       simp only [Act.put,List.setIfInBounds_toArray,List.set_cons_zero,List.set_cons_succ,i64_w,i32_w];rfl
      exact norm_ (by simp only [putAll,Act.put,List.setIfInBounds_toArray,List.set_cons_zero,List.set_cons_succ]) (hCont (W.heap.size + 1,W.heap.size) _ ⟨B4,h9_4,h10_4,hne,g9,g10⟩)
   rintro ⟨b8,b9⟩ w5 ⟨B5,h8,h9,hne,g8,g9⟩
   dsimp only at h8 h9 hne g8 g9
   have hHeld : w5.cell? ⟨wr.heap.size,0,none⟩ = some (.int .i64 x0) ∧ w5.cell? ⟨wr.heap.size,1,none⟩ = some (.int .i64 x1) ∧ w5.cell? (ad.add (b * 2)) = some (.int .i64 y0) ∧ w5.cell? ⟨(ad.add (b * 2)).block,(ad.add (b * 2)).off + 1,none⟩ = some (.int .i64 y1):=⟨cellB B5 c0,cellB B5 c1,cellB B5 d0,cellB B5 d1⟩
   refine norm_ (a':=?_) ?_ ?_;rotate_left;(simp only [putAll,Act.put,List.setIfInBounds_toArray,List.set_cons_zero,List.set_cons_succ];rfl)
   refine last_ (i:=11) (N:=none) #[true,true,true,true,true,true,true,true,true,true,true,true,false] rfl rfl (by kernel_rfl) (by decide) (fun K hK=>?_)
   refine skip_ (w1:=w5.setRow b8 #[.int .i64 (k0 x0 x1),.int .i64 (k1 x0 x1)]) (by rfl) rfl ?_ ?_
   (exact store_row_run 82 _ _ rfl rfl rfl (store82 w5 b8 _ _ h8))
   refine hK.out _ _ ?_
   clear hK K
   refine last_ (i:=12) (N:=none) #[true,true,true,true,true,true,true,true,true,true,true,true,true] rfl rfl (by kernel_rfl) (by decide) (fun K hK=>?_)
   refine skip_ (w1:=(w5.setRow b8 #[.int .i64 (k0 x0 x1),.int .i64 (k1 x0 x1)]).setRow b9 #[.int .i64 (k0 y0 y1),.int .i64 (k1 y0 y1)]) (by rfl) rfl ?_ ?_
   (exact store_row_run 82 _ _ rfl rfl rfl (store82 _ b9 _ _ ((setRow_other _ _ _ _ (Ne.symm hne)).trans h9)))
   refine hK.out _ _ ?_
   clear hK K
   refine done_ (by kernel_rfl) ?_
   have hX:=below_row (below_row B5 g8 #[.int .i64 (k0 x0 x1),.int .i64 (k1 x0 x1)]) g9 #[.int .i64 (k0 y0 y1),.int .i64 (k1 y0 y1)];have h8' : ((w5.setRow b8 #[.int .i64 (k0 x0 x1),.int .i64 (k1 x0 x1)]).setRow b9 #[.int .i64 (k0 y0 y1),.int .i64 (k1 y0 y1)]).heap[b8]? = some (.cells #[.int .i64 (k0 x0 x1),.int .i64 (k1 x0 x1)] 82):=(setRow_other _ _ _ _ hne).trans (setRow_heap _ _ _ _ _ _ h8);have h9' : ((w5.setRow b8 #[.int .i64 (k0 x0 x1),.int .i64 (k1 x0 x1)]).setRow b9 #[.int .i64 (k0 y0 y1),.int .i64 (k1 y0 y1)]).heap[b9]? = some (.cells #[.int .i64 (k0 y0 y1),.int .i64 (k1 y0 y1)] 82):=setRow_heap _ _ _ _ _ _ ((setRow_other _ _ _ _ (Ne.symm hne)).trans h9);clear hHeld h8 h9 hne g8 g9 B5 c0 c1 d0 d1 B0;generalize ((w5.setRow b8 #[.int .i64 (k0 x0 x1),.int .i64 (k1 x0 x1)]).setRow b9 #[.int .i64 (k0 y0 y1),.int .i64 (k1 y0 y1)]) = X at hX h8' h9' ⊢;have HX:=aside (below_trans HBW.out hX);have HE':=HE.out;clear hX HBW HE;generalize k0 x0 x1 = p0 at *;generalize k1 x0 x1 = p1 at *;generalize k0 y0 y1 = r0 at *;generalize k1 y0 y1 = r1 at *
   have m0 : X.cell? ⟨b8,0,none⟩ = some (.int .i64 p0):=by rw [cell_of_row X b8 0 _ _ _ h8'];rfl
   have m1 : X.cell? ⟨b8,1,none⟩ = some (.int .i64 p1):=by rw [cell_of_row X b8 1 _ _ _ h8'];rfl
   have m2 : X.cell? ⟨b9,0,none⟩ = some (.int .i64 r0):=by rw [cell_of_row X b9 0 _ _ _ h9'];rfl
   have m3 : X.cell? ⟨b9,1,none⟩ = some (.int .i64 r1):=by rw [cell_of_row X b9 1 _ _ _ h9'];rfl
   clear h8' h9';have HE:=aside HE';clear HE';have B10:=below_dr (Below.refl _ X)
   go_upto_region 6 with fail
   refine start_ (n:=13) (S:=fun w'=>w'.cell? ⟨b8,0,none⟩ = some (.int .i64 p0) ∧ w'.cell? ⟨b8,1,none⟩ = some (.int .i64 p1) ∧ w'.cell? ⟨b9,0,none⟩ = some (.int .i64 r0) ∧ w'.cell? ⟨b9,1,none⟩ = some (.int .i64 r1)) (ds:=[]) #[false,false,false,false,false,false,false,false,false,false,false,false,false] (by kernel_rfl) rfl rfl ⟨cellB B10 m0,cellB B10 m1,cellB B10 m2,cellB B10 m3⟩ (fun hHeld=>?_)
   refine pure_ (i:=0) (N:=some 26) (v:=?_) (a':=?_) #[true,false,false,false,false,false,false,false,false,false,false,false,false] rfl rfl (by kernel_rfl) (fun _ _ _ h=>h) (Or.inl ⟨by rfl, ?_⟩) ?_ ?_;rotate_left;(intro w';go_simp;with_reducible rfl);rotate_left;(simp only [Act.put,List.setIfInBounds_toArray,List.set_cons_zero,List.set_cons_succ,i64_w,i32_w];rfl);refine pure_ (i:=2) (N:=some 28) (v:=?_) (a':=?_) #[true,false,true,false,false,false,false,false,false,false,false,false,false] rfl rfl (by kernel_rfl) (fun _ _ _ h=>h) (Or.inl ⟨by rfl, ?_⟩) ?_ ?_;rotate_left;(intro w';go_simp;with_reducible rfl);rotate_left;(simp only [Act.put,List.setIfInBounds_toArray,List.set_cons_zero,List.set_cons_succ,i64_w,i32_w];rfl);refine pure_ (i:=5) (N:=some 31) (v:=?_) (a':=?_) #[true,false,true,false,false,true,false,false,false,false,false,false,false] rfl rfl (by kernel_rfl) (fun _ _ _ h=>h) (Or.inl ⟨by rfl, ?_⟩) ?_ ?_;rotate_left;(intro w';go_simp;with_reducible rfl);rotate_left;(simp only [Act.put,List.setIfInBounds_toArray,List.set_cons_zero,List.set_cons_succ,i64_w,i32_w];rfl);refine pure_ (i:=7) (N:=some 33) (v:=?_) (a':=?_) #[true,false,true,false,false,true,false,true,false,false,false,false,false] rfl rfl (by kernel_rfl) (fun _ _ _ h=>h) (Or.inl ⟨by rfl, ?_⟩) ?_ ?_;rotate_left;(intro w';go_simp;with_reducible rfl);rotate_left;(simp only [Act.put,List.setIfInBounds_toArray,List.set_cons_zero,List.set_cons_succ,i64_w,i32_w];rfl);refine take_ (i:=1) (N:=some 27) (v:=?_) (a':=?_) #[true,true,true,false,false,true,false,true,false,false,false,false,false] rfl rfl (by kernel_rfl) (fun _ _ _ h=>h) (Or.inl ⟨by rfl, ?_⟩) hHeld ?_ ?_;rotate_left;(rintro w' ⟨s0,s1,s2,s3⟩;go_simp;with_reducible rfl);rotate_left;(simp only [Act.put,List.setIfInBounds_toArray,List.set_cons_zero,List.set_cons_succ,i64_w,i32_w];rfl);refine take_ (i:=3) (N:=some 29) (v:=?_) (a':=?_) #[true,true,true,true,false,true,false,true,false,false,false,false,false] rfl rfl (by kernel_rfl) (fun _ _ _ h=>h) (Or.inl ⟨by rfl, ?_⟩) hHeld ?_ ?_;rotate_left;(rintro w' ⟨s0,s1,s2,s3⟩;go_simp;with_reducible rfl);rotate_left;(simp only [Act.put,List.setIfInBounds_toArray,List.set_cons_zero,List.set_cons_succ,i64_w,i32_w];rfl);refine take_ (i:=6) (N:=some 32) (v:=?_) (a':=?_) #[true,true,true,true,false,true,true,true,false,false,false,false,false] rfl rfl (by kernel_rfl) (fun _ _ _ h=>h) (Or.inl ⟨by rfl, ?_⟩) hHeld ?_ ?_;rotate_left;(rintro w' ⟨s0,s1,s2,s3⟩;go_simp;with_reducible rfl);rotate_left;(simp only [Act.put,List.setIfInBounds_toArray,List.set_cons_zero,List.set_cons_succ,i64_w,i32_w];rfl);refine take_ (i:=8) (N:=some 34) (v:=?_) (a':=?_) #[true,true,true,true,false,true,true,true,true,false,false,false,false] rfl rfl (by kernel_rfl) (fun _ _ _ h=>h) (Or.inl ⟨by rfl, ?_⟩) hHeld ?_ ?_;rotate_left;(rintro w' ⟨s0,s1,s2,s3⟩;go_simp;with_reducible rfl);rotate_left;(simp only [Act.put,List.setIfInBounds_toArray,List.set_cons_zero,List.set_cons_succ,i64_w,i32_w];rfl);refine one_ (i:=4) (N:=some 30) #[true,true,true,true,true,true,true,true,true,false,false,false,false] rfl rfl (by kernel_rfl) (by decide) (fun K hK=>?_);refine goes_ Try.func85 (by kernel_rfl) rfl #[.int .i64 p0,.int .i64 r0] (by rfl) rfl rfl (by simp only [List.map_toArray,List.map_cons,List.map_nil];rfl) ?_
   with_reducible refine (cmp_Compare_int.calls _ _ _ _ (cmpC _ _)).mono ?_
   rintro e w11 ⟨rfl,hd11⟩;refine ⟨_,rfl, ?_⟩;have B11:=below_trans B10 hd11.below
   refine hK.out _ _ ⟨cellB B11 m0,cellB B11 m1,cellB B11 m2,cellB B11 m3⟩ (fun hHeld=>?_)
   clear hK K;refine norm_ (a':=?_) ?_ ?_;rotate_left
   ·show Act.put _ (some 30) _ = _
    simp only [Act.put,List.setIfInBounds_toArray,List.set_cons_zero,List.set_cons_succ,i64_w,i32_w];rfl
   refine one_ (i:=9) (N:=some 35) #[true,true,true,true,true,true,true,true,true,true,false,false,false] rfl rfl (by kernel_rfl) (by decide) (fun K hK=>?_);refine goes_ Try.func85 (by kernel_rfl) rfl #[.int .i64 p1,.int .i64 r1] (by rfl) rfl rfl (by simp only [List.map_toArray,List.map_cons,List.map_nil];rfl) ?_
   with_reducible refine (cmp_Compare_int.calls _ _ _ _ (cmpC _ _)).mono ?_
   rintro e w12 ⟨rfl,hd12⟩;refine ⟨_,rfl, ?_⟩;have B12:=below_trans B11 hd12.below
   refine hK.out _ _ ⟨cellB B12 m0,cellB B12 m1,cellB B12 m2,cellB B12 m3⟩ (fun hHeld=>?_)
   clear hK K;refine norm_ (a':=?_) ?_ ?_;rotate_left
   ·show Act.put _ (some 35) _ = _
    simp only [Act.put,List.setIfInBounds_toArray,List.set_cons_zero,List.set_cons_succ,i64_w,i32_w];rfl
   refine one_ (i:=10) (N:=some 36) #[true,true,true,true,true,true,true,true,true,true,true,false,false] rfl rfl (by kernel_rfl) (by decide) (fun K hK=>?_)
   refine value_ (w1:=?_) (v:=?_) (by rfl) rfl ?_ ?_
   rotate_left 2
   ·go_simp
    constructor
    (rfl);(rfl)
   have B13:=below_al B12 (.cells #[.int .i64 (cmpI p0 r0),.int .i64 (cmpI p1 r1)] 3)
   refine hK.out _ _ ⟨cellB B13 m0,cellB B13 m1,cellB B13 m2,cellB B13 m3⟩ (fun hHeld=>?_)
   clear hK K;refine norm_ (a':=?_) ?_ ?_;rotate_left
   ·show Act.put _ (some 36) _ = _
    simp only [Act.put,List.setIfInBounds_toArray,List.set_cons_zero,List.set_cons_succ,i64_w,i32_w];rfl
   refine one_ (i:=11) (N:=some 37) #[true,true,true,true,true,true,true,true,true,true,true,true,false] rfl rfl (by kernel_rfl) (by decide) (fun K hK=>?_);refine goes_ Try.func84 (by kernel_rfl) rfl #[.slice (some ⟨w12.heap.size,0,none⟩) 2 2] (by rfl) rfl rfl (by simp only [List.map_toArray,List.map_cons,List.map_nil];rfl) ?_
   with_reducible refine (or_two w12 (cmpI p0 r0) (cmpI p1 r1)).mono ?_
   rintro e w14 ⟨rfl,hd14⟩;refine ⟨_,rfl, ?_⟩;have B14:=below_trans B13 hd14.below
   refine hK.out _ _ ⟨cellB B14 m0,cellB B14 m1,cellB B14 m2,cellB B14 m3⟩ (fun hHeld=>?_)
   clear hK K;refine norm_ (a':=?_) ?_ ?_;rotate_left
   ·show Act.put _ (some 37) _ = _
    simp only [Act.put,List.setIfInBounds_toArray,List.set_cons_zero,List.set_cons_succ,i64_w,i32_w];rfl
   refine pure_ (i:=12) (N:=some 38) (v:=?_) (a':=?_) #[true,true,true,true,true,true,true,true,true,true,true,true,true] rfl rfl (by kernel_rfl) (fun _ _ _ h=>h) (Or.inl ⟨by rfl, ?_⟩) ?_ ?_;rotate_left;(intro w';go_simp;with_reducible rfl);rotate_left;(simp only [Act.put,List.setIfInBounds_toArray,List.set_cons_zero,List.set_cons_succ,i64_w,i32_w];rfl)
   refine done_ (by kernel_rfl) ?_
   have HZ:=aside (below_trans HX.out B14);clear hHeld m0 m1 m2 m3 B10 B11 B12 B13 B14 HX hd11 hd12 hd14;have hd:=key_lt p0 p1 r0 r1
   obtain ⟨t,ht⟩ : ∃ t,keyLt p0 p1 r0 r1 = t:=⟨_,rfl⟩
   rw [ht] at hd;have HT:=aside ht;clear ht;generalize orI (cmpI p0 r0) (cmpI p1 r1) = z at *
   cases t with
   | true =>
    have hz : z < 0:=by simpa using hd
    go_wp2
    go_roundg (l.length - (n + 1))
    case measure=>omega
    case rel=>exact ⟨n + 1,n,by omega,by omega,by go_num,rfl,(show _ = _ by rw [HE.out,if_pos HT.out]),HZ.out⟩
   | false =>
    have hz : ¬ z < 0:=by simpa using hd
    go_wp2
    go_roundg (l.length - (n + 1))
    case measure=>omega
    case rel=>exact ⟨n + 1,b,by omega,by omega,by go_num,rfl,(show _ = _ by rw [HE.out,if_neg (by rw [HT.out];simp)]),HZ.out⟩
  ·obtain rfl : n = l.length:=by omega
   go_wp2
   go_ret
   exact ⟨ok_i64 (by rw [E.out]),B.out⟩
end Go.Proofs.Ytnjikioimompnaa.PA
