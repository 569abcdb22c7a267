import Derived.Test.YtdnjagfbhppmbaaGe
import Derived.Test.YtdnjagfbhppmbaaGp
import Derived.Test.YtdnjagfbhppmbaaGu
import Derived.Test.YtdnjagfbhppmbaaPAx13
namespace Go.Proofs.Ytdnjagfbhppmbaa.PA
open Go.RowKit Go.Shelf Go.Proofs.YtdnjagfbhppmbaaW.PrintWords Go.Proofs.YtdnjagfbhppmbaaW.PrintLast Go.Proofs.YtdnjagfbhppmbaaW.PrintMore
set_option linter.unusedVariables false
set_option linter.unusedSimpArgs false
set_option maxHeartbeats 400000 in
theorem idx92 (p : Int → Bool) (g : Nat) (lb : Array Value) (eg : ∀ args w, (callFunc g args).run Try.prog w = .ok (.enter g args) w) (A : Option Addr) (c : Nat) (l : List Int) (w : World) (hr : Kd.C (Kd.int .i64) w A l.length l) (hp : PredI l g lb p w) :
  Calls Try.prog 92 #[.slice A l.length c,.func (.func g) #[] lb] w fun e w'=>e = .returned (.int .i64 (idxOf p l)) ∧ Below w.heap.size w w':=by
 have hm:=Kd.C_max hr;have HR:=aside hr;have HP:=aside hp;clear hr hp
 go_enter Try.func92,Try.ntmps92
 go_wp2
 go_loopg [8] l.length (fun gg v wr=>∃ n : Nat,n ≤ l.length ∧ l.length - n ≤ gg ∧ v = .int .i64 n ∧ Aside (∀ j (h : j < l.length),j < n → p l[j] = false) ∧ Aside (Below w.heap.size w wr))
 case atStart=>exact ⟨0,by omega,by omega,rfl,(show Aside _ from fun j h hj=>absurd hj (Nat.not_lt_zero _)),Below.refl _ _⟩
 case round =>
  obtain ⟨n,hn,hg,rfl,A1,B⟩ := hrel;by_cases hlt : n < l.length
  ·have hlt' : (n : Int) < (l.length : Int):=by omega
   obtain ⟨ad,hA,q0⟩ := Kd.at_int (Kd.C_below HR.out B.out) (n : Int) (by omega) (by omega)
   have hx : rd l (n : Int) = l[n] := by unfold rd;simp [List.getD,hlt]
   rw [hx] at q0;simp only [Int.toNat_natCast] at q0;have hcall:=HP.out wr l[n] (List.getElem_mem hlt) B.out
   obtain ⟨y,hy⟩ : ∃ y,l[n] = y:=⟨_,rfl⟩
   rw [hy] at q0 hcall;have HY:=aside hy;clear hx hy HP;subst hA
   cases hq : p y with
   | true =>
    rw [hq] at hcall;have HQ:=aside hq;clear hq
    go_wp2_with (go_at_fn g;refine hcall.mono ?_;rintro e w' ⟨rfl,hb'⟩)
    go_ret
    exact ⟨ret_i64 (by rw [idxOf_hit p l n hlt (by rw [HY.out];exact HQ.out) A1.out]),B.out.trans (hb'.mono B.out.size)⟩
   | false =>
    rw [hq] at hcall;have HQ:=aside hq;clear hq
    go_wp2_with (go_at_fn g;refine hcall.mono ?_;rintro e w' ⟨rfl,hb'⟩)
    go_roundg (l.length - (n + 1))
    case measure=>omega
    case rel =>
     refine ⟨n + 1,by omega,by omega,by go_num,(show Aside _ from fun j h hj=>?_),B.out.trans (hb'.mono B.out.size)⟩
     by_cases e : j = n
     (subst e;rw [HY.out];exact HQ.out);(exact A1.out j h (by omega))
  ·obtain rfl : n = l.length:=by omega
   go_wp2
   go_ret
   exact ⟨ret_i64 (by rw [idxOf_miss p l (fun j h=>A1.out j h h)]),B.out⟩
set_option maxHeartbeats 400000 in
theorem any81 (p : Int → Bool) (g : Nat) (lb : Array Value) (eg : ∀ args w, (callFunc g args).run Try.prog w = .ok (.enter g args) w) (A : Option Addr) (c : Nat) (l : List Int) (w : World) (hr : Kd.C (Kd.int .i64) w A l.length l) (hp : PredI l g lb p w) :
  Calls Try.prog 81 #[.slice A l.length c,.func (.func g) #[] lb] w fun e w'=>e = .returned (.bool (l.any p)) ∧ Below w.heap.size w w':=by
 have HI:=aside (idx92 p g lb eg A c l w hr hp);have ha:=idxOf_any p l;generalize l.any p = q at ha ⊢;generalize idxOf p l = i at ha HI;subst ha;clear hp hr
 go_enter Try.func81,Try.ntmps81
 go_wp2_with (go_at_call 92;refine HI.out.mono ?_;rintro e w1 ⟨rfl,hb⟩)
 go_ret
 exact ⟨rfl,hb⟩
set_option maxHeartbeats 400000 in
theorem c82_any (n : Int) (w : World) : Calls Try.prog 82 #[.int .i64 n] w fun e w'=>e = .returned (.bool (decide (1 < n))) ∧ Below w.heap.size w w':=by
 go_enter Try.func82,Try.ntmps82
 go_wp2
 go_ret
 exact ⟨rfl,Below.refl _ _⟩
theorem eg82 : ∀ args w,(callFunc 82 args).run Try.prog w = .ok (.enter 82 args) w:=enters_of Try.func82 (by kernel_rfl) rfl
theorem contains0_ev (l : List Int) (hl : l.length ≤ 1000000) : ∀ (m i : Nat),l.length - i = m → i ≤ l.length → ∃ K,∀ k,K ≤ k → ∃ r,slices_Index_int_int.l0 k l 0 (l.length : Int) (i : Int) = some r ∧ decide (r ≥ 0) = (l.drop i).any (· == 0):=by
 intro m
 induction m with
 | zero =>
  intro i hm hi
  refine ⟨1,fun k hk=>⟨-1, ?_, ?_⟩⟩
  ·obtain ⟨k,rfl⟩ : ∃ k',k = k' + 1:=⟨k - 1,by omega⟩
   rw [slices_Index_int_int.l0,if_neg (by omega)]
  (rw [List.drop_of_length_le (by omega)];rfl)
 | succ m ih =>
  intro i hm hi
  have hlt : i < l.length:=by omega
  have hr : rd l (i : Int) = l[i] := by unfold rd;simp [hlt]
  obtain ⟨K,hK⟩ := ih (i + 1) (by omega) (by omega);by_cases h0 : l[i] = 0
  ·refine ⟨1,fun k hk=>⟨i, ?_, ?_⟩⟩
   ·obtain ⟨k,rfl⟩ : ∃ k',k = k' + 1:=⟨k - 1,by omega⟩
    rw [slices_Index_int_int.l0,if_pos (by omega)]
    simp [hr,h0,hlt]
   ·rw [List.drop_eq_getElem_cons hlt,List.any_cons,h0]
    simp
  ·refine ⟨K + 1,fun k hk=>?_⟩
   obtain ⟨k,rfl⟩ : ∃ k',k = k' + 1:=⟨k - 1,by omega⟩
   obtain ⟨r,h1,h2⟩ := hK k (by omega)
   refine ⟨r, ?_, ?_⟩
   ·rw [slices_Index_int_int.l0,if_pos (by omega)]
    have hw : wrap64 ((i : Int) + 1) = ((i + 1 : Nat) : Int):=by unfold wrap64;omega
    have h0' : ¬ (0 : Int) = l[i] := fun e=>h0 e.symm
    simp [hr,h0',hlt,hw]
    simpa using h1
   ·rw [List.drop_eq_getElem_cons hlt,List.any_cons,h2]
    simp [h0]
theorem contains0_any (A : Option Addr) (c : Nat) (l : List Int) (w : World) (hr : Kd.C (Kd.int .i64) w A l.length l) (hc : l.length ≤ c) (hl : l.length ≤ 1000000) :
  Calls Try.prog 83 #[.slice A l.length c,.int .i64 0] w fun e w'=>e = .returned (.bool (l.any (· == 0))) ∧ Below w.heap.size w w':=by
 obtain ⟨K,hK⟩ := contains0_ev l hl _ 0 rfl (by omega);obtain ⟨r,h1,h2⟩ := hK K (Nat.le_refl _)
 have hf : slices_Contains_int_int.f K l 0 = some (l.any (· == 0)):=by
  unfold slices_Contains_int_int.f slices_Index_int_int.f
  rw [show (0 : Int) = ((0 : Nat) : Int) from rfl] at *;rw [h1,Option.bind_some,h2,List.drop_zero]
 exact (slices_Contains_int_int.calls K A c l 0 _ w hr hc hf).mono fun e w' ⟨h1,h2⟩=>⟨h1,h2.below⟩
def nodeErr (ns : List S59) (j : Nat) : Int:=nodeR (rd_T59 ns (j : Int)) (j : Int) (ns.length : Int)
def firstErr (ns : List S59) : Int:=((List.range ns.length).map (nodeErr ns)).foldr (fun e r=>if e = 0 then r else e) 0
def bump (f : Nat → Int) (k : Nat) : Nat → Int:=fun x=>if x = k then f x + 1 else f x
def parF (ns : List S59) : Nat → Nat → Int
 | 0=>fun _=>0
 | j + 1=>if (rd_T59 ns (j : Int)).f0 = 3 then bump (bump (parF ns j) (rd_T59 ns (j : Int)).f5.toNat) (rd_T59 ns (j : Int)).f6.toNat else parF ns j
def parL (ns : List S59) : List Int:=(List.range ns.length).map (parF ns ns.length)
def shapeR (ns : List S59) : Int:=if 1024 < ns.length then 7 else if firstErr ns = 0 then (if (parL ns).any (fun n=>decide (1 < n)) = true then 5 else if ((parL ns).drop 1).any (· == 0) = true then 1 else 0) else firstErr ns
theorem firstErr_zero (ns : List S59) (h : ∀ j,j < ns.length → nodeErr ns j = 0) : firstErr ns = 0:=by
 unfold firstErr
 have h2 : ∀ l : List Int,(∀ e ∈ l,e = 0) → l.foldr (fun e r=>if e = 0 then r else e) 0 = 0:=by
  intro l
  induction l with
  | nil=>intro _;rfl
  | cons a t ih=>intro h;rw [List.foldr_cons,if_pos (h a List.mem_cons_self)];exact ih (fun e he=>h e (List.mem_cons_of_mem _ he))
 refine h2 _ (fun e he=>?_)
 obtain ⟨j,hj,rfl⟩ := List.mem_map.1 he;exact h j (List.mem_range.1 hj)
theorem firstErr_at (ns : List S59) (n : Nat) (hn : n < ns.length) (h : ∀ j,j < n → nodeErr ns j = 0) (h2 : nodeErr ns n ≠ 0) : firstErr ns = nodeErr ns n:=by
 unfold firstErr
 have e : List.range ns.length = List.range n ++ n :: (List.range' (n + 1) (ns.length - n - 1)):=by
  rw [List.range_eq_range',List.range_eq_range',show ns.length = n + (1 + (ns.length - n - 1)) by omega,← List.range'_append_1,← List.range'_append_1]
  simp [List.range'_one]
 have h3 : ∀ (l : List Int) (r : Int),(∀ e ∈ l,e = 0) → l.foldr (fun e r=>if e = 0 then r else e) r = r:=by
  intro l r
  induction l with
  | nil=>intro _;rfl
  | cons a t ih=>intro h;rw [List.foldr_cons,if_pos (h a List.mem_cons_self)];exact ih (fun e he=>h e (List.mem_cons_of_mem _ he))
 rw [e,List.map_append,List.foldr_append,h3,List.map_cons,List.foldr_cons,if_neg h2];intro e he;obtain ⟨j,hj,rfl⟩ := List.mem_map.1 he;exact h j (List.mem_range.1 hj)
theorem parF_bd (ns : List S59) : ∀ (j x : Nat),0 ≤ parF ns j x ∧ parF ns j x ≤ 2 * j
 | 0,x=>by simp [parF]
 | j + 1,x=>by
  have ih:=parF_bd ns j;rw [parF]
  split
  ·unfold bump
   split
   ·split
    ·have:=ih x;omega
    ·have:=ih x;omega
   ·split
    ·have:=ih x;omega
    ·have:=ih x;omega
  ·have:=ih x;omega
theorem ints_R3 {w : World} {base b n : Nat} {f : Nat → Int} {ok : Nat → Prop} (hh : w.heap[b]? = some (.cells (intsA f n) 3 (0, 0))) (hb : base ≤ b) (hn : n ≤ 9223372036854775807) (hok : ok b) :
  (Kd.int .i64).R 3 w base ok (.slice (some ⟨b,0,none⟩) n n) ((List.range n).map f):=by
 refine ⟨fun k hk=>?_,(intsA f n).toList,⟨by show _ = _ * 1;simp [intsA],.inr ⟨b,n,intsA f n,by simp,hb,hh,by simp,hn,by show _ = _ * 1;simp [intsA], ?_⟩⟩,by simp [intsA,Kd.int,Kd.scalar], ?_⟩
 ·have : b = k:=by simpa [Value.ownBlock] using hk
  subst this;exact hok
 ·apply List.take_of_length_le;show _ ≤ List.length _ * 1;simp [intsA]
 ·intro j p hj
  have hjn : j < n:=by
   have:=(List.getElem?_eq_some_iff.1 hj).1
   simpa using this
  have hp : p = f j:=by
   have h2 : ((List.range n).map f)[j]? = some (f j):=by simp [hjn]
   rw [h2] at hj;exact (Option.some.inj hj).symm
  subst hp
  show List.take (Kd.int .i64).sz (List.drop (j * (Kd.int .i64).sz) (intsA f n).toList) = [Value.int .i64 (f j)]
  have e1 : (Kd.int .i64).sz = 1:=rfl;rw [e1,Nat.mul_one]
  have h3 : (intsA f n).toList[j]? = some (.int .i64 (f j)):=by
   rw [Array.getElem?_toList];exact intsA_get f n j hjn
  have hl : j < (intsA f n).toList.length:=by simpa [intsA] using hjn
  rw [List.drop_eq_getElem_cons hl]
  have h4 : (intsA f n).toList[j] = .int .i64 (f j):=by
   rw [List.getElem?_eq_getElem hl] at h3;exact Option.some.inj h3
  rw [h4];rfl
theorem ints_C {w : World} {b n : Nat} {f : Nat → Int} (hh : w.heap[b]? = some (.cells (intsA f n) 3 (0,0))) (hn : n ≤ 9223372036854775807) : Kd.C (Kd.int .i64) w (some ⟨b,0,none⟩) ((List.range n).map f).length ((List.range n).map f) :=
 (Kd.R_reads' (ints_R3 (base:=0) (ok:=fun _=>True) hh (Nat.zero_le _) hn trivial)).2.2
theorem nodeErr_cut (ns : List S59) (n : Nat) (h : nodeErr ns n = 0) : (rd_T59 ns (n : Int)).f0 = 3 → ((n : Int) < (rd_T59 ns (n : Int)).f5 ∧ (rd_T59 ns (n : Int)).f5 < (ns.length : Int)) ∧ ((n : Int) < (rd_T59 ns (n : Int)).f6 ∧ (rd_T59 ns (n : Int)).f6 < (ns.length : Int)):=by
 intro hk
 unfold nodeErr nodeR cutR at h
 rw [if_pos hk] at h;by_cases e1 : (rd_T59 ns (n : Int)).f1.toList.isEmpty = true
 ·rw [if_pos e1] at h;by_cases e2 : (rd_T59 ns (n : Int)).f2 < 0
  ·rw [if_pos e2] at h;cases h
  ·rw [if_neg e2] at h;by_cases e3 : 2 < (rd_T59 ns (n : Int)).f2
   ·rw [if_pos e3] at h;cases h
   ·rw [if_neg e3] at h;by_cases e5 : partB (rd_T59 ns (n : Int)).f5 (n : Int) (ns.length : Int) = true
    ·rw [if_pos e5] at h;by_cases e6 : partB (rd_T59 ns (n : Int)).f6 (n : Int) (ns.length : Int) = true
     ·unfold partB at e5 e6
      simpa using And.intro e5 e6
     ·rw [if_neg e6] at h;cases h
    ·rw [if_neg e5] at h;cases h
 ·rw [if_neg e1] at h;cases h
theorem intsA_bump (f : Nat → Int) (n k : Nat) : (intsA f n).setIfInBounds k (.int .i64 (f k + 1)) = intsA (bump f k) n:=intsA_set f (bump f k) n k _ (fun b _=>by unfold bump;split <;> simp_all)
set_option maxRecDepth 100000 in
set_option maxHeartbeats 4000000 in
theorem shape_any (A : Option Addr) (c : Nat) (ns : List S59) (w : World) (hr : Kd.C k59 w A ns.length ns) (hs : ∀ x ∈ ns, x.f1.size ≤ 9223372036854775807) (h0 : 0 < ns.length) :
  Calls Try.prog 71 #[.slice A ns.length c] w fun e w'=>e = .returned (.int .i64 (shapeR ns)) ∧ Below w.heap.size w w':=by
 have hm:=Kd.C_max hr;have HR:=aside hr;have HS:=aside hs;clear hr hs;by_cases hbig : 1024 < ns.length
 ·have hbig' : (1024 : Int) < (ns.length : Int):=by omega
  have hy : shapeR ns = 7:=by unfold shapeR;rw [if_pos hbig]
  rw [hy];clear hy hm h0
  go_enter Try.func71,Try.ntmps71
  go_wp2
  go_ret
  exact ⟨rfl,Below.refl _ _⟩
 have hsm : ns.length ≤ 1024:=by omega
 have hlt1 : ¬ ((1024 : Int) < (ns.length : Int)):=by omega
 have hy : shapeR ns = if firstErr ns = 0 then (if (parL ns).any (fun n=>decide (1 < n)) = true then 5 else if ((parL ns).drop 1).any (· == 0) = true then 1 else 0) else firstErr ns:=by unfold shapeR;rw [if_neg hbig]
 rw [hy];have HH0:=aside h0;clear hy hbig h0;generalize hans : (if firstErr ns = 0 then (if (parL ns).any (fun n=>decide (1 < n)) = true then 5 else if ((parL ns).drop 1).any (· == 0) = true then 1 else 0) else firstErr ns : Int) = ans;have HA:=aside hans;clear hans
 have hidx : ∀ n : Nat,n < ns.length → rd_T59 ns (n : Int) ∈ ns:=by
  intro n hn
  unfold rd_T59
  simp [hn]
 have HI:=aside hidx;clear hidx
 go_enter Try.func71,Try.ntmps71
 go_wp2
 go_loopg [14] ns.length (fun gg v wr=>∃ n : Nat,n ≤ ns.length ∧ ns.length - n ≤ gg ∧ v = .int .i64 n ∧ Aside (∀ j,j < n → nodeErr ns j = 0) ∧ Aside (Below w.heap.size w wr))
 case atStart=>exact ⟨0,by omega,by omega,rfl,(show Aside _ from fun j hj=>absurd hj (Nat.not_lt_zero _)),Below.refl _ _⟩
 case round =>
  obtain ⟨n,hn,hg,rfl,A1,B⟩ := hrel;by_cases hlt : n < ns.length
  ·have hlt' : (n : Int) < (ns.length : Int):=by omega
   obtain ⟨ad,hA,n0,n1,n2,n3,n4,n5,n6⟩ := at_T59 (Kd.C_below HR.out B.out) (n : Int) (by omega) (by omega)
   have HN : Aside (∀ W : World,Calls Try.prog 80 #[e59 (rd_T59 ns (n : Int)),.int .i64 (n : Int),.int .i64 (ns.length : Int)] W fun e w'=>e = .returned (.int .i64 (nodeErr ns n)) ∧ Below W.heap.size W w'):=(show ∀ W : World,_ from fun W=>node_any _ _ _ W (HS.out _ (HI.out n hlt)))
   unfold e59 a59 at HN
   simp only [Int.toNat_natCast] at n0 n1 n2 n3 n4 n5 n6;generalize rd_T59 ns (n : Int) = nd at n0 n1 n2 n3 n4 n5 n6 HN;subst hA
   cases he : decide (nodeErr ns n = 0)
   ·have he2 : ¬ nodeErr ns n = 0:=by simpa using he
    have HE:=aside he2;generalize hq : nodeErr ns n = q at HN
    have hq1 : (q != 0) = true:=by rw [← hq];simpa using he2
    have HQ:=aside hq;clear he he2 hq
    go_wp2_with (go_at_call 80;refine (HN.out _).mono ?_;rintro e w1 ⟨rfl,hb⟩)
    go_ret
    refine ⟨ret_i64 ?_,B.out.trans ((belU (below_alloc (Below.refl _ _) _) hb).mono B.out.size)⟩
    rw [← HA.out,firstErr_at ns n hlt A1.out HE.out,if_neg HE.out];exact HQ.out.symm
   ·have he2 : nodeErr ns n = 0:=by simpa using he
    have HE:=aside he2;rw [he2] at HN;clear he he2
    go_wp2_with (go_at_call 80;refine (HN.out _).mono ?_;rintro e w1 ⟨rfl,hb⟩)
    go_roundg (ns.length - (n + 1))
    case measure=>omega
    case rel =>
     refine ⟨n + 1,by omega,by omega,by go_num,(show Aside _ from fun j hj=>?_),B.out.trans ((belU (below_alloc (Below.refl _ _) _) hb).mono B.out.size)⟩
     by_cases e : j = n
     (subst e;exact HE.out);(exact A1.out j (by omega))
  ·obtain rfl : n = ns.length:=by omega
   have F0:=aside (firstErr_zero ns A1.out);have PO:=aside A1.out;clear A1 hn hg hlt;have hmk:=print_make_any 98 3 (.int .i64 0) 8 Try.underlying98 info3 (by omega) rfl ns.length (by omega)
   go_wp2
   obtain ⟨W,hW⟩ : ∃ W,wr.alloc (.cells (madeCells #[.int .i64 0] ns.length) 3) = W:=⟨_,rfl⟩
   have hP0 : W.heap[wr.heap.size]? = some (.cells (intsA (parF ns 0) ns.length) 3 (0,0)):=by
    rw [← hW,heap_alloc_new,intsA_zero];rfl
   have hB0 : Below w.heap.size w W:=by rw [← hW];exact B.out.alloc B.out.size _
   have hbp : w.heap.size ≤ wr.heap.size:=B.out.size;rw [hW];clear hW hmk B;generalize wr.heap.size = bp at hP0 hbp ⊢;have HP0:=aside hP0;have HB0:=aside hB0;clear hP0 hB0
   go_loopg [33] ns.length (fun gg v wr=>∃ n : Nat,n ≤ ns.length ∧ ns.length - n ≤ gg ∧ v = .int .i64 n ∧ Aside (wr.heap[bp]? = some (.cells (intsA (parF ns n) ns.length) 3 (0,0))) ∧ Aside (Below w.heap.size w wr))
   case atStart=>exact ⟨0,by omega,by omega,rfl,HP0,HB0⟩
   case round =>
    obtain ⟨n,hn,hg,rfl,P,B⟩ := hrel;by_cases hlt : n < ns.length
    ·have hlt' : (n : Int) < (ns.length : Int):=by omega
     obtain ⟨ad,hA,n0,n1,n2,n3,n4,n5,n6⟩ := at_T59 (Kd.C_below HR.out B.out) (n : Int) (by omega) (by omega);have hz:=nodeErr_cut ns n (PO.out n hlt)
     have hps : parF ns (n + 1) = if (rd_T59 ns (n : Int)).f0 = 3 then bump (bump (parF ns n) (rd_T59 ns (n : Int)).f5.toNat) (rd_T59 ns (n : Int)).f6.toNat else parF ns n:=rfl
     simp only [Int.toNat_natCast] at n0 n1 n2 n3 n4 n5 n6;generalize rd_T59 ns (n : Int) = nd at n0 n1 n2 n3 n4 n5 n6 hz hps;subst hA;by_cases hk : nd.f0 = 3
     ·obtain ⟨⟨z1,z2⟩,z3,z4⟩ := hz hk;rw [if_pos hk] at hps
      obtain ⟨a,ha⟩ : ∃ a : Nat,nd.f5 = (a : Int):=⟨nd.f5.toNat,by omega⟩
      obtain ⟨b,hb⟩ : ∃ b : Nat,nd.f6 = (b : Int):=⟨nd.f6.toNat,by omega⟩
      rw [ha] at n5 hps z1 z2;rw [hb] at n6 hps z3 z4;simp only [Int.toNat_natCast] at hps
      have k1 : (nd.f0 == 3) = true:=by simpa using hk
      have PS:=aside hps;have ca : wr.cell? ⟨bp,a,none⟩ = some (.int .i64 (parF ns n a)):=(blk_cell P.out a).trans (intsA_get _ _ _ (by omega));have fa:=blk_frozen P.out a;have bl:=blk_lt P.out;have bd:=parF_bd ns n a;have PB:=aside (fun x=>parF_bd ns n x);generalize hva : parF ns n a = va at ca bd;have HVA:=aside hva
      have zz0 : (0 : Int) ≤ (a : Int):=by omega
      have v1:=bd.1
      have v2 : va ≤ 2048:=by omega
      clear hz hk hps ha hb hva bd
      go_upto_region 16 with fail
      obtain ⟨X,hX⟩ : ∃ X,(wr.setCell ⟨bp,a,none⟩ (.int .i64 (va + 1))).alloc (.cells #[.int .i64 nd.f0,.string nd.f1,.int .i64 nd.f2,.int .i64 nd.f3,.int .i64 nd.f4,.int .i64 (a : Int),.int .i64 (b : Int)] 59) = X:=⟨_,rfl⟩
      have hXb : X.heap[wr.heap.size]? = some (.cells #[.int .i64 nd.f0,.string nd.f1,.int .i64 nd.f2,.int .i64 nd.f3,.int .i64 nd.f4,.int .i64 (a : Int),.int .i64 (b : Int)] 59 (0,0)):=by
       rw [← hX];have h:=heap_alloc_new (wr.setCell ⟨bp,a,none⟩ (.int .i64 (va + 1))) (.cells #[.int .i64 nd.f0,.string nd.f1,.int .i64 nd.f2,.int .i64 nd.f3,.int .i64 nd.f4,.int .i64 (a : Int),.int .i64 (b : Int)] 59)
       rwa [show (wr.setCell ⟨bp,a,none⟩ (.int .i64 (va + 1))).heap.size = wr.heap.size by simp] at h
      have hXp : X.heap[bp]? = some (.cells (intsA (bump (parF ns n) a) ns.length) 3 (0,0)):=by
       rw [← hX,Below.heap_alloc _ _ _ (by simpa using bl),blk_set P.out a (.int .i64 (va + 1)),← HVA.out,intsA_bump]
      have hXB : Below w.heap.size w X:=by
       rw [← hX];exact (B.out.setCell (p:=⟨bp,a,none⟩) hbp _).alloc (by have:=B.out.size;simpa using this) _
      rw [hX];clear hX;have x6 : X.cell? ⟨wr.heap.size,6,none⟩ = some (.int .i64 (b : Int)):=(blk_cell hXb 6).trans rfl;have cb : X.cell? ⟨bp,b,none⟩ = some (.int .i64 (bump (parF ns n) a b)):=(blk_cell hXp b).trans (intsA_get _ _ _ (by omega));have fb:=blk_frozen hXp b;have bl2:=blk_lt hXp
      have bdb : 0 ≤ bump (parF ns n) a b ∧ bump (parF ns n) a b ≤ 2049:=by have h:=PB.out b;unfold bump;split <;> omega
      generalize hvb : bump (parF ns n) a b = vb at cb bdb;have HVB:=aside hvb;have HXP:=aside hXp;have HXB:=aside hXB;have v3:=bdb.1;have v4 : vb ≤ 2049:=bdb.2
      have zz1 : (0 : Int) ≤ (b : Int):=by omega
      clear hvb hXp hXB hXb bdb ca fa n0 n1 n2 n3 n4 n5 n6 v1 v2
      go_wp2
      go_roundg (ns.length - (n + 1))
      case measure=>omega
      case rel =>
       exact ⟨n + 1,by omega,by omega,by go_num,aside (by rw [blk_set HXP.out b (.int .i64 (vb + 1)),← HVB.out,intsA_bump,PS.out]),aside (HXB.out.setCell (p:=⟨bp,b,none⟩) hbp _)⟩
     ·have k1 : (nd.f0 == 3) = false:=by simpa using hk
      rw [if_neg hk] at hps;have PS:=aside hps;clear hz hk hps
      go_wp2
      go_roundg (ns.length - (n + 1))
      case measure=>omega
      case rel =>
       have hbw : Below wr.heap.size wr (wr.alloc (.cells #[.int .i64 nd.f0,.string nd.f1,.int .i64 nd.f2,.int .i64 nd.f3,.int .i64 nd.f4,.int .i64 nd.f5,.int .i64 nd.f6] 59)):=below_alloc (Below.refl _ _) _;exact ⟨n + 1,by omega,by omega,by go_num,aside (by rw [PS.out];exact (hbw.block _ (blk_lt P.out)).trans P.out),aside (B.out.trans (hbw.mono B.out.size))⟩
    ·obtain rfl : n = ns.length:=by omega
     have PP : Aside (wr.heap[bp]? = some (.cells (intsA (parF ns ns.length) ns.length) 3 (0,0))):=P;have hC:=ints_C PP.out (by omega)
     have hCl : (parL ns).length = ns.length:=by simp [parL]
     have hC' : Kd.C (Kd.int .i64) wr (some ⟨bp,0,none⟩) (parL ns).length (parL ns):=hC
     obtain ⟨A2,hA2⟩ : ∃ A2,(if ns.length = 1 then (some ⟨bp,0,none⟩ : Option Addr) else (some (⟨bp,0,none⟩ : Addr)).map (·.add 1)) = A2:=⟨_,rfl⟩
     have H81 : Aside (Calls Try.prog 81 #[.slice (some ⟨bp,0,none⟩) ns.length ns.length,.func (.func 82) #[] #[]] wr fun e w'=>e = .returned (.bool ((parL ns).any (fun n=>decide (1 < n)))) ∧ Below wr.heap.size wr w'):=(show Calls _ _ _ _ _ from by
      have h:=any81 (fun n=>decide (1 < n)) 82 #[] eg82 (some ⟨bp,0,none⟩) ns.length (parL ns) wr hC' (fun W' x _ _=>c82_any x W');rw [hCl] at h
      exact h)
     have H83 : Aside (∀ X,Below wr.heap.size wr X → Calls Try.prog 83 #[.slice A2 (ns.length - 1) (ns.length - 1),.int .i64 0] X fun e w'=>e = .returned (.bool (((parL ns).drop 1).any (· == 0))) ∧ Below X.heap.size X w'):=(show ∀ X,_ from fun X hb=>by
      have hd:=Kd.C_drop (m:=1) (c:=ns.length) (Kd.C_below hC' hb) (by rw [hCl];exact HH0.out) (Nat.le_of_eq hCl);have h:=contains0_any _ (ns.length - 1) ((parL ns).drop 1) X hd (Nat.le_of_eq (by rw [List.length_drop,hCl])) (by rw [List.length_drop,hCl];omega);have e1 : (if ns.length = 1 then (some ⟨bp,0,none⟩ : Option Addr) else (some (⟨bp,0,none⟩ : Addr)).map (·.add (1 * (Kd.int .i64).sz))) = A2:=hA2;rw [e1,List.length_drop,hCl] at h
      exact h)
     obtain ⟨i0,hi0,hz9,hsz1,hz8⟩ := info_parts info3
     have hcut : ∀ X : World,(Instr.slice 98 (.slice (some ⟨bp,0,none⟩) ns.length ns.length) (some (.int .i64 1)) none none).run Try.prog X = .ok (.slice A2 (ns.length - 1) (ns.length - 1)) X:=fun X=>by
      have h:=cut_from (P:=Try.prog) 98 3 .i64 Try.underlying98 hi0 1 hsz1 (some ⟨bp,0,none⟩) ns.length ns.length 1 (by omega) (by have:=HH0.out;omega) X;rw [← hA2];exact h
     have ha:=HA.out;rw [if_pos F0.out] at ha;have HBB:=aside B.out;clear hC hC' hA2 P PP hn hg hlt HR HS HI PO HA hCl B hz9 hz8 hi0 hsz1 i0
     cases ht1 : (parL ns).any (fun n=>decide (1 < n))
     ·rw [ht1] at H81 ha
      cases ht2 : ((parL ns).drop 1).any (· == 0)
      ·rw [ht2] at H83 ha;obtain rfl : (0 : Int) = ans:=ha;clear ht1 ht2
       go_wp2_with (first|(go_at_call 81;refine H81.out.mono ?_;rintro e w1 ⟨rfl,hb1⟩;have HB1:=aside hb1;clear hb1)|(go_at_call 83;refine (H83.out _ HB1.out).mono ?_;rintro e w2 ⟨rfl,hb2⟩))
       go_ret
       exact ⟨rfl,HBB.out.trans ((belU HB1.out hb2).mono HBB.out.size)⟩
      ·rw [ht2] at H83 ha;obtain rfl : (1 : Int) = ans:=ha;clear ht1 ht2
       go_wp2_with (first|(go_at_call 81;refine H81.out.mono ?_;rintro e w1 ⟨rfl,hb1⟩;have HB1:=aside hb1;clear hb1)|(go_at_call 83;refine (H83.out _ HB1.out).mono ?_;rintro e w2 ⟨rfl,hb2⟩))
       go_ret
       exact ⟨rfl,HBB.out.trans ((belU HB1.out hb2).mono HBB.out.size)⟩
     ·rw [ht1] at H81 ha;obtain rfl : (5 : Int) = ans:=ha;clear ht1
      go_wp2_with (go_at_call 81;refine H81.out.mono ?_;rintro e w1 ⟨rfl,hb1⟩)
      go_ret
      exact ⟨rfl,HBB.out.trans (hb1.mono HBB.out.size)⟩
end Go.Proofs.Ytdnjagfbhppmbaa.PA
