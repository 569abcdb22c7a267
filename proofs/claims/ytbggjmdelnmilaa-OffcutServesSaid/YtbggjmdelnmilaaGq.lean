import Derived.Test.YtbggjmdelnmilaaGf
import Derived.Test.YtbggjmdelnmilaaGg
import Derived.Test.YtbggjmdelnmilaaGo
import Derived.Test.YtbggjmdelnmilaaGp
set_option linter.unusedSimpArgs false
set_option linter.unusedVariables false
namespace Go.Proofs.Ytbggjmdelnmilaa.PA
open Go.RowKit Go.Shelf Go.Proofs.YtbggjmdelnmilaaW.PrintWords Go.Proofs.YtbggjmdelnmilaaW.PrintLast Go.Proofs.YtbggjmdelnmilaaW.PrintMore
theorem insAll_cons (l : List S39) (r : S39) (rs : List S39) : insAll l (r :: rs) = if foundB l r = true then none else insAll (putR l r) rs:=rfl
theorem insAll_nil (l : List S39) : insAll l [] = some l:=rfl
theorem blk_below' {w w1 : World} {g B : Nat} {o : Obj} (h : w.heap[g]? = some o) (hb : Below B w w1) (hg : g < B) : w1.heap[g]? = some o:=(hb.block g hg).trans h
theorem at39 {w : World} {ad : Addr} {l : List S39} (h : Kd.C k39 w (some ad) l.length l) {i : Nat} (hi : i < l.length) {x : S39} (hx : l.getD i z39 = x) : w.cell? (ad.add (i * 7)) = some (.string x.f0) ∧ w.cell? ⟨(ad.add (i * 7)).block,(ad.add (i * 7)).off + 1,none⟩ = some (.int .i64 x.f1.f0) ∧ w.cell? ⟨(ad.add (i * 7)).block,(ad.add (i * 7)).off + 2,none⟩ = some (.int .i64 x.f1.f1) ∧ w.cell? ⟨(ad.add (i * 7)).block,(ad.add (i * 7)).off + 3,none⟩ = some (.int .i64 x.f1.f2) ∧ w.cell? ⟨(ad.add (i * 7)).block,(ad.add (i * 7)).off + 4,none⟩ = some (.int .i64 x.f2) ∧ w.cell? ⟨(ad.add (i * 7)).block,(ad.add (i * 7)).off + 5,none⟩ = some (.string x.f3) ∧ w.cell? ⟨(ad.add (i * 7)).block,(ad.add (i * 7)).off + 6,none⟩ = some (.string x.f4):=by
 obtain ⟨ad',hA,q⟩ := at_T39 h (i : Int) (by omega) (by omega)
 have e : rd_T39 l (i : Int) = x:=by unfold rd_T39;rw [Int.toNat_natCast];exact hx
 rw [e] at q
 injection hA with hA
 subst hA;exact q
set_option maxHeartbeats 4000000 in
set_option maxRecDepth 100000 in
theorem take_any (A : Option Addr) (c : Nat) (l : List S39) (i : Nat) (y : S36) (k n : Int) (w : World) (hr : Kd.C k39 w A l.length l) (hlc : l.length ≤ c) (hi : i < l.length) (hs : (l.getD i z39).f0.size + 1 ≤ bigN) (ho : Ord l) (hl : (l.length + 8) * 80 ≤ 140737488355328) :
  Calls Try.prog 37 #[.slice A l.length c,.int .i64 i,.agg #[.string y.f0,.int .i64 y.f1.f0,.int .i64 y.f1.f1,.int .i64 y.f1.f2,.int .i64 y.f2,.string y.f3,.bool y.f4],.int .i64 k,.int .i64 n] w fun e w'=>∃ v : Value,e = .returned (.tuple #[v,.agg #[.string (takeR l i y k n).2.1,.string (takeR l i y k n).2.2.1,.bool (takeR l i y k n).2.2.2.1],.int .i64 (takeR l i y k n).2.2.2.2]) ∧ Kd.R k39 39 w' w.heap.size (fun _=>True) v (takeR l i y k n).1 ∧ Below w.heap.size w w':=by
 have hu36:=Try.underlying36;have hu39:=Try.underlying39;have hu32:=Try.underlying32;have hu22:=Try.underlying22;have HR:=aside hr;have HB:=aside (Below.refl w.heap.size w);generalize hT : takeR l i y k n = T;have HT:=aside hT;clear hT hr
 go_enter Try.func37,Try.ntmps37
 go_upto_region 1 with (first|((with_reducible refine gate_dst (N:=7) rfl ?_);refine be 7 36 (cs:=#[.string y.f0,.int .i64 y.f1.f0,.int .i64 y.f1.f1,.int .i64 y.f1.f2,.int .i64 y.f2,.string y.f3,.bool y.f4]) ?_;intro gW hg w1 hbox hb;have BW:=aside hbox;have GW:=aside (show w.heap.size ≤ gW by omega);have HB1:=aside (HB.out.trans hb);clear hb hbox hg)|((with_reducible refine gate_dst (N:=9) rfl ?_);refine be 9 3 (cs:=#[.int .i64 n]) ?_;intro gL hg w2 hbox hb;have BL:=aside hbox;have GL:=aside (show w.heap.size ≤ gL by have:=HB1.out.size;omega);have BW2:=aside (blk_below BW.out hb);have HB2:=aside (below_step HB1.out hb);clear hb hbox hg)|((with_reducible refine gate_dst (N:=11) rfl ?_);refine be 11 32 (cs:=#[.string (⟨#[]⟩ : ByteArray),.string (⟨#[]⟩ : ByteArray),.bool false]) ?_;intro gU hg w3 hbox hb;have BU:=aside hbox;have GU:=aside (show w.heap.size ≤ gU by have:=HB2.out.size;omega);have BW3:=aside (blk_below BW2.out hb);have BL3:=aside (blk_below BL.out hb);have HB3:=aside (below_step HB2.out hb);clear hb hbox hg))
 clear BW BL BW2 HB1 HB2
 obtain ⟨x,hx⟩ : ∃ x,l.getD i z39 = x:=⟨_,rfl⟩
 rw [hx] at hs;obtain ⟨ad,hA,_⟩ := HR.out.2.2 (by omega);subst hA;obtain ⟨q0,q1,q2,q3,q4,q5,q6⟩ := at39 (Kd.C_below HR.out HB3.out) hi hx;have HX:=aside hx;clear hx
 have hi' : (i : Int) < (l.length : Int):=by omega
 have c0:=cellB BW3.out 0 (.string y.f0) rfl;have c1:=cellB BW3.out 1 (.int .i64 y.f1.f0) rfl;have c2:=cellB BW3.out 2 (.int .i64 y.f1.f1) rfl;have c3:=cellB BW3.out 3 (.int .i64 y.f1.f2) rfl;have c4:=cellB BW3.out 4 (.int .i64 y.f2) rfl;have c5:=cellB BW3.out 5 (.string y.f3) rfl;have c6:=cellB BW3.out 6 (.bool y.f4) rfl
 have mixed : Try.prog.follows .mixedOrders = true:=by kernel_rfl
 refine start_ (n:=11) (S:=fun w'=>w'.cell? (ad.add (i * 7)) = some (.string x.f0) ∧ w'.cell? ⟨(ad.add (i * 7)).block,(ad.add (i * 7)).off + 1,none⟩ = some (.int .i64 x.f1.f0) ∧ w'.cell? ⟨(ad.add (i * 7)).block,(ad.add (i * 7)).off + 2,none⟩ = some (.int .i64 x.f1.f1) ∧ w'.cell? ⟨(ad.add (i * 7)).block,(ad.add (i * 7)).off + 3,none⟩ = some (.int .i64 x.f1.f2) ∧ w'.cell? ⟨(ad.add (i * 7)).block,(ad.add (i * 7)).off + 4,none⟩ = some (.int .i64 x.f2) ∧ w'.cell? ⟨(ad.add (i * 7)).block,(ad.add (i * 7)).off + 5,none⟩ = some (.string x.f3) ∧ w'.cell? ⟨(ad.add (i * 7)).block,(ad.add (i * 7)).off + 6,none⟩ = some (.string x.f4) ∧ w'.cell? ⟨gW,0,none⟩ = some (.string y.f0) ∧ w'.cell? ⟨gW,1,none⟩ = some (.int .i64 y.f1.f0) ∧ w'.cell? ⟨gW,2,none⟩ = some (.int .i64 y.f1.f1) ∧ w'.cell? ⟨gW,3,none⟩ = some (.int .i64 y.f1.f2) ∧ w'.cell? ⟨gW,4,none⟩ = some (.int .i64 y.f2) ∧ w'.cell? ⟨gW,5,none⟩ = some (.string y.f3) ∧ w'.cell? ⟨gW,6,none⟩ = some (.bool y.f4)) (ds:=[5]) #[f_,f_,f_,f_,f_,f_,f_,f_,f_,f_,f_] (by kernel_rfl) rfl rfl ⟨q0,q1,q2,q3,q4,q5,q6,c0,c1,c2,c3,c4,c5,c6⟩ (fun hHeld=>?_)
 refine pv_ 0 23 (mk_ 11 1) ?_
 refine pv_ 1 24 (mk_ 11 3) ?_
 refine pv_ 2 25 (mk_ 11 7) ?_
 refine tb14_ 3 26 (mk_ 11 15) hHeld ?_
 refine tb14_ 4 27 (mk_ 11 31) hHeld ?_
 refine last_ (i:=5) (N:=some 28) (mk_ 11 63) rfl rfl (by kernel_rfl) (by decide) (fun K hK=>?_)
 refine goes_ Try.func53 (by kernel_rfl) rfl #[.agg #[.string x.f0,.int .i64 x.f1.f0,.int .i64 x.f1.f1,.int .i64 x.f1.f2,.int .i64 x.f2,.string x.f3,.string x.f4],.agg #[.string y.f0,.int .i64 y.f1.f0,.int .i64 y.f1.f1,.int .i64 y.f1.f2,.int .i64 y.f2,.string y.f3,.bool y.f4]] (by rfl) rfl rfl (by first|done|rfl|(simp only [List.map_toArray,List.map_cons,List.map_nil];rfl)) ?_
 with_reducible refine (fits_any x y _).mono ?_
 rintro e w4 ⟨rfl,hb⟩;refine ⟨_,rfl, ?_⟩;have HB4:=aside (below_step (below_drew1 HB3.out) hb);have BW4:=aside (blk_below (blk_drew BW3.out) hb);have BL4:=aside (blk_below (blk_drew BL3.out) hb);have BU4:=aside (blk_below (blk_drew BU.out) hb);clear hb
 refine hK.out _ _ ?_
 clear hK K
 refine nm_ 28 ?_
 refine pv_ 6 22 (mk_ 11 127) ?_
 refine pv_ 7 29 (mk_ 11 255) ?_
 refine pv_ 8 30 (mk_ 11 511) ?_
 refine pv_ 9 13 (mk_ 11 1023) ?_
 refine pv_ 10 14 (mk_ 11 2047) ?_
 refine done_ (by kernel_rfl) ?_
 try go_wp2
 clear q0 q1 q2 q3 q4 q5 q6 c0 c1 c2 c3 c4 c5 c6 hHeld;obtain ⟨q0,_⟩ := at39 (Kd.C_below HR.out HB4.out) hi HX.out;have c0:=cellB BW4.out 0 (.string y.f0) rfl
 refine start_ (n:=11) (S:=fun w'=>w'.cell? ⟨gW,0,none⟩ = some (.string y.f0) ∧ w'.cell? (ad.add (i * 7)) = some (.string x.f0)) (ds:=[10]) #[f_,f_,f_,f_,f_,f_,f_,f_,f_,f_,f_] (by kernel_rfl) rfl rfl ⟨c0,q0⟩ (fun hHeld=>?_)
 refine pv_ 0 31 (mk_ 11 1) ?_
 refine pv_ 2 33 (mk_ 11 5) ?_
 refine pv_ 3 34 (mk_ 11 13) ?_
 refine pv_ 4 35 (mk_ 11 29) ?_
 refine pv_ 5 36 (mk_ 11 61) ?_
 refine pv_ 7 38 (mk_ 11 189) ?_
 refine tb2_ 1 32 (mk_ 11 191) hHeld ?_
 refine tb2_ 6 37 (mk_ 11 255) hHeld ?_
 refine pv_ 8 39 (mk_ 11 511) ?_
 refine one_ (i:=9) (N:=some 15) (mk_ 11 1023) rfl rfl (by kernel_rfl) (by decide) (fun K hK=>?_)
 refine value_ (w1:=?_) (v:=?_) (by rfl) rfl ?_ ?_
 rotate_left 2
 ·go_simp
  constructor
  (rfl);(rfl)
 refine hK.out _ _ ⟨(cell_kept (hHeld.1) (Kept.alloc (Kept.refl _ (fun _=>False)) _) (fun h=>h)),(cell_kept (hHeld.2) (Kept.alloc (Kept.refl _ (fun _=>False)) _) (fun h=>h))⟩ (fun hHeld=>?_)
 clear hK K
 refine nm_ 15 ?_
 refine last_ (i:=10) (N:=none) (mk_ 11 2047) rfl rfl (by kernel_rfl) (by decide) (fun K hK=>?_)
 refine skip_ (w1:=?_) (by rfl) rfl ?_ ?_
 rotate_left;(go_simp;rfl)
 refine hK.out _ _ ?_
 clear hK K
 refine done_ (by kernel_rfl) ?_
 clear hHeld q0 c0;have BV5:=aside (blk_drew (blk_new w4 (.cells #[.string y.f0,.string x.f0,.bool (fitsB x y).2] 32 (0,0))));have GV:=aside HB4.out.size;have HB5:=aside (below_drew1 (HB4.out.alloc HB4.out.size (.cells #[.string y.f0,.string x.f0,.bool (fitsB x y).2] 32)));have BW5:=aside (blk_drew (blk_alloc BW4.out (.cells #[.string y.f0,.string x.f0,.bool (fitsB x y).2] 32)));have BL5:=aside (blk_drew (blk_alloc BL4.out (.cells #[.string y.f0,.string x.f0,.bool (fitsB x y).2] 32)));have BU5:=aside (blk_drew (blk_alloc BU4.out (.cells #[.string y.f0,.string x.f0,.bool (fitsB x y).2] 32)));clear BW4 BL4 BU4;generalize (w4.alloc (.cells #[.string y.f0,.string x.f0,.bool (fitsB x y).2] 32)).drew = w5 at BV5 HB5 BW5 BL5 BU5 ⊢;generalize w4.heap.size = gV at BV5 GV ⊢;clear HB4;obtain ⟨q0,q1,q2,q3,q4,q5,q6⟩ := at39 (Kd.C_below HR.out HB5.out) hi HX.out;have c0:=cellB BW5.out 0 (.string y.f0) rfl;have c1:=cellB BW5.out 1 (.int .i64 y.f1.f0) rfl;have c2:=cellB BW5.out 2 (.int .i64 y.f1.f1) rfl;have c3:=cellB BW5.out 3 (.int .i64 y.f1.f2) rfl;have c4:=cellB BW5.out 4 (.int .i64 y.f2) rfl;have c5:=cellB BW5.out 5 (.string y.f3) rfl;have c6:=cellB BW5.out 6 (.bool y.f4) rfl
 go_upto_region 3 with fail
 refine start_ (n:=10) (S:=fun w'=>w'.cell? (ad.add (i * 7)) = some (.string x.f0) ∧ w'.cell? ⟨(ad.add (i * 7)).block,(ad.add (i * 7)).off + 1,none⟩ = some (.int .i64 x.f1.f0) ∧ w'.cell? ⟨(ad.add (i * 7)).block,(ad.add (i * 7)).off + 2,none⟩ = some (.int .i64 x.f1.f1) ∧ w'.cell? ⟨(ad.add (i * 7)).block,(ad.add (i * 7)).off + 3,none⟩ = some (.int .i64 x.f1.f2) ∧ w'.cell? ⟨(ad.add (i * 7)).block,(ad.add (i * 7)).off + 4,none⟩ = some (.int .i64 x.f2) ∧ w'.cell? ⟨(ad.add (i * 7)).block,(ad.add (i * 7)).off + 5,none⟩ = some (.string x.f3) ∧ w'.cell? ⟨(ad.add (i * 7)).block,(ad.add (i * 7)).off + 6,none⟩ = some (.string x.f4) ∧ w'.cell? ⟨gW,0,none⟩ = some (.string y.f0) ∧ w'.cell? ⟨gW,1,none⟩ = some (.int .i64 y.f1.f0) ∧ w'.cell? ⟨gW,2,none⟩ = some (.int .i64 y.f1.f1) ∧ w'.cell? ⟨gW,3,none⟩ = some (.int .i64 y.f1.f2) ∧ w'.cell? ⟨gW,4,none⟩ = some (.int .i64 y.f2) ∧ w'.cell? ⟨gW,5,none⟩ = some (.string y.f3) ∧ w'.cell? ⟨gW,6,none⟩ = some (.bool y.f4)) (ds:=[6,8]) #[f_,f_,f_,f_,f_,f_,f_,f_,f_,f_] (by kernel_rfl) rfl rfl ⟨q0,q1,q2,q3,q4,q5,q6,c0,c1,c2,c3,c4,c5,c6⟩ (fun hHeld=>?_)
 refine pv_ 0 40 (mk_ 10 1) ?_
 refine pv_ 1 41 (mk_ 10 3) ?_
 refine pv_ 2 42 (mk_ 10 7) ?_
 refine pv_ 5 45 (mk_ 10 39) ?_
 refine pv_ 7 47 (mk_ 10 167) ?_
 refine tb14_ 3 43 (mk_ 10 175) hHeld ?_
 refine tb14_ 4 44 (mk_ 10 191) hHeld ?_
 refine last_ (i:=6) (N:=some 46) (mk_ 10 255) rfl rfl (by kernel_rfl) (by decide) (fun K hK=>?_)
 refine goes_ Try.func54 (by kernel_rfl) rfl #[.agg #[.string x.f0,.int .i64 x.f1.f0,.int .i64 x.f1.f1,.int .i64 x.f1.f2,.int .i64 x.f2,.string x.f3,.string x.f4],.agg #[.string y.f0,.int .i64 y.f1.f0,.int .i64 y.f1.f1,.int .i64 y.f1.f2,.int .i64 y.f2,.string y.f3,.bool y.f4],.int .i64 k] (by rfl) rfl rfl (by first|done|rfl|(simp only [List.map_toArray,List.map_cons,List.map_nil];rfl)) ?_
 with_reducible refine (rest_any x y k _ hs).mono ?_
 rintro e w6 ⟨v6,rfl,hR6,hb⟩;refine ⟨_,rfl, ?_⟩;have HR6:=aside (hR6);have HB6:=aside (below_step (below_drew1 HB5.out) hb);have BW6:=aside (blk_below (blk_drew BW5.out) hb);have BL6:=aside (blk_below (blk_drew BL5.out) hb);have BU6:=aside (blk_below (blk_drew BU5.out) hb);have BV6:=aside (blk_below (blk_drew BV5.out) hb);have LE6:=aside (hb.size);clear hb hR6
 refine hK.out _ _ ?_
 clear hK K
 refine nm_ 46 ?_
 refine last_ (i:=8) (N:=some 48) (mk_ 10 511) rfl rfl (by kernel_rfl) (by decide) (fun K hK=>?_)
 refine goes_ Try.func64 (by kernel_rfl) rfl #[v6,.func (.func 65) #[] #[.pointer (some ⟨gL,0,none⟩)]] (by rfl) rfl rfl (by first|done|rfl|(simp only [List.map_toArray,List.map_cons,List.map_nil];rfl)) ?_
 with_reducible refine (del64 n gL _ _ v6 (restR x y k) _ HR6.out BL6.out (blk_lt (blk_drew BL5.out)) LE6.out).mono ?_
 rintro e w7 ⟨v7,rfl,hR7,hb⟩;refine ⟨_,rfl, ?_⟩;have HR7:=aside (hR7);have HB7:=aside (HB6.out.trans (hb.mono (show w.heap.size ≤ _ from Nat.le_trans HB5.out.size (Nat.le_refl _))));have BU7:=aside (blk_below' BU6.out hb (blk_lt (blk_drew BU5.out)));have BV7:=aside (blk_below' BV6.out hb (blk_lt (blk_drew BV5.out)));clear hb hR7
 refine hK.out _ _ ?_
 clear hK K
 refine nm_ 48 ?_
 refine pv_ 9 16 (mk_ 10 1023) ?_
 refine done_ (by kernel_rfl) ?_
 clear hHeld q0 q1 q2 q3 q4 q5 q6 c0 c1 c2 c3 c4 c5 c6
 have hsz : ∀ r ∈ (restR x y k).filter (fun x=>!smallB n x),r.f0.size ≤ 9223372036854775807:=fun r hr=>rest_size x y k _ hs r (List.mem_filter.1 hr).1
 have hkl:=keptR_len x y k n;have hT:=HT.out
 unfold takeR at hT
 rw [HX.out] at hT
 unfold keptR at hT hkl
 clear BW5 BL5 BU5 BV5 BW6 BL6 BU6 BV6 HR6 HB6 LE6 HB5 HT;generalize (restR x y k).filter (fun x=>!smallB n x) = K at HR7 hsz hT hkl;obtain ⟨KA,KC,eK⟩ := Kd.R_slice HR7.out;subst eK;have HK7:=aside (Kd.R_reads' HR7.out).2.2;have HKc:=aside (Kd.R_reads' HR7.out).2.1;have HAny:=aside (any40 (fun r=>!lexName r.f0) 55 #[] eg55 KA KC K w7 HK7.out (fun W r hr _=>nameless_any r W (hsz r hr)));clear HR7 hsz
 cases hany : (K.any fun r=>!lexName r.f0) with
 | true =>
  rw [hany] at HAny hT;rw [if_pos rfl] at hT;subst hT
  go_upto_region 5 with (go_at_call 40;refine HAny.out.mono ?_;rintro e w8 ⟨rfl,hb⟩;have HB8:=aside (below_step HB7.out hb);have BU8:=aside (blk_below BU7.out hb);clear hb)
  have u0:=cellB BU8.out 0 (.string (⟨#[]⟩ : ByteArray)) rfl;have u1:=cellB BU8.out 1 (.string (⟨#[]⟩ : ByteArray)) rfl;have u2:=cellB BU8.out 2 (.bool false) rfl;have f0:=blk_frozen BU8.out 0;have f1:=blk_frozen BU8.out 1;have f2:=blk_frozen BU8.out 2
  go_wp2
  refine bodyPost_ret (results_list (rs:=[.tmp 10,.cell 11 32,.tmp 12]) rfl (by simp) (.tmp (.cell gU 32 #[.string (⟨#[]⟩ : ByteArray),.string (⟨#[]⟩ : ByteArray),.bool false] (0,0) _ rfl (blk_put (blk_put (blk_put BU8.out 0 _ rfl) 1 _ rfl) 2 _ rfl) Try.underlying32 rfl (by kernel_rfl) (.tmp .nil)))) rfl ?_
  exact ⟨_,rfl,Kd.R_nil _ _ _ _ _,below_set (below_set (below_set HB8.out GU.out) GU.out) GU.out⟩
 | false =>
  rw [hany] at HAny hT;rw [if_neg (by simp)] at hT;clear hany
  go_upto_region 6 with (go_at_call 40;refine HAny.out.mono ?_;rintro e w8 ⟨rfl,hb⟩;have HB8:=aside (below_step HB7.out hb);have BU8:=aside (blk_below BU7.out hb);have BV8:=aside (blk_below BV7.out hb);have HK8:=aside (Kd.C_below HK7.out hb);clear hb)
  have hle:=HB8.out.size;generalize hBe : w8.heap.size = B at hle;have HBe:=aside hBe;have GUB:=aside (show gU < B by have:=blk_lt BU8.out;omega);have GVB:=aside (show gV < B by have:=blk_lt BV8.out;omega);have hc8:=Kd.C_below HR.out HB8.out;have HCl:=aside (clone_any w8 (some ad) c l hc8 (by omega));have HD:=aside (fun (v : Value) (W : World) (hR : Kd.R k39 39 W B (fun k=>B ≤ k) v l)=>del68 v l i W B (fun k=>B ≤ k) hR hi);rw [hBe] at HCl
  have hw1 : IntKind.i64.wrap ((i : Int) + 1) = (i : Int) + 1:=by rw [IntKind.wrap_i64];omega
  clear hc8 hBe BU7 BV7 HK7 HB7 HAny
  go_upto_region 7 with (first|(go_at_call 47;refine HCl.out.mono ?_;rintro e w9 ⟨v9,rfl,hR,hb⟩;have HR9:=aside hR;have HB9:=aside hb;clear hR hb)|(go_at_call 68;with_reducible refine (HD.out v9 _ HR9.out).mono ?_;rintro e w10 ⟨v10,rfl,hR,hb⟩;have HR10:=aside hR;have HB10:=aside ((show Below B w8 w9 from HBe.out ▸ HB9.out).trans hb);clear hR hb))
  clear HR9 HB9 HCl HD
  have hlo : (l.take i ++ l.drop (i + 1)).length = l.length - 1:=by simp;omega
  have HLO:=aside hlo;have HOr:=aside (ho.less i);clear hlo ho;generalize l.take i ++ l.drop (i + 1) = o0 at HR10 hT HLO HOr;have HTT:=aside hT;clear hT
  go_wp2
  go_loopg [17,60] K.length (fun gg s17 s60 wr=>∃ (j : Nat) (out : List S39),s60 = .int .i64 j ∧ j ≤ K.length ∧ K.length - j ≤ gg ∧ out.length + 1 = l.length + j ∧ Aside (insAll out (K.drop j) = insAll o0 K) ∧ Aside (Ord out) ∧ Aside (Kd.R k39 39 wr B (fun k=>B ≤ k) s17 out) ∧ Aside (Below B w8 wr))
  case atStart=>exact ⟨0,o0,rfl,by omega,by omega,by have:=HLO.out;omega,aside (by rw [List.drop_zero]),HOr,HR10,HB10⟩
  case round =>
   obtain ⟨j,out,rfl,hjn,hg,hlen,hI,hO,hR,hB⟩ := hrel;obtain ⟨oA,oC,eo⟩ := Kd.R_slice hR.out;subst eo;by_cases hlt : j < K.length
   ·have hBs : B ≤ wr.heap.size:=by have:=hB.out.size;have:=HBe.out;omega
    have HKr:=Kd.C_below HK8.out (show Below w8.heap.size w8 wr from HBe.out.symm ▸ hB.out);obtain ⟨kd,hKA,q0,q1,q2,q3,q4,q5,q6⟩ := at_T39 HKr (j : Int) (by omega) (by omega)
    have hx : rd_T39 K (j : Int) = K[j] := by unfold rd_T39;rw [Int.toNat_natCast];simp [List.getD,hlt]
    rw [hx] at q0 q1 q2 q3 q4 q5 q6;simp only [Int.toNat_natCast] at q0 q1 q2 q3 q4 q5 q6;have hdr : K.drop j = K[j] :: K.drop (j + 1):=List.drop_eq_getElem_cons hlt
    obtain ⟨r,hr⟩ : ∃ r,K[j] = r:=⟨_,rfl⟩
    rw [hr] at q0 q1 q2 q3 q4 q5 q6 hdr;have hI':=hI.out;rw [hdr,insAll_cons] at hI';have HI:=aside hI';clear hx hr hdr hI hI' HKr;subst hKA
    have hj' : (j : Int) < (K.length : Int):=by omega
    go_upto_region 10 with fail
    have BR:=aside (blk_new wr (.cells #[.string r.f0,.int .i64 r.f1.f0,.int .i64 r.f1.f1,.int .i64 r.f1.f2,.int .i64 r.f2,.string r.f3,.string r.f4] 39 (0,0)));have HR1:=aside (Kd.R_alloc hR.out (.cells #[.string r.f0,.int .i64 r.f1.f0,.int .i64 r.f1.f1,.int .i64 r.f1.f2,.int .i64 r.f2,.string r.f3,.string r.f4] 39));have HB1:=aside (hB.out.alloc hBs (.cells #[.string r.f0,.int .i64 r.f1.f0,.int .i64 r.f1.f1,.int .i64 r.f1.f2,.int .i64 r.f2,.string r.f3,.string r.f4] 39))
    have hBs1 : B ≤ (wr.alloc (.cells #[.string r.f0,.int .i64 r.f1.f0,.int .i64 r.f1.f1,.int .i64 r.f1.f2,.int .i64 r.f2,.string r.f3,.string r.f4] 39)).heap.size:=by simp;omega
    clear hR hB q0 q1 q2 q3 q4 q5 q6;generalize wr.alloc (.cells #[.string r.f0,.int .i64 r.f1.f0,.int .i64 r.f1.f1,.int .i64 r.f1.f2,.int .i64 r.f2,.string r.f3,.string r.f4] 39) = w11 at BR HR1 HB1 hBs1 ⊢;generalize wr.heap.size = gR at BR ⊢;have x0:=cellB BR.out 0 (.string r.f0) rfl;have x1:=cellB BR.out 1 (.int .i64 r.f1.f0) rfl;have x2:=cellB BR.out 2 (.int .i64 r.f1.f1) rfl;have x3:=cellB BR.out 3 (.int .i64 r.f1.f2) rfl;have x4:=cellB BR.out 4 (.int .i64 r.f2) rfl;have x5:=cellB BR.out 5 (.string r.f3) rfl;have x6:=cellB BR.out 6 (.string r.f4) rfl
    have hS : Calls Try.prog 69 #[.slice oA out.length oC,.agg #[.string r.f0,.int .i64 r.f1.f0,.int .i64 r.f1.f1,.int .i64 r.f1.f2,.int .i64 r.f2,.string r.f3,.string r.f4],.func (.func 70) #[] #[]] w11 fun e w'=>e = .returned (.tuple #[.int .i64 ((cntR out r : Nat) : Int),.bool (foundB out r)]) ∧ Below w11.heap.size w11 w':=search_any oA oC out r w11 (Kd.R_reads' HR1.out).2.2 (hO.out.mono r) (by omega)
    cases hf : foundB out r with
    | true =>
     rw [hf] at hS
     have hn : insAll o0 K = none:=by rw [← HI.out,if_pos hf]
     have hT:=HTT.out;rw [hn] at hT;have HS:=aside hS;clear hS hf hn HTT HI;subst hT
     go_upto_region 12 with (go_at_call 69;refine HS.out.mono ?_;rintro e w12 ⟨rfl,hb⟩;have HB2:=aside (HB8.out.trans ((HB1.out.trans (hb.mono hBs1)).mono hle));have BU2:=aside (blk_below' BU8.out (HB1.out.trans (hb.mono hBs1)) GUB.out);clear hb)
     have u0:=cellB BU2.out 0 (.string (⟨#[]⟩ : ByteArray)) rfl;have u1:=cellB BU2.out 1 (.string (⟨#[]⟩ : ByteArray)) rfl;have u2:=cellB BU2.out 2 (.bool false) rfl;have f0:=blk_frozen BU2.out 0;have f1:=blk_frozen BU2.out 1;have f2:=blk_frozen BU2.out 2
     go_wp2
     refine bodyPost_ret (results_list (rs:=[.tmp 10,.cell 11 32,.tmp 12]) rfl (by simp) (.tmp (.cell gU 32 #[.string (⟨#[]⟩ : ByteArray),.string (⟨#[]⟩ : ByteArray),.bool false] (0,0) _ rfl (blk_put (blk_put (blk_put BU2.out 0 _ rfl) 1 _ rfl) 2 _ rfl) Try.underlying32 rfl (by kernel_rfl) (.tmp .nil)))) rfl ?_
     exact ⟨_,rfl,Kd.R_nil _ _ _ _ _,below_set (below_set (below_set HB2.out GU.out) GU.out) GU.out⟩
    | false =>
     rw [hf] at hS
     have hn : insAll (putR out r) (K.drop (j + 1)) = insAll o0 K:=by rw [← HI.out,if_neg (by rw [hf];simp)]
     have HN:=aside hn;have HO2:=aside (hO.out.put hf);have HS:=aside hS;have hcl:=cntR_le out r;have hpl:=putR_len out r;generalize hcn : cntR out r = cn at HS hcl;have HCN:=aside hcn;clear hS hf hn HI hcn
     go_wp2_with (first|(go_at_call 69;with_reducible refine HS.out.mono ?_;rintro e w12 ⟨rfl,hb⟩;have HB2:=aside (HB1.out.trans (hb.mono hBs1));have BR2:=aside (blk_below BR.out hb);have HR2:=aside (Kd.R_below HR1.out hb);have HL2:=aside (Nat.le_trans hBs1 hb.size);have y0:=cellB BR2.out 0 (.string r.f0) rfl;have y1:=cellB BR2.out 1 (.int .i64 r.f1.f0) rfl;have y2:=cellB BR2.out 2 (.int .i64 r.f1.f1) rfl;have y3:=cellB BR2.out 3 (.int .i64 r.f1.f2) rfl;have y4:=cellB BR2.out 4 (.int .i64 r.f2) rfl;have y5:=cellB BR2.out 5 (.string r.f3) rfl;have y6:=cellB BR2.out 6 (.string r.f4) rfl;clear hb)|(go_at_call 72;refine (ins72 (.slice oA out.length oC) cn w12.heap.size r out _ B (fun k=>B ≤ k) (Kd.R_alloc HR2.out _) hcl (fun k hk=>by have:=HL2.out;simp at hk;omega) (by have:=HL2.out;simp;omega) (blk_new w12 (.cells #[.string r.f0,.int .i64 r.f1.f0,.int .i64 r.f1.f1,.int .i64 r.f1.f2,.int .i64 r.f2,.string r.f3,.string r.f4] 39 (0,0))) (fun h=>by have:=Kd.R_lt HR2.out _ h.symm;omega) (by omega)).mono ?_;rintro e w14 ⟨v14,rfl,hR,hb⟩;have HR3:=aside hR;have HB3:=aside ((HB2.out.alloc HL2.out _).trans hb);clear hR hb))
     go_roundg (K.length - (j + 1))
     case measure=>omega
     case rel =>
      refine ⟨j + 1,putR out r,by go_num,by omega,by omega,by rw [hpl];omega,HN,HO2, ?_,HB3⟩
      have h:=HR3.out;rw [← HCN.out] at h;exact aside h
   ·obtain rfl : j = K.length:=by omega
    have hI':=hI.out;rw [List.drop_length,insAll_nil] at hI';have hT:=HTT.out;rw [← hI'] at hT;replace hT : (if 256 < out.length then none5 7 else (out,y.f0,x.f0,(fitsB x y).2,0)) = T:=hT;have HB2:=aside (HB8.out.trans (hB.out.mono hle));have BU2:=aside (blk_below' BU8.out hB.out GUB.out);have BV2:=aside (blk_below' BV8.out hB.out GVB.out);clear hI' hI HTT;have u0:=cellB BU2.out 0 (.string (⟨#[]⟩ : ByteArray)) rfl;have u1:=cellB BU2.out 1 (.string (⟨#[]⟩ : ByteArray)) rfl;have u2:=cellB BU2.out 2 (.bool false) rfl;have f0:=blk_frozen BU2.out 0;have f1:=blk_frozen BU2.out 1;have f2:=blk_frozen BU2.out 2;by_cases h256 : 256 < out.length
    ·rw [if_pos h256] at hT;subst hT
     have h256' : (256 : Int) < (out.length : Int):=by omega
     go_wp2
     refine bodyPost_ret (results_list (rs:=[.tmp 10,.cell 11 32,.tmp 12]) rfl (by simp) (.tmp (.cell gU 32 #[.string (⟨#[]⟩ : ByteArray),.string (⟨#[]⟩ : ByteArray),.bool false] (0,0) _ rfl (blk_put (blk_put (blk_put BU2.out 0 _ rfl) 1 _ rfl) 2 _ rfl) Try.underlying32 rfl (by kernel_rfl) (.tmp .nil)))) rfl ?_
     exact ⟨_,rfl,Kd.R_nil _ _ _ _ _,below_set (below_set (below_set HB2.out GU.out) GU.out) GU.out⟩
    ·rw [if_neg h256] at hT;subst hT
     have h256' : ¬ (256 : Int) < (out.length : Int):=by omega
     have z0:=cellB BV2.out 0 (.string y.f0) rfl;have z1:=cellB BV2.out 1 (.string x.f0) rfl;have z2:=cellB BV2.out 2 (.bool (fitsB x y).2) rfl
     go_wp2
     refine start_ (n:=5) (S:=fun w'=>w'.cell? ⟨gV,0,none⟩ = some (.string y.f0) ∧ w'.cell? ⟨gV,1,none⟩ = some (.string x.f0) ∧ w'.cell? ⟨gV,2,none⟩ = some (.bool (fitsB x y).2)) (ds:=[3]) #[f_,f_,f_,f_,f_] (by kernel_rfl) rfl rfl ⟨z0,z1,z2⟩ (fun hHeld=>?_)
     refine pv_ 0 82 (mk_ 5 1) ?_
     refine pv_ 2 10 (mk_ 5 5) ?_
     refine tb3_ 1 83 (mk_ 5 7) hHeld ?_
     refine last_ (i:=3) (N:=none) (mk_ 5 15) rfl rfl (by kernel_rfl) (by decide) (fun K hK=>?_)
     refine skip_ (w1:=?_) (by rfl) rfl ?_ ?_
     rotate_left;(go_simp;rfl)
     refine hK.out _ _ ?_
     clear hK K
     refine pv_ 4 12 (mk_ 5 31) ?_
     refine done_ (by kernel_rfl) ?_
     go_wp2
     have hne : ∀ k,B ≤ k → k ≠ gU:=fun k hk=>by have:=GUB.out;omega
     refine bodyPost_ret (results_list (rs:=[.tmp 10,.cell 11 32,.tmp 12]) rfl (by simp) (.tmp (.cell gU 32 #[.string y.f0,.string x.f0,.bool (fitsB x y).2] (0,0) _ rfl (blk_drew (blk_put (blk_put (blk_put BU2.out 0 _ rfl) 1 _ rfl) 2 _ rfl)) Try.underlying32 rfl (by kernel_rfl) (.tmp .nil)))) rfl ?_
     exact ⟨_,rfl,Kd.R_mono (Kd.R_lower (Kd.R_drew (Kd.R_far (p:=⟨gU,2,none⟩) (Kd.R_far (p:=⟨gU,1,none⟩) (Kd.R_far (p:=⟨gU,0,none⟩) hR.out hne _) hne _) hne _)) hle) (fun _ _=>trivial),below_drew1 (below_set (below_set (below_set HB2.out GU.out) GU.out) GU.out)⟩
end Go.Proofs.Ytbggjmdelnmilaa.PA
