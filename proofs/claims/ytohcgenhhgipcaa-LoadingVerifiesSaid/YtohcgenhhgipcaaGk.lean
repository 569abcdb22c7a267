import Derived.Test.YtohcgenhhgipcaaGj
namespace Go.Proofs.Ytohcgenhhgipcaa.PA
open Go.RowKit Go.Shelf Go.Proofs.YtohcgenhhgipcaaW.PrintWords Go.Proofs.YtohcgenhhgipcaaW.PrintLast Go.Proofs.YtohcgenhhgipcaaW.PrintMore
set_option linter.unusedVariables false
set_option linter.unusedSimpArgs false

/-! loading.Moments -/
def crg (y : S61) : S64:=⟨y.f0,y.f2,y.f3⟩
def momR (t : S24) (x : S54) (n : Int) : Int × Int × Int :=
 if plainR t (x.f1.map crg) = 0 then (if (x.f1.any fun y=>!onB t y) = true then (0,0,12) else if n < 0 then (0,0,6) else if (x.f1.length : Int) < n then (0,0,6) else ((momF t (x.f1.drop n.toNat)).1,(momF t (x.f1.drop n.toNat)).2,0)) else (0,0,plainR t (x.f1.map crg))
structure MW (w : World) (t : S24) (s : ByteArray) (A : Option Addr) (m c : Nat) (W : World) : Prop where
 truck : Rowed W w.heap.size 24 (rowT t)
 box : Rowed W (w.heap.size + 1) 54 #[.string s,.slice A m c]
 below : Below w.heap.size w W
theorem MW.mono {w W w2 : World} {t : S24} {s : ByteArray} {A : Option Addr} {m c : Nat} (h : MW w t s A m c W) (hb : Below W.heap.size W w2) : MW w t s A m c w2 :=
 ⟨h.truck.below hb h.truck.lt,h.box.below hb h.box.lt,h.below.trans (hb.mono h.below.size)⟩
theorem MW.grown {w W w2 : World} {t : S24} {s : ByteArray} {A : Option Addr} {m c : Nat} {row : Option Nat} (h : MW w t s A m c W) (hb : Below w.heap.size w w2) (hg : W.grownBy w2 row) (h1 : some w.heap.size ≠ row) (h2 : some (w.heap.size + 1) ≠ row) : MW w t s A m c w2 :=
 ⟨h.truck.kept hg h1,h.box.kept hg h2,hb⟩
abbrev okM (w : World) : Nat → Prop:=fun k=>k ≠ w.heap.size ∧ k ≠ w.heap.size + 1
set_option maxRecDepth 100000 in
set_option maxHeartbeats 1000000 in
theorem moments_any (t : S24) (x : S54) (A : Option Addr) (c : Nat) (n : Int) (w : World) (hr : Kd.C k61 w A x.f1.length x.f1) (hc : x.f1.length ≤ c) (hlen : x.f1.length ≤ 1000000000) (hs : t.f0.size ≤ 9223372036854775807) (hl : ∀ y ∈ x.f1, y.f0.size ≤ 9223372036854775807) :
  Calls Try.prog 26 #[e24 t,.agg #[.string x.f0,.slice A x.f1.length c],.int .i64 n] w fun e w'=>e = .returned (.tuple #[.int .i64 (momR t x n).1,.int .i64 (momR t x n).2.1,.int .i64 (momR t x n).2.2]) ∧ Below w.heap.size w w':=by
 obtain ⟨s,ls⟩ := x
 dsimp only at *
 unfold momR
 dsimp only
 have CP : ∀ W A' c',Below w.heap.size w W → Kd.C k64 W A' (ls.map crg).length (ls.map crg) → Calls Try.prog 31 #[e24 t,.slice A' (ls.map crg).length c'] W fun e w'=>e = .returned (.int .i64 (plainR t (ls.map crg))) ∧ Below W.heap.size W w':=fun W A' c' hb hC =>
  plain_any t A' c' (ls.map crg) W hC hs (fun y hy=>by obtain ⟨z,hz,rfl⟩ := List.mem_map.1 hy;exact hl z hz)
 have CO : ∀ W,MW w t s A ls.length c W → Calls Try.prog 47 #[.slice A ls.length c,.func (.func 55) #[] #[.pointer (some ⟨w.heap.size,0,none⟩)]] W fun e w'=>e = .returned (.bool (ls.any fun y=>!onB t y)) ∧ Below W.heap.size W w':=fun W h =>
  any47 (fun y=>!onB t y) 55 _ eg55 A c ls W (Kd.C_below hr h.below) (fun W' y hy hb'=>c55_any t y w.heap.size W' (h.mono hb').truck)
 have hv : MW w t s A ls.length c ((w.alloc (.cells (rowT t) 24)).alloc (.cells #[.string s,.slice A ls.length c] 54)):=by
  refine ⟨(show Rowed _ w.heap.size 24 _ from World.alloc_heap_new w (.cells (rowT t) 24)).alloc _, ?_,(al1 _ _).trans ((al1 _ _).mono (by simp))⟩
  have:=World.alloc_heap_new (w.alloc (.cells (rowT t) 24)) (.cells #[.string s,.slice A ls.length c] 54)
  rw [World.size_alloc] at this;exact this
 have CM : ∀ W A' c' L,Kd.C k61 W A' L.length L → L.length ≤ c' → L.length ≤ 1000000000 → Calls Try.prog 56 #[e24 t,.slice A' L.length c'] W fun e w'=>e = .returned (.agg #[.int .i64 (momF t L).1,.int .i64 (momF t L).2]) ∧ Below W.heap.size W w':=fun W A' c' L hC hcc hL =>
  loading_moments.calls (L.length + 1) _ _ _ _ _ _ _ _ A' c' L (momF t L).1 (momF t L).2 W hC hcc (mom_f t L hL)
 obtain ⟨cl,hcl⟩ : ∃ cl,ls.map crg = cl:=⟨_,rfl⟩
 rw [hcl] at CP ⊢;have HCL:=aside hcl;generalize plainR t cl = q0 at CP ⊢;clear hcl;generalize (ls.any fun y=>!onB t y) = q1 at CO ⊢
 obtain ⟨mf,hmf⟩ : ∃ mf : List S61 → Int × Int,mf = momF t:=⟨_,rfl⟩
 rw [← hmf] at CM ⊢
 obtain ⟨r,hrr⟩ : ∃ r,(if q0 = 0 then (if q1 = true then ((0 : Int),(0 : Int),(12 : Int)) else if n < 0 then (0,0,6) else if (ls.length : Int) < n then (0,0,6) else ((mf (ls.drop n.toNat)).1,(mf (ls.drop n.toNat)).2,0)) else (0,0,q0)) = r:=⟨_,rfl⟩
 rw [hrr];obtain ⟨r0,r1,r2⟩ := r
 dsimp only
 have HRes:=aside hrr;have HV:=aside hv;clear hmf hs hl hv hrr;obtain ⟨nm,ln,fr,re,⟨l0,l1⟩,⟨e0,e1⟩⟩ := t
 unfold e24 rowT at *
 dsimp only at *
 have HP:=aside CP;have HO:=aside CO;have HM:=aside CM;have HR:=aside hr;have HC:=aside hc;clear CP CO CM hr hc
 go_enter Try.func26,Try.ntmps26
 go_wp2
 have cb1 : ((w.alloc (.cells #[.string nm,.int .i64 ln,.int .i64 fr,.int .i64 re,.int .i64 l0,.int .i64 l1,.int .i64 e0,.int .i64 e1] 24)).alloc (.cells #[.string s,.slice A ls.length c] 54)).heap.size = w.heap.size + 2:=by simp
 generalize ((w.alloc (.cells #[.string nm,.int .i64 ln,.int .i64 fr,.int .i64 re,.int .i64 l0,.int .i64 l1,.int .i64 e0,.int .i64 e1] 24)).alloc (.cells #[.string s,.slice A ls.length c] 54)) = W0 at HV cb1 ⊢;clear cb1
 go_loopg [9,17] ls.length (fun gg v9 v17 wr=>∃ j : Nat,j ≤ ls.length ∧ ls.length - j ≤ gg ∧ v17 = .int .i64 j ∧ Aside (Kd.R k64 64 wr w.heap.size (okM w) v9 ((ls.take j).map crg)) ∧ Aside (MW w ⟨nm,ln,fr,re,⟨l0,l1⟩,⟨e0,e1⟩⟩ s A ls.length c wr))
 case atStart=>exact ⟨0,by omega,by omega,rfl,(show Aside _ from Kd.R_nil _ _ _ _ _),HV⟩
 clear HV
 case round =>
  obtain ⟨j,hj,hg,rfl,HO_,HV⟩ := hrel;by_cases hlt : j < ls.length
  ·have hlt' : (j : Int) < (ls.length : Int):=by omega
   obtain ⟨ad,hA,q0_,q1_,q2_,q3_⟩ := at_T61 (Kd.C_below HR.out HV.out.below) (j : Int) (by omega) (by omega)
   have hx : rd_T61 ls (j : Int) = ls.getD j z61:=by unfold rd_T61;simp
   rw [hx] at q0_ q1_ q2_ q3_;simp only [Int.toNat_natCast] at q0_ q1_ q2_ q3_
   have hsnoc : (ls.take (j + 1)).map crg = (ls.take j).map crg ++ [crg (ls.getD j z61)] := by
    rw [List.take_add_one,List.map_append,List.getD_eq_getElem?_getD,List.getElem?_eq_getElem hlt];rfl
   have htl : ((ls.take j).map crg).length ≤ 1000000000:=by simp;omega
   obtain ⟨y,hy⟩ : ∃ y,ls.getD j z61 = y:=⟨_,rfl⟩
   rw [hy] at q0_ q1_ q2_ q3_ hsnoc;obtain ⟨y0,y1,y2,y3⟩ := y
   dsimp only at q0_ q1_ q2_ q3_
   have HS:=aside hsnoc;have HTL:=aside htl
   obtain ⟨xs,hxs⟩ : ∃ xs,(ls.take j).map crg = xs:=⟨_,rfl⟩
   rw [hxs] at HO_ HS HTL;subst hA;clear hx hsnoc htl hy hxs
   go_upto_region 5 with (first
    | ((with_reducible refine gate_dst (N:=11) rfl ?_);refine box_event ?hg (N:=11) ?hd (cs:=#[.string (⟨#[]⟩ : ByteArray),.int .i64 0,.int .i64 0,.int .i64 0]) (t:=61) ?hr ?_;(case hd=>rfl);(case hg=>rfl);(case hr=>first|(go_simp;done)|(go_simp;rfl));intro gb hgb w4 hbox hb4;have z0 : w4.cell? ⟨gb,0,none⟩ = some (.string (⟨#[]⟩ : ByteArray)):=blk_cell hbox 0;have z1 : w4.cell? ⟨gb,1,none⟩ = some (.int .i64 0):=blk_cell hbox 1;have z2 : w4.cell? ⟨gb,2,none⟩ = some (.int .i64 0):=blk_cell hbox 2;have z3 : w4.cell? ⟨gb,3,none⟩ = some (.int .i64 0):=blk_cell hbox 3;have f0:=blk_frozen hbox 0;have f1:=blk_frozen hbox 1;have f2:=blk_frozen hbox 2;have f3:=blk_frozen hbox 3;have HG:=aside (Nat.le_of_eq hgb.symm);have HB4:=aside hb4;have HX:=aside hbox;clear hbox hb4 hgb))
   have hrow5:=blk_put (cs':=#[.string y0,.int .i64 y1,.int .i64 y2,.int .i64 y3]) (blk_put (cs':=#[.string y0,.int .i64 y1,.int .i64 y2,.int .i64 0]) (blk_put (cs':=#[.string y0,.int .i64 y1,.int .i64 0,.int .i64 0]) (blk_put (cs':=#[.string y0,.int .i64 0,.int .i64 0,.int .i64 0]) HX.out 0 (.string y0) rfl) 1 (.int .i64 y1) rfl) 2 (.int .i64 y2) rfl) 3 (.int .i64 y3) rfl
   have hb5 : Below wr.heap.size wr ((((w4.setCell ⟨gb,0,none⟩ (.string y0)).setCell ⟨gb,1,none⟩ (.int .i64 y1)).setCell ⟨gb,2,none⟩ (.int .i64 y2)).setCell ⟨gb,3,none⟩ (.int .i64 y3)):=by repeat (first|exact HB4.out|refine below_set ?_ HG.out)
   generalize ((((w4.setCell ⟨gb,0,none⟩ (.string y0)).setCell ⟨gb,1,none⟩ (.int .i64 y1)).setCell ⟨gb,2,none⟩ (.int .i64 y2)).setCell ⟨gb,3,none⟩ (.int .i64 y3)) = W5 at hrow5 hb5 ⊢;have d0 : W5.cell? ⟨gb,0,none⟩ = some (.string y0):=blk_cell hrow5 0;have d2 : W5.cell? ⟨gb,2,none⟩ = some (.int .i64 y2):=blk_cell hrow5 2;have d3 : W5.cell? ⟨gb,3,none⟩ = some (.int .i64 y3):=blk_cell hrow5 3;have BB:=aside hb5;clear hrow5 hb5 z0 z1 z2 z3 f0 f1 f2 f3 q0_ q1_ q2_ q3_ HB4 HX
   go_wp2_with (((with_reducible refine gate_builtin (b:=.append) (xs:=#[.tmp 21,.tmp 29]) rfl ?_);at_builtin;refine Kd.R_append k64 (w0:=w) w.heap.size rfl (.tmp 21) (.tmp 29) 31 64 (.agg #[(.string ⟨#[]⟩),(.int .i64 0),(.int .i64 0)]) 32 rfl Try.underlying31 info64 rfl (by decide) (by omega) u9 xs (⟨y0,y2,y3⟩ : S64) [.string y0,.int .i64 y2,.int .i64 y3] (okM w) (fun _=>False) rfl rfl ?aP (fun _ hk=>hk.elim) ?aF ?aO ?aB ?aS ?aL ?_;(case aP=>exact k64_mkM _ _ _ (⟨y0,y2,y3⟩ : S64));(case aB=>exact HV.out.below.trans (Below.mono BB.out HV.out.below.size));(case aF=>exact fun k hk=>⟨by have:=HV.out.box.lt;have:=BB.out.size;omega,by have:=HV.out.box.lt;have:=BB.out.size;omega⟩);(case aO=>exact Kd.R_below HO_.out BB.out);(case aS=>have:=HV.out.below.size;have:=BB.out.size;omega);(case aL=>have:=HTL.out;omega);intro v5 w5 ho hb hgr hat;have n0_:=aside (MW.grown (MW.mono HV.out BB.out) hb hgr (fun e=>(HO_.out.1 _ e.symm).1 rfl) (fun e=>(HO_.out.1 _ e.symm).2 rfl));have n1_:=aside ho;clear ho hb hgr hat))
   go_roundg (ls.length - (j + 1))
   case measure=>omega
   case rel=>exact ⟨j + 1,by omega,by omega,by go_num,(show Aside _ from (by rw [HS.out];exact n1_.out)),n0_⟩
  ·obtain rfl : j = ls.length:=by omega
   have hO:=HO_.out;rw [List.take_length,HCL.out] at hO;obtain ⟨A',c',hu9,hc',hC⟩ := Kd.R_reads hO;subst hu9;have CC:=aside hC;clear hO hc' hC HO_;have t0_ : wr.cell? ⟨w.heap.size,0,none⟩ = some (.string nm):=blk_cell HV.out.truck 0;have t1_ : wr.cell? ⟨w.heap.size,1,none⟩ = some (.int .i64 ln):=blk_cell HV.out.truck 1;have t2_ : wr.cell? ⟨w.heap.size,2,none⟩ = some (.int .i64 fr):=blk_cell HV.out.truck 2;have t3_ : wr.cell? ⟨w.heap.size,3,none⟩ = some (.int .i64 re):=blk_cell HV.out.truck 3;have t4_ : wr.cell? ⟨w.heap.size,4,none⟩ = some (.int .i64 l0):=blk_cell HV.out.truck 4;have t5_ : wr.cell? ⟨w.heap.size,5,none⟩ = some (.int .i64 l1):=blk_cell HV.out.truck 5;have t6_ : wr.cell? ⟨w.heap.size,6,none⟩ = some (.int .i64 e0):=blk_cell HV.out.truck 6;have t7_ : wr.cell? ⟨w.heap.size,7,none⟩ = some (.int .i64 e1):=blk_cell HV.out.truck 7;by_cases z : q0 = 0
   ·subst z;have res:=HRes.out;clear HRes;rw [if_pos rfl] at res
    cases q1 with
    | true =>
     simp only [if_true] at res
     obtain ⟨rfl,rfl,rfl⟩ : (0 : Int) = r0 ∧ (0 : Int) = r1 ∧ (12 : Int) = r2:=by simpa using res
     clear res
     go_upto_region 10 with (go_at_call 31;refine (HP.out _ _ _ HV.out.below CC.out).mono ?_;rintro e w1 ⟨rfl,hb⟩;have n_:=aside (HV.out.mono hb);clear HV;have HV:=n_;clear n_ hb)
     clear t0_ t1_ t2_ t3_ t4_ t5_ t6_ t7_;have t0_ : w1.cell? ⟨w.heap.size,0,none⟩ = some (.string nm):=blk_cell HV.out.truck 0;have t1_ : w1.cell? ⟨w.heap.size,1,none⟩ = some (.int .i64 ln):=blk_cell HV.out.truck 1;have t2_ : w1.cell? ⟨w.heap.size,2,none⟩ = some (.int .i64 fr):=blk_cell HV.out.truck 2;have t3_ : w1.cell? ⟨w.heap.size,3,none⟩ = some (.int .i64 re):=blk_cell HV.out.truck 3;have t4_ : w1.cell? ⟨w.heap.size,4,none⟩ = some (.int .i64 l0):=blk_cell HV.out.truck 4;have t5_ : w1.cell? ⟨w.heap.size,5,none⟩ = some (.int .i64 l1):=blk_cell HV.out.truck 5;have t6_ : w1.cell? ⟨w.heap.size,6,none⟩ = some (.int .i64 e0):=blk_cell HV.out.truck 6;have t7_ : w1.cell? ⟨w.heap.size,7,none⟩ = some (.int .i64 e1):=blk_cell HV.out.truck 7;have bx_ : w1.cell? ⟨w.heap.size + 1,1,none⟩ = some (.slice A ls.length c):=blk_cell HV.out.box 1
     go_wp2_with (go_at_call 47;refine (HO.out _ HV.out).mono ?_;rintro e w2 ⟨rfl,hb⟩;have n_:=aside (HV.out.mono hb);clear HV;have HV:=n_;clear n_ hb)
     go_ret3
     exact ⟨rfl,HV.out.below⟩
    | false =>
     simp only [Bool.false_eq_true,if_false] at res;by_cases hn0 : n < 0
     ·rw [if_pos hn0] at res
      obtain ⟨rfl,rfl,rfl⟩ : (0 : Int) = r0 ∧ (0 : Int) = r1 ∧ (6 : Int) = r2:=by simpa using res
      clear res;have dn0 : decide (n < 0) = true:=decide_eq_true hn0
      go_upto_region 10 with (go_at_call 31;refine (HP.out _ _ _ HV.out.below CC.out).mono ?_;rintro e w1 ⟨rfl,hb⟩;have n_:=aside (HV.out.mono hb);clear HV;have HV:=n_;clear n_ hb)
      clear t0_ t1_ t2_ t3_ t4_ t5_ t6_ t7_;have t0_ : w1.cell? ⟨w.heap.size,0,none⟩ = some (.string nm):=blk_cell HV.out.truck 0;have t1_ : w1.cell? ⟨w.heap.size,1,none⟩ = some (.int .i64 ln):=blk_cell HV.out.truck 1;have t2_ : w1.cell? ⟨w.heap.size,2,none⟩ = some (.int .i64 fr):=blk_cell HV.out.truck 2;have t3_ : w1.cell? ⟨w.heap.size,3,none⟩ = some (.int .i64 re):=blk_cell HV.out.truck 3;have t4_ : w1.cell? ⟨w.heap.size,4,none⟩ = some (.int .i64 l0):=blk_cell HV.out.truck 4;have t5_ : w1.cell? ⟨w.heap.size,5,none⟩ = some (.int .i64 l1):=blk_cell HV.out.truck 5;have t6_ : w1.cell? ⟨w.heap.size,6,none⟩ = some (.int .i64 e0):=blk_cell HV.out.truck 6;have t7_ : w1.cell? ⟨w.heap.size,7,none⟩ = some (.int .i64 e1):=blk_cell HV.out.truck 7;have bx_ : w1.cell? ⟨w.heap.size + 1,1,none⟩ = some (.slice A ls.length c):=blk_cell HV.out.box 1
      go_wp2_with (go_at_call 47;refine (HO.out _ HV.out).mono ?_;rintro e w2 ⟨rfl,hb⟩;have n_:=aside (HV.out.mono hb);clear HV;have HV:=n_;clear n_ hb)
      go_ret3
      exact ⟨rfl,HV.out.below⟩
     ·rw [if_neg hn0] at res;have dn0 : decide (n < 0) = false:=decide_eq_false hn0;by_cases hn1 : (ls.length : Int) < n
      ·rw [if_pos hn1] at res
       obtain ⟨rfl,rfl,rfl⟩ : (0 : Int) = r0 ∧ (0 : Int) = r1 ∧ (6 : Int) = r2:=by simpa using res
       clear res;have dn1 : decide ((ls.length : Int) < n) = true:=decide_eq_true hn1
       go_upto_region 10 with (go_at_call 31;refine (HP.out _ _ _ HV.out.below CC.out).mono ?_;rintro e w1 ⟨rfl,hb⟩;have n_:=aside (HV.out.mono hb);clear HV;have HV:=n_;clear n_ hb)
       clear t0_ t1_ t2_ t3_ t4_ t5_ t6_ t7_;have t0_ : w1.cell? ⟨w.heap.size,0,none⟩ = some (.string nm):=blk_cell HV.out.truck 0;have t1_ : w1.cell? ⟨w.heap.size,1,none⟩ = some (.int .i64 ln):=blk_cell HV.out.truck 1;have t2_ : w1.cell? ⟨w.heap.size,2,none⟩ = some (.int .i64 fr):=blk_cell HV.out.truck 2;have t3_ : w1.cell? ⟨w.heap.size,3,none⟩ = some (.int .i64 re):=blk_cell HV.out.truck 3;have t4_ : w1.cell? ⟨w.heap.size,4,none⟩ = some (.int .i64 l0):=blk_cell HV.out.truck 4;have t5_ : w1.cell? ⟨w.heap.size,5,none⟩ = some (.int .i64 l1):=blk_cell HV.out.truck 5;have t6_ : w1.cell? ⟨w.heap.size,6,none⟩ = some (.int .i64 e0):=blk_cell HV.out.truck 6;have t7_ : w1.cell? ⟨w.heap.size,7,none⟩ = some (.int .i64 e1):=blk_cell HV.out.truck 7;have bx_ : w1.cell? ⟨w.heap.size + 1,1,none⟩ = some (.slice A ls.length c):=blk_cell HV.out.box 1
       go_upto_region 12 with (go_at_call 47;refine (HO.out _ HV.out).mono ?_;rintro e w2 ⟨rfl,hb⟩;have n_:=aside (HV.out.mono hb);clear HV;have HV:=n_;clear n_ hb)
       clear bx_ t0_ t1_ t2_ t3_ t4_ t5_ t6_ t7_;have bx_ : w2.cell? ⟨w.heap.size + 1,1,none⟩ = some (.slice A ls.length c):=blk_cell HV.out.box 1
       go_wp2
       go_ret3
       exact ⟨rfl,HV.out.below⟩
      ·rw [if_neg hn1] at res
       obtain ⟨hm0,hm1,rfl⟩ : (mf (ls.drop n.toNat)).1 = r0 ∧ (mf (ls.drop n.toNat)).2 = r1 ∧ (0 : Int) = r2:=by simpa using res
       clear res;have dn1 : decide ((ls.length : Int) < n) = false:=decide_eq_false hn1
       go_upto_region 10 with (go_at_call 31;refine (HP.out _ _ _ HV.out.below CC.out).mono ?_;rintro e w1 ⟨rfl,hb⟩;have n_:=aside (HV.out.mono hb);clear HV;have HV:=n_;clear n_ hb)
       clear t0_ t1_ t2_ t3_ t4_ t5_ t6_ t7_;have t0_ : w1.cell? ⟨w.heap.size,0,none⟩ = some (.string nm):=blk_cell HV.out.truck 0;have t1_ : w1.cell? ⟨w.heap.size,1,none⟩ = some (.int .i64 ln):=blk_cell HV.out.truck 1;have t2_ : w1.cell? ⟨w.heap.size,2,none⟩ = some (.int .i64 fr):=blk_cell HV.out.truck 2;have t3_ : w1.cell? ⟨w.heap.size,3,none⟩ = some (.int .i64 re):=blk_cell HV.out.truck 3;have t4_ : w1.cell? ⟨w.heap.size,4,none⟩ = some (.int .i64 l0):=blk_cell HV.out.truck 4;have t5_ : w1.cell? ⟨w.heap.size,5,none⟩ = some (.int .i64 l1):=blk_cell HV.out.truck 5;have t6_ : w1.cell? ⟨w.heap.size,6,none⟩ = some (.int .i64 e0):=blk_cell HV.out.truck 6;have t7_ : w1.cell? ⟨w.heap.size,7,none⟩ = some (.int .i64 e1):=blk_cell HV.out.truck 7;have bx_ : w1.cell? ⟨w.heap.size + 1,1,none⟩ = some (.slice A ls.length c):=blk_cell HV.out.box 1
       go_upto_region 12 with (go_at_call 47;refine (HO.out _ HV.out).mono ?_;rintro e w2 ⟨rfl,hb⟩;have n_:=aside (HV.out.mono hb);clear HV;have HV:=n_;clear n_ hb)
       clear bx_ t0_ t1_ t2_ t3_ t4_ t5_ t6_ t7_;have bx_ : w2.cell? ⟨w.heap.size + 1,1,none⟩ = some (.slice A ls.length c):=blk_cell HV.out.box 1;have t0_ : w2.cell? ⟨w.heap.size,0,none⟩ = some (.string nm):=blk_cell HV.out.truck 0;have t1_ : w2.cell? ⟨w.heap.size,1,none⟩ = some (.int .i64 ln):=blk_cell HV.out.truck 1;have t2_ : w2.cell? ⟨w.heap.size,2,none⟩ = some (.int .i64 fr):=blk_cell HV.out.truck 2;have t3_ : w2.cell? ⟨w.heap.size,3,none⟩ = some (.int .i64 re):=blk_cell HV.out.truck 3;have t4_ : w2.cell? ⟨w.heap.size,4,none⟩ = some (.int .i64 l0):=blk_cell HV.out.truck 4;have t5_ : w2.cell? ⟨w.heap.size,5,none⟩ = some (.int .i64 l1):=blk_cell HV.out.truck 5;have t6_ : w2.cell? ⟨w.heap.size,6,none⟩ = some (.int .i64 e0):=blk_cell HV.out.truck 6;have t7_ : w2.cell? ⟨w.heap.size,7,none⟩ = some (.int .i64 e1):=blk_cell HV.out.truck 7
       obtain ⟨k,rfl⟩ : ∃ k : Nat,n = k:=⟨n.toNat,by omega⟩
       obtain ⟨A3,c3,hcut,hC3,hcc3⟩ := cut_C (W:=w) HR.out HC.out k (Below.refl _ _);have hcut1 : ∀ W,(Instr.slice 45 (.slice A ls.length c) (some (.int .i64 (k : Int))) none none).run Try.prog W = .ok (cutV A ls.length c k) W:=cut45 A ls.length c k (by omega);rw [hcut] at hcut1
       have hdl : (ls.drop k).length ≤ 1000000000:=by simp;omega
       rw [Int.toNat_natCast] at hm0 hm1
       obtain ⟨L,hL⟩ : ∃ L,ls.drop k = L:=⟨_,rfl⟩
       rw [hL] at hcut1 hC3 hcc3 hdl hm0 hm1;have H3:=aside (fun W (hb : Below w.heap.size w W)=>HM.out W A3 c3 L (Kd.C_below hC3 hb) hcc3 hdl);rw [hm0,hm1] at H3;clear hcut hC3 hcc3 hdl hL hm0 hm1 HM HO HP CC HR HC
       go_upto_region 14 with fail
       have hu22:=Try.underlying22;have hu24:=Try.underlying24;have hne1 : w.heap.size + 1 ≠ w2.heap.size:=Nat.ne_of_lt HV.out.box.lt;have hne0 : w.heap.size ≠ w2.heap.size:=Nat.ne_of_lt HV.out.truck.lt;have hlt1 : w.heap.size + 1 < w2.heap.size:=HV.out.box.lt;have hlt0 : w.heap.size < w2.heap.size:=HV.out.truck.lt
       have hbe1 : (w.heap.size + 1 == w2.heap.size) = false:=by simpa using hne1
       have hbe0 : (w.heap.size == w2.heap.size) = false:=by simpa using hne0
       have hnf1 : w2.heap.size ≠ w.heap.size + 1:=Ne.symm hne1;have hnf0 : w2.heap.size ≠ w.heap.size:=Ne.symm hne0;have hbw:=HV.out.below;clear HV;have hwl:=aside hbw;clear hbw
       go_region_with (go_at_call 56;refine (H3.out _ (by repeat (first|exact hwl.out|apply below_alloc|apply below_drew1))).mono ?_;rintro e w3 ⟨rfl,hb⟩;try (have row22 : w3.heap[w2.heap.size]? = some (.cells #[.int .i64 0,.int .i64 0] 22 (0,0)):=(hb.block _ (by simp)).trans (World.alloc_heap_new _ _);have e0_ : w3.cell? ⟨w2.heap.size,0,none⟩ = some (.int .i64 0):=blk_cell row22 0;have e1_ : w3.cell? ⟨w2.heap.size,1,none⟩ = some (.int .i64 0):=blk_cell row22 1;have f0_:=blk_frozen row22 0;have f1_:=blk_frozen row22 1))
       all_goals
        have B3 : Below w.heap.size w w3:=below_step (w:=w) (by repeat (first|exact hwl.out|apply below_alloc|apply below_drew1)) hb;have HB3:=aside B3;clear B3
        go_wp2
        go_quiet (fail)
        go_wp2
        go_ret3
        exact ⟨rfl,by repeat (first|exact HB3.out|apply below_alloc|apply below_drew1|apply below_dN|refine below_set ?_ (by omega))⟩
   ·obtain ⟨rfl,rfl,rfl⟩ : (0 : Int) = r0 ∧ (0 : Int) = r1 ∧ q0 = r2:=by have res:=HRes.out;rw [if_neg z] at res;simpa using res
    clear HRes
    have z' : (q0 != 0) = true:=by simpa using z
    go_wp2_with (go_at_call 31;refine (HP.out _ _ _ HV.out.below CC.out).mono ?_;rintro e w1 ⟨rfl,hb⟩;have n_:=aside (HV.out.mono hb);clear HV;have HV:=n_;clear n_ hb)
    go_ret3
    exact ⟨rfl,HV.out.below⟩
end Go.Proofs.Ytohcgenhhgipcaa.PA
