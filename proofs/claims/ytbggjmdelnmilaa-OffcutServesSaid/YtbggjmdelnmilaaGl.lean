import Derived.Test.YtbggjmdelnmilaaGi
import Derived.Test.YtbggjmdelnmilaaGm
set_option linter.unusedSimpArgs false
set_option linter.unusedVariables false
namespace Go.Proofs.Ytbggjmdelnmilaa.PA
open Go.RowKit Go.Shelf Go.Proofs.YtbggjmdelnmilaaW.PrintWords Go.Proofs.YtbggjmdelnmilaaW.PrintLast Go.Proofs.YtbggjmdelnmilaaW.PrintMore
def smallB (n : Int) (x : S39) : Bool:=decide (min3 x.f1 < n)
set_option maxHeartbeats 4000000 in
set_option maxRecDepth 100000 in
theorem del64 (n : Int) (gL : Nat) (base : Nat) (ok : Nat → Prop) (v : Value) (xs : List S39) (w : World) (hR : Kd.R k39 39 w base ok v xs) (hL : w.heap[gL]? = some (.cells #[.int .i64 n] 3 (0, 0))) (hgb : gL < base) (hbw : base ≤ w.heap.size) :
  Calls Try.prog 64 #[v,.func (.func 65) #[] #[.pointer (some ⟨gL,0,none⟩)]] w fun e w'=>∃ v' : Value,e = .returned v' ∧ Kd.R k39 39 w' base ok v' (xs.filter fun x=>!smallB n x) ∧ Below base w w':=by
 obtain ⟨A,c,rfl⟩ := Kd.R_slice hR;have HC:=(Kd.R_reads' hR).2.2;have eg : ∀ args w,(callFunc 65 args).run Try.prog w = .ok (.enter 65 args) w:=enters_of Try.func65 (by kernel_rfl) rfl
 have hP : Pred39 xs 65 #[.pointer (some ⟨gL,0,none⟩)] (smallB n) w:=fun W x _ hb=>small65 x gL n W (blk_below hL hb)
 have HI:=aside (idx73 (smallB n) 65 #[.pointer (some ⟨gL,0,none⟩)] eg A c xs w HC hP);have HR:=aside hR;have HL:=aside hL;clear hR hL hP HC
 go_enter Try.func64,Try.ntmps64
 cases hf : xs.findIdx? (smallB n) with
 | none =>
  have hi : idxOf (smallB n) xs = -1:=by unfold idxOf;rw [hf]
  have hx : (xs.filter fun x=>!smallB n x) = xs:=by
   rw [List.filter_eq_self];intro x hx;rw [List.findIdx?_eq_none_iff] at hf;rw [hf x hx];rfl
  rw [hi] at HI;have HX:=aside hx;clear hf hi hx
  go_wp2_with (go_at_call 73;refine (HI.out).mono ?_;rintro e w1 ⟨rfl,hb⟩)
  go_ret
  rw [HX.out];exact ⟨_,rfl,Kd.R_below HR.out hb,hb.mono hbw⟩
 | some i =>
  have hi : idxOf (smallB n) xs = (i : Int):=by unfold idxOf;rw [hf]
  rw [List.findIdx?_eq_some_iff_getElem] at hf;obtain ⟨hil,hpi,hbe⟩ := hf;rw [hi] at HI;have hm:=Kd.C_max (Kd.R_reads' HR.out).2.2;obtain ⟨g,cap,hv,hbg,hgl,cells,hgc⟩ := Kd.R_form HR.out (by omega)
  injection hv with hA hl hc
  subst hA hc
  have HF:=aside (show (∀ y ∈ xs.take i,smallB n y = false) ∧ smallB n xs[i] = true from ⟨fun y hy=>by
   obtain ⟨q,hq,rfl⟩ := List.getElem_of_mem hy;rw [List.getElem_take]
   simpa using hbe q (by simp at hq;omega),hpi⟩)
  clear hi hpi hbe hl
  go_upto_region 5 with (go_at_call 73;refine (HI.out).mono ?_;rintro e w1 ⟨rfl,hb⟩;have HR1:=aside (Kd.R_below HR.out hb);have HL1:=aside (blk_below HL.out hb);have HB1:=aside (hb.mono hbw))
  have hfl : (xs.take (i + 1)).filter (fun x=>!smallB n x) = xs.take i:=by
   rw [List.take_add_one,List.filter_append,List.filter_eq_self.2 (fun y hy=>by rw [HF.out.1 y hy];rfl)]
   simp [List.getElem?_eq_getElem hil,HF.out.2]
  have HFL:=aside hfl;clear hfl HI
  go_loopg [5,6] xs.length (fun gg s5 s6 wr=>∃ (a j : Nat) (ys : List S39),s5 = .int .i64 a ∧ s6 = .int .i64 j ∧ a < j ∧ j ≤ xs.length ∧ xs.length - j ≤ gg ∧ ys.length = xs.length ∧ Aside (ys.take a = (xs.take j).filter (fun x=>!smallB n x) ∧ ys.drop j = xs.drop j) ∧ Aside (Kd.R k39 39 wr base ok (.slice (some ⟨g,0,none⟩) xs.length c) ys) ∧ Aside (wr.heap[gL]? = some (.cells #[.int .i64 n] 3 (0,0))) ∧ Aside (Below base w wr))
  case atStart=>exact ⟨i,i + 1,xs,rfl,rfl,by omega,by omega,by omega,rfl,(show Aside _ from ⟨HFL.out.symm,rfl⟩),HR1,HL1,HB1⟩
  case round =>
   obtain ⟨a,j,ys,rfl,rfl,haj,hjn,hg,hyl,I,HR2,HL2,HB2⟩ := hrel;by_cases hlt : j < xs.length
   ·have hjy : j < ys.length:=by omega
    have hjy' : (j : Int) < (ys.length : Int):=by omega
    have hjx' : (j : Int) < (xs.length : Int):=by omega
    have hxy : (xs.length : Int) = (ys.length : Int):=by omega
    obtain ⟨ad,hA,q0,q1,q2,q3,q4,q5,q6⟩ := at_T39 (Kd.R_reads' HR2.out).2.2 (j : Int) (by omega) (by omega)
    have hx : rd_T39 ys (j : Int) = ys[j] := by unfold rd_T39;rw [Int.toNat_natCast];simp [List.getD,hjy]
    rw [hx] at q0 q1 q2 q3 q4 q5 q6;simp only [Int.toNat_natCast] at q0 q1 q2 q3 q4 q5 q6
    obtain ⟨y,hy⟩ : ∃ y,ys[j] = y:=⟨_,rfl⟩
    rw [hy] at q0 q1 q2 q3 q4 q5 q6;have Y:=aside hy;clear hx hy
    injection hA with hA
    subst hA
    have e0 : ∀ q,((⟨g,0,none⟩ : Addr).add q) = ⟨g,q,none⟩ := fun q=>by unfold Addr.add;split <;> simp_all
    simp only [e0] at q0 q1 q2 q3 q4 q5 q6
    go_upto_region 8 with fail
    have BY:=aside (blk_new wr (.cells #[.string y.f0,.int .i64 y.f1.f0,.int .i64 y.f1.f1,.int .i64 y.f1.f2,.int .i64 y.f2,.string y.f3,.string y.f4] 39 (0,0)));have HR3:=aside (Kd.R_alloc HR2.out (.cells #[.string y.f0,.int .i64 y.f1.f0,.int .i64 y.f1.f1,.int .i64 y.f1.f2,.int .i64 y.f2,.string y.f3,.string y.f4] 39));have HL3:=aside (blk_alloc HL2.out (.cells #[.string y.f0,.int .i64 y.f1.f0,.int .i64 y.f1.f1,.int .i64 y.f1.f2,.int .i64 y.f2,.string y.f3,.string y.f4] 39));have HB3:=aside (HB2.out.alloc (Nat.le_trans hbw HB2.out.size) (.cells #[.string y.f0,.int .i64 y.f1.f0,.int .i64 y.f1.f1,.int .i64 y.f1.f2,.int .i64 y.f2,.string y.f3,.string y.f4] 39));clear HR2 HL2 HB2 q0 q1 q2 q3 q4 q5 q6;generalize wr.alloc (.cells #[.string y.f0,.int .i64 y.f1.f0,.int .i64 y.f1.f1,.int .i64 y.f1.f2,.int .i64 y.f2,.string y.f3,.string y.f4] 39) = w3 at BY HR3 HL3 HB3 ⊢;generalize wr.heap.size = gy at BY ⊢;have x0:=cellB BY.out 0 (.string y.f0) rfl;have x1:=cellB BY.out 1 (.int .i64 y.f1.f0) rfl;have x2:=cellB BY.out 2 (.int .i64 y.f1.f1) rfl;have x3:=cellB BY.out 3 (.int .i64 y.f1.f2) rfl;have x4:=cellB BY.out 4 (.int .i64 y.f2) rfl;have x5:=cellB BY.out 5 (.string y.f3) rfl;have x6:=cellB BY.out 6 (.string y.f4) rfl;have hc:=small65 y gL n w3 HL3.out
    have hxj : xs[j] = y:=by
     have h:=congrArg (fun l=>l[0]?) I.out.2
     simp [hlt,hjy] at h
     rw [← h];exact Y.out
    have HX:=aside hxj;clear hxj
    cases hs : decide (min3 y.f1 < n) with
    | true =>
     rw [hs] at hc;have HSm:=aside hs;clear hs
     go_wp2_with (go_at_call 65;refine hc.mono ?_;rintro e w4 ⟨rfl,hb⟩)
     go_roundg (xs.length - (j + 1))
     case measure=>omega
     case rel =>
      have hf2 : (xs.take (j + 1)).filter (fun x=>!smallB n x) = (xs.take j).filter (fun x=>!smallB n x):=by
       rw [List.take_add_one,List.filter_append,List.getElem?_eq_getElem hlt,HX.out]
       simp [smallB,HSm.out]
      refine ⟨a,j + 1,ys,rfl,by go_num,by omega,by omega,by omega,hyl,(show Aside _ from ⟨by rw [hf2];exact I.out.1, ?_⟩),Kd.R_below HR3.out hb,blk_below HL3.out hb,HB3.out.trans (hb.mono (Nat.le_trans hbw HB3.out.size))⟩
      have h:=congrArg (List.drop 1) I.out.2
      simpa [List.drop_drop] using h
    | false =>
     rw [hs] at hc;have HSm:=aside hs;clear hs
     have hay : (a : Int) < (ys.length : Int):=by omega
     have hnd : ¬ (a = j):=by omega
     go_upto_region 9 with (go_at_call 65;refine hc.mono ?_;rintro e w4 ⟨rfl,hb⟩;have BY4:=aside (blk_below BY.out hb);have HR4:=aside (Kd.R_below HR3.out hb);have HL4:=aside (blk_below HL3.out hb);have HB4:=aside (HB3.out.trans (hb.mono (Nat.le_trans hbw HB3.out.size)));have GL4:=aside (Nat.le_trans (Nat.le_trans hbw HB3.out.size) hb.size);clear hb;have y0:=cellB BY4.out 0 (.string y.f0) rfl;have y1:=cellB BY4.out 1 (.int .i64 y.f1.f0) rfl;have y2:=cellB BY4.out 2 (.int .i64 y.f1.f1) rfl;have y3:=cellB BY4.out 3 (.int .i64 y.f1.f2) rfl;have y4:=cellB BY4.out 4 (.int .i64 y.f2) rfl;have y5:=cellB BY4.out 5 (.string y.f3) rfl;have y6:=cellB BY4.out 6 (.string y.f4) rfl;obtain ⟨ad4,co,hA4,hcl4,_,hcc4⟩ := Kd.C_get (Kd.R_reads' HR4.out).2.2 z39 (a : Int) (by omega) (by omega);injection hA4 with hA4;subst hA4;simp only [Addr.add_lit,Nat.zero_add] at hcc4;have HCL:=aside hcl4;have HCC:=aside hcc4;clear hcl4 hcc4)
     go_wp2_with (((with_reducible refine gate_ (.store 39 (.tmp 33) (.tmp 32)) rfl ?_);refine Kd.R_store k39 (w0:=w) base rfl rfl 39 (.tmp 33) (.tmp 32) rfl 39 (g:=g) (n:=xs.length) (cap:=c) (o':=a * 7) (a : Int) 0 ys y _ (c39 y) co ok (fun _=>False) rfl rfl rfl rfl (by kernel_rfl) ?s1 HR4.out (by omega) (by omega) HCL.out HCC.out (show 0 + 7 ≤ 7 from Nat.le_refl _) ?s2 (fun _ h=>h.elim) HB4.out ?_;(case s1=>intro q hq;simp only [c39,List.mem_cons,List.not_mem_nil,or_false] at hq;rcases hq with rfl|rfl|rfl|rfl|rfl|rfl|rfl <;> rfl);(case s2=>have e7 : List.drop (0 + (c39 y).length) co = [] := List.drop_eq_nil_of_le (Nat.le_of_eq (HCL.out.trans rfl));rw [List.take_zero,List.nil_append,e7,List.append_nil];exact k39_mkM _ _ _ _);intro w5 ho hb5 hg5;have HR5:=aside ho;have HB5:=aside hb5;have HL5:=aside ((hg5.block gL (by have:=GL4.out;omega) (by intro h;injection h with h;omega)).trans HL4.out);clear ho hb5 hg5))
     go_roundg (xs.length - (j + 1))
     case measure=>omega
     case rel =>
      have hf2 : (xs.take (j + 1)).filter (fun x=>!smallB n x) = (xs.take j).filter (fun x=>!smallB n x) ++ [y] := by
       rw [List.take_add_one,List.filter_append,List.getElem?_eq_getElem hlt,HX.out]
       simp [smallB,HSm.out]
      refine ⟨a + 1,j + 1,ys.set a y,by go_num,by go_num,by omega,by omega,by omega,by rw [List.length_set];exact hyl,(show Aside _ from ⟨?_, ?_⟩),HR5,HL5,HB5⟩
      ·rw [hf2,← I.out.1,List.take_set,List.take_succ_eq_append_getElem (by omega : a < ys.length),List.set_append_right _ _ (by rw [List.length_take];omega),List.length_take]
       congr 1
       rw [Nat.min_eq_left (by omega)];simp
      ·rw [List.drop_set_of_lt (by omega)];have h:=congrArg (List.drop 1) I.out.2
       simpa [List.drop_drop] using h
   ·obtain rfl : j = xs.length:=by omega
    rcases R39_open HR2.out with ⟨h9,_⟩|⟨g',cap,cur,inner,hv,hok,hbg',hgc',hnc,hcm,hcs,ht,hr⟩
    ·cases h9
    injection hv with hA hl hc
    injection hA with hA
    injection hA with hg' _ _
    subst hg' hc;have hil' : inner.length = ys.length * 7:=hr.1
    have hcl : cur.toList.length = c * 7:=by simpa using hcs
    obtain ⟨zs,hzl,hz⟩ := run_clear_row (P:=Try.prog) wr 22 39 _ Try.underlying22 zero39 (by decide) g (a * 7) (xs.length - a) (by omega) cur 39 hgc' (by rw [hcs];simp [Value.cells];omega);have hzl' : zs.length = (xs.length - a) * 7:=hzl
    obtain ⟨cur2,hcur2⟩ : ∃ q,q = (cur.toList.take (a * 7) ++ zs ++ cur.toList.drop (a * 7 + zs.length)).toArray:=⟨_,rfl⟩
    rw [← hcur2] at hz
    have hs2 : cur2.size = c * 7:=by
     rw [hcur2];simp only [List.size_toArray,List.length_append,List.length_take,List.length_drop,hcl,hzl'];omega
    have ht2 : cur2.toList.take ((ys.take a).length * 7) = inner.take (a * 7):=by
     rw [hcur2,List.toList_toArray,List.append_assoc,List.length_take,Nat.min_eq_left (by omega),List.take_left' (by rw [List.length_take];omega),← ht,List.take_take,Nat.min_eq_left (by omega)]
    have HF:=aside (R39_mk (base:=base) (ok:=ok) (inner.take (a * 7)) (Kd.reps_take hr (by omega)) hok hbg (setRow_heap wr g cur cur2 39 (0,0) hgc') (by rw [List.length_take];omega) hcm hs2 ht2);have HZ:=aside hz;have HB3:=aside (below_row HB2.out hbg cur2);have HL:=aside (show (ys.take a).length = a by rw [List.length_take];omega)
    have e1 : ¬ (c = a):=by omega
    have e2 : (a : Int) ≤ (xs.length : Int):=by omega
    have e3 : a ≤ c:=by omega
    have hcm' : c ≤ 9223372036854775807:=by unfold maxLen at hcm;omega
    have hI:=aside I.out.1;clear hz hzl hzl' hs2 ht2 hr hil' hcl hcur2 hgc' ht I hl hcs hnc
    go_wp2
    rw [HZ.out]
    go_wp2
    go_ret
    rw [List.take_length] at hI;rw [← hI.out];have h:=HF.out;rw [HL.out] at h;exact ⟨_,rfl,h,HB3.out⟩
end Go.Proofs.Ytbggjmdelnmilaa.PA
