import Derived.Test.YtdnjagfbhppmbaaGf
namespace Go.Proofs.Ytdnjagfbhppmbaa.PA
open Go.RowKit Go.Shelf Go.Proofs.YtdnjagfbhppmbaaW.PrintWords Go.Proofs.YtdnjagfbhppmbaaW.PrintLast Go.Proofs.YtdnjagfbhppmbaaW.PrintMore
set_option linter.unusedVariables false
set_option linter.unusedSimpArgs false
attribute [local go_sem] max2_int min2_int max_two min_two max_three min_three max_four min_four
theorem print_make_any {P : Program} (t e : TypeId) (z : Value) (bytes : Nat) (ht : P.underlying t = some (.slice e)) (hinfo : (P.info? e).map (fun i => (i.zero, i.size, i.bytes)) = some (some z, 1, bytes)) (hb0 : 0 < bytes) (hz : z.cells = #[z])
  (m : Nat) (hn : m * bytes ≤ 281474976710656) :
  ∀ W : World,(Instr.makeSlice t (.int .i64 (m : Int)) (.int .i64 (m : Int))).run P W = .ok (.slice (some ⟨W.heap.size,0,none⟩) m m) (W.alloc (.cells (madeCells #[z] m) e)):=by
 intro W;have hm : m ≤ 281474976710656:=Nat.le_trans (Nat.le_mul_of_pos_right _ hb0) hn;exact run_make_row' t e z bytes ht hinfo hz .i64 .i64 m (by rw [Nat.mul_comm];exact hn) (by omega) W
def fitsT (l : List S36) : Prop := ∀ x ∈ l,0 ≤ x.f1.f0 ∧ x.f1.f0 ≤ 40 ∧ 0 ≤ x.f1.f1 ∧ x.f1.f1 ≤ 40
set_option maxRecDepth 100000 in
set_option maxHeartbeats 1000000 in
theorem table34_any (len wid : Nat) (A : Option Addr) (c : Nat) (l : List S36) (k : Nat) (w : World) (hr : Kd.C k36 w A l.length l) (hf : fitsT l) (hlen : len ≤ 40) (hwid : wid ≤ 40) (hk : k ≤ 40) :
  Calls Try.prog 34 #[.int .i64 len,.int .i64 wid,.slice A l.length c,.int .i64 k] w fun e w'=>∃ v0_ : Value,e = .returned (v0_) ∧ Kd.S (Kd.slice 2 (Kd.int .i64)) 54 w' w.heap.size (fun _=>True) v0_ (tableR len wid l k) ∧ Below w.heap.size w w':=by
 have hm:=Kd.C_max hr;have HR:=aside hr;have HF:=aside hf;clear hr hf
 go_enter Try.func34,Try.ntmps34
 go_wp2
 go_loopg [20] l.length (fun gg v wr=>∃ n : Nat,n ≤ l.length ∧ l.length - n ≤ gg ∧ v = .int .i64 n ∧ Aside (Xb wr w.heap.size (exactF (l.take n))) ∧ Aside (Below w.heap.size w wr) ∧ w.heap.size < wr.heap.size)
 case atStart =>
  refine ⟨0,by omega,by omega,rfl, ?_, ?_, ?_⟩
  ·show Xb _ _ _
   unfold Xb;rw [exA_zero,heap_alloc_new];rfl
  (exact (Below.refl _ _).alloc (Nat.le_refl _) _)
  ·simp
 case round =>
  obtain ⟨n,hn,hg,rfl,X,B,hB⟩ := hrel;by_cases hlt : n < l.length
  ·have hlt' : (n : Int) < (l.length : Int):=by omega
   obtain ⟨ad,hA,q0,q1,q2,q3,q4,q5,q6⟩ := at_T36 (Kd.C_below HR.out B.out) (n : Int) (by omega) (by omega)
   have hx : rd_T36 l (n : Int) = l[n] := by unfold rd_T36;simp [List.getD,hlt]
   rw [hx] at q0 q1 q2 q3 q4 q5 q6;simp only [Int.toNat_natCast] at q0 q1 q2 q3 q4 q5 q6;have hsn:=exactF_snoc (l.take n) l[n];have hts : l.take (n + 1) = l.take n ++ [l[n]] := List.take_succ_eq_append_getElem hlt;rw [← hts] at hsn;obtain ⟨f1,f2,f3,f4⟩ := HF.out l[n] (List.getElem_mem hlt)
   obtain ⟨y,hy⟩ : ∃ y,l[n] = y:=⟨_,rfl⟩
   rw [hy] at q0 q1 q2 q3 q4 q5 q6 hsn f1 f2 f3 f4;clear hx hy hts;subst hA
   obtain ⟨i,hi⟩ : ∃ i : Nat,y.f1.f0 = (i : Int):=⟨y.f1.f0.toNat,by omega⟩
   obtain ⟨j,hj⟩ : ∃ j : Nat,y.f1.f1 = (j : Int):=⟨y.f1.f1.toNat,by omega⟩
   rw [hi] at q1 f1 f2;rw [hj] at q2 f3 f4;generalize hcur : exactF (l.take n) i j = cur;have SN:=aside hsn;have HI:=aside hi;have HJ:=aside hj;have HC:=aside hcur;clear hsn hi hj hcur
   go_wp2
   have hb1:=B.out.alloc (by omega : w.heap.size ≤ wr.heap.size) (.cells #[.string y.f0,.int .i64 i,.int .i64 j,.int .i64 y.f1.f2,.int .i64 y.f2,.int .i64 y.f3,.int .i64 y.f4] 36)
   have x1 : (wr.alloc (.cells #[.string y.f0,.int .i64 i,.int .i64 j,.int .i64 y.f1.f2,.int .i64 y.f2,.int .i64 y.f3,.int .i64 y.f4] 36)).cell? ⟨wr.heap.size,1,none⟩ = some (.int .i64 i):=by simp
   have x2 : (wr.alloc (.cells #[.string y.f0,.int .i64 i,.int .i64 j,.int .i64 y.f1.f2,.int .i64 y.f2,.int .i64 y.f3,.int .i64 y.f4] 36)).cell? ⟨wr.heap.size,2,none⟩ = some (.int .i64 j):=by simp
   have x3 : (wr.alloc (.cells #[.string y.f0,.int .i64 i,.int .i64 j,.int .i64 y.f1.f2,.int .i64 y.f2,.int .i64 y.f3,.int .i64 y.f4] 36)).cell? ⟨wr.heap.size,4,none⟩ = some (.int .i64 y.f2):=by simp
   have X1 : Xb (wr.alloc (.cells #[.string y.f0,.int .i64 i,.int .i64 j,.int .i64 y.f1.f2,.int .i64 y.f2,.int .i64 y.f3,.int .i64 y.f4] 36)) w.heap.size (exactF (l.take n)):=X.out.move (Below.heap_alloc _ _ _ hB)
   have hsz : (wr.alloc (.cells #[.string y.f0,.int .i64 i,.int .i64 j,.int .i64 y.f1.f2,.int .i64 y.f2,.int .i64 y.f3,.int .i64 y.f4] 36)).heap.size = wr.heap.size + 1:=by simp
   have hc:=X1.cell i j (by omega) (by omega);have hfz:=X1.free (i * 41 + j);rw [HC.out] at hc;clear q0 q1 q2 q3 q4 q5 q6;generalize (wr.alloc (.cells #[.string y.f0,.int .i64 i,.int .i64 j,.int .i64 y.f1.f2,.int .i64 y.f2,.int .i64 y.f3,.int .i64 y.f4] 36)) = W at *;have B1:=aside hb1;have XX:=aside X1;have SZ:=aside hsz;have g1 : ((i : Int) < 41) = True:=eq_true (by omega);have g2 : ((j : Int) < 41) = True:=eq_true (by omega);clear hb1 X1 hsz X B
   go_still_tail 20,(by kernel_rfl)
   go_wp2
   all_goals
    go_roundg (l.length - (n + 1))
    case measure=>omega
    case rel =>
     refine ⟨n + 1,by omega,by omega,by go_num, ?_, ?_, ?_⟩
     ·refine (Xb.set XX.out i j (by omega) (by omega) _ ?_ : Xb (W.setCell _ _) _ _)
      intro a b;rw [SN.out a b,HI.out,HJ.out];by_cases e : a = i ∧ b = j
      ·obtain ⟨rfl,rfl⟩ := e;rw [if_pos ⟨rfl,rfl⟩,if_pos ⟨rfl,rfl⟩,HC.out]
       unfold mx
       split <;> omega
      (rw [if_neg e,if_neg (by omega)])
     (exact (B1.out.setCell (by simp) _).drew)
     ·have:=SZ.out;simp;omega
  ·obtain rfl : n = l.length:=by omega
   have X1 : Xb wr w.heap.size (exactF l):=by have:=X.out;rwa [List.take_length] at this
   have XX:=aside X1;have BB:=aside B.out
   have e1 : ((len + 1 : Nat) : Int) = (len : Int) + 1:=by omega
   have hmk:=print_make_any 41 54 (.slice none 0 0) 24 Try.underlying41 info54 (by omega) rfl (len + 1) (by omega);rw [e1] at hmk;clear X1 X B hn hg hlt hm e1
   have hT0 : TabW w (wr.alloc (.cells (madeCells #[.slice none 0 0] (len + 1)) 54)) wr.heap.size (fun _=>0) (val (exactF l) k) (exactF l) len wid 0 :=
    ⟨BB.out.alloc (by omega) _,XX.out.move (Below.heap_alloc _ _ _ hB),by rw [heap_alloc_new,rowsA_zero (fun _=>0)],fun j hj=>absurd hj (Nat.not_lt_zero _),hB,by simp,fun j hj=>absurd hj (Nat.not_lt_zero _),fun j hj=>absurd hj (Nat.not_lt_zero _),fun i j _ hj=>absurd hj (Nat.not_lt_zero _),by omega⟩
   go_wp2
   have HT:=aside hT0;have HV:=aside (val_eq (exactF l) k);have hmk2:=print_make_any 54 2 (.int .i64 0) 8 Try.underlying54 info2 (by omega) rfl (wid + 1) (by omega)
   have e2 : ((wid + 1 : Nat) : Int) = (wid : Int) + 1:=by omega
   rw [e2] at hmk2;clear hT0 hmk XX BB e2;generalize hBt : wr.heap.size = Bt at HT ⊢
   have hBt' : w.heap.size < Bt:=by omega
   clear hB hBt;have HTR : Aside (tableR len wid l k = (List.range (len + 1)).map fun a=>(List.range (wid + 1)).map fun b=>val (exactF l) k a b):=rfl;generalize val (exactF l) k = F at HT HV HTR;generalize exactF l = ex at HT HV;generalize (wr.alloc (.cells (madeCells #[.slice none 0 0] (len + 1)) 54)) = W0 at HT ⊢
   go_loopg [50] (len + 1) (fun gg v wz=>∃ (n : Nat) (bs : Nat → Nat),n ≤ len + 1 ∧ len + 1 - n ≤ gg ∧ v = .int .i64 n ∧ Aside (TabW w wz Bt bs F ex len wid n))
   case atStart=>exact ⟨0,fun _=>0,by omega,by omega,rfl,HT⟩
   clear HT
   case round =>
    obtain ⟨n,bs,hn,hg,rfl,T⟩ := hrel;by_cases hlt : n < len + 1
    ·have hlt' : (n : Int) < (len : Int) + 1:=by omega
     obtain ⟨hc1,hf1⟩ := T.out.cellNew hlt (.cells (madeCells #[.int .i64 0] (wid + 1)) 2)
     have hF0 : ∀ a,F a 0 = 0:=fun a=>by rw [HV.out];simp
     have hF1 : ∀ b,F 0 b = 0:=fun b=>by rw [HV.out];simp
     have hT1:=T.out.newRow (G':=partG F n 1) hlt (fun j b hj _=>by unfold partG;rw [if_pos hj]) (fun b _=>by
      unfold partG;rw [if_neg (by omega)];split
      ·have : b = 0:=by omega
       subst this;exact hF0 n
      ·rfl)
     have F0:=aside hF0;have F1:=aside hF1;clear hF0 hF1
     go_wp2
     clear hc1 hf1;generalize (fun j=>if j = n then wr.heap.size else bs j) = bs1 at hT1;generalize ((wr.alloc (.cells (madeCells #[.int .i64 0] (wid + 1)) 2)).setCell ⟨Bt,n,none⟩ (.slice (some ⟨wr.heap.size,0,none⟩) (wid + 1) (wid + 1))) = W1 at hT1 ⊢;have T1:=aside hT1;clear hT1 T;have hgg:=aside hg;clear hg
     go_loopg [14] (wid + 1) (fun gg v wz=>∃ (m : Nat),1 ≤ m ∧ m ≤ wid + 1 ∧ wid + 1 - m ≤ gg ∧ v = .int .i64 m ∧ Aside (TabW w wz Bt bs1 (partG F n m) ex len wid (n + 1)))
     case atStart=>exact ⟨1,by omega,by omega,by omega,rfl,T1⟩
     clear T1
     case round =>
      obtain ⟨m,hm1,hm2,hg,rfl,T⟩ := hrel;by_cases hin : m ≤ wid ∧ 0 < n
      ·obtain ⟨hmw,hn0⟩ := hin;have hxc:=T.out.x.cell n m (by omega) (by omega);have g41 : ((n : Int) < 41) = True:=eq_true (by omega);have g42 : ((m : Int) < 41) = True:=eq_true (by omega)
       obtain ⟨e0,he0⟩ : ∃ e0,ex n m = e0:=⟨_,rfl⟩
       rw [he0] at hxc;have E0:=aside he0;have hgm:=aside hg;clear he0 hg
       go_wp2
       clear hxc g41 g42
       go_loopg [15,16] n (fun gg v15 v16 wz=>∃ (a : Nat) (b : Int),1 ≤ a ∧ (a = 1 ∨ a + k ≤ n) ∧ n - a ≤ gg ∧ v15 = .int .i64 b ∧ v16 = .int .i64 a ∧ Aside (b = fold1 F e0 k n m a) ∧ Aside (TabW w wz Bt bs1 (partG F n m) ex len wid (n + 1)))
       case atStart=>exact ⟨1,e0,by omega,by omega,by omega,rfl,rfl,rfl,T⟩
       clear T
       case round =>
        obtain ⟨a,b,ha1,ha2,hg,rfl,rfl,HB,T⟩ := hrel;by_cases hin : a + k + 1 ≤ n
        ·obtain ⟨p,hp⟩ : ∃ p,n - a - k = p:=⟨_,rfl⟩
         have hin1 : (1 : Int) ≤ (p : Int):=by omega
         have ct1:=T.out.cellT a (by omega);have ct2:=T.out.cellT p (by omega);have cr1:=T.out.cellR a m (by omega) (by omega);have cr2:=T.out.cellR p m (by omega) (by omega)
         have hG1 : partG F n m a m = F a m:=by unfold partG;rw [if_pos (by omega)]
         have hG2 : partG F n m p m = F p m:=by unfold partG;rw [if_pos (by omega)]
         rw [hG1] at cr1;rw [hG2] at cr2;have hst:=fold1_step F e0 k n m a ha1;rw [← HB.out,hp] at hst
         obtain ⟨s,hs⟩ : ∃ s,IntKind.i64.wrap (F a m + F p m) = s:=⟨_,rfl⟩
         have hs2 : wrap64 (F a m + F p m) = s:=(i64_w _).symm.trans hs;rw [hs2] at hst;generalize F a m = x1 at *;generalize F p m = x2 at *
         obtain ⟨d,hd⟩ : ∃ d,IntKind.i64.wrap ((n : Int) - (a : Int)) = d:=⟨_,rfl⟩
         have hd1 : d = (n : Int) - a:=by rw [← hd];exact IntWalk.i64_in _ (by omega)
         have hd2 : IntKind.i64.wrap (d - (k : Int)) = (p : Int):=by rw [hd1,IntWalk.i64_in _ (by omega)];omega
         have HST:=aside hst;have b1 : ((a : Int) < (len : Int) + 1) = True:=eq_true (by omega);have b2 : ((p : Int) < (len : Int) + 1) = True:=eq_true (by omega);have b3 : ((m : Int) < (wid : Int) + 1) = True:=eq_true (by omega);have HP:=aside hp;have HIN:=aside hin;clear hst hG1 hG2 hd1 hp hs2 hin
         go_wp2
         go_quiet (fail)
         go_wp2
         all_goals
          go_roundg (n - (a + 1))
          case measure=>have:=HIN.out;omega
          case rel =>
           refine ⟨a + 1,_,by omega, ?_,by omega,rfl,by go_num, ?_,T.out.drewN nq⟩
           ·have:=HIN.out;omega
           ·show _ = _
            rw [HST.out];unfold mx;split <;> omega
        ·have hin1 : (n : Int) - (a : Int) - (k : Int) < 1:=by omega
         have hae : a - 1 = n - k - 1:=by omega
         have HAE:=aside hae
         have ha3 : a ≤ 41:=by omega
         clear hae ha2 hg hin
         go_wp2
         clear hin1 ha1 ha3
         go_loopg [15,17] m (fun gg v15 v17 wz=>∃ (a2 : Nat) (b2 : Int),1 ≤ a2 ∧ (a2 = 1 ∨ a2 + k ≤ m) ∧ m - a2 ≤ gg ∧ v15 = .int .i64 b2 ∧ v17 = .int .i64 a2 ∧ Aside (b2 = fold2 F b k n m a2) ∧ Aside (TabW w wz Bt bs1 (partG F n m) ex len wid (n + 1)))
         case atStart=>exact ⟨1,b,by omega,by omega,by omega,rfl,rfl,rfl,T⟩
         clear T
         case round =>
          obtain ⟨a2,b2,ha1,ha2,hg,rfl,rfl,HB2,T⟩ := hrel;by_cases hin : a2 + k + 1 ≤ m
          ·obtain ⟨p,hp⟩ : ∃ p,m - a2 - k = p:=⟨_,rfl⟩
           have hin1 : (1 : Int) ≤ (p : Int):=by omega
           have ct1:=T.out.cellT n (by omega);have cr1:=T.out.cellR n a2 (by omega) (by omega);have cr2:=T.out.cellR n p (by omega) (by omega)
           have hG1 : partG F n m n a2 = F n a2:=by unfold partG;rw [if_neg (by omega),if_pos (by omega)]
           have hG2 : partG F n m n p = F n p:=by unfold partG;rw [if_neg (by omega),if_pos (by omega)]
           rw [hG1] at cr1;rw [hG2] at cr2;have hst:=fold2_step F b k n m a2 ha1;rw [← HB2.out,hp] at hst
           obtain ⟨s,hs⟩ : ∃ s,IntKind.i64.wrap (F n a2 + F n p) = s:=⟨_,rfl⟩
           have hs2 : wrap64 (F n a2 + F n p) = s:=(i64_w _).symm.trans hs;rw [hs2] at hst;generalize F n a2 = x1 at *;generalize F n p = x2 at *
           obtain ⟨d,hd⟩ : ∃ d,IntKind.i64.wrap ((m : Int) - (a2 : Int)) = d:=⟨_,rfl⟩
           have hd1 : d = (m : Int) - a2:=by rw [← hd];exact IntWalk.i64_in _ (by omega)
           have hd2 : IntKind.i64.wrap (d - (k : Int)) = (p : Int):=by rw [hd1,IntWalk.i64_in _ (by omega)];omega
           have HST:=aside hst;have b1 : ((n : Int) < (len : Int) + 1) = True:=eq_true (by omega);have g2 : ((p : Int) < (wid : Int) + 1) = True:=eq_true (by omega);have g3 : ((a2 : Int) < (wid : Int) + 1) = True:=eq_true (by omega);have HP:=aside hp;have HIN:=aside hin;clear hst hG1 hG2 hd1 hp hs2 hin
           go_wp2
           go_quiet (fail)
           go_wp2
           all_goals
            go_roundg (m - (a2 + 1))
            case measure=>have:=HIN.out;omega
            case rel =>
             refine ⟨a2 + 1,_,by omega, ?_,by omega,rfl,by go_num, ?_,T.out.drewN nq⟩
             ·have:=HIN.out;omega
             ·show _ = _
              rw [HST.out];unfold mx;split <;> omega
          ·have hin1 : (m : Int) - (a2 : Int) - (k : Int) < 1:=by omega
           have hbest : b2 = F n m:=by
            rw [HB2.out,HB.out,fold_cell F e0 k n m a a2 HAE.out (by omega),HV.out n m,if_neg (by omega),E0.out]
           have ct1:=T.out.cellT n (by omega);have cr1:=T.out.cellR n m (by omega) (by omega);have cf1:=T.out.freeR n m (by omega)
           have hT2:=T.out.setR (G':=partG F n (m + 1)) n m b2 (by omega) (fun j b hj hb=>by
            rw [hbest]
            unfold partG
            by_cases e : j < n
            (rw [if_pos e,if_pos e,if_neg (by omega)])
            ·obtain rfl : j = n:=by omega
             rw [if_neg e,if_neg e];by_cases e2 : b = m
             (subst e2;rw [if_pos (by omega),if_pos ⟨rfl,rfl⟩])
             ·rw [if_neg (by omega : ¬ (j = j ∧ b = m))];by_cases e3 : b < m
              (rw [if_pos e3,if_pos (by omega)])
              ·rw [if_neg e3,if_neg (by omega)])
           have T2:=aside hT2;have b1 : ((n : Int) < (len : Int) + 1) = True:=eq_true (by omega);have g3 : ((m : Int) < (wid : Int) + 1) = True:=eq_true (by omega)
           have ha3 : a2 ≤ 41:=by omega
           clear hT2 hbest ha2 hg hin
           go_wp2
           go_roundg (wid + 1 - (m + 1))
           case measure=>have:=hgm.out;omega
           case rel=>exact ⟨m + 1,by omega,by omega,by omega,by go_num,T2⟩
      ·go_wp2
       all_goals
        go_roundg (len + 1 - (n + 1))
        case measure=>have:=hgg.out;omega
        case rel =>
         refine ⟨n + 1,bs1,by omega,by omega,by go_num, ?_⟩
         refine (T.out.ext ?_ : TabW _ _ _ _ _ _ _ _ _)
         intro j b hj hb
         unfold partG
         by_cases e : j < n
         (rw [if_pos e])
         ·obtain rfl : j = n:=by omega
          rw [if_neg e];by_cases e2 : b < m
          (rw [if_pos e2])
          ·rw [if_neg e2]
           obtain rfl : j = 0:=by omega
           exact F1.out b
    ·obtain rfl : n = len + 1:=by omega
     go_wp2
     go_ret
     exact ⟨_,rfl,by rw [HTR.out];exact T.out.S (by omega) (by omega),T.out.below⟩
def okT (a0 a1 : Int) (l2 : List S36) (a3 : Int) : Prop:=0 ≤ a0 ∧ a0 ≤ 40 ∧ 0 ≤ a1 ∧ a1 ≤ 40 ∧ 0 ≤ a3 ∧ a3 ≤ 40 ∧ fitsT l2
open Classical in
noncomputable def flatpack_table.f (a0 : Int) (a1 : Int) (l2 : List S36) (a3 : Int) : Option (List (List Int)):=if okT a0 a1 l2 a3 then some (tableR a0.toNat a1.toNat l2 a3.toNat) else none
theorem flatpack_table.calls (a0 : Int) (a1 : Int) (A2 : Option Addr) (c2 : Nat) (l2 : List (S36)) (a3 : Int) (r : List (List Int)) (w : World) (hr2 : Kd.C k36 w A2 l2.length l2) (hc2 : l2.length ≤ c2) (h : flatpack_table.f a0 a1 l2 a3 = some r) :
  Calls Try.prog 34 #[.int .i64 a0,.int .i64 a1,.slice A2 l2.length c2,.int .i64 a3] w fun e w'=>∃ v0_ : Value,e = .returned (v0_) ∧ Kd.S (Kd.slice 2 (Kd.int .i64)) 54 w' w.heap.size (fun _=>True) v0_ r ∧ Below w.heap.size w w':=by
 unfold flatpack_table.f at h
 split at h
 ·rename_i ho
  obtain rfl:=Option.some.inj h;obtain ⟨h1,h2,h3,h4,h5,h6,h7⟩ := ho
  obtain ⟨x,rfl⟩ : ∃ x : Nat,a0 = x:=⟨a0.toNat,by omega⟩
  obtain ⟨y,rfl⟩ : ∃ x : Nat,a1 = x:=⟨a1.toNat,by omega⟩
  obtain ⟨z,rfl⟩ : ∃ x : Nat,a3 = x:=⟨a3.toNat,by omega⟩
  exact table34_any x y A2 c2 l2 z w hr2 h7 (by omega) (by omega) (by omega)
 ·cases h
end Go.Proofs.Ytdnjagfbhppmbaa.PA
