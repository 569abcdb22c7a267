import Derived.Test.YtdnjagfbhppmbaaGx
namespace Go.Proofs.Ytdnjagfbhppmbaa.PA
open Go.RowKit Go.Shelf Go.Proofs.YtdnjagfbhppmbaaW.PrintWords Go.Proofs.YtdnjagfbhppmbaaW.PrintLast Go.Proofs.YtdnjagfbhppmbaaW.PrintMore
set_option linter.unusedVariables false
set_option linter.unusedSimpArgs false
def LC (W : World) (A : Option Addr) (L : List S87) : Prop :=
 ∀ (X : World), Below W.heap.size W X → ∀ (j : Nat) (hj : j < L.length), ∃ ad, A = some ad ∧
   X.cell? (ad.add (j * 8)) = some (.int .i64 L[j].f0) ∧ X.cell? ⟨(ad.add (j * 8)).block,(ad.add (j * 8)).off + 1,none⟩ = some (.string L[j].f1) ∧
   X.cell? ⟨(ad.add (j * 8)).block,(ad.add (j * 8)).off + 2,none⟩ = some (.int .i64 L[j].f2.f0.f0) ∧ X.cell? ⟨(ad.add (j * 8)).block,(ad.add (j * 8)).off + 3,none⟩ = some (.int .i64 L[j].f2.f0.f1) ∧
   X.cell? ⟨(ad.add (j * 8)).block,(ad.add (j * 8)).off + 4,none⟩ = some (.int .i64 L[j].f2.f0.f2) ∧ X.cell? ⟨(ad.add (j * 8)).block,(ad.add (j * 8)).off + 5,none⟩ = some (.int .i64 L[j].f2.f1.f0) ∧
   X.cell? ⟨(ad.add (j * 8)).block,(ad.add (j * 8)).off + 6,none⟩ = some (.int .i64 L[j].f2.f1.f1) ∧ X.cell? ⟨(ad.add (j * 8)).block,(ad.add (j * 8)).off + 7,none⟩ = some (.int .i64 L[j].f2.f1.f2)
theorem LC.mono {W X : World} {A : Option Addr} {L : List S87} (h : LC W A L) (hb : Below W.heap.size W X) : LC X A L :=
 fun Y hY j hj=>h Y (hb.trans (hY.mono hb.size)) j hj
theorem take_one {α : Type} (l : List α) (n : Nat) (h : n < l.length) : l.take (n + 1) = l.take n ++ [l[n]] := by simp
theorem drop_one {α : Type} (l : List α) (n : Nat) (h : n < l.length) : l.drop n = l[n] :: l.drop (n + 1):=by simp
theorem sumR_step (l : List S36) (x : S87) (r : List S87) (s : Int) (h : x.f0 = 1) (h1 : wrap64 (x.f2.f1.f0 - x.f2.f0.f0) = (itemOf l x.f1).f1.f0) (h2 : wrap64 (x.f2.f1.f1 - x.f2.f0.f1) = (itemOf l x.f1).f1.f1) : sumR l (x :: r) s = sumR l r (wrap64 (s + (itemOf l x.f1).f2)):=by
 rw [sumR,if_pos h,if_pos h1,if_pos h2]
theorem sumR_bad1 (l : List S36) (x : S87) (r : List S87) (s : Int) (h : x.f0 = 1) (h1 : ¬ wrap64 (x.f2.f1.f0 - x.f2.f0.f0) = (itemOf l x.f1).f1.f0) : sumR l (x :: r) s = (0,10):=by
 rw [sumR,if_pos h,if_neg h1]
theorem sumR_bad2 (l : List S36) (x : S87) (r : List S87) (s : Int) (h : x.f0 = 1) (h1 : wrap64 (x.f2.f1.f0 - x.f2.f0.f0) = (itemOf l x.f1).f1.f0) (h2 : ¬ wrap64 (x.f2.f1.f1 - x.f2.f0.f1) = (itemOf l x.f1).f1.f1) : sumR l (x :: r) s = (0,10):=by
 rw [sumR,if_pos h,if_pos h1,if_neg h2]
theorem sumR_skip (l : List S36) (x : S87) (r : List S87) (s : Int) (h : ¬ x.f0 = 1) : sumR l (x :: r) s = sumR l r s:=by
 rw [sumR,if_neg h]
set_option maxRecDepth 100000 in
set_option maxHeartbeats 2000000 in
theorem value_main (a0 a1 : Int) (A2 : Option Addr) (c2 : Nat) (l2 : List S36) (a3 : Int) (A4 : Option Addr) (c4 : Nat) (l4 : List S59) (L : List S87) (p : Int × Int) (w : World) (hr2 : Kd.C k36 w A2 l2.length l2) (hs2 : ∀ x ∈ l2, x.f0.size ≤ 9223372036854775807) (hr4 : Kd.C k59 w A4 l4.length l4) (hs4 : ∀ x ∈ l4, x.f1.size ≤ 9223372036854775807)
  (hs8 : ∀ x ∈ L,x.f1.size ≤ 9223372036854775807)
  (C30 : ∀ W : World,Below w.heap.size w W → Calls Try.prog 30 #[.int .i64 a0,.int .i64 a1,.slice A2 l2.length c2,.int .i64 a3] W fun e w'=>e = .returned (.int .i64 0) ∧ Below W.heap.size W w')
  (C40 : ∀ W : World,Below w.heap.size w W → Calls Try.prog 40 #[.agg #[.int .i64 a0,.int .i64 a1,.int .i64 1],.slice A4 l4.length c4] W fun e w'=>∃ A c,e = .returned (.tuple #[.slice A L.length c,.int .i64 0]) ∧ LC w' A L ∧ Below W.heap.size W w')
  (C41 : ∀ W : World,Below w.heap.size w W → W.cell? ⟨w.heap.size,0,none⟩ = some (.int .i64 a3) → Calls Try.prog 41 #[.slice A4 l4.length c4,.func (.func 42) #[] #[.pointer (some ⟨w.heap.size,0,none⟩)]] W fun e w'=>e = .returned (.bool false) ∧ Below W.heap.size W w')
  (hL : L.length ≤ 9223372036854775807) (hp : (if l4.any (unk l2) = true then (0,3) else sumR l2 L 0) = p) :
  Calls Try.prog 28 #[.int .i64 a0,.int .i64 a1,.slice A2 l2.length c2,.int .i64 a3,.slice A4 l4.length c4] w fun e w'=>e = .returned (.tuple #[.int .i64 p.1,.int .i64 p.2]) ∧ Below w.heap.size w w':=by
 have hm2:=Kd.C_max hr2;have hm4:=Kd.C_max hr4;have HR2:=aside hr2;have HR4:=aside hr4;have HS2:=aside hs2;have HS4:=aside hs4;have HS8:=aside hs8;have H30:=aside C30;have H40:=aside C40;have H41:=aside C41;have HP:=aside hp;clear hr2 hr4 hs2 hs4 hs8 C30 C40 C41 hp
 have HB0 : Aside (Below w.heap.size w (w.alloc (.cells #[.int .i64 a3] 3))):=(show Below _ _ _ from below_alloc (Below.refl w.heap.size w) _)
 have HVX : Aside (∀ X : World,Below (w.alloc (.cells #[.int .i64 a3] 3)).heap.size (w.alloc (.cells #[.int .i64 a3] 3)) X → X.cell? ⟨w.heap.size,0,none⟩ = some (.int .i64 a3)):=(show ∀ X : World,_ from fun X hb=>(blk_cell ((hb.block _ (blk_lt (heap_alloc_new w _))).trans (heap_alloc_new w _)) 0).trans rfl)
 have hmm := @run_makeMap Try.prog
 go_enter Try.func28,Try.ntmps28
 go_wp2_with (first
  | (go_at_call 30;refine (H30.out _ HB0.out).mono ?_;rintro e w1 ⟨rfl,hb1⟩;have HB1:=aside hb1;clear hb1)
  | (go_at_call 40;refine (H40.out _ (belT HB0.out HB1.out)).mono ?_;rintro e w2 ⟨A8,c8,rfl,hlc,hb2⟩;have HL2:=aside hlc;have HB2:=aside hb2;clear hb2 hlc)
  | (go_at_call 41;refine (H41.out _ (belT (belT HB0.out HB1.out) HB2.out) (HVX.out _ (belT HB1.out HB2.out))).mono ?_;rintro e w3 ⟨rfl,hb3⟩;have HL3:=aside (HL2.out.mono hb3);have HB3:=aside (belT (belT (belT HB0.out HB1.out) HB2.out) hb3);clear hb3))
 have h8a:=HL3
 obtain ⟨W0,hW0⟩ : ∃ W0,w3.alloc (.map #[] 0) = W0:=⟨_,rfl⟩
 have hM0 : MI W0 w3.heap.size 0 (l2.take 0):=by rw [← hW0];exact MI.made w3
 have hB4 : Below w3.heap.size w3 W0:=by rw [← hW0];exact below_alloc (Below.refl _ _) _
 rw [hW0];clear hW0 h8a hmm;have HM0:=aside hM0;have HB4:=aside hB4;clear hM0 hB4
 go_loopg [51] l2.length (fun gg v wr=>∃ n : Nat,n ≤ l2.length ∧ l2.length - n ≤ gg ∧ v = .int .i64 n ∧ Aside (MI wr w3.heap.size n (l2.take n)) ∧ Aside (Below w3.heap.size w3 wr))
 case atStart=>exact ⟨0,by omega,by omega,rfl,HM0,HB4⟩
 case round =>
  obtain ⟨n,hn,hg,rfl,M,B⟩ := hrel;by_cases hlt : n < l2.length
  ·have hlt' : (n : Int) < (l2.length : Int):=by omega
   obtain ⟨ad,hA,q0,q1,q2,q3,q4,q5,q6⟩ := at_T36 (Kd.C_below (Kd.C_below HR2.out HB3.out) B.out) (n : Int) (by omega) (by omega)
   have hx : rd_T36 l2 (n : Int) = l2[n] := by unfold rd_T36;simp [List.getD,hlt]
   rw [hx] at q0 q1 q2 q3 q4 q5 q6;simp only [Int.toNat_natCast] at q0 q1 q2 q3 q4 q5 q6;have hkey:=WideMaps.keyOf_string_mk (P:=Try.prog) Try.underlying9 (HS2.out _ (List.getElem_mem hlt));have HT:=aside (take_one l2 n hlt)
   obtain ⟨y,hy⟩ : ∃ y,l2[n] = y:=⟨_,rfl⟩
   rw [hy] at q0 q1 q2 q3 q4 q5 q6 hkey HT;have HY:=aside hy;obtain ⟨D,h1,h2,h3⟩ := M.out.ex;have H1:=aside h1;have H2:=aside h2;have H3:=aside h3;clear hx hy h1 h2 h3;subst hA
   go_wp2_with (at_mapUpdate;refine wpList_mapUpdate_own _ rfl _ _ _ 77 rfl 9 36 law9 Try.underlying77 R36 w3.heap.size n D rfl (H1.out.alloc _) (by unfold maxLen;omega) _ _ _ rfl rfl hkey _ [] (R36_mk y) ?_;intro w4 hown1 hgrow1)
   go_roundg (l2.length - (n + 1))
   case measure=>omega
   case rel => 
    refine ⟨n + 1,by omega,by omega,by go_num,aside (by rw [HT.out];exact MI.put y H2.out H3.out hown1),aside ((below_alloc B.out _).grown hgrow1 ?_ (fun k e=>by cases e;exact Nat.le_refl _))⟩
    have:=B.out.size
    simp
    omega
  ·obtain rfl : n = l2.length:=by omega
   have HM:=aside M.out;have HBm:=aside B.out;clear M B hn hg hlt
   have HMl : Aside (MI wr w3.heap.size l2.length l2):=(show MI _ _ _ _ from by have:=HM.out;rwa [List.take_length] at this)
   clear HM HM0
   go_wp2
   go_loopg [62] l4.length (fun gg v wr=>∃ n : Nat,n ≤ l4.length ∧ l4.length - n ≤ gg ∧ v = .int .i64 n ∧ Aside (∀ j (h : j < l4.length),j < n → unk l2 l4[j] = false) ∧ Aside (MI wr w3.heap.size l2.length l2) ∧ Aside (Below w3.heap.size w3 wr))
   case atStart=>exact ⟨0,by omega,by omega,rfl,(show Aside _ from fun j h hj=>absurd hj (Nat.not_lt_zero _)),HMl,HBm⟩
   clear HMl HBm
   case round =>
    obtain ⟨n,hn,hg,rfl,A1,M,B⟩ := hrel;by_cases hlt : n < l4.length
    ·have hlt' : (n : Int) < (l4.length : Int):=by omega
     obtain ⟨ad,hA,q0,q1,q2,q3,q4,q5,q6⟩ := at_T59 (Kd.C_below (Kd.C_below HR4.out HB3.out) B.out) (n : Int) (by omega) (by omega)
     have hx : rd_T59 l4 (n : Int) = l4[n] := by unfold rd_T59;simp [List.getD,hlt]
     rw [hx] at q0 q1 q2 q3 q4 q5 q6;simp only [Int.toNat_natCast] at q0 q1 q2 q3 q4 q5 q6;have hsz:=HS4.out _ (List.getElem_mem hlt)
     obtain ⟨y,hy⟩ : ∃ y,l4[n] = y:=⟨_,rfl⟩
     rw [hy] at q0 q1 q2 q3 q4 q5 q6 hsz;have HY:=aside hy;have hlk:=(MI.below M.out (below_alloc (Below.refl wr.heap.size wr) (.cells #[.int .i64 y.f0,.string y.f1,.int .i64 y.f2,.int .i64 y.f3,.int .i64 y.f4,.int .i64 y.f5,.int .i64 y.f6] 59)) M.out.lt).look_ok y.f1 hsz
     unfold e36 at hlk
     have hu : unk l2 y = (decide (y.f0 = 1) && !(knownR l2 y.f1).isSome):=rfl;generalize itemOf l2 y.f1 = it at hlk
     obtain ⟨q,hq⟩ : ∃ q,(knownR l2 y.f1).isSome = q:=⟨_,rfl⟩
     rw [hq] at hlk hu;clear hx hy hsz hq;subst hA;by_cases hk : y.f0 = 1
     ·have k1 : (y.f0 == 1) = true:=by simpa using hk
      have HK:=aside hk
      cases q
      ·have HU : Aside (unk l2 y = true):=(show _ = _ from by rw [hu,hk];rfl)
       clear hu hk
       go_wp2
       go_ret2
       refine ⟨?_,belT HB3.out (belT B.out (below_alloc (below_alloc (Below.refl _ _) _) _))⟩
       have hp:=HP.out;rw [if_pos (List.any_eq_true.2 ⟨_,List.getElem_mem hlt,by rw [HY.out];exact HU.out⟩)] at hp;subst hp;rfl
      ·have HU : Aside (unk l2 y = false):=(show _ = _ from by rw [hu,hk];rfl)
       clear hu hk
       go_wp2
       go_roundg (l4.length - (n + 1))
       case measure=>omega
       case rel =>
        refine ⟨n + 1,by omega,by omega,by go_num,(show Aside _ from fun j h hj=>?_),aside (MI.below M.out (below_alloc (below_alloc (Below.refl _ _) _) _) M.out.lt),aside (belT B.out (below_alloc (below_alloc (Below.refl _ _) _) _))⟩
        by_cases e : j = n
        (subst e;rw [HY.out];exact HU.out);(exact A1.out j h (by omega))
     ·have k1 : (y.f0 == 1) = false:=by simpa using hk
      have HU : Aside (unk l2 y = false):=(show _ = _ from by rw [hu];simp [hk])
      clear hu hk
      go_wp2
      go_roundg (l4.length - (n + 1))
      case measure=>omega
      case rel =>
       refine ⟨n + 1,by omega,by omega,by go_num,(show Aside _ from fun j h hj=>?_),aside (MI.below M.out (below_alloc (below_alloc (Below.refl _ _) _) _) M.out.lt),aside (belT B.out (below_alloc (below_alloc (Below.refl _ _) _) _))⟩
       by_cases e : j = n
       (subst e;rw [HY.out];exact HU.out);(exact A1.out j h (by omega))
    ·obtain rfl : n = l4.length:=by omega
     have hno : l4.any (unk l2) = false:=by
      cases e : l4.any (unk l2)
      (rfl)
      ·obtain ⟨x,hx,hu⟩ := List.any_eq_true.1 e;obtain ⟨j,hj,rfl⟩ := List.getElem_of_mem hx;rw [A1.out j hj hj] at hu
       cases hu
     have HQ : Aside (sumR l2 (L.drop 0) 0 = p):=(show _ = _ from by have:=HP.out;rw [hno] at this;exact this)
     clear hno A1 hn hg hlt HP;have HM:=aside M.out;have HBm:=aside B.out;clear M B
     go_wp2
     go_loopg [22,83] L.length (fun gg s v wr=>∃ (n : Nat) (t : Int),n ≤ L.length ∧ L.length - n ≤ gg ∧ v = .int .i64 n ∧ s = .int .i64 t ∧ Aside (sumR l2 (L.drop n) t = p) ∧ Aside (MI wr w3.heap.size l2.length l2) ∧ Aside (Below w3.heap.size w3 wr))
     case atStart=>exact ⟨0,0,by omega,by omega,rfl,rfl,HQ,HM,HBm⟩
     clear HQ HM HBm
     case round =>
      obtain ⟨n,t,hn,hg,rfl,rfl,Q,M,B⟩ := hrel;by_cases hlt : n < L.length
      ·have hlt' : (n : Int) < (L.length : Int):=by omega
       obtain ⟨ad,hA,q0,q1,q2,q3,q4,q5,q6,q7⟩ := HL3.out wr B.out n hlt;have hsz:=HS8.out _ (List.getElem_mem hlt);have hqq:=Q.out;rw [drop_one L n hlt] at hqq
       obtain ⟨y,hy⟩ : ∃ y,L[n] = y:=⟨_,rfl⟩
       rw [hy] at q0 q1 q2 q3 q4 q5 q6 q7 hsz hqq;have hlk:=(MI.below M.out (below_alloc (Below.refl wr.heap.size wr) (.cells #[.int .i64 y.f0,.string y.f1,.int .i64 y.f2.f0.f0,.int .i64 y.f2.f0.f1,.int .i64 y.f2.f0.f2,.int .i64 y.f2.f1.f0,.int .i64 y.f2.f1.f1,.int .i64 y.f2.f1.f2] 82)) M.out.lt).look y.f1 hsz
       unfold e36 at hlk
       have S0:=fun h : ¬ y.f0 = 1=>sumR_skip l2 y (L.drop (n + 1)) t h
       have S1:=fun (h : y.f0 = 1)=>sumR_bad1 l2 y (L.drop (n + 1)) t h
       have S2:=fun (h : y.f0 = 1)=>sumR_bad2 l2 y (L.drop (n + 1)) t h
       have S3:=fun (h : y.f0 = 1)=>sumR_step l2 y (L.drop (n + 1)) t h
       generalize itemOf l2 y.f1 = it at hlk S1 S2 S3
       obtain ⟨d1,hd1⟩ : ∃ d,IntKind.i64.wrap (y.f2.f1.f0 - y.f2.f0.f0) = d:=⟨_,rfl⟩
       obtain ⟨d2,hd2⟩ : ∃ d,IntKind.i64.wrap (y.f2.f1.f1 - y.f2.f0.f1) = d:=⟨_,rfl⟩
       obtain ⟨t2,ht2⟩ : ∃ d,IntKind.i64.wrap (t + it.f2) = d:=⟨_,rfl⟩
       rw [(i64_w _).symm.trans hd1] at S1 S2 S3;rw [(i64_w _).symm.trans hd2] at S2 S3;rw [(i64_w _).symm.trans ht2] at S3;have HQQ:=aside hqq;have T0:=aside S0;have T1:=aside S1;have T2:=aside S2;have T3:=aside S3;clear hy hsz hqq Q S0 S1 S2 S3;subst hA;by_cases hk : y.f0 = 1
       ·have k1 : (y.f0 != 1) = false:=by simpa using hk
        have HK:=aside hk;clear hk;by_cases e1 : d1 = it.f1.f0
        ·have b1 : (d1 != it.f1.f0) = false:=by simpa using e1
         have E1:=aside e1;clear e1;by_cases e2 : d2 = it.f1.f1
         ·have b2 : (d2 != it.f1.f1) = false:=by simpa using e2
          have E2:=aside e2;clear e2
          go_wp2
          go_roundg (L.length - (n + 1))
          case measure=>omega
          case rel =>
           refine ⟨n + 1,t2,by omega,by omega,by go_num, ?_,aside (by rw [← T3.out HK.out E1.out E2.out];exact HQQ.out),aside (MI.below M.out (below_alloc (below_alloc (Below.refl _ _) _) _) M.out.lt),aside (belT B.out (below_alloc (below_alloc (Below.refl _ _) _) _))⟩
           go_num
         ·have b2 : (d2 != it.f1.f1) = true:=by simpa using e2
          have E2:=aside e2;clear e2
          go_wp2
          go_ret2
          refine ⟨?_,belT HB3.out (belT B.out (below_alloc (below_alloc (Below.refl _ _) _) _))⟩
          have hp:=HQQ.out;rw [T2.out HK.out E1.out E2.out] at hp;subst hp;rfl
        ·have b1 : (d1 != it.f1.f0) = true:=by simpa using e1
         have E1:=aside e1;clear e1
         go_wp2
         go_ret2
         refine ⟨?_,belT HB3.out (belT B.out (below_alloc (below_alloc (Below.refl _ _) _) _))⟩
         have hp:=HQQ.out;rw [T1.out HK.out E1.out] at hp;subst hp;rfl
       ·have k1 : (y.f0 != 1) = true:=by simpa using hk
        have HK:=aside hk;clear hk
        go_wp2
        go_roundg (L.length - (n + 1))
        case measure=>omega
        case rel =>
         exact ⟨n + 1,t,by omega,by omega,by go_num,rfl,aside (by rw [← T0.out HK.out];exact HQQ.out),aside (MI.below M.out (below_alloc (Below.refl _ _) _) M.out.lt),aside (belT B.out (below_alloc (Below.refl _ _) _))⟩
      ·obtain rfl : n = L.length:=by omega
       have HE : Aside ((t,(0 : Int)) = p):=(show _ = _ from by have:=Q.out;rw [List.drop_length] at this;exact this)
       clear Q
       go_wp2
       go_ret2
       exact ⟨by have h:=HE.out;subst h;rfl,belT HB3.out B.out⟩
set_option maxHeartbeats 1000000 in
theorem value_e30 (a0 a1 : Int) (A2 : Option Addr) (c2 n2 : Nat) (a3 r : Int) (A4 : Option Addr) (c4 n4 : Nat) (w : World) (hne : ¬ r = 0)
  (C30 : ∀ W : World,Below w.heap.size w W → Calls Try.prog 30 #[.int .i64 a0,.int .i64 a1,.slice A2 n2 c2,.int .i64 a3] W fun e w'=>e = .returned (.int .i64 r) ∧ Below W.heap.size W w') :
  Calls Try.prog 28 #[.int .i64 a0,.int .i64 a1,.slice A2 n2 c2,.int .i64 a3,.slice A4 n4 c4] w fun e w'=>e = .returned (.tuple #[.int .i64 0,.int .i64 r]) ∧ Below w.heap.size w w':=by
 have H30:=aside C30
 have hb : (r != 0) = true:=by simpa using hne
 have HB0 : Aside (Below w.heap.size w (w.alloc (.cells #[.int .i64 a3] 3))):=(show Below _ _ _ from below_alloc (Below.refl w.heap.size w) _)
 clear C30 hne
 go_enter Try.func28,Try.ntmps28
 go_wp2_with (go_at_call 30;refine (H30.out _ HB0.out).mono ?_;rintro e w1 ⟨rfl,hb1⟩)
 go_ret2
 exact ⟨rfl,belT HB0.out hb1⟩
set_option maxHeartbeats 1000000 in
theorem value_e40 (a0 a1 : Int) (A2 : Option Addr) (c2 n2 : Nat) (a3 r : Int) (A4 : Option Addr) (c4 n4 : Nat) (w : World) (hne : ¬ r = 0)
  (C30 : ∀ W : World,Below w.heap.size w W → Calls Try.prog 30 #[.int .i64 a0,.int .i64 a1,.slice A2 n2 c2,.int .i64 a3] W fun e w'=>e = .returned (.int .i64 0) ∧ Below W.heap.size W w')
  (C40 : ∀ W : World,Below w.heap.size w W → Calls Try.prog 40 #[.agg #[.int .i64 a0,.int .i64 a1,.int .i64 1],.slice A4 n4 c4] W fun e w'=>∃ u,e = .returned (.tuple #[u,.int .i64 r]) ∧ Below W.heap.size W w') :
  Calls Try.prog 28 #[.int .i64 a0,.int .i64 a1,.slice A2 n2 c2,.int .i64 a3,.slice A4 n4 c4] w fun e w'=>e = .returned (.tuple #[.int .i64 0,.int .i64 r]) ∧ Below w.heap.size w w':=by
 have H30:=aside C30;have H40:=aside C40
 have hb : (r != 0) = true:=by simpa using hne
 have HB0 : Aside (Below w.heap.size w (w.alloc (.cells #[.int .i64 a3] 3))):=(show Below _ _ _ from below_alloc (Below.refl w.heap.size w) _)
 clear C30 C40 hne
 go_enter Try.func28,Try.ntmps28
 go_wp2_with (first
  | (go_at_call 30;refine (H30.out _ HB0.out).mono ?_;rintro e w1 ⟨rfl,hb1⟩;have HB1:=aside hb1;clear hb1)
  | (go_at_call 40;refine (H40.out _ (belT HB0.out HB1.out)).mono ?_;rintro e w2 ⟨u,rfl,hb2⟩))
 go_ret2
 exact ⟨rfl,belT (belT HB0.out HB1.out) hb2⟩
set_option maxHeartbeats 1000000 in
theorem value_e41 (a0 a1 : Int) (A2 : Option Addr) (c2 n2 : Nat) (a3 : Int) (A4 : Option Addr) (c4 n4 : Nat) (w : World)
  (C30 : ∀ W : World,Below w.heap.size w W → Calls Try.prog 30 #[.int .i64 a0,.int .i64 a1,.slice A2 n2 c2,.int .i64 a3] W fun e w'=>e = .returned (.int .i64 0) ∧ Below W.heap.size W w')
  (C40 : ∀ W : World,Below w.heap.size w W → Calls Try.prog 40 #[.agg #[.int .i64 a0,.int .i64 a1,.int .i64 1],.slice A4 n4 c4] W fun e w'=>∃ u,e = .returned (.tuple #[u,.int .i64 0]) ∧ Below W.heap.size W w')
  (C41 : ∀ W : World,Below w.heap.size w W → W.cell? ⟨w.heap.size,0,none⟩ = some (.int .i64 a3) → Calls Try.prog 41 #[.slice A4 n4 c4,.func (.func 42) #[] #[.pointer (some ⟨w.heap.size,0,none⟩)]] W fun e w'=>e = .returned (.bool true) ∧ Below W.heap.size W w') :
  Calls Try.prog 28 #[.int .i64 a0,.int .i64 a1,.slice A2 n2 c2,.int .i64 a3,.slice A4 n4 c4] w fun e w'=>e = .returned (.tuple #[.int .i64 0,.int .i64 10]) ∧ Below w.heap.size w w':=by
 have H30:=aside C30;have H40:=aside C40;have H41:=aside C41
 have HB0 : Aside (Below w.heap.size w (w.alloc (.cells #[.int .i64 a3] 3))):=(show Below _ _ _ from below_alloc (Below.refl w.heap.size w) _)
 have HVX : Aside (∀ X : World,Below (w.alloc (.cells #[.int .i64 a3] 3)).heap.size (w.alloc (.cells #[.int .i64 a3] 3)) X → X.cell? ⟨w.heap.size,0,none⟩ = some (.int .i64 a3)):=(show ∀ X : World,_ from fun X hb=>(blk_cell ((hb.block _ (blk_lt (heap_alloc_new w _))).trans (heap_alloc_new w _)) 0).trans rfl)
 clear C30 C40 C41
 go_enter Try.func28,Try.ntmps28
 go_wp2_with (first
  | (go_at_call 30;refine (H30.out _ HB0.out).mono ?_;rintro e w1 ⟨rfl,hb1⟩;have HB1:=aside hb1;clear hb1)
  | (go_at_call 40;refine (H40.out _ (belT HB0.out HB1.out)).mono ?_;rintro e w2 ⟨u,rfl,hb2⟩;have HB2:=aside hb2;clear hb2)
  | (go_at_call 41;refine (H41.out _ (belT (belT HB0.out HB1.out) HB2.out) (HVX.out _ (belT HB1.out HB2.out))).mono ?_;rintro e w3 ⟨rfl,hb3⟩))
 go_ret2
 exact ⟨rfl,belT (belT (belT HB0.out HB1.out) HB2.out) hb3⟩
theorem leaves_names (ns : List S59) (v : S34) (hs : ∀ x ∈ ns,x.f1.size ≤ 9223372036854775807) : ∀ x ∈ gLeavesR ns v,x.f1.size ≤ 9223372036854775807:=by
 intro x hx
 unfold gLeavesR at hx
 split at hx
 ·unfold leavesL at hx
  obtain ⟨s,_,rfl⟩ := List.mem_map.1 hx
  show (rd_T59 ns s.f0).f1.size ≤ _
  unfold rd_T59
  rw [List.getD_eq_getElem?_getD]
  cases h : ns[s.f0.toNat]? with
  | none=>show (0 : Nat) ≤ _;omega
  | some y=>exact hs y (List.mem_of_getElem? h)
 ·cases hx
theorem value_any (a0 a1 : Int) (A2 : Option Addr) (c2 : Nat) (l2 : List S36) (a3 : Int) (A4 : Option Addr) (c4 : Nat) (l4 : List S59) (w : World) (hr2 : Kd.C k36 w A2 l2.length l2) (hs2 : ∀ x ∈ l2, x.f0.size ≤ 9223372036854775807) (hr4 : Kd.C k59 w A4 l4.length l4) (hs4 : ∀ x ∈ l4, x.f1.size ≤ 9223372036854775807) :
  Calls Try.prog 28 #[.int .i64 a0,.int .i64 a1,.slice A2 l2.length c2,.int .i64 a3,.slice A4 l4.length c4] w fun e w'=>e = .returned (.tuple #[.int .i64 (valueR a0 a1 l2 a3 l4).1,.int .i64 (valueR a0 a1 l2 a3 l4).2]) ∧ Below w.heap.size w w':=by
 have C30:=fun (W : World) (hb : Below w.heap.size w W)=>check_any a0 a1 A2 c2 l2 a3 W (Kd.C_below hr2 hb) hs2
 have C40:=fun (W : World) (hb : Below w.heap.size w W)=>gleaves_any ⟨a0,a1,1⟩ A4 c4 l4 W (Kd.C_below hr4 hb) hs4
 have C41 : ∀ W : World,Below w.heap.size w W → W.cell? ⟨w.heap.size,0,none⟩ = some (.int .i64 a3) → Calls Try.prog 41 #[.slice A4 l4.length c4,.func (.func 42) #[] #[.pointer (some ⟨w.heap.size,0,none⟩)]] W fun e w'=>e = .returned (.bool (l4.any (bad42 a3))) ∧ Below W.heap.size W w' :=
  fun W hb hk=>any41 (bad42 a3) 42 #[.pointer (some ⟨w.heap.size,0,none⟩)] eg42 A4 c4 l4 W (Kd.C_below hr4 hb) (fun X x _ hX=>c42_any x w.heap.size a3 X ((hX.cell (World.block_lt_of_cell? W _ hk)).trans hk))
 unfold valueR
 by_cases h1 : checkR a0 a1 l2 a3 = 0
 ·rw [if_pos h1];rw [h1] at C30;by_cases h2 : gCheckR l4 ⟨a0,a1,1⟩ = 0
  ·rw [if_pos h2];rw [h2] at C40
   cases h3 : l4.any (bad42 a3)
   ·rw [if_neg (by decide)];rw [h3] at C41;by_cases hL : (gLeavesR l4 ⟨a0,a1,1⟩).length ≤ 9223372036854775807
    ·refine value_main a0 a1 A2 c2 l2 a3 A4 c4 l4 (gLeavesR l4 ⟨a0,a1,1⟩) _ w hr2 hs2 hr4 hs4 (leaves_names l4 _ hs4) C30 (fun W hb=>(C40 W hb).mono ?_) C41 hL rfl
     rintro e w' ⟨u,rfl,ho,hb⟩;obtain ⟨A,c,rfl,_,hc⟩ := own87 ho;exact ⟨A,c,rfl,hc,hb⟩
    ·exfalso
     apply hL
     obtain ⟨b1,b2,b3,b4⟩ := gcheck_zero h2;have hw:=walk_len (shaped_of b3) b2 ⟨a0,a1,1⟩;have hm:=Kd.C_max hr4
     have : (gLeavesR l4 ⟨a0,a1,1⟩).length ≤ (walkS l4 ⟨a0,a1,1⟩).length:=by
      unfold gLeavesR
      rw [if_pos h2]
      unfold leavesL
      rw [List.length_map];exact List.length_filter_le _ _
     omega
   (rw [if_pos rfl];rw [h3] at C41;exact value_e41 a0 a1 A2 c2 l2.length a3 A4 c4 l4.length w C30 (fun W hb=>(C40 W hb).mono (by rintro e w' ⟨u,rfl,_,hb⟩;exact ⟨u,rfl,hb⟩)) C41)
  (rw [if_neg h2];exact value_e40 a0 a1 A2 c2 l2.length a3 _ A4 c4 l4.length w h2 C30 (fun W hb=>(C40 W hb).mono (by rintro e w' ⟨u,rfl,_,hb⟩;exact ⟨u,rfl,hb⟩)))
 (rw [if_neg h1];exact value_e30 a0 a1 A2 c2 l2.length a3 _ A4 c4 l4.length w h1 C30)
def flatpack_Value.f (a0 : Int) (a1 : Int) (l2 : List S36) (a3 : Int) (l4 : List S59) : Option (Int × Int) :=
 if (∀ x ∈ l2,x.f0.size ≤ 9223372036854775807) ∧ (∀ x ∈ l4,x.f1.size ≤ 9223372036854775807) then some (valueR a0 a1 l2 a3 l4) else none
theorem flatpack_Value.calls (a0 : Int) (a1 : Int) (A2 : Option Addr) (c2 : Nat) (l2 : List (S36)) (a3 : Int) (A4 : Option Addr) (c4 : Nat) (l4 : List (S59)) (r1 : Int) (r2 : Int) (w : World) (hr2 : Kd.C k36 w A2 l2.length l2) (hc2 : l2.length ≤ c2) (hr4 : Kd.C k59 w A4 l4.length l4) (hc4 : l4.length ≤ c4) (h : flatpack_Value.f a0 a1 l2 a3 l4 = some (r1, r2)) :
  Calls Try.prog 28 #[.int .i64 a0,.int .i64 a1,.slice A2 l2.length c2,.int .i64 a3,.slice A4 l4.length c4] w fun e w'=>e = .returned (.tuple #[.int .i64 r1,.int .i64 r2]) ∧ Below w.heap.size w w':=by
 unfold flatpack_Value.f at h
 split at h
 ·obtain ⟨h1,h2⟩ := ‹(∀ x ∈ l2,x.f0.size ≤ 9223372036854775807) ∧ (∀ x ∈ l4,x.f1.size ≤ 9223372036854775807)›;have hv:=Option.some.inj h
  have:=value_any a0 a1 A2 c2 l2 a3 A4 c4 l4 w hr2 h1 hr4 h2
  rw [hv] at this;exact this
 ·cases h
end Go.Proofs.Ytdnjagfbhppmbaa.PA
