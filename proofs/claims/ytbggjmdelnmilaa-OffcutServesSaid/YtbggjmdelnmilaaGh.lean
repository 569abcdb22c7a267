import Derived.Test.YtbggjmdelnmilaaGd
import Derived.Deep.RegionWith
import Derived.StillTailTactics
set_option linter.unusedSimpArgs false
set_option linter.unusedVariables false
namespace Go.Proofs.Ytbggjmdelnmilaa.PA
open Go.RowKit Go.Shelf Go.Proofs.YtbggjmdelnmilaaW.PrintWords Go.Proofs.YtbggjmdelnmilaaW.PrintLast Go.Proofs.YtbggjmdelnmilaaW.PrintMore
theorem countP_bd {α : Type} (p : α → Bool) : ∀ (l : List α) (i : Nat),i ≤ l.length → (∀ t (h : t < l.length),t < i → p l[t] = true) → (∀ t (h : t < l.length),i ≤ t → p l[t] = false) → l.countP p = i
 | [],i,hi,_,_=>by simp at hi;simp [hi]
 | a :: r,0,_,_,h2=>by
  rw [List.countP_eq_zero];intro x hx;obtain ⟨t,ht,rfl⟩ := List.getElem_of_mem hx
  simp [h2 t ht (Nat.zero_le _)]
 | a :: r,i + 1,hi,h1,h2=>by
  have ha : p a = true:=h1 0 (Nat.succ_pos _) (Nat.succ_pos _);rw [List.countP_cons_of_pos ha,countP_bd p r i (by simpa using hi) (fun t h ht=>h1 (t + 1) (by simpa using h) (by omega)) (fun t h ht=>h2 (t + 1) (by simpa using h) (by omega))]
def CmpB (l : List S39) (t : S39) (g : Nat) (lb : Array Value) (cf : S39 → Int) (w : World) : Prop :=
 ∀ (W : World) (x : S39),x ∈ l → Below w.heap.size w W → Calls Try.prog g (#[.agg #[.string x.f0,.int .i64 x.f1.f0,.int .i64 x.f1.f1,.int .i64 x.f1.f2,.int .i64 x.f2,.string x.f3,.string x.f4],.agg #[.string t.f0,.int .i64 t.f1.f0,.int .i64 t.f1.f1,.int .i64 t.f1.f2,.int .i64 t.f2,.string t.f3,.string t.f4]] ++ lb) W fun e w'=>e = .returned (.int .i64 (cf x)) ∧ Below W.heap.size W w'
set_option maxHeartbeats 4000000 in
set_option maxRecDepth 100000 in
theorem bs69 (cf : S39 → Int) (g : Nat) (lb : Array Value) (eg : ∀ args w, (callFunc g args).run Try.prog w = .ok (.enter g args) w) (A : Option Addr) (c : Nat) (l : List S39) (t : S39) (w : World) (hr : Kd.C k39 w A l.length l) (hp : CmpB l t g lb cf w)
  (hmono : ∀ a b (ha : a < l.length) (hb : b < l.length),a ≤ b → cf l[b] < 0 → cf l[a] < 0) (hsz : l.length < 4611686018427387904) :
  Calls Try.prog 69 #[.slice A l.length c,.agg #[.string t.f0,.int .i64 t.f1.f0,.int .i64 t.f1.f1,.int .i64 t.f1.f2,.int .i64 t.f2,.string t.f3,.string t.f4],.func (.func g) #[] lb] w fun e w' =>
   e = .returned (.tuple #[.int .i64 ((l.countP fun x=>decide (cf x < 0) : Nat) : Int),.bool (((l[l.countP fun x=>decide (cf x < 0)]?).map fun x=>decide (cf x = 0)).getD false)]) ∧ Below w.heap.size w w':=by
 have HR:=aside hr;have HP:=aside hp;have M:=aside hmono;clear hr hp hmono;generalize hcnt : (l.countP fun x=>decide (cf x < 0)) = cnt;have CN:=aside hcnt;clear hcnt;generalize hfin : ((l[cnt]?).map fun x=>decide (cf x = 0)).getD false = fin;have FIN:=aside hfin;clear hfin
 have mixed : Try.prog.follows .mixedOrders = true:=by kernel_rfl
 go_enter Try.func69,Try.ntmps69
 have BT : Aside ((w.alloc (.cells #[.string t.f0,.int .i64 t.f1.f0,.int .i64 t.f1.f1,.int .i64 t.f1.f2,.int .i64 t.f2,.string t.f3,.string t.f4] 39)).heap[w.heap.size]? = some (.cells #[.string t.f0,.int .i64 t.f1.f0,.int .i64 t.f1.f1,.int .i64 t.f1.f2,.int .i64 t.f2,.string t.f3,.string t.f4] 39 (0,0))):=blk_new w _;have B0 : Aside (Below w.heap.size w (w.alloc (.cells #[.string t.f0,.int .i64 t.f1.f0,.int .i64 t.f1.f1,.int .i64 t.f1.f2,.int .i64 t.f2,.string t.f3,.string t.f4] 39))):=below_alloc (Below.refl _ _) _
 go_wp2
 go_loopg [9,10] l.length (fun kx s9 s10 wr=>∃ lo hi : Nat,s9 = .int .i64 lo ∧ s10 = .int .i64 hi ∧ lo ≤ hi ∧ hi ≤ l.length ∧ hi - lo ≤ kx ∧ Aside (Below w.heap.size w wr) ∧ Aside (wr.heap[w.heap.size]? = some (.cells #[.string t.f0,.int .i64 t.f1.f0,.int .i64 t.f1.f1,.int .i64 t.f1.f2,.int .i64 t.f2,.string t.f3,.string t.f4] 39 (0,0))) ∧
  Aside ((∀ q (h : q < l.length),q < lo → cf l[q] < 0) ∧ (∀ q (h : q < l.length),hi ≤ q → 0 ≤ cf l[q])))
 case atStart=>exact ⟨0,l.length,rfl,rfl,Nat.zero_le _,Nat.le_refl _,by omega,B0,BT,(show Aside _ from ⟨fun q _ h=>absurd h (Nat.not_lt_zero _),fun q h1 h2=>by omega⟩)⟩
 case round =>
  obtain ⟨lo,hi,rfl,rfl,hlh,hin,hg,B,BX,I⟩ := hrel;have x0:=cellB BX.out 0 (.string t.f0) rfl;have x1:=cellB BX.out 1 (.int .i64 t.f1.f0) rfl;have x2:=cellB BX.out 2 (.int .i64 t.f1.f1) rfl;have x3:=cellB BX.out 3 (.int .i64 t.f1.f2) rfl;have x4:=cellB BX.out 4 (.int .i64 t.f2) rfl;have x5:=cellB BX.out 5 (.string t.f3) rfl;have x6:=cellB BX.out 6 (.string t.f4) rfl;by_cases hlt : lo < hi
  ·have hmid : (lo + hi) / 2 < l.length:=by omega
   obtain ⟨ad,hA,q0,q1,q2,q3,q4,q5,q6⟩ := at_T39 (Kd.C_below HR.out B.out) (((lo + hi) / 2 : Nat) : Int) (by omega) (by omega)
   have hx : rd_T39 l (((lo + hi) / 2 : Nat) : Int) = l[(lo + hi) / 2] := by unfold rd_T39;rw [Int.toNat_natCast];simp [List.getD,hmid]
   rw [hx] at q0 q1 q2 q3 q4 q5 q6;simp only [Int.toNat_natCast] at q0 q1 q2 q3 q4 q5 q6
   have hc:=fun W hW=>HP.out W l[(lo + hi) / 2] (List.getElem_mem hmid) hW
   obtain ⟨y,hy⟩ : ∃ y,l[(lo + hi) / 2] = y:=⟨_,rfl⟩
   rw [hy] at q0 q1 q2 q3 q4 q5 q6 hc;have Y:=aside hy;clear hx hy;subst hA;by_cases hyx : cf y < 0
   ·go_wp2
    go_region_with (go_at_fn g;refine (hc _ ?_).mono ?_;exact (by repeat (first|exact B.out|apply pw_below_drewN|apply below_drew1));rintro e w' ⟨rfl,hb'⟩)
    all_goals
     have BX2:=aside (blk_below (by repeat (first|exact BX.out|apply blk_drewN|apply blk_drew)) hb');have B2:=aside (below_step (by repeat (first|exact B.out|apply pw_below_drewN|apply below_drew1)) hb')
     go_wp2
     go_roundg (hi - ((lo + hi) / 2 + 1))
     case measure=>omega
     case rel =>
      exact ⟨(lo + hi) / 2 + 1,hi,by rw [show ((lo : Int) + (hi : Int)) / 2 + 1 = (((lo + hi) / 2 + 1 : Nat) : Int) by omega],rfl,by omega,hin,Nat.le_refl _,B2,BX2,(show Aside _ from ⟨fun q h hq=>M.out q ((lo + hi) / 2) h hmid (by omega) (by rw [Y.out];exact hyx),I.out.2⟩)⟩
   ·go_wp2
    go_region_with (go_at_fn g;refine (hc _ ?_).mono ?_;exact (by repeat (first|exact B.out|apply pw_below_drewN|apply below_drew1));rintro e w' ⟨rfl,hb'⟩)
    all_goals
     have BX2:=aside (blk_below (by repeat (first|exact BX.out|apply blk_drewN|apply blk_drew)) hb');have B2:=aside (below_step (by repeat (first|exact B.out|apply pw_below_drewN|apply below_drew1)) hb')
     go_wp2
     go_roundg ((lo + hi) / 2 - lo)
     case measure=>omega
     case rel =>
      exact ⟨lo,(lo + hi) / 2,rfl,by rw [show ((lo : Int) + (hi : Int)) / 2 = (((lo + hi) / 2 : Nat) : Int) by omega],by omega,by omega,Nat.le_refl _,B2,BX2,(show Aside _ from ⟨I.out.1,fun q h hq=>Int.not_lt.1 fun h9=>Int.not_lt.2 hyx (by rw [← Y.out];exact M.out ((lo + hi) / 2) q hmid h hq h9)⟩)⟩
  ·obtain rfl : hi = lo:=by omega
   have ecnt : cnt = hi:=by
    rw [← CN.out];exact countP_bd _ l hi hin (fun q h hq=>decide_eq_true (I.out.1 q h hq)) (fun q h hq=>decide_eq_false (by have:=I.out.2 q h hq;omega))
   subst ecnt;by_cases hn : cnt < l.length
   ·obtain ⟨ad,hA,q0,q1,q2,q3,q4,q5,q6⟩ := at_T39 (Kd.C_below HR.out B.out) (cnt : Int) (by omega) (by omega)
    have hx : rd_T39 l (cnt : Int) = l[cnt] := by unfold rd_T39;simp [List.getD,hn]
    rw [hx] at q0 q1 q2 q3 q4 q5 q6;simp only [Int.toNat_natCast] at q0 q1 q2 q3 q4 q5 q6
    have hc:=fun W hW=>HP.out W l[cnt] (List.getElem_mem hn) hW
    have hf : fin = decide (cf l[cnt] = 0):=by rw [← FIN.out];simp [hn]
    obtain ⟨y,hy⟩ : ∃ y,l[cnt] = y:=⟨_,rfl⟩
    rw [hy] at q0 q1 q2 q3 q4 q5 q6 hc hf;clear hx hy FIN;subst hA hf
    have hn' : (cnt : Int) < (l.length : Int):=by omega
    go_upto_region 8 with fail
    refine start_ (n:=16) (S:=fun w'=>w'.cell? (ad.add (cnt * 7)) = some (.string y.f0) ∧ w'.cell? ⟨(ad.add (cnt * 7)).block,(ad.add (cnt * 7)).off + 1,none⟩ = some (.int .i64 y.f1.f0) ∧ w'.cell? ⟨(ad.add (cnt * 7)).block,(ad.add (cnt * 7)).off + 2,none⟩ = some (.int .i64 y.f1.f1) ∧ w'.cell? ⟨(ad.add (cnt * 7)).block,(ad.add (cnt * 7)).off + 3,none⟩ = some (.int .i64 y.f1.f2) ∧ w'.cell? ⟨(ad.add (cnt * 7)).block,(ad.add (cnt * 7)).off + 4,none⟩ = some (.int .i64 y.f2) ∧ w'.cell? ⟨(ad.add (cnt * 7)).block,(ad.add (cnt * 7)).off + 5,none⟩ = some (.string y.f3) ∧ w'.cell? ⟨(ad.add (cnt * 7)).block,(ad.add (cnt * 7)).off + 6,none⟩ = some (.string y.f4) ∧ w'.cell? ⟨w.heap.size,0,none⟩ = some (.string t.f0) ∧ w'.cell? ⟨w.heap.size,1,none⟩ = some (.int .i64 t.f1.f0) ∧ w'.cell? ⟨w.heap.size,2,none⟩ = some (.int .i64 t.f1.f1) ∧ w'.cell? ⟨w.heap.size,3,none⟩ = some (.int .i64 t.f1.f2) ∧ w'.cell? ⟨w.heap.size,4,none⟩ = some (.int .i64 t.f2) ∧ w'.cell? ⟨w.heap.size,5,none⟩ = some (.string t.f3) ∧ w'.cell? ⟨w.heap.size,6,none⟩ = some (.string t.f4)) (ds:=[11]) #[f_,f_,f_,f_,f_,f_,f_,f_,f_,f_,f_,f_,f_,f_,f_,f_] (by kernel_rfl) rfl rfl ⟨q0,q1,q2,q3,q4,q5,q6,x0,x1,x2,x3,x4,x5,x6⟩ (fun hHeld=>?_)
    have B9:=aside (below_drew1 B.out);generalize wr.drew = w9 at B9 hHeld ⊢
    refine pv_ 0 35 (mk_ 16 1) ?_
    refine pv_ 1 36 (mk_ 16 3) ?_
    refine pv_ 2 37 (mk_ 16 7) ?_
    refine pv_ 3 38 (mk_ 16 15) ?_
    refine pv_ 4 39 (mk_ 16 31) ?_
    refine pv_ 5 40 (mk_ 16 63) ?_
    refine pv_ 6 41 (mk_ 16 127) ?_
    refine pv_ 7 42 (mk_ 16 255) ?_
    refine pv_ 8 43 (mk_ 16 511) ?_
    refine tb14_ 9 44 (mk_ 16 1023) hHeld ?_
    refine tb14_ 10 45 (mk_ 16 2047) hHeld ?_
    refine last_ (i:=11) (N:=some 46) (mk_ 16 4095) rfl rfl (by kernel_rfl) (by decide) (fun K hK=>?_)
    refine call_ g (#[.agg #[.string y.f0,.int .i64 y.f1.f0,.int .i64 y.f1.f1,.int .i64 y.f1.f2,.int .i64 y.f2,.string y.f3,.string y.f4],.agg #[.string t.f0,.int .i64 t.f1.f0,.int .i64 t.f1.f1,.int .i64 t.f1.f2,.int .i64 t.f2,.string t.f3,.string t.f4]] ++ lb) (by rfl) rfl ?_ ?_
    (go_simp)
    refine (hc _ B9.out).mono ?_
    rintro e w' ⟨rfl,hb'⟩;refine ⟨_,rfl, ?_⟩;have B2:=aside (below_step B9.out hb')
    refine hK.out _ _ ?_
    clear hK K
    refine nm_ 46 ?_
    refine pv_ 12 47 (mk_ 16 8191) ?_
    refine pv_ 13 48 (mk_ 16 16383) ?_
    refine pv_ 14 6 (mk_ 16 32767) ?_
    refine pv_ 15 7 (mk_ 16 65535) ?_
    refine done_ (by kernel_rfl) ?_
    go_wp2
    go_ret2
    exact ⟨rfl,B2.out⟩
   ·have hf : fin = false:=by rw [← FIN.out];simp [hn]
    subst hf
    have hn' : ¬ ((cnt : Int) < (l.length : Int)):=by omega
    go_upto_region 8 with fail
    refine start_ (n:=16) (S:=fun w'=>w'.cell? ⟨w.heap.size,0,none⟩ = some (.string t.f0)) (ds:=[]) #[f_,f_,f_,f_,f_,f_,f_,f_,f_,f_,f_,f_,f_,f_,f_,f_] (by kernel_rfl) rfl rfl x0 (fun hHeld=>?_)
    have B9:=aside (below_drew1 B.out);generalize wr.drew = w9 at B9 hHeld ⊢
    refine pv_ 0 35 (mk_ 16 1) ?_
    refine pv_ 1 36 (mk_ 16 3) ?_
    refine pv_ 2 37 (mk_ 16 7) ?_
    refine pv_ 3 38 (mk_ 16 15) ?_
    refine pv_ 4 39 (mk_ 16 31) ?_
    refine po_ 5 40 (mk_ 16 63) ?_
    refine po_ 6 41 (mk_ 16 127) ?_
    refine po_ 7 42 (mk_ 16 255) ?_
    refine po_ 8 43 (mk_ 16 511) ?_
    refine po_ 9 44 (mk_ 16 1023) ?_
    refine po_ 10 45 (mk_ 16 2047) ?_
    refine po_ 11 46 (mk_ 16 4095) ?_
    refine po_ 12 47 (mk_ 16 8191) ?_
    refine pv_ 13 48 (mk_ 16 16383) ?_
    refine pv_ 14 6 (mk_ 16 32767) ?_
    refine pv_ 15 7 (mk_ 16 65535) ?_
    refine done_ (by kernel_rfl) ?_
    go_wp2
    go_ret2
    exact ⟨rfl,B9.out⟩
end Go.Proofs.Ytbggjmdelnmilaa.PA
