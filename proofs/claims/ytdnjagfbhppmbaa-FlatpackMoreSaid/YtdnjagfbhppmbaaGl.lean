import Derived.Test.YtdnjagfbhppmbaaGe
import Derived.Test.YtdnjagfbhppmbaaGk
namespace Go.Proofs.Ytdnjagfbhppmbaa.PA
open Go.RowKit Go.Shelf Go.Proofs.YtdnjagfbhppmbaaW.PrintWords Go.Proofs.YtdnjagfbhppmbaaW.PrintLast Go.Proofs.YtdnjagfbhppmbaaW.PrintMore
set_option linter.unusedVariables false
set_option linter.unusedSimpArgs false
attribute [local go_sem] max2_int min2_int max_two min_two max_three min_three max_four min_four
theorem R59_of {w : World} {base : Nat} {u : Value} {ns : List S59} (h : w.ownsRow base 59 7 u ns.length (rows59 ns)) : Kd.R k59 59 w base (fun _=>True) u ns:=by
 refine ⟨fun _ _=>trivial,rows59 ns,h, ?_⟩
 refine ⟨rows59_len ns, ?_⟩
 intro j p hj
 have key : ∀ (ns : List S59) (j : Nat),ns[j]? = some p → ((rows59 ns).drop (j * 7)).take 7 = c59 p:=by
  intro ns
  induction ns with
  | nil=>intro j hj;simp at hj
  | cons y r ih =>
   intro j hj
   have e1 : rows59 (y :: r) = c59 y ++ rows59 r:=by simp [rows59]
   cases j with
   | zero =>
    have : y = p:=by simpa using hj
    subst this
    rw [e1];simp [c59]
   | succ j =>
    have e2 : List.drop ((j + 1) * 7) (c59 y ++ rows59 r) = List.drop (j * 7) (rows59 r):=by
     rw [List.drop_append,List.drop_of_length_le (by simp [c59];omega),List.nil_append]
     congr 1
     simp [c59];omega
    rw [e1,e2];exact ih j (by simpa using hj)
 show k59.M _ _ _ p (List.take 7 (List.drop (j * 7) (rows59 ns)))
 rw [key ns j hj];exact k59_mkM _ _ _ p
open Classical in
noncomputable def planR (a0 a1 : Int) (l2 : List S36) (a3 : Int) : Option (List S59) :=
 if h : ∃ r k,gangsawref25_part.f k [] (tableR a0.toNat a1.toNat l2 a3.toNat) l2 a3 0 0 a0 a1 = some r then some (Classical.choose h) else none
open Classical in
noncomputable def flatpack_Plan.f (a0 a1 : Int) (l2 : List S36) (a3 : Int) : Option (List S59 × Int) :=
 if ∀ x ∈ l2,x.f0.size ≤ 9223372036854775807 then
  (if checkR a0 a1 l2 a3 = 0 then (if okT a0 a1 l2 a3 ∧ l2.length ≤ 1000 then (planR a0 a1 l2 a3).map (fun r=>if r.length ≤ 1024 then (r,0) else ([],7)) else none) else some ([],checkR a0 a1 l2 a3))
 else none
set_option maxRecDepth 100000 in
set_option maxHeartbeats 1600000 in
theorem flatpack_Plan.calls (a0 a1 : Int) (A2 : Option Addr) (c2 : Nat) (l2 : List S36) (a3 : Int) (r_0 : List S59) (r_1 : Int) (w : World) (hr2 : Kd.C k36 w A2 l2.length l2) (hc2 : l2.length ≤ c2) (h : flatpack_Plan.f a0 a1 l2 a3 = some (r_0, r_1)) :
  Calls Try.prog 14 #[.int .i64 a0,.int .i64 a1,.slice A2 l2.length c2,.int .i64 a3] w fun e w'=>∃ v0_ : Value,e = .returned (.tuple #[v0_,.int .i64 r_1]) ∧ Kd.R k59 59 w' w.heap.size (fun _=>True) v0_ r_0 ∧ Below w.heap.size w w':=by
 unfold flatpack_Plan.f at h
 obtain ⟨hs,h⟩ := ite_some h;have chk:=check_any a0 a1 A2 c2 l2 a3 w hr2 hs
 obtain ⟨c,hc⟩ : ∃ c,checkR a0 a1 l2 a3 = c:=⟨_,rfl⟩
 rw [hc] at h chk;have CHK:=aside chk;clear chk
 rcases ite_two h with ⟨e0,h⟩|⟨e0,h⟩
 ·subst e0;obtain ⟨⟨hok,hlen⟩,h⟩ := ite_some h;rw [Option.map_eq_some_iff] at h;obtain ⟨r,hp,hr⟩ := h
  have hpart : ∃ k,gangsawref25_part.f k [] (tableR a0.toNat a1.toNat l2 a3.toNat) l2 a3 0 0 a0 a1 = some r:=by
   unfold planR at hp
   split at hp
   ·rename_i hx
    have:=Classical.choose_spec hx
    rw [Option.some.inj hp] at this;exact this
   ·cases hp
  obtain ⟨k,hk⟩ := hpart
  have htab : ∀ W,Below w.heap.size w W → Calls Try.prog 34 #[.int .i64 a0,.int .i64 a1,.slice A2 l2.length c2,.int .i64 a3] W fun e w'=>∃ (A1 : Option Addr) (c1 : Nat),e = .returned (.slice A1 (tableR a0.toNat a1.toNat l2 a3.toNat).length c1) ∧ Kd.S (Kd.slice 2 (Kd.int .i64)) 54 w' W.heap.size (fun _=>True) (.slice A1 (tableR a0.toNat a1.toNat l2 a3.toNat).length c1) (tableR a0.toNat a1.toNat l2 a3.toNat) ∧ Below W.heap.size W w':=by
   intro W hb
   refine (flatpack_table.calls a0 a1 A2 c2 l2 a3 _ W (Kd.C_below hr2 hb) hc2 (by unfold flatpack_table.f;rw [if_pos hok])).mono ?_
   rintro e w' ⟨v,rfl,hS,hb'⟩;obtain ⟨A1,c1,rfl,-,-⟩ := Kd.R_reads (Kd.S_R hS);exact ⟨A1,c1,rfl,hS,hb'⟩
  obtain ⟨t,ht⟩ : ∃ t,tableR a0.toNat a1.toNat l2 a3.toNat = t:=⟨_,rfl⟩
  rw [ht] at hk htab;have b0:=hok.1;have b1:=hok.2.1;have b2:=hok.2.2.1;have b3:=hok.2.2.2.1;have b4:=hok.2.2.2.2.1;have b5:=hok.2.2.2.2.2.1
  -- the call of add,from any world in which the planner stands
  have hadd : ∀ (W : World) (bb : Nat) (A1 : Option Addr) (c1 : Nat), Below w.heap.size w W → Kd.S (Kd.slice 2 (Kd.int .i64)) 54 W bb (fun _ => True) (.slice A1 t.length c1) t →
    Calls Try.prog 35 #[.pointer (some ⟨W.heap.size,0,none⟩),.int .i64 0,.int .i64 0,.int .i64 a0,.int .i64 a1] (W.alloc (.cells #[.slice A1 t.length c1,.slice A2 l2.length c2,.int .i64 a3,.slice none 0 0] 66)) fun e w' =>
     e = .returned (.tuple #[]) ∧ ∃ (A : Option Addr) (c : Nat),w'.cell? ⟨W.heap.size,3,none⟩ = some (.slice A r.length c) ∧ Kd.R k59 59 w' w.heap.size (fun _=>True) (.slice A r.length c) r ∧ Below w.heap.size w w':=by
   intro W bb A1 c1 hb hS
   have hps : PS w.heap.size W.heap.size (.slice A1 t.length c1) (.slice A2 l2.length c2) a3 (W.alloc (.cells #[.slice A1 t.length c1,.slice A2 l2.length c2,.int .i64 a3,.slice none 0 0] 66)) (.slice none 0 0) [] :=
    ⟨heap_alloc_new W _,World.ownsRow_nil _ _ _ _,by have:=hb.size;simp;omega⟩
   refine (add_any w.heap.size W.heap.size c1 c2 A1 A2 t l2 a3 hb.size (by omega) b4 (by omega) k 0 0 a0 a1 [] r _ (.slice none 0 0) (by omega) (by omega) hps ?_ ?_ hk).mono ?_
   ·refine Kd.C_kept_own (Kd.R_alloc (Kd.R_bound (Kd.S_R hS)) _) (fun k hk hc=>?_)
    rcases hc with hc|hc
    ·have:=hk.2.2.1;omega
    ·simp [Value.ownBlock] at hc
   ·refine Kd.C_kept_came k36_heap hr2 (hb.alloc hb.size _) (fun k hc=>?_)
    rcases hc with hc|hc
    ·have:=hb.size;omega
    ·simp [Value.ownBlock] at hc
   ·rintro e w' ⟨rfl,u',hp,hs⟩;obtain ⟨A,c,rfl⟩ := own_form hp.own
    refine ⟨rfl,A,c,by rw [cell_of_row w' W.heap.size 3 _ _ _ hp.blk];rfl,R59_of hp.own,hs.below w hb.size (hb.alloc hb.size _)⟩
  have HT:=aside htab;have HA:=aside hadd;have hr0:=hr;clear hp hk hok ht htab hadd hr hs hc hr2 b0 b1 b2 b3 b4 b5;by_cases hl : r.length ≤ 1024
  ·have HR':=aside (show r = r_0 ∧ (0 : Int) = r_1 by rw [if_pos hl] at hr0;exact Prod.mk.inj hr0);have hl' : (1024 < (r.length : Int)) = False:=eq_false (by omega);clear hr0
   go_enter Try.func14,Try.ntmps14
   go_wp2_with (first|(go_at_call 30;refine CHK.out.mono ?_;rintro e w1 ⟨rfl,hb1⟩;have HB1:=aside hb1;clear hb1)|(go_at_call 34;refine (HT.out _ HB1.out).mono ?_;rintro e w2 ⟨A1,c1,rfl,hS,hb2⟩;have HS:=aside hS;have HB2:=aside (HB1.out.trans (hb2.mono HB1.out.size));clear hS hb2)|(go_at_call 35;refine (HA.out _ _ _ _ HB2.out HS.out).mono ?_;rintro e w3 ⟨rfl,A,c,hcell,hR,hb3⟩;have HB3:=aside hb3;have HRR:=aside hR;clear hR hb3))
   go_ret2
   obtain ⟨rfl,rfl⟩ := HR'.out;exact ⟨_,rfl,HRR.out,HB3.out⟩
  ·have HR':=aside (show [] = r_0 ∧ (7 : Int) = r_1 by rw [if_neg hl] at hr0;exact Prod.mk.inj hr0);have hl' : (1024 < (r.length : Int)) = True:=eq_true (by omega);clear hr0
   go_enter Try.func14,Try.ntmps14
   go_wp2_with (first|(go_at_call 30;refine CHK.out.mono ?_;rintro e w1 ⟨rfl,hb1⟩;have HB1:=aside hb1;clear hb1)|(go_at_call 34;refine (HT.out _ HB1.out).mono ?_;rintro e w2 ⟨A1,c1,rfl,hS,hb2⟩;have HS:=aside hS;have HB2:=aside (HB1.out.trans (hb2.mono HB1.out.size));clear hS hb2)|(go_at_call 35;refine (HA.out _ _ _ _ HB2.out HS.out).mono ?_;rintro e w3 ⟨rfl,A,c,hcell,hR,hb3⟩;have HB3:=aside hb3;have HRR:=aside hR;clear hR hb3))
   go_ret2
   obtain ⟨rfl,rfl⟩ := HR'.out;exact ⟨_,rfl,Kd.R_nil _ _ _ _ _,HB3.out⟩
 ·have HR':=aside (Option.some.inj h)
  have e1 : (c == 0) = false:=by simpa using e0
  clear h hr2 hs
  go_enter Try.func14,Try.ntmps14
  go_wp2_with (go_at_call 30;refine CHK.out.mono ?_;rintro e w1 ⟨rfl,hb1⟩;have HB1:=aside hb1;clear hb1)
  go_ret2
  obtain ⟨rfl,rfl⟩ := Prod.mk.inj HR'.out;exact ⟨_,rfl,Kd.R_nil _ _ _ _ _,HB1.out⟩
end Go.Proofs.Ytdnjagfbhppmbaa.PA
