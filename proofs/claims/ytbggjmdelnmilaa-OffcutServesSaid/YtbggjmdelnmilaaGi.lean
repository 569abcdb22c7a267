import Derived.Test.YtbggjmdelnmilaaGh
import Derived.Laws.Cover1
import Derived.Test.YtbggjmdelnmilaaGd
import Derived.Deep.RegionWith
import Derived.StillTailTactics
namespace Go.Proofs.Ytbggjmdelnmilaa.PA
open Go.RowKit Go.Shelf Go.Proofs.YtbggjmdelnmilaaW.PrintWords Go.Proofs.YtbggjmdelnmilaaW.PrintLast Go.Proofs.YtbggjmdelnmilaaW.PrintMore
def cmpS (a b : ByteArray) : Int:=if Op.bytesLess a.toList b.toList = true then -1 else if Op.bytesLess a.toList b.toList = false ∧ a.toList ≠ b.toList then 1 else 0
set_option maxHeartbeats 2000000 in
set_option maxRecDepth 100000 in
theorem cmp71 (a b : ByteArray) (w : World) : Calls Try.prog 71 #[.string a,.string b] w fun e w'=>e = .returned (.int .i64 (cmpS a b)) ∧ w' = w:=by
 go_enter Try.func71,Try.ntmps71
 go_wp2
 all_goals go_ret
 all_goals refine ⟨?_,rfl⟩
 all_goals unfold cmpS
 all_goals simp_all
set_option maxHeartbeats 2000000 in
set_option maxRecDepth 100000 in
theorem cmp70 (x y : S39) (w : World) : Calls Try.prog 70 #[.agg #[.string x.f0,.int .i64 x.f1.f0,.int .i64 x.f1.f1,.int .i64 x.f1.f2,.int .i64 x.f2,.string x.f3,.string x.f4],.agg #[.string y.f0,.int .i64 y.f1.f0,.int .i64 y.f1.f1,.int .i64 y.f1.f2,.int .i64 y.f2,.string y.f3,.string y.f4]] w fun e w'=>e = .returned (.int .i64 (cmpS x.f0 y.f0)) ∧ Below w.heap.size w w':=by
 have hu39:=Try.underlying39
 go_enter Try.func70,Try.ntmps70
 go_wp2_with (go_at_call 71;refine (cmp71 _ _ _).mono ?_;rintro e w' ⟨rfl,rfl⟩)
 go_ret
 exact ⟨rfl,below_alloc (below_alloc (Below.refl _ _) _) _⟩
theorem search_any (A : Option Addr) (c : Nat) (l : List S39) (t : S39) (w : World) (hr : Kd.C k39 w A l.length l)
  (hmono : ∀ a b (ha : a < l.length) (hb : b < l.length),a ≤ b → cmpS l[b].f0 t.f0 < 0 → cmpS l[a].f0 t.f0 < 0) (hsz : l.length < 4611686018427387904) :
  Calls Try.prog 69 #[.slice A l.length c,.agg #[.string t.f0,.int .i64 t.f1.f0,.int .i64 t.f1.f1,.int .i64 t.f1.f2,.int .i64 t.f2,.string t.f3,.string t.f4],.func (.func 70) #[] #[]] w fun e w' =>
   e = .returned (.tuple #[.int .i64 ((l.countP fun x=>decide (cmpS x.f0 t.f0 < 0) : Nat) : Int),.bool (((l[l.countP fun x=>decide (cmpS x.f0 t.f0 < 0)]?).map fun x=>decide (cmpS x.f0 t.f0 = 0)).getD false)]) ∧ Below w.heap.size w w' :=
 bs69 (fun x=>cmpS x.f0 t.f0) 70 #[] (enters_of Try.func70 (by kernel_rfl) rfl) A c l t w hr (fun W x _ _=>cmp70 x t W) hmono hsz
end Go.Proofs.Ytbggjmdelnmilaa.PA
namespace Go.Proofs.Ytbggjmdelnmilaa.PA
open Go.RowKit Go.Shelf Go.Proofs.YtbggjmdelnmilaaW.PrintWords Go.Proofs.YtbggjmdelnmilaaW.PrintLast Go.Proofs.YtbggjmdelnmilaaW.PrintMore
set_option maxHeartbeats 2000000 in
set_option maxRecDepth 100000 in
theorem small65 (x : S39) (g : Nat) (n : Int) (w : World) (hb : w.heap[g]? = some (.cells #[.int .i64 n] 3 (0,0))) : Calls Try.prog 65 (#[.agg #[.string x.f0,.int .i64 x.f1.f0,.int .i64 x.f1.f1,.int .i64 x.f1.f2,.int .i64 x.f2,.string x.f3,.string x.f4]] ++ #[.pointer (some ⟨g,0,none⟩)]) w fun e w'=>e = .returned (.bool (decide (min3 x.f1 < n))) ∧ Below w.heap.size w w':=by
 have hu39:=Try.underlying39;have hu24:=Try.underlying24;have hu98:=Try.underlying98;have HS:=aside (sides_any x.f1);have HM:=aside (min_any x.f1);have HB:=aside hb;clear hb;generalize min3 x.f1 = m at HM;generalize hr : decide (m < n) = r;have HR:=aside hr;clear hr
 go_enter Try.func65,Try.ntmps65
 go_upto_region 2 with (go_at_call 66;refine (HS.out _).mono ?_;rintro e w1 ⟨rfl,hb⟩;have B1:=aside (box_bel _ hb);have G1:=aside (blk_below (blk_alloc HB.out _) hb);clear hb)
 have BA:=aside (blk_new w1 (.cells #[.int .i64 x.f1.f0,.int .i64 x.f1.f1,.int .i64 x.f1.f2] 98 (0,0)));have G2:=aside (blk_alloc G1.out (.cells #[.int .i64 x.f1.f0,.int .i64 x.f1.f1,.int .i64 x.f1.f2] 98));have B2:=aside (B1.out.alloc B1.out.size (.cells #[.int .i64 x.f1.f0,.int .i64 x.f1.f1,.int .i64 x.f1.f2] 98));clear G1 B1;generalize w1.alloc (.cells #[.int .i64 x.f1.f0,.int .i64 x.f1.f1,.int .i64 x.f1.f2] 98) = w2 at BA G2 B2 ⊢;generalize w1.heap.size = ga at BA ⊢;have c0:=cellB BA.out 0 (.int .i64 x.f1.f0) rfl;have c1:=cellB BA.out 1 (.int .i64 x.f1.f1) rfl;have c2:=cellB BA.out 2 (.int .i64 x.f1.f2) rfl;have cg:=cellB G2.out 0 (.int .i64 n) rfl
 go_region_with (go_at_call 67;refine (HM.out ga _ ?_ ?_ ?_).mono ?_;simpa using c0;simpa using c1;simpa using c2;rintro e w' ⟨rfl,rfl⟩)
 all_goals
  go_wp2
  go_ret
  exact ⟨ok_bool HR.out,by repeat (first|exact B2.out|apply pw_below_drewN|apply below_drew1)⟩
end Go.Proofs.Ytbggjmdelnmilaa.PA
