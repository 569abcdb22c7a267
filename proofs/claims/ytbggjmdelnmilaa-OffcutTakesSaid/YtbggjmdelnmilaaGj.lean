import Derived.Test.YtbggjmdelnmilaaGd
import Derived.Deep.RegionWith
import Derived.Laws.Cover1
import Derived.StillTailTactics
namespace Go.Proofs.Ytbggjmdelnmilaa.PA
open Go.RowKit Go.Shelf Go.Proofs.YtbggjmdelnmilaaW.PrintWords Go.Proofs.YtbggjmdelnmilaaW.PrintLast Go.Proofs.YtbggjmdelnmilaaW.PrintMore
set_option maxHeartbeats 2000000 in
set_option maxRecDepth 100000 in
theorem small65 (x : S39) (g : Nat) (n : Int) (w : World) (hb : w.heap[g]? = some (.cells #[.int .i64 n] 3 (0,0))) : Calls Try.prog 65 (#[.agg #[.string x.f0,.int .i64 x.f1.f0,.int .i64 x.f1.f1,.int .i64 x.f1.f2,.int .i64 x.f2,.string x.f3,.string x.f4]] ++ #[.pointer (some ⟨g,0,none⟩)]) w fun e w'=>e = .returned (.bool (decide (min3 x.f1 < n))) ∧ Below w.heap.size w w':=by
 have hu39:=Try.underlying39;have hu24:=Try.underlying24;have hu98:=Try.underlying98;have HS:=aside (sides_any x.f1);have HM:=aside (min_any x.f1);have HB:=aside hb;clear hb;generalize min3 x.f1 = m at HM;generalize hr : decide (m < n) = r;have HR:=aside hr;clear hr
 go_enter Try.func65,Try.ntmps65
 go_upto_region 2 with (go_at_call 66;refine (HS.out _).mono ?_;rintro e w1 ⟨rfl,hb⟩;have B1:=aside (box_bel _ hb);have G1:=aside (blk_below (blk_alloc HB.out _) hb);clear hb)
 have BA:=aside (blk_new w1 (.cells #[.int .i64 x.f1.f0,.int .i64 x.f1.f1,.int .i64 x.f1.f2] 98 (0,0)));have G2:=aside (blk_alloc G1.out (.cells #[.int .i64 x.f1.f0,.int .i64 x.f1.f1,.int .i64 x.f1.f2] 98));have B2:=aside (B1.out.alloc B1.out.size (.cells #[.int .i64 x.f1.f0,.int .i64 x.f1.f1,.int .i64 x.f1.f2] 98));clear G1 B1;generalize w1.alloc (.cells #[.int .i64 x.f1.f0,.int .i64 x.f1.f1,.int .i64 x.f1.f2] 98) = w2 at BA G2 B2 ⊢;generalize w1.heap.size = ga at BA ⊢;have c0:=cellB BA.out 0 (.int .i64 x.f1.f0) rfl;have c1:=cellB BA.out 1 (.int .i64 x.f1.f1) rfl;have c2:=cellB BA.out 2 (.int .i64 x.f1.f2) rfl;have cg:=cellB G2.out 0 (.int .i64 n) rfl
 go_region_with (go_at_call 67;refine (HM.out ga _ ?_ ?_ ?_).mono ?_;simpa using c0;simpa using c1;simpa using c2;rintro e w' ⟨rfl,rfl⟩)
 all_goals
  go_wp2
  go_ret
  exact ⟨ok_bool HR.out,by repeat (first|exact B2.out|apply pw_below_drewN|apply below_drew1)⟩
end Go.Proofs.Ytbggjmdelnmilaa.PA
