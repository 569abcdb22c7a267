-- Written by a program of this session out of the translation,over functions proved by hand.
import Derived.Test.YtnjikioimompnaaPAx0
import Derived.Test.YtnjikioimompnaaPAx1
import Derived.Test.YtnjikioimompnaaPAx5
import Derived.Test.YtnjikioimompnaaPAx6
import Derived.Test.YtnjikioimompnaaPAx7
import Derived.Test.YtnjikioimompnaaGiven
namespace Go.Proofs.Ytnjikioimompnaa.PA
open Go.RowKit Go.Proofs.YtnjikioimompnaaW.PrintWords Go.Proofs.YtnjikioimompnaaW.PrintLast Go.Proofs.YtnjikioimompnaaW.PrintMore
attribute [local go_sem] max2_int min2_int max_two min_two max_three min_three max_four min_four   -- for this text's walks alone
set_option linter.unusedVariables false
set_option linter.unusedSimpArgs false
noncomputable section

attribute [local go_sem high] eqA31
def gangsawlaw39_awake.f (k : Nat)  : Option (Bool):=(some (([(⟨0,0⟩ : S31),(⟨10,0⟩ : S31),(⟨10,10⟩ : S31),(⟨0,10⟩ : S31)] : List (S31)) : List (S31))).bind fun y250=>((profile_Area.f k (⟨#[97]⟩ : ByteArray) y250).bind fun bt254=>((profile_Directions.f k (⟨#[97]⟩ : ByteArray) y250).bind fun bt256=>((gangsawlaw39_hook.f).bind fun bt260=>((profile_Undercut.f k bt260.1 bt260.2 2).bind fun bt264=>((profile_Step.f k (⟨#[115]⟩ : ByteArray) 2 30 17).bind fun bt266=>((gangsawlaw39_hook.f).bind fun bt272=>((profile_Canonical.f k bt272.1 bt272.2).bind fun bt276=>((profile_Mirror.f k (⟨#[97]⟩ : ByteArray) y250).bind fun bt282=>((profile_Waste.f k (⟨#[97]⟩ : ByteArray) y250 10 20).bind fun bt288=>((profile_Equal.f k (⟨#[97]⟩ : ByteArray) y250 (⟨#[97]⟩ : ByteArray) y250).bind fun bt290=>((gangsawlaw39_hook.f).bind fun bt292=>((profile_Bounds.f k bt292.1 bt292.2).bind fun bt296=>(if bt254.2 = 0 then (if bt254.1 = 200 then (if bt256.2 = 0 then (if (bt256.1.length : Int) = 4 then (if bt264.2 = 0 then (if bt264.1 = 4 then (if bt266.2.2 = 0 then (if (bt266.2.1.length : Int) = 6 then (if 4 < (bt266.2.1.length : Int) then (if (((rd_T31 bt266.2.1 4).f0) == 30 && (((rd_T31 bt266.2.1 4).f1) == 17)) = true then (if bt276.2.2 = 0 then ((gangsawlaw39_hook.f).bind fun bt304=>((gangsawref39_Same.f k bt276.2.1 bt304.2).bind fun t308=>(if t308 = true then (if bt282.2.2 = 0 then ((gangsawref39_Same.f k bt282.2.1 y250).bind fun t309=>(if t309 = true then (if bt288.2 = 0 then (if bt288.1 = 200 then (if bt290.2 = 0 then (if bt290.1 = true then (if bt296.2.2.2.2 = 0 then (if (bt296.1 == 0 && (bt296.2.1 == 0)) = true then (if (bt296.2.2.1 == 10 && (bt296.2.2.2.1 == 10)) = true then ((profile_Check.f k (⟨#[97]⟩ : ByteArray) y250).bind fun t310=>(some (t310 == 0))) else (none)) else (none)) else (none)) else (none)) else (none)) else (none)) else (none)) else (none))) else (none)) else (none)))) else (none)) else (none)) else (none)) else (none)) else (none)) else (none)) else (none)) else (none)) else (none)) else (none)) else (none))))))))))))))
theorem gangsawlaw39_awake.mono : ∀ k,LeO (gangsawlaw39_awake.f k ) (gangsawlaw39_awake.f (k + 1) ):=by
 intro  k
 unfold gangsawlaw39_awake.f
 repeat' first
   | (with_reducible exact gangsawref39_Same.mono _ _ _)
   | (with_reducible exact profile_Area.mono _ _ _)
   | (with_reducible exact profile_Bounds.mono _ _ _)
   | (with_reducible exact profile_Canonical.mono _ _ _)
   | (with_reducible exact profile_Check.mono _ _ _)
   | (with_reducible exact profile_Directions.mono _ _ _)
   | (with_reducible exact profile_Equal.mono _ _ _ _ _)
   | (with_reducible exact profile_Mirror.mono _ _ _)
   | (with_reducible exact profile_Step.mono _ _ _ _ _)
   | (with_reducible exact profile_Undercut.mono _ _ _ _)
   | (with_reducible exact profile_Waste.mono _ _ _ _ _)
   | (with_reducible exact LeO.refl _)
   | (with_reducible exact LeO.none _)
   | (with_reducible refine LeO.ite ?_ ?_)
   | (with_reducible refine LeO.bind ?_ (fun _=>?_))
   | exact gangsawref39_Same.mono _ _ _
   | exact profile_Area.mono _ _ _
   | exact profile_Bounds.mono _ _ _
   | exact profile_Canonical.mono _ _ _
   | exact profile_Check.mono _ _ _
   | exact profile_Directions.mono _ _ _
   | exact profile_Equal.mono _ _ _ _ _
   | exact profile_Mirror.mono _ _ _
   | exact profile_Step.mono _ _ _ _ _
   | exact profile_Undercut.mono _ _ _ _
   | exact profile_Waste.mono _ _ _ _ _
   | exact LeO.none _
   | refine LeO.ite ?_ ?_
   | refine LeO.bind ?_ (fun _=>?_)
def gangsawlaw39_awake.T11 : Bool × List (List Nat × List Nat):=(true,[([],[]),([0],[0]),([1],[1]),([2],[2]),([3,2],[2,3]),([2,4],[2,4]),([5,2],[5]),([6],[6]),([7,6],[6,7]),([6,8],[6,8]),([9,6],[9]),([10],[10]),([11,10],[10,11]),([12,10],[10,12]),([10,13],[10,13]),([14,10],[14]),([15],[15]),([16,15],[15,16]),([15,17],[15,17]),([18,15],[18]),([19],[19]),([20,19],[19,20]),([19,21],[19,21]),([22,19],[22]),([23],[23]),([24,23],[23,24]),([23,25],[23,25]),([26,23],[26]),([27],[27]),([28,27],[27,28]),([29,27],[27,29]),([30,27],[27,30]),([27,31],[27,31]),([32,27],[32]),([33],[33]),([34,33],[33,34]),([35,33],[33,35]),([36,33],[33,36]),([33],[33]),([37,38,33],[33,37,38]),([33,39],[33,39]),([40,33],[40]),([41],[41]),([42,41],[41,42]),([41,43],[41,43]),([44,41],[44]),([45],[45]),([46,45],[45,46]),([45,45],[45]),([48,45],[45,48]),([47,49,48,45],[45,47,49]),([45,50],[45,50]),([51,50],[51]),([52],[52]),([53,52],[52,53]),([52,54],[52,54]),([55,52],[55]),([56],[56]),([57,56],[56,57]),([56],[56]),([59,56],[56,59]),([58,60,56,56],[56,58,60]),([56,61],[56,61]),([62,61],[62]),([63],[63]),([64,63],[63,64]),([63,65],[63,65]),([66,63],[66]),([67],[67]),([68,67],[67,68]),([67,69],[67,69]),([70,67],[70]),([71],[71]),([72,71],[71,72]),([71,73],[71,73]),([74,71],[74]),([75],[75]),([75,76],[75,76]),([77,75],[77]),([78],[78]),([79,78],[78,79]),([78,80],[78,80]),([81,78],[81]),([82],[82]),([82],[82]),([83,84,82],[82,83,84]),([82,85],[82,85]),([86,82],[86]),([87],[87]),([87],[87]),([88,89,87],[87,88,89]),([87,90],[87,90]),([91,87],[91]),([92],[92]),([93,92,92],[92,93]),([94,92],[92,94]),([92,95],[92,95]),([96,94,0,1,2,3,4,5,6,7,8,9,10,11,12,13,14,15,16,17,18,19,20,21,22,23,24,25,26,27,28,29,30,31,32,33,34,35,36,37,38,39,40,41,42,43,44,45,46,47,48,49,50,51,52,53,54,55,56,57,58,59,60,61,62,63,64,65,66,67,68,69,70,71,72,73,74,75,76,77,78,79,80,81,82,83,84,85,86,87,88,89,90,91,92,93,94,95,96],[96])])
def gangsawlaw39_awake.B11 : List Nat:=[0,1,3,7,15,31,63,127,255,511,1023,2047,4095,8191,16383,32767,65535,131071,262143,524287,1048575,2097151,4194303,8388607,16777215,33554431,67108863,134217727,268435455,536870911,1073741823,2147483647,4294967295,8589934591,17179869183,34359738367,68719476735,137438953471,17179869183,549755813887,1099511627775,2199023255551,4398046511103,8796093022207,17592186044415,35184372088831,70368744177663,140737488355327,70368744177663,351843720888319,1125899906842623,2251799813685247,4503599627370495,9007199254740991,18014398509481983,36028797018963967,72057594037927935,144115188075855871,288230376151711743,144115188075855871,720575940379279359,2305843009213693951,4611686018427387903,9223372036854775807,18446744073709551615,36893488147419103231,73786976294838206463,147573952589676412927,295147905179352825855,590295810358705651711,1180591620717411303423,2361183241434822606847,4722366482869645213695,9444732965739290427391,18889465931478580854783,37778931862957161709567,75557863725914323419135,151115727451828646838271,302231454903657293676543,604462909807314587353087,1208925819614629174706175,2417851639229258349412351,4835703278458516698824703,9671406556917033397649407,9671406556917033397649407,38685626227668133590597631,77371252455336267181195263,154742504910672534362390527,309485009821345068724781055,309485009821345068724781055,1237940039285380274899124223,2475880078570760549798248447,4951760157141521099596496895,9903520314283042199192993791,19807040628566084398385987583,39614081257132168796771975167,79228162514264337593543950335,158456325028528675187087900671]
theorem gangsawlaw39_awake.tab11 : rtab .any (opsOf Try.f11 11) = gangsawlaw39_awake.T11:=by kernel_rfl
theorem gangsawlaw39_awake.bits11 : waitsOk gangsawlaw39_awake.T11.2 gangsawlaw39_awake.B11 = true:=by kernel_rfl
set_option maxHeartbeats 8000000 in
set_option maxRecDepth 100000 in
theorem gangsawlaw39_awake.calls (k : Nat)  (r : Bool) (w : World) (h : gangsawlaw39_awake.f k  = some r) :
  Calls Try.prog 11 #[] w fun e w'=>e = .returned (.bool r) ∧ Below w.heap.size w w':=by
 have hu31:=Try.underlying31
 have hu25:=Try.underlying25
 have HB:=am (Below.refl w.heap.size w)
 have H : ((some (([(⟨0,0⟩ : S31),(⟨10,0⟩ : S31),(⟨10,10⟩ : S31),(⟨0,10⟩ : S31)] : List (S31)) : List (S31))).bind fun y250=>((profile_Area.f k (⟨#[97]⟩ : ByteArray) y250).bind fun bt254=>((profile_Directions.f k (⟨#[97]⟩ : ByteArray) y250).bind fun bt256=>((gangsawlaw39_hook.f).bind fun bt260=>((profile_Undercut.f k bt260.1 bt260.2 2).bind fun bt264=>((profile_Step.f k (⟨#[115]⟩ : ByteArray) 2 30 17).bind fun bt266=>((gangsawlaw39_hook.f).bind fun bt272=>((profile_Canonical.f k bt272.1 bt272.2).bind fun bt276=>((profile_Mirror.f k (⟨#[97]⟩ : ByteArray) y250).bind fun bt282=>((profile_Waste.f k (⟨#[97]⟩ : ByteArray) y250 10 20).bind fun bt288=>((profile_Equal.f k (⟨#[97]⟩ : ByteArray) y250 (⟨#[97]⟩ : ByteArray) y250).bind fun bt290=>((gangsawlaw39_hook.f).bind fun bt292=>((profile_Bounds.f k bt292.1 bt292.2).bind fun bt296=>(if bt254.2 = 0 then (if bt254.1 = 200 then (if bt256.2 = 0 then (if (bt256.1.length : Int) = 4 then (if bt264.2 = 0 then (if bt264.1 = 4 then (if bt266.2.2 = 0 then (if (bt266.2.1.length : Int) = 6 then (if 4 < (bt266.2.1.length : Int) then (if (((rd_T31 bt266.2.1 4).f0) == 30 && (((rd_T31 bt266.2.1 4).f1) == 17)) = true then (if bt276.2.2 = 0 then ((gangsawlaw39_hook.f).bind fun bt304=>((gangsawref39_Same.f k bt276.2.1 bt304.2).bind fun t308=>(if t308 = true then (if bt282.2.2 = 0 then ((gangsawref39_Same.f k bt282.2.1 y250).bind fun t309=>(if t309 = true then (if bt288.2 = 0 then (if bt288.1 = 200 then (if bt290.2 = 0 then (if bt290.1 = true then (if bt296.2.2.2.2 = 0 then (if (bt296.1 == 0 && (bt296.2.1 == 0)) = true then (if (bt296.2.2.1 == 10 && (bt296.2.2.2.1 == 10)) = true then ((profile_Check.f k (⟨#[97]⟩ : ByteArray) y250).bind fun t310=>(some (t310 == 0))) else (none)) else (none)) else (none)) else (none)) else (none)) else (none)) else (none)) else (none))) else (none)) else (none)))) else (none)) else (none)) else (none)) else (none)) else (none)) else (none)) else (none)) else (none)) else (none)) else (none)) else (none))))))))))))))) = some r:=h
 clear h
 obtain ⟨y250,hy250⟩ : ∃ y_ : List (S31),y_ = (([(⟨0,0⟩ : S31),(⟨10,0⟩ : S31),(⟨10,10⟩ : S31),(⟨0,10⟩ : S31)] : List (S31))):=⟨_,rfl⟩
 replace H : ((profile_Area.f k (⟨#[97]⟩ : ByteArray) y250).bind fun bt254=>((profile_Directions.f k (⟨#[97]⟩ : ByteArray) y250).bind fun bt256=>((gangsawlaw39_hook.f).bind fun bt260=>((profile_Undercut.f k bt260.1 bt260.2 2).bind fun bt264=>((profile_Step.f k (⟨#[115]⟩ : ByteArray) 2 30 17).bind fun bt266=>((gangsawlaw39_hook.f).bind fun bt272=>((profile_Canonical.f k bt272.1 bt272.2).bind fun bt276=>((profile_Mirror.f k (⟨#[97]⟩ : ByteArray) y250).bind fun bt282=>((profile_Waste.f k (⟨#[97]⟩ : ByteArray) y250 10 20).bind fun bt288=>((profile_Equal.f k (⟨#[97]⟩ : ByteArray) y250 (⟨#[97]⟩ : ByteArray) y250).bind fun bt290=>((gangsawlaw39_hook.f).bind fun bt292=>((profile_Bounds.f k bt292.1 bt292.2).bind fun bt296=>(if bt254.2 = 0 then (if bt254.1 = 200 then (if bt256.2 = 0 then (if (bt256.1.length : Int) = 4 then (if bt264.2 = 0 then (if bt264.1 = 4 then (if bt266.2.2 = 0 then (if (bt266.2.1.length : Int) = 6 then (if 4 < (bt266.2.1.length : Int) then (if (((rd_T31 bt266.2.1 4).f0) == 30 && (((rd_T31 bt266.2.1 4).f1) == 17)) = true then (if bt276.2.2 = 0 then ((gangsawlaw39_hook.f).bind fun bt304=>((gangsawref39_Same.f k bt276.2.1 bt304.2).bind fun t308=>(if t308 = true then (if bt282.2.2 = 0 then ((gangsawref39_Same.f k bt282.2.1 y250).bind fun t309=>(if t309 = true then (if bt288.2 = 0 then (if bt288.1 = 200 then (if bt290.2 = 0 then (if bt290.1 = true then (if bt296.2.2.2.2 = 0 then (if (bt296.1 == 0 && (bt296.2.1 == 0)) = true then (if (bt296.2.2.1 == 10 && (bt296.2.2.2.1 == 10)) = true then ((profile_Check.f k (⟨#[97]⟩ : ByteArray) y250).bind fun t310=>(some (t310 == 0))) else (none)) else (none)) else (none)) else (none)) else (none)) else (none)) else (none)) else (none))) else (none)) else (none)))) else (none)) else (none)) else (none)) else (none)) else (none)) else (none)) else (none)) else (none)) else (none)) else (none)) else (none)))))))))))))) = some r:=by first|(rw [hy250];with_reducible exact H)|(have H2_:=(Option.bind_some _ _).symm.trans H;rw [hy250];with_reducible exact H2_)|(have H2_:=(Option.bind_some _ _).symm.trans H;with_reducible exact H2_)|with_reducible exact H|(rw [hy250];exact H)|exact H
 have Ny250:=am hy250
 clear hy250
 replace H:=Option.bind_eq_some_iff.mp H
 obtain ⟨⟨t254,t255⟩,A10,H⟩ := H
 replace H : ((profile_Directions.f k (⟨#[97]⟩ : ByteArray) y250).bind fun bt256=>((gangsawlaw39_hook.f).bind fun bt260=>((profile_Undercut.f k bt260.1 bt260.2 2).bind fun bt264=>((profile_Step.f k (⟨#[115]⟩ : ByteArray) 2 30 17).bind fun bt266=>((gangsawlaw39_hook.f).bind fun bt272=>((profile_Canonical.f k bt272.1 bt272.2).bind fun bt276=>((profile_Mirror.f k (⟨#[97]⟩ : ByteArray) y250).bind fun bt282=>((profile_Waste.f k (⟨#[97]⟩ : ByteArray) y250 10 20).bind fun bt288=>((profile_Equal.f k (⟨#[97]⟩ : ByteArray) y250 (⟨#[97]⟩ : ByteArray) y250).bind fun bt290=>((gangsawlaw39_hook.f).bind fun bt292=>((profile_Bounds.f k bt292.1 bt292.2).bind fun bt296=>(if t255 = 0 then (if t254 = 200 then (if bt256.2 = 0 then (if (bt256.1.length : Int) = 4 then (if bt264.2 = 0 then (if bt264.1 = 4 then (if bt266.2.2 = 0 then (if (bt266.2.1.length : Int) = 6 then (if 4 < (bt266.2.1.length : Int) then (if (((rd_T31 bt266.2.1 4).f0) == 30 && (((rd_T31 bt266.2.1 4).f1) == 17)) = true then (if bt276.2.2 = 0 then ((gangsawlaw39_hook.f).bind fun bt304=>((gangsawref39_Same.f k bt276.2.1 bt304.2).bind fun t308=>(if t308 = true then (if bt282.2.2 = 0 then ((gangsawref39_Same.f k bt282.2.1 y250).bind fun t309=>(if t309 = true then (if bt288.2 = 0 then (if bt288.1 = 200 then (if bt290.2 = 0 then (if bt290.1 = true then (if bt296.2.2.2.2 = 0 then (if (bt296.1 == 0 && (bt296.2.1 == 0)) = true then (if (bt296.2.2.1 == 10 && (bt296.2.2.2.1 == 10)) = true then ((profile_Check.f k (⟨#[97]⟩ : ByteArray) y250).bind fun t310=>(some (t310 == 0))) else (none)) else (none)) else (none)) else (none)) else (none)) else (none)) else (none)) else (none))) else (none)) else (none)))) else (none)) else (none)) else (none)) else (none)) else (none)) else (none)) else (none)) else (none)) else (none)) else (none)) else (none))))))))))))) = some r:=H
 have A1:=am A10
 clear A10
 replace H:=Option.bind_eq_some_iff.mp H
 obtain ⟨⟨t256,t259⟩,A20,H⟩ := H
 replace H : ((gangsawlaw39_hook.f).bind fun bt260=>((profile_Undercut.f k bt260.1 bt260.2 2).bind fun bt264=>((profile_Step.f k (⟨#[115]⟩ : ByteArray) 2 30 17).bind fun bt266=>((gangsawlaw39_hook.f).bind fun bt272=>((profile_Canonical.f k bt272.1 bt272.2).bind fun bt276=>((profile_Mirror.f k (⟨#[97]⟩ : ByteArray) y250).bind fun bt282=>((profile_Waste.f k (⟨#[97]⟩ : ByteArray) y250 10 20).bind fun bt288=>((profile_Equal.f k (⟨#[97]⟩ : ByteArray) y250 (⟨#[97]⟩ : ByteArray) y250).bind fun bt290=>((gangsawlaw39_hook.f).bind fun bt292=>((profile_Bounds.f k bt292.1 bt292.2).bind fun bt296=>(if t255 = 0 then (if t254 = 200 then (if t259 = 0 then (if (t256.length : Int) = 4 then (if bt264.2 = 0 then (if bt264.1 = 4 then (if bt266.2.2 = 0 then (if (bt266.2.1.length : Int) = 6 then (if 4 < (bt266.2.1.length : Int) then (if (((rd_T31 bt266.2.1 4).f0) == 30 && (((rd_T31 bt266.2.1 4).f1) == 17)) = true then (if bt276.2.2 = 0 then ((gangsawlaw39_hook.f).bind fun bt304=>((gangsawref39_Same.f k bt276.2.1 bt304.2).bind fun t308=>(if t308 = true then (if bt282.2.2 = 0 then ((gangsawref39_Same.f k bt282.2.1 y250).bind fun t309=>(if t309 = true then (if bt288.2 = 0 then (if bt288.1 = 200 then (if bt290.2 = 0 then (if bt290.1 = true then (if bt296.2.2.2.2 = 0 then (if (bt296.1 == 0 && (bt296.2.1 == 0)) = true then (if (bt296.2.2.1 == 10 && (bt296.2.2.2.1 == 10)) = true then ((profile_Check.f k (⟨#[97]⟩ : ByteArray) y250).bind fun t310=>(some (t310 == 0))) else (none)) else (none)) else (none)) else (none)) else (none)) else (none)) else (none)) else (none))) else (none)) else (none)))) else (none)) else (none)) else (none)) else (none)) else (none)) else (none)) else (none)) else (none)) else (none)) else (none)) else (none)))))))))))) = some r:=H
 have A2:=am A20
 clear A20
 replace H:=Option.bind_eq_some_iff.mp H
 obtain ⟨⟨t260,t261⟩,A30,H⟩ := H
 replace H : ((profile_Undercut.f k t260 t261 2).bind fun bt264=>((profile_Step.f k (⟨#[115]⟩ : ByteArray) 2 30 17).bind fun bt266=>((gangsawlaw39_hook.f).bind fun bt272=>((profile_Canonical.f k bt272.1 bt272.2).bind fun bt276=>((profile_Mirror.f k (⟨#[97]⟩ : ByteArray) y250).bind fun bt282=>((profile_Waste.f k (⟨#[97]⟩ : ByteArray) y250 10 20).bind fun bt288=>((profile_Equal.f k (⟨#[97]⟩ : ByteArray) y250 (⟨#[97]⟩ : ByteArray) y250).bind fun bt290=>((gangsawlaw39_hook.f).bind fun bt292=>((profile_Bounds.f k bt292.1 bt292.2).bind fun bt296=>(if t255 = 0 then (if t254 = 200 then (if t259 = 0 then (if (t256.length : Int) = 4 then (if bt264.2 = 0 then (if bt264.1 = 4 then (if bt266.2.2 = 0 then (if (bt266.2.1.length : Int) = 6 then (if 4 < (bt266.2.1.length : Int) then (if (((rd_T31 bt266.2.1 4).f0) == 30 && (((rd_T31 bt266.2.1 4).f1) == 17)) = true then (if bt276.2.2 = 0 then ((gangsawlaw39_hook.f).bind fun bt304=>((gangsawref39_Same.f k bt276.2.1 bt304.2).bind fun t308=>(if t308 = true then (if bt282.2.2 = 0 then ((gangsawref39_Same.f k bt282.2.1 y250).bind fun t309=>(if t309 = true then (if bt288.2 = 0 then (if bt288.1 = 200 then (if bt290.2 = 0 then (if bt290.1 = true then (if bt296.2.2.2.2 = 0 then (if (bt296.1 == 0 && (bt296.2.1 == 0)) = true then (if (bt296.2.2.1 == 10 && (bt296.2.2.2.1 == 10)) = true then ((profile_Check.f k (⟨#[97]⟩ : ByteArray) y250).bind fun t310=>(some (t310 == 0))) else (none)) else (none)) else (none)) else (none)) else (none)) else (none)) else (none)) else (none))) else (none)) else (none)))) else (none)) else (none)) else (none)) else (none)) else (none)) else (none)) else (none)) else (none)) else (none)) else (none)) else (none))))))))))) = some r:=H
 have A3:=am A30
 clear A30
 replace H:=Option.bind_eq_some_iff.mp H
 obtain ⟨⟨t264,t265⟩,A40,H⟩ := H
 replace H : ((profile_Step.f k (⟨#[115]⟩ : ByteArray) 2 30 17).bind fun bt266=>((gangsawlaw39_hook.f).bind fun bt272=>((profile_Canonical.f k bt272.1 bt272.2).bind fun bt276=>((profile_Mirror.f k (⟨#[97]⟩ : ByteArray) y250).bind fun bt282=>((profile_Waste.f k (⟨#[97]⟩ : ByteArray) y250 10 20).bind fun bt288=>((profile_Equal.f k (⟨#[97]⟩ : ByteArray) y250 (⟨#[97]⟩ : ByteArray) y250).bind fun bt290=>((gangsawlaw39_hook.f).bind fun bt292=>((profile_Bounds.f k bt292.1 bt292.2).bind fun bt296=>(if t255 = 0 then (if t254 = 200 then (if t259 = 0 then (if (t256.length : Int) = 4 then (if t265 = 0 then (if t264 = 4 then (if bt266.2.2 = 0 then (if (bt266.2.1.length : Int) = 6 then (if 4 < (bt266.2.1.length : Int) then (if (((rd_T31 bt266.2.1 4).f0) == 30 && (((rd_T31 bt266.2.1 4).f1) == 17)) = true then (if bt276.2.2 = 0 then ((gangsawlaw39_hook.f).bind fun bt304=>((gangsawref39_Same.f k bt276.2.1 bt304.2).bind fun t308=>(if t308 = true then (if bt282.2.2 = 0 then ((gangsawref39_Same.f k bt282.2.1 y250).bind fun t309=>(if t309 = true then (if bt288.2 = 0 then (if bt288.1 = 200 then (if bt290.2 = 0 then (if bt290.1 = true then (if bt296.2.2.2.2 = 0 then (if (bt296.1 == 0 && (bt296.2.1 == 0)) = true then (if (bt296.2.2.1 == 10 && (bt296.2.2.2.1 == 10)) = true then ((profile_Check.f k (⟨#[97]⟩ : ByteArray) y250).bind fun t310=>(some (t310 == 0))) else (none)) else (none)) else (none)) else (none)) else (none)) else (none)) else (none)) else (none))) else (none)) else (none)))) else (none)) else (none)) else (none)) else (none)) else (none)) else (none)) else (none)) else (none)) else (none)) else (none)) else (none)))))))))) = some r:=H
 have A4:=am A40
 clear A40
 replace H:=Option.bind_eq_some_iff.mp H
 obtain ⟨⟨t266,t267,t270⟩,A50,H⟩ := H
 replace H : ((gangsawlaw39_hook.f).bind fun bt272=>((profile_Canonical.f k bt272.1 bt272.2).bind fun bt276=>((profile_Mirror.f k (⟨#[97]⟩ : ByteArray) y250).bind fun bt282=>((profile_Waste.f k (⟨#[97]⟩ : ByteArray) y250 10 20).bind fun bt288=>((profile_Equal.f k (⟨#[97]⟩ : ByteArray) y250 (⟨#[97]⟩ : ByteArray) y250).bind fun bt290=>((gangsawlaw39_hook.f).bind fun bt292=>((profile_Bounds.f k bt292.1 bt292.2).bind fun bt296=>(if t255 = 0 then (if t254 = 200 then (if t259 = 0 then (if (t256.length : Int) = 4 then (if t265 = 0 then (if t264 = 4 then (if t270 = 0 then (if (t267.length : Int) = 6 then (if 4 < (t267.length : Int) then (if (((rd_T31 t267 4).f0) == 30 && (((rd_T31 t267 4).f1) == 17)) = true then (if bt276.2.2 = 0 then ((gangsawlaw39_hook.f).bind fun bt304=>((gangsawref39_Same.f k bt276.2.1 bt304.2).bind fun t308=>(if t308 = true then (if bt282.2.2 = 0 then ((gangsawref39_Same.f k bt282.2.1 y250).bind fun t309=>(if t309 = true then (if bt288.2 = 0 then (if bt288.1 = 200 then (if bt290.2 = 0 then (if bt290.1 = true then (if bt296.2.2.2.2 = 0 then (if (bt296.1 == 0 && (bt296.2.1 == 0)) = true then (if (bt296.2.2.1 == 10 && (bt296.2.2.2.1 == 10)) = true then ((profile_Check.f k (⟨#[97]⟩ : ByteArray) y250).bind fun t310=>(some (t310 == 0))) else (none)) else (none)) else (none)) else (none)) else (none)) else (none)) else (none)) else (none))) else (none)) else (none)))) else (none)) else (none)) else (none)) else (none)) else (none)) else (none)) else (none)) else (none)) else (none)) else (none)) else (none))))))))) = some r:=H
 have A5:=am A50
 clear A50
 replace H:=Option.bind_eq_some_iff.mp H
 obtain ⟨⟨t272,t273⟩,A60,H⟩ := H
 replace H : ((profile_Canonical.f k t272 t273).bind fun bt276=>((profile_Mirror.f k (⟨#[97]⟩ : ByteArray) y250).bind fun bt282=>((profile_Waste.f k (⟨#[97]⟩ : ByteArray) y250 10 20).bind fun bt288=>((profile_Equal.f k (⟨#[97]⟩ : ByteArray) y250 (⟨#[97]⟩ : ByteArray) y250).bind fun bt290=>((gangsawlaw39_hook.f).bind fun bt292=>((profile_Bounds.f k bt292.1 bt292.2).bind fun bt296=>(if t255 = 0 then (if t254 = 200 then (if t259 = 0 then (if (t256.length : Int) = 4 then (if t265 = 0 then (if t264 = 4 then (if t270 = 0 then (if (t267.length : Int) = 6 then (if 4 < (t267.length : Int) then (if (((rd_T31 t267 4).f0) == 30 && (((rd_T31 t267 4).f1) == 17)) = true then (if bt276.2.2 = 0 then ((gangsawlaw39_hook.f).bind fun bt304=>((gangsawref39_Same.f k bt276.2.1 bt304.2).bind fun t308=>(if t308 = true then (if bt282.2.2 = 0 then ((gangsawref39_Same.f k bt282.2.1 y250).bind fun t309=>(if t309 = true then (if bt288.2 = 0 then (if bt288.1 = 200 then (if bt290.2 = 0 then (if bt290.1 = true then (if bt296.2.2.2.2 = 0 then (if (bt296.1 == 0 && (bt296.2.1 == 0)) = true then (if (bt296.2.2.1 == 10 && (bt296.2.2.2.1 == 10)) = true then ((profile_Check.f k (⟨#[97]⟩ : ByteArray) y250).bind fun t310=>(some (t310 == 0))) else (none)) else (none)) else (none)) else (none)) else (none)) else (none)) else (none)) else (none))) else (none)) else (none)))) else (none)) else (none)) else (none)) else (none)) else (none)) else (none)) else (none)) else (none)) else (none)) else (none)) else (none)))))))) = some r:=H
 have A6:=am A60
 clear A60
 replace H:=Option.bind_eq_some_iff.mp H
 obtain ⟨⟨t276,t277,t280⟩,A70,H⟩ := H
 replace H : ((profile_Mirror.f k (⟨#[97]⟩ : ByteArray) y250).bind fun bt282=>((profile_Waste.f k (⟨#[97]⟩ : ByteArray) y250 10 20).bind fun bt288=>((profile_Equal.f k (⟨#[97]⟩ : ByteArray) y250 (⟨#[97]⟩ : ByteArray) y250).bind fun bt290=>((gangsawlaw39_hook.f).bind fun bt292=>((profile_Bounds.f k bt292.1 bt292.2).bind fun bt296=>(if t255 = 0 then (if t254 = 200 then (if t259 = 0 then (if (t256.length : Int) = 4 then (if t265 = 0 then (if t264 = 4 then (if t270 = 0 then (if (t267.length : Int) = 6 then (if 4 < (t267.length : Int) then (if (((rd_T31 t267 4).f0) == 30 && (((rd_T31 t267 4).f1) == 17)) = true then (if t280 = 0 then ((gangsawlaw39_hook.f).bind fun bt304=>((gangsawref39_Same.f k t277 bt304.2).bind fun t308=>(if t308 = true then (if bt282.2.2 = 0 then ((gangsawref39_Same.f k bt282.2.1 y250).bind fun t309=>(if t309 = true then (if bt288.2 = 0 then (if bt288.1 = 200 then (if bt290.2 = 0 then (if bt290.1 = true then (if bt296.2.2.2.2 = 0 then (if (bt296.1 == 0 && (bt296.2.1 == 0)) = true then (if (bt296.2.2.1 == 10 && (bt296.2.2.2.1 == 10)) = true then ((profile_Check.f k (⟨#[97]⟩ : ByteArray) y250).bind fun t310=>(some (t310 == 0))) else (none)) else (none)) else (none)) else (none)) else (none)) else (none)) else (none)) else (none))) else (none)) else (none)))) else (none)) else (none)) else (none)) else (none)) else (none)) else (none)) else (none)) else (none)) else (none)) else (none)) else (none))))))) = some r:=H
 have A7:=am A70
 clear A70
 replace H:=Option.bind_eq_some_iff.mp H
 obtain ⟨⟨t282,t283,t286⟩,A80,H⟩ := H
 replace H : ((profile_Waste.f k (⟨#[97]⟩ : ByteArray) y250 10 20).bind fun bt288=>((profile_Equal.f k (⟨#[97]⟩ : ByteArray) y250 (⟨#[97]⟩ : ByteArray) y250).bind fun bt290=>((gangsawlaw39_hook.f).bind fun bt292=>((profile_Bounds.f k bt292.1 bt292.2).bind fun bt296=>(if t255 = 0 then (if t254 = 200 then (if t259 = 0 then (if (t256.length : Int) = 4 then (if t265 = 0 then (if t264 = 4 then (if t270 = 0 then (if (t267.length : Int) = 6 then (if 4 < (t267.length : Int) then (if (((rd_T31 t267 4).f0) == 30 && (((rd_T31 t267 4).f1) == 17)) = true then (if t280 = 0 then ((gangsawlaw39_hook.f).bind fun bt304=>((gangsawref39_Same.f k t277 bt304.2).bind fun t308=>(if t308 = true then (if t286 = 0 then ((gangsawref39_Same.f k t283 y250).bind fun t309=>(if t309 = true then (if bt288.2 = 0 then (if bt288.1 = 200 then (if bt290.2 = 0 then (if bt290.1 = true then (if bt296.2.2.2.2 = 0 then (if (bt296.1 == 0 && (bt296.2.1 == 0)) = true then (if (bt296.2.2.1 == 10 && (bt296.2.2.2.1 == 10)) = true then ((profile_Check.f k (⟨#[97]⟩ : ByteArray) y250).bind fun t310=>(some (t310 == 0))) else (none)) else (none)) else (none)) else (none)) else (none)) else (none)) else (none)) else (none))) else (none)) else (none)))) else (none)) else (none)) else (none)) else (none)) else (none)) else (none)) else (none)) else (none)) else (none)) else (none)) else (none)))))) = some r:=H
 have A8:=am A80
 clear A80
 replace H:=Option.bind_eq_some_iff.mp H
 obtain ⟨⟨t288,t289⟩,A90,H⟩ := H
 replace H : ((profile_Equal.f k (⟨#[97]⟩ : ByteArray) y250 (⟨#[97]⟩ : ByteArray) y250).bind fun bt290=>((gangsawlaw39_hook.f).bind fun bt292=>((profile_Bounds.f k bt292.1 bt292.2).bind fun bt296=>(if t255 = 0 then (if t254 = 200 then (if t259 = 0 then (if (t256.length : Int) = 4 then (if t265 = 0 then (if t264 = 4 then (if t270 = 0 then (if (t267.length : Int) = 6 then (if 4 < (t267.length : Int) then (if (((rd_T31 t267 4).f0) == 30 && (((rd_T31 t267 4).f1) == 17)) = true then (if t280 = 0 then ((gangsawlaw39_hook.f).bind fun bt304=>((gangsawref39_Same.f k t277 bt304.2).bind fun t308=>(if t308 = true then (if t286 = 0 then ((gangsawref39_Same.f k t283 y250).bind fun t309=>(if t309 = true then (if t289 = 0 then (if t288 = 200 then (if bt290.2 = 0 then (if bt290.1 = true then (if bt296.2.2.2.2 = 0 then (if (bt296.1 == 0 && (bt296.2.1 == 0)) = true then (if (bt296.2.2.1 == 10 && (bt296.2.2.2.1 == 10)) = true then ((profile_Check.f k (⟨#[97]⟩ : ByteArray) y250).bind fun t310=>(some (t310 == 0))) else (none)) else (none)) else (none)) else (none)) else (none)) else (none)) else (none)) else (none))) else (none)) else (none)))) else (none)) else (none)) else (none)) else (none)) else (none)) else (none)) else (none)) else (none)) else (none)) else (none)) else (none))))) = some r:=H
 have A9:=am A90
 clear A90
 replace H:=Option.bind_eq_some_iff.mp H
 obtain ⟨⟨t290,t291⟩,A100,H⟩ := H
 replace H : ((gangsawlaw39_hook.f).bind fun bt292=>((profile_Bounds.f k bt292.1 bt292.2).bind fun bt296=>(if t255 = 0 then (if t254 = 200 then (if t259 = 0 then (if (t256.length : Int) = 4 then (if t265 = 0 then (if t264 = 4 then (if t270 = 0 then (if (t267.length : Int) = 6 then (if 4 < (t267.length : Int) then (if (((rd_T31 t267 4).f0) == 30 && (((rd_T31 t267 4).f1) == 17)) = true then (if t280 = 0 then ((gangsawlaw39_hook.f).bind fun bt304=>((gangsawref39_Same.f k t277 bt304.2).bind fun t308=>(if t308 = true then (if t286 = 0 then ((gangsawref39_Same.f k t283 y250).bind fun t309=>(if t309 = true then (if t289 = 0 then (if t288 = 200 then (if t291 = 0 then (if t290 = true then (if bt296.2.2.2.2 = 0 then (if (bt296.1 == 0 && (bt296.2.1 == 0)) = true then (if (bt296.2.2.1 == 10 && (bt296.2.2.2.1 == 10)) = true then ((profile_Check.f k (⟨#[97]⟩ : ByteArray) y250).bind fun t310=>(some (t310 == 0))) else (none)) else (none)) else (none)) else (none)) else (none)) else (none)) else (none)) else (none))) else (none)) else (none)))) else (none)) else (none)) else (none)) else (none)) else (none)) else (none)) else (none)) else (none)) else (none)) else (none)) else (none)))) = some r:=H
 have A10:=am A100
 clear A100
 replace H:=Option.bind_eq_some_iff.mp H
 obtain ⟨⟨t292,t293⟩,A110,H⟩ := H
 replace H : ((profile_Bounds.f k t292 t293).bind fun bt296=>(if t255 = 0 then (if t254 = 200 then (if t259 = 0 then (if (t256.length : Int) = 4 then (if t265 = 0 then (if t264 = 4 then (if t270 = 0 then (if (t267.length : Int) = 6 then (if 4 < (t267.length : Int) then (if (((rd_T31 t267 4).f0) == 30 && (((rd_T31 t267 4).f1) == 17)) = true then (if t280 = 0 then ((gangsawlaw39_hook.f).bind fun bt304=>((gangsawref39_Same.f k t277 bt304.2).bind fun t308=>(if t308 = true then (if t286 = 0 then ((gangsawref39_Same.f k t283 y250).bind fun t309=>(if t309 = true then (if t289 = 0 then (if t288 = 200 then (if t291 = 0 then (if t290 = true then (if bt296.2.2.2.2 = 0 then (if (bt296.1 == 0 && (bt296.2.1 == 0)) = true then (if (bt296.2.2.1 == 10 && (bt296.2.2.2.1 == 10)) = true then ((profile_Check.f k (⟨#[97]⟩ : ByteArray) y250).bind fun t310=>(some (t310 == 0))) else (none)) else (none)) else (none)) else (none)) else (none)) else (none)) else (none)) else (none))) else (none)) else (none)))) else (none)) else (none)) else (none)) else (none)) else (none)) else (none)) else (none)) else (none)) else (none)) else (none)) else (none))) = some r:=H
 have A11:=am A110
 clear A110
 replace H:=Option.bind_eq_some_iff.mp H
 obtain ⟨⟨t296,t297,t298,t299,t300⟩,A120,H⟩ := H
 replace H : (if t255 = 0 then (if t254 = 200 then (if t259 = 0 then (if (t256.length : Int) = 4 then (if t265 = 0 then (if t264 = 4 then (if t270 = 0 then (if (t267.length : Int) = 6 then (if 4 < (t267.length : Int) then (if (((rd_T31 t267 4).f0) == 30 && (((rd_T31 t267 4).f1) == 17)) = true then (if t280 = 0 then ((gangsawlaw39_hook.f).bind fun bt304=>((gangsawref39_Same.f k t277 bt304.2).bind fun t308=>(if t308 = true then (if t286 = 0 then ((gangsawref39_Same.f k t283 y250).bind fun t309=>(if t309 = true then (if t289 = 0 then (if t288 = 200 then (if t291 = 0 then (if t290 = true then (if t300 = 0 then (if (t296 == 0 && (t297 == 0)) = true then (if (t298 == 10 && (t299 == 10)) = true then ((profile_Check.f k (⟨#[97]⟩ : ByteArray) y250).bind fun t310=>(some (t310 == 0))) else (none)) else (none)) else (none)) else (none)) else (none)) else (none)) else (none)) else (none))) else (none)) else (none)))) else (none)) else (none)) else (none)) else (none)) else (none)) else (none)) else (none)) else (none)) else (none)) else (none)) else (none)) = some r:=H
 have A12:=am A120
 clear A120
 by_cases c13 : t255 = 0
 ·rw [if_pos c13] at H
  have c13b0 : (t255 == 0) = true:=beq_iff_eq.mpr c13
  have c13b1 : (t255 != 0) = false:=bne_eq_false_iff_eq.mpr c13
  clear c13
  by_cases c14 : t254 = 200
  ·rw [if_pos c14] at H
   have c14b0 : (t254 == 200) = true:=beq_iff_eq.mpr c14
   have c14b1 : (t254 != 200) = false:=bne_eq_false_iff_eq.mpr c14
   clear c14
   by_cases c15 : t259 = 0
   ·rw [if_pos c15] at H
    have c15b0 : (t259 == 0) = true:=beq_iff_eq.mpr c15
    have c15b1 : (t259 != 0) = false:=bne_eq_false_iff_eq.mpr c15
    clear c15
    by_cases c16 : (t256.length : Int) = 4
    ·rw [if_pos c16] at H
     have c16b0 : ((t256.length : Int) == 4) = true:=beq_iff_eq.mpr c16
     have c16b1 : ((t256.length : Int) != 4) = false:=bne_eq_false_iff_eq.mpr c16
     clear c16
     by_cases c17 : t265 = 0
     ·rw [if_pos c17] at H
      have c17b0 : (t265 == 0) = true:=beq_iff_eq.mpr c17
      have c17b1 : (t265 != 0) = false:=bne_eq_false_iff_eq.mpr c17
      clear c17
      by_cases c18 : t264 = 4
      ·rw [if_pos c18] at H
       have c18b0 : (t264 == 4) = true:=beq_iff_eq.mpr c18
       have c18b1 : (t264 != 4) = false:=bne_eq_false_iff_eq.mpr c18
       clear c18
       by_cases c19 : t270 = 0
       ·rw [if_pos c19] at H
        have c19b0 : (t270 == 0) = true:=beq_iff_eq.mpr c19
        have c19b1 : (t270 != 0) = false:=bne_eq_false_iff_eq.mpr c19
        clear c19
        by_cases c20 : (t267.length : Int) = 6
        ·rw [if_pos c20] at H
         have c20b0 : ((t267.length : Int) == 6) = true:=beq_iff_eq.mpr c20
         have c20b1 : ((t267.length : Int) != 6) = false:=bne_eq_false_iff_eq.mpr c20
         clear c20
         by_cases c21 : 4 < (t267.length : Int)
         ·rw [if_pos c21] at H
          have c21b0 : decide (4 < (t267.length : Int)) = true:=decide_eq_true c21
          have c21b1 : decide (4 < t267.length) = true:=decide_eq_true (by omega)
          clear c21
          by_cases c22 : (((rd_T31 t267 4).f0) == 30 && (((rd_T31 t267 4).f1) == 17)) = true
          ·rw [if_pos c22] at H
           have c22b0 : (((rd_T31 t267 4).f0) == 30 && (((rd_T31 t267 4).f1) == 17)) = true:=c22
           (try (have c22b1 : decide (((rd_T31 t267 4).f0) = 30 && (((rd_T31 t267 4).f1) == 17)) = true:=by simpa using c22))
           (try (have c22b2 : (((rd_T31 t267 4).f0) == 30 && (((rd_T31 t267 4).f1) == 17)) = true:=by simpa using c22))
           clear c22
           by_cases c23 : t280 = 0
           ·rw [if_pos c23] at H
            have c23b0 : (t280 == 0) = true:=beq_iff_eq.mpr c23
            have c23b1 : (t280 != 0) = false:=bne_eq_false_iff_eq.mpr c23
            clear c23
            replace H:=Option.bind_eq_some_iff.mp H
            obtain ⟨⟨t304,t305⟩,A240,H⟩ := H
            replace H : ((gangsawref39_Same.f k t277 t305).bind fun t308=>(if t308 = true then (if t286 = 0 then ((gangsawref39_Same.f k t283 y250).bind fun t309=>(if t309 = true then (if t289 = 0 then (if t288 = 200 then (if t291 = 0 then (if t290 = true then (if t300 = 0 then (if (t296 == 0 && (t297 == 0)) = true then (if (t298 == 10 && (t299 == 10)) = true then ((profile_Check.f k (⟨#[97]⟩ : ByteArray) y250).bind fun t310=>(some (t310 == 0))) else (none)) else (none)) else (none)) else (none)) else (none)) else (none)) else (none)) else (none))) else (none)) else (none))) = some r:=H
            have A24:=am A240
            clear A240
            replace H:=Option.bind_eq_some_iff.mp H
            obtain ⟨t308,A250,H⟩ := H
            replace H : (if t308 = true then (if t286 = 0 then ((gangsawref39_Same.f k t283 y250).bind fun t309=>(if t309 = true then (if t289 = 0 then (if t288 = 200 then (if t291 = 0 then (if t290 = true then (if t300 = 0 then (if (t296 == 0 && (t297 == 0)) = true then (if (t298 == 10 && (t299 == 10)) = true then ((profile_Check.f k (⟨#[97]⟩ : ByteArray) y250).bind fun t310=>(some (t310 == 0))) else (none)) else (none)) else (none)) else (none)) else (none)) else (none)) else (none)) else (none))) else (none)) else (none)) = some r:=H
            have A25:=am A250
            clear A250
            by_cases c26 : t308 = true
            ·subst c26
             have H1 : (if t286 = 0 then ((gangsawref39_Same.f k t283 y250).bind fun t309=>(if t309 = true then (if t289 = 0 then (if t288 = 200 then (if t291 = 0 then (if t290 = true then (if t300 = 0 then (if (t296 == 0 && (t297 == 0)) = true then (if (t298 == 10 && (t299 == 10)) = true then ((profile_Check.f k (⟨#[97]⟩ : ByteArray) y250).bind fun t310=>(some (t310 == 0))) else (none)) else (none)) else (none)) else (none)) else (none)) else (none)) else (none)) else (none))) else (none)) = some r:=by rw [if_pos rfl] at H;exact H
             clear H
             have H:=H1
             clear H1
             by_cases c27 : t286 = 0
             ·rw [if_pos c27] at H
              have c27b0 : (t286 == 0) = true:=beq_iff_eq.mpr c27
              have c27b1 : (t286 != 0) = false:=bne_eq_false_iff_eq.mpr c27
              clear c27
              replace H:=Option.bind_eq_some_iff.mp H
              obtain ⟨t309,A280,H⟩ := H
              replace H : (if t309 = true then (if t289 = 0 then (if t288 = 200 then (if t291 = 0 then (if t290 = true then (if t300 = 0 then (if (t296 == 0 && (t297 == 0)) = true then (if (t298 == 10 && (t299 == 10)) = true then ((profile_Check.f k (⟨#[97]⟩ : ByteArray) y250).bind fun t310=>(some (t310 == 0))) else (none)) else (none)) else (none)) else (none)) else (none)) else (none)) else (none)) else (none)) = some r:=H
              have A28:=am A280
              clear A280
              by_cases c29 : t309 = true
              ·subst c29
               have H1 : (if t289 = 0 then (if t288 = 200 then (if t291 = 0 then (if t290 = true then (if t300 = 0 then (if (t296 == 0 && (t297 == 0)) = true then (if (t298 == 10 && (t299 == 10)) = true then ((profile_Check.f k (⟨#[97]⟩ : ByteArray) y250).bind fun t310=>(some (t310 == 0))) else (none)) else (none)) else (none)) else (none)) else (none)) else (none)) else (none)) = some r:=by rw [if_pos rfl] at H;exact H
               clear H
               have H:=H1
               clear H1
               by_cases c30 : t289 = 0
               ·rw [if_pos c30] at H
                have c30b0 : (t289 == 0) = true:=beq_iff_eq.mpr c30
                have c30b1 : (t289 != 0) = false:=bne_eq_false_iff_eq.mpr c30
                clear c30
                by_cases c31 : t288 = 200
                ·rw [if_pos c31] at H
                 have c31b0 : (t288 == 200) = true:=beq_iff_eq.mpr c31
                 have c31b1 : (t288 != 200) = false:=bne_eq_false_iff_eq.mpr c31
                 clear c31
                 by_cases c32 : t291 = 0
                 ·rw [if_pos c32] at H
                  have c32b0 : (t291 == 0) = true:=beq_iff_eq.mpr c32
                  have c32b1 : (t291 != 0) = false:=bne_eq_false_iff_eq.mpr c32
                  clear c32
                  by_cases c33 : t290 = true
                  ·subst c33
                   have H1 : (if t300 = 0 then (if (t296 == 0 && (t297 == 0)) = true then (if (t298 == 10 && (t299 == 10)) = true then ((profile_Check.f k (⟨#[97]⟩ : ByteArray) y250).bind fun t310=>(some (t310 == 0))) else (none)) else (none)) else (none)) = some r:=by rw [if_pos rfl] at H;exact H
                   clear H
                   have H:=H1
                   clear H1
                   by_cases c34 : t300 = 0
                   ·rw [if_pos c34] at H
                    have c34b0 : (t300 == 0) = true:=beq_iff_eq.mpr c34
                    have c34b1 : (t300 != 0) = false:=bne_eq_false_iff_eq.mpr c34
                    clear c34
                    by_cases c35 : (t296 == 0 && (t297 == 0)) = true
                    ·rw [if_pos c35] at H
                     have c35b0 : (t296 == 0 && (t297 == 0)) = true:=c35
                     (try (have c35b1 : decide (t296 = 0 && (t297 == 0)) = true:=by simpa using c35))
                     (try (have c35b2 : (t296 == 0 && (t297 == 0)) = true:=by simpa using c35))
                     clear c35
                     by_cases c36 : (t298 == 10 && (t299 == 10)) = true
                     ·rw [if_pos c36] at H
                      have c36b0 : (t298 == 10 && (t299 == 10)) = true:=c36
                      (try (have c36b1 : decide (t298 = 10 && (t299 == 10)) = true:=by simpa using c36))
                      (try (have c36b2 : (t298 == 10 && (t299 == 10)) = true:=by simpa using c36))
                      clear c36
                      replace H:=Option.bind_eq_some_iff.mp H
                      obtain ⟨t310,A370,H⟩ := H
                      replace H : (some (t310 == 0)) = some r:=H
                      have A37:=am A370
                      clear A370
                      obtain rfl:=Option.some.inj H
                      go_enter Try.func11,Try.ntmps11
                      try go_wp2_with (first|((with_reducible refine gate_dst (N:=25) rfl ?_);(try (refine gate_guard (by rfl) ?_;dsimp only));refine Kd.R_lit k31 _ 31 ?hg (N:=25) ?hd (xs:=([(⟨0,0⟩ : S31),(⟨10,0⟩ : S31),(⟨10,10⟩ : S31),(⟨0,10⟩ : S31)] : List (S31))) (inner:=[.int .i64 0,.int .i64 0,.int .i64 10,.int .i64 0,.int .i64 10,.int .i64 10,.int .i64 0,.int .i64 10]) (ok:=fun _=>True) (okp:=fun _=>True) ?hr ?hp (fun _ hk=>hk) trivial (Below.refl _ _) (Nat.le_refl _) (by simp) ?_;(case hd=>rfl);(case hg=>rfl);(case hr=>first|(go_simp;done)|(go_simp;rfl));(case hp=>exact (Reps.c2 (show Kd.M k31 _ _ _ (⟨0,0⟩ : S31) [.int .i64 0,.int .i64 0] from (k31_mkM _ _ _ (⟨0,0⟩ : S31) )) (Reps.c2 (show Kd.M k31 _ _ _ (⟨10,0⟩ : S31) [.int .i64 10,.int .i64 0] from (k31_mkM _ _ _ (⟨10,0⟩ : S31) )) (Reps.c2 (show Kd.M k31 _ _ _ (⟨10,10⟩ : S31) [.int .i64 10,.int .i64 10] from (k31_mkM _ _ _ (⟨10,10⟩ : S31) )) (Reps.c2 (show Kd.M k31 _ _ _ (⟨0,10⟩ : S31) [.int .i64 0,.int .i64 10] from (k31_mkM _ _ _ (⟨0,10⟩ : S31) )) (Reps.none _ _))))));intro v251 w38 ho39 hb hg_ hnew_;clear hg_ hnew_;(first|rw [← Ny250.out] at ho39|(simp only [Int.reduceToNat] at ho39;rw [← Ny250.out] at ho39));have n0_:=am (Kd.R_lower ho39 (below_size (by repeat (first|(with_reducible first|exact HB.out|apply lA|apply lN|apply lD)|exact HB.out))));have n1_:=am (below_step (by repeat (first|(with_reducible first|exact HB.out|apply lA|apply lN|apply lD)|exact HB.out)) hb);clear HB;have HO252:=n0_;have HB:=n1_;clear n0_ n1_;clear hb ho39;obtain ⟨Ao40,co40,eo40⟩ := Kd.R_slice HO252.out;subst eo40)|((with_reducible refine gate_dst (N:=1) rfl ?_);(try (refine gate_guard (by rfl) ?_;dsimp only));refine box_event ?hg (N:=1) ?hd (cs:=#[.string (⟨#[]⟩ : ByteArray),.slice none 0 0]) (t:=25) ?hr ?_;(case hd=>rfl);(case hg=>rfl);(case hr=>first|(go_simp;done)|(go_simp;rfl));intro gb253 hg w41 hbox hb;have n0_:=am (Kd.R_below (by (with_reducible repeat (first|apply rA|apply rN|apply rD));exact HO252.out) hb);have n1_:=am (below_step (by repeat (first|(with_reducible first|exact HB.out|apply lA|apply lN|apply lD)|exact HB.out)) hb);have n2_:=am (hbox);have n3_:=am ((by rw [hg];exact (below_size (by repeat (first|(with_reducible first|exact HB.out|apply lA|apply lN|apply lD)|exact HB.out))) : w.heap.size ≤ gb253));have n4_:=am ((by rw [hg];exact (below_size (by repeat (first|(with_reducible first|exact HB.out|apply lA|apply lN|apply lD)|exact HB.out))) : w.heap.size ≤ gb253));clear HO252;clear HB;have HO252:=n0_;have HB:=n1_;have BK253:=n2_;have GW253:=n3_;have GE253:=n4_;clear n0_ n1_ n2_ n3_ n4_;clear hb hbox hg;have hcz42_0 : w41.cell? ⟨gb253,0,none⟩ = some (.string (⟨#[]⟩ : ByteArray)):=(blk_cell BK253.out 0).trans rfl;have hcz42_1 : w41.cell? ⟨gb253,1,none⟩ = some (.slice none 0 0):=(blk_cell BK253.out 1).trans rfl;have hfz42_0:=blk_frozen BK253.out 0;have hfz42_1:=blk_frozen BK253.out 1)|((with_reducible refine gate_callee (f:=15) rfl ?_);refine goesL_ (some 29) rfl rfl Try.func15 (by kernel_rfl) rfl #[.agg #[.string (⟨#[97]⟩ : ByteArray),.slice Ao40 y250.length co40]] rfl (by (try simp only [mT,mC,mN]);first|done|rfl|(simp only [lDr,lTk];rfl)) ?_;(with_reducible refine (profile_Area.calls k (⟨#[97]⟩ : ByteArray) _ _ y250 t254 t255 _ ?side1 ?side2 A1.out).mono ?_);(case side1=>refine (Kd.R_reads' (e:=31) (base:=w.heap.size) (ok:=fun k_=>True) (n:=y250.length) (c:=co40) ?_).2.2;exact (by (with_reducible repeat (first|apply rA|apply rN|apply rD));exact (Kd.R_mono (Kd.R_far (p:=⟨gb253,1,none⟩) (Kd.R_far (p:=⟨gb253,0,none⟩) (Kd.R_types HO252.out BK253.out (by decide)) (fun _ hk=>hk.2) (.string (⟨#[97]⟩ : ByteArray))) (fun _ hk=>hk.2) (.slice Ao40 y250.length co40)) (fun _ h_=>h_.1))));(case side2=>exact (Kd.R_reads' HO252.out).2.1);rintro e w43 ⟨rfl,hb⟩;refine ⟨_,rfl, ?_⟩;have n0_:=am (Kd.R_below (by (with_reducible repeat (first|apply rA|apply rN|apply rD));exact (Kd.R_mono (Kd.R_far (p:=⟨gb253,1,none⟩) (Kd.R_far (p:=⟨gb253,0,none⟩) (Kd.R_types HO252.out BK253.out (by decide)) (fun _ hk=>hk.2) (.string (⟨#[97]⟩ : ByteArray))) (fun _ hk=>hk.2) (.slice Ao40 y250.length co40)) (fun _ h_=>h_.1))) hb);have n1_:=am (blk_below (g:=gb253) (o:=.cells #[.string (⟨#[97]⟩ : ByteArray),.slice Ao40 y250.length co40] 25 (0,0)) (by (with_reducible repeat (first|apply bN|apply bD|apply bA));refine blk_put (cs:=#[.string (⟨#[97]⟩ : ByteArray),.slice none 0 0]) ?_ 1 _ rfl;(with_reducible repeat (first|apply bN|apply bD|apply bA));refine blk_put (cs:=#[.string (⟨#[]⟩ : ByteArray),.slice none 0 0]) ?_ 0 _ rfl;(with_reducible repeat (first|apply bN|apply bD|apply bA));exact BK253.out) hb);have n2_:=am (below_step (by repeat (first|(with_reducible first|exact HB.out|apply lA|apply lN|apply lD|refine lS ?_ GE253.out)|exact HB.out)) hb);clear HO252;clear BK253;clear HB;have HO252:=n0_;have BK253:=n1_;have HB:=n2_;clear n0_ n1_ n2_;(try clear hb);(try clear hb2);(try clear hk);(try clear hi);have hcz44_0 : w43.cell? ⟨gb253,0,none⟩ = some (.string (⟨#[97]⟩ : ByteArray)):=(blk_cell BK253.out 0).trans rfl;have hcz44_1 : w43.cell? ⟨gb253,1,none⟩ = some (.slice Ao40 y250.length co40):=(blk_cell BK253.out 1).trans rfl;have hfz44_0:=blk_frozen BK253.out 0;have hfz44_1:=blk_frozen BK253.out 1)|((with_reducible refine gate_callee (f:=28) rfl ?_);refine goesL_ (some 34) rfl rfl Try.func28 (by kernel_rfl) rfl #[.agg #[.string (⟨#[97]⟩ : ByteArray),.slice Ao40 y250.length co40]] rfl (by (try simp only [mT,mC,mN]);first|done|rfl|(simp only [lDr,lTk];rfl)) ?_;(with_reducible refine (profile_Directions.calls k (⟨#[97]⟩ : ByteArray) _ _ y250 t256 t259 _ ?side1 ?side2 A2.out).mono ?_);(case side1=>repeat (first|exact (Kd.R_reads' HO252.out).2.2|(with_reducible first|apply kA|apply kN|apply kD)));(case side2=>exact (Kd.R_reads' HO252.out).2.1);rintro e w45 ⟨v257,rfl,ho0,hb⟩;refine ⟨_,rfl, ?_⟩;have n0_:=am (Kd.R_below (by (with_reducible repeat (first|apply rA|apply rN|apply rD));exact HO252.out) hb);have n1_:=am (Kd.R_lower ho0 (below_size (by repeat (first|(with_reducible first|exact HB.out|apply lA|apply lN|apply lD|refine lS ?_ GE253.out)|exact HB.out))));have n2_:=am (blk_below (g:=gb253) (o:=.cells #[.string (⟨#[97]⟩ : ByteArray),.slice Ao40 y250.length co40] 25 (0,0)) (by (with_reducible repeat (first|apply bN|apply bD|apply bA));exact BK253.out) hb);have n3_:=am (below_step (by repeat (first|(with_reducible first|exact HB.out|apply lA|apply lN|apply lD|refine lS ?_ GE253.out)|exact HB.out)) hb);clear HO252;clear BK253;clear HB;have HO252:=n0_;have HO258:=n1_;have BK253:=n2_;have HB:=n3_;clear n0_ n1_ n2_ n3_;(try clear hb);(try clear hb2);(try clear hk);(try clear hi);(try clear ho0))|((with_reducible refine gate_callee (f:=32) rfl ?_);refine goesL_ (some 38) rfl rfl Try.func32 (by kernel_rfl) rfl #[] rfl (by (try simp only [mT,mC,mN]);first|done|rfl|(simp only [lDr,lTk];rfl)) ?_;(with_reducible refine (gangsawlaw39_hook.calls  t260 t261 _ A3.out).mono ?_);rintro e w46 ⟨v262,rfl,ho0,hb⟩;refine ⟨_,rfl, ?_⟩;have n0_:=am (Kd.R_elder' (by (with_reducible repeat (first|apply rA|apply rN|apply rD));exact HO252.out) (Kd.R_base ho0) hb);have n1_:=am (Kd.R_below (by (with_reducible repeat (first|apply rA|apply rN|apply rD));exact HO258.out) hb);have n2_:=am (Kd.R_lower (Kd.R_new' ho0 (Kd.R_lt (by (with_reducible repeat (first|apply rA|apply rN|apply rD));exact HO252.out))) (below_size (by repeat (first|(with_reducible first|exact HB.out|apply lA|apply lN|apply lD|refine lS ?_ GE253.out)|exact HB.out))));have n3_:=am (blk_below (g:=gb253) (o:=.cells #[.string (⟨#[97]⟩ : ByteArray),.slice Ao40 y250.length co40] 25 (0,0)) (by (with_reducible repeat (first|apply bN|apply bD|apply bA));exact BK253.out) hb);have n4_:=am (below_step (by repeat (first|(with_reducible first|exact HB.out|apply lA|apply lN|apply lD|refine lS ?_ GE253.out)|exact HB.out)) hb);clear HO252;clear HO258;clear BK253;clear HB;have HO252:=n0_;have HO258:=n1_;have HO263:=n2_;have BK253:=n3_;have HB:=n4_;clear n0_ n1_ n2_ n3_ n4_;(try clear hb);(try clear hb2);(try clear hk);(try clear hi);(try clear ho0);obtain ⟨Ao47,co47,eo47⟩ := Kd.R_slice HO263.out;subst eo47)|((with_reducible refine gate_callee (f:=27) rfl ?_);refine goesL_ (some 39) rfl rfl Try.func27 (by kernel_rfl) rfl #[.agg #[.string t260,.slice Ao47 t261.length co47],.int .i64 2] rfl (by (try simp only [mT,mC,mN]);first|done|rfl|(simp only [lDr,lTk];rfl)) ?_;(with_reducible refine (profile_Undercut.calls k t260 _ _ t261 2 t264 t265 _ ?side1 ?side2 A4.out).mono ?_);(case side1=>repeat (first|exact (Kd.R_reads' HO263.out).2.2|(with_reducible first|apply kA|apply kN|apply kD)));(case side2=>exact (Kd.R_reads' HO263.out).2.1);rintro e w48 ⟨rfl,hb⟩;refine ⟨_,rfl, ?_⟩;have n0_:=am (Kd.R_below (by (with_reducible repeat (first|apply rA|apply rN|apply rD));exact HO252.out) hb);have n1_:=am (Kd.R_below (by (with_reducible repeat (first|apply rA|apply rN|apply rD));exact HO258.out) hb);have n2_:=am (Kd.R_below (by (with_reducible repeat (first|apply rA|apply rN|apply rD));exact HO263.out) hb);have n3_:=am (blk_below (g:=gb253) (o:=.cells #[.string (⟨#[97]⟩ : ByteArray),.slice Ao40 y250.length co40] 25 (0,0)) (by (with_reducible repeat (first|apply bN|apply bD|apply bA));exact BK253.out) hb);have n4_:=am (below_step (by repeat (first|(with_reducible first|exact HB.out|apply lA|apply lN|apply lD|refine lS ?_ GE253.out)|exact HB.out)) hb);clear HO252;clear HO258;clear HO263;clear BK253;clear HB;have HO252:=n0_;have HO258:=n1_;have HO263:=n2_;have BK253:=n3_;have HB:=n4_;clear n0_ n1_ n2_ n3_ n4_;(try clear hb);(try clear hb2);(try clear hk);(try clear hi))|((with_reducible refine gate_callee (f:=30) rfl ?_);refine goesL_ (some 43) rfl rfl Try.func30 (by kernel_rfl) rfl #[.string (⟨#[115]⟩ : ByteArray),.int .i64 2,.int .i64 30,.int .i64 17] rfl (by (try simp only [mT,mC,mN]);first|done|rfl|(simp only [lDr,lTk];rfl)) ?_;(with_reducible refine (profile_Step.calls k (⟨#[115]⟩ : ByteArray) 2 30 17 t266 t267 t270 _ A5.out).mono ?_);rintro e w49 ⟨v268,rfl,ho0,hb⟩;refine ⟨_,rfl, ?_⟩;have n0_:=am (Kd.R_elder' (by (with_reducible repeat (first|apply rA|apply rN|apply rD));exact HO252.out) (Kd.R_base ho0) hb);have n1_:=am (Kd.R_below (by (with_reducible repeat (first|apply rA|apply rN|apply rD));exact HO258.out) hb);have n2_:=am (Kd.R_elder' (by (with_reducible repeat (first|apply rA|apply rN|apply rD));exact HO263.out) (Kd.R_base ho0) hb);have n3_:=am (Kd.R_lower (Kd.R_new' (Kd.R_new' ho0 (Kd.R_lt (by (with_reducible repeat (first|apply rA|apply rN|apply rD));exact HO252.out))) (Kd.R_lt (by (with_reducible repeat (first|apply rA|apply rN|apply rD));exact HO263.out))) (below_size (by repeat (first|(with_reducible first|exact HB.out|apply lA|apply lN|apply lD|refine lS ?_ GE253.out)|exact HB.out))));have n4_:=am (blk_below (g:=gb253) (o:=.cells #[.string (⟨#[97]⟩ : ByteArray),.slice Ao40 y250.length co40] 25 (0,0)) (by (with_reducible repeat (first|apply bN|apply bD|apply bA));exact BK253.out) hb);have n5_:=am (below_step (by repeat (first|(with_reducible first|exact HB.out|apply lA|apply lN|apply lD|refine lS ?_ GE253.out)|exact HB.out)) hb);clear HO252;clear HO258;clear HO263;clear BK253;clear HB;have HO252:=n0_;have HO258:=n1_;have HO263:=n2_;have HO269:=n3_;have BK253:=n4_;have HB:=n5_;clear n0_ n1_ n2_ n3_ n4_ n5_;(try clear hb);(try clear hb2);(try clear hk);(try clear hi);(try clear ho0))|((with_reducible refine gate_dst (N:=8) rfl ?_);(try (refine gate_guard (by rfl) ?_;dsimp only));refine box_event ?hg (N:=8) ?hd (cs:=#[.string (⟨#[]⟩ : ByteArray),.slice none 0 0]) (t:=25) ?hr ?_;(case hd=>rfl);(case hg=>rfl);(case hr=>first|(go_simp;done)|(go_simp;rfl));intro gb271 hg w50 hbox hb;have n0_:=am (Kd.R_below (by (with_reducible repeat (first|apply rA|apply rN|apply rD));exact HO252.out) hb);have n1_:=am (Kd.R_below (by (with_reducible repeat (first|apply rA|apply rN|apply rD));exact HO258.out) hb);have n2_:=am (Kd.R_below (by (with_reducible repeat (first|apply rA|apply rN|apply rD));exact HO263.out) hb);have n3_:=am (Kd.R_below (by (with_reducible repeat (first|apply rA|apply rN|apply rD));exact HO269.out) hb);have n4_:=am (blk_below (g:=gb253) (o:=.cells #[.string (⟨#[97]⟩ : ByteArray),.slice Ao40 y250.length co40] 25 (0,0)) (by (with_reducible repeat (first|apply bN|apply bD|apply bA));exact BK253.out) hb);have n5_:=am (below_step (by repeat (first|(with_reducible first|exact HB.out|apply lA|apply lN|apply lD|refine lS ?_ GE253.out)|exact HB.out)) hb);have n6_:=am (hbox);have n7_:=am ((by rw [hg];exact (below_size (by repeat (first|(with_reducible first|exact HB.out|apply lA|apply lN|apply lD|refine lS ?_ GE253.out)|exact HB.out))) : w.heap.size ≤ gb271));have n8_:=am ((by rw [hg];exact (below_size (by repeat (first|(with_reducible first|exact HB.out|apply lA|apply lN|apply lD|refine lS ?_ GE253.out)|exact HB.out))) : w.heap.size ≤ gb271));have n9_:=am ((by rw [hg];exact Nat.ne_of_lt (blk_lt (g:=gb253) (o:=.cells #[.string (⟨#[97]⟩ : ByteArray),.slice Ao40 y250.length co40] 25 (0,0)) (by (with_reducible repeat (first|apply bN|apply bD|apply bA));exact BK253.out)) : gb253 ≠ gb271));have n10_:=am ((by rw [hg];exact Nat.ne_of_gt (blk_lt (g:=gb253) (o:=.cells #[.string (⟨#[97]⟩ : ByteArray),.slice Ao40 y250.length co40] 25 (0,0)) (by (with_reducible repeat (first|apply bN|apply bD|apply bA));exact BK253.out)) : gb271 ≠ gb253));clear HO252;clear HO258;clear HO263;clear HO269;clear BK253;clear HB;have HO252:=n0_;have HO258:=n1_;have HO263:=n2_;have HO269:=n3_;have BK253:=n4_;have HB:=n5_;have BK271:=n6_;have GW271:=n7_;have GE271:=n8_;have NB253_271:=n9_;have NB271_253:=n10_;clear n0_ n1_ n2_ n3_ n4_ n5_ n6_ n7_ n8_ n9_ n10_;clear hb hbox hg;have hnb51:=NB271_253.out;have hnc51:=NB253_271.out;have hcz52_0 : w50.cell? ⟨gb271,0,none⟩ = some (.string (⟨#[]⟩ : ByteArray)):=(blk_cell BK271.out 0).trans rfl;have hcz52_1 : w50.cell? ⟨gb271,1,none⟩ = some (.slice none 0 0):=(blk_cell BK271.out 1).trans rfl;have hfz52_0:=blk_frozen BK271.out 0;have hfz52_1:=blk_frozen BK271.out 1;obtain ⟨Ao53,co53,eo53⟩ := Kd.R_slice HO269.out;subst eo53)|((with_reducible refine gate_callee (f:=32) rfl ?_);refine goesL_ (some 47) rfl rfl Try.func32 (by kernel_rfl) rfl #[] rfl (by (try simp only [mT,mC,mN]);first|done|rfl|(simp only [lDr,lTk];rfl)) ?_;(with_reducible refine (gangsawlaw39_hook.calls  t272 t273 _ A6.out).mono ?_);rintro e w54 ⟨v274,rfl,ho0,hb⟩;refine ⟨_,rfl, ?_⟩;have n0_:=am (Kd.R_elder' (by (with_reducible repeat (first|apply rA|apply rN|apply rD));exact (Kd.R_mono (Kd.R_far (p:=⟨gb271,1,none⟩) (Kd.R_far (p:=⟨gb271,0,none⟩) (Kd.R_types HO252.out BK271.out (by decide)) (fun _ hk=>hk.2) (.string t266)) (fun _ hk=>hk.2) (.slice Ao53 t267.length co53)) (fun _ h_=>h_.1))) (Kd.R_base ho0) hb);have n1_:=am (Kd.R_below (by (with_reducible repeat (first|apply rA|apply rN|apply rD));exact (Kd.R_mono (Kd.R_far (p:=⟨gb271,1,none⟩) (Kd.R_far (p:=⟨gb271,0,none⟩) (Kd.R_types HO258.out BK271.out (by decide)) (fun _ hk=>hk.2) (.string t266)) (fun _ hk=>hk.2) (.slice Ao53 t267.length co53)) (fun _ h_=>h_.1))) hb);have n2_:=am (Kd.R_elder' (by (with_reducible repeat (first|apply rA|apply rN|apply rD));exact (Kd.R_mono (Kd.R_far (p:=⟨gb271,1,none⟩) (Kd.R_far (p:=⟨gb271,0,none⟩) (Kd.R_types HO263.out BK271.out (by decide)) (fun _ hk=>hk.2) (.string t266)) (fun _ hk=>hk.2) (.slice Ao53 t267.length co53)) (fun _ h_=>h_.1))) (Kd.R_base ho0) hb);have n3_:=am (Kd.R_elder' (by (with_reducible repeat (first|apply rA|apply rN|apply rD));exact (Kd.R_mono (Kd.R_far (p:=⟨gb271,1,none⟩) (Kd.R_far (p:=⟨gb271,0,none⟩) (Kd.R_types HO269.out BK271.out (by decide)) (fun _ hk=>hk.2) (.string t266)) (fun _ hk=>hk.2) (.slice Ao53 t267.length co53)) (fun _ h_=>h_.1))) (Kd.R_base ho0) hb);have n4_:=am (Kd.R_lower (Kd.R_new' (Kd.R_new' (Kd.R_new' ho0 (Kd.R_lt (by (with_reducible repeat (first|apply rA|apply rN|apply rD));exact (Kd.R_mono (Kd.R_far (p:=⟨gb271,1,none⟩) (Kd.R_far (p:=⟨gb271,0,none⟩) (Kd.R_types HO252.out BK271.out (by decide)) (fun _ hk=>hk.2) (.string t266)) (fun _ hk=>hk.2) (.slice Ao53 t267.length co53)) (fun _ h_=>h_.1))))) (Kd.R_lt (by (with_reducible repeat (first|apply rA|apply rN|apply rD));exact (Kd.R_mono (Kd.R_far (p:=⟨gb271,1,none⟩) (Kd.R_far (p:=⟨gb271,0,none⟩) (Kd.R_types HO263.out BK271.out (by decide)) (fun _ hk=>hk.2) (.string t266)) (fun _ hk=>hk.2) (.slice Ao53 t267.length co53)) (fun _ h_=>h_.1))))) (Kd.R_lt (by (with_reducible repeat (first|apply rA|apply rN|apply rD));exact (Kd.R_mono (Kd.R_far (p:=⟨gb271,1,none⟩) (Kd.R_far (p:=⟨gb271,0,none⟩) (Kd.R_types HO269.out BK271.out (by decide)) (fun _ hk=>hk.2) (.string t266)) (fun _ hk=>hk.2) (.slice Ao53 t267.length co53)) (fun _ h_=>h_.1))))) (below_size (by repeat (first|(with_reducible first|exact HB.out|apply lA|apply lN|apply lD|refine lS ?_ GE253.out|refine lS ?_ GE271.out)|exact HB.out))));have n5_:=am (blk_below (g:=gb253) (o:=.cells #[.string (⟨#[97]⟩ : ByteArray),.slice Ao40 y250.length co40] 25 (0,0)) (by (with_reducible repeat (first|apply bN|apply bD|apply bA));refine blk_far ?_ NB253_271.out _;(with_reducible repeat (first|apply bN|apply bD|apply bA));refine blk_far ?_ NB253_271.out _;(with_reducible repeat (first|apply bN|apply bD|apply bA));exact BK253.out) hb);have n6_:=am (blk_below (g:=gb271) (o:=.cells #[.string t266,.slice Ao53 t267.length co53] 25 (0,0)) (by (with_reducible repeat (first|apply bN|apply bD|apply bA));refine blk_put (cs:=#[.string t266,.slice none 0 0]) ?_ 1 _ rfl;(with_reducible repeat (first|apply bN|apply bD|apply bA));refine blk_put (cs:=#[.string (⟨#[]⟩ : ByteArray),.slice none 0 0]) ?_ 0 _ rfl;(with_reducible repeat (first|apply bN|apply bD|apply bA));exact BK271.out) hb);have n7_:=am (below_step (by repeat (first|(with_reducible first|exact HB.out|apply lA|apply lN|apply lD|refine lS ?_ GE253.out|refine lS ?_ GE271.out)|exact HB.out)) hb);clear HO252;clear HO258;clear HO263;clear HO269;clear BK253;clear BK271;clear HB;have HO252:=n0_;have HO258:=n1_;have HO263:=n2_;have HO269:=n3_;have HO275:=n4_;have BK253:=n5_;have BK271:=n6_;have HB:=n7_;clear n0_ n1_ n2_ n3_ n4_ n5_ n6_ n7_;(try clear hb);(try clear hb2);(try clear hk);(try clear hi);(try clear ho0);obtain ⟨Ao55,co55,eo55⟩ := Kd.R_slice HO275.out;subst eo55)|((with_reducible refine gate_callee (f:=20) rfl ?_);refine goesL_ (some 48) rfl rfl Try.func20 (by kernel_rfl) rfl #[.agg #[.string t272,.slice Ao55 t273.length co55]] rfl (by (try simp only [mT,mC,mN]);first|done|rfl|(simp only [lDr,lTk];rfl)) ?_;(with_reducible refine (profile_Canonical.calls k t272 _ _ t273 t276 t277 t280 _ ?side1 ?side2 A7.out).mono ?_);(case side1=>repeat (first|exact (Kd.R_reads' HO275.out).2.2|(with_reducible first|apply kA|apply kN|apply kD)));(case side2=>exact (Kd.R_reads' HO275.out).2.1);rintro e w56 ⟨v278,rfl,ho0,hb⟩;refine ⟨_,rfl, ?_⟩;have n0_:=am (Kd.R_elder' (by (with_reducible repeat (first|apply rA|apply rN|apply rD));exact HO252.out) (Kd.R_base ho0) hb);have n1_:=am (Kd.R_below (by (with_reducible repeat (first|apply rA|apply rN|apply rD));exact HO258.out) hb);have n2_:=am (Kd.R_elder' (by (with_reducible repeat (first|apply rA|apply rN|apply rD));exact HO263.out) (Kd.R_base ho0) hb);have n3_:=am (Kd.R_elder' (by (with_reducible repeat (first|apply rA|apply rN|apply rD));exact HO269.out) (Kd.R_base ho0) hb);have n4_:=am (Kd.R_elder' (by (with_reducible repeat (first|apply rA|apply rN|apply rD));exact HO275.out) (Kd.R_base ho0) hb);have n5_:=am (Kd.R_lower (Kd.R_new' (Kd.R_new' (Kd.R_new' (Kd.R_new' ho0 (Kd.R_lt (by (with_reducible repeat (first|apply rA|apply rN|apply rD));exact HO252.out))) (Kd.R_lt (by (with_reducible repeat (first|apply rA|apply rN|apply rD));exact HO263.out))) (Kd.R_lt (by (with_reducible repeat (first|apply rA|apply rN|apply rD));exact HO269.out))) (Kd.R_lt (by (with_reducible repeat (first|apply rA|apply rN|apply rD));exact HO275.out))) (below_size (by repeat (first|(with_reducible first|exact HB.out|apply lA|apply lN|apply lD|refine lS ?_ GE253.out|refine lS ?_ GE271.out)|exact HB.out))));have n6_:=am (blk_below (g:=gb253) (o:=.cells #[.string (⟨#[97]⟩ : ByteArray),.slice Ao40 y250.length co40] 25 (0,0)) (by (with_reducible repeat (first|apply bN|apply bD|apply bA));exact BK253.out) hb);have n7_:=am (blk_below (g:=gb271) (o:=.cells #[.string t266,.slice Ao53 t267.length co53] 25 (0,0)) (by (with_reducible repeat (first|apply bN|apply bD|apply bA));exact BK271.out) hb);have n8_:=am (below_step (by repeat (first|(with_reducible first|exact HB.out|apply lA|apply lN|apply lD|refine lS ?_ GE253.out|refine lS ?_ GE271.out)|exact HB.out)) hb);clear HO252;clear HO258;clear HO263;clear HO269;clear HO275;clear BK253;clear BK271;clear HB;have HO252:=n0_;have HO258:=n1_;have HO263:=n2_;have HO269:=n3_;have HO275:=n4_;have HO279:=n5_;have BK253:=n6_;have BK271:=n7_;have HB:=n8_;clear n0_ n1_ n2_ n3_ n4_ n5_ n6_ n7_ n8_;(try clear hb);(try clear hb2);(try clear hk);(try clear hi);(try clear ho0))|((with_reducible refine gate_dst (N:=10) rfl ?_);(try (refine gate_guard (by rfl) ?_;dsimp only));refine box_event ?hg (N:=10) ?hd (cs:=#[.string (⟨#[]⟩ : ByteArray),.slice none 0 0]) (t:=25) ?hr ?_;(case hd=>rfl);(case hg=>rfl);(case hr=>first|(go_simp;done)|(go_simp;rfl));intro gb281 hg w57 hbox hb;have n0_:=am (Kd.R_below (by (with_reducible repeat (first|apply rA|apply rN|apply rD));exact HO252.out) hb);have n1_:=am (Kd.R_below (by (with_reducible repeat (first|apply rA|apply rN|apply rD));exact HO258.out) hb);have n2_:=am (Kd.R_below (by (with_reducible repeat (first|apply rA|apply rN|apply rD));exact HO263.out) hb);have n3_:=am (Kd.R_below (by (with_reducible repeat (first|apply rA|apply rN|apply rD));exact HO269.out) hb);have n4_:=am (Kd.R_below (by (with_reducible repeat (first|apply rA|apply rN|apply rD));exact HO275.out) hb);have n5_:=am (Kd.R_below (by (with_reducible repeat (first|apply rA|apply rN|apply rD));exact HO279.out) hb);have n6_:=am (blk_below (g:=gb253) (o:=.cells #[.string (⟨#[97]⟩ : ByteArray),.slice Ao40 y250.length co40] 25 (0,0)) (by (with_reducible repeat (first|apply bN|apply bD|apply bA));exact BK253.out) hb);have n7_:=am (blk_below (g:=gb271) (o:=.cells #[.string t266,.slice Ao53 t267.length co53] 25 (0,0)) (by (with_reducible repeat (first|apply bN|apply bD|apply bA));exact BK271.out) hb);have n8_:=am (below_step (by repeat (first|(with_reducible first|exact HB.out|apply lA|apply lN|apply lD|refine lS ?_ GE253.out|refine lS ?_ GE271.out)|exact HB.out)) hb);have n9_:=am (hbox);have n10_:=am ((by rw [hg];exact (below_size (by repeat (first|(with_reducible first|exact HB.out|apply lA|apply lN|apply lD|refine lS ?_ GE253.out|refine lS ?_ GE271.out)|exact HB.out))) : w.heap.size ≤ gb281));have n11_:=am ((by rw [hg];exact (below_size (by repeat (first|(with_reducible first|exact HB.out|apply lA|apply lN|apply lD|refine lS ?_ GE253.out|refine lS ?_ GE271.out)|exact HB.out))) : w.heap.size ≤ gb281));have n12_:=am ((by rw [hg];exact Nat.ne_of_lt (blk_lt (g:=gb253) (o:=.cells #[.string (⟨#[97]⟩ : ByteArray),.slice Ao40 y250.length co40] 25 (0,0)) (by (with_reducible repeat (first|apply bN|apply bD|apply bA));exact BK253.out)) : gb253 ≠ gb281));have n13_:=am ((by rw [hg];exact Nat.ne_of_gt (blk_lt (g:=gb253) (o:=.cells #[.string (⟨#[97]⟩ : ByteArray),.slice Ao40 y250.length co40] 25 (0,0)) (by (with_reducible repeat (first|apply bN|apply bD|apply bA));exact BK253.out)) : gb281 ≠ gb253));have n14_:=am ((by rw [hg];exact Nat.ne_of_lt (blk_lt (g:=gb271) (o:=.cells #[.string t266,.slice Ao53 t267.length co53] 25 (0,0)) (by (with_reducible repeat (first|apply bN|apply bD|apply bA));exact BK271.out)) : gb271 ≠ gb281));have n15_:=am ((by rw [hg];exact Nat.ne_of_gt (blk_lt (g:=gb271) (o:=.cells #[.string t266,.slice Ao53 t267.length co53] 25 (0,0)) (by (with_reducible repeat (first|apply bN|apply bD|apply bA));exact BK271.out)) : gb281 ≠ gb271));clear HO252;clear HO258;clear HO263;clear HO269;clear HO275;clear HO279;clear BK253;clear BK271;clear HB;have HO252:=n0_;have HO258:=n1_;have HO263:=n2_;have HO269:=n3_;have HO275:=n4_;have HO279:=n5_;have BK253:=n6_;have BK271:=n7_;have HB:=n8_;have BK281:=n9_;have GW281:=n10_;have GE281:=n11_;have NB253_281:=n12_;have NB281_253:=n13_;have NB271_281:=n14_;have NB281_271:=n15_;clear n0_ n1_ n2_ n3_ n4_ n5_ n6_ n7_ n8_ n9_ n10_ n11_ n12_ n13_ n14_ n15_;clear hb hbox hg;have hnb58:=NB281_253.out;have hnc58:=NB253_281.out;have hnb59:=NB281_271.out;have hnc59:=NB271_281.out;have hcz60_0 : w57.cell? ⟨gb281,0,none⟩ = some (.string (⟨#[]⟩ : ByteArray)):=(blk_cell BK281.out 0).trans rfl;have hcz60_1 : w57.cell? ⟨gb281,1,none⟩ = some (.slice none 0 0):=(blk_cell BK281.out 1).trans rfl;have hfz60_0:=blk_frozen BK281.out 0;have hfz60_1:=blk_frozen BK281.out 1;obtain ⟨Ao61,co61,eo61⟩ := Kd.R_slice HO279.out;subst eo61;have hcz62_0 : w57.cell? ⟨gb253,0,none⟩ = some (.string (⟨#[97]⟩ : ByteArray)):=(blk_cell BK253.out 0).trans rfl;have hcz62_1 : w57.cell? ⟨gb253,1,none⟩ = some (.slice Ao40 y250.length co40):=(blk_cell BK253.out 1).trans rfl;have hfz62_0:=blk_frozen BK253.out 0;have hfz62_1:=blk_frozen BK253.out 1)|((with_reducible refine gate_callee (f:=21) rfl ?_);refine goesL_ (some 53) rfl rfl Try.func21 (by kernel_rfl) rfl #[.agg #[.string (⟨#[97]⟩ : ByteArray),.slice Ao40 y250.length co40]] rfl (by (try simp only [mT,mC,mN]);first|done|rfl|(simp only [lDr,lTk];rfl)) ?_;(with_reducible refine (profile_Mirror.calls k (⟨#[97]⟩ : ByteArray) _ _ y250 t282 t283 t286 _ ?side1 ?side2 A8.out).mono ?_);(case side1=>refine (Kd.R_reads' (e:=31) (base:=w.heap.size) (ok:=fun k_=>((((True ∧ some k_ ≠ (.slice Ao47 t261.length co47 : Value).ownBlock) ∧ some k_ ≠ (.slice Ao53 t267.length co53 : Value).ownBlock) ∧ some k_ ≠ (.slice Ao55 t273.length co55 : Value).ownBlock) ∧ some k_ ≠ (.slice Ao61 t277.length co61 : Value).ownBlock)) (n:=y250.length) (c:=co40) ?_).2.2;exact (by (with_reducible repeat (first|apply rA|apply rN|apply rD));exact (Kd.R_mono (Kd.R_far (p:=⟨gb281,1,none⟩) (Kd.R_far (p:=⟨gb281,0,none⟩) (Kd.R_types HO252.out BK281.out (by decide)) (fun _ hk=>hk.2) (.string t276)) (fun _ hk=>hk.2) (.slice Ao61 t277.length co61)) (fun _ h_=>h_.1))));(case side2=>exact (Kd.R_reads' HO252.out).2.1);rintro e w63 ⟨v284,rfl,ho0,hb⟩;refine ⟨_,rfl, ?_⟩;have n0_:=am (Kd.R_elder' (by (with_reducible repeat (first|apply rA|apply rN|apply rD));exact (Kd.R_mono (Kd.R_far (p:=⟨gb281,1,none⟩) (Kd.R_far (p:=⟨gb281,0,none⟩) (Kd.R_types HO252.out BK281.out (by decide)) (fun _ hk=>hk.2) (.string t276)) (fun _ hk=>hk.2) (.slice Ao61 t277.length co61)) (fun _ h_=>h_.1))) (Kd.R_base ho0) hb);have n1_:=am (Kd.R_below (by (with_reducible repeat (first|apply rA|apply rN|apply rD));exact (Kd.R_mono (Kd.R_far (p:=⟨gb281,1,none⟩) (Kd.R_far (p:=⟨gb281,0,none⟩) (Kd.R_types HO258.out BK281.out (by decide)) (fun _ hk=>hk.2) (.string t276)) (fun _ hk=>hk.2) (.slice Ao61 t277.length co61)) (fun _ h_=>h_.1))) hb);have n2_:=am (Kd.R_elder' (by (with_reducible repeat (first|apply rA|apply rN|apply rD));exact (Kd.R_mono (Kd.R_far (p:=⟨gb281,1,none⟩) (Kd.R_far (p:=⟨gb281,0,none⟩) (Kd.R_types HO263.out BK281.out (by decide)) (fun _ hk=>hk.2) (.string t276)) (fun _ hk=>hk.2) (.slice Ao61 t277.length co61)) (fun _ h_=>h_.1))) (Kd.R_base ho0) hb);have n3_:=am (Kd.R_elder' (by (with_reducible repeat (first|apply rA|apply rN|apply rD));exact (Kd.R_mono (Kd.R_far (p:=⟨gb281,1,none⟩) (Kd.R_far (p:=⟨gb281,0,none⟩) (Kd.R_types HO269.out BK281.out (by decide)) (fun _ hk=>hk.2) (.string t276)) (fun _ hk=>hk.2) (.slice Ao61 t277.length co61)) (fun _ h_=>h_.1))) (Kd.R_base ho0) hb);have n4_:=am (Kd.R_elder' (by (with_reducible repeat (first|apply rA|apply rN|apply rD));exact (Kd.R_mono (Kd.R_far (p:=⟨gb281,1,none⟩) (Kd.R_far (p:=⟨gb281,0,none⟩) (Kd.R_types HO275.out BK281.out (by decide)) (fun _ hk=>hk.2) (.string t276)) (fun _ hk=>hk.2) (.slice Ao61 t277.length co61)) (fun _ h_=>h_.1))) (Kd.R_base ho0) hb);have n5_:=am (Kd.R_elder' (by (with_reducible repeat (first|apply rA|apply rN|apply rD));exact (Kd.R_mono (Kd.R_far (p:=⟨gb281,1,none⟩) (Kd.R_far (p:=⟨gb281,0,none⟩) (Kd.R_types HO279.out BK281.out (by decide)) (fun _ hk=>hk.2) (.string t276)) (fun _ hk=>hk.2) (.slice Ao61 t277.length co61)) (fun _ h_=>h_.1))) (Kd.R_base ho0) hb);have n6_:=am (Kd.R_lower (Kd.R_new' (Kd.R_new' (Kd.R_new' (Kd.R_new' (Kd.R_new' ho0 (Kd.R_lt (by (with_reducible repeat (first|apply rA|apply rN|apply rD));exact (Kd.R_mono (Kd.R_far (p:=⟨gb281,1,none⟩) (Kd.R_far (p:=⟨gb281,0,none⟩) (Kd.R_types HO252.out BK281.out (by decide)) (fun _ hk=>hk.2) (.string t276)) (fun _ hk=>hk.2) (.slice Ao61 t277.length co61)) (fun _ h_=>h_.1))))) (Kd.R_lt (by (with_reducible repeat (first|apply rA|apply rN|apply rD));exact (Kd.R_mono (Kd.R_far (p:=⟨gb281,1,none⟩) (Kd.R_far (p:=⟨gb281,0,none⟩) (Kd.R_types HO263.out BK281.out (by decide)) (fun _ hk=>hk.2) (.string t276)) (fun _ hk=>hk.2) (.slice Ao61 t277.length co61)) (fun _ h_=>h_.1))))) (Kd.R_lt (by (with_reducible repeat (first|apply rA|apply rN|apply rD));exact (Kd.R_mono (Kd.R_far (p:=⟨gb281,1,none⟩) (Kd.R_far (p:=⟨gb281,0,none⟩) (Kd.R_types HO269.out BK281.out (by decide)) (fun _ hk=>hk.2) (.string t276)) (fun _ hk=>hk.2) (.slice Ao61 t277.length co61)) (fun _ h_=>h_.1))))) (Kd.R_lt (by (with_reducible repeat (first|apply rA|apply rN|apply rD));exact (Kd.R_mono (Kd.R_far (p:=⟨gb281,1,none⟩) (Kd.R_far (p:=⟨gb281,0,none⟩) (Kd.R_types HO275.out BK281.out (by decide)) (fun _ hk=>hk.2) (.string t276)) (fun _ hk=>hk.2) (.slice Ao61 t277.length co61)) (fun _ h_=>h_.1))))) (Kd.R_lt (by (with_reducible repeat (first|apply rA|apply rN|apply rD));exact (Kd.R_mono (Kd.R_far (p:=⟨gb281,1,none⟩) (Kd.R_far (p:=⟨gb281,0,none⟩) (Kd.R_types HO279.out BK281.out (by decide)) (fun _ hk=>hk.2) (.string t276)) (fun _ hk=>hk.2) (.slice Ao61 t277.length co61)) (fun _ h_=>h_.1))))) (below_size (by repeat (first|(with_reducible first|exact HB.out|apply lA|apply lN|apply lD|refine lS ?_ GE253.out|refine lS ?_ GE271.out|refine lS ?_ GE281.out)|exact HB.out))));have n7_:=am (blk_below (g:=gb253) (o:=.cells #[.string (⟨#[97]⟩ : ByteArray),.slice Ao40 y250.length co40] 25 (0,0)) (by (with_reducible repeat (first|apply bN|apply bD|apply bA));refine blk_far ?_ NB253_281.out _;(with_reducible repeat (first|apply bN|apply bD|apply bA));refine blk_far ?_ NB253_281.out _;(with_reducible repeat (first|apply bN|apply bD|apply bA));exact BK253.out) hb);have n8_:=am (blk_below (g:=gb271) (o:=.cells #[.string t266,.slice Ao53 t267.length co53] 25 (0,0)) (by (with_reducible repeat (first|apply bN|apply bD|apply bA));refine blk_far ?_ NB271_281.out _;(with_reducible repeat (first|apply bN|apply bD|apply bA));refine blk_far ?_ NB271_281.out _;(with_reducible repeat (first|apply bN|apply bD|apply bA));exact BK271.out) hb);have n9_:=am (blk_below (g:=gb281) (o:=.cells #[.string t276,.slice Ao61 t277.length co61] 25 (0,0)) (by (with_reducible repeat (first|apply bN|apply bD|apply bA));refine blk_put (cs:=#[.string t276,.slice none 0 0]) ?_ 1 _ rfl;(with_reducible repeat (first|apply bN|apply bD|apply bA));refine blk_put (cs:=#[.string (⟨#[]⟩ : ByteArray),.slice none 0 0]) ?_ 0 _ rfl;(with_reducible repeat (first|apply bN|apply bD|apply bA));exact BK281.out) hb);have n10_:=am (below_step (by repeat (first|(with_reducible first|exact HB.out|apply lA|apply lN|apply lD|refine lS ?_ GE253.out|refine lS ?_ GE271.out|refine lS ?_ GE281.out)|exact HB.out)) hb);clear HO252;clear HO258;clear HO263;clear HO269;clear HO275;clear HO279;clear BK253;clear BK271;clear BK281;clear HB;have HO252:=n0_;have HO258:=n1_;have HO263:=n2_;have HO269:=n3_;have HO275:=n4_;have HO279:=n5_;have HO285:=n6_;have BK253:=n7_;have BK271:=n8_;have BK281:=n9_;have HB:=n10_;clear n0_ n1_ n2_ n3_ n4_ n5_ n6_ n7_ n8_ n9_ n10_;(try clear hb);(try clear hb2);(try clear hk);(try clear hi);(try clear ho0))|((with_reducible refine gate_dst (N:=12) rfl ?_);(try (refine gate_guard (by rfl) ?_;dsimp only));refine box_event ?hg (N:=12) ?hd (cs:=#[.string (⟨#[]⟩ : ByteArray),.slice none 0 0]) (t:=25) ?hr ?_;(case hd=>rfl);(case hg=>rfl);(case hr=>first|(go_simp;done)|(go_simp;rfl));intro gb287 hg w64 hbox hb;have n0_:=am (Kd.R_below (by (with_reducible repeat (first|apply rA|apply rN|apply rD));exact HO252.out) hb);have n1_:=am (Kd.R_below (by (with_reducible repeat (first|apply rA|apply rN|apply rD));exact HO258.out) hb);have n2_:=am (Kd.R_below (by (with_reducible repeat (first|apply rA|apply rN|apply rD));exact HO263.out) hb);have n3_:=am (Kd.R_below (by (with_reducible repeat (first|apply rA|apply rN|apply rD));exact HO269.out) hb);have n4_:=am (Kd.R_below (by (with_reducible repeat (first|apply rA|apply rN|apply rD));exact HO275.out) hb);have n5_:=am (Kd.R_below (by (with_reducible repeat (first|apply rA|apply rN|apply rD));exact HO279.out) hb);have n6_:=am (Kd.R_below (by (with_reducible repeat (first|apply rA|apply rN|apply rD));exact HO285.out) hb);have n7_:=am (blk_below (g:=gb253) (o:=.cells #[.string (⟨#[97]⟩ : ByteArray),.slice Ao40 y250.length co40] 25 (0,0)) (by (with_reducible repeat (first|apply bN|apply bD|apply bA));exact BK253.out) hb);have n8_:=am (blk_below (g:=gb271) (o:=.cells #[.string t266,.slice Ao53 t267.length co53] 25 (0,0)) (by (with_reducible repeat (first|apply bN|apply bD|apply bA));exact BK271.out) hb);have n9_:=am (blk_below (g:=gb281) (o:=.cells #[.string t276,.slice Ao61 t277.length co61] 25 (0,0)) (by (with_reducible repeat (first|apply bN|apply bD|apply bA));exact BK281.out) hb);have n10_:=am (below_step (by repeat (first|(with_reducible first|exact HB.out|apply lA|apply lN|apply lD|refine lS ?_ GE253.out|refine lS ?_ GE271.out|refine lS ?_ GE281.out)|exact HB.out)) hb);have n11_:=am (hbox);have n12_:=am ((by rw [hg];exact (below_size (by repeat (first|(with_reducible first|exact HB.out|apply lA|apply lN|apply lD|refine lS ?_ GE253.out|refine lS ?_ GE271.out|refine lS ?_ GE281.out)|exact HB.out))) : w.heap.size ≤ gb287));have n13_:=am ((by rw [hg];exact (below_size (by repeat (first|(with_reducible first|exact HB.out|apply lA|apply lN|apply lD|refine lS ?_ GE253.out|refine lS ?_ GE271.out|refine lS ?_ GE281.out)|exact HB.out))) : w.heap.size ≤ gb287));have n14_:=am ((by rw [hg];exact Nat.ne_of_lt (blk_lt (g:=gb253) (o:=.cells #[.string (⟨#[97]⟩ : ByteArray),.slice Ao40 y250.length co40] 25 (0,0)) (by (with_reducible repeat (first|apply bN|apply bD|apply bA));exact BK253.out)) : gb253 ≠ gb287));have n15_:=am ((by rw [hg];exact Nat.ne_of_gt (blk_lt (g:=gb253) (o:=.cells #[.string (⟨#[97]⟩ : ByteArray),.slice Ao40 y250.length co40] 25 (0,0)) (by (with_reducible repeat (first|apply bN|apply bD|apply bA));exact BK253.out)) : gb287 ≠ gb253));have n16_:=am ((by rw [hg];exact Nat.ne_of_lt (blk_lt (g:=gb271) (o:=.cells #[.string t266,.slice Ao53 t267.length co53] 25 (0,0)) (by (with_reducible repeat (first|apply bN|apply bD|apply bA));exact BK271.out)) : gb271 ≠ gb287));have n17_:=am ((by rw [hg];exact Nat.ne_of_gt (blk_lt (g:=gb271) (o:=.cells #[.string t266,.slice Ao53 t267.length co53] 25 (0,0)) (by (with_reducible repeat (first|apply bN|apply bD|apply bA));exact BK271.out)) : gb287 ≠ gb271));have n18_:=am ((by rw [hg];exact Nat.ne_of_lt (blk_lt (g:=gb281) (o:=.cells #[.string t276,.slice Ao61 t277.length co61] 25 (0,0)) (by (with_reducible repeat (first|apply bN|apply bD|apply bA));exact BK281.out)) : gb281 ≠ gb287));have n19_:=am ((by rw [hg];exact Nat.ne_of_gt (blk_lt (g:=gb281) (o:=.cells #[.string t276,.slice Ao61 t277.length co61] 25 (0,0)) (by (with_reducible repeat (first|apply bN|apply bD|apply bA));exact BK281.out)) : gb287 ≠ gb281));clear HO252;clear HO258;clear HO263;clear HO269;clear HO275;clear HO279;clear HO285;clear BK253;clear BK271;clear BK281;clear HB;have HO252:=n0_;have HO258:=n1_;have HO263:=n2_;have HO269:=n3_;have HO275:=n4_;have HO279:=n5_;have HO285:=n6_;have BK253:=n7_;have BK271:=n8_;have BK281:=n9_;have HB:=n10_;have BK287:=n11_;have GW287:=n12_;have GE287:=n13_;have NB253_287:=n14_;have NB287_253:=n15_;have NB271_287:=n16_;have NB287_271:=n17_;have NB281_287:=n18_;have NB287_281:=n19_;clear n0_ n1_ n2_ n3_ n4_ n5_ n6_ n7_ n8_ n9_ n10_ n11_ n12_ n13_ n14_ n15_ n16_ n17_ n18_ n19_;clear hb hbox hg;have hnb65:=NB287_253.out;have hnc65:=NB253_287.out;have hnb66:=NB287_271.out;have hnc66:=NB271_287.out;have hnb67:=NB287_281.out;have hnc67:=NB281_287.out;have hcz68_0 : w64.cell? ⟨gb287,0,none⟩ = some (.string (⟨#[]⟩ : ByteArray)):=(blk_cell BK287.out 0).trans rfl;have hcz68_1 : w64.cell? ⟨gb287,1,none⟩ = some (.slice none 0 0):=(blk_cell BK287.out 1).trans rfl;have hfz68_0:=blk_frozen BK287.out 0;have hfz68_1:=blk_frozen BK287.out 1;obtain ⟨Ao69,co69,eo69⟩ := Kd.R_slice HO285.out;subst eo69;have hcz70_0 : w64.cell? ⟨gb253,0,none⟩ = some (.string (⟨#[97]⟩ : ByteArray)):=(blk_cell BK253.out 0).trans rfl;have hcz70_1 : w64.cell? ⟨gb253,1,none⟩ = some (.slice Ao40 y250.length co40):=(blk_cell BK253.out 1).trans rfl;have hfz70_0:=blk_frozen BK253.out 0;have hfz70_1:=blk_frozen BK253.out 1)|((with_reducible refine gate_callee (f:=16) rfl ?_);refine goesL_ (some 58) rfl rfl Try.func16 (by kernel_rfl) rfl #[.agg #[.string (⟨#[97]⟩ : ByteArray),.slice Ao40 y250.length co40],.int .i64 10,.int .i64 20] rfl (by (try simp only [mT,mC,mN]);first|done|rfl|(simp only [lDr,lTk];rfl)) ?_;(with_reducible refine (profile_Waste.calls k (⟨#[97]⟩ : ByteArray) _ _ y250 10 20 t288 t289 _ ?side1 ?side2 A9.out).mono ?_);(case side1=>refine (Kd.R_reads' (e:=31) (base:=w.heap.size) (ok:=fun k_=>(((((True ∧ some k_ ≠ (.slice Ao47 t261.length co47 : Value).ownBlock) ∧ some k_ ≠ (.slice Ao53 t267.length co53 : Value).ownBlock) ∧ some k_ ≠ (.slice Ao55 t273.length co55 : Value).ownBlock) ∧ some k_ ≠ (.slice Ao61 t277.length co61 : Value).ownBlock) ∧ some k_ ≠ (.slice Ao69 t283.length co69 : Value).ownBlock)) (n:=y250.length) (c:=co40) ?_).2.2;exact (by (with_reducible repeat (first|apply rA|apply rN|apply rD));exact (Kd.R_mono (Kd.R_far (p:=⟨gb287,1,none⟩) (Kd.R_far (p:=⟨gb287,0,none⟩) (Kd.R_types HO252.out BK287.out (by decide)) (fun _ hk=>hk.2) (.string t282)) (fun _ hk=>hk.2) (.slice Ao69 t283.length co69)) (fun _ h_=>h_.1))));(case side2=>exact (Kd.R_reads' HO252.out).2.1);rintro e w71 ⟨rfl,hb⟩;refine ⟨_,rfl, ?_⟩;have n0_:=am (Kd.R_below (by (with_reducible repeat (first|apply rA|apply rN|apply rD));exact (Kd.R_mono (Kd.R_far (p:=⟨gb287,1,none⟩) (Kd.R_far (p:=⟨gb287,0,none⟩) (Kd.R_types HO252.out BK287.out (by decide)) (fun _ hk=>hk.2) (.string t282)) (fun _ hk=>hk.2) (.slice Ao69 t283.length co69)) (fun _ h_=>h_.1))) hb);have n1_:=am (Kd.R_below (by (with_reducible repeat (first|apply rA|apply rN|apply rD));exact (Kd.R_mono (Kd.R_far (p:=⟨gb287,1,none⟩) (Kd.R_far (p:=⟨gb287,0,none⟩) (Kd.R_types HO258.out BK287.out (by decide)) (fun _ hk=>hk.2) (.string t282)) (fun _ hk=>hk.2) (.slice Ao69 t283.length co69)) (fun _ h_=>h_.1))) hb);have n2_:=am (Kd.R_below (by (with_reducible repeat (first|apply rA|apply rN|apply rD));exact (Kd.R_mono (Kd.R_far (p:=⟨gb287,1,none⟩) (Kd.R_far (p:=⟨gb287,0,none⟩) (Kd.R_types HO263.out BK287.out (by decide)) (fun _ hk=>hk.2) (.string t282)) (fun _ hk=>hk.2) (.slice Ao69 t283.length co69)) (fun _ h_=>h_.1))) hb);have n3_:=am (Kd.R_below (by (with_reducible repeat (first|apply rA|apply rN|apply rD));exact (Kd.R_mono (Kd.R_far (p:=⟨gb287,1,none⟩) (Kd.R_far (p:=⟨gb287,0,none⟩) (Kd.R_types HO269.out BK287.out (by decide)) (fun _ hk=>hk.2) (.string t282)) (fun _ hk=>hk.2) (.slice Ao69 t283.length co69)) (fun _ h_=>h_.1))) hb);have n4_:=am (Kd.R_below (by (with_reducible repeat (first|apply rA|apply rN|apply rD));exact (Kd.R_mono (Kd.R_far (p:=⟨gb287,1,none⟩) (Kd.R_far (p:=⟨gb287,0,none⟩) (Kd.R_types HO275.out BK287.out (by decide)) (fun _ hk=>hk.2) (.string t282)) (fun _ hk=>hk.2) (.slice Ao69 t283.length co69)) (fun _ h_=>h_.1))) hb);have n5_:=am (Kd.R_below (by (with_reducible repeat (first|apply rA|apply rN|apply rD));exact (Kd.R_mono (Kd.R_far (p:=⟨gb287,1,none⟩) (Kd.R_far (p:=⟨gb287,0,none⟩) (Kd.R_types HO279.out BK287.out (by decide)) (fun _ hk=>hk.2) (.string t282)) (fun _ hk=>hk.2) (.slice Ao69 t283.length co69)) (fun _ h_=>h_.1))) hb);have n6_:=am (Kd.R_below (by (with_reducible repeat (first|apply rA|apply rN|apply rD));exact (Kd.R_mono (Kd.R_far (p:=⟨gb287,1,none⟩) (Kd.R_far (p:=⟨gb287,0,none⟩) (Kd.R_types HO285.out BK287.out (by decide)) (fun _ hk=>hk.2) (.string t282)) (fun _ hk=>hk.2) (.slice Ao69 t283.length co69)) (fun _ h_=>h_.1))) hb);have n7_:=am (blk_below (g:=gb253) (o:=.cells #[.string (⟨#[97]⟩ : ByteArray),.slice Ao40 y250.length co40] 25 (0,0)) (by (with_reducible repeat (first|apply bN|apply bD|apply bA));refine blk_far ?_ NB253_287.out _;(with_reducible repeat (first|apply bN|apply bD|apply bA));refine blk_far ?_ NB253_287.out _;(with_reducible repeat (first|apply bN|apply bD|apply bA));exact BK253.out) hb);have n8_:=am (blk_below (g:=gb271) (o:=.cells #[.string t266,.slice Ao53 t267.length co53] 25 (0,0)) (by (with_reducible repeat (first|apply bN|apply bD|apply bA));refine blk_far ?_ NB271_287.out _;(with_reducible repeat (first|apply bN|apply bD|apply bA));refine blk_far ?_ NB271_287.out _;(with_reducible repeat (first|apply bN|apply bD|apply bA));exact BK271.out) hb);have n9_:=am (blk_below (g:=gb281) (o:=.cells #[.string t276,.slice Ao61 t277.length co61] 25 (0,0)) (by (with_reducible repeat (first|apply bN|apply bD|apply bA));refine blk_far ?_ NB281_287.out _;(with_reducible repeat (first|apply bN|apply bD|apply bA));refine blk_far ?_ NB281_287.out _;(with_reducible repeat (first|apply bN|apply bD|apply bA));exact BK281.out) hb);have n10_:=am (blk_below (g:=gb287) (o:=.cells #[.string t282,.slice Ao69 t283.length co69] 25 (0,0)) (by (with_reducible repeat (first|apply bN|apply bD|apply bA));refine blk_put (cs:=#[.string t282,.slice none 0 0]) ?_ 1 _ rfl;(with_reducible repeat (first|apply bN|apply bD|apply bA));refine blk_put (cs:=#[.string (⟨#[]⟩ : ByteArray),.slice none 0 0]) ?_ 0 _ rfl;(with_reducible repeat (first|apply bN|apply bD|apply bA));exact BK287.out) hb);have n11_:=am (below_step (by repeat (first|(with_reducible first|exact HB.out|apply lA|apply lN|apply lD|refine lS ?_ GE253.out|refine lS ?_ GE271.out|refine lS ?_ GE281.out|refine lS ?_ GE287.out)|exact HB.out)) hb);clear HO252;clear HO258;clear HO263;clear HO269;clear HO275;clear HO279;clear HO285;clear BK253;clear BK271;clear BK281;clear BK287;clear HB;have HO252:=n0_;have HO258:=n1_;have HO263:=n2_;have HO269:=n3_;have HO275:=n4_;have HO279:=n5_;have HO285:=n6_;have BK253:=n7_;have BK271:=n8_;have BK281:=n9_;have BK287:=n10_;have HB:=n11_;clear n0_ n1_ n2_ n3_ n4_ n5_ n6_ n7_ n8_ n9_ n10_ n11_;(try clear hb);(try clear hb2);(try clear hk);(try clear hi);have hcz72_0 : w71.cell? ⟨gb253,0,none⟩ = some (.string (⟨#[97]⟩ : ByteArray)):=(blk_cell BK253.out 0).trans rfl;have hcz72_1 : w71.cell? ⟨gb253,1,none⟩ = some (.slice Ao40 y250.length co40):=(blk_cell BK253.out 1).trans rfl;have hfz72_0:=blk_frozen BK253.out 0;have hfz72_1:=blk_frozen BK253.out 1)|((with_reducible refine gate_callee (f:=22) rfl ?_);refine goesL_ (some 64) rfl rfl Try.func22 (by kernel_rfl) rfl #[.agg #[.string (⟨#[97]⟩ : ByteArray),.slice Ao40 y250.length co40],.agg #[.string (⟨#[97]⟩ : ByteArray),.slice Ao40 y250.length co40]] rfl (by (try simp only [mT,mC,mN]);first|done|rfl|(simp only [lDr,lTk];rfl)) ?_;(with_reducible refine (profile_Equal.calls k (⟨#[97]⟩ : ByteArray) _ _ y250 (⟨#[97]⟩ : ByteArray) _ _ y250 true t291 _ ?side1 ?side2 ?side3 ?side4 A10.out).mono ?_);(case side1=>repeat (first|exact (Kd.R_reads' HO252.out).2.2|(with_reducible first|apply kA|apply kN|apply kD)));(case side2=>exact (Kd.R_reads' HO252.out).2.1);(case side3=>repeat (first|exact (Kd.R_reads' HO252.out).2.2|(with_reducible first|apply kA|apply kN|apply kD)));(case side4=>exact (Kd.R_reads' HO252.out).2.1);rintro e w73 ⟨rfl,hb⟩;refine ⟨_,rfl, ?_⟩;have n0_:=am (Kd.R_below (by (with_reducible repeat (first|apply rA|apply rN|apply rD));exact HO252.out) hb);have n1_:=am (Kd.R_below (by (with_reducible repeat (first|apply rA|apply rN|apply rD));exact HO258.out) hb);have n2_:=am (Kd.R_below (by (with_reducible repeat (first|apply rA|apply rN|apply rD));exact HO263.out) hb);have n3_:=am (Kd.R_below (by (with_reducible repeat (first|apply rA|apply rN|apply rD));exact HO269.out) hb);have n4_:=am (Kd.R_below (by (with_reducible repeat (first|apply rA|apply rN|apply rD));exact HO275.out) hb);have n5_:=am (Kd.R_below (by (with_reducible repeat (first|apply rA|apply rN|apply rD));exact HO279.out) hb);have n6_:=am (Kd.R_below (by (with_reducible repeat (first|apply rA|apply rN|apply rD));exact HO285.out) hb);have n7_:=am (blk_below (g:=gb253) (o:=.cells #[.string (⟨#[97]⟩ : ByteArray),.slice Ao40 y250.length co40] 25 (0,0)) (by (with_reducible repeat (first|apply bN|apply bD|apply bA));exact BK253.out) hb);have n8_:=am (blk_below (g:=gb271) (o:=.cells #[.string t266,.slice Ao53 t267.length co53] 25 (0,0)) (by (with_reducible repeat (first|apply bN|apply bD|apply bA));exact BK271.out) hb);have n9_:=am (blk_below (g:=gb281) (o:=.cells #[.string t276,.slice Ao61 t277.length co61] 25 (0,0)) (by (with_reducible repeat (first|apply bN|apply bD|apply bA));exact BK281.out) hb);have n10_:=am (blk_below (g:=gb287) (o:=.cells #[.string t282,.slice Ao69 t283.length co69] 25 (0,0)) (by (with_reducible repeat (first|apply bN|apply bD|apply bA));exact BK287.out) hb);have n11_:=am (below_step (by repeat (first|(with_reducible first|exact HB.out|apply lA|apply lN|apply lD|refine lS ?_ GE253.out|refine lS ?_ GE271.out|refine lS ?_ GE281.out|refine lS ?_ GE287.out)|exact HB.out)) hb);clear HO252;clear HO258;clear HO263;clear HO269;clear HO275;clear HO279;clear HO285;clear BK253;clear BK271;clear BK281;clear BK287;clear HB;have HO252:=n0_;have HO258:=n1_;have HO263:=n2_;have HO269:=n3_;have HO275:=n4_;have HO279:=n5_;have HO285:=n6_;have BK253:=n7_;have BK271:=n8_;have BK281:=n9_;have BK287:=n10_;have HB:=n11_;clear n0_ n1_ n2_ n3_ n4_ n5_ n6_ n7_ n8_ n9_ n10_ n11_;(try clear hb);(try clear hb2);(try clear hk);(try clear hi))|((with_reducible refine gate_callee (f:=32) rfl ?_);refine goesL_ (some 68) rfl rfl Try.func32 (by kernel_rfl) rfl #[] rfl (by (try simp only [mT,mC,mN]);first|done|rfl|(simp only [lDr,lTk];rfl)) ?_;(with_reducible refine (gangsawlaw39_hook.calls  t292 t293 _ A11.out).mono ?_);rintro e w74 ⟨v294,rfl,ho0,hb⟩;refine ⟨_,rfl, ?_⟩;have n0_:=am (Kd.R_elder' (by (with_reducible repeat (first|apply rA|apply rN|apply rD));exact HO252.out) (Kd.R_base ho0) hb);have n1_:=am (Kd.R_below (by (with_reducible repeat (first|apply rA|apply rN|apply rD));exact HO258.out) hb);have n2_:=am (Kd.R_elder' (by (with_reducible repeat (first|apply rA|apply rN|apply rD));exact HO263.out) (Kd.R_base ho0) hb);have n3_:=am (Kd.R_elder' (by (with_reducible repeat (first|apply rA|apply rN|apply rD));exact HO269.out) (Kd.R_base ho0) hb);have n4_:=am (Kd.R_elder' (by (with_reducible repeat (first|apply rA|apply rN|apply rD));exact HO275.out) (Kd.R_base ho0) hb);have n5_:=am (Kd.R_elder' (by (with_reducible repeat (first|apply rA|apply rN|apply rD));exact HO279.out) (Kd.R_base ho0) hb);have n6_:=am (Kd.R_elder' (by (with_reducible repeat (first|apply rA|apply rN|apply rD));exact HO285.out) (Kd.R_base ho0) hb);have n7_:=am (Kd.R_lower (Kd.R_new' (Kd.R_new' (Kd.R_new' (Kd.R_new' (Kd.R_new' (Kd.R_new' ho0 (Kd.R_lt (by (with_reducible repeat (first|apply rA|apply rN|apply rD));exact HO252.out))) (Kd.R_lt (by (with_reducible repeat (first|apply rA|apply rN|apply rD));exact HO263.out))) (Kd.R_lt (by (with_reducible repeat (first|apply rA|apply rN|apply rD));exact HO269.out))) (Kd.R_lt (by (with_reducible repeat (first|apply rA|apply rN|apply rD));exact HO275.out))) (Kd.R_lt (by (with_reducible repeat (first|apply rA|apply rN|apply rD));exact HO279.out))) (Kd.R_lt (by (with_reducible repeat (first|apply rA|apply rN|apply rD));exact HO285.out))) (below_size (by repeat (first|(with_reducible first|exact HB.out|apply lA|apply lN|apply lD|refine lS ?_ GE253.out|refine lS ?_ GE271.out|refine lS ?_ GE281.out|refine lS ?_ GE287.out)|exact HB.out))));have n8_:=am (blk_below (g:=gb253) (o:=.cells #[.string (⟨#[97]⟩ : ByteArray),.slice Ao40 y250.length co40] 25 (0,0)) (by (with_reducible repeat (first|apply bN|apply bD|apply bA));exact BK253.out) hb);have n9_:=am (blk_below (g:=gb271) (o:=.cells #[.string t266,.slice Ao53 t267.length co53] 25 (0,0)) (by (with_reducible repeat (first|apply bN|apply bD|apply bA));exact BK271.out) hb);have n10_:=am (blk_below (g:=gb281) (o:=.cells #[.string t276,.slice Ao61 t277.length co61] 25 (0,0)) (by (with_reducible repeat (first|apply bN|apply bD|apply bA));exact BK281.out) hb);have n11_:=am (blk_below (g:=gb287) (o:=.cells #[.string t282,.slice Ao69 t283.length co69] 25 (0,0)) (by (with_reducible repeat (first|apply bN|apply bD|apply bA));exact BK287.out) hb);have n12_:=am (below_step (by repeat (first|(with_reducible first|exact HB.out|apply lA|apply lN|apply lD|refine lS ?_ GE253.out|refine lS ?_ GE271.out|refine lS ?_ GE281.out|refine lS ?_ GE287.out)|exact HB.out)) hb);clear HO252;clear HO258;clear HO263;clear HO269;clear HO275;clear HO279;clear HO285;clear BK253;clear BK271;clear BK281;clear BK287;clear HB;have HO252:=n0_;have HO258:=n1_;have HO263:=n2_;have HO269:=n3_;have HO275:=n4_;have HO279:=n5_;have HO285:=n6_;have HO295:=n7_;have BK253:=n8_;have BK271:=n9_;have BK281:=n10_;have BK287:=n11_;have HB:=n12_;clear n0_ n1_ n2_ n3_ n4_ n5_ n6_ n7_ n8_ n9_ n10_ n11_ n12_;(try clear hb);(try clear hb2);(try clear hk);(try clear hi);(try clear ho0);obtain ⟨Ao75,co75,eo75⟩ := Kd.R_slice HO295.out;subst eo75)|((with_reducible refine gate_callee (f:=14) rfl ?_);refine goesL_ (some 69) rfl rfl Try.func14 (by kernel_rfl) rfl #[.agg #[.string t292,.slice Ao75 t293.length co75]] rfl (by (try simp only [mT,mC,mN]);first|done|rfl|(simp only [lDr,lTk];rfl)) ?_;(with_reducible refine (profile_Bounds.calls k t292 _ _ t293 t296 t297 t298 t299 t300 _ ?side1 ?side2 A12.out).mono ?_);(case side1=>repeat (first|exact (Kd.R_reads' HO295.out).2.2|(with_reducible first|apply kA|apply kN|apply kD)));(case side2=>exact (Kd.R_reads' HO295.out).2.1);rintro e w76 ⟨rfl,hb⟩;refine ⟨_,rfl, ?_⟩;have n0_:=am (Kd.R_below (by (with_reducible repeat (first|apply rA|apply rN|apply rD));exact HO252.out) hb);have n1_:=am (Kd.R_below (by (with_reducible repeat (first|apply rA|apply rN|apply rD));exact HO258.out) hb);have n2_:=am (Kd.R_below (by (with_reducible repeat (first|apply rA|apply rN|apply rD));exact HO263.out) hb);have n3_:=am (Kd.R_below (by (with_reducible repeat (first|apply rA|apply rN|apply rD));exact HO269.out) hb);have n4_:=am (Kd.R_below (by (with_reducible repeat (first|apply rA|apply rN|apply rD));exact HO275.out) hb);have n5_:=am (Kd.R_below (by (with_reducible repeat (first|apply rA|apply rN|apply rD));exact HO279.out) hb);have n6_:=am (Kd.R_below (by (with_reducible repeat (first|apply rA|apply rN|apply rD));exact HO285.out) hb);have n7_:=am (Kd.R_below (by (with_reducible repeat (first|apply rA|apply rN|apply rD));exact HO295.out) hb);have n8_:=am (blk_below (g:=gb253) (o:=.cells #[.string (⟨#[97]⟩ : ByteArray),.slice Ao40 y250.length co40] 25 (0,0)) (by (with_reducible repeat (first|apply bN|apply bD|apply bA));exact BK253.out) hb);have n9_:=am (blk_below (g:=gb271) (o:=.cells #[.string t266,.slice Ao53 t267.length co53] 25 (0,0)) (by (with_reducible repeat (first|apply bN|apply bD|apply bA));exact BK271.out) hb);have n10_:=am (blk_below (g:=gb281) (o:=.cells #[.string t276,.slice Ao61 t277.length co61] 25 (0,0)) (by (with_reducible repeat (first|apply bN|apply bD|apply bA));exact BK281.out) hb);have n11_:=am (blk_below (g:=gb287) (o:=.cells #[.string t282,.slice Ao69 t283.length co69] 25 (0,0)) (by (with_reducible repeat (first|apply bN|apply bD|apply bA));exact BK287.out) hb);have n12_:=am (below_step (by repeat (first|(with_reducible first|exact HB.out|apply lA|apply lN|apply lD|refine lS ?_ GE253.out|refine lS ?_ GE271.out|refine lS ?_ GE281.out|refine lS ?_ GE287.out)|exact HB.out)) hb);clear HO252;clear HO258;clear HO263;clear HO269;clear HO275;clear HO279;clear HO285;clear HO295;clear BK253;clear BK271;clear BK281;clear BK287;clear HB;have HO252:=n0_;have HO258:=n1_;have HO263:=n2_;have HO269:=n3_;have HO275:=n4_;have HO279:=n5_;have HO285:=n6_;have HO295:=n7_;have BK253:=n8_;have BK271:=n9_;have BK281:=n10_;have BK287:=n11_;have HB:=n12_;clear n0_ n1_ n2_ n3_ n4_ n5_ n6_ n7_ n8_ n9_ n10_ n11_ n12_;(try clear hb);(try clear hb2);(try clear hk);(try clear hi))|((with_reducible refine gate_dst (N:=18) rfl ?_);(try (refine gate_guard (by rfl) ?_;dsimp only));refine box_event ?hg (N:=18) ?hd (cs:=#[.int .i64 0,.int .i64 0]) (t:=31) ?hr ?_;(case hd=>rfl);(case hg=>rfl);(case hr=>first|(go_simp;done)|(go_simp;rfl));intro gb301 hg w77 hbox hb;have n0_:=am (Kd.R_below (Kd.R_elderB (by (with_reducible repeat (first|apply rA|apply rN|apply rD));exact HO252.out) gb301 (Nat.le_of_eq hg.symm)) hb);have n1_:=am (Kd.R_below (by (with_reducible repeat (first|apply rA|apply rN|apply rD));exact HO258.out) hb);have n2_:=am (Kd.R_below (Kd.R_elderB (by (with_reducible repeat (first|apply rA|apply rN|apply rD));exact HO263.out) gb301 (Nat.le_of_eq hg.symm)) hb);have n3_:=am (Kd.R_below (Kd.R_elderB (by (with_reducible repeat (first|apply rA|apply rN|apply rD));exact HO269.out) gb301 (Nat.le_of_eq hg.symm)) hb);have n4_:=am (Kd.R_below (Kd.R_elderB (by (with_reducible repeat (first|apply rA|apply rN|apply rD));exact HO275.out) gb301 (Nat.le_of_eq hg.symm)) hb);have n5_:=am (Kd.R_below (Kd.R_elderB (by (with_reducible repeat (first|apply rA|apply rN|apply rD));exact HO279.out) gb301 (Nat.le_of_eq hg.symm)) hb);have n6_:=am (Kd.R_below (Kd.R_elderB (by (with_reducible repeat (first|apply rA|apply rN|apply rD));exact HO285.out) gb301 (Nat.le_of_eq hg.symm)) hb);have n7_:=am (Kd.R_below (Kd.R_elderB (by (with_reducible repeat (first|apply rA|apply rN|apply rD));exact HO295.out) gb301 (Nat.le_of_eq hg.symm)) hb);have n8_:=am (blk_below (g:=gb253) (o:=.cells #[.string (⟨#[97]⟩ : ByteArray),.slice Ao40 y250.length co40] 25 (0,0)) (by (with_reducible repeat (first|apply bN|apply bD|apply bA));exact BK253.out) hb);have n9_:=am (blk_below (g:=gb271) (o:=.cells #[.string t266,.slice Ao53 t267.length co53] 25 (0,0)) (by (with_reducible repeat (first|apply bN|apply bD|apply bA));exact BK271.out) hb);have n10_:=am (blk_below (g:=gb281) (o:=.cells #[.string t276,.slice Ao61 t277.length co61] 25 (0,0)) (by (with_reducible repeat (first|apply bN|apply bD|apply bA));exact BK281.out) hb);have n11_:=am (blk_below (g:=gb287) (o:=.cells #[.string t282,.slice Ao69 t283.length co69] 25 (0,0)) (by (with_reducible repeat (first|apply bN|apply bD|apply bA));exact BK287.out) hb);have n12_:=am (below_step (by repeat (first|(with_reducible first|exact HB.out|apply lA|apply lN|apply lD|refine lS ?_ GE253.out|refine lS ?_ GE271.out|refine lS ?_ GE281.out|refine lS ?_ GE287.out)|exact HB.out)) hb);have n13_:=am (hbox);have n14_:=am ((by rw [hg];exact (below_size (by repeat (first|(with_reducible first|exact HB.out|apply lA|apply lN|apply lD|refine lS ?_ GE253.out|refine lS ?_ GE271.out|refine lS ?_ GE281.out|refine lS ?_ GE287.out)|exact HB.out))) : w.heap.size ≤ gb301));have n15_:=am ((by rw [hg];exact (below_size (by repeat (first|(with_reducible first|exact HB.out|apply lA|apply lN|apply lD|refine lS ?_ GE253.out|refine lS ?_ GE271.out|refine lS ?_ GE281.out|refine lS ?_ GE287.out)|exact HB.out))) : w.heap.size ≤ gb301));have n16_:=am ((by rw [hg];exact Nat.ne_of_lt (blk_lt (g:=gb253) (o:=.cells #[.string (⟨#[97]⟩ : ByteArray),.slice Ao40 y250.length co40] 25 (0,0)) (by (with_reducible repeat (first|apply bN|apply bD|apply bA));exact BK253.out)) : gb253 ≠ gb301));have n17_:=am ((by rw [hg];exact Nat.ne_of_gt (blk_lt (g:=gb253) (o:=.cells #[.string (⟨#[97]⟩ : ByteArray),.slice Ao40 y250.length co40] 25 (0,0)) (by (with_reducible repeat (first|apply bN|apply bD|apply bA));exact BK253.out)) : gb301 ≠ gb253));have n18_:=am ((by rw [hg];exact Nat.ne_of_lt (blk_lt (g:=gb271) (o:=.cells #[.string t266,.slice Ao53 t267.length co53] 25 (0,0)) (by (with_reducible repeat (first|apply bN|apply bD|apply bA));exact BK271.out)) : gb271 ≠ gb301));have n19_:=am ((by rw [hg];exact Nat.ne_of_gt (blk_lt (g:=gb271) (o:=.cells #[.string t266,.slice Ao53 t267.length co53] 25 (0,0)) (by (with_reducible repeat (first|apply bN|apply bD|apply bA));exact BK271.out)) : gb301 ≠ gb271));have n20_:=am ((by rw [hg];exact Nat.ne_of_lt (blk_lt (g:=gb281) (o:=.cells #[.string t276,.slice Ao61 t277.length co61] 25 (0,0)) (by (with_reducible repeat (first|apply bN|apply bD|apply bA));exact BK281.out)) : gb281 ≠ gb301));have n21_:=am ((by rw [hg];exact Nat.ne_of_gt (blk_lt (g:=gb281) (o:=.cells #[.string t276,.slice Ao61 t277.length co61] 25 (0,0)) (by (with_reducible repeat (first|apply bN|apply bD|apply bA));exact BK281.out)) : gb301 ≠ gb281));have n22_:=am ((by rw [hg];exact Nat.ne_of_lt (blk_lt (g:=gb287) (o:=.cells #[.string t282,.slice Ao69 t283.length co69] 25 (0,0)) (by (with_reducible repeat (first|apply bN|apply bD|apply bA));exact BK287.out)) : gb287 ≠ gb301));have n23_:=am ((by rw [hg];exact Nat.ne_of_gt (blk_lt (g:=gb287) (o:=.cells #[.string t282,.slice Ao69 t283.length co69] 25 (0,0)) (by (with_reducible repeat (first|apply bN|apply bD|apply bA));exact BK287.out)) : gb301 ≠ gb287));clear HO252;clear HO258;clear HO263;clear HO269;clear HO275;clear HO279;clear HO285;clear HO295;clear BK253;clear BK271;clear BK281;clear BK287;clear HB;have HO252:=n0_;have HO258:=n1_;have HO263:=n2_;have HO269:=n3_;have HO275:=n4_;have HO279:=n5_;have HO285:=n6_;have HO295:=n7_;have BK253:=n8_;have BK271:=n9_;have BK281:=n10_;have BK287:=n11_;have HB:=n12_;have BK301:=n13_;have GW301:=n14_;have GE301:=n15_;have NB253_301:=n16_;have NB301_253:=n17_;have NB271_301:=n18_;have NB301_271:=n19_;have NB281_301:=n20_;have NB301_281:=n21_;have NB287_301:=n22_;have NB301_287:=n23_;clear n0_ n1_ n2_ n3_ n4_ n5_ n6_ n7_ n8_ n9_ n10_ n11_ n12_ n13_ n14_ n15_ n16_ n17_ n18_ n19_ n20_ n21_ n22_ n23_;clear hb hbox hg)|((with_reducible refine gate_dst (N:=19) rfl ?_);(try (refine gate_guard (by rfl) ?_;dsimp only));refine box_event ?hg (N:=19) ?hd (cs:=#[.int .i64 0,.int .i64 0]) (t:=31) ?hr ?_;(case hd=>rfl);(case hg=>rfl);(case hr=>first|(go_simp;done)|(go_simp;rfl));intro gb302 hg w78 hbox hb;have n0_:=am (Kd.R_below (Kd.R_elderB (by (with_reducible repeat (first|apply rA|apply rN|apply rD));exact HO252.out) gb302 (Nat.le_of_eq hg.symm)) hb);have n1_:=am (Kd.R_below (by (with_reducible repeat (first|apply rA|apply rN|apply rD));exact HO258.out) hb);have n2_:=am (Kd.R_below (Kd.R_elderB (by (with_reducible repeat (first|apply rA|apply rN|apply rD));exact HO263.out) gb302 (Nat.le_of_eq hg.symm)) hb);have n3_:=am (Kd.R_below (Kd.R_elderB (by (with_reducible repeat (first|apply rA|apply rN|apply rD));exact HO269.out) gb302 (Nat.le_of_eq hg.symm)) hb);have n4_:=am (Kd.R_below (Kd.R_elderB (by (with_reducible repeat (first|apply rA|apply rN|apply rD));exact HO275.out) gb302 (Nat.le_of_eq hg.symm)) hb);have n5_:=am (Kd.R_below (Kd.R_elderB (by (with_reducible repeat (first|apply rA|apply rN|apply rD));exact HO279.out) gb302 (Nat.le_of_eq hg.symm)) hb);have n6_:=am (Kd.R_below (Kd.R_elderB (by (with_reducible repeat (first|apply rA|apply rN|apply rD));exact HO285.out) gb302 (Nat.le_of_eq hg.symm)) hb);have n7_:=am (Kd.R_below (Kd.R_elderB (by (with_reducible repeat (first|apply rA|apply rN|apply rD));exact HO295.out) gb302 (Nat.le_of_eq hg.symm)) hb);have n8_:=am (blk_below (g:=gb253) (o:=.cells #[.string (⟨#[97]⟩ : ByteArray),.slice Ao40 y250.length co40] 25 (0,0)) (by (with_reducible repeat (first|apply bN|apply bD|apply bA));exact BK253.out) hb);have n9_:=am (blk_below (g:=gb271) (o:=.cells #[.string t266,.slice Ao53 t267.length co53] 25 (0,0)) (by (with_reducible repeat (first|apply bN|apply bD|apply bA));exact BK271.out) hb);have n10_:=am (blk_below (g:=gb281) (o:=.cells #[.string t276,.slice Ao61 t277.length co61] 25 (0,0)) (by (with_reducible repeat (first|apply bN|apply bD|apply bA));exact BK281.out) hb);have n11_:=am (blk_below (g:=gb287) (o:=.cells #[.string t282,.slice Ao69 t283.length co69] 25 (0,0)) (by (with_reducible repeat (first|apply bN|apply bD|apply bA));exact BK287.out) hb);have n12_:=am (blk_below (g:=gb301) (o:=.cells #[.int .i64 0,.int .i64 0] 31 (0,0)) (by (with_reducible repeat (first|apply bN|apply bD|apply bA));exact BK301.out) hb);have n13_:=am (below_step (by repeat (first|(with_reducible first|exact HB.out|apply lA|apply lN|apply lD|refine lS ?_ GE253.out|refine lS ?_ GE271.out|refine lS ?_ GE281.out|refine lS ?_ GE287.out|refine lS ?_ GE301.out)|exact HB.out)) hb);have n14_:=am (hbox);have n15_:=am ((by rw [hg];exact (below_size (by repeat (first|(with_reducible first|exact HB.out|apply lA|apply lN|apply lD|refine lS ?_ GE253.out|refine lS ?_ GE271.out|refine lS ?_ GE281.out|refine lS ?_ GE287.out|refine lS ?_ GE301.out)|exact HB.out))) : w.heap.size ≤ gb302));have n16_:=am ((by rw [hg];exact (below_size (by repeat (first|(with_reducible first|exact HB.out|apply lA|apply lN|apply lD|refine lS ?_ GE253.out|refine lS ?_ GE271.out|refine lS ?_ GE281.out|refine lS ?_ GE287.out|refine lS ?_ GE301.out)|exact HB.out))) : w.heap.size ≤ gb302));have n17_:=am ((by rw [hg];exact Nat.ne_of_lt (blk_lt (g:=gb253) (o:=.cells #[.string (⟨#[97]⟩ : ByteArray),.slice Ao40 y250.length co40] 25 (0,0)) (by (with_reducible repeat (first|apply bN|apply bD|apply bA));exact BK253.out)) : gb253 ≠ gb302));have n18_:=am ((by rw [hg];exact Nat.ne_of_gt (blk_lt (g:=gb253) (o:=.cells #[.string (⟨#[97]⟩ : ByteArray),.slice Ao40 y250.length co40] 25 (0,0)) (by (with_reducible repeat (first|apply bN|apply bD|apply bA));exact BK253.out)) : gb302 ≠ gb253));have n19_:=am ((by rw [hg];exact Nat.ne_of_lt (blk_lt (g:=gb271) (o:=.cells #[.string t266,.slice Ao53 t267.length co53] 25 (0,0)) (by (with_reducible repeat (first|apply bN|apply bD|apply bA));exact BK271.out)) : gb271 ≠ gb302));have n20_:=am ((by rw [hg];exact Nat.ne_of_gt (blk_lt (g:=gb271) (o:=.cells #[.string t266,.slice Ao53 t267.length co53] 25 (0,0)) (by (with_reducible repeat (first|apply bN|apply bD|apply bA));exact BK271.out)) : gb302 ≠ gb271));have n21_:=am ((by rw [hg];exact Nat.ne_of_lt (blk_lt (g:=gb281) (o:=.cells #[.string t276,.slice Ao61 t277.length co61] 25 (0,0)) (by (with_reducible repeat (first|apply bN|apply bD|apply bA));exact BK281.out)) : gb281 ≠ gb302));have n22_:=am ((by rw [hg];exact Nat.ne_of_gt (blk_lt (g:=gb281) (o:=.cells #[.string t276,.slice Ao61 t277.length co61] 25 (0,0)) (by (with_reducible repeat (first|apply bN|apply bD|apply bA));exact BK281.out)) : gb302 ≠ gb281));have n23_:=am ((by rw [hg];exact Nat.ne_of_lt (blk_lt (g:=gb287) (o:=.cells #[.string t282,.slice Ao69 t283.length co69] 25 (0,0)) (by (with_reducible repeat (first|apply bN|apply bD|apply bA));exact BK287.out)) : gb287 ≠ gb302));have n24_:=am ((by rw [hg];exact Nat.ne_of_gt (blk_lt (g:=gb287) (o:=.cells #[.string t282,.slice Ao69 t283.length co69] 25 (0,0)) (by (with_reducible repeat (first|apply bN|apply bD|apply bA));exact BK287.out)) : gb302 ≠ gb287));have n25_:=am ((by rw [hg];exact Nat.ne_of_lt (blk_lt (g:=gb301) (o:=.cells #[.int .i64 0,.int .i64 0] 31 (0,0)) (by (with_reducible repeat (first|apply bN|apply bD|apply bA));exact BK301.out)) : gb301 ≠ gb302));have n26_:=am ((by rw [hg];exact Nat.ne_of_gt (blk_lt (g:=gb301) (o:=.cells #[.int .i64 0,.int .i64 0] 31 (0,0)) (by (with_reducible repeat (first|apply bN|apply bD|apply bA));exact BK301.out)) : gb302 ≠ gb301));clear HO252;clear HO258;clear HO263;clear HO269;clear HO275;clear HO279;clear HO285;clear HO295;clear BK253;clear BK271;clear BK281;clear BK287;clear BK301;clear HB;have HO252:=n0_;have HO258:=n1_;have HO263:=n2_;have HO269:=n3_;have HO275:=n4_;have HO279:=n5_;have HO285:=n6_;have HO295:=n7_;have BK253:=n8_;have BK271:=n9_;have BK281:=n10_;have BK287:=n11_;have BK301:=n12_;have HB:=n13_;have BK302:=n14_;have GW302:=n15_;have GE302:=n16_;have NB253_302:=n17_;have NB302_253:=n18_;have NB271_302:=n19_;have NB302_271:=n20_;have NB281_302:=n21_;have NB302_281:=n22_;have NB287_302:=n23_;have NB302_287:=n24_;have NB301_302:=n25_;have NB302_301:=n26_;clear n0_ n1_ n2_ n3_ n4_ n5_ n6_ n7_ n8_ n9_ n10_ n11_ n12_ n13_ n14_ n15_ n16_ n17_ n18_ n19_ n20_ n21_ n22_ n23_ n24_ n25_ n26_;clear hb hbox hg;have hnb79:=NB301_253.out;have hnc79:=NB253_301.out;have hnb80:=NB301_271.out;have hnc80:=NB271_301.out;have hnb81:=NB301_281.out;have hnc81:=NB281_301.out;have hnb82:=NB301_287.out;have hnc82:=NB287_301.out;have hnb83:=NB301_302.out;have hnc83:=NB302_301.out;have hcz84_0 : w78.cell? ⟨gb301,0,none⟩ = some (.int .i64 0):=(blk_cell BK301.out 0).trans rfl;have hcz84_1 : w78.cell? ⟨gb301,1,none⟩ = some (.int .i64 0):=(blk_cell BK301.out 1).trans rfl;have hfz84_0:=blk_frozen BK301.out 0;have hfz84_1:=blk_frozen BK301.out 1;have hnb85:=NB302_253.out;have hnc85:=NB253_302.out;have hnb86:=NB302_271.out;have hnc86:=NB271_302.out;have hnb87:=NB302_281.out;have hnc87:=NB281_302.out;have hnb88:=NB302_287.out;have hnc88:=NB287_302.out;have hcz89_0 : w78.cell? ⟨gb302,0,none⟩ = some (.int .i64 0):=(blk_cell BK302.out 0).trans rfl;have hcz89_1 : w78.cell? ⟨gb302,1,none⟩ = some (.int .i64 0):=(blk_cell BK302.out 1).trans rfl;have hfz89_0:=blk_frozen BK302.out 0;have hfz89_1:=blk_frozen BK302.out 1))
                      have n0_ : Aside0 (Kd.R k31 31 ((((w78.setCell ⟨gb301,0,none⟩ (.int .i64 t296)).setCell ⟨gb301,1,none⟩ (.int .i64 t297)).setCell ⟨gb302,0,none⟩ (.int .i64 t298)).setCell ⟨gb302,1,none⟩ (.int .i64 t299)) w.heap.size (fun k_=>some k_ ≠ (.slice Ao47 t261.length co47 : Value).ownBlock ∧ some k_ ≠ (.slice Ao53 t267.length co53 : Value).ownBlock ∧ some k_ ≠ (.slice Ao55 t273.length co55 : Value).ownBlock ∧ some k_ ≠ (.slice Ao61 t277.length co61 : Value).ownBlock ∧ some k_ ≠ (.slice Ao69 t283.length co69 : Value).ownBlock ∧ some k_ ≠ (.slice Ao75 t293.length co75 : Value).ownBlock ∧ k_ ≠ gb301 ∧ k_ ≠ gb302) (.slice Ao40 y250.length co40) y250):=⟨by (with_reducible repeat (first|apply rA|apply rN|apply rD));exact Kd.R_mono (Kd.R_far (p:=⟨gb302,1,none⟩) (Kd.R_far (p:=⟨gb302,0,none⟩) (Kd.R_far (p:=⟨gb301,1,none⟩) (Kd.R_far (p:=⟨gb301,0,none⟩) (Kd.R_mono (Kd.R_mono HO252.out (fun k_ hk=>(⟨hk,hk.1.2⟩ : _ ∧ k_ ≠ gb301))) (fun k_ hk=>(⟨hk,hk.1.2⟩ : _ ∧ k_ ≠ gb302))) (fun _ hk=>hk.1.2) (.int .i64 t296)) (fun _ hk=>hk.1.2) (.int .i64 t297)) (fun _ hk=>hk.2) (.int .i64 t298)) (fun _ hk=>hk.2) (.int .i64 t299)) (fun _ hk=>⟨hk.1.1.1.1.1.1.1.1.1.2,⟨hk.1.1.1.1.1.1.1.1.2,⟨hk.1.1.1.1.1.1.1.2,⟨hk.1.1.1.1.1.1.2,⟨hk.1.1.1.1.1.2,⟨hk.1.1.1.1.2,⟨hk.1.1.1.2,hk.1.1.2⟩⟩⟩⟩⟩⟩⟩)⟩
                      have n1_ : Aside0 (Kd.R (Kd.int .i64) 3 ((((w78.setCell ⟨gb301,0,none⟩ (.int .i64 t296)).setCell ⟨gb301,1,none⟩ (.int .i64 t297)).setCell ⟨gb302,0,none⟩ (.int .i64 t298)).setCell ⟨gb302,1,none⟩ (.int .i64 t299)) w.heap.size (fun _=>True) v257 t256):=⟨by (with_reducible repeat (first|apply rA|apply rN|apply rD));exact Kd.R_mono (Kd.R_far (p:=⟨gb302,1,none⟩) (Kd.R_far (p:=⟨gb302,0,none⟩) (Kd.R_far (p:=⟨gb301,1,none⟩) (Kd.R_far (p:=⟨gb301,0,none⟩) (Kd.R_types (Kd.R_types HO258.out BK301.out (by decide)) BK302.out (by decide)) (fun _ hk=>hk.1.2) (.int .i64 t296)) (fun _ hk=>hk.1.2) (.int .i64 t297)) (fun _ hk=>hk.2) (.int .i64 t298)) (fun _ hk=>hk.2) (.int .i64 t299)) (fun _ hk=>trivial)⟩
                      have n2_ : Aside0 (Kd.R k31 31 ((((w78.setCell ⟨gb301,0,none⟩ (.int .i64 t296)).setCell ⟨gb301,1,none⟩ (.int .i64 t297)).setCell ⟨gb302,0,none⟩ (.int .i64 t298)).setCell ⟨gb302,1,none⟩ (.int .i64 t299)) w.heap.size (fun k_=>some k_ ≠ (.slice Ao40 y250.length co40 : Value).ownBlock ∧ some k_ ≠ (.slice Ao53 t267.length co53 : Value).ownBlock ∧ some k_ ≠ (.slice Ao55 t273.length co55 : Value).ownBlock ∧ some k_ ≠ (.slice Ao61 t277.length co61 : Value).ownBlock ∧ some k_ ≠ (.slice Ao69 t283.length co69 : Value).ownBlock ∧ some k_ ≠ (.slice Ao75 t293.length co75 : Value).ownBlock ∧ k_ ≠ gb301 ∧ k_ ≠ gb302) (.slice Ao47 t261.length co47) t261):=⟨by (with_reducible repeat (first|apply rA|apply rN|apply rD));exact Kd.R_mono (Kd.R_far (p:=⟨gb302,1,none⟩) (Kd.R_far (p:=⟨gb302,0,none⟩) (Kd.R_far (p:=⟨gb301,1,none⟩) (Kd.R_far (p:=⟨gb301,0,none⟩) (Kd.R_mono (Kd.R_mono HO263.out (fun k_ hk=>(⟨hk,hk.1.2⟩ : _ ∧ k_ ≠ gb301))) (fun k_ hk=>(⟨hk,hk.1.2⟩ : _ ∧ k_ ≠ gb302))) (fun _ hk=>hk.1.2) (.int .i64 t296)) (fun _ hk=>hk.1.2) (.int .i64 t297)) (fun _ hk=>hk.2) (.int .i64 t298)) (fun _ hk=>hk.2) (.int .i64 t299)) (fun _ hk=>⟨hk.1.1.1.1.1.1.1.1.1.2,⟨hk.1.1.1.1.1.1.1.1.2,⟨hk.1.1.1.1.1.1.1.2,⟨hk.1.1.1.1.1.1.2,⟨hk.1.1.1.1.1.2,⟨hk.1.1.1.1.2,⟨hk.1.1.1.2,hk.1.1.2⟩⟩⟩⟩⟩⟩⟩)⟩
                      have n3_ : Aside0 (Kd.R k31 31 ((((w78.setCell ⟨gb301,0,none⟩ (.int .i64 t296)).setCell ⟨gb301,1,none⟩ (.int .i64 t297)).setCell ⟨gb302,0,none⟩ (.int .i64 t298)).setCell ⟨gb302,1,none⟩ (.int .i64 t299)) w.heap.size (fun k_=>some k_ ≠ (.slice Ao40 y250.length co40 : Value).ownBlock ∧ some k_ ≠ (.slice Ao47 t261.length co47 : Value).ownBlock ∧ some k_ ≠ (.slice Ao55 t273.length co55 : Value).ownBlock ∧ some k_ ≠ (.slice Ao61 t277.length co61 : Value).ownBlock ∧ some k_ ≠ (.slice Ao69 t283.length co69 : Value).ownBlock ∧ some k_ ≠ (.slice Ao75 t293.length co75 : Value).ownBlock ∧ k_ ≠ gb301 ∧ k_ ≠ gb302) (.slice Ao53 t267.length co53) t267):=⟨by (with_reducible repeat (first|apply rA|apply rN|apply rD));exact Kd.R_mono (Kd.R_far (p:=⟨gb302,1,none⟩) (Kd.R_far (p:=⟨gb302,0,none⟩) (Kd.R_far (p:=⟨gb301,1,none⟩) (Kd.R_far (p:=⟨gb301,0,none⟩) (Kd.R_mono (Kd.R_mono HO269.out (fun k_ hk=>(⟨hk,hk.1.2⟩ : _ ∧ k_ ≠ gb301))) (fun k_ hk=>(⟨hk,hk.1.2⟩ : _ ∧ k_ ≠ gb302))) (fun _ hk=>hk.1.2) (.int .i64 t296)) (fun _ hk=>hk.1.2) (.int .i64 t297)) (fun _ hk=>hk.2) (.int .i64 t298)) (fun _ hk=>hk.2) (.int .i64 t299)) (fun _ hk=>⟨hk.1.1.1.1.1.1.1.1.1.2,⟨hk.1.1.1.1.1.1.1.1.2,⟨hk.1.1.1.1.1.1.1.2,⟨hk.1.1.1.1.1.1.2,⟨hk.1.1.1.1.1.2,⟨hk.1.1.1.1.2,⟨hk.1.1.1.2,hk.1.1.2⟩⟩⟩⟩⟩⟩⟩)⟩
                      have n4_ : Aside0 (Kd.R k31 31 ((((w78.setCell ⟨gb301,0,none⟩ (.int .i64 t296)).setCell ⟨gb301,1,none⟩ (.int .i64 t297)).setCell ⟨gb302,0,none⟩ (.int .i64 t298)).setCell ⟨gb302,1,none⟩ (.int .i64 t299)) w.heap.size (fun k_=>some k_ ≠ (.slice Ao40 y250.length co40 : Value).ownBlock ∧ some k_ ≠ (.slice Ao47 t261.length co47 : Value).ownBlock ∧ some k_ ≠ (.slice Ao53 t267.length co53 : Value).ownBlock ∧ some k_ ≠ (.slice Ao61 t277.length co61 : Value).ownBlock ∧ some k_ ≠ (.slice Ao69 t283.length co69 : Value).ownBlock ∧ some k_ ≠ (.slice Ao75 t293.length co75 : Value).ownBlock ∧ k_ ≠ gb301 ∧ k_ ≠ gb302) (.slice Ao55 t273.length co55) t273):=⟨by (with_reducible repeat (first|apply rA|apply rN|apply rD));exact Kd.R_mono (Kd.R_far (p:=⟨gb302,1,none⟩) (Kd.R_far (p:=⟨gb302,0,none⟩) (Kd.R_far (p:=⟨gb301,1,none⟩) (Kd.R_far (p:=⟨gb301,0,none⟩) (Kd.R_mono (Kd.R_mono HO275.out (fun k_ hk=>(⟨hk,hk.1.2⟩ : _ ∧ k_ ≠ gb301))) (fun k_ hk=>(⟨hk,hk.1.2⟩ : _ ∧ k_ ≠ gb302))) (fun _ hk=>hk.1.2) (.int .i64 t296)) (fun _ hk=>hk.1.2) (.int .i64 t297)) (fun _ hk=>hk.2) (.int .i64 t298)) (fun _ hk=>hk.2) (.int .i64 t299)) (fun _ hk=>⟨hk.1.1.1.1.1.1.1.1.1.2,⟨hk.1.1.1.1.1.1.1.1.2,⟨hk.1.1.1.1.1.1.1.2,⟨hk.1.1.1.1.1.1.2,⟨hk.1.1.1.1.1.2,⟨hk.1.1.1.1.2,⟨hk.1.1.1.2,hk.1.1.2⟩⟩⟩⟩⟩⟩⟩)⟩
                      have n5_ : Aside0 (Kd.R k31 31 ((((w78.setCell ⟨gb301,0,none⟩ (.int .i64 t296)).setCell ⟨gb301,1,none⟩ (.int .i64 t297)).setCell ⟨gb302,0,none⟩ (.int .i64 t298)).setCell ⟨gb302,1,none⟩ (.int .i64 t299)) w.heap.size (fun k_=>some k_ ≠ (.slice Ao40 y250.length co40 : Value).ownBlock ∧ some k_ ≠ (.slice Ao47 t261.length co47 : Value).ownBlock ∧ some k_ ≠ (.slice Ao53 t267.length co53 : Value).ownBlock ∧ some k_ ≠ (.slice Ao55 t273.length co55 : Value).ownBlock ∧ some k_ ≠ (.slice Ao69 t283.length co69 : Value).ownBlock ∧ some k_ ≠ (.slice Ao75 t293.length co75 : Value).ownBlock ∧ k_ ≠ gb301 ∧ k_ ≠ gb302) (.slice Ao61 t277.length co61) t277):=⟨by (with_reducible repeat (first|apply rA|apply rN|apply rD));exact Kd.R_mono (Kd.R_far (p:=⟨gb302,1,none⟩) (Kd.R_far (p:=⟨gb302,0,none⟩) (Kd.R_far (p:=⟨gb301,1,none⟩) (Kd.R_far (p:=⟨gb301,0,none⟩) (Kd.R_mono (Kd.R_mono HO279.out (fun k_ hk=>(⟨hk,hk.1.2⟩ : _ ∧ k_ ≠ gb301))) (fun k_ hk=>(⟨hk,hk.1.2⟩ : _ ∧ k_ ≠ gb302))) (fun _ hk=>hk.1.2) (.int .i64 t296)) (fun _ hk=>hk.1.2) (.int .i64 t297)) (fun _ hk=>hk.2) (.int .i64 t298)) (fun _ hk=>hk.2) (.int .i64 t299)) (fun _ hk=>⟨hk.1.1.1.1.1.1.1.1.1.2,⟨hk.1.1.1.1.1.1.1.1.2,⟨hk.1.1.1.1.1.1.1.2,⟨hk.1.1.1.1.1.1.2,⟨hk.1.1.1.1.1.2,⟨hk.1.1.1.1.2,⟨hk.1.1.1.2,hk.1.1.2⟩⟩⟩⟩⟩⟩⟩)⟩
                      have n6_ : Aside0 (Kd.R k31 31 ((((w78.setCell ⟨gb301,0,none⟩ (.int .i64 t296)).setCell ⟨gb301,1,none⟩ (.int .i64 t297)).setCell ⟨gb302,0,none⟩ (.int .i64 t298)).setCell ⟨gb302,1,none⟩ (.int .i64 t299)) w.heap.size (fun k_=>some k_ ≠ (.slice Ao40 y250.length co40 : Value).ownBlock ∧ some k_ ≠ (.slice Ao47 t261.length co47 : Value).ownBlock ∧ some k_ ≠ (.slice Ao53 t267.length co53 : Value).ownBlock ∧ some k_ ≠ (.slice Ao55 t273.length co55 : Value).ownBlock ∧ some k_ ≠ (.slice Ao61 t277.length co61 : Value).ownBlock ∧ some k_ ≠ (.slice Ao75 t293.length co75 : Value).ownBlock ∧ k_ ≠ gb301 ∧ k_ ≠ gb302) (.slice Ao69 t283.length co69) t283):=⟨by (with_reducible repeat (first|apply rA|apply rN|apply rD));exact Kd.R_mono (Kd.R_far (p:=⟨gb302,1,none⟩) (Kd.R_far (p:=⟨gb302,0,none⟩) (Kd.R_far (p:=⟨gb301,1,none⟩) (Kd.R_far (p:=⟨gb301,0,none⟩) (Kd.R_mono (Kd.R_mono HO285.out (fun k_ hk=>(⟨hk,hk.1.2⟩ : _ ∧ k_ ≠ gb301))) (fun k_ hk=>(⟨hk,hk.1.2⟩ : _ ∧ k_ ≠ gb302))) (fun _ hk=>hk.1.2) (.int .i64 t296)) (fun _ hk=>hk.1.2) (.int .i64 t297)) (fun _ hk=>hk.2) (.int .i64 t298)) (fun _ hk=>hk.2) (.int .i64 t299)) (fun _ hk=>⟨hk.1.1.1.1.1.1.1.1.1.2,⟨hk.1.1.1.1.1.1.1.1.2,⟨hk.1.1.1.1.1.1.1.2,⟨hk.1.1.1.1.1.1.2,⟨hk.1.1.1.1.1.2,⟨hk.1.1.1.1.2,⟨hk.1.1.1.2,hk.1.1.2⟩⟩⟩⟩⟩⟩⟩)⟩
                      have n7_ : Aside0 (Kd.R k31 31 ((((w78.setCell ⟨gb301,0,none⟩ (.int .i64 t296)).setCell ⟨gb301,1,none⟩ (.int .i64 t297)).setCell ⟨gb302,0,none⟩ (.int .i64 t298)).setCell ⟨gb302,1,none⟩ (.int .i64 t299)) w.heap.size (fun k_=>some k_ ≠ (.slice Ao40 y250.length co40 : Value).ownBlock ∧ some k_ ≠ (.slice Ao47 t261.length co47 : Value).ownBlock ∧ some k_ ≠ (.slice Ao53 t267.length co53 : Value).ownBlock ∧ some k_ ≠ (.slice Ao55 t273.length co55 : Value).ownBlock ∧ some k_ ≠ (.slice Ao61 t277.length co61 : Value).ownBlock ∧ some k_ ≠ (.slice Ao69 t283.length co69 : Value).ownBlock ∧ k_ ≠ gb301 ∧ k_ ≠ gb302) (.slice Ao75 t293.length co75) t293):=⟨by (with_reducible repeat (first|apply rA|apply rN|apply rD));exact Kd.R_mono (Kd.R_far (p:=⟨gb302,1,none⟩) (Kd.R_far (p:=⟨gb302,0,none⟩) (Kd.R_far (p:=⟨gb301,1,none⟩) (Kd.R_far (p:=⟨gb301,0,none⟩) (Kd.R_mono (Kd.R_mono HO295.out (fun k_ hk=>(⟨hk,hk.1.2⟩ : _ ∧ k_ ≠ gb301))) (fun k_ hk=>(⟨hk,hk.1.2⟩ : _ ∧ k_ ≠ gb302))) (fun _ hk=>hk.1.2) (.int .i64 t296)) (fun _ hk=>hk.1.2) (.int .i64 t297)) (fun _ hk=>hk.2) (.int .i64 t298)) (fun _ hk=>hk.2) (.int .i64 t299)) (fun _ hk=>⟨hk.1.1.1.1.1.1.1.1.1.2,⟨hk.1.1.1.1.1.1.1.1.2,⟨hk.1.1.1.1.1.1.1.2,⟨hk.1.1.1.1.1.1.2,⟨hk.1.1.1.1.1.2,⟨hk.1.1.1.1.2,⟨hk.1.1.1.2,hk.1.1.2⟩⟩⟩⟩⟩⟩⟩)⟩
                      have n8_ : Aside0 (((((w78.setCell ⟨gb301,0,none⟩ (.int .i64 t296)).setCell ⟨gb301,1,none⟩ (.int .i64 t297)).setCell ⟨gb302,0,none⟩ (.int .i64 t298)).setCell ⟨gb302,1,none⟩ (.int .i64 t299)).heap[gb253]? = some (.cells #[.string (⟨#[97]⟩ : ByteArray),.slice Ao40 y250.length co40] 25 (0,0))):=⟨by (with_reducible repeat (first|apply bN|apply bD|apply bA));refine blk_far ?_ NB253_302.out _;(with_reducible repeat (first|apply bN|apply bD|apply bA));refine blk_far ?_ NB253_302.out _;(with_reducible repeat (first|apply bN|apply bD|apply bA));refine blk_far ?_ NB253_301.out _;(with_reducible repeat (first|apply bN|apply bD|apply bA));refine blk_far ?_ NB253_301.out _;(with_reducible repeat (first|apply bN|apply bD|apply bA));exact BK253.out⟩
                      have n9_ : Aside0 (((((w78.setCell ⟨gb301,0,none⟩ (.int .i64 t296)).setCell ⟨gb301,1,none⟩ (.int .i64 t297)).setCell ⟨gb302,0,none⟩ (.int .i64 t298)).setCell ⟨gb302,1,none⟩ (.int .i64 t299)).heap[gb271]? = some (.cells #[.string t266,.slice Ao53 t267.length co53] 25 (0,0))):=⟨by (with_reducible repeat (first|apply bN|apply bD|apply bA));refine blk_far ?_ NB271_302.out _;(with_reducible repeat (first|apply bN|apply bD|apply bA));refine blk_far ?_ NB271_302.out _;(with_reducible repeat (first|apply bN|apply bD|apply bA));refine blk_far ?_ NB271_301.out _;(with_reducible repeat (first|apply bN|apply bD|apply bA));refine blk_far ?_ NB271_301.out _;(with_reducible repeat (first|apply bN|apply bD|apply bA));exact BK271.out⟩
                      have n10_ : Aside0 (((((w78.setCell ⟨gb301,0,none⟩ (.int .i64 t296)).setCell ⟨gb301,1,none⟩ (.int .i64 t297)).setCell ⟨gb302,0,none⟩ (.int .i64 t298)).setCell ⟨gb302,1,none⟩ (.int .i64 t299)).heap[gb281]? = some (.cells #[.string t276,.slice Ao61 t277.length co61] 25 (0,0))):=⟨by (with_reducible repeat (first|apply bN|apply bD|apply bA));refine blk_far ?_ NB281_302.out _;(with_reducible repeat (first|apply bN|apply bD|apply bA));refine blk_far ?_ NB281_302.out _;(with_reducible repeat (first|apply bN|apply bD|apply bA));refine blk_far ?_ NB281_301.out _;(with_reducible repeat (first|apply bN|apply bD|apply bA));refine blk_far ?_ NB281_301.out _;(with_reducible repeat (first|apply bN|apply bD|apply bA));exact BK281.out⟩
                      have n11_ : Aside0 (((((w78.setCell ⟨gb301,0,none⟩ (.int .i64 t296)).setCell ⟨gb301,1,none⟩ (.int .i64 t297)).setCell ⟨gb302,0,none⟩ (.int .i64 t298)).setCell ⟨gb302,1,none⟩ (.int .i64 t299)).heap[gb287]? = some (.cells #[.string t282,.slice Ao69 t283.length co69] 25 (0,0))):=⟨by (with_reducible repeat (first|apply bN|apply bD|apply bA));refine blk_far ?_ NB287_302.out _;(with_reducible repeat (first|apply bN|apply bD|apply bA));refine blk_far ?_ NB287_302.out _;(with_reducible repeat (first|apply bN|apply bD|apply bA));refine blk_far ?_ NB287_301.out _;(with_reducible repeat (first|apply bN|apply bD|apply bA));refine blk_far ?_ NB287_301.out _;(with_reducible repeat (first|apply bN|apply bD|apply bA));exact BK287.out⟩
                      have n12_ : Aside0 (((((w78.setCell ⟨gb301,0,none⟩ (.int .i64 t296)).setCell ⟨gb301,1,none⟩ (.int .i64 t297)).setCell ⟨gb302,0,none⟩ (.int .i64 t298)).setCell ⟨gb302,1,none⟩ (.int .i64 t299)).heap[gb301]? = some (.cells #[.int .i64 t296,.int .i64 t297] 31 (0,0))):=⟨by (with_reducible repeat (first|apply bN|apply bD|apply bA));refine blk_far ?_ NB301_302.out _;(with_reducible repeat (first|apply bN|apply bD|apply bA));refine blk_far ?_ NB301_302.out _;(with_reducible repeat (first|apply bN|apply bD|apply bA));refine blk_put (cs:=#[.int .i64 t296,.int .i64 0]) ?_ 1 _ rfl;(with_reducible repeat (first|apply bN|apply bD|apply bA));refine blk_put (cs:=#[.int .i64 0,.int .i64 0]) ?_ 0 _ rfl;(with_reducible repeat (first|apply bN|apply bD|apply bA));exact BK301.out⟩
                      have n13_ : Aside0 (((((w78.setCell ⟨gb301,0,none⟩ (.int .i64 t296)).setCell ⟨gb301,1,none⟩ (.int .i64 t297)).setCell ⟨gb302,0,none⟩ (.int .i64 t298)).setCell ⟨gb302,1,none⟩ (.int .i64 t299)).heap[gb302]? = some (.cells #[.int .i64 t298,.int .i64 t299] 31 (0,0))):=⟨by (with_reducible repeat (first|apply bN|apply bD|apply bA));refine blk_put (cs:=#[.int .i64 t298,.int .i64 0]) ?_ 1 _ rfl;(with_reducible repeat (first|apply bN|apply bD|apply bA));refine blk_put (cs:=#[.int .i64 0,.int .i64 0]) ?_ 0 _ rfl;(with_reducible repeat (first|apply bN|apply bD|apply bA));refine blk_far ?_ NB302_301.out _;(with_reducible repeat (first|apply bN|apply bD|apply bA));refine blk_far ?_ NB302_301.out _;(with_reducible repeat (first|apply bN|apply bD|apply bA));exact BK302.out⟩
                      have n14_ : Aside0 (Below w.heap.size w ((((w78.setCell ⟨gb301,0,none⟩ (.int .i64 t296)).setCell ⟨gb301,1,none⟩ (.int .i64 t297)).setCell ⟨gb302,0,none⟩ (.int .i64 t298)).setCell ⟨gb302,1,none⟩ (.int .i64 t299))):=⟨by repeat (first|(with_reducible first|exact HB.out|apply lA|apply lN|apply lD|refine lS ?_ GE253.out|refine lS ?_ GE271.out|refine lS ?_ GE281.out|refine lS ?_ GE287.out|refine lS ?_ GE301.out|refine lS ?_ GE302.out)|exact HB.out)⟩
                      (try clear HO252)
                      (try clear HO258)
                      (try clear HO263)
                      (try clear HO269)
                      (try clear HO275)
                      (try clear HO279)
                      (try clear HO285)
                      (try clear HO295)
                      (try clear BK253)
                      (try clear BK271)
                      (try clear BK281)
                      (try clear BK287)
                      (try clear BK301)
                      (try clear BK302)
                      (try clear HB)
                      generalize ((((w78.setCell ⟨gb301,0,none⟩ (.int .i64 t296)).setCell ⟨gb301,1,none⟩ (.int .i64 t297)).setCell ⟨gb302,0,none⟩ (.int .i64 t298)).setCell ⟨gb302,1,none⟩ (.int .i64 t299)) = w90 at n0_ n1_ n2_ n3_ n4_ n5_ n6_ n7_ n8_ n9_ n10_ n11_ n12_ n13_ n14_ ⊢
                      have HO252:=n0_
                      have HO258:=n1_
                      have HO263:=n2_
                      have HO269:=n3_
                      have HO275:=n4_
                      have HO279:=n5_
                      have HO285:=n6_
                      have HO295:=n7_
                      have BK253:=n8_
                      have BK271:=n9_
                      have BK281:=n10_
                      have BK287:=n11_
                      have BK301:=n12_
                      have BK302:=n13_
                      have HB:=n14_
                      clear n0_ n1_ n2_ n3_ n4_ n5_ n6_ n7_ n8_ n9_ n10_ n11_ n12_ n13_ n14_
                      have n0_:=am (Kd.R_drew HO252.out)
                      have n1_:=am (Kd.R_drew HO258.out)
                      have n2_:=am (Kd.R_drew HO263.out)
                      have n3_:=am (Kd.R_drew HO269.out)
                      have n4_:=am (Kd.R_drew HO275.out)
                      have n5_:=am (Kd.R_drew HO279.out)
                      have n6_:=am (Kd.R_drew HO285.out)
                      have n7_:=am (Kd.R_drew HO295.out)
                      have n8_:=am (blk_drew BK253.out)
                      have n9_:=am (blk_drew BK271.out)
                      have n10_:=am (blk_drew BK281.out)
                      have n11_:=am (blk_drew BK287.out)
                      have n12_:=am (blk_drew BK301.out)
                      have n13_:=am (blk_drew BK302.out)
                      have n14_:=am (below_drew1 HB.out)
                      clear HO252
                      clear HO258
                      clear HO263
                      clear HO269
                      clear HO275
                      clear HO279
                      clear HO285
                      clear HO295
                      clear BK253
                      clear BK271
                      clear BK281
                      clear BK287
                      clear BK301
                      clear BK302
                      clear HB
                      have HO252:=n0_
                      have HO258:=n1_
                      have HO263:=n2_
                      have HO269:=n3_
                      have HO275:=n4_
                      have HO279:=n5_
                      have HO285:=n6_
                      have HO295:=n7_
                      have BK253:=n8_
                      have BK271:=n9_
                      have BK281:=n10_
                      have BK287:=n11_
                      have BK301:=n12_
                      have BK302:=n13_
                      have HB:=n14_
                      clear n0_ n1_ n2_ n3_ n4_ n5_ n6_ n7_ n8_ n9_ n10_ n11_ n12_ n13_ n14_
                      obtain ⟨Ao92,co92,eo92⟩ := Kd.R_slice HO258.out
                      (first|subst eo92|(injection eo92 with f1_ f2_ f3_;have f4_:=f1_.symm;have f5_:=f3_.symm;clear f1_ f2_ f3_;subst f4_;subst f5_))
                      have p303 : 0 ≤ (4 : Int):=(by omega)
                      have q303 : 4 < (t267.length : Int):=of_decide_eq_true (by first|(with_reducible assumption)|assumption)
                      obtain ⟨ad303,e303,hx303_0,hx303_1⟩ := at_T31 (Kd.R_reads' HO269.out).2.2 4 p303 q303
                      cases e303
                      (try simp only [show (4 : Int).toNat = 4 from rfl,Nat.reduceMul,Nat.reduceEqDiff,Go.Addr.add,↓reduceIte] at hx303_0)
                      (try simp only [show (4 : Int).toNat = 4 from rfl,Nat.reduceMul,Nat.reduceEqDiff,Go.Addr.add,↓reduceIte] at hx303_1)
                      have qi303 : (4 < t267.length) = True:=eq_true (by omega)
                      (try rw [show ((4 : Int)).toNat = 4 from rfl] at hx303_0)
                      (try rw [show 4 * 2 = 8 from rfl] at hx303_0)
                      (try rw [show ((4 : Int)).toNat = 4 from rfl] at hx303_1)
                      (try rw [show 4 * 2 = 8 from rfl] at hx303_1)
                      replace p303:=eq_true p303
                      replace q303:=eq_true q303
                      refine start_ (n:=98) (S:=fun w'=>w'.cell? ⟨gb271,0,none⟩ = some (.string t266) ∧ w'.cell? ⟨gb271,1,none⟩ = some (.slice (some ad303) t267.length co53) ∧ w'.cell? ⟨gb281,0,none⟩ = some (.string t276) ∧ w'.cell? ⟨gb281,1,none⟩ = some (.slice Ao61 t277.length co61) ∧ w'.cell? ⟨gb287,0,none⟩ = some (.string t282) ∧ w'.cell? ⟨gb287,1,none⟩ = some (.slice Ao69 t283.length co69) ∧ w'.cell? ⟨gb253,0,none⟩ = some (.string (⟨#[97]⟩ : ByteArray)) ∧ w'.cell? ⟨gb253,1,none⟩ = some (.slice Ao40 y250.length co40) ∧ w'.cell? ⟨gb301,0,none⟩ = some (.int .i64 t296) ∧ w'.cell? ⟨gb301,1,none⟩ = some (.int .i64 t297) ∧ w'.cell? ⟨gb302,0,none⟩ = some (.int .i64 t298) ∧ w'.cell? ⟨gb302,1,none⟩ = some (.int .i64 t299) ∧ w'.cell? ⟨ad303.block,ad303.off + 8,none⟩ = some (.int .i64 ((rd_T31 t267 4).f0)) ∧ w'.cell? ⟨ad303.block,ad303.off + 8 + 1,none⟩ = some (.int .i64 ((rd_T31 t267 4).f1))) (ds:=[]) #[f_,f_,f_,f_,f_,f_,f_,f_,f_,f_,f_,f_,f_,f_,f_,f_,f_,f_,f_,f_,f_,f_,f_,f_,f_,f_,f_,f_,f_,f_,f_,f_,f_,f_,f_,f_,f_,f_,f_,f_,f_,f_,f_,f_,f_,f_,f_,f_,f_,f_,f_,f_,f_,f_,f_,f_,f_,f_,f_,f_,f_,f_,f_,f_,f_,f_,f_,f_,f_,f_,f_,f_,f_,f_,f_,f_,f_,f_,f_,f_,f_,f_,f_,f_,f_,f_,f_,f_,f_,f_,f_,f_,f_,f_,f_,f_,f_,f_] (by kernel_rfl) rfl rfl ⟨(blk_cell BK271.out 0).trans rfl,(blk_cell BK271.out 1).trans rfl,(blk_cell BK281.out 0).trans rfl,(blk_cell BK281.out 1).trans rfl,(blk_cell BK287.out 0).trans rfl,(blk_cell BK287.out 1).trans rfl,(blk_cell BK253.out 0).trans rfl,(blk_cell BK253.out 1).trans rfl,(blk_cell BK301.out 0).trans rfl,(blk_cell BK301.out 1).trans rfl,(blk_cell BK302.out 0).trans rfl,(blk_cell BK302.out 1).trans rfl,hx303_0,hx303_1⟩ (fun hHeld=>?_);refine with_tabW gangsawlaw39_awake.tab11 gangsawlaw39_awake.bits11 (fun HT_ HW_=>?_)
                      generalize w90.drew = w91 at HO252 HO258 HO263 HO269 HO275 HO279 HO285 HO295 BK253 BK271 BK281 BK287 BK301 BK302 HB hx303_0 hx303_1 hHeld ⊢
                      refine pure_ (i:=0) (N:=some 73) (v:=?_) (a':=?_) #[t_,f_,f_,f_,f_,f_,f_,f_,f_,f_,f_,f_,f_,f_,f_,f_,f_,f_,f_,f_,f_,f_,f_,f_,f_,f_,f_,f_,f_,f_,f_,f_,f_,f_,f_,f_,f_,f_,f_,f_,f_,f_,f_,f_,f_,f_,f_,f_,f_,f_,f_,f_,f_,f_,f_,f_,f_,f_,f_,f_,f_,f_,f_,f_,f_,f_,f_,f_,f_,f_,f_,f_,f_,f_,f_,f_,f_,f_,f_,f_,f_,f_,f_,f_,f_,f_,f_,f_,f_,f_,f_,f_,f_,f_,f_,f_,f_,f_] rfl rfl (any_of HT_.out (by kernel_rfl)) (fun _ _ _ h=>h) (Or.inl ⟨by rfl, ?_⟩) ?_ ?_
                      rotate_left
                      ·intro w'
                       go_simp
                       with_reducible rfl
                      rotate_left
                      ·simp only [Act.put,sA,s0,sS,i64_w,i32_w]
                       rfl
                      refine pure_ (i:=1) (N:=some 74) (v:=?_) (a':=?_) #[t_,t_,f_,f_,f_,f_,f_,f_,f_,f_,f_,f_,f_,f_,f_,f_,f_,f_,f_,f_,f_,f_,f_,f_,f_,f_,f_,f_,f_,f_,f_,f_,f_,f_,f_,f_,f_,f_,f_,f_,f_,f_,f_,f_,f_,f_,f_,f_,f_,f_,f_,f_,f_,f_,f_,f_,f_,f_,f_,f_,f_,f_,f_,f_,f_,f_,f_,f_,f_,f_,f_,f_,f_,f_,f_,f_,f_,f_,f_,f_,f_,f_,f_,f_,f_,f_,f_,f_,f_,f_,f_,f_,f_,f_,f_,f_,f_,f_] rfl rfl (any_of HT_.out (by kernel_rfl)) (fun _ _ _ h=>h) (Or.inl ⟨by rfl, ?_⟩) ?_ ?_
                      rotate_left
                      ·intro w'
                       go_simp
                       with_reducible rfl
                      rotate_left
                      ·simp only [Act.put,sA,s0,sS,i64_w,i32_w]
                       rfl
                      refine pure_ (i:=2) (N:=some 75) (v:=?_) (a':=?_) #[t_,t_,t_,f_,f_,f_,f_,f_,f_,f_,f_,f_,f_,f_,f_,f_,f_,f_,f_,f_,f_,f_,f_,f_,f_,f_,f_,f_,f_,f_,f_,f_,f_,f_,f_,f_,f_,f_,f_,f_,f_,f_,f_,f_,f_,f_,f_,f_,f_,f_,f_,f_,f_,f_,f_,f_,f_,f_,f_,f_,f_,f_,f_,f_,f_,f_,f_,f_,f_,f_,f_,f_,f_,f_,f_,f_,f_,f_,f_,f_,f_,f_,f_,f_,f_,f_,f_,f_,f_,f_,f_,f_,f_,f_,f_,f_,f_,f_] rfl rfl (any_of HT_.out (by kernel_rfl)) (fun _ _ _ h=>h) (Or.inl ⟨by rfl, ?_⟩) ?_ ?_
                      rotate_left
                      ·intro w'
                       go_simp
                       with_reducible rfl
                      rotate_left
                      ·simp only [Act.put,sA,s0,sS,i64_w,i32_w]
                       rfl
                      refine pure_ (i:=3) (N:=some 76) (v:=?_) (a':=?_) #[t_,t_,t_,t_,f_,f_,f_,f_,f_,f_,f_,f_,f_,f_,f_,f_,f_,f_,f_,f_,f_,f_,f_,f_,f_,f_,f_,f_,f_,f_,f_,f_,f_,f_,f_,f_,f_,f_,f_,f_,f_,f_,f_,f_,f_,f_,f_,f_,f_,f_,f_,f_,f_,f_,f_,f_,f_,f_,f_,f_,f_,f_,f_,f_,f_,f_,f_,f_,f_,f_,f_,f_,f_,f_,f_,f_,f_,f_,f_,f_,f_,f_,f_,f_,f_,f_,f_,f_,f_,f_,f_,f_,f_,f_,f_,f_,f_,f_] rfl rfl (any_of HT_.out (by kernel_rfl)) (fun _ _ _ h=>h) (Or.inl ⟨by rfl, ?_⟩) ?_ ?_
                      rotate_left
                      ·intro w'
                       go_simp
                       with_reducible rfl
                      rotate_left
                      ·simp only [Act.put,sA,s0,sS,i64_w,i32_w]
                       rfl
                      refine pure_ (i:=4) (N:=some 77) (v:=?_) (a':=?_) #[t_,t_,t_,t_,t_,f_,f_,f_,f_,f_,f_,f_,f_,f_,f_,f_,f_,f_,f_,f_,f_,f_,f_,f_,f_,f_,f_,f_,f_,f_,f_,f_,f_,f_,f_,f_,f_,f_,f_,f_,f_,f_,f_,f_,f_,f_,f_,f_,f_,f_,f_,f_,f_,f_,f_,f_,f_,f_,f_,f_,f_,f_,f_,f_,f_,f_,f_,f_,f_,f_,f_,f_,f_,f_,f_,f_,f_,f_,f_,f_,f_,f_,f_,f_,f_,f_,f_,f_,f_,f_,f_,f_,f_,f_,f_,f_,f_,f_] rfl rfl (any_of HT_.out (by kernel_rfl)) (fun _ _ _ h=>h) (Or.inl ⟨by rfl, ?_⟩) ?_ ?_
                      rotate_left
                      ·intro w'
                       go_simp
                       with_reducible rfl
                      rotate_left
                      ·simp only [Act.put,sA,s0,sS,i64_w,i32_w]
                       rfl
                      refine pure_ (i:=5) (N:=some 78) (v:=?_) (a':=?_) #[t_,t_,t_,t_,t_,t_,f_,f_,f_,f_,f_,f_,f_,f_,f_,f_,f_,f_,f_,f_,f_,f_,f_,f_,f_,f_,f_,f_,f_,f_,f_,f_,f_,f_,f_,f_,f_,f_,f_,f_,f_,f_,f_,f_,f_,f_,f_,f_,f_,f_,f_,f_,f_,f_,f_,f_,f_,f_,f_,f_,f_,f_,f_,f_,f_,f_,f_,f_,f_,f_,f_,f_,f_,f_,f_,f_,f_,f_,f_,f_,f_,f_,f_,f_,f_,f_,f_,f_,f_,f_,f_,f_,f_,f_,f_,f_,f_,f_] rfl rfl (any_of HT_.out (by kernel_rfl)) (fun _ _ _ h=>h) (Or.inl ⟨by rfl, ?_⟩) ?_ ?_
                      rotate_left
                      ·intro w'
                       go_simp
                       with_reducible rfl
                      rotate_left
                      ·simp only [Act.put,sA,s0,sS,i64_w,i32_w]
                       rfl
                      refine pure_ (i:=6) (N:=some 79) (v:=?_) (a':=?_) #[t_,t_,t_,t_,t_,t_,t_,f_,f_,f_,f_,f_,f_,f_,f_,f_,f_,f_,f_,f_,f_,f_,f_,f_,f_,f_,f_,f_,f_,f_,f_,f_,f_,f_,f_,f_,f_,f_,f_,f_,f_,f_,f_,f_,f_,f_,f_,f_,f_,f_,f_,f_,f_,f_,f_,f_,f_,f_,f_,f_,f_,f_,f_,f_,f_,f_,f_,f_,f_,f_,f_,f_,f_,f_,f_,f_,f_,f_,f_,f_,f_,f_,f_,f_,f_,f_,f_,f_,f_,f_,f_,f_,f_,f_,f_,f_,f_,f_] rfl rfl (any_of HT_.out (by kernel_rfl)) (fun _ _ _ h=>h) (Or.inl ⟨by rfl, ?_⟩) ?_ ?_
                      rotate_left
                      ·intro w'
                       go_simp
                       with_reducible rfl
                      rotate_left
                      ·simp only [Act.put,sA,s0,sS,i64_w,i32_w]
                       rfl
                      refine pure_ (i:=7) (N:=some 80) (v:=?_) (a':=?_) #[t_,t_,t_,t_,t_,t_,t_,t_,f_,f_,f_,f_,f_,f_,f_,f_,f_,f_,f_,f_,f_,f_,f_,f_,f_,f_,f_,f_,f_,f_,f_,f_,f_,f_,f_,f_,f_,f_,f_,f_,f_,f_,f_,f_,f_,f_,f_,f_,f_,f_,f_,f_,f_,f_,f_,f_,f_,f_,f_,f_,f_,f_,f_,f_,f_,f_,f_,f_,f_,f_,f_,f_,f_,f_,f_,f_,f_,f_,f_,f_,f_,f_,f_,f_,f_,f_,f_,f_,f_,f_,f_,f_,f_,f_,f_,f_,f_,f_] rfl rfl (any_of HT_.out (by kernel_rfl)) (fun _ _ _ h=>h) (Or.inl ⟨by rfl, ?_⟩) ?_ ?_
                      rotate_left
                      ·intro w'
                       go_simp
                       with_reducible rfl
                      rotate_left
                      ·simp only [Act.put,sA,s0,sS,i64_w,i32_w]
                       rfl
                      refine pure_ (i:=8) (N:=some 81) (v:=?_) (a':=?_) #[t_,t_,t_,t_,t_,t_,t_,t_,t_,f_,f_,f_,f_,f_,f_,f_,f_,f_,f_,f_,f_,f_,f_,f_,f_,f_,f_,f_,f_,f_,f_,f_,f_,f_,f_,f_,f_,f_,f_,f_,f_,f_,f_,f_,f_,f_,f_,f_,f_,f_,f_,f_,f_,f_,f_,f_,f_,f_,f_,f_,f_,f_,f_,f_,f_,f_,f_,f_,f_,f_,f_,f_,f_,f_,f_,f_,f_,f_,f_,f_,f_,f_,f_,f_,f_,f_,f_,f_,f_,f_,f_,f_,f_,f_,f_,f_,f_,f_] rfl rfl (any_of HT_.out (by kernel_rfl)) (fun _ _ _ h=>h) (Or.inl ⟨by rfl, ?_⟩) ?_ ?_
                      rotate_left
                      ·intro w'
                       go_simp
                       with_reducible rfl
                      rotate_left
                      ·simp only [Act.put,sA,s0,sS,i64_w,i32_w]
                       rfl
                      refine pure_ (i:=9) (N:=some 82) (v:=?_) (a':=?_) #[t_,t_,t_,t_,t_,t_,t_,t_,t_,t_,f_,f_,f_,f_,f_,f_,f_,f_,f_,f_,f_,f_,f_,f_,f_,f_,f_,f_,f_,f_,f_,f_,f_,f_,f_,f_,f_,f_,f_,f_,f_,f_,f_,f_,f_,f_,f_,f_,f_,f_,f_,f_,f_,f_,f_,f_,f_,f_,f_,f_,f_,f_,f_,f_,f_,f_,f_,f_,f_,f_,f_,f_,f_,f_,f_,f_,f_,f_,f_,f_,f_,f_,f_,f_,f_,f_,f_,f_,f_,f_,f_,f_,f_,f_,f_,f_,f_,f_] rfl rfl (any_of HT_.out (by kernel_rfl)) (fun _ _ _ h=>h) (Or.inl ⟨by rfl, ?_⟩) ?_ ?_
                      rotate_left
                      ·intro w'
                       go_simp
                       with_reducible rfl
                      rotate_left
                      ·simp only [Act.put,sA,s0,sS,i64_w,i32_w]
                       rfl
                      refine pure_ (i:=10) (N:=some 83) (v:=?_) (a':=?_) #[t_,t_,t_,t_,t_,t_,t_,t_,t_,t_,t_,f_,f_,f_,f_,f_,f_,f_,f_,f_,f_,f_,f_,f_,f_,f_,f_,f_,f_,f_,f_,f_,f_,f_,f_,f_,f_,f_,f_,f_,f_,f_,f_,f_,f_,f_,f_,f_,f_,f_,f_,f_,f_,f_,f_,f_,f_,f_,f_,f_,f_,f_,f_,f_,f_,f_,f_,f_,f_,f_,f_,f_,f_,f_,f_,f_,f_,f_,f_,f_,f_,f_,f_,f_,f_,f_,f_,f_,f_,f_,f_,f_,f_,f_,f_,f_,f_,f_] rfl rfl (any_of HT_.out (by kernel_rfl)) (fun _ _ _ h=>h) (Or.inl ⟨by rfl, ?_⟩) ?_ ?_
                      rotate_left
                      ·intro w'
                       go_simp
                       with_reducible rfl
                      rotate_left
                      ·simp only [Act.put,sA,s0,sS,i64_w,i32_w]
                       rfl
                      refine pure_ (i:=11) (N:=some 84) (v:=?_) (a':=?_) #[t_,t_,t_,t_,t_,t_,t_,t_,t_,t_,t_,t_,f_,f_,f_,f_,f_,f_,f_,f_,f_,f_,f_,f_,f_,f_,f_,f_,f_,f_,f_,f_,f_,f_,f_,f_,f_,f_,f_,f_,f_,f_,f_,f_,f_,f_,f_,f_,f_,f_,f_,f_,f_,f_,f_,f_,f_,f_,f_,f_,f_,f_,f_,f_,f_,f_,f_,f_,f_,f_,f_,f_,f_,f_,f_,f_,f_,f_,f_,f_,f_,f_,f_,f_,f_,f_,f_,f_,f_,f_,f_,f_,f_,f_,f_,f_,f_,f_] rfl rfl (any_of HT_.out (by kernel_rfl)) (fun _ _ _ h=>h) (Or.inl ⟨by rfl, ?_⟩) ?_ ?_
                      rotate_left
                      ·intro w'
                       go_simp
                       with_reducible rfl
                      rotate_left
                      ·simp only [Act.put,sA,s0,sS,i64_w,i32_w]
                       rfl
                      refine pure_ (i:=12) (N:=some 85) (v:=?_) (a':=?_) #[t_,t_,t_,t_,t_,t_,t_,t_,t_,t_,t_,t_,t_,f_,f_,f_,f_,f_,f_,f_,f_,f_,f_,f_,f_,f_,f_,f_,f_,f_,f_,f_,f_,f_,f_,f_,f_,f_,f_,f_,f_,f_,f_,f_,f_,f_,f_,f_,f_,f_,f_,f_,f_,f_,f_,f_,f_,f_,f_,f_,f_,f_,f_,f_,f_,f_,f_,f_,f_,f_,f_,f_,f_,f_,f_,f_,f_,f_,f_,f_,f_,f_,f_,f_,f_,f_,f_,f_,f_,f_,f_,f_,f_,f_,f_,f_,f_,f_] rfl rfl (any_of HT_.out (by kernel_rfl)) (fun _ _ _ h=>h) (Or.inl ⟨by rfl, ?_⟩) ?_ ?_
                      rotate_left
                      ·intro w'
                       go_simp
                       with_reducible rfl
                      rotate_left
                      ·simp only [Act.put,sA,s0,sS,i64_w,i32_w]
                       rfl
                      refine pure_ (i:=13) (N:=some 86) (v:=?_) (a':=?_) #[t_,t_,t_,t_,t_,t_,t_,t_,t_,t_,t_,t_,t_,t_,f_,f_,f_,f_,f_,f_,f_,f_,f_,f_,f_,f_,f_,f_,f_,f_,f_,f_,f_,f_,f_,f_,f_,f_,f_,f_,f_,f_,f_,f_,f_,f_,f_,f_,f_,f_,f_,f_,f_,f_,f_,f_,f_,f_,f_,f_,f_,f_,f_,f_,f_,f_,f_,f_,f_,f_,f_,f_,f_,f_,f_,f_,f_,f_,f_,f_,f_,f_,f_,f_,f_,f_,f_,f_,f_,f_,f_,f_,f_,f_,f_,f_,f_,f_] rfl rfl (any_of HT_.out (by kernel_rfl)) (fun _ _ _ h=>h) (Or.inl ⟨by rfl, ?_⟩) ?_ ?_
                      rotate_left
                      ·intro w'
                       go_simp
                       with_reducible rfl
                      rotate_left
                      ·simp only [Act.put,sA,s0,sS,i64_w,i32_w]
                       rfl
                      refine pure_ (i:=14) (N:=some 87) (v:=?_) (a':=?_) #[t_,t_,t_,t_,t_,t_,t_,t_,t_,t_,t_,t_,t_,t_,t_,f_,f_,f_,f_,f_,f_,f_,f_,f_,f_,f_,f_,f_,f_,f_,f_,f_,f_,f_,f_,f_,f_,f_,f_,f_,f_,f_,f_,f_,f_,f_,f_,f_,f_,f_,f_,f_,f_,f_,f_,f_,f_,f_,f_,f_,f_,f_,f_,f_,f_,f_,f_,f_,f_,f_,f_,f_,f_,f_,f_,f_,f_,f_,f_,f_,f_,f_,f_,f_,f_,f_,f_,f_,f_,f_,f_,f_,f_,f_,f_,f_,f_,f_] rfl rfl (any_of HT_.out (by kernel_rfl)) (fun _ _ _ h=>h) (Or.inl ⟨by rfl, ?_⟩) ?_ ?_
                      rotate_left
                      ·intro w'
                       go_simp
                       with_reducible rfl
                      rotate_left
                      ·simp only [Act.put,sA,s0,sS,i64_w,i32_w]
                       rfl
                      refine pure_ (i:=15) (N:=some 88) (v:=?_) (a':=?_) #[t_,t_,t_,t_,t_,t_,t_,t_,t_,t_,t_,t_,t_,t_,t_,t_,f_,f_,f_,f_,f_,f_,f_,f_,f_,f_,f_,f_,f_,f_,f_,f_,f_,f_,f_,f_,f_,f_,f_,f_,f_,f_,f_,f_,f_,f_,f_,f_,f_,f_,f_,f_,f_,f_,f_,f_,f_,f_,f_,f_,f_,f_,f_,f_,f_,f_,f_,f_,f_,f_,f_,f_,f_,f_,f_,f_,f_,f_,f_,f_,f_,f_,f_,f_,f_,f_,f_,f_,f_,f_,f_,f_,f_,f_,f_,f_,f_,f_] rfl rfl (any_of HT_.out (by kernel_rfl)) (fun _ _ _ h=>h) (Or.inl ⟨by rfl, ?_⟩) ?_ ?_
                      rotate_left
                      ·intro w'
                       go_simp
                       with_reducible rfl
                      rotate_left
                      ·simp only [Act.put,sA,s0,sS,i64_w,i32_w]
                       rfl
                      refine pure_ (i:=16) (N:=some 89) (v:=?_) (a':=?_) #[t_,t_,t_,t_,t_,t_,t_,t_,t_,t_,t_,t_,t_,t_,t_,t_,t_,f_,f_,f_,f_,f_,f_,f_,f_,f_,f_,f_,f_,f_,f_,f_,f_,f_,f_,f_,f_,f_,f_,f_,f_,f_,f_,f_,f_,f_,f_,f_,f_,f_,f_,f_,f_,f_,f_,f_,f_,f_,f_,f_,f_,f_,f_,f_,f_,f_,f_,f_,f_,f_,f_,f_,f_,f_,f_,f_,f_,f_,f_,f_,f_,f_,f_,f_,f_,f_,f_,f_,f_,f_,f_,f_,f_,f_,f_,f_,f_,f_] rfl rfl (any_of HT_.out (by kernel_rfl)) (fun _ _ _ h=>h) (Or.inl ⟨by rfl, ?_⟩) ?_ ?_
                      rotate_left
                      ·intro w'
                       go_simp
                       with_reducible rfl
                      rotate_left
                      ·simp only [Act.put,sA,s0,sS,i64_w,i32_w]
                       rfl
                      refine pure_ (i:=17) (N:=some 90) (v:=?_) (a':=?_) #[t_,t_,t_,t_,t_,t_,t_,t_,t_,t_,t_,t_,t_,t_,t_,t_,t_,t_,f_,f_,f_,f_,f_,f_,f_,f_,f_,f_,f_,f_,f_,f_,f_,f_,f_,f_,f_,f_,f_,f_,f_,f_,f_,f_,f_,f_,f_,f_,f_,f_,f_,f_,f_,f_,f_,f_,f_,f_,f_,f_,f_,f_,f_,f_,f_,f_,f_,f_,f_,f_,f_,f_,f_,f_,f_,f_,f_,f_,f_,f_,f_,f_,f_,f_,f_,f_,f_,f_,f_,f_,f_,f_,f_,f_,f_,f_,f_,f_] rfl rfl (any_of HT_.out (by kernel_rfl)) (fun _ _ _ h=>h) (Or.inl ⟨by rfl, ?_⟩) ?_ ?_
                      rotate_left
                      ·intro w'
                       go_simp
                       with_reducible rfl
                      rotate_left
                      ·simp only [Act.put,sA,s0,sS,i64_w,i32_w]
                       rfl
                      refine pure_ (i:=18) (N:=some 91) (v:=?_) (a':=?_) #[t_,t_,t_,t_,t_,t_,t_,t_,t_,t_,t_,t_,t_,t_,t_,t_,t_,t_,t_,f_,f_,f_,f_,f_,f_,f_,f_,f_,f_,f_,f_,f_,f_,f_,f_,f_,f_,f_,f_,f_,f_,f_,f_,f_,f_,f_,f_,f_,f_,f_,f_,f_,f_,f_,f_,f_,f_,f_,f_,f_,f_,f_,f_,f_,f_,f_,f_,f_,f_,f_,f_,f_,f_,f_,f_,f_,f_,f_,f_,f_,f_,f_,f_,f_,f_,f_,f_,f_,f_,f_,f_,f_,f_,f_,f_,f_,f_,f_] rfl rfl (any_of HT_.out (by kernel_rfl)) (fun _ _ _ h=>h) (Or.inl ⟨by rfl, ?_⟩) ?_ ?_
                      rotate_left
                      ·intro w'
                       go_simp
                       with_reducible rfl
                      rotate_left
                      ·simp only [Act.put,sA,s0,sS,i64_w,i32_w]
                       rfl
                      refine pure_ (i:=19) (N:=some 92) (v:=?_) (a':=?_) #[t_,t_,t_,t_,t_,t_,t_,t_,t_,t_,t_,t_,t_,t_,t_,t_,t_,t_,t_,t_,f_,f_,f_,f_,f_,f_,f_,f_,f_,f_,f_,f_,f_,f_,f_,f_,f_,f_,f_,f_,f_,f_,f_,f_,f_,f_,f_,f_,f_,f_,f_,f_,f_,f_,f_,f_,f_,f_,f_,f_,f_,f_,f_,f_,f_,f_,f_,f_,f_,f_,f_,f_,f_,f_,f_,f_,f_,f_,f_,f_,f_,f_,f_,f_,f_,f_,f_,f_,f_,f_,f_,f_,f_,f_,f_,f_,f_,f_] rfl rfl (any_of HT_.out (by kernel_rfl)) (fun _ _ _ h=>h) (Or.inl ⟨by rfl, ?_⟩) ?_ ?_
                      rotate_left
                      ·intro w'
                       go_simp
                       with_reducible rfl
                      rotate_left
                      ·simp only [Act.put,sA,s0,sS,i64_w,i32_w]
                       rfl
                      refine pure_ (i:=20) (N:=some 93) (v:=?_) (a':=?_) #[t_,t_,t_,t_,t_,t_,t_,t_,t_,t_,t_,t_,t_,t_,t_,t_,t_,t_,t_,t_,t_,f_,f_,f_,f_,f_,f_,f_,f_,f_,f_,f_,f_,f_,f_,f_,f_,f_,f_,f_,f_,f_,f_,f_,f_,f_,f_,f_,f_,f_,f_,f_,f_,f_,f_,f_,f_,f_,f_,f_,f_,f_,f_,f_,f_,f_,f_,f_,f_,f_,f_,f_,f_,f_,f_,f_,f_,f_,f_,f_,f_,f_,f_,f_,f_,f_,f_,f_,f_,f_,f_,f_,f_,f_,f_,f_,f_,f_] rfl rfl (any_of HT_.out (by kernel_rfl)) (fun _ _ _ h=>h) (Or.inl ⟨by rfl, ?_⟩) ?_ ?_
                      rotate_left
                      ·intro w'
                       go_simp
                       with_reducible rfl
                      rotate_left
                      ·simp only [Act.put,sA,s0,sS,i64_w,i32_w]
                       rfl
                      refine pure_ (i:=21) (N:=some 94) (v:=?_) (a':=?_) #[t_,t_,t_,t_,t_,t_,t_,t_,t_,t_,t_,t_,t_,t_,t_,t_,t_,t_,t_,t_,t_,t_,f_,f_,f_,f_,f_,f_,f_,f_,f_,f_,f_,f_,f_,f_,f_,f_,f_,f_,f_,f_,f_,f_,f_,f_,f_,f_,f_,f_,f_,f_,f_,f_,f_,f_,f_,f_,f_,f_,f_,f_,f_,f_,f_,f_,f_,f_,f_,f_,f_,f_,f_,f_,f_,f_,f_,f_,f_,f_,f_,f_,f_,f_,f_,f_,f_,f_,f_,f_,f_,f_,f_,f_,f_,f_,f_,f_] rfl rfl (any_of HT_.out (by kernel_rfl)) (fun _ _ _ h=>h) (Or.inl ⟨by rfl, ?_⟩) ?_ ?_
                      rotate_left
                      ·intro w'
                       go_simp
                       with_reducible rfl
                      rotate_left
                      ·simp only [Act.put,sA,s0,sS,i64_w,i32_w]
                       rfl
                      refine pure_ (i:=22) (N:=some 95) (v:=?_) (a':=?_) #[t_,t_,t_,t_,t_,t_,t_,t_,t_,t_,t_,t_,t_,t_,t_,t_,t_,t_,t_,t_,t_,t_,t_,f_,f_,f_,f_,f_,f_,f_,f_,f_,f_,f_,f_,f_,f_,f_,f_,f_,f_,f_,f_,f_,f_,f_,f_,f_,f_,f_,f_,f_,f_,f_,f_,f_,f_,f_,f_,f_,f_,f_,f_,f_,f_,f_,f_,f_,f_,f_,f_,f_,f_,f_,f_,f_,f_,f_,f_,f_,f_,f_,f_,f_,f_,f_,f_,f_,f_,f_,f_,f_,f_,f_,f_,f_,f_,f_] rfl rfl (any_of HT_.out (by kernel_rfl)) (fun _ _ _ h=>h) (Or.inl ⟨by rfl, ?_⟩) ?_ ?_
                      rotate_left
                      ·intro w'
                       go_simp
                       with_reducible rfl
                      rotate_left
                      ·simp only [Act.put,sA,s0,sS,i64_w,i32_w]
                       rfl
                      refine pure_ (i:=23) (N:=some 96) (v:=?_) (a':=?_) #[t_,t_,t_,t_,t_,t_,t_,t_,t_,t_,t_,t_,t_,t_,t_,t_,t_,t_,t_,t_,t_,t_,t_,t_,f_,f_,f_,f_,f_,f_,f_,f_,f_,f_,f_,f_,f_,f_,f_,f_,f_,f_,f_,f_,f_,f_,f_,f_,f_,f_,f_,f_,f_,f_,f_,f_,f_,f_,f_,f_,f_,f_,f_,f_,f_,f_,f_,f_,f_,f_,f_,f_,f_,f_,f_,f_,f_,f_,f_,f_,f_,f_,f_,f_,f_,f_,f_,f_,f_,f_,f_,f_,f_,f_,f_,f_,f_,f_] rfl rfl (any_of HT_.out (by kernel_rfl)) (fun _ _ _ h=>h) (Or.inl ⟨by rfl, ?_⟩) ?_ ?_
                      rotate_left
                      ·intro w'
                       go_simp
                       with_reducible rfl
                      rotate_left
                      ·simp only [Act.put,sA,s0,sS,i64_w,i32_w]
                       rfl
                      refine pure_ (i:=24) (N:=some 97) (v:=?_) (a':=?_) #[t_,t_,t_,t_,t_,t_,t_,t_,t_,t_,t_,t_,t_,t_,t_,t_,t_,t_,t_,t_,t_,t_,t_,t_,t_,f_,f_,f_,f_,f_,f_,f_,f_,f_,f_,f_,f_,f_,f_,f_,f_,f_,f_,f_,f_,f_,f_,f_,f_,f_,f_,f_,f_,f_,f_,f_,f_,f_,f_,f_,f_,f_,f_,f_,f_,f_,f_,f_,f_,f_,f_,f_,f_,f_,f_,f_,f_,f_,f_,f_,f_,f_,f_,f_,f_,f_,f_,f_,f_,f_,f_,f_,f_,f_,f_,f_,f_,f_] rfl rfl (any_of HT_.out (by kernel_rfl)) (fun _ _ _ h=>h) (Or.inl ⟨by rfl, ?_⟩) ?_ ?_
                      rotate_left
                      ·intro w'
                       go_simp
                       with_reducible rfl
                      rotate_left
                      ·simp only [Act.put,sA,s0,sS,i64_w,i32_w]
                       rfl
                      refine pure_ (i:=25) (N:=some 98) (v:=?_) (a':=?_) #[t_,t_,t_,t_,t_,t_,t_,t_,t_,t_,t_,t_,t_,t_,t_,t_,t_,t_,t_,t_,t_,t_,t_,t_,t_,t_,f_,f_,f_,f_,f_,f_,f_,f_,f_,f_,f_,f_,f_,f_,f_,f_,f_,f_,f_,f_,f_,f_,f_,f_,f_,f_,f_,f_,f_,f_,f_,f_,f_,f_,f_,f_,f_,f_,f_,f_,f_,f_,f_,f_,f_,f_,f_,f_,f_,f_,f_,f_,f_,f_,f_,f_,f_,f_,f_,f_,f_,f_,f_,f_,f_,f_,f_,f_,f_,f_,f_,f_] rfl rfl (any_of HT_.out (by kernel_rfl)) (fun _ _ _ h=>h) (Or.inl ⟨by rfl, ?_⟩) ?_ ?_
                      rotate_left
                      ·intro w'
                       go_simp
                       with_reducible rfl
                      rotate_left
                      ·simp only [Act.put,sA,s0,sS,i64_w,i32_w]
                       rfl
                      refine pure_ (i:=26) (N:=some 99) (v:=?_) (a':=?_) #[t_,t_,t_,t_,t_,t_,t_,t_,t_,t_,t_,t_,t_,t_,t_,t_,t_,t_,t_,t_,t_,t_,t_,t_,t_,t_,t_,f_,f_,f_,f_,f_,f_,f_,f_,f_,f_,f_,f_,f_,f_,f_,f_,f_,f_,f_,f_,f_,f_,f_,f_,f_,f_,f_,f_,f_,f_,f_,f_,f_,f_,f_,f_,f_,f_,f_,f_,f_,f_,f_,f_,f_,f_,f_,f_,f_,f_,f_,f_,f_,f_,f_,f_,f_,f_,f_,f_,f_,f_,f_,f_,f_,f_,f_,f_,f_,f_,f_] rfl rfl (any_of HT_.out (by kernel_rfl)) (fun _ _ _ h=>h) (Or.inl ⟨by rfl, ?_⟩) ?_ ?_
                      rotate_left
                      ·intro w'
                       go_simp
                       with_reducible rfl
                      rotate_left
                      ·simp only [Act.put,sA,s0,sS,i64_w,i32_w]
                       rfl
                      refine pure_ (i:=27) (N:=some 100) (v:=?_) (a':=?_) #[t_,t_,t_,t_,t_,t_,t_,t_,t_,t_,t_,t_,t_,t_,t_,t_,t_,t_,t_,t_,t_,t_,t_,t_,t_,t_,t_,t_,f_,f_,f_,f_,f_,f_,f_,f_,f_,f_,f_,f_,f_,f_,f_,f_,f_,f_,f_,f_,f_,f_,f_,f_,f_,f_,f_,f_,f_,f_,f_,f_,f_,f_,f_,f_,f_,f_,f_,f_,f_,f_,f_,f_,f_,f_,f_,f_,f_,f_,f_,f_,f_,f_,f_,f_,f_,f_,f_,f_,f_,f_,f_,f_,f_,f_,f_,f_,f_,f_] rfl rfl (any_of HT_.out (by kernel_rfl)) (fun _ _ _ h=>h) (Or.inl ⟨by rfl, ?_⟩) ?_ ?_
                      rotate_left
                      ·intro w'
                       go_simp
                       with_reducible rfl
                      rotate_left
                      ·simp only [Act.put,sA,s0,sS,i64_w,i32_w]
                       rfl
                      refine pure_ (i:=28) (N:=some 101) (v:=?_) (a':=?_) #[t_,t_,t_,t_,t_,t_,t_,t_,t_,t_,t_,t_,t_,t_,t_,t_,t_,t_,t_,t_,t_,t_,t_,t_,t_,t_,t_,t_,t_,f_,f_,f_,f_,f_,f_,f_,f_,f_,f_,f_,f_,f_,f_,f_,f_,f_,f_,f_,f_,f_,f_,f_,f_,f_,f_,f_,f_,f_,f_,f_,f_,f_,f_,f_,f_,f_,f_,f_,f_,f_,f_,f_,f_,f_,f_,f_,f_,f_,f_,f_,f_,f_,f_,f_,f_,f_,f_,f_,f_,f_,f_,f_,f_,f_,f_,f_,f_,f_] rfl rfl (any_of HT_.out (by kernel_rfl)) (fun _ _ _ h=>h) (Or.inl ⟨by rfl, ?_⟩) ?_ ?_
                      rotate_left
                      ·intro w'
                       go_simp
                       with_reducible rfl
                      rotate_left
                      ·simp only [Act.put,sA,s0,sS,i64_w,i32_w]
                       rfl
                      refine take_ (i:=29) (N:=some 102) (v:=?_) (a':=?_) #[t_,t_,t_,t_,t_,t_,t_,t_,t_,t_,t_,t_,t_,t_,t_,t_,t_,t_,t_,t_,t_,t_,t_,t_,t_,t_,t_,t_,t_,t_,f_,f_,f_,f_,f_,f_,f_,f_,f_,f_,f_,f_,f_,f_,f_,f_,f_,f_,f_,f_,f_,f_,f_,f_,f_,f_,f_,f_,f_,f_,f_,f_,f_,f_,f_,f_,f_,f_,f_,f_,f_,f_,f_,f_,f_,f_,f_,f_,f_,f_,f_,f_,f_,f_,f_,f_,f_,f_,f_,f_,f_,f_,f_,f_,f_,f_,f_,f_] rfl rfl (take_ofW HT_.out HW_.out (by kernel_rfl)) (fun _ _ _ h=>h) (Or.inl ⟨by rfl, ?_⟩) hHeld ?_ ?_
                      rotate_left
                      ·rintro w' ⟨s0,s1,s2,s3,s4,s5,s6,s7,s8,s9,s10,s11,s12,s13⟩
                       go_simp
                       with_reducible rfl
                      rotate_left
                      ·simp only [Act.put,sA,s0,sS,i64_w,i32_w]
                       rfl
                      refine pure_ (i:=30) (N:=some 103) (v:=?_) (a':=?_) #[t_,t_,t_,t_,t_,t_,t_,t_,t_,t_,t_,t_,t_,t_,t_,t_,t_,t_,t_,t_,t_,t_,t_,t_,t_,t_,t_,t_,t_,t_,t_,f_,f_,f_,f_,f_,f_,f_,f_,f_,f_,f_,f_,f_,f_,f_,f_,f_,f_,f_,f_,f_,f_,f_,f_,f_,f_,f_,f_,f_,f_,f_,f_,f_,f_,f_,f_,f_,f_,f_,f_,f_,f_,f_,f_,f_,f_,f_,f_,f_,f_,f_,f_,f_,f_,f_,f_,f_,f_,f_,f_,f_,f_,f_,f_,f_,f_,f_] rfl rfl (any_of HT_.out (by kernel_rfl)) (fun _ _ _ h=>h) (Or.inl ⟨by rfl, ?_⟩) ?_ ?_
                      rotate_left
                      ·intro w'
                       go_simp
                       with_reducible rfl
                      rotate_left
                      ·simp only [Act.put,sA,s0,sS,i64_w,i32_w]
                       rfl
                      refine pure_ (i:=31) (N:=some 104) (v:=?_) (a':=?_) #[t_,t_,t_,t_,t_,t_,t_,t_,t_,t_,t_,t_,t_,t_,t_,t_,t_,t_,t_,t_,t_,t_,t_,t_,t_,t_,t_,t_,t_,t_,t_,t_,f_,f_,f_,f_,f_,f_,f_,f_,f_,f_,f_,f_,f_,f_,f_,f_,f_,f_,f_,f_,f_,f_,f_,f_,f_,f_,f_,f_,f_,f_,f_,f_,f_,f_,f_,f_,f_,f_,f_,f_,f_,f_,f_,f_,f_,f_,f_,f_,f_,f_,f_,f_,f_,f_,f_,f_,f_,f_,f_,f_,f_,f_,f_,f_,f_,f_] rfl rfl (any_of HT_.out (by kernel_rfl)) (fun _ _ _ h=>h) (Or.inl ⟨by rfl, ?_⟩) ?_ ?_
                      rotate_left
                      ·intro w'
                       go_simp
                       with_reducible rfl
                      rotate_left
                      ·simp only [Act.put,sA,s0,sS,i64_w,i32_w]
                       rfl
                      refine pure_ (i:=32) (N:=some 105) (v:=?_) (a':=?_) #[t_,t_,t_,t_,t_,t_,t_,t_,t_,t_,t_,t_,t_,t_,t_,t_,t_,t_,t_,t_,t_,t_,t_,t_,t_,t_,t_,t_,t_,t_,t_,t_,t_,f_,f_,f_,f_,f_,f_,f_,f_,f_,f_,f_,f_,f_,f_,f_,f_,f_,f_,f_,f_,f_,f_,f_,f_,f_,f_,f_,f_,f_,f_,f_,f_,f_,f_,f_,f_,f_,f_,f_,f_,f_,f_,f_,f_,f_,f_,f_,f_,f_,f_,f_,f_,f_,f_,f_,f_,f_,f_,f_,f_,f_,f_,f_,f_,f_] rfl rfl (any_of HT_.out (by kernel_rfl)) (fun _ _ _ h=>h) (Or.inl ⟨by rfl, ?_⟩) ?_ ?_
                      rotate_left
                      ·intro w'
                       go_simp
                       with_reducible rfl
                      rotate_left
                      ·simp only [Act.put,sA,s0,sS,i64_w,i32_w]
                       rfl
                      refine pure_ (i:=33) (N:=some 106) (v:=?_) (a':=?_) #[t_,t_,t_,t_,t_,t_,t_,t_,t_,t_,t_,t_,t_,t_,t_,t_,t_,t_,t_,t_,t_,t_,t_,t_,t_,t_,t_,t_,t_,t_,t_,t_,t_,t_,f_,f_,f_,f_,f_,f_,f_,f_,f_,f_,f_,f_,f_,f_,f_,f_,f_,f_,f_,f_,f_,f_,f_,f_,f_,f_,f_,f_,f_,f_,f_,f_,f_,f_,f_,f_,f_,f_,f_,f_,f_,f_,f_,f_,f_,f_,f_,f_,f_,f_,f_,f_,f_,f_,f_,f_,f_,f_,f_,f_,f_,f_,f_,f_] rfl rfl (any_of HT_.out (by kernel_rfl)) (fun _ _ _ h=>h) (Or.inl ⟨by rfl, ?_⟩) ?_ ?_
                      rotate_left
                      ·intro w'
                       go_simp
                       with_reducible rfl
                      rotate_left
                      ·simp only [Act.put,sA,s0,sS,i64_w,i32_w]
                       rfl
                      refine pure_ (i:=34) (N:=some 107) (v:=?_) (a':=?_) #[t_,t_,t_,t_,t_,t_,t_,t_,t_,t_,t_,t_,t_,t_,t_,t_,t_,t_,t_,t_,t_,t_,t_,t_,t_,t_,t_,t_,t_,t_,t_,t_,t_,t_,t_,f_,f_,f_,f_,f_,f_,f_,f_,f_,f_,f_,f_,f_,f_,f_,f_,f_,f_,f_,f_,f_,f_,f_,f_,f_,f_,f_,f_,f_,f_,f_,f_,f_,f_,f_,f_,f_,f_,f_,f_,f_,f_,f_,f_,f_,f_,f_,f_,f_,f_,f_,f_,f_,f_,f_,f_,f_,f_,f_,f_,f_,f_,f_] rfl rfl (any_of HT_.out (by kernel_rfl)) (fun _ _ _ h=>h) (Or.inl ⟨by rfl, ?_⟩) ?_ ?_
                      rotate_left
                      ·intro w'
                       go_simp
                       with_reducible rfl
                      rotate_left
                      ·simp only [Act.put,sA,s0,sS,i64_w,i32_w]
                       rfl
                      refine pure_ (i:=38) (N:=some 111) (v:=?_) (a':=?_) #[t_,t_,t_,t_,t_,t_,t_,t_,t_,t_,t_,t_,t_,t_,t_,t_,t_,t_,t_,t_,t_,t_,t_,t_,t_,t_,t_,t_,t_,t_,t_,t_,t_,t_,t_,f_,f_,f_,t_,f_,f_,f_,f_,f_,f_,f_,f_,f_,f_,f_,f_,f_,f_,f_,f_,f_,f_,f_,f_,f_,f_,f_,f_,f_,f_,f_,f_,f_,f_,f_,f_,f_,f_,f_,f_,f_,f_,f_,f_,f_,f_,f_,f_,f_,f_,f_,f_,f_,f_,f_,f_,f_,f_,f_,f_,f_,f_,f_] rfl rfl (any_of HT_.out (by kernel_rfl)) (fun _ _ _ h=>h) (Or.inl ⟨by rfl, ?_⟩) ?_ ?_
                      rotate_left
                      ·intro w'
                       go_simp
                       with_reducible rfl
                      rotate_left
                      ·simp only [Act.put,sA,s0,sS,i64_w,i32_w]
                       rfl
                      refine take_ (i:=35) (N:=some 108) (v:=?_) (a':=?_) #[t_,t_,t_,t_,t_,t_,t_,t_,t_,t_,t_,t_,t_,t_,t_,t_,t_,t_,t_,t_,t_,t_,t_,t_,t_,t_,t_,t_,t_,t_,t_,t_,t_,t_,t_,t_,f_,f_,t_,f_,f_,f_,f_,f_,f_,f_,f_,f_,f_,f_,f_,f_,f_,f_,f_,f_,f_,f_,f_,f_,f_,f_,f_,f_,f_,f_,f_,f_,f_,f_,f_,f_,f_,f_,f_,f_,f_,f_,f_,f_,f_,f_,f_,f_,f_,f_,f_,f_,f_,f_,f_,f_,f_,f_,f_,f_,f_,f_] rfl rfl (take_ofW HT_.out HW_.out (by kernel_rfl)) (fun _ _ _ h=>h) (Or.inl ⟨by rfl, ?_⟩) hHeld ?_ ?_
                      rotate_left
                      ·rintro w' ⟨s0,s1,s2,s3,s4,s5,s6,s7,s8,s9,s10,s11,s12,s13⟩
                       go_simp
                       with_reducible rfl
                      rotate_left
                      ·simp only [Act.put,sA,s0,sS,i64_w,i32_w]
                       rfl
                      refine pure_ (i:=36) (N:=some 109) (v:=?_) (a':=?_) #[t_,t_,t_,t_,t_,t_,t_,t_,t_,t_,t_,t_,t_,t_,t_,t_,t_,t_,t_,t_,t_,t_,t_,t_,t_,t_,t_,t_,t_,t_,t_,t_,t_,t_,t_,t_,t_,f_,t_,f_,f_,f_,f_,f_,f_,f_,f_,f_,f_,f_,f_,f_,f_,f_,f_,f_,f_,f_,f_,f_,f_,f_,f_,f_,f_,f_,f_,f_,f_,f_,f_,f_,f_,f_,f_,f_,f_,f_,f_,f_,f_,f_,f_,f_,f_,f_,f_,f_,f_,f_,f_,f_,f_,f_,f_,f_,f_,f_] rfl rfl (any_of HT_.out (by kernel_rfl)) (fun _ _ _ h=>h) (Or.inl ⟨by rfl, ?_⟩) ?_ ?_
                      rotate_left
                      ·intro w'
                       go_simp
                       with_reducible rfl
                      rotate_left
                      ·simp only [Act.put,sA,s0,sS,i64_w,i32_w]
                       rfl
                      refine take_ (i:=37) (N:=some 110) (v:=?_) (a':=?_) #[t_,t_,t_,t_,t_,t_,t_,t_,t_,t_,t_,t_,t_,t_,t_,t_,t_,t_,t_,t_,t_,t_,t_,t_,t_,t_,t_,t_,t_,t_,t_,t_,t_,t_,t_,t_,t_,t_,t_,f_,f_,f_,f_,f_,f_,f_,f_,f_,f_,f_,f_,f_,f_,f_,f_,f_,f_,f_,f_,f_,f_,f_,f_,f_,f_,f_,f_,f_,f_,f_,f_,f_,f_,f_,f_,f_,f_,f_,f_,f_,f_,f_,f_,f_,f_,f_,f_,f_,f_,f_,f_,f_,f_,f_,f_,f_,f_,f_] rfl rfl (take_ofW HT_.out HW_.out (by kernel_rfl)) (fun _ _ _ h=>h) (Or.inl ⟨by rfl, ?_⟩) hHeld ?_ ?_
                      rotate_left
                      ·rintro w' ⟨s0,s1,s2,s3,s4,s5,s6,s7,s8,s9,s10,s11,s12,s13⟩
                       go_simp
                       with_reducible rfl
                      rotate_left
                      ·simp only [Act.put,sA,s0,sS,i64_w,i32_w]
                       rfl
                      refine pure_ (i:=39) (N:=some 112) (v:=?_) (a':=?_) #[t_,t_,t_,t_,t_,t_,t_,t_,t_,t_,t_,t_,t_,t_,t_,t_,t_,t_,t_,t_,t_,t_,t_,t_,t_,t_,t_,t_,t_,t_,t_,t_,t_,t_,t_,t_,t_,t_,t_,t_,f_,f_,f_,f_,f_,f_,f_,f_,f_,f_,f_,f_,f_,f_,f_,f_,f_,f_,f_,f_,f_,f_,f_,f_,f_,f_,f_,f_,f_,f_,f_,f_,f_,f_,f_,f_,f_,f_,f_,f_,f_,f_,f_,f_,f_,f_,f_,f_,f_,f_,f_,f_,f_,f_,f_,f_,f_,f_] rfl rfl (any_of HT_.out (by kernel_rfl)) (fun _ _ _ h=>h) (Or.inl ⟨by rfl, ?_⟩) ?_ ?_
                      rotate_left
                      ·intro w'
                       go_simp
                       with_reducible rfl
                      rotate_left
                      ·simp only [Act.put,sA,s0,sS,i64_w,i32_w]
                       rfl
                      refine pure_ (i:=40) (N:=some 113) (v:=?_) (a':=?_) #[t_,t_,t_,t_,t_,t_,t_,t_,t_,t_,t_,t_,t_,t_,t_,t_,t_,t_,t_,t_,t_,t_,t_,t_,t_,t_,t_,t_,t_,t_,t_,t_,t_,t_,t_,t_,t_,t_,t_,t_,t_,f_,f_,f_,f_,f_,f_,f_,f_,f_,f_,f_,f_,f_,f_,f_,f_,f_,f_,f_,f_,f_,f_,f_,f_,f_,f_,f_,f_,f_,f_,f_,f_,f_,f_,f_,f_,f_,f_,f_,f_,f_,f_,f_,f_,f_,f_,f_,f_,f_,f_,f_,f_,f_,f_,f_,f_,f_] rfl rfl (any_of HT_.out (by kernel_rfl)) (fun _ _ _ h=>h) (Or.inl ⟨by rfl, ?_⟩) ?_ ?_
                      rotate_left
                      ·intro w'
                       go_simp
                       with_reducible rfl
                      rotate_left
                      ·simp only [Act.put,sA,s0,sS,i64_w,i32_w]
                       rfl
                      refine pure_ (i:=41) (N:=some 114) (v:=?_) (a':=?_) #[t_,t_,t_,t_,t_,t_,t_,t_,t_,t_,t_,t_,t_,t_,t_,t_,t_,t_,t_,t_,t_,t_,t_,t_,t_,t_,t_,t_,t_,t_,t_,t_,t_,t_,t_,t_,t_,t_,t_,t_,t_,t_,f_,f_,f_,f_,f_,f_,f_,f_,f_,f_,f_,f_,f_,f_,f_,f_,f_,f_,f_,f_,f_,f_,f_,f_,f_,f_,f_,f_,f_,f_,f_,f_,f_,f_,f_,f_,f_,f_,f_,f_,f_,f_,f_,f_,f_,f_,f_,f_,f_,f_,f_,f_,f_,f_,f_,f_] rfl rfl (any_of HT_.out (by kernel_rfl)) (fun _ _ _ h=>h) (Or.inl ⟨by rfl, ?_⟩) ?_ ?_
                      rotate_left
                      ·intro w'
                       go_simp
                       with_reducible rfl
                      rotate_left
                      ·simp only [Act.put,sA,s0,sS,i64_w,i32_w]
                       rfl
                      refine pure_ (i:=42) (N:=some 115) (v:=?_) (a':=?_) #[t_,t_,t_,t_,t_,t_,t_,t_,t_,t_,t_,t_,t_,t_,t_,t_,t_,t_,t_,t_,t_,t_,t_,t_,t_,t_,t_,t_,t_,t_,t_,t_,t_,t_,t_,t_,t_,t_,t_,t_,t_,t_,t_,f_,f_,f_,f_,f_,f_,f_,f_,f_,f_,f_,f_,f_,f_,f_,f_,f_,f_,f_,f_,f_,f_,f_,f_,f_,f_,f_,f_,f_,f_,f_,f_,f_,f_,f_,f_,f_,f_,f_,f_,f_,f_,f_,f_,f_,f_,f_,f_,f_,f_,f_,f_,f_,f_,f_] rfl rfl (any_of HT_.out (by kernel_rfl)) (fun _ _ _ h=>h) (Or.inl ⟨by rfl, ?_⟩) ?_ ?_
                      rotate_left
                      ·intro w'
                       go_simp
                       with_reducible rfl
                      rotate_left
                      ·simp only [Act.put,sA,s0,sS,i64_w,i32_w]
                       rfl
                      refine pure_ (i:=43) (N:=some 116) (v:=?_) (a':=?_) #[t_,t_,t_,t_,t_,t_,t_,t_,t_,t_,t_,t_,t_,t_,t_,t_,t_,t_,t_,t_,t_,t_,t_,t_,t_,t_,t_,t_,t_,t_,t_,t_,t_,t_,t_,t_,t_,t_,t_,t_,t_,t_,t_,t_,f_,f_,f_,f_,f_,f_,f_,f_,f_,f_,f_,f_,f_,f_,f_,f_,f_,f_,f_,f_,f_,f_,f_,f_,f_,f_,f_,f_,f_,f_,f_,f_,f_,f_,f_,f_,f_,f_,f_,f_,f_,f_,f_,f_,f_,f_,f_,f_,f_,f_,f_,f_,f_,f_] rfl rfl (any_of HT_.out (by kernel_rfl)) (fun _ _ _ h=>h) (Or.inl ⟨by rfl, ?_⟩) ?_ ?_
                      rotate_left
                      ·intro w'
                       go_simp
                       with_reducible rfl
                      rotate_left
                      ·simp only [Act.put,sA,s0,sS,i64_w,i32_w]
                       rfl
                      refine pure_ (i:=44) (N:=some 117) (v:=?_) (a':=?_) #[t_,t_,t_,t_,t_,t_,t_,t_,t_,t_,t_,t_,t_,t_,t_,t_,t_,t_,t_,t_,t_,t_,t_,t_,t_,t_,t_,t_,t_,t_,t_,t_,t_,t_,t_,t_,t_,t_,t_,t_,t_,t_,t_,t_,t_,f_,f_,f_,f_,f_,f_,f_,f_,f_,f_,f_,f_,f_,f_,f_,f_,f_,f_,f_,f_,f_,f_,f_,f_,f_,f_,f_,f_,f_,f_,f_,f_,f_,f_,f_,f_,f_,f_,f_,f_,f_,f_,f_,f_,f_,f_,f_,f_,f_,f_,f_,f_,f_] rfl rfl (any_of HT_.out (by kernel_rfl)) (fun _ _ _ h=>h) (Or.inl ⟨by rfl, ?_⟩) ?_ ?_
                      rotate_left
                      ·intro w'
                       go_simp
                       with_reducible rfl
                      rotate_left
                      ·simp only [Act.put,sA,s0,sS,i64_w,i32_w]
                       rfl
                      refine pure_ (i:=45) (N:=some 118) (v:=?_) (a':=?_) #[t_,t_,t_,t_,t_,t_,t_,t_,t_,t_,t_,t_,t_,t_,t_,t_,t_,t_,t_,t_,t_,t_,t_,t_,t_,t_,t_,t_,t_,t_,t_,t_,t_,t_,t_,t_,t_,t_,t_,t_,t_,t_,t_,t_,t_,t_,f_,f_,f_,f_,f_,f_,f_,f_,f_,f_,f_,f_,f_,f_,f_,f_,f_,f_,f_,f_,f_,f_,f_,f_,f_,f_,f_,f_,f_,f_,f_,f_,f_,f_,f_,f_,f_,f_,f_,f_,f_,f_,f_,f_,f_,f_,f_,f_,f_,f_,f_,f_] rfl rfl (any_of HT_.out (by kernel_rfl)) (fun _ _ _ h=>h) (Or.inl ⟨by rfl, ?_⟩) ?_ ?_
                      rotate_left
                      ·intro w'
                       go_simp
                       with_reducible rfl
                      rotate_left
                      ·simp only [Act.put,sA,s0,sS,i64_w,i32_w]
                       rfl
                      refine pure_ (i:=46) (N:=some 119) (v:=?_) (a':=?_) #[t_,t_,t_,t_,t_,t_,t_,t_,t_,t_,t_,t_,t_,t_,t_,t_,t_,t_,t_,t_,t_,t_,t_,t_,t_,t_,t_,t_,t_,t_,t_,t_,t_,t_,t_,t_,t_,t_,t_,t_,t_,t_,t_,t_,t_,t_,t_,f_,f_,f_,f_,f_,f_,f_,f_,f_,f_,f_,f_,f_,f_,f_,f_,f_,f_,f_,f_,f_,f_,f_,f_,f_,f_,f_,f_,f_,f_,f_,f_,f_,f_,f_,f_,f_,f_,f_,f_,f_,f_,f_,f_,f_,f_,f_,f_,f_,f_,f_] rfl rfl (any_of HT_.out (by kernel_rfl)) (fun _ _ _ h=>h) (Or.inl ⟨by rfl, ?_⟩) ?_ ?_
                      rotate_left
                      ·intro w'
                       go_simp
                       with_reducible rfl
                      rotate_left
                      ·simp only [Act.put,sA,s0,sS,i64_w,i32_w]
                       rfl
                      refine take_ (i:=47) (N:=some 120) (v:=?_) (a':=?_) #[t_,t_,t_,t_,t_,t_,t_,t_,t_,t_,t_,t_,t_,t_,t_,t_,t_,t_,t_,t_,t_,t_,t_,t_,t_,t_,t_,t_,t_,t_,t_,t_,t_,t_,t_,t_,t_,t_,t_,t_,t_,t_,t_,t_,t_,t_,t_,t_,f_,f_,f_,f_,f_,f_,f_,f_,f_,f_,f_,f_,f_,f_,f_,f_,f_,f_,f_,f_,f_,f_,f_,f_,f_,f_,f_,f_,f_,f_,f_,f_,f_,f_,f_,f_,f_,f_,f_,f_,f_,f_,f_,f_,f_,f_,f_,f_,f_,f_] rfl rfl (take_ofW HT_.out HW_.out (by kernel_rfl)) (fun _ _ _ h=>h) (Or.inl ⟨by rfl, ?_⟩) hHeld ?_ ?_
                      rotate_left
                      ·rintro w' ⟨s0,s1,s2,s3,s4,s5,s6,s7,s8,s9,s10,s11,s12,s13⟩
                       go_simp
                       with_reducible rfl
                      rotate_left
                      ·simp only [Act.put,sA,s0,sS,i64_w,i32_w]
                       rfl
                      refine one_ (i:=48) (N:=some 121) #[t_,t_,t_,t_,t_,t_,t_,t_,t_,t_,t_,t_,t_,t_,t_,t_,t_,t_,t_,t_,t_,t_,t_,t_,t_,t_,t_,t_,t_,t_,t_,t_,t_,t_,t_,t_,t_,t_,t_,t_,t_,t_,t_,t_,t_,t_,t_,t_,t_,f_,f_,f_,f_,f_,f_,f_,f_,f_,f_,f_,f_,f_,f_,f_,f_,f_,f_,f_,f_,f_,f_,f_,f_,f_,f_,f_,f_,f_,f_,f_,f_,f_,f_,f_,f_,f_,f_,f_,f_,f_,f_,f_,f_,f_,f_,f_,f_,f_] rfl rfl (one_of HT_.out (by kernel_rfl)) (by decide) (fun K hK=>?_)
                      refine goes_ Try.func32 (by kernel_rfl) rfl #[] (by rfl) rfl rfl (by (try simp only [mT,mC,mN]);first|done|rfl|(simp only [lDr,lTk];rfl)) ?_
                      with_reducible refine (gangsawlaw39_hook.calls  t304 t305 _ A24.out).mono ?_
                      rintro e w93 ⟨v306,rfl,ho0,hb⟩
                      have HS12_:=(hb.cell (World.block_lt_of_cell? _ _ (hHeld.2.2.2.2.2.2.2.2.2.2.2.2.1))).trans (hHeld.2.2.2.2.2.2.2.2.2.2.2.2.1)
                      have HS13_:=(hb.cell (World.block_lt_of_cell? _ _ (hHeld.2.2.2.2.2.2.2.2.2.2.2.2.2))).trans (hHeld.2.2.2.2.2.2.2.2.2.2.2.2.2)
                      refine ⟨_,rfl, ?_⟩
                      have n0_:=am (Kd.R_elder' (by (with_reducible repeat (first|apply rA|apply rN|apply rD));exact HO252.out) (Kd.R_base ho0) hb)
                      have n1_:=am (Kd.R_below (by (with_reducible repeat (first|apply rA|apply rN|apply rD));exact HO258.out) hb)
                      have n2_:=am (Kd.R_elder' (by (with_reducible repeat (first|apply rA|apply rN|apply rD));exact HO263.out) (Kd.R_base ho0) hb)
                      have n3_:=am (Kd.R_elder' (by (with_reducible repeat (first|apply rA|apply rN|apply rD));exact HO269.out) (Kd.R_base ho0) hb)
                      have n4_:=am (Kd.R_elder' (by (with_reducible repeat (first|apply rA|apply rN|apply rD));exact HO275.out) (Kd.R_base ho0) hb)
                      have n5_:=am (Kd.R_elder' (by (with_reducible repeat (first|apply rA|apply rN|apply rD));exact HO279.out) (Kd.R_base ho0) hb)
                      have n6_:=am (Kd.R_elder' (by (with_reducible repeat (first|apply rA|apply rN|apply rD));exact HO285.out) (Kd.R_base ho0) hb)
                      have n7_:=am (Kd.R_elder' (by (with_reducible repeat (first|apply rA|apply rN|apply rD));exact HO295.out) (Kd.R_base ho0) hb)
                      have n8_:=am (Kd.R_lower (Kd.R_newB (Kd.R_newB (Kd.R_new' (Kd.R_new' (Kd.R_new' (Kd.R_new' (Kd.R_new' (Kd.R_new' (Kd.R_new' ho0 (Kd.R_lt (by (with_reducible repeat (first|apply rA|apply rN|apply rD));exact HO252.out))) (Kd.R_lt (by (with_reducible repeat (first|apply rA|apply rN|apply rD));exact HO263.out))) (Kd.R_lt (by (with_reducible repeat (first|apply rA|apply rN|apply rD));exact HO269.out))) (Kd.R_lt (by (with_reducible repeat (first|apply rA|apply rN|apply rD));exact HO275.out))) (Kd.R_lt (by (with_reducible repeat (first|apply rA|apply rN|apply rD));exact HO279.out))) (Kd.R_lt (by (with_reducible repeat (first|apply rA|apply rN|apply rD));exact HO285.out))) (Kd.R_lt (by (with_reducible repeat (first|apply rA|apply rN|apply rD));exact HO295.out))) (g:=gb301) (o:=.cells #[.int .i64 t296,.int .i64 t297] 31 (0,0)) (by (with_reducible repeat (first|apply bN|apply bD|apply bA));exact BK301.out)) (g:=gb302) (o:=.cells #[.int .i64 t298,.int .i64 t299] 31 (0,0)) (by (with_reducible repeat (first|apply bN|apply bD|apply bA));exact BK302.out)) (below_size (by repeat (first|(with_reducible first|exact HB.out|apply lA|apply lN|apply lD|refine lS ?_ GE253.out|refine lS ?_ GE271.out|refine lS ?_ GE281.out|refine lS ?_ GE287.out|refine lS ?_ GE301.out|refine lS ?_ GE302.out)|exact HB.out))))
                      have n9_:=am (blk_below (g:=gb253) (o:=.cells #[.string (⟨#[97]⟩ : ByteArray),.slice Ao40 y250.length co40] 25 (0,0)) (by (with_reducible repeat (first|apply bN|apply bD|apply bA));exact BK253.out) hb)
                      have n10_:=am (blk_below (g:=gb271) (o:=.cells #[.string t266,.slice (some ad303) t267.length co53] 25 (0,0)) (by (with_reducible repeat (first|apply bN|apply bD|apply bA));exact BK271.out) hb)
                      have n11_:=am (blk_below (g:=gb281) (o:=.cells #[.string t276,.slice Ao61 t277.length co61] 25 (0,0)) (by (with_reducible repeat (first|apply bN|apply bD|apply bA));exact BK281.out) hb)
                      have n12_:=am (blk_below (g:=gb287) (o:=.cells #[.string t282,.slice Ao69 t283.length co69] 25 (0,0)) (by (with_reducible repeat (first|apply bN|apply bD|apply bA));exact BK287.out) hb)
                      have n13_:=am (blk_below (g:=gb301) (o:=.cells #[.int .i64 t296,.int .i64 t297] 31 (0,0)) (by (with_reducible repeat (first|apply bN|apply bD|apply bA));exact BK301.out) hb)
                      have n14_:=am (blk_below (g:=gb302) (o:=.cells #[.int .i64 t298,.int .i64 t299] 31 (0,0)) (by (with_reducible repeat (first|apply bN|apply bD|apply bA));exact BK302.out) hb)
                      have n15_:=am (below_step (by repeat (first|(with_reducible first|exact HB.out|apply lA|apply lN|apply lD|refine lS ?_ GE253.out|refine lS ?_ GE271.out|refine lS ?_ GE281.out|refine lS ?_ GE287.out|refine lS ?_ GE301.out|refine lS ?_ GE302.out)|exact HB.out)) hb)
                      clear HO252
                      clear HO258
                      clear HO263
                      clear HO269
                      clear HO275
                      clear HO279
                      clear HO285
                      clear HO295
                      clear BK253
                      clear BK271
                      clear BK281
                      clear BK287
                      clear BK301
                      clear BK302
                      clear HB
                      have HO252:=n0_
                      have HO258:=n1_
                      have HO263:=n2_
                      have HO269:=n3_
                      have HO275:=n4_
                      have HO279:=n5_
                      have HO285:=n6_
                      have HO295:=n7_
                      have HO307:=n8_
                      have BK253:=n9_
                      have BK271:=n10_
                      have BK281:=n11_
                      have BK287:=n12_
                      have BK301:=n13_
                      have BK302:=n14_
                      have HB:=n15_
                      clear n0_ n1_ n2_ n3_ n4_ n5_ n6_ n7_ n8_ n9_ n10_ n11_ n12_ n13_ n14_ n15_
                      (try clear hb)
                      (try clear hb2)
                      (try clear hk)
                      (try clear hi)
                      (try clear ho0)
                      obtain ⟨Ao94,co94,eo94⟩ := Kd.R_slice HO307.out
                      (first|subst eo94|(injection eo94 with f1_ f2_ f3_;have f4_:=f1_.symm;have f5_:=f3_.symm;clear f1_ f2_ f3_;subst f4_;subst f5_))
                      refine hK.out _ _ ⟨(blk_cell BK271.out 0).trans rfl,(blk_cell BK271.out 1).trans rfl,(blk_cell BK281.out 0).trans rfl,(blk_cell BK281.out 1).trans rfl,(blk_cell BK287.out 0).trans rfl,(blk_cell BK287.out 1).trans rfl,(blk_cell BK253.out 0).trans rfl,(blk_cell BK253.out 1).trans rfl,(blk_cell BK301.out 0).trans rfl,(blk_cell BK301.out 1).trans rfl,(blk_cell BK302.out 0).trans rfl,(blk_cell BK302.out 1).trans rfl,HS12_,HS13_⟩ (fun hHeld=>?_)
                      clear hK K
                      refine norm_ (a':=?_) ?_ ?_
                      rotate_left
                      ·show Act.put _ (some 121) _ = _
                       simp only [Act.put,sA,s0,sS,i64_w,i32_w]
                       rfl
                      refine pure_ (i:=49) (N:=some 122) (v:=?_) (a':=?_) #[t_,t_,t_,t_,t_,t_,t_,t_,t_,t_,t_,t_,t_,t_,t_,t_,t_,t_,t_,t_,t_,t_,t_,t_,t_,t_,t_,t_,t_,t_,t_,t_,t_,t_,t_,t_,t_,t_,t_,t_,t_,t_,t_,t_,t_,t_,t_,t_,t_,t_,f_,f_,f_,f_,f_,f_,f_,f_,f_,f_,f_,f_,f_,f_,f_,f_,f_,f_,f_,f_,f_,f_,f_,f_,f_,f_,f_,f_,f_,f_,f_,f_,f_,f_,f_,f_,f_,f_,f_,f_,f_,f_,f_,f_,f_,f_,f_,f_] rfl rfl (any_of HT_.out (by kernel_rfl)) (fun _ _ _ h=>h) (Or.inl ⟨by rfl, ?_⟩) ?_ ?_
                      rotate_left
                      ·intro w'
                       have hfd : ∀ (s : ByteArray) (A : Option Addr) (n c : Nat) (w : World),(Instr.field 25 (.agg #[.string s,.slice A n c]) 1).run Try.prog w = .ok (.slice A n c) w:=fun _ _ _ _ _=>by kernel_rfl
                       go_simp
                       with_reducible rfl
                      rotate_left
                      ·simp only [Act.put,sA,s0,sS,i64_w,i32_w]
                       rfl
                      refine one_ (i:=50) (N:=some 123) #[t_,t_,t_,t_,t_,t_,t_,t_,t_,t_,t_,t_,t_,t_,t_,t_,t_,t_,t_,t_,t_,t_,t_,t_,t_,t_,t_,t_,t_,t_,t_,t_,t_,t_,t_,t_,t_,t_,t_,t_,t_,t_,t_,t_,t_,t_,t_,t_,t_,t_,t_,f_,f_,f_,f_,f_,f_,f_,f_,f_,f_,f_,f_,f_,f_,f_,f_,f_,f_,f_,f_,f_,f_,f_,f_,f_,f_,f_,f_,f_,f_,f_,f_,f_,f_,f_,f_,f_,f_,f_,f_,f_,f_,f_,f_,f_,f_,f_] rfl rfl (one_of HT_.out (by kernel_rfl)) (by decide) (fun K hK=>?_)
                      refine goes_ Try.func26 (by kernel_rfl) rfl #[.slice Ao61 t277.length co61,.slice Ao94 t305.length co94] (by rfl) rfl rfl (by (try simp only [mT,mC,mN]);first|done|rfl|(simp only [lDr,lTk];rfl)) ?_
                      with_reducible refine (gangsawref39_Same.calls k _ _ t277 _ _ t305 true _ ?side1 ?side2 ?side3 ?side4 A25.out).mono ?_
                      (case side1=>repeat (first|exact (Kd.R_reads' HO279.out).2.2|(with_reducible first|apply kA|apply kN|apply kD)))
                      (case side2=>exact (Kd.R_reads' HO279.out).2.1)
                      (case side3=>repeat (first|exact (Kd.R_reads' HO307.out).2.2|(with_reducible first|apply kA|apply kN|apply kD)))
                      (case side4=>exact (Kd.R_reads' HO307.out).2.1)
                      rintro e w' ⟨rfl,⟨nd,rfl⟩⟩
                      refine ⟨_,rfl, ?_⟩
                      refine hK.out _ _ ⟨(blk_cell BK271.out 0).trans rfl,(blk_cell BK271.out 1).trans rfl,(blk_cell BK281.out 0).trans rfl,(blk_cell BK281.out 1).trans rfl,(blk_cell BK287.out 0).trans rfl,(blk_cell BK287.out 1).trans rfl,(blk_cell BK253.out 0).trans rfl,(blk_cell BK253.out 1).trans rfl,(blk_cell BK301.out 0).trans rfl,(blk_cell BK301.out 1).trans rfl,(blk_cell BK302.out 0).trans rfl,(blk_cell BK302.out 1).trans rfl,hHeld.2.2.2.2.2.2.2.2.2.2.2.2.1,hHeld.2.2.2.2.2.2.2.2.2.2.2.2.2⟩ (fun hHeld=>?_)
                      clear hK K
                      refine norm_ (a':=?_) ?_ ?_
                      rotate_left
                      ·show Act.put _ (some 123) _ = _
                       simp only [Act.put,sA,s0,sS,i64_w,i32_w]
                       rfl
                      refine pure_ (i:=51) (N:=some 124) (v:=?_) (a':=?_) #[t_,t_,t_,t_,t_,t_,t_,t_,t_,t_,t_,t_,t_,t_,t_,t_,t_,t_,t_,t_,t_,t_,t_,t_,t_,t_,t_,t_,t_,t_,t_,t_,t_,t_,t_,t_,t_,t_,t_,t_,t_,t_,t_,t_,t_,t_,t_,t_,t_,t_,t_,t_,f_,f_,f_,f_,f_,f_,f_,f_,f_,f_,f_,f_,f_,f_,f_,f_,f_,f_,f_,f_,f_,f_,f_,f_,f_,f_,f_,f_,f_,f_,f_,f_,f_,f_,f_,f_,f_,f_,f_,f_,f_,f_,f_,f_,f_,f_] rfl rfl (any_of HT_.out (by kernel_rfl)) (fun _ _ _ h=>h) (Or.inl ⟨by rfl, ?_⟩) ?_ ?_
                      rotate_left
                      ·intro w'
                       go_simp
                       with_reducible rfl
                      rotate_left
                      ·simp only [Act.put,sA,s0,sS,i64_w,i32_w]
                       rfl
                      refine pure_ (i:=52) (N:=some 125) (v:=?_) (a':=?_) #[t_,t_,t_,t_,t_,t_,t_,t_,t_,t_,t_,t_,t_,t_,t_,t_,t_,t_,t_,t_,t_,t_,t_,t_,t_,t_,t_,t_,t_,t_,t_,t_,t_,t_,t_,t_,t_,t_,t_,t_,t_,t_,t_,t_,t_,t_,t_,t_,t_,t_,t_,t_,t_,f_,f_,f_,f_,f_,f_,f_,f_,f_,f_,f_,f_,f_,f_,f_,f_,f_,f_,f_,f_,f_,f_,f_,f_,f_,f_,f_,f_,f_,f_,f_,f_,f_,f_,f_,f_,f_,f_,f_,f_,f_,f_,f_,f_,f_] rfl rfl (any_of HT_.out (by kernel_rfl)) (fun _ _ _ h=>h) (Or.inl ⟨by rfl, ?_⟩) ?_ ?_
                      rotate_left
                      ·intro w'
                       go_simp
                       with_reducible rfl
                      rotate_left
                      ·simp only [Act.put,sA,s0,sS,i64_w,i32_w]
                       rfl
                      refine pure_ (i:=53) (N:=some 126) (v:=?_) (a':=?_) #[t_,t_,t_,t_,t_,t_,t_,t_,t_,t_,t_,t_,t_,t_,t_,t_,t_,t_,t_,t_,t_,t_,t_,t_,t_,t_,t_,t_,t_,t_,t_,t_,t_,t_,t_,t_,t_,t_,t_,t_,t_,t_,t_,t_,t_,t_,t_,t_,t_,t_,t_,t_,t_,t_,f_,f_,f_,f_,f_,f_,f_,f_,f_,f_,f_,f_,f_,f_,f_,f_,f_,f_,f_,f_,f_,f_,f_,f_,f_,f_,f_,f_,f_,f_,f_,f_,f_,f_,f_,f_,f_,f_,f_,f_,f_,f_,f_,f_] rfl rfl (any_of HT_.out (by kernel_rfl)) (fun _ _ _ h=>h) (Or.inl ⟨by rfl, ?_⟩) ?_ ?_
                      rotate_left
                      ·intro w'
                       go_simp
                       with_reducible rfl
                      rotate_left
                      ·simp only [Act.put,sA,s0,sS,i64_w,i32_w]
                       rfl
                      refine pure_ (i:=54) (N:=some 127) (v:=?_) (a':=?_) #[t_,t_,t_,t_,t_,t_,t_,t_,t_,t_,t_,t_,t_,t_,t_,t_,t_,t_,t_,t_,t_,t_,t_,t_,t_,t_,t_,t_,t_,t_,t_,t_,t_,t_,t_,t_,t_,t_,t_,t_,t_,t_,t_,t_,t_,t_,t_,t_,t_,t_,t_,t_,t_,t_,t_,f_,f_,f_,f_,f_,f_,f_,f_,f_,f_,f_,f_,f_,f_,f_,f_,f_,f_,f_,f_,f_,f_,f_,f_,f_,f_,f_,f_,f_,f_,f_,f_,f_,f_,f_,f_,f_,f_,f_,f_,f_,f_,f_] rfl rfl (any_of HT_.out (by kernel_rfl)) (fun _ _ _ h=>h) (Or.inl ⟨by rfl, ?_⟩) ?_ ?_
                      rotate_left
                      ·intro w'
                       go_simp
                       with_reducible rfl
                      rotate_left
                      ·simp only [Act.put,sA,s0,sS,i64_w,i32_w]
                       rfl
                      refine pure_ (i:=55) (N:=some 128) (v:=?_) (a':=?_) #[t_,t_,t_,t_,t_,t_,t_,t_,t_,t_,t_,t_,t_,t_,t_,t_,t_,t_,t_,t_,t_,t_,t_,t_,t_,t_,t_,t_,t_,t_,t_,t_,t_,t_,t_,t_,t_,t_,t_,t_,t_,t_,t_,t_,t_,t_,t_,t_,t_,t_,t_,t_,t_,t_,t_,t_,f_,f_,f_,f_,f_,f_,f_,f_,f_,f_,f_,f_,f_,f_,f_,f_,f_,f_,f_,f_,f_,f_,f_,f_,f_,f_,f_,f_,f_,f_,f_,f_,f_,f_,f_,f_,f_,f_,f_,f_,f_,f_] rfl rfl (any_of HT_.out (by kernel_rfl)) (fun _ _ _ h=>h) (Or.inl ⟨by rfl, ?_⟩) ?_ ?_
                      rotate_left
                      ·intro w'
                       go_simp
                       with_reducible rfl
                      rotate_left
                      ·simp only [Act.put,sA,s0,sS,i64_w,i32_w]
                       rfl
                      refine pure_ (i:=56) (N:=some 129) (v:=?_) (a':=?_) #[t_,t_,t_,t_,t_,t_,t_,t_,t_,t_,t_,t_,t_,t_,t_,t_,t_,t_,t_,t_,t_,t_,t_,t_,t_,t_,t_,t_,t_,t_,t_,t_,t_,t_,t_,t_,t_,t_,t_,t_,t_,t_,t_,t_,t_,t_,t_,t_,t_,t_,t_,t_,t_,t_,t_,t_,t_,f_,f_,f_,f_,f_,f_,f_,f_,f_,f_,f_,f_,f_,f_,f_,f_,f_,f_,f_,f_,f_,f_,f_,f_,f_,f_,f_,f_,f_,f_,f_,f_,f_,f_,f_,f_,f_,f_,f_,f_,f_] rfl rfl (any_of HT_.out (by kernel_rfl)) (fun _ _ _ h=>h) (Or.inl ⟨by rfl, ?_⟩) ?_ ?_
                      rotate_left
                      ·intro w'
                       go_simp
                       with_reducible rfl
                      rotate_left
                      ·simp only [Act.put,sA,s0,sS,i64_w,i32_w]
                       rfl
                      refine pure_ (i:=57) (N:=some 130) (v:=?_) (a':=?_) #[t_,t_,t_,t_,t_,t_,t_,t_,t_,t_,t_,t_,t_,t_,t_,t_,t_,t_,t_,t_,t_,t_,t_,t_,t_,t_,t_,t_,t_,t_,t_,t_,t_,t_,t_,t_,t_,t_,t_,t_,t_,t_,t_,t_,t_,t_,t_,t_,t_,t_,t_,t_,t_,t_,t_,t_,t_,t_,f_,f_,f_,f_,f_,f_,f_,f_,f_,f_,f_,f_,f_,f_,f_,f_,f_,f_,f_,f_,f_,f_,f_,f_,f_,f_,f_,f_,f_,f_,f_,f_,f_,f_,f_,f_,f_,f_,f_,f_] rfl rfl (any_of HT_.out (by kernel_rfl)) (fun _ _ _ h=>h) (Or.inl ⟨by rfl, ?_⟩) ?_ ?_
                      rotate_left
                      ·intro w'
                       go_simp
                       with_reducible rfl
                      rotate_left
                      ·simp only [Act.put,sA,s0,sS,i64_w,i32_w]
                       rfl
                      refine pure_ (i:=59) (N:=some 132) (v:=?_) (a':=?_) #[t_,t_,t_,t_,t_,t_,t_,t_,t_,t_,t_,t_,t_,t_,t_,t_,t_,t_,t_,t_,t_,t_,t_,t_,t_,t_,t_,t_,t_,t_,t_,t_,t_,t_,t_,t_,t_,t_,t_,t_,t_,t_,t_,t_,t_,t_,t_,t_,t_,t_,t_,t_,t_,t_,t_,t_,t_,t_,f_,t_,f_,f_,f_,f_,f_,f_,f_,f_,f_,f_,f_,f_,f_,f_,f_,f_,f_,f_,f_,f_,f_,f_,f_,f_,f_,f_,f_,f_,f_,f_,f_,f_,f_,f_,f_,f_,f_,f_] rfl rfl (any_of HT_.out (by kernel_rfl)) (fun _ _ _ h=>h) (Or.inl ⟨by rfl, ?_⟩) ?_ ?_
                      rotate_left
                      ·intro w'
                       go_simp
                       with_reducible rfl
                      rotate_left
                      ·simp only [Act.put,sA,s0,sS,i64_w,i32_w]
                       rfl
                      refine take_ (i:=58) (N:=some 131) (v:=?_) (a':=?_) #[t_,t_,t_,t_,t_,t_,t_,t_,t_,t_,t_,t_,t_,t_,t_,t_,t_,t_,t_,t_,t_,t_,t_,t_,t_,t_,t_,t_,t_,t_,t_,t_,t_,t_,t_,t_,t_,t_,t_,t_,t_,t_,t_,t_,t_,t_,t_,t_,t_,t_,t_,t_,t_,t_,t_,t_,t_,t_,t_,t_,f_,f_,f_,f_,f_,f_,f_,f_,f_,f_,f_,f_,f_,f_,f_,f_,f_,f_,f_,f_,f_,f_,f_,f_,f_,f_,f_,f_,f_,f_,f_,f_,f_,f_,f_,f_,f_,f_] rfl rfl (take_ofW HT_.out HW_.out (by kernel_rfl)) (fun _ _ _ h=>h) (Or.inl ⟨by rfl, ?_⟩) hHeld ?_ ?_
                      rotate_left
                      ·rintro w' ⟨s0,s1,s2,s3,s4,s5,s6,s7,s8,s9,s10,s11,s12,s13⟩
                       go_simp
                       with_reducible rfl
                      rotate_left
                      ·simp only [Act.put,sA,s0,sS,i64_w,i32_w]
                       rfl
                      refine take_ (i:=60) (N:=some 133) (v:=?_) (a':=?_) #[t_,t_,t_,t_,t_,t_,t_,t_,t_,t_,t_,t_,t_,t_,t_,t_,t_,t_,t_,t_,t_,t_,t_,t_,t_,t_,t_,t_,t_,t_,t_,t_,t_,t_,t_,t_,t_,t_,t_,t_,t_,t_,t_,t_,t_,t_,t_,t_,t_,t_,t_,t_,t_,t_,t_,t_,t_,t_,t_,t_,t_,f_,f_,f_,f_,f_,f_,f_,f_,f_,f_,f_,f_,f_,f_,f_,f_,f_,f_,f_,f_,f_,f_,f_,f_,f_,f_,f_,f_,f_,f_,f_,f_,f_,f_,f_,f_,f_] rfl rfl (take_ofW HT_.out HW_.out (by kernel_rfl)) (fun _ _ _ h=>h) (Or.inl ⟨by rfl, ?_⟩) hHeld ?_ ?_
                      rotate_left
                      ·rintro w' ⟨s0,s1,s2,s3,s4,s5,s6,s7,s8,s9,s10,s11,s12,s13⟩
                       go_simp
                       with_reducible rfl
                      rotate_left
                      ·simp only [Act.put,sA,s0,sS,i64_w,i32_w]
                       rfl
                      refine one_ (i:=61) (N:=some 134) #[t_,t_,t_,t_,t_,t_,t_,t_,t_,t_,t_,t_,t_,t_,t_,t_,t_,t_,t_,t_,t_,t_,t_,t_,t_,t_,t_,t_,t_,t_,t_,t_,t_,t_,t_,t_,t_,t_,t_,t_,t_,t_,t_,t_,t_,t_,t_,t_,t_,t_,t_,t_,t_,t_,t_,t_,t_,t_,t_,t_,t_,t_,f_,f_,f_,f_,f_,f_,f_,f_,f_,f_,f_,f_,f_,f_,f_,f_,f_,f_,f_,f_,f_,f_,f_,f_,f_,f_,f_,f_,f_,f_,f_,f_,f_,f_,f_,f_] rfl rfl (one_of HT_.out (by kernel_rfl)) (by decide) (fun K hK=>?_)
                      refine goes_ Try.func26 (by kernel_rfl) rfl #[.slice Ao69 t283.length co69,.slice Ao40 y250.length co40] (by rfl) rfl rfl (by (try simp only [mT,mC,mN]);first|done|rfl|(simp only [lDr,lTk];rfl)) ?_
                      with_reducible refine (gangsawref39_Same.calls k _ _ t283 _ _ y250 true _ ?side1 ?side2 ?side3 ?side4 A28.out).mono ?_
                      (case side1=>repeat (first|exact (Kd.R_reads' HO285.out).2.2|(with_reducible first|apply kA|apply kN|apply kD)))
                      (case side2=>exact (Kd.R_reads' HO285.out).2.1)
                      (case side3=>repeat (first|exact (Kd.R_reads' HO252.out).2.2|(with_reducible first|apply kA|apply kN|apply kD)))
                      (case side4=>exact (Kd.R_reads' HO252.out).2.1)
                      rintro e w' ⟨rfl,⟨nd,rfl⟩⟩
                      refine ⟨_,rfl, ?_⟩
                      refine hK.out _ _ ⟨(blk_cell BK271.out 0).trans rfl,(blk_cell BK271.out 1).trans rfl,(blk_cell BK281.out 0).trans rfl,(blk_cell BK281.out 1).trans rfl,(blk_cell BK287.out 0).trans rfl,(blk_cell BK287.out 1).trans rfl,(blk_cell BK253.out 0).trans rfl,(blk_cell BK253.out 1).trans rfl,(blk_cell BK301.out 0).trans rfl,(blk_cell BK301.out 1).trans rfl,(blk_cell BK302.out 0).trans rfl,(blk_cell BK302.out 1).trans rfl,hHeld.2.2.2.2.2.2.2.2.2.2.2.2.1,hHeld.2.2.2.2.2.2.2.2.2.2.2.2.2⟩ (fun hHeld=>?_)
                      clear hK K
                      refine norm_ (a':=?_) ?_ ?_
                      rotate_left
                      ·show Act.put _ (some 134) _ = _
                       simp only [Act.put,sA,s0,sS,i64_w,i32_w]
                       rfl
                      refine pure_ (i:=62) (N:=some 135) (v:=?_) (a':=?_) #[t_,t_,t_,t_,t_,t_,t_,t_,t_,t_,t_,t_,t_,t_,t_,t_,t_,t_,t_,t_,t_,t_,t_,t_,t_,t_,t_,t_,t_,t_,t_,t_,t_,t_,t_,t_,t_,t_,t_,t_,t_,t_,t_,t_,t_,t_,t_,t_,t_,t_,t_,t_,t_,t_,t_,t_,t_,t_,t_,t_,t_,t_,t_,f_,f_,f_,f_,f_,f_,f_,f_,f_,f_,f_,f_,f_,f_,f_,f_,f_,f_,f_,f_,f_,f_,f_,f_,f_,f_,f_,f_,f_,f_,f_,f_,f_,f_,f_] rfl rfl (any_of HT_.out (by kernel_rfl)) (fun _ _ _ h=>h) (Or.inl ⟨by rfl, ?_⟩) ?_ ?_
                      rotate_left
                      ·intro w'
                       go_simp
                       with_reducible rfl
                      rotate_left
                      ·simp only [Act.put,sA,s0,sS,i64_w,i32_w]
                       rfl
                      refine pure_ (i:=63) (N:=some 136) (v:=?_) (a':=?_) #[t_,t_,t_,t_,t_,t_,t_,t_,t_,t_,t_,t_,t_,t_,t_,t_,t_,t_,t_,t_,t_,t_,t_,t_,t_,t_,t_,t_,t_,t_,t_,t_,t_,t_,t_,t_,t_,t_,t_,t_,t_,t_,t_,t_,t_,t_,t_,t_,t_,t_,t_,t_,t_,t_,t_,t_,t_,t_,t_,t_,t_,t_,t_,t_,f_,f_,f_,f_,f_,f_,f_,f_,f_,f_,f_,f_,f_,f_,f_,f_,f_,f_,f_,f_,f_,f_,f_,f_,f_,f_,f_,f_,f_,f_,f_,f_,f_,f_] rfl rfl (any_of HT_.out (by kernel_rfl)) (fun _ _ _ h=>h) (Or.inl ⟨by rfl, ?_⟩) ?_ ?_
                      rotate_left
                      ·intro w'
                       go_simp
                       with_reducible rfl
                      rotate_left
                      ·simp only [Act.put,sA,s0,sS,i64_w,i32_w]
                       rfl
                      refine pure_ (i:=64) (N:=some 137) (v:=?_) (a':=?_) #[t_,t_,t_,t_,t_,t_,t_,t_,t_,t_,t_,t_,t_,t_,t_,t_,t_,t_,t_,t_,t_,t_,t_,t_,t_,t_,t_,t_,t_,t_,t_,t_,t_,t_,t_,t_,t_,t_,t_,t_,t_,t_,t_,t_,t_,t_,t_,t_,t_,t_,t_,t_,t_,t_,t_,t_,t_,t_,t_,t_,t_,t_,t_,t_,t_,f_,f_,f_,f_,f_,f_,f_,f_,f_,f_,f_,f_,f_,f_,f_,f_,f_,f_,f_,f_,f_,f_,f_,f_,f_,f_,f_,f_,f_,f_,f_,f_,f_] rfl rfl (any_of HT_.out (by kernel_rfl)) (fun _ _ _ h=>h) (Or.inl ⟨by rfl, ?_⟩) ?_ ?_
                      rotate_left
                      ·intro w'
                       go_simp
                       with_reducible rfl
                      rotate_left
                      ·simp only [Act.put,sA,s0,sS,i64_w,i32_w]
                       rfl
                      refine pure_ (i:=65) (N:=some 138) (v:=?_) (a':=?_) #[t_,t_,t_,t_,t_,t_,t_,t_,t_,t_,t_,t_,t_,t_,t_,t_,t_,t_,t_,t_,t_,t_,t_,t_,t_,t_,t_,t_,t_,t_,t_,t_,t_,t_,t_,t_,t_,t_,t_,t_,t_,t_,t_,t_,t_,t_,t_,t_,t_,t_,t_,t_,t_,t_,t_,t_,t_,t_,t_,t_,t_,t_,t_,t_,t_,t_,f_,f_,f_,f_,f_,f_,f_,f_,f_,f_,f_,f_,f_,f_,f_,f_,f_,f_,f_,f_,f_,f_,f_,f_,f_,f_,f_,f_,f_,f_,f_,f_] rfl rfl (any_of HT_.out (by kernel_rfl)) (fun _ _ _ h=>h) (Or.inl ⟨by rfl, ?_⟩) ?_ ?_
                      rotate_left
                      ·intro w'
                       go_simp
                       with_reducible rfl
                      rotate_left
                      ·simp only [Act.put,sA,s0,sS,i64_w,i32_w]
                       rfl
                      refine pure_ (i:=66) (N:=some 139) (v:=?_) (a':=?_) #[t_,t_,t_,t_,t_,t_,t_,t_,t_,t_,t_,t_,t_,t_,t_,t_,t_,t_,t_,t_,t_,t_,t_,t_,t_,t_,t_,t_,t_,t_,t_,t_,t_,t_,t_,t_,t_,t_,t_,t_,t_,t_,t_,t_,t_,t_,t_,t_,t_,t_,t_,t_,t_,t_,t_,t_,t_,t_,t_,t_,t_,t_,t_,t_,t_,t_,t_,f_,f_,f_,f_,f_,f_,f_,f_,f_,f_,f_,f_,f_,f_,f_,f_,f_,f_,f_,f_,f_,f_,f_,f_,f_,f_,f_,f_,f_,f_,f_] rfl rfl (any_of HT_.out (by kernel_rfl)) (fun _ _ _ h=>h) (Or.inl ⟨by rfl, ?_⟩) ?_ ?_
                      rotate_left
                      ·intro w'
                       go_simp
                       with_reducible rfl
                      rotate_left
                      ·simp only [Act.put,sA,s0,sS,i64_w,i32_w]
                       rfl
                      refine pure_ (i:=67) (N:=some 140) (v:=?_) (a':=?_) #[t_,t_,t_,t_,t_,t_,t_,t_,t_,t_,t_,t_,t_,t_,t_,t_,t_,t_,t_,t_,t_,t_,t_,t_,t_,t_,t_,t_,t_,t_,t_,t_,t_,t_,t_,t_,t_,t_,t_,t_,t_,t_,t_,t_,t_,t_,t_,t_,t_,t_,t_,t_,t_,t_,t_,t_,t_,t_,t_,t_,t_,t_,t_,t_,t_,t_,t_,t_,f_,f_,f_,f_,f_,f_,f_,f_,f_,f_,f_,f_,f_,f_,f_,f_,f_,f_,f_,f_,f_,f_,f_,f_,f_,f_,f_,f_,f_,f_] rfl rfl (any_of HT_.out (by kernel_rfl)) (fun _ _ _ h=>h) (Or.inl ⟨by rfl, ?_⟩) ?_ ?_
                      rotate_left
                      ·intro w'
                       go_simp
                       with_reducible rfl
                      rotate_left
                      ·simp only [Act.put,sA,s0,sS,i64_w,i32_w]
                       rfl
                      refine pure_ (i:=68) (N:=some 141) (v:=?_) (a':=?_) #[t_,t_,t_,t_,t_,t_,t_,t_,t_,t_,t_,t_,t_,t_,t_,t_,t_,t_,t_,t_,t_,t_,t_,t_,t_,t_,t_,t_,t_,t_,t_,t_,t_,t_,t_,t_,t_,t_,t_,t_,t_,t_,t_,t_,t_,t_,t_,t_,t_,t_,t_,t_,t_,t_,t_,t_,t_,t_,t_,t_,t_,t_,t_,t_,t_,t_,t_,t_,t_,f_,f_,f_,f_,f_,f_,f_,f_,f_,f_,f_,f_,f_,f_,f_,f_,f_,f_,f_,f_,f_,f_,f_,f_,f_,f_,f_,f_,f_] rfl rfl (any_of HT_.out (by kernel_rfl)) (fun _ _ _ h=>h) (Or.inl ⟨by rfl, ?_⟩) ?_ ?_
                      rotate_left
                      ·intro w'
                       go_simp
                       with_reducible rfl
                      rotate_left
                      ·simp only [Act.put,sA,s0,sS,i64_w,i32_w]
                       rfl
                      refine pure_ (i:=69) (N:=some 142) (v:=?_) (a':=?_) #[t_,t_,t_,t_,t_,t_,t_,t_,t_,t_,t_,t_,t_,t_,t_,t_,t_,t_,t_,t_,t_,t_,t_,t_,t_,t_,t_,t_,t_,t_,t_,t_,t_,t_,t_,t_,t_,t_,t_,t_,t_,t_,t_,t_,t_,t_,t_,t_,t_,t_,t_,t_,t_,t_,t_,t_,t_,t_,t_,t_,t_,t_,t_,t_,t_,t_,t_,t_,t_,t_,f_,f_,f_,f_,f_,f_,f_,f_,f_,f_,f_,f_,f_,f_,f_,f_,f_,f_,f_,f_,f_,f_,f_,f_,f_,f_,f_,f_] rfl rfl (any_of HT_.out (by kernel_rfl)) (fun _ _ _ h=>h) (Or.inl ⟨by rfl, ?_⟩) ?_ ?_
                      rotate_left
                      ·intro w'
                       go_simp
                       with_reducible rfl
                      rotate_left
                      ·simp only [Act.put,sA,s0,sS,i64_w,i32_w]
                       rfl
                      refine pure_ (i:=70) (N:=some 143) (v:=?_) (a':=?_) #[t_,t_,t_,t_,t_,t_,t_,t_,t_,t_,t_,t_,t_,t_,t_,t_,t_,t_,t_,t_,t_,t_,t_,t_,t_,t_,t_,t_,t_,t_,t_,t_,t_,t_,t_,t_,t_,t_,t_,t_,t_,t_,t_,t_,t_,t_,t_,t_,t_,t_,t_,t_,t_,t_,t_,t_,t_,t_,t_,t_,t_,t_,t_,t_,t_,t_,t_,t_,t_,t_,t_,f_,f_,f_,f_,f_,f_,f_,f_,f_,f_,f_,f_,f_,f_,f_,f_,f_,f_,f_,f_,f_,f_,f_,f_,f_,f_,f_] rfl rfl (any_of HT_.out (by kernel_rfl)) (fun _ _ _ h=>h) (Or.inl ⟨by rfl, ?_⟩) ?_ ?_
                      rotate_left
                      ·intro w'
                       go_simp
                       with_reducible rfl
                      rotate_left
                      ·simp only [Act.put,sA,s0,sS,i64_w,i32_w]
                       rfl
                      refine pure_ (i:=71) (N:=some 144) (v:=?_) (a':=?_) #[t_,t_,t_,t_,t_,t_,t_,t_,t_,t_,t_,t_,t_,t_,t_,t_,t_,t_,t_,t_,t_,t_,t_,t_,t_,t_,t_,t_,t_,t_,t_,t_,t_,t_,t_,t_,t_,t_,t_,t_,t_,t_,t_,t_,t_,t_,t_,t_,t_,t_,t_,t_,t_,t_,t_,t_,t_,t_,t_,t_,t_,t_,t_,t_,t_,t_,t_,t_,t_,t_,t_,t_,f_,f_,f_,f_,f_,f_,f_,f_,f_,f_,f_,f_,f_,f_,f_,f_,f_,f_,f_,f_,f_,f_,f_,f_,f_,f_] rfl rfl (any_of HT_.out (by kernel_rfl)) (fun _ _ _ h=>h) (Or.inl ⟨by rfl, ?_⟩) ?_ ?_
                      rotate_left
                      ·intro w'
                       go_simp
                       with_reducible rfl
                      rotate_left
                      ·simp only [Act.put,sA,s0,sS,i64_w,i32_w]
                       rfl
                      refine pure_ (i:=72) (N:=some 145) (v:=?_) (a':=?_) #[t_,t_,t_,t_,t_,t_,t_,t_,t_,t_,t_,t_,t_,t_,t_,t_,t_,t_,t_,t_,t_,t_,t_,t_,t_,t_,t_,t_,t_,t_,t_,t_,t_,t_,t_,t_,t_,t_,t_,t_,t_,t_,t_,t_,t_,t_,t_,t_,t_,t_,t_,t_,t_,t_,t_,t_,t_,t_,t_,t_,t_,t_,t_,t_,t_,t_,t_,t_,t_,t_,t_,t_,t_,f_,f_,f_,f_,f_,f_,f_,f_,f_,f_,f_,f_,f_,f_,f_,f_,f_,f_,f_,f_,f_,f_,f_,f_,f_] rfl rfl (any_of HT_.out (by kernel_rfl)) (fun _ _ _ h=>h) (Or.inl ⟨by rfl, ?_⟩) ?_ ?_
                      rotate_left
                      ·intro w'
                       go_simp
                       with_reducible rfl
                      rotate_left
                      ·simp only [Act.put,sA,s0,sS,i64_w,i32_w]
                       rfl
                      refine pure_ (i:=73) (N:=some 146) (v:=?_) (a':=?_) #[t_,t_,t_,t_,t_,t_,t_,t_,t_,t_,t_,t_,t_,t_,t_,t_,t_,t_,t_,t_,t_,t_,t_,t_,t_,t_,t_,t_,t_,t_,t_,t_,t_,t_,t_,t_,t_,t_,t_,t_,t_,t_,t_,t_,t_,t_,t_,t_,t_,t_,t_,t_,t_,t_,t_,t_,t_,t_,t_,t_,t_,t_,t_,t_,t_,t_,t_,t_,t_,t_,t_,t_,t_,t_,f_,f_,f_,f_,f_,f_,f_,f_,f_,f_,f_,f_,f_,f_,f_,f_,f_,f_,f_,f_,f_,f_,f_,f_] rfl rfl (any_of HT_.out (by kernel_rfl)) (fun _ _ _ h=>h) (Or.inl ⟨by rfl, ?_⟩) ?_ ?_
                      rotate_left
                      ·intro w'
                       go_simp
                       with_reducible rfl
                      rotate_left
                      ·simp only [Act.put,sA,s0,sS,i64_w,i32_w]
                       rfl
                      refine pure_ (i:=74) (N:=some 147) (v:=?_) (a':=?_) #[t_,t_,t_,t_,t_,t_,t_,t_,t_,t_,t_,t_,t_,t_,t_,t_,t_,t_,t_,t_,t_,t_,t_,t_,t_,t_,t_,t_,t_,t_,t_,t_,t_,t_,t_,t_,t_,t_,t_,t_,t_,t_,t_,t_,t_,t_,t_,t_,t_,t_,t_,t_,t_,t_,t_,t_,t_,t_,t_,t_,t_,t_,t_,t_,t_,t_,t_,t_,t_,t_,t_,t_,t_,t_,t_,f_,f_,f_,f_,f_,f_,f_,f_,f_,f_,f_,f_,f_,f_,f_,f_,f_,f_,f_,f_,f_,f_,f_] rfl rfl (any_of HT_.out (by kernel_rfl)) (fun _ _ _ h=>h) (Or.inl ⟨by rfl, ?_⟩) ?_ ?_
                      rotate_left
                      ·intro w'
                       go_simp
                       with_reducible rfl
                      rotate_left
                      ·simp only [Act.put,sA,s0,sS,i64_w,i32_w]
                       rfl
                      refine pure_ (i:=75) (N:=some 148) (v:=?_) (a':=?_) #[t_,t_,t_,t_,t_,t_,t_,t_,t_,t_,t_,t_,t_,t_,t_,t_,t_,t_,t_,t_,t_,t_,t_,t_,t_,t_,t_,t_,t_,t_,t_,t_,t_,t_,t_,t_,t_,t_,t_,t_,t_,t_,t_,t_,t_,t_,t_,t_,t_,t_,t_,t_,t_,t_,t_,t_,t_,t_,t_,t_,t_,t_,t_,t_,t_,t_,t_,t_,t_,t_,t_,t_,t_,t_,t_,t_,f_,f_,f_,f_,f_,f_,f_,f_,f_,f_,f_,f_,f_,f_,f_,f_,f_,f_,f_,f_,f_,f_] rfl rfl (any_of HT_.out (by kernel_rfl)) (fun _ _ _ h=>h) (Or.inl ⟨by rfl, ?_⟩) ?_ ?_
                      rotate_left
                      ·intro w'
                       go_simp
                       with_reducible rfl
                      rotate_left
                      ·simp only [Act.put,sA,s0,sS,i64_w,i32_w]
                       rfl
                      refine pure_ (i:=76) (N:=some 149) (v:=?_) (a':=?_) #[t_,t_,t_,t_,t_,t_,t_,t_,t_,t_,t_,t_,t_,t_,t_,t_,t_,t_,t_,t_,t_,t_,t_,t_,t_,t_,t_,t_,t_,t_,t_,t_,t_,t_,t_,t_,t_,t_,t_,t_,t_,t_,t_,t_,t_,t_,t_,t_,t_,t_,t_,t_,t_,t_,t_,t_,t_,t_,t_,t_,t_,t_,t_,t_,t_,t_,t_,t_,t_,t_,t_,t_,t_,t_,t_,t_,t_,f_,f_,f_,f_,f_,f_,f_,f_,f_,f_,f_,f_,f_,f_,f_,f_,f_,f_,f_,f_,f_] rfl rfl (any_of HT_.out (by kernel_rfl)) (fun _ _ _ h=>h) (Or.inl ⟨by rfl, ?_⟩) ?_ ?_
                      rotate_left
                      ·intro w'
                       go_simp
                       with_reducible rfl
                      rotate_left
                      ·simp only [Act.put,sA,s0,sS,i64_w,i32_w]
                       rfl
                      refine pure_ (i:=77) (N:=some 150) (v:=?_) (a':=?_) #[t_,t_,t_,t_,t_,t_,t_,t_,t_,t_,t_,t_,t_,t_,t_,t_,t_,t_,t_,t_,t_,t_,t_,t_,t_,t_,t_,t_,t_,t_,t_,t_,t_,t_,t_,t_,t_,t_,t_,t_,t_,t_,t_,t_,t_,t_,t_,t_,t_,t_,t_,t_,t_,t_,t_,t_,t_,t_,t_,t_,t_,t_,t_,t_,t_,t_,t_,t_,t_,t_,t_,t_,t_,t_,t_,t_,t_,t_,f_,f_,f_,f_,f_,f_,f_,f_,f_,f_,f_,f_,f_,f_,f_,f_,f_,f_,f_,f_] rfl rfl (any_of HT_.out (by kernel_rfl)) (fun _ _ _ h=>h) (Or.inl ⟨by rfl, ?_⟩) ?_ ?_
                      rotate_left
                      ·intro w'
                       go_simp
                       with_reducible rfl
                      rotate_left
                      ·simp only [Act.put,sA,s0,sS,i64_w,i32_w]
                       rfl
                      refine pure_ (i:=78) (N:=some 151) (v:=?_) (a':=?_) #[t_,t_,t_,t_,t_,t_,t_,t_,t_,t_,t_,t_,t_,t_,t_,t_,t_,t_,t_,t_,t_,t_,t_,t_,t_,t_,t_,t_,t_,t_,t_,t_,t_,t_,t_,t_,t_,t_,t_,t_,t_,t_,t_,t_,t_,t_,t_,t_,t_,t_,t_,t_,t_,t_,t_,t_,t_,t_,t_,t_,t_,t_,t_,t_,t_,t_,t_,t_,t_,t_,t_,t_,t_,t_,t_,t_,t_,t_,t_,f_,f_,f_,f_,f_,f_,f_,f_,f_,f_,f_,f_,f_,f_,f_,f_,f_,f_,f_] rfl rfl (any_of HT_.out (by kernel_rfl)) (fun _ _ _ h=>h) (Or.inl ⟨by rfl, ?_⟩) ?_ ?_
                      rotate_left
                      ·intro w'
                       go_simp
                       with_reducible rfl
                      rotate_left
                      ·simp only [Act.put,sA,s0,sS,i64_w,i32_w]
                       rfl
                      refine pure_ (i:=79) (N:=some 152) (v:=?_) (a':=?_) #[t_,t_,t_,t_,t_,t_,t_,t_,t_,t_,t_,t_,t_,t_,t_,t_,t_,t_,t_,t_,t_,t_,t_,t_,t_,t_,t_,t_,t_,t_,t_,t_,t_,t_,t_,t_,t_,t_,t_,t_,t_,t_,t_,t_,t_,t_,t_,t_,t_,t_,t_,t_,t_,t_,t_,t_,t_,t_,t_,t_,t_,t_,t_,t_,t_,t_,t_,t_,t_,t_,t_,t_,t_,t_,t_,t_,t_,t_,t_,t_,f_,f_,f_,f_,f_,f_,f_,f_,f_,f_,f_,f_,f_,f_,f_,f_,f_,f_] rfl rfl (any_of HT_.out (by kernel_rfl)) (fun _ _ _ h=>h) (Or.inl ⟨by rfl, ?_⟩) ?_ ?_
                      rotate_left
                      ·intro w'
                       go_simp
                       with_reducible rfl
                      rotate_left
                      ·simp only [Act.put,sA,s0,sS,i64_w,i32_w]
                       rfl
                      refine pure_ (i:=80) (N:=some 153) (v:=?_) (a':=?_) #[t_,t_,t_,t_,t_,t_,t_,t_,t_,t_,t_,t_,t_,t_,t_,t_,t_,t_,t_,t_,t_,t_,t_,t_,t_,t_,t_,t_,t_,t_,t_,t_,t_,t_,t_,t_,t_,t_,t_,t_,t_,t_,t_,t_,t_,t_,t_,t_,t_,t_,t_,t_,t_,t_,t_,t_,t_,t_,t_,t_,t_,t_,t_,t_,t_,t_,t_,t_,t_,t_,t_,t_,t_,t_,t_,t_,t_,t_,t_,t_,t_,f_,f_,f_,f_,f_,f_,f_,f_,f_,f_,f_,f_,f_,f_,f_,f_,f_] rfl rfl (any_of HT_.out (by kernel_rfl)) (fun _ _ _ h=>h) (Or.inl ⟨by rfl, ?_⟩) ?_ ?_
                      rotate_left
                      ·intro w'
                       go_simp
                       with_reducible rfl
                      rotate_left
                      ·simp only [Act.put,sA,s0,sS,i64_w,i32_w]
                       rfl
                      refine pure_ (i:=81) (N:=some 154) (v:=?_) (a':=?_) #[t_,t_,t_,t_,t_,t_,t_,t_,t_,t_,t_,t_,t_,t_,t_,t_,t_,t_,t_,t_,t_,t_,t_,t_,t_,t_,t_,t_,t_,t_,t_,t_,t_,t_,t_,t_,t_,t_,t_,t_,t_,t_,t_,t_,t_,t_,t_,t_,t_,t_,t_,t_,t_,t_,t_,t_,t_,t_,t_,t_,t_,t_,t_,t_,t_,t_,t_,t_,t_,t_,t_,t_,t_,t_,t_,t_,t_,t_,t_,t_,t_,t_,f_,f_,f_,f_,f_,f_,f_,f_,f_,f_,f_,f_,f_,f_,f_,f_] rfl rfl (any_of HT_.out (by kernel_rfl)) (fun _ _ _ h=>h) (Or.inl ⟨by rfl, ?_⟩) ?_ ?_
                      rotate_left
                      ·intro w'
                       go_simp
                       with_reducible rfl
                      rotate_left
                      ·simp only [Act.put,sA,s0,sS,i64_w,i32_w]
                       rfl
                      refine pure_ (i:=82) (N:=some 155) (v:=?_) (a':=?_) #[t_,t_,t_,t_,t_,t_,t_,t_,t_,t_,t_,t_,t_,t_,t_,t_,t_,t_,t_,t_,t_,t_,t_,t_,t_,t_,t_,t_,t_,t_,t_,t_,t_,t_,t_,t_,t_,t_,t_,t_,t_,t_,t_,t_,t_,t_,t_,t_,t_,t_,t_,t_,t_,t_,t_,t_,t_,t_,t_,t_,t_,t_,t_,t_,t_,t_,t_,t_,t_,t_,t_,t_,t_,t_,t_,t_,t_,t_,t_,t_,t_,t_,t_,f_,f_,f_,f_,f_,f_,f_,f_,f_,f_,f_,f_,f_,f_,f_] rfl rfl (any_of HT_.out (by kernel_rfl)) (fun _ _ _ h=>h) (Or.inl ⟨by rfl, ?_⟩) ?_ ?_
                      rotate_left
                      ·intro w'
                       go_simp
                       with_reducible rfl
                      rotate_left
                      ·simp only [Act.put,sA,s0,sS,i64_w,i32_w]
                       rfl
                      refine pure_ (i:=84) (N:=some 157) (v:=?_) (a':=?_) #[t_,t_,t_,t_,t_,t_,t_,t_,t_,t_,t_,t_,t_,t_,t_,t_,t_,t_,t_,t_,t_,t_,t_,t_,t_,t_,t_,t_,t_,t_,t_,t_,t_,t_,t_,t_,t_,t_,t_,t_,t_,t_,t_,t_,t_,t_,t_,t_,t_,t_,t_,t_,t_,t_,t_,t_,t_,t_,t_,t_,t_,t_,t_,t_,t_,t_,t_,t_,t_,t_,t_,t_,t_,t_,t_,t_,t_,t_,t_,t_,t_,t_,t_,f_,t_,f_,f_,f_,f_,f_,f_,f_,f_,f_,f_,f_,f_,f_] rfl rfl (any_of HT_.out (by kernel_rfl)) (fun _ _ _ h=>h) (Or.inl ⟨by rfl, ?_⟩) ?_ ?_
                      rotate_left
                      ·intro w'
                       go_simp
                       with_reducible rfl
                      rotate_left
                      ·simp only [Act.put,sA,s0,sS,i64_w,i32_w]
                       rfl
                      refine take_ (i:=83) (N:=some 156) (v:=?_) (a':=?_) #[t_,t_,t_,t_,t_,t_,t_,t_,t_,t_,t_,t_,t_,t_,t_,t_,t_,t_,t_,t_,t_,t_,t_,t_,t_,t_,t_,t_,t_,t_,t_,t_,t_,t_,t_,t_,t_,t_,t_,t_,t_,t_,t_,t_,t_,t_,t_,t_,t_,t_,t_,t_,t_,t_,t_,t_,t_,t_,t_,t_,t_,t_,t_,t_,t_,t_,t_,t_,t_,t_,t_,t_,t_,t_,t_,t_,t_,t_,t_,t_,t_,t_,t_,t_,t_,f_,f_,f_,f_,f_,f_,f_,f_,f_,f_,f_,f_,f_] rfl rfl (take_ofW HT_.out HW_.out (by kernel_rfl)) (fun _ _ _ h=>h) (Or.inl ⟨by rfl, ?_⟩) hHeld ?_ ?_
                      rotate_left
                      ·rintro w' ⟨s0,s1,s2,s3,s4,s5,s6,s7,s8,s9,s10,s11,s12,s13⟩
                       go_simp
                       with_reducible rfl
                      rotate_left
                      ·simp only [Act.put,sA,s0,sS,i64_w,i32_w]
                       rfl
                      refine pure_ (i:=85) (N:=some 158) (v:=?_) (a':=?_) #[t_,t_,t_,t_,t_,t_,t_,t_,t_,t_,t_,t_,t_,t_,t_,t_,t_,t_,t_,t_,t_,t_,t_,t_,t_,t_,t_,t_,t_,t_,t_,t_,t_,t_,t_,t_,t_,t_,t_,t_,t_,t_,t_,t_,t_,t_,t_,t_,t_,t_,t_,t_,t_,t_,t_,t_,t_,t_,t_,t_,t_,t_,t_,t_,t_,t_,t_,t_,t_,t_,t_,t_,t_,t_,t_,t_,t_,t_,t_,t_,t_,t_,t_,t_,t_,t_,f_,f_,f_,f_,f_,f_,f_,f_,f_,f_,f_,f_] rfl rfl (any_of HT_.out (by kernel_rfl)) (fun _ _ _ h=>h) (Or.inl ⟨by rfl, ?_⟩) ?_ ?_
                      rotate_left
                      ·intro w'
                       go_simp
                       with_reducible rfl
                      rotate_left
                      ·simp only [Act.put,sA,s0,sS,i64_w,i32_w]
                       rfl
                      refine pure_ (i:=86) (N:=some 159) (v:=?_) (a':=?_) #[t_,t_,t_,t_,t_,t_,t_,t_,t_,t_,t_,t_,t_,t_,t_,t_,t_,t_,t_,t_,t_,t_,t_,t_,t_,t_,t_,t_,t_,t_,t_,t_,t_,t_,t_,t_,t_,t_,t_,t_,t_,t_,t_,t_,t_,t_,t_,t_,t_,t_,t_,t_,t_,t_,t_,t_,t_,t_,t_,t_,t_,t_,t_,t_,t_,t_,t_,t_,t_,t_,t_,t_,t_,t_,t_,t_,t_,t_,t_,t_,t_,t_,t_,t_,t_,t_,t_,f_,f_,f_,f_,f_,f_,f_,f_,f_,f_,f_] rfl rfl (any_of HT_.out (by kernel_rfl)) (fun _ _ _ h=>h) (Or.inl ⟨by rfl, ?_⟩) ?_ ?_
                      rotate_left
                      ·intro w'
                       go_simp
                       with_reducible rfl
                      rotate_left
                      ·simp only [Act.put,sA,s0,sS,i64_w,i32_w]
                       rfl
                      refine pure_ (i:=87) (N:=some 160) (v:=?_) (a':=?_) #[t_,t_,t_,t_,t_,t_,t_,t_,t_,t_,t_,t_,t_,t_,t_,t_,t_,t_,t_,t_,t_,t_,t_,t_,t_,t_,t_,t_,t_,t_,t_,t_,t_,t_,t_,t_,t_,t_,t_,t_,t_,t_,t_,t_,t_,t_,t_,t_,t_,t_,t_,t_,t_,t_,t_,t_,t_,t_,t_,t_,t_,t_,t_,t_,t_,t_,t_,t_,t_,t_,t_,t_,t_,t_,t_,t_,t_,t_,t_,t_,t_,t_,t_,t_,t_,t_,t_,t_,f_,f_,f_,f_,f_,f_,f_,f_,f_,f_] rfl rfl (any_of HT_.out (by kernel_rfl)) (fun _ _ _ h=>h) (Or.inl ⟨by rfl, ?_⟩) ?_ ?_
                      rotate_left
                      ·intro w'
                       go_simp
                       with_reducible rfl
                      rotate_left
                      ·simp only [Act.put,sA,s0,sS,i64_w,i32_w]
                       rfl
                      refine pure_ (i:=89) (N:=some 162) (v:=?_) (a':=?_) #[t_,t_,t_,t_,t_,t_,t_,t_,t_,t_,t_,t_,t_,t_,t_,t_,t_,t_,t_,t_,t_,t_,t_,t_,t_,t_,t_,t_,t_,t_,t_,t_,t_,t_,t_,t_,t_,t_,t_,t_,t_,t_,t_,t_,t_,t_,t_,t_,t_,t_,t_,t_,t_,t_,t_,t_,t_,t_,t_,t_,t_,t_,t_,t_,t_,t_,t_,t_,t_,t_,t_,t_,t_,t_,t_,t_,t_,t_,t_,t_,t_,t_,t_,t_,t_,t_,t_,t_,f_,t_,f_,f_,f_,f_,f_,f_,f_,f_] rfl rfl (any_of HT_.out (by kernel_rfl)) (fun _ _ _ h=>h) (Or.inl ⟨by rfl, ?_⟩) ?_ ?_
                      rotate_left
                      ·intro w'
                       go_simp
                       with_reducible rfl
                      rotate_left
                      ·simp only [Act.put,sA,s0,sS,i64_w,i32_w]
                       rfl
                      refine take_ (i:=88) (N:=some 161) (v:=?_) (a':=?_) #[t_,t_,t_,t_,t_,t_,t_,t_,t_,t_,t_,t_,t_,t_,t_,t_,t_,t_,t_,t_,t_,t_,t_,t_,t_,t_,t_,t_,t_,t_,t_,t_,t_,t_,t_,t_,t_,t_,t_,t_,t_,t_,t_,t_,t_,t_,t_,t_,t_,t_,t_,t_,t_,t_,t_,t_,t_,t_,t_,t_,t_,t_,t_,t_,t_,t_,t_,t_,t_,t_,t_,t_,t_,t_,t_,t_,t_,t_,t_,t_,t_,t_,t_,t_,t_,t_,t_,t_,t_,t_,f_,f_,f_,f_,f_,f_,f_,f_] rfl rfl (take_ofW HT_.out HW_.out (by kernel_rfl)) (fun _ _ _ h=>h) (Or.inl ⟨by rfl, ?_⟩) hHeld ?_ ?_
                      rotate_left
                      ·rintro w' ⟨s0,s1,s2,s3,s4,s5,s6,s7,s8,s9,s10,s11,s12,s13⟩
                       go_simp
                       with_reducible rfl
                      rotate_left
                      ·simp only [Act.put,sA,s0,sS,i64_w,i32_w]
                       rfl
                      refine pure_ (i:=90) (N:=some 163) (v:=?_) (a':=?_) #[t_,t_,t_,t_,t_,t_,t_,t_,t_,t_,t_,t_,t_,t_,t_,t_,t_,t_,t_,t_,t_,t_,t_,t_,t_,t_,t_,t_,t_,t_,t_,t_,t_,t_,t_,t_,t_,t_,t_,t_,t_,t_,t_,t_,t_,t_,t_,t_,t_,t_,t_,t_,t_,t_,t_,t_,t_,t_,t_,t_,t_,t_,t_,t_,t_,t_,t_,t_,t_,t_,t_,t_,t_,t_,t_,t_,t_,t_,t_,t_,t_,t_,t_,t_,t_,t_,t_,t_,t_,t_,t_,f_,f_,f_,f_,f_,f_,f_] rfl rfl (any_of HT_.out (by kernel_rfl)) (fun _ _ _ h=>h) (Or.inl ⟨by rfl, ?_⟩) ?_ ?_
                      rotate_left
                      ·intro w'
                       go_simp
                       with_reducible rfl
                      rotate_left
                      ·simp only [Act.put,sA,s0,sS,i64_w,i32_w]
                       rfl
                      refine pure_ (i:=91) (N:=some 164) (v:=?_) (a':=?_) #[t_,t_,t_,t_,t_,t_,t_,t_,t_,t_,t_,t_,t_,t_,t_,t_,t_,t_,t_,t_,t_,t_,t_,t_,t_,t_,t_,t_,t_,t_,t_,t_,t_,t_,t_,t_,t_,t_,t_,t_,t_,t_,t_,t_,t_,t_,t_,t_,t_,t_,t_,t_,t_,t_,t_,t_,t_,t_,t_,t_,t_,t_,t_,t_,t_,t_,t_,t_,t_,t_,t_,t_,t_,t_,t_,t_,t_,t_,t_,t_,t_,t_,t_,t_,t_,t_,t_,t_,t_,t_,t_,t_,f_,f_,f_,f_,f_,f_] rfl rfl (any_of HT_.out (by kernel_rfl)) (fun _ _ _ h=>h) (Or.inl ⟨by rfl, ?_⟩) ?_ ?_
                      rotate_left
                      ·intro w'
                       go_simp
                       with_reducible rfl
                      rotate_left
                      ·simp only [Act.put,sA,s0,sS,i64_w,i32_w]
                       rfl
                      refine pure_ (i:=92) (N:=some 165) (v:=?_) (a':=?_) #[t_,t_,t_,t_,t_,t_,t_,t_,t_,t_,t_,t_,t_,t_,t_,t_,t_,t_,t_,t_,t_,t_,t_,t_,t_,t_,t_,t_,t_,t_,t_,t_,t_,t_,t_,t_,t_,t_,t_,t_,t_,t_,t_,t_,t_,t_,t_,t_,t_,t_,t_,t_,t_,t_,t_,t_,t_,t_,t_,t_,t_,t_,t_,t_,t_,t_,t_,t_,t_,t_,t_,t_,t_,t_,t_,t_,t_,t_,t_,t_,t_,t_,t_,t_,t_,t_,t_,t_,t_,t_,t_,t_,t_,f_,f_,f_,f_,f_] rfl rfl (any_of HT_.out (by kernel_rfl)) (fun _ _ _ h=>h) (Or.inl ⟨by rfl, ?_⟩) ?_ ?_
                      rotate_left
                      ·intro w'
                       go_simp
                       with_reducible rfl
                      rotate_left
                      ·simp only [Act.put,sA,s0,sS,i64_w,i32_w]
                       rfl
                      refine take_ (i:=93) (N:=some 166) (v:=?_) (a':=?_) #[t_,t_,t_,t_,t_,t_,t_,t_,t_,t_,t_,t_,t_,t_,t_,t_,t_,t_,t_,t_,t_,t_,t_,t_,t_,t_,t_,t_,t_,t_,t_,t_,t_,t_,t_,t_,t_,t_,t_,t_,t_,t_,t_,t_,t_,t_,t_,t_,t_,t_,t_,t_,t_,t_,t_,t_,t_,t_,t_,t_,t_,t_,t_,t_,t_,t_,t_,t_,t_,t_,t_,t_,t_,t_,t_,t_,t_,t_,t_,t_,t_,t_,t_,t_,t_,t_,t_,t_,t_,t_,t_,t_,t_,t_,f_,f_,f_,f_] rfl rfl (take_ofW HT_.out HW_.out (by kernel_rfl)) (fun _ _ _ h=>h) (Or.inl ⟨by rfl, ?_⟩) hHeld ?_ ?_
                      rotate_left
                      ·rintro w' ⟨s0,s1,s2,s3,s4,s5,s6,s7,s8,s9,s10,s11,s12,s13⟩
                       go_simp
                       with_reducible rfl
                      rotate_left
                      ·simp only [Act.put,sA,s0,sS,i64_w,i32_w]
                       rfl
                      refine one_ (i:=94) (N:=some 167) #[t_,t_,t_,t_,t_,t_,t_,t_,t_,t_,t_,t_,t_,t_,t_,t_,t_,t_,t_,t_,t_,t_,t_,t_,t_,t_,t_,t_,t_,t_,t_,t_,t_,t_,t_,t_,t_,t_,t_,t_,t_,t_,t_,t_,t_,t_,t_,t_,t_,t_,t_,t_,t_,t_,t_,t_,t_,t_,t_,t_,t_,t_,t_,t_,t_,t_,t_,t_,t_,t_,t_,t_,t_,t_,t_,t_,t_,t_,t_,t_,t_,t_,t_,t_,t_,t_,t_,t_,t_,t_,t_,t_,t_,t_,t_,f_,f_,f_] rfl rfl (one_of HT_.out (by kernel_rfl)) (by decide) (fun K hK=>?_)
                      refine goes_ Try.func17 (by kernel_rfl) rfl #[.agg #[.string (⟨#[97]⟩ : ByteArray),.slice Ao40 y250.length co40]] (by rfl) rfl rfl (by (try simp only [mT,mC,mN]);first|done|rfl|(simp only [lDr,lTk];rfl)) ?_
                      with_reducible refine (profile_Check.calls k (⟨#[97]⟩ : ByteArray) _ _ y250 t310 _ ?side1 ?side2 A37.out).mono ?_
                      (case side1=>repeat (first|exact (Kd.R_reads' HO252.out).2.2|(with_reducible first|apply kA|apply kN|apply kD)))
                      (case side2=>exact (Kd.R_reads' HO252.out).2.1)
                      rintro e w95 ⟨rfl,hb⟩
                      have HS12_:=(hb.cell (World.block_lt_of_cell? _ _ (hHeld.2.2.2.2.2.2.2.2.2.2.2.2.1))).trans (hHeld.2.2.2.2.2.2.2.2.2.2.2.2.1)
                      have HS13_:=(hb.cell (World.block_lt_of_cell? _ _ (hHeld.2.2.2.2.2.2.2.2.2.2.2.2.2))).trans (hHeld.2.2.2.2.2.2.2.2.2.2.2.2.2)
                      refine ⟨_,rfl, ?_⟩
                      have n0_:=am (Kd.R_below (by (with_reducible repeat (first|apply rA|apply rN|apply rD));exact HO252.out) hb)
                      have n1_:=am (Kd.R_below (by (with_reducible repeat (first|apply rA|apply rN|apply rD));exact HO258.out) hb)
                      have n2_:=am (Kd.R_below (by (with_reducible repeat (first|apply rA|apply rN|apply rD));exact HO263.out) hb)
                      have n3_:=am (Kd.R_below (by (with_reducible repeat (first|apply rA|apply rN|apply rD));exact HO269.out) hb)
                      have n4_:=am (Kd.R_below (by (with_reducible repeat (first|apply rA|apply rN|apply rD));exact HO275.out) hb)
                      have n5_:=am (Kd.R_below (by (with_reducible repeat (first|apply rA|apply rN|apply rD));exact HO279.out) hb)
                      have n6_:=am (Kd.R_below (by (with_reducible repeat (first|apply rA|apply rN|apply rD));exact HO285.out) hb)
                      have n7_:=am (Kd.R_below (by (with_reducible repeat (first|apply rA|apply rN|apply rD));exact HO295.out) hb)
                      have n8_:=am (Kd.R_below (by (with_reducible repeat (first|apply rA|apply rN|apply rD));exact HO307.out) hb)
                      have n9_:=am (blk_below (g:=gb253) (o:=.cells #[.string (⟨#[97]⟩ : ByteArray),.slice Ao40 y250.length co40] 25 (0,0)) (by (with_reducible repeat (first|apply bN|apply bD|apply bA));exact BK253.out) hb)
                      have n10_:=am (blk_below (g:=gb271) (o:=.cells #[.string t266,.slice (some ad303) t267.length co53] 25 (0,0)) (by (with_reducible repeat (first|apply bN|apply bD|apply bA));exact BK271.out) hb)
                      have n11_:=am (blk_below (g:=gb281) (o:=.cells #[.string t276,.slice Ao61 t277.length co61] 25 (0,0)) (by (with_reducible repeat (first|apply bN|apply bD|apply bA));exact BK281.out) hb)
                      have n12_:=am (blk_below (g:=gb287) (o:=.cells #[.string t282,.slice Ao69 t283.length co69] 25 (0,0)) (by (with_reducible repeat (first|apply bN|apply bD|apply bA));exact BK287.out) hb)
                      have n13_:=am (blk_below (g:=gb301) (o:=.cells #[.int .i64 t296,.int .i64 t297] 31 (0,0)) (by (with_reducible repeat (first|apply bN|apply bD|apply bA));exact BK301.out) hb)
                      have n14_:=am (blk_below (g:=gb302) (o:=.cells #[.int .i64 t298,.int .i64 t299] 31 (0,0)) (by (with_reducible repeat (first|apply bN|apply bD|apply bA));exact BK302.out) hb)
                      have n15_:=am (below_step (by repeat (first|(with_reducible first|exact HB.out|apply lA|apply lN|apply lD|refine lS ?_ GE253.out|refine lS ?_ GE271.out|refine lS ?_ GE281.out|refine lS ?_ GE287.out|refine lS ?_ GE301.out|refine lS ?_ GE302.out)|exact HB.out)) hb)
                      clear HO252
                      clear HO258
                      clear HO263
                      clear HO269
                      clear HO275
                      clear HO279
                      clear HO285
                      clear HO295
                      clear HO307
                      clear BK253
                      clear BK271
                      clear BK281
                      clear BK287
                      clear BK301
                      clear BK302
                      clear HB
                      have HO252:=n0_
                      have HO258:=n1_
                      have HO263:=n2_
                      have HO269:=n3_
                      have HO275:=n4_
                      have HO279:=n5_
                      have HO285:=n6_
                      have HO295:=n7_
                      have HO307:=n8_
                      have BK253:=n9_
                      have BK271:=n10_
                      have BK281:=n11_
                      have BK287:=n12_
                      have BK301:=n13_
                      have BK302:=n14_
                      have HB:=n15_
                      clear n0_ n1_ n2_ n3_ n4_ n5_ n6_ n7_ n8_ n9_ n10_ n11_ n12_ n13_ n14_ n15_
                      (try clear hb)
                      (try clear hb2)
                      (try clear hk)
                      (try clear hi)
                      refine hK.out _ _ ⟨(blk_cell BK271.out 0).trans rfl,(blk_cell BK271.out 1).trans rfl,(blk_cell BK281.out 0).trans rfl,(blk_cell BK281.out 1).trans rfl,(blk_cell BK287.out 0).trans rfl,(blk_cell BK287.out 1).trans rfl,(blk_cell BK253.out 0).trans rfl,(blk_cell BK253.out 1).trans rfl,(blk_cell BK301.out 0).trans rfl,(blk_cell BK301.out 1).trans rfl,(blk_cell BK302.out 0).trans rfl,(blk_cell BK302.out 1).trans rfl,HS12_,HS13_⟩ (fun hHeld=>?_)
                      clear hK K
                      refine norm_ (a':=?_) ?_ ?_
                      rotate_left
                      ·show Act.put _ (some 167) _ = _
                       simp only [Act.put,sA,s0,sS,i64_w,i32_w]
                       rfl
                      refine pure_ (i:=95) (N:=some 168) (v:=?_) (a':=?_) #[t_,t_,t_,t_,t_,t_,t_,t_,t_,t_,t_,t_,t_,t_,t_,t_,t_,t_,t_,t_,t_,t_,t_,t_,t_,t_,t_,t_,t_,t_,t_,t_,t_,t_,t_,t_,t_,t_,t_,t_,t_,t_,t_,t_,t_,t_,t_,t_,t_,t_,t_,t_,t_,t_,t_,t_,t_,t_,t_,t_,t_,t_,t_,t_,t_,t_,t_,t_,t_,t_,t_,t_,t_,t_,t_,t_,t_,t_,t_,t_,t_,t_,t_,t_,t_,t_,t_,t_,t_,t_,t_,t_,t_,t_,t_,t_,f_,f_] rfl rfl (any_of HT_.out (by kernel_rfl)) (fun _ _ _ h=>h) (Or.inl ⟨by rfl, ?_⟩) ?_ ?_
                      rotate_left
                      ·intro w'
                       go_simp
                       with_reducible rfl
                      rotate_left
                      ·simp only [Act.put,sA,s0,sS,i64_w,i32_w]
                       rfl
                      refine pure_ (i:=96) (N:=some 169) (v:=?_) (a':=?_) #[t_,t_,t_,t_,t_,t_,t_,t_,t_,t_,t_,t_,t_,t_,t_,t_,t_,t_,t_,t_,t_,t_,t_,t_,t_,t_,t_,t_,t_,t_,t_,t_,t_,t_,t_,t_,t_,t_,t_,t_,t_,t_,t_,t_,t_,t_,t_,t_,t_,t_,t_,t_,t_,t_,t_,t_,t_,t_,t_,t_,t_,t_,t_,t_,t_,t_,t_,t_,t_,t_,t_,t_,t_,t_,t_,t_,t_,t_,t_,t_,t_,t_,t_,t_,t_,t_,t_,t_,t_,t_,t_,t_,t_,t_,t_,t_,t_,f_] rfl rfl (any_of HT_.out (by kernel_rfl)) (fun _ _ _ h=>h) (Or.inl ⟨by rfl, ?_⟩) ?_ ?_
                      rotate_left
                      ·intro w'
                       go_simp
                       with_reducible rfl
                      rotate_left
                      ·simp only [Act.put,sA,s0,sS,i64_w,i32_w]
                       rfl
                      refine pure_ (i:=97) (N:=some 0) (v:=?_) (a':=?_) #[t_,t_,t_,t_,t_,t_,t_,t_,t_,t_,t_,t_,t_,t_,t_,t_,t_,t_,t_,t_,t_,t_,t_,t_,t_,t_,t_,t_,t_,t_,t_,t_,t_,t_,t_,t_,t_,t_,t_,t_,t_,t_,t_,t_,t_,t_,t_,t_,t_,t_,t_,t_,t_,t_,t_,t_,t_,t_,t_,t_,t_,t_,t_,t_,t_,t_,t_,t_,t_,t_,t_,t_,t_,t_,t_,t_,t_,t_,t_,t_,t_,t_,t_,t_,t_,t_,t_,t_,t_,t_,t_,t_,t_,t_,t_,t_,t_,t_] rfl rfl (any_of HT_.out (by kernel_rfl)) (fun _ _ _ h=>h) (Or.inl ⟨by rfl, ?_⟩) ?_ ?_
                      rotate_left
                      ·intro w'
                       go_simp
                       with_reducible rfl
                      rotate_left
                      ·simp only [Act.put,sA,s0,sS,i64_w,i32_w]
                       rfl
                      refine done_ (done_of HT_.out (by kernel_rfl)) ?_
                      try go_wp2
                      go_ret
                      exact ⟨by first|rfl|(simp [errW_none,errW_some] <;> rfl)|(simp [*,errW_none,errW_some] <;> rfl),by repeat (first|(with_reducible first|exact HB.out|apply lA|apply lN|apply lD|refine lS ?_ GE253.out|refine lS ?_ GE271.out|refine lS ?_ GE281.out|refine lS ?_ GE287.out|refine lS ?_ GE301.out|refine lS ?_ GE302.out)|exact HB.out)⟩
                     ·rw [if_neg c36] at H
                      exact absurd H (by simp)
                    ·rw [if_neg c35] at H
                     exact absurd H (by simp)
                   ·rw [if_neg c34] at H
                    exact absurd H (by simp)
                  ·replace c33:=Bool.eq_false_iff.mpr c33
                   subst c33
                   have H1 : (none) = some r:=by rw [if_neg (show ¬ (false = true) by decide)] at H;exact H
                   clear H
                   have H:=H1
                   clear H1
                   exact absurd H (by simp)
                 ·rw [if_neg c32] at H
                  exact absurd H (by simp)
                ·rw [if_neg c31] at H
                 exact absurd H (by simp)
               ·rw [if_neg c30] at H
                exact absurd H (by simp)
              ·replace c29:=Bool.eq_false_iff.mpr c29
               subst c29
               have H1 : (none) = some r:=by rw [if_neg (show ¬ (false = true) by decide)] at H;exact H
               clear H
               have H:=H1
               clear H1
               exact absurd H (by simp)
             ·rw [if_neg c27] at H
              exact absurd H (by simp)
            ·replace c26:=Bool.eq_false_iff.mpr c26
             subst c26
             have H1 : (none) = some r:=by rw [if_neg (show ¬ (false = true) by decide)] at H;exact H
             clear H
             have H:=H1
             clear H1
             exact absurd H (by simp)
           ·rw [if_neg c23] at H
            exact absurd H (by simp)
          ·rw [if_neg c22] at H
           exact absurd H (by simp)
         ·rw [if_neg c21] at H
          exact absurd H (by simp)
        ·rw [if_neg c20] at H
         exact absurd H (by simp)
       ·rw [if_neg c19] at H
        exact absurd H (by simp)
      ·rw [if_neg c18] at H
       exact absurd H (by simp)
     ·rw [if_neg c17] at H
      exact absurd H (by simp)
    ·rw [if_neg c16] at H
     exact absurd H (by simp)
   ·rw [if_neg c15] at H
    exact absurd H (by simp)
  ·rw [if_neg c14] at H
   exact absurd H (by simp)
 ·rw [if_neg c13] at H
  exact absurd H (by simp)

end
end Go.Proofs.Ytnjikioimompnaa.PA
