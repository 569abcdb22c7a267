import Derived.Test.YtbggjmdelnmilaaGiven
import Derived.Test.YtbggjmdelnmilaaPAx15
import Derived.Test.YtbggjmdelnmilaaPAx17
namespace Go.Proofs.Ytbggjmdelnmilaa.PA
open Go.RowKit Go.Proofs.YtbggjmdelnmilaaW.PrintWords Go.Proofs.YtbggjmdelnmilaaW.PrintLast Go.Proofs.YtbggjmdelnmilaaW.PrintMore
attribute [local go_sem] max2_int min2_int max_two min_two max_three min_three max_four min_four
set_option linter.unusedVariables false
set_option linter.unusedSimpArgs false
mutual
def gangsawref31_Take.l0 : Nat → List (S39) → Int → Int → Bool → List (S39) → List (S39) → Int → ByteArray → Int → Int → Int → Int → ByteArray → Bool → ByteArray → Int → Int → Int → Int → ByteArray → ByteArray → Option ((List (S39)) × ByteArray × ByteArray × Bool × Int)
 | 0,_,_,_,_,_,_,_,_,_,_,_,_,_,_,_,_,_,_,_,_,_=>none
 | k + 1,x0,x3,x11,x14,x15,x16,x17,x515000,x515001,x515002,x515003,x515004,x515005,x515006,x519000,x519001,x519002,x519003,x519004,x519005,x519006=>if x17 < (x16.length : Int) then (if 0 ≤ x17 then (if ((rd_T39 x16 x17).f1.f0) ≥ x3 then (if ((rd_T39 x16 x17).f1.f1) ≥ x3 then (if ((rd_T39 x16 x17).f1.f2) ≥ x3 then (if x15.length < 1759218604441 then (gangsawref31_Take.l0 k x0 x3 x11 x14 (x15 ++ [(⟨(rd_T39 x16 x17).f0,(⟨(rd_T39 x16 x17).f1.f0,(rd_T39 x16 x17).f1.f1,(rd_T39 x16 x17).f1.f2⟩ : S24),(rd_T39 x16 x17).f2,(rd_T39 x16 x17).f3,(rd_T39 x16 x17).f4⟩ : S39)]) x16 (wrap64 (x17 + 1)) x515000 x515001 x515002 x515003 x515004 x515005 x515006 x519000 x519001 x519002 x519003 x519004 x519005 x519006) else (none)) else (gangsawref31_Take.l0 k x0 x3 x11 x14 x15 x16 (wrap64 (x17 + 1)) x515000 x515001 x515002 x515003 x515004 x515005 x515006 x519000 x519001 x519002 x519003 x519004 x519005 x519006)) else (gangsawref31_Take.l0 k x0 x3 x11 x14 x15 x16 (wrap64 (x17 + 1)) x515000 x515001 x515002 x515003 x515004 x515005 x515006 x519000 x519001 x519002 x519003 x519004 x519005 x519006)) else (gangsawref31_Take.l0 k x0 x3 x11 x14 x15 x16 (wrap64 (x17 + 1)) x515000 x515001 x515002 x515003 x515004 x515005 x515006 x519000 x519001 x519002 x519003 x519004 x519005 x519006)) else (none)) else ((gangsawref31_long.f k x15).bind fun t533=>(if t533 = true then (some (([] : List (S39)),(⟨#[]⟩ : ByteArray),(⟨#[]⟩ : ByteArray),false,4)) else ((some (([] : List (S39)) : List (S39))).bind fun y534=>(if 0 ≤ x11 then (if x11 ≤ (x0.length : Int) then ((some (x0.take (x11 : Int).toNat : List (S39))).bind fun y537=>(if y534.length + y537.length < 1759218604441 then ((some (y534 ++ y537 : List (S39))).bind fun y541=>(if 0 ≤ (wrap64 (x11 + 1)) then (if (wrap64 (x11 + 1)) ≤ (x0.length : Int) then ((some (x0.drop ((wrap64 (x11 + 1)) : Int).toNat : List (S39))).bind fun y544=>(if y541.length + y544.length < 1759218604441 then (gangsawref31_Take.l1 k x14 x15 (y541 ++ y544) 0 x515000 x515001 x515002 x515003 x515004 x515005 x515006 x519000 x519001 x519002 x519003 x519004 x519005 x519006) else (none))) else (none)) else (none))) else (none))) else (none)) else (none)))))
def gangsawref31_Take.l1 : Nat → Bool → List (S39) → List (S39) → Int → ByteArray → Int → Int → Int → Int → ByteArray → Bool → ByteArray → Int → Int → Int → Int → ByteArray → ByteArray → Option ((List (S39)) × ByteArray × ByteArray × Bool × Int)
 | 0,_,_,_,_,_,_,_,_,_,_,_,_,_,_,_,_,_,_=>none
 | k + 1,x14,x15,x19,x20,x515000,x515001,x515002,x515003,x515004,x515005,x515006,x519000,x519001,x519002,x519003,x519004,x519005,x519006=>if x20 < (x15.length : Int) then (if 0 ≤ x20 then ((gangsawref31_put.f x19 ((rd_T39 x15 x20).f0) ((rd_T39 x15 x20).f1.f0) ((rd_T39 x15 x20).f1.f1) ((rd_T39 x15 x20).f1.f2) ((rd_T39 x15 x20).f2) ((rd_T39 x15 x20).f3) ((rd_T39 x15 x20).f4)).bind fun bt552=>(if bt552.2 = true then (gangsawref31_Take.l1 k x14 x15 bt552.1 (wrap64 (x20 + 1)) x515000 x515001 x515002 x515003 x515004 x515005 x515006 x519000 x519001 x519002 x519003 x519004 x519005 x519006) else (some (([] : List (S39)),(⟨#[]⟩ : ByteArray),(⟨#[]⟩ : ByteArray),false,5)))) else (none)) else (if (x19.length : Int) > 256 then (some (([] : List (S39)),(⟨#[]⟩ : ByteArray),(⟨#[]⟩ : ByteArray),false,7)) else (some (x19,x515000,x519000,x14,0)))
end
def gangsawref31_Take.f (k : Nat) (l0 : List (S39)) (a1_0 : ByteArray) (a1_1 : Int) (a1_2 : Int) (a1_3 : Int) (a1_4 : Int) (a1_5 : ByteArray) (a1_6 : Bool) (a2 : Int) (a3 : Int) : Option ((List (S39)) × ByteArray × ByteArray × Bool × Int):=(gangsawref31_Best.f k l0 a1_0 a1_1 a1_2 a1_3 a1_4 a1_5 a1_6).bind fun t516=>(if t516 < 0 then (some (([] : List (S39)),(⟨#[]⟩ : ByteArray),(⟨#[]⟩ : ByteArray),false,9)) else (if 0 ≤ t516 then (if t516 < (l0.length : Int) then ((gangsawref31_Fits.f k ((rd_T39 l0 t516).f0) ((rd_T39 l0 t516).f1.f0) ((rd_T39 l0 t516).f1.f1) ((rd_T39 l0 t516).f1.f2) ((rd_T39 l0 t516).f2) ((rd_T39 l0 t516).f3) ((rd_T39 l0 t516).f4) a1_0 a1_1 a1_2 a1_3 a1_4 a1_5 a1_6).bind fun bt519=>((gangsawref31_Rest.f k ((rd_T39 l0 t516).f0) ((rd_T39 l0 t516).f1.f0) ((rd_T39 l0 t516).f1.f1) ((rd_T39 l0 t516).f1.f2) ((rd_T39 l0 t516).f2) ((rd_T39 l0 t516).f3) ((rd_T39 l0 t516).f4) a1_0 a1_1 a1_2 a1_3 a1_4 a1_5 a1_6 a2).bind fun t524=>(gangsawref31_Take.l0 k l0 a3 t516 bt519.2 (([] : List (S39))) t524 0 a1_0 a1_1 a1_2 a1_3 a1_4 a1_5 a1_6 ((rd_T39 l0 t516).f0) ((rd_T39 l0 t516).f1.f0) ((rd_T39 l0 t516).f1.f1) ((rd_T39 l0 t516).f1.f2) ((rd_T39 l0 t516).f2) ((rd_T39 l0 t516).f3) ((rd_T39 l0 t516).f4)))) else (none)) else (none)))
def gangsawref31_Take.T16 : Bool × List (List Nat × List Nat):=(true,[([],[]),([],[]),([],[]),([1,2],[1,2]),([0,3],[0,3]),([],[]),([],[]),([6],[6]),([5,7],[5,7]),([4,8,4],[4,8]),([9,9,0,1,2,3,4,5,6,7,8,9],[9])])
def gangsawref31_Take.B16 : List Nat:=[0,0,0,6,15,0,0,64,224,511,1023]
theorem gangsawref31_Take.tab16 : rtab .any (opsOf Try.f32 16) = gangsawref31_Take.T16:=by kernel_rfl
theorem gangsawref31_Take.bits16 : waitsOk gangsawref31_Take.T16.2 gangsawref31_Take.B16 = true:=by kernel_rfl
def gangsawref31_Take.T26 : Bool × List (List Nat × List Nat):=(true,[([],[]),([],[]),([1],[1]),([],[]),([3],[3]),([],[]),([2,4,5],[2,4,5]),([0,0],[0]),([6,7,0,1,2,3,4,5,6,7],[6]),([8,0,1,2,3,4,5,6,7,8],[])])
def gangsawref31_Take.B26 : List Nat:=[0,0,2,0,8,0,62,1,255,511]
theorem gangsawref31_Take.tab26 : rtab .any (opsOf Try.f32 26) = gangsawref31_Take.T26:=by kernel_rfl
theorem gangsawref31_Take.bits26 : waitsOk gangsawref31_Take.T26.2 gangsawref31_Take.B26 = true:=by kernel_rfl
set_option maxHeartbeats 8000000 in
set_option maxRecDepth 100000 in
theorem gangsawref31_Take.calls (k : Nat) (A0 : Option Addr) (c0 : Nat) (l0 : List (S39)) (a1_0 : ByteArray) (a1_1 : Int) (a1_2 : Int) (a1_3 : Int) (a1_4 : Int) (a1_5 : ByteArray) (a1_6 : Bool) (a2 : Int) (a3 : Int) (r1 : List (S39)) (r2 : ByteArray) (r3 : ByteArray) (r4 : Bool) (r5 : Int) (w : World) (hr0 : Kd.C k39 w A0 l0.length l0) (hc0 : l0.length ≤ c0) (h : gangsawref31_Take.f k l0 a1_0 a1_1 a1_2 a1_3 a1_4 a1_5 a1_6 a2 a3 = some (r1, r2, r3, r4, r5)) :
  Calls Try.prog 32 #[.slice A0 l0.length c0,.agg #[.string a1_0,.int .i64 a1_1,.int .i64 a1_2,.int .i64 a1_3,.int .i64 a1_4,.string a1_5,.bool a1_6],.int .i64 a2,.int .i64 a3] w fun e w'=>∃ v0_ : Value,e = .returned (.tuple #[v0_,.agg #[.string r2,.string r3,.bool r4],.int .i64 r5]) ∧ Kd.R k39 39 w' w.heap.size (fun _=>True) v0_ r1 ∧ Below w.heap.size w w':=by
 have hu26:=Try.underlying26;have hu71:=Try.underlying71;have hu39:=Try.underlying39;have hu24:=Try.underlying24;have HR0:=am hr0;have HC0:=am hc0;clear hr0 hc0;have HB:=am (Below.refl w.heap.size w);have H : ((gangsawref31_Best.f k l0 a1_0 a1_1 a1_2 a1_3 a1_4 a1_5 a1_6).bind fun t516=>(if t516 < 0 then (some (([] : List (S39)),(⟨#[]⟩ : ByteArray),(⟨#[]⟩ : ByteArray),false,9)) else (if 0 ≤ t516 then (if t516 < (l0.length : Int) then ((gangsawref31_Fits.f k ((rd_T39 l0 t516).f0) ((rd_T39 l0 t516).f1.f0) ((rd_T39 l0 t516).f1.f1) ((rd_T39 l0 t516).f1.f2) ((rd_T39 l0 t516).f2) ((rd_T39 l0 t516).f3) ((rd_T39 l0 t516).f4) a1_0 a1_1 a1_2 a1_3 a1_4 a1_5 a1_6).bind fun bt519=>((gangsawref31_Rest.f k ((rd_T39 l0 t516).f0) ((rd_T39 l0 t516).f1.f0) ((rd_T39 l0 t516).f1.f1) ((rd_T39 l0 t516).f1.f2) ((rd_T39 l0 t516).f2) ((rd_T39 l0 t516).f3) ((rd_T39 l0 t516).f4) a1_0 a1_1 a1_2 a1_3 a1_4 a1_5 a1_6 a2).bind fun t524=>(gangsawref31_Take.l0 k l0 a3 t516 bt519.2 (([] : List (S39))) t524 0 a1_0 a1_1 a1_2 a1_3 a1_4 a1_5 a1_6 ((rd_T39 l0 t516).f0) ((rd_T39 l0 t516).f1.f0) ((rd_T39 l0 t516).f1.f1) ((rd_T39 l0 t516).f1.f2) ((rd_T39 l0 t516).f2) ((rd_T39 l0 t516).f3) ((rd_T39 l0 t516).f4)))) else (none)) else (none)))) = some (r1,r2,r3,r4,r5):=h;clear h;replace H:=Option.bind_eq_some_iff.mp H;obtain ⟨t516,A50,H⟩ := H;replace H : (if t516 < 0 then (some (([] : List (S39)),(⟨#[]⟩ : ByteArray),(⟨#[]⟩ : ByteArray),false,9)) else (if 0 ≤ t516 then (if t516 < (l0.length : Int) then ((gangsawref31_Fits.f k ((rd_T39 l0 t516).f0) ((rd_T39 l0 t516).f1.f0) ((rd_T39 l0 t516).f1.f1) ((rd_T39 l0 t516).f1.f2) ((rd_T39 l0 t516).f2) ((rd_T39 l0 t516).f3) ((rd_T39 l0 t516).f4) a1_0 a1_1 a1_2 a1_3 a1_4 a1_5 a1_6).bind fun bt519=>((gangsawref31_Rest.f k ((rd_T39 l0 t516).f0) ((rd_T39 l0 t516).f1.f0) ((rd_T39 l0 t516).f1.f1) ((rd_T39 l0 t516).f1.f2) ((rd_T39 l0 t516).f2) ((rd_T39 l0 t516).f3) ((rd_T39 l0 t516).f4) a1_0 a1_1 a1_2 a1_3 a1_4 a1_5 a1_6 a2).bind fun t524=>(gangsawref31_Take.l0 k l0 a3 t516 bt519.2 (([] : List (S39))) t524 0 a1_0 a1_1 a1_2 a1_3 a1_4 a1_5 a1_6 ((rd_T39 l0 t516).f0) ((rd_T39 l0 t516).f1.f0) ((rd_T39 l0 t516).f1.f1) ((rd_T39 l0 t516).f1.f2) ((rd_T39 l0 t516).f2) ((rd_T39 l0 t516).f3) ((rd_T39 l0 t516).f4)))) else (none)) else (none))) = some (r1,r2,r3,r4,r5):=H;have A5:=am A50;clear A50;by_cases c6 : t516 < 0
 ·rw [if_pos c6] at H;have c6b0 : decide (t516 < 0) = true:=decide_eq_true c6;clear c6;simp only [Option.some.injEq,Prod.mk.injEq] at H;obtain ⟨rfl,rfl,rfl,rfl,rfl⟩ := H
  go_enter Try.func32,Try.ntmps32
  go_wp2_with (first|((with_reducible refine gate_dst (N:=5) rfl ?_);refine be 5 26 (cs:=#[.string a1_0,.int .i64 a1_1,.int .i64 a1_2,.int .i64 a1_3,.int .i64 a1_4,.string a1_5,.bool a1_6]) ?_;intro gb514 hg w7 hbox hb;have BK514:=am hbox;have GW514:=bza HB hg;have GE514:=bza HB hg;replace HB:=bsa HB hb;clear hb hbox hg)|((with_reducible refine gate_dst (N:=9) rfl ?_);refine be 9 71 (cs:=#[.string (⟨#[]⟩ : ByteArray),.string (⟨#[]⟩ : ByteArray),.bool false]) ?_;intro gb515 hg w8 hbox hb;have BK515:=am hbox;have GW515:=bza HB hg;have GE515:=bza HB hg;have NB514_515:=bla BK514 hg;have NB515_514:=bga BK514 hg;replace BK514:=bba BK514 hb;replace HB:=bsa HB hb;clear hb hbox hg;have hnb9:=NB514_515.out;have hnc9:=NB515_514.out;obtain ⟨hcz10_0,hcz10_1,hcz10_2,hcz10_3,hcz10_4,hcz10_5,hcz10_6,hfz10_0,hfz10_1,hfz10_2,hfz10_3,hfz10_4,hfz10_5,hfz10_6⟩ := c7_ BK514.out)|((with_reducible refine gate_callee (f:=30) rfl ?_);refine gL 25 Try.func30 #[.slice A0 l0.length c0,.agg #[.string a1_0,.int .i64 a1_1,.int .i64 a1_2,.int .i64 a1_3,.int .i64 a1_4,.string a1_5,.bool a1_6]] ?_;(with_reducible refine (gangsawref31_Best.calls k _ _ l0 a1_0 a1_1 a1_2 a1_3 a1_4 a1_5 a1_6 t516 _ ?side1 ?side2 A5.out).mono ?_);(case side1=>exact cq HR0.out HB.out);(case side2=>exact HC0.out);rintro e w11 ⟨rfl,hb⟩;refine ⟨_,rfl, ?_⟩;replace BK514:=bba BK514 hb;replace BK515:=bba BK515 hb;replace HB:=bsa HB hb;(try clear hb);obtain ⟨hcz12_0,hcz12_1,hcz12_2,hfz12_0,hfz12_1,hfz12_2⟩ := c3_ BK515.out))
  refine bodyPost_ret (results_list (rs:=[.tmp 8,.cell 9 71,.tmp 10]) rfl (by simp) (.tmp (.cell gb515 71 #[.string (⟨#[]⟩ : ByteArray),.string (⟨#[]⟩ : ByteArray),.bool false] (0,0) _ rfl (by refine bp (cs:=#[.string (⟨#[]⟩ : ByteArray),.string (⟨#[]⟩ : ByteArray),.bool false]) ?_ 2;refine bp (cs:=#[.string (⟨#[]⟩ : ByteArray),.string (⟨#[]⟩ : ByteArray),.bool false]) ?_ 1;refine bp (cs:=#[.string (⟨#[]⟩ : ByteArray),.string (⟨#[]⟩ : ByteArray),.bool false]) ?_ 0;exact bq BK515.out) Try.underlying71 rfl (by kernel_rfl) (.tmp .nil)))) rfl ?_
  exact ⟨_,by first|rfl|(simp [errW_none,errW_some] <;> rfl)|(simp [*,errW_none,errW_some] <;> rfl),by first|exact Kd.R_nil _ _ _ _ _|exact Kd.N_nil _ _ _ _ _|exact Kd.V_nil _ _ _ _ _|exact Kd.Q_nil _ _ _ _ _|exact Kd.S_nil _ _ _ _ _,by repeat (first|(with_reducible first|exact HB.out|apply lA|apply lN|apply lD|refine lS ?_ GE514.out|refine lS ?_ GE515.out)|exact HB.out)⟩
 ·rw [if_neg c6] at H;have c6b0 : decide (t516 < 0) = false:=decide_eq_false c6;clear c6;by_cases c13 : 0 ≤ t516
  ·rw [if_pos c13] at H;have c13b0 : decide (0 ≤ t516) = true:=decide_eq_true c13;clear c13;by_cases c14 : t516 < (l0.length : Int)
   ·rw [if_pos c14] at H;have c14b0 : decide (t516 < (l0.length : Int)) = true:=decide_eq_true c14;clear c14;replace H:=Option.bind_eq_some_iff.mp H;obtain ⟨⟨t519,t520⟩,A150,H⟩ := H;replace H : ((gangsawref31_Rest.f k ((rd_T39 l0 t516).f0) ((rd_T39 l0 t516).f1.f0) ((rd_T39 l0 t516).f1.f1) ((rd_T39 l0 t516).f1.f2) ((rd_T39 l0 t516).f2) ((rd_T39 l0 t516).f3) ((rd_T39 l0 t516).f4) a1_0 a1_1 a1_2 a1_3 a1_4 a1_5 a1_6 a2).bind fun t524=>(gangsawref31_Take.l0 k l0 a3 t516 t520 (([] : List (S39))) t524 0 a1_0 a1_1 a1_2 a1_3 a1_4 a1_5 a1_6 ((rd_T39 l0 t516).f0) ((rd_T39 l0 t516).f1.f0) ((rd_T39 l0 t516).f1.f1) ((rd_T39 l0 t516).f1.f2) ((rd_T39 l0 t516).f2) ((rd_T39 l0 t516).f3) ((rd_T39 l0 t516).f4))) = some (r1,r2,r3,r4,r5):=H;have A15:=am A150;clear A150
    obtain ⟨y521,hy521⟩ : ∃ y_ : List (S39),y_ = (([] : List (S39))):=⟨_,rfl⟩
    replace H : ((gangsawref31_Rest.f k ((rd_T39 l0 t516).f0) ((rd_T39 l0 t516).f1.f0) ((rd_T39 l0 t516).f1.f1) ((rd_T39 l0 t516).f1.f2) ((rd_T39 l0 t516).f2) ((rd_T39 l0 t516).f3) ((rd_T39 l0 t516).f4) a1_0 a1_1 a1_2 a1_3 a1_4 a1_5 a1_6 a2).bind fun t524=>(gangsawref31_Take.l0 k l0 a3 t516 t520 y521 t524 0 a1_0 a1_1 a1_2 a1_3 a1_4 a1_5 a1_6 ((rd_T39 l0 t516).f0) ((rd_T39 l0 t516).f1.f0) ((rd_T39 l0 t516).f1.f1) ((rd_T39 l0 t516).f1.f2) ((rd_T39 l0 t516).f2) ((rd_T39 l0 t516).f3) ((rd_T39 l0 t516).f4))) = some (r1,r2,r3,r4,r5):=by first|(rw [hy521];with_reducible exact H)|(have H2_:=(Option.bind_some _ _).symm.trans H;rw [hy521];with_reducible exact H2_)|(have H2_:=(Option.bind_some _ _).symm.trans H;with_reducible exact H2_)|with_reducible exact H|(rw [hy521];exact H)|exact H
    have Ny521:=am hy521;clear hy521;replace H:=Option.bind_eq_some_iff.mp H;obtain ⟨t524,A160,H⟩ := H;replace H : (gangsawref31_Take.l0 k l0 a3 t516 t520 y521 t524 0 a1_0 a1_1 a1_2 a1_3 a1_4 a1_5 a1_6 ((rd_T39 l0 t516).f0) ((rd_T39 l0 t516).f1.f0) ((rd_T39 l0 t516).f1.f1) ((rd_T39 l0 t516).f1.f2) ((rd_T39 l0 t516).f2) ((rd_T39 l0 t516).f3) ((rd_T39 l0 t516).f4)) = some (r1,r2,r3,r4,r5):=H;have A16:=am A160;clear A160;have H':=am H;clear H
    go_enter Try.func32,Try.ntmps32
    go_wp2_with (first|((with_reducible refine gate_dst (N:=5) rfl ?_);refine be 5 26 (cs:=#[.string a1_0,.int .i64 a1_1,.int .i64 a1_2,.int .i64 a1_3,.int .i64 a1_4,.string a1_5,.bool a1_6]) ?_;intro gb514 hg w17 hbox hb;have BK514:=am hbox;have GW514:=bza HB hg;have GE514:=bza HB hg;replace HB:=bsa HB hb;clear hb hbox hg)|((with_reducible refine gate_dst (N:=9) rfl ?_);refine be 9 71 (cs:=#[.string (⟨#[]⟩ : ByteArray),.string (⟨#[]⟩ : ByteArray),.bool false]) ?_;intro gb515 hg w18 hbox hb;have BK515:=am hbox;have GW515:=bza HB hg;have GE515:=bza HB hg;have NB514_515:=bla BK514 hg;have NB515_514:=bga BK514 hg;replace BK514:=bba BK514 hb;replace HB:=bsa HB hb;clear hb hbox hg;have hnb19:=NB514_515.out;have hnc19:=NB515_514.out;obtain ⟨hcz20_0,hcz20_1,hcz20_2,hcz20_3,hcz20_4,hcz20_5,hcz20_6,hfz20_0,hfz20_1,hfz20_2,hfz20_3,hfz20_4,hfz20_5,hfz20_6⟩ := c7_ BK514.out)|((with_reducible refine gate_callee (f:=30) rfl ?_);refine gL 25 Try.func30 #[.slice A0 l0.length c0,.agg #[.string a1_0,.int .i64 a1_1,.int .i64 a1_2,.int .i64 a1_3,.int .i64 a1_4,.string a1_5,.bool a1_6]] ?_;(with_reducible refine (gangsawref31_Best.calls k _ _ l0 a1_0 a1_1 a1_2 a1_3 a1_4 a1_5 a1_6 t516 _ ?side1 ?side2 A5.out).mono ?_);(case side1=>exact cq HR0.out HB.out);(case side2=>exact HC0.out);rintro e w21 ⟨rfl,hb⟩;refine ⟨_,rfl, ?_⟩;replace BK514:=bba BK514 hb;replace BK515:=bba BK515 hb;replace HB:=bsa HB hb;(try clear hb);have p517 : 0 ≤ (t516 : Int):=dt;have q517 : t516 < (l0.length : Int):=dt;obtain ⟨ad517,e517,hx517_0,hx517_1,hx517_2,hx517_3,hx517_4,hx517_5,hx517_6⟩ := at_T39 HR0.out t516 p517 q517;cases e517;replace hx517_0:=hc HB hx517_0;replace hx517_1:=hc HB hx517_1;replace hx517_2:=hc HB hx517_2;replace hx517_3:=hc HB hx517_3;replace hx517_4:=hc HB hx517_4;replace hx517_5:=hc HB hx517_5;replace hx517_6:=hc HB hx517_6;replace p517:=eq_true p517;replace q517:=eq_true q517)|((with_reducible refine gate_dst (N:=12) rfl ?_);refine be 12 39 (cs:=#[.string (⟨#[]⟩ : ByteArray),.int .i64 0,.int .i64 0,.int .i64 0,.int .i64 0,.string (⟨#[]⟩ : ByteArray),.string (⟨#[]⟩ : ByteArray)]) ?_;intro gb518 hg w22 hbox hb;have BK518:=am hbox;have GW518:=bza HB hg;have GE518:=bza HB hg;have NB514_518:=bla BK514 hg;have NB518_514:=bga BK514 hg;have NB515_518:=bla BK515 hg;have NB518_515:=bga BK515 hg;replace BK514:=bba BK514 hb;replace BK515:=bba BK515 hb;replace HB:=bsa HB hb;clear hb hbox hg;have hnb23:=NB518_514.out;have hnc23:=NB514_518.out;have hnb24:=NB518_515.out;have hnc24:=NB515_518.out;obtain ⟨hcz25_0,hcz25_1,hcz25_2,hcz25_3,hcz25_4,hcz25_5,hcz25_6,hfz25_0,hfz25_1,hfz25_2,hfz25_3,hfz25_4,hfz25_5,hfz25_6⟩ := c7_ BK518.out;obtain ⟨hcz26_0,hcz26_1,hcz26_2,hcz26_3,hcz26_4,hcz26_5,hcz26_6,hfz26_0,hfz26_1,hfz26_2,hfz26_3,hfz26_4,hfz26_5,hfz26_6⟩ := c7_ BK514.out)|((with_reducible refine gate_callee (f:=26) rfl ?_);refine gL 36 Try.func26 #[.agg #[.string ((rd_T39 l0 t516).f0),.int .i64 ((rd_T39 l0 t516).f1.f0),.int .i64 ((rd_T39 l0 t516).f1.f1),.int .i64 ((rd_T39 l0 t516).f1.f2),.int .i64 ((rd_T39 l0 t516).f2),.string ((rd_T39 l0 t516).f3),.string ((rd_T39 l0 t516).f4)],.agg #[.string a1_0,.int .i64 a1_1,.int .i64 a1_2,.int .i64 a1_3,.int .i64 a1_4,.string a1_5,.bool a1_6]] ?_;(with_reducible refine (gangsawref31_Fits.calls k ((rd_T39 l0 t516).f0) ((rd_T39 l0 t516).f1.f0) ((rd_T39 l0 t516).f1.f1) ((rd_T39 l0 t516).f1.f2) ((rd_T39 l0 t516).f2) ((rd_T39 l0 t516).f3) ((rd_T39 l0 t516).f4) a1_0 a1_1 a1_2 a1_3 a1_4 a1_5 a1_6 t519 t520 _ A15.out).mono ?_);rintro e w27 ⟨rfl,hb⟩;refine ⟨_,rfl, ?_⟩;replace BK514:=am (blk_below (g:=gb514) (o:=.cells #[.string a1_0,.int .i64 a1_1,.int .i64 a1_2,.int .i64 a1_3,.int .i64 a1_4,.string a1_5,.bool a1_6] 26 (0,0)) (by refine bf ?_ NB514_518;refine bf ?_ NB514_518;refine bf ?_ NB514_518;refine bf ?_ NB514_518;refine bf ?_ NB514_518;refine bf ?_ NB514_518;refine bf ?_ NB514_518;exact bq BK514.out) hb);replace BK515:=am (blk_below (g:=gb515) (o:=.cells #[.string (⟨#[]⟩ : ByteArray),.string (⟨#[]⟩ : ByteArray),.bool false] 71 (0,0)) (by refine bf ?_ NB515_518;refine bf ?_ NB515_518;refine bf ?_ NB515_518;refine bf ?_ NB515_518;refine bf ?_ NB515_518;refine bf ?_ NB515_518;refine bf ?_ NB515_518;exact bq BK515.out) hb);replace BK518:=am (blk_below (g:=gb518) (o:=.cells #[.string ((rd_T39 l0 t516).f0),.int .i64 ((rd_T39 l0 t516).f1.f0),.int .i64 ((rd_T39 l0 t516).f1.f1),.int .i64 ((rd_T39 l0 t516).f1.f2),.int .i64 ((rd_T39 l0 t516).f2),.string ((rd_T39 l0 t516).f3),.string ((rd_T39 l0 t516).f4)] 39 (0,0)) (by refine bp (cs:=#[.string ((rd_T39 l0 t516).f0),.int .i64 ((rd_T39 l0 t516).f1.f0),.int .i64 ((rd_T39 l0 t516).f1.f1),.int .i64 ((rd_T39 l0 t516).f1.f2),.int .i64 ((rd_T39 l0 t516).f2),.string ((rd_T39 l0 t516).f3),.string (⟨#[]⟩ : ByteArray)]) ?_ 6;refine bp (cs:=#[.string ((rd_T39 l0 t516).f0),.int .i64 ((rd_T39 l0 t516).f1.f0),.int .i64 ((rd_T39 l0 t516).f1.f1),.int .i64 ((rd_T39 l0 t516).f1.f2),.int .i64 ((rd_T39 l0 t516).f2),.string (⟨#[]⟩ : ByteArray),.string (⟨#[]⟩ : ByteArray)]) ?_ 5;refine bp (cs:=#[.string ((rd_T39 l0 t516).f0),.int .i64 ((rd_T39 l0 t516).f1.f0),.int .i64 ((rd_T39 l0 t516).f1.f1),.int .i64 ((rd_T39 l0 t516).f1.f2),.int .i64 0,.string (⟨#[]⟩ : ByteArray),.string (⟨#[]⟩ : ByteArray)]) ?_ 4;refine bp (cs:=#[.string ((rd_T39 l0 t516).f0),.int .i64 ((rd_T39 l0 t516).f1.f0),.int .i64 ((rd_T39 l0 t516).f1.f1),.int .i64 0,.int .i64 0,.string (⟨#[]⟩ : ByteArray),.string (⟨#[]⟩ : ByteArray)]) ?_ 3;refine bp (cs:=#[.string ((rd_T39 l0 t516).f0),.int .i64 ((rd_T39 l0 t516).f1.f0),.int .i64 0,.int .i64 0,.int .i64 0,.string (⟨#[]⟩ : ByteArray),.string (⟨#[]⟩ : ByteArray)]) ?_ 2;refine bp (cs:=#[.string ((rd_T39 l0 t516).f0),.int .i64 0,.int .i64 0,.int .i64 0,.int .i64 0,.string (⟨#[]⟩ : ByteArray),.string (⟨#[]⟩ : ByteArray)]) ?_ 1;refine bp (cs:=#[.string (⟨#[]⟩ : ByteArray),.int .i64 0,.int .i64 0,.int .i64 0,.int .i64 0,.string (⟨#[]⟩ : ByteArray),.string (⟨#[]⟩ : ByteArray)]) ?_ 0;exact bq BK518.out) hb);replace HB:=am (below_step (by repeat (first|(with_reducible first|exact HB.out|apply lA|apply lN|apply lD|refine lS ?_ GE514.out|refine lS ?_ GE515.out|refine lS ?_ GE518.out)|exact HB.out)) hb);(try clear hb))|((with_reducible refine gate_dst (N:=39) rfl ?_);refine Kd.R_lit k39 _ 39 ?hg (N:=39) ?hd (xs:=([] : List (S39))) (inner:=[]) (ok:=fun _=>True) (okp:=fun _=>True) ?hr ?hp (fun _ hk=>hk) trivial (Below.refl _ _) (Nat.le_refl _) (by simp) ?_;(case hd=>rfl);(case hg=>rfl);(case hr=>first|(go_simp;done)|(go_simp;rfl));(case hp=>exact (Reps.none _ _));intro v522 w28 ho29 hb hg_ hnew_;clear hg_ hnew_;(first|rw [← Ny521.out] at ho29|(simp only [Int.reduceToNat] at ho29;rw [← Ny521.out] at ho29));have HO523:=am (Kd.R_lower (Kd.R_newB ho29 (g:=gb518) (o:=.cells #[.string ((rd_T39 l0 t516).f0),.int .i64 ((rd_T39 l0 t516).f1.f0),.int .i64 ((rd_T39 l0 t516).f1.f1),.int .i64 ((rd_T39 l0 t516).f1.f2),.int .i64 ((rd_T39 l0 t516).f2),.string ((rd_T39 l0 t516).f3),.string ((rd_T39 l0 t516).f4)] 39 (0,0)) (bq BK518.out)) (below_size (by repeat (first|(with_reducible first|exact HB.out|apply lA|apply lN|apply lD|refine lS ?_ GE514.out|refine lS ?_ GE515.out|refine lS ?_ GE518.out)|exact HB.out))));replace BK514:=bba BK514 hb;replace BK515:=bba BK515 hb;replace BK518:=bba BK518 hb;replace HB:=bsa HB hb;clear hb ho29;obtain ⟨hcz30_0,hcz30_1,hcz30_2,hcz30_3,hcz30_4,hcz30_5,hcz30_6,hfz30_0,hfz30_1,hfz30_2,hfz30_3,hfz30_4,hfz30_5,hfz30_6⟩ := c7_ BK518.out;obtain ⟨hcz31_0,hcz31_1,hcz31_2,hcz31_3,hcz31_4,hcz31_5,hcz31_6,hfz31_0,hfz31_1,hfz31_2,hfz31_3,hfz31_4,hfz31_5,hfz31_6⟩ := c7_ BK514.out)|((with_reducible refine gate_callee (f:=59) rfl ?_);refine gL 43 Try.func59 #[.agg #[.string ((rd_T39 l0 t516).f0),.int .i64 ((rd_T39 l0 t516).f1.f0),.int .i64 ((rd_T39 l0 t516).f1.f1),.int .i64 ((rd_T39 l0 t516).f1.f2),.int .i64 ((rd_T39 l0 t516).f2),.string ((rd_T39 l0 t516).f3),.string ((rd_T39 l0 t516).f4)],.agg #[.string a1_0,.int .i64 a1_1,.int .i64 a1_2,.int .i64 a1_3,.int .i64 a1_4,.string a1_5,.bool a1_6],.int .i64 a2] ?_;(with_reducible refine (gangsawref31_Rest.calls k ((rd_T39 l0 t516).f0) ((rd_T39 l0 t516).f1.f0) ((rd_T39 l0 t516).f1.f1) ((rd_T39 l0 t516).f1.f2) ((rd_T39 l0 t516).f2) ((rd_T39 l0 t516).f3) ((rd_T39 l0 t516).f4) a1_0 a1_1 a1_2 a1_3 a1_4 a1_5 a1_6 a2 t524 _ A16.out).mono ?_);rintro e w32 ⟨v525,rfl,ho0,hb⟩;refine ⟨_,rfl, ?_⟩;have HO526:=am (Kd.R_lower (Kd.R_newB (Kd.R_new' ho0 (Kd.R_lt (rq HO523.out))) (g:=gb518) (o:=.cells #[.string ((rd_T39 l0 t516).f0),.int .i64 ((rd_T39 l0 t516).f1.f0),.int .i64 ((rd_T39 l0 t516).f1.f1),.int .i64 ((rd_T39 l0 t516).f1.f2),.int .i64 ((rd_T39 l0 t516).f2),.string ((rd_T39 l0 t516).f3),.string ((rd_T39 l0 t516).f4)] 39 (0,0)) (bq BK518.out)) (below_size (by repeat (first|(with_reducible first|exact HB.out|apply lA|apply lN|apply lD|refine lS ?_ GE514.out|refine lS ?_ GE515.out|refine lS ?_ GE518.out)|exact HB.out))));replace HO523:=am (Kd.R_elder' (rq HO523.out) (Kd.R_base ho0) hb);replace BK514:=bba BK514 hb;replace BK515:=bba BK515 hb;replace BK518:=bba BK518 hb;replace HB:=bsa HB hb;(try clear hb);(try clear ho0)))
    go_loopg [15,17] k (fun kq v15 v17 w'=>∃ (x15_1 : List (S39)) (x17_1 : Int),v17 = .int .i64 x17_1 ∧ Aside0 (gangsawref31_Take.l0 kq l0 a3 t516 t520 x15_1 t524 x17_1 a1_0 a1_1 a1_2 a1_3 a1_4 a1_5 a1_6 ((rd_T39 l0 t516).f0) ((rd_T39 l0 t516).f1.f0) ((rd_T39 l0 t516).f1.f1) ((rd_T39 l0 t516).f1.f2) ((rd_T39 l0 t516).f2) ((rd_T39 l0 t516).f3) ((rd_T39 l0 t516).f4) = some (r1,r2,r3,r4,r5)) ∧ Aside0 (kq ≤ k) ∧ Aside0 (Kd.R k39 39 w' w.heap.size (fun k_=>some k_ ≠ (v525 : Value).ownBlock ∧ k_ ≠ gb518) v15 x15_1) ∧ Aside0 (Kd.R k39 39 w' w.heap.size (fun k_=>some k_ ≠ (v15 : Value).ownBlock ∧ k_ ≠ gb518) v525 t524) ∧ Aside0 (w'.heap[gb514]? = some (.cells #[.string a1_0,.int .i64 a1_1,.int .i64 a1_2,.int .i64 a1_3,.int .i64 a1_4,.string a1_5,.bool a1_6] 26 (0,0))) ∧ Aside0 (w'.heap[gb515]? = some (.cells #[.string (⟨#[]⟩ : ByteArray),.string (⟨#[]⟩ : ByteArray),.bool false] 71 (0,0))) ∧ Aside0 (w'.heap[gb518]? = some (.cells #[.string ((rd_T39 l0 t516).f0),.int .i64 ((rd_T39 l0 t516).f1.f0),.int .i64 ((rd_T39 l0 t516).f1.f1),.int .i64 ((rd_T39 l0 t516).f1.f2),.int .i64 ((rd_T39 l0 t516).f2),.string ((rd_T39 l0 t516).f3),.string ((rd_T39 l0 t516).f4)] 39 (0,0))) ∧ Aside0 (Below w.heap.size w w'))
    case atStart=>exact ⟨(y521),(0),(by first|rfl|(simp;done)|(simp [*];done)),H',⟨Nat.le_refl _⟩,⟨by (with_reducible repeat (first|apply rA|apply rN|apply rD));exact Kd.R_mono HO523.out (fun _ hk=>⟨hk.2,hk.1.2⟩)⟩,⟨by (with_reducible repeat (first|apply rA|apply rN|apply rD));exact Kd.R_mono HO526.out (fun _ hk=>⟨hk.1.2,hk.2⟩)⟩,⟨bq BK514.out⟩,⟨bq BK515.out⟩,⟨bq BK518.out⟩,⟨by repeat (first|(with_reducible first|exact HB.out|apply lA|apply lN|apply lD|refine lS ?_ GE514.out|refine lS ?_ GE515.out|refine lS ?_ GE518.out)|exact HB.out)⟩⟩
    case round =>
     clear H'
     try clear c1
     try clear c2
     try clear p2
     try clear c3
     try clear c5
     try clear p5
     try clear q5
     try clear hx5
     try clear c6
     try clear c6b0
     try clear c9
     try clear c13
     try clear c13b0
     try clear c14
     try clear c14b0
     try clear c19
     try clear c23
     try clear c24
     try clear c26
     try clear c30
     try clear c32
     try clear hcz10_0
     try clear hcz10_1
     try clear hcz10_2
     try clear hcz10_3
     try clear hcz10_4
     try clear hcz10_5
     try clear hcz10_6
     try clear hcz12_0
     try clear hcz12_1
     try clear hcz12_2
     try clear hcz20_0
     try clear hcz20_1
     try clear hcz20_2
     try clear hcz20_3
     try clear hcz20_4
     try clear hcz20_5
     try clear hcz20_6
     try clear hcz25_0
     try clear hcz25_1
     try clear hcz25_2
     try clear hcz25_3
     try clear hcz25_4
     try clear hcz25_5
     try clear hcz25_6
     try clear hcz26_0
     try clear hcz26_1
     try clear hcz26_2
     try clear hcz26_3
     try clear hcz26_4
     try clear hcz26_5
     try clear hcz26_6
     try clear hcz30_0
     try clear hcz30_1
     try clear hcz30_2
     try clear hcz30_3
     try clear hcz30_4
     try clear hcz30_5
     try clear hcz30_6
     try clear hcz31_0
     try clear hcz31_1
     try clear hcz31_2
     try clear hcz31_3
     try clear hcz31_4
     try clear hcz31_5
     try clear hcz31_6
     try clear hfz10_0
     try clear hfz10_1
     try clear hfz10_2
     try clear hfz10_3
     try clear hfz10_4
     try clear hfz10_5
     try clear hfz10_6
     try clear hfz12_0
     try clear hfz12_1
     try clear hfz12_2
     try clear hfz20_0
     try clear hfz20_1
     try clear hfz20_2
     try clear hfz20_3
     try clear hfz20_4
     try clear hfz20_5
     try clear hfz20_6
     try clear hfz25_0
     try clear hfz25_1
     try clear hfz25_2
     try clear hfz25_3
     try clear hfz25_4
     try clear hfz25_5
     try clear hfz25_6
     try clear hfz26_0
     try clear hfz26_1
     try clear hfz26_2
     try clear hfz26_3
     try clear hfz26_4
     try clear hfz26_5
     try clear hfz26_6
     try clear hfz30_0
     try clear hfz30_1
     try clear hfz30_2
     try clear hfz30_3
     try clear hfz30_4
     try clear hfz30_5
     try clear hfz30_6
     try clear hfz31_0
     try clear hfz31_1
     try clear hfz31_2
     try clear hfz31_3
     try clear hfz31_4
     try clear hfz31_5
     try clear hfz31_6
     try clear hx517_0
     try clear hx517_1
     try clear hx517_2
     try clear hx517_3
     try clear hx517_4
     try clear hx517_5
     try clear hx517_6
     try clear p517
     try clear q517
     obtain ⟨x15_1,x17_1,rfl,HA,HK1,HO_15,HO_16,BK514,BK515,BK518,HB⟩ := hrel
     cases gk with
     | zero=>exact absurd HA.out (by simp [gangsawref31_Take.l0])
     | succ k1 =>
      have H:=HA.out;clear HA;simp only [gangsawref31_Take.l0] at H;by_cases c33 : x17_1 < (t524.length : Int)
      ·rw [if_pos c33] at H;have c33b0 : decide (x17_1 < (t524.length : Int)) = true:=decide_eq_true c33;clear c33;by_cases c34 : 0 ≤ x17_1
       ·rw [if_pos c34] at H;have c34b0 : decide (0 ≤ x17_1) = true:=decide_eq_true c34;clear c34;by_cases c35 : ((rd_T39 t524 x17_1).f1.f0) ≥ a3
        ·rw [if_pos c35] at H;have c35b0 : decide (a3 ≤ ((rd_T39 t524 x17_1).f1.f0)) = true:=decide_eq_true c35;clear c35;by_cases c36 : ((rd_T39 t524 x17_1).f1.f1) ≥ a3
         ·rw [if_pos c36] at H;have c36b0 : decide (a3 ≤ ((rd_T39 t524 x17_1).f1.f1)) = true:=decide_eq_true c36;clear c36;by_cases c37 : ((rd_T39 t524 x17_1).f1.f2) ≥ a3
          ·rw [if_pos c37] at H;have c37b0 : decide (a3 ≤ ((rd_T39 t524 x17_1).f1.f2)) = true:=decide_eq_true c37;clear c37;by_cases c38 : x15_1.length < 1759218604441
           ·rw [if_pos c38] at H;have LMc38:=am c38;clear c38
            obtain ⟨y530,hy530⟩ : ∃ y_ : List (S39),y_ = (x15_1 ++ [(⟨(rd_T39 t524 x17_1).f0,(⟨(rd_T39 t524 x17_1).f1.f0,(rd_T39 t524 x17_1).f1.f1,(rd_T39 t524 x17_1).f1.f2⟩ : S24),(rd_T39 t524 x17_1).f2,(rd_T39 t524 x17_1).f3,(rd_T39 t524 x17_1).f4⟩ : S39)]):=⟨_,rfl⟩
            replace H : (gangsawref31_Take.l0 k1 l0 a3 t516 t520 y530 t524 (wrap64 (x17_1 + 1)) a1_0 a1_1 a1_2 a1_3 a1_4 a1_5 a1_6 ((rd_T39 l0 t516).f0) ((rd_T39 l0 t516).f1.f0) ((rd_T39 l0 t516).f1.f1) ((rd_T39 l0 t516).f1.f2) ((rd_T39 l0 t516).f2) ((rd_T39 l0 t516).f3) ((rd_T39 l0 t516).f4)) = some (r1,r2,r3,r4,r5):=by first|(rw [hy530];with_reducible exact H)|(have H2_:=(Option.bind_some _ _).symm.trans H;rw [hy530];with_reducible exact H2_)|(have H2_:=(Option.bind_some _ _).symm.trans H;with_reducible exact H2_)|with_reducible exact H|(rw [hy530];exact H)|exact H
            have Ny530:=am hy530;clear hy530;have H':=am H;clear H;obtain ⟨Ao39,co39,eo39⟩ := Kd.R_slice HO_16.out;subst eo39;have p527 : 0 ≤ (x17_1 : Int):=dt;have q527 : x17_1 < (t524.length : Int):=dt;obtain ⟨ad527,e527,hx527_0,hx527_1,hx527_2,hx527_3,hx527_4,hx527_5,hx527_6⟩ := at_T39 (Kd.R_reads' HO_16.out).2.2 x17_1 p527 q527
            cases e527
            replace p527:=eq_true p527;replace q527:=eq_true q527
            go_wp2_with (first|((with_reducible refine gate_dst (N:=18) rfl ?_);refine be 18 24 (cs:=#[.int .i64 0,.int .i64 0,.int .i64 0]) ?_;intro gb528 hg w40 hbox hb;have BK528:=am hbox;have GW528:=bza HB hg;have GE528:=bza HB hg;have NB514_528:=bla BK514 hg;have NB528_514:=bga BK514 hg;have NB515_528:=bla BK515 hg;have NB528_515:=bga BK515 hg;have NB518_528:=bla BK518 hg;have NB528_518:=bga BK518 hg;replace HO_15:=rba HO_15 hb;replace HO_16:=rba HO_16 hb;replace BK514:=bba BK514 hb;replace BK515:=bba BK515 hb;replace BK518:=bba BK518 hb;replace HB:=bsa HB hb;clear hb hbox hg;have hnb41:=NB528_514.out;have hnc41:=NB514_528.out;have hnb42:=NB528_515.out;have hnc42:=NB515_528.out;have hnb43:=NB528_518.out;have hnc43:=NB518_528.out;obtain ⟨hcz44_0,hcz44_1,hcz44_2,hfz44_0,hfz44_1,hfz44_2⟩ := c3_ BK528.out;have p529 : 0 ≤ (x17_1 : Int):=dt;have q529 : x17_1 < (t524.length : Int):=dt;obtain ⟨ad529,e529,hx529_0,hx529_1,hx529_2,hx529_3,hx529_4,hx529_5,hx529_6⟩ := at_T39 (Kd.R_reads' HO_16.out).2.2 x17_1 p529 q529;obtain rfl : ad527 = ad529:=(by injection e529);have hn529_0 : ad527.block ≠ gb528:=Kd.own_blk (Kd.R_ne HO_16.out BK528.out (by decide));have hn529_1 : ad527.block ≠ gb528:=Kd.own_blk (Kd.R_ne HO_16.out BK528.out (by decide));have hn529_2 : ad527.block ≠ gb528:=Kd.own_blk (Kd.R_ne HO_16.out BK528.out (by decide));replace hx529_0:=(cell_far (p:=⟨gb528,0,none⟩) (by first|(rw [add_block];exact hn529_0)|(show (Addr.add _ _).block ≠ _;rw [add_block];exact hn529_0)|exact hn529_0) (.int .i64 ((rd_T39 t524 x17_1).f1.f0))).trans hx529_0;replace hx529_1:=(cell_far (p:=⟨gb528,0,none⟩) (by first|(rw [add_block];exact hn529_0)|(show (Addr.add _ _).block ≠ _;rw [add_block];exact hn529_0)|exact hn529_0) (.int .i64 ((rd_T39 t524 x17_1).f1.f0))).trans hx529_1;replace hx529_2:=(cell_far (p:=⟨gb528,0,none⟩) (by first|(rw [add_block];exact hn529_0)|(show (Addr.add _ _).block ≠ _;rw [add_block];exact hn529_0)|exact hn529_0) (.int .i64 ((rd_T39 t524 x17_1).f1.f0))).trans hx529_2;replace hx529_3:=(cell_far (p:=⟨gb528,0,none⟩) (by first|(rw [add_block];exact hn529_0)|(show (Addr.add _ _).block ≠ _;rw [add_block];exact hn529_0)|exact hn529_0) (.int .i64 ((rd_T39 t524 x17_1).f1.f0))).trans hx529_3;replace hx529_4:=(cell_far (p:=⟨gb528,0,none⟩) (by first|(rw [add_block];exact hn529_0)|(show (Addr.add _ _).block ≠ _;rw [add_block];exact hn529_0)|exact hn529_0) (.int .i64 ((rd_T39 t524 x17_1).f1.f0))).trans hx529_4;replace hx529_5:=(cell_far (p:=⟨gb528,0,none⟩) (by first|(rw [add_block];exact hn529_0)|(show (Addr.add _ _).block ≠ _;rw [add_block];exact hn529_0)|exact hn529_0) (.int .i64 ((rd_T39 t524 x17_1).f1.f0))).trans hx529_5;replace hx529_6:=(cell_far (p:=⟨gb528,0,none⟩) (by first|(rw [add_block];exact hn529_0)|(show (Addr.add _ _).block ≠ _;rw [add_block];exact hn529_0)|exact hn529_0) (.int .i64 ((rd_T39 t524 x17_1).f1.f0))).trans hx529_6;replace hx529_0:=(cell_far (p:=⟨gb528,1,none⟩) (by first|(rw [add_block];exact hn529_1)|(show (Addr.add _ _).block ≠ _;rw [add_block];exact hn529_1)|exact hn529_1) (.int .i64 ((rd_T39 t524 x17_1).f1.f1))).trans hx529_0;replace hx529_1:=(cell_far (p:=⟨gb528,1,none⟩) (by first|(rw [add_block];exact hn529_1)|(show (Addr.add _ _).block ≠ _;rw [add_block];exact hn529_1)|exact hn529_1) (.int .i64 ((rd_T39 t524 x17_1).f1.f1))).trans hx529_1;replace hx529_2:=(cell_far (p:=⟨gb528,1,none⟩) (by first|(rw [add_block];exact hn529_1)|(show (Addr.add _ _).block ≠ _;rw [add_block];exact hn529_1)|exact hn529_1) (.int .i64 ((rd_T39 t524 x17_1).f1.f1))).trans hx529_2;replace hx529_3:=(cell_far (p:=⟨gb528,1,none⟩) (by first|(rw [add_block];exact hn529_1)|(show (Addr.add _ _).block ≠ _;rw [add_block];exact hn529_1)|exact hn529_1) (.int .i64 ((rd_T39 t524 x17_1).f1.f1))).trans hx529_3;replace hx529_4:=(cell_far (p:=⟨gb528,1,none⟩) (by first|(rw [add_block];exact hn529_1)|(show (Addr.add _ _).block ≠ _;rw [add_block];exact hn529_1)|exact hn529_1) (.int .i64 ((rd_T39 t524 x17_1).f1.f1))).trans hx529_4;replace hx529_5:=(cell_far (p:=⟨gb528,1,none⟩) (by first|(rw [add_block];exact hn529_1)|(show (Addr.add _ _).block ≠ _;rw [add_block];exact hn529_1)|exact hn529_1) (.int .i64 ((rd_T39 t524 x17_1).f1.f1))).trans hx529_5;replace hx529_6:=(cell_far (p:=⟨gb528,1,none⟩) (by first|(rw [add_block];exact hn529_1)|(show (Addr.add _ _).block ≠ _;rw [add_block];exact hn529_1)|exact hn529_1) (.int .i64 ((rd_T39 t524 x17_1).f1.f1))).trans hx529_6;replace hx529_0:=(cell_far (p:=⟨gb528,2,none⟩) (by first|(rw [add_block];exact hn529_2)|(show (Addr.add _ _).block ≠ _;rw [add_block];exact hn529_2)|exact hn529_2) (.int .i64 ((rd_T39 t524 x17_1).f1.f2))).trans hx529_0;replace hx529_1:=(cell_far (p:=⟨gb528,2,none⟩) (by first|(rw [add_block];exact hn529_2)|(show (Addr.add _ _).block ≠ _;rw [add_block];exact hn529_2)|exact hn529_2) (.int .i64 ((rd_T39 t524 x17_1).f1.f2))).trans hx529_1;replace hx529_2:=(cell_far (p:=⟨gb528,2,none⟩) (by first|(rw [add_block];exact hn529_2)|(show (Addr.add _ _).block ≠ _;rw [add_block];exact hn529_2)|exact hn529_2) (.int .i64 ((rd_T39 t524 x17_1).f1.f2))).trans hx529_2;replace hx529_3:=(cell_far (p:=⟨gb528,2,none⟩) (by first|(rw [add_block];exact hn529_2)|(show (Addr.add _ _).block ≠ _;rw [add_block];exact hn529_2)|exact hn529_2) (.int .i64 ((rd_T39 t524 x17_1).f1.f2))).trans hx529_3;replace hx529_4:=(cell_far (p:=⟨gb528,2,none⟩) (by first|(rw [add_block];exact hn529_2)|(show (Addr.add _ _).block ≠ _;rw [add_block];exact hn529_2)|exact hn529_2) (.int .i64 ((rd_T39 t524 x17_1).f1.f2))).trans hx529_4;replace hx529_5:=(cell_far (p:=⟨gb528,2,none⟩) (by first|(rw [add_block];exact hn529_2)|(show (Addr.add _ _).block ≠ _;rw [add_block];exact hn529_2)|exact hn529_2) (.int .i64 ((rd_T39 t524 x17_1).f1.f2))).trans hx529_5;replace hx529_6:=(cell_far (p:=⟨gb528,2,none⟩) (by first|(rw [add_block];exact hn529_2)|(show (Addr.add _ _).block ≠ _;rw [add_block];exact hn529_2)|exact hn529_2) (.int .i64 ((rd_T39 t524 x17_1).f1.f2))).trans hx529_6;clear hn529_0;clear hn529_1;clear hn529_2;replace p529:=eq_true p529;replace q529:=eq_true q529)|((with_reducible refine gate_builtin (b:=.append) (xs:=#[.tmp 71,.tmp 76]) rfl ?_);at_builtin;refine Kd.R_append k39 (w0:=w) w.heap.size rfl (.tmp 71) (.tmp 76) 22 39 (.agg #[(.string ⟨#[]⟩),(.int .i64 0),(.int .i64 0),(.int .i64 0),(.int .i64 0),(.string ⟨#[]⟩),(.string ⟨#[]⟩)]) 80 rfl Try.underlying22 info39 rfl (by decide) (by omega) u15 x15_1 (⟨(rd_T39 t524 x17_1).f0,(⟨(rd_T39 t524 x17_1).f1.f0,(rd_T39 t524 x17_1).f1.f1,(rd_T39 t524 x17_1).f1.f2⟩ : S24),(rd_T39 t524 x17_1).f2,(rd_T39 t524 x17_1).f3,(rd_T39 t524 x17_1).f4⟩ : S39) [.string ((rd_T39 t524 x17_1).f0),.int .i64 ((rd_T39 t524 x17_1).f1.f0),.int .i64 ((rd_T39 t524 x17_1).f1.f1),.int .i64 ((rd_T39 t524 x17_1).f1.f2),.int .i64 ((rd_T39 t524 x17_1).f2),.string ((rd_T39 t524 x17_1).f3),.string ((rd_T39 t524 x17_1).f4)] (fun k_=>some k_ ≠ (.slice (some ad527) t524.length co39 : Value).ownBlock ∧ k_ ≠ gb518) (fun _=>False) rfl (by first|(go_simp;done)|(go_simp;rfl)) ?aP (fun _ hk=>hk.elim) ?aF ?aO ?aB ?aS ?aL ?_;(case aP=>exact k39_mkM _ _ _ (⟨(rd_T39 t524 x17_1).f0,(⟨(rd_T39 t524 x17_1).f1.f0,(rd_T39 t524 x17_1).f1.f1,(rd_T39 t524 x17_1).f1.f2⟩ : S24),(rd_T39 t524 x17_1).f2,(rd_T39 t524 x17_1).f3,(rd_T39 t524 x17_1).f4⟩ : S39));(case aB=>exact (by repeat (first|(with_reducible first|exact HB.out|apply lA|apply lN|apply lD|refine lS ?_ GE514.out|refine lS ?_ GE515.out|refine lS ?_ GE518.out|refine lS ?_ GE528.out)|exact HB.out)));(case aF=>exact (fun k_ hk=>⟨Kd.fresh' (Kd.R_lt (by (with_reducible repeat (first|apply rA|apply rN|apply rD));exact (Kd.R_mono (Kd.R_far (p:=⟨gb528,2,none⟩) (Kd.R_far (p:=⟨gb528,1,none⟩) (Kd.R_far (p:=⟨gb528,0,none⟩) (Kd.R_types HO_16.out BK528.out (by decide)) (fun _ hk=>hk.2) (.int .i64 ((rd_T39 t524 x17_1).f1.f0))) (fun _ hk=>hk.2) (.int .i64 ((rd_T39 t524 x17_1).f1.f1))) (fun _ hk=>hk.2) (.int .i64 ((rd_T39 t524 x17_1).f1.f2))) (fun _ h_=>h_.1)))) k_ hk,Kd.freshB (g:=gb518) (o:=.cells #[.string ((rd_T39 l0 t516).f0),.int .i64 ((rd_T39 l0 t516).f1.f0),.int .i64 ((rd_T39 l0 t516).f1.f1),.int .i64 ((rd_T39 l0 t516).f1.f2),.int .i64 ((rd_T39 l0 t516).f2),.string ((rd_T39 l0 t516).f3),.string ((rd_T39 l0 t516).f4)] 39 (0,0)) (by refine bf ?_ NB518_528;refine bf ?_ NB518_528;refine bf ?_ NB518_528;exact bq BK518.out) k_ hk⟩));(case aO=>exact (by (with_reducible repeat (first|apply rA|apply rN|apply rD));exact Kd.R_mono (Kd.R_far (p:=⟨gb528,2,none⟩) (Kd.R_far (p:=⟨gb528,1,none⟩) (Kd.R_far (p:=⟨gb528,0,none⟩) (Kd.R_types HO_15.out BK528.out (by decide)) (fun _ hk=>hk.2) (.int .i64 ((rd_T39 t524 x17_1).f1.f0))) (fun _ hk=>hk.2) (.int .i64 ((rd_T39 t524 x17_1).f1.f1))) (fun _ hk=>hk.2) (.int .i64 ((rd_T39 t524 x17_1).f1.f2))) (fun _ hk=>⟨hk.1.1,hk.1.2⟩)));(case aS=>exact (below_size (by repeat (first|(with_reducible first|exact HB.out|apply lA|apply lN|apply lD|refine lS ?_ GE514.out|refine lS ?_ GE515.out|refine lS ?_ GE518.out|refine lS ?_ GE528.out)|exact HB.out))));(case aL=>have:=LMc38.out;omega);intro v531 w45 ho hb hg hat;rw [← Ny530.out] at ho;have n0_:=am (Kd.R_after (ok:=(fun k_=>k_ ≠ gb518)) (by (with_reducible repeat (first|apply rA|apply rN|apply rD));exact Kd.R_mono (Kd.R_far (p:=⟨gb528,2,none⟩) (Kd.R_far (p:=⟨gb528,1,none⟩) (Kd.R_far (p:=⟨gb528,0,none⟩) (Kd.R_types HO_16.out BK528.out (by decide)) (fun _ hk=>hk.2) (.int .i64 ((rd_T39 t524 x17_1).f1.f0))) (fun _ hk=>hk.2) (.int .i64 ((rd_T39 t524 x17_1).f1.f1))) (fun _ hk=>hk.2) (.int .i64 ((rd_T39 t524 x17_1).f1.f2))) (fun _ hk=>⟨hk.1.2,hk.1.1⟩)) hg hat);have n1_:=am (blk_grown (g:=gb514) (o:=.cells #[.string a1_0,.int .i64 a1_1,.int .i64 a1_2,.int .i64 a1_3,.int .i64 a1_4,.string a1_5,.bool a1_6] 26 (0,0)) (by refine bf ?_ NB514_528;refine bf ?_ NB514_528;refine bf ?_ NB514_528;exact bq BK514.out) hg (Kd.R_ne HO_15.out BK514.out (by decide)));have n2_:=am (blk_grown (g:=gb515) (o:=.cells #[.string (⟨#[]⟩ : ByteArray),.string (⟨#[]⟩ : ByteArray),.bool false] 71 (0,0)) (by refine bf ?_ NB515_528;refine bf ?_ NB515_528;refine bf ?_ NB515_528;exact bq BK515.out) hg (Kd.R_ne HO_15.out BK515.out (by decide)));have n3_:=am (blk_grown (g:=gb518) (o:=.cells #[.string ((rd_T39 l0 t516).f0),.int .i64 ((rd_T39 l0 t516).f1.f0),.int .i64 ((rd_T39 l0 t516).f1.f1),.int .i64 ((rd_T39 l0 t516).f1.f2),.int .i64 ((rd_T39 l0 t516).f2),.string ((rd_T39 l0 t516).f3),.string ((rd_T39 l0 t516).f4)] 39 (0,0)) (by refine bf ?_ NB518_528;refine bf ?_ NB518_528;refine bf ?_ NB518_528;exact bq BK518.out) hg (Kd.R_away HO_15.out (fun _ hk=>hk.2)));have n4_:=am (blk_grown (g:=gb528) (o:=.cells #[.int .i64 ((rd_T39 t524 x17_1).f1.f0),.int .i64 ((rd_T39 t524 x17_1).f1.f1),.int .i64 ((rd_T39 t524 x17_1).f1.f2)] 24 (0,0)) (by refine bp (cs:=#[.int .i64 ((rd_T39 t524 x17_1).f1.f0),.int .i64 ((rd_T39 t524 x17_1).f1.f1),.int .i64 0]) ?_ 2;refine bp (cs:=#[.int .i64 ((rd_T39 t524 x17_1).f1.f0),.int .i64 0,.int .i64 0]) ?_ 1;refine bp (cs:=#[.int .i64 0,.int .i64 0,.int .i64 0]) ?_ 0;exact bq BK528.out) hg (Kd.R_ne HO_15.out BK528.out (by decide)));have n5_:=am hb;have n6_:=am ho;clear BK514 BK515 BK518 BK528 HB HO_15 HO_16;have HO_16:=n0_;have BK514:=n1_;have BK515:=n2_;have BK518:=n3_;have BK528:=n4_;have HB:=n5_;have HO532:=n6_;clear n0_ n1_ n2_ n3_ n4_ n5_ n6_;clear ho hb hg hat))
            go_roundg k1
            case measure=>have:=HK1.out;omega
            case rel=>exact ⟨(y530),(wrap64 (x17_1 + 1)),(by first|rfl|(simp;done)|(simp [*];done)),H',⟨by have:=HK1.out;omega⟩,⟨rq HO532.out⟩,⟨by (with_reducible repeat (first|apply rA|apply rN|apply rD));exact Kd.R_mono HO_16.out (fun _ hk=>⟨hk.2,hk.1⟩)⟩,⟨bq BK514.out⟩,⟨bq BK515.out⟩,⟨bq BK518.out⟩,⟨by repeat (first|(with_reducible first|exact HB.out|apply lA|apply lN|apply lD|refine lS ?_ GE514.out|refine lS ?_ GE515.out|refine lS ?_ GE518.out|refine lS ?_ GE528.out)|exact HB.out)⟩⟩
           (rw [if_neg c38] at H;exact absurd H (by simp))
          ·rw [if_neg c37] at H;have c37b0 : decide (a3 ≤ ((rd_T39 t524 x17_1).f1.f2)) = false:=decide_eq_false c37;clear c37;have H':=am H;clear H;obtain ⟨Ao46,co46,eo46⟩ := Kd.R_slice HO_16.out;subst eo46;have p527 : 0 ≤ (x17_1 : Int):=dt;have q527 : x17_1 < (t524.length : Int):=dt;obtain ⟨ad527,e527,hx527_0,hx527_1,hx527_2,hx527_3,hx527_4,hx527_5,hx527_6⟩ := at_T39 (Kd.R_reads' HO_16.out).2.2 x17_1 p527 q527
           cases e527
           replace p527:=eq_true p527;replace q527:=eq_true q527
           go_wp2_with (first|((with_reducible refine gate_dst (N:=18) rfl ?_);refine be 18 24 (cs:=#[.int .i64 0,.int .i64 0,.int .i64 0]) ?_;intro gb528 hg w47 hbox hb;have BK528:=am hbox;have GW528:=bza HB hg;have GE528:=bza HB hg;have NB514_528:=bla BK514 hg;have NB528_514:=bga BK514 hg;have NB515_528:=bla BK515 hg;have NB528_515:=bga BK515 hg;have NB518_528:=bla BK518 hg;have NB528_518:=bga BK518 hg;replace HO_15:=rba HO_15 hb;replace HO_16:=rba HO_16 hb;replace BK514:=bba BK514 hb;replace BK515:=bba BK515 hb;replace BK518:=bba BK518 hb;replace HB:=bsa HB hb;clear hb hbox hg;have hnb48:=NB528_514.out;have hnc48:=NB514_528.out;have hnb49:=NB528_515.out;have hnc49:=NB515_528.out;have hnb50:=NB528_518.out;have hnc50:=NB518_528.out;obtain ⟨hcz51_0,hcz51_1,hcz51_2,hfz51_0,hfz51_1,hfz51_2⟩ := c3_ BK528.out))
           go_roundg k1
           case measure=>have:=HK1.out;omega
           case rel=>exact ⟨(x15_1),(wrap64 (x17_1 + 1)),(by first|rfl|(simp;done)|(simp [*];done)),H',⟨by have:=HK1.out;omega⟩,⟨by (with_reducible repeat (first|apply rA|apply rN|apply rD));exact Kd.R_mono (Kd.R_far (p:=⟨gb528,2,none⟩) (Kd.R_far (p:=⟨gb528,1,none⟩) (Kd.R_far (p:=⟨gb528,0,none⟩) (Kd.R_types HO_15.out BK528.out (by decide)) (fun _ hk=>hk.2) (.int .i64 ((rd_T39 t524 x17_1).f1.f0))) (fun _ hk=>hk.2) (.int .i64 ((rd_T39 t524 x17_1).f1.f1))) (fun _ hk=>hk.2) (.int .i64 ((rd_T39 t524 x17_1).f1.f2))) (fun _ hk=>⟨hk.1.1,hk.1.2⟩)⟩,⟨by (with_reducible repeat (first|apply rA|apply rN|apply rD));exact Kd.R_mono (Kd.R_far (p:=⟨gb528,2,none⟩) (Kd.R_far (p:=⟨gb528,1,none⟩) (Kd.R_far (p:=⟨gb528,0,none⟩) (Kd.R_types HO_16.out BK528.out (by decide)) (fun _ hk=>hk.2) (.int .i64 ((rd_T39 t524 x17_1).f1.f0))) (fun _ hk=>hk.2) (.int .i64 ((rd_T39 t524 x17_1).f1.f1))) (fun _ hk=>hk.2) (.int .i64 ((rd_T39 t524 x17_1).f1.f2))) (fun _ hk=>⟨hk.1.1,hk.1.2⟩)⟩,⟨by refine bf ?_ NB514_528;refine bf ?_ NB514_528;refine bf ?_ NB514_528;exact bq BK514.out⟩,⟨by refine bf ?_ NB515_528;refine bf ?_ NB515_528;refine bf ?_ NB515_528;exact bq BK515.out⟩,⟨by refine bf ?_ NB518_528;refine bf ?_ NB518_528;refine bf ?_ NB518_528;exact bq BK518.out⟩,⟨by repeat (first|(with_reducible first|exact HB.out|apply lA|apply lN|apply lD|refine lS ?_ GE514.out|refine lS ?_ GE515.out|refine lS ?_ GE518.out|refine lS ?_ GE528.out)|exact HB.out)⟩⟩
         ·rw [if_neg c36] at H;have c36b0 : decide (a3 ≤ ((rd_T39 t524 x17_1).f1.f1)) = false:=decide_eq_false c36;clear c36;have H':=am H;clear H;obtain ⟨Ao52,co52,eo52⟩ := Kd.R_slice HO_16.out;subst eo52;have p527 : 0 ≤ (x17_1 : Int):=dt;have q527 : x17_1 < (t524.length : Int):=dt;obtain ⟨ad527,e527,hx527_0,hx527_1,hx527_2,hx527_3,hx527_4,hx527_5,hx527_6⟩ := at_T39 (Kd.R_reads' HO_16.out).2.2 x17_1 p527 q527
          cases e527
          replace p527:=eq_true p527;replace q527:=eq_true q527
          go_wp2_with (first|((with_reducible refine gate_dst (N:=18) rfl ?_);refine be 18 24 (cs:=#[.int .i64 0,.int .i64 0,.int .i64 0]) ?_;intro gb528 hg w53 hbox hb;have BK528:=am hbox;have GW528:=bza HB hg;have GE528:=bza HB hg;have NB514_528:=bla BK514 hg;have NB528_514:=bga BK514 hg;have NB515_528:=bla BK515 hg;have NB528_515:=bga BK515 hg;have NB518_528:=bla BK518 hg;have NB528_518:=bga BK518 hg;replace HO_15:=rba HO_15 hb;replace HO_16:=rba HO_16 hb;replace BK514:=bba BK514 hb;replace BK515:=bba BK515 hb;replace BK518:=bba BK518 hb;replace HB:=bsa HB hb;clear hb hbox hg;have hnb54:=NB528_514.out;have hnc54:=NB514_528.out;have hnb55:=NB528_515.out;have hnc55:=NB515_528.out;have hnb56:=NB528_518.out;have hnc56:=NB518_528.out;obtain ⟨hcz57_0,hcz57_1,hcz57_2,hfz57_0,hfz57_1,hfz57_2⟩ := c3_ BK528.out))
          go_roundg k1
          case measure=>have:=HK1.out;omega
          case rel=>exact ⟨(x15_1),(wrap64 (x17_1 + 1)),(by first|rfl|(simp;done)|(simp [*];done)),H',⟨by have:=HK1.out;omega⟩,⟨by (with_reducible repeat (first|apply rA|apply rN|apply rD));exact Kd.R_mono (Kd.R_far (p:=⟨gb528,2,none⟩) (Kd.R_far (p:=⟨gb528,1,none⟩) (Kd.R_far (p:=⟨gb528,0,none⟩) (Kd.R_types HO_15.out BK528.out (by decide)) (fun _ hk=>hk.2) (.int .i64 ((rd_T39 t524 x17_1).f1.f0))) (fun _ hk=>hk.2) (.int .i64 ((rd_T39 t524 x17_1).f1.f1))) (fun _ hk=>hk.2) (.int .i64 ((rd_T39 t524 x17_1).f1.f2))) (fun _ hk=>⟨hk.1.1,hk.1.2⟩)⟩,⟨by (with_reducible repeat (first|apply rA|apply rN|apply rD));exact Kd.R_mono (Kd.R_far (p:=⟨gb528,2,none⟩) (Kd.R_far (p:=⟨gb528,1,none⟩) (Kd.R_far (p:=⟨gb528,0,none⟩) (Kd.R_types HO_16.out BK528.out (by decide)) (fun _ hk=>hk.2) (.int .i64 ((rd_T39 t524 x17_1).f1.f0))) (fun _ hk=>hk.2) (.int .i64 ((rd_T39 t524 x17_1).f1.f1))) (fun _ hk=>hk.2) (.int .i64 ((rd_T39 t524 x17_1).f1.f2))) (fun _ hk=>⟨hk.1.1,hk.1.2⟩)⟩,⟨by refine bf ?_ NB514_528;refine bf ?_ NB514_528;refine bf ?_ NB514_528;exact bq BK514.out⟩,⟨by refine bf ?_ NB515_528;refine bf ?_ NB515_528;refine bf ?_ NB515_528;exact bq BK515.out⟩,⟨by refine bf ?_ NB518_528;refine bf ?_ NB518_528;refine bf ?_ NB518_528;exact bq BK518.out⟩,⟨by repeat (first|(with_reducible first|exact HB.out|apply lA|apply lN|apply lD|refine lS ?_ GE514.out|refine lS ?_ GE515.out|refine lS ?_ GE518.out|refine lS ?_ GE528.out)|exact HB.out)⟩⟩
        ·rw [if_neg c35] at H;have c35b0 : decide (a3 ≤ ((rd_T39 t524 x17_1).f1.f0)) = false:=decide_eq_false c35;clear c35;have H':=am H;clear H;obtain ⟨Ao58,co58,eo58⟩ := Kd.R_slice HO_16.out;subst eo58;have p527 : 0 ≤ (x17_1 : Int):=dt;have q527 : x17_1 < (t524.length : Int):=dt;obtain ⟨ad527,e527,hx527_0,hx527_1,hx527_2,hx527_3,hx527_4,hx527_5,hx527_6⟩ := at_T39 (Kd.R_reads' HO_16.out).2.2 x17_1 p527 q527
         cases e527
         replace p527:=eq_true p527;replace q527:=eq_true q527
         go_wp2_with (first|((with_reducible refine gate_dst (N:=18) rfl ?_);refine be 18 24 (cs:=#[.int .i64 0,.int .i64 0,.int .i64 0]) ?_;intro gb528 hg w59 hbox hb;have BK528:=am hbox;have GW528:=bza HB hg;have GE528:=bza HB hg;have NB514_528:=bla BK514 hg;have NB528_514:=bga BK514 hg;have NB515_528:=bla BK515 hg;have NB528_515:=bga BK515 hg;have NB518_528:=bla BK518 hg;have NB528_518:=bga BK518 hg;replace HO_15:=rba HO_15 hb;replace HO_16:=rba HO_16 hb;replace BK514:=bba BK514 hb;replace BK515:=bba BK515 hb;replace BK518:=bba BK518 hb;replace HB:=bsa HB hb;clear hb hbox hg;have hnb60:=NB528_514.out;have hnc60:=NB514_528.out;have hnb61:=NB528_515.out;have hnc61:=NB515_528.out;have hnb62:=NB528_518.out;have hnc62:=NB518_528.out;obtain ⟨hcz63_0,hcz63_1,hcz63_2,hfz63_0,hfz63_1,hfz63_2⟩ := c3_ BK528.out))
         go_roundg k1
         case measure=>have:=HK1.out;omega
         case rel=>exact ⟨(x15_1),(wrap64 (x17_1 + 1)),(by first|rfl|(simp;done)|(simp [*];done)),H',⟨by have:=HK1.out;omega⟩,⟨by (with_reducible repeat (first|apply rA|apply rN|apply rD));exact Kd.R_mono (Kd.R_far (p:=⟨gb528,2,none⟩) (Kd.R_far (p:=⟨gb528,1,none⟩) (Kd.R_far (p:=⟨gb528,0,none⟩) (Kd.R_types HO_15.out BK528.out (by decide)) (fun _ hk=>hk.2) (.int .i64 ((rd_T39 t524 x17_1).f1.f0))) (fun _ hk=>hk.2) (.int .i64 ((rd_T39 t524 x17_1).f1.f1))) (fun _ hk=>hk.2) (.int .i64 ((rd_T39 t524 x17_1).f1.f2))) (fun _ hk=>⟨hk.1.1,hk.1.2⟩)⟩,⟨by (with_reducible repeat (first|apply rA|apply rN|apply rD));exact Kd.R_mono (Kd.R_far (p:=⟨gb528,2,none⟩) (Kd.R_far (p:=⟨gb528,1,none⟩) (Kd.R_far (p:=⟨gb528,0,none⟩) (Kd.R_types HO_16.out BK528.out (by decide)) (fun _ hk=>hk.2) (.int .i64 ((rd_T39 t524 x17_1).f1.f0))) (fun _ hk=>hk.2) (.int .i64 ((rd_T39 t524 x17_1).f1.f1))) (fun _ hk=>hk.2) (.int .i64 ((rd_T39 t524 x17_1).f1.f2))) (fun _ hk=>⟨hk.1.1,hk.1.2⟩)⟩,⟨by refine bf ?_ NB514_528;refine bf ?_ NB514_528;refine bf ?_ NB514_528;exact bq BK514.out⟩,⟨by refine bf ?_ NB515_528;refine bf ?_ NB515_528;refine bf ?_ NB515_528;exact bq BK515.out⟩,⟨by refine bf ?_ NB518_528;refine bf ?_ NB518_528;refine bf ?_ NB518_528;exact bq BK518.out⟩,⟨by repeat (first|(with_reducible first|exact HB.out|apply lA|apply lN|apply lD|refine lS ?_ GE514.out|refine lS ?_ GE515.out|refine lS ?_ GE518.out|refine lS ?_ GE528.out)|exact HB.out)⟩⟩
       (rw [if_neg c34] at H;exact absurd H (by simp))
      ·rw [if_neg c33] at H;have c33b0 : decide (x17_1 < (t524.length : Int)) = false:=decide_eq_false c33;clear c33;replace H:=Option.bind_eq_some_iff.mp H;obtain ⟨t533,A640,H⟩ := H;replace H : (if t533 = true then (some (([] : List (S39)),(⟨#[]⟩ : ByteArray),(⟨#[]⟩ : ByteArray),false,4)) else ((some (([] : List (S39)) : List (S39))).bind fun y534=>(if 0 ≤ t516 then (if t516 ≤ (l0.length : Int) then ((some (l0.take (t516 : Int).toNat : List (S39))).bind fun y537=>(if y534.length + y537.length < 1759218604441 then ((some (y534 ++ y537 : List (S39))).bind fun y541=>(if 0 ≤ (wrap64 (t516 + 1)) then (if (wrap64 (t516 + 1)) ≤ (l0.length : Int) then ((some (l0.drop ((wrap64 (t516 + 1)) : Int).toNat : List (S39))).bind fun y544=>(if y541.length + y544.length < 1759218604441 then (gangsawref31_Take.l1 k1 t520 x15_1 (y541 ++ y544) 0 a1_0 a1_1 a1_2 a1_3 a1_4 a1_5 a1_6 ((rd_T39 l0 t516).f0) ((rd_T39 l0 t516).f1.f0) ((rd_T39 l0 t516).f1.f1) ((rd_T39 l0 t516).f1.f2) ((rd_T39 l0 t516).f2) ((rd_T39 l0 t516).f3) ((rd_T39 l0 t516).f4)) else (none))) else (none)) else (none))) else (none))) else (none)) else (none)))) = some (r1,r2,r3,r4,r5):=H;have A64:=am A640;clear A640;by_cases c65 : t533 = true
       ·subst c65
        have H1 : (some (([] : List (S39)),(⟨#[]⟩ : ByteArray),(⟨#[]⟩ : ByteArray),false,4)) = some (r1,r2,r3,r4,r5):=by rw [if_pos rfl] at H;exact H
        clear H;have H:=H1;clear H1;simp only [Option.some.injEq,Prod.mk.injEq] at H;obtain ⟨rfl,rfl,rfl,rfl,rfl⟩ := H;obtain ⟨Ao66,co66,eo66⟩ := Kd.R_slice HO_16.out;subst eo66;obtain ⟨Ao67,co67,eo67⟩ := Kd.R_slice HO_15.out;subst eo67
        go_wp2_with (first|((with_reducible refine gate_callee (f:=60) rfl ?_);refine gL 79 Try.func60 #[.slice Ao67 x15_1.length co67] ?_;(with_reducible refine (gangsawref31_long.calls k1 _ _ x15_1 true _ ?side1 ?side2 A64.out).mono ?_);(case side1=>exact cr (Kd.R_reads' HO_15.out).2.2);(case side2=>exact (Kd.R_reads' HO_15.out).2.1);rintro e w' ⟨rfl,⟨nd,rfl⟩⟩;refine ⟨_,rfl, ?_⟩;(try (rw [drewN_self wr];generalize hq_ : World.drewN wr _ = wr;have n0_ : Aside0 (Kd.R k39 39 wr w.heap.size (fun k_=>some k_ ≠ (.slice Ao66 t524.length co66 : Value).ownBlock ∧ k_ ≠ gb518) (.slice Ao67 x15_1.length co67) x15_1):=⟨by rw [← hq_];exact (rq HO_15.out)⟩;have n1_ : Aside0 (Kd.R k39 39 wr w.heap.size (fun k_=>some k_ ≠ (.slice Ao67 x15_1.length co67 : Value).ownBlock ∧ k_ ≠ gb518) (.slice Ao66 t524.length co66) t524):=⟨by rw [← hq_];exact (rq HO_16.out)⟩;have n2_ : Aside0 (wr.heap[gb514]? = some (.cells #[.string a1_0,.int .i64 a1_1,.int .i64 a1_2,.int .i64 a1_3,.int .i64 a1_4,.string a1_5,.bool a1_6] 26 (0,0))):=⟨by rw [← hq_];exact (bq BK514.out)⟩;have n3_ : Aside0 (wr.heap[gb515]? = some (.cells #[.string (⟨#[]⟩ : ByteArray),.string (⟨#[]⟩ : ByteArray),.bool false] 71 (0,0))):=⟨by rw [← hq_];exact (bq BK515.out)⟩;have n4_ : Aside0 (wr.heap[gb518]? = some (.cells #[.string ((rd_T39 l0 t516).f0),.int .i64 ((rd_T39 l0 t516).f1.f0),.int .i64 ((rd_T39 l0 t516).f1.f1),.int .i64 ((rd_T39 l0 t516).f1.f2),.int .i64 ((rd_T39 l0 t516).f2),.string ((rd_T39 l0 t516).f3),.string ((rd_T39 l0 t516).f4)] 39 (0,0))):=⟨by rw [← hq_];exact (bq BK518.out)⟩;have n5_ : Aside0 (Below w.heap.size w wr):=⟨by rw [← hq_];exact (by repeat (first|(with_reducible first|exact HB.out|apply lA|apply lN|apply lD|refine lS ?_ GE514.out|refine lS ?_ GE515.out|refine lS ?_ GE518.out)|exact HB.out))⟩;clear HO_15 HO_16 BK514 BK515 BK518 HB hq_;have HO_15:=n0_;have HO_16:=n1_;have BK514:=n2_;have BK515:=n3_;have BK518:=n4_;have HB:=n5_;clear n0_ n1_ n2_ n3_ n4_ n5_));have hnb68:=NB515_514.out;have hnc68:=NB514_515.out;have hnb69:=NB515_518.out;have hnc69:=NB518_515.out;obtain ⟨hcz70_0,hcz70_1,hcz70_2,hfz70_0,hfz70_1,hfz70_2⟩ := c3_ BK515.out))
        refine bodyPost_ret (results_list (rs:=[.tmp 8,.cell 9 71,.tmp 10]) rfl (by simp) (.tmp (.cell gb515 71 #[.string (⟨#[]⟩ : ByteArray),.string (⟨#[]⟩ : ByteArray),.bool false] (0,0) _ rfl (by refine bp (cs:=#[.string (⟨#[]⟩ : ByteArray),.string (⟨#[]⟩ : ByteArray),.bool false]) ?_ 2;refine bp (cs:=#[.string (⟨#[]⟩ : ByteArray),.string (⟨#[]⟩ : ByteArray),.bool false]) ?_ 1;refine bp (cs:=#[.string (⟨#[]⟩ : ByteArray),.string (⟨#[]⟩ : ByteArray),.bool false]) ?_ 0;exact bq BK515.out) Try.underlying71 rfl (by kernel_rfl) (.tmp .nil)))) rfl ?_
        exact ⟨_,by first|rfl|(simp [errW_none,errW_some] <;> rfl)|(simp [*,errW_none,errW_some] <;> rfl),by first|exact Kd.R_nil _ _ _ _ _|exact Kd.N_nil _ _ _ _ _|exact Kd.V_nil _ _ _ _ _|exact Kd.Q_nil _ _ _ _ _|exact Kd.S_nil _ _ _ _ _,by repeat (first|(with_reducible first|exact HB.out|apply lA|apply lN|apply lD|refine lS ?_ GE514.out|refine lS ?_ GE515.out|refine lS ?_ GE518.out)|exact HB.out)⟩
       ·replace c65:=Bool.eq_false_iff.mpr c65;subst c65
        have H1 : ((some (([] : List (S39)) : List (S39))).bind fun y534=>(if 0 ≤ t516 then (if t516 ≤ (l0.length : Int) then ((some (l0.take (t516 : Int).toNat : List (S39))).bind fun y537=>(if y534.length + y537.length < 1759218604441 then ((some (y534 ++ y537 : List (S39))).bind fun y541=>(if 0 ≤ (wrap64 (t516 + 1)) then (if (wrap64 (t516 + 1)) ≤ (l0.length : Int) then ((some (l0.drop ((wrap64 (t516 + 1)) : Int).toNat : List (S39))).bind fun y544=>(if y541.length + y544.length < 1759218604441 then (gangsawref31_Take.l1 k1 t520 x15_1 (y541 ++ y544) 0 a1_0 a1_1 a1_2 a1_3 a1_4 a1_5 a1_6 ((rd_T39 l0 t516).f0) ((rd_T39 l0 t516).f1.f0) ((rd_T39 l0 t516).f1.f1) ((rd_T39 l0 t516).f1.f2) ((rd_T39 l0 t516).f2) ((rd_T39 l0 t516).f3) ((rd_T39 l0 t516).f4)) else (none))) else (none)) else (none))) else (none))) else (none)) else (none))) = some (r1,r2,r3,r4,r5):=by rw [if_neg (show ¬ (false = true) by decide)] at H;exact H
        clear H;have H:=H1;clear H1
        obtain ⟨y534,hy534⟩ : ∃ y_ : List (S39),y_ = (([] : List (S39))):=⟨_,rfl⟩
        replace H : (if 0 ≤ t516 then (if t516 ≤ (l0.length : Int) then ((some (l0.take (t516 : Int).toNat : List (S39))).bind fun y537=>(if y534.length + y537.length < 1759218604441 then ((some (y534 ++ y537 : List (S39))).bind fun y541=>(if 0 ≤ (wrap64 (t516 + 1)) then (if (wrap64 (t516 + 1)) ≤ (l0.length : Int) then ((some (l0.drop ((wrap64 (t516 + 1)) : Int).toNat : List (S39))).bind fun y544=>(if y541.length + y544.length < 1759218604441 then (gangsawref31_Take.l1 k1 t520 x15_1 (y541 ++ y544) 0 a1_0 a1_1 a1_2 a1_3 a1_4 a1_5 a1_6 ((rd_T39 l0 t516).f0) ((rd_T39 l0 t516).f1.f0) ((rd_T39 l0 t516).f1.f1) ((rd_T39 l0 t516).f1.f2) ((rd_T39 l0 t516).f2) ((rd_T39 l0 t516).f3) ((rd_T39 l0 t516).f4)) else (none))) else (none)) else (none))) else (none))) else (none)) else (none)) = some (r1,r2,r3,r4,r5):=by first|(rw [hy534];with_reducible exact H)|(have H2_:=(Option.bind_some _ _).symm.trans H;rw [hy534];with_reducible exact H2_)|(have H2_:=(Option.bind_some _ _).symm.trans H;with_reducible exact H2_)|with_reducible exact H|(rw [hy534];exact H)|exact H
        have Ny534:=am hy534;clear hy534;by_cases c71 : 0 ≤ t516
        ·rw [if_pos c71] at H;have c71b0:=eq_true c71;have c71b1 : decide (0 ≤ t516) = true:=decide_eq_true c71;clear c71;by_cases c72 : t516 ≤ (l0.length : Int)
         ·rw [if_pos c72] at H;have c72b0:=eq_true c72;have c72b1 : decide (t516 ≤ (l0.length : Int)) = true:=decide_eq_true c72;clear c72
          obtain ⟨y537,hy537⟩ : ∃ y_ : List (S39),y_ = (l0.take (t516 : Int).toNat):=⟨_,rfl⟩
          replace H : (if y534.length + y537.length < 1759218604441 then ((some (y534 ++ y537 : List (S39))).bind fun y541=>(if 0 ≤ (wrap64 (t516 + 1)) then (if (wrap64 (t516 + 1)) ≤ (l0.length : Int) then ((some (l0.drop ((wrap64 (t516 + 1)) : Int).toNat : List (S39))).bind fun y544=>(if y541.length + y544.length < 1759218604441 then (gangsawref31_Take.l1 k1 t520 x15_1 (y541 ++ y544) 0 a1_0 a1_1 a1_2 a1_3 a1_4 a1_5 a1_6 ((rd_T39 l0 t516).f0) ((rd_T39 l0 t516).f1.f0) ((rd_T39 l0 t516).f1.f1) ((rd_T39 l0 t516).f1.f2) ((rd_T39 l0 t516).f2) ((rd_T39 l0 t516).f3) ((rd_T39 l0 t516).f4)) else (none))) else (none)) else (none))) else (none)) = some (r1,r2,r3,r4,r5):=by first|(rw [hy537];with_reducible exact H)|(have H2_:=(Option.bind_some _ _).symm.trans H;rw [hy537];with_reducible exact H2_)|(have H2_:=(Option.bind_some _ _).symm.trans H;with_reducible exact H2_)|with_reducible exact H|(rw [hy537];exact H)|exact H
          have Ny537:=am hy537;clear hy537;by_cases c73 : y534.length + y537.length < 1759218604441
          ·rw [if_pos c73] at H;have LMc73:=am c73;clear c73
           obtain ⟨y541,hy541⟩ : ∃ y_ : List (S39),y_ = (y534 ++ y537):=⟨_,rfl⟩
           replace H : (if 0 ≤ (wrap64 (t516 + 1)) then (if (wrap64 (t516 + 1)) ≤ (l0.length : Int) then ((some (l0.drop ((wrap64 (t516 + 1)) : Int).toNat : List (S39))).bind fun y544=>(if y541.length + y544.length < 1759218604441 then (gangsawref31_Take.l1 k1 t520 x15_1 (y541 ++ y544) 0 a1_0 a1_1 a1_2 a1_3 a1_4 a1_5 a1_6 ((rd_T39 l0 t516).f0) ((rd_T39 l0 t516).f1.f0) ((rd_T39 l0 t516).f1.f1) ((rd_T39 l0 t516).f1.f2) ((rd_T39 l0 t516).f2) ((rd_T39 l0 t516).f3) ((rd_T39 l0 t516).f4)) else (none))) else (none)) else (none)) = some (r1,r2,r3,r4,r5):=by first|(rw [hy541];with_reducible exact H)|(have H2_:=(Option.bind_some _ _).symm.trans H;rw [hy541];with_reducible exact H2_)|(have H2_:=(Option.bind_some _ _).symm.trans H;with_reducible exact H2_)|with_reducible exact H|(rw [hy541];exact H)|exact H
           have Ny541:=am hy541;clear hy541
           obtain ⟨ji74,hji74⟩ : ∃ j_ : Int,(wrap64 (t516 + 1)) = j_:=⟨_,rfl⟩
           replace H : (if 0 ≤ (ji74) then (if (ji74) ≤ (l0.length : Int) then ((some (l0.drop ((ji74) : Int).toNat : List (S39))).bind fun y544=>(if y541.length + y544.length < 1759218604441 then (gangsawref31_Take.l1 k1 t520 x15_1 (y541 ++ y544) 0 a1_0 a1_1 a1_2 a1_3 a1_4 a1_5 a1_6 ((rd_T39 l0 t516).f0) ((rd_T39 l0 t516).f1.f0) ((rd_T39 l0 t516).f1.f1) ((rd_T39 l0 t516).f1.f2) ((rd_T39 l0 t516).f2) ((rd_T39 l0 t516).f3) ((rd_T39 l0 t516).f4)) else (none))) else (none)) else (none)) = some (r1,r2,r3,r4,r5):=by first|(rw [hji74] at H;exact H)|(simp only [hji74] at H ⊢;exact H)
           (try rw [hji74] at A64)
           have hji74w : (IntKind.i64.wrap (t516 + 1)) = ji74:=(i64_w _).trans hji74;by_cases c75 : 0 ≤ (ji74)
           ·rw [if_pos c75] at H;have c75b0:=eq_true c75;have c75b1 : decide (0 ≤ (ji74)) = true:=decide_eq_true c75;clear c75;by_cases c76 : (ji74) ≤ (l0.length : Int)
            ·rw [if_pos c76] at H;have c76b0:=eq_true c76;have c76b1 : decide ((ji74) ≤ (l0.length : Int)) = true:=decide_eq_true c76;clear c76
             obtain ⟨y544,hy544⟩ : ∃ y_ : List (S39),y_ = (l0.drop ((ji74) : Int).toNat):=⟨_,rfl⟩
             replace H : (if y541.length + y544.length < 1759218604441 then (gangsawref31_Take.l1 k1 t520 x15_1 (y541 ++ y544) 0 a1_0 a1_1 a1_2 a1_3 a1_4 a1_5 a1_6 ((rd_T39 l0 t516).f0) ((rd_T39 l0 t516).f1.f0) ((rd_T39 l0 t516).f1.f1) ((rd_T39 l0 t516).f1.f2) ((rd_T39 l0 t516).f2) ((rd_T39 l0 t516).f3) ((rd_T39 l0 t516).f4)) else (none)) = some (r1,r2,r3,r4,r5):=by first|(rw [hy544];with_reducible exact H)|(have H2_:=(Option.bind_some _ _).symm.trans H;rw [hy544];with_reducible exact H2_)|(have H2_:=(Option.bind_some _ _).symm.trans H;with_reducible exact H2_)|with_reducible exact H|(rw [hy544];exact H)|exact H
             have Ny544:=am hy544;clear hy544;by_cases c77 : y541.length + y544.length < 1759218604441
             ·rw [if_pos c77] at H;have LMc77:=am c77;clear c77
              obtain ⟨y548,hy548⟩ : ∃ y_ : List (S39),y_ = (y541 ++ y544):=⟨_,rfl⟩
              replace H : (gangsawref31_Take.l1 k1 t520 x15_1 y548 0 a1_0 a1_1 a1_2 a1_3 a1_4 a1_5 a1_6 ((rd_T39 l0 t516).f0) ((rd_T39 l0 t516).f1.f0) ((rd_T39 l0 t516).f1.f1) ((rd_T39 l0 t516).f1.f2) ((rd_T39 l0 t516).f2) ((rd_T39 l0 t516).f3) ((rd_T39 l0 t516).f4)) = some (r1,r2,r3,r4,r5):=by first|(rw [hy548];with_reducible exact H)|(have H2_:=(Option.bind_some _ _).symm.trans H;rw [hy548];with_reducible exact H2_)|(have H2_:=(Option.bind_some _ _).symm.trans H;with_reducible exact H2_)|with_reducible exact H|(rw [hy548];exact H)|exact H
              have Ny548:=am hy548;clear hy548;have H':=am H;clear H;obtain ⟨Ao78,co78,eo78⟩ := Kd.R_slice HO_16.out;subst eo78;obtain ⟨Ao79,co79,eo79⟩ := Kd.R_slice HO_15.out;subst eo79
              try go_wp2_with (first|((with_reducible refine gate_callee (f:=60) rfl ?_);refine gL 79 Try.func60 #[.slice Ao79 x15_1.length co79] ?_;(with_reducible refine (gangsawref31_long.calls k1 _ _ x15_1 false _ ?side1 ?side2 A64.out).mono ?_);(case side1=>exact cr (Kd.R_reads' HO_15.out).2.2);(case side2=>exact (Kd.R_reads' HO_15.out).2.1);rintro e w' ⟨rfl,⟨nd,rfl⟩⟩;refine ⟨_,rfl, ?_⟩))
              (try (rw [drewN_self wr];generalize hq_ : World.drewN wr _ = wr;have n0_ : Aside0 (Kd.R k39 39 wr w.heap.size (fun k_=>some k_ ≠ (.slice Ao78 t524.length co78 : Value).ownBlock ∧ k_ ≠ gb518) (.slice Ao79 x15_1.length co79) x15_1):=⟨by rw [← hq_];exact (rq HO_15.out)⟩;have n1_ : Aside0 (Kd.R k39 39 wr w.heap.size (fun k_=>some k_ ≠ (.slice Ao79 x15_1.length co79 : Value).ownBlock ∧ k_ ≠ gb518) (.slice Ao78 t524.length co78) t524):=⟨by rw [← hq_];exact (rq HO_16.out)⟩;have n2_ : Aside0 (wr.heap[gb514]? = some (.cells #[.string a1_0,.int .i64 a1_1,.int .i64 a1_2,.int .i64 a1_3,.int .i64 a1_4,.string a1_5,.bool a1_6] 26 (0,0))):=⟨by rw [← hq_];exact (bq BK514.out)⟩;have n3_ : Aside0 (wr.heap[gb515]? = some (.cells #[.string (⟨#[]⟩ : ByteArray),.string (⟨#[]⟩ : ByteArray),.bool false] 71 (0,0))):=⟨by rw [← hq_];exact (bq BK515.out)⟩;have n4_ : Aside0 (wr.heap[gb518]? = some (.cells #[.string ((rd_T39 l0 t516).f0),.int .i64 ((rd_T39 l0 t516).f1.f0),.int .i64 ((rd_T39 l0 t516).f1.f1),.int .i64 ((rd_T39 l0 t516).f1.f2),.int .i64 ((rd_T39 l0 t516).f2),.string ((rd_T39 l0 t516).f3),.string ((rd_T39 l0 t516).f4)] 39 (0,0))):=⟨by rw [← hq_];exact (bq BK518.out)⟩;have n5_ : Aside0 (Below w.heap.size w wr):=⟨by rw [← hq_];exact (by repeat (first|(with_reducible first|exact HB.out|apply lA|apply lN|apply lD|refine lS ?_ GE514.out|refine lS ?_ GE515.out|refine lS ?_ GE518.out)|exact HB.out))⟩;clear HO_15 HO_16 BK514 BK515 BK518 HB hq_;have HO_15:=n0_;have HO_16:=n1_;have BK514:=n2_;have BK515:=n3_;have BK518:=n4_;have HB:=n5_;clear n0_ n1_ n2_ n3_ n4_ n5_));replace HO_15:=am (Kd.R_drew HO_15.out);replace HO_16:=am (Kd.R_drew HO_16.out);replace BK514:=bda BK514;replace BK515:=bda BK515;replace BK518:=bda BK518;replace HB:=hda HB;have q81 : (t516 : Int) ≤ ((l0.length : Int) : Int):=dt;obtain ⟨i081,hi081,_,hsz81,_⟩ := info_parts info39;have hroom81 : l0.length ≤ c0:=HC0.out;have hC81 : Kd.C k39 _ (some ad517) l0.length l0:=HR0.out;have hcut81:=cut_to (P:=Try.prog) 22 39 .i64 Try.underlying22 hi081 (some ad517) l0.length c0 t516 (dt) q81 hroom81;have hr81:=Kd.C_take (m:=(t516 : Int).toNat) hC81 (by omega)
              have hy81 : y537.length = (t516 : Int).toNat:=(by rw [Ny537.out,lTk];omega)
              rw [← Ny537.out] at hr81;rw [← hy81] at hcut81;have HR540:=am hr81;have HC540:=am (show y537.length ≤ c0 from by omega);clear hr81 hC81 hroom81 hi081 hsz81;have KY81:=am hy81;clear hy81;replace q81:=eq_true q81;have q82 : ((ji74) : Int) ≤ ((l0.length : Int) : Int):=dt;obtain ⟨i082,hi082,_,hsz82,_⟩ := info_parts info39;have hroom82 : l0.length ≤ c0:=HC0.out;have hC82 : Kd.C k39 _ (some ad517) l0.length l0:=HR0.out;have q082 : (0 : Int) ≤ ((ji74) : Int):=dt;have hcut82:=cut_from (P:=Try.prog) 22 39 .i64 Try.underlying22 hi082 7 hsz82 (some ad517) l0.length c0 (ji74) q082 q82;have hr82:=Kd.C_drop (m:=((ji74) : Int).toNat) (c:=c0) hC82 (by omega) hroom82
              obtain ⟨A82,hA82⟩ : ∃ A_,A_ = (if c0 = ((ji74) : Int).toNat then (some ad517) else ((some ad517) : Option Addr).map (·.add (((ji74) : Int).toNat * 7))):=⟨_,rfl⟩
              obtain ⟨c82,hc82⟩ : ∃ c_,c_ = c0 - ((ji74) : Int).toNat:=⟨_,rfl⟩
              have hy82 : y544.length = l0.length - ((ji74) : Int).toNat:=(by rw [Ny544.out,lDr] <;> omega)
              rw [show (l0).drop ((ji74) : Int).toNat = y544 from Ny544.out.symm] at hr82
              replace hr82 : Kd.C k39 _ A82 y544.length y544:=(by rw [hA82];exact hr82)
              rw [← hy82,← hA82,← hc82] at hcut82;have HR547:=am hr82;have HC547:=am (show y544.length ≤ c82 from by rw [hy82,hc82];exact Nat.sub_le_sub_right hroom82 _);clear hr82 hC82 hroom82 hi082 hsz82 hc82;have KY82:=am hy82;have KA82:=am hA82;clear hy82 hA82;replace q82:=eq_true q82
              refine start_ (n:=11) (S:=fun w'=>True) (ds:=[]) #[f_,f_,f_,f_,f_,f_,f_,f_,f_,f_,f_] (by kernel_rfl) rfl rfl trivial (fun hHeld=>?_);refine with_tabW gangsawref31_Take.tab16 gangsawref31_Take.bits16 (fun HT_ HW_=>?_)
              generalize wr.drew = w80 at HO_15 HO_16 BK514 BK515 BK518 HB HR540 HR547 hHeld ⊢
              refine pu_ HT_ 1 82 (mk_ 11 2) ?_
              refine pu_ HT_ 2 83 (mk_ 11 6) ?_
              refine pu_ HT_ 3 84 (mk_ 11 14) ?_
              refine pu_ HT_ 5 86 (mk_ 11 46) ?_
              refine pu_ HT_ 6 87 (mk_ 11 110) ?_
              refine pu_ HT_ 7 88 (mk_ 11 238) ?_
              refine pu_ HT_ 8 89 (mk_ 11 494) ?_
              refine one_ (i:=0) (N:=some 81) (mk_ 11 495) rfl rfl (one_of HT_.out (by kernel_rfl)) (by decide) (fun K hK=>?_)
              refine Kd.R_lit_step k39 _ 39 ?hg (N:=81) ?hd (xs:=([] : List (S39))) (inner:=[]) (ok:=fun _=>True) (okp:=fun _=>True) ?hr ?hp (fun _ hk=>hk) trivial (Below.refl _ _) (Nat.le_refl _) (by simp) ?_;(case hd=>rfl);(case hg=>rfl);(case hr=>first|(go_simp;done)|(go_simp;rfl));(case hp=>exact (Reps.none _ _))
              intro v535 w83 ho84 hb hg_ hnew_;clear hg_ hnew_;(first|rw [← Ny534.out] at ho84|(simp only [Int.reduceToNat] at ho84;rw [← Ny534.out] at ho84));have HO536:=am (Kd.R_lower (Kd.R_newB (Kd.R_new' (Kd.R_new' ho84 (Kd.R_lt (rq HO_15.out))) (Kd.R_lt (rq HO_16.out))) (g:=gb518) (o:=.cells #[.string ((rd_T39 l0 t516).f0),.int .i64 ((rd_T39 l0 t516).f1.f0),.int .i64 ((rd_T39 l0 t516).f1.f1),.int .i64 ((rd_T39 l0 t516).f1.f2),.int .i64 ((rd_T39 l0 t516).f2),.string ((rd_T39 l0 t516).f3),.string ((rd_T39 l0 t516).f4)] 39 (0,0)) (bq BK518.out)) (below_size (by repeat (first|(with_reducible first|exact HB.out|apply lA|apply lN|apply lD|refine lS ?_ GE514.out|refine lS ?_ GE515.out|refine lS ?_ GE518.out)|exact HB.out))));replace HO_15:=am (Kd.R_elder' (rq HO_15.out) (Kd.R_base ho84) hb);replace HO_16:=am (Kd.R_elder' (rq HO_16.out) (Kd.R_base ho84) hb);replace BK514:=bba BK514 hb;replace BK515:=bba BK515 hb;replace BK518:=bba BK518 hb;replace HB:=bsa HB hb;clear hb ho84
              refine hK.out _ _ trivial (fun hHeld=>?_)
              clear hK K
              refine nm_ 81 ?_
              refine one_ (i:=4) (N:=some 85) (mk_ 11 511) rfl rfl (one_of HT_.out (by kernel_rfl)) (by decide) (fun K hK=>?_)
              refine Kd.R_append_rows_step k39 (w0:=w) w.heap.size (by rfl) (.tmp 81) (.tmp 84) 22 39 (.agg #[(.string ⟨#[]⟩),(.int .i64 0),(.int .i64 0),(.int .i64 0),(.int .i64 0),(.string ⟨#[]⟩),(.string ⟨#[]⟩)]) 80 rfl Try.underlying22 info39 rfl (by decide) (by omega) v535 y534 y537 _ _ _ (fun k_=>some k_ ≠ (.slice Ao79 x15_1.length co79 : Value).ownBlock ∧ some k_ ≠ (.slice Ao78 t524.length co78 : Value).ownBlock ∧ k_ ≠ gb518) (fun _=>False) rfl rfl ?aO ?aR (fun _ _ h=>h) (fun _ h=>h.elim) ?aF ?aB ?aS ?aL ?_
              (case aR=>exact cq HR540.out HB.out);(case aB=>exact (by repeat (first|(with_reducible first|exact HB.out|apply lA|apply lN|apply lD|refine lS ?_ GE514.out|refine lS ?_ GE515.out|refine lS ?_ GE518.out)|exact HB.out)));(case aF=>exact (fun k_ hk=>⟨Kd.fresh' (Kd.R_lt (rq HO_15.out)) k_ hk,Kd.fresh' (Kd.R_lt (rq HO_16.out)) k_ hk,Kd.freshB (g:=gb518) (o:=.cells #[.string ((rd_T39 l0 t516).f0),.int .i64 ((rd_T39 l0 t516).f1.f0),.int .i64 ((rd_T39 l0 t516).f1.f1),.int .i64 ((rd_T39 l0 t516).f1.f2),.int .i64 ((rd_T39 l0 t516).f2),.string ((rd_T39 l0 t516).f3),.string ((rd_T39 l0 t516).f4)] 39 (0,0)) (bq BK518.out) k_ hk⟩));(case aO=>exact (by (with_reducible repeat (first|apply rA|apply rN|apply rD));exact Kd.R_mono HO536.out (fun _ hk=>⟨hk.1.1.2,⟨hk.1.2,hk.2⟩⟩)));(case aS=>exact (below_size (by repeat (first|(with_reducible first|exact HB.out|apply lA|apply lN|apply lD|refine lS ?_ GE514.out|refine lS ?_ GE515.out|refine lS ?_ GE518.out)|exact HB.out))));(case aL=>have:=LMc73.out;omega);intro v542 w85 ho hb hg hat;rw [← Ny541.out] at ho;have HO543:=am ho;replace HO_15:=am (Kd.R_after (ok:=(fun k_=>some k_ ≠ (.slice Ao78 t524.length co78 : Value).ownBlock ∧ k_ ≠ gb518)) (rq HO_15.out) hg hat);replace HO_16:=am (Kd.R_after (ok:=(fun k_=>some k_ ≠ (.slice Ao79 x15_1.length co79 : Value).ownBlock ∧ k_ ≠ gb518)) (rq HO_16.out) hg hat);replace BK514:=am (blk_grown (g:=gb514) (o:=.cells #[.string a1_0,.int .i64 a1_1,.int .i64 a1_2,.int .i64 a1_3,.int .i64 a1_4,.string a1_5,.bool a1_6] 26 (0,0)) (bq BK514.out) hg (Kd.R_ne HO536.out BK514.out (by decide)));replace BK515:=am (blk_grown (g:=gb515) (o:=.cells #[.string (⟨#[]⟩ : ByteArray),.string (⟨#[]⟩ : ByteArray),.bool false] 71 (0,0)) (bq BK515.out) hg (Kd.R_ne HO536.out BK515.out (by decide)));replace BK518:=am (blk_grown (g:=gb518) (o:=.cells #[.string ((rd_T39 l0 t516).f0),.int .i64 ((rd_T39 l0 t516).f1.f0),.int .i64 ((rd_T39 l0 t516).f1.f1),.int .i64 ((rd_T39 l0 t516).f1.f2),.int .i64 ((rd_T39 l0 t516).f2),.string ((rd_T39 l0 t516).f3),.string ((rd_T39 l0 t516).f4)] 39 (0,0)) (bq BK518.out) hg (Kd.R_away HO536.out (fun _ hk=>hk.2)));replace HB:=am hb;clear HO536;clear ho hb hg hat
              refine hK.out _ _ trivial (fun hHeld=>?_)
              clear hK K
              refine nm_ 85 ?_
              refine one_ (i:=9) (N:=some 90) (mk_ 11 1023) rfl rfl (one_of HT_.out (by kernel_rfl)) (by decide) (fun K hK=>?_)
              refine Kd.R_append_rows_step k39 (w0:=w) w.heap.size (by rfl) (.tmp 85) (.tmp 89) 22 39 (.agg #[(.string ⟨#[]⟩),(.int .i64 0),(.int .i64 0),(.int .i64 0),(.int .i64 0),(.string ⟨#[]⟩),(.string ⟨#[]⟩)]) 80 rfl Try.underlying22 info39 rfl (by decide) (by omega) v542 y541 y544 _ _ _ (fun k_=>some k_ ≠ (.slice Ao79 x15_1.length co79 : Value).ownBlock ∧ some k_ ≠ (.slice Ao78 t524.length co78 : Value).ownBlock ∧ k_ ≠ gb518) (fun _=>False) rfl rfl ?aO ?aR (fun _ _ h=>h) (fun _ h=>h.elim) ?aF ?aB ?aS ?aL ?_
              (case aR=>exact cq HR547.out HB.out);(case aB=>exact (by repeat (first|(with_reducible first|exact HB.out|apply lA|apply lN|apply lD|refine lS ?_ GE514.out|refine lS ?_ GE515.out|refine lS ?_ GE518.out)|exact HB.out)));(case aF=>exact (fun k_ hk=>⟨Kd.fresh' (Kd.R_lt (rq HO_15.out)) k_ hk,Kd.fresh' (Kd.R_lt (rq HO_16.out)) k_ hk,Kd.freshB (g:=gb518) (o:=.cells #[.string ((rd_T39 l0 t516).f0),.int .i64 ((rd_T39 l0 t516).f1.f0),.int .i64 ((rd_T39 l0 t516).f1.f1),.int .i64 ((rd_T39 l0 t516).f1.f2),.int .i64 ((rd_T39 l0 t516).f2),.string ((rd_T39 l0 t516).f3),.string ((rd_T39 l0 t516).f4)] 39 (0,0)) (bq BK518.out) k_ hk⟩));(case aO=>exact (rq HO543.out));(case aS=>exact (below_size (by repeat (first|(with_reducible first|exact HB.out|apply lA|apply lN|apply lD|refine lS ?_ GE514.out|refine lS ?_ GE515.out|refine lS ?_ GE518.out)|exact HB.out))));(case aL=>have:=LMc77.out;omega);intro v549 w86 ho hb hg hat;rw [← Ny548.out] at ho;have HO550:=am ho;replace HO_15:=am (Kd.R_after (ok:=(fun k_=>some k_ ≠ (.slice Ao78 t524.length co78 : Value).ownBlock ∧ k_ ≠ gb518)) (rq HO_15.out) hg hat);replace HO_16:=am (Kd.R_after (ok:=(fun k_=>some k_ ≠ (.slice Ao79 x15_1.length co79 : Value).ownBlock ∧ k_ ≠ gb518)) (rq HO_16.out) hg hat);replace BK514:=am (blk_grown (g:=gb514) (o:=.cells #[.string a1_0,.int .i64 a1_1,.int .i64 a1_2,.int .i64 a1_3,.int .i64 a1_4,.string a1_5,.bool a1_6] 26 (0,0)) (bq BK514.out) hg (Kd.R_ne HO543.out BK514.out (by decide)));replace BK515:=am (blk_grown (g:=gb515) (o:=.cells #[.string (⟨#[]⟩ : ByteArray),.string (⟨#[]⟩ : ByteArray),.bool false] 71 (0,0)) (bq BK515.out) hg (Kd.R_ne HO543.out BK515.out (by decide)));replace BK518:=am (blk_grown (g:=gb518) (o:=.cells #[.string ((rd_T39 l0 t516).f0),.int .i64 ((rd_T39 l0 t516).f1.f0),.int .i64 ((rd_T39 l0 t516).f1.f1),.int .i64 ((rd_T39 l0 t516).f1.f2),.int .i64 ((rd_T39 l0 t516).f2),.string ((rd_T39 l0 t516).f3),.string ((rd_T39 l0 t516).f4)] 39 (0,0)) (bq BK518.out) hg (Kd.R_away HO543.out (fun _ hk=>hk.2.2)));replace HB:=am hb;clear HO543;clear ho hb hg hat
              refine hK.out _ _ trivial (fun hHeld=>?_)
              clear hK K
              refine nm_ 90 ?_
              refine pu_ HT_ 10 19 (mk_ 11 2047) ?_
              refine done_ (done_of HT_.out (by kernel_rfl)) ?_
              try go_wp2
              go_loopg [19,20] k1 (fun kq v19 v20 w'=>∃ (x19_2 : List (S39)) (x20_2 : Int) (x516000_2 : ByteArray) (x516001_2 : ByteArray) (x516002_2 : Bool),v20 = .int .i64 x20_2 ∧ Aside0 (gangsawref31_Take.l1 kq t520 x15_1 x19_2 x20_2 a1_0 a1_1 a1_2 a1_3 a1_4 a1_5 a1_6 ((rd_T39 l0 t516).f0) ((rd_T39 l0 t516).f1.f0) ((rd_T39 l0 t516).f1.f1) ((rd_T39 l0 t516).f1.f2) ((rd_T39 l0 t516).f2) ((rd_T39 l0 t516).f3) ((rd_T39 l0 t516).f4) = some (r1,r2,r3,r4,r5)) ∧ Aside0 (kq ≤ k1) ∧ Aside0 (Kd.R k39 39 w' w.heap.size (fun k_=>some k_ ≠ (v19 : Value).ownBlock ∧ k_ ≠ gb518) (.slice Ao79 x15_1.length co79) x15_1) ∧ Aside0 (Kd.R k39 39 w' w.heap.size (fun k_=>some k_ ≠ ((.slice Ao79 x15_1.length co79) : Value).ownBlock ∧ k_ ≠ gb518) v19 x19_2) ∧ Aside0 (w'.heap[gb514]? = some (.cells #[.string a1_0,.int .i64 a1_1,.int .i64 a1_2,.int .i64 a1_3,.int .i64 a1_4,.string a1_5,.bool a1_6] 26 (0,0))) ∧ Aside0 (w'.heap[gb515]? = some (.cells #[.string x516000_2,.string x516001_2,.bool x516002_2] 71 (0,0))) ∧ Aside0 (w'.heap[gb518]? = some (.cells #[.string ((rd_T39 l0 t516).f0),.int .i64 ((rd_T39 l0 t516).f1.f0),.int .i64 ((rd_T39 l0 t516).f1.f1),.int .i64 ((rd_T39 l0 t516).f1.f2),.int .i64 ((rd_T39 l0 t516).f2),.string ((rd_T39 l0 t516).f3),.string ((rd_T39 l0 t516).f4)] 39 (0,0))) ∧ Aside0 (Below w.heap.size w w'))
              case atStart=>exact ⟨(y548),(0),((⟨#[]⟩ : ByteArray)),((⟨#[]⟩ : ByteArray)),(false),(by first|rfl|(simp;done)|(simp [*];done)),H',⟨Nat.le_refl _⟩,⟨by (with_reducible repeat (first|apply rA|apply rN|apply rD));exact Kd.R_mono HO_15.out (fun _ hk=>⟨hk.2,hk.1.2⟩)⟩,⟨by (with_reducible repeat (first|apply rA|apply rN|apply rD));exact Kd.R_mono HO550.out (fun _ hk=>⟨hk.1,hk.2.2⟩)⟩,⟨bq BK514.out⟩,⟨bq BK515.out⟩,⟨bq BK518.out⟩,⟨by repeat (first|(with_reducible first|exact HB.out|apply lA|apply lN|apply lD|refine lS ?_ GE514.out|refine lS ?_ GE515.out|refine lS ?_ GE518.out)|exact HB.out)⟩⟩
              case round =>
               clear H'
               try clear c1
               try clear c2
               try clear p2
               try clear c3
               try clear c4
               try clear c5
               try clear p5
               try clear q5
               try clear hx5
               try clear c6
               try clear c6b0
               try clear p6
               try clear c7
               try clear c8
               try clear q8
               try clear c9
               try clear c13
               try clear c13b0
               try clear c14
               try clear c14b0
               try clear c19
               try clear c23
               try clear c24
               try clear c26
               try clear c30
               try clear c32
               try clear c33
               try clear c33b0
               try clear c34
               try clear c34b0
               try clear c35
               try clear c35b0
               try clear c36
               try clear c36b0
               try clear c37
               try clear c37b0
               try clear c38
               try clear c41
               try clear c42
               try clear c43
               try clear c48
               try clear c49
               try clear c50
               try clear p51
               try clear q51
               try clear hx51
               try clear p52
               try clear q52
               try clear hx52
               try clear c54
               try clear c55
               try clear c56
               try clear c59
               try clear c60
               try clear c61
               try clear c62
               try clear p64
               try clear c65
               try clear c68
               try clear c69
               try clear c71
               try clear c71b0
               try clear c71b1
               try clear c72
               try clear c72b0
               try clear c72b1
               try clear c73
               try clear c75
               try clear c75b0
               try clear c75b1
               try clear c76
               try clear c76b0
               try clear c76b1
               try clear c77
               try clear q81
               try clear c82
               try clear q82
               try clear hcz10_0
               try clear hcz10_1
               try clear hcz10_2
               try clear hcz10_3
               try clear hcz10_4
               try clear hcz10_5
               try clear hcz10_6
               try clear hcz12_0
               try clear hcz12_1
               try clear hcz12_2
               try clear hcz20_0
               try clear hcz20_1
               try clear hcz20_2
               try clear hcz20_3
               try clear hcz20_4
               try clear hcz20_5
               try clear hcz20_6
               try clear hcz25_0
               try clear hcz25_1
               try clear hcz25_2
               try clear hcz25_3
               try clear hcz25_4
               try clear hcz25_5
               try clear hcz25_6
               try clear hcz26_0
               try clear hcz26_1
               try clear hcz26_2
               try clear hcz26_3
               try clear hcz26_4
               try clear hcz26_5
               try clear hcz26_6
               try clear hcz30_0
               try clear hcz30_1
               try clear hcz30_2
               try clear hcz30_3
               try clear hcz30_4
               try clear hcz30_5
               try clear hcz30_6
               try clear hcz31_0
               try clear hcz31_1
               try clear hcz31_2
               try clear hcz31_3
               try clear hcz31_4
               try clear hcz31_5
               try clear hcz31_6
               try clear hcz44_0
               try clear hcz44_1
               try clear hcz44_2
               try clear hcz51_0
               try clear hcz51_1
               try clear hcz51_2
               try clear hcz57_0
               try clear hcz57_1
               try clear hcz57_2
               try clear hcz63_0
               try clear hcz63_1
               try clear hcz63_2
               try clear hcz70_0
               try clear hcz70_1
               try clear hcz70_2
               try clear hfz10_0
               try clear hfz10_1
               try clear hfz10_2
               try clear hfz10_3
               try clear hfz10_4
               try clear hfz10_5
               try clear hfz10_6
               try clear hfz12_0
               try clear hfz12_1
               try clear hfz12_2
               try clear hfz20_0
               try clear hfz20_1
               try clear hfz20_2
               try clear hfz20_3
               try clear hfz20_4
               try clear hfz20_5
               try clear hfz20_6
               try clear hfz25_0
               try clear hfz25_1
               try clear hfz25_2
               try clear hfz25_3
               try clear hfz25_4
               try clear hfz25_5
               try clear hfz25_6
               try clear hfz26_0
               try clear hfz26_1
               try clear hfz26_2
               try clear hfz26_3
               try clear hfz26_4
               try clear hfz26_5
               try clear hfz26_6
               try clear hfz30_0
               try clear hfz30_1
               try clear hfz30_2
               try clear hfz30_3
               try clear hfz30_4
               try clear hfz30_5
               try clear hfz30_6
               try clear hfz31_0
               try clear hfz31_1
               try clear hfz31_2
               try clear hfz31_3
               try clear hfz31_4
               try clear hfz31_5
               try clear hfz31_6
               try clear hfz44_0
               try clear hfz44_1
               try clear hfz44_2
               try clear hfz51_0
               try clear hfz51_1
               try clear hfz51_2
               try clear hfz57_0
               try clear hfz57_1
               try clear hfz57_2
               try clear hfz63_0
               try clear hfz63_1
               try clear hfz63_2
               try clear hfz70_0
               try clear hfz70_1
               try clear hfz70_2
               try clear hx517_0
               try clear hx517_1
               try clear hx517_2
               try clear hx517_3
               try clear hx517_4
               try clear hx517_5
               try clear hx517_6
               try clear hx527_0
               try clear hx527_1
               try clear hx527_2
               try clear hx527_3
               try clear hx527_4
               try clear hx527_5
               try clear hx527_6
               try clear hx529_0
               try clear hx529_1
               try clear hx529_2
               try clear hx529_3
               try clear hx529_4
               try clear hx529_5
               try clear hx529_6
               try clear p2
               try clear p5
               try clear p517
               try clear p527
               try clear p529
               try clear q082
               try clear q5
               try clear q517
               try clear q527
               try clear q529
               try clear q81
               try clear q82
               obtain ⟨x19_2,x20_2,x516000_2,x516001_2,x516002_2,rfl,HA,HK2,HO_15,HO_19,BK514,BK515,BK518,HB⟩ := hrel
               cases gk with
               | zero=>exact absurd HA.out (by simp [gangsawref31_Take.l1])
               | succ k2 =>
                have H:=HA.out;clear HA;simp only [gangsawref31_Take.l1] at H;by_cases c87 : x20_2 < (x15_1.length : Int)
                ·rw [if_pos c87] at H;have c87b0 : decide (x20_2 < (x15_1.length : Int)) = true:=decide_eq_true c87;clear c87;by_cases c88 : 0 ≤ x20_2
                 ·rw [if_pos c88] at H;have c88b0 : decide (0 ≤ x20_2) = true:=decide_eq_true c88;clear c88;replace H:=Option.bind_eq_some_iff.mp H;obtain ⟨⟨t552,t555⟩,A890,H⟩ := H;replace H : (if t555 = true then (gangsawref31_Take.l1 k2 t520 x15_1 t552 (wrap64 (x20_2 + 1)) a1_0 a1_1 a1_2 a1_3 a1_4 a1_5 a1_6 ((rd_T39 l0 t516).f0) ((rd_T39 l0 t516).f1.f0) ((rd_T39 l0 t516).f1.f1) ((rd_T39 l0 t516).f1.f2) ((rd_T39 l0 t516).f2) ((rd_T39 l0 t516).f3) ((rd_T39 l0 t516).f4)) else (some (([] : List (S39)),(⟨#[]⟩ : ByteArray),(⟨#[]⟩ : ByteArray),false,5))) = some (r1,r2,r3,r4,r5):=H;have A89:=am A890;clear A890;by_cases c90 : t555 = true
                  ·subst c90
                   have H1 : (gangsawref31_Take.l1 k2 t520 x15_1 t552 (wrap64 (x20_2 + 1)) a1_0 a1_1 a1_2 a1_3 a1_4 a1_5 a1_6 ((rd_T39 l0 t516).f0) ((rd_T39 l0 t516).f1.f0) ((rd_T39 l0 t516).f1.f1) ((rd_T39 l0 t516).f1.f2) ((rd_T39 l0 t516).f2) ((rd_T39 l0 t516).f3) ((rd_T39 l0 t516).f4)) = some (r1,r2,r3,r4,r5):=by rw [if_pos rfl] at H;exact H
                   clear H;have H:=H1;clear H1;have H':=am H;clear H;have p551 : 0 ≤ (x20_2 : Int):=dt;have q551 : x20_2 < (x15_1.length : Int):=dt;obtain ⟨ad551,e551,hx551_0,hx551_1,hx551_2,hx551_3,hx551_4,hx551_5,hx551_6⟩ := at_T39 (Kd.R_reads' HO_15.out).2.2 x20_2 p551 q551
                   cases e551
                   replace p551:=eq_true p551;replace q551:=eq_true q551;obtain ⟨Ao91,co91,eo91⟩ := Kd.R_slice HO_19.out;subst eo91
                   go_wp2_with (first|((with_reducible refine gate_callee (f:=62) rfl ?_);refine gL 103 Try.func62 #[.slice Ao91 x19_2.length co91,.agg #[.string ((rd_T39 x15_1 x20_2).f0),.int .i64 ((rd_T39 x15_1 x20_2).f1.f0),.int .i64 ((rd_T39 x15_1 x20_2).f1.f1),.int .i64 ((rd_T39 x15_1 x20_2).f1.f2),.int .i64 ((rd_T39 x15_1 x20_2).f2),.string ((rd_T39 x15_1 x20_2).f3),.string ((rd_T39 x15_1 x20_2).f4)]] ?_;(with_reducible refine (gangsawref31_put.calls _ _ x19_2 ((rd_T39 x15_1 x20_2).f0) ((rd_T39 x15_1 x20_2).f1.f0) ((rd_T39 x15_1 x20_2).f1.f1) ((rd_T39 x15_1 x20_2).f1.f2) ((rd_T39 x15_1 x20_2).f2) ((rd_T39 x15_1 x20_2).f3) ((rd_T39 x15_1 x20_2).f4) t552 true _ ?side1 ?side2 A89.out).mono ?_);(case side1=>exact cr (Kd.R_reads' HO_19.out).2.2);(case side2=>exact (Kd.R_reads' HO_19.out).2.1);rintro e w92 ⟨v553,rfl,ho0,hb⟩;refine ⟨_,rfl, ?_⟩;have HO554:=am (Kd.R_lower (Kd.R_newB (Kd.R_new' (Kd.R_new' ho0 (Kd.R_lt (rq HO_15.out))) (Kd.R_lt (rq HO_19.out))) (g:=gb518) (o:=.cells #[.string ((rd_T39 l0 t516).f0),.int .i64 ((rd_T39 l0 t516).f1.f0),.int .i64 ((rd_T39 l0 t516).f1.f1),.int .i64 ((rd_T39 l0 t516).f1.f2),.int .i64 ((rd_T39 l0 t516).f2),.string ((rd_T39 l0 t516).f3),.string ((rd_T39 l0 t516).f4)] 39 (0,0)) (bq BK518.out)) (below_size (by repeat (first|(with_reducible first|exact HB.out|apply lA|apply lN|apply lD|refine lS ?_ GE514.out|refine lS ?_ GE515.out|refine lS ?_ GE518.out)|exact HB.out))));replace HO_15:=am (Kd.R_elder' (rq HO_15.out) (Kd.R_base ho0) hb);replace HO_19:=am (Kd.R_elder' (rq HO_19.out) (Kd.R_base ho0) hb);replace BK514:=bba BK514 hb;replace BK515:=bba BK515 hb;replace BK518:=bba BK518 hb;replace HB:=bsa HB hb;(try clear hb);(try clear ho0)))
                   go_roundg k2
                   case measure=>have:=HK1.out;have:=HK2.out;omega
                   case rel=>exact ⟨(t552),(wrap64 (x20_2 + 1)),(x516000_2),(x516001_2),(x516002_2),(by first|rfl|(simp;done)|(simp [*];done)),H',⟨by have:=HK1.out;have:=HK2.out;omega⟩,⟨by (with_reducible repeat (first|apply rA|apply rN|apply rD));exact Kd.R_mono HO_15.out (fun _ hk=>⟨hk.2,hk.1.2⟩)⟩,⟨by (with_reducible repeat (first|apply rA|apply rN|apply rD));exact Kd.R_mono HO554.out (fun _ hk=>⟨hk.1.1.2,hk.2⟩)⟩,⟨bq BK514.out⟩,⟨bq BK515.out⟩,⟨bq BK518.out⟩,⟨by repeat (first|(with_reducible first|exact HB.out|apply lA|apply lN|apply lD|refine lS ?_ GE514.out|refine lS ?_ GE515.out|refine lS ?_ GE518.out)|exact HB.out)⟩⟩
                  ·replace c90:=Bool.eq_false_iff.mpr c90;subst c90
                   have H1 : (some (([] : List (S39)),(⟨#[]⟩ : ByteArray),(⟨#[]⟩ : ByteArray),false,5)) = some (r1,r2,r3,r4,r5):=by rw [if_neg (show ¬ (false = true) by decide)] at H;exact H
                   clear H;have H:=H1;clear H1;simp only [Option.some.injEq,Prod.mk.injEq] at H;obtain ⟨rfl,rfl,rfl,rfl,rfl⟩ := H;have p551 : 0 ≤ (x20_2 : Int):=dt;have q551 : x20_2 < (x15_1.length : Int):=dt;obtain ⟨ad551,e551,hx551_0,hx551_1,hx551_2,hx551_3,hx551_4,hx551_5,hx551_6⟩ := at_T39 (Kd.R_reads' HO_15.out).2.2 x20_2 p551 q551
                   cases e551
                   replace p551:=eq_true p551;replace q551:=eq_true q551;obtain ⟨Ao93,co93,eo93⟩ := Kd.R_slice HO_19.out;subst eo93
                   go_wp2_with (first|((with_reducible refine gate_callee (f:=62) rfl ?_);refine gL 103 Try.func62 #[.slice Ao93 x19_2.length co93,.agg #[.string ((rd_T39 x15_1 x20_2).f0),.int .i64 ((rd_T39 x15_1 x20_2).f1.f0),.int .i64 ((rd_T39 x15_1 x20_2).f1.f1),.int .i64 ((rd_T39 x15_1 x20_2).f1.f2),.int .i64 ((rd_T39 x15_1 x20_2).f2),.string ((rd_T39 x15_1 x20_2).f3),.string ((rd_T39 x15_1 x20_2).f4)]] ?_;(with_reducible refine (gangsawref31_put.callsF _ _ x19_2 ((rd_T39 x15_1 x20_2).f0) ((rd_T39 x15_1 x20_2).f1.f0) ((rd_T39 x15_1 x20_2).f1.f1) ((rd_T39 x15_1 x20_2).f1.f2) ((rd_T39 x15_1 x20_2).f2) ((rd_T39 x15_1 x20_2).f3) ((rd_T39 x15_1 x20_2).f4) t552 false _ ?side1 ?side2 A89.out).mono ?_);(case side1=>exact cr (Kd.R_reads' HO_19.out).2.2);(case side2=>exact (Kd.R_reads' HO_19.out).2.1);rintro e w94 ⟨v553,rfl,ho0,hb⟩;refine ⟨_,rfl, ?_⟩;have HO554:=am (Kd.R_lower (Kd.R_newB (Kd.R_new' (Kd.R_new' ho0 (Kd.R_lt (rq HO_15.out))) (Kd.R_lt (rq HO_19.out))) (g:=gb518) (o:=.cells #[.string ((rd_T39 l0 t516).f0),.int .i64 ((rd_T39 l0 t516).f1.f0),.int .i64 ((rd_T39 l0 t516).f1.f1),.int .i64 ((rd_T39 l0 t516).f1.f2),.int .i64 ((rd_T39 l0 t516).f2),.string ((rd_T39 l0 t516).f3),.string ((rd_T39 l0 t516).f4)] 39 (0,0)) (bq BK518.out)) (below_size (by repeat (first|(with_reducible first|exact HB.out|apply lA|apply lN|apply lD|refine lS ?_ GE514.out|refine lS ?_ GE515.out|refine lS ?_ GE518.out)|exact HB.out))));replace HO_15:=am (Kd.R_elder' (rq HO_15.out) (Kd.R_base ho0) hb);replace HO_19:=am (Kd.R_elder' (rq HO_19.out) (Kd.R_base ho0) hb);replace BK514:=bba BK514 hb;replace BK515:=bba BK515 hb;replace BK518:=bba BK518 hb;replace HB:=bsa HB hb;(try clear hb);(try clear ho0);have hnb95:=NB515_514.out;have hnc95:=NB514_515.out;have hnb96:=NB515_518.out;have hnc96:=NB518_515.out;obtain ⟨hcz97_0,hcz97_1,hcz97_2,hfz97_0,hfz97_1,hfz97_2⟩ := c3_ BK515.out))
                   refine bodyPost_ret (results_list (rs:=[.tmp 8,.cell 9 71,.tmp 10]) rfl (by simp) (.tmp (.cell gb515 71 #[.string (⟨#[]⟩ : ByteArray),.string (⟨#[]⟩ : ByteArray),.bool false] (0,0) _ rfl (by refine bp (cs:=#[.string (⟨#[]⟩ : ByteArray),.string (⟨#[]⟩ : ByteArray),.bool x516002_2]) ?_ 2;refine bp (cs:=#[.string (⟨#[]⟩ : ByteArray),.string x516001_2,.bool x516002_2]) ?_ 1;refine bp (cs:=#[.string x516000_2,.string x516001_2,.bool x516002_2]) ?_ 0;exact bq BK515.out) Try.underlying71 rfl (by kernel_rfl) (.tmp .nil)))) rfl ?_
                   exact ⟨_,by first|rfl|(simp [errW_none,errW_some] <;> rfl)|(simp only [← hji74];first|rfl|(simp [errW_none,errW_some] <;> rfl))|(simp [*,errW_none,errW_some] <;> rfl),by first|exact Kd.R_nil _ _ _ _ _|exact Kd.N_nil _ _ _ _ _|exact Kd.V_nil _ _ _ _ _|exact Kd.Q_nil _ _ _ _ _|exact Kd.S_nil _ _ _ _ _,by repeat (first|(with_reducible first|exact HB.out|apply lA|apply lN|apply lD|refine lS ?_ GE514.out|refine lS ?_ GE515.out|refine lS ?_ GE518.out)|exact HB.out)⟩
                 (rw [if_neg c88] at H;exact absurd H (by simp))
                ·rw [if_neg c87] at H;have c87b0 : decide (x20_2 < (x15_1.length : Int)) = false:=decide_eq_false c87;clear c87;by_cases c98 : (x19_2.length : Int) > 256
                 ·rw [if_pos c98] at H;have c98b0 : decide (256 < (x19_2.length : Int)) = true:=decide_eq_true c98;have c98b1 : decide (256 < x19_2.length) = true:=decide_eq_true (by omega);clear c98;simp only [Option.some.injEq,Prod.mk.injEq] at H;obtain ⟨rfl,rfl,rfl,rfl,rfl⟩ := H;obtain ⟨Ao99,co99,eo99⟩ := Kd.R_slice HO_19.out;subst eo99;have hnb100:=NB515_514.out;have hnc100:=NB514_515.out;have hnb101:=NB515_518.out;have hnc101:=NB518_515.out;obtain ⟨hcz102_0,hcz102_1,hcz102_2,hfz102_0,hfz102_1,hfz102_2⟩ := c3_ BK515.out
                  go_wp2
                  refine bodyPost_ret (results_list (rs:=[.tmp 8,.cell 9 71,.tmp 10]) rfl (by simp) (.tmp (.cell gb515 71 #[.string (⟨#[]⟩ : ByteArray),.string (⟨#[]⟩ : ByteArray),.bool false] (0,0) _ rfl (by refine bp (cs:=#[.string (⟨#[]⟩ : ByteArray),.string (⟨#[]⟩ : ByteArray),.bool x516002_2]) ?_ 2;refine bp (cs:=#[.string (⟨#[]⟩ : ByteArray),.string x516001_2,.bool x516002_2]) ?_ 1;refine bp (cs:=#[.string x516000_2,.string x516001_2,.bool x516002_2]) ?_ 0;exact bq BK515.out) Try.underlying71 rfl (by kernel_rfl) (.tmp .nil)))) rfl ?_
                  exact ⟨_,by first|rfl|(simp [errW_none,errW_some] <;> rfl)|(simp only [← hji74];first|rfl|(simp [errW_none,errW_some] <;> rfl))|(simp [*,errW_none,errW_some] <;> rfl),by first|exact Kd.R_nil _ _ _ _ _|exact Kd.N_nil _ _ _ _ _|exact Kd.V_nil _ _ _ _ _|exact Kd.Q_nil _ _ _ _ _|exact Kd.S_nil _ _ _ _ _,by repeat (first|(with_reducible first|exact HB.out|apply lA|apply lN|apply lD|refine lS ?_ GE514.out|refine lS ?_ GE515.out|refine lS ?_ GE518.out)|exact HB.out)⟩
                 ·rw [if_neg c98] at H;have c98b0 : decide (256 < (x19_2.length : Int)) = false:=decide_eq_false c98;have c98b1 : decide (256 < x19_2.length) = false:=decide_eq_false (by omega);clear c98;simp only [Option.some.injEq,Prod.mk.injEq] at H;obtain ⟨rfl,rfl,rfl,rfl,rfl⟩ := H;obtain ⟨Ao103,co103,eo103⟩ := Kd.R_slice HO_19.out;subst eo103
                  try go_wp2
                  replace HO_15:=am (Kd.R_drew HO_15.out);replace HO_19:=am (Kd.R_drew HO_19.out);replace BK514:=bda BK514;replace BK515:=bda BK515;replace BK518:=bda BK518;replace HB:=hda HB
                  refine start_ (n:=10) (S:=fun w'=>w'.cell? ⟨gb514,0,none⟩ = some (.string a1_0) ∧ w'.cell? ⟨gb514,1,none⟩ = some (.int .i64 a1_1) ∧ w'.cell? ⟨gb514,2,none⟩ = some (.int .i64 a1_2) ∧ w'.cell? ⟨gb514,3,none⟩ = some (.int .i64 a1_3) ∧ w'.cell? ⟨gb514,4,none⟩ = some (.int .i64 a1_4) ∧ w'.cell? ⟨gb514,5,none⟩ = some (.string a1_5) ∧ w'.cell? ⟨gb514,6,none⟩ = some (.bool a1_6) ∧ w'.cell? ⟨gb518,0,none⟩ = some (.string ((rd_T39 l0 t516).f0)) ∧ w'.cell? ⟨gb518,1,none⟩ = some (.int .i64 ((rd_T39 l0 t516).f1.f0)) ∧ w'.cell? ⟨gb518,2,none⟩ = some (.int .i64 ((rd_T39 l0 t516).f1.f1)) ∧ w'.cell? ⟨gb518,3,none⟩ = some (.int .i64 ((rd_T39 l0 t516).f1.f2)) ∧ w'.cell? ⟨gb518,4,none⟩ = some (.int .i64 ((rd_T39 l0 t516).f2)) ∧ w'.cell? ⟨gb518,5,none⟩ = some (.string ((rd_T39 l0 t516).f3)) ∧ w'.cell? ⟨gb518,6,none⟩ = some (.string ((rd_T39 l0 t516).f4))) (ds:=[]) #[f_,f_,f_,f_,f_,f_,f_,f_,f_,f_] (by kernel_rfl) rfl rfl ⟨(blk_cell BK514.out 0).trans rfl,(blk_cell BK514.out 1).trans rfl,(blk_cell BK514.out 2).trans rfl,(blk_cell BK514.out 3).trans rfl,(blk_cell BK514.out 4).trans rfl,(blk_cell BK514.out 5).trans rfl,(blk_cell BK514.out 6).trans rfl,(blk_cell BK518.out 0).trans rfl,(blk_cell BK518.out 1).trans rfl,(blk_cell BK518.out 2).trans rfl,(blk_cell BK518.out 3).trans rfl,(blk_cell BK518.out 4).trans rfl,(blk_cell BK518.out 5).trans rfl,(blk_cell BK518.out 6).trans rfl⟩ (fun hHeld=>?_);refine with_tabW gangsawref31_Take.tab26 gangsawref31_Take.bits26 (fun HT_ HW_=>?_)
                  generalize wr.drew = w104 at HO_15 HO_19 BK514 BK515 BK518 HB hHeld ⊢
                  refine pu_ HT_ 0 114 (mk_ 10 1) ?_
                  refine pu_ HT_ 1 115 (mk_ 10 3) ?_
                  refine pu_ HT_ 3 117 (mk_ 10 11) ?_
                  refine pu_ HT_ 5 119 (mk_ 10 43) ?_
                  refine pu_ HT_ 7 8 (mk_ 10 171) ?_
                  refine ta14_ HT_ HW_ 2 116 (mk_ 10 175) hHeld ?_
                  refine ta14_ HT_ HW_ 4 118 (mk_ 10 191) hHeld ?_
                  refine pu_ HT_ 6 120 (mk_ 10 255) ?_
                  refine one_ (i:=8) (N:=none) (mk_ 10 511) rfl rfl (one_of HT_.out (by kernel_rfl)) (by decide) (fun K hK=>?_);have hs105 : w104.cell? ⟨gb515,0,none⟩ = some (.string x516000_2):=(blk_cell BK515.out 0).trans rfl;have hfs105:=blk_frozen BK515.out 0;have hns105_0:=NB514_515.out;have hns105_2:=NB518_515.out;have hms105_0:=NB515_514.out;have hms105_2:=NB515_518.out;have hs106 : w104.cell? ⟨gb515,1,none⟩ = some (.string x516001_2):=(blk_cell BK515.out 1).trans rfl;have hfs106:=blk_frozen BK515.out 1;have hns106_0:=NB514_515.out;have hns106_2:=NB518_515.out;have hms106_0:=NB515_514.out;have hms106_2:=NB515_518.out;have hs107 : w104.cell? ⟨gb515,2,none⟩ = some (.bool x516002_2):=(blk_cell BK515.out 2).trans rfl;have hfs107:=blk_frozen BK515.out 2;have hns107_0:=NB514_515.out;have hns107_2:=NB518_515.out;have hms107_0:=NB515_514.out;have hms107_2:=NB515_518.out
                  refine skip_ (w1:=?_) (by rfl) rfl ?_ ?_
                  rotate_left;(go_simp;rfl)
                  refine hK.out _ _ ⟨((cell_far (p:=⟨gb515,_,none⟩) NB514_515.out _).trans (((cell_far (p:=⟨gb515,_,none⟩) NB514_515.out _).trans (((cell_far (p:=⟨gb515,_,none⟩) NB514_515.out _).trans (hHeld.1)))))),((cell_far (p:=⟨gb515,_,none⟩) NB514_515.out _).trans (((cell_far (p:=⟨gb515,_,none⟩) NB514_515.out _).trans (((cell_far (p:=⟨gb515,_,none⟩) NB514_515.out _).trans (hHeld.2.1)))))),((cell_far (p:=⟨gb515,_,none⟩) NB514_515.out _).trans (((cell_far (p:=⟨gb515,_,none⟩) NB514_515.out _).trans (((cell_far (p:=⟨gb515,_,none⟩) NB514_515.out _).trans (hHeld.2.2.1)))))),((cell_far (p:=⟨gb515,_,none⟩) NB514_515.out _).trans (((cell_far (p:=⟨gb515,_,none⟩) NB514_515.out _).trans (((cell_far (p:=⟨gb515,_,none⟩) NB514_515.out _).trans (hHeld.2.2.2.1)))))),((cell_far (p:=⟨gb515,_,none⟩) NB514_515.out _).trans (((cell_far (p:=⟨gb515,_,none⟩) NB514_515.out _).trans (((cell_far (p:=⟨gb515,_,none⟩) NB514_515.out _).trans (hHeld.2.2.2.2.1)))))),((cell_far (p:=⟨gb515,_,none⟩) NB514_515.out _).trans (((cell_far (p:=⟨gb515,_,none⟩) NB514_515.out _).trans (((cell_far (p:=⟨gb515,_,none⟩) NB514_515.out _).trans (hHeld.2.2.2.2.2.1)))))),((cell_far (p:=⟨gb515,_,none⟩) NB514_515.out _).trans (((cell_far (p:=⟨gb515,_,none⟩) NB514_515.out _).trans (((cell_far (p:=⟨gb515,_,none⟩) NB514_515.out _).trans (hHeld.2.2.2.2.2.2.1)))))),((cell_far (p:=⟨gb515,_,none⟩) NB518_515.out _).trans (((cell_far (p:=⟨gb515,_,none⟩) NB518_515.out _).trans (((cell_far (p:=⟨gb515,_,none⟩) NB518_515.out _).trans (hHeld.2.2.2.2.2.2.2.1)))))),((cell_far (p:=⟨gb515,_,none⟩) NB518_515.out _).trans (((cell_far (p:=⟨gb515,_,none⟩) NB518_515.out _).trans (((cell_far (p:=⟨gb515,_,none⟩) NB518_515.out _).trans (hHeld.2.2.2.2.2.2.2.2.1)))))),((cell_far (p:=⟨gb515,_,none⟩) NB518_515.out _).trans (((cell_far (p:=⟨gb515,_,none⟩) NB518_515.out _).trans (((cell_far (p:=⟨gb515,_,none⟩) NB518_515.out _).trans (hHeld.2.2.2.2.2.2.2.2.2.1)))))),((cell_far (p:=⟨gb515,_,none⟩) NB518_515.out _).trans (((cell_far (p:=⟨gb515,_,none⟩) NB518_515.out _).trans (((cell_far (p:=⟨gb515,_,none⟩) NB518_515.out _).trans (hHeld.2.2.2.2.2.2.2.2.2.2.1)))))),((cell_far (p:=⟨gb515,_,none⟩) NB518_515.out _).trans (((cell_far (p:=⟨gb515,_,none⟩) NB518_515.out _).trans (((cell_far (p:=⟨gb515,_,none⟩) NB518_515.out _).trans (hHeld.2.2.2.2.2.2.2.2.2.2.2.1)))))),((cell_far (p:=⟨gb515,_,none⟩) NB518_515.out _).trans (((cell_far (p:=⟨gb515,_,none⟩) NB518_515.out _).trans (((cell_far (p:=⟨gb515,_,none⟩) NB518_515.out _).trans (hHeld.2.2.2.2.2.2.2.2.2.2.2.2.1)))))),((cell_far (p:=⟨gb515,_,none⟩) NB518_515.out _).trans (((cell_far (p:=⟨gb515,_,none⟩) NB518_515.out _).trans (((cell_far (p:=⟨gb515,_,none⟩) NB518_515.out _).trans (hHeld.2.2.2.2.2.2.2.2.2.2.2.2.2))))))⟩ (fun hHeld=>?_)
                  clear hK K
                  refine pu_ HT_ 9 10 (mk_ 10 1023) ?_
                  refine done_ (done_of HT_.out (by kernel_rfl)) ?_
                  try go_wp2
                  refine bodyPost_ret (results_list (rs:=[.tmp 8,.cell 9 71,.tmp 10]) rfl (by simp) (.tmp (.cell gb515 71 #[.string a1_0,.string ((rd_T39 l0 t516).f0),.bool t520] (0,0) _ rfl (by refine bp (cs:=#[.string a1_0,.string ((rd_T39 l0 t516).f0),.bool x516002_2]) ?_ 2;refine bp (cs:=#[.string a1_0,.string x516001_2,.bool x516002_2]) ?_ 1;refine bp (cs:=#[.string x516000_2,.string x516001_2,.bool x516002_2]) ?_ 0;exact bq BK515.out) Try.underlying71 rfl (by kernel_rfl) (.tmp .nil)))) rfl ?_
                  exact ⟨_,by first|rfl|(simp [errW_none,errW_some] <;> rfl)|(simp only [← hji74];first|rfl|(simp [errW_none,errW_some] <;> rfl))|(simp [*,errW_none,errW_some] <;> rfl),by (with_reducible repeat (first|apply rA|apply rN|apply rD));exact Kd.R_mono (Kd.R_far (p:=⟨gb515,2,none⟩) (Kd.R_far (p:=⟨gb515,1,none⟩) (Kd.R_far (p:=⟨gb515,0,none⟩) (Kd.R_types HO_19.out BK515.out (by decide)) (fun _ hk=>hk.2) (.string a1_0)) (fun _ hk=>hk.2) (.string ((rd_T39 l0 t516).f0))) (fun _ hk=>hk.2) (.bool t520)) (fun _ hk=>trivial),by repeat (first|(with_reducible first|exact HB.out|apply lA|apply lN|apply lD|refine lS ?_ GE514.out|refine lS ?_ GE515.out|refine lS ?_ GE518.out)|exact HB.out)⟩
             (rw [if_neg c77] at H;exact absurd H (by simp))
            (rw [if_neg c76] at H;exact absurd H (by simp))
           (rw [if_neg c75] at H;exact absurd H (by simp))
          (rw [if_neg c73] at H;exact absurd H (by simp))
         (rw [if_neg c72] at H;exact absurd H (by simp))
        (rw [if_neg c71] at H;exact absurd H (by simp))
   (rw [if_neg c14] at H;exact absurd H (by simp))
  (rw [if_neg c13] at H;exact absurd H (by simp))
end Go.Proofs.Ytbggjmdelnmilaa.PA
