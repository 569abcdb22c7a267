import Derived.Test.YtbggjmdelnmilaaPAx75
import Derived.Test.YtbggjmdelnmilaaPAx8
namespace Go.Proofs.Ytbggjmdelnmilaa.PA
open Go.RowKit Go.Proofs.YtbggjmdelnmilaaW.PrintWords Go.Proofs.YtbggjmdelnmilaaW.PrintLast Go.Proofs.YtbggjmdelnmilaaW.PrintMore
attribute [local go_sem] max2_int min2_int max_two min_two max_three min_three max_four min_four
set_option linter.unusedVariables false
set_option linter.unusedSimpArgs false
section
variable {P : Program} {ops : Array Oper} {Q : Exit → Act → World → Prop} {md : Region.Mode} {S : World → Prop} {ds B : List Nat} {T : Bool × List (List Nat × List Nat)} {oi : Oper} {v : Value} {fuel : Nat} {l : Array Bool} {a a' : Act} {w : World}
theorem ta31_ (HT : Aside0 (rtab md ops = T)) (HB : Aside0 (waitsOk T.2 B = true)) (i : Nat) (N : Tmp) (l' : Array Bool) (hS : S w) (h : wpAnyLast P md ops Q S ds fuel l' a' w) (hi : ops[i]? = some oi := by rfl) (hN : oi.dst = some N := by rfl) (hk : takeW T B ds l.toList l'.toList i = true := by kernel_rfl) (hQ : ∀ c a w, Q (.panic c) (a.put oi.dst v) w → Q (.panic c) a w := by exact fun _ _ _ h => h) (hw : Region.wanted oi (yielded ops a.tmps) = true := by rfl) (hv : ∀ w, S w → (execOp a.eval oi).run P w = .ok (.value v) w := by rintro w' ⟨s0,s1,s2,s3,s4,s5,s6,s7,s8,s9,s10,s11,s12,s13,s14,s15,s16,s17,s18,s19,s20,s21,s22,s23,s24,s25,s26,s27,s28,s29,s30⟩;go_simp;with_reducible rfl) (ha : a.put (some N) v = a' := by simp only [Act.put,sA,s0,sS,i64_w,i32_w];rfl) : wpAnyLast P md ops Q S ds (fuel + 1) l a w := take_ l' hi hN (take_ofW HT.out HB.out hk) hQ (Or.inl ⟨hw, hv⟩) hS ha h
end
mutual
def gangsawlaw31_OffcutRests.j0 : Nat → Int → Bool → ByteArray → Int → Int → Int → Int → ByteArray → ByteArray → ByteArray → Int → Int → Int → Int → ByteArray → Bool → Option (Bool)
 | 0,_,_,_,_,_,_,_,_,_,_,_,_,_,_,_,_=>none
 | k + 1,x2,x27,x648000,x648001,x648002,x648003,x648004,x648005,x648006,x649000,x649001,x649002,x649003,x649004,x649005,x649006=>if x27 = true then (some true) else ((gangsawlaw31_ours.f x649000 x649001 x649002 x649003 x649004 x649005 x649006).bind fun bt658=>((offcut_Fits.f k x648000 x648001 x648002 x648003 x648004 x648005 x648006 bt658.1 bt658.2.1 bt658.2.2.1 bt658.2.2.2.1 bt658.2.2.2.2.1 bt658.2.2.2.2.2.1 bt658.2.2.2.2.2.2 x2).bind fun bt665=>((gangsawlaw31_ours.f x649000 x649001 x649002 x649003 x649004 x649005 x649006).bind fun bt668=>((offcut_Rest.f k x648000 x648001 x648002 x648003 x648004 x648005 x648006 bt668.1 bt668.2.1 bt668.2.2.1 bt668.2.2.2.1 bt668.2.2.2.2.1 bt668.2.2.2.2.2.1 bt668.2.2.2.2.2.2 x2).bind fun bt675=>(if bt665.2.2 = 0 then (gangsawlaw31_OffcutRests.j1 k x2 bt675.1 bt675.2 (!bt665.1) x648000 x648001 x648002 x648003 x648004 x648005 x648006 x649000 x649001 x649002 x649003 x649004 x649005 x649006) else (gangsawlaw31_OffcutRests.j1 k x2 bt675.1 bt675.2 true x648000 x648001 x648002 x648003 x648004 x648005 x648006 x649000 x649001 x649002 x649003 x649004 x649005 x649006))))))
def gangsawlaw31_OffcutRests.j1 : Nat → Int → List (S39) → Int → Bool → ByteArray → Int → Int → Int → Int → ByteArray → ByteArray → ByteArray → Int → Int → Int → Int → ByteArray → Bool → Option (Bool)
 | 0,_,_,_,_,_,_,_,_,_,_,_,_,_,_,_,_,_,_=>none
 | k + 1,x2,x10,x11,x50,x648000,x648001,x648002,x648003,x648004,x648005,x648006,x649000,x649001,x649002,x649003,x649004,x649005,x649006=>if x50 = true then (if (x10.length : Int) = 0 then (some (x11 != 0)) else (none)) else (if x11 = 0 then (gangsawlaw31_OffcutRests.l0 k x2 x10 (wrap64 ((wrap64 (x649001 * x649002)) * x649003)) 0 x648000 x648001 x648002 x648003 x648004 x648005 x648006) else (if x11 = 4 then (some ((x10.length : Int) == 0)) else (none)))
def gangsawlaw31_OffcutRests.l0 : Nat → Int → List (S39) → Int → Int → ByteArray → Int → Int → Int → Int → ByteArray → ByteArray → Option (Bool)
 | 0,_,_,_,_,_,_,_,_,_,_,_=>none
 | k + 1,x2,x10,x12,x13,x648000,x648001,x648002,x648003,x648004,x648005,x648006=>if x13 < (x10.length : Int) then (if 0 ≤ x13 then (if ((rd_T39 x10 x13).f1.f0) < 1 then (none) else (if ((rd_T39 x10 x13).f1.f1) < 1 then (none) else (if ((rd_T39 x10 x13).f1.f2) < 1 then (none) else (if ((rd_T39 x10 x13).f1.f0) > x648001 then (none) else (if ((rd_T39 x10 x13).f1.f1) > x648002 then (none) else (if ((rd_T39 x10 x13).f1.f2) > x648003 then (none) else (if ((rd_T39 x10 x13).f2) = x648004 then (if ((rd_T39 x10 x13).f3).toList = x648005.toList then (if ((rd_T39 x10 x13).f4).toList = x648006.toList then (gangsawlaw31_OffcutRests.l0 k x2 x10 (wrap64 (x12 + (wrap64 ((wrap64 (((rd_T39 x10 x13).f1.f0) * ((rd_T39 x10 x13).f1.f1))) * ((rd_T39 x10 x13).f1.f2))))) (wrap64 (x13 + 1)) x648000 x648001 x648002 x648003 x648004 x648005 x648006) else (none)) else (none)) else (none)))))))) else (none)) else (if (x10.length : Int) ≤ 3 then (if x12 ≤ (wrap64 ((wrap64 (x648001 * x648002)) * x648003)) then (if x2 > 0 then (some true) else (some (x12 == (wrap64 ((wrap64 (x648001 * x648002)) * x648003))))) else (none)) else (none))
end
def gangsawlaw31_OffcutRests.f (k : Nat) (a0_0 : ByteArray) (a0_1 : Int) (a0_2 : Int) (a0_3 : Int) (a0_4 : Int) (a0_5 : ByteArray) (a0_6 : ByteArray) (a1_0 : ByteArray) (a1_1 : Int) (a1_2 : Int) (a1_3 : Int) (a1_4 : Int) (a1_5 : ByteArray) (a1_6 : Bool) (a2 : Int) : Option (Bool):=(gangsawlaw31_awake.f k).bind fun t649=>(if t649 = true then ((gangsawref31_Small.f k (([(⟨a0_0,(⟨a0_1,a0_2,a0_3⟩ : S24),a0_4,a0_5,a0_6⟩ : S39)] : List (S39))) 1).bind fun t653=>(if t653 = true then ((gangsawref31_Few.f k (([(⟨a1_0,(⟨a1_1,a1_2,a1_3⟩ : S24),a1_4,a1_5,a1_6⟩ : S26)] : List (S26))) 1).bind fun t657=>(gangsawlaw31_OffcutRests.j0 k a2 (!t657) a0_0 a0_1 a0_2 a0_3 a0_4 a0_5 a0_6 a1_0 a1_1 a1_2 a1_3 a1_4 a1_5 a1_6)) else (gangsawlaw31_OffcutRests.j0 k a2 true a0_0 a0_1 a0_2 a0_3 a0_4 a0_5 a0_6 a1_0 a1_1 a1_2 a1_3 a1_4 a1_5 a1_6))) else (none))
def gangsawlaw31_OffcutRests.T5 : Bool × List (List Nat × List Nat):=(true,[([],[]),([],[]),([1],[1]),([],[]),([0,2,3,2],[0,2,3]),([4],[4]),([5],[5]),([5],[5]),([5],[5]),([6,4,0,1,2,3,4,5,6],[6]),([7,9,0,1,2,3,4,5,6,7,9],[7]),([8,10,0,1,2,3,4,5,6,7,8,9,10],[8])])
def gangsawlaw31_OffcutRests.B5 : List Nat:=[0,0,2,0,15,31,63,63,63,127,767,2047]
theorem gangsawlaw31_OffcutRests.tab5 : rtab .any (opsOf Try.f10 5) = gangsawlaw31_OffcutRests.T5:=by kernel_rfl
theorem gangsawlaw31_OffcutRests.bits5 : waitsOk gangsawlaw31_OffcutRests.T5.2 gangsawlaw31_OffcutRests.B5 = true:=by kernel_rfl
def gangsawlaw31_OffcutRests.T6 : Bool × List (List Nat × List Nat):=(true,[([],[]),([],[]),([1],[1]),([],[]),([0,2,3,2],[0,2,3]),([4],[4]),([5],[5]),([5],[5]),([6,4,0,1,2,3,4,5,6],[6]),([7,8,0,1,2,3,4,5,6,7,8],[7])])
def gangsawlaw31_OffcutRests.B6 : List Nat:=[0,0,2,0,15,31,63,63,127,511]
theorem gangsawlaw31_OffcutRests.tab6 : rtab .any (opsOf Try.f10 6) = gangsawlaw31_OffcutRests.T6:=by kernel_rfl
theorem gangsawlaw31_OffcutRests.bits6 : waitsOk gangsawlaw31_OffcutRests.T6.2 gangsawlaw31_OffcutRests.B6 = true:=by kernel_rfl
def gangsawlaw31_OffcutRests.T16 : Bool × List (List Nat × List Nat):=(true,[([],[]),([0],[0]),([1],[1]),([2],[2]),([3],[3]),([4,3],[3,4]),([5,3],[3,5]),([3,6],[3,6]),([7,3],[7]),([8],[8]),([9,8],[8,9]),([10,8],[8,10]),([8,11],[8,11]),([12,8],[12]),([13],[13]),([14,13],[13,14]),([13],[13]),([16,13],[13,16]),([17,13],[13,17]),([15,18,13],[13,15,18]),([13,19],[13,19]),([20,13],[20]),([21],[21]),([22,21],[21,22]),([21],[21]),([24,21],[21,24]),([25,21],[21,25]),([23,26,21],[21,23,26]),([21,27],[21,27]),([28,21],[28]),([29],[29]),([30,29],[29,30]),([29],[29]),([32,29],[29,32]),([33,29],[29,33]),([31,34,29],[29,31,34]),([29,35],[29,35]),([36,29],[36]),([37],[37]),([37],[37]),([38,39,37],[37,38,39]),([40,37],[37,40]),([41,37],[37,41]),([37],[37]),([43,37],[37,43]),([42,44,37],[37,42,44]),([37,45],[37,45]),([46,37],[46]),([47],[47]),([47],[47]),([48,49,47],[47,48,49]),([50,47],[47,50]),([51,47],[47,51]),([47],[47]),([53,47],[47,53]),([52,54,47],[47,52,54]),([47,55],[47,55]),([56,47],[56]),([57],[57]),([57],[57]),([58,59,57],[57,58,59]),([60,57],[57,60]),([61,57],[57,61]),([57],[57]),([63,57],[57,63]),([62,64,57],[57,62,64]),([57,65],[57,65])])
def gangsawlaw31_OffcutRests.B16 : List Nat:=[0,1,3,7,15,31,63,127,255,511,1023,2047,4095,8191,16383,32767,16383,81919,212991,524287,1048575,2097151,4194303,8388607,4194303,20971519,54525951,134217727,268435455,536870911,1073741823,2147483647,1073741823,5368709119,13958643711,34359738367,68719476735,137438953471,274877906943,274877906943,1099511627775,2199023255551,4398046511103,274877906943,9070970929151,35184372088831,70368744177663,140737488355327,281474976710655,281474976710655,1125899906842623,2251799813685247,4503599627370495,281474976710655,9288674231451647,36028797018963967,72057594037927935,144115188075855871,288230376151711743,288230376151711743,1152921504606846975,2305843009213693951,4611686018427387903,288230376151711743,9511602413006487551,36893488147419103231,73786976294838206463]
theorem gangsawlaw31_OffcutRests.tab16 : rtab .any (opsOf Try.f10 16) = gangsawlaw31_OffcutRests.T16:=by kernel_rfl
theorem gangsawlaw31_OffcutRests.bits16 : waitsOk gangsawlaw31_OffcutRests.T16.2 gangsawlaw31_OffcutRests.B16 = true:=by kernel_rfl
set_option maxHeartbeats 8000000 in
set_option maxRecDepth 100000 in
theorem gangsawlaw31_OffcutRests.calls (k : Nat) (a0_0 : ByteArray) (a0_1 : Int) (a0_2 : Int) (a0_3 : Int) (a0_4 : Int) (a0_5 : ByteArray) (a0_6 : ByteArray) (a1_0 : ByteArray) (a1_1 : Int) (a1_2 : Int) (a1_3 : Int) (a1_4 : Int) (a1_5 : ByteArray) (a1_6 : Bool) (a2 : Int) (r : Bool) (w : World) (h : gangsawlaw31_OffcutRests.f k a0_0 a0_1 a0_2 a0_3 a0_4 a0_5 a0_6 a1_0 a1_1 a1_2 a1_3 a1_4 a1_5 a1_6 a2 = some r) :
  Calls Try.prog 10 #[.agg #[.string a0_0,.int .i64 a0_1,.int .i64 a0_2,.int .i64 a0_3,.int .i64 a0_4,.string a0_5,.string a0_6],.agg #[.string a1_0,.int .i64 a1_1,.int .i64 a1_2,.int .i64 a1_3,.int .i64 a1_4,.string a1_5,.bool a1_6],.int .i64 a2] w fun e w'=>e = .returned (.bool r) ∧ Below w.heap.size w w':=by
 have hu39:=Try.underlying39;have hu26:=Try.underlying26;have hu24:=Try.underlying24;have HB:=am (Below.refl w.heap.size w);have H : ((gangsawlaw31_awake.f k).bind fun t649=>(if t649 = true then ((gangsawref31_Small.f k (([(⟨a0_0,(⟨a0_1,a0_2,a0_3⟩ : S24),a0_4,a0_5,a0_6⟩ : S39)] : List (S39))) 1).bind fun t653=>(if t653 = true then ((gangsawref31_Few.f k (([(⟨a1_0,(⟨a1_1,a1_2,a1_3⟩ : S24),a1_4,a1_5,a1_6⟩ : S26)] : List (S26))) 1).bind fun t657=>(gangsawlaw31_OffcutRests.j0 k a2 (!t657) a0_0 a0_1 a0_2 a0_3 a0_4 a0_5 a0_6 a1_0 a1_1 a1_2 a1_3 a1_4 a1_5 a1_6)) else (gangsawlaw31_OffcutRests.j0 k a2 true a0_0 a0_1 a0_2 a0_3 a0_4 a0_5 a0_6 a1_0 a1_1 a1_2 a1_3 a1_4 a1_5 a1_6))) else (none))) = some r:=h;clear h;replace H:=Option.bind_eq_some_iff.mp H;obtain ⟨t649,A40,H⟩ := H;replace H : (if t649 = true then ((gangsawref31_Small.f k (([(⟨a0_0,(⟨a0_1,a0_2,a0_3⟩ : S24),a0_4,a0_5,a0_6⟩ : S39)] : List (S39))) 1).bind fun t653=>(if t653 = true then ((gangsawref31_Few.f k (([(⟨a1_0,(⟨a1_1,a1_2,a1_3⟩ : S24),a1_4,a1_5,a1_6⟩ : S26)] : List (S26))) 1).bind fun t657=>(gangsawlaw31_OffcutRests.j0 k a2 (!t657) a0_0 a0_1 a0_2 a0_3 a0_4 a0_5 a0_6 a1_0 a1_1 a1_2 a1_3 a1_4 a1_5 a1_6)) else (gangsawlaw31_OffcutRests.j0 k a2 true a0_0 a0_1 a0_2 a0_3 a0_4 a0_5 a0_6 a1_0 a1_1 a1_2 a1_3 a1_4 a1_5 a1_6))) else (none)) = some r:=H;have A4:=am A40;clear A40;by_cases c5 : t649 = true
 ·subst c5
  have H1 : ((gangsawref31_Small.f k (([(⟨a0_0,(⟨a0_1,a0_2,a0_3⟩ : S24),a0_4,a0_5,a0_6⟩ : S39)] : List (S39))) 1).bind fun t653=>(if t653 = true then ((gangsawref31_Few.f k (([(⟨a1_0,(⟨a1_1,a1_2,a1_3⟩ : S24),a1_4,a1_5,a1_6⟩ : S26)] : List (S26))) 1).bind fun t657=>(gangsawlaw31_OffcutRests.j0 k a2 (!t657) a0_0 a0_1 a0_2 a0_3 a0_4 a0_5 a0_6 a1_0 a1_1 a1_2 a1_3 a1_4 a1_5 a1_6)) else (gangsawlaw31_OffcutRests.j0 k a2 true a0_0 a0_1 a0_2 a0_3 a0_4 a0_5 a0_6 a1_0 a1_1 a1_2 a1_3 a1_4 a1_5 a1_6))) = some r:=by rw [if_pos rfl] at H;exact H
  clear H;have H:=H1;clear H1;have HC6:=am H;clear H
  go_enter Try.func10,Try.ntmps10
  go_upto_region 3 with (first|((with_reducible refine gate_dst (N:=3) rfl ?_);(try (refine gate_guard (by rfl) ?_;dsimp only));refine be 3 39 (cs:=#[.string a0_0,.int .i64 a0_1,.int .i64 a0_2,.int .i64 a0_3,.int .i64 a0_4,.string a0_5,.string a0_6]) ?_;intro gb647 hg w7 hbox hb;have BK647:=am hbox;have GW647:=bza HB hg;have GE647:=bza HB hg;replace HB:=bsa HB hb;clear hb hbox hg)|((with_reducible refine gate_dst (N:=4) rfl ?_);(try (refine gate_guard (by rfl) ?_;dsimp only));refine be 4 26 (cs:=#[.string a1_0,.int .i64 a1_1,.int .i64 a1_2,.int .i64 a1_3,.int .i64 a1_4,.string a1_5,.bool a1_6]) ?_;intro gb648 hg w8 hbox hb;have BK648:=am hbox;have GW648:=bza HB hg;have GE648:=bza HB hg;have NB647_648:=bla BK647 hg;have NB648_647:=bga BK647 hg;replace BK647:=bba BK647 hb;replace HB:=bsa HB hb;clear hb hbox hg)|((with_reducible refine gate_callee (f:=11) rfl ?_);refine gL 16 Try.func11 #[] ?_;(with_reducible refine (gangsawlaw31_awake.calls k  true _ A4.out).mono ?_);rintro e w9 ⟨rfl,hb⟩;refine ⟨_,rfl, ?_⟩;replace BK647:=bba BK647 hb;replace BK648:=bba BK648 hb;replace HB:=bsa HB hb;(try clear hb)))
  (try simp only [Act.put,sA,s0,sS])
  go_cut [27] (fun v27 wc=>∃ (kq : Nat) (x27_5 : Bool),v27 = .bool x27_5 ∧ Aside0 (gangsawlaw31_OffcutRests.j0 kq a2 x27_5 a0_0 a0_1 a0_2 a0_3 a0_4 a0_5 a0_6 a1_0 a1_1 a1_2 a1_3 a1_4 a1_5 a1_6 = some r) ∧ Aside0 (kq ≤ k) ∧ Aside0 (wc.heap[gb647]? = some (.cells #[.string a0_0,.int .i64 a0_1,.int .i64 a0_2,.int .i64 a0_3,.int .i64 a0_4,.string a0_5,.string a0_6] 39 (0,0))) ∧ Aside0 (wc.heap[gb648]? = some (.cells #[.string a1_0,.int .i64 a1_1,.int .i64 a1_2,.int .i64 a1_3,.int .i64 a1_4,.string a1_5,.bool a1_6] 26 (0,0))) ∧ Aside0 (Below w.heap.size w wc))
  case first =>
   have H:=HC6.out;clear HC6
   obtain ⟨y650,hy650⟩ : ∃ y_ : List (S39),y_ = (([(⟨a0_0,(⟨a0_1,a0_2,a0_3⟩ : S24),a0_4,a0_5,a0_6⟩ : S39)] : List (S39))):=⟨_,rfl⟩
   replace H : ((gangsawref31_Small.f k y650 1).bind fun t653=>(if t653 = true then ((gangsawref31_Few.f k (([(⟨a1_0,(⟨a1_1,a1_2,a1_3⟩ : S24),a1_4,a1_5,a1_6⟩ : S26)] : List (S26))) 1).bind fun t657=>(gangsawlaw31_OffcutRests.j0 k a2 (!t657) a0_0 a0_1 a0_2 a0_3 a0_4 a0_5 a0_6 a1_0 a1_1 a1_2 a1_3 a1_4 a1_5 a1_6)) else (gangsawlaw31_OffcutRests.j0 k a2 true a0_0 a0_1 a0_2 a0_3 a0_4 a0_5 a0_6 a1_0 a1_1 a1_2 a1_3 a1_4 a1_5 a1_6))) = some r:=by first|(rw [hy650];with_reducible exact H)|(have H2_:=(Option.bind_some _ _).symm.trans H;rw [hy650];with_reducible exact H2_)|(have H2_:=(Option.bind_some _ _).symm.trans H;with_reducible exact H2_)|with_reducible exact H|(rw [hy650];exact H)|exact H
   have Ny650:=am hy650;clear hy650;replace H:=Option.bind_eq_some_iff.mp H;obtain ⟨t653,A100,H⟩ := H;replace H : (if t653 = true then ((gangsawref31_Few.f k (([(⟨a1_0,(⟨a1_1,a1_2,a1_3⟩ : S24),a1_4,a1_5,a1_6⟩ : S26)] : List (S26))) 1).bind fun t657=>(gangsawlaw31_OffcutRests.j0 k a2 (!t657) a0_0 a0_1 a0_2 a0_3 a0_4 a0_5 a0_6 a1_0 a1_1 a1_2 a1_3 a1_4 a1_5 a1_6)) else (gangsawlaw31_OffcutRests.j0 k a2 true a0_0 a0_1 a0_2 a0_3 a0_4 a0_5 a0_6 a1_0 a1_1 a1_2 a1_3 a1_4 a1_5 a1_6)) = some r:=H;have A10:=am A100;clear A100;by_cases c11 : t653 = true
   ·subst c11
    have H1 : ((gangsawref31_Few.f k (([(⟨a1_0,(⟨a1_1,a1_2,a1_3⟩ : S24),a1_4,a1_5,a1_6⟩ : S26)] : List (S26))) 1).bind fun t657=>(gangsawlaw31_OffcutRests.j0 k a2 (!t657) a0_0 a0_1 a0_2 a0_3 a0_4 a0_5 a0_6 a1_0 a1_1 a1_2 a1_3 a1_4 a1_5 a1_6)) = some r:=by rw [if_pos rfl] at H;exact H
    clear H;have H:=H1;clear H1
    obtain ⟨y654,hy654⟩ : ∃ y_ : List (S26),y_ = (([(⟨a1_0,(⟨a1_1,a1_2,a1_3⟩ : S24),a1_4,a1_5,a1_6⟩ : S26)] : List (S26))):=⟨_,rfl⟩
    replace H : ((gangsawref31_Few.f k y654 1).bind fun t657=>(gangsawlaw31_OffcutRests.j0 k a2 (!t657) a0_0 a0_1 a0_2 a0_3 a0_4 a0_5 a0_6 a1_0 a1_1 a1_2 a1_3 a1_4 a1_5 a1_6)) = some r:=by first|(rw [hy654];with_reducible exact H)|(have H2_:=(Option.bind_some _ _).symm.trans H;rw [hy654];with_reducible exact H2_)|(have H2_:=(Option.bind_some _ _).symm.trans H;with_reducible exact H2_)|with_reducible exact H|(rw [hy654];exact H)|exact H
    have Ny654:=am hy654;clear hy654;replace H:=Option.bind_eq_some_iff.mp H;obtain ⟨t657,A120,H⟩ := H;replace H : (gangsawlaw31_OffcutRests.j0 k a2 (!t657) a0_0 a0_1 a0_2 a0_3 a0_4 a0_5 a0_6 a1_0 a1_1 a1_2 a1_3 a1_4 a1_5 a1_6) = some r:=H;have A12:=am A120;clear A120;have H':=am H;clear H;have hnb13:=NB647_648.out;have hnc13:=NB648_647.out;obtain ⟨hcz14_0,hcz14_1,hcz14_2,hcz14_3,hcz14_4,hcz14_5,hcz14_6,hfz14_0,hfz14_1,hfz14_2,hfz14_3,hfz14_4,hfz14_5,hfz14_6⟩ := c7_ BK647.out
    go_wp2_with (first|((with_reducible refine gate_dst (N:=19) rfl ?_);(try (refine gate_guard (by rfl) ?_;dsimp only));refine Kd.R_lit k39 _ 39 ?hg (N:=19) ?hd (xs:=([(⟨a0_0,(⟨a0_1,a0_2,a0_3⟩ : S24),a0_4,a0_5,a0_6⟩ : S39)] : List (S39))) (inner:=[.string a0_0,.int .i64 a0_1,.int .i64 a0_2,.int .i64 a0_3,.int .i64 a0_4,.string a0_5,.string a0_6]) (ok:=fun _=>True) (okp:=fun _=>True) ?hr ?hp (fun _ hk=>hk) trivial (Below.refl _ _) (Nat.le_refl _) (by simp) ?_;(case hd=>rfl);(case hg=>rfl);(case hr=>first|(go_simp;done)|(go_simp;rfl));(case hp=>exact (Reps.c7 (show Kd.M k39 _ _ _ (⟨a0_0,(⟨a0_1,a0_2,a0_3⟩ : S24),a0_4,a0_5,a0_6⟩ : S39) [.string a0_0,.int .i64 a0_1,.int .i64 a0_2,.int .i64 a0_3,.int .i64 a0_4,.string a0_5,.string a0_6] from (k39_mkM _ _ _ (⟨a0_0,(⟨a0_1,a0_2,a0_3⟩ : S24),a0_4,a0_5,a0_6⟩ : S39) )) (Reps.none _ _)));intro v651 w15 ho16 hb hg_ hnew_;clear hg_ hnew_;(first|rw [← Ny650.out] at ho16|(simp only [Int.reduceToNat] at ho16;rw [← Ny650.out] at ho16));have HO652:=am (Kd.R_lower (Kd.R_newB ho16 (g:=gb647) (o:=.cells #[.string a0_0,.int .i64 a0_1,.int .i64 a0_2,.int .i64 a0_3,.int .i64 a0_4,.string a0_5,.string a0_6] 39 (0,0)) (bq BK647.out)) (below_size (by repeat (first|(with_reducible first|exact HB.out|apply lA|apply lN|apply lD|refine lS ?_ GE647.out|refine lS ?_ GE648.out)|exact HB.out))));replace BK647:=bba BK647 hb;replace BK648:=bba BK648 hb;replace HB:=bsa HB hb;clear hb ho16;obtain ⟨Ao17,co17,eo17⟩ := Kd.R_slice HO652.out;subst eo17)|((with_reducible refine gate_callee (f:=12) rfl ?_);refine gL 20 Try.func12 #[.slice Ao17 y650.length co17,.int .i64 1] ?_;(with_reducible refine (gangsawref31_Small.calls k _ _ y650 1 true _ ?side1 ?side2 A10.out).mono ?_);(case side1=>exact cr (Kd.R_reads' HO652.out).2.2);(case side2=>exact (Kd.R_reads' HO652.out).2.1);rintro e w' ⟨rfl,⟨nd,rfl⟩⟩;refine ⟨_,rfl, ?_⟩;obtain ⟨hcz18_0,hcz18_1,hcz18_2,hcz18_3,hcz18_4,hcz18_5,hcz18_6,hfz18_0,hfz18_1,hfz18_2,hfz18_3,hfz18_4,hfz18_5,hfz18_6⟩ := c7_ BK648.out)|((with_reducible refine gate_dst (N:=24) rfl ?_);(try (refine gate_guard (by rfl) ?_;dsimp only));refine Kd.R_lit k26 _ 26 ?hg (N:=24) ?hd (xs:=([(⟨a1_0,(⟨a1_1,a1_2,a1_3⟩ : S24),a1_4,a1_5,a1_6⟩ : S26)] : List (S26))) (inner:=[.string a1_0,.int .i64 a1_1,.int .i64 a1_2,.int .i64 a1_3,.int .i64 a1_4,.string a1_5,.bool a1_6]) (ok:=fun _=>True) (okp:=fun _=>True) ?hr ?hp (fun _ hk=>hk) trivial (Below.refl _ _) (Nat.le_refl _) (by simp) ?_;(case hd=>rfl);(case hg=>rfl);(case hr=>first|(go_simp;done)|(go_simp;rfl));(case hp=>exact (Reps.c7 (show Kd.M k26 _ _ _ (⟨a1_0,(⟨a1_1,a1_2,a1_3⟩ : S24),a1_4,a1_5,a1_6⟩ : S26) [.string a1_0,.int .i64 a1_1,.int .i64 a1_2,.int .i64 a1_3,.int .i64 a1_4,.string a1_5,.bool a1_6] from (k26_mkM _ _ _ (⟨a1_0,(⟨a1_1,a1_2,a1_3⟩ : S24),a1_4,a1_5,a1_6⟩ : S26) )) (Reps.none _ _)));intro v655 w19 ho20 hb hg_ hnew_;clear hg_ hnew_;(first|rw [← Ny654.out] at ho20|(simp only [Int.reduceToNat] at ho20;rw [← Ny654.out] at ho20));have HO656:=am (Kd.R_lower (Kd.R_newB ho20 (g:=gb648) (o:=.cells #[.string a1_0,.int .i64 a1_1,.int .i64 a1_2,.int .i64 a1_3,.int .i64 a1_4,.string a1_5,.bool a1_6] 26 (0,0)) (bq BK648.out)) (below_size (by repeat (first|(with_reducible first|exact HB.out|apply lA|apply lN|apply lD|refine lS ?_ GE647.out|refine lS ?_ GE648.out)|exact HB.out))));replace HO652:=rba HO652 hb;replace BK647:=bba BK647 hb;replace BK648:=bba BK648 hb;replace HB:=bsa HB hb;clear hb ho20;obtain ⟨Ao21,co21,eo21⟩ := Kd.R_slice HO656.out;subst eo21)|(go_at_call 13;(with_reducible refine (gangsawref31_Few.calls k _ _ y654 1 t657 _ ?side1 ?side2 A12.out).mono ?_);(case side1=>exact cr (Kd.R_reads' HO656.out).2.2);(case side2=>exact (Kd.R_reads' HO656.out).2.1);rintro e w' ⟨rfl,⟨nd,rfl⟩⟩))
    go_meet
    case rel=>exact ⟨_,(!t657),(by first|rfl|(simp;done)|(simp [*];done)),H',⟨by first|omega|exact Nat.le_refl _⟩,⟨bq BK647.out⟩,⟨bq BK648.out⟩,⟨by repeat (first|(with_reducible first|exact HB.out|apply lA|apply lN|apply lD|refine lS ?_ GE647.out|refine lS ?_ GE648.out)|exact HB.out)⟩⟩
   ·replace c11:=Bool.eq_false_iff.mpr c11;subst c11
    have H1 : (gangsawlaw31_OffcutRests.j0 k a2 true a0_0 a0_1 a0_2 a0_3 a0_4 a0_5 a0_6 a1_0 a1_1 a1_2 a1_3 a1_4 a1_5 a1_6) = some r:=by rw [if_neg (show ¬ (false = true) by decide)] at H;exact H
    clear H;have H:=H1;clear H1;have H':=am H;clear H;have hnb22:=NB647_648.out;have hnc22:=NB648_647.out;obtain ⟨hcz23_0,hcz23_1,hcz23_2,hcz23_3,hcz23_4,hcz23_5,hcz23_6,hfz23_0,hfz23_1,hfz23_2,hfz23_3,hfz23_4,hfz23_5,hfz23_6⟩ := c7_ BK647.out
    go_wp2_with (first|((with_reducible refine gate_dst (N:=19) rfl ?_);(try (refine gate_guard (by rfl) ?_;dsimp only));refine Kd.R_lit k39 _ 39 ?hg (N:=19) ?hd (xs:=([(⟨a0_0,(⟨a0_1,a0_2,a0_3⟩ : S24),a0_4,a0_5,a0_6⟩ : S39)] : List (S39))) (inner:=[.string a0_0,.int .i64 a0_1,.int .i64 a0_2,.int .i64 a0_3,.int .i64 a0_4,.string a0_5,.string a0_6]) (ok:=fun _=>True) (okp:=fun _=>True) ?hr ?hp (fun _ hk=>hk) trivial (Below.refl _ _) (Nat.le_refl _) (by simp) ?_;(case hd=>rfl);(case hg=>rfl);(case hr=>first|(go_simp;done)|(go_simp;rfl));(case hp=>exact (Reps.c7 (show Kd.M k39 _ _ _ (⟨a0_0,(⟨a0_1,a0_2,a0_3⟩ : S24),a0_4,a0_5,a0_6⟩ : S39) [.string a0_0,.int .i64 a0_1,.int .i64 a0_2,.int .i64 a0_3,.int .i64 a0_4,.string a0_5,.string a0_6] from (k39_mkM _ _ _ (⟨a0_0,(⟨a0_1,a0_2,a0_3⟩ : S24),a0_4,a0_5,a0_6⟩ : S39) )) (Reps.none _ _)));intro v651 w24 ho25 hb hg_ hnew_;clear hg_ hnew_;(first|rw [← Ny650.out] at ho25|(simp only [Int.reduceToNat] at ho25;rw [← Ny650.out] at ho25));have HO652:=am (Kd.R_lower (Kd.R_newB ho25 (g:=gb647) (o:=.cells #[.string a0_0,.int .i64 a0_1,.int .i64 a0_2,.int .i64 a0_3,.int .i64 a0_4,.string a0_5,.string a0_6] 39 (0,0)) (bq BK647.out)) (below_size (by repeat (first|(with_reducible first|exact HB.out|apply lA|apply lN|apply lD|refine lS ?_ GE647.out|refine lS ?_ GE648.out)|exact HB.out))));replace BK647:=bba BK647 hb;replace BK648:=bba BK648 hb;replace HB:=bsa HB hb;clear hb ho25;obtain ⟨Ao26,co26,eo26⟩ := Kd.R_slice HO652.out;subst eo26)|((with_reducible refine gate_callee (f:=12) rfl ?_);refine gL 20 Try.func12 #[.slice Ao26 y650.length co26,.int .i64 1] ?_;(with_reducible refine (gangsawref31_Small.calls k _ _ y650 1 false _ ?side1 ?side2 A10.out).mono ?_);(case side1=>exact cr (Kd.R_reads' HO652.out).2.2);(case side2=>exact (Kd.R_reads' HO652.out).2.1);rintro e w' ⟨rfl,⟨nd,rfl⟩⟩;refine ⟨_,rfl, ?_⟩))
    go_meet
    case rel=>exact ⟨_,(true),(by first|rfl|(simp;done)|(simp [*];done)),H',⟨by first|omega|exact Nat.le_refl _⟩,⟨bq BK647.out⟩,⟨bq BK648.out⟩,⟨by repeat (first|(with_reducible first|exact HB.out|apply lA|apply lN|apply lD|refine lS ?_ GE647.out|refine lS ?_ GE648.out)|exact HB.out)⟩⟩
  case rest =>
   clear HC6
   try clear c1
   try clear c2
   try clear p2
   try clear c5
   try clear c7
   try clear c10
   try clear c11
   try clear c12
   try clear c13
   try clear c22
   try clear hcz14_0
   try clear hcz14_1
   try clear hcz14_2
   try clear hcz14_3
   try clear hcz14_4
   try clear hcz14_5
   try clear hcz14_6
   try clear hcz18_0
   try clear hcz18_1
   try clear hcz18_2
   try clear hcz18_3
   try clear hcz18_4
   try clear hcz18_5
   try clear hcz18_6
   try clear hcz23_0
   try clear hcz23_1
   try clear hcz23_2
   try clear hcz23_3
   try clear hcz23_4
   try clear hcz23_5
   try clear hcz23_6
   try clear hfz14_0
   try clear hfz14_1
   try clear hfz14_2
   try clear hfz14_3
   try clear hfz14_4
   try clear hfz14_5
   try clear hfz14_6
   try clear hfz18_0
   try clear hfz18_1
   try clear hfz18_2
   try clear hfz18_3
   try clear hfz18_4
   try clear hfz18_5
   try clear hfz18_6
   try clear hfz23_0
   try clear hfz23_1
   try clear hfz23_2
   try clear hfz23_3
   try clear hfz23_4
   try clear hfz23_5
   try clear hfz23_6
   obtain ⟨kq,x27_5,rfl,HA,HJ5,BK647,BK648,HB⟩ := hcut
   cases kq with
   | zero=>exact absurd HA.out (by simp [gangsawlaw31_OffcutRests.j0])
   | succ kj5 =>
    have H:=HA.out;clear HA;simp only [gangsawlaw31_OffcutRests.j0] at H;by_cases c27 : x27_5 = true
    ·subst c27
     have H1 : (some true) = some r:=by rw [if_pos rfl] at H;exact H
     clear H;have H:=H1;clear H1;obtain rfl:=Option.some.inj H
     go_wp2
     go_ret
     exact ⟨by first|rfl|(simp [errW_none,errW_some] <;> rfl)|(simp [*,errW_none,errW_some] <;> rfl),by repeat (first|(with_reducible first|exact HB.out|apply lA|apply lN|apply lD|refine lS ?_ GE647.out|refine lS ?_ GE648.out)|exact HB.out)⟩
    ·replace c27:=Bool.eq_false_iff.mpr c27;subst c27
     have H1 : ((gangsawlaw31_ours.f a1_0 a1_1 a1_2 a1_3 a1_4 a1_5 a1_6).bind fun bt658=>((offcut_Fits.f kj5 a0_0 a0_1 a0_2 a0_3 a0_4 a0_5 a0_6 bt658.1 bt658.2.1 bt658.2.2.1 bt658.2.2.2.1 bt658.2.2.2.2.1 bt658.2.2.2.2.2.1 bt658.2.2.2.2.2.2 a2).bind fun bt665=>((gangsawlaw31_ours.f a1_0 a1_1 a1_2 a1_3 a1_4 a1_5 a1_6).bind fun bt668=>((offcut_Rest.f kj5 a0_0 a0_1 a0_2 a0_3 a0_4 a0_5 a0_6 bt668.1 bt668.2.1 bt668.2.2.1 bt668.2.2.2.1 bt668.2.2.2.2.1 bt668.2.2.2.2.2.1 bt668.2.2.2.2.2.2 a2).bind fun bt675=>(if bt665.2.2 = 0 then (gangsawlaw31_OffcutRests.j1 kj5 a2 bt675.1 bt675.2 (!bt665.1) a0_0 a0_1 a0_2 a0_3 a0_4 a0_5 a0_6 a1_0 a1_1 a1_2 a1_3 a1_4 a1_5 a1_6) else (gangsawlaw31_OffcutRests.j1 kj5 a2 bt675.1 bt675.2 true a0_0 a0_1 a0_2 a0_3 a0_4 a0_5 a0_6 a1_0 a1_1 a1_2 a1_3 a1_4 a1_5 a1_6)))))) = some r:=by rw [if_neg (show ¬ (false = true) by decide)] at H;exact H
     clear H;have H:=H1;clear H1;replace H:=Option.bind_eq_some_iff.mp H;obtain ⟨⟨t658,t659,t660,t661,t662,t663,t664⟩,A280,H⟩ := H;replace H : ((offcut_Fits.f kj5 a0_0 a0_1 a0_2 a0_3 a0_4 a0_5 a0_6 t658 t659 t660 t661 t662 t663 t664 a2).bind fun bt665=>((gangsawlaw31_ours.f a1_0 a1_1 a1_2 a1_3 a1_4 a1_5 a1_6).bind fun bt668=>((offcut_Rest.f kj5 a0_0 a0_1 a0_2 a0_3 a0_4 a0_5 a0_6 bt668.1 bt668.2.1 bt668.2.2.1 bt668.2.2.2.1 bt668.2.2.2.2.1 bt668.2.2.2.2.2.1 bt668.2.2.2.2.2.2 a2).bind fun bt675=>(if bt665.2.2 = 0 then (gangsawlaw31_OffcutRests.j1 kj5 a2 bt675.1 bt675.2 (!bt665.1) a0_0 a0_1 a0_2 a0_3 a0_4 a0_5 a0_6 a1_0 a1_1 a1_2 a1_3 a1_4 a1_5 a1_6) else (gangsawlaw31_OffcutRests.j1 kj5 a2 bt675.1 bt675.2 true a0_0 a0_1 a0_2 a0_3 a0_4 a0_5 a0_6 a1_0 a1_1 a1_2 a1_3 a1_4 a1_5 a1_6))))) = some r:=H;have A28:=am A280;clear A280;replace H:=Option.bind_eq_some_iff.mp H;obtain ⟨⟨t665,t666,t667⟩,A290,H⟩ := H;replace H : ((gangsawlaw31_ours.f a1_0 a1_1 a1_2 a1_3 a1_4 a1_5 a1_6).bind fun bt668=>((offcut_Rest.f kj5 a0_0 a0_1 a0_2 a0_3 a0_4 a0_5 a0_6 bt668.1 bt668.2.1 bt668.2.2.1 bt668.2.2.2.1 bt668.2.2.2.2.1 bt668.2.2.2.2.2.1 bt668.2.2.2.2.2.2 a2).bind fun bt675=>(if t667 = 0 then (gangsawlaw31_OffcutRests.j1 kj5 a2 bt675.1 bt675.2 (!t665) a0_0 a0_1 a0_2 a0_3 a0_4 a0_5 a0_6 a1_0 a1_1 a1_2 a1_3 a1_4 a1_5 a1_6) else (gangsawlaw31_OffcutRests.j1 kj5 a2 bt675.1 bt675.2 true a0_0 a0_1 a0_2 a0_3 a0_4 a0_5 a0_6 a1_0 a1_1 a1_2 a1_3 a1_4 a1_5 a1_6)))) = some r:=H;have A29:=am A290;clear A290;replace H:=Option.bind_eq_some_iff.mp H;obtain ⟨⟨t668,t669,t670,t671,t672,t673,t674⟩,A300,H⟩ := H;replace H : ((offcut_Rest.f kj5 a0_0 a0_1 a0_2 a0_3 a0_4 a0_5 a0_6 t668 t669 t670 t671 t672 t673 t674 a2).bind fun bt675=>(if t667 = 0 then (gangsawlaw31_OffcutRests.j1 kj5 a2 bt675.1 bt675.2 (!t665) a0_0 a0_1 a0_2 a0_3 a0_4 a0_5 a0_6 a1_0 a1_1 a1_2 a1_3 a1_4 a1_5 a1_6) else (gangsawlaw31_OffcutRests.j1 kj5 a2 bt675.1 bt675.2 true a0_0 a0_1 a0_2 a0_3 a0_4 a0_5 a0_6 a1_0 a1_1 a1_2 a1_3 a1_4 a1_5 a1_6))) = some r:=H;have A30:=am A300;clear A300;replace H:=Option.bind_eq_some_iff.mp H;obtain ⟨⟨t675,t678⟩,A310,H⟩ := H;replace H : (if t667 = 0 then (gangsawlaw31_OffcutRests.j1 kj5 a2 t675 t678 (!t665) a0_0 a0_1 a0_2 a0_3 a0_4 a0_5 a0_6 a1_0 a1_1 a1_2 a1_3 a1_4 a1_5 a1_6) else (gangsawlaw31_OffcutRests.j1 kj5 a2 t675 t678 true a0_0 a0_1 a0_2 a0_3 a0_4 a0_5 a0_6 a1_0 a1_1 a1_2 a1_3 a1_4 a1_5 a1_6)) = some r:=H;have A31:=am A310;clear A310;have HC32:=am H;clear H
     try go_wp2
     replace BK647:=bda BK647;replace BK648:=bda BK648;replace HB:=hda HB
     refine start_ (n:=12) (S:=fun w'=>w'.cell? ⟨gb647,0,none⟩ = some (.string a0_0) ∧ w'.cell? ⟨gb647,1,none⟩ = some (.int .i64 a0_1) ∧ w'.cell? ⟨gb647,2,none⟩ = some (.int .i64 a0_2) ∧ w'.cell? ⟨gb647,3,none⟩ = some (.int .i64 a0_3) ∧ w'.cell? ⟨gb647,4,none⟩ = some (.int .i64 a0_4) ∧ w'.cell? ⟨gb647,5,none⟩ = some (.string a0_5) ∧ w'.cell? ⟨gb647,6,none⟩ = some (.string a0_6) ∧ w'.cell? ⟨gb648,0,none⟩ = some (.string a1_0) ∧ w'.cell? ⟨gb648,1,none⟩ = some (.int .i64 a1_1) ∧ w'.cell? ⟨gb648,2,none⟩ = some (.int .i64 a1_2) ∧ w'.cell? ⟨gb648,3,none⟩ = some (.int .i64 a1_3) ∧ w'.cell? ⟨gb648,4,none⟩ = some (.int .i64 a1_4) ∧ w'.cell? ⟨gb648,5,none⟩ = some (.string a1_5) ∧ w'.cell? ⟨gb648,6,none⟩ = some (.bool a1_6)) (ds:=[]) #[f_,f_,f_,f_,f_,f_,f_,f_,f_,f_,f_,f_] (by kernel_rfl) rfl rfl ⟨(blk_cell BK647.out 0).trans rfl,(blk_cell BK647.out 1).trans rfl,(blk_cell BK647.out 2).trans rfl,(blk_cell BK647.out 3).trans rfl,(blk_cell BK647.out 4).trans rfl,(blk_cell BK647.out 5).trans rfl,(blk_cell BK647.out 6).trans rfl,(blk_cell BK648.out 0).trans rfl,(blk_cell BK648.out 1).trans rfl,(blk_cell BK648.out 2).trans rfl,(blk_cell BK648.out 3).trans rfl,(blk_cell BK648.out 4).trans rfl,(blk_cell BK648.out 5).trans rfl,(blk_cell BK648.out 6).trans rfl⟩ (fun hHeld=>?_);refine with_tabW gangsawlaw31_OffcutRests.tab5 gangsawlaw31_OffcutRests.bits5 (fun HT_ HW_=>?_)
     generalize wc.drew = w33 at BK647 BK648 HB hHeld ⊢
     refine pu_ HT_ 3 32 (mk_ 12 8) ?_
     refine ta14_ HT_ HW_ 0 29 (mk_ 12 9) hHeld ?_
     refine ta14_ HT_ HW_ 1 30 (mk_ 12 11) hHeld ?_
     refine one_ (i:=2) (N:=some 31) (mk_ 12 15) rfl rfl (one_of HT_.out (by kernel_rfl)) (by decide) (fun K hK=>?_);refine goes_ Try.func15 (by kernel_rfl) rfl #[.agg #[.string a1_0,.int .i64 a1_1,.int .i64 a1_2,.int .i64 a1_3,.int .i64 a1_4,.string a1_5,.bool a1_6]] (by rfl) rfl rfl (by (try simp only [mT,mC,mN]);first|done|rfl|(simp only [lDr,lTk];rfl)) ?_
     with_reducible refine (gangsawlaw31_ours.calls a1_0 a1_1 a1_2 a1_3 a1_4 a1_5 a1_6 t658 t659 t660 t661 t662 t663 t664 _ A28.out).mono ?_
     rintro e w34 ⟨rfl,hb⟩;refine ⟨_,rfl, ?_⟩;replace BK647:=bba BK647 hb;replace BK648:=bba BK648 hb;replace HB:=bsa HB hb;(try clear hb)
     refine hK.out _ _ ⟨(blk_cell BK647.out 0).trans rfl,(blk_cell BK647.out 1).trans rfl,(blk_cell BK647.out 2).trans rfl,(blk_cell BK647.out 3).trans rfl,(blk_cell BK647.out 4).trans rfl,(blk_cell BK647.out 5).trans rfl,(blk_cell BK647.out 6).trans rfl,(blk_cell BK648.out 0).trans rfl,(blk_cell BK648.out 1).trans rfl,(blk_cell BK648.out 2).trans rfl,(blk_cell BK648.out 3).trans rfl,(blk_cell BK648.out 4).trans rfl,(blk_cell BK648.out 5).trans rfl,(blk_cell BK648.out 6).trans rfl⟩ (fun hHeld=>?_)
     clear hK K
     refine nm_ 31 ?_
     refine one_ (i:=4) (N:=some 33) (mk_ 12 31) rfl rfl (one_of HT_.out (by kernel_rfl)) (by decide) (fun K hK=>?_);refine goes_ Try.func23 (by kernel_rfl) rfl #[.agg #[.string a0_0,.int .i64 a0_1,.int .i64 a0_2,.int .i64 a0_3,.int .i64 a0_4,.string a0_5,.string a0_6],.agg #[.string t658,.int .i64 t659,.int .i64 t660,.int .i64 t661,.int .i64 t662,.string t663,.bool t664],.int .i64 a2] (by rfl) rfl rfl (by (try simp only [mT,mC,mN]);first|done|rfl|(simp only [lDr,lTk];rfl)) ?_
     with_reducible refine (offcut_Fits.calls kj5 a0_0 a0_1 a0_2 a0_3 a0_4 a0_5 a0_6 t658 t659 t660 t661 t662 t663 t664 a2 t665 t666 t667 _ A29.out).mono ?_
     rintro e w35 ⟨rfl,hb⟩;refine ⟨_,rfl, ?_⟩;replace BK647:=bba BK647 hb;replace BK648:=bba BK648 hb;replace HB:=bsa HB hb;(try clear hb)
     refine hK.out _ _ ⟨(blk_cell BK647.out 0).trans rfl,(blk_cell BK647.out 1).trans rfl,(blk_cell BK647.out 2).trans rfl,(blk_cell BK647.out 3).trans rfl,(blk_cell BK647.out 4).trans rfl,(blk_cell BK647.out 5).trans rfl,(blk_cell BK647.out 6).trans rfl,(blk_cell BK648.out 0).trans rfl,(blk_cell BK648.out 1).trans rfl,(blk_cell BK648.out 2).trans rfl,(blk_cell BK648.out 3).trans rfl,(blk_cell BK648.out 4).trans rfl,(blk_cell BK648.out 5).trans rfl,(blk_cell BK648.out 6).trans rfl⟩ (fun hHeld=>?_)
     clear hK K
     refine nm_ 33 ?_
     refine pu_ HT_ 5 28 (mk_ 12 63) ?_
     refine pu_ HT_ 6 34 (mk_ 12 127) ?_
     refine pu_ HT_ 7 35 (mk_ 12 255) ?_
     refine pu_ HT_ 8 36 (mk_ 12 511) ?_
     refine pu_ HT_ 9 7 (mk_ 12 1023) ?_
     refine pu_ HT_ 10 8 (mk_ 12 2047) ?_
     refine pu_ HT_ 11 9 (mk_ 12 4095) ?_
     refine done_ (done_of HT_.out (by kernel_rfl)) ?_
     try go_wp2
     replace BK647:=bda BK647;replace BK648:=bda BK648;replace HB:=hda HB
     refine start_ (n:=10) (S:=fun w'=>w'.cell? ⟨gb647,0,none⟩ = some (.string a0_0) ∧ w'.cell? ⟨gb647,1,none⟩ = some (.int .i64 a0_1) ∧ w'.cell? ⟨gb647,2,none⟩ = some (.int .i64 a0_2) ∧ w'.cell? ⟨gb647,3,none⟩ = some (.int .i64 a0_3) ∧ w'.cell? ⟨gb647,4,none⟩ = some (.int .i64 a0_4) ∧ w'.cell? ⟨gb647,5,none⟩ = some (.string a0_5) ∧ w'.cell? ⟨gb647,6,none⟩ = some (.string a0_6) ∧ w'.cell? ⟨gb648,0,none⟩ = some (.string a1_0) ∧ w'.cell? ⟨gb648,1,none⟩ = some (.int .i64 a1_1) ∧ w'.cell? ⟨gb648,2,none⟩ = some (.int .i64 a1_2) ∧ w'.cell? ⟨gb648,3,none⟩ = some (.int .i64 a1_3) ∧ w'.cell? ⟨gb648,4,none⟩ = some (.int .i64 a1_4) ∧ w'.cell? ⟨gb648,5,none⟩ = some (.string a1_5) ∧ w'.cell? ⟨gb648,6,none⟩ = some (.bool a1_6)) (ds:=[]) #[f_,f_,f_,f_,f_,f_,f_,f_,f_,f_] (by kernel_rfl) rfl rfl ⟨(blk_cell BK647.out 0).trans rfl,(blk_cell BK647.out 1).trans rfl,(blk_cell BK647.out 2).trans rfl,(blk_cell BK647.out 3).trans rfl,(blk_cell BK647.out 4).trans rfl,(blk_cell BK647.out 5).trans rfl,(blk_cell BK647.out 6).trans rfl,(blk_cell BK648.out 0).trans rfl,(blk_cell BK648.out 1).trans rfl,(blk_cell BK648.out 2).trans rfl,(blk_cell BK648.out 3).trans rfl,(blk_cell BK648.out 4).trans rfl,(blk_cell BK648.out 5).trans rfl,(blk_cell BK648.out 6).trans rfl⟩ (fun hHeld=>?_);refine with_tabW gangsawlaw31_OffcutRests.tab6 gangsawlaw31_OffcutRests.bits6 (fun HT_ HW_=>?_)
     generalize w35.drew = w36 at BK647 BK648 HB hHeld ⊢
     refine pu_ HT_ 3 41 (mk_ 10 8) ?_
     refine ta14_ HT_ HW_ 0 38 (mk_ 10 9) hHeld ?_
     refine ta14_ HT_ HW_ 1 39 (mk_ 10 11) hHeld ?_
     refine one_ (i:=2) (N:=some 40) (mk_ 10 15) rfl rfl (one_of HT_.out (by kernel_rfl)) (by decide) (fun K hK=>?_);refine goes_ Try.func15 (by kernel_rfl) rfl #[.agg #[.string a1_0,.int .i64 a1_1,.int .i64 a1_2,.int .i64 a1_3,.int .i64 a1_4,.string a1_5,.bool a1_6]] (by rfl) rfl rfl (by (try simp only [mT,mC,mN]);first|done|rfl|(simp only [lDr,lTk];rfl)) ?_
     with_reducible refine (gangsawlaw31_ours.calls a1_0 a1_1 a1_2 a1_3 a1_4 a1_5 a1_6 t668 t669 t670 t671 t672 t673 t674 _ A30.out).mono ?_
     rintro e w37 ⟨rfl,hb⟩;refine ⟨_,rfl, ?_⟩;replace BK647:=bba BK647 hb;replace BK648:=bba BK648 hb;replace HB:=bsa HB hb;(try clear hb)
     refine hK.out _ _ ⟨(blk_cell BK647.out 0).trans rfl,(blk_cell BK647.out 1).trans rfl,(blk_cell BK647.out 2).trans rfl,(blk_cell BK647.out 3).trans rfl,(blk_cell BK647.out 4).trans rfl,(blk_cell BK647.out 5).trans rfl,(blk_cell BK647.out 6).trans rfl,(blk_cell BK648.out 0).trans rfl,(blk_cell BK648.out 1).trans rfl,(blk_cell BK648.out 2).trans rfl,(blk_cell BK648.out 3).trans rfl,(blk_cell BK648.out 4).trans rfl,(blk_cell BK648.out 5).trans rfl,(blk_cell BK648.out 6).trans rfl⟩ (fun hHeld=>?_)
     clear hK K
     refine nm_ 40 ?_
     refine one_ (i:=4) (N:=some 42) (mk_ 10 31) rfl rfl (one_of HT_.out (by kernel_rfl)) (by decide) (fun K hK=>?_);refine goes_ Try.func24 (by kernel_rfl) rfl #[.agg #[.string a0_0,.int .i64 a0_1,.int .i64 a0_2,.int .i64 a0_3,.int .i64 a0_4,.string a0_5,.string a0_6],.agg #[.string t668,.int .i64 t669,.int .i64 t670,.int .i64 t671,.int .i64 t672,.string t673,.bool t674],.int .i64 a2] (by rfl) rfl rfl (by (try simp only [mT,mC,mN]);first|done|rfl|(simp only [lDr,lTk];rfl)) ?_
     with_reducible refine (offcut_Rest.calls kj5 a0_0 a0_1 a0_2 a0_3 a0_4 a0_5 a0_6 t668 t669 t670 t671 t672 t673 t674 a2 t675 t678 _ A31.out).mono ?_
     rintro e w38 ⟨v676,rfl,ho0,hb⟩;refine ⟨_,rfl, ?_⟩;have HO677:=am (Kd.R_lower (Kd.R_newB ho0 (g:=gb647) (o:=.cells #[.string a0_0,.int .i64 a0_1,.int .i64 a0_2,.int .i64 a0_3,.int .i64 a0_4,.string a0_5,.string a0_6] 39 (0,0)) (bq BK647.out)) (below_size (by repeat (first|(with_reducible first|exact HB.out|apply lA|apply lN|apply lD|refine lS ?_ GE647.out|refine lS ?_ GE648.out)|exact HB.out))));replace BK647:=bba BK647 hb;replace BK648:=bba BK648 hb;replace HB:=bsa HB hb;(try clear hb);(try clear ho0)
     refine hK.out _ _ ⟨(blk_cell BK647.out 0).trans rfl,(blk_cell BK647.out 1).trans rfl,(blk_cell BK647.out 2).trans rfl,(blk_cell BK647.out 3).trans rfl,(blk_cell BK647.out 4).trans rfl,(blk_cell BK647.out 5).trans rfl,(blk_cell BK647.out 6).trans rfl,(blk_cell BK648.out 0).trans rfl,(blk_cell BK648.out 1).trans rfl,(blk_cell BK648.out 2).trans rfl,(blk_cell BK648.out 3).trans rfl,(blk_cell BK648.out 4).trans rfl,(blk_cell BK648.out 5).trans rfl,(blk_cell BK648.out 6).trans rfl⟩ (fun hHeld=>?_)
     clear hK K
     refine nm_ 42 ?_
     refine pu_ HT_ 5 37 (mk_ 10 63) ?_
     refine pu_ HT_ 6 43 (mk_ 10 127) ?_
     refine pu_ HT_ 7 44 (mk_ 10 255) ?_
     refine pu_ HT_ 8 10 (mk_ 10 511) ?_
     refine pu_ HT_ 9 11 (mk_ 10 1023) ?_
     refine done_ (done_of HT_.out (by kernel_rfl)) ?_
     go_upto_region 7 with (fail)
     go_cut [50] (fun v50 wc=>∃ (kq : Nat) (x50_31 : Bool),v50 = .bool x50_31 ∧ Aside0 (gangsawlaw31_OffcutRests.j1 kq a2 t675 t678 x50_31 a0_0 a0_1 a0_2 a0_3 a0_4 a0_5 a0_6 a1_0 a1_1 a1_2 a1_3 a1_4 a1_5 a1_6 = some r) ∧ Aside0 (kq ≤ kj5) ∧ Aside0 (Kd.R k39 39 wc w.heap.size (fun k_=>k_ ≠ gb647) v676 t675) ∧ Aside0 (wc.heap[gb647]? = some (.cells #[.string a0_0,.int .i64 a0_1,.int .i64 a0_2,.int .i64 a0_3,.int .i64 a0_4,.string a0_5,.string a0_6] 39 (0,0))) ∧ Aside0 (wc.heap[gb648]? = some (.cells #[.string a1_0,.int .i64 a1_1,.int .i64 a1_2,.int .i64 a1_3,.int .i64 a1_4,.string a1_5,.bool a1_6] 26 (0,0))) ∧ Aside0 (Below w.heap.size w wc))
     case first =>
      have H:=HC32.out;clear HC32;by_cases c39 : t667 = 0
      ·rw [if_pos c39] at H;have c39b0 : (t667 == 0) = true:=beq_iff_eq.mpr c39;have c39b1 : (t667 != 0) = false:=bne_eq_false_iff_eq.mpr c39;clear c39;(first|rw [c39b0]|(simp only [i64_w,i32_w];rw [c39b0])|skip);have H':=am H;clear H
       go_wp2
       go_meet
       case rel=>exact ⟨_,(!t665),(by first|rfl|(simp;done)|(simp [*];done)),H',⟨by have:=HJ5.out;first|omega|exact Nat.le_refl _⟩,⟨by (with_reducible repeat (first|apply rA|apply rN|apply rD));exact Kd.R_mono HO677.out (fun _ hk=>hk.2)⟩,⟨bq BK647.out⟩,⟨bq BK648.out⟩,⟨by repeat (first|(with_reducible first|exact HB.out|apply lA|apply lN|apply lD|refine lS ?_ GE647.out|refine lS ?_ GE648.out)|exact HB.out)⟩⟩
      ·rw [if_neg c39] at H;have c39b0 : (t667 == 0) = false:=beq_eq_false_iff_ne.mpr c39;have c39b1 : (t667 != 0) = true:=bne_iff_ne.mpr c39;(first|rw [c39b0]|(simp only [i64_w,i32_w];rw [c39b0])|skip);have H':=am H;clear H
       go_wp2
       go_meet
       case rel=>exact ⟨_,(true),(by first|rfl|(simp;done)|(simp [*];done)),H',⟨by have:=HJ5.out;first|omega|exact Nat.le_refl _⟩,⟨by (with_reducible repeat (first|apply rA|apply rN|apply rD));exact Kd.R_mono HO677.out (fun _ hk=>hk.2)⟩,⟨bq BK647.out⟩,⟨bq BK648.out⟩,⟨by repeat (first|(with_reducible first|exact HB.out|apply lA|apply lN|apply lD|refine lS ?_ GE647.out|refine lS ?_ GE648.out)|exact HB.out)⟩⟩
     case rest =>
      clear HC32
      try clear c1
      try clear c2
      try clear p2
      try clear c3
      try clear c5
      try clear c7
      try clear c10
      try clear c11
      try clear c12
      try clear c13
      try clear c15
      try clear c22
      try clear c23
      try clear c24
      try clear c27
      try clear c39
      try clear c39b0
      try clear c39b1
      try clear hcz14_0
      try clear hcz14_1
      try clear hcz14_2
      try clear hcz14_3
      try clear hcz14_4
      try clear hcz14_5
      try clear hcz14_6
      try clear hcz18_0
      try clear hcz18_1
      try clear hcz18_2
      try clear hcz18_3
      try clear hcz18_4
      try clear hcz18_5
      try clear hcz18_6
      try clear hcz23_0
      try clear hcz23_1
      try clear hcz23_2
      try clear hcz23_3
      try clear hcz23_4
      try clear hcz23_5
      try clear hcz23_6
      try clear hfz14_0
      try clear hfz14_1
      try clear hfz14_2
      try clear hfz14_3
      try clear hfz14_4
      try clear hfz14_5
      try clear hfz14_6
      try clear hfz18_0
      try clear hfz18_1
      try clear hfz18_2
      try clear hfz18_3
      try clear hfz18_4
      try clear hfz18_5
      try clear hfz18_6
      try clear hfz23_0
      try clear hfz23_1
      try clear hfz23_2
      try clear hfz23_3
      try clear hfz23_4
      try clear hfz23_5
      try clear hfz23_6
      try clear p2
      obtain ⟨kq,x50_31,rfl,HA,HJ31,HO_10,BK647,BK648,HB⟩ := hcut
      cases kq with
      | zero=>exact absurd HA.out (by simp [gangsawlaw31_OffcutRests.j1])
      | succ kj31 =>
       have H:=HA.out;clear HA;simp only [gangsawlaw31_OffcutRests.j1] at H;by_cases c40 : x50_31 = true
       ·subst c40
        have H1 : (if (t675.length : Int) = 0 then (some (t678 != 0)) else (none)) = some r:=by rw [if_pos rfl] at H;exact H
        clear H;have H:=H1;clear H1;by_cases c41 : (t675.length : Int) = 0
        ·rw [if_pos c41] at H;have c41b0 : ((t675.length : Int) == 0) = true:=beq_iff_eq.mpr c41;have c41b1 : ((t675.length : Int) != 0) = false:=bne_eq_false_iff_eq.mpr c41;clear c41;obtain rfl:=Option.some.inj H;obtain ⟨Ao42,co42,eo42⟩ := Kd.R_slice HO_10.out;subst eo42
         go_wp2
         go_ret
         exact ⟨by first|rfl|(simp [errW_none,errW_some] <;> rfl)|(simp [*,errW_none,errW_some] <;> rfl),by repeat (first|(with_reducible first|exact HB.out|apply lA|apply lN|apply lD|refine lS ?_ GE647.out|refine lS ?_ GE648.out)|exact HB.out)⟩
        (rw [if_neg c41] at H;exact absurd H (by simp))
       ·replace c40:=Bool.eq_false_iff.mpr c40;subst c40
        have H1 : (if t678 = 0 then (gangsawlaw31_OffcutRests.l0 kj31 a2 t675 (wrap64 ((wrap64 (a1_1 * a1_2)) * a1_3)) 0 a0_0 a0_1 a0_2 a0_3 a0_4 a0_5 a0_6) else (if t678 = 4 then (some ((t675.length : Int) == 0)) else (none))) = some r:=by rw [if_neg (show ¬ (false = true) by decide)] at H;exact H
        clear H;have H:=H1;clear H1;by_cases c43 : t678 = 0
        ·rw [if_pos c43] at H;have c43b0 : (t678 == 0) = true:=beq_iff_eq.mpr c43;have c43b1 : (t678 != 0) = false:=bne_eq_false_iff_eq.mpr c43;clear c43;have H':=am H;clear H;have hnb44:=NB648_647.out;have hnc44:=NB647_648.out;obtain ⟨hcz45_0,hcz45_1,hcz45_2,hcz45_3,hcz45_4,hcz45_5,hcz45_6,hfz45_0,hfz45_1,hfz45_2,hfz45_3,hfz45_4,hfz45_5,hfz45_6⟩ := c7_ BK648.out
         go_wp2
         go_loopg [12,13] kj31 (fun kq v12 v13 w'=>∃ (x12_3 : Int) (x13_3 : Int),v12 = .int .i64 x12_3 ∧ v13 = .int .i64 x13_3 ∧ Aside0 (gangsawlaw31_OffcutRests.l0 kq a2 t675 x12_3 x13_3 a0_0 a0_1 a0_2 a0_3 a0_4 a0_5 a0_6 = some r) ∧ Aside0 (kq ≤ kj31) ∧ Aside0 (Kd.R k39 39 w' w.heap.size (fun k_=>k_ ≠ gb647) v676 t675) ∧ Aside0 (w'.heap[gb647]? = some (.cells #[.string a0_0,.int .i64 a0_1,.int .i64 a0_2,.int .i64 a0_3,.int .i64 a0_4,.string a0_5,.string a0_6] 39 (0,0))) ∧ Aside0 (w'.heap[gb648]? = some (.cells #[.string a1_0,.int .i64 a1_1,.int .i64 a1_2,.int .i64 a1_3,.int .i64 a1_4,.string a1_5,.bool a1_6] 26 (0,0))) ∧ Aside0 (Below w.heap.size w w'))
         case atStart=>exact ⟨(wrap64 ((wrap64 (a1_1 * a1_2)) * a1_3)),(0),(by first|rfl|(simp;done)|(simp [*];done)),(by first|rfl|(simp;done)|(simp [*];done)),H',⟨Nat.le_refl _⟩,⟨rq HO_10.out⟩,⟨bq BK647.out⟩,⟨bq BK648.out⟩,⟨by repeat (first|(with_reducible first|exact HB.out|apply lA|apply lN|apply lD|refine lS ?_ GE647.out|refine lS ?_ GE648.out)|exact HB.out)⟩⟩
         case round =>
          clear H'
          try clear c1
          try clear c2
          try clear p2
          try clear c3
          try clear c4
          try clear c5
          try clear p6
          try clear c7
          try clear c10
          try clear c11
          try clear c12
          try clear c13
          try clear c15
          try clear c22
          try clear c23
          try clear c24
          try clear c27
          try clear c39
          try clear c39b0
          try clear c39b1
          try clear c40
          try clear c41
          try clear c41b0
          try clear c41b1
          try clear c43
          try clear c43b0
          try clear c43b1
          try clear c44
          try clear hcz14_0
          try clear hcz14_1
          try clear hcz14_2
          try clear hcz14_3
          try clear hcz14_4
          try clear hcz14_5
          try clear hcz14_6
          try clear hcz18_0
          try clear hcz18_1
          try clear hcz18_2
          try clear hcz18_3
          try clear hcz18_4
          try clear hcz18_5
          try clear hcz18_6
          try clear hcz23_0
          try clear hcz23_1
          try clear hcz23_2
          try clear hcz23_3
          try clear hcz23_4
          try clear hcz23_5
          try clear hcz23_6
          try clear hcz45_0
          try clear hcz45_1
          try clear hcz45_2
          try clear hcz45_3
          try clear hcz45_4
          try clear hcz45_5
          try clear hcz45_6
          try clear hfz14_0
          try clear hfz14_1
          try clear hfz14_2
          try clear hfz14_3
          try clear hfz14_4
          try clear hfz14_5
          try clear hfz14_6
          try clear hfz18_0
          try clear hfz18_1
          try clear hfz18_2
          try clear hfz18_3
          try clear hfz18_4
          try clear hfz18_5
          try clear hfz18_6
          try clear hfz23_0
          try clear hfz23_1
          try clear hfz23_2
          try clear hfz23_3
          try clear hfz23_4
          try clear hfz23_5
          try clear hfz23_6
          try clear hfz45_0
          try clear hfz45_1
          try clear hfz45_2
          try clear hfz45_3
          try clear hfz45_4
          try clear hfz45_5
          try clear hfz45_6
          try clear p2
          obtain ⟨x12_3,x13_3,rfl,rfl,HA,HK3,HO_10,BK647,BK648,HB⟩ := hrel
          cases gk with
          | zero=>exact absurd HA.out (by simp [gangsawlaw31_OffcutRests.l0])
          | succ k3 =>
           have H:=HA.out;clear HA;simp only [gangsawlaw31_OffcutRests.l0] at H;by_cases c46 : x13_3 < (t675.length : Int)
           ·rw [if_pos c46] at H;have c46b0 : decide (x13_3 < (t675.length : Int)) = true:=decide_eq_true c46;clear c46;by_cases c47 : 0 ≤ x13_3
            ·rw [if_pos c47] at H;have c47b0 : decide (0 ≤ x13_3) = true:=decide_eq_true c47;clear c47;by_cases c48 : ((rd_T39 t675 x13_3).f1.f0) < 1
             (rw [if_pos c48] at H;have c48b0 : decide (((rd_T39 t675 x13_3).f1.f0) < 1) = true:=decide_eq_true c48;clear c48;exact absurd H (by simp))
             ·rw [if_neg c48] at H;have c48b0 : decide (((rd_T39 t675 x13_3).f1.f0) < 1) = false:=decide_eq_false c48;clear c48;by_cases c49 : ((rd_T39 t675 x13_3).f1.f1) < 1
              (rw [if_pos c49] at H;have c49b0 : decide (((rd_T39 t675 x13_3).f1.f1) < 1) = true:=decide_eq_true c49;clear c49;exact absurd H (by simp))
              ·rw [if_neg c49] at H;have c49b0 : decide (((rd_T39 t675 x13_3).f1.f1) < 1) = false:=decide_eq_false c49;clear c49;by_cases c50 : ((rd_T39 t675 x13_3).f1.f2) < 1
               (rw [if_pos c50] at H;have c50b0 : decide (((rd_T39 t675 x13_3).f1.f2) < 1) = true:=decide_eq_true c50;clear c50;exact absurd H (by simp))
               ·rw [if_neg c50] at H;have c50b0 : decide (((rd_T39 t675 x13_3).f1.f2) < 1) = false:=decide_eq_false c50;clear c50;by_cases c51 : ((rd_T39 t675 x13_3).f1.f0) > a0_1
                (rw [if_pos c51] at H;have c51b0 : decide (a0_1 < ((rd_T39 t675 x13_3).f1.f0)) = true:=decide_eq_true c51;clear c51;exact absurd H (by simp))
                ·rw [if_neg c51] at H;have c51b0 : decide (a0_1 < ((rd_T39 t675 x13_3).f1.f0)) = false:=decide_eq_false c51;clear c51;by_cases c52 : ((rd_T39 t675 x13_3).f1.f1) > a0_2
                 (rw [if_pos c52] at H;have c52b0 : decide (a0_2 < ((rd_T39 t675 x13_3).f1.f1)) = true:=decide_eq_true c52;clear c52;exact absurd H (by simp))
                 ·rw [if_neg c52] at H;have c52b0 : decide (a0_2 < ((rd_T39 t675 x13_3).f1.f1)) = false:=decide_eq_false c52;clear c52;by_cases c53 : ((rd_T39 t675 x13_3).f1.f2) > a0_3
                  (rw [if_pos c53] at H;have c53b0 : decide (a0_3 < ((rd_T39 t675 x13_3).f1.f2)) = true:=decide_eq_true c53;clear c53;exact absurd H (by simp))
                  ·rw [if_neg c53] at H;have c53b0 : decide (a0_3 < ((rd_T39 t675 x13_3).f1.f2)) = false:=decide_eq_false c53;clear c53;by_cases c54 : ((rd_T39 t675 x13_3).f2) = a0_4
                   ·rw [if_pos c54] at H;have c54b0 : (((rd_T39 t675 x13_3).f2) == a0_4) = true:=beq_iff_eq.mpr c54;have c54b1 : (((rd_T39 t675 x13_3).f2) != a0_4) = false:=bne_eq_false_iff_eq.mpr c54;clear c54;by_cases c55 : ((rd_T39 t675 x13_3).f3).toList = a0_5.toList
                    ·rw [if_pos c55] at H;have c55b0 : (((rd_T39 t675 x13_3).f3).toList == a0_5.toList) = true:=beq_iff_eq.mpr c55;have c55b1 : (((rd_T39 t675 x13_3).f3).toList != a0_5.toList) = false:=bne_eq_false_iff_eq.mpr c55;clear c55;by_cases c56 : ((rd_T39 t675 x13_3).f4).toList = a0_6.toList
                     ·rw [if_pos c56] at H;have c56b0 : (((rd_T39 t675 x13_3).f4).toList == a0_6.toList) = true:=beq_iff_eq.mpr c56;have c56b1 : (((rd_T39 t675 x13_3).f4).toList != a0_6.toList) = false:=bne_eq_false_iff_eq.mpr c56;clear c56;have H':=am H;clear H;obtain ⟨Ao57,co57,eo57⟩ := Kd.R_slice HO_10.out;subst eo57;have p679 : 0 ≤ (x13_3 : Int):=dt;have q679 : x13_3 < (t675.length : Int):=dt;obtain ⟨ad679,e679,hx679_0,hx679_1,hx679_2,hx679_3,hx679_4,hx679_5,hx679_6⟩ := at_T39 (Kd.R_reads' HO_10.out).2.2 x13_3 p679 q679
                      cases e679
                      replace p679:=eq_true p679;replace q679:=eq_true q679
                      try go_wp2_with (first|((with_reducible refine gate_dst (N:=14) rfl ?_);(try (refine gate_guard (by rfl) ?_;dsimp only));refine be 14 24 (cs:=#[.int .i64 0,.int .i64 0,.int .i64 0]) ?_;intro gb680 hg w58 hbox hb;have BK680:=am hbox;have GW680:=bza HB hg;have GE680:=bza HB hg;have NB647_680:=bla BK647 hg;have NB680_647:=bga BK647 hg;have NB648_680:=bla BK648 hg;have NB680_648:=bga BK648 hg;replace HO_10:=rba HO_10 hb;replace BK647:=bba BK647 hb;replace BK648:=bba BK648 hb;replace HB:=bsa HB hb;clear hb hbox hg;have hnb59:=NB680_647.out;have hnc59:=NB647_680.out;have hnb60:=NB680_648.out;have hnc60:=NB648_680.out;obtain ⟨hcz61_0,hcz61_1,hcz61_2,hfz61_0,hfz61_1,hfz61_2⟩ := c3_ BK680.out))
                      have n0_ : Aside0 (Kd.R k39 39 (((w58.setCell ⟨gb680,0,none⟩ (.int .i64 ((rd_T39 t675 x13_3).f1.f0))).setCell ⟨gb680,1,none⟩ (.int .i64 ((rd_T39 t675 x13_3).f1.f1))).setCell ⟨gb680,2,none⟩ (.int .i64 ((rd_T39 t675 x13_3).f1.f2))) w.heap.size (fun k_=>k_ ≠ gb647) (.slice (some ad679) t675.length co57) t675):=⟨by (with_reducible repeat (first|apply rA|apply rN|apply rD));exact Kd.R_mono (Kd.R_far (p:=⟨gb680,2,none⟩) (Kd.R_far (p:=⟨gb680,1,none⟩) (Kd.R_far (p:=⟨gb680,0,none⟩) (Kd.R_types HO_10.out BK680.out (by decide)) (fun _ hk=>hk.2) (.int .i64 ((rd_T39 t675 x13_3).f1.f0))) (fun _ hk=>hk.2) (.int .i64 ((rd_T39 t675 x13_3).f1.f1))) (fun _ hk=>hk.2) (.int .i64 ((rd_T39 t675 x13_3).f1.f2))) (fun _ hk=>hk.1)⟩
                      have n1_ : Aside0 ((((w58.setCell ⟨gb680,0,none⟩ (.int .i64 ((rd_T39 t675 x13_3).f1.f0))).setCell ⟨gb680,1,none⟩ (.int .i64 ((rd_T39 t675 x13_3).f1.f1))).setCell ⟨gb680,2,none⟩ (.int .i64 ((rd_T39 t675 x13_3).f1.f2))).heap[gb647]? = some (.cells #[.string a0_0,.int .i64 a0_1,.int .i64 a0_2,.int .i64 a0_3,.int .i64 a0_4,.string a0_5,.string a0_6] 39 (0,0))):=⟨by refine bf ?_ NB647_680;refine bf ?_ NB647_680;refine bf ?_ NB647_680;exact bq BK647.out⟩
                      have n2_ : Aside0 ((((w58.setCell ⟨gb680,0,none⟩ (.int .i64 ((rd_T39 t675 x13_3).f1.f0))).setCell ⟨gb680,1,none⟩ (.int .i64 ((rd_T39 t675 x13_3).f1.f1))).setCell ⟨gb680,2,none⟩ (.int .i64 ((rd_T39 t675 x13_3).f1.f2))).heap[gb648]? = some (.cells #[.string a1_0,.int .i64 a1_1,.int .i64 a1_2,.int .i64 a1_3,.int .i64 a1_4,.string a1_5,.bool a1_6] 26 (0,0))):=⟨by refine bf ?_ NB648_680;refine bf ?_ NB648_680;refine bf ?_ NB648_680;exact bq BK648.out⟩
                      have n3_ : Aside0 ((((w58.setCell ⟨gb680,0,none⟩ (.int .i64 ((rd_T39 t675 x13_3).f1.f0))).setCell ⟨gb680,1,none⟩ (.int .i64 ((rd_T39 t675 x13_3).f1.f1))).setCell ⟨gb680,2,none⟩ (.int .i64 ((rd_T39 t675 x13_3).f1.f2))).heap[gb680]? = some (.cells #[.int .i64 ((rd_T39 t675 x13_3).f1.f0),.int .i64 ((rd_T39 t675 x13_3).f1.f1),.int .i64 ((rd_T39 t675 x13_3).f1.f2)] 24 (0,0))):=⟨by refine bp (cs:=#[.int .i64 ((rd_T39 t675 x13_3).f1.f0),.int .i64 ((rd_T39 t675 x13_3).f1.f1),.int .i64 0]) ?_ 2;refine bp (cs:=#[.int .i64 ((rd_T39 t675 x13_3).f1.f0),.int .i64 0,.int .i64 0]) ?_ 1;refine bp (cs:=#[.int .i64 0,.int .i64 0,.int .i64 0]) ?_ 0;exact bq BK680.out⟩
                      have n4_ : Aside0 (Below w.heap.size w (((w58.setCell ⟨gb680,0,none⟩ (.int .i64 ((rd_T39 t675 x13_3).f1.f0))).setCell ⟨gb680,1,none⟩ (.int .i64 ((rd_T39 t675 x13_3).f1.f1))).setCell ⟨gb680,2,none⟩ (.int .i64 ((rd_T39 t675 x13_3).f1.f2)))):=⟨by repeat (first|(with_reducible first|exact HB.out|apply lA|apply lN|apply lD|refine lS ?_ GE647.out|refine lS ?_ GE648.out|refine lS ?_ GE680.out)|exact HB.out)⟩
                      (try clear HO_10);(try clear BK647);(try clear BK648);(try clear BK680);(try clear HB);generalize (((w58.setCell ⟨gb680,0,none⟩ (.int .i64 ((rd_T39 t675 x13_3).f1.f0))).setCell ⟨gb680,1,none⟩ (.int .i64 ((rd_T39 t675 x13_3).f1.f1))).setCell ⟨gb680,2,none⟩ (.int .i64 ((rd_T39 t675 x13_3).f1.f2))) = w62 at n0_ n1_ n2_ n3_ n4_ ⊢;have HO_10:=n0_;have BK647:=n1_;have BK648:=n2_;have BK680:=n3_;have HB:=n4_;clear n0_ n1_ n2_ n3_ n4_;replace HO_10:=am (Kd.R_drew HO_10.out);replace BK647:=bda BK647;replace BK648:=bda BK648;replace BK680:=bda BK680;replace HB:=hda HB;have p681 : 0 ≤ (x13_3 : Int):=dt;have q681 : x13_3 < (t675.length : Int):=dt;obtain ⟨ad681,e681,hx681_0,hx681_1,hx681_2,hx681_3,hx681_4,hx681_5,hx681_6⟩ := at_T39 (Kd.R_reads' HO_10.out).2.2 x13_3 p681 q681
                      obtain rfl : ad679 = ad681:=(by injection e681)
                      replace p681:=eq_true p681;replace q681:=eq_true q681;have p682 : 0 ≤ (x13_3 : Int):=dt;have q682 : x13_3 < (t675.length : Int):=dt;obtain ⟨ad682,e682,hx682_0,hx682_1,hx682_2,hx682_3,hx682_4,hx682_5,hx682_6⟩ := at_T39 (Kd.R_reads' HO_10.out).2.2 x13_3 p682 q682
                      obtain rfl : ad679 = ad682:=(by injection e682)
                      replace p682:=eq_true p682;replace q682:=eq_true q682;have p683 : 0 ≤ (x13_3 : Int):=dt;have q683 : x13_3 < (t675.length : Int):=dt;obtain ⟨ad683,e683,hx683_0,hx683_1,hx683_2,hx683_3,hx683_4,hx683_5,hx683_6⟩ := at_T39 (Kd.R_reads' HO_10.out).2.2 x13_3 p683 q683
                      obtain rfl : ad679 = ad683:=(by injection e683)
                      replace p683:=eq_true p683;replace q683:=eq_true q683
                      refine start_ (n:=67) (S:=fun w'=>w'.cell? ⟨gb680,0,none⟩ = some (.int .i64 ((rd_T39 t675 x13_3).f1.f0)) ∧ w'.cell? ⟨gb680,1,none⟩ = some (.int .i64 ((rd_T39 t675 x13_3).f1.f1)) ∧ w'.cell? ⟨gb680,2,none⟩ = some (.int .i64 ((rd_T39 t675 x13_3).f1.f2)) ∧ w'.cell? ⟨gb647,0,none⟩ = some (.string a0_0) ∧ w'.cell? ⟨gb647,1,none⟩ = some (.int .i64 a0_1) ∧ w'.cell? ⟨gb647,2,none⟩ = some (.int .i64 a0_2) ∧ w'.cell? ⟨gb647,3,none⟩ = some (.int .i64 a0_3) ∧ w'.cell? ⟨gb647,4,none⟩ = some (.int .i64 a0_4) ∧ w'.cell? ⟨gb647,5,none⟩ = some (.string a0_5) ∧ w'.cell? ⟨gb647,6,none⟩ = some (.string a0_6) ∧ w'.cell? (ad679.add ((x13_3).toNat * 7)) = some (.string ((rd_T39 t675 x13_3).f0)) ∧ w'.cell? ⟨(ad679.add ((x13_3).toNat * 7)).block,(ad679.add ((x13_3).toNat * 7)).off + 1,none⟩ = some (.int .i64 ((rd_T39 t675 x13_3).f1.f0)) ∧ w'.cell? ⟨(ad679.add ((x13_3).toNat * 7)).block,(ad679.add ((x13_3).toNat * 7)).off + 2,none⟩ = some (.int .i64 ((rd_T39 t675 x13_3).f1.f1)) ∧ w'.cell? ⟨(ad679.add ((x13_3).toNat * 7)).block,(ad679.add ((x13_3).toNat * 7)).off + 3,none⟩ = some (.int .i64 ((rd_T39 t675 x13_3).f1.f2)) ∧ w'.cell? ⟨(ad679.add ((x13_3).toNat * 7)).block,(ad679.add ((x13_3).toNat * 7)).off + 4,none⟩ = some (.int .i64 ((rd_T39 t675 x13_3).f2)) ∧ w'.cell? ⟨(ad679.add ((x13_3).toNat * 7)).block,(ad679.add ((x13_3).toNat * 7)).off + 5,none⟩ = some (.string ((rd_T39 t675 x13_3).f3)) ∧ w'.cell? ⟨(ad679.add ((x13_3).toNat * 7)).block,(ad679.add ((x13_3).toNat * 7)).off + 6,none⟩ = some (.string ((rd_T39 t675 x13_3).f4)) ∧ w'.cell? (ad679.add ((x13_3).toNat * 7)) = some (.string ((rd_T39 t675 x13_3).f0)) ∧ w'.cell? ⟨(ad679.add ((x13_3).toNat * 7)).block,(ad679.add ((x13_3).toNat * 7)).off + 1,none⟩ = some (.int .i64 ((rd_T39 t675 x13_3).f1.f0)) ∧ w'.cell? ⟨(ad679.add ((x13_3).toNat * 7)).block,(ad679.add ((x13_3).toNat * 7)).off + 2,none⟩ = some (.int .i64 ((rd_T39 t675 x13_3).f1.f1)) ∧ w'.cell? ⟨(ad679.add ((x13_3).toNat * 7)).block,(ad679.add ((x13_3).toNat * 7)).off + 3,none⟩ = some (.int .i64 ((rd_T39 t675 x13_3).f1.f2)) ∧ w'.cell? ⟨(ad679.add ((x13_3).toNat * 7)).block,(ad679.add ((x13_3).toNat * 7)).off + 4,none⟩ = some (.int .i64 ((rd_T39 t675 x13_3).f2)) ∧ w'.cell? ⟨(ad679.add ((x13_3).toNat * 7)).block,(ad679.add ((x13_3).toNat * 7)).off + 5,none⟩ = some (.string ((rd_T39 t675 x13_3).f3)) ∧ w'.cell? ⟨(ad679.add ((x13_3).toNat * 7)).block,(ad679.add ((x13_3).toNat * 7)).off + 6,none⟩ = some (.string ((rd_T39 t675 x13_3).f4)) ∧ w'.cell? (ad679.add ((x13_3).toNat * 7)) = some (.string ((rd_T39 t675 x13_3).f0)) ∧ w'.cell? ⟨(ad679.add ((x13_3).toNat * 7)).block,(ad679.add ((x13_3).toNat * 7)).off + 1,none⟩ = some (.int .i64 ((rd_T39 t675 x13_3).f1.f0)) ∧ w'.cell? ⟨(ad679.add ((x13_3).toNat * 7)).block,(ad679.add ((x13_3).toNat * 7)).off + 2,none⟩ = some (.int .i64 ((rd_T39 t675 x13_3).f1.f1)) ∧ w'.cell? ⟨(ad679.add ((x13_3).toNat * 7)).block,(ad679.add ((x13_3).toNat * 7)).off + 3,none⟩ = some (.int .i64 ((rd_T39 t675 x13_3).f1.f2)) ∧ w'.cell? ⟨(ad679.add ((x13_3).toNat * 7)).block,(ad679.add ((x13_3).toNat * 7)).off + 4,none⟩ = some (.int .i64 ((rd_T39 t675 x13_3).f2)) ∧ w'.cell? ⟨(ad679.add ((x13_3).toNat * 7)).block,(ad679.add ((x13_3).toNat * 7)).off + 5,none⟩ = some (.string ((rd_T39 t675 x13_3).f3)) ∧ w'.cell? ⟨(ad679.add ((x13_3).toNat * 7)).block,(ad679.add ((x13_3).toNat * 7)).off + 6,none⟩ = some (.string ((rd_T39 t675 x13_3).f4))) (ds:=[]) #[f_,f_,f_,f_,f_,f_,f_,f_,f_,f_,f_,f_,f_,f_,f_,f_,f_,f_,f_,f_,f_,f_,f_,f_,f_,f_,f_,f_,f_,f_,f_,f_,f_,f_,f_,f_,f_,f_,f_,f_,f_,f_,f_,f_,f_,f_,f_,f_,f_,f_,f_,f_,f_,f_,f_,f_,f_,f_,f_,f_,f_,f_,f_,f_,f_,f_,f_] (by kernel_rfl) rfl rfl ⟨(blk_cell BK680.out 0).trans rfl,(blk_cell BK680.out 1).trans rfl,(blk_cell BK680.out 2).trans rfl,(blk_cell BK647.out 0).trans rfl,(blk_cell BK647.out 1).trans rfl,(blk_cell BK647.out 2).trans rfl,(blk_cell BK647.out 3).trans rfl,(blk_cell BK647.out 4).trans rfl,(blk_cell BK647.out 5).trans rfl,(blk_cell BK647.out 6).trans rfl,hx681_0,hx681_1,hx681_2,hx681_3,hx681_4,hx681_5,hx681_6,hx682_0,hx682_1,hx682_2,hx682_3,hx682_4,hx682_5,hx682_6,hx683_0,hx683_1,hx683_2,hx683_3,hx683_4,hx683_5,hx683_6⟩ (fun hHeld=>?_);refine with_tabW gangsawlaw31_OffcutRests.tab16 gangsawlaw31_OffcutRests.bits16 (fun HT_ HW_=>?_)
                      generalize w62.drew = w63 at HO_10 BK647 BK648 BK680 HB hx681_0 hx681_1 hx681_2 hx681_3 hx681_4 hx681_5 hx681_6 hx682_0 hx682_1 hx682_2 hx682_3 hx682_4 hx682_5 hx682_6 hx683_0 hx683_1 hx683_2 hx683_3 hx683_4 hx683_5 hx683_6 hHeld ⊢
                      refine pu_ HT_ 0 89 (mk_ 67 1) ?_
                      refine ta31_ HT_ HW_ 1 90 (mk_ 67 3) hHeld ?_
                      refine pu_ HT_ 2 91 (mk_ 67 7) ?_
                      refine pu_ HT_ 3 92 (mk_ 67 15) ?_
                      refine pu_ HT_ 4 93 (mk_ 67 31) ?_
                      refine ta31_ HT_ HW_ 5 94 (mk_ 67 63) hHeld ?_
                      refine pu_ HT_ 6 95 (mk_ 67 127) ?_
                      refine pu_ HT_ 7 96 (mk_ 67 255) ?_
                      refine pu_ HT_ 8 97 (mk_ 67 511) ?_
                      refine pu_ HT_ 9 98 (mk_ 67 1023) ?_
                      refine ta31_ HT_ HW_ 10 99 (mk_ 67 2047) hHeld ?_
                      refine pu_ HT_ 11 100 (mk_ 67 4095) ?_
                      refine pu_ HT_ 12 101 (mk_ 67 8191) ?_
                      refine pu_ HT_ 13 102 (mk_ 67 16383) ?_
                      refine pu_ HT_ 14 103 (mk_ 67 32767) ?_
                      refine pu_ HT_ 16 105 (mk_ 67 98303) ?_
                      refine pu_ HT_ 17 106 (mk_ 67 229375) ?_
                      refine ta31_ HT_ HW_ 15 104 (mk_ 67 262143) hHeld ?_
                      refine ta31_ HT_ HW_ 18 107 (mk_ 67 524287) hHeld ?_
                      refine pu_ HT_ 19 108 (mk_ 67 1048575) ?_
                      refine pu_ HT_ 20 109 (mk_ 67 2097151) ?_
                      refine pu_ HT_ 21 110 (mk_ 67 4194303) ?_
                      refine pu_ HT_ 22 111 (mk_ 67 8388607) ?_
                      refine pu_ HT_ 24 113 (mk_ 67 25165823) ?_
                      refine pu_ HT_ 25 114 (mk_ 67 58720255) ?_
                      refine ta31_ HT_ HW_ 23 112 (mk_ 67 67108863) hHeld ?_
                      refine ta31_ HT_ HW_ 26 115 (mk_ 67 134217727) hHeld ?_
                      refine pu_ HT_ 27 116 (mk_ 67 268435455) ?_
                      refine pu_ HT_ 28 117 (mk_ 67 536870911) ?_
                      refine pu_ HT_ 29 118 (mk_ 67 1073741823) ?_
                      refine pu_ HT_ 30 119 (mk_ 67 2147483647) ?_
                      refine pu_ HT_ 32 121 (mk_ 67 6442450943) ?_
                      refine pu_ HT_ 33 122 (mk_ 67 15032385535) ?_
                      refine ta31_ HT_ HW_ 31 120 (mk_ 67 17179869183) hHeld ?_
                      refine ta31_ HT_ HW_ 34 123 (mk_ 67 34359738367) hHeld ?_
                      refine pu_ HT_ 35 124 (mk_ 67 68719476735) ?_
                      refine pu_ HT_ 36 125 (mk_ 67 137438953471) ?_
                      refine pu_ HT_ 37 126 (mk_ 67 274877906943) ?_
                      refine pu_ HT_ 38 127 (mk_ 67 549755813887) ?_
                      refine pu_ HT_ 39 128 (mk_ 67 1099511627775) ?_
                      refine pu_ HT_ 40 129 (mk_ 67 2199023255551) ?_
                      refine pu_ HT_ 41 130 (mk_ 67 4398046511103) ?_
                      refine pu_ HT_ 43 132 (mk_ 67 13194139533311) ?_
                      refine ta31_ HT_ HW_ 42 131 (mk_ 67 17592186044415) hHeld ?_
                      refine ta31_ HT_ HW_ 44 133 (mk_ 67 35184372088831) hHeld ?_
                      refine pu_ HT_ 45 134 (mk_ 67 70368744177663) ?_
                      refine pu_ HT_ 46 135 (mk_ 67 140737488355327) ?_
                      refine pu_ HT_ 47 136 (mk_ 67 281474976710655) ?_
                      refine pu_ HT_ 48 137 (mk_ 67 562949953421311) ?_
                      refine pu_ HT_ 49 138 (mk_ 67 1125899906842623) ?_
                      refine pu_ HT_ 50 139 (mk_ 67 2251799813685247) ?_
                      refine pu_ HT_ 51 140 (mk_ 67 4503599627370495) ?_
                      refine pu_ HT_ 53 142 (mk_ 67 13510798882111487) ?_
                      refine ta31_ HT_ HW_ 52 141 (mk_ 67 18014398509481983) hHeld ?_
                      refine ta31_ HT_ HW_ 54 143 (mk_ 67 36028797018963967) hHeld ?_
                      refine pu_ HT_ 55 144 (mk_ 67 72057594037927935) ?_
                      refine pu_ HT_ 56 145 (mk_ 67 144115188075855871) ?_
                      refine pu_ HT_ 57 146 (mk_ 67 288230376151711743) ?_
                      refine pu_ HT_ 58 147 (mk_ 67 576460752303423487) ?_
                      refine pu_ HT_ 59 148 (mk_ 67 1152921504606846975) ?_
                      refine pu_ HT_ 60 149 (mk_ 67 2305843009213693951) ?_
                      refine pu_ HT_ 61 150 (mk_ 67 4611686018427387903) ?_
                      refine pu_ HT_ 63 152 (mk_ 67 13835058055282163711) ?_
                      refine ta31_ HT_ HW_ 62 151 (mk_ 67 18446744073709551615) hHeld ?_
                      refine ta31_ HT_ HW_ 64 153 (mk_ 67 36893488147419103231) hHeld ?_
                      refine pu_ HT_ 65 154 (mk_ 67 73786976294838206463) ?_
                      refine pu_ HT_ 66 155 (mk_ 67 147573952589676412927) ?_
                      refine done_ (done_of HT_.out (by kernel_rfl)) ?_
                      obtain ⟨hcz64_0,hcz64_1,hcz64_2,hfz64_0,hfz64_1,hfz64_2⟩ := c3_ BK680.out
                      try go_wp2
                      go_roundg k3
                      case measure=>have:=HJ5.out;have:=HJ31.out;have:=HK3.out;omega
                      case rel=>exact ⟨(wrap64 (x12_3 + (wrap64 ((wrap64 (((rd_T39 t675 x13_3).f1.f0) * ((rd_T39 t675 x13_3).f1.f1))) * ((rd_T39 t675 x13_3).f1.f2))))),(wrap64 (x13_3 + 1)),(by first|rfl|(simp;done)|(simp [*];done)),(by first|rfl|(simp;done)|(simp [*];done)),H',⟨by have:=HJ5.out;have:=HJ31.out;have:=HK3.out;omega⟩,⟨rq HO_10.out⟩,⟨bq BK647.out⟩,⟨bq BK648.out⟩,⟨by repeat (first|(with_reducible first|exact HB.out|apply lA|apply lN|apply lD|refine lS ?_ GE647.out|refine lS ?_ GE648.out|refine lS ?_ GE680.out)|exact HB.out)⟩⟩
                     (rw [if_neg c56] at H;exact absurd H (by simp))
                    (rw [if_neg c55] at H;have c55b0 : (((rd_T39 t675 x13_3).f3).toList == a0_5.toList) = false:=beq_eq_false_iff_ne.mpr c55;have c55b1 : (((rd_T39 t675 x13_3).f3).toList != a0_5.toList) = true:=bne_iff_ne.mpr c55;exact absurd H (by simp))
                   (rw [if_neg c54] at H;have c54b0 : (((rd_T39 t675 x13_3).f2) == a0_4) = false:=beq_eq_false_iff_ne.mpr c54;have c54b1 : (((rd_T39 t675 x13_3).f2) != a0_4) = true:=bne_iff_ne.mpr c54;exact absurd H (by simp))
            (rw [if_neg c47] at H;exact absurd H (by simp))
           ·rw [if_neg c46] at H;have c46b0 : decide (x13_3 < (t675.length : Int)) = false:=decide_eq_false c46;clear c46;by_cases c65 : (t675.length : Int) ≤ 3
            ·rw [if_pos c65] at H;have c65b0 : decide ((t675.length : Int) ≤ 3) = true:=decide_eq_true c65;have c65b1 : decide (t675.length ≤ 3) = true:=decide_eq_true (by omega);clear c65;by_cases c66 : x12_3 ≤ (wrap64 ((wrap64 (a0_1 * a0_2)) * a0_3))
             ·rw [if_pos c66] at H;have c66b0 : decide (x12_3 ≤ (wrap64 ((wrap64 (a0_1 * a0_2)) * a0_3))) = true:=decide_eq_true c66;clear c66;by_cases c67 : a2 > 0
              ·rw [if_pos c67] at H;have c67b0 : decide (0 < a2) = true:=decide_eq_true c67;clear c67;obtain rfl:=Option.some.inj H;obtain ⟨Ao68,co68,eo68⟩ := Kd.R_slice HO_10.out;subst eo68;have hnb69:=NB647_648.out;have hnc69:=NB648_647.out;obtain ⟨hcz70_0,hcz70_1,hcz70_2,hcz70_3,hcz70_4,hcz70_5,hcz70_6,hfz70_0,hfz70_1,hfz70_2,hfz70_3,hfz70_4,hfz70_5,hfz70_6⟩ := c7_ BK647.out
               go_wp2
               go_ret
               exact ⟨by first|rfl|(simp [errW_none,errW_some] <;> rfl)|(simp [*,errW_none,errW_some] <;> rfl),by repeat (first|(with_reducible first|exact HB.out|apply lA|apply lN|apply lD|refine lS ?_ GE647.out|refine lS ?_ GE648.out)|exact HB.out)⟩
              ·rw [if_neg c67] at H;have c67b0 : decide (0 < a2) = false:=decide_eq_false c67;clear c67;obtain rfl:=Option.some.inj H;obtain ⟨Ao71,co71,eo71⟩ := Kd.R_slice HO_10.out;subst eo71;have hnb72:=NB647_648.out;have hnc72:=NB648_647.out;obtain ⟨hcz73_0,hcz73_1,hcz73_2,hcz73_3,hcz73_4,hcz73_5,hcz73_6,hfz73_0,hfz73_1,hfz73_2,hfz73_3,hfz73_4,hfz73_5,hfz73_6⟩ := c7_ BK647.out
               go_wp2
               go_ret
               exact ⟨by first|rfl|(simp [errW_none,errW_some] <;> rfl)|(simp [*,errW_none,errW_some] <;> rfl),by repeat (first|(with_reducible first|exact HB.out|apply lA|apply lN|apply lD|refine lS ?_ GE647.out|refine lS ?_ GE648.out)|exact HB.out)⟩
             (rw [if_neg c66] at H;exact absurd H (by simp))
            (rw [if_neg c65] at H;exact absurd H (by simp))
        ·rw [if_neg c43] at H;have c43b0 : (t678 == 0) = false:=beq_eq_false_iff_ne.mpr c43;have c43b1 : (t678 != 0) = true:=bne_iff_ne.mpr c43;by_cases c74 : t678 = 4
         ·rw [if_pos c74] at H;have c74b0 : (t678 == 4) = true:=beq_iff_eq.mpr c74;have c74b1 : (t678 != 4) = false:=bne_eq_false_iff_eq.mpr c74;clear c74;obtain rfl:=Option.some.inj H;obtain ⟨Ao75,co75,eo75⟩ := Kd.R_slice HO_10.out;subst eo75
          go_wp2
          go_ret
          exact ⟨by first|rfl|(simp [errW_none,errW_some] <;> rfl)|(simp [*,errW_none,errW_some] <;> rfl),by repeat (first|(with_reducible first|exact HB.out|apply lA|apply lN|apply lD|refine lS ?_ GE647.out|refine lS ?_ GE648.out)|exact HB.out)⟩
         (rw [if_neg c74] at H;exact absurd H (by simp))
 ·replace c5:=Bool.eq_false_iff.mpr c5;subst c5
  have H1 : (none) = some r:=by rw [if_neg (show ¬ (false = true) by decide)] at H;exact H
  clear H;have H:=H1;clear H1;exact absurd H (by simp)
end Go.Proofs.Ytbggjmdelnmilaa.PA
