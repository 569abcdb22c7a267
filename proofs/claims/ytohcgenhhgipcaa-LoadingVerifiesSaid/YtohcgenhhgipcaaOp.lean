import Derived.Test.YtohcgenhhgipcaaPAx0
import Derived.Deep.Slices
import Derived.ChangeArms
import Derived.OpenShut
namespace Go.Proofs.Ytohcgenhhgipcaa.PA
open Go.RowKit Go.ChangeShapes Go.WideShapes Go.Deep Go.Proofs.YtohcgenhhgipcaaW.PrintWords Go.Proofs.YtohcgenhhgipcaaW.PrintLast Go.Proofs.YtohcgenhhgipcaaW.PrintMore
set_option linter.unusedVariables false
set_option linter.unusedSimpArgs false
/-! What a reading of an argument says of its cells,kind by kind -/
def Rng (n : Int) : Prop:=(Lit.int .i64 n).wf = true
section
variable {H : Type} {enc : TypeId × Value → H} {W : World} {base : Nat} {spare : Nat → Bool} {held : Bool}
theorem cells_len {o : Nat} {a : Addr} {n : Nat} {cs : List Value} (h : W.cells? o a n = some cs) : cs.length = n ∧ ∀ i u,cs[i]? = some u → W.cell? (a.add i) = some u:=by
 obtain ⟨_,hl,hat⟩ := World.cells?_some h
 refine ⟨hl,fun i u hu=>?_⟩
 have hi:=(List.getElem?_eq_some_iff.1 hu).1;rw [hat i (by omega)];exact hu
/-- A slice of elements,each opened. -/
theorem openC {α : Type} (d : Kd α) (Good : α → Prop) {t e : TypeId} (ht : Try.prog.underlying t = some (.slice e)) (hC : Try.prog.cellsOf e = d.sz)
  (ho : ∀ fuel cs x,cs.length = d.sz → DataW.trod enc Try.prog W base spare held fuel e cs = some x → ∃ a,d.K W a cs ∧ Good a)
  {fuel : Nat} {A : Option Addr} {len cap : Nat} {x : DataW H × List MemPlace} (h : DataW.trod enc Try.prog W base spare held fuel t [.slice A len cap] = some x) :
  ∃ l : List α,d.C W A l.length l ∧ l.length = len ∧ len ≤ cap ∧ cap ≤ maxLen ∧ ∀ a ∈ l,Good a:=by
 rcases open_slice ht h with ⟨h0,_⟩|⟨a,len',cap',m,n,D,Pl,hcs,hb,hl,hm,hmm,_,hi⟩
 (simp only [List.cons.injEq,Value.slice.injEq,and_true] at h0;obtain ⟨rfl,rfl,rfl⟩ := h0;exact ⟨[],⟨rfl,by simp,fun h=>absurd h (by simp)⟩,rfl,Nat.le_refl _,by simp,fun a ha=>by simp at ha⟩)
 ·simp only [List.cons.injEq,Value.slice.injEq,and_true] at hcs;obtain ⟨rfl,rfl,rfl⟩ := hcs
  have key : ∀ i,i < len → ∃ p : α,Good p ∧ ∃ c,c.length = d.sz ∧ d.K W p c ∧ ∀ j u,c[j]? = some u → W.cell? (a.add (i * d.sz + j)) = some u:=by
   intro i hlt;obtain ⟨cs',hc,ht'⟩ := hi i (by rw [hmm];split <;> omega);rw [hC] at hc;obtain ⟨hlen,hcell⟩ := cells_len hc;obtain ⟨p,hK,hG⟩ := ho n cs' _ hlen ht';exact ⟨p,hG,cs',hlen,hK,fun j u hu=>by rw [← Deep.add_add];exact hcell j u hu⟩
  have key2 : ∃ l : List α,l.length = len ∧ ∀ i p,l[i]? = some p → Good p ∧ ∃ c,c.length = d.sz ∧ d.K W p c ∧ ∀ j u,c[j]? = some u → W.cell? (a.add (i * d.sz + j)) = some u:=by
   clear hi h hmm
   have : ∀ n,n ≤ len → ∃ l : List α,l.length = n ∧ ∀ i p,l[i]? = some p → Good p ∧ ∃ c,c.length = d.sz ∧ d.K W p c ∧ ∀ j u,c[j]? = some u → W.cell? (a.add (i * d.sz + j)) = some u:=by
    intro n
    induction n with
    | zero=>exact fun _=>⟨[],rfl,fun i p hp=>by simp at hp⟩
    | succ n ih =>
     intro hn;obtain ⟨l,hl1,hl2⟩ := ih (by omega);obtain ⟨p,hp⟩ := key n (by omega)
     refine ⟨l ++ [p],by simp [hl1],fun i q hq=>?_⟩
     by_cases hlt : i < l.length
     (rw [List.getElem?_append_left hlt] at hq;exact hl2 i q hq)
     ·have hi : i = n := by
       have:=(List.getElem?_eq_some_iff.1 hq).1
       simp at this;omega
      subst hi;rw [List.getElem?_append_right (by omega)] at hq
      have : p = q:=by simpa [hl1] using hq
      subst this;exact hp
   exact this len (Nat.le_refl _)
  obtain ⟨l,hl1,hl2⟩ := key2
  refine ⟨l,⟨rfl,by have : maxLen = 9223372036854775807:=rfl;omega,fun _=>⟨a,rfl,fun j p hp=>(hl2 j p hp).2⟩⟩,hl1,hl,hm,fun p hp=>?_⟩
  obtain ⟨i,hi,rfl⟩ := List.getElem_of_mem hp;exact (hl2 i _ (List.getElem?_eq_getElem hi)).1
theorem fld {fs : Array Field} {xs : List (DataW H × List MemPlace)} {n : Nat} {cs : List Value} (hf : ∀ (i : Nat) (f : Field), fs[i]? = some f → DataW.trod enc Try.prog W base spare held n f.type ((cs.drop f.offset).take (Try.prog.cellsOf f.type)) = xs[i]?)
  (i : Nat) (f : Field) (hi : fs[i]? = some f) (t o k : Nat) (ht : f.type = t) (ho : f.offset = o) (hk : Try.prog.cellsOf t = k) (hx : i < xs.length) : DataW.trod enc Try.prog W base spare held n t ((cs.drop o).take k) = some xs[i] := by
 subst ht ho hk;rw [hf i f hi,List.getElem?_eq_getElem hx]
set_option maxRecDepth 100000 in
theorem open65 (fuel : Nat) (cs : List Value) (x : DataW H × List MemPlace) (hl : cs.length = 3) (h : DataW.trod enc Try.prog W base spare held fuel 65 cs = some x) : ∃ p : S65,k65.K W p cs ∧ p.f0.size ≤ maxLen ∧ Rng p.f1 ∧ Rng p.f2:=by
 obtain ⟨xs,n,_,_,_,hx,hf⟩ := DataW.trod_struct Try.underlying65 h
 match cs,hl with
 | [c0,c1,c2],_ =>
  have hx' : xs.length = 3:=hx
  have hc2 : Try.prog.cellsOf 2 = 1:=by kernel_rfl
  have hc3 : Try.prog.cellsOf 3 = 1:=by kernel_rfl
  have hc9 : Try.prog.cellsOf 9 = 1:=by kernel_rfl
  obtain ⟨n0,e0,_,r0⟩ := DataW.trod_string Try.underlying9 (fld hf 0 _ rfl 9 0 1 rfl rfl hc9 (by omega));obtain ⟨n1,e1,_,r1⟩ := DataW.trod_int Try.underlying3 (fld hf 1 _ rfl 3 1 1 rfl rfl hc3 (by omega));obtain ⟨n2,e2,_,r2⟩ := DataW.trod_int Try.underlying2 (fld hf 2 _ rfl 2 2 1 rfl rfl hc2 (by omega))
  simp at e0 e1 e2
  subst e0 e1 e2;exact ⟨⟨n0,n1,n2⟩,k65_mk W _,r0,r1,r2⟩
set_option maxRecDepth 100000 in
theorem open61 (fuel : Nat) (cs : List Value) (x : DataW H × List MemPlace) (hl : cs.length = 4) (h : DataW.trod enc Try.prog W base spare held fuel 61 cs = some x) : ∃ p : S61,k61.K W p cs ∧ p.f0.size ≤ maxLen ∧ Rng p.f1 ∧ Rng p.f2 ∧ Rng p.f3:=by
 obtain ⟨xs,n,_,_,_,hx,hf⟩ := DataW.trod_struct Try.underlying61 h
 match cs,hl with
 | [c0,c1,c2,c3],_ =>
  have hx' : xs.length = 4:=hx
  have hc2 : Try.prog.cellsOf 2 = 1:=by kernel_rfl
  have hc3 : Try.prog.cellsOf 3 = 1:=by kernel_rfl
  have hc9 : Try.prog.cellsOf 9 = 1:=by kernel_rfl
  obtain ⟨n0,e0,_,r0⟩ := DataW.trod_string Try.underlying9 (fld hf 0 _ rfl 9 0 1 rfl rfl hc9 (by omega));obtain ⟨n1,e1,_,r1⟩ := DataW.trod_int Try.underlying3 (fld hf 1 _ rfl 3 1 1 rfl rfl hc3 (by omega));obtain ⟨n2,e2,_,r2⟩ := DataW.trod_int Try.underlying3 (fld hf 2 _ rfl 3 2 1 rfl rfl hc3 (by omega));obtain ⟨n3,e3,_,r3⟩ := DataW.trod_int Try.underlying2 (fld hf 3 _ rfl 2 3 1 rfl rfl hc2 (by omega))
  simp at e0 e1 e2 e3
  subst e0 e1 e2 e3;exact ⟨⟨n0,n1,n2,n3⟩,k61_mk W _,r0,r1,r2,r3⟩
set_option maxRecDepth 100000 in
theorem open22 (fuel : Nat) (cs : List Value) (x : DataW H × List MemPlace) (hl : cs.length = 2) (h : DataW.trod enc Try.prog W base spare held fuel 22 cs = some x) : ∃ a b : Int,cs = [.int .i64 a,.int .i64 b] ∧ Rng a ∧ Rng b:=by
 obtain ⟨xs,n,_,_,_,hx,hf⟩ := DataW.trod_array Try.underlying22 h
 match cs,hl with
 | [c0,c1],_ =>
  have hc : Try.prog.cellsOf 2 = 1:=by kernel_rfl
  have h0:=hf 0 (by omega);have h1:=hf 1 (by omega);rw [hc,List.getElem?_eq_getElem (by omega)] at h0 h1;obtain ⟨n0,e0,_,r0⟩ := DataW.trod_int Try.underlying2 h0;obtain ⟨n1,e1,_,r1⟩ := DataW.trod_int Try.underlying2 h1
  simp at e0 e1
  subst e0 e1;exact ⟨n0,n1,rfl,r0,r1⟩
/-- a truck's numbers are whole numbers of 64 bits,its name no longer than a name can be -/
def TruckOk (s : ByteArray) (a b c d e f g : Int) : Prop:=s.size ≤ maxLen ∧ Rng a ∧ Rng b ∧ Rng c ∧ Rng d ∧ Rng e ∧ Rng f ∧ Rng g
set_option maxRecDepth 100000 in
theorem openT {b0 : Nat} {v : Value} {d : DataW H} {ps : List MemPlace} (hval : Value.okWide Try.prog W .any b0 24 v) (h : DataW.Trod enc Try.prog W base spare held 24 v d ps) :
  ∃ (s : ByteArray) (a1 a2 a3 a4 a5 a6 a7 : Int),v = .agg #[.string s,.int .i64 a1,.int .i64 a2,.int .i64 a3,.int .i64 a4,.int .i64 a5,.int .i64 a6,.int .i64 a7] ∧ TruckOk s a1 a2 a3 a4 a5 a6 a7:=by
 obtain ⟨cs,rfl,hs⟩ := okWide_struct Try.underlying24 hval
 have hs2 : cs.size = 8:=by rw [hs];kernel_rfl
 obtain ⟨fuel,hf⟩ := h;obtain ⟨xs,n,_,_,_,hx,hfl⟩ := DataW.trod_struct Try.underlying24 hf;have hx' : xs.length = 6:=hx
 obtain ⟨c0,c1,c2,c3,c4,c5,c6,c7,rfl⟩ : ∃ c0 c1 c2 c3 c4 c5 c6 c7,cs = #[c0,c1,c2,c3,c4,c5,c6,c7] := by
  obtain ⟨l,rfl⟩ : ∃ l : List Value,cs = l.toArray:=⟨cs.toList,by simp⟩
  match l,hs2 with
  | [c0,c1,c2,c3,c4,c5,c6,c7],_=>exact ⟨c0,c1,c2,c3,c4,c5,c6,c7,rfl⟩
 have hc9 : Try.prog.cellsOf 9 = 1:=by kernel_rfl
 have hc3 : Try.prog.cellsOf 3 = 1:=by kernel_rfl
 have hc22 : Try.prog.cellsOf 22 = 2:=by kernel_rfl
 obtain ⟨s,e0,_,r0⟩ := DataW.trod_string Try.underlying9 (fld hfl 0 _ rfl 9 0 1 rfl rfl hc9 (by omega));obtain ⟨n1,e1,_,r1⟩ := DataW.trod_int Try.underlying3 (fld hfl 1 _ rfl 3 1 1 rfl rfl hc3 (by omega));obtain ⟨n2,e2,_,r2⟩ := DataW.trod_int Try.underlying3 (fld hfl 2 _ rfl 3 2 1 rfl rfl hc3 (by omega));obtain ⟨n3,e3,_,r3⟩ := DataW.trod_int Try.underlying3 (fld hfl 3 _ rfl 3 3 1 rfl rfl hc3 (by omega));obtain ⟨n4,n5,e4,r4,r5⟩ := open22 _ _ _ (by simp [Value.cells]) (fld hfl 4 _ rfl 22 4 2 rfl rfl hc22 (by omega));obtain ⟨n6,n7,e6,r6,r7⟩ := open22 _ _ _ (by simp [Value.cells]) (fld hfl 5 _ rfl 22 6 2 rfl rfl hc22 (by omega))
 simp [Value.cells] at e0 e1 e2 e3 e4 e6
 obtain ⟨rfl,rfl⟩ := e4;obtain ⟨rfl,rfl⟩ := e6;subst e0 e1 e2 e3;exact ⟨s,n1,n2,n3,n4,n5,n6,n7,rfl,r0,r1,r2,r3,r4,r5,r6,r7⟩
def LoadOk (p : S61) : Prop:=p.f0.size ≤ maxLen ∧ Rng p.f1 ∧ Rng p.f2 ∧ Rng p.f3
def CargoOk (p : S65) : Prop:=p.f0.size ≤ maxLen ∧ Rng p.f1 ∧ Rng p.f2
def TripOk (p : S47) : Prop:=p.f0.size ≤ maxLen ∧ p.f1.length ≤ maxLen ∧ ∀ q ∈ p.f1,LoadOk q
/-- a slice that is passed -/
theorem openSl {α : Type} (d : Kd α) (Good : α → Prop) {t e : TypeId} (ht : Try.prog.underlying t = some (.slice e)) (hC : Try.prog.cellsOf e = d.sz)
  (ho : ∀ fuel cs x,cs.length = d.sz → DataW.trod enc Try.prog W base spare held fuel e cs = some x → ∃ a,d.K W a cs ∧ Good a)
  {b0 : Nat} {v : Value} {dd : DataW H} {ps : List MemPlace} (hval : Value.okWide Try.prog W .any b0 t v) (h : DataW.Trod enc Try.prog W base spare held t v dd ps) :
  ∃ (A : Option Addr) (c : Nat) (l : List α),v = .slice A l.length c ∧ d.C W A l.length l ∧ l.length ≤ c ∧ c ≤ maxLen ∧ ∀ p ∈ l,Good p:=by
 obtain ⟨A,len,cap,rfl⟩ := okWide_slice ht hval;obtain ⟨fuel,hf⟩ := h;obtain ⟨l,g1,rfl,g3,g4,g5⟩ := openC d Good ht hC ho hf;exact ⟨A,cap,l,rfl,g1,g3,g4,g5⟩
theorem openCs {b0 : Nat} {v : Value} {d : DataW H} {ps : List MemPlace} (hval : Value.okWide Try.prog W .any b0 25 v) (h : DataW.Trod enc Try.prog W base spare held 25 v d ps) :
  ∃ (A : Option Addr) (c : Nat) (l : List S65),v = .slice A l.length c ∧ Kd.C k65 W A l.length l ∧ l.length ≤ c ∧ c ≤ maxLen ∧ ∀ p ∈ l,CargoOk p :=
 openSl k65 CargoOk Try.underlying25 (by kernel_rfl) open65 hval h
theorem openS {α : Type} (d : Kd α) (Good : α → Prop) {t e : TypeId} (ht : Try.prog.underlying t = some (.slice e)) (hC : Try.prog.cellsOf e = d.sz)
  (ho : ∀ fuel cs x,cs.length = d.sz → DataW.trod enc Try.prog W base spare held fuel e cs = some x → ∃ a,d.K W a cs ∧ Good a)
  (fuel : Nat) (cs : List Value) (x : DataW H × List MemPlace) (_ : cs.length = 1) (h : DataW.trod enc Try.prog W base spare held fuel t cs = some x) :
  ∃ (l : List α) (A : Option Addr) (c : Nat),cs = [.slice A l.length c] ∧ l.length ≤ c ∧ d.C W A l.length l ∧ (l.length ≤ maxLen ∧ ∀ a ∈ l,Good a):=by
 obtain ⟨A,len,cap,rfl⟩ : ∃ A len cap,cs = [.slice A len cap] := by
  rcases open_slice ht h with ⟨h0,_⟩|⟨a,len',cap',m,n,D,Pl,hcs,_⟩
  (exact ⟨_,_,_,h0⟩);(exact ⟨_,_,_,hcs⟩)
 obtain ⟨l,h1,h2,h3,h4,h5⟩ := openC d Good ht hC ho h;exact ⟨l,A,cap,by rw [h2],by omega,h1,by omega,h5⟩
set_option maxRecDepth 100000 in
theorem open47 (fuel : Nat) (cs : List Value) (x : DataW H × List MemPlace) (hl : cs.length = 2) (h : DataW.trod enc Try.prog W base spare held fuel 47 cs = some x) : ∃ p : S47,k47.K W p cs ∧ TripOk p:=by
 obtain ⟨xs,n,_,_,_,hx,hf⟩ := DataW.trod_struct Try.underlying47 h
 match cs,hl with
 | [c0,c1],_ =>
  have hx' : xs.length = 2:=hx
  have hc9 : Try.prog.cellsOf 9 = 1:=by kernel_rfl
  have hc45 : Try.prog.cellsOf 45 = 1:=by kernel_rfl
  obtain ⟨s,e0,_,r0⟩ := DataW.trod_string Try.underlying9 (fld hf 0 _ rfl 9 0 1 rfl rfl hc9 (by omega));obtain ⟨l,A,c,e1,hlc,hC,hm,hg⟩ := openS k61 LoadOk Try.underlying45 (by kernel_rfl) open61 _ _ _ (by rfl) (fld hf 1 _ rfl 45 1 1 rfl rfl hc45 (by omega))
  simp at e0 e1
  subst e0 e1;exact ⟨⟨s,l⟩,k47_mk W _ hlc hC,r0,hm,hg⟩
theorem openTs {b0 : Nat} {v : Value} {d : DataW H} {ps : List MemPlace} (hval : Value.okWide Try.prog W .any b0 40 v) (h : DataW.Trod enc Try.prog W base spare held 40 v d ps) :
  ∃ (A : Option Addr) (c : Nat) (l : List S47),v = .slice A l.length c ∧ Kd.C k47 W A l.length l ∧ l.length ≤ c ∧ c ≤ maxLen ∧ ∀ p ∈ l,TripOk p :=
 openSl k47 TripOk Try.underlying40 (by kernel_rfl) open47 hval h
end
end Go.Proofs.Ytohcgenhhgipcaa.PA
