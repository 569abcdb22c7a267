import Derived.Test.YtbggjmdelnmilaaPAx0
import Derived.Deep.Slices
import Derived.ChangeArms
import Derived.OpenShut
namespace Go.Proofs.Ytbggjmdelnmilaa.PA
open Go.RowKit Go.ChangeShapes Go.WideShapes Go.Deep Go.Proofs.YtbggjmdelnmilaaW.PrintWords Go.Proofs.YtbggjmdelnmilaaW.PrintLast Go.Proofs.YtbggjmdelnmilaaW.PrintMore
set_option linter.unusedVariables false
set_option linter.unusedSimpArgs false
def Rng (n : Int) : Prop:=(Lit.int .i64 n).wf = true
section
variable {H : Type} {enc : TypeId × Value → H} {W : World} {base : Nat} {spare : Nat → Bool} {held : Bool}
theorem cells_len {o : Nat} {a : Addr} {n : Nat} {cs : List Value} (h : W.cells? o a n = some cs) : cs.length = n ∧ ∀ i u,cs[i]? = some u → W.cell? (a.add i) = some u:=by
 obtain ⟨_,hl,hat⟩ := World.cells?_some h
 refine ⟨hl,fun i u hu=>?_⟩
 have hi:=(List.getElem?_eq_some_iff.1 hu).1;rw [hat i (by omega)];exact hu
theorem openC {α : Type} (d : Kd α) (Good : α → Prop) {t e : TypeId} (ht : Try.prog.underlying t = some (.slice e)) (hC : Try.prog.cellsOf e = d.sz)
  (ho : ∀ fuel cs x,cs.length = d.sz → DataW.trod enc Try.prog W base spare held fuel e cs = some x → ∃ a,d.K W a cs ∧ Good a)
  {fuel : Nat} {A : Option Addr} {len cap : Nat} {x : DataW H × List MemPlace} (h : DataW.trod enc Try.prog W base spare held fuel t [.slice A len cap] = some x) :
  ∃ l : List α,d.C W A l.length l ∧ l.length = len ∧ len ≤ cap ∧ cap ≤ maxLen ∧ ∀ a ∈ l,Good a:=by
 rcases open_slice ht h with ⟨h0,_⟩|⟨a,len',cap',m,n,D,Pl,hcs,hb,hl,hm,hmm,_,hi⟩
 (simp only [List.cons.injEq,Value.slice.injEq,and_true] at h0;obtain ⟨rfl,rfl,rfl⟩ := h0;exact ⟨[],⟨rfl,by simp,fun h=>absurd h (by simp)⟩,rfl,Nat.le_refl _,by simp,fun a ha=>by simp at ha⟩)
 ·simp only [List.cons.injEq,Value.slice.injEq,and_true] at hcs;obtain ⟨rfl,rfl,rfl⟩ := hcs
  have key : ∀ i,i < len → ∃ p : α,Good p ∧ ∃ c,c.length = d.sz ∧ d.K W p c ∧ ∀ j u,c[j]? = some u → W.cell? (a.add (i * d.sz + j)) = some u:=by
   intro i hlt;obtain ⟨cs',hc,ht'⟩ := hi i (by rw [hmm];split <;> omega);rw [hC] at hc;obtain ⟨hlen,hcell⟩ := cells_len hc;obtain ⟨p,hK,hG⟩ := ho n cs' _ hlen ht';exact ⟨p,hG,cs',hlen,hK,fun j u hu=>by rw [← Deep.add_add];exact hcell j u hu⟩
  have key2 : ∃ l : List α,l.length = len ∧ ∀ i p,l[i]? = some p → Good p ∧ ∃ c,c.length = d.sz ∧ d.K W p c ∧ ∀ j u,c[j]? = some u → W.cell? (a.add (i * d.sz + j)) = some u:=by
   clear hi h hmm
   have : ∀ n,n ≤ len → ∃ l : List α,l.length = n ∧ ∀ i p,l[i]? = some p → Good p ∧ ∃ c,c.length = d.sz ∧ d.K W p c ∧ ∀ j u,c[j]? = some u → W.cell? (a.add (i * d.sz + j)) = some u:=by
    intro n
    induction n with
    | zero=>exact fun _=>⟨[],rfl,fun i p hp=>by simp at hp⟩
    | succ n ih =>
     intro hn;obtain ⟨l,hl1,hl2⟩ := ih (by omega);obtain ⟨p,hp⟩ := key n (by omega)
     refine ⟨l ++ [p],by simp [hl1],fun i q hq=>?_⟩
     by_cases hlt : i < l.length
     (rw [List.getElem?_append_left hlt] at hq;exact hl2 i q hq)
     ·have hi : i = n := by
       have:=(List.getElem?_eq_some_iff.1 hq).1
       simp at this;omega
      subst hi;rw [List.getElem?_append_right (by omega)] at hq
      have : p = q:=by simpa [hl1] using hq
      subst this;exact hp
   exact this len (Nat.le_refl _)
  obtain ⟨l,hl1,hl2⟩ := key2
  refine ⟨l,⟨rfl,by have : maxLen = 9223372036854775807:=rfl;omega,fun _=>⟨a,rfl,fun j p hp=>(hl2 j p hp).2⟩⟩,hl1,hl,hm,fun p hp=>?_⟩
  obtain ⟨i,hi,rfl⟩ := List.getElem_of_mem hp;exact (hl2 i _ (List.getElem?_eq_getElem hi)).1
theorem fld {fs : Array Field} {xs : List (DataW H × List MemPlace)} {n : Nat} {cs : List Value} (hf : ∀ (i : Nat) (f : Field), fs[i]? = some f → DataW.trod enc Try.prog W base spare held n f.type ((cs.drop f.offset).take (Try.prog.cellsOf f.type)) = xs[i]?)
  (i : Nat) (f : Field) (hi : fs[i]? = some f) (t o k : Nat) (ht : f.type = t) (ho : f.offset = o) (hk : Try.prog.cellsOf t = k) (hx : i < xs.length) : DataW.trod enc Try.prog W base spare held n t ((cs.drop o).take k) = some xs[i] := by
 subst ht ho hk;rw [hf i f hi,List.getElem?_eq_getElem hx]
set_option maxRecDepth 100000 in
theorem open24 (fuel : Nat) (cs : List Value) (x : DataW H × List MemPlace) (hl : cs.length = 3) (h : DataW.trod enc Try.prog W base spare held fuel 24 cs = some x) : ∃ a b c : Int,cs = [.int .i64 a,.int .i64 b,.int .i64 c] ∧ Rng a ∧ Rng b ∧ Rng c:=by
 obtain ⟨xs,n,_,_,_,hx,hf⟩ := DataW.trod_struct Try.underlying24 h
 match cs,hl with
 | [c0,c1,c2],_ =>
  have hx' : xs.length = 3:=hx
  have hc2 : Try.prog.cellsOf 3 = 1:=by kernel_rfl
  obtain ⟨n0,e0,_,r0⟩ := DataW.trod_int Try.underlying3 (fld hf 0 _ rfl 3 0 1 rfl rfl hc2 (by omega));obtain ⟨n1,e1,_,r1⟩ := DataW.trod_int Try.underlying3 (fld hf 1 _ rfl 3 1 1 rfl rfl hc2 (by omega));obtain ⟨n2,e2,_,r2⟩ := DataW.trod_int Try.underlying3 (fld hf 2 _ rfl 3 2 1 rfl rfl hc2 (by omega))
  simp at e0 e1 e2
  subst e0 e1 e2;exact ⟨n0,n1,n2,rfl,r0,r1,r2⟩
def RemOk (s0 : ByteArray) (a1 a2 a3 a4 : Int) (s5 s6 : ByteArray) : Prop:=s0.size ≤ maxLen ∧ Rng a1 ∧ Rng a2 ∧ Rng a3 ∧ Rng a4 ∧ s5.size ≤ maxLen ∧ s6.size ≤ maxLen
def WantOk (s0 : ByteArray) (a1 a2 a3 a4 : Int) (s5 : ByteArray) : Prop:=s0.size ≤ maxLen ∧ Rng a1 ∧ Rng a2 ∧ Rng a3 ∧ Rng a4 ∧ s5.size ≤ maxLen
set_option maxRecDepth 100000 in
theorem open39v (fuel : Nat) (cs : List Value) (x : DataW H × List MemPlace) (hl : cs.length = 7) (h : DataW.trod enc Try.prog W base spare held fuel 39 cs = some x) : ∃ (s0 : ByteArray) (a1 a2 a3 a4 : Int) (s5 s6 : ByteArray),cs = [.string s0,.int .i64 a1,.int .i64 a2,.int .i64 a3,.int .i64 a4,.string s5,.string s6] ∧ RemOk s0 a1 a2 a3 a4 s5 s6:=by
 obtain ⟨xs,n,_,_,_,hx,hf⟩ := DataW.trod_struct Try.underlying39 h
 match cs,hl with
 | [c0,c1,c2,c3,c4,c5,c6],_ =>
  have hx' : xs.length = 5:=hx
  have hc9 : Try.prog.cellsOf 9 = 1:=by kernel_rfl
  have hc2 : Try.prog.cellsOf 3 = 1:=by kernel_rfl
  have hc24 : Try.prog.cellsOf 24 = 3:=by kernel_rfl
  obtain ⟨s0,e0,_,r0⟩ := DataW.trod_string Try.underlying9 (fld hf 0 _ rfl 9 0 1 rfl rfl hc9 (by omega));obtain ⟨n1,n2,n3,e1,r1,r2,r3⟩ := open24 _ _ _ (by simp) (fld hf 1 _ rfl 24 1 3 rfl rfl hc24 (by omega));obtain ⟨n4,e4,_,r4⟩ := DataW.trod_int Try.underlying3 (fld hf 2 _ rfl 3 4 1 rfl rfl hc2 (by omega));obtain ⟨s5,e5,_,r5⟩ := DataW.trod_string Try.underlying9 (fld hf 3 _ rfl 9 5 1 rfl rfl hc9 (by omega));obtain ⟨s6,e6,_,r6⟩ := DataW.trod_string Try.underlying9 (fld hf 4 _ rfl 9 6 1 rfl rfl hc9 (by omega))
  simp at e0 e1 e4 e5 e6
  obtain ⟨rfl,rfl,rfl⟩ := e1;subst e0 e4 e5 e6;exact ⟨s0,n1,n2,n3,n4,s5,s6,rfl,r0,r1,r2,r3,r4,r5,r6⟩
set_option maxRecDepth 100000 in
theorem open26v (fuel : Nat) (cs : List Value) (x : DataW H × List MemPlace) (hl : cs.length = 7) (h : DataW.trod enc Try.prog W base spare held fuel 26 cs = some x) : ∃ (s0 : ByteArray) (a1 a2 a3 a4 : Int) (s5 : ByteArray) (b6 : Bool),cs = [.string s0,.int .i64 a1,.int .i64 a2,.int .i64 a3,.int .i64 a4,.string s5,.bool b6] ∧ WantOk s0 a1 a2 a3 a4 s5:=by
 obtain ⟨xs,n,_,_,_,hx,hf⟩ := DataW.trod_struct Try.underlying26 h
 match cs,hl with
 | [c0,c1,c2,c3,c4,c5,c6],_ =>
  have hx' : xs.length = 5:=hx
  have hc9 : Try.prog.cellsOf 9 = 1:=by kernel_rfl
  have hc2 : Try.prog.cellsOf 3 = 1:=by kernel_rfl
  have hc4 : Try.prog.cellsOf 4 = 1:=by kernel_rfl
  have hc24 : Try.prog.cellsOf 24 = 3:=by kernel_rfl
  obtain ⟨s0,e0,_,r0⟩ := DataW.trod_string Try.underlying9 (fld hf 0 _ rfl 9 0 1 rfl rfl hc9 (by omega));obtain ⟨n1,n2,n3,e1,r1,r2,r3⟩ := open24 _ _ _ (by simp) (fld hf 1 _ rfl 24 1 3 rfl rfl hc24 (by omega));obtain ⟨n4,e4,_,r4⟩ := DataW.trod_int Try.underlying3 (fld hf 2 _ rfl 3 4 1 rfl rfl hc2 (by omega));obtain ⟨s5,e5,_,r5⟩ := DataW.trod_string Try.underlying9 (fld hf 3 _ rfl 9 5 1 rfl rfl hc9 (by omega));obtain ⟨b6,e6,_⟩ := DataW.trod_bool Try.underlying4 (fld hf 4 _ rfl 4 6 1 rfl rfl hc4 (by omega))
  simp at e0 e1 e4 e5 e6
  obtain ⟨rfl,rfl,rfl⟩ := e1;subst e0 e4 e5 e6;exact ⟨s0,n1,n2,n3,n4,s5,b6,rfl,r0,r1,r2,r3,r4,r5⟩
def RemP (p : S39) : Prop:=RemOk p.f0 p.f1.f0 p.f1.f1 p.f1.f2 p.f2 p.f3 p.f4
def WantP (p : S26) : Prop:=WantOk p.f0 p.f1.f0 p.f1.f1 p.f1.f2 p.f2 p.f3
theorem open39 (fuel : Nat) (cs : List Value) (x : DataW H × List MemPlace) (hl : cs.length = 7) (h : DataW.trod enc Try.prog W base spare held fuel 39 cs = some x) : ∃ p : S39,k39.K W p cs ∧ RemP p:=by
 obtain ⟨s0,a1,a2,a3,a4,s5,s6,rfl,w⟩ := open39v fuel cs x hl h;exact ⟨⟨s0,⟨a1,a2,a3⟩,a4,s5,s6⟩,k39_mk W _,w⟩
theorem open26 (fuel : Nat) (cs : List Value) (x : DataW H × List MemPlace) (hl : cs.length = 7) (h : DataW.trod enc Try.prog W base spare held fuel 26 cs = some x) : ∃ p : S26,k26.K W p cs ∧ WantP p:=by
 obtain ⟨s0,a1,a2,a3,a4,s5,b6,rfl,w⟩ := open26v fuel cs x hl h;exact ⟨⟨s0,⟨a1,a2,a3⟩,a4,s5,b6⟩,k26_mk W _,w⟩
theorem eta7 {cs : Array Value} (h : cs.size = 7) : cs.toList.length = 7:=by rw [Array.length_toList];exact h
set_option maxRecDepth 100000 in
theorem openR {b0 : Nat} {v : Value} {d : DataW H} {ps : List MemPlace} (hval : Value.okWide Try.prog W .any b0 39 v) (h : DataW.Trod enc Try.prog W base spare held 39 v d ps) :
  ∃ (s0 : ByteArray) (a1 a2 a3 a4 : Int) (s5 s6 : ByteArray),v = .agg #[.string s0,.int .i64 a1,.int .i64 a2,.int .i64 a3,.int .i64 a4,.string s5,.string s6] ∧ RemOk s0 a1 a2 a3 a4 s5 s6:=by
 obtain ⟨cs,rfl,hs⟩ := okWide_struct Try.underlying39 hval
 have hs2 : cs.size = 7:=by rw [hs];kernel_rfl
 obtain ⟨fuel,hf⟩ := h;obtain ⟨s0,a1,a2,a3,a4,s5,s6,e,w⟩ := open39v fuel _ _ (eta7 hs2) hf;have e2 : cs = #[.string s0,.int .i64 a1,.int .i64 a2,.int .i64 a3,.int .i64 a4,.string s5,.string s6] := Array.toList_inj.1 e;subst e2;exact ⟨s0,a1,a2,a3,a4,s5,s6,rfl,w⟩
set_option maxRecDepth 100000 in
theorem openW {b0 : Nat} {v : Value} {d : DataW H} {ps : List MemPlace} (hval : Value.okWide Try.prog W .any b0 26 v) (h : DataW.Trod enc Try.prog W base spare held 26 v d ps) :
  ∃ (s0 : ByteArray) (a1 a2 a3 a4 : Int) (s5 : ByteArray) (b6 : Bool),v = .agg #[.string s0,.int .i64 a1,.int .i64 a2,.int .i64 a3,.int .i64 a4,.string s5,.bool b6] ∧ WantOk s0 a1 a2 a3 a4 s5:=by
 obtain ⟨cs,rfl,hs⟩ := okWide_struct Try.underlying26 hval
 have hs2 : cs.size = 7:=by rw [hs];kernel_rfl
 obtain ⟨fuel,hf⟩ := h;obtain ⟨s0,a1,a2,a3,a4,s5,b6,e,w⟩ := open26v fuel _ _ (eta7 hs2) hf;have e2 : cs = #[.string s0,.int .i64 a1,.int .i64 a2,.int .i64 a3,.int .i64 a4,.string s5,.bool b6] := Array.toList_inj.1 e;subst e2;exact ⟨s0,a1,a2,a3,a4,s5,b6,rfl,w⟩
set_option maxRecDepth 100000 in
theorem openSl {α : Type} (d : Kd α) (Good : α → Prop) {t e : TypeId} (ht : Try.prog.underlying t = some (.slice e)) (hC : Try.prog.cellsOf e = d.sz)
  (ho : ∀ fuel cs x,cs.length = d.sz → DataW.trod enc Try.prog W base spare held fuel e cs = some x → ∃ a,d.K W a cs ∧ Good a)
  {b0 : Nat} {v : Value} {dd : DataW H} {ps : List MemPlace} (hval : Value.okWide Try.prog W .any b0 t v) (h : DataW.Trod enc Try.prog W base spare held t v dd ps) :
  ∃ (A : Option Addr) (c : Nat) (l : List α),v = .slice A l.length c ∧ d.C W A l.length l ∧ l.length ≤ c ∧ c ≤ maxLen ∧ ∀ p ∈ l,Good p:=by
 obtain ⟨A,len,cap,rfl⟩ := okWide_slice ht hval;obtain ⟨fuel,hf⟩ := h;obtain ⟨l,g1,rfl,g3,g4,g5⟩ := openC d Good ht hC ho hf;exact ⟨A,cap,l,rfl,g1,g3,g4,g5⟩
set_option maxRecDepth 100000 in
theorem openRs {b0 : Nat} {v : Value} {d : DataW H} {ps : List MemPlace} (hval : Value.okWide Try.prog W .any b0 22 v) (h : DataW.Trod enc Try.prog W base spare held 22 v d ps) :
  ∃ (A : Option Addr) (c : Nat) (l : List S39),v = .slice A l.length c ∧ Kd.C k39 W A l.length l ∧ l.length ≤ c ∧ c ≤ maxLen ∧ ∀ p ∈ l,RemP p :=
 openSl k39 RemP Try.underlying22 (by kernel_rfl) open39 hval h
set_option maxRecDepth 100000 in
theorem openWs {b0 : Nat} {v : Value} {d : DataW H} {ps : List MemPlace} (hval : Value.okWide Try.prog W .any b0 30 v) (h : DataW.Trod enc Try.prog W base spare held 30 v d ps) :
  ∃ (A : Option Addr) (c : Nat) (l : List S26),v = .slice A l.length c ∧ Kd.C k26 W A l.length l ∧ l.length ≤ c ∧ c ≤ maxLen ∧ ∀ p ∈ l,WantP p :=
 openSl k26 WantP Try.underlying30 (by kernel_rfl) open26 hval h
theorem openLen {t e : TypeId} (ht : Try.prog.underlying t = some (.slice e)) {A : Option Addr} {len cap : Nat} {d : DataW H} {ps : List MemPlace} (h : DataW.Trod enc Try.prog W base spare held t (.slice A len cap) d ps) : len = 0 ∨ ∃ el sp : List (DataW H),d = .slice el sp ∧ el.length = len:=by
 obtain ⟨fuel,hf⟩ := h
 rcases open_slice (cs:=[.slice A len cap]) ht hf with ⟨h0,_⟩|⟨a,len',cap',m,n,D,Pl,hcs,hb,hl,hm,hmm,hx,hi⟩
 (simp only [List.cons.injEq,Value.slice.injEq,and_true] at h0;exact .inl h0.2.1);(simp only [List.cons.injEq,Value.slice.injEq,and_true] at hcs;exact .inr ⟨_,_,congrArg Prod.fst hx,by rw [List.length_map,List.length_range];exact hcs.2.1.symm⟩)
end
end Go.Proofs.Ytbggjmdelnmilaa.PA
