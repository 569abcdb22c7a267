import Derived.Test.YtdnjagfbhppmbaaPAx0
import Derived.Deep.Slices
import Derived.ChangeArms
namespace Go.Proofs.Ytdnjagfbhppmbaa.PA
open Go.RowKit Go.ChangeShapes Go.WideShapes Go.Deep Go.Proofs.YtdnjagfbhppmbaaW.PrintWords Go.Proofs.YtdnjagfbhppmbaaW.PrintLast Go.Proofs.YtdnjagfbhppmbaaW.PrintMore
set_option linter.unusedVariables false
set_option linter.unusedSimpArgs false
def Rng (n : Int) : Prop:=(Lit.int .i64 n).wf = true
section
variable {H : Type} {enc : TypeId × Value → H} {W : World} {base : Nat} {spare : Nat → Bool} {held : Bool}
theorem cells_len {o : Nat} {a : Addr} {n : Nat} {cs : List Value} (h : W.cells? o a n = some cs) : cs.length = n ∧ ∀ i u,cs[i]? = some u → W.cell? (a.add i) = some u:=by
 obtain ⟨_,hl,hat⟩ := World.cells?_some h
 refine ⟨hl,fun i u hu=>?_⟩
 have hi:=(List.getElem?_eq_some_iff.1 hu).1;rw [hat i (by omega)];exact hu
theorem openC {α : Type} (d : Kd α) (Good : α → Prop) {t e : TypeId} (ht : Try.prog.underlying t = some (.slice e)) (hC : Try.prog.cellsOf e = d.sz)
  (ho : ∀ fuel cs x,cs.length = d.sz → DataW.trod enc Try.prog W base spare held fuel e cs = some x → ∃ a,d.K W a cs ∧ Good a)
  {fuel : Nat} {A : Option Addr} {len cap : Nat} {x : DataW H × List MemPlace} (h : DataW.trod enc Try.prog W base spare held fuel t [.slice A len cap] = some x) :
  ∃ l : List α,d.C W A l.length l ∧ l.length = len ∧ len ≤ cap ∧ cap ≤ maxLen ∧ ∀ a ∈ l,Good a:=by
 rcases open_slice ht h with ⟨h0,_⟩|⟨a,len',cap',m,n,D,Pl,hcs,hb,hl,hm,hmm,_,hi⟩
 (simp only [List.cons.injEq,Value.slice.injEq,and_true] at h0;obtain ⟨rfl,rfl,rfl⟩ := h0;exact ⟨[],⟨rfl,by simp,fun h=>absurd h (by simp)⟩,rfl,Nat.le_refl _,by simp,fun a ha=>by simp at ha⟩)
 ·simp only [List.cons.injEq,Value.slice.injEq,and_true] at hcs;obtain ⟨rfl,rfl,rfl⟩ := hcs
  have key : ∀ i,i < len → ∃ p : α,Good p ∧ ∃ c,c.length = d.sz ∧ d.K W p c ∧ ∀ j u,c[j]? = some u → W.cell? (a.add (i * d.sz + j)) = some u:=by
   intro i hlt;obtain ⟨cs',hc,ht'⟩ := hi i (by rw [hmm];split <;> omega);rw [hC] at hc;obtain ⟨hlen,hcell⟩ := cells_len hc;obtain ⟨p,hK,hG⟩ := ho n cs' _ hlen ht';exact ⟨p,hG,cs',hlen,hK,fun j u hu=>by rw [← Deep.add_add];exact hcell j u hu⟩
  have key2 : ∃ l : List α,l.length = len ∧ ∀ i p,l[i]? = some p → Good p ∧ ∃ c,c.length = d.sz ∧ d.K W p c ∧ ∀ j u,c[j]? = some u → W.cell? (a.add (i * d.sz + j)) = some u:=by
   clear hi h hmm
   have : ∀ n,n ≤ len → ∃ l : List α,l.length = n ∧ ∀ i p,l[i]? = some p → Good p ∧ ∃ c,c.length = d.sz ∧ d.K W p c ∧ ∀ j u,c[j]? = some u → W.cell? (a.add (i * d.sz + j)) = some u:=by
    intro n
    induction n with
    | zero=>exact fun _=>⟨[],rfl,fun i p hp=>by simp at hp⟩
    | succ n ih =>
     intro hn;obtain ⟨l,hl1,hl2⟩ := ih (by omega);obtain ⟨p,hp⟩ := key n (by omega)
     refine ⟨l ++ [p],by simp [hl1],fun i q hq=>?_⟩
     by_cases hlt : i < l.length
     (rw [List.getElem?_append_left hlt] at hq;exact hl2 i q hq)
     ·have hi : i = n := by
       have:=(List.getElem?_eq_some_iff.1 hq).1
       simp at this;omega
      subst hi;rw [List.getElem?_append_right (by omega)] at hq
      have : p = q:=by simpa [hl1] using hq
      subst this;exact hp
   exact this len (Nat.le_refl _)
  obtain ⟨l,hl1,hl2⟩ := key2
  refine ⟨l,⟨rfl,by have : maxLen = 9223372036854775807:=rfl;omega,fun _=>⟨a,rfl,fun j p hp=>(hl2 j p hp).2⟩⟩,hl1,hl,hm,fun p hp=>?_⟩
  obtain ⟨i,hi,rfl⟩ := List.getElem_of_mem hp;exact (hl2 i _ (List.getElem?_eq_getElem hi)).1
theorem fld {fs : Array Field} {xs : List (DataW H × List MemPlace)} {n : Nat} {cs : List Value} (hf : ∀ (i : Nat) (f : Field), fs[i]? = some f → DataW.trod enc Try.prog W base spare held n f.type ((cs.drop f.offset).take (Try.prog.cellsOf f.type)) = xs[i]?)
  (i : Nat) (f : Field) (hi : fs[i]? = some f) (t o k : Nat) (ht : f.type = t) (ho : f.offset = o) (hk : Try.prog.cellsOf t = k) (hx : i < xs.length) : DataW.trod enc Try.prog W base spare held n t ((cs.drop o).take k) = some xs[i] := by
 subst ht ho hk;rw [hf i f hi,List.getElem?_eq_getElem hx]
set_option maxRecDepth 100000 in
theorem open34 (fuel : Nat) (cs : List Value) (x : DataW H × List MemPlace) (hl : cs.length = 3) (h : DataW.trod enc Try.prog W base spare held fuel 34 cs = some x) : ∃ p : S34,k34.K W p cs ∧ Rng p.f0 ∧ Rng p.f1 ∧ Rng p.f2:=by
 obtain ⟨xs,n,_,_,_,hx,hf⟩ := DataW.trod_struct Try.underlying34 h
 match cs,hl with
 | [c0,c1,c2],_ =>
  have hx' : xs.length = 3:=hx
  have hc : Try.prog.cellsOf 3 = 1:=by kernel_rfl
  obtain ⟨n0,e0,_,r0⟩ := DataW.trod_int Try.underlying3 (fld hf 0 _ rfl 3 0 1 rfl rfl hc (by omega));obtain ⟨n1,e1,_,r1⟩ := DataW.trod_int Try.underlying3 (fld hf 1 _ rfl 3 1 1 rfl rfl hc (by omega));obtain ⟨n2,e2,_,r2⟩ := DataW.trod_int Try.underlying3 (fld hf 2 _ rfl 3 2 1 rfl rfl hc (by omega))
  simp at e0 e1 e2
  subst e0 e1 e2;exact ⟨⟨n0,n1,n2⟩,k34_mk W _,r0,r1,r2⟩
def Good36 (p : S36) : Prop:=p.f0.size ≤ 9223372036854775807 ∧ (Rng p.f1.f0 ∧ Rng p.f1.f1 ∧ Rng p.f1.f2) ∧ Rng p.f2 ∧ Rng p.f3 ∧ Rng p.f4
set_option maxRecDepth 100000 in
theorem open36 (fuel : Nat) (cs : List Value) (x : DataW H × List MemPlace) (hl : cs.length = 7) (h : DataW.trod enc Try.prog W base spare held fuel 36 cs = some x) : ∃ p : S36,k36.K W p cs ∧ Good36 p:=by
 obtain ⟨xs,n,_,_,_,hx,hf⟩ := DataW.trod_struct Try.underlying36 h
 match cs,hl with
 | [c0,c1,c2,c3,c4,c5,c6],_ =>
  have hx' : xs.length = 5:=hx
  have hc : Try.prog.cellsOf 3 = 1:=by kernel_rfl
  have hc2 : Try.prog.cellsOf 2 = 1:=by kernel_rfl
  have hc9 : Try.prog.cellsOf 9 = 1:=by kernel_rfl
  have hc34 : Try.prog.cellsOf 34 = 3:=by kernel_rfl
  obtain ⟨s,e0,_,r0⟩ := DataW.trod_string Try.underlying9 (fld hf 0 _ rfl 9 0 1 rfl rfl hc9 (by omega));obtain ⟨v,hv,rv⟩ := open34 _ _ _ (by rfl) (fld hf 1 _ rfl 34 1 3 rfl rfl hc34 (by omega));obtain ⟨n2,e2,_,r2⟩ := DataW.trod_int Try.underlying2 (fld hf 2 _ rfl 2 4 1 rfl rfl hc2 (by omega));obtain ⟨n3,e3,_,r3⟩ := DataW.trod_int Try.underlying3 (fld hf 3 _ rfl 3 5 1 rfl rfl hc (by omega));obtain ⟨n4,e4,_,r4⟩ := DataW.trod_int Try.underlying3 (fld hf 4 _ rfl 3 6 1 rfl rfl hc (by omega));have e1:=k34_open hv
  simp at e0 e1 e2 e3 e4
  obtain ⟨rfl,rfl,rfl⟩ := e1;subst e0 e2 e3 e4;exact ⟨⟨s,v,n2,n3,n4⟩,k36_mk W _,r0,rv,r2,r3,r4⟩
end
end Go.Proofs.Ytdnjagfbhppmbaa.PA
