import Derived.Test.YtnjikioimompnaaPAx0
import Derived.Deep.Slices
import Derived.ChangeArms
namespace Go.Proofs.Ytnjikioimompnaa.PA
open Go.RowKit Go.ChangeShapes Go.WideShapes Go.Deep Go.Proofs.YtnjikioimompnaaW.PrintWords Go.Proofs.YtnjikioimompnaaW.PrintLast Go.Proofs.YtnjikioimompnaaW.PrintMore
set_option linter.unusedVariables false
set_option linter.unusedSimpArgs false
def Rng (n : Int) : Prop:=(Lit.int .i64 n).wf = true
section
variable {H : Type} {enc : TypeId × Value → H} {W : World} {base : Nat} {spare : Nat → Bool} {held : Bool}
theorem cells_len {o : Nat} {a : Addr} {n : Nat} {cs : List Value} (h : W.cells? o a n = some cs) : cs.length = n ∧ ∀ i u,cs[i]? = some u → W.cell? (a.add i) = some u:=by
 obtain ⟨_,hl,hat⟩ := World.cells?_some h
 refine ⟨hl,fun i u hu=>?_⟩
 have hi:=(List.getElem?_eq_some_iff.1 hu).1;rw [hat i (by omega)];exact hu
theorem openC {α : Type} (d : Kd α) (Good : α → Prop) {t e : TypeId} (ht : Try.prog.underlying t = some (.slice e)) (hC : Try.prog.cellsOf e = d.sz)
  (ho : ∀ fuel cs x,cs.length = d.sz → DataW.trod enc Try.prog W base spare held fuel e cs = some x → ∃ a,d.K W a cs ∧ Good a)
  {fuel : Nat} {A : Option Addr} {len cap : Nat} {x : DataW H × List MemPlace} (h : DataW.trod enc Try.prog W base spare held fuel t [.slice A len cap] = some x) :
  ∃ l : List α,d.C W A l.length l ∧ l.length = len ∧ len ≤ cap ∧ cap ≤ maxLen ∧ ∀ a ∈ l,Good a:=by
 rcases open_slice ht h with ⟨h0,_⟩|⟨a,len',cap',m,n,D,Pl,hcs,hb,hl,hm,hmm,_,hi⟩
 (simp only [List.cons.injEq,Value.slice.injEq,and_true] at h0;obtain ⟨rfl,rfl,rfl⟩ := h0;exact ⟨[],⟨rfl,by simp,fun h=>absurd h (by simp)⟩,rfl,Nat.le_refl _,by simp,fun a ha=>by simp at ha⟩)
 ·simp only [List.cons.injEq,Value.slice.injEq,and_true] at hcs;obtain ⟨rfl,rfl,rfl⟩ := hcs
  have key : ∀ i,i < len → ∃ p : α,Good p ∧ ∃ c,c.length = d.sz ∧ d.K W p c ∧ ∀ j u,c[j]? = some u → W.cell? (a.add (i * d.sz + j)) = some u:=by
   intro i hlt;obtain ⟨cs',hc,ht'⟩ := hi i (by rw [hmm];split <;> omega);rw [hC] at hc;obtain ⟨hlen,hcell⟩ := cells_len hc;obtain ⟨p,hK,hG⟩ := ho n cs' _ hlen ht';exact ⟨p,hG,cs',hlen,hK,fun j u hu=>by rw [← Deep.add_add];exact hcell j u hu⟩
  have key2 : ∃ l : List α,l.length = len ∧ ∀ i p,l[i]? = some p → Good p ∧ ∃ c,c.length = d.sz ∧ d.K W p c ∧ ∀ j u,c[j]? = some u → W.cell? (a.add (i * d.sz + j)) = some u:=by
   clear hi h hmm
   have : ∀ n,n ≤ len → ∃ l : List α,l.length = n ∧ ∀ i p,l[i]? = some p → Good p ∧ ∃ c,c.length = d.sz ∧ d.K W p c ∧ ∀ j u,c[j]? = some u → W.cell? (a.add (i * d.sz + j)) = some u:=by
    intro n
    induction n with
    | zero=>exact fun _=>⟨[],rfl,fun i p hp=>by simp at hp⟩
    | succ n ih =>
     intro hn;obtain ⟨l,hl1,hl2⟩ := ih (by omega);obtain ⟨p,hp⟩ := key n (by omega)
     refine ⟨l ++ [p],by simp [hl1],fun i q hq=>?_⟩
     by_cases hlt : i < l.length
     (rw [List.getElem?_append_left hlt] at hq;exact hl2 i q hq)
     ·have hi : i = n := by
       have:=(List.getElem?_eq_some_iff.1 hq).1
       simp at this;omega
      subst hi;rw [List.getElem?_append_right (by omega)] at hq
      have : p = q:=by simpa [hl1] using hq
      subst this;exact hp
   exact this len (Nat.le_refl _)
  obtain ⟨l,hl1,hl2⟩ := key2
  refine ⟨l,⟨rfl,by have : maxLen = 9223372036854775807:=rfl;omega,fun _=>⟨a,rfl,fun j p hp=>(hl2 j p hp).2⟩⟩,hl1,hl,hm,fun p hp=>?_⟩
  obtain ⟨i,hi,rfl⟩ := List.getElem_of_mem hp;exact (hl2 i _ (List.getElem?_eq_getElem hi)).1
theorem fld {fs : Array Field} {xs : List (DataW H × List MemPlace)} {n : Nat} {cs : List Value} (hf : ∀ (i : Nat) (f : Field), fs[i]? = some f → DataW.trod enc Try.prog W base spare held n f.type ((cs.drop f.offset).take (Try.prog.cellsOf f.type)) = xs[i]?)
  (i : Nat) (f : Field) (hi : fs[i]? = some f) (t o k : Nat) (ht : f.type = t) (ho : f.offset = o) (hk : Try.prog.cellsOf t = k) (hx : i < xs.length) : DataW.trod enc Try.prog W base spare held n t ((cs.drop o).take k) = some xs[i] := by
 subst ht ho hk;rw [hf i f hi,List.getElem?_eq_getElem hx]
set_option maxRecDepth 100000 in
theorem open31 (fuel : Nat) (cs : List Value) (x : DataW H × List MemPlace) (hl : cs.length = 2) (h : DataW.trod enc Try.prog W base spare held fuel 31 cs = some x) : ∃ p : S31,k31.K W p cs ∧ Rng p.f0 ∧ Rng p.f1:=by
 obtain ⟨xs,n,_,_,_,hx,hf⟩ := DataW.trod_struct Try.underlying31 h
 match cs,hl with
 | [c0,c1],_ =>
  have hx' : xs.length = 2:=hx
  have hc : Try.prog.cellsOf 3 = 1:=by kernel_rfl
  obtain ⟨n0,e0,_,r0⟩ := DataW.trod_int Try.underlying3 (fld hf 0 _ rfl 3 0 1 rfl rfl hc (by omega));obtain ⟨n1,e1,_,r1⟩ := DataW.trod_int Try.underlying3 (fld hf 1 _ rfl 3 1 1 rfl rfl hc (by omega))
  simp at e0 e1
  subst e0 e1;exact ⟨⟨n0,n1⟩,k31_mk W _,r0,r1⟩
set_option maxRecDepth 100000 in
theorem openP {b0 : Nat} {v : Value} {d : DataW H} {ps : List MemPlace} (hval : Value.okWide Try.prog W .any b0 25 v) (h : DataW.Trod enc Try.prog W base spare held 25 v d ps) :
  ∃ (s : ByteArray) (A : Option Addr) (c : Nat) (l : List S31),v = .agg #[.string s,.slice A l.length c] ∧ Kd.C k31 W A l.length l ∧ l.length ≤ c ∧ c ≤ maxLen ∧ s.size ≤ maxLen ∧ ∀ p ∈ l,Rng p.f0 ∧ Rng p.f1:=by
 obtain ⟨cs,rfl,hs⟩ := okWide_struct Try.underlying25 hval
 have hs2 : cs.size = 2:=by rw [hs];kernel_rfl
 obtain ⟨fuel,hf⟩ := h;obtain ⟨xs,n,_,_,_,hx,hfl⟩ := DataW.trod_struct Try.underlying25 hf;have hx' : xs.length = 2:=hx
 obtain ⟨c0,c1,rfl⟩ : ∃ c0 c1,cs = #[c0,c1] := by
  obtain ⟨l,rfl⟩ : ∃ l : List Value,cs = l.toArray:=⟨cs.toList,by simp⟩
  match l,hs2 with
  | [a,b],_=>exact ⟨a,b,rfl⟩
 have hc9 : Try.prog.cellsOf 9 = 1:=by kernel_rfl
 have hc23 : Try.prog.cellsOf 23 = 1:=by kernel_rfl
 obtain ⟨s,e0,_,r0⟩ := DataW.trod_string Try.underlying9 (fld hfl 0 _ rfl 9 0 1 rfl rfl hc9 (by omega));have h1:=fld hfl 1 _ rfl 23 1 1 rfl rfl hc23 (by omega)
 have e1 : List.take 1 (List.drop 1 (Value.agg #[c0,c1]).cells.toList) = [c1] := by simp [Value.cells]
 rw [e1] at h1
 obtain ⟨A,len,cap,rfl⟩ : ∃ A len cap,c1 = .slice A len cap:=by
  rcases open_slice Try.underlying23 h1 with ⟨h0,_⟩|⟨a,len',cap',m,n,D,Pl,hcs,_⟩
  (simp only [List.cons.injEq,and_true] at h0;exact ⟨_,_,_,h0⟩);(simp only [List.cons.injEq,and_true] at hcs;exact ⟨_,_,_,hcs⟩)
 obtain ⟨l,g1,rfl,g3,g4,g5⟩ := openC k31 (fun p=>Rng p.f0 ∧ Rng p.f1) Try.underlying23 (by kernel_rfl) open31 h1
 have e2 : c0 = .string s:=by simpa [Value.cells] using e0
 subst e2;exact ⟨s,A,cap,l,rfl,g1,g3,g4,r0,g5⟩
end
end Go.Proofs.Ytnjikioimompnaa.PA
