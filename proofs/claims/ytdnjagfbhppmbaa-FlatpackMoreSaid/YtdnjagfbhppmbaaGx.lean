import Derived.Test.YtdnjagfbhppmbaaGt
import Derived.Maps.OwnSet
import Derived.Maps.OwnOps
import Derived.WalkLawsBesides
namespace Go.Proofs.Ytdnjagfbhppmbaa.PA
open Go.RowKit Go.Shelf Go.Proofs.YtdnjagfbhppmbaaW.PrintWords Go.Proofs.YtdnjagfbhppmbaaW.PrintLast Go.Proofs.YtdnjagfbhppmbaaW.PrintMore
set_option linter.unusedVariables false
set_option linter.unusedSimpArgs false
def R36 (v : Value) : Option (DataW S36 × List MemPlace) :=
 match v with
 | .agg ⟨[.string a,.int .i64 b,.int .i64 c,.int .i64 d,.int .i64 e,.int .i64 f,.int .i64 g]⟩=>some (.held ⟨a,⟨b,c,d⟩,e,f,g⟩,[])
 | _=>none
def knownR (l : List S36) (s : ByteArray) : Option S36:=l.reverse.find? (fun x=>decide (x.f0 = s))
theorem known_snoc (l : List S36) (x : S36) (s : ByteArray) : knownR (l ++ [x]) s = if x.f0 = s then some x else knownR l s:=by
 unfold knownR
 rw [List.reverse_append];by_cases h : x.f0 = s <;> simp [h]
structure MI (W : World) (b n : Nat) (l : List S36) : Prop where
 ex : ∃ D : DataW S36,W.ownsMap Try.prog 9 R36 b n D ∧ Maps.IsMap D ∧ ∀ s : ByteArray,(∀ zd,D.atKey (.string s.data.toList) zd = (match knownR l s with|some x=>.held x|none=>zd)) ∧ Maps.has D (.string s.data.toList) = (knownR l s).isSome
theorem MI.lt {W : World} {b n : Nat} {l : List S36} (h : MI W b n l) : b < W.heap.size:=by
 obtain ⟨D,h1,_⟩ := h.ex;exact h1.lt
theorem MI.below {W X : World} {b n B : Nat} {l : List S36} (h : MI W b n l) (hb : Below B W X) (hB : b < B) : MI X b n l:=by
 obtain ⟨D,⟨es,clock,h1,h2⟩,h3⟩ := h.ex;exact ⟨⟨D,⟨es,clock,(hb.block b hB).trans h1,h2⟩,h3⟩⟩
theorem MI.put {W : World} {b n : Nat} {l : List S36} {D : DataW S36} (x : S36) (h2 : Maps.IsMap D) (h3 : ∀ s : ByteArray, (∀ zd, D.atKey (.string s.data.toList) zd = (match knownR l s with | some x => .held x | none => zd)) ∧ Maps.has D (.string s.data.toList) = (knownR l s).isSome)
  (h1 : W.ownsMap Try.prog 9 R36 b (n + 1) (D.put (.string x.f0.data.toList) (.held x))) : MI W b (n + 1) (l ++ [x]):=by
 refine ⟨⟨_,h1,h2.put _ _,fun s=>?_⟩⟩
 rw [known_snoc];by_cases e : x.f0 = s
 (subst e;rw [if_pos rfl];exact ⟨fun zd=>Maps.atKey_put_same h2 (show WideAt.IsKeyLit (.string _) from trivial) _ _,Maps.has_put_same h2 (show WideAt.IsKeyLit (.string _) from trivial) _⟩)
 ·rw [if_neg e]
  have hne : Lit.string s.data.toList ≠ Lit.string x.f0.data.toList:=fun h=>e (by
   have h:=Lit.string.inj h
   cases hx : x.f0 with|mk dx=>cases s with|mk ds=>rw [hx] at h;simp at h;rw [h])
  exact ⟨fun zd=>by rw [Maps.atKey_put_other hne];exact (h3 s).1 zd,by rw [Maps.has_put_other hne];exact (h3 s).2⟩
end Go.Proofs.Ytdnjagfbhppmbaa.PA
