import Derived.Test.YtohcgenhhgipcaaPue
import Derived.ChangeArms
import Derived.Deep.Slices
import Derived.OpenShut
namespace Go.Proofs.Ytohcgenhhgipcaa.Pure
open Go.RowKit Go.Proofs.Ytohcgenhhgipcaa Go.Proofs.Ytohcgenhhgipcaa.PA Go.Proofs.YtohcgenhhgipcaaW.PrintWords Go.Proofs.YtohcgenhhgipcaaW.PrintLast Go.Proofs.YtohcgenhhgipcaaW.PrintMore
set_option linter.unusedVariables false
set_option linter.unusedSimpArgs false

/-! Alone;the law of the checks -/
def aloneL (t : S24) : List S64 → ByteArray × Int
 | []=>(⟨#[]⟩,9)
 | x :: r=>if fitsR t [x] = 0 then aloneL t r else (x.f0,0)
def aloneR (t : S24) (l : List S64) : ByteArray × Int:=if chkR t l = 0 then aloneL t l else (⟨#[]⟩,chkR t l)
theorem one64 (l : List S64) (j : Nat) (h : j < l.length) : (l.take (j + 1)).drop j = [rd_T64 l (j : Int)] := by
 rw [List.drop_take,show j + 1 - j = 1 from by omega,drop_cons64 l j h];rfl
theorem one65 (l : List S65) (j : Nat) (h : j < l.length) : (l.take (j + 1)).drop j = [rd_T65 l (j : Int)] := by
 rw [List.drop_take,show j + 1 - j = 1 from by omega,drop_cons65 l j h];rfl
theorem alone_l0 (t : S24) (l : List S64) (hg : Good t l) : ∀ (d j : Nat), l.length - j = d → j ≤ l.length →
  Ev (fun k=>loading_Alone.l0 k l l (l.length : Int) (j : Int) t.f0 t.f1 t.f2 t.f3 t.f4.f0 t.f4.f1 t.f5.f0 t.f5.f1) (aloneL t (l.drop j)):=by
 have hl:=hg.len;intro d
 induction d with
 | zero =>
  intro j hd hj;rw [List.drop_of_length_le (by omega)];exact Ev.step (f:=fun _=>some (⟨#[]⟩,9)) (fun k=>by rw [loading_Alone.l0,if_neg (by omega : ¬((j : Int) < (l.length : Int)))]) (Ev.now _)
 | succ d ih =>
  intro j hd hj
  have hlt : j < l.length:=by omega
  have h1:=fits_f t [rd_T64 l (j : Int)] (hg.sub (by rw [← one64 l j hlt];exact (List.drop_sublist _ _).trans (List.take_sublist _ _))).few;rw [drop_cons64 l j hlt,aloneL]
  refine Ev.step (f:=fun k=>(loading_fits.f k t.f0 t.f1 t.f2 t.f3 t.f4.f0 t.f4.f1 t.f5.f0 t.f5.f1 [rd_T64 l (j : Int)]).bind fun x=>if x = 0 then loading_Alone.l0 k l l (l.length : Int) ((j + 1 : Nat) : Int) t.f0 t.f1 t.f2 t.f3 t.f4.f0 t.f4.f1 t.f5.f0 t.f5.f1 else some ((rd_T64 l (j : Int)).f0,0)) (fun k=>?_) (Ev.bind h1 ?_)
  (rw [loading_Alone.l0,if_pos (by omega : (j : Int) < (l.length : Int)),if_pos (by omega : (0 : Int) ≤ j),if_pos (by omega : (j : Int) < (l.length : Int)),wsucc (by omega),if_pos (by omega : (j : Int) ≤ ((j + 1 : Nat) : Int)),if_pos (by omega : ((j + 1 : Nat) : Int) ≤ (l.length : Int)),Int.toNat_natCast,Int.toNat_natCast,one64 l j hlt])
  ·by_cases h : fitsR t [rd_T64 l (j : Int)] = 0
   (rw [if_pos h];exact Ev.congr (fun k=>by rw [if_pos h]) (ih (j + 1) (by omega) (by omega)));(rw [if_neg h];exact Ev.congr (fun k=>by rw [if_neg h]) (Ev.now _))
theorem Alone_f (t : S24) (l : List S64) (ht : t.f0.size ≤ 9223372036854775807) (hs : ∀ y ∈ l,y.f0.size ≤ 9223372036854775807) : Ev (fun k=>loading_Alone.f k t.f0 t.f1 t.f2 t.f3 t.f4.f0 t.f4.f1 t.f5.f0 t.f5.f1 l) (aloneR t l):=by
 unfold loading_Alone.f aloneR
 rw [check_f t l ht hs];by_cases h : chkR t l = 0
 (rw [if_pos h];exact Ev.congr (fun k=>by rw [Option.bind_some,if_pos h];rfl) (f:=fun k=>loading_Alone.l0 k l l (l.length : Int) ((0 : Nat) : Int) t.f0 t.f1 t.f2 t.f3 t.f4.f0 t.f4.f1 t.f5.f0 t.f5.f1) (alone_l0 t l ((good_iff t l).1 h) _ 0 rfl (by omega)));(rw [if_neg h];exact Ev.congr (fun k=>by rw [Option.bind_some,if_neg h]) (Ev.now _))
theorem ralone_l0 (t : S24) (l : List S65) (hg : Good t (l.map o64)) (ht : t.f0.size ≤ 9223372036854775807) (hs : ∀ y ∈ l, y.f0.size ≤ 9223372036854775807) : ∀ (d j : Nat), l.length - j = d → j ≤ l.length →
  Ev (fun k=>gangsawref54_Alone.l0 k l (j : Int) t.f0 t.f1 t.f2 t.f3 t.f4.f0 t.f4.f1 t.f5.f0 t.f5.f1) (aloneL t ((l.drop j).map o64)):=by
 have hl:=hg.len;rw [List.length_map] at hl;intro d
 induction d with
 | zero =>
  intro j hd hj;rw [List.drop_of_length_le (by omega)];exact Ev.step (f:=fun _=>some (⟨#[]⟩,9)) (fun k=>by rw [gangsawref54_Alone.l0,if_neg (by omega : ¬((j : Int) < (l.length : Int)))]) (Ev.now _)
 | succ d ih =>
  intro j hd hj
  have hlt : j < l.length:=by omega
  have hsub : [rd_T65 l (j : Int)].Sublist l:=by rw [← one65 l j hlt];exact (List.drop_sublist _ _).trans (List.take_sublist _ _)
  have h1:=rFits_f t [rd_T65 l (j : Int)] (by simp) ht (fun y hy=>hs y (hsub.subset hy));rw [fitR_good (hg.sub (hsub.map o64))] at h1;rw [drop_cons65 l j hlt,List.map_cons,aloneL]
  refine Ev.step (f:=fun k=>(gangsawref54_Fits.f k t.f0 t.f1 t.f2 t.f3 t.f4.f0 t.f4.f1 t.f5.f0 t.f5.f1 [rd_T65 l (j : Int)]).bind fun x=>if x = 0 then gangsawref54_Alone.l0 k l ((j + 1 : Nat) : Int) t.f0 t.f1 t.f2 t.f3 t.f4.f0 t.f4.f1 t.f5.f0 t.f5.f1 else some ((rd_T65 l (j : Int)).f0,0)) (fun k=>?_) (Ev.bind h1 ?_)
  (rw [gangsawref54_Alone.l0,if_pos (by omega : (j : Int) < (l.length : Int)),if_pos (by omega : (0 : Int) ≤ j),wsucc (by omega),if_pos (by omega : (j : Int) ≤ ((j + 1 : Nat) : Int)),if_pos (by omega : ((j + 1 : Nat) : Int) ≤ (l.length : Int)),Int.toNat_natCast,Int.toNat_natCast,one65 l j hlt])
  ·by_cases h : fitsR t [o64 (rd_T65 l (j : Int))] = 0
   (rw [if_pos h];exact Ev.congr (fun k=>by rw [if_pos (show fitsR t (List.map o64 [rd_T65 l (j : Int)]) = 0 from h)]) (ih (j + 1) (by omega) (by omega)));(rw [if_neg h];exact Ev.congr (fun k=>by rw [if_neg (show ¬(fitsR t (List.map o64 [rd_T65 l (j : Int)]) = 0) from h)];rfl) (Ev.now _))
theorem rAlone_f (t : S24) (l : List S65) (hl : l.length ≤ 1000000) (ht : t.f0.size ≤ 9223372036854775807) (hs : ∀ y ∈ l,y.f0.size ≤ 9223372036854775807) : Ev (fun k=>gangsawref54_Alone.f k t.f0 t.f1 t.f2 t.f3 t.f4.f0 t.f4.f1 t.f5.f0 t.f5.f1 l) (aloneR t (l.map o64)):=by
 unfold gangsawref54_Alone.f aloneR
 refine Ev.bind (Check_ref t l hl ht hs) ?_
 by_cases h : chkR t (l.map o64) = 0
 (rw [if_pos h];exact Ev.congr (fun k=>by rw [if_pos h];rfl) (ralone_l0 t l ((good_iff t _).1 h) ht hs _ 0 rfl (by omega)));(rw [if_neg h];exact Ev.congr (fun k=>by rw [if_neg h]) (Ev.now _))
theorem few_f (l : List S65) : gangsawlaw54_few.f l = some (decide (l.length ≤ 12) || (decide (64 < l.length) && decide (l.length ≤ 100))):=by
 unfold gangsawlaw54_few.f
 by_cases h1 : l.length ≤ 12
 ·rw [if_pos (by omega : (l.length : Int) ≤ 12)];simp [h1]
 ·rw [if_neg (by omega : ¬((l.length : Int) ≤ 12))];by_cases h2 : 64 < l.length
  ·rw [if_pos (by omega : (l.length : Int) > 64)];simp [h1,h2];omega
  ·rw [if_neg (by omega : ¬((l.length : Int) > 64))];simp [h1,h2]
theorem few_len {l : List S65} (h : (decide (l.length ≤ 12) || (decide (64 < l.length) && decide (l.length ≤ 100))) = true) : l.length ≤ 100:=by
 simp at h;omega
theorem sizes64 {l : List S65} (h : ∀ y ∈ l,y.f0.size ≤ 9223372036854775807) : ∀ y ∈ l.map o64,y.f0.size ≤ 9223372036854775807:=by
 intro y hy;obtain ⟨x,hx,rfl⟩ := List.mem_map.1 hy;exact h x hx
end Go.Proofs.Ytohcgenhhgipcaa.Pure
