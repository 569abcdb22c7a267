import Derived.Test.YtdnjagfbhppmbaaGd
namespace Go.Proofs.Ytdnjagfbhppmbaa.PA
open Go.RowKit Go.Shelf Go.Proofs.YtdnjagfbhppmbaaW.PrintWords Go.Proofs.YtdnjagfbhppmbaaW.PrintLast Go.Proofs.YtdnjagfbhppmbaaW.PrintMore
set_option linter.unusedVariables false
set_option linter.unusedSimpArgs false
theorem ints_R {w : World} {base b n : Nat} {f : Nat → Int} {ok : Nat → Prop} (hh : w.heap[b]? = some (.cells (intsA f n) 2 (0, 0))) (hb : base ≤ b) (hn : n ≤ 9223372036854775807) (hok : ok b) :
  (Kd.int .i64).R 2 w base ok (.slice (some ⟨b,0,none⟩) n n) ((List.range n).map f):=by
 refine ⟨fun k hk=>?_,(intsA f n).toList,⟨by show _ = _ * 1;simp [intsA],.inr ⟨b,n,intsA f n,by simp,hb,hh,by simp,hn,by show _ = _ * 1;simp [intsA], ?_⟩⟩,by simp [intsA,Kd.int,Kd.scalar], ?_⟩
 ·have : b = k:=by simpa [Value.ownBlock] using hk
  subst this;exact hok
 ·apply List.take_of_length_le;show _ ≤ List.length _ * 1;simp [intsA]
 ·intro j p hj
  have hjn : j < n:=by
   have:=(List.getElem?_eq_some_iff.1 hj).1
   simpa using this
  have hp : p = f j:=by
   have h2 : ((List.range n).map f)[j]? = some (f j):=by simp [hjn]
   rw [h2] at hj;exact (Option.some.inj hj).symm
  subst hp
  show List.take (Kd.int .i64).sz (List.drop (j * (Kd.int .i64).sz) (intsA f n).toList) = [Value.int .i64 (f j)]
  have e1 : (Kd.int .i64).sz = 1:=rfl;rw [e1,Nat.mul_one]
  have h3 : (intsA f n).toList[j]? = some (.int .i64 (f j)):=by
   rw [Array.getElem?_toList];exact intsA_get f n j hjn
  have hl : j < (intsA f n).toList.length:=by simpa [intsA] using hjn
  rw [List.drop_eq_getElem_cons hl]
  have h4 : (intsA f n).toList[j] = .int .i64 (f j):=by
   rw [List.getElem?_eq_getElem hl] at h3;exact Option.some.inj h3
  rw [h4];rfl
open Classical in
theorem TabW.S {w wr : World} {Bt : Nat} {bs : Nat → Nat} {G ex : Nat → Nat → Int} {len wid : Nat} (h : TabW w wr Bt bs G ex len wid (len + 1)) (hl : len ≤ 1000000) (hw : wid ≤ 1000000) :
  Kd.S (Kd.slice 2 (Kd.int .i64)) 54 wr w.heap.size (fun _=>True) (.slice (some ⟨Bt,0,none⟩) (len + 1) (len + 1)) ((List.range (len + 1)).map fun a=>(List.range (wid + 1)).map fun b=>G a b):=by
 refine ⟨fun k=>if hk : ∃ j,j < len + 1 ∧ bs j = k then Classical.choose hk else 0,fun _ _=>trivial,(rowsA bs len wid (len + 1)).toList, ?_, ?_⟩
 ·refine ⟨by show _ = _ * 1;simp [rowsA],.inr ⟨Bt,len + 1,rowsA bs len wid (len + 1),by simp,Nat.le_of_lt h.lt0,h.t,by simp,by unfold maxLen;omega,by show _ = _ * 1;simp [rowsA], ?_⟩⟩
  apply List.take_of_length_le
  show _ ≤ List.length _ * 1
  simp [rowsA]
 ·refine ⟨by show _ = _ * 1;simp [rowsA], ?_⟩
  intro j p hj
  have hjn : j < len + 1:=by
   have:=(List.getElem?_eq_some_iff.1 hj).1
   simpa using this
  have hp : p = ((List.range (wid + 1)).map fun b=>G j b,j):=by
   have h2 : (((List.range (len + 1)).map fun a=>(List.range (wid + 1)).map fun b=>G a b).zipIdx)[j]? = some ((List.range (wid + 1)).map fun b=>G j b,j):=by
    rw [List.getElem?_zipIdx];simp [hjn]
   rw [h2] at hj;exact (Option.some.inj hj).symm
  subst hp;have e1 : (Kd.slice 2 (Kd.int .i64)).sz = 1:=rfl
  have h3 : (rowsA bs len wid (len + 1)).toList[j]? = some (rowV (bs j) wid):=by
   rw [Array.getElem?_toList];exact rowsA_get bs len wid (len + 1) j hjn (Nat.le_refl _)
  have hll : j < (rowsA bs len wid (len + 1)).toList.length:=by simpa [rowsA] using hjn
  have h5 : List.take 1 (List.drop j (rowsA bs len wid (len + 1)).toList) = [rowV (bs j) wid] := by
   rw [List.drop_eq_getElem_cons hll]
   have h4 : (rowsA bs len wid (len + 1)).toList[j] = rowV (bs j) wid:=by
    rw [List.getElem?_eq_getElem hll] at h3;exact Option.some.inj h3
   rw [h4];rfl
  refine ⟨rowV (bs j) wid, ?_, ?_⟩
  ·show List.take 1 (List.drop (j * 1) _) = _
   rw [Nat.mul_one];exact h5
  ·refine ints_R (h.rows j hjn) (by have:=h.lt0;have:=h.lt1 j hjn;omega) (by omega) ?_
   refine ⟨⟨trivial, ?_⟩, ?_⟩
   ·have:=h.lt1 j hjn
    simp [Value.ownBlock];omega
   ·show (if hk : ∃ i,i < len + 1 ∧ bs i = bs j then Classical.choose hk else 0) = j
    have hk : ∃ i,i < len + 1 ∧ bs i = bs j:=⟨j,hjn,rfl⟩
    rw [dif_pos hk];obtain ⟨hc1,hc2⟩ := Classical.choose_spec hk
    rcases Nat.lt_trichotomy (Classical.choose hk) j with hlt|he|hgt
    ·have:=h.inj _ _ hlt hjn;omega
    (exact he)
    ·have:=h.inj _ _ hgt hc1;omega
end Go.Proofs.Ytdnjagfbhppmbaa.PA
