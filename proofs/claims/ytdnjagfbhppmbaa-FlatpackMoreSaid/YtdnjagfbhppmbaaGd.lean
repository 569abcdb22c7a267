import Derived.Test.YtdnjagfbhppmbaaLex
import Derived.Test.YtdnjagfbhppmbaaPAx0
import Derived.StillTailTactics
import Derived.BigRegion
import Derived.Shelf.Abstract
import Derived.WalkSpells
namespace Go.Proofs.Ytdnjagfbhppmbaa.PA
open Go.RowKit Go.Shelf Go.Proofs.YtdnjagfbhppmbaaW.PrintWords Go.Proofs.YtdnjagfbhppmbaaW.PrintLast Go.Proofs.YtdnjagfbhppmbaaW.PrintMore
set_option linter.unusedVariables false
set_option linter.unusedSimpArgs false
attribute [local go_sem] max2_int min2_int max_two min_two max_three min_three max_four min_four
def cellV (t : Nat → Nat → Int) (e : Int) (k l w : Nat) : Int :=
 (List.range' 1 (w - k - 1)).foldl (fun b a=>mx b (wrap64 (t l a + t l (w - a - k)))) ((List.range' 1 (l - k - 1)).foldl (fun b a=>mx b (wrap64 (t a w + t (l - a - k) w))) e)
def valF (ex : Nat → Nat → Int) (k : Nat) : Nat → Nat → Nat → Int
 | 0,_,_=>0
 | n + 1,l,w=>if l = 0 ∨ w = 0 then 0 else cellV (valF ex k n) (ex l w) k l w
def val (ex : Nat → Nat → Int) (k l w : Nat) : Int:=valF ex k (l + w) l w
theorem foldl_ext {α β : Type} (f g : β → α → β) (l : List α) (h : ∀ b,∀ a ∈ l,f b a = g b a) : ∀ b,l.foldl f b = l.foldl g b:=by
 induction l with
 | nil=>intro b;rfl
 | cons x l ih =>
  intro b;rw [List.foldl_cons,List.foldl_cons,h b x (by simp)];exact ih (fun b a ha=>h b a (by simp [ha])) _
theorem cellV_ext {t u : Nat → Nat → Int} {e : Int} {k l w : Nat} (h : ∀ a b,a + b < l + w → t a b = u a b) : cellV t e k l w = cellV u e k l w:=by
 unfold cellV
 have h1 : (List.range' 1 (l - k - 1)).foldl (fun b a=>mx b (wrap64 (t a w + t (l - a - k) w))) e = (List.range' 1 (l - k - 1)).foldl (fun b a=>mx b (wrap64 (u a w + u (l - a - k) w))) e:=by
  apply foldl_ext
  intro b a ha;rw [List.mem_range'_1] at ha;rw [h a w (by omega),h (l - a - k) w (by omega)]
 rw [h1]
 apply foldl_ext
 intro b a ha;rw [List.mem_range'_1] at ha;rw [h l a (by omega),h l (w - a - k) (by omega)]
theorem valF_more (ex : Nat → Nat → Int) (k : Nat) : ∀ n m l w,l + w ≤ n → l + w ≤ m → valF ex k n l w = valF ex k m l w:=by
 intro n
 induction n with
 | zero =>
  intro m l w h1 h2
  cases m with
  | zero=>rfl
  | succ m=>unfold valF;rw [if_pos (by omega)]
 | succ n ih =>
  intro m l w h1 h2
  cases m with
  | zero=>unfold valF;rw [if_pos (by omega)]
  | succ m =>
   unfold valF
   split
   (rfl);(exact cellV_ext (fun a b hab=>ih m a b (by omega) (by omega)))
theorem val_eq (ex : Nat → Nat → Int) (k l w : Nat) : val ex k l w = if l = 0 ∨ w = 0 then 0 else cellV (val ex k) (ex l w) k l w:=by
 show valF ex k (l + w) l w = _
 rw [valF_more ex k (l + w) (l + w + 1) l w (by omega) (by omega)]
 show (if l = 0 ∨ w = 0 then 0 else cellV (valF ex k (l + w)) (ex l w) k l w) = _
 split
 (rfl);(exact cellV_ext (fun a b hab=>valF_more ex k (l + w) (a + b) a b (by omega) (by omega)))
def exactF (l : List S36) (a b : Nat) : Int:=l.foldl (fun m x=>if x.f1.f0 = (a : Int) ∧ x.f1.f1 = (b : Int) then mx m x.f2 else m) 0
theorem exactF_snoc (l : List S36) (x : S36) (a b : Nat) : exactF (l ++ [x]) a b = if x.f1.f0 = (a : Int) ∧ x.f1.f1 = (b : Int) then mx (exactF l a b) x.f2 else exactF l a b:=by
 unfold exactF;rw [List.foldl_append];rfl
def tableR (len wid : Nat) (l : List S36) (k : Nat) : List (List Int):=(List.range (len + 1)).map fun a=>(List.range (wid + 1)).map fun b=>val (exactF l) k a b
def exA (ex : Nat → Nat → Int) : Array Value:=(Array.range 1681).map fun c=>.int .i64 (ex (c / 41) (c % 41))
theorem exA_size (ex : Nat → Nat → Int) : (exA ex).size = 1681:=by simp [exA]
theorem exA_get (ex : Nat → Nat → Int) (i j : Nat) (hi : i < 41) (hj : j < 41) : (exA ex)[i * 41 + j]? = some (.int .i64 (ex i j)):=by
 have h : i * 41 + j < 1681:=by omega
 have e1 : (i * 41 + j) / 41 = i:=by omega
 have e2 : (i * 41 + j) % 41 = j:=by omega
 simp [exA,h,e1,e2]
theorem exA_set (ex : Nat → Nat → Int) (i j : Nat) (hi : i < 41) (hj : j < 41) (v : Int) {ex' : Nat → Nat → Int} (he : ∀ a b,ex' a b = if a = i ∧ b = j then v else ex a b) : (exA ex).setIfInBounds (i * 41 + j) (.int .i64 v) = exA ex':=by
 apply Array.ext_getElem?
 intro c;by_cases hc : c < 1681
 ·obtain ⟨a,b,ha,hb,rfl⟩ : ∃ a b,a < 41 ∧ b < 41 ∧ c = a * 41 + b:=⟨c / 41,c % 41,by omega,by omega,by omega⟩
  rw [exA_get _ a b ha hb,he];by_cases e : a = i ∧ b = j
  ·obtain ⟨rfl,rfl⟩ := e
   simp [Array.getElem?_setIfInBounds,exA_size,hc]
  (rw [if_neg e,Array.getElem?_setIfInBounds,if_neg (by omega),exA_get _ a b ha hb])
 ·simp [Array.getElem?_setIfInBounds,hc,exA]
theorem range_snoc (a : Nat) (h : 1 ≤ a) : List.range' 1 a = List.range' 1 (a - 1) ++ [a] := by
 obtain ⟨b,rfl⟩ : ∃ b,a = b + 1:=⟨a - 1,by omega⟩
 rw [List.range'_1_concat,Nat.add_sub_cancel,Nat.add_comm 1 b]
def fold1 (F : Nat → Nat → Int) (e : Int) (k n m a : Nat) : Int:=(List.range' 1 (a - 1)).foldl (fun b a=>mx b (wrap64 (F a m + F (n - a - k) m))) e
theorem fold1_step (F : Nat → Nat → Int) (e : Int) (k n m a : Nat) (h : 1 ≤ a) : fold1 F e k n m (a + 1) = mx (fold1 F e k n m a) (wrap64 (F a m + F (n - a - k) m)):=by
 unfold fold1;rw [Nat.add_sub_cancel,range_snoc a h,List.foldl_append];rfl
def fold2 (F : Nat → Nat → Int) (e : Int) (k n m a : Nat) : Int:=(List.range' 1 (a - 1)).foldl (fun b a=>mx b (wrap64 (F n a + F n (m - a - k)))) e
theorem fold2_step (F : Nat → Nat → Int) (e : Int) (k n m a : Nat) (h : 1 ≤ a) : fold2 F e k n m (a + 1) = mx (fold2 F e k n m a) (wrap64 (F n a + F n (m - a - k))):=by
 unfold fold2;rw [Nat.add_sub_cancel,range_snoc a h,List.foldl_append];rfl
theorem fold_cell (F : Nat → Nat → Int) (e : Int) (k n m a b : Nat) (ha : a - 1 = n - k - 1) (hb : b - 1 = m - k - 1) : fold2 F (fold1 F e k n m a) k n m b = cellV F e k n m:=by
 unfold fold2 fold1 cellV;rw [ha,hb]
def isZ : Value → Bool|.int .i64 n=>n == 0|_=>false
theorem isZ_eq {v : Value} (h : isZ v = true) : v = .int .i64 0:=by
 unfold isZ at h
 split at h
 ·simp at h;rw [h]
 ·cases h
set_option maxRecDepth 200000 in
theorem allz94 : Try.zeroCells94.toList.all isZ = true:=by kernel_rfl
theorem exA_zero : Try.zeroCells94 = exA (fun _ _=>0):=by
 apply Array.ext
 (rw [Try.zeroCells94_size,exA_size])
 ·intro i h1 h2;have h:=List.all_eq_true.1 allz94 _ (Array.getElem_mem_toList h1);rw [isZ_eq h]
  simp [exA]
def Xb (wr : World) (B : Nat) (ex : Nat → Nat → Int) : Prop:=wr.heap[B]? = some (.cells (exA ex) 94 (0,0))
theorem Xb.cell {wr : World} {B : Nat} {ex : Nat → Nat → Int} (h : Xb wr B ex) (i j : Nat) (hi : i < 41) (hj : j < 41) : wr.cell? ⟨B,i * 41 + j,none⟩ = some (.int .i64 (ex i j)):=by
 have h' : wr.heap[B]? = some (.cells (exA ex) 94 (0,0)):=h
 simp [World.cell?,h',exA_get _ i j hi hj]
theorem Xb.free {wr : World} {B : Nat} {ex : Nat → Nat → Int} (h : Xb wr B ex) (i : Nat) : wr.frozen? ⟨B,i,none⟩ = false:=by
 have h' : wr.heap[B]? = some (.cells (exA ex) 94 (0,0)):=h
 simp [World.frozen?,h']
theorem Xb.set {wr : World} {B : Nat} {ex : Nat → Nat → Int} (h : Xb wr B ex) (i j : Nat) (hi : i < 41) (hj : j < 41) (v : Int) {ex' : Nat → Nat → Int} (he : ∀ a b,ex' a b = if a = i ∧ b = j then v else ex a b) : Xb (wr.setCell ⟨B,i * 41 + j,none⟩ (.int .i64 v)) B ex':=by
 have h' : wr.heap[B]? = some (.cells (exA ex) 94 (0,0)):=h
 unfold Xb
 simp [World.setCell,Array.getElem?_modify,h',exA_set ex i j hi hj v he]
theorem Xb.move {w w1 : World} {B : Nat} {ex : Nat → Nat → Int} (h : Xb w B ex) (hm : w1.heap[B]? = w.heap[B]?) : Xb w1 B ex:=hm.trans h
def intsA (f : Nat → Int) (n : Nat) : Array Value:=(Array.range n).map fun b=>.int .i64 (f b)
theorem intsA_get (f : Nat → Int) (n i : Nat) (h : i < n) : (intsA f n)[i]? = some (.int .i64 (f i)):=by simp [intsA,h]
theorem intsA_set (f f' : Nat → Int) (n i : Nat) (v : Int) (he : ∀ b,b < n → f' b = if b = i then v else f b) : (intsA f n).setIfInBounds i (.int .i64 v) = intsA f' n:=by
 apply Array.ext_getElem?
 intro c;by_cases hc : c < n
 ·rw [intsA_get f' n c hc,he c hc];by_cases e : c = i
  ·subst e;simp [Array.getElem?_setIfInBounds,intsA,hc]
  (rw [if_neg e,Array.getElem?_setIfInBounds,if_neg (Ne.symm e),intsA_get f n c hc])
 ·simp [Array.getElem?_setIfInBounds,hc,intsA]
theorem intsA_ext (f f' : Nat → Int) (n : Nat) (he : ∀ b,b < n → f' b = f b) : intsA f' n = intsA f n:=by
 apply Array.ext_getElem?
 intro c;by_cases hc : c < n
 (rw [intsA_get f' n c hc,intsA_get f n c hc,he c hc])
 ·simp [hc,intsA]
theorem intsA_zero (n : Nat) : madeCells #[.int .i64 0] n = intsA (fun _=>0) n:=by
 apply Array.ext_getElem?
 intro c;by_cases hc : c < n
 ·rw [intsA_get _ n c hc];simp [madeCells,hc,Nat.mod_one]
 ·simp [hc,intsA,madeCells]
def rowV (b wid : Nat) : Value:=.slice (some ⟨b,0,none⟩) (wid + 1) (wid + 1)
def rowsA (bs : Nat → Nat) (len wid n : Nat) : Array Value:=(Array.range (len + 1)).map fun j=>if j < n then rowV (bs j) wid else .slice none 0 0
theorem rowsA_get (bs : Nat → Nat) (len wid n j : Nat) (h : j < n) (hn : n ≤ len + 1) : (rowsA bs len wid n)[j]? = some (rowV (bs j) wid):=by
 have : j < len + 1:=by omega
 simp [rowsA,this,h]
theorem rowsA_set (bs bs' : Nat → Nat) (len wid n r : Nat) (hn : n < len + 1) (h1 : ∀ j,j < n → bs' j = bs j) (h2 : bs' n = r) : (rowsA bs len wid n).setIfInBounds n (rowV r wid) = rowsA bs' len wid (n + 1):=by
 apply Array.ext_getElem?
 intro c;by_cases hc : c < len + 1
 ·by_cases e : c = n
  ·subst e
   simp [Array.getElem?_setIfInBounds,rowsA,hc,h2]
  ·rw [Array.getElem?_setIfInBounds,if_neg (Ne.symm e)];by_cases hcn : c < n
   ·have : c < n + 1:=by omega
    simp [rowsA,hc,hcn,this,h1 c hcn]
   ·have : ¬ c < n + 1:=by omega
    simp [rowsA,hc,hcn,this]
 ·simp [Array.getElem?_setIfInBounds,hc,rowsA]
theorem rowsA_zero (bs : Nat → Nat) (len wid : Nat) : madeCells #[.slice none 0 0] (len + 1) = rowsA bs len wid 0:=by
 apply Array.ext_getElem?
 intro c;by_cases hc : c < len + 1
 ·simp [rowsA,madeCells,hc,Nat.mod_one]
 ·simp [hc,rowsA,madeCells]
structure TabW (w wr : World) (Bt : Nat) (bs : Nat → Nat) (G ex : Nat → Nat → Int) (len wid n : Nat) : Prop where
 below : Below w.heap.size w wr
 x : Xb wr w.heap.size ex
 t : wr.heap[Bt]? = some (.cells (rowsA bs len wid n) 54 (0,0))
 rows : ∀ j,j < n → wr.heap[bs j]? = some (.cells (intsA (G j) (wid + 1)) 2 (0,0))
 lt0 : w.heap.size < Bt
 ltB : Bt < wr.heap.size
 lt1 : ∀ j,j < n → Bt < bs j
 lt2 : ∀ j,j < n → bs j < wr.heap.size
 inj : ∀ i j,i < j → j < n → bs i < bs j
 le : n ≤ len + 1
section
variable {w wr : World} {Bt : Nat} {bs : Nat → Nat} {G ex : Nat → Nat → Int} {len wid n : Nat}
theorem TabW.drewN (h : TabW w wr Bt bs G ex len wid n) (m : Nat) : TabW w (wr.drewN m) Bt bs G ex len wid n :=
 ⟨pw_below_drewN h.below m,h.x,h.t,h.rows,h.lt0,h.ltB,h.lt1,h.lt2,h.inj,h.le⟩
theorem TabW.cellT (h : TabW w wr Bt bs G ex len wid n) (j : Nat) (hj : j < n) : wr.cell? ⟨Bt,j,none⟩ = some (.slice (some ⟨bs j,0,none⟩) (wid + 1) (wid + 1)):=by
 simp only [World.cell?,h.t];have h2:=rowsA_get bs len wid n j hj h.le
 unfold rowV at h2
 simpa using h2
theorem TabW.cellR (h : TabW w wr Bt bs G ex len wid n) (j b : Nat) (hj : j < n) (hb : b ≤ wid) : wr.cell? ⟨bs j,b,none⟩ = some (.int .i64 (G j b)):=by
 simp only [World.cell?,h.rows j hj]
 simpa using intsA_get (G j) (wid + 1) b (by omega)
theorem TabW.freeR (h : TabW w wr Bt bs G ex len wid n) (j b : Nat) (hj : j < n) : wr.frozen? ⟨bs j,b,none⟩ = false:=by
 simp [World.frozen?,h.rows j hj]
theorem TabW.cellNew (h : TabW w wr Bt bs G ex len wid n) (hn : n < len + 1) (o : Obj) : (wr.alloc o).cell? ⟨Bt,n,none⟩ = some (.slice none 0 0) ∧ (wr.alloc o).frozen? ⟨Bt,n,none⟩ = false:=by
 have ht : (wr.alloc o).heap[Bt]? = some (.cells (rowsA bs len wid n) 54 (0,0)):=(Below.heap_alloc _ _ _ h.ltB).trans h.t
 constructor
 ·simp only [World.cell?,ht]
  simp [rowsA,hn]
 ·simp [World.frozen?,ht]
def partG (F : Nat → Nat → Int) (n m : Nat) : Nat → Nat → Int:=fun j b=>if j < n then F j b else if b < m then F n b else 0
theorem TabW.ext {G' : Nat → Nat → Int} (h : TabW w wr Bt bs G ex len wid n) (he : ∀ j b,j < n → b ≤ wid → G' j b = G j b) : TabW w wr Bt bs G' ex len wid n :=
 ⟨h.below,h.x,h.t,fun j hj=>by rw [h.rows j hj,intsA_ext (G j) (G' j) (wid + 1) (fun b hb=>he j b hj (by omega))],h.lt0,h.ltB,h.lt1,h.lt2,h.inj,h.le⟩
theorem TabW.setR {G' : Nat → Nat → Int} (h : TabW w wr Bt bs G ex len wid n) (i m : Nat) (v : Int) (hi : i < n) (he : ∀ j b, j < n → b ≤ wid → G' j b = if j = i ∧ b = m then v else G j b) :
  TabW w (wr.setCell ⟨bs i,m,none⟩ (.int .i64 v)) Bt bs G' ex len wid n:=by
 have hne : ∀ j,j < n → j ≠ i → bs j ≠ bs i:=by
  intro j hj hji
  rcases Nat.lt_or_gt_of_ne hji with hlt|hgt
  ·have:=h.inj j i hlt hi;omega
  ·have:=h.inj i j hgt hj;omega
 have b1:=h.lt1 i hi;have b0:=h.lt0
 refine ⟨h.below.setCell (by show _ ≤ bs i;omega) _,h.x.move (heap_far _ _ _ _ _ (by omega)),(heap_far _ _ _ _ _ (by omega)).trans h.t, ?_,h.lt0,by simpa using h.ltB,h.lt1,fun j hj=>by simpa using h.lt2 j hj,h.inj,h.le⟩
 intro j hj;by_cases e : j = i
 (subst e;simp only [World.setCell,Array.getElem?_modify,h.rows j hj,if_true,Option.map_some];simp only [Option.isSome_none,Bool.false_eq_true,if_false];rw [intsA_set (G j) (G' j) (wid + 1) m v (fun b hb=>by rw [he j b hj (by omega)];simp)]);(rw [heap_far _ _ _ _ _ (hne j hj e),h.rows j hj,intsA_ext (G j) (G' j) (wid + 1) (fun b hb=>by rw [he j b hj (by omega),if_neg (by omega)])])
theorem TabW.newRow {G' : Nat → Nat → Int} (h : TabW w wr Bt bs G ex len wid n) (hn : n < len + 1) (he : ∀ j b, j < n → b ≤ wid → G' j b = G j b) (h0 : ∀ b, b ≤ wid → G' n b = 0) :
  TabW w ((wr.alloc (.cells (madeCells #[.int .i64 0] (wid + 1)) 2)).setCell ⟨Bt,n,none⟩ (.slice (some ⟨wr.heap.size,0,none⟩) (wid + 1) (wid + 1))) Bt (fun j=>if j = n then wr.heap.size else bs j) G' ex len wid (n + 1):=by
 have b0:=h.lt0;have bB:=h.ltB
 refine ⟨(h.below.alloc h.below.size _).setCell (by show _ ≤ Bt;omega) _,h.x.move ((heap_far _ _ _ _ _ (by omega)).trans (Below.heap_alloc _ _ _ (by omega))), ?_, ?_,h.lt0,by simp;omega, ?_, ?_, ?_,by omega⟩
 ·have ht : (wr.alloc (.cells (madeCells #[.int .i64 0] (wid + 1)) 2)).heap[Bt]? = some (.cells (rowsA bs len wid n) 54 (0,0)):=(Below.heap_alloc _ _ _ bB).trans h.t;simp only [World.setCell,Array.getElem?_modify,ht,if_true,Option.map_some];simp only [Option.isSome_none,Bool.false_eq_true,if_false]
  have:=rowsA_set bs (fun j=>if j = n then wr.heap.size else bs j) len wid n wr.heap.size hn (fun j hj=>by simp;omega) (by simp)
  unfold rowV at this
  rw [this]
 ·intro j hj;by_cases e : j = n
  (subst e;simp only [if_true];rw [heap_far _ _ _ _ _ (by omega),heap_alloc_new,intsA_zero,intsA_ext (fun _=>0) (G' j) (wid + 1) (fun b hb=>h0 b (by omega))])
  ·have hjn : j < n:=by omega
   simp only [if_neg e]
   have:=h.lt1 j hjn
   rw [heap_far _ _ _ _ _ (by omega),Below.heap_alloc _ _ _ (h.lt2 j hjn),h.rows j hjn,intsA_ext (G j) (G' j) (wid + 1) (fun b hb=>he j b hjn (by omega))]
 ·intro j hj;by_cases e : j = n
  ·simp only [if_pos e];omega
  (simp only [if_neg e];exact h.lt1 j (by omega))
 ·intro j hj;by_cases e : j = n
  ·simp [if_pos e]
  ·simp only [if_neg e];have:=h.lt2 j (by omega);simp;omega
 ·intro i j hij hj
  have : i ≠ n:=by omega
  simp only [if_neg this];by_cases e : j = n
  (simp only [if_pos e];exact h.lt2 i (by omega));(simp only [if_neg e];exact h.inj i j hij (by omega))
end
end Go.Proofs.Ytdnjagfbhppmbaa.PA
