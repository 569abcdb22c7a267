import Derived.Test.YtbggjmdelnmilaaGe
import Derived.Test.YtbggjmdelnmilaaGi
import Derived.Test.YtbggjmdelnmilaaGl
namespace Go.Proofs.Ytbggjmdelnmilaa.PA
open Go.RowKit Go.Shelf Go.Proofs.YtbggjmdelnmilaaW.PrintWords Go.Proofs.YtbggjmdelnmilaaW.PrintLast Go.Proofs.YtbggjmdelnmilaaW.PrintMore
theorem bl_trans : ∀ a b c : List UInt8,Op.bytesLess a b = true → Op.bytesLess b c = true → Op.bytesLess a c = true
 | a,b,[],_,h=>by cases b <;> simp [Op.bytesLess] at h
 | [],b,c :: z,_,_=>rfl
 | a :: x,[],c :: z,h,_=>by simp [Op.bytesLess] at h
 | a :: x,b :: y,c :: z,h1,h2=>by
  simp only [Op.bytesLess,Bool.or_eq_true,decide_eq_true_eq,Bool.and_eq_true,beq_iff_eq] at *
  rcases h1 with h1|⟨rfl,h1⟩
  ·rcases h2 with h2|⟨rfl,h2⟩
   (exact .inl (UInt8.lt_trans h1 h2));(exact .inl h1)
  ·rcases h2 with h2|⟨rfl,h2⟩
   (exact .inl h2);(exact .inr ⟨rfl,bl_trans x y z h1 h2⟩)
theorem bl_irr : ∀ a : List UInt8,Op.bytesLess a a = false
 | []=>rfl
 | a :: x=>by simp [Op.bytesLess,bl_irr x]
theorem bl_total : ∀ a b : List UInt8,Op.bytesLess a b = false → a ≠ b → Op.bytesLess b a = true
 | [],[],_,h=>absurd rfl h
 | a :: x,[],_,_=>rfl
 | [],b :: y,h,_=>by simp [Op.bytesLess] at h
 | a :: x,b :: y,h,hne=>by
  simp only [Op.bytesLess,Bool.or_eq_false_iff,decide_eq_false_iff_not,Bool.and_eq_false_iff] at h;simp only [Op.bytesLess,Bool.or_eq_true,decide_eq_true_eq,Bool.and_eq_true,beq_iff_eq];by_cases e : a = b
  ·subst e
   refine .inr ⟨rfl,bl_total x y ?_ (fun h=>hne (by rw [h]))⟩
   rcases h.2 with h|h
   ·simp at h
   (exact h)
  ·refine .inl ?_
   have h1:=h.1;rw [UInt8.not_lt] at h1
   rcases UInt8.le_iff_lt_or_eq.1 h1 with h2|h2
   (exact h2);(exact absurd h2.symm e)
theorem cmpS_neg {a b : ByteArray} : cmpS a b < 0 ↔ Op.bytesLess a.toList b.toList = true:=by
 unfold cmpS
 cases h : Op.bytesLess a.toList b.toList with
 | true=>simp
 | false =>
  by_cases e : a.toList = b.toList <;> simp [e]
theorem cmpS_zero {a b : ByteArray} : cmpS a b = 0 ↔ a.toList = b.toList:=by
 unfold cmpS
 cases h : Op.bytesLess a.toList b.toList with
 | true =>
  simp
  intro e;rw [e,bl_irr] at h
  cases h
 | false =>
  by_cases e : a.toList = b.toList <;> simp [e]
def Ord (l : List S39) : Prop:=l.Pairwise fun x y=>Op.bytesLess x.f0.toList y.f0.toList = true
def cntR (l : List S39) (r : S39) : Nat:=l.countP fun x=>decide (cmpS x.f0 r.f0 < 0)
def foundB (l : List S39) (r : S39) : Bool:=((l[cntR l r]?).map fun x=>decide (cmpS x.f0 r.f0 = 0)).getD false
def putR (l : List S39) (r : S39) : List S39:=l.take (cntR l r) ++ [r] ++ l.drop (cntR l r)
theorem cntR_le (l : List S39) (r : S39) : cntR l r ≤ l.length:=List.countP_le_length
theorem putR_len (l : List S39) (r : S39) : (putR l r).length = l.length + 1:=by
 have:=cntR_le l r
 unfold putR
 simp only [List.length_append,List.length_take,List.length_drop,List.length_singleton];omega
theorem Ord.mono {l : List S39} (h : Ord l) (t : S39) : ∀ a b (_ha : a < l.length) (_hb : b < l.length),a ≤ b → cmpS l[b].f0 t.f0 < 0 → cmpS l[a].f0 t.f0 < 0:=by
 intro a b ha hb hab hc
 rcases Nat.lt_or_ge a b with hlt|hge
 (rw [cmpS_neg] at *;exact bl_trans _ _ _ (List.pairwise_iff_getElem.1 h a b ha hb hlt) hc)
 ·obtain rfl : a = b:=by omega
  exact hc
theorem cntR_split : ∀ {l : List S39} (_ : Ord l) (r : S39),(∀ x ∈ l.take (cntR l r),Op.bytesLess x.f0.toList r.f0.toList = true) ∧ (∀ x ∈ l.drop (cntR l r),Op.bytesLess x.f0.toList r.f0.toList = false)
 | [],_,r=>by simp
 | a :: l,h,r=>by
  have hp:=List.pairwise_cons.1 h;obtain ⟨i1,i2⟩ := cntR_split (l:=l) hp.2 r
  cases ha : Op.bytesLess a.f0.toList r.f0.toList with
  | true =>
   have e : cntR (a :: l) r = cntR l r + 1:=List.countP_cons_of_pos (by rw [decide_eq_true_eq,cmpS_neg];exact ha);rw [e]
   refine ⟨fun x hx=>?_,fun x hx=>i2 x (by simpa using hx)⟩
   rw [List.take_succ_cons,List.mem_cons] at hx
   rcases hx with rfl|hx
   (exact ha);(exact i1 x hx)
  | false =>
   have hn : ∀ x ∈ a :: l,Op.bytesLess x.f0.toList r.f0.toList = false:=by
    intro x hx
    rcases List.mem_cons.1 hx with rfl|hx
    (exact ha)
    ·cases hb : Op.bytesLess x.f0.toList r.f0.toList with
     | false=>rfl
     | true=>rw [bl_trans _ _ _ (hp.1 x hx) hb] at ha;cases ha
   have e : cntR (a :: l) r = 0:=List.countP_eq_zero.2 (fun x hx=>by rw [decide_eq_true_eq,cmpS_neg,hn x hx];simp);rw [e];exact ⟨by simp,fun x hx=>hn x (by simpa using hx)⟩
theorem behindR {l : List S39} (h : Ord l) {r : S39} (hf : foundB l r = false) : ∀ x ∈ l.drop (cntR l r),Op.bytesLess r.f0.toList x.f0.toList = true:=by
 intro x hx;have hs:=cntR_split h r;obtain ⟨q,hq,rfl⟩ := List.getElem_of_mem hx
 have hl : cntR l r < l.length:=by
  rw [List.length_drop] at hq;omega
 have h0 : Op.bytesLess r.f0.toList l[cntR l r].f0.toList = true:=by
  refine bl_total _ _ (hs.2 _ ?_) ?_
  (rw [List.mem_drop_iff_getElem];exact ⟨0,by omega,by simp⟩)
  ·intro e
   unfold foundB at hf
   rw [List.getElem?_eq_getElem hl] at hf
   simp [cmpS_zero,e] at hf
 rw [List.getElem_drop]
 rcases Nat.eq_zero_or_pos q with e|e
 (subst e;exact h0);(rw [List.length_drop] at hq;exact bl_trans _ _ _ h0 (List.pairwise_iff_getElem.1 h _ _ hl (by omega) (by omega)))
theorem Ord.put {l : List S39} (h : Ord l) {r : S39} (hf : foundB l r = false) : Ord (putR l r):=by
 have hs:=cntR_split h r;have hb:=behindR h hf;have hd : Ord (l.drop (cntR l r)):=List.Pairwise.sublist (List.drop_sublist _ _) h;have ht : Ord (l.take (cntR l r)):=List.Pairwise.sublist (List.take_sublist _ _) h
 unfold putR Ord
 rw [List.append_assoc,List.pairwise_append]
 refine ⟨ht, ?_, ?_⟩
 (rw [List.singleton_append,List.pairwise_cons];exact ⟨hb,hd⟩)
 ·intro a ha b hb';rw [List.singleton_append,List.mem_cons] at hb'
  rcases hb' with rfl|hb'
  (exact hs.1 a ha);(exact bl_trans _ _ _ (hs.1 a ha) (hb b hb'))
theorem Ord.less {l : List S39} (h : Ord l) (i : Nat) : Ord (l.take i ++ l.drop (i + 1)):=by
 refine List.Pairwise.sublist ?_ h
 have h1 : (l.take i ++ l.drop (i + 1)).Sublist (l.take i ++ l.drop i):=List.Sublist.append (List.Sublist.refl _) (by
  rw [← List.drop_drop]
  exact List.drop_sublist _ _)
 rwa [List.take_append_drop] at h1
def keptR (x : S39) (y : S36) (k n : Int) : List S39:=(restR x y k).filter fun r=>!smallB n r
theorem keptR_len (x : S39) (y : S36) (k n : Int) : (keptR x y k n).length ≤ 3:=Nat.le_trans (List.length_filter_le _ _) (restN_len _ _ _ _)
def insAll : List S39 → List S39 → Option (List S39)
 | l,[]=>some l
 | l,r :: rs=>if foundB l r = true then none else insAll (putR l r) rs
abbrev T5 : Type:=List S39 × ByteArray × ByteArray × Bool × Int
def none5 (e : Int) : T5:=([],⟨#[]⟩,⟨#[]⟩,false,e)
def takeR (l : List S39) (i : Nat) (y : S36) (k n : Int) : T5 :=
 if ((keptR (l.getD i z39) y k n).any fun r=>!lexName r.f0) = true then none5 4 else
 match insAll (l.take i ++ l.drop (i + 1)) (keptR (l.getD i z39) y k n) with
 | none=>none5 5
 | some out=>if 256 < out.length then none5 7 else (out,y.f0,(l.getD i z39).f0,(fitsB (l.getD i z39) y).2,0)
theorem abc_size (i : Nat) : (abc i).size ≤ 1:=by
 unfold abc
 rw [ByteArray.size_extract]
 omega
theorem rest_size (x : S39) (y : S36) (k : Int) (b : Nat) (hx : x.f0.size + 1 ≤ b) : ∀ r ∈ restR x y k,r.f0.size ≤ b:=by
 intro r hr
 have key : ∀ i v,(one x i v).f0.size ≤ b:=by
  intro i v
  have:=abc_size i
  unfold one
  simp only [ByteArray.size_append]
  omega
 unfold restR restN r0 r1 r2 at hr
 simp only [List.mem_append] at hr
 rcases hr with (hr|hr)|hr
 all_goals
  split at hr
  (rw [List.mem_singleton] at hr;subst hr;exact key _ _)
  ·cases hr
end Go.Proofs.Ytbggjmdelnmilaa.PA
