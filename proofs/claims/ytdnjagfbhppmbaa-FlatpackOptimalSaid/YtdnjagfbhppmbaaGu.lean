import Derived.Test.YtdnjagfbhppmbaaGa
import Derived.Test.YtdnjagfbhppmbaaGq
import Derived.WalkLawsBesides
namespace Go.Proofs.Ytdnjagfbhppmbaa.PA
open Go.RowKit Go.Shelf Go.Proofs.YtdnjagfbhppmbaaW.PrintWords Go.Proofs.YtdnjagfbhppmbaaW.PrintLast Go.Proofs.YtdnjagfbhppmbaaW.PrintMore
set_option linter.unusedVariables false
set_option linter.unusedSimpArgs false
def cooB (n : Int) : Bool:=decide (1 ≤ n) && decide (n ≤ 1000000)
set_option maxHeartbeats 400000 in
theorem c79_any (n : Int) (w : World) : Calls Try.prog 79 #[.int .i64 n] w fun e w'=>e = .returned (.bool (cooB n)) ∧ w = w':=by
 unfold cooB
 by_cases h1 : 1 ≤ n
 ·go_enter Try.func79,Try.ntmps79
  go_wp2
  go_ret
  exact ⟨ok_bool (by simp [h1]),rfl⟩
 ·go_enter Try.func79,Try.ntmps79
  go_wp2
  go_ret
  exact ⟨ok_bool (by simp;omega),rfl⟩
def sizedB (v : S34) : Bool:=cooB v.f0 && (cooB v.f1 && cooB v.f2)
set_option maxHeartbeats 400000 in
theorem sized_any (v : S34) (w : World) : Calls Try.prog 70 #[.agg #[.int .i64 v.f0,.int .i64 v.f1,.int .i64 v.f2]] w fun e w'=>e = .returned (.bool (sizedB v)) ∧ Below w.heap.size w w':=by
 obtain ⟨a,b,c⟩ := v
 unfold sizedB
 dsimp only
 cases ha : cooB a
 ·go_enter Try.func70,Try.ntmps70
  go_wp2_with (go_at_call 79;refine (c79_any _ _).mono ?_;rintro e w1 ⟨rfl,rfl⟩)
  go_ret
  exact ⟨rfl,below_alloc (Below.refl _ _) _⟩
 ·cases hb : cooB b
  ·go_enter Try.func70,Try.ntmps70
   go_wp2_with (go_at_call 79;refine (c79_any _ _).mono ?_;rintro e w1 ⟨rfl,rfl⟩)
   go_ret
   exact ⟨rfl,below_alloc (Below.refl _ _) _⟩
  ·go_enter Try.func70,Try.ntmps70
   go_wp2_with (go_at_call 79;refine (c79_any _ _).mono ?_;rintro e w1 ⟨rfl,rfl⟩)
   go_ret
   exact ⟨by simp,below_alloc (Below.refl _ _) _⟩
def partB (k i cnt : Int) : Bool:=decide (i < k) && decide (k < cnt)
set_option maxHeartbeats 400000 in
theorem c91_any (k i cnt : Int) (b1 b2 : Nat) (w : World) (h1 : w.cell? ⟨b1, 0, none⟩ = some (.int .i64 i)) (h2 : w.cell? ⟨b2, 0, none⟩ = some (.int .i64 cnt)) :
  Calls Try.prog 91 #[.int .i64 k,.pointer (some ⟨b1,0,none⟩),.pointer (some ⟨b2,0,none⟩)] w fun e w'=>e = .returned (.bool (partB k i cnt)) ∧ w = w':=by
 unfold partB
 by_cases h : i < k
 ·go_enter Try.func91,Try.ntmps91
  go_wp2
  go_ret
  exact ⟨ok_bool (by simp [h]),rfl⟩
 ·go_enter Try.func91,Try.ntmps91
  go_wp2
  go_ret
  exact ⟨ok_bool (by simp;omega),rfl⟩
theorem c91_at (cs : Array Value) (k i cnt : Int) (w : World) :
  Calls Try.prog 91 #[.int .i64 k,.pointer (some ⟨w.heap.size + 1,0,none⟩),.pointer (some ⟨w.heap.size + 1 + 1,0,none⟩)] (((w.alloc (.cells cs 59)).alloc (.cells #[.int .i64 i] 3)).alloc (.cells #[.int .i64 cnt] 3)) fun e w'=>e = .returned (.bool (partB k i cnt)) ∧ (((w.alloc (.cells cs 59)).alloc (.cells #[.int .i64 i] 3)).alloc (.cells #[.int .i64 cnt] 3)) = w':=by
 refine c91_any k i cnt _ _ _ ?_ ?_
 (go_simp);(go_simp)
def cutR (n : S59) (i cnt : Int) : Int:=if n.f1.toList.isEmpty = true then (if n.f2 < 0 then 1 else if 2 < n.f2 then 1 else if partB n.f5 i cnt = true then (if partB n.f6 i cnt = true then (if n.f4 < 0 then 6 else if 1000 < n.f4 then 6 else 0) else 1) else 1) else 1
def plainR (n : S59) : Int:=if n.f2 = 0 then (if n.f3 = 0 then (if n.f4 = 0 then (if n.f5 = 0 then (if n.f6 = 0 then (if n.f0 = 0 then (if n.f1.toList.isEmpty = true then 0 else 1) else (if lexName n.f1 = true then 0 else 4)) else 1) else 1) else 1) else 1) else 1
def nodeR (n : S59) (i cnt : Int) : Int:=if n.f0 = 3 then cutR n i cnt else if n.f0 = 0 ∨ n.f0 = 1 ∨ n.f0 = 2 then plainR n else 1
set_option maxRecDepth 100000 in
set_option maxHeartbeats 4000000 in
theorem node_cut (n : S59) (i cnt : Int) (w : World) (hk : n.f0 = 3) : Calls Try.prog 80 #[.agg #[.int .i64 n.f0,.string n.f1,.int .i64 n.f2,.int .i64 n.f3,.int .i64 n.f4,.int .i64 n.f5,.int .i64 n.f6],.int .i64 i,.int .i64 cnt] w fun e w'=>e = .returned (.int .i64 (cutR n i cnt)) ∧ Below w.heap.size w w':=by
 obtain ⟨f0,f1,f2,f3,f4,f5,f6⟩ := n
 dsimp only at hk ⊢
 subst hk
 unfold cutR
 dsimp only
 cases h1 : f1.toList.isEmpty
 ·have h1b : (!f1.toList.isEmpty) = true:=by rw [h1];rfl
  rw [if_neg (by decide)]
  go_enter Try.func80,Try.ntmps80
  go_wp2_with (first|(go_at_call 91;refine (c91_at _ _ _ _ _).mono ?_;rintro e w1 ⟨rfl,rfl⟩))
  go_ret
  exact ⟨rfl,below_alloc (below_alloc (below_alloc (Below.refl _ _) _) _) _⟩
 ·have h1b : (!f1.toList.isEmpty) = false:=by rw [h1];rfl
  rw [if_pos rfl];by_cases h2 : f2 < 0
  ·rw [if_pos h2]
   go_enter Try.func80,Try.ntmps80
   go_wp2_with (first|(go_at_call 91;refine (c91_at _ _ _ _ _).mono ?_;rintro e w1 ⟨rfl,rfl⟩))
   go_ret
   exact ⟨rfl,below_alloc (below_alloc (below_alloc (Below.refl _ _) _) _) _⟩
  ·rw [if_neg h2];by_cases h3 : 2 < f2
   ·rw [if_pos h3]
    go_enter Try.func80,Try.ntmps80
    go_wp2_with (first|(go_at_call 91;refine (c91_at _ _ _ _ _).mono ?_;rintro e w1 ⟨rfl,rfl⟩))
    go_ret
    exact ⟨rfl,below_alloc (below_alloc (below_alloc (Below.refl _ _) _) _) _⟩
   ·rw [if_neg h3]
    cases h5 : partB f5 i cnt
    ·rw [if_neg (by decide)]
     go_enter Try.func80,Try.ntmps80
     go_wp2_with (first|(go_at_call 91;refine (c91_at _ _ _ _ _).mono ?_;rintro e w1 ⟨rfl,rfl⟩))
     go_ret
     exact ⟨rfl,below_alloc (below_alloc (below_alloc (Below.refl _ _) _) _) _⟩
    ·rw [if_pos rfl]
     cases h6 : partB f6 i cnt
     ·rw [if_neg (by decide)]
      go_enter Try.func80,Try.ntmps80
      go_wp2_with (first|(go_at_call 91;refine (c91_at _ _ _ _ _).mono ?_;rintro e w1 ⟨rfl,rfl⟩))
      go_ret
      exact ⟨rfl,below_alloc (below_alloc (below_alloc (Below.refl _ _) _) _) _⟩
     ·rw [if_pos rfl];by_cases h4 : f4 < 0
      ·rw [if_pos h4]
       go_enter Try.func80,Try.ntmps80
       go_wp2_with (first|(go_at_call 91;refine (c91_at _ _ _ _ _).mono ?_;rintro e w1 ⟨rfl,rfl⟩))
       go_ret
       exact ⟨rfl,below_alloc (below_alloc (below_alloc (Below.refl _ _) _) _) _⟩
      ·rw [if_neg h4];by_cases h7 : 1000 < f4
       ·rw [if_pos h7]
        go_enter Try.func80,Try.ntmps80
        go_wp2_with (first|(go_at_call 91;refine (c91_at _ _ _ _ _).mono ?_;rintro e w1 ⟨rfl,rfl⟩))
        go_ret
        exact ⟨rfl,below_alloc (below_alloc (below_alloc (Below.refl _ _) _) _) _⟩
       ·rw [if_neg h7]
        go_enter Try.func80,Try.ntmps80
        go_wp2_with (first|(go_at_call 91;refine (c91_at _ _ _ _ _).mono ?_;rintro e w1 ⟨rfl,rfl⟩))
        go_ret
        exact ⟨rfl,below_alloc (below_alloc (below_alloc (Below.refl _ _) _) _) _⟩
theorem belU {a b c : World} (h : Below a.heap.size a b) (k : Below b.heap.size b c) : Below a.heap.size a c:=h.trans (k.mono h.size)
set_option maxRecDepth 100000 in
set_option maxHeartbeats 4000000 in
theorem node_plain0 (n : S59) (i cnt : Int) (w : World) (hk : n.f0 = 0) (hs : n.f1.size ≤ 9223372036854775807) : Calls Try.prog 80 #[.agg #[.int .i64 n.f0,.string n.f1,.int .i64 n.f2,.int .i64 n.f3,.int .i64 n.f4,.int .i64 n.f5,.int .i64 n.f6],.int .i64 i,.int .i64 cnt] w fun e w'=>e = .returned (.int .i64 (plainR n)) ∧ Below w.heap.size w w':=by
 have hl:=fun W=>lexName_any n.f1 W hs
 obtain ⟨f0,f1,f2,f3,f4,f5,f6⟩ := n
 dsimp only at hk hl ⊢
 subst hk
 unfold plainR
 dsimp only
 have HL:=aside hl;clear hl hs;by_cases h_f2 : f2 = 0
 rotate_left
 ·rw [if_neg h_f2]
  have e_f2 : (f2 != 0) = true:=by simpa using h_f2
  have g_f2 : (f2 == 0) = false:=by simpa using h_f2
  have H_f2:=aside h_f2;clear h_f2
  go_enter Try.func80,Try.ntmps80
  go_wp2_with (first|(go_at_call 91;refine (c91_at _ _ _ _ _).mono ?_;rintro e w1 ⟨rfl,rfl⟩))
  go_ret
  exact ⟨rfl,below_alloc (below_alloc (below_alloc (Below.refl _ _) _) _) _⟩
 ·subst h_f2;rw [if_pos rfl];by_cases h_f3 : f3 = 0
  rotate_left
  ·rw [if_neg h_f3]
   have e_f3 : (f3 != 0) = true:=by simpa using h_f3
   have g_f3 : (f3 == 0) = false:=by simpa using h_f3
   have H_f3:=aside h_f3;clear h_f3
   go_enter Try.func80,Try.ntmps80
   go_wp2_with (first|(go_at_call 91;refine (c91_at _ _ _ _ _).mono ?_;rintro e w1 ⟨rfl,rfl⟩))
   go_ret
   exact ⟨rfl,below_alloc (below_alloc (below_alloc (Below.refl _ _) _) _) _⟩
  ·subst h_f3;rw [if_pos rfl];by_cases h_f4 : f4 = 0
   rotate_left
   ·rw [if_neg h_f4]
    have e_f4 : (f4 != 0) = true:=by simpa using h_f4
    have g_f4 : (f4 == 0) = false:=by simpa using h_f4
    have H_f4:=aside h_f4;clear h_f4
    go_enter Try.func80,Try.ntmps80
    go_wp2_with (first|(go_at_call 91;refine (c91_at _ _ _ _ _).mono ?_;rintro e w1 ⟨rfl,rfl⟩))
    go_ret
    exact ⟨rfl,below_alloc (below_alloc (below_alloc (Below.refl _ _) _) _) _⟩
   ·subst h_f4;rw [if_pos rfl];by_cases h_f5 : f5 = 0
    rotate_left
    ·rw [if_neg h_f5]
     have e_f5 : (f5 != 0) = true:=by simpa using h_f5
     have g_f5 : (f5 == 0) = false:=by simpa using h_f5
     have H_f5:=aside h_f5;clear h_f5
     go_enter Try.func80,Try.ntmps80
     go_wp2_with (first|(go_at_call 91;refine (c91_at _ _ _ _ _).mono ?_;rintro e w1 ⟨rfl,rfl⟩))
     go_ret
     exact ⟨rfl,below_alloc (below_alloc (below_alloc (Below.refl _ _) _) _) _⟩
    ·subst h_f5;rw [if_pos rfl];by_cases h_f6 : f6 = 0
     rotate_left
     ·rw [if_neg h_f6]
      have e_f6 : (f6 != 0) = true:=by simpa using h_f6
      have g_f6 : (f6 == 0) = false:=by simpa using h_f6
      have H_f6:=aside h_f6;clear h_f6
      go_enter Try.func80,Try.ntmps80
      go_wp2_with (first|(go_at_call 91;refine (c91_at _ _ _ _ _).mono ?_;rintro e w1 ⟨rfl,rfl⟩))
      go_ret
      exact ⟨rfl,below_alloc (below_alloc (below_alloc (Below.refl _ _) _) _) _⟩
     ·subst h_f6;rw [if_pos rfl];rw [if_pos rfl]
      cases h1 : f1.toList.isEmpty
      ·have h1b : (!f1.toList.isEmpty) = true:=by rw [h1];rfl
       rw [if_neg (by decide)]
       go_enter Try.func80,Try.ntmps80
       go_wp2_with (first|(go_at_call 91;refine (c91_at _ _ _ _ _).mono ?_;rintro e w1 ⟨rfl,rfl⟩))
       go_ret
       exact ⟨rfl,below_alloc (below_alloc (below_alloc (Below.refl _ _) _) _) _⟩
      ·have h1b : (!f1.toList.isEmpty) = false:=by rw [h1];rfl
       rw [if_pos rfl]
       go_enter Try.func80,Try.ntmps80
       go_wp2_with (first|(go_at_call 91;refine (c91_at _ _ _ _ _).mono ?_;rintro e w1 ⟨rfl,rfl⟩))
       go_ret
       exact ⟨rfl,below_alloc (below_alloc (below_alloc (Below.refl _ _) _) _) _⟩
set_option maxRecDepth 100000 in
set_option maxHeartbeats 4000000 in
theorem node_plain1 (n : S59) (i cnt : Int) (w : World) (hk : n.f0 = 1) (hs : n.f1.size ≤ 9223372036854775807) : Calls Try.prog 80 #[.agg #[.int .i64 n.f0,.string n.f1,.int .i64 n.f2,.int .i64 n.f3,.int .i64 n.f4,.int .i64 n.f5,.int .i64 n.f6],.int .i64 i,.int .i64 cnt] w fun e w'=>e = .returned (.int .i64 (plainR n)) ∧ Below w.heap.size w w':=by
 have hl:=fun W=>lexName_any n.f1 W hs
 obtain ⟨f0,f1,f2,f3,f4,f5,f6⟩ := n
 dsimp only at hk hl ⊢
 subst hk
 unfold plainR
 dsimp only
 have HL:=aside hl;clear hl hs;by_cases h_f2 : f2 = 0
 rotate_left
 ·rw [if_neg h_f2]
  have e_f2 : (f2 != 0) = true:=by simpa using h_f2
  have g_f2 : (f2 == 0) = false:=by simpa using h_f2
  have H_f2:=aside h_f2;clear h_f2
  go_enter Try.func80,Try.ntmps80
  go_wp2_with (first|(go_at_call 91;refine (c91_at _ _ _ _ _).mono ?_;rintro e w1 ⟨rfl,rfl⟩))
  go_ret
  exact ⟨rfl,below_alloc (below_alloc (below_alloc (Below.refl _ _) _) _) _⟩
 ·subst h_f2;rw [if_pos rfl];by_cases h_f3 : f3 = 0
  rotate_left
  ·rw [if_neg h_f3]
   have e_f3 : (f3 != 0) = true:=by simpa using h_f3
   have g_f3 : (f3 == 0) = false:=by simpa using h_f3
   have H_f3:=aside h_f3;clear h_f3
   go_enter Try.func80,Try.ntmps80
   go_wp2_with (first|(go_at_call 91;refine (c91_at _ _ _ _ _).mono ?_;rintro e w1 ⟨rfl,rfl⟩))
   go_ret
   exact ⟨rfl,below_alloc (below_alloc (below_alloc (Below.refl _ _) _) _) _⟩
  ·subst h_f3;rw [if_pos rfl];by_cases h_f4 : f4 = 0
   rotate_left
   ·rw [if_neg h_f4]
    have e_f4 : (f4 != 0) = true:=by simpa using h_f4
    have g_f4 : (f4 == 0) = false:=by simpa using h_f4
    have H_f4:=aside h_f4;clear h_f4
    go_enter Try.func80,Try.ntmps80
    go_wp2_with (first|(go_at_call 91;refine (c91_at _ _ _ _ _).mono ?_;rintro e w1 ⟨rfl,rfl⟩))
    go_ret
    exact ⟨rfl,below_alloc (below_alloc (below_alloc (Below.refl _ _) _) _) _⟩
   ·subst h_f4;rw [if_pos rfl];by_cases h_f5 : f5 = 0
    rotate_left
    ·rw [if_neg h_f5]
     have e_f5 : (f5 != 0) = true:=by simpa using h_f5
     have g_f5 : (f5 == 0) = false:=by simpa using h_f5
     have H_f5:=aside h_f5;clear h_f5
     go_enter Try.func80,Try.ntmps80
     go_wp2_with (first|(go_at_call 91;refine (c91_at _ _ _ _ _).mono ?_;rintro e w1 ⟨rfl,rfl⟩))
     go_ret
     exact ⟨rfl,below_alloc (below_alloc (below_alloc (Below.refl _ _) _) _) _⟩
    ·subst h_f5;rw [if_pos rfl];by_cases h_f6 : f6 = 0
     rotate_left
     ·rw [if_neg h_f6]
      have e_f6 : (f6 != 0) = true:=by simpa using h_f6
      have g_f6 : (f6 == 0) = false:=by simpa using h_f6
      have H_f6:=aside h_f6;clear h_f6
      go_enter Try.func80,Try.ntmps80
      go_wp2_with (first|(go_at_call 91;refine (c91_at _ _ _ _ _).mono ?_;rintro e w1 ⟨rfl,rfl⟩))
      go_ret
      exact ⟨rfl,below_alloc (below_alloc (below_alloc (Below.refl _ _) _) _) _⟩
     ·subst h_f6;rw [if_pos rfl];rw [if_neg (by decide)]
      cases h1 : lexName f1
      ·rw [h1] at HL;rw [if_neg (by decide)]
       go_enter Try.func80,Try.ntmps80
       go_wp2_with (first|(go_at_call 91;refine (c91_at _ _ _ _ _).mono ?_;rintro e w1 ⟨rfl,rfl⟩)|(go_at_call 50;refine (HL.out _).mono ?_;rintro e w1 ⟨rfl,hbb⟩))
       go_ret
       exact ⟨rfl,belU (below_alloc (below_alloc (below_alloc (Below.refl _ _) _) _) _) hbb⟩
      ·rw [h1] at HL;rw [if_pos rfl]
       go_enter Try.func80,Try.ntmps80
       go_wp2_with (first|(go_at_call 91;refine (c91_at _ _ _ _ _).mono ?_;rintro e w1 ⟨rfl,rfl⟩)|(go_at_call 50;refine (HL.out _).mono ?_;rintro e w1 ⟨rfl,hbb⟩))
       go_ret
       exact ⟨rfl,belU (below_alloc (below_alloc (below_alloc (Below.refl _ _) _) _) _) hbb⟩
set_option maxRecDepth 100000 in
set_option maxHeartbeats 4000000 in
theorem node_plain2 (n : S59) (i cnt : Int) (w : World) (hk : n.f0 = 2) (hs : n.f1.size ≤ 9223372036854775807) : Calls Try.prog 80 #[.agg #[.int .i64 n.f0,.string n.f1,.int .i64 n.f2,.int .i64 n.f3,.int .i64 n.f4,.int .i64 n.f5,.int .i64 n.f6],.int .i64 i,.int .i64 cnt] w fun e w'=>e = .returned (.int .i64 (plainR n)) ∧ Below w.heap.size w w':=by
 have hl:=fun W=>lexName_any n.f1 W hs
 obtain ⟨f0,f1,f2,f3,f4,f5,f6⟩ := n
 dsimp only at hk hl ⊢
 subst hk
 unfold plainR
 dsimp only
 have HL:=aside hl;clear hl hs;by_cases h_f2 : f2 = 0
 rotate_left
 ·rw [if_neg h_f2]
  have e_f2 : (f2 != 0) = true:=by simpa using h_f2
  have g_f2 : (f2 == 0) = false:=by simpa using h_f2
  have H_f2:=aside h_f2;clear h_f2
  go_enter Try.func80,Try.ntmps80
  go_wp2_with (first|(go_at_call 91;refine (c91_at _ _ _ _ _).mono ?_;rintro e w1 ⟨rfl,rfl⟩))
  go_ret
  exact ⟨rfl,below_alloc (below_alloc (below_alloc (Below.refl _ _) _) _) _⟩
 ·subst h_f2;rw [if_pos rfl];by_cases h_f3 : f3 = 0
  rotate_left
  ·rw [if_neg h_f3]
   have e_f3 : (f3 != 0) = true:=by simpa using h_f3
   have g_f3 : (f3 == 0) = false:=by simpa using h_f3
   have H_f3:=aside h_f3;clear h_f3
   go_enter Try.func80,Try.ntmps80
   go_wp2_with (first|(go_at_call 91;refine (c91_at _ _ _ _ _).mono ?_;rintro e w1 ⟨rfl,rfl⟩))
   go_ret
   exact ⟨rfl,below_alloc (below_alloc (below_alloc (Below.refl _ _) _) _) _⟩
  ·subst h_f3;rw [if_pos rfl];by_cases h_f4 : f4 = 0
   rotate_left
   ·rw [if_neg h_f4]
    have e_f4 : (f4 != 0) = true:=by simpa using h_f4
    have g_f4 : (f4 == 0) = false:=by simpa using h_f4
    have H_f4:=aside h_f4;clear h_f4
    go_enter Try.func80,Try.ntmps80
    go_wp2_with (first|(go_at_call 91;refine (c91_at _ _ _ _ _).mono ?_;rintro e w1 ⟨rfl,rfl⟩))
    go_ret
    exact ⟨rfl,below_alloc (below_alloc (below_alloc (Below.refl _ _) _) _) _⟩
   ·subst h_f4;rw [if_pos rfl];by_cases h_f5 : f5 = 0
    rotate_left
    ·rw [if_neg h_f5]
     have e_f5 : (f5 != 0) = true:=by simpa using h_f5
     have g_f5 : (f5 == 0) = false:=by simpa using h_f5
     have H_f5:=aside h_f5;clear h_f5
     go_enter Try.func80,Try.ntmps80
     go_wp2_with (first|(go_at_call 91;refine (c91_at _ _ _ _ _).mono ?_;rintro e w1 ⟨rfl,rfl⟩))
     go_ret
     exact ⟨rfl,below_alloc (below_alloc (below_alloc (Below.refl _ _) _) _) _⟩
    ·subst h_f5;rw [if_pos rfl];by_cases h_f6 : f6 = 0
     rotate_left
     ·rw [if_neg h_f6]
      have e_f6 : (f6 != 0) = true:=by simpa using h_f6
      have g_f6 : (f6 == 0) = false:=by simpa using h_f6
      have H_f6:=aside h_f6;clear h_f6
      go_enter Try.func80,Try.ntmps80
      go_wp2_with (first|(go_at_call 91;refine (c91_at _ _ _ _ _).mono ?_;rintro e w1 ⟨rfl,rfl⟩))
      go_ret
      exact ⟨rfl,below_alloc (below_alloc (below_alloc (Below.refl _ _) _) _) _⟩
     ·subst h_f6;rw [if_pos rfl];rw [if_neg (by decide)]
      cases h1 : lexName f1
      ·rw [h1] at HL;rw [if_neg (by decide)]
       go_enter Try.func80,Try.ntmps80
       go_wp2_with (first|(go_at_call 91;refine (c91_at _ _ _ _ _).mono ?_;rintro e w1 ⟨rfl,rfl⟩)|(go_at_call 50;refine (HL.out _).mono ?_;rintro e w1 ⟨rfl,hbb⟩))
       go_ret
       exact ⟨rfl,belU (below_alloc (below_alloc (below_alloc (Below.refl _ _) _) _) _) hbb⟩
      ·rw [h1] at HL;rw [if_pos rfl]
       go_enter Try.func80,Try.ntmps80
       go_wp2_with (first|(go_at_call 91;refine (c91_at _ _ _ _ _).mono ?_;rintro e w1 ⟨rfl,rfl⟩)|(go_at_call 50;refine (HL.out _).mono ?_;rintro e w1 ⟨rfl,hbb⟩))
       go_ret
       exact ⟨rfl,belU (below_alloc (below_alloc (below_alloc (Below.refl _ _) _) _) _) hbb⟩
set_option maxRecDepth 100000 in
set_option maxHeartbeats 4000000 in
theorem node_other (n : S59) (i cnt : Int) (w : World) (hk : ¬ n.f0 = 3) (hk2 : ¬ (n.f0 = 0 ∨ n.f0 = 1 ∨ n.f0 = 2)) : Calls Try.prog 80 #[.agg #[.int .i64 n.f0,.string n.f1,.int .i64 n.f2,.int .i64 n.f3,.int .i64 n.f4,.int .i64 n.f5,.int .i64 n.f6],.int .i64 i,.int .i64 cnt] w fun e w'=>e = .returned (.int .i64 (1)) ∧ Below w.heap.size w w':=by
 obtain ⟨f0,f1,f2,f3,f4,f5,f6⟩ := n
 dsimp only at hk hk2 ⊢
 have k3 : (f0 == 3) = false:=by simpa using hk
 have k0 : (f0 != 0) = true:=by simp;omega
 have k1 : (f0 == 1) = false:=by simp;omega
 have k2 : (f0 == 2) = false:=by simp;omega
 clear hk hk2
 go_enter Try.func80,Try.ntmps80
 go_wp2_with (first|(go_at_call 91;refine (c91_at _ _ _ _ _).mono ?_;rintro e w1 ⟨rfl,rfl⟩))
 go_ret
 exact ⟨rfl,below_alloc (below_alloc (below_alloc (Below.refl _ _) _) _) _⟩
theorem node_any (n : S59) (i cnt : Int) (w : World) (hs : n.f1.size ≤ 9223372036854775807) : Calls Try.prog 80 #[e59 n,.int .i64 i,.int .i64 cnt] w fun e w'=>e = .returned (.int .i64 (nodeR n i cnt)) ∧ Below w.heap.size w w':=by
 unfold nodeR
 by_cases h3 : n.f0 = 3
 (rw [if_pos h3];exact node_cut n i cnt w h3)
 ·rw [if_neg h3];by_cases h : n.f0 = 0 ∨ n.f0 = 1 ∨ n.f0 = 2
  ·rw [if_pos h]
   rcases h with h|h|h
   (exact node_plain0 n i cnt w h hs);(exact node_plain1 n i cnt w h hs);(exact node_plain2 n i cnt w h hs)
  (rw [if_neg h];exact node_other n i cnt w h3 h)
end Go.Proofs.Ytdnjagfbhppmbaa.PA
