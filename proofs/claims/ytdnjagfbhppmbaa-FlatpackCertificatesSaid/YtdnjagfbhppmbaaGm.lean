import Derived.Test.YtdnjagfbhppmbaaGc
namespace Go.Proofs.Ytdnjagfbhppmbaa.PA
open Go.RowKit Go.Shelf Go.Proofs.YtdnjagfbhppmbaaW.PrintWords Go.Proofs.YtdnjagfbhppmbaaW.PrintLast Go.Proofs.YtdnjagfbhppmbaaW.PrintMore
set_option linter.unusedVariables false
set_option linter.unusedSimpArgs false

/-- what a predicate on numbers must do -/
def PredI (l : List Int) (g : Nat) (lb : Array Value) (p : Int → Bool) (w : World) : Prop :=
  ∀ (W : World) (x : Int), x ∈ l → Below w.heap.size w W → Calls Try.prog g (#[.int .i64 x] ++ lb) W fun e w' => e = .returned (.bool (p x)) ∧ Below W.heap.size W w'
set_option maxHeartbeats 400000 in
theorem idx58 (p : Int → Bool) (g : Nat) (lb : Array Value) (eg : ∀ args w, (callFunc g args).run Try.prog w = .ok (.enter g args) w) (A : Option Addr) (c : Nat) (l : List Int) (w : World) (hr : Kd.C (Kd.int .i64) w A l.length l) (hp : PredI l g lb p w) :
    Calls Try.prog 58 #[.slice A l.length c, .func (.func g) #[] lb] w fun e w' => e = .returned (.int .i64 (idxOf p l)) ∧ Below w.heap.size w w' := by
  have hm := Kd.C_max hr
  have HR := aside hr
  have HP := aside hp
  clear hr hp
  go_enter Try.func58, Try.ntmps58
  go_wp2
  go_loopg [8] l.length (fun gg v wr => ∃ n : Nat, n ≤ l.length ∧ l.length - n ≤ gg ∧ v = .int .i64 n ∧ Aside (∀ j (h : j < l.length), j < n → p l[j] = false) ∧ Aside (Below w.heap.size w wr))
  case atStart => exact ⟨0, by omega, by omega, rfl, (show Aside _ from fun j h hj => absurd hj (Nat.not_lt_zero _)), Below.refl _ _⟩
  case round =>
    obtain ⟨n, hn, hg, rfl, A1, B⟩ := hrel
    by_cases hlt : n < l.length
    · have hlt' : (n : Int) < (l.length : Int) := by omega
      obtain ⟨ad, hA, q0⟩ := Kd.at_int (Kd.C_below HR.out B.out) (n : Int) (by omega) (by omega)
      have hx : rd l (n : Int) = l[n] := by unfold rd; simp [List.getD, hlt]
      rw [hx] at q0
      simp only [Int.toNat_natCast] at q0
      have hcall := HP.out wr l[n] (List.getElem_mem hlt) B.out
      obtain ⟨y, hy⟩ : ∃ y, l[n] = y := ⟨_, rfl⟩
      rw [hy] at q0 hcall
      have HY := aside hy
      clear hx hy HP
      subst hA
      cases hq : p y with
      | true =>
        rw [hq] at hcall
        have HQ := aside hq
        clear hq
        go_wp2_with (go_at_fn g; refine hcall.mono ?_; rintro e w' ⟨rfl, hb'⟩)
        go_ret
        exact ⟨ret_i64 (by rw [idxOf_hit p l n hlt (by rw [HY.out]; exact HQ.out) A1.out]), B.out.trans (hb'.mono B.out.size)⟩
      | false =>
        rw [hq] at hcall
        have HQ := aside hq
        clear hq
        go_wp2_with (go_at_fn g; refine hcall.mono ?_; rintro e w' ⟨rfl, hb'⟩)
        go_roundg (l.length - (n + 1))
        case measure => omega
        case rel =>
          refine ⟨n + 1, by omega, by omega, by go_num, (show Aside _ from fun j h hj => ?_), B.out.trans (hb'.mono B.out.size)⟩
          by_cases e : j = n
          · subst e; rw [HY.out]; exact HQ.out
          · exact A1.out j h (by omega)
    · obtain rfl : n = l.length := by omega
      go_wp2
      go_ret
      exact ⟨ret_i64 (by rw [idxOf_miss p l (fun j h => A1.out j h h)]), B.out⟩
set_option maxHeartbeats 400000 in
theorem any38 (p : Int → Bool) (g : Nat) (lb : Array Value) (eg : ∀ args w, (callFunc g args).run Try.prog w = .ok (.enter g args) w) (A : Option Addr) (c : Nat) (l : List Int) (w : World) (hr : Kd.C (Kd.int .i64) w A l.length l) (hp : PredI l g lb p w) :
    Calls Try.prog 38 #[.slice A l.length c, .func (.func g) #[] lb] w fun e w' => e = .returned (.bool (l.any p)) ∧ Below w.heap.size w w' := by
  have HI := aside (idx58 p g lb eg A c l w hr hp)
  have ha := idxOf_any p l
  generalize l.any p = q at ha ⊢
  generalize idxOf p l = i at ha HI
  subst ha
  clear hp hr
  go_enter Try.func38, Try.ntmps38
  go_wp2_with (go_at_call 58; refine HI.out.mono ?_; rintro e w1 ⟨rfl, hb⟩)
  go_ret
  exact ⟨rfl, hb⟩
def badN (n : Int) : Bool := decide (n < 0) || decide (1000000000000000 < n)
set_option maxHeartbeats 400000 in
theorem c39_any (n : Int) (w : World) : Calls Try.prog 39 #[.int .i64 n] w fun e w' => e = .returned (.bool (badN n)) ∧ Below w.heap.size w w' := by
  unfold badN
  by_cases h1 : n < 0
  · go_enter Try.func39, Try.ntmps39
    go_wp2
    go_ret
    exact ⟨ok_bool (by simp [h1]), Below.refl _ _⟩
  · have H1 := aside h1
    go_enter Try.func39, Try.ntmps39
    go_wp2
    go_ret
    exact ⟨ok_bool (by have := H1.out; simp; omega), Below.refl _ _⟩
theorem eg39 : ∀ args w, (callFunc 39 args).run Try.prog w = .ok (.enter 39 args) w := enters_of Try.func39 (by kernel_rfl) rfl
theorem any38_39 (A : Option Addr) (c : Nat) (l : List Int) (w : World) (hr : Kd.C (Kd.int .i64) w A l.length l) :
    Calls Try.prog 38 #[.slice A l.length c, .func (.func 39) #[] #[]] w fun e w' => e = .returned (.bool (l.any badN)) ∧ Below w.heap.size w w' := any38 badN 39 #[] eg39 A c l w hr (fun W x _ _ => c39_any x W)
def any38_39.f (l0 : List Int) : Option (Bool) := some (l0.any badN)
theorem any38_39.calls (A0 : Option Addr) (c0 : Nat) (l0 : List Int) (r : Bool) (w : World) (hr0 : Kd.C (Kd.int .i64) w A0 l0.length l0) (hc0 : l0.length ≤ c0) (h : any38_39.f l0 = some r) :
    Calls Try.prog 38 #[.slice A0 l0.length c0, .func (.func 39) #[] #[]] w fun e w' => e = .returned (.bool r) ∧ Below w.heap.size w w' := by
  obtain rfl := Option.some.inj h
  exact any38_39 A0 c0 l0 w hr0
end Go.Proofs.Ytdnjagfbhppmbaa.PA
