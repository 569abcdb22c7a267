import Derived.Test.YtnjikioimompnaaGd
namespace Go.Proofs.Ytnjikioimompnaa.PA
open Go.RowKit Go.Shelf Go.Proofs.YtnjikioimompnaaW.PrintWords Go.Proofs.YtnjikioimompnaaW.PrintLast Go.Proofs.YtnjikioimompnaaW.PrintMore
set_option linter.unusedVariables false
set_option linter.unusedSimpArgs false
def k59_0 (a b : Int) : Int:=b
def k59_1 (a b : Int) : Int:=a
set_option maxHeartbeats 400000 in
theorem keys59 : Keys 59 k59_0 k59_1:=by
 intro W a b
 unfold k59_0 k59_1
 go_enter Try.func59,Try.ntmps59
 go_wp2
 exact bodyPost_ret (v:=.agg #[.int .i64 (b),.int .i64 (a)]) (by simp [results,Try.results59,go_sem]) rfl ⟨rfl,((Below.refl _ _).alloc (Nat.le_refl _) _).alloc (by simp) _⟩
theorem eg59 : ∀ args w,(callFunc 59 args).run Try.prog w = .ok (.enter 59 args) w:=enters_of Try.func59 (by kernel_rfl) rfl
def k61_0 (a b : Int) : Int:=b
def k61_1 (a b : Int) : Int:=wrap64 (-a)
set_option maxHeartbeats 400000 in
theorem keys61 : Keys 61 k61_0 k61_1:=by
 intro W a b
 unfold k61_0 k61_1
 go_enter Try.func61,Try.ntmps61
 go_wp2
 exact bodyPost_ret (v:=.agg #[.int .i64 (b),.int .i64 (wrap64 (-a))]) (by simp [results,Try.results61,go_sem]) rfl ⟨rfl,((Below.refl _ _).alloc (Nat.le_refl _) _).alloc (by simp) _⟩
theorem eg61 : ∀ args w,(callFunc 61 args).run Try.prog w = .ok (.enter 61 args) w:=enters_of Try.func61 (by kernel_rfl) rfl
def k62_0 (a b : Int) : Int:=wrap64 (-b)
def k62_1 (a b : Int) : Int:=wrap64 (-a)
set_option maxHeartbeats 400000 in
theorem keys62 : Keys 62 k62_0 k62_1:=by
 intro W a b
 unfold k62_0 k62_1
 go_enter Try.func62,Try.ntmps62
 go_wp2
 exact bodyPost_ret (v:=.agg #[.int .i64 (wrap64 (-b)),.int .i64 (wrap64 (-a))]) (by simp [results,Try.results62,go_sem]) rfl ⟨rfl,((Below.refl _ _).alloc (Nat.le_refl _) _).alloc (by simp) _⟩
theorem eg62 : ∀ args w,(callFunc 62 args).run Try.prog w = .ok (.enter 62 args) w:=enters_of Try.func62 (by kernel_rfl) rfl
def k64_0 (a b : Int) : Int:=wrap64 (-b)
def k64_1 (a b : Int) : Int:=a
set_option maxHeartbeats 400000 in
theorem keys64 : Keys 64 k64_0 k64_1:=by
 intro W a b
 unfold k64_0 k64_1
 go_enter Try.func64,Try.ntmps64
 go_wp2
 exact bodyPost_ret (v:=.agg #[.int .i64 (wrap64 (-b)),.int .i64 (a)]) (by simp [results,Try.results64,go_sem]) rfl ⟨rfl,((Below.refl _ _).alloc (Nat.le_refl _) _).alloc (by simp) _⟩
theorem eg64 : ∀ args w,(callFunc 64 args).run Try.prog w = .ok (.enter 64 args) w:=enters_of Try.func64 (by kernel_rfl) rfl
def k65_0 (a b : Int) : Int:=b
def k65_1 (a b : Int) : Int:=a
set_option maxHeartbeats 400000 in
theorem keys65 : Keys 65 k65_0 k65_1:=by
 intro W a b
 unfold k65_0 k65_1
 go_enter Try.func65,Try.ntmps65
 go_wp2
 exact bodyPost_ret (v:=.agg #[.int .i64 (b),.int .i64 (a)]) (by simp [results,Try.results65,go_sem]) rfl ⟨rfl,((Below.refl _ _).alloc (Nat.le_refl _) _).alloc (by simp) _⟩
theorem eg65 : ∀ args w,(callFunc 65 args).run Try.prog w = .ok (.enter 65 args) w:=enters_of Try.func65 (by kernel_rfl) rfl
def k67_0 (a b : Int) : Int:=wrap64 (-a)
def k67_1 (a b : Int) : Int:=wrap64 (-b)
set_option maxHeartbeats 400000 in
theorem keys67 : Keys 67 k67_0 k67_1:=by
 intro W a b
 unfold k67_0 k67_1
 go_enter Try.func67,Try.ntmps67
 go_wp2
 exact bodyPost_ret (v:=.agg #[.int .i64 (wrap64 (-a)),.int .i64 (wrap64 (-b))]) (by simp [results,Try.results67,go_sem]) rfl ⟨rfl,((Below.refl _ _).alloc (Nat.le_refl _) _).alloc (by simp) _⟩
theorem eg67 : ∀ args w,(callFunc 67 args).run Try.prog w = .ok (.enter 67 args) w:=enters_of Try.func67 (by kernel_rfl) rfl
def k68_0 (a b : Int) : Int:=a
def k68_1 (a b : Int) : Int:=wrap64 (-b)
set_option maxHeartbeats 400000 in
theorem keys68 : Keys 68 k68_0 k68_1:=by
 intro W a b
 unfold k68_0 k68_1
 go_enter Try.func68,Try.ntmps68
 go_wp2
 exact bodyPost_ret (v:=.agg #[.int .i64 (a),.int .i64 (wrap64 (-b))]) (by simp [results,Try.results68,go_sem]) rfl ⟨rfl,((Below.refl _ _).alloc (Nat.le_refl _) _).alloc (by simp) _⟩
theorem eg68 : ∀ args w,(callFunc 68 args).run Try.prog w = .ok (.enter 68 args) w:=enters_of Try.func68 (by kernel_rfl) rfl
def k70_0 (a b : Int) : Int:=a
def k70_1 (a b : Int) : Int:=b
set_option maxHeartbeats 400000 in
theorem keys70 : Keys 70 k70_0 k70_1:=by
 intro W a b
 unfold k70_0 k70_1
 go_enter Try.func70,Try.ntmps70
 go_wp2
 exact bodyPost_ret (v:=.agg #[.int .i64 (a),.int .i64 (b)]) (by simp [results,Try.results70,go_sem]) rfl ⟨rfl,((Below.refl _ _).alloc (Nat.le_refl _) _).alloc (by simp) _⟩
theorem eg70 : ∀ args w,(callFunc 70 args).run Try.prog w = .ok (.enter 70 args) w:=enters_of Try.func70 (by kernel_rfl) rfl
def k71_0 (a b : Int) : Int:=wrap64 (-a)
def k71_1 (a b : Int) : Int:=b
set_option maxHeartbeats 400000 in
theorem keys71 : Keys 71 k71_0 k71_1:=by
 intro W a b
 unfold k71_0 k71_1
 go_enter Try.func71,Try.ntmps71
 go_wp2
 exact bodyPost_ret (v:=.agg #[.int .i64 (wrap64 (-a)),.int .i64 (b)]) (by simp [results,Try.results71,go_sem]) rfl ⟨rfl,((Below.refl _ _).alloc (Nat.le_refl _) _).alloc (by simp) _⟩
theorem eg71 : ∀ args w,(callFunc 71 args).run Try.prog w = .ok (.enter 71 args) w:=enters_of Try.func71 (by kernel_rfl) rfl
def Bad (g : Nat) (p : Int → Int → Bool) : Prop := ∀ (W : World) (a b : Int),Calls Try.prog g #[.int .i64 a,.int .i64 b] W fun e w'=>e = .returned (.bool (p a b)) ∧ W = w'
def b63 (a b : Int) : Bool:=decide (b < 0)
set_option maxHeartbeats 400000 in
theorem bad63 : Bad 63 b63:=by
 intro W a b
 unfold b63
 go_enter Try.func63,Try.ntmps63
 go_wp2
 go_ret
 exact ⟨rfl,rfl⟩
theorem eg63 : ∀ args w,(callFunc 63 args).run Try.prog w = .ok (.enter 63 args) w:=enters_of Try.func63 (by kernel_rfl) rfl
def b66 (a b : Int) : Bool:=decide (0 < b)
set_option maxHeartbeats 400000 in
theorem bad66 : Bad 66 b66:=by
 intro W a b
 unfold b66
 go_enter Try.func66,Try.ntmps66
 go_wp2
 go_ret
 exact ⟨rfl,rfl⟩
theorem eg66 : ∀ args w,(callFunc 66 args).run Try.prog w = .ok (.enter 66 args) w:=enters_of Try.func66 (by kernel_rfl) rfl
def b69 (a b : Int) : Bool:=decide (0 < a)
set_option maxHeartbeats 400000 in
theorem bad69 : Bad 69 b69:=by
 intro W a b
 unfold b69
 go_enter Try.func69,Try.ntmps69
 go_wp2
 go_ret
 exact ⟨rfl,rfl⟩
theorem eg69 : ∀ args w,(callFunc 69 args).run Try.prog w = .ok (.enter 69 args) w:=enters_of Try.func69 (by kernel_rfl) rfl
def b72 (a b : Int) : Bool:=decide (a < 0)
set_option maxHeartbeats 400000 in
theorem bad72 : Bad 72 b72:=by
 intro W a b
 unfold b72
 go_enter Try.func72,Try.ntmps72
 go_wp2
 go_ret
 exact ⟨rfl,rfl⟩
theorem eg72 : ∀ args w,(callFunc 72 args).run Try.prog w = .ok (.enter 72 args) w:=enters_of Try.func72 (by kernel_rfl) rfl
def sidesV : Value:=.agg #[.func (.func 61) #[] #[],.func (.func 62) #[] #[],.func (.func 63) #[] #[],.func (.func 64) #[] #[],.func (.func 65) #[] #[],.func (.func 66) #[] #[],.func (.func 67) #[] #[],.func (.func 68) #[] #[],.func (.func 69) #[] #[],.func (.func 70) #[] #[],.func (.func 71) #[] #[],.func (.func 72) #[] #[]]
set_option maxRecDepth 100000 in
set_option maxHeartbeats 1000000 in
theorem sides_any (w : World) : Calls Try.prog 47 #[] w fun e w'=>e = .returned sidesV ∧ Below w.heap.size w w':=by
 unfold sidesV
 go_enter Try.func47,Try.ntmps47
 go_wp2
 exact bodyPost_ret (v:=.agg #[.func (.func 61) #[] #[],.func (.func 62) #[] #[],.func (.func 63) #[] #[],.func (.func 64) #[] #[],.func (.func 65) #[] #[],.func (.func 66) #[] #[],.func (.func 67) #[] #[],.func (.func 68) #[] #[],.func (.func 69) #[] #[],.func (.func 70) #[] #[],.func (.func 71) #[] #[],.func (.func 72) #[] #[]]) (by simp [results,Try.results47,go_sem]) rfl ⟨rfl,((Below.refl _ _).alloc (Nat.le_refl _) _)⟩
def sides_c.f : Option (Int):=some 0
theorem sides_c.calls (r : Int) (w : World) (h : sides_c.f = some r) : Calls Try.prog 47 #[] w fun e w'=>e = .returned sidesV ∧ Below w.heap.size w w':=sides_any w
theorem side_at0 (w : World) : (Instr.index 72 sidesV (.int .i64 0)).run Try.prog w = .ok (.agg #[.func (.func 61) #[] #[],.func (.func 62) #[] #[],.func (.func 63) #[] #[]]) w:=by kernel_rfl
theorem side_at1 (w : World) : (Instr.index 72 sidesV (.int .i64 1)).run Try.prog w = .ok (.agg #[.func (.func 64) #[] #[],.func (.func 65) #[] #[],.func (.func 66) #[] #[]]) w:=by kernel_rfl
theorem side_at2 (w : World) : (Instr.index 72 sidesV (.int .i64 2)).run Try.prog w = .ok (.agg #[.func (.func 67) #[] #[],.func (.func 68) #[] #[],.func (.func 69) #[] #[]]) w:=by kernel_rfl
theorem side_at3 (w : World) : (Instr.index 72 sidesV (.int .i64 3)).run Try.prog w = .ok (.agg #[.func (.func 70) #[] #[],.func (.func 71) #[] #[],.func (.func 72) #[] #[]]) w:=by kernel_rfl
def extreme_59.f (l0 : List S31) : Option (Int):=if l0.length ≤ 1000000 then some (extF k59_0 k59_1 l0 l0.length) else none
theorem extreme_59.calls (A0 : Option Addr) (c0 : Nat) (l0 : List (S31)) (r : Int) (w : World) (hr0 : Kd.C k31 w A0 l0.length l0) (hc0 : l0.length ≤ c0) (h : extreme_59.f l0 = some r) :
  Calls Try.prog 58 #[.slice A0 l0.length c0,.func (.func 59) #[] #[]] w fun e w'=>e = .returned (.int .i64 r) ∧ Below w.heap.size w w':=by
 unfold extreme_59.f at h
 split at h
 (obtain rfl:=Option.some.inj h;exact extreme_any 59 eg59 k59_0 k59_1 keys59 A0 c0 l0 w hr0 ‹_›)
 ·cases h
end Go.Proofs.Ytnjikioimompnaa.PA
