/- The contract of deal.Right (its bounds are told by a closure): whether a shape is right; nothing that lay in memory is changed. No condition. -/
import Derived.Test.YtpaafeaolodkjaaDoorChecked
import Derived.WalkKit
import Derived.OwnWalk
import Derived.OpenShut
import Derived.Lib.Hide
namespace Go.Proofs.YtpaafeaolodkjaaDoor.Hand
open Go.RowKit
set_option linter.unusedVariables false

/-- is a number within bounds? -/
def inB (n a b : Int) : Bool := decide (a ≤ n) && decide (n ≤ b)
set_option maxRecDepth 100000 in
theorem in_any (n a b : Int) (w : World) : Calls Tryd.prog 76 #[.int .i64 n, .int .i64 a, .int .i64 b] w fun e w' => e = .returned (.bool (inB n a b)) ∧ w' = w := by
  unfold inB
  by_cases h1 : a ≤ n
  · have k1 : decide (a ≤ n) = true := decide_eq_true h1
    by_cases h2 : n ≤ b
    · have k2 : decide (n ≤ b) = true := decide_eq_true h2
      clear h1 h2
      go_enter Tryd.func76, Tryd.ntmps76
      go_wp2
      go_ret
      exact ⟨by simp [*], rfl⟩
    · have k2 : decide (n ≤ b) = false := decide_eq_false h2
      clear h1 h2
      go_enter Tryd.func76, Tryd.ntmps76
      go_wp2
      go_ret
      exact ⟨by simp [*], rfl⟩
  · have k1 : decide (a ≤ n) = false := decide_eq_false h1
    clear h1
    go_enter Tryd.func76, Tryd.ntmps76
    go_wp2
    go_ret
    exact ⟨by simp [*], rfl⟩
def deal_Right.f (d s t : Int) : Option Bool := some (inB d 0 10 && (inB s 1 8 && inB t 1 64))
set_option maxRecDepth 100000 in
set_option maxHeartbeats 2000000 in
theorem deal_Right.calls (d s t : Int) (r : Bool) (w : World) (h : deal_Right.f d s t = some r) : Calls Tryd.prog 62 #[.agg #[.int .i64 d, .int .i64 s, .int .i64 t]] w fun e w' => e = .returned (.bool r) ∧ Below w.heap.size w w' := by
  obtain rfl := Option.some.inj h
  clear h
  have B0 := Lib.hid ((Below.refl _ w).alloc (Nat.le_refl _) (.cells #[.int .i64 d, .int .i64 s, .int .i64 t] 109))
  obtain ⟨x, hx⟩ : ∃ x, inB d 0 10 = x := ⟨_, rfl⟩
  obtain ⟨y, hy⟩ : ∃ y, inB s 1 8 = y := ⟨_, rfl⟩
  obtain ⟨z, hz⟩ : ∃ z, inB t 1 64 = z := ⟨_, rfl⟩
  have C1 := Lib.hid (fun w => in_any d 0 10 w)
  have C2 := Lib.hid (fun w => in_any s 1 8 w)
  have C3 := Lib.hid (fun w => in_any t 1 64 w)
  rw [hx] at C1 ⊢
  rw [hy] at C2 ⊢
  rw [hz] at C3 ⊢
  clear hx hy hz
  cases x <;> cases y <;> cases z
  all_goals
    go_enter Tryd.func62, Tryd.ntmps62
    go_wp2_with (first
      | (go_at_call 76; with_reducible refine (C1.out _).mono ?_; rintro e w' ⟨rfl, rfl⟩)
      | (go_at_call 76; with_reducible refine (C2.out _).mono ?_; rintro e w' ⟨rfl, rfl⟩)
      | (go_at_call 76; with_reducible refine (C3.out _).mono ?_; rintro e w' ⟨rfl, rfl⟩))
    go_ret
    exact ⟨rfl, B0.out⟩
end Go.Proofs.YtpaafeaolodkjaaDoor.Hand
