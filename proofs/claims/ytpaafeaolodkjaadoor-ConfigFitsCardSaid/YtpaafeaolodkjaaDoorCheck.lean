/- The contract of config.Check: nil, or a new *Fault with the field's name and what is wrong. Nothing that lay in memory is changed. -/
import Derived.Test.YtpaafeaolodkjaaDoorLevels
import Derived.LoopN
namespace Go.Proofs.YtpaafeaolodkjaaDoor.Hand
open Go.RowKit Go.Proofs.YtpaafeaolodkjaaDoorW.PrintWords Go.Proofs.YtpaafeaolodkjaaDoorW.PrintLast Go.Proofs.YtpaafeaolodkjaaDoorW.PrintMore
set_option linter.unusedVariables false

def FaultPost (w : World) (s : ByteArray) (c : Int) (e : Ending) (w' : World) : Prop := ∃ g, e = .returned (.iface 60 (.pointer (some ⟨g, 0, none⟩))) ∧ w'.cell? ⟨g, 0, none⟩ = some (.string s) ∧ w'.cell? ⟨g, 1, none⟩ = some (.iface 25 (.int .i64 c)) ∧ Below w.heap.size w w'
def NilPost (w : World) (e : Ending) (w' : World) : Prop := e = .returned .nilIface ∧ Below w.heap.size w w'

set_option maxRecDepth 100000 in
set_option maxHeartbeats 4000000 in
theorem check_capacity_low (c0 c1 c2 c3 c4 c5 c6 c7 c8 : Int) (x : decide (c0 < 1) = true) (w : World) : Calls Tryd.prog 29 #[.agg #[.int .i64 c0, .int .i64 c1, .int .i64 c2, .int .i64 c3, .int .i64 c4, .int .i64 c5, .int .i64 c6, .int .i64 c7, .int .i64 c8]] w (FaultPost w ⟨#[67, 97, 112, 97, 99, 105, 116, 121]⟩ 2) := by
  go_enter Tryd.func29, Tryd.ntmps29
  go_wp2
  refine wp_loop_rounds 1 ?_
  rw [rounds_succ]
  go_wp2
  go_ret
  refine ⟨_, rfl, by simp [go_sem], by simp [go_sem], ?_⟩
  repeat (first | exact Below.refl _ _ | refine Below.alloc ?_ (by first | exact Nat.le_refl _ | (simp only [World.size_alloc]; omega)) _)

set_option maxRecDepth 100000 in
set_option maxHeartbeats 4000000 in
theorem check_capacity_high (c0 c1 c2 c3 c4 c5 c6 c7 c8 : Int) (x : decide (c0 < 1) = false) (y : decide (64 < c0) = true) (w : World) : Calls Tryd.prog 29 #[.agg #[.int .i64 c0, .int .i64 c1, .int .i64 c2, .int .i64 c3, .int .i64 c4, .int .i64 c5, .int .i64 c6, .int .i64 c7, .int .i64 c8]] w (FaultPost w ⟨#[67, 97, 112, 97, 99, 105, 116, 121]⟩ 2) := by
  go_enter Tryd.func29, Tryd.ntmps29
  go_wp2
  refine wp_loop_rounds 1 ?_
  rw [rounds_succ]
  go_wp2
  go_ret
  refine ⟨_, rfl, by simp [go_sem], by simp [go_sem], ?_⟩
  repeat (first | exact Below.refl _ _ | refine Below.alloc ?_ (by first | exact Nat.le_refl _ | (simp only [World.size_alloc]; omega)) _)

set_option maxRecDepth 100000 in
set_option maxHeartbeats 4000000 in
theorem check_batch_low (c0 c1 c2 c3 c4 c5 c6 c7 c8 : Int) (a0 : decide (c0 < 1) = false) (b0 : decide (64 < c0) = false) (x : decide (c1 < 1) = true) (w : World) : Calls Tryd.prog 29 #[.agg #[.int .i64 c0, .int .i64 c1, .int .i64 c2, .int .i64 c3, .int .i64 c4, .int .i64 c5, .int .i64 c6, .int .i64 c7, .int .i64 c8]] w (FaultPost w ⟨#[66, 97, 116, 99, 104]⟩ 2) := by
  go_enter Tryd.func29, Tryd.ntmps29
  go_wp2
  refine wp_loop_rounds 2 ?_
  rw [rounds_succ]
  go_wp2
  rw [rounds_succ]
  go_wp2
  go_ret
  refine ⟨_, rfl, by simp [go_sem], by simp [go_sem], ?_⟩
  repeat (first | exact Below.refl _ _ | refine Below.alloc ?_ (by first | exact Nat.le_refl _ | (simp only [World.size_alloc]; omega)) _)

set_option maxRecDepth 100000 in
set_option maxHeartbeats 4000000 in
theorem check_batch_high (c0 c1 c2 c3 c4 c5 c6 c7 c8 : Int) (a0 : decide (c0 < 1) = false) (b0 : decide (64 < c0) = false) (x : decide (c1 < 1) = false) (y : decide (16 < c1) = true) (w : World) : Calls Tryd.prog 29 #[.agg #[.int .i64 c0, .int .i64 c1, .int .i64 c2, .int .i64 c3, .int .i64 c4, .int .i64 c5, .int .i64 c6, .int .i64 c7, .int .i64 c8]] w (FaultPost w ⟨#[66, 97, 116, 99, 104]⟩ 2) := by
  go_enter Tryd.func29, Tryd.ntmps29
  go_wp2
  refine wp_loop_rounds 2 ?_
  rw [rounds_succ]
  go_wp2
  rw [rounds_succ]
  go_wp2
  go_ret
  refine ⟨_, rfl, by simp [go_sem], by simp [go_sem], ?_⟩
  repeat (first | exact Below.refl _ _ | refine Below.alloc ?_ (by first | exact Nat.le_refl _ | (simp only [World.size_alloc]; omega)) _)

set_option maxRecDepth 100000 in
set_option maxHeartbeats 4000000 in
theorem check_kicks_low (c0 c1 c2 c3 c4 c5 c6 c7 c8 : Int) (a0 : decide (c0 < 1) = false) (b0 : decide (64 < c0) = false) (a1 : decide (c1 < 1) = false) (b1 : decide (16 < c1) = false) (x : decide (c2 < 1) = true) (w : World) : Calls Tryd.prog 29 #[.agg #[.int .i64 c0, .int .i64 c1, .int .i64 c2, .int .i64 c3, .int .i64 c4, .int .i64 c5, .int .i64 c6, .int .i64 c7, .int .i64 c8]] w (FaultPost w ⟨#[75, 105, 99, 107, 115]⟩ 2) := by
  go_enter Tryd.func29, Tryd.ntmps29
  go_wp2
  refine wp_loop_rounds 3 ?_
  rw [rounds_succ]
  go_wp2
  rw [rounds_succ]
  go_wp2
  rw [rounds_succ]
  go_wp2
  go_ret
  refine ⟨_, rfl, by simp [go_sem], by simp [go_sem], ?_⟩
  repeat (first | exact Below.refl _ _ | refine Below.alloc ?_ (by first | exact Nat.le_refl _ | (simp only [World.size_alloc]; omega)) _)

set_option maxRecDepth 100000 in
set_option maxHeartbeats 4000000 in
theorem check_kicks_high (c0 c1 c2 c3 c4 c5 c6 c7 c8 : Int) (a0 : decide (c0 < 1) = false) (b0 : decide (64 < c0) = false) (a1 : decide (c1 < 1) = false) (b1 : decide (16 < c1) = false) (x : decide (c2 < 1) = false) (y : decide (16 < c2) = true) (w : World) : Calls Tryd.prog 29 #[.agg #[.int .i64 c0, .int .i64 c1, .int .i64 c2, .int .i64 c3, .int .i64 c4, .int .i64 c5, .int .i64 c6, .int .i64 c7, .int .i64 c8]] w (FaultPost w ⟨#[75, 105, 99, 107, 115]⟩ 2) := by
  go_enter Tryd.func29, Tryd.ntmps29
  go_wp2
  refine wp_loop_rounds 3 ?_
  rw [rounds_succ]
  go_wp2
  rw [rounds_succ]
  go_wp2
  rw [rounds_succ]
  go_wp2
  go_ret
  refine ⟨_, rfl, by simp [go_sem], by simp [go_sem], ?_⟩
  repeat (first | exact Below.refl _ _ | refine Below.alloc ?_ (by first | exact Nat.le_refl _ | (simp only [World.size_alloc]; omega)) _)

set_option maxRecDepth 100000 in
set_option maxHeartbeats 4000000 in
theorem check_spill_low (c0 c1 c2 c3 c4 c5 c6 c7 c8 : Int) (a0 : decide (c0 < 1) = false) (b0 : decide (64 < c0) = false) (a1 : decide (c1 < 1) = false) (b1 : decide (16 < c1) = false) (a2 : decide (c2 < 1) = false) (b2 : decide (16 < c2) = false) (x : decide (c3 < 1) = true) (w : World) : Calls Tryd.prog 29 #[.agg #[.int .i64 c0, .int .i64 c1, .int .i64 c2, .int .i64 c3, .int .i64 c4, .int .i64 c5, .int .i64 c6, .int .i64 c7, .int .i64 c8]] w (FaultPost w ⟨#[83, 112, 105, 108, 108]⟩ 2) := by
  go_enter Tryd.func29, Tryd.ntmps29
  go_wp2
  refine wp_loop_rounds 4 ?_
  rw [rounds_succ]
  go_wp2
  rw [rounds_succ]
  go_wp2
  rw [rounds_succ]
  go_wp2
  rw [rounds_succ]
  go_wp2
  go_ret
  refine ⟨_, rfl, by simp [go_sem], by simp [go_sem], ?_⟩
  repeat (first | exact Below.refl _ _ | refine Below.alloc ?_ (by first | exact Nat.le_refl _ | (simp only [World.size_alloc]; omega)) _)

set_option maxRecDepth 100000 in
set_option maxHeartbeats 4000000 in
theorem check_spill_high (c0 c1 c2 c3 c4 c5 c6 c7 c8 : Int) (a0 : decide (c0 < 1) = false) (b0 : decide (64 < c0) = false) (a1 : decide (c1 < 1) = false) (b1 : decide (16 < c1) = false) (a2 : decide (c2 < 1) = false) (b2 : decide (16 < c2) = false) (x : decide (c3 < 1) = false) (y : decide (32 < c3) = true) (w : World) : Calls Tryd.prog 29 #[.agg #[.int .i64 c0, .int .i64 c1, .int .i64 c2, .int .i64 c3, .int .i64 c4, .int .i64 c5, .int .i64 c6, .int .i64 c7, .int .i64 c8]] w (FaultPost w ⟨#[83, 112, 105, 108, 108]⟩ 2) := by
  go_enter Tryd.func29, Tryd.ntmps29
  go_wp2
  refine wp_loop_rounds 4 ?_
  rw [rounds_succ]
  go_wp2
  rw [rounds_succ]
  go_wp2
  rw [rounds_succ]
  go_wp2
  rw [rounds_succ]
  go_wp2
  go_ret
  refine ⟨_, rfl, by simp [go_sem], by simp [go_sem], ?_⟩
  repeat (first | exact Below.refl _ _ | refine Below.alloc ?_ (by first | exact Nat.le_refl _ | (simp only [World.size_alloc]; omega)) _)

set_option maxRecDepth 100000 in
set_option maxHeartbeats 4000000 in
theorem check_policy_low (c0 c1 c2 c3 c4 c5 c6 c7 c8 : Int) (a0 : decide (c0 < 1) = false) (b0 : decide (64 < c0) = false) (a1 : decide (c1 < 1) = false) (b1 : decide (16 < c1) = false) (a2 : decide (c2 < 1) = false) (b2 : decide (16 < c2) = false) (a3 : decide (c3 < 1) = false) (b3 : decide (32 < c3) = false) (x : decide (c8 < 0) = true) (w : World) : Calls Tryd.prog 29 #[.agg #[.int .i64 c0, .int .i64 c1, .int .i64 c2, .int .i64 c3, .int .i64 c4, .int .i64 c5, .int .i64 c6, .int .i64 c7, .int .i64 c8]] w (FaultPost w ⟨#[80, 111, 108, 105, 99, 121]⟩ 2) := by
  go_enter Tryd.func29, Tryd.ntmps29
  go_wp2
  refine wp_loop_rounds 5 ?_
  rw [rounds_succ]
  go_wp2
  rw [rounds_succ]
  go_wp2
  rw [rounds_succ]
  go_wp2
  rw [rounds_succ]
  go_wp2
  rw [rounds_succ]
  go_wp2
  go_ret
  refine ⟨_, rfl, by simp [go_sem], by simp [go_sem], ?_⟩
  repeat (first | exact Below.refl _ _ | refine Below.alloc ?_ (by first | exact Nat.le_refl _ | (simp only [World.size_alloc]; omega)) _)

set_option maxRecDepth 100000 in
set_option maxHeartbeats 4000000 in
theorem check_policy_high (c0 c1 c2 c3 c4 c5 c6 c7 c8 : Int) (a0 : decide (c0 < 1) = false) (b0 : decide (64 < c0) = false) (a1 : decide (c1 < 1) = false) (b1 : decide (16 < c1) = false) (a2 : decide (c2 < 1) = false) (b2 : decide (16 < c2) = false) (a3 : decide (c3 < 1) = false) (b3 : decide (32 < c3) = false) (x : decide (c8 < 0) = false) (y : decide (2 < c8) = true) (w : World) : Calls Tryd.prog 29 #[.agg #[.int .i64 c0, .int .i64 c1, .int .i64 c2, .int .i64 c3, .int .i64 c4, .int .i64 c5, .int .i64 c6, .int .i64 c7, .int .i64 c8]] w (FaultPost w ⟨#[80, 111, 108, 105, 99, 121]⟩ 2) := by
  go_enter Tryd.func29, Tryd.ntmps29
  go_wp2
  refine wp_loop_rounds 5 ?_
  rw [rounds_succ]
  go_wp2
  rw [rounds_succ]
  go_wp2
  rw [rounds_succ]
  go_wp2
  rw [rounds_succ]
  go_wp2
  rw [rounds_succ]
  go_wp2
  go_ret
  refine ⟨_, rfl, by simp [go_sem], by simp [go_sem], ?_⟩
  repeat (first | exact Below.refl _ _ | refine Below.alloc ?_ (by first | exact Nat.le_refl _ | (simp only [World.size_alloc]; omega)) _)

set_option maxRecDepth 100000 in
set_option maxHeartbeats 4000000 in
theorem check_table (c0 c1 c2 c3 c4 c5 c6 c7 c8 : Int) (a0 : decide (c0 < 1) = false) (b0 : decide (64 < c0) = false) (a1 : decide (c1 < 1) = false) (b1 : decide (16 < c1) = false) (a2 : decide (c2 < 1) = false) (b2 : decide (16 < c2) = false) (a3 : decide (c3 < 1) = false) (b3 : decide (32 < c3) = false) (a4 : decide (c8 < 0) = false) (b4 : decide (2 < c8) = false) (t : Int) (x : (t != 0) = true) (HT : ∀ w, Calls Tryd.prog 50 #[.agg #[.int .i64 c0, .int .i64 c1, .int .i64 c2, .int .i64 c3, .int .i64 c4, .int .i64 c5, .int .i64 c6, .int .i64 c7, .int .i64 c8]] w fun e w' => e = .returned (.int .i64 t) ∧ Below w.heap.size w w') (w : World) : Calls Tryd.prog 29 #[.agg #[.int .i64 c0, .int .i64 c1, .int .i64 c2, .int .i64 c3, .int .i64 c4, .int .i64 c5, .int .i64 c6, .int .i64 c7, .int .i64 c8]] w (FaultPost w ⟨#[84, 97, 98, 108, 101]⟩ t) := by
  have HT' := Lib.hid HT
  clear HT
  go_enter Tryd.func29, Tryd.ntmps29
  go_wp2
  refine wp_loop_rounds 6 ?_
  rw [rounds_succ]
  go_wp2
  rw [rounds_succ]
  go_wp2
  rw [rounds_succ]
  go_wp2
  rw [rounds_succ]
  go_wp2
  rw [rounds_succ]
  go_wp2
  rw [rounds_succ]
  go_wp2_with (go_at_call 50; with_reducible refine (HT'.out _).mono ?_)
  rintro e1 w1 ⟨rfl, h1⟩
  have b1 := Lib.hid (Below.trans (show Below w.heap.size w _ from by repeat (first | exact Below.refl _ _ | refine Below.alloc ?_ (by first | exact Nat.le_refl _ | (simp only [World.size_alloc]; omega)) _)) (h1.mono (by simp only [World.size_alloc]; omega)))
  clear h1
  go_wp2
  go_ret
  exact ⟨_, rfl, by simp [go_sem], by simp [go_sem], b1.out.alloc b1.out.size _⟩

set_option maxRecDepth 100000 in
set_option maxHeartbeats 4000000 in
theorem check_levels (c0 c1 c2 c3 c4 c5 c6 c7 c8 : Int) (a0 : decide (c0 < 1) = false) (b0 : decide (64 < c0) = false) (a1 : decide (c1 < 1) = false) (b1 : decide (16 < c1) = false) (a2 : decide (c2 < 1) = false) (b2 : decide (16 < c2) = false) (a3 : decide (c3 < 1) = false) (b3 : decide (32 < c3) = false) (a4 : decide (c8 < 0) = false) (b4 : decide (2 < c8) = false) (m : Int) (x : (m != 0) = true) (HT : ∀ w, Calls Tryd.prog 50 #[.agg #[.int .i64 c0, .int .i64 c1, .int .i64 c2, .int .i64 c3, .int .i64 c4, .int .i64 c5, .int .i64 c6, .int .i64 c7, .int .i64 c8]] w fun e w' => e = .returned (.int .i64 0) ∧ Below w.heap.size w w') (HL : ∀ w, Calls Tryd.prog 51 #[.agg #[.int .i64 c0, .int .i64 c1, .int .i64 c2, .int .i64 c3, .int .i64 c4, .int .i64 c5, .int .i64 c6, .int .i64 c7, .int .i64 c8]] w fun e w' => e = .returned (.int .i64 m) ∧ Below w.heap.size w w') (w : World) : Calls Tryd.prog 29 #[.agg #[.int .i64 c0, .int .i64 c1, .int .i64 c2, .int .i64 c3, .int .i64 c4, .int .i64 c5, .int .i64 c6, .int .i64 c7, .int .i64 c8]] w (FaultPost w ⟨#[76, 101, 118, 101, 108, 115]⟩ m) := by
  have HL' := Lib.hid HL
  clear HL
  have HT' := Lib.hid HT
  clear HT
  go_enter Tryd.func29, Tryd.ntmps29
  go_wp2
  refine wp_loop_rounds 6 ?_
  rw [rounds_succ]
  go_wp2
  rw [rounds_succ]
  go_wp2
  rw [rounds_succ]
  go_wp2
  rw [rounds_succ]
  go_wp2
  rw [rounds_succ]
  go_wp2
  rw [rounds_succ]
  go_wp2_with (go_at_call 50; with_reducible refine (HT'.out _).mono ?_)
  rintro e1 w1 ⟨rfl, h1⟩
  have b1 := Lib.hid (Below.trans (show Below w.heap.size w _ from by repeat (first | exact Below.refl _ _ | refine Below.alloc ?_ (by first | exact Nat.le_refl _ | (simp only [World.size_alloc]; omega)) _)) (h1.mono (by simp only [World.size_alloc]; omega)))
  have q0 : w1.cell? ⟨w.heap.size, 0, none⟩ = some (.int .i64 c0) := (h1.cell (by simp only [World.size_alloc]; omega)).trans (by simp [go_sem])
  have q1 : w1.cell? ⟨w.heap.size, 1, none⟩ = some (.int .i64 c1) := (h1.cell (by simp only [World.size_alloc]; omega)).trans (by simp [go_sem])
  have q2 : w1.cell? ⟨w.heap.size, 2, none⟩ = some (.int .i64 c2) := (h1.cell (by simp only [World.size_alloc]; omega)).trans (by simp [go_sem])
  have q3 : w1.cell? ⟨w.heap.size, 3, none⟩ = some (.int .i64 c3) := (h1.cell (by simp only [World.size_alloc]; omega)).trans (by simp [go_sem])
  have q4 : w1.cell? ⟨w.heap.size, 4, none⟩ = some (.int .i64 c4) := (h1.cell (by simp only [World.size_alloc]; omega)).trans (by simp [go_sem])
  have q5 : w1.cell? ⟨w.heap.size, 5, none⟩ = some (.int .i64 c5) := (h1.cell (by simp only [World.size_alloc]; omega)).trans (by simp [go_sem])
  have q6 : w1.cell? ⟨w.heap.size, 6, none⟩ = some (.int .i64 c6) := (h1.cell (by simp only [World.size_alloc]; omega)).trans (by simp [go_sem])
  have q7 : w1.cell? ⟨w.heap.size, 7, none⟩ = some (.int .i64 c7) := (h1.cell (by simp only [World.size_alloc]; omega)).trans (by simp [go_sem])
  have q8 : w1.cell? ⟨w.heap.size, 8, none⟩ = some (.int .i64 c8) := (h1.cell (by simp only [World.size_alloc]; omega)).trans (by simp [go_sem])
  clear h1
  go_wp2_with (go_at_call 51; with_reducible refine (HL'.out _).mono ?_)
  rintro e2 w2 ⟨rfl, h2⟩
  have b2 := Lib.hid (b1.out.trans (h2.mono b1.out.size))
  clear h2
  go_wp2
  go_ret
  exact ⟨_, rfl, by simp [go_sem], by simp [go_sem], b2.out.alloc b2.out.size _⟩

set_option maxRecDepth 100000 in
set_option maxHeartbeats 4000000 in
theorem check_nil (c0 c1 c2 c3 c4 c5 c6 c7 c8 : Int) (a0 : decide (c0 < 1) = false) (b0 : decide (64 < c0) = false) (a1 : decide (c1 < 1) = false) (b1 : decide (16 < c1) = false) (a2 : decide (c2 < 1) = false) (b2 : decide (16 < c2) = false) (a3 : decide (c3 < 1) = false) (b3 : decide (32 < c3) = false) (a4 : decide (c8 < 0) = false) (b4 : decide (2 < c8) = false) (HT : ∀ w, Calls Tryd.prog 50 #[.agg #[.int .i64 c0, .int .i64 c1, .int .i64 c2, .int .i64 c3, .int .i64 c4, .int .i64 c5, .int .i64 c6, .int .i64 c7, .int .i64 c8]] w fun e w' => e = .returned (.int .i64 0) ∧ Below w.heap.size w w') (HL : ∀ w, Calls Tryd.prog 51 #[.agg #[.int .i64 c0, .int .i64 c1, .int .i64 c2, .int .i64 c3, .int .i64 c4, .int .i64 c5, .int .i64 c6, .int .i64 c7, .int .i64 c8]] w fun e w' => e = .returned (.int .i64 0) ∧ Below w.heap.size w w') (w : World) : Calls Tryd.prog 29 #[.agg #[.int .i64 c0, .int .i64 c1, .int .i64 c2, .int .i64 c3, .int .i64 c4, .int .i64 c5, .int .i64 c6, .int .i64 c7, .int .i64 c8]] w (NilPost w) := by
  have HL' := Lib.hid HL
  clear HL
  have HT' := Lib.hid HT
  clear HT
  go_enter Tryd.func29, Tryd.ntmps29
  go_wp2
  refine wp_loop_rounds 6 ?_
  rw [rounds_succ]
  go_wp2
  rw [rounds_succ]
  go_wp2
  rw [rounds_succ]
  go_wp2
  rw [rounds_succ]
  go_wp2
  rw [rounds_succ]
  go_wp2
  rw [rounds_succ]
  go_wp2_with (go_at_call 50; with_reducible refine (HT'.out _).mono ?_)
  rintro e1 w1 ⟨rfl, h1⟩
  have b1 := Lib.hid (Below.trans (show Below w.heap.size w _ from by repeat (first | exact Below.refl _ _ | refine Below.alloc ?_ (by first | exact Nat.le_refl _ | (simp only [World.size_alloc]; omega)) _)) (h1.mono (by simp only [World.size_alloc]; omega)))
  have q0 : w1.cell? ⟨w.heap.size, 0, none⟩ = some (.int .i64 c0) := (h1.cell (by simp only [World.size_alloc]; omega)).trans (by simp [go_sem])
  have q1 : w1.cell? ⟨w.heap.size, 1, none⟩ = some (.int .i64 c1) := (h1.cell (by simp only [World.size_alloc]; omega)).trans (by simp [go_sem])
  have q2 : w1.cell? ⟨w.heap.size, 2, none⟩ = some (.int .i64 c2) := (h1.cell (by simp only [World.size_alloc]; omega)).trans (by simp [go_sem])
  have q3 : w1.cell? ⟨w.heap.size, 3, none⟩ = some (.int .i64 c3) := (h1.cell (by simp only [World.size_alloc]; omega)).trans (by simp [go_sem])
  have q4 : w1.cell? ⟨w.heap.size, 4, none⟩ = some (.int .i64 c4) := (h1.cell (by simp only [World.size_alloc]; omega)).trans (by simp [go_sem])
  have q5 : w1.cell? ⟨w.heap.size, 5, none⟩ = some (.int .i64 c5) := (h1.cell (by simp only [World.size_alloc]; omega)).trans (by simp [go_sem])
  have q6 : w1.cell? ⟨w.heap.size, 6, none⟩ = some (.int .i64 c6) := (h1.cell (by simp only [World.size_alloc]; omega)).trans (by simp [go_sem])
  have q7 : w1.cell? ⟨w.heap.size, 7, none⟩ = some (.int .i64 c7) := (h1.cell (by simp only [World.size_alloc]; omega)).trans (by simp [go_sem])
  have q8 : w1.cell? ⟨w.heap.size, 8, none⟩ = some (.int .i64 c8) := (h1.cell (by simp only [World.size_alloc]; omega)).trans (by simp [go_sem])
  clear h1
  go_wp2_with (go_at_call 51; with_reducible refine (HL'.out _).mono ?_)
  rintro e2 w2 ⟨rfl, h2⟩
  have b2 := Lib.hid (b1.out.trans (h2.mono b1.out.size))
  clear h2
  go_wp2
  go_ret
  exact ⟨rfl, b2.out⟩

/-- what Check tells: nothing, or a field, and what is wrong -/
def check.f (c0 c1 c2 c3 c4 c5 c6 c7 c8 : Int) : Option (Option (ByteArray × Int)) :=
  if c0 < 1 ∨ 64 < c0 then some (some (⟨#[67, 97, 112, 97, 99, 105, 116, 121]⟩, 2)) else if c1 < 1 ∨ 16 < c1 then some (some (⟨#[66, 97, 116, 99, 104]⟩, 2)) else if c2 < 1 ∨ 16 < c2 then some (some (⟨#[75, 105, 99, 107, 115]⟩, 2)) else if c3 < 1 ∨ 32 < c3 then some (some (⟨#[83, 112, 105, 108, 108]⟩, 2)) else if c8 < 0 ∨ 2 < c8 then some (some (⟨#[80, 111, 108, 105, 99, 121]⟩, 2)) else
  (Ptable.config_Config_table.f 10 c0 c1 c2 c3 c4 c5 c6 c7 c8).bind fun t => if t = 0 then ((config_Config_levels.f c0 c1 c2 c3 c4 c5 c6 c7 c8).bind fun m => if m = 0 then some none else some (some (⟨#[76, 101, 118, 101, 108, 115]⟩, m))) else some (some (⟨#[84, 97, 98, 108, 101]⟩, t))
def CheckPost (o : Option (ByteArray × Int)) (w : World) : Ending → World → Prop :=
  match o with
  | none => NilPost w
  | some p => FaultPost w p.1 p.2
theorem check.calls (c0 c1 c2 c3 c4 c5 c6 c7 c8 : Int) (o : Option (ByteArray × Int)) (w : World) (h : check.f c0 c1 c2 c3 c4 c5 c6 c7 c8 = some o) : Calls Tryd.prog 29 #[.agg #[.int .i64 c0, .int .i64 c1, .int .i64 c2, .int .i64 c3, .int .i64 c4, .int .i64 c5, .int .i64 c6, .int .i64 c7, .int .i64 c8]] w (CheckPost o w) := by
  unfold check.f at h
  by_cases x0 : c0 < 1 ∨ 64 < c0
  · rw [if_pos x0] at h
    obtain rfl := Option.some.inj h
    by_cases y : c0 < 1
    · exact check_capacity_low c0 c1 c2 c3 c4 c5 c6 c7 c8  (decide_eq_true y) w
    · exact check_capacity_high c0 c1 c2 c3 c4 c5 c6 c7 c8  (decide_eq_false y) (decide_eq_true (by omega)) w
  rw [if_neg x0] at h
  by_cases x1 : c1 < 1 ∨ 16 < c1
  · rw [if_pos x1] at h
    obtain rfl := Option.some.inj h
    by_cases y : c1 < 1
    · exact check_batch_low c0 c1 c2 c3 c4 c5 c6 c7 c8 (decide_eq_false (by omega)) (decide_eq_false (by omega)) (decide_eq_true y) w
    · exact check_batch_high c0 c1 c2 c3 c4 c5 c6 c7 c8 (decide_eq_false (by omega)) (decide_eq_false (by omega)) (decide_eq_false y) (decide_eq_true (by omega)) w
  rw [if_neg x1] at h
  by_cases x2 : c2 < 1 ∨ 16 < c2
  · rw [if_pos x2] at h
    obtain rfl := Option.some.inj h
    by_cases y : c2 < 1
    · exact check_kicks_low c0 c1 c2 c3 c4 c5 c6 c7 c8 (decide_eq_false (by omega)) (decide_eq_false (by omega)) (decide_eq_false (by omega)) (decide_eq_false (by omega)) (decide_eq_true y) w
    · exact check_kicks_high c0 c1 c2 c3 c4 c5 c6 c7 c8 (decide_eq_false (by omega)) (decide_eq_false (by omega)) (decide_eq_false (by omega)) (decide_eq_false (by omega)) (decide_eq_false y) (decide_eq_true (by omega)) w
  rw [if_neg x2] at h
  by_cases x3 : c3 < 1 ∨ 32 < c3
  · rw [if_pos x3] at h
    obtain rfl := Option.some.inj h
    by_cases y : c3 < 1
    · exact check_spill_low c0 c1 c2 c3 c4 c5 c6 c7 c8 (decide_eq_false (by omega)) (decide_eq_false (by omega)) (decide_eq_false (by omega)) (decide_eq_false (by omega)) (decide_eq_false (by omega)) (decide_eq_false (by omega)) (decide_eq_true y) w
    · exact check_spill_high c0 c1 c2 c3 c4 c5 c6 c7 c8 (decide_eq_false (by omega)) (decide_eq_false (by omega)) (decide_eq_false (by omega)) (decide_eq_false (by omega)) (decide_eq_false (by omega)) (decide_eq_false (by omega)) (decide_eq_false y) (decide_eq_true (by omega)) w
  rw [if_neg x3] at h
  by_cases x4 : c8 < 0 ∨ 2 < c8
  · rw [if_pos x4] at h
    obtain rfl := Option.some.inj h
    by_cases y : c8 < 0
    · exact check_policy_low c0 c1 c2 c3 c4 c5 c6 c7 c8 (decide_eq_false (by omega)) (decide_eq_false (by omega)) (decide_eq_false (by omega)) (decide_eq_false (by omega)) (decide_eq_false (by omega)) (decide_eq_false (by omega)) (decide_eq_false (by omega)) (decide_eq_false (by omega)) (decide_eq_true y) w
    · exact check_policy_high c0 c1 c2 c3 c4 c5 c6 c7 c8 (decide_eq_false (by omega)) (decide_eq_false (by omega)) (decide_eq_false (by omega)) (decide_eq_false (by omega)) (decide_eq_false (by omega)) (decide_eq_false (by omega)) (decide_eq_false (by omega)) (decide_eq_false (by omega)) (decide_eq_false y) (decide_eq_true (by omega)) w
  rw [if_neg x4] at h
  obtain ⟨t, ht, h⟩ := Option.bind_eq_some_iff.mp h
  by_cases z : t = 0
  · rw [if_pos z] at h
    subst z
    obtain ⟨m, hm, h⟩ := Option.bind_eq_some_iff.mp h
    by_cases z : m = 0
    · rw [if_pos z] at h
      subst z
      obtain rfl := Option.some.inj h
      exact check_nil c0 c1 c2 c3 c4 c5 c6 c7 c8 (decide_eq_false (by omega)) (decide_eq_false (by omega)) (decide_eq_false (by omega)) (decide_eq_false (by omega)) (decide_eq_false (by omega)) (decide_eq_false (by omega)) (decide_eq_false (by omega)) (decide_eq_false (by omega)) (decide_eq_false (by omega)) (decide_eq_false (by omega)) (fun w => Ptable.config_Config_table.calls 10 c0 c1 c2 c3 c4 c5 c6 c7 c8 0 w ht) (fun w => config_Config_levels.calls c0 c1 c2 c3 c4 c5 c6 c7 c8 0 w hm) w
    · rw [if_neg z] at h
      obtain rfl := Option.some.inj h
      exact check_levels c0 c1 c2 c3 c4 c5 c6 c7 c8 (decide_eq_false (by omega)) (decide_eq_false (by omega)) (decide_eq_false (by omega)) (decide_eq_false (by omega)) (decide_eq_false (by omega)) (decide_eq_false (by omega)) (decide_eq_false (by omega)) (decide_eq_false (by omega)) (decide_eq_false (by omega)) (decide_eq_false (by omega)) m (by simpa using z) (fun w => Ptable.config_Config_table.calls 10 c0 c1 c2 c3 c4 c5 c6 c7 c8 0 w ht) (fun w => config_Config_levels.calls c0 c1 c2 c3 c4 c5 c6 c7 c8 m w hm) w
  · rw [if_neg z] at h
    obtain rfl := Option.some.inj h
    exact check_table c0 c1 c2 c3 c4 c5 c6 c7 c8 (decide_eq_false (by omega)) (decide_eq_false (by omega)) (decide_eq_false (by omega)) (decide_eq_false (by omega)) (decide_eq_false (by omega)) (decide_eq_false (by omega)) (decide_eq_false (by omega)) (decide_eq_false (by omega)) (decide_eq_false (by omega)) (decide_eq_false (by omega)) t (by simpa using z) (fun w => Ptable.config_Config_table.calls 10 c0 c1 c2 c3 c4 c5 c6 c7 c8 t w ht) w
end Go.Proofs.YtpaafeaolodkjaaDoor.Hand
