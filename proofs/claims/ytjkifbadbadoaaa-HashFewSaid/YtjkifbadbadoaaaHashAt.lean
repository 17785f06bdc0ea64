/- The contracts of hash.Mix, hash.At and hash.Of. -/
import Derived.Test.YtjkifbadbadoaaaProg
import Derived.WalkKit
import Derived.WalkSpells
import Derived.WalkLawsBesides
import Derived.LoopN
import Derived.Deep.WholeRow
import Derived.Deep.QuietTactic
import Derived.BigQuiet
import Derived.KernelRfl
import Derived.Lib.Hide
namespace Go.Proofs.Ytjkifbadbadoaaa.Hand
open Go.RowKit
set_option linter.unusedVariables false

def mixN (n : Int) : Int := Go.bits .xor .u64 (IntKind.u64.wrap ((Go.bits .xor .u64 n (n / 536870912)) * 11400714819323198485)) ((IntKind.u64.wrap ((Go.bits .xor .u64 n (n / 536870912)) * 11400714819323198485)) / 4294967296)
theorem mix_any (n : Int) (w : World) :
    Calls Try.prog 27 #[.int .u64 n] w fun e w' => e = .returned (.int .u64 (mixN n)) ∧ w' = w := by
  unfold mixN
  go_enter Try.func27, Try.ntmps27
  go_wp2
  go_ret
  exact ⟨rfl, rfl⟩

/-- a key's place by two words, as the code has it -/
def placeN (t m key size : Int) : Int := wrap64 (Go.bits .and .u64 (mixN (IntKind.u64.wrap (IntKind.u64.wrap (key * Go.bits .or .u64 (IntKind.u64.wrap (t * 2)) 1) + m))) (size - 1))
set_option maxHeartbeats 1000000 in
theorem at_fn (t m key size : Int) (gk gs : Nat) (w : World) (hk : w.cell? ⟨gk, 0, none⟩ = some (.int .u64 key)) (hs : w.cell? ⟨gs, 0, none⟩ = some (.int .i64 size)) (hs1 : 1 ≤ size) (hs2 : size ≤ 1024) :
    Calls Try.prog 46 #[.int .u64 t, .int .u64 m, .pointer (some ⟨gk, 0, none⟩), .pointer (some ⟨gs, 0, none⟩)] w fun e w' => e = .returned (.int .i64 (placeN t m key size)) ∧ ∃ n, w' = w.drewN n := by
  unfold placeN
  go_enter Try.func46, Try.ntmps46
  go_wp2
  go_quiet ((go_at_call 27; exact Calls.quiet_of_same (mix_any _ _)))
  all_goals
    go_wp2
    go_ret
    exact ⟨rfl, _, rfl⟩

theorem below_drewN_ {B : Nat} {w w' : World} (h : Below B w w') (n : Nat) : Below B w (w'.drewN n) := by
  induction n generalizing w' with
  | zero => exact h
  | succ n ih => rw [← World.drew_drewN]; exact (ih h).drew
set_option maxHeartbeats 2000000 in
theorem at_0 (A B C D table key size : Int) (w : World) (hs1 : 1 ≤ size) (hs2 : size ≤ 1024) (hp : decide (0 < Go.bits .and .i64 size (size - 1)) = false) (ht : (table == 0) = true) :
    Calls Try.prog 29 #[.agg #[.int .u64 A, .int .u64 B, .int .u64 C, .int .u64 D], .int .i64 table, .int .u64 key, .int .i64 size] w fun e w' => e = .returned (.int .i64 (placeN A B key size)) ∧ Below w.heap.size w w' := by
  have hmf : ∀ (fn : Fn) (first cap : Array Value) (w : World), (Instr.makeFunc fn first cap).run Try.prog w = .ok (.func fn first cap) w := fun _ _ _ _ => rfl
  go_enter Try.func29, Try.ntmps29
  go_wp2_with fail
  refine (at_fn _ _ key size (w.heap.size + 1) (w.heap.size + 1 + 1) _ ?_ ?_ hs1 hs2).mono ?_
  · go_simp
  · go_simp
  rintro e w1 ⟨rfl, n, rfl⟩
  go_wp2
  go_ret
  exact ⟨rfl, below_drewN_ ((((Below.refl _ _).alloc (Nat.le_refl _) _).alloc (by simp) _).alloc (by simp; omega) _) n⟩

set_option maxHeartbeats 2000000 in
theorem at_1 (A B C D table key size : Int) (w : World) (hs1 : 1 ≤ size) (hs2 : size ≤ 1024) (hp : decide (0 < Go.bits .and .i64 size (size - 1)) = false) (ht : (table == 0) = false) (ht1 : (table == 1) = true) :
    Calls Try.prog 29 #[.agg #[.int .u64 A, .int .u64 B, .int .u64 C, .int .u64 D], .int .i64 table, .int .u64 key, .int .i64 size] w fun e w' => e = .returned (.int .i64 (placeN C D key size)) ∧ Below w.heap.size w w' := by
  have hmf : ∀ (fn : Fn) (first cap : Array Value) (w : World), (Instr.makeFunc fn first cap).run Try.prog w = .ok (.func fn first cap) w := fun _ _ _ _ => rfl
  go_enter Try.func29, Try.ntmps29
  go_wp2_with fail
  refine (at_fn _ _ key size (w.heap.size + 1) (w.heap.size + 1 + 1) _ ?_ ?_ hs1 hs2).mono ?_
  · go_simp
  · go_simp
  rintro e w1 ⟨rfl, n, rfl⟩
  go_wp2
  go_ret
  exact ⟨rfl, below_drewN_ ((((Below.refl _ _).alloc (Nat.le_refl _) _).alloc (by simp) _).alloc (by simp; omega) _) n⟩

set_option maxHeartbeats 2000000 in
theorem at_2 (A B C D table key size : Int) (w : World) (hs1 : 1 ≤ size) (hs2 : size ≤ 1024) (hp : decide (0 < Go.bits .and .i64 size (size - 1)) = false) (ht : (table == 0) = false) (ht1 : (table == 1) = false) :
    Calls Try.prog 29 #[.agg #[.int .u64 A, .int .u64 B, .int .u64 C, .int .u64 D], .int .i64 table, .int .u64 key, .int .i64 size] w fun e w' => e = .returned (.int .i64 (0)) ∧ Below w.heap.size w w' := by
  have hmf : ∀ (fn : Fn) (first cap : Array Value) (w : World), (Instr.makeFunc fn first cap).run Try.prog w = .ok (.func fn first cap) w := fun _ _ _ _ => rfl
  go_enter Try.func29, Try.ntmps29
  go_wp2
  go_ret
  exact ⟨rfl, (((Below.refl _ _).alloc (Nat.le_refl _) _).alloc (by simp) _).alloc (by simp; omega) _⟩

set_option maxHeartbeats 2000000 in
theorem at_low (A B C D table key size : Int) (w : World) (hs : decide (size < 1) = true) :
    Calls Try.prog 29 #[.agg #[.int .u64 A, .int .u64 B, .int .u64 C, .int .u64 D], .int .i64 table, .int .u64 key, .int .i64 size] w fun e w' => e = .returned (.int .i64 (0)) ∧ Below w.heap.size w w' := by
  have hmf : ∀ (fn : Fn) (first cap : Array Value) (w : World), (Instr.makeFunc fn first cap).run Try.prog w = .ok (.func fn first cap) w := fun _ _ _ _ => rfl
  go_enter Try.func29, Try.ntmps29
  go_wp2
  go_ret
  exact ⟨rfl, (((Below.refl _ _).alloc (Nat.le_refl _) _).alloc (by simp) _).alloc (by simp; omega) _⟩

set_option maxHeartbeats 2000000 in
theorem at_high (A B C D table key size : Int) (w : World) (hs : decide (size < 1) = false) (hs' : decide (1024 < size) = true) :
    Calls Try.prog 29 #[.agg #[.int .u64 A, .int .u64 B, .int .u64 C, .int .u64 D], .int .i64 table, .int .u64 key, .int .i64 size] w fun e w' => e = .returned (.int .i64 (0)) ∧ Below w.heap.size w w' := by
  have hmf : ∀ (fn : Fn) (first cap : Array Value) (w : World), (Instr.makeFunc fn first cap).run Try.prog w = .ok (.func fn first cap) w := fun _ _ _ _ => rfl
  go_enter Try.func29, Try.ntmps29
  go_wp2
  go_ret
  exact ⟨rfl, (((Below.refl _ _).alloc (Nat.le_refl _) _).alloc (by simp) _).alloc (by simp; omega) _⟩

set_option maxHeartbeats 2000000 in
theorem at_no (A B C D table key size : Int) (w : World) (hs1 : 1 ≤ size) (hs2 : size ≤ 1024) (hp : decide (0 < Go.bits .and .i64 size (size - 1)) = true) :
    Calls Try.prog 29 #[.agg #[.int .u64 A, .int .u64 B, .int .u64 C, .int .u64 D], .int .i64 table, .int .u64 key, .int .i64 size] w fun e w' => e = .returned (.int .i64 (0)) ∧ Below w.heap.size w w' := by
  have hmf : ∀ (fn : Fn) (first cap : Array Value) (w : World), (Instr.makeFunc fn first cap).run Try.prog w = .ok (.func fn first cap) w := fun _ _ _ _ => rfl
  go_enter Try.func29, Try.ntmps29
  go_wp2
  go_ret
  exact ⟨rfl, (((Below.refl _ _).alloc (Nat.le_refl _) _).alloc (by simp) _).alloc (by simp; omega) _⟩

def atN (A B C D table key size : Int) : Int := if 1 ≤ size ∧ size ≤ 1024 ∧ ¬ 0 < Go.bits .and .i64 size (size - 1) then (if table = 0 then placeN A B key size else if table = 1 then placeN C D key size else 0) else 0
def hash_At.f (a0_0 : Int) (a0_1 : Int) (a0_2 : Int) (a0_3 : Int) (a1 : Int) (a2 : Int) (a3 : Int) : Option Int := some (atN a0_0 a0_1 a0_2 a0_3 a1 a2 a3)
theorem hash_At.calls (a0_0 : Int) (a0_1 : Int) (a0_2 : Int) (a0_3 : Int) (a1 : Int) (a2 : Int) (a3 : Int) (r : Int) (w : World) (h : hash_At.f a0_0 a0_1 a0_2 a0_3 a1 a2 a3 = some r) :
    Calls Try.prog 29 #[.agg #[.int .u64 a0_0, .int .u64 a0_1, .int .u64 a0_2, .int .u64 a0_3], .int .i64 a1, .int .u64 a2, .int .i64 a3] w fun e w' => e = .returned (.int .i64 r) ∧ Below w.heap.size w w' := by
  unfold hash_At.f at h
  obtain rfl := Option.some.inj h
  unfold atN
  by_cases h1 : 1 ≤ a3
  · by_cases h2 : a3 ≤ 1024
    · by_cases h3 : 0 < Go.bits .and .i64 a3 (a3 - 1)
      · rw [if_neg (fun h => h.2.2 h3)]
        exact at_no _ _ _ _ _ _ _ w h1 h2 (decide_eq_true h3)
      · rw [if_pos ⟨h1, h2, h3⟩]
        by_cases h4 : a1 = 0
        · rw [if_pos h4]
          exact at_0 _ _ _ _ _ _ _ w h1 h2 (decide_eq_false h3) (beq_iff_eq.2 h4)
        · rw [if_neg h4]
          by_cases h5 : a1 = 1
          · rw [if_pos h5]
            exact at_1 _ _ _ _ _ _ _ w h1 h2 (decide_eq_false h3) (beq_eq_false_iff_ne.2 h4) (beq_iff_eq.2 h5)
          · rw [if_neg h5]
            exact at_2 _ _ _ _ _ _ _ w h1 h2 (decide_eq_false h3) (beq_eq_false_iff_ne.2 h4) (beq_eq_false_iff_ne.2 h5)
    · rw [if_neg (fun h => h2 h.2.1)]
      exact at_high _ _ _ _ _ _ _ w (decide_eq_false (by omega)) (decide_eq_true (by omega))
  · rw [if_neg (fun h => h1 h.1)]
    exact at_low _ _ _ _ _ _ _ w (decide_eq_true (by omega))
def hash_Mix.f (a0 : Int) : Option Int := some (mixN a0)
theorem hash_Mix.calls (a0 : Int) (r : Int) (w : World) (h : hash_Mix.f a0 = some r) :
    Calls Try.prog 27 #[.int .u64 a0] w fun e w' => e = .returned (.int .u64 r) ∧ Below w.heap.size w w' := by
  unfold hash_Mix.f at h
  obtain rfl := Option.some.inj h
  exact (mix_any a0 w).mono fun _ _ ⟨he, hw⟩ => ⟨he, by rw [hw]; exact Below.refl _ _⟩
end Go.Proofs.Ytjkifbadbadoaaa.Hand
