/- The contract of hash.Of: the first four words, noughts for those that there are not. No condition but that the list lies in memory. -/
import Derived.Test.YtjkifbadbadoaaaHashAt
import Derived.Test.YtjkifbadbadoaaaWWords
namespace Go.Proofs.Ytjkifbadbadoaaa.Hand
open Go.RowKit Go.Proofs.YtjkifbadbadoaaaW.PrintWords
set_option linter.unusedVariables false

theorem cell_2 {w : World} {p : Addr} {v : Value} (h : w.cell? p = some v) (o1 o2 : Obj) : ((w.alloc o1).alloc o2).cell? p = some v := by
  have hb := ((Below.refl w.heap.size w).alloc (Nat.le_refl _) o1).alloc (by simp) o2
  exact (hb.cell (World.block_lt_of_cell? w _ h)).trans h
theorem add_0 (a : Addr) : a.add 0 = a := by unfold Addr.add; simp
theorem add_s (a : Addr) (n : Nat) (h : 0 < n) : a.add n = ⟨a.block, a.off + n, none⟩ := by unfold Addr.add; rw [if_neg (by omega)]

set_option maxHeartbeats 4000000 in
set_option maxRecDepth 100000 in
theorem of_0 (A0 : Option Addr) (c0 : Nat) (l0 : List Int) (w : World) (hr0 : Kd.C (Kd.int .u64) w A0 l0.length l0) (hc0 : l0.length ≤ c0) (hl : l0.length = 0) :
    Calls Try.prog 24 #[.slice A0 l0.length c0] w fun e w' => e = .returned (.agg #[.int .u64 0, .int .u64 0, .int .u64 0, .int .u64 0]) ∧ Below w.heap.size w w' := by
  rw [hl] at hc0 ⊢
  clear hr0
  go_enter Try.func24, Try.ntmps24
  go_wp2
  refine wp_loop_rounds 5 ?_
  rw [rounds_succ]; go_wp2
  rw [rounds_succ]; go_wp2
  rw [rounds_succ]; go_wp2
  rw [rounds_succ]; go_wp2
  rw [rounds_succ]; go_wp2
  refine bodyPost_ret (v := .agg #[.int .u64 0, .int .u64 0, .int .u64 0, .int .u64 0]) (by simp [results, Try.results24, go_sem]) rfl ⟨rfl, ?_⟩
  exact ((Below.refl _ _).alloc (Nat.le_refl _) _).alloc (by simp) _

set_option maxHeartbeats 4000000 in
set_option maxRecDepth 100000 in
theorem of_1 (A0 : Option Addr) (c0 : Nat) (l0 : List Int) (w : World) (hr0 : Kd.C (Kd.int .u64) w A0 l0.length l0) (hc0 : l0.length ≤ c0) (hl : l0.length = 1) :
    Calls Try.prog 24 #[.slice A0 l0.length c0] w fun e w' => e = .returned (.agg #[.int .u64 (rd l0 0), .int .u64 0, .int .u64 0, .int .u64 0]) ∧ Below w.heap.size w w' := by
  obtain ⟨ad, e0, h0⟩ := Kd.at_int hr0 0 (by omega) (by omega)
  subst e0
  rw [Int.toNat_zero, add_0] at h0
  replace h0 : ∀ o1 o2, ((w.alloc o1).alloc o2).cell? ad = _ := cell_2 h0
  rw [hl] at hc0 ⊢
  clear hr0
  generalize rd l0 0 = x0 at *
  go_enter Try.func24, Try.ntmps24
  go_wp2
  refine wp_loop_rounds 5 ?_
  rw [rounds_succ]; go_wp2
  rw [rounds_succ]; go_wp2
  rw [rounds_succ]; go_wp2
  rw [rounds_succ]; go_wp2
  rw [rounds_succ]; go_wp2
  refine bodyPost_ret (v := .agg #[.int .u64 x0, .int .u64 0, .int .u64 0, .int .u64 0]) (by simp [results, Try.results24, go_sem]) rfl ⟨rfl, ?_⟩
  exact ((Below.refl _ _).alloc (Nat.le_refl _) _).alloc (by simp) _

set_option maxHeartbeats 4000000 in
set_option maxRecDepth 100000 in
theorem of_2 (A0 : Option Addr) (c0 : Nat) (l0 : List Int) (w : World) (hr0 : Kd.C (Kd.int .u64) w A0 l0.length l0) (hc0 : l0.length ≤ c0) (hl : l0.length = 2) :
    Calls Try.prog 24 #[.slice A0 l0.length c0] w fun e w' => e = .returned (.agg #[.int .u64 (rd l0 0), .int .u64 (rd l0 1), .int .u64 0, .int .u64 0]) ∧ Below w.heap.size w w' := by
  obtain ⟨ad, e0, h0⟩ := Kd.at_int hr0 0 (by omega) (by omega)
  subst e0
  rw [Int.toNat_zero, add_0] at h0
  replace h0 : ∀ o1 o2, ((w.alloc o1).alloc o2).cell? ad = _ := cell_2 h0
  obtain ⟨ad1, e1, h1⟩ := Kd.at_int hr0 1 (by omega) (by omega)
  cases e1
  rw [show (Int.toNat 1) = 1 from rfl, add_s _ 1 (by omega)] at h1
  replace h1 : ∀ o1 o2, ((w.alloc o1).alloc o2).cell? ⟨ad.block, ad.off + 1, none⟩ = _ := cell_2 h1
  rw [hl] at hc0 ⊢
  clear hr0
  generalize rd l0 0 = x0 at *
  generalize rd l0 1 = x1 at *
  go_enter Try.func24, Try.ntmps24
  go_wp2
  refine wp_loop_rounds 5 ?_
  rw [rounds_succ]; go_wp2
  rw [rounds_succ]; go_wp2
  rw [rounds_succ]; go_wp2
  rw [rounds_succ]; go_wp2
  rw [rounds_succ]; go_wp2
  refine bodyPost_ret (v := .agg #[.int .u64 x0, .int .u64 x1, .int .u64 0, .int .u64 0]) (by simp [results, Try.results24, go_sem]) rfl ⟨rfl, ?_⟩
  exact ((Below.refl _ _).alloc (Nat.le_refl _) _).alloc (by simp) _

set_option maxHeartbeats 4000000 in
set_option maxRecDepth 100000 in
theorem of_3 (A0 : Option Addr) (c0 : Nat) (l0 : List Int) (w : World) (hr0 : Kd.C (Kd.int .u64) w A0 l0.length l0) (hc0 : l0.length ≤ c0) (hl : l0.length = 3) :
    Calls Try.prog 24 #[.slice A0 l0.length c0] w fun e w' => e = .returned (.agg #[.int .u64 (rd l0 0), .int .u64 (rd l0 1), .int .u64 (rd l0 2), .int .u64 0]) ∧ Below w.heap.size w w' := by
  obtain ⟨ad, e0, h0⟩ := Kd.at_int hr0 0 (by omega) (by omega)
  subst e0
  rw [Int.toNat_zero, add_0] at h0
  replace h0 : ∀ o1 o2, ((w.alloc o1).alloc o2).cell? ad = _ := cell_2 h0
  obtain ⟨ad1, e1, h1⟩ := Kd.at_int hr0 1 (by omega) (by omega)
  cases e1
  rw [show (Int.toNat 1) = 1 from rfl, add_s _ 1 (by omega)] at h1
  replace h1 : ∀ o1 o2, ((w.alloc o1).alloc o2).cell? ⟨ad.block, ad.off + 1, none⟩ = _ := cell_2 h1
  obtain ⟨ad2, e2, h2⟩ := Kd.at_int hr0 2 (by omega) (by omega)
  cases e2
  rw [show (Int.toNat 2) = 2 from rfl, add_s _ 2 (by omega)] at h2
  replace h2 : ∀ o1 o2, ((w.alloc o1).alloc o2).cell? ⟨ad.block, ad.off + 2, none⟩ = _ := cell_2 h2
  rw [hl] at hc0 ⊢
  clear hr0
  generalize rd l0 0 = x0 at *
  generalize rd l0 1 = x1 at *
  generalize rd l0 2 = x2 at *
  go_enter Try.func24, Try.ntmps24
  go_wp2
  refine wp_loop_rounds 5 ?_
  rw [rounds_succ]; go_wp2
  rw [rounds_succ]; go_wp2
  rw [rounds_succ]; go_wp2
  rw [rounds_succ]; go_wp2
  rw [rounds_succ]; go_wp2
  refine bodyPost_ret (v := .agg #[.int .u64 x0, .int .u64 x1, .int .u64 x2, .int .u64 0]) (by simp [results, Try.results24, go_sem]) rfl ⟨rfl, ?_⟩
  exact ((Below.refl _ _).alloc (Nat.le_refl _) _).alloc (by simp) _

set_option maxHeartbeats 4000000 in
set_option maxRecDepth 100000 in
theorem of_4 (A0 : Option Addr) (c0 : Nat) (l0 : List Int) (w : World) (hr0 : Kd.C (Kd.int .u64) w A0 l0.length l0) (hc0 : l0.length ≤ c0) (hl : 4 ≤ l0.length) :
    Calls Try.prog 24 #[.slice A0 l0.length c0] w fun e w' => e = .returned (.agg #[.int .u64 (rd l0 0), .int .u64 (rd l0 1), .int .u64 (rd l0 2), .int .u64 (rd l0 3)]) ∧ Below w.heap.size w w' := by
  obtain ⟨ad, e0, h0⟩ := Kd.at_int hr0 0 (by omega) (by omega)
  subst e0
  rw [Int.toNat_zero, add_0] at h0
  replace h0 : ∀ o1 o2, ((w.alloc o1).alloc o2).cell? ad = _ := cell_2 h0
  obtain ⟨ad1, e1, h1⟩ := Kd.at_int hr0 1 (by omega) (by omega)
  cases e1
  rw [show (Int.toNat 1) = 1 from rfl, add_s _ 1 (by omega)] at h1
  replace h1 : ∀ o1 o2, ((w.alloc o1).alloc o2).cell? ⟨ad.block, ad.off + 1, none⟩ = _ := cell_2 h1
  obtain ⟨ad2, e2, h2⟩ := Kd.at_int hr0 2 (by omega) (by omega)
  cases e2
  rw [show (Int.toNat 2) = 2 from rfl, add_s _ 2 (by omega)] at h2
  replace h2 : ∀ o1 o2, ((w.alloc o1).alloc o2).cell? ⟨ad.block, ad.off + 2, none⟩ = _ := cell_2 h2
  obtain ⟨ad3, e3, h3⟩ := Kd.at_int hr0 3 (by omega) (by omega)
  cases e3
  rw [show (Int.toNat 3) = 3 from rfl, add_s _ 3 (by omega)] at h3
  replace h3 : ∀ o1 o2, ((w.alloc o1).alloc o2).cell? ⟨ad.block, ad.off + 3, none⟩ = _ := cell_2 h3
  obtain ⟨n, hn⟩ : ∃ n, l0.length = n := ⟨_, rfl⟩
  rw [hn] at hl hc0 ⊢
  have p0 : decide (0 < (n : Int)) = true := decide_eq_true (by omega)
  have p1 : decide (1 < (n : Int)) = true := decide_eq_true (by omega)
  have p2 : decide (2 < (n : Int)) = true := decide_eq_true (by omega)
  have p3 : decide (3 < (n : Int)) = true := decide_eq_true (by omega)
  clear hr0
  generalize rd l0 0 = x0 at *
  generalize rd l0 1 = x1 at *
  generalize rd l0 2 = x2 at *
  generalize rd l0 3 = x3 at *
  go_enter Try.func24, Try.ntmps24
  go_wp2
  refine wp_loop_rounds 5 ?_
  rw [rounds_succ]; go_wp2
  rw [rounds_succ]; go_wp2
  rw [rounds_succ]; go_wp2
  rw [rounds_succ]; go_wp2
  rw [rounds_succ]; go_wp2
  refine bodyPost_ret (v := .agg #[.int .u64 x0, .int .u64 x1, .int .u64 x2, .int .u64 x3]) (by simp [results, Try.results24, go_sem]) rfl ⟨rfl, ?_⟩
  exact ((Below.refl _ _).alloc (Nat.le_refl _) _).alloc (by simp) _


def hash_Of.f (l0 : List Int) : Option (Int × Int × Int × Int) :=
  some (if 0 < l0.length then rd l0 0 else 0, if 1 < l0.length then rd l0 1 else 0, if 2 < l0.length then rd l0 2 else 0, if 3 < l0.length then rd l0 3 else 0)
theorem hash_Of.calls (A0 : Option Addr) (c0 : Nat) (l0 : List Int) (r1 : Int) (r2 : Int) (r3 : Int) (r4 : Int) (w : World) (hr0 : Kd.C (Kd.int .u64) w A0 l0.length l0) (hc0 : l0.length ≤ c0) (h : hash_Of.f l0 = some (r1, r2, r3, r4)) :
    Calls Try.prog 24 #[.slice A0 l0.length c0] w fun e w' => e = .returned (.agg #[.int .u64 r1, .int .u64 r2, .int .u64 r3, .int .u64 r4]) ∧ Below w.heap.size w w' := by
  unfold hash_Of.f at h
  simp only [Option.some.injEq, Prod.mk.injEq] at h
  obtain ⟨rfl, rfl, rfl, rfl⟩ := h
  by_cases h0 : l0.length = 0
  · have := of_0 A0 c0 l0 w hr0 hc0 h0
    rw [if_neg (by omega), if_neg (by omega), if_neg (by omega), if_neg (by omega)]
    exact this
  · by_cases h1 : l0.length = 1
    · have := of_1 A0 c0 l0 w hr0 hc0 h1
      rw [if_pos (by omega), if_neg (by omega), if_neg (by omega), if_neg (by omega)]
      exact this
    · by_cases h2 : l0.length = 2
      · have := of_2 A0 c0 l0 w hr0 hc0 h2
        rw [if_pos (by omega), if_pos (by omega), if_neg (by omega), if_neg (by omega)]
        exact this
      · by_cases h3 : l0.length = 3
        · have := of_3 A0 c0 l0 w hr0 hc0 h3
          rw [if_pos (by omega), if_pos (by omega), if_pos (by omega), if_neg (by omega)]
          exact this
        · have := of_4 A0 c0 l0 w hr0 hc0 (by omega)
          rw [if_pos (by omega), if_pos (by omega), if_pos (by omega), if_pos (by omega)]
          exact this
end Go.Proofs.Ytjkifbadbadoaaa.Hand
