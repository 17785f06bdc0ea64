/- The place of a key in one table does not hang on the words of the other one; with a key more, and as much less of the word that is added, it is the same. No condition. -/
import Derived.Test.YtjkifbadbadoaaaPHashMovesx1
import Derived.Test.YtjkifbadbadoaaaHashFacts
import Derived.OpenShut
namespace Go.Proofs.Ytjkifbadbadoaaa.Pure
open Go.RowKit Go.Proofs.Ytjkifbadbadoaaa.Hand Go.Proofs.Ytjkifbadbadoaaa.PHashMoves Go.Proofs.YtjkifbadbadoaaaW.PrintWords Go.Proofs.YtjkifbadbadoaaaW.PrintLast Go.Proofs.YtjkifbadbadoaaaW.PrintMore

namespace HashMovesAid
theorem shown_true : shellgamelaw12_shown.f = some true := by
  unfold shellgamelaw12_shown.f
  rw [of_nil, Option.bind_some]
  unfold hash_At.f hash_Mix.f
  rw [at_shown, mix_0, mix_1]
  simp
theorem mix_f (a : Int) : hash_Mix.f a = some (mixN a) := rfl
end HashMovesAid
open HashMovesAid

theorem odd_mul (t : Int) : IntKind.u64.wrap (t * 2) = IntKind.u64.wrap (2 * t) := by rw [Int.mul_comm]
theorem wrap_odd (t : Int) : IntKind.u64.wrap (IntKind.u64.wrap (2 * t) + 1) = IntKind.u64.wrap (2 * t) + 1 := by
  simp only [IntKind.wrap_u64]; omega
/-- what is stirred for a place -/
theorem arg_eq (t m key : Int) : IntKind.u64.wrap (IntKind.u64.wrap (key * Go.bits .or .u64 (IntKind.u64.wrap (t * 2)) 1) + m) = IntKind.u64.wrap (IntKind.u64.wrap (key * IntKind.u64.wrap (IntKind.u64.wrap (2 * t) + 1)) + m) := by
  rw [odd_or, odd_mul, wrap_odd]
/-- with a key more, and as much less of the word that is added -/
theorem arg_more (t m key : Int) : IntKind.u64.wrap (IntKind.u64.wrap (IntKind.u64.wrap (key + 1) * IntKind.u64.wrap (IntKind.u64.wrap (2 * t) + 1)) + IntKind.u64.wrap (IntKind.u64.wrap (m - IntKind.u64.wrap (2 * t)) - 1)) =
    IntKind.u64.wrap (IntKind.u64.wrap (key * IntKind.u64.wrap (IntKind.u64.wrap (2 * t) + 1)) + m) := by
  simp only [IntKind.wrap_u64]
  generalize (2 * t) % 18446744073709551616 = x
  have h1 : (key + 1) % 18446744073709551616 * ((x + 1) % 18446744073709551616) % 18446744073709551616 = (key * (x + 1) + (x + 1)) % 18446744073709551616 := by
    rw [← Int.mul_emod, Int.add_mul, Int.one_mul]
  have h2 : key * ((x + 1) % 18446744073709551616) % 18446744073709551616 = (key * (x + 1)) % 18446744073709551616 := by
    rw [Int.mul_emod, Int.emod_emod, ← Int.mul_emod]
  rw [h1, h2]
  generalize key * (x + 1) = y
  omega
theorem HashMoves : shellgamelaw12_HashMoves.Pure := by
  intro a b c d key l ha hb hc hd hk hl
  have bl := bounds_i64 hl
  refine ⟨2, ?_⟩
  unfold shellgamelaw12_HashMoves.f
  rw [shown_true, Option.bind_some, if_pos rfl]
  by_cases c1 : l < 0
  · rw [if_pos c1]
    simp only [shellgamelaw12_HashMoves.j0, if_true]
  · rw [if_neg c1]
    by_cases c2 : l > 10
    · rw [decide_eq_true c2]
      simp only [shellgamelaw12_HashMoves.j0, if_true]
    · rw [decide_eq_false c2]
      obtain ⟨j, rfl⟩ := Int.eq_ofNat_of_zero_le (show 0 ≤ l by omega)
      have hj : j ≤ 10 := by omega
      simp only [shellgamelaw12_HashMoves.j0, Bool.false_eq_true, if_false]
      rw [if_pos (by omega), shl_one j hj]
      have hp : 2 ^ j ≤ 2 ^ 10 := Nat.pow_le_pow_right (by decide) hj
      have hp1 : 1 ≤ 2 ^ j := Nat.one_le_two_pow
      rw [atf_0 _ _ _ _ _ j hj, Option.bind_some, atf_1 _ _ _ _ _ j hj, Option.bind_some, atf_0 _ _ _ _ _ j hj, Option.bind_some, if_pos rfl, atf_1 _ _ _ _ _ j hj, Option.bind_some, if_pos rfl, atf_0 _ _ _ _ _ j hj, Option.bind_some, bne_self_eq_false]
      simp only [shellgamelaw12_HashMoves.j1, Bool.false_eq_true, if_false]
      rw [mix_f, Option.bind_some]
      have hpos : IntKind.u64.wrap ((2 ^ j : Nat) : Int) = ((2 ^ j : Nat) : Int) := by rw [IntKind.wrap_u64]; omega
      rw [atf_0 _ _ _ _ _ j hj, place_pow _ _ _ j hj, place_pow _ _ _ j hj, hpos, if_neg (by omega), arg_eq, arg_eq, arg_more]
      have hx : 0 ≤ IntKind.u64.wrap (IntKind.u64.wrap (key * IntKind.u64.wrap (IntKind.u64.wrap (2 * a) + 1)) + b) ∧ IntKind.u64.wrap (IntKind.u64.wrap (key * IntKind.u64.wrap (IntKind.u64.wrap (2 * a) + 1)) + b) ≤ 18446744073709551615 := by
        rw [IntKind.wrap_u64]; omega
      generalize IntKind.u64.wrap (IntKind.u64.wrap (key * IntKind.u64.wrap (IntKind.u64.wrap (2 * a) + 1)) + b) = x at *
      have hm := mix_bd x hx.1 hx.2
      generalize mixN x = M at *
      have hr : 0 ≤ M % ((2 ^ j : Nat) : Int) ∧ M % ((2 ^ j : Nat) : Int) < ((2 ^ j : Nat) : Int) := ⟨Int.emod_nonneg _ (by omega), Int.emod_lt_of_pos _ (by omega)⟩
      rw [Int.tmod_eq_emod_of_nonneg hm.1]
      generalize M % ((2 ^ j : Nat) : Int) = r at *
      rw [if_pos (by rw [IntKind.wrap_u64]; omega)]
      simp
end Go.Proofs.Ytjkifbadbadoaaa.Pure
