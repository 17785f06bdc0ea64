/- A text's word is its first bytes' word, with those behind them above it. No condition. -/
import Derived.Test.YtjkifbadbadoaaaPPackJoinx1
import Derived.Test.YtjkifbadbadoaaaWordFacts
import Derived.OpenShut
namespace Go.Proofs.Ytjkifbadbadoaaa.Pure
open Go.RowKit Go.Proofs.Ytjkifbadbadoaaa.Hand Go.Proofs.Ytjkifbadbadoaaa.PPackJoin Go.Proofs.YtjkifbadbadoaaaW.PrintWords Go.Proofs.YtjkifbadbadoaaaW.PrintLast Go.Proofs.YtjkifbadbadoaaaW.PrintMore

namespace PackJoinAid
theorem and_low (x : Int) (h0 : 0 ≤ x) (h1 : x < 18446744073709551616) : Go.bits .and .u64 x 72057594037927935 = x % 72057594037927936 := by
  rw [u64_and x _ h0 h1 (by omega) (by omega)]
  have e : (72057594037927935 : Int).toNat = 2 ^ 56 - 1 := by decide
  rw [e, Nat.and_two_pow_sub_one_eq_mod]
  obtain ⟨n, rfl⟩ := Int.eq_ofNat_of_zero_le h0
  simp only [Int.toNat_natCast]
  omega
theorem or_sum (x y k : Nat) (hx : x < 2 ^ k) (h : y * 2 ^ k < 18446744073709551616) (hk : k ≤ 56) : Go.bits .or .u64 (x : Int) ((y * 2 ^ k : Nat) : Int) = ((x + y * 2 ^ k : Nat) : Int) := by
  have h56 : 2 ^ k ≤ 2 ^ 56 := Nat.pow_le_pow_right (by omega) hk
  rw [u64_or_nat x (y * 2 ^ k) (by omega) h]
  have h := Nat.two_pow_add_eq_or_of_lt hx y
  rw [Nat.or_comm, Nat.mul_comm y, ← h, Nat.add_comm]
theorem pow8 (n : Nat) : (2 : Nat) ^ (8 * n) = 256 ^ n := by rw [Nat.pow_mul]
theorem ext_size (s : ByteArray) (a b : Nat) : (s.extract a b).size = min b s.size - a := by
  rw [← size_list, Lib.extract_data, List.length_take, List.length_drop, size_list]
  omega
end PackJoinAid
open PackJoinAid

theorem PackJoin : shellgamelaw4_PackJoin.Pure := by
  intro a0 a1 h0 h1
  refine ⟨2, ?_⟩
  have hs : shellgamelaw4_shown.f = some true := by
    unfold shellgamelaw4_shown.f
    rw [ab_some]
    simp
  unfold shellgamelaw4_PackJoin.f
  rw [hs]
  simp only [Option.bind_some, if_true]
  by_cases c : a0.size ≤ 7
  · have hd : decide ((a0.size : Int) > 7) = false := decide_eq_false (by omega)
    rw [hd]
    simp only [shellgamelaw4_PackJoin.j0, Bool.false_eq_true, if_false]
    obtain ⟨n, hn, hK⟩ : ∃ n : Nat, n ≤ a0.size ∧ mx 0 (mn a1 (a0.size : Int)) = n := by
      have h : 0 ≤ mx 0 (mn a1 (a0.size : Int)) ∧ mx 0 (mn a1 (a0.size : Int)) ≤ a0.size := by
        unfold mx mn
        constructor <;> split <;> split <;> omega
      obtain ⟨n, hn⟩ := Int.eq_ofNat_of_zero_le h.1
      exact ⟨n, by omega, hn⟩
    rw [hK, if_pos (by omega), if_pos (by omega), Int.toNat_natCast]
    have zx := ext_size a0 0 n
    have zy := ext_size a0 n a0.size
    obtain ⟨A, wa, la, ma, za, _, _, qa⟩ := word_some (a0.extract 0 n) (by omega)
    obtain ⟨B, wb, lb, mb, zb, _, _, qb⟩ := word_some (a0.extract n a0.size) (by omega)
    obtain ⟨C, wc, lc, mc, zc, _, _, qc⟩ := word_some a0 c
    rw [wa, wb, wc]
    simp only [Option.bind_some, if_true]
    rw [za, zb, zc, IntKind.wrap_u64, if_pos (by omega)]
    have ew : wrap64 (8 * (n : Int)) = ((8 * n : Nat) : Int) := by unfold wrap64; omega
    rw [ew, if_pos (by omega)]
    rw [and_low A la (by omega), and_low B lb (by omega), and_low C lc (by omega)]
    have lx : (a0.extract 0 n).data.toList = a0.data.toList.take n := by rw [Lib.extract_data]; simp
    have ly : (a0.extract n a0.size).data.toList = a0.data.toList.drop n := by
      rw [Lib.extract_data, List.take_of_length_le]
      rw [List.length_drop, size_list]; exact Nat.le_refl _
    have lz := size_list a0
    have bx : leN (a0.data.toList.take n) < 256 ^ n := by
      have := leN_lt (a0.data.toList.take n)
      rwa [List.length_take, Nat.min_eq_left (by omega)] at this
    have by_ : leN (a0.data.toList.drop n) < 256 ^ (a0.size - n) := by
      have := leN_lt (a0.data.toList.drop n)
      rwa [List.length_drop, size_list] at this
    have hsum := leN_append (a0.data.toList.take n) (a0.data.toList.drop n)
    rw [List.take_append_drop, List.length_take, Nat.min_eq_left (by omega)] at hsum
    have hall := leN_lt7 a0 c
    rw [lx] at qa
    rw [ly] at qb
    have hxs : 256 ^ n ≤ 256 ^ 7 := Nat.pow_le_pow_right (by omega) (by omega)
    have hys : 256 ^ (a0.size - n) ≤ 256 ^ 7 := Nat.pow_le_pow_right (by omega) (by omega)
    have ea : A % 72057594037927936 = (leN (a0.data.toList.take n) : Int) := by omega
    have eb : B % 72057594037927936 = (leN (a0.data.toList.drop n) : Int) := by omega
    have ec : C % 72057594037927936 = (leN a0.data.toList : Int) := by omega
    rw [ea, eb, ec]
    generalize leN (a0.data.toList.take n) = x at *
    generalize leN (a0.data.toList.drop n) = y at *
    have hm : 256 ^ n * y ≤ leN a0.data.toList := by omega
    have hp : shl .u64 (y : Int) ((8 * n : Nat) : Int) = ((y * 2 ^ (8 * n) : Nat) : Int) := by
      unfold shl
      have hb : IntKind.u64.bits = 64 := rfl
      rw [hb, Int.toNat_natCast, Nat.min_eq_left (by omega), IntKind.wrap_u64]
      have e : (y : Int) * 2 ^ (8 * n) = ((y * 2 ^ (8 * n) : Nat) : Int) := by rw [Int.natCast_mul, Int.natCast_pow]; rfl
      rw [e]
      have : y * 2 ^ (8 * n) < 18446744073709551616 := by rw [pow8, Nat.mul_comm]; omega
      omega
    have hy : y * 2 ^ (8 * n) < 18446744073709551616 := by rw [pow8, Nat.mul_comm]; omega
    rw [hp, or_sum x y (8 * n) (by rw [pow8]; exact bx) hy (by omega)]
    have hxy : x + y * 2 ^ (8 * n) = leN a0.data.toList := by rw [pow8, Nat.mul_comm, hsum]
    rw [hxy, and_low _ (by omega) (by omega)]
    have : ((leN a0.data.toList : Int) == (leN a0.data.toList : Int) % 72057594037927936) = true := by rw [beq_iff_eq]; omega
    rw [this]
  · have hd : decide ((a0.size : Int) > 7) = true := decide_eq_true (by omega)
    rw [hd]
    simp only [shellgamelaw4_PackJoin.j0, if_true]
end Go.Proofs.Ytjkifbadbadoaaa.Pure
