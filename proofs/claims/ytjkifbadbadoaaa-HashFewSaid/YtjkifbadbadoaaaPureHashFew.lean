/- Words that there are not are noughts: a hash of fewer words is that of them and noughts; with the first words alone the second table's places are those of its noughts. No condition. -/
import Derived.Test.YtjkifbadbadoaaaPHashFewx
import Derived.Test.YtjkifbadbadoaaaHashFacts
import Derived.OpenShut
namespace Go.Proofs.Ytjkifbadbadoaaa.Pure
open Go.RowKit Go.Proofs.Ytjkifbadbadoaaa.Hand Go.Proofs.Ytjkifbadbadoaaa.PHashFew Go.Proofs.YtjkifbadbadoaaaW.PrintWords Go.Proofs.YtjkifbadbadoaaaW.PrintLast Go.Proofs.YtjkifbadbadoaaaW.PrintMore

namespace HashFewAid
theorem shown_true : shellgamelaw12_shown.f = some true := by
  unfold shellgamelaw12_shown.f
  rw [of_nil, Option.bind_some]
  unfold hash_At.f hash_Mix.f
  rw [at_shown, mix_0, mix_1]
  simp
theorem mix_f (a : Int) : hash_Mix.f a = some (mixN a) := rfl
end HashFewAid
open HashFewAid

theorem rd_over (l : List Int) (i : Int) (h : l.length ≤ i.toNat) : rd l i = 0 := by
  unfold rd
  rw [List.getD_eq_getElem?_getD, List.getElem?_eq_none h]
  rfl
theorem of_rd (l : List Int) : hash_Of.f l = some (rd l 0, rd l 1, rd l 2, rd l 3) := by
  unfold hash_Of.f
  have e : ∀ n : Nat, (if n < l.length then rd l n else 0) = rd l n := by
    intro n
    by_cases h : n < l.length
    · rw [if_pos h]
    · rw [if_neg h, rd_over l n (by omega)]
  have e0 := e 0
  have e1 := e 1
  have e2 := e 2
  have e3 := e 3
  rw [show ((0 : Nat) : Int) = 0 from rfl] at e0
  rw [show ((1 : Nat) : Int) = 1 from rfl] at e1
  rw [show ((2 : Nat) : Int) = 2 from rfl] at e2
  rw [show ((3 : Nat) : Int) = 3 from rfl] at e3
  rw [e0, e1, e2, e3]
theorem rd_zeros (l : List Int) (i : Int) : rd (l ++ [0, 0, 0, 0]) i = rd l i := by
  unfold rd
  rw [List.getD_eq_getElem?_getD, List.getD_eq_getElem?_getD]
  by_cases h : i.toNat < l.length
  · rw [List.getElem?_append_left h]
  · rw [List.getElem?_append_right (by omega), List.getElem?_eq_none (l := l) (by omega)]
    generalize i.toNat - l.length = n
    match n with
    | 0 => rfl
    | 1 => rfl
    | 2 => rfl
    | 3 => rfl
    | n + 4 => rfl
theorem rd_take (l : List Int) (m : Nat) (i : Int) : rd (l.take m) i = if i.toNat < m then rd l i else 0 := by
  unfold rd
  rw [List.getD_eq_getElem?_getD, List.getD_eq_getElem?_getD, List.getElem?_take]
  by_cases h : i.toNat < m
  · rw [if_pos h, if_pos h]
  · rw [if_neg h, if_neg h]; rfl
theorem arg_zero (key : Int) (h0 : 0 ≤ key) (h1 : key ≤ 18446744073709551615) : IntKind.u64.wrap (IntKind.u64.wrap (key * Go.bits .or .u64 (IntKind.u64.wrap (0 * 2)) 1) + 0) = key := by
  rw [odd_or]
  simp only [IntKind.wrap_u64]
  omega
theorem HashFew : shellgamelaw12_HashFew.Pure := by
  intro l0 key l hm _ hw hk hl
  have bk := bounds_u64 hk
  refine ⟨1, ?_⟩
  unfold shellgamelaw12_HashFew.f
  rw [shown_true, Option.bind_some, if_pos rfl]
  by_cases c1 : l < 0
  · rw [if_pos c1]
    simp only [shellgamelaw12_HashFew.j0, if_true]
  · rw [if_neg c1]
    by_cases c2 : l > 10
    · rw [if_pos c2]
      simp only [shellgamelaw12_HashFew.j0, if_true]
    · rw [if_neg c2]
      by_cases c3 : (l0.length : Int) > 20
      · rw [decide_eq_true c3]
        simp only [shellgamelaw12_HashFew.j0, if_true]
      · rw [decide_eq_false c3]
        obtain ⟨j, rfl⟩ := Int.eq_ofNat_of_zero_le (show 0 ≤ l by omega)
        have hj : j ≤ 10 := by omega
        simp only [shellgamelaw12_HashFew.j0, Bool.false_eq_true, if_false]
        have hp : 2 ^ j ≤ 2 ^ 10 := Nat.pow_le_pow_right (by decide) hj
        have hp1 : 1 ≤ 2 ^ j := Nat.one_le_two_pow
        rw [if_pos (by omega), of_rd, Option.bind_some, Option.bind_some, if_pos (by simp; omega), Option.bind_some, Option.bind_some, List.nil_append, if_pos (by simp; omega), of_rd, Option.bind_some]
        obtain ⟨m, hm, hmn⟩ : ∃ m : Nat, mn (l0.length : Int) 2 = m ∧ (m ≤ 2 ∧ m ≤ l0.length ∧ (m = 2 ∨ m = l0.length)) := by
          refine ⟨min l0.length 2, ?_, by omega, by omega, by omega⟩
          unfold mn
          split <;> omega
        rw [hm, if_pos (by omega), if_pos (by omega), Int.toNat_natCast, of_rd, Option.bind_some]
        simp only [rd_zeros]
        have e0 : rd (l0.take m) 0 = rd l0 0 := by
          rw [rd_take]
          by_cases h : (0 : Int).toNat < m
          · rw [if_pos h]
          · rw [if_neg h, rd_over]; omega
        have e1 : rd (l0.take m) 1 = rd l0 1 := by
          rw [rd_take]
          by_cases h : (1 : Int).toNat < m
          · rw [if_pos h]
          · rw [if_neg h, rd_over]; omega
        have e2 : rd (l0.take m) 2 = 0 := by
          rw [rd_take, if_neg]
          show ¬ 2 < m
          omega
        have e3 : rd (l0.take m) 3 = 0 := by
          rw [rd_take, if_neg]
          show ¬ 3 < m
          omega
        rw [e0, e1, e2, e3, shl_one j hj]
        have he : (rd l0 0 == rd l0 0 && (rd l0 1 == rd l0 1 && (rd l0 2 == rd l0 2 && (rd l0 3 == rd l0 3)))) = true := by simp
        have hpos : IntKind.u64.wrap ((2 ^ j : Nat) : Int) = ((2 ^ j : Nat) : Int) := by rw [IntKind.wrap_u64]; omega
        rw [if_pos he, if_pos rfl, if_pos rfl, atf_1 _ _ _ _ _ j hj, Option.bind_some, mix_f, Option.bind_some, hpos, if_neg (by omega), place_pow _ _ _ j hj, arg_zero key bk.1 bk.2]
        have hmx := mix_bd key bk.1 bk.2
        generalize mixN key = M at *
        have hr : 0 ≤ M % ((2 ^ j : Nat) : Int) ∧ M % ((2 ^ j : Nat) : Int) < ((2 ^ j : Nat) : Int) := ⟨Int.emod_nonneg _ (by omega), Int.emod_lt_of_pos _ (by omega)⟩
        rw [Int.tmod_eq_emod_of_nonneg hmx.1]
        generalize M % ((2 ^ j : Nat) : Int) = r at *
        have hw64 : wrap64 r = r := by unfold wrap64; omega
        rw [hw64, if_pos rfl, atf_0 _ _ _ _ _ j hj, Option.bind_some, atf_0 _ _ _ _ _ j hj, Option.bind_some]
        simp
end Go.Proofs.Ytjkifbadbadoaaa.Pure
