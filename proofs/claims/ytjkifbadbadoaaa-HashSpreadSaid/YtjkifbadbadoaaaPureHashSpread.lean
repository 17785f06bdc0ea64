/- Places are within the size; of a size twice as great the place is the same, or as much more; words beyond the fourth do not matter. No condition. -/
import Derived.Test.YtjkifbadbadoaaaPHashSpreadx
import Derived.Test.YtjkifbadbadoaaaHashFacts
import Derived.OpenShut
namespace Go.Proofs.Ytjkifbadbadoaaa.Pure
open Go.RowKit Go.Proofs.Ytjkifbadbadoaaa.Hand Go.Proofs.Ytjkifbadbadoaaa.PHashSpread Go.Proofs.YtjkifbadbadoaaaW.PrintWords Go.Proofs.YtjkifbadbadoaaaW.PrintLast Go.Proofs.YtjkifbadbadoaaaW.PrintMore

namespace HashSpreadAid
theorem shown_true : shellgamelaw12_shown.f = some true := by
  unfold shellgamelaw12_shown.f
  rw [of_nil, Option.bind_some]
  unfold hash_At.f hash_Mix.f
  rw [at_shown, mix_0, mix_1]
  simp
theorem mix_f (a : Int) : hash_Mix.f a = some (mixN a) := rfl
end HashSpreadAid
open HashSpreadAid

theorem of_take (l : List Int) (h : 4 ≤ l.length) : hash_Of.f (l.take 4) = hash_Of.f l := by
  unfold hash_Of.f
  have hl : (l.take 4).length = 4 := by rw [List.length_take]; omega
  rw [hl]
  have e : ∀ i : Int, 0 ≤ i → i < 4 → rd (l.take 4) i = rd l i := by
    intro i h0 h1
    unfold rd
    rw [List.getD_eq_getElem?_getD, List.getD_eq_getElem?_getD, List.getElem?_take]
    rw [if_pos (by omega)]
  rw [e 0 (by omega) (by omega), e 1 (by omega) (by omega), e 2 (by omega) (by omega), e 3 (by omega) (by omega)]
  rw [if_pos (by omega), if_pos (by omega), if_pos (by omega), if_pos (by omega), if_pos (by omega), if_pos (by omega), if_pos (by omega), if_pos (by omega)]

theorem HashSpread : shellgamelaw12_HashSpread.Pure := by
  intro l0 key l _ _ hw hk hl
  refine ⟨5, ?_⟩
  unfold shellgamelaw12_HashSpread.f
  rw [shown_true, Option.bind_some, if_pos rfl]
  by_cases c1 : l < 0
  · rw [if_pos c1]
    simp only [shellgamelaw12_HashSpread.j0, if_true]
  · rw [if_neg c1]
    by_cases c2 : l > 9
    · rw [decide_eq_true c2]
      simp only [shellgamelaw12_HashSpread.j0, if_true]
    · rw [decide_eq_false c2]
      obtain ⟨j, rfl⟩ := Int.eq_ofNat_of_zero_le (show 0 ≤ l by omega)
      have hj : j ≤ 9 := by omega
      simp only [shellgamelaw12_HashSpread.j0, Bool.false_eq_true, if_false]
      obtain ⟨A, B, C, D, hof⟩ : ∃ A B C D, hash_Of.f l0 = some (A, B, C, D) := ⟨_, _, _, _, rfl⟩
      rw [if_pos (by omega), shl_one j (by omega), hof, Option.bind_some]
      have hp : 2 ^ j ≤ 2 ^ 9 := Nat.pow_le_pow_right (by decide) hj
      have hp1 : 1 ≤ 2 ^ j := Nat.one_le_two_pow
      have e2 : wrap64 (2 * ((2 ^ j : Nat) : Int)) = ((2 ^ (j + 1) : Nat) : Int) := by rw [Nat.pow_succ]; unfold wrap64; omega
      have a0 := place_bd A B key j (by omega)
      have a1 := place_bd C D key j (by omega)
      have t0 := place_twice A B key j (by omega)
      have t1 := place_twice C D key j (by omega)
      have last : shellgamelaw12_HashSpread.l0 2 l0 key (2 ^ j : Nat) 2 A B C D = some true := by
        simp only [shellgamelaw12_HashSpread.l0]
        have h0 : hash_At.f A B C D 0 key 0 = some 0 := by
          unfold hash_At.f
          rw [at_not]
          rintro ⟨i, _, hi⟩
          have : 1 ≤ 2 ^ i := Nat.one_le_two_pow
          omega
        rw [if_neg (by decide), atf_2 _ _ _ _ _ _ (by decide) (by decide) j (by omega), Option.bind_some, if_pos rfl, h0, Option.bind_some, if_pos rfl]
        by_cases c4 : (l0.length : Int) < 4
        · rw [if_pos c4]
        · rw [if_neg c4, if_pos (by omega), of_take l0 (by omega), hof, Option.bind_some]
          simp
      have step : ∀ (k : Nat) (tb x y : Int), hash_At.f A B C D tb key (2 ^ j : Nat) = some x → hash_At.f A B C D tb key (2 ^ (j + 1) : Nat) = some y → 0 ≤ x → x < (2 ^ j : Nat) → (y = x ∨ y = x + (2 ^ j : Nat)) → tb < 2 → 0 ≤ tb →
          shellgamelaw12_HashSpread.l0 k l0 key (2 ^ j : Nat) (tb + 1) A B C D = some true → shellgamelaw12_HashSpread.l0 (k + 1) l0 key (2 ^ j : Nat) tb A B C D = some true := by
        intro k tb x y hx hy hx0 hx1 hxy ht ht0 hn
        simp only [shellgamelaw12_HashSpread.l0]
        have et : wrap64 (tb + 1) = tb + 1 := by unfold wrap64; omega
        have ex : wrap64 (x + ((2 ^ j : Nat) : Int)) = x + ((2 ^ j : Nat) : Int) := by unfold wrap64; omega
        rw [if_pos ht, hx, Option.bind_some, e2, hy, Option.bind_some, if_neg (by omega), if_neg (by omega), et, ex]
        rcases hxy with h | h
        · rw [if_pos h]; exact hn
        · by_cases hxy : y = x
          · rw [if_pos hxy]; exact hn
          · rw [if_neg hxy, if_pos h]; exact hn
      have s1 := step 2 1 _ _ (atf_1 A B C D key j (by omega)) (atf_1 A B C D key (j + 1) (by omega)) a1.1 a1.2 t1 (by decide) (by decide) last
      exact step 3 0 _ _ (atf_0 A B C D key j (by omega)) (atf_0 A B C D key (j + 1) (by omega)) a0.1 a0.2 t0 (by decide) (by decide) s1
end Go.Proofs.Ytjkifbadbadoaaa.Pure
