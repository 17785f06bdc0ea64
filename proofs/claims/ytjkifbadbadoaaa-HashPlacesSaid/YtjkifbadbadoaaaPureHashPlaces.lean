/- What words make, what is stirred, and a key's place, are those of the document's reference. No condition. -/
import Derived.Test.YtjkifbadbadoaaaPHashPlacesx
import Derived.Test.YtjkifbadbadoaaaHashFacts
import Derived.OpenShut
namespace Go.Proofs.Ytjkifbadbadoaaa.Pure
open Go.RowKit Go.Proofs.Ytjkifbadbadoaaa.Hand Go.Proofs.Ytjkifbadbadoaaa.PHashPlaces Go.Proofs.YtjkifbadbadoaaaW.PrintWords Go.Proofs.YtjkifbadbadoaaaW.PrintLast Go.Proofs.YtjkifbadbadoaaaW.PrintMore

namespace HashPlacesAid
theorem shown_true : shellgamelaw12_shown.f = some true := by
  unfold shellgamelaw12_shown.f
  rw [of_nil, Option.bind_some]
  unfold hash_At.f hash_Mix.f
  rw [at_shown, mix_0, mix_1]
  simp
theorem mix_f (a : Int) : hash_Mix.f a = some (mixN a) := rfl
end HashPlacesAid
open HashPlacesAid

theorem odd_mul (t : Int) : IntKind.u64.wrap (t * 2) = IntKind.u64.wrap (2 * t) := by rw [Int.mul_comm]
theorem wrap_odd (t : Int) : IntKind.u64.wrap (IntKind.u64.wrap (2 * t) + 1) = IntKind.u64.wrap (2 * t) + 1 := by
  simp only [IntKind.wrap_u64]; omega
/-- what is stirred for a place -/
theorem arg_eq (t m key : Int) : IntKind.u64.wrap (IntKind.u64.wrap (key * Go.bits .or .u64 (IntKind.u64.wrap (t * 2)) 1) + m) = IntKind.u64.wrap (IntKind.u64.wrap (key * IntKind.u64.wrap (IntKind.u64.wrap (2 * t) + 1)) + m) := by
  rw [odd_or, odd_mul, wrap_odd]
theorem ref_mix (a : Int) (h0 : 0 ≤ a) (h1 : a ≤ 18446744073709551615) : shellgameref12_Mix.f a = some (mixN a) := by
  unfold shellgameref12_Mix.f mixN
  have e1 : IntKind.u64.wrap (Int.tdiv a 536870912) = a / 536870912 := by rw [Int.tdiv_eq_ediv_of_nonneg h0, IntKind.wrap_u64]; omega
  rw [e1]
  have hw : 0 ≤ IntKind.u64.wrap (Go.bits .xor .u64 a (a / 536870912) * 11400714819323198485) ∧ IntKind.u64.wrap (Go.bits .xor .u64 a (a / 536870912) * 11400714819323198485) ≤ 18446744073709551615 := by rw [IntKind.wrap_u64]; omega
  generalize IntKind.u64.wrap (Go.bits .xor .u64 a (a / 536870912) * 11400714819323198485) = y at *
  have e2 : IntKind.u64.wrap (Int.tdiv y 4294967296) = y / 4294967296 := by rw [Int.tdiv_eq_ediv_of_nonneg hw.1, IntKind.wrap_u64]; omega
  rw [e2]
theorem ref_of (l : List Int) : shellgameref12_Of.f l = hash_Of.f l := by
  have e : ∀ i : Nat, shellgameref12_word.f l i = some (if i < l.length then rd l i else 0) := by
    intro i
    unfold shellgameref12_word.f
    by_cases h : i < l.length
    · rw [if_pos (by omega), if_pos (by omega), if_pos h]
    · rw [if_neg (by omega), if_neg h]
  have e0 := e 0
  have e1 := e 1
  have e2 := e 2
  have e3 := e 3
  unfold shellgameref12_Of.f hash_Of.f
  rw [show ((0 : Nat) : Int) = 0 from rfl] at e0
  rw [show ((1 : Nat) : Int) = 1 from rfl] at e1
  rw [show ((2 : Nat) : Int) = 2 from rfl] at e2
  rw [show ((3 : Nat) : Int) = 3 from rfl] at e3
  rw [e0, Option.bind_some, e1, Option.bind_some, e2, Option.bind_some, e3, Option.bind_some]

theorem stir_place (t m key : Int) (j : Nat) (hj : j ≤ 10) : ((shellgameref12_Mix.f (IntKind.u64.wrap ((IntKind.u64.wrap (key * (IntKind.u64.wrap ((IntKind.u64.wrap (2 * t)) + 1)))) + m))).bind fun t117 => (if (IntKind.u64.wrap ((2 ^ j : Nat) : Int)) = 0 then (none) else (some (wrap64 (Int.tmod t117 (IntKind.u64.wrap ((2 ^ j : Nat) : Int))))))) = some (placeN t m key (2 ^ j : Nat)) := by
  rw [place_pow _ _ _ j hj, arg_eq]
  have hx : 0 ≤ IntKind.u64.wrap (IntKind.u64.wrap (key * IntKind.u64.wrap (IntKind.u64.wrap (2 * t) + 1)) + m) ∧ IntKind.u64.wrap (IntKind.u64.wrap (key * IntKind.u64.wrap (IntKind.u64.wrap (2 * t) + 1)) + m) ≤ 18446744073709551615 := by
    rw [IntKind.wrap_u64]; omega
  generalize IntKind.u64.wrap (IntKind.u64.wrap (key * IntKind.u64.wrap (IntKind.u64.wrap (2 * t) + 1)) + m) = x at *
  rw [ref_mix x hx.1 hx.2, Option.bind_some]
  have hm := mix_bd x hx.1 hx.2
  generalize mixN x = M at *
  have hp : 2 ^ j ≤ 2 ^ 10 := Nat.pow_le_pow_right (by decide) hj
  have hp1 : 1 ≤ 2 ^ j := Nat.one_le_two_pow
  have hpos : IntKind.u64.wrap ((2 ^ j : Nat) : Int) = ((2 ^ j : Nat) : Int) := by rw [IntKind.wrap_u64]; omega
  rw [hpos, if_neg (by omega), Int.tmod_eq_emod_of_nonneg hm.1]
  have hr : 0 ≤ M % ((2 ^ j : Nat) : Int) ∧ M % ((2 ^ j : Nat) : Int) < ((2 ^ j : Nat) : Int) := ⟨Int.emod_nonneg _ (by omega), Int.emod_lt_of_pos _ (by omega)⟩
  generalize M % ((2 ^ j : Nat) : Int) = r at *
  have : wrap64 r = r := by unfold wrap64; omega
  rw [this]

theorem ref_at (A B C D table key size : Int) : ∀ (d k i : Nat), i + d = 10 → d + 3 ≤ k → (i = 0 ∨ ((2 ^ (i - 1) : Nat) : Int) < size) →
    shellgameref12_At.l0 k table key size (2 ^ i : Nat) A B C D = some (atN A B C D table key size) := by
  have stop : ∀ (k i : Nat), i ≤ 10 → (i = 0 ∨ ((2 ^ (i - 1) : Nat) : Int) < size) → ¬ (((2 ^ i : Nat) : Int) < size ∧ i < 10) →
      shellgameref12_At.j1 (k + 2) table key size (2 ^ i : Nat) A B C D = some (atN A B C D table key size) := by
    intro k i hi hlow hend
    simp only [shellgameref12_At.j1]
    by_cases hs : ((2 ^ i : Nat) : Int) = size
    · subst hs
      rw [if_pos rfl, at_pow _ _ _ _ _ _ i hi]
      by_cases h0 : table < 0
      · rw [if_pos h0, if_neg (by omega), if_neg (by omega)]
        simp only [shellgameref12_At.j2, if_true]
      · rw [if_neg h0]
        by_cases h1 : table > 1
        · rw [decide_eq_true h1, if_neg (by omega), if_neg (by omega)]
          simp only [shellgameref12_At.j2, if_true]
        · rw [decide_eq_false h1]
          simp only [shellgameref12_At.j2, Bool.false_eq_true, if_false]
          by_cases h2 : table = 1
          · rw [if_pos h2, if_neg (by omega), if_pos h2]
            exact stir_place C D key i hi
          · rw [if_neg h2, if_pos (by omega)]
            exact stir_place A B key i hi
    · rw [if_neg hs]
      simp only [shellgameref12_At.j2, if_true]
      rw [at_not]
      rintro ⟨j, hj, hj'⟩
      have hne : j ≠ i := by rintro rfl; exact hs hj'.symm
      rcases Nat.lt_or_ge j i with h | h
      · have h1 : 2 ^ j ≤ 2 ^ (i - 1) := Nat.pow_le_pow_right (by decide) (by omega)
        omega
      · have h1 : 2 ^ (i + 1) ≤ 2 ^ j := Nat.pow_le_pow_right (by decide) (by omega)
        rw [Nat.pow_succ] at h1
        have h2 : 1 ≤ 2 ^ i := Nat.one_le_two_pow
        have : ¬ i < 10 := fun h10 => hend ⟨by omega, h10⟩
        omega
  intro d
  induction d with
  | zero =>
    intro k i hi hk hlow
    obtain ⟨k, rfl⟩ : ∃ m, k = m + 1 := ⟨k - 1, by omega⟩
    have h10 : i = 10 := by omega
    have hstop := stop (k - 2) i (by omega) hlow (by omega)
    rw [show k - 2 + 2 = k from by omega] at hstop
    have hbig : ¬ ((2 ^ i : Nat) : Int) < 1024 := by rw [h10]; decide
    simp only [shellgameref12_At.l0]
    by_cases h : ((2 ^ i : Nat) : Int) < size
    · rw [if_pos h, if_neg hbig]; exact hstop
    · rw [if_neg h]; exact hstop
  | succ d ih =>
    intro k i hi hk hlow
    obtain ⟨k, rfl⟩ : ∃ m, k = m + 1 := ⟨k - 1, by omega⟩
    have hstop := fun h => stop (k - 2) i (by omega) hlow h
    rw [show k - 2 + 2 = k from by omega] at hstop
    have hp : 2 ^ i ≤ 2 ^ 9 := Nat.pow_le_pow_right (by decide) (by omega)
    simp only [shellgameref12_At.l0]
    by_cases h : ((2 ^ i : Nat) : Int) < size
    · rw [if_pos h, if_pos (by omega)]
      have e : wrap64 (2 * ((2 ^ i : Nat) : Int)) = ((2 ^ (i + 1) : Nat) : Int) := by rw [Nat.pow_succ]; unfold wrap64; omega
      rw [e]
      exact ih k (i + 1) (by omega) (by omega) (Or.inr (by rw [Nat.add_sub_cancel]; exact h))
    · rw [if_neg h]
      exact hstop (fun h' => h h'.1)

theorem HashPlaces : shellgamelaw12_HashPlaces.Pure := by
  intro l0 table key size _ _ hw ht hk hs
  have bk := bounds_u64 hk
  refine ⟨13, ?_⟩
  unfold shellgamelaw12_HashPlaces.f
  obtain ⟨A, B, C, D, hof⟩ : ∃ A B C D, hash_Of.f l0 = some (A, B, C, D) := ⟨_, _, _, _, rfl⟩
  have hat := ref_at A B C D table key size 10 13 0 (by omega) (by omega) (Or.inl rfl)
  rw [show ((2 ^ 0 : Nat) : Int) = 1 from rfl] at hat
  rw [shown_true, Option.bind_some, ref_of, hof, Option.bind_some, if_pos rfl]
  unfold shellgamelaw12_as.f
  rw [Option.bind_some, Option.bind_some]
  have he : (A == A && (B == B && (C == C && D == D))) = true := by simp
  rw [if_pos he, mix_f, Option.bind_some, ref_mix key bk.1 bk.2, Option.bind_some, if_pos rfl]
  unfold hash_At.f shellgameref12_At.f
  rw [Option.bind_some, Option.bind_some, hat, Option.bind_some]
  simp
end Go.Proofs.Ytjkifbadbadoaaa.Pure
