/- Plain facts on what is stirred, and on places: no Go here. -/
import Derived.Test.YtjkifbadbadoaaaHashOf
import Derived.Test.YtjkifbadbadoaaaWMore
namespace Go.Proofs.Ytjkifbadbadoaaa.Hand
open Go.RowKit Go.Proofs.YtjkifbadbadoaaaW.PrintWords Go.Proofs.YtjkifbadbadoaaaW.PrintLast Go.Proofs.YtjkifbadbadoaaaW.PrintMore
set_option linter.unusedVariables false

theorem xs_two (k i : Nat) (h : k / 2 ^ i / 2 ^ i = 0) : (k ^^^ k / 2 ^ i) ^^^ ((k ^^^ k / 2 ^ i) / 2 ^ i) = k := by
  rw [← Nat.shiftRight_eq_div_pow] at h ⊢
  rw [← Nat.shiftRight_eq_div_pow] at h ⊢
  rw [Nat.shiftRight_xor_distrib, h, Nat.xor_zero, Nat.xor_assoc, Nat.xor_self, Nat.xor_zero]
theorem xs_three (k i j : Nat) (hj : j = i + i) (h : k / 2 ^ (i + i + i) = 0) : ((k ^^^ k / 2 ^ i) ^^^ ((k ^^^ k / 2 ^ i) / 2 ^ i)) ^^^ ((k ^^^ k / 2 ^ i) / 2 ^ j) = k := by
  subst hj
  have e1 : (k ^^^ k / 2 ^ i) / 2 ^ i = k / 2 ^ i ^^^ k / 2 ^ (i + i) := by
    simp only [← Nat.shiftRight_eq_div_pow, Nat.shiftRight_xor_distrib, Nat.shiftRight_add]
  have e2 : (k ^^^ k / 2 ^ i) / 2 ^ (i + i) = k / 2 ^ (i + i) ^^^ 0 := by
    rw [← h]
    simp only [← Nat.shiftRight_eq_div_pow, Nat.shiftRight_xor_distrib, Nat.shiftRight_add]
  rw [e1, e2, Nat.xor_zero]
  generalize k / 2 ^ i = a
  generalize k / 2 ^ (i + i) = b
  rw [Nat.xor_assoc, Nat.xor_assoc, Nat.xor_assoc, Nat.xor_self, Nat.xor_zero, Nat.xor_self, Nat.xor_zero]

theorem mul_back (z O I M : Nat) (h : (O * I) % M = 1) (hz : z < M) : ((z * O) % M * I) % M = z := by
  rw [Nat.mod_mul_mod, Nat.mul_assoc, Nat.mul_mod, h, Nat.mul_one, Nat.mod_mod, Nat.mod_eq_of_lt hz]

theorem xor_div (a p P : Nat) (hP : P = 2 ^ p) (ha : a < 18446744073709551616) : Go.bits .xor .u64 (a : Int) ((a : Int) / (P : Int)) = ((a ^^^ a / 2 ^ p : Nat) : Int) ∧ a ^^^ a / 2 ^ p < 18446744073709551616 := by
  subst hP
  have hd : a / 2 ^ p < 18446744073709551616 := Nat.lt_of_le_of_lt (Nat.div_le_self _ _) ha
  rw [← Int.natCast_ediv, u64_xor_nat _ _ ha hd]
  exact ⟨rfl, Nat.xor_lt_two_pow (n := 64) ha hd⟩

theorem mix_nat (a : Nat) (ha : a < 18446744073709551616) : ∃ z k : Nat, z = a ^^^ a / 2 ^ 29 ∧ z < 18446744073709551616 ∧ k = (z * 11400714819323198485) % 18446744073709551616 ∧ mixN a = ((k ^^^ k / 2 ^ 32 : Nat) : Int) ∧ k < 18446744073709551616 ∧ k ^^^ k / 2 ^ 32 < 18446744073709551616 := by
  have h1 := xor_div a 29 536870912 (by decide) ha
  refine ⟨a ^^^ a / 2 ^ 29, _, rfl, h1.2, rfl, ?_⟩
  have e : IntKind.u64.wrap (((a ^^^ a / 2 ^ 29 : Nat) : Int) * 11400714819323198485) = (((a ^^^ a / 2 ^ 29) * 11400714819323198485 % 18446744073709551616 : Nat) : Int) := by
    rw [IntKind.wrap_u64, Int.natCast_emod, Int.natCast_mul]
    rfl
  have hk : (a ^^^ a / 2 ^ 29) * 11400714819323198485 % 18446744073709551616 < 18446744073709551616 := Nat.mod_lt _ (by decide)
  have h2 := xor_div _ 32 4294967296 (by decide) hk
  refine ⟨?_, hk, h2.2⟩
  unfold mixN
  rw [show (536870912 : Int) = ((536870912 : Nat) : Int) from rfl, h1.1, e, show (4294967296 : Int) = ((4294967296 : Nat) : Int) from rfl]
  exact h2.1
theorem mix_bd (a : Int) (h0 : 0 ≤ a) (h1 : a ≤ 18446744073709551615) : 0 ≤ mixN a ∧ mixN a ≤ 18446744073709551615 := by
  obtain ⟨n, rfl⟩ := Int.eq_ofNat_of_zero_le h0
  obtain ⟨z, k, _, _, _, hm, _, hb⟩ := mix_nat n (by omega)
  rw [hm]
  generalize k ^^^ k / 2 ^ 32 = y at *
  omega
/-- what was stirred can be told -/
theorem unmix (a y T : Int) (h0 : 0 ≤ a) (h1 : a ≤ 18446744073709551615) (hy : y = mixN a) (hT : T = IntKind.u64.wrap ((Go.bits .xor .u64 y (y / 4294967296)) * 17428512612931826493)) :
    Go.bits .xor .u64 (Go.bits .xor .u64 T (T / 536870912)) (T / 288230376151711744) = a := by
  obtain ⟨n, rfl⟩ := Int.eq_ofNat_of_zero_le h0
  obtain ⟨z, k, hz, hz1, hk, hm, hk1, hb⟩ := mix_nat n (by omega)
  rw [hm] at hy
  subst hy
  have h2 := xor_div _ 32 4294967296 (by decide) hb
  have hkz : k / 2 ^ 32 / 2 ^ 32 = 0 := by
    rw [Nat.div_div_eq_div_mul, ← Nat.pow_add]
    exact Nat.div_eq_of_lt hk1
  rw [xs_two k 32 hkz] at h2
  rw [show (4294967296 : Int) = ((4294967296 : Nat) : Int) from rfl, h2.1] at hT
  have hTz : T = (z : Int) := by
    rw [hT, IntKind.wrap_u64]
    have hb := mul_back z 11400714819323198485 17428512612931826493 18446744073709551616 (by decide) hz1
    rw [← hk] at hb
    rw [← hb, Int.natCast_emod, Int.natCast_mul]
    rfl
  subst hTz
  have h3 := xor_div z 29 536870912 (by decide) hz1
  rw [show (536870912 : Int) = ((536870912 : Nat) : Int) from rfl, h3.1, show (288230376151711744 : Int) = ((288230376151711744 : Nat) : Int) from rfl, ← Int.natCast_ediv, show (288230376151711744 : Nat) = 2 ^ 58 from rfl]
  have hd : z / 2 ^ 58 < 18446744073709551616 := Nat.lt_of_le_of_lt (Nat.div_le_self _ _) hz1
  rw [u64_xor_nat _ _ h3.2 hd, hz, xs_three n 29 58 rfl (Nat.div_eq_of_lt (Nat.lt_of_lt_of_le (show n < 2 ^ 64 by omega) (Nat.pow_le_pow_right (by decide) (by decide))))]
theorem mix_inj (a b : Int) (ha : 0 ≤ a) (ha1 : a ≤ 18446744073709551615) (hb : 0 ≤ b) (hb1 : b ≤ 18446744073709551615) (h : mixN a = mixN b) : a = b := by
  have e1 := unmix a (mixN a) _ ha ha1 rfl rfl
  have e2 := unmix b (mixN a) _ hb hb1 h rfl
  exact e1.symm.trans e2
theorem mix_0 : mixN 0 = 0 := by decide +kernel
theorem mix_1 : mixN 1 = 11400714820970677676 := by decide +kernel
theorem at_shown : atN 0 0 0 0 0 0 8 = 0 := by decide +kernel
theorem of_nil : hash_Of.f [] = some (0, 0, 0, 0) := rfl

/-- a place is what is stirred, modulo a size that is a power of two -/
theorem place_pow (t m key : Int) (j : Nat) (hj : j ≤ 10) : placeN t m key (2 ^ j : Nat) = mixN (IntKind.u64.wrap (IntKind.u64.wrap (key * Go.bits .or .u64 (IntKind.u64.wrap (t * 2)) 1) + m)) % (2 ^ j : Nat) := by
  unfold placeN
  generalize hx : IntKind.u64.wrap (IntKind.u64.wrap (key * Go.bits .or .u64 (IntKind.u64.wrap (t * 2)) 1) + m) = x
  have hx0 : 0 ≤ x ∧ x ≤ 18446744073709551615 := by rw [← hx, IntKind.wrap_u64]; omega
  have hm := mix_bd x hx0.1 hx0.2
  generalize mixN x = M at *
  obtain ⟨n, rfl⟩ := Int.eq_ofNat_of_zero_le hm.1
  have hp : 2 ^ j ≤ 2 ^ 10 := Nat.pow_le_pow_right (by decide) hj
  have hp1 : 1 ≤ 2 ^ j := Nat.one_le_two_pow
  have e : ((2 ^ j : Nat) : Int) - 1 = ((2 ^ j - 1 : Nat) : Int) := by omega
  rw [e, u64_and_nat _ _ (by omega) (by omega), Nat.and_two_pow_sub_one_eq_mod, ← Int.natCast_emod]
  have : n % 2 ^ j < 2 ^ j := Nat.mod_lt _ (by omega)
  unfold wrap64
  omega
theorem odd_or (t : Int) : Go.bits .or .u64 (IntKind.u64.wrap (t * 2)) 1 = IntKind.u64.wrap (t * 2) + 1 := by
  have h : 0 ≤ IntKind.u64.wrap (t * 2) ∧ IntKind.u64.wrap (t * 2) ≤ 18446744073709551615 ∧ IntKind.u64.wrap (t * 2) % 2 = 0 := by rw [IntKind.wrap_u64]; omega
  generalize IntKind.u64.wrap (t * 2) = x at *
  obtain ⟨n, rfl⟩ := Int.eq_ofNat_of_zero_le h.1
  rw [show (1 : Int) = ((1 : Nat) : Int) from rfl, u64_or_nat n 1 (by omega) (by decide)]
  have hn : n = 2 * (n / 2) := by omega
  have := Nat.two_pow_add_eq_or_of_lt (i := 1) (b := 1) (by decide) (n / 2)
  rw [Nat.pow_one, ← hn] at this
  rw [← this]
  omega
/-- is a number a power of two, up to 1024? -/
def powB (s : Nat) : Bool := s == 1 || s == 2 || s == 4 || s == 8 || s == 16 || s == 32 || s == 64 || s == 128 || s == 256 || s == 512 || s == 1024
theorem and_pow (s : Nat) (h1 : 1 ≤ s) (h2 : s ≤ 1024) : decide (0 < s &&& (s - 1)) = !powB s := by
  have key : ∀ s : Fin 1025, 1 ≤ s.val → decide (0 < s.val &&& (s.val - 1)) = !powB s.val := by decide +kernel
  exact key ⟨s, by omega⟩ h1
theorem i64_and_nat (s : Nat) (h1 : 1 ≤ s) (h2 : s ≤ 1024) : Go.bits .and .i64 (s : Int) ((s : Int) - 1) = ((s &&& (s - 1) : Nat) : Int) := by
  have key : ∀ s : Fin 1025, 1 ≤ s.val → Go.bits .and .i64 (s.val : Int) ((s.val : Int) - 1) = ((s.val &&& (s.val - 1) : Nat) : Int) := by decide +kernel
  exact key ⟨s, by omega⟩ h1
theorem at_pow (A B C D table key : Int) (j : Nat) (hj : j ≤ 10) : atN A B C D table key (2 ^ j : Nat) = if table = 0 then placeN A B key (2 ^ j : Nat) else if table = 1 then placeN C D key (2 ^ j : Nat) else 0 := by
  unfold atN
  have hp : 2 ^ j ≤ 2 ^ 10 := Nat.pow_le_pow_right (by decide) hj
  have hp1 : 1 ≤ 2 ^ j := Nat.one_le_two_pow
  rw [if_pos]
  refine ⟨by omega, by omega, ?_⟩
  rw [i64_and_nat _ hp1 hp]
  have h := and_pow (2 ^ j) hp1 hp
  have hb : powB (2 ^ j) = true := by
    obtain rfl | rfl | rfl | rfl | rfl | rfl | rfl | rfl | rfl | rfl | rfl : j = 0 ∨ j = 1 ∨ j = 2 ∨ j = 3 ∨ j = 4 ∨ j = 5 ∨ j = 6 ∨ j = 7 ∨ j = 8 ∨ j = 9 ∨ j = 10 := by omega
    all_goals decide
  rw [hb] at h
  have := of_decide_eq_false h
  omega
theorem at_not (A B C D table key size : Int) (h : ¬ ∃ j : Nat, j ≤ 10 ∧ size = (2 ^ j : Nat)) : atN A B C D table key size = 0 := by
  unfold atN
  rw [if_neg]
  rintro ⟨h1, h2, h3⟩
  obtain ⟨s, rfl⟩ := Int.eq_ofNat_of_zero_le (show 0 ≤ size by omega)
  rw [i64_and_nat s (by omega) (by omega)] at h3
  have hb := and_pow s (by omega) (by omega)
  have hf : decide (0 < s &&& (s - 1)) = false := decide_eq_false (by omega)
  rw [hf] at hb
  have hp : powB s = true := by simpa using hb
  unfold powB at hp
  simp only [Bool.or_eq_true, beq_iff_eq] at hp
  apply h
  rcases hp with (((((((((rfl | rfl) | rfl) | rfl) | rfl) | rfl) | rfl) | rfl) | rfl) | rfl) | rfl
  · exact ⟨0, by decide, rfl⟩
  · exact ⟨1, by decide, rfl⟩
  · exact ⟨2, by decide, rfl⟩
  · exact ⟨3, by decide, rfl⟩
  · exact ⟨4, by decide, rfl⟩
  · exact ⟨5, by decide, rfl⟩
  · exact ⟨6, by decide, rfl⟩
  · exact ⟨7, by decide, rfl⟩
  · exact ⟨8, by decide, rfl⟩
  · exact ⟨9, by decide, rfl⟩
  · exact ⟨10, by decide, rfl⟩
theorem atf_0 (A B C D key : Int) (j : Nat) (hj : j ≤ 10) : hash_At.f A B C D 0 key (2 ^ j : Nat) = some (placeN A B key (2 ^ j : Nat)) := by
  unfold hash_At.f
  rw [at_pow _ _ _ _ _ _ j hj, if_pos rfl]
theorem atf_1 (A B C D key : Int) (j : Nat) (hj : j ≤ 10) : hash_At.f A B C D 1 key (2 ^ j : Nat) = some (placeN C D key (2 ^ j : Nat)) := by
  unfold hash_At.f
  rw [at_pow _ _ _ _ _ _ j hj, if_neg (by decide), if_pos rfl]
theorem atf_2 (A B C D t key : Int) (ht0 : t ≠ 0) (ht1 : t ≠ 1) (j : Nat) (hj : j ≤ 10) : hash_At.f A B C D t key (2 ^ j : Nat) = some 0 := by
  unfold hash_At.f
  rw [at_pow _ _ _ _ _ _ j hj, if_neg ht0, if_neg ht1]
theorem place_bd (t m key : Int) (j : Nat) (hj : j ≤ 10) : 0 ≤ placeN t m key (2 ^ j : Nat) ∧ placeN t m key (2 ^ j : Nat) < (2 ^ j : Nat) := by
  rw [place_pow _ _ _ j hj]
  have hp1 : 1 ≤ 2 ^ j := Nat.one_le_two_pow
  exact ⟨Int.emod_nonneg _ (by omega), Int.emod_lt_of_pos _ (by omega)⟩
/-- of a size twice as great the place is the same, or as much more -/
theorem place_twice (t m key : Int) (j : Nat) (hj : j + 1 ≤ 10) : placeN t m key (2 ^ (j + 1) : Nat) = placeN t m key (2 ^ j : Nat) ∨ placeN t m key (2 ^ (j + 1) : Nat) = placeN t m key (2 ^ j : Nat) + (2 ^ j : Nat) := by
  rw [place_pow _ _ _ (j + 1) hj, place_pow _ _ _ j (by omega)]
  generalize mixN _ = M
  have hp1 : 1 ≤ 2 ^ j := Nat.one_le_two_pow
  have e : ((2 ^ (j + 1) : Nat) : Int) = 2 * ((2 ^ j : Nat) : Int) := by rw [Nat.pow_succ]; omega
  rw [e]
  generalize ((2 ^ j : Nat) : Int) = n at *
  have h2 : 0 ≤ M % (2 * n) ∧ M % (2 * n) < 2 * n := ⟨Int.emod_nonneg _ (by omega), Int.emod_lt_of_pos _ (by omega)⟩
  have h3 : M % n = (M % (2 * n)) % n := by rw [Int.emod_emod_of_dvd M (Int.dvd_mul_left 2 n)]
  rw [h3]
  generalize M % (2 * n) = y at *
  by_cases h : y < n
  · left; rw [Int.emod_eq_of_lt h2.1 h]
  · right
    have : y % n = y - n := by rw [← Int.sub_emod_right y n, Int.emod_eq_of_lt (by omega) (by omega)]
    omega
theorem shl_one (j : Nat) (hj : j ≤ 10) : shl .i64 1 (j : Int) = ((2 ^ j : Nat) : Int) := by
  obtain rfl | rfl | rfl | rfl | rfl | rfl | rfl | rfl | rfl | rfl | rfl : j = 0 ∨ j = 1 ∨ j = 2 ∨ j = 3 ∨ j = 4 ∨ j = 5 ∨ j = 6 ∨ j = 7 ∨ j = 8 ∨ j = 9 ∨ j = 10 := by omega
  all_goals rfl
end Go.Proofs.Ytjkifbadbadoaaa.Hand
