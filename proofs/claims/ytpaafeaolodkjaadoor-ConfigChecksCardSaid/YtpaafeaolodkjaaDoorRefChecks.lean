/- The references of chapters 1, 8 to 11 and 13 (configs alone) answer as the program does: plain laws, with rounds enough. -/
import Derived.Test.YtpaafeaolodkjaaDoorPConfigChecksx6
import Derived.Test.YtpaafeaolodkjaaDoorConfigFacts
import Derived.OpenShut
import Derived.Lib.ItoaNum
namespace Go.Proofs.YtpaafeaolodkjaaDoor.RefChecks
open Go.RowKit Go.Proofs.YtpaafeaolodkjaaDoor.Hand Go.Proofs.YtpaafeaolodkjaaDoor.PConfigChecks Go.Proofs.YtpaafeaolodkjaaDoorW.PrintWords Go.Proofs.YtpaafeaolodkjaaDoorW.PrintLast Go.Proofs.YtpaafeaolodkjaaDoorW.PrintMore
set_option linter.unusedVariables false

theorem wrap_lt (x : Int) : wrap64 x < 9223372036854775808 := by unfold wrap64; omega
theorem pow_le (j m : Nat) (h : j ≤ m) : (2 : Int) ^ j ≤ 2 ^ m := by
  have := Nat.pow_le_pow_right (show 0 < 2 by decide) h
  have e : ∀ q : Nat, (2 : Int) ^ q = ((2 ^ q : Nat) : Int) := fun q => (Int.natCast_pow 2 q).symm
  rw [e, e]; omega
theorem pow_pos (j : Nat) : (1 : Int) ≤ 2 ^ j := pow_le 0 j (Nat.zero_le _)
theorem pow_up (j : Nat) : (2 : Int) ^ (j + 1) = 2 * 2 ^ j := by rw [Int.pow_succ, Int.mul_comm]
theorem pow_wrap (j : Nat) (h : j < 62) : wrap64 (2 * 2 ^ j) = (2 : Int) ^ (j + 1) := by
  have h1 := pow_le (j + 1) 62 (by omega)
  have h2 := pow_pos (j + 1)
  rw [← pow_up]
  have h3 : (2 : Int) ^ 62 = 4611686018427387904 := by decide
  rw [h3] at h1
  generalize (2 : Int) ^ (j + 1) = P at *
  unfold wrap64; omega
theorem round_loop (a : Int) (m : Nat) (hm : m ≤ 62) (hlow : ∀ i, i < m → (2 : Int) ^ i < a) (htop : m = 62 ∨ a ≤ (2 : Int) ^ m) : ∀ (d k j : Nat), j + d = m → d < k → shellgameref1_Round.l0 k a (2 ^ j) = some (2 ^ m) := by
  intro d
  induction d with
  | zero =>
    intro k j hj hk
    obtain ⟨k, rfl⟩ : ∃ q, k = q + 1 := ⟨k - 1, by omega⟩
    obtain rfl : j = m := by omega
    simp only [shellgameref1_Round.l0]
    rcases htop with rfl | h
    · by_cases c : (2 : Int) ^ 62 < a
      · rw [if_pos c, if_neg (by decide)]
      · rw [if_neg c]
    · rw [if_neg (by omega)]
  | succ d ih =>
    intro k j hj hk
    obtain ⟨k, rfl⟩ : ∃ q, k = q + 1 := ⟨k - 1, by omega⟩
    simp only [shellgameref1_Round.l0]
    have h1 := pow_le j 61 (by omega)
    have h2 : (2 : Int) ^ 61 < 4611686018427387904 := by decide
    rw [if_pos (hlow j (by omega)), if_pos (by omega), pow_wrap j (by omega)]
    exact ih k (j + 1) (by omega) (by omega)
theorem round_ref (k : Nat) (hk : 70 ≤ k) (a : Int) (ha : a < 9223372036854775808) : shellgameref1_Round.f k a = PSizes.word_Round.f a := by
  unfold shellgameref1_Round.f PSizes.word_Round.f
  by_cases h1 : a < 1
  · rw [if_pos h1]
    exact round_loop a 0 (by omega) (fun i hi => absurd hi (by omega)) (Or.inr (by show a ≤ 1; omega)) 0 k 0 rfl (by omega)
  · rw [if_neg h1]
    have e1 : IntKind.u64.wrap (wrap64 (a - 1)) = a - 1 := by
      have : wrap64 (a - 1) = a - 1 := by unfold wrap64; omega
      rw [this, IntKind.wrap_u64]; omega
    unfold bits_Len64.f
    rw [e1, if_pos (by omega), if_pos (by omega), Option.bind_some]
    obtain ⟨n, hn⟩ : ∃ n, n = (a - 1).toNat := ⟨_, rfl⟩
    rw [← hn]
    have s0 : Lib.bitLen 0 = 0 := rfl
    have s3 : n ≠ 0 → 2 ^ (Lib.bitLen n - 1) ≤ n ∧ n < 2 ^ Lib.bitLen n := fun h => (Lib.bitLenAux_bounds 64 n (by omega) h).2
    have s2 : n ≠ 0 → 2 ^ (Lib.bitLen n - 1) ≤ n := fun h => (s3 h).1
    have s1 : n < 2 ^ Lib.bitLen n := by
      rcases Nat.eq_zero_or_pos n with h | h
      · rw [h, s0]; decide
      · exact (s3 (by omega)).2
    clear s3
    generalize hb : Lib.bitLen n = b at *
    obtain ⟨m, hm⟩ : ∃ m : Nat, m = min b 62 := ⟨_, rfl⟩
    have em : mn (b : Int) 62 = (m : Int) := by unfold mn; split <;> omega
    rw [em, if_pos (by omega), Int.toNat_natCast]
    have hw : wrap64 ((2 : Int) ^ m) = 2 ^ m := by
      have h1 := pow_le m 62 (by omega)
      have h2 := pow_pos m
      have h3 : (2 : Int) ^ 62 = 4611686018427387904 := by decide
      rw [h3] at h1
      generalize (2 : Int) ^ m = P at *
      unfold wrap64; omega
    rw [hw]
    refine round_loop a m (by omega) ?_ ?_ m k 0 (by omega) (by omega)
    · intro i hi
      have hb0 : n ≠ 0 := by
        intro h
        rw [h, s0] at hb
        omega
      have h2 := s2 hb0
      have h3 := Nat.pow_le_pow_right (show 0 < 2 by decide) (show i ≤ b - 1 by omega)
      have e : (2 : Int) ^ i = ((2 ^ i : Nat) : Int) := (Int.natCast_pow 2 i).symm
      rw [e]; omega
    · by_cases c : b < 62
      · right
        obtain rfl : m = b := by omega
        have e : (2 : Int) ^ m = ((2 ^ m : Nat) : Int) := (Int.natCast_pow 2 m).symm
        rw [e]; omega
      · left; omega
theorem right8_small : ∀ n : Fin 1025, shellgameref8_Right.f 12 (n.val : Int) = PSizes.path_Right.f (n.val : Int) := by decide +kernel
theorem depth8_small : ∀ n : Fin 1025, shellgameref8_Depth.f 12 (n.val : Int) = PSizes.path_Depth.f (n.val : Int) := by decide +kernel
theorem right8_loop (a : Int) (ha : 1024 < a) : ∀ (d k j : Nat), j + d = 10 → d < k → shellgameref8_Right.l0 k a (2 ^ j) = some false := by
  intro d
  induction d with
  | zero =>
    intro k j hj hk
    obtain ⟨k, rfl⟩ : ∃ q, k = q + 1 := ⟨k - 1, by omega⟩
    obtain rfl : j = 10 := by omega
    simp only [shellgameref8_Right.l0]
    have e : (2 : Int) ^ 10 = 1024 := by decide
    rw [e, if_pos ha, if_neg (by omega), beq_eq_false_iff_ne.mpr (by omega)]
  | succ d ih =>
    intro k j hj hk
    obtain ⟨k, rfl⟩ : ∃ q, k = q + 1 := ⟨k - 1, by omega⟩
    simp only [shellgameref8_Right.l0]
    have h1 := pow_le j 9 (by omega)
    have h2 : (2 : Int) ^ 9 = 512 := by decide
    rw [if_pos (by omega), if_pos (by omega), pow_wrap j (by omega)]
    exact ih k (j + 1) (by omega) (by omega)
theorem right8_ref (k : Nat) (hk : 12 ≤ k) (a : Int) : shellgameref8_Right.f k a = PSizes.path_Right.f a := by
  have up : ∀ r, shellgameref8_Right.f 12 a = some r → shellgameref8_Right.f k a = some r := fun r h => at_rounds (g := fun k => shellgameref8_Right.f k a) (fun k => shellgameref8_Right.mono a k) hk h
  by_cases h1 : a < 1
  · have e : PSizes.path_Right.f a = some false := by unfold PSizes.path_Right.f; rw [if_neg (by omega)]
    rw [e]
    refine up _ ?_
    unfold shellgameref8_Right.f
    simp only [shellgameref8_Right.l0]
    rw [if_neg (by omega), beq_eq_false_iff_ne.mpr (by omega)]
  · by_cases h2 : 1024 < a
    · have e : PSizes.path_Right.f a = some false := by unfold PSizes.path_Right.f; rw [if_pos (by omega), if_neg (by omega)]
      rw [e]
      exact up _ (right8_loop a h2 10 12 0 rfl (by omega))
    · obtain ⟨r, hr⟩ := tot_path a
      rw [hr]
      refine up _ ?_
      have := right8_small ⟨a.toNat, by omega⟩
      rw [show ((a.toNat : Nat) : Int) = a from by omega] at this
      rw [this, hr]
theorem path_range {a : Int} (h : PSizes.path_Right.f a = some true) : 1 ≤ a ∧ a ≤ 1024 := by
  unfold PSizes.path_Right.f at h
  by_cases h1 : a ≥ 1
  · rw [if_pos h1] at h
    by_cases h2 : a ≤ 1024
    · exact ⟨h1, h2⟩
    · rw [if_neg h2] at h; exact absurd h (by simp)
  · rw [if_neg h1] at h; exact absurd h (by simp)
theorem depth8_ref (k : Nat) (hk : 12 ≤ k) (a : Int) : shellgameref8_Depth.f k a = PSizes.path_Depth.f a := by
  obtain ⟨b, hb⟩ := tot_path a
  cases b with
  | false =>
    unfold shellgameref8_Depth.f PSizes.path_Depth.f
    rw [right8_ref k hk, hb]
    rfl
  | true =>
    have hr := path_range hb
    obtain ⟨r, h⟩ := tot_depth a
    rw [h]
    refine at_rounds (g := fun k => shellgameref8_Depth.f k a) (fun k => shellgameref8_Depth.mono a k) hk ?_
    have := depth8_small ⟨a.toNat, by omega⟩
    rw [show ((a.toNat : Nat) : Int) = a from by omega] at this
    show shellgameref8_Depth.f 12 a = some r
    rw [this, h]
theorem right9_ref (d s t : Int) : shellgameref9_Right.f d s t = deal_Right.f d s t := by
  unfold shellgameref9_Right.f deal_Right.f inB
  by_cases h1 : d ≥ 0
  · by_cases h2 : d ≤ 10
    · by_cases h3 : s ≥ 1
      · by_cases h4 : s ≤ 8
        · by_cases h5 : t ≥ 1
          · rw [if_pos h1, if_pos h2, if_pos h3, if_pos h4, if_pos h5, decide_eq_true (show 0 ≤ d from h1), decide_eq_true h2, decide_eq_true (show 1 ≤ s from h3), decide_eq_true h4, decide_eq_true (show 1 ≤ t from h5)]; rfl
          · rw [if_pos h1, if_pos h2, if_pos h3, if_pos h4, if_neg h5, decide_eq_false (show ¬ 1 ≤ t from h5)]; simp
        · rw [if_pos h1, if_pos h2, if_pos h3, if_neg h4, decide_eq_false h4]; simp
      · rw [if_pos h1, if_pos h2, if_neg h3, decide_eq_false (show ¬ 1 ≤ s from h3)]; simp
    · rw [if_pos h1, if_neg h2, decide_eq_false h2]; simp
  · rw [if_neg h1, decide_eq_false (show ¬ 0 ≤ d from h1)]; simp
theorem places_ref (d s t : Int) : shellgameref9_Places.f d s t = PSizes.deal_Places.f d s t := by
  unfold shellgameref9_Places.f PSizes.deal_Places.f PSizes.deal_Shape_levels.f
  rw [right9_ref]
  rfl
theorem places_lt {d s t r : Int} (h : PSizes.deal_Places.f d s t = some r) : r < 9223372036854775808 := by
  unfold PSizes.deal_Places.f PSizes.deal_Shape_levels.f deal_Right.f at h
  rw [Option.bind_some] at h
  by_cases c : (inB d 0 10 && (inB s 1 8 && inB t 1 64)) = true
  · rw [if_pos c, Option.bind_some] at h
    obtain rfl := Option.some.inj h
    exact wrap_lt _
  · rw [if_neg c] at h
    obtain rfl := Option.some.inj h
    decide
theorem shape_ref (k : Nat) (hk : 12 ≤ k) (a b c : Int) : shellgameref10_shape.f k a b c = PSizes.level_Config_shape.f a b c := by
  unfold shellgameref10_shape.f PSizes.level_Config_shape.f
  rw [depth8_ref k hk]
theorem ptable_ref (k : Nat) (hk : 70 ≤ k) (d s t : Int) : ((shellgameref9_Places.f d s t).bind fun t150 => shellgameref1_Round.f k t150) = ((PSizes.deal_Places.f d s t).bind fun t116 => PSizes.word_Round.f t116) := by
  rw [places_ref]
  obtain ⟨r, hr⟩ := tot_places d s t
  rw [hr, Option.bind_some, Option.bind_some, round_ref k hk _ (places_lt hr)]
theorem right10_ref (k : Nat) (hk : 70 ≤ k) (a b c : Int) : shellgameref10_Right.f k a b c = PSizes.level_Right.f a b c := by
  unfold shellgameref10_Right.f PSizes.level_Right.f
  rw [right8_ref k (by omega), shape_ref k (by omega)]
  obtain ⟨q, hq⟩ := tot_path a
  rw [hq, Option.bind_some, Option.bind_some]
  cases q with
  | false => rfl
  | true =>
    rw [if_pos rfl, if_pos rfl]
    unfold PSizes.level_Config_table.f
    have hsh : ∃ d, PSizes.level_Config_shape.f a b c = some (d, b, c) := by
      unfold PSizes.level_Config_shape.f
      obtain ⟨d, hd⟩ := tot_depth a
      exact ⟨d, by rw [hd]; rfl⟩
    obtain ⟨d, hd⟩ := hsh
    rw [hd]
    simp only [Option.bind_some]
    rw [right9_ref]
    obtain ⟨p, hp⟩ := tot_places d b c
    obtain ⟨R, hR⟩ := tot_round p
    rw [places_ref, hp]
    simp only [Option.bind_some]
    rw [round_ref k hk _ (places_lt hp), hR]
    rfl
theorem blocks_ref : ∀ (k : Nat) (n x i : Int), shellgameref11_Blocks.l0 k n x i = Plevel.store_Config_blocks.l0 k x n i := by
  intro k
  induction k with
  | zero => intro n x i; rfl
  | succ k ih => intro n x i; simp only [shellgameref11_Blocks.l0, Plevel.store_Config_blocks.l0, ih]
theorem level_ref (k : Nat) (b s t L h : Int) : shellgameref11_level.f k b s t L h = Plevel.store_Config_level.f k b s t L h := by
  unfold shellgameref11_level.f Plevel.store_Config_level.f shellgameref11_Blocks.f Plevel.store_Config_blocks.f
  rw [blocks_ref]
theorem level_at (k : Nat) (hk : 10 ≤ k) (b s t L h : Int) (h0 : 0 ≤ h) (h1 : h ≤ 4) : ∃ x, Plevel.store_Config_level.f 10 b s t L h = some (x, s, t) ∧ Plevel.store_Config_level.f k b s t L h = some (x, s, t) := by
  obtain ⟨x, hx⟩ := tot_level' 10 b s t L h h0 h1 (by omega)
  exact ⟨x, hx, at_rounds (g := fun k => Plevel.store_Config_level.f k b s t L h) (fun k => Plevel.store_Config_level.mono b s t L h k) hk hx⟩
theorem right11_loop (b s t L : Int) (hL : L ≤ 4) : ∀ (d k i : Nat), (i : Int) + d = L → 80 + d ≤ k → shellgameref11_Right.l0 k (i : Int) b s t L = some ((List.range' i d).all fun h => lvOk b s t L h) := by
  intro d
  induction d with
  | zero =>
    intro k i hi hk
    obtain ⟨k, rfl⟩ : ∃ q, k = q + 1 := ⟨k - 1, by omega⟩
    simp only [shellgameref11_Right.l0]
    rw [if_neg (by omega)]
    rfl
  | succ d ih =>
    intro k i hi hk
    obtain ⟨k, rfl⟩ : ∃ q, k = q + 1 := ⟨k - 1, by omega⟩
    simp only [shellgameref11_Right.l0]
    obtain ⟨x, hx, hx'⟩ := level_at k (by omega) b s t L i (by omega) (by omega)
    obtain ⟨r, hr⟩ := tot_right x s t
    have hv : lvOk b s t L i = r := by
      unfold lvOk
      rw [hx, Option.bind_some, hr]
      cases r <;> rfl
    rw [if_pos (by omega), level_ref, hx', Option.bind_some, right10_ref k (by omega), hr, Option.bind_some, List.range'_succ, List.all_cons, hv]
    cases r with
    | false => rw [if_neg (by decide)]; rfl
    | true =>
      rw [if_pos rfl, Bool.true_and]
      have e : wrap64 ((i : Int) + 1) = ((i + 1 : Nat) : Int) := by unfold wrap64; omega
      rw [e]
      exact ih k (i + 1) (by omega) (by omega)
theorem right11_ref (k : Nat) (hk : 100 ≤ k) (b s t L : Int) : shellgameref11_Right.f k b s t L = store_Right.f b s t L := by
  obtain ⟨k, rfl⟩ : ∃ q, k = q + 1 := ⟨k - 1, by omega⟩
  unfold shellgameref11_Right.f store_Right.f
  by_cases h1 : L < 1
  · rw [if_pos h1, decide_eq_false (show ¬ 1 ≤ L by omega)]
    simp only [shellgameref11_Right.j0, if_true, Bool.false_and]
  · rw [if_neg h1, decide_eq_true (show 1 ≤ L by omega)]
    by_cases h2 : L > 4
    · rw [decide_eq_true h2, decide_eq_false (show ¬ L ≤ 4 by omega)]
      simp only [shellgameref11_Right.j0, if_true, Bool.false_and, Bool.and_false]
    · rw [decide_eq_false h2, decide_eq_true (show L ≤ 4 by omega)]
      simp only [shellgameref11_Right.j0, Bool.false_eq_true, if_false, Bool.true_and]
      have := right11_loop b s t L (by omega) L.toNat k 0 (by omega) (by omega)
      rw [show ((0 : Nat) : Int) = 0 from rfl] at this
      rw [this, List.range_eq_range']
theorem nodes_ref (k : Nat) (hk : 12 ≤ k) (a : Int) : shellgameref8_Nodes.f k a = PSizes.path_Nodes.f a := by
  unfold shellgameref8_Nodes.f PSizes.path_Nodes.f
  rw [right8_ref k hk]
theorem sizes10_ref (k : Nat) (hk : 70 ≤ k) (a b c : Int) : shellgameref10_Sizes.f k a b c = PSizes.level_Sizes.f a b c := by
  unfold shellgameref10_Sizes.f PSizes.level_Sizes.f PSizes.level_Config_table.f
  rw [right10_ref k hk, shape_ref k (by omega), nodes_ref k (by omega)]
  obtain ⟨q, hq⟩ := tot_right a b c
  rw [hq, Option.bind_some, Option.bind_some]
  cases q with
  | false => rfl
  | true =>
    rw [if_pos rfl, if_pos rfl]
    have hsh : ∃ d, PSizes.level_Config_shape.f a b c = some (d, b, c) := by
      unfold PSizes.level_Config_shape.f
      obtain ⟨d, hd⟩ := tot_depth a
      exact ⟨d, by rw [hd]; rfl⟩
    obtain ⟨d, hd⟩ := hsh
    obtain ⟨p, hp⟩ := tot_places d b c
    obtain ⟨R, hR⟩ := tot_round p
    obtain ⟨n, hn⟩ := tot_nodes a
    rw [hd, hn]
    simp only [Option.bind_some]
    rw [places_ref, hp]
    simp only [Option.bind_some]
    rw [round_ref k hk _ (places_lt hp), hR]
    rfl
theorem sizes11_loop (b s t L : Int) (hL : L ≤ 4) : ∀ (d k i : Nat) (xs : List Int), (i : Int) + d = L → 80 + d ≤ k → shellgameref11_Sizes.l0 k xs (i : Int) b s t L = PStSizes.store_Sizes.l0 k xs L (i : Int) b s t L := by
  intro d
  induction d with
  | zero =>
    intro k i xs hi hk
    obtain ⟨k, rfl⟩ : ∃ q, k = q + 1 := ⟨k - 1, by omega⟩
    simp only [shellgameref11_Sizes.l0, PStSizes.store_Sizes.l0]
    rw [if_neg (by omega), if_neg (by omega)]
  | succ d ih =>
    intro k i xs hi hk
    obtain ⟨k, rfl⟩ : ∃ q, k = q + 1 := ⟨k - 1, by omega⟩
    simp only [shellgameref11_Sizes.l0, PStSizes.store_Sizes.l0]
    obtain ⟨x, hx, hx'⟩ := level_at k (by omega) b s t L i (by omega) (by omega)
    obtain ⟨⟨y1, y2, y3⟩, hy⟩ := tot_lsizes x s t
    have e : wrap64 ((i : Int) + 1) = ((i + 1 : Nat) : Int) := by unfold wrap64; omega
    have hgo := ih k (i + 1) (xs ++ [y1, y2, y3]) (by omega) (by omega)
    rw [if_pos (by omega), if_pos (by omega), level_ref, hx', Option.bind_some, Option.bind_some, sizes10_ref k (by omega), hy]
    simp only [Option.bind_some]
    rw [e, hgo]
theorem sizes11_ref (k : Nat) (hk : 100 ≤ k) (b s t L : Int) : shellgameref11_Sizes.f k b s t L = PStSizes.store_Sizes.f k b s t L := by
  unfold shellgameref11_Sizes.f PStSizes.store_Sizes.f PStSizes.store_Config_top.f shellgameref11_Blocks.f Plevel.store_Config_blocks.f
  rw [right11_ref k hk]
  cases hr : store_Right.f b s t L with
  | none => rfl
  | some r =>
    rw [Option.bind_some, Option.bind_some]
    cases r with
    | false => rfl
    | true =>
      obtain ⟨h1, h4⟩ := right_levels hr
      rw [if_pos rfl, if_pos rfl, blocks_ref]
      obtain ⟨q, hq⟩ := tot_blocks (L - 1).toNat k b (L - 1) 0 (by omega) (by omega) (by omega) (by omega)
      have e : wrap64 (L - 1) = L - 1 := by unfold wrap64; omega
      rw [e, hq]
      simp only [Option.bind_some]
      have := sizes11_loop b s t L h4 L.toNat k 0 [q] (by omega) (by omega)
      exact this
end Go.Proofs.YtpaafeaolodkjaaDoor.RefChecks
