/- A right config's store is right, and has a block for each entry of both tables and each cell; its regions are no more than sixteen, of 4096 cells at most; operations take more words, the more there are. No condition. -/
import Derived.Test.YtpaafeaolodkjaaDoorPConfigFitsx6
import Derived.Test.YtpaafeaolodkjaaDoorConfigFacts
import Derived.OpenShut
namespace Go.Proofs.YtpaafeaolodkjaaDoor.Pure
open Go.RowKit Go.Proofs.YtpaafeaolodkjaaDoor.Hand Go.Proofs.YtpaafeaolodkjaaDoor.PConfigFits Go.Proofs.YtpaafeaolodkjaaDoorW.PrintWords Go.Proofs.YtpaafeaolodkjaaDoorW.PrintLast Go.Proofs.YtpaafeaolodkjaaDoorW.PrintMore
set_option linter.unusedVariables false

namespace ConfigFitsAid
theorem levels_of {c0 c1 c2 c3 c4 c5 c6 c7 c8 : Int} (h : check.f c0 c1 c2 c3 c4 c5 c6 c7 c8 = some none) : config_Config_levels.f c0 c1 c2 c3 c4 c5 c6 c7 c8 = some 0 := by
  have g := check_none h
  unfold check.f at h
  rw [if_neg (by omega), if_neg (by omega), if_neg (by omega), if_neg (by omega), if_neg (by omega)] at h
  obtain ⟨t, _, h⟩ := Option.bind_eq_some_iff.mp h
  by_cases z : t = 0
  · rw [if_pos z] at h
    obtain ⟨m, hm, h⟩ := Option.bind_eq_some_iff.mp h
    by_cases y : m = 0
    · rw [hm, y]
    · rw [if_neg y] at h; exact absurd h (by simp)
  · rw [if_neg z] at h; exact absurd h (by simp)
theorem store_of {c0 c1 c2 c3 c4 c5 c6 c7 c8 : Int} (h : check.f c0 c1 c2 c3 c4 c5 c6 c7 c8 = some none) : ∃ x, PSizes.word_Round.f (wrap64 (wrap64 (2 * c4) + wrap64 (c0 + c1))) = some x ∧ store_Right.f x c5 c6 c7 = some true := by
  have l := levels_of h
  obtain ⟨x, hx, hs⟩ := tot_store c0 c1 c2 c3 c4 c5 c6 c7 c8
  refine ⟨x, hx, ?_⟩
  unfold config_Config_levels.f at l
  rw [hs, Option.bind_some] at l
  obtain ⟨r, hr, l⟩ := Option.bind_eq_some_iff.mp l
  cases r
  · simp at l
  · exact hr
theorem right_of {c0 c1 c2 c3 c4 c5 c6 c7 c8 : Int} (h : check.f c0 c1 c2 c3 c4 c5 c6 c7 c8 = some none) : config_Config_right.f c0 c1 c2 c3 c4 c5 c6 c7 c8 = some true := by
  unfold config_Config_right.f; rw [h]; rfl
theorem accesses_of {c0 c1 c2 c3 c4 c5 c6 c7 c8 : Int} (h : check.f c0 c1 c2 c3 c4 c5 c6 c7 c8 = some none) : config_Accesses.f c0 c1 c2 c3 c4 c5 c6 c7 c8 = some (2 * c2 + 5, c0 + c1 + 4 * c1) := by
  have g := check_none h
  unfold config_Accesses.f PConfigFits.config_Config_cells.f
  rw [right_of h, Option.bind_some, if_pos rfl, Option.bind_some]
  have e1 : wrap64 (wrap64 (2 * c2) + 5) = 2 * c2 + 5 := by unfold wrap64; omega
  have e2 : wrap64 (wrap64 (c0 + c1) + wrap64 (4 * c1)) = c0 + c1 + 4 * c1 := by unfold wrap64; omega
  rw [e1, e2]
/-- The words of n operations, n clipped. -/
theorem words_of {c0 c1 c2 c3 c4 c5 c6 c7 c8 : Int} (h : check.f c0 c1 c2 c3 c4 c5 c6 c7 c8 = some none) (n N : Int) (hN : mx 0 (mn n 1048576) = N) (h0 : 0 ≤ N) (h1 : N ≤ 1048576) :
    config_Words.f c0 c1 c2 c3 c4 c5 c6 c7 c8 n = some (4 + 2 * c7 * (N * (2 * c2 + 5) + N / c1 * (c0 + c1 + 4 * c1))) := by
  have g := check_none h
  obtain ⟨x, hx, hr⟩ := store_of h
  have g7 := right_levels hr
  have q0 : 0 ≤ N / c1 := Int.ediv_nonneg h0 (by omega)
  have q1 : N / c1 ≤ N := Int.ediv_le_self _ h0
  have a0 : 0 ≤ N * (2 * c2 + 5) := Int.mul_nonneg h0 (by omega)
  have a1 : N * (2 * c2 + 5) ≤ 1048576 * 37 := Int.mul_le_mul h1 (by omega) (by omega) (by omega)
  have b0 : 0 ≤ N / c1 * (c0 + c1 + 4 * c1) := Int.mul_nonneg q0 (by omega)
  have b1 : N / c1 * (c0 + c1 + 4 * c1) ≤ 1048576 * 144 := Int.mul_le_mul (by omega) (by omega) (by omega) (by omega)
  have eq : wrap64 (N / c1) = N / c1 := by unfold wrap64; omega
  have ea : wrap64 (N * (2 * c2 + 5)) = N * (2 * c2 + 5) := by unfold wrap64; omega
  have eb : wrap64 (N / c1 * (c0 + c1 + 4 * c1)) = N / c1 * (c0 + c1 + 4 * c1) := by unfold wrap64; omega
  have es : wrap64 (N * (2 * c2 + 5) + N / c1 * (c0 + c1 + 4 * c1)) = N * (2 * c2 + 5) + N / c1 * (c0 + c1 + 4 * c1) := by unfold wrap64; omega
  have e7 : wrap64 (2 * c7) = 2 * c7 := by unfold wrap64; omega
  have m0 : 0 ≤ 2 * c7 * (N * (2 * c2 + 5) + N / c1 * (c0 + c1 + 4 * c1)) := Int.mul_nonneg (by omega) (by omega)
  have m1 : 2 * c7 * (N * (2 * c2 + 5) + N / c1 * (c0 + c1 + 4 * c1)) ≤ 8 * 189792256 := Int.mul_le_mul (by omega) (by omega) (by omega) (by omega)
  have em : wrap64 (2 * c7 * (N * (2 * c2 + 5) + N / c1 * (c0 + c1 + 4 * c1))) = 2 * c7 * (N * (2 * c2 + 5) + N / c1 * (c0 + c1 + 4 * c1)) := by unfold wrap64; omega
  have e4 : wrap64 (4 + 2 * c7 * (N * (2 * c2 + 5) + N / c1 * (c0 + c1 + 4 * c1))) = 4 + 2 * c7 * (N * (2 * c2 + 5) + N / c1 * (c0 + c1 + 4 * c1)) := by unfold wrap64; omega
  have hS : PConfigFits.config_Config_store.f c0 c1 c2 c3 c4 c5 c6 c7 c8 = some (x, c5, c6, c7) := by
    unfold PConfigFits.config_Config_store.f PConfigFits.config_Config_cells.f
    rw [Option.bind_some, hx]; rfl
  have hW : store_Words.f x c5 c6 c7 = some (2 * c7) := by
    unfold store_Words.f
    rw [hr, Option.bind_some, if_pos rfl, e7]
  unfold config_Words.f
  rw [right_of h, Option.bind_some, if_pos rfl, accesses_of h, Option.bind_some, hS, Option.bind_some, hW, Option.bind_some, if_neg (by omega), hN]
  simp only [eq, ea, eb, es, em, e4]
theorem round_small : ∀ n : Fin 337, ((PSizes.word_Round.f ((n.val : Int) + 1)).map fun r => decide ((n.val : Int) + 1 ≤ r ∧ r ≤ 512)) = some true := by decide +kernel
theorem round_at {a : Int} (h0 : 1 ≤ a) (h1 : a ≤ 337) : ∃ r, PSizes.word_Round.f a = some r ∧ a ≤ r ∧ r ≤ 512 := by
  have k := round_small ⟨(a - 1).toNat, by omega⟩
  have e : (((⟨(a - 1).toNat, by omega⟩ : Fin 337).val : Nat) : Int) + 1 = a := by simp only; omega
  rw [e] at k
  obtain ⟨r, hr, k⟩ := Option.map_eq_some_iff.mp k
  exact ⟨r, hr, by simpa using k⟩
theorem round_pos {a r : Int} (h : PSizes.word_Round.f a = some r) : 1 ≤ r := by
  unfold PSizes.word_Round.f at h
  by_cases c : a < 1
  · rw [if_pos c] at h
    have := Option.some.inj h
    omega
  · rw [if_neg c] at h
    obtain ⟨n, hn, h⟩ := Option.bind_eq_some_iff.mp h
    by_cases d : 0 ≤ mn n 62
    · rw [if_pos d] at h
      have e := Option.some.inj h
      have hm : mn n 62 ≤ 62 := by unfold mn; split <;> omega
      generalize mn n 62 = m at *
      obtain ⟨j, rfl⟩ : ∃ j : Nat, m = j := ⟨m.toNat, by omega⟩
      rw [Int.toNat_natCast] at e
      have q1 := Nat.pow_le_pow_right (show 0 < 2 by decide) (show 0 ≤ j by omega)
      have q2 := Nat.pow_le_pow_right (show 0 < 2 by decide) (show j ≤ 62 by omega)
      have q3 : (2 : Int) ^ j = ((2 ^ j : Nat) : Int) := (Int.natCast_pow 2 j).symm
      have q4 : (2 : Nat) ^ 62 = 4611686018427387904 := by decide
      have q5 : (2 : Nat) ^ 0 = 1 := rfl
      rw [q3] at e
      rw [q4] at q2
      rw [q5] at q1
      generalize 2 ^ j = P at *
      rw [← e]
      unfold wrap64; omega
    · rw [if_neg d] at h
      exact absurd h (by simp)
theorem path_range {a : Int} (h : PSizes.path_Right.f a = some true) : 1 ≤ a ∧ a ≤ 1024 := by
  unfold PSizes.path_Right.f at h
  by_cases h1 : a ≥ 1
  · rw [if_pos h1] at h
    by_cases h2 : a ≤ 1024
    · exact ⟨h1, h2⟩
    · rw [if_neg h2] at h; exact absurd h (by simp)
  · rw [if_neg h1] at h; exact absurd h (by simp)
/-- a right level's three regions have a cell each -/
theorem lsizes_pos {x s t : Int} (h : PSizes.level_Right.f x s t = some true) : ∃ a c, PSizes.level_Sizes.f x s t = some (a, t, c) ∧ 1 ≤ a ∧ 1 ≤ t ∧ 1 ≤ c := by
  have h0 := h
  unfold PSizes.level_Right.f at h
  obtain ⟨p, hp, h⟩ := Option.bind_eq_some_iff.mp h
  cases p with
  | false => rw [if_neg (by decide)] at h; exact absurd h (by simp)
  | true =>
    rw [if_pos rfl] at h
    have hx := path_range hp
    obtain ⟨⟨d, s', t'⟩, hsh, h⟩ := Option.bind_eq_some_iff.mp h
    unfold PSizes.level_Config_shape.f at hsh
    obtain ⟨d', hd', hsh⟩ := Option.bind_eq_some_iff.mp hsh
    simp only [Option.some.injEq, Prod.mk.injEq] at hsh
    obtain ⟨rfl, rfl, rfl⟩ := hsh
    obtain ⟨q, hq, h⟩ := Option.bind_eq_some_iff.mp h
    cases q with
    | false => rw [if_neg (by decide)] at h; exact absurd h (by simp)
    | true =>
      unfold deal_Right.f inB at hq
      simp only [Option.some.injEq, Bool.and_eq_true, decide_eq_true_eq] at hq
      obtain ⟨T, hT⟩ := tot_table x s t
      have hT1 : 1 ≤ T := by
        have hT' := hT
        unfold PSizes.level_Config_table.f at hT'
        obtain ⟨_, _, hT'⟩ := Option.bind_eq_some_iff.mp hT'
        obtain ⟨_, _, hT'⟩ := Option.bind_eq_some_iff.mp hT'
        obtain ⟨R, hR, hT'⟩ := Option.bind_eq_some_iff.mp hT'
        have := Option.some.inj hT'
        have := round_pos hR
        omega
      have hN : PSizes.path_Nodes.f x = some (2 * x - 1) := by
        unfold PSizes.path_Nodes.f
        have e : wrap64 (wrap64 (2 * x) - 1) = 2 * x - 1 := by unfold wrap64; omega
        rw [hp, Option.bind_some, if_pos rfl, e]
      have m0 : 1 * 1 ≤ s * (2 * x - 1) := Int.mul_le_mul (by omega) (by omega) (by omega) (by omega)
      have m1 : s * (2 * x - 1) ≤ 8 * 2047 := Int.mul_le_mul (by omega) (by omega) (by omega) (by omega)
      have e : wrap64 (s * (2 * x - 1)) = s * (2 * x - 1) := by unfold wrap64; omega
      refine ⟨s * (2 * x - 1), T, ?_, by omega, by omega, hT1⟩
      unfold PSizes.level_Sizes.f
      rw [h0, Option.bind_some, if_pos rfl, hN, Option.bind_some, hT, Option.bind_some, e]
theorem blocks_pos : ∀ (d k : Nat) (x n i r : Int), n - i = d → d < k → 0 ≤ i → n ≤ 100 → 1 ≤ x → Plevel.store_Config_blocks.l0 k x n i = some r → 1 ≤ r := by
  intro d
  induction d with
  | zero =>
    intro k x n i r h1 h2 h3 h4 h5 h
    obtain ⟨k, rfl⟩ : ∃ m, k = m + 1 := ⟨k - 1, by omega⟩
    simp only [Plevel.store_Config_blocks.l0] at h
    rw [if_neg (by omega)] at h
    have := Option.some.inj h
    omega
  | succ d ih =>
    intro k x n i r h1 h2 h3 h4 h5 h
    obtain ⟨k, rfl⟩ : ∃ m, k = m + 1 := ⟨k - 1, by omega⟩
    simp only [Plevel.store_Config_blocks.l0] at h
    have e : wrap64 (i + 1) = i + 1 := by unfold wrap64; omega
    rw [if_pos (by omega), e] at h
    exact ih k _ n (i + 1) r (by omega) (by omega) (by omega) h4 (by unfold mx; split <;> omega) h
theorem level_small (k : Nat) (hk : 5 ≤ k) (hk' : k ≤ 10) (b s t L h : Int) (h0 : 0 ≤ h) (h1 : h ≤ 4) : ∃ x, Plevel.store_Config_level.f 10 b s t L h = some (x, s, t) ∧ Plevel.store_Config_level.f k b s t L h = some (x, s, t) := by
  obtain ⟨x, hx⟩ := tot_level' k b s t L h h0 h1 hk
  exact ⟨x, at_rounds (g := fun k => Plevel.store_Config_level.f k b s t L h) (fun k => Plevel.store_Config_level.mono b s t L h k) hk' hx, hx⟩
theorem sizes_loop (b s t L : Int) (hL : L ≤ 4) (hok : ∀ i : Nat, (i : Int) < L → lvOk b s t L i = true) : ∀ (d k i : Nat) (xs : List Int), (i : Int) + d = L → d + 6 ≤ k → k ≤ 10 → (∀ x ∈ xs, 1 ≤ x) → xs.length + 3 * d ≤ 1000 →
    ∃ l, PStSizes.store_Sizes.l0 k xs L (i : Int) b s t L = some l ∧ l.length = xs.length + 3 * d ∧ ∀ x ∈ l, 1 ≤ x := by
  intro d
  induction d with
  | zero =>
    intro k i xs h1 h2 h3 h4 h5
    obtain ⟨k, rfl⟩ : ∃ m, k = m + 1 := ⟨k - 1, by omega⟩
    simp only [PStSizes.store_Sizes.l0]
    rw [if_neg (by omega)]
    exact ⟨xs, rfl, by omega, h4⟩
  | succ d ih =>
    intro k i xs h1 h2 h3 h4 h5
    obtain ⟨k, rfl⟩ : ∃ m, k = m + 1 := ⟨k - 1, by omega⟩
    simp only [PStSizes.store_Sizes.l0]
    obtain ⟨x, hx, hx'⟩ := level_small k (by omega) (by omega) b s t L i (by omega) (by omega)
    have hv := hok i (by omega)
    unfold lvOk at hv
    rw [hx, Option.bind_some] at hv
    have hv' : PSizes.level_Right.f x s t = some true := by simpa using hv
    obtain ⟨a, c, hy, p1, p2, p3⟩ := lsizes_pos hv'
    have e : wrap64 ((i : Int) + 1) = ((i + 1 : Nat) : Int) := by unfold wrap64; omega
    rw [if_pos (by omega), hx', Option.bind_some, hy]
    simp only [Option.bind_some]
    rw [if_pos (by simp only [List.length_cons, List.length_nil]; omega), e]
    obtain ⟨l, q1, q2, q3⟩ := ih k (i + 1) (xs ++ [a, t, c]) (by omega) (by omega) (by omega) (by
      intro z hz
      simp only [List.mem_append, List.mem_cons, List.not_mem_nil, or_false] at hz
      rcases hz with hz | rfl | rfl | rfl
      · exact h4 z hz
      · exact p1
      · exact p2
      · exact p3) (by simp only [List.length_append, List.length_cons, List.length_nil]; omega)
    exact ⟨l, q1, by rw [q2]; simp only [List.length_append, List.length_cons, List.length_nil]; omega, q3⟩
theorem store_sizes {b s t L : Int} (hb : 1 ≤ b) (h : store_Right.f b s t L = some true) : ∃ l, PStSizes.store_Sizes.f 10 b s t L = some l ∧ (l.length : Int) = 1 + 3 * L ∧ ∀ x ∈ l, 1 ≤ x := by
  obtain ⟨h1, h4⟩ := right_levels h
  have hok : ∀ i : Nat, (i : Int) < L → lvOk b s t L i = true := by
    have h' := Option.some.inj h
    simp only [Bool.and_eq_true, decide_eq_true_eq, List.all_eq_true, List.mem_range] at h'
    intro i hi
    exact h'.2.2 i (by omega)
  unfold PStSizes.store_Sizes.f
  rw [h, Option.bind_some, if_pos rfl]
  have e : wrap64 (L - 1) = L - 1 := by unfold wrap64; omega
  obtain ⟨r, hr⟩ := tot_blocks (L - 1).toNat 10 b (L - 1) 0 (by omega) (by omega) (by omega) (by omega)
  have hr1 := blocks_pos (L - 1).toNat 10 b (L - 1) 0 r (by omega) (by omega) (by omega) (by omega) hb hr
  unfold PStSizes.store_Config_top.f Plevel.store_Config_blocks.f
  rw [e, hr, Option.bind_some, Option.bind_some]
  obtain ⟨l, q1, q2, q3⟩ := sizes_loop b s t L h4 hok L.toNat 10 0 [r] (by omega) (by omega) (by omega) (by intro x hx; simp only [List.mem_cons, List.not_mem_nil, or_false] at hx; omega) (by simp only [List.length_cons, List.length_nil]; omega)
  refine ⟨l, q1, ?_, q3⟩
  rw [q2]; simp only [List.length_cons, List.length_nil]; omega
theorem table_range {c0 c1 c2 c3 c4 c5 c6 c7 c8 : Int} (h : check.f c0 c1 c2 c3 c4 c5 c6 c7 c8 = some none) : 1 ≤ c4 ∧ c4 ≤ 128 := by
  have g := check_none h
  unfold check.f at h
  rw [if_neg (by omega), if_neg (by omega), if_neg (by omega), if_neg (by omega), if_neg (by omega)] at h
  obtain ⟨t, ht, h⟩ := Option.bind_eq_some_iff.mp h
  by_cases z : t = 0
  · subst z
    unfold Ptable.config_Config_table.f at ht
    by_cases c : c4 < 1
    · rw [if_pos c] at ht
      simp only [Ptable.config_Config_table.j0, if_true] at ht
      exact absurd ht (by simp)
    · rw [if_neg c] at ht
      by_cases d : c4 > 128
      · rw [decide_eq_true d] at ht
        simp only [Ptable.config_Config_table.j0, if_true] at ht
        exact absurd ht (by simp)
      · omega
  · rw [if_neg z] at h; exact absurd h (by simp)
/-- all regions of a right config -/
theorem sizes_of {c0 c1 c2 c3 c4 c5 c6 c7 c8 : Int} (h : check.f c0 c1 c2 c3 c4 c5 c6 c7 c8 = some none) : ∃ (x R : Int) (l : List Int), config_Store.f c0 c1 c2 c3 c4 c5 c6 c7 c8 = some (x, c5, c6, c7) ∧ store_Right.f x c5 c6 c7 = some true ∧ 2 * c4 + c0 + c1 ≤ x ∧ c0 + c1 ≤ R ∧ R ≤ 512 ∧
    (∀ k, 10 ≤ k → PStSizes.store_Sizes.f k x c5 c6 c7 = some l) ∧ (∀ k, 10 ≤ k → config_Sizes.f k c0 c1 c2 c3 c4 c5 c6 c7 c8 = some (1 :: c3 :: R :: l)) ∧ (l.length : Int) = 1 + 3 * c7 ∧ ∀ z ∈ l, 1 ≤ z ∧ z ≤ 4096 := by
  have g := check_none h
  have g4 := table_range h
  have lv := levels_of h
  obtain ⟨x, hx, hr⟩ := store_of h
  have e1 : wrap64 (wrap64 (2 * c4) + wrap64 (c0 + c1)) = 2 * c4 + c0 + c1 := by unfold wrap64; omega
  have e2 : wrap64 (c0 + c1) = c0 + c1 := by unfold wrap64; omega
  obtain ⟨x', hx', x1, x2⟩ := round_at (a := 2 * c4 + c0 + c1) (by omega) (by omega)
  have hx0 := hx
  rw [e1, hx'] at hx
  obtain rfl := Option.some.inj hx
  obtain ⟨R, hR, r1, r2⟩ := round_at (a := c0 + c1) (by omega) (by omega)
  obtain ⟨l, hl, l1, l2⟩ := store_sizes (by omega) hr
  have hl' : ∀ k, 10 ≤ k → PStSizes.store_Sizes.f k x' c5 c6 c7 = some l := fun k hk => at_rounds (g := fun k => PStSizes.store_Sizes.f k x' c5 c6 c7) (fun k => PStSizes.store_Sizes.mono x' c5 c6 c7 k) hk hl
  have g7 := right_levels hr
  refine ⟨x', R, l, ?_, hr, x1, r1, r2, hl', ?_, l1, ?_⟩
  · unfold config_Store.f PConfigFits.config_Config_store.f PConfigFits.config_Config_cells.f
    rw [right_of h, Option.bind_some, if_pos rfl, Option.bind_some, hx0]
    rfl
  · intro k hk
    unfold config_Sizes.f PConfigFits.config_Config_store.f PConfigFits.config_Config_cells.f
    rw [right_of h, Option.bind_some, if_pos rfl, Option.bind_some, e2, hR, Option.bind_some, Option.bind_some, Option.bind_some, ← e2, hx0, Option.bind_some, Option.bind_some]
    show (PStSizes.store_Sizes.f k x' c5 c6 c7).bind _ = _
    rw [hl' k hk, Option.bind_some, if_pos (by simp only [List.length_cons, List.length_nil]; omega)]
    rfl
  · intro z hz
    refine ⟨l2 z hz, ?_⟩
    unfold config_Config_levels.f Pstore.config_Config_store.f Pstore.config_Config_cells.f at lv
    rw [Option.bind_some, hx0, Option.bind_some, Option.bind_some] at lv
    have lv' : ((store_Right.f x' c5 c6 c7).bind fun r => if r = true then ((PStSizes.store_Sizes.f 10 x' c5 c6 c7).bind fun l => if l ≠ [] ∧ l.length ≤ 1000 then some (if (l.any fun n => decide (4096 < n)) = true then 1 else 0) else none) else some 1) = some (0 : Int) := lv
    rw [hr, Option.bind_some, if_pos rfl, hl, Option.bind_some] at lv'
    by_cases c : l ≠ [] ∧ l.length ≤ 1000
    · rw [if_pos c] at lv'
      by_cases d : (l.any fun n => decide (4096 < n)) = true
      · rw [if_pos d] at lv'; exact absurd lv' (by simp)
      · simp only [Bool.not_eq_true, List.any_eq_false, decide_eq_true_eq] at d
        have := d z hz
        omega
    · rw [if_neg c] at lv'; exact absurd lv' (by simp)
theorem cells_of {c0 c1 c2 c3 c4 c5 c6 c7 c8 : Int} (h : check.f c0 c1 c2 c3 c4 c5 c6 c7 c8 = some none) : config_Cells.f c0 c1 c2 c3 c4 c5 c6 c7 c8 = some (c0 + c1) := by
  have g := check_none h
  have e2 : wrap64 (c0 + c1) = c0 + c1 := by unfold wrap64; omega
  unfold config_Cells.f PConfigFits.config_Config_cells.f
  rw [right_of h, Option.bind_some, if_pos rfl, Option.bind_some, e2]
theorem same_loop (l : List Int) (hl : l.length ≤ 2000) : ∀ (d k i : Nat), i + d = l.length → d < k → shellgamelaw13_sameInts.l0 k l l (i : Int) = some true := by
  intro d
  induction d with
  | zero =>
    intro k i hi hk
    obtain ⟨k, rfl⟩ : ∃ q, k = q + 1 := ⟨k - 1, by omega⟩
    simp only [shellgamelaw13_sameInts.l0]
    rw [if_neg (by omega)]
  | succ d ih =>
    intro k i hi hk
    obtain ⟨k, rfl⟩ : ∃ q, k = q + 1 := ⟨k - 1, by omega⟩
    have e : wrap64 ((i : Int) + 1) = ((i + 1 : Nat) : Int) := by unfold wrap64; omega
    simp only [shellgamelaw13_sameInts.l0]
    rw [if_pos (by omega), if_pos (by omega), if_pos (by omega), e, ih k (i + 1) (by omega) (by omega)]
    simp
theorem same_self (l : List Int) (hl : l.length ≤ 2000) (k : Nat) (hk : l.length < k) : shellgamelaw13_sameInts.f k l l = some true := by
  unfold shellgamelaw13_sameInts.f
  rw [if_pos rfl]
  exact same_loop l hl l.length k 0 (by omega) (by omega)
theorem none_sizes (k : Nat) : shellgameref11_Sizes.f (k + 1) 0 0 0 0 = some [] := by
  unfold shellgameref11_Sizes.f shellgameref11_Right.f
  rw [if_pos (by decide)]
  simp only [shellgameref11_Right.j0, if_true]
  rfl
theorem quot (N c : Int) (h0 : 0 ≤ N) (c1 : 1 ≤ c) (c2 : c ≤ 16) : (N + 1) / c = N / c + (if (N + 1) % c = 0 then 1 else 0) := by
  obtain rfl | rfl | rfl | rfl | rfl | rfl | rfl | rfl | rfl | rfl | rfl | rfl | rfl | rfl | rfl | rfl : c = 1 ∨ c = 2 ∨ c = 3 ∨ c = 4 ∨ c = 5 ∨ c = 6 ∨ c = 7 ∨ c = 8 ∨ c = 9 ∨ c = 10 ∨ c = 11 ∨ c = 12 ∨ c = 13 ∨ c = 14 ∨ c = 15 ∨ c = 16 := by omega
  all_goals split <;> omega
theorem more {L A B N Q E : Int} : (4 + 2 * L * ((N + 1) * A + (Q + E) * B)) - (4 + 2 * L * (N * A + Q * B)) = (A + E * B) * (2 * L) := by
  rw [Int.add_mul N 1 A, Int.add_mul Q E B, Int.one_mul]
  have e : N * A + A + (Q * B + E * B) = (N * A + Q * B) + (A + E * B) := by omega
  rw [e, Int.mul_add, Int.mul_comm (A + E * B)]
  omega
/-- the loop over the regions: all are within bounds -/
theorem loop (n : Int) (l : List Int) (c0 c1 c2 c3 c4 c5 c6 c7 c8 t0 t1 t2 t3 : Int) (hn : l.length ≤ 2000) (hl : ∀ z ∈ l, 1 ≤ z ∧ z ≤ 4096) : ∀ (d m i : Nat), i + d = l.length →
    shellgamelaw13_ConfigFits.l0 (m + d) n l (i : Int) c0 c1 c2 c3 c4 c5 c6 c7 c8 t0 t1 t2 t3 = shellgamelaw13_ConfigFits.l0 m n l (l.length : Int) c0 c1 c2 c3 c4 c5 c6 c7 c8 t0 t1 t2 t3 := by
  intro d
  induction d with
  | zero =>
    intro m i hi
    obtain rfl : i = l.length := by omega
    rfl
  | succ d ih =>
    intro m i hi
    have e2 : wrap64 ((i : Int) + 1) = ((i + 1 : Nat) : Int) := by unfold wrap64; omega
    have go := ih m (i + 1) (by omega)
    have hi' : i < l.length := by omega
    have hr : rd l (i : Int) = l[i] := by
      unfold rd
      rw [Int.toNat_natCast, List.getD_eq_getElem?_getD, List.getElem?_eq_getElem hi']
      rfl
    have hz := hl _ (List.getElem_mem hi')
    rw [show m + (d + 1) = (m + d) + 1 from rfl]
    simp only [shellgamelaw13_ConfigFits.l0]
    rw [if_pos (by omega), if_pos (by omega), hr, if_neg (by omega), if_neg (by omega), e2]
    exact go
end ConfigFitsAid
open ConfigFitsAid
theorem ConfigFits : shellgamelaw13_ConfigFits.Pure := by
  intro c0 c1 c2 c3 c4 c5 c6 c7 c8 n _ _ _ _ _ _ _ _ _ _
  obtain ⟨o, ho, hw⟩ := why_some c0 c1 c2 c3 c4 c5 c6 c7 c8
  unfold shellgamelaw13_ConfigFits.f
  by_cases z : (whyR o).2 = 0
  · obtain rfl := whyR_zero z
    have g := check_none ho
    have g4 := table_range ho
    obtain ⟨x, R, l, hst, hr, x1, r1, r2, hsl, hcs, l1, l2⟩ := sizes_of ho
    have g7 := right_levels hr
    obtain ⟨N, hN, n0, n1⟩ : ∃ N, mx 0 (mn n 1000) = N ∧ 0 ≤ N ∧ N ≤ 1000 := ⟨_, rfl, by unfold mx mn; repeat' split <;> omega, by unfold mx mn; repeat' split <;> omega⟩
    have w1 := words_of ho (N + 1) (N + 1) (by unfold mx mn; repeat' split <;> omega) (by omega) (by omega)
    have w2 := words_of ho N N (by unfold mx mn; repeat' split <;> omega) (by omega) (by omega)
    have w0 := words_of ho 0 0 (by decide) (by omega) (by omega)
    rw [Int.zero_ediv, Int.zero_mul, Int.zero_mul, Int.add_zero, Int.mul_zero, Int.add_zero] at w0
    have hW : store_Words.f x c5 c6 c7 = some (2 * c7) := by
      unfold store_Words.f
      have e7 : wrap64 (2 * c7) = 2 * c7 := by unfold wrap64; omega
      rw [hr, Option.bind_some, if_pos rfl, e7]
    have hall : ∀ y ∈ (1 :: c3 :: R :: l), 1 ≤ y ∧ y ≤ 4096 := by
      intro y hy
      simp only [List.mem_cons] at hy
      rcases hy with rfl | rfl | rfl | hy
      · omega
      · omega
      · omega
      · exact l2 y hy
    have hlen : (1 :: c3 :: R :: l).length = l.length + 3 := rfl
    refine ⟨(40 + (1 :: c3 :: R :: l).length) + 1 + 1, ?_⟩
    rw [shown_true, hw, hcs _ (by omega), Option.bind_some, Option.bind_some, Option.bind_some, if_pos rfl]
    simp only [shellgamelaw13_ConfigFits.j0]
    rw [if_neg (by simp [z]), hst, Option.bind_some]
    simp only []
    rw [hr, Option.bind_some, if_pos rfl]
    have e4 : wrap64 (wrap64 (wrap64 (2 * c4) + c0) + c1) = 2 * c4 + c0 + c1 := by unfold wrap64; omega
    rw [e4, if_neg (by omega), if_neg (by omega), if_neg (by omega), if_pos (by omega), if_pos (by rfl), if_pos (by omega), if_pos (by rfl), if_pos (by omega), cells_of ho, Option.bind_some]
    have e5 : decide (rd (1 :: c3 :: R :: l) 2 < c0 + c1) = false := decide_eq_false (by show ¬ R < c0 + c1; omega)
    rw [e5]
    simp only [shellgamelaw13_ConfigFits.j1]
    rw [if_neg (by decide)]
    have hlo := loop n (1 :: c3 :: R :: l) c0 c1 c2 c3 c4 c5 c6 c7 c8 x c5 c6 c7 (by omega) hall (1 :: c3 :: R :: l).length 40 0 (by omega)
    rw [show ((0 : Nat) : Int) = 0 from rfl] at hlo
    rw [hlo]
    have hq := quot N c1 n0 (by omega) (by omega)
    have q0 : 0 ≤ N / c1 := Int.ediv_nonneg n0 (by omega)
    have q1 : N / c1 ≤ N := Int.ediv_le_self _ n0
    have hA : 2 * c2 + 5 ≤ 37 := by omega
    have hB : c0 + c1 + 4 * c1 ≤ 144 := by omega
    have fin : ∀ (m : Nat) (E : Int), (E = 0 ∨ E = 1) → (N + 1) / c1 = N / c1 + E → ∀ a, a = 2 * c2 + 5 + E * (c0 + c1 + 4 * c1) →
        shellgamelaw13_ConfigFits.j3 (m + 35) (1 :: c3 :: R :: l) (wrap64 ((4 + 2 * c7 * ((N + 1) * (2 * c2 + 5) + (N + 1) / c1 * (c0 + c1 + 4 * c1))) - (4 + 2 * c7 * (N * (2 * c2 + 5) + N / c1 * (c0 + c1 + 4 * c1))))) a c0 c1 c2 c3 c4 c5 c6 c7 c8 x c5 c6 c7 = some true := by
      intro m E hE hq a ha
      rw [hq, more, ← ha]
      have a0 : 0 ≤ a * (2 * c7) := Int.mul_nonneg (by rcases hE with rfl | rfl <;> omega) (by omega)
      have a1 : a * (2 * c7) ≤ 200 * 8 := Int.mul_le_mul (by rcases hE with rfl | rfl <;> omega) (by omega) (by omega) (by omega)
      have ea : wrap64 (a * (2 * c7)) = a * (2 * c7) := by unfold wrap64; omega
      rw [show m + 35 = (m + 34) + 1 from rfl]
      simp only [shellgamelaw13_ConfigFits.j3]
      rw [w0, Option.bind_some, if_pos rfl, hW, Option.bind_some, if_pos rfl, if_pos (by omega), hsl _ (by omega), Option.bind_some]
      rw [show (1 :: c3 :: R :: l).drop 3 = l from rfl, same_self l (by omega) _ (by omega), Option.bind_some, if_pos rfl, show m + 34 = (m + 33) + 1 from rfl, none_sizes, Option.bind_some]
      rfl
    rw [show (40 : Nat) = 4 + 35 + 1 from rfl]
    simp only [shellgamelaw13_ConfigFits.l0]
    rw [if_neg (by omega), accesses_of ho, Option.bind_some, hN, w1, Option.bind_some, w2, Option.bind_some, if_neg (by omega)]
    by_cases c : (N + 1) % c1 = 0
    · rw [if_pos c] at hq
      rw [if_pos c]
      have e6 : wrap64 (2 * c2 + 5 + (c0 + c1 + 4 * c1)) = 2 * c2 + 5 + 1 * (c0 + c1 + 4 * c1) := by unfold wrap64; omega
      exact fin 4 1 (Or.inr rfl) hq _ e6
    · rw [if_neg c] at hq
      rw [if_neg c]
      exact fin 4 0 (Or.inl rfl) hq _ (by omega)
  · refine ⟨20, ?_⟩
    have hr0 : config_Config_right.f c0 c1 c2 c3 c4 c5 c6 c7 c8 = some false := by
      unfold config_Config_right.f
      rw [ho]
      cases o with
      | none => exact absurd rfl z
      | some p => rfl
    have f1 : config_Sizes.f 20 c0 c1 c2 c3 c4 c5 c6 c7 c8 = some [] := by unfold config_Sizes.f; rw [hr0]; rfl
    have f2 : config_Cells.f c0 c1 c2 c3 c4 c5 c6 c7 c8 = some 0 := by unfold config_Cells.f; rw [hr0]; rfl
    have f3 : config_Words.f c0 c1 c2 c3 c4 c5 c6 c7 c8 n = some 0 := by unfold config_Words.f; rw [hr0]; rfl
    have f4 : config_Store.f c0 c1 c2 c3 c4 c5 c6 c7 c8 = some (0, 0, 0, 0) := by unfold config_Store.f; rw [hr0]; rfl
    rw [shown_true, hw, f1, Option.bind_some, Option.bind_some, Option.bind_some, if_pos rfl]
    simp only [shellgamelaw13_ConfigFits.j0]
    rw [if_pos (by simpa using z), if_pos trivial, if_pos (by rfl), f2, Option.bind_some, if_pos rfl, f3, Option.bind_some, if_pos rfl, f4, Option.bind_some]
    rfl
end Go.Proofs.YtpaafeaolodkjaaDoor.Pure
