/- Plain facts on configs: that Check tells something of each; of which it tells nothing; what it tells of one whose field is out of bounds. -/
import Derived.Test.YtpaafeaolodkjaaDoorWhy
import Derived.Test.YtpaafeaolodkjaaDoorPshownx1
namespace Go.Proofs.YtpaafeaolodkjaaDoor.Hand
open Go.RowKit Go.Proofs.YtpaafeaolodkjaaDoorW.PrintWords Go.Proofs.YtpaafeaolodkjaaDoorW.PrintLast Go.Proofs.YtpaafeaolodkjaaDoorW.PrintMore
set_option linter.unusedVariables false

theorem tot_nodes (a : Int) : ∃ r, PSizes.path_Nodes.f a = some r := by
  unfold PSizes.path_Nodes.f
  obtain ⟨r, hr⟩ := tot_path a
  rw [hr, Option.bind_some]
  split <;> exact ⟨_, rfl⟩
theorem tot_lsizes (a b c : Int) : ∃ r, PSizes.level_Sizes.f a b c = some r := by
  unfold PSizes.level_Sizes.f
  obtain ⟨r, hr⟩ := tot_right a b c
  obtain ⟨n, hn⟩ := tot_nodes a
  obtain ⟨t, ht⟩ := tot_table a b c
  rw [hr, hn, ht, Option.bind_some, Option.bind_some, Option.bind_some]
  split <;> exact ⟨_, rfl⟩
theorem tot_level' (k : Nat) (b s t L h : Int) (h0 : 0 ≤ h) (h1 : h ≤ 4) (hk : 5 ≤ k) : ∃ x, Plevel.store_Config_level.f k b s t L h = some (x, s, t) := by
  obtain ⟨r, hr⟩ := tot_blocks h.toNat k b h 0 (by omega) (by omega) (by omega) (by omega)
  unfold Plevel.store_Config_level.f Plevel.store_Config_blocks.f
  rw [hr]
  exact ⟨r, rfl⟩
theorem tot_sizes0 (b s t L0 : Int) : ∀ (d k : Nat) (xs : List Int) (L i : Int), L - i = d → d + 6 ≤ k → 0 ≤ i → L ≤ 4 → xs ≠ [] → xs.length + 3 * d ≤ 1000 → ∃ l, PStSizes.store_Sizes.l0 k xs L i b s t L0 = some l ∧ l ≠ [] ∧ l.length ≤ 1000 := by
  intro d
  induction d with
  | zero =>
    intro k xs L i h1 h2 h3 h4 h5 h6
    obtain ⟨k, rfl⟩ : ∃ m, k = m + 1 := ⟨k - 1, by omega⟩
    simp only [PStSizes.store_Sizes.l0]
    rw [if_neg (by omega)]
    exact ⟨xs, rfl, h5, by omega⟩
  | succ d ih =>
    intro k xs L i h1 h2 h3 h4 h5 h6
    obtain ⟨k, rfl⟩ : ∃ m, k = m + 1 := ⟨k - 1, by omega⟩
    simp only [PStSizes.store_Sizes.l0]
    obtain ⟨x, hx⟩ := tot_level' k b s t L0 i h3 (by omega) (by omega)
    obtain ⟨⟨y1, y2, y3⟩, hy⟩ := tot_lsizes x s t
    rw [if_pos (by omega), hx, Option.bind_some, hy, Option.bind_some, Option.bind_some]
    rw [if_pos (by simp only [List.length_cons, List.length_nil]; omega)]
    have e : wrap64 (i + 1) = i + 1 := by unfold wrap64; omega
    rw [e]
    exact ih k _ L (i + 1) (by omega) (by omega) (by omega) h4 (by simp) (by simp only [List.length_append, List.length_cons, List.length_nil]; omega)
theorem right_levels {b s t L : Int} (h : store_Right.f b s t L = some true) : 1 ≤ L ∧ L ≤ 4 := by
  have h' := Option.some.inj h
  simp only [Bool.and_eq_true, decide_eq_true_eq] at h'
  exact ⟨h'.1, h'.2.1⟩
theorem tot_sizes {b s t L : Int} (h : store_Right.f b s t L = some true) : ∃ l, PStSizes.store_Sizes.f 10 b s t L = some l ∧ l ≠ [] ∧ l.length ≤ 1000 := by
  obtain ⟨h1, h4⟩ := right_levels h
  unfold PStSizes.store_Sizes.f
  rw [h, Option.bind_some, if_pos rfl]
  have e : wrap64 (L - 1) = L - 1 := by unfold wrap64; omega
  obtain ⟨r, hr⟩ := tot_blocks (L - 1).toNat 10 b (L - 1) 0 (by omega) (by omega) (by omega) (by omega)
  unfold PStSizes.store_Config_top.f Plevel.store_Config_blocks.f
  rw [e, hr, Option.bind_some, Option.bind_some]
  exact tot_sizes0 b s t L L.toNat 10 [r] L 0 (by omega) (by omega) (by omega) h4 (by simp) (by simp only [List.length_cons, List.length_nil]; omega)
theorem tot_store (c0 c1 c2 c3 c4 c5 c6 c7 c8 : Int) : ∃ r, PSizes.word_Round.f (wrap64 (wrap64 (2 * c4) + wrap64 (c0 + c1))) = some r ∧ Pstore.config_Config_store.f c0 c1 c2 c3 c4 c5 c6 c7 c8 = some (r, c5, c6, c7) := by
  obtain ⟨r, hr⟩ := tot_round (wrap64 (wrap64 (2 * c4) + wrap64 (c0 + c1)))
  refine ⟨r, hr, ?_⟩
  unfold Pstore.config_Config_store.f Pstore.config_Config_cells.f
  rw [Option.bind_some, hr]
  rfl
theorem tot_levels (c0 c1 c2 c3 c4 c5 c6 c7 c8 : Int) : ∃ r, config_Config_levels.f c0 c1 c2 c3 c4 c5 c6 c7 c8 = some r := by
  unfold config_Config_levels.f
  obtain ⟨x, _, hx⟩ := tot_store c0 c1 c2 c3 c4 c5 c6 c7 c8
  rw [hx, Option.bind_some]
  cases hr : store_Right.f x c5 c6 c7 with
  | none => exact absurd hr (by unfold store_Right.f; simp)
  | some r =>
    rw [Option.bind_some]
    cases r with
    | false => exact ⟨_, rfl⟩
    | true =>
      obtain ⟨l, hl, h1, h2⟩ := tot_sizes hr
      rw [if_pos rfl, hl, Option.bind_some, if_pos ⟨h1, h2⟩]
      exact ⟨_, rfl⟩
theorem tot_ctable (c0 c1 c2 c3 c4 c5 c6 c7 c8 : Int) : ∃ r, Ptable.config_Config_table.f 10 c0 c1 c2 c3 c4 c5 c6 c7 c8 = some r := by
  have go : ∀ b : Bool, ∃ r, Ptable.config_Config_table.j0 10 b c0 c1 c2 c3 c4 c5 c6 c7 c8 = some r := by
    intro b
    simp only [Ptable.config_Config_table.j0]
    cases b with
    | true => exact ⟨_, rfl⟩
    | false =>
      rw [if_neg (by decide)]
      obtain ⟨r, hr⟩ := tot_round c4
      rw [hr, Option.bind_some]
      unfold Ptable.config_Config_cells.f
      split
      · rw [Option.bind_some]
        split <;> exact ⟨_, rfl⟩
      · exact ⟨_, rfl⟩
  unfold Ptable.config_Config_table.f
  split
  · exact go true
  · exact go _
theorem tot_check (c0 c1 c2 c3 c4 c5 c6 c7 c8 : Int) : ∃ o, check.f c0 c1 c2 c3 c4 c5 c6 c7 c8 = some o := by
  unfold check.f
  obtain ⟨t, ht⟩ := tot_ctable c0 c1 c2 c3 c4 c5 c6 c7 c8
  obtain ⟨m, hm⟩ := tot_levels c0 c1 c2 c3 c4 c5 c6 c7 c8
  rw [ht, hm, Option.bind_some, Option.bind_some]
  repeat' split
  all_goals exact ⟨_, rfl⟩
theorem why_some (c0 c1 c2 c3 c4 c5 c6 c7 c8 : Int) : ∃ o, check.f c0 c1 c2 c3 c4 c5 c6 c7 c8 = some o ∧ config_Why.f c0 c1 c2 c3 c4 c5 c6 c7 c8 = some (whyR o) := by
  obtain ⟨o, ho⟩ := tot_check c0 c1 c2 c3 c4 c5 c6 c7 c8
  refine ⟨o, ho, ?_⟩
  unfold config_Why.f
  rw [ho]
  rfl
/-- nothing is told just of a config of which Check tells nothing -/
theorem whyR_zero {o : Option (ByteArray × Int)} (h : (whyR o).2 = 0) : o = none := by
  cases o with
  | none => rfl
  | some p =>
    exfalso
    have h' : (if p.2 = 2 then (2 : Int) else if p.2 = 3 then 3 else if p.2 = 4 then 4 else 1) = 0 := h
    revert h'
    repeat' split
    all_goals decide
theorem check_none {c0 c1 c2 c3 c4 c5 c6 c7 c8 : Int} (h : check.f c0 c1 c2 c3 c4 c5 c6 c7 c8 = some none) : (1 ≤ c0 ∧ c0 ≤ 64) ∧ (1 ≤ c1 ∧ c1 ≤ 16) ∧ (1 ≤ c2 ∧ c2 ≤ 16) ∧ (1 ≤ c3 ∧ c3 ≤ 32) ∧ (0 ≤ c8 ∧ c8 ≤ 2) := by
  unfold check.f at h
  by_cases x0 : c0 < 1 ∨ 64 < c0
  · rw [if_pos x0] at h; exact absurd h (by simp)
  rw [if_neg x0] at h
  by_cases x1 : c1 < 1 ∨ 16 < c1
  · rw [if_pos x1] at h; exact absurd h (by simp)
  rw [if_neg x1] at h
  by_cases x2 : c2 < 1 ∨ 16 < c2
  · rw [if_pos x2] at h; exact absurd h (by simp)
  rw [if_neg x2] at h
  by_cases x3 : c3 < 1 ∨ 32 < c3
  · rw [if_pos x3] at h; exact absurd h (by simp)
  rw [if_neg x3] at h
  by_cases x4 : c8 < 0 ∨ 2 < c8
  · rw [if_pos x4] at h; exact absurd h (by simp)
  omega
theorem shown_true : Pshown.shellgamelaw13_shown.f = some true := by decide +kernel
end Go.Proofs.YtpaafeaolodkjaaDoor.Hand
