/- Whether a config is right, or which field is wrong, and how, and what follows from it, are as the chapter says. No condition. -/
import Derived.Test.YtpaafeaolodkjaaDoorPConfigChecksx7
import Derived.Test.YtpaafeaolodkjaaDoorRefConfig
import Derived.OpenShut
namespace Go.Proofs.YtpaafeaolodkjaaDoor.Pure
open Go.RowKit Go.Proofs.YtpaafeaolodkjaaDoor.Hand Go.Proofs.YtpaafeaolodkjaaDoor.PConfigChecks Go.Proofs.YtpaafeaolodkjaaDoor.RefChecks Go.Proofs.YtpaafeaolodkjaaDoorW.PrintWords Go.Proofs.YtpaafeaolodkjaaDoorW.PrintLast Go.Proofs.YtpaafeaolodkjaaDoorW.PrintMore
set_option linter.unusedVariables false

namespace ConfigChecksAid
theorem same_loop (l : List Int) (hl : l.length ≤ 2000) : ∀ (d k i : Nat), i + d = l.length → d < k → shellgamelaw13_sameInts.l0 k l l (i : Int) = some true := by
  intro d
  induction d with
  | zero =>
    intro k i hi hk
    obtain ⟨k, rfl⟩ : ∃ q, k = q + 1 := ⟨k - 1, by omega⟩
    simp only [shellgamelaw13_sameInts.l0]
    rw [if_neg (by omega)]
  | succ d ih =>
    intro k i hi hk
    obtain ⟨k, rfl⟩ : ∃ q, k = q + 1 := ⟨k - 1, by omega⟩
    have e : wrap64 ((i : Int) + 1) = ((i + 1 : Nat) : Int) := by unfold wrap64; omega
    simp only [shellgamelaw13_sameInts.l0]
    rw [if_pos (by omega), if_pos (by omega), if_pos (by omega), e, ih k (i + 1) (by omega) (by omega)]
    simp
theorem same_self (l : List Int) (hl : l.length ≤ 2000) (k : Nat) (hk : 2001 ≤ k) : shellgamelaw13_sameInts.f k l l = some true := by
  unfold shellgamelaw13_sameInts.f
  rw [if_pos rfl]
  exact same_loop l hl l.length k 0 (by omega) (by omega)
theorem right_tot (c0 c1 c2 c3 c4 c5 c6 c7 c8 : Int) : (∃ o, check.f c0 c1 c2 c3 c4 c5 c6 c7 c8 = some o ∧ config_Config_right.f c0 c1 c2 c3 c4 c5 c6 c7 c8 = some o.isNone) := by
  obtain ⟨o, ho⟩ := tot_check c0 c1 c2 c3 c4 c5 c6 c7 c8
  exact ⟨o, ho, by unfold config_Config_right.f; rw [ho]; rfl⟩
/-- a right config's store is right -/
theorem right_store {c0 c1 c2 c3 c4 c5 c6 c7 c8 : Int} (h : check.f c0 c1 c2 c3 c4 c5 c6 c7 c8 = some none) : ∃ x, Pstore.config_Config_store.f c0 c1 c2 c3 c4 c5 c6 c7 c8 = some (x, c5, c6, c7) ∧ store_Right.f x c5 c6 c7 = some true := by
  have g := check_none h
  obtain ⟨x, hx, hs⟩ := tot_store c0 c1 c2 c3 c4 c5 c6 c7 c8
  refine ⟨x, hs, ?_⟩
  unfold check.f at h
  rw [if_neg (by omega), if_neg (by omega), if_neg (by omega), if_neg (by omega), if_neg (by omega)] at h
  obtain ⟨t, _, h⟩ := Option.bind_eq_some_iff.mp h
  by_cases z : t = 0
  · rw [if_pos z] at h
    obtain ⟨m, hm, h⟩ := Option.bind_eq_some_iff.mp h
    by_cases y : m = 0
    · unfold config_Config_levels.f at hm
      rw [hs, Option.bind_some] at hm
      obtain ⟨r, hr, hm⟩ := Option.bind_eq_some_iff.mp hm
      cases r
      · simp only [Bool.false_eq_true, if_false, Option.some.injEq] at hm; omega
      · exact hr
    · rw [if_neg y] at h; exact absurd h (by simp)
  · rw [if_neg z] at h; exact absurd h (by simp)
section
variable (k : Nat) (hk : 2100 ≤ k) (c0 c1 c2 c3 c4 c5 c6 c7 c8 : Int) (h4 : c4 < 9223372036854775808)
include hk h4
theorem Store_ref : ∃ v, config_Store.f c0 c1 c2 c3 c4 c5 c6 c7 c8 = some v ∧ shellgameref13_Store.f k c0 c1 c2 c3 c4 c5 c6 c7 c8 = some v := by
  unfold config_Store.f shellgameref13_Store.f
  rw [right13_ref k (by omega) _ _ _ _ _ _ _ _ _ h4, store_ref k (by omega), cstore_eq]
  obtain ⟨o, ho, hr⟩ := right_tot c0 c1 c2 c3 c4 c5 c6 c7 c8
  obtain ⟨x, _, hs⟩ := tot_store c0 c1 c2 c3 c4 c5 c6 c7 c8
  rw [hr, hs]
  cases o.isNone
  · exact ⟨_, rfl, rfl⟩
  · exact ⟨_, rfl, rfl⟩
theorem Accesses_ref : ∃ v, config_Accesses.f c0 c1 c2 c3 c4 c5 c6 c7 c8 = some v ∧ shellgameref13_Accesses.f k c0 c1 c2 c3 c4 c5 c6 c7 c8 = some v := by
  unfold config_Accesses.f shellgameref13_Accesses.f PConfigChecks.config_Config_cells.f
  rw [right13_ref k (by omega) _ _ _ _ _ _ _ _ _ h4]
  obtain ⟨o, ho, hr⟩ := right_tot c0 c1 c2 c3 c4 c5 c6 c7 c8
  rw [hr]
  cases o.isNone
  · exact ⟨_, rfl, rfl⟩
  · have e : wrap64 (wrap64 (c0 + c1) + wrap64 (4 * c1)) = wrap64 (c0 + wrap64 (5 * c1)) := by unfold wrap64; omega
    simp only [Option.bind_some, if_true]
    rw [e]
    exact ⟨_, rfl, rfl⟩
theorem Cells_ref : ∃ v, config_Cells.f c0 c1 c2 c3 c4 c5 c6 c7 c8 = some v ∧ shellgameref13_Cells.f k c0 c1 c2 c3 c4 c5 c6 c7 c8 = some v := by
  unfold config_Cells.f shellgameref13_Cells.f PConfigChecks.config_Config_cells.f
  rw [right13_ref k (by omega) _ _ _ _ _ _ _ _ _ h4]
  obtain ⟨o, ho, hr⟩ := right_tot c0 c1 c2 c3 c4 c5 c6 c7 c8
  rw [hr, Option.bind_some, Option.bind_some]
  cases o.isNone
  · exact ⟨_, rfl, rfl⟩
  · exact ⟨_, rfl, rfl⟩
theorem Sizes_ref : ∃ l, config_Sizes.f k c0 c1 c2 c3 c4 c5 c6 c7 c8 = some l ∧ shellgameref13_Sizes.f k c0 c1 c2 c3 c4 c5 c6 c7 c8 = some l ∧ l.length ≤ 2000 := by
  unfold config_Sizes.f shellgameref13_Sizes.f PConfigChecks.config_Config_cells.f
  rw [right13_ref k (by omega) _ _ _ _ _ _ _ _ _ h4, store_ref k (by omega), cstore_eq, round_ref k (by omega) _ (wrap_lt _)]
  obtain ⟨o, ho, hr⟩ := right_tot c0 c1 c2 c3 c4 c5 c6 c7 c8
  rw [hr, Option.bind_some, Option.bind_some]
  cases o with
  | some p => exact ⟨[], rfl, rfl, by simp⟩
  | none =>
    obtain ⟨x, hs, hx⟩ := right_store ho
    obtain ⟨R, hR⟩ := tot_round (wrap64 (c0 + c1))
    obtain ⟨l, hl, _, hn⟩ := tot_sizes hx
    have hl' : PStSizes.store_Sizes.f k x c5 c6 c7 = some l := at_rounds (g := fun k => PStSizes.store_Sizes.f k x c5 c6 c7) (fun k => PStSizes.store_Sizes.mono x c5 c6 c7 k) (by omega) hl
    rw [hs, hR]
    simp only [Option.isNone_none, if_true, Option.bind_some]
    rw [sizes11_ref k (by omega), hl']
    simp only [Option.bind_some]
    rw [if_pos (by simp only [List.length_cons, List.length_nil]; omega)]
    exact ⟨_, rfl, rfl, by simp only [List.length_append, List.length_cons, List.length_nil]; omega⟩
theorem Words_ref (n : Int) : ∃ v, config_Words.f c0 c1 c2 c3 c4 c5 c6 c7 c8 n = some v ∧ shellgameref13_Words.f k c0 c1 c2 c3 c4 c5 c6 c7 c8 n = some v := by
  obtain ⟨v, hv, hv'⟩ := Accesses_ref k hk c0 c1 c2 c3 c4 c5 c6 c7 c8 h4
  unfold config_Words.f shellgameref13_Words.f
  rw [right13_ref k (by omega) _ _ _ _ _ _ _ _ _ h4, cstore_eq, hv, hv']
  obtain ⟨o, ho, hr⟩ := right_tot c0 c1 c2 c3 c4 c5 c6 c7 c8
  rw [hr, Option.bind_some, Option.bind_some]
  cases o with
  | some p => exact ⟨0, rfl, rfl⟩
  | none =>
    obtain ⟨x, hs, hx⟩ := right_store ho
    have g := check_none ho
    have hW : store_Words.f x c5 c6 c7 = some (wrap64 (2 * c7)) := by
      unfold store_Words.f
      rw [hx, Option.bind_some, if_pos rfl]
    rw [hs]
    simp only [Option.isNone_none, if_true, Option.bind_some]
    rw [hW]
    simp only [Option.bind_some]
    have hz : ¬ c1 = 0 := by omega
    simp only [hz, if_false]
    exact ⟨_, rfl, rfl⟩
end
end ConfigChecksAid
open ConfigChecksAid
theorem ConfigChecks : shellgamelaw13_ConfigChecks.Pure := by
  intro c0 c1 c2 c3 c4 c5 c6 c7 c8 n _ _ _ _ w4 _ _ _ _ _
  have h4 : c4 < 9223372036854775808 := by have := bounds_i64 w4; omega
  obtain ⟨k, hk⟩ : ∃ k : Nat, 2100 ≤ k := ⟨2100, Nat.le_refl _⟩
  refine ⟨k, ?_⟩
  obtain ⟨o, ho, hw⟩ := why_some c0 c1 c2 c3 c4 c5 c6 c7 c8
  obtain ⟨s, hs, hs'⟩ := Store_ref k (by omega) c0 c1 c2 c3 c4 c5 c6 c7 c8 h4
  obtain ⟨a, ha, ha'⟩ := Accesses_ref k (by omega) c0 c1 c2 c3 c4 c5 c6 c7 c8 h4
  obtain ⟨c, hc, hc'⟩ := Cells_ref k (by omega) c0 c1 c2 c3 c4 c5 c6 c7 c8 h4
  obtain ⟨l, hl, hl', hn⟩ := Sizes_ref k (by omega) c0 c1 c2 c3 c4 c5 c6 c7 c8 h4
  obtain ⟨v, hv, hv'⟩ := Words_ref k (by omega) c0 c1 c2 c3 c4 c5 c6 c7 c8 h4 n
  have hq := why_ref k (by omega) c0 c1 c2 c3 c4 c5 c6 c7 c8 h4
  unfold shellgamelaw13_ConfigChecks.f shellgamelaw13_as.f
  simp only [Option.bind_some]
  rw [shown_true, hq, hw, hs, hs', ha, ha', hc, hc', hl, hl', hv, hv']
  simp only [Option.bind_some]
  rw [same_self l hn k (by omega)]
  simp
end Go.Proofs.YtpaafeaolodkjaaDoor.Pure
