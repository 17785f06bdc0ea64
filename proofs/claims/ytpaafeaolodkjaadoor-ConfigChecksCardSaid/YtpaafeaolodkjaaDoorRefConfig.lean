/- The references of chapter 13 answer as the program does, and each answer is there: plain laws. -/
import Derived.Test.YtpaafeaolodkjaaDoorRefChecks
namespace Go.Proofs.YtpaafeaolodkjaaDoor.RefChecks
open Go.RowKit Go.Proofs.YtpaafeaolodkjaaDoor.Hand Go.Proofs.YtpaafeaolodkjaaDoor.PConfigChecks Go.Proofs.YtpaafeaolodkjaaDoorW.PrintWords Go.Proofs.YtpaafeaolodkjaaDoorW.PrintLast Go.Proofs.YtpaafeaolodkjaaDoorW.PrintMore
set_option linter.unusedVariables false

theorem out_ref (a l h : Int) : shellgameref13_out.f a l h = some (decide (a < l ∨ h < a)) := by
  unfold shellgameref13_out.f
  by_cases c : a < l
  · rw [if_pos c, decide_eq_true (Or.inl c)]
  · rw [if_neg c]
    by_cases d : a > h
    · rw [decide_eq_true d, decide_eq_true (Or.inr d)]
    · rw [decide_eq_false d, decide_eq_false (by omega)]
theorem table_ref (k : Nat) (hk : 70 ≤ k) (c0 c1 c2 c3 c4 c5 c6 c7 c8 : Int) (h4 : c4 < 9223372036854775808) : shellgameref13_table.f k c0 c1 c2 c3 c4 c5 c6 c7 c8 = Ptable.config_Config_table.f 10 c0 c1 c2 c3 c4 c5 c6 c7 c8 := by
  unfold shellgameref13_table.f Ptable.config_Config_table.f
  rw [out_ref, Option.bind_some, round_ref k hk c4 h4]
  by_cases c : c4 < 1
  · rw [if_pos c, if_pos (decide_eq_true (Or.inl c))]
    simp only [Ptable.config_Config_table.j0, if_true]
  · rw [if_neg c]
    by_cases d : c4 > 128
    · rw [decide_eq_true d, if_pos (decide_eq_true (Or.inr d))]
      simp only [Ptable.config_Config_table.j0, if_true]
    · rw [decide_eq_false d, if_neg (by simp; omega)]
      simp only [Ptable.config_Config_table.j0, Bool.false_eq_true, if_false, Ptable.config_Config_cells.f, Option.bind_some]
theorem tot_table4 {c0 c1 c2 c3 c4 c5 c6 c7 c8 t : Int} (h : Ptable.config_Config_table.f 10 c0 c1 c2 c3 c4 c5 c6 c7 c8 = some t) : t = 0 ∨ t = 2 ∨ t = 3 ∨ t = 4 := by
  have go : ∀ b : Bool, Ptable.config_Config_table.j0 10 b c0 c1 c2 c3 c4 c5 c6 c7 c8 = some t → t = 0 ∨ t = 2 ∨ t = 3 ∨ t = 4 := by
    intro b h
    simp only [Ptable.config_Config_table.j0] at h
    cases b with
    | true =>
      rw [if_pos rfl] at h
      have := Option.some.inj h
      omega
    | false =>
      rw [if_neg (by decide)] at h
      obtain ⟨r, hr⟩ := tot_round c4
      rw [hr, Option.bind_some] at h
      unfold Ptable.config_Config_cells.f at h
      by_cases c : r = c4
      · rw [if_pos c, Option.bind_some] at h
        by_cases d : c4 < wrap64 (c0 + c1)
        · rw [if_pos d] at h
          have := Option.some.inj h
          omega
        · rw [if_neg d] at h
          have := Option.some.inj h
          omega
      · rw [if_neg c] at h
        have := Option.some.inj h
        omega
  unfold Ptable.config_Config_table.f at h
  by_cases c : c4 < 1
  · rw [if_pos c] at h; exact go _ h
  · rw [if_neg c] at h; exact go _ h
theorem sum_ref (a b c : Int) : wrap64 (wrap64 (a + b) + c) = wrap64 (a + wrap64 (b + c)) := by unfold wrap64; omega
theorem store_ref (k : Nat) (hk : 70 ≤ k) (c0 c1 c2 c3 c4 c5 c6 c7 c8 : Int) : shellgameref13_store.f k c0 c1 c2 c3 c4 c5 c6 c7 c8 = Pstore.config_Config_store.f c0 c1 c2 c3 c4 c5 c6 c7 c8 := by
  unfold shellgameref13_store.f Pstore.config_Config_store.f Pstore.config_Config_cells.f
  rw [Option.bind_some, sum_ref, round_ref k hk _ (wrap_lt _)]
theorem cstore_eq (c0 c1 c2 c3 c4 c5 c6 c7 c8 : Int) : PConfigChecks.config_Config_store.f c0 c1 c2 c3 c4 c5 c6 c7 c8 = Pstore.config_Config_store.f c0 c1 c2 c3 c4 c5 c6 c7 c8 := rfl
theorem why_loop (l : List Int) (hl : l.length ≤ 1000) : ∀ (d k i : Nat), i + d = l.length → d < k → shellgameref13_Why.l0 k l (i : Int) = some (if ((l.drop i).any fun n => decide (4096 < n)) = true then ((⟨#[76, 101, 118, 101, 108, 115]⟩ : ByteArray), 1) else ((⟨#[]⟩ : ByteArray), 0)) := by
  intro d
  induction d with
  | zero =>
    intro k i hi hk
    obtain ⟨k, rfl⟩ : ∃ q, k = q + 1 := ⟨k - 1, by omega⟩
    obtain rfl : i = l.length := by omega
    simp only [shellgameref13_Why.l0]
    rw [if_neg (by omega), List.drop_length]
    rfl
  | succ d ih =>
    intro k i hi hk
    obtain ⟨k, rfl⟩ : ∃ q, k = q + 1 := ⟨k - 1, by omega⟩
    have hi' : i < l.length := by omega
    have e : wrap64 ((i : Int) + 1) = ((i + 1 : Nat) : Int) := by unfold wrap64; omega
    have hr : rd l (i : Int) = l[i] := by
      unfold rd
      rw [Int.toNat_natCast, List.getD_eq_getElem?_getD, List.getElem?_eq_getElem hi']
      rfl
    simp only [shellgameref13_Why.l0]
    rw [if_pos (by omega), if_pos (by omega), hr, e, ih k (i + 1) (by omega) (by omega), List.drop_eq_getElem_cons hi', List.any_cons]
    by_cases c : l[i] > 4096
    · rw [if_pos c, decide_eq_true (show 4096 < l[i] from c)]; rfl
    · rw [if_neg c, decide_eq_false (show ¬ 4096 < l[i] from c), Bool.false_or]
theorem why_ref (k : Nat) (hk : 1100 ≤ k) (c0 c1 c2 c3 c4 c5 c6 c7 c8 : Int) (h4 : c4 < 9223372036854775808) : shellgameref13_Why.f k c0 c1 c2 c3 c4 c5 c6 c7 c8 = config_Why.f c0 c1 c2 c3 c4 c5 c6 c7 c8 := by
  unfold shellgameref13_Why.f config_Why.f check.f
  simp only [out_ref, Option.bind_some, decide_eq_true_eq]
  by_cases x0 : c0 < 1 ∨ 64 < c0
  · rw [if_pos x0, if_pos x0]; rfl
  rw [if_neg x0, if_neg x0]
  by_cases x1 : c1 < 1 ∨ 16 < c1
  · rw [if_pos x1, if_pos x1]; rfl
  rw [if_neg x1, if_neg x1]
  by_cases x2 : c2 < 1 ∨ 16 < c2
  · rw [if_pos x2, if_pos x2]; rfl
  rw [if_neg x2, if_neg x2]
  by_cases x3 : c3 < 1 ∨ 32 < c3
  · rw [if_pos x3, if_pos x3]; rfl
  rw [if_neg x3, if_neg x3]
  by_cases x4 : c8 < 0 ∨ 2 < c8
  · rw [if_pos x4, if_pos x4]; rfl
  rw [if_neg x4, if_neg x4, table_ref k (by omega) _ _ _ _ _ _ _ _ _ h4]
  obtain ⟨t, ht⟩ := tot_ctable c0 c1 c2 c3 c4 c5 c6 c7 c8
  have h4 := tot_table4 ht
  rw [ht, Option.bind_some, Option.bind_some]
  by_cases z : t = 0
  · rw [if_pos z, if_pos z]
    unfold config_Config_levels.f
    rw [store_ref k (by omega)]
    obtain ⟨x, _, hs⟩ := tot_store c0 c1 c2 c3 c4 c5 c6 c7 c8
    rw [hs]
    simp only [Option.bind_some]
    rw [right11_ref k (by omega)]
    cases hr : store_Right.f x c5 c6 c7 with
    | none => exact absurd hr (by unfold store_Right.f; simp)
    | some r =>
      rw [Option.bind_some, Option.bind_some]
      cases r with
      | false => rfl
      | true =>
        obtain ⟨l, hl, h1, h2⟩ := tot_sizes hr
        rw [if_pos rfl, if_pos rfl, sizes11_ref k (by omega), hl]
        have hl' : PStSizes.store_Sizes.f k x c5 c6 c7 = some l := at_rounds (g := fun k => PStSizes.store_Sizes.f k x c5 c6 c7) (fun k => PStSizes.store_Sizes.mono x c5 c6 c7 k) (by omega) hl
        rw [hl']
        simp only [Option.bind_some]
        rw [if_pos ⟨h1, h2⟩]
        have := why_loop l h2 l.length k 0 (by omega) (by omega)
        rw [show ((0 : Nat) : Int) = 0 from rfl] at this
        rw [this, List.drop_zero, Option.bind_some]
        cases (l.any fun n => decide (4096 < n)) <;> rfl
  · rw [if_neg z, if_neg z, Option.bind_some]
    unfold whyR
    rcases h4 with h | rfl | rfl | rfl
    · exact absurd h z
    · rfl
    · rfl
    · rfl
theorem right13_ref (k : Nat) (hk : 1100 ≤ k) (c0 c1 c2 c3 c4 c5 c6 c7 c8 : Int) (h4 : c4 < 9223372036854775808) : shellgameref13_Right.f k c0 c1 c2 c3 c4 c5 c6 c7 c8 = config_Config_right.f c0 c1 c2 c3 c4 c5 c6 c7 c8 := by
  unfold shellgameref13_Right.f config_Config_right.f
  rw [why_ref k hk _ _ _ _ _ _ _ _ _ h4]
  obtain ⟨o, ho, hw⟩ := why_some c0 c1 c2 c3 c4 c5 c6 c7 c8
  rw [ho, hw, Option.bind_some, Option.bind_some]
  cases o with
  | none => rfl
  | some p =>
    have : ¬ (whyR (some p)).2 = 0 := fun h => by have := whyR_zero h; cases this
    rw [beq_eq_false_iff_ne.mpr this]
    rfl
end Go.Proofs.YtpaafeaolodkjaaDoor.RefChecks
