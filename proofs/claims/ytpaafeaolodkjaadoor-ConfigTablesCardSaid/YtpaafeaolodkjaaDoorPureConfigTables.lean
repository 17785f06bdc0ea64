/- The table is told out of range, no power of two, too small, in this order; with room it is right and the store gets room. No condition. -/
import Derived.Test.YtpaafeaolodkjaaDoorPConfigTablesx1
import Derived.Test.YtpaafeaolodkjaaDoorConfigFacts
import Derived.OpenShut
namespace Go.Proofs.YtpaafeaolodkjaaDoor.Pure
open Go.RowKit Go.Proofs.YtpaafeaolodkjaaDoor.Hand Go.Proofs.YtpaafeaolodkjaaDoor.PConfigTables Go.Proofs.YtpaafeaolodkjaaDoorW.PrintWords Go.Proofs.YtpaafeaolodkjaaDoorW.PrintLast Go.Proofs.YtpaafeaolodkjaaDoorW.PrintMore
set_option linter.unusedVariables false

namespace ConfigTablesAid
def tb : ByteArray := ⟨#[84, 97, 98, 108, 101]⟩
def rr (m : Int) : Bool := match PSizes.word_Round.f m with | some r => decide (m ≤ r) && decide (r < 2 * m) && ([4, 8, 16, 32, 64, 128, 256, 512] : List Int).contains r | none => false
def okR (r : Int) : Bool := (store_Right.f r 1 4 1 == some true) && (match PStSizes.store_Sizes.f 10 r 1 4 1 with | some l => decide (l ≠ []) && decide (l.length ≤ 1000) && !(l.any fun n => decide (4096 < n)) | none => false)
theorem tbL : tb.toList = ([84, 97, 98, 108, 101] : List UInt8) := by decide +kernel
theorem emL : (⟨#[]⟩ : ByteArray).toList = ([] : List UInt8) := by decide +kernel
theorem rr_all : ∀ n : Fin 340, rr ((n.val : Int) + 4) = true := by decide +kernel
theorem okR_all : ∀ r ∈ ([4, 8, 16, 32, 64, 128, 256, 512] : List Int), okR r = true := by decide +kernel
theorem pow_all : ∀ n : Fin 128, (PSizes.word_Round.f ((n.val : Int) + 1)).map (fun r => decide (r = (n.val : Int) + 1)) = some (decide ((Go.bits .and .i64 ((n.val : Int) + 1) (wrap64 ((n.val : Int) + 1 - 1))) = 0)) := by decide +kernel
theorem rr_at {m : Int} (h : 4 ≤ m ∧ m < 344) : ∃ r, PSizes.word_Round.f m = some r ∧ m ≤ r ∧ r < 2 * m ∧ r ∈ ([4, 8, 16, 32, 64, 128, 256, 512] : List Int) := by
  have k := rr_all ⟨(m - 4).toNat, by omega⟩
  have e : (((⟨(m - 4).toNat, by omega⟩ : Fin 340).val : Nat) : Int) + 4 = m := by simp only; omega
  rw [e] at k
  unfold rr at k
  split at k
  · next r hr =>
    simp only [Bool.and_eq_true, decide_eq_true_eq, List.contains_iff_mem] at k
    exact ⟨r, hr, k.1.1, k.1.2, k.2⟩
  · exact absurd k (by decide)
theorem pow_at {m : Int} (h : 1 ≤ m ∧ m ≤ 128) : ∃ r, PSizes.word_Round.f m = some r ∧ (r = m ↔ (Go.bits .and .i64 m (wrap64 (m - 1))) = 0) := by
  have k := pow_all ⟨(m - 1).toNat, by omega⟩
  have e : (((⟨(m - 1).toNat, by omega⟩ : Fin 128).val : Nat) : Int) + 1 = m := by simp only; omega
  rw [e] at k
  obtain ⟨r, hr, k⟩ := Option.map_eq_some_iff.mp k
  exact ⟨r, hr, by simpa using k⟩
theorem okR_at {r : Int} (h : r ∈ ([4, 8, 16, 32, 64, 128, 256, 512] : List Int)) : store_Right.f r 1 4 1 = some true ∧ ∃ l, PStSizes.store_Sizes.f 10 r 1 4 1 = some l ∧ (l ≠ [] ∧ l.length ≤ 1000) ∧ (l.any fun n => decide (4096 < n)) = false := by
  have k := okR_all r h
  unfold okR at k
  rw [Bool.and_eq_true] at k
  refine ⟨by simpa using k.1, ?_⟩
  have k2 := k.2
  split at k2
  · next l hl =>
    simp only [Bool.and_eq_true, decide_eq_true_eq, Bool.not_eq_true'] at k2
    exact ⟨l, hl, k2.1, k2.2⟩
  · exact absurd k2 (by decide)
theorem table_f {a0 a1 a2 : Int} (h0 : 1 ≤ a0 ∧ a0 ≤ 64) (h1 : 1 ≤ a1 ∧ a1 ≤ 16) : Ptable.config_Config_table.f 10 a0 a1 1 1 a2 1 4 1 0 = some (if a2 < 1 ∨ 128 < a2 then 2 else if (Go.bits .and .i64 a2 (wrap64 (a2 - 1))) = 0 then (if a2 < a0 + a1 then 4 else 0) else 3) := by
  unfold Ptable.config_Config_table.f
  by_cases p : a2 < 1
  · rw [if_pos p, if_pos (Or.inl p)]; simp only [Ptable.config_Config_table.j0, if_true]
  rw [if_neg p]
  by_cases q : a2 > 128
  · rw [decide_eq_true q, if_pos (Or.inr q)]; simp only [Ptable.config_Config_table.j0, if_true]
  rw [decide_eq_false q, if_neg (by omega)]
  simp only [Ptable.config_Config_table.j0, Bool.false_eq_true, if_false]
  obtain ⟨r, hr, hi⟩ := pow_at (m := a2) (by omega)
  have es : wrap64 (a0 + a1) = a0 + a1 := by unfold wrap64; omega
  rw [hr, Option.bind_some]
  by_cases b : (Go.bits .and .i64 a2 (wrap64 (a2 - 1))) = 0
  · rw [if_pos (hi.mpr b), if_pos b]
    unfold Ptable.config_Config_cells.f
    rw [Option.bind_some, es]
    split <;> rfl
  · rw [if_neg (fun x => b (hi.mp x)), if_neg b]
theorem levels_f {a0 a1 a2 : Int} (h0 : 1 ≤ a0 ∧ a0 ≤ 64) (h1 : 1 ≤ a1 ∧ a1 ≤ 16) (h2 : 1 ≤ a2 ∧ a2 ≤ 128) : config_Config_levels.f a0 a1 1 1 a2 1 4 1 0 = some 0 := by
  have es : wrap64 (a0 + a1) = a0 + a1 := by unfold wrap64; omega
  have e2 : wrap64 (2 * a2) = 2 * a2 := by unfold wrap64; omega
  have e3 : wrap64 (2 * a2 + (a0 + a1)) = 2 * a2 + (a0 + a1) := by unfold wrap64; omega
  obtain ⟨r, hr, hs⟩ := tot_store a0 a1 1 1 a2 1 4 1 0
  rw [e2, es, e3] at hr
  obtain ⟨r', hr', _, _, hm⟩ := rr_at (m := 2 * a2 + (a0 + a1)) (by omega)
  obtain rfl := Option.some.inj (hr.symm.trans hr')
  obtain ⟨k1, l, k2, k3, k4⟩ := okR_at hm
  unfold config_Config_levels.f
  rw [hs, Option.bind_some]
  simp only [k1, Option.bind_some, if_true, k2]
  rw [if_pos k3, k4]
  rfl
theorem why_f {a0 a1 a2 : Int} (h0 : 1 ≤ a0 ∧ a0 ≤ 64) (h1 : 1 ≤ a1 ∧ a1 ≤ 16) : config_Why.f a0 a1 1 1 a2 1 4 1 0 = some (if a2 < 1 ∨ 128 < a2 then (tb, 2) else if (Go.bits .and .i64 a2 (wrap64 (a2 - 1))) = 0 then (if a2 < a0 + a1 then (tb, 4) else (⟨#[]⟩, 0)) else (tb, 3)) ∧
    (¬ (a2 < 1 ∨ 128 < a2) → (Go.bits .and .i64 a2 (wrap64 (a2 - 1))) = 0 → ¬ a2 < a0 + a1 → config_Config_right.f a0 a1 1 1 a2 1 4 1 0 = some true) := by
  unfold config_Why.f config_Config_right.f check.f
  rw [if_neg (by omega), if_neg (by omega), if_neg (by omega), if_neg (by omega), if_neg (by omega), table_f h0 h1, Option.bind_some]
  by_cases p : a2 < 1 ∨ 128 < a2
  · simp only [if_pos p]
    exact ⟨rfl, fun x => absurd p x⟩
  simp only [if_neg p]
  by_cases b : (Go.bits .and .i64 a2 (wrap64 (a2 - 1))) = 0
  · simp only [if_pos b]
    by_cases c : a2 < a0 + a1
    · simp only [if_pos c]
      exact ⟨rfl, fun _ _ x => absurd c x⟩
    · simp only [if_neg c, if_true, levels_f h0 h1 (by omega : 1 ≤ a2 ∧ a2 ≤ 128), Option.bind_some]
      exact ⟨rfl, fun _ _ _ => rfl⟩
  · simp only [if_neg b]
    exact ⟨rfl, fun _ x => absurd x b⟩
end ConfigTablesAid
open ConfigTablesAid
theorem ConfigTables : shellgamelaw13_ConfigTables.Pure := by
  intro a0 a1 a2 _ _ _
  refine ⟨2, ?_⟩
  unfold shellgamelaw13_ConfigTables.f
  rw [shown_true, Option.bind_some, if_pos rfl]
  by_cases p0 : a0 < 1
  · rw [if_pos p0]; simp only [shellgamelaw13_ConfigTables.j0, if_true]
  rw [if_neg p0]
  by_cases p1 : a0 > 64
  · rw [if_pos p1]; simp only [shellgamelaw13_ConfigTables.j0, if_true]
  rw [if_neg p1]
  by_cases p2 : a1 < 1
  · rw [if_pos p2]; simp only [shellgamelaw13_ConfigTables.j0, if_true]
  rw [if_neg p2]
  by_cases p3 : a1 > 16
  · rw [decide_eq_true p3]; simp only [shellgamelaw13_ConfigTables.j0, if_true]
  rw [decide_eq_false p3]
  simp only [shellgamelaw13_ConfigTables.j0, Bool.false_eq_true, if_false]
  obtain ⟨hw, hr⟩ := why_f (a2 := a2) (by omega : 1 ≤ a0 ∧ a0 ≤ 64) (by omega : 1 ≤ a1 ∧ a1 ≤ 16)
  rw [hw, Option.bind_some]
  have es : wrap64 (a0 + a1) = a0 + a1 := by unfold wrap64; omega
  by_cases q0 : a2 < 1
  · rw [if_pos q0, if_pos (Or.inl q0)]; simp only [shellgamelaw13_ConfigTables.j1, tbL, if_true]; rfl
  rw [if_neg q0]
  by_cases q1 : a2 > 128
  · rw [decide_eq_true q1, if_pos (Or.inr q1)]; simp only [shellgamelaw13_ConfigTables.j1, tbL, if_true]; rfl
  rw [decide_eq_false q1, if_neg (by omega : ¬ (a2 < 1 ∨ 128 < a2))]
  simp only [shellgamelaw13_ConfigTables.j1, Bool.false_eq_true, if_false]
  by_cases b : (Go.bits .and .i64 a2 (wrap64 (a2 - 1))) = 0
  · simp only [if_pos b, es]
    by_cases c : a2 < a0 + a1
    · simp only [if_pos c, tbL, if_true]; rfl
    · simp only [if_neg c]
      have hR := hr (by omega) b c
      have e2 : wrap64 (2 * a2) = 2 * a2 := by unfold wrap64; omega
      have e3 : wrap64 (2 * a2 + (a0 + a1)) = 2 * a2 + (a0 + a1) := by unfold wrap64; omega
      have e4 : wrap64 (2 * a2 + a0) = 2 * a2 + a0 := by unfold wrap64; omega
      have e5 : wrap64 (2 * a2 + a0 + a1) = 2 * a2 + a0 + a1 := by unfold wrap64; omega
      have e6 : wrap64 (2 * (2 * a2 + a0 + a1)) = 2 * (2 * a2 + a0 + a1) := by unfold wrap64; omega
      obtain ⟨r, k1, k2, k3, _⟩ := rr_at (m := 2 * a2 + (a0 + a1)) (by omega)
      have hS : config_Store.f a0 a1 1 1 a2 1 4 1 0 = some (r, 1, 4, 1) := by
        unfold config_Store.f PConfigTables.config_Config_store.f PConfigTables.config_Config_cells.f
        rw [hR, Option.bind_some, if_pos rfl, Option.bind_some, es, e2, e3, k1]; rfl
      have hC : config_Cells.f a0 a1 1 1 a2 1 4 1 0 = some (a0 + a1) := by
        unfold config_Cells.f PConfigTables.config_Config_cells.f
        rw [hR, Option.bind_some, if_pos rfl, Option.bind_some, es]
      rw [hS, Option.bind_some]
      simp only [e2, e4, e5, e6, hC, Option.bind_some, if_true]
      rw [if_pos emL, if_pos (by omega), if_pos (by omega)]
      simp
  · simp only [if_neg b, tbL, if_true]; rfl
end Go.Proofs.YtpaafeaolodkjaaDoor.Pure
