/- A batch more of operations is one batch times an operation's words and one sweep more; counts are clipped. No condition. -/
import Derived.Test.YtpaafeaolodkjaaDoorPConfigBatchesx2
import Derived.Test.YtpaafeaolodkjaaDoorConfigFacts
import Derived.OpenShut
namespace Go.Proofs.YtpaafeaolodkjaaDoor.Pure
open Go.RowKit Go.Proofs.YtpaafeaolodkjaaDoor.Hand Go.Proofs.YtpaafeaolodkjaaDoor.PConfigBatches Go.Proofs.YtpaafeaolodkjaaDoorW.PrintWords Go.Proofs.YtpaafeaolodkjaaDoorW.PrintLast Go.Proofs.YtpaafeaolodkjaaDoorW.PrintMore
set_option linter.unusedVariables false

namespace ConfigBatchesAid
theorem levels_of {c0 c1 c2 c3 c4 c5 c6 c7 c8 : Int} (h : check.f c0 c1 c2 c3 c4 c5 c6 c7 c8 = some none) : config_Config_levels.f c0 c1 c2 c3 c4 c5 c6 c7 c8 = some 0 := by
  have g := check_none h
  unfold check.f at h
  rw [if_neg (by omega), if_neg (by omega), if_neg (by omega), if_neg (by omega), if_neg (by omega)] at h
  obtain ⟨t, _, h⟩ := Option.bind_eq_some_iff.mp h
  by_cases z : t = 0
  · rw [if_pos z] at h
    obtain ⟨m, hm, h⟩ := Option.bind_eq_some_iff.mp h
    by_cases y : m = 0
    · rw [hm, y]
    · rw [if_neg y] at h; exact absurd h (by simp)
  · rw [if_neg z] at h; exact absurd h (by simp)
theorem store_of {c0 c1 c2 c3 c4 c5 c6 c7 c8 : Int} (h : check.f c0 c1 c2 c3 c4 c5 c6 c7 c8 = some none) : ∃ x, PSizes.word_Round.f (wrap64 (wrap64 (2 * c4) + wrap64 (c0 + c1))) = some x ∧ store_Right.f x c5 c6 c7 = some true := by
  have l := levels_of h
  obtain ⟨x, hx, hs⟩ := tot_store c0 c1 c2 c3 c4 c5 c6 c7 c8
  refine ⟨x, hx, ?_⟩
  unfold config_Config_levels.f at l
  rw [hs, Option.bind_some] at l
  obtain ⟨r, hr, l⟩ := Option.bind_eq_some_iff.mp l
  cases r
  · simp at l
  · exact hr
theorem right_of {c0 c1 c2 c3 c4 c5 c6 c7 c8 : Int} (h : check.f c0 c1 c2 c3 c4 c5 c6 c7 c8 = some none) : config_Config_right.f c0 c1 c2 c3 c4 c5 c6 c7 c8 = some true := by
  unfold config_Config_right.f; rw [h]; rfl
theorem accesses_of {c0 c1 c2 c3 c4 c5 c6 c7 c8 : Int} (h : check.f c0 c1 c2 c3 c4 c5 c6 c7 c8 = some none) : config_Accesses.f c0 c1 c2 c3 c4 c5 c6 c7 c8 = some (2 * c2 + 5, c0 + c1 + 4 * c1) := by
  have g := check_none h
  unfold config_Accesses.f PConfigBatches.config_Config_cells.f
  rw [right_of h, Option.bind_some, if_pos rfl, Option.bind_some]
  have e1 : wrap64 (wrap64 (2 * c2) + 5) = 2 * c2 + 5 := by unfold wrap64; omega
  have e2 : wrap64 (wrap64 (c0 + c1) + wrap64 (4 * c1)) = c0 + c1 + 4 * c1 := by unfold wrap64; omega
  rw [e1, e2]
/-- The words of n operations, n clipped. -/
theorem words_of {c0 c1 c2 c3 c4 c5 c6 c7 c8 : Int} (h : check.f c0 c1 c2 c3 c4 c5 c6 c7 c8 = some none) (n N : Int) (hN : mx 0 (mn n 1048576) = N) (h0 : 0 ≤ N) (h1 : N ≤ 1048576) :
    config_Words.f c0 c1 c2 c3 c4 c5 c6 c7 c8 n = some (4 + 2 * c7 * (N * (2 * c2 + 5) + N / c1 * (c0 + c1 + 4 * c1))) := by
  have g := check_none h
  obtain ⟨x, hx, hr⟩ := store_of h
  have g7 := right_levels hr
  have q0 : 0 ≤ N / c1 := Int.ediv_nonneg h0 (by omega)
  have q1 : N / c1 ≤ N := Int.ediv_le_self _ h0
  have a0 : 0 ≤ N * (2 * c2 + 5) := Int.mul_nonneg h0 (by omega)
  have a1 : N * (2 * c2 + 5) ≤ 1048576 * 37 := Int.mul_le_mul h1 (by omega) (by omega) (by omega)
  have b0 : 0 ≤ N / c1 * (c0 + c1 + 4 * c1) := Int.mul_nonneg q0 (by omega)
  have b1 : N / c1 * (c0 + c1 + 4 * c1) ≤ 1048576 * 144 := Int.mul_le_mul (by omega) (by omega) (by omega) (by omega)
  have eq : wrap64 (N / c1) = N / c1 := by unfold wrap64; omega
  have ea : wrap64 (N * (2 * c2 + 5)) = N * (2 * c2 + 5) := by unfold wrap64; omega
  have eb : wrap64 (N / c1 * (c0 + c1 + 4 * c1)) = N / c1 * (c0 + c1 + 4 * c1) := by unfold wrap64; omega
  have es : wrap64 (N * (2 * c2 + 5) + N / c1 * (c0 + c1 + 4 * c1)) = N * (2 * c2 + 5) + N / c1 * (c0 + c1 + 4 * c1) := by unfold wrap64; omega
  have e7 : wrap64 (2 * c7) = 2 * c7 := by unfold wrap64; omega
  have m0 : 0 ≤ 2 * c7 * (N * (2 * c2 + 5) + N / c1 * (c0 + c1 + 4 * c1)) := Int.mul_nonneg (by omega) (by omega)
  have m1 : 2 * c7 * (N * (2 * c2 + 5) + N / c1 * (c0 + c1 + 4 * c1)) ≤ 8 * 189792256 := Int.mul_le_mul (by omega) (by omega) (by omega) (by omega)
  have em : wrap64 (2 * c7 * (N * (2 * c2 + 5) + N / c1 * (c0 + c1 + 4 * c1))) = 2 * c7 * (N * (2 * c2 + 5) + N / c1 * (c0 + c1 + 4 * c1)) := by unfold wrap64; omega
  have e4 : wrap64 (4 + 2 * c7 * (N * (2 * c2 + 5) + N / c1 * (c0 + c1 + 4 * c1))) = 4 + 2 * c7 * (N * (2 * c2 + 5) + N / c1 * (c0 + c1 + 4 * c1)) := by unfold wrap64; omega
  have hS : PConfigBatches.config_Config_store.f c0 c1 c2 c3 c4 c5 c6 c7 c8 = some (x, c5, c6, c7) := by
    unfold PConfigBatches.config_Config_store.f PConfigBatches.config_Config_cells.f
    rw [Option.bind_some, hx]; rfl
  have hW : store_Words.f x c5 c6 c7 = some (2 * c7) := by
    unfold store_Words.f
    rw [hr, Option.bind_some, if_pos rfl, e7]
  unfold config_Words.f
  rw [right_of h, Option.bind_some, if_pos rfl, accesses_of h, Option.bind_some, hS, Option.bind_some, hW, Option.bind_some, if_neg (by omega), hN]
  simp only [eq, ea, eb, es, em, e4]
theorem more {a L A B N q c1 : Int} (hq : (N + c1) / c1 = N / c1 + 1) : (4 + 2 * L * ((N + c1) * A + (N + c1) / c1 * B)) - (4 + 2 * L * (N * A + N / c1 * B)) = 2 * L * (c1 * A + B) := by
  rw [hq, Int.add_mul N c1 A, Int.add_mul (N / c1) 1 B, Int.one_mul]
  have e : N * A + c1 * A + (N / c1 * B + B) = (N * A + N / c1 * B) + (c1 * A + B) := by omega
  rw [e, Int.mul_add]
  omega
end ConfigBatchesAid
open ConfigBatchesAid
theorem ConfigBatches : shellgamelaw13_ConfigBatches.Pure := by
  intro c0 c1 c2 c3 c4 c5 c6 c7 c8 n _ _ _ _ _ _ _ _ _ _
  refine ⟨1, ?_⟩
  obtain ⟨o, ho, hw⟩ := why_some c0 c1 c2 c3 c4 c5 c6 c7 c8
  unfold shellgamelaw13_ConfigBatches.f
  rw [shown_true, hw, Option.bind_some, Option.bind_some, if_pos rfl]
  by_cases z : (whyR o).2 = 0
  · rw [if_pos z]
    obtain rfl := whyR_zero z
    have g := check_none ho
    by_cases p : n < 0
    · rw [if_pos p]; simp only [shellgamelaw13_ConfigBatches.j0, if_true]
    rw [if_neg p]
    by_cases q : n > 100000
    · rw [decide_eq_true q]; simp only [shellgamelaw13_ConfigBatches.j0, if_true]
    rw [decide_eq_false q]
    simp only [shellgamelaw13_ConfigBatches.j0, Bool.false_eq_true, if_false]
    have en : wrap64 (n + c1) = n + c1 := by unfold wrap64; omega
    obtain ⟨x, hx, hr⟩ := store_of ho
    have g7 := right_levels hr
    have w1 := words_of ho (n + c1) (n + c1) (by unfold mx mn; repeat' split <;> omega) (by omega) (by omega)
    have w2 := words_of ho n n (by unfold mx mn; repeat' split <;> omega) (by omega) (by omega)
    have w3 := words_of ho (-1) 0 (by decide) (by omega) (by omega)
    have w4 := words_of ho 0 0 (by decide) (by omega) (by omega)
    have w5 := words_of ho 2097152 1048576 (by decide) (by omega) (by omega)
    have w6 := words_of ho 1048576 1048576 (by decide) (by omega) (by omega)
    have hq : (n + c1) / c1 = n / c1 + 1 := by rw [Int.add_ediv_of_dvd_right (Int.dvd_refl c1), Int.ediv_self (by omega)]
    have hm := more (L := c7) (A := 2 * c2 + 5) (B := c0 + c1 + 4 * c1) (N := n) (c1 := c1) (a := 0) (q := 0) hq
    have a0 : 0 ≤ c1 * (2 * c2 + 5) := Int.mul_nonneg (by omega) (by omega)
    have a1 : c1 * (2 * c2 + 5) ≤ 16 * 37 := Int.mul_le_mul (by omega) (by omega) (by omega) (by omega)
    have ea : wrap64 (c1 * (2 * c2 + 5)) = c1 * (2 * c2 + 5) := by unfold wrap64; omega
    have eb : wrap64 (c1 * (2 * c2 + 5) + (c0 + c1 + 4 * c1)) = c1 * (2 * c2 + 5) + (c0 + c1 + 4 * c1) := by unfold wrap64; omega
    have e7 : wrap64 (2 * c7) = 2 * c7 := by unfold wrap64; omega
    have m0 : 0 ≤ 2 * c7 * (c1 * (2 * c2 + 5) + (c0 + c1 + 4 * c1)) := Int.mul_nonneg (by omega) (by omega)
    have m1 : 2 * c7 * (c1 * (2 * c2 + 5) + (c0 + c1 + 4 * c1)) ≤ 8 * 800 := Int.mul_le_mul (by omega) (by omega) (by omega) (by omega)
    have em : wrap64 (2 * c7 * (c1 * (2 * c2 + 5) + (c0 + c1 + 4 * c1))) = 2 * c7 * (c1 * (2 * c2 + 5) + (c0 + c1 + 4 * c1)) := by unfold wrap64; omega
    rw [accesses_of ho, Option.bind_some, en, w1, Option.bind_some, w2, Option.bind_some, w3, w4, w5, w6]
    simp only [Option.bind_some]
    rw [hm, ea, eb, e7, if_pos rfl]
    simp
  · rw [if_neg z]
    simp only [shellgamelaw13_ConfigBatches.j0, if_true]
end Go.Proofs.YtpaafeaolodkjaaDoor.Pure
