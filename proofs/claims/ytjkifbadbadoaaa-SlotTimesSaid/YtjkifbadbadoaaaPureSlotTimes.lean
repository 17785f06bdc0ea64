/- A time is over from its end on, for all times behind it; one without an end never is; one that is not used never is. No condition. -/
import Derived.Test.YtjkifbadbadoaaaPSlotTimesx
import Derived.Test.YtjkifbadbadoaaaWordFacts
import Derived.OpenShut
namespace Go.Proofs.Ytjkifbadbadoaaa.Pure
open Go.RowKit Go.Proofs.Ytjkifbadbadoaaa.Hand Go.Proofs.Ytjkifbadbadoaaa.PSlotTimes Go.Proofs.YtjkifbadbadoaaaW.PrintWords Go.Proofs.YtjkifbadbadoaaaW.PrintLast Go.Proofs.YtjkifbadbadoaaaW.PrintMore
set_option linter.unusedVariables false

namespace SlotTimesAid
theorem shown_true : ∀ k, shellgamelaw15_shown.f (k + 4) = some true := by
  intro k
  induction k with
  | zero => decide +kernel
  | succ k ih => exact shellgamelaw15_shown.mono (k + 4) _ ih
theorem exp_eq (u : Bool) (a b U c d e t : Int) : slot_Expired.f u a b U c d e t = some (u && (decide (U > 0) && decide (U ≤ t))) := by
  unfold slot_Expired.f
  cases u
  · rfl
  · by_cases h : U > 0
    · rw [if_pos rfl, if_pos h, decide_eq_true h]; rfl
    · rw [if_pos rfl, if_neg h, decide_eq_false h]; rfl
end SlotTimesAid
open SlotTimesAid

theorem SlotTimes : shellgamelaw15_SlotTimes.Pure := by
  intro u key value U rank uses next a b _ _ hU _ _ _ ha hb
  have bU := bounds_u64 hU
  have ba := bounds_u64 ha
  have bb := bounds_u64 hb
  refine ⟨4, ?_⟩
  unfold shellgamelaw15_SlotTimes.f
  rw [shown_true 0]
  simp only [exp_eq, Option.bind_some, if_true]
  have e0 : decide ((0 : Int) > 0) = false := by decide
  have hm : U ≤ mn a b → U ≤ mx a b := by
    unfold mn mx
    split <;> split <;> omega
  rw [e0]
  simp only [Bool.false_and, Bool.and_false, Bool.false_eq_true, if_false, Bool.true_and]
  have hlast : (if a > 0 then (some ((decide (a > 0) && decide (a ≤ b)) == decide (b ≥ a))) else (some ((decide (a > 0) && decide (a ≤ b)) == false))) = some true := by
    by_cases h : a > 0
    · rw [if_pos h, decide_eq_true h]
      by_cases h2 : a ≤ b
      · rw [decide_eq_true h2]; rfl
      · rw [decide_eq_false h2]; rfl
    · rw [if_neg h, decide_eq_false h]; rfl
  rw [hlast]
  by_cases c1 : (u && (decide (U > 0) && decide (U ≤ mn a b))) = true
  · rw [if_pos c1]
    have c2 : (u && (decide (U > 0) && decide (U ≤ mx a b))) = true := by
      simp only [Bool.and_eq_true, decide_eq_true_eq] at c1 ⊢
      exact ⟨c1.1, c1.2.1, hm c1.2.2⟩
    rw [if_pos c2]
  · rw [if_neg c1]
end Go.Proofs.Ytjkifbadbadoaaa.Pure
