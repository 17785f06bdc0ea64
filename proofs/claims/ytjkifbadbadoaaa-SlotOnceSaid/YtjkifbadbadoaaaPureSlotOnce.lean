/- Two slots that are right and unlike are unlike blocks; one that is not used says nothing but which one is free next. No condition. -/
import Derived.Test.YtjkifbadbadoaaaPSlotOncex
import Derived.Test.YtjkifbadbadoaaaWordFacts
import Derived.OpenShut
namespace Go.Proofs.Ytjkifbadbadoaaa.Pure
open Go.RowKit Go.Proofs.Ytjkifbadbadoaaa.Hand Go.Proofs.Ytjkifbadbadoaaa.PSlotOnce Go.Proofs.YtjkifbadbadoaaaW.PrintWords Go.Proofs.YtjkifbadbadoaaaW.PrintLast Go.Proofs.YtjkifbadbadoaaaW.PrintMore
set_option linter.unusedVariables false

namespace SlotOnceAid
theorem shown_true : ∀ k, shellgamelaw15_shown.f (k + 4) = some true := by
  intro k
  induction k with
  | zero => decide +kernel
  | succ k ih => exact shellgamelaw15_shown.mono (k + 4) _ ih
def wfu (n : Int) : Prop := 0 ≤ n ∧ n ≤ 18446744073709551615
theorem pr_eq (n : Int) (h : wfu n) : pack_Right.f n = some (rightB n) := by unfold pack_Right.f; rw [if_pos h.1, if_pos h.2]
/-- is a slot right? -/
def RightN (u : Bool) (key value until_ rank uses next : Int) : Bool := if u = true then rightB key && (rightB value && (next == 0)) else (key == 0 && (value == 0 && (until_ == 0 && (rank == 0 && (uses == 0))))) && (decide (next ≥ 0) && decide (next ≤ 2147483648))
theorem right_eq (u : Bool) (key value until_ rank uses next : Int) (hk : wfu key) (hv : wfu value) : slot_Right.f u key value until_ rank uses next = some (RightN u key value until_ rank uses next) := by
  unfold slot_Right.f RightN
  rw [pr_eq key hk, pr_eq value hv]
  generalize rightB key = a
  generalize rightB value = b
  cases u
  · rw [if_neg Bool.false_ne_true, if_neg Bool.false_ne_true]
    have e : (!false && (key == 0 && (value == 0 && (until_ == 0 && (rank == 0 && (uses == 0)))))) = (key == 0 && (value == 0 && (until_ == 0 && (rank == 0 && (uses == 0))))) := rfl
    rw [e]
    generalize (key == 0 && (value == 0 && (until_ == 0 && (rank == 0 && (uses == 0))))) = c
    cases c
    · rfl
    · rw [if_pos rfl]
      by_cases h : next ≥ 0
      · rw [if_pos h, decide_eq_true h]; rfl
      · rw [if_neg h, decide_eq_false h]; rfl
  · rw [if_pos rfl, if_pos rfl]
    cases a <;> cases b <;> rfl
theorem right_used {key value until_ rank uses next : Int} (h : RightN true key value until_ rank uses next = true) : rightB key = true ∧ rightB value = true ∧ next = 0 := by
  unfold RightN at h
  rw [if_pos rfl] at h
  simp only [Bool.and_eq_true, beq_iff_eq] at h
  exact h
theorem right_free {key value until_ rank uses next : Int} (h : RightN false key value until_ rank uses next = true) : key = 0 ∧ value = 0 ∧ until_ = 0 ∧ rank = 0 ∧ uses = 0 ∧ 0 ≤ next ∧ next ≤ 2147483648 := by
  unfold RightN at h
  rw [if_neg (by decide)] at h
  simp only [Bool.and_eq_true, beq_iff_eq, decide_eq_true_eq] at h
  exact ⟨h.1.1, h.1.2.1, h.1.2.2.1, h.1.2.2.2.1, h.1.2.2.2.2, h.2.1, h.2.2⟩
theorem right_next {u : Bool} {key value until_ rank uses next : Int} (h : RightN u key value until_ rank uses next = true) : 0 ≤ next ∧ next ≤ 2147483648 := by
  cases u
  · have := right_free h; omega
  · have := right_used h; omega
/-- the first word of a block -/
def b2i (u : Bool) : Int := if u = true then 1 else 0
theorem b2i_pos (u : Bool) : decide (b2i u > 0) = u := by cases u <;> rfl
theorem data_yes (u : Bool) (key value until_ rank uses next : Int) (hk : wfu key) (hv : wfu value) (h : RightN u key value until_ rank uses next = true) :
    slot_Data.f u key value until_ rank uses next = some (b2i u, key, value, until_, rank, uses, next, 0) := by
  unfold slot_Data.f
  have hn := right_next h
  rw [right_eq _ _ _ _ _ _ _ hk hv, Option.bind_some, if_pos h]
  have e : IntKind.u64.wrap next = next := by rw [IntKind.wrap_u64]; omega
  rw [e]
  cases u <;> rfl
theorem data_no (u : Bool) (key value until_ rank uses next : Int) (hk : wfu key) (hv : wfu value) (h : RightN u key value until_ rank uses next = false) :
    slot_Data.f u key value until_ rank uses next = some (0, 0, 0, 0, 0, 0, 0, 0) := by
  unfold slot_Data.f
  rw [right_eq _ _ _ _ _ _ _ hk hv, Option.bind_some, if_neg (by rw [h]; decide)]
end SlotOnceAid
open SlotOnceAid

theorem b2i_inj (u v : Bool) : (b2i u == b2i v) = (u == v) := by cases u <;> cases v <;> rfl
theorem last_true (k : Nat) (u : Bool) (key value until_ rank uses next : Int) (hk : wfu key) (hv : wfu value) (h : RightN u key value until_ rank uses next = true) :
    shellgamelaw15_SlotOnce.j0 (k + 1) false u key value until_ rank uses next (b2i u) key value until_ rank uses next 0 = some true := by
  simp only [shellgamelaw15_SlotOnce.j0, Bool.false_eq_true, if_false]
  rw [right_eq _ _ _ _ _ _ _ hk hv, Option.bind_some, if_pos h]
  cases u
  · rw [if_neg (by decide)]
    have hf := right_free h
    obtain ⟨rfl, rfl, rfl, rfl, rfl, h0, h1⟩ := hf
    have e : IntKind.u64.wrap next = next := by rw [IntKind.wrap_u64]; omega
    rw [e]
    simp [b2i]
  · rw [if_pos (show b2i true = 1 from rfl), if_pos (right_used h).2.2, if_pos trivial, if_pos rfl]
theorem last_false (k : Nat) (u : Bool) (key value until_ rank uses next : Int) (hk : wfu key) (hv : wfu value) (h : RightN u key value until_ rank uses next = false) :
    shellgamelaw15_SlotOnce.j0 (k + 1) false u key value until_ rank uses next 0 0 0 0 0 0 0 0 = some true := by
  simp only [shellgamelaw15_SlotOnce.j0, Bool.false_eq_true, if_false]
  rw [right_eq _ _ _ _ _ _ _ hk hv, Option.bind_some, if_neg (by rw [h]; decide)]
  rfl
theorem SlotOnce : shellgamelaw15_SlotOnce.Pure := by
  intro u key value until_ rank uses next u' key' value' until' rank' uses' next' hk hv _ _ _ _ hk' hv' _ _ _ _
  have bk : wfu key := bounds_u64 hk
  have bv : wfu value := bounds_u64 hv
  have bk' : wfu key' := bounds_u64 hk'
  have bv' : wfu value' := bounds_u64 hv'
  refine ⟨4, ?_⟩
  unfold shellgamelaw15_SlotOnce.f
  rw [shown_true 0, Option.bind_some, right_eq _ _ _ _ _ _ _ bk bv, right_eq _ _ _ _ _ _ _ bk' bv']
  cases hr : RightN u key value until_ rank uses next
  · rw [data_no _ _ _ _ _ _ _ bk bv hr, Option.bind_some]
    obtain ⟨d, hd⟩ : ∃ d, slot_Data.f u' key' value' until' rank' uses' next' = some d := by
      cases hr' : RightN u' key' value' until' rank' uses' next'
      · exact ⟨_, data_no _ _ _ _ _ _ _ bk' bv' hr'⟩
      · exact ⟨_, data_yes _ _ _ _ _ _ _ bk' bv' hr'⟩
    rw [hd, Option.bind_some, if_pos rfl, Option.bind_some, if_neg (by decide)]
    exact last_false 3 _ _ _ _ _ _ _ bk bv hr
  · rw [data_yes _ _ _ _ _ _ _ bk bv hr, Option.bind_some]
    cases hr' : RightN u' key' value' until' rank' uses' next'
    · rw [data_no _ _ _ _ _ _ _ bk' bv' hr', Option.bind_some, if_pos rfl, Option.bind_some, if_pos rfl, Option.bind_some, if_neg (by decide)]
      exact last_true 3 _ _ _ _ _ _ _ bk bv hr
    · rw [data_yes _ _ _ _ _ _ _ bk' bv' hr', Option.bind_some, if_pos rfl, Option.bind_some, if_pos rfl, Option.bind_some, if_pos rfl]
      have e : ((b2i u == b2i u' && (key == key' && (value == value' && (until_ == until' && (rank == rank' && (uses == uses' && (next == next' && ((0 : Int) == 0)))))))) != (u == u' && (key == key' && (value == value' && (until_ == until' && (rank == rank' && (uses == uses' && (next == next')))))))) = false := by
        rw [b2i_inj]
        simp
      have hl := last_true 3 _ _ _ _ _ _ _ bk bv hr
      rw [← e] at hl
      exact hl
end Go.Proofs.Ytjkifbadbadoaaa.Pure
