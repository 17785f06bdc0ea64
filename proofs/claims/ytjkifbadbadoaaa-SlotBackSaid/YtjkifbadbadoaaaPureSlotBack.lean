/- A right slot's block is that slot's; a block's slot has that block. No condition. -/
import Derived.Test.YtjkifbadbadoaaaPSlotBackx
import Derived.Test.YtjkifbadbadoaaaWordFacts
import Derived.OpenShut
namespace Go.Proofs.Ytjkifbadbadoaaa.Pure
open Go.RowKit Go.Proofs.Ytjkifbadbadoaaa.Hand Go.Proofs.Ytjkifbadbadoaaa.PSlotBack Go.Proofs.YtjkifbadbadoaaaW.PrintWords Go.Proofs.YtjkifbadbadoaaaW.PrintLast Go.Proofs.YtjkifbadbadoaaaW.PrintMore
set_option linter.unusedVariables false

namespace SlotBackAid
theorem shown_true : ∀ k, shellgamelaw15_shown.f (k + 4) = some true := by
  intro k
  induction k with
  | zero => decide +kernel
  | succ k ih => exact shellgamelaw15_shown.mono (k + 4) _ ih
def wfu (n : Int) : Prop := 0 ≤ n ∧ n ≤ 18446744073709551615
theorem pr_eq (n : Int) (h : wfu n) : pack_Right.f n = some (rightB n) := by unfold pack_Right.f; rw [if_pos h.1, if_pos h.2]
/-- is a slot right? -/
def RightN (u : Bool) (key value until_ rank uses next : Int) : Bool := if u = true then rightB key && (rightB value && (next == 0)) else (key == 0 && (value == 0 && (until_ == 0 && (rank == 0 && (uses == 0))))) && (decide (next ≥ 0) && decide (next ≤ 2147483648))
theorem right_eq (u : Bool) (key value until_ rank uses next : Int) (hk : wfu key) (hv : wfu value) : slot_Right.f u key value until_ rank uses next = some (RightN u key value until_ rank uses next) := by
  unfold slot_Right.f RightN
  rw [pr_eq key hk, pr_eq value hv]
  generalize rightB key = a
  generalize rightB value = b
  cases u
  · rw [if_neg Bool.false_ne_true, if_neg Bool.false_ne_true]
    have e : (!false && (key == 0 && (value == 0 && (until_ == 0 && (rank == 0 && (uses == 0)))))) = (key == 0 && (value == 0 && (until_ == 0 && (rank == 0 && (uses == 0))))) := rfl
    rw [e]
    generalize (key == 0 && (value == 0 && (until_ == 0 && (rank == 0 && (uses == 0))))) = c
    cases c
    · rfl
    · rw [if_pos rfl]
      by_cases h : next ≥ 0
      · rw [if_pos h, decide_eq_true h]; rfl
      · rw [if_neg h, decide_eq_false h]; rfl
  · rw [if_pos rfl, if_pos rfl]
    cases a <;> cases b <;> rfl
theorem right_used {key value until_ rank uses next : Int} (h : RightN true key value until_ rank uses next = true) : rightB key = true ∧ rightB value = true ∧ next = 0 := by
  unfold RightN at h
  rw [if_pos rfl] at h
  simp only [Bool.and_eq_true, beq_iff_eq] at h
  exact h
theorem right_free {key value until_ rank uses next : Int} (h : RightN false key value until_ rank uses next = true) : key = 0 ∧ value = 0 ∧ until_ = 0 ∧ rank = 0 ∧ uses = 0 ∧ 0 ≤ next ∧ next ≤ 2147483648 := by
  unfold RightN at h
  rw [if_neg (by decide)] at h
  simp only [Bool.and_eq_true, beq_iff_eq, decide_eq_true_eq] at h
  exact ⟨h.1.1, h.1.2.1, h.1.2.2.1, h.1.2.2.2.1, h.1.2.2.2.2, h.2.1, h.2.2⟩
theorem right_next {u : Bool} {key value until_ rank uses next : Int} (h : RightN u key value until_ rank uses next = true) : 0 ≤ next ∧ next ≤ 2147483648 := by
  cases u
  · have := right_free h; omega
  · have := right_used h; omega
/-- the first word of a block -/
def b2i (u : Bool) : Int := if u = true then 1 else 0
theorem b2i_pos (u : Bool) : decide (b2i u > 0) = u := by cases u <;> rfl
theorem data_yes (u : Bool) (key value until_ rank uses next : Int) (hk : wfu key) (hv : wfu value) (h : RightN u key value until_ rank uses next = true) :
    slot_Data.f u key value until_ rank uses next = some (b2i u, key, value, until_, rank, uses, next, 0) := by
  unfold slot_Data.f
  have hn := right_next h
  rw [right_eq _ _ _ _ _ _ _ hk hv, Option.bind_some, if_pos h]
  have e : IntKind.u64.wrap next = next := by rw [IntKind.wrap_u64]; omega
  rw [e]
  cases u <;> rfl
theorem data_no (u : Bool) (key value until_ rank uses next : Int) (hk : wfu key) (hv : wfu value) (h : RightN u key value until_ rank uses next = false) :
    slot_Data.f u key value until_ rank uses next = some (0, 0, 0, 0, 0, 0, 0, 0) := by
  unfold slot_Data.f
  rw [right_eq _ _ _ _ _ _ _ hk hv, Option.bind_some, if_neg (by rw [h]; decide)]
theorem mn_next (n : Int) (h0 : 0 ≤ n) : wrap64 (mn n 2147483649) = mn n 2147483649 := by
  unfold mn wrap64
  split <;> omega
theorem ors_false (a b c d e f g h a' b' c' d' e' f' g' h' : Int) : (!(a == a') || (!(b == b') || (!(c == c') || (!(d == d') || (!(e == e') || (!(f == f') || (!(g == g') || (!(h == h'))))))))) = true ∨ (a = a' ∧ b = b' ∧ c = c' ∧ d = d' ∧ e = e' ∧ f = f' ∧ g = g' ∧ h = h') := by
  by_cases hh : (a = a' ∧ b = b' ∧ c = c' ∧ d = d' ∧ e = e' ∧ f = f' ∧ g = g' ∧ h = h')
  · exact Or.inr hh
  · left
    apply Classical.byContradiction
    intro hn
    apply hh
    simpa using hn
theorem ors_self (a b c d e f g h : Int) : (!(a == a) || (!(b == b) || (!(c == c) || (!(d == d) || (!(e == e) || (!(f == f) || (!(g == g) || (!(h == h))))))))) = false := by simp
/-- a right slot's block is that slot's -/
theorem read_data (u : Bool) (key value until_ rank uses next : Int) (hk : wfu key) (hv : wfu value) (h : RightN u key value until_ rank uses next = true) :
    slot_Read.f (b2i u) key value until_ rank uses next 0 = some (u, key, value, until_, rank, uses, next, 0) := by
  unfold slot_Read.f
  have hn := right_next h
  have e : wrap64 (mn next 2147483649) = next := by rw [mn_next next hn.1]; unfold mn; split <;> omega
  rw [b2i_pos, e, right_eq _ _ _ _ _ _ _ hk hv, Option.bind_some, if_pos h, data_yes _ _ _ _ _ _ _ hk hv h, Option.bind_some, ors_self, if_neg (by decide)]
/-- what is read of a block: the slot whose block it is, or none -/
theorem read_cases (d0 d1 d2 d3 d4 d5 d6 d7 : Int) (h1 : wfu d1) (h2 : wfu d2) (h6 : 0 ≤ d6) :
    (∃ (u : Bool), d0 = b2i u ∧ d7 = 0 ∧ RightN u d1 d2 d3 d4 d5 d6 = true ∧ slot_Read.f d0 d1 d2 d3 d4 d5 d6 d7 = some (u, d1, d2, d3, d4, d5, d6, 0)) ∨
    (slot_Read.f d0 d1 d2 d3 d4 d5 d6 d7 = some (false, 0, 0, 0, 0, 0, 0, 3) ∧ ∀ u, d0 = b2i u → d7 = 0 → RightN u d1 d2 d3 d4 d5 d6 = true → False) := by
  by_cases hgo : ∃ u, d0 = b2i u ∧ d7 = 0 ∧ RightN u d1 d2 d3 d4 d5 d6 = true
  · obtain ⟨u, rfl, rfl, hr⟩ := hgo
    exact Or.inl ⟨u, rfl, rfl, hr, read_data u d1 d2 d3 d4 d5 d6 h1 h2 hr⟩
  · right
    refine ⟨?_, fun u a b c => hgo ⟨u, a, b, c⟩⟩
    unfold slot_Read.f
    rw [mn_next d6 h6, right_eq _ _ _ _ _ _ _ h1 h2, Option.bind_some]
    by_cases hr : RightN (decide (d0 > 0)) d1 d2 d3 d4 d5 (mn d6 2147483649) = true
    · rw [if_pos hr, data_yes _ _ _ _ _ _ _ h1 h2 hr, Option.bind_some]
      rcases ors_false (b2i (decide (d0 > 0))) d1 d2 d3 d4 d5 (mn d6 2147483649) 0 d0 d1 d2 d3 d4 d5 d6 d7 with h | ⟨e0, _, _, _, _, _, e6, e7⟩
      · rw [if_pos h]
      · exfalso
        apply hgo
        refine ⟨_, e0.symm, e7.symm, ?_⟩
        rw [e6] at hr
        exact hr
    · rw [if_neg hr]
end SlotBackAid
open SlotBackAid

theorem j0_true (k : Nat) (d0 d1 d2 d3 d4 d5 d6 d7 : Int) (h1 : wfu d1) (h2 : wfu d2) (h6 : 0 ≤ d6) (r : Bool × Int × Int × Int × Int × Int × Int × Int) (hr : slot_Read.f d0 d1 d2 d3 d4 d5 d6 d7 = some r) :
    shellgamelaw15_SlotBack.j0 (k + 1) r.2.2.2.2.2.2.2 false d0 d1 d2 d3 d4 d5 d6 d7 r.1 r.2.1 r.2.2.1 r.2.2.2.1 r.2.2.2.2.1 r.2.2.2.2.2.1 r.2.2.2.2.2.2.1 = some true := by
  simp only [shellgamelaw15_SlotBack.j0, Bool.false_eq_true, if_false]
  rcases read_cases d0 d1 d2 d3 d4 d5 d6 d7 h1 h2 h6 with ⟨u, rfl, rfl, hR, e⟩ | ⟨e, _⟩
  · rw [e] at hr
    obtain rfl := Option.some.inj hr
    dsimp only
    rw [if_pos rfl, right_eq _ _ _ _ _ _ _ h1 h2, Option.bind_some, if_pos hR, data_yes _ _ _ _ _ _ _ h1 h2 hR, Option.bind_some, if_pos (by simp)]
  · rw [e] at hr
    obtain rfl := Option.some.inj hr
    dsimp only
    rw [if_neg (by decide), if_pos rfl]
    rfl
theorem SlotBack : shellgamelaw15_SlotBack.Pure := by
  intro u key value until_ rank uses next d0 d1 d2 d3 d4 d5 d6 d7 hk hv _ _ _ _ h0 h1 h2 _ _ _ h6 h7
  have bk : wfu key := bounds_u64 hk
  have bv : wfu value := bounds_u64 hv
  have b1 : wfu d1 := bounds_u64 h1
  have b2 : wfu d2 := bounds_u64 h2
  have b6 := bounds_u64 h6
  obtain ⟨r, hr⟩ : ∃ r, slot_Read.f d0 d1 d2 d3 d4 d5 d6 d7 = some r := by
    rcases read_cases d0 d1 d2 d3 d4 d5 d6 d7 b1 b2 b6.1 with ⟨u, _, _, _, e⟩ | ⟨e, _⟩
    · exact ⟨_, e⟩
    · exact ⟨_, e⟩
  have hj := j0_true 3 d0 d1 d2 d3 d4 d5 d6 d7 b1 b2 b6.1 r hr
  refine ⟨4, ?_⟩
  unfold shellgamelaw15_SlotBack.f
  rw [shown_true 0, Option.bind_some, right_eq _ _ _ _ _ _ _ bk bv]
  cases hR : RightN u key value until_ rank uses next
  · rw [data_no _ _ _ _ _ _ _ bk bv hR, Option.bind_some]
    obtain ⟨z, hz⟩ : ∃ z, slot_Read.f 0 0 0 0 0 0 0 0 = some z := by
      rcases read_cases 0 0 0 0 0 0 0 0 ⟨by decide, by decide⟩ ⟨by decide, by decide⟩ (by decide) with ⟨u, _, _, _, e⟩ | ⟨e, _⟩
      · exact ⟨_, e⟩
      · exact ⟨_, e⟩
    rw [hz, Option.bind_some, hr, Option.bind_some, if_pos rfl, Option.bind_some, if_neg (by decide), Option.bind_some, if_neg (by decide), Option.bind_some]
    exact hj
  · rw [data_yes _ _ _ _ _ _ _ bk bv hR, Option.bind_some, read_data _ _ _ _ _ _ _ bk bv hR, Option.bind_some, hr, Option.bind_some, if_pos rfl, Option.bind_some, if_pos rfl, if_neg (by simp), if_pos rfl, Option.bind_some, if_pos rfl]
    exact hj
end Go.Proofs.Ytjkifbadbadoaaa.Pure
