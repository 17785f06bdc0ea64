/- Whether a slot is right, its block, a block's slot, whether its time is over, and the ranks, are those of the document's reference. No condition. -/
import Derived.Test.YtjkifbadbadoaaaPSlotBlocksx
import Derived.Test.YtjkifbadbadoaaaWordFacts
import Derived.OpenShut
namespace Go.Proofs.Ytjkifbadbadoaaa.Pure
open Go.RowKit Go.Proofs.Ytjkifbadbadoaaa.Hand Go.Proofs.Ytjkifbadbadoaaa.PSlotBlocks Go.Proofs.YtjkifbadbadoaaaW.PrintWords Go.Proofs.YtjkifbadbadoaaaW.PrintLast Go.Proofs.YtjkifbadbadoaaaW.PrintMore
set_option linter.unusedVariables false

namespace SlotBlocksAid
theorem shown_true : ∀ k, shellgamelaw15_shown.f (k + 4) = some true := by
  intro k
  induction k with
  | zero => decide +kernel
  | succ k ih => exact shellgamelaw15_shown.mono (k + 4) _ ih
theorem exp_eq (u : Bool) (a b U c d e t : Int) : slot_Expired.f u a b U c d e t = some (u && (decide (U > 0) && decide (U ≤ t))) := by
  unfold slot_Expired.f
  cases u
  · rfl
  · by_cases h : U > 0
    · rw [if_pos rfl, if_pos h, decide_eq_true h]; rfl
    · rw [if_pos rfl, if_neg h, decide_eq_false h]; rfl
def wfu (n : Int) : Prop := 0 ≤ n ∧ n ≤ 18446744073709551615
theorem pr_eq (n : Int) (h : wfu n) : pack_Right.f n = some (rightB n) := by unfold pack_Right.f; rw [if_pos h.1, if_pos h.2]
/-- is a slot right? -/
def RightN (u : Bool) (key value until_ rank uses next : Int) : Bool := if u = true then rightB key && (rightB value && (next == 0)) else (key == 0 && (value == 0 && (until_ == 0 && (rank == 0 && (uses == 0))))) && (decide (next ≥ 0) && decide (next ≤ 2147483648))
theorem right_eq (u : Bool) (key value until_ rank uses next : Int) (hk : wfu key) (hv : wfu value) : slot_Right.f u key value until_ rank uses next = some (RightN u key value until_ rank uses next) := by
  unfold slot_Right.f RightN
  rw [pr_eq key hk, pr_eq value hv]
  generalize rightB key = a
  generalize rightB value = b
  cases u
  · rw [if_neg Bool.false_ne_true, if_neg Bool.false_ne_true]
    have e : (!false && (key == 0 && (value == 0 && (until_ == 0 && (rank == 0 && (uses == 0)))))) = (key == 0 && (value == 0 && (until_ == 0 && (rank == 0 && (uses == 0))))) := rfl
    rw [e]
    generalize (key == 0 && (value == 0 && (until_ == 0 && (rank == 0 && (uses == 0))))) = c
    cases c
    · rfl
    · rw [if_pos rfl]
      by_cases h : next ≥ 0
      · rw [if_pos h, decide_eq_true h]; rfl
      · rw [if_neg h, decide_eq_false h]; rfl
  · rw [if_pos rfl, if_pos rfl]
    cases a <;> cases b <;> rfl
theorem right_used {key value until_ rank uses next : Int} (h : RightN true key value until_ rank uses next = true) : rightB key = true ∧ rightB value = true ∧ next = 0 := by
  unfold RightN at h
  rw [if_pos rfl] at h
  simp only [Bool.and_eq_true, beq_iff_eq] at h
  exact h
theorem right_free {key value until_ rank uses next : Int} (h : RightN false key value until_ rank uses next = true) : key = 0 ∧ value = 0 ∧ until_ = 0 ∧ rank = 0 ∧ uses = 0 ∧ 0 ≤ next ∧ next ≤ 2147483648 := by
  unfold RightN at h
  rw [if_neg (by decide)] at h
  simp only [Bool.and_eq_true, beq_iff_eq, decide_eq_true_eq] at h
  exact ⟨h.1.1, h.1.2.1, h.1.2.2.1, h.1.2.2.2.1, h.1.2.2.2.2, h.2.1, h.2.2⟩
theorem right_next {u : Bool} {key value until_ rank uses next : Int} (h : RightN u key value until_ rank uses next = true) : 0 ≤ next ∧ next ≤ 2147483648 := by
  cases u
  · have := right_free h; omega
  · have := right_used h; omega
/-- the first word of a block -/
def b2i (u : Bool) : Int := if u = true then 1 else 0
theorem b2i_pos (u : Bool) : decide (b2i u > 0) = u := by cases u <;> rfl
theorem data_yes (u : Bool) (key value until_ rank uses next : Int) (hk : wfu key) (hv : wfu value) (h : RightN u key value until_ rank uses next = true) :
    slot_Data.f u key value until_ rank uses next = some (b2i u, key, value, until_, rank, uses, next, 0) := by
  unfold slot_Data.f
  have hn := right_next h
  rw [right_eq _ _ _ _ _ _ _ hk hv, Option.bind_some, if_pos h]
  have e : IntKind.u64.wrap next = next := by rw [IntKind.wrap_u64]; omega
  rw [e]
  cases u <;> rfl
theorem data_no (u : Bool) (key value until_ rank uses next : Int) (hk : wfu key) (hv : wfu value) (h : RightN u key value until_ rank uses next = false) :
    slot_Data.f u key value until_ rank uses next = some (0, 0, 0, 0, 0, 0, 0, 0) := by
  unfold slot_Data.f
  rw [right_eq _ _ _ _ _ _ _ hk hv, Option.bind_some, if_neg (by rw [h]; decide)]
theorem mn_next (n : Int) (h0 : 0 ≤ n) : wrap64 (mn n 2147483649) = mn n 2147483649 := by
  unfold mn wrap64
  split <;> omega
theorem ors_false (a b c d e f g h a' b' c' d' e' f' g' h' : Int) : (!(a == a') || (!(b == b') || (!(c == c') || (!(d == d') || (!(e == e') || (!(f == f') || (!(g == g') || (!(h == h'))))))))) = true ∨ (a = a' ∧ b = b' ∧ c = c' ∧ d = d' ∧ e = e' ∧ f = f' ∧ g = g' ∧ h = h') := by
  by_cases hh : (a = a' ∧ b = b' ∧ c = c' ∧ d = d' ∧ e = e' ∧ f = f' ∧ g = g' ∧ h = h')
  · exact Or.inr hh
  · left
    apply Classical.byContradiction
    intro hn
    apply hh
    simpa using hn
theorem ors_self (a b c d e f g h : Int) : (!(a == a) || (!(b == b) || (!(c == c) || (!(d == d) || (!(e == e) || (!(f == f) || (!(g == g) || (!(h == h))))))))) = false := by simp
/-- a right slot's block is that slot's -/
theorem read_data (u : Bool) (key value until_ rank uses next : Int) (hk : wfu key) (hv : wfu value) (h : RightN u key value until_ rank uses next = true) :
    slot_Read.f (b2i u) key value until_ rank uses next 0 = some (u, key, value, until_, rank, uses, next, 0) := by
  unfold slot_Read.f
  have hn := right_next h
  have e : wrap64 (mn next 2147483649) = next := by rw [mn_next next hn.1]; unfold mn; split <;> omega
  rw [b2i_pos, e, right_eq _ _ _ _ _ _ _ hk hv, Option.bind_some, if_pos h, data_yes _ _ _ _ _ _ _ hk hv h, Option.bind_some, ors_self, if_neg (by decide)]
/-- what is read of a block: the slot whose block it is, or none -/
theorem read_cases (d0 d1 d2 d3 d4 d5 d6 d7 : Int) (h1 : wfu d1) (h2 : wfu d2) (h6 : 0 ≤ d6) :
    (∃ (u : Bool), d0 = b2i u ∧ d7 = 0 ∧ RightN u d1 d2 d3 d4 d5 d6 = true ∧ slot_Read.f d0 d1 d2 d3 d4 d5 d6 d7 = some (u, d1, d2, d3, d4, d5, d6, 0)) ∨
    (slot_Read.f d0 d1 d2 d3 d4 d5 d6 d7 = some (false, 0, 0, 0, 0, 0, 0, 3) ∧ ∀ u, d0 = b2i u → d7 = 0 → RightN u d1 d2 d3 d4 d5 d6 = true → False) := by
  by_cases hgo : ∃ u, d0 = b2i u ∧ d7 = 0 ∧ RightN u d1 d2 d3 d4 d5 d6 = true
  · obtain ⟨u, rfl, rfl, hr⟩ := hgo
    exact Or.inl ⟨u, rfl, rfl, hr, read_data u d1 d2 d3 d4 d5 d6 h1 h2 hr⟩
  · right
    refine ⟨?_, fun u a b c => hgo ⟨u, a, b, c⟩⟩
    unfold slot_Read.f
    rw [mn_next d6 h6, right_eq _ _ _ _ _ _ _ h1 h2, Option.bind_some]
    by_cases hr : RightN (decide (d0 > 0)) d1 d2 d3 d4 d5 (mn d6 2147483649) = true
    · rw [if_pos hr, data_yes _ _ _ _ _ _ _ h1 h2 hr, Option.bind_some]
      rcases ors_false (b2i (decide (d0 > 0))) d1 d2 d3 d4 d5 (mn d6 2147483649) 0 d0 d1 d2 d3 d4 d5 d6 d7 with h | ⟨e0, _, _, _, _, _, e6, e7⟩
      · rw [if_pos h]
      · exfalso
        apply hgo
        refine ⟨_, e0.symm, e7.symm, ?_⟩
        rw [e6] at hr
        exact hr
    · rw [if_neg hr]
end SlotBlocksAid
open SlotBlocksAid

theorem packed_eq (n : Int) (h : wfu n) : shellgameref15_packed.f n = some (rightB n) := by
  unfold shellgameref15_packed.f shellgameref4_Text.f
  have hp := pr_eq n h
  rcases text_cases n h.1 h.2 with ⟨t, e, _, _, er⟩ | ⟨e, er⟩
  · rw [er] at hp
    obtain hb := Option.some.inj hp
    rw [e, Option.bind_some, ← hb]
    rfl
  · rw [er] at hp
    obtain hb := Option.some.inj hp
    rw [e, Option.bind_some, ← hb]
    rfl
theorem ref_right (u : Bool) (key value until_ rank uses next : Int) (hk : wfu key) (hv : wfu value) : shellgameref15_Right.f u key value until_ rank uses next = slot_Right.f u key value until_ rank uses next := by
  unfold shellgameref15_Right.f slot_Right.f
  rw [packed_eq key hk, packed_eq value hv, pr_eq key hk, pr_eq value hv]
theorem ref_data (u : Bool) (key value until_ rank uses next : Int) (hk : wfu key) (hv : wfu value) : shellgameref15_Data.f u key value until_ rank uses next = slot_Data.f u key value until_ rank uses next := by
  unfold shellgameref15_Data.f slot_Data.f
  rw [ref_right _ _ _ _ _ _ _ hk hv]
theorem ref_expired (u : Bool) (key value until_ rank uses next t : Int) : shellgameref15_Expired.f u key value until_ rank uses next t = slot_Expired.f u key value until_ rank uses next t := rfl
theorem ref_enter (k : Nat) (p t : Int) : shellgameref15_Enter.f (k + 1) p t = slot_Enter.f p t := by
  unfold shellgameref15_Enter.f slot_Enter.f
  have e : 4294967296 + t = t + 4294967296 := by omega
  by_cases h0 : p < 0
  · rw [if_pos h0, if_neg (by omega), if_neg (by omega), if_neg (by omega)]
    simp only [shellgameref15_Enter.j0, if_true]
  · rw [if_neg h0]
    by_cases h2 : p > 2
    · rw [decide_eq_true h2, if_neg (by omega), if_neg (by omega), if_neg (by omega)]
      simp only [shellgameref15_Enter.j0, if_true]
    · rw [decide_eq_false h2]
      simp only [shellgameref15_Enter.j0, Bool.false_eq_true, if_false]
      rw [e]
      by_cases h3 : p = 2
      · rw [if_pos h3, if_pos h3]
      · rw [if_neg h3, if_neg h3]
        by_cases h4 : p = 0
        · rw [if_pos h4]
        · rw [if_neg h4, if_pos (by omega)]
theorem ref_use (k : Nat) (p : Int) (u : Bool) (key value until_ rank uses next t : Int) : shellgameref15_Use.f (k + 1) p u key value until_ rank uses next t = slot_Use.f p u key value until_ rank uses next t := by
  unfold shellgameref15_Use.f slot_Use.f
  have e : 4294967296 * IntKind.u64.wrap (uses + 1) = IntKind.u64.wrap (uses + 1) * 4294967296 := by omega
  by_cases h0 : p < 0
  · rw [if_pos h0, if_neg (by omega), if_neg (by omega), if_neg (by omega)]
    simp only [shellgameref15_Use.j0, if_true]
  · rw [if_neg h0]
    by_cases h2 : p > 2
    · rw [decide_eq_true h2, if_neg (by omega), if_neg (by omega), if_neg (by omega)]
      simp only [shellgameref15_Use.j0, if_true]
    · rw [decide_eq_false h2]
      simp only [shellgameref15_Use.j0, Bool.false_eq_true, if_false]
      rw [e]
      by_cases h3 : p = 0
      · rw [if_pos h3, if_pos h3]
      · rw [if_neg h3, if_neg h3]
        by_cases h4 : p = 1
        · rw [if_pos h4, if_pos h4]
        · rw [if_neg h4, if_neg h4, if_pos (by omega)]
theorem ref_read (k : Nat) (d0 d1 d2 d3 d4 d5 d6 d7 : Int) (h0 : 0 ≤ d0) (h1 : wfu d1) (h2 : wfu d2) (h6 : 0 ≤ d6) : shellgameref15_Read.f (k + 1) d0 d1 d2 d3 d4 d5 d6 d7 = slot_Read.f d0 d1 d2 d3 d4 d5 d6 d7 := by
  unfold shellgameref15_Read.f
  have hj : ∀ x, shellgameref15_Read.j0 (k + 1) true x d1 d2 d3 d4 d5 d6 d7 = some (false, 0, 0, 0, 0, 0, 0, 3) := by
    intro x
    simp only [shellgameref15_Read.j0, if_true]
  rcases read_cases d0 d1 d2 d3 d4 d5 d6 d7 h1 h2 h6 with ⟨u, rfl, rfl, hR, e⟩ | ⟨e, hno⟩
  · rw [e]
    have hn := right_next hR
    have hb : ¬ b2i u > 1 := by cases u <;> decide
    have hu : (b2i u == 1) = u := by cases u <;> rfl
    have hw : wrap64 d6 = d6 := by unfold wrap64; omega
    rw [if_neg hb, if_neg (by omega), bne_self_eq_false]
    simp only [shellgameref15_Read.j0, Bool.false_eq_true, if_false]
    rw [hu, hw, ref_right _ _ _ _ _ _ _ h1 h2, right_eq _ _ _ _ _ _ _ h1 h2, Option.bind_some, if_pos hR]
  · rw [e]
    by_cases c0 : d0 > 1
    · rw [if_pos c0]; exact hj d0
    · rw [if_neg c0]
      by_cases c6 : d6 > 2147483648
      · rw [if_pos c6]; exact hj d0
      · rw [if_neg c6]
        by_cases c7 : d7 = 0
        · subst c7
          rw [bne_self_eq_false]
          simp only [shellgameref15_Read.j0, Bool.false_eq_true, if_false]
          have hw : wrap64 d6 = d6 := by unfold wrap64; omega
          have hu : d0 = b2i (d0 == 1) := by
            obtain rfl | rfl : d0 = 0 ∨ d0 = 1 := by omega
            · rfl
            · rfl
          rw [hw, ref_right _ _ _ _ _ _ _ h1 h2, right_eq _ _ _ _ _ _ _ h1 h2, Option.bind_some]
          cases hR : RightN (d0 == 1) d1 d2 d3 d4 d5 d6
          · rw [if_neg (by decide)]
          · exact (hno _ hu rfl hR).elim
        · have : (d7 != 0) = true := by rw [bne_iff_ne]; exact c7
          rw [this]; exact hj d0
theorem SlotBlocks : shellgamelaw15_SlotBlocks.Pure := by
  intro u key value until_ rank uses next d0 d1 d2 d3 d4 d5 d6 d7 policy now hk hv _ _ _ _ h0 h1 h2 _ _ _ h6 h7 _ _
  have bk : wfu key := bounds_u64 hk
  have bv : wfu value := bounds_u64 hv
  have b0 := bounds_u64 h0
  have b1 : wfu d1 := bounds_u64 h1
  have b2 : wfu d2 := bounds_u64 h2
  have b6 := bounds_u64 h6
  refine ⟨4, ?_⟩
  obtain ⟨r, hr⟩ : ∃ r, slot_Read.f d0 d1 d2 d3 d4 d5 d6 d7 = some r := by
    rcases read_cases d0 d1 d2 d3 d4 d5 d6 d7 b1 b2 b6.1 with ⟨u, _, _, _, e⟩ | ⟨e, _⟩
    · exact ⟨_, e⟩
    · exact ⟨_, e⟩
  obtain ⟨en, hen⟩ : ∃ en, slot_Enter.f policy now = some en := by
    unfold slot_Enter.f
    split
    · exact ⟨_, rfl⟩
    · split
      · exact ⟨_, rfl⟩
      · split <;> exact ⟨_, rfl⟩
  obtain ⟨us, hus⟩ : ∃ us, slot_Use.f policy u key value until_ rank uses next now = some us := by
    unfold slot_Use.f
    split
    · exact ⟨_, rfl⟩
    · split
      · exact ⟨_, rfl⟩
      · split <;> exact ⟨_, rfl⟩
  obtain ⟨dt, hdt⟩ : ∃ dt, slot_Data.f u key value until_ rank uses next = some dt := by
    cases hR : RightN u key value until_ rank uses next
    · exact ⟨_, data_no _ _ _ _ _ _ _ bk bv hR⟩
    · exact ⟨_, data_yes _ _ _ _ _ _ _ bk bv hR⟩
  have has : ∀ a b c d e f g, shellgamelaw15_as.f a b c d e f g = some (a, b, c, d, e, f, g) := fun _ _ _ _ _ _ _ => rfl
  unfold shellgamelaw15_SlotBlocks.f
  rw [shown_true 0, Option.bind_some, ref_read 3 _ _ _ _ _ _ _ _ b0.1 b1 b2 b6.1, hr, Option.bind_some, Option.bind_some, ref_enter 3, hen, Option.bind_some, Option.bind_some, hus, Option.bind_some, has, Option.bind_some, ref_use 3, hus, Option.bind_some, if_pos rfl]
  rw [right_eq _ _ _ _ _ _ _ bk bv, Option.bind_some, Option.bind_some, ref_right _ _ _ _ _ _ _ bk bv, right_eq _ _ _ _ _ _ _ bk bv, Option.bind_some, if_pos (by simp), hdt, Option.bind_some, Option.bind_some, ref_data _ _ _ _ _ _ _ bk bv, hdt, Option.bind_some, if_pos (by simp), has, Option.bind_some, if_pos (by simp), if_pos rfl, exp_eq, Option.bind_some, Option.bind_some, ref_expired, exp_eq, Option.bind_some, if_pos (by simp), if_pos rfl, if_pos rfl, if_pos rfl]
  simp
end Go.Proofs.Ytjkifbadbadoaaa.Pure
