/- Of two fields of a config that are wrong the earlier one is told; a field that is put right is not told any more. No condition. -/
import Derived.Test.YtpaafeaolodkjaaDoorPConfigFirstx1
import Derived.Test.YtpaafeaolodkjaaDoorConfigFacts
import Derived.OpenShut
namespace Go.Proofs.YtpaafeaolodkjaaDoor.Pure
open Go.RowKit Go.Proofs.YtpaafeaolodkjaaDoor.Hand Go.Proofs.YtpaafeaolodkjaaDoor.PConfigFirst Go.Proofs.YtpaafeaolodkjaaDoorW.PrintWords Go.Proofs.YtpaafeaolodkjaaDoorW.PrintLast Go.Proofs.YtpaafeaolodkjaaDoorW.PrintMore
set_option linter.unusedVariables false

namespace ConfigFirstAid
def nm (i : Nat) : ByteArray := [(⟨#[67, 97, 112, 97, 99, 105, 116, 121]⟩ : ByteArray), ⟨#[66, 97, 116, 99, 104]⟩, ⟨#[75, 105, 99, 107, 115]⟩, ⟨#[83, 112, 105, 108, 108]⟩, ⟨#[80, 111, 108, 105, 99, 121]⟩].getD i ByteArray.empty
theorem w0 {c0 c1 c2 c3 c4 c5 c6 c7 c8 : Int} (x : c0 < 1 ∨ 64 < c0) : config_Why.f c0 c1 c2 c3 c4 c5 c6 c7 c8 = some (⟨#[67, 97, 112, 97, 99, 105, 116, 121]⟩, 2) := by
  unfold config_Why.f check.f
  rw [if_pos x]; rfl
theorem w1 {c0 c1 c2 c3 c4 c5 c6 c7 c8 : Int} (g0 : 1 ≤ c0 ∧ c0 ≤ 64) (x : c1 < 1 ∨ 16 < c1) : config_Why.f c0 c1 c2 c3 c4 c5 c6 c7 c8 = some (⟨#[66, 97, 116, 99, 104]⟩, 2) := by
  unfold config_Why.f check.f
  rw [if_neg (by omega), if_pos x]; rfl
theorem w2 {c0 c1 c2 c3 c4 c5 c6 c7 c8 : Int} (g0 : 1 ≤ c0 ∧ c0 ≤ 64) (g1 : 1 ≤ c1 ∧ c1 ≤ 16) (x : c2 < 1 ∨ 16 < c2) : config_Why.f c0 c1 c2 c3 c4 c5 c6 c7 c8 = some (⟨#[75, 105, 99, 107, 115]⟩, 2) := by
  unfold config_Why.f check.f
  rw [if_neg (by omega), if_neg (by omega), if_pos x]; rfl
theorem w3 {c0 c1 c2 c3 c4 c5 c6 c7 c8 : Int} (g0 : 1 ≤ c0 ∧ c0 ≤ 64) (g1 : 1 ≤ c1 ∧ c1 ≤ 16) (g2 : 1 ≤ c2 ∧ c2 ≤ 16) (x : c3 < 1 ∨ 32 < c3) : config_Why.f c0 c1 c2 c3 c4 c5 c6 c7 c8 = some (⟨#[83, 112, 105, 108, 108]⟩, 2) := by
  unfold config_Why.f check.f
  rw [if_neg (by omega), if_neg (by omega), if_neg (by omega), if_pos x]; rfl
theorem w4 {c0 c1 c2 c3 c4 c5 c6 c7 c8 : Int} (g0 : 1 ≤ c0 ∧ c0 ≤ 64) (g1 : 1 ≤ c1 ∧ c1 ≤ 16) (g2 : 1 ≤ c2 ∧ c2 ≤ 16) (g3 : 1 ≤ c3 ∧ c3 ≤ 32) (x : c8 < 0 ∨ 2 < c8) : config_Why.f c0 c1 c2 c3 c4 c5 c6 c7 c8 = some (⟨#[80, 111, 108, 105, 99, 121]⟩, 2) := by
  unfold config_Why.f check.f
  rw [if_neg (by omega), if_neg (by omega), if_neg (by omega), if_neg (by omega), if_pos x]; rfl
end ConfigFirstAid
open ConfigFirstAid
theorem tail_true (c0 c1 c2 c3 c4 c5 c6 c7 c8 i k a b : Int) (G : (1 ≤ c0 ∧ c0 ≤ 64) ∧ (1 ≤ c1 ∧ c1 ≤ 16) ∧ (1 ≤ c2 ∧ c2 ≤ 16) ∧ (1 ≤ c3 ∧ c3 ≤ 32) ∧ (0 ≤ c8 ∧ c8 ≤ 2)) (hi : 0 ≤ i) (hik : i < k) (hk : k ≤ 4)
    (ha : (i = 0 → a < 1 ∨ 64 < a) ∧ (i = 1 → a < 1 ∨ 16 < a) ∧ (i = 2 → a < 1 ∨ 16 < a) ∧ (i = 3 → a < 1 ∨ 32 < a)) (hb : (k = 1 → b < 1 ∨ 16 < b) ∧ (k = 2 → b < 1 ∨ 16 < b) ∧ (k = 3 → b < 1 ∨ 32 < b) ∧ (k = 4 → b < 0 ∨ 2 < b)) :
    shellgamelaw13_ConfigFirst.j1 1 i k a b [(⟨#[67, 97, 112, 97, 99, 105, 116, 121]⟩ : ByteArray), (⟨#[66, 97, 116, 99, 104]⟩ : ByteArray), (⟨#[75, 105, 99, 107, 115]⟩ : ByteArray), (⟨#[83, 112, 105, 108, 108]⟩ : ByteArray), (⟨#[80, 111, 108, 105, 99, 121]⟩ : ByteArray)] false c0 c1 c2 c3 c4 c5 c6 c7 c8 = some true := by
  obtain ⟨g0, g1, g2, g3, g4⟩ := G
  obtain ⟨a0, a1, a2, a3⟩ := ha
  obtain ⟨b1, b2, b3, b4⟩ := hb
  have case : (i = 0 ∧ (k = 1 ∨ k = 2 ∨ k = 3 ∨ k = 4)) ∨ (i = 1 ∧ (k = 2 ∨ k = 3 ∨ k = 4)) ∨ (i = 2 ∧ (k = 3 ∨ k = 4)) ∨ (i = 3 ∧ k = 4) := by omega
  simp only [shellgamelaw13_ConfigFirst.j1, Bool.false_eq_true, if_false]
  rcases case with ⟨rfl, rfl | rfl | rfl | rfl⟩ | ⟨rfl, rfl | rfl | rfl⟩ | ⟨rfl, rfl | rfl⟩ | ⟨rfl, rfl⟩
  · simp [shellgamelaw13_set.f, w0 (a0 rfl), w1 g0 (b1 rfl), rdOf]
  · simp [shellgamelaw13_set.f, w0 (a0 rfl), w2 g0 g1 (b2 rfl), rdOf]
  · simp [shellgamelaw13_set.f, w0 (a0 rfl), w3 g0 g1 g2 (b3 rfl), rdOf]
  · simp [shellgamelaw13_set.f, w0 (a0 rfl), w4 g0 g1 g2 g3 (b4 rfl), rdOf]
  · simp [shellgamelaw13_set.f, w1 g0 (a1 rfl), w2 g0 g1 (b2 rfl), rdOf]
  · simp [shellgamelaw13_set.f, w1 g0 (a1 rfl), w3 g0 g1 g2 (b3 rfl), rdOf]
  · simp [shellgamelaw13_set.f, w1 g0 (a1 rfl), w4 g0 g1 g2 g3 (b4 rfl), rdOf]
  · simp [shellgamelaw13_set.f, w2 g0 g1 (a2 rfl), w3 g0 g1 g2 (b3 rfl), rdOf]
  · simp [shellgamelaw13_set.f, w2 g0 g1 (a2 rfl), w4 g0 g1 g2 g3 (b4 rfl), rdOf]
  · simp [shellgamelaw13_set.f, w3 g0 g1 g2 (a3 rfl), w4 g0 g1 g2 g3 (b4 rfl), rdOf]
theorem ConfigFirst : shellgamelaw13_ConfigFirst.Pure := by
  intro c0 c1 c2 c3 c4 c5 c6 c7 c8 i k a b _ _ _ _ _ _ _ _ _ _ _ _ _
  refine ⟨2, ?_⟩
  obtain ⟨o, ho, hw⟩ := why_some c0 c1 c2 c3 c4 c5 c6 c7 c8
  unfold shellgamelaw13_ConfigFirst.f
  rw [shown_true, hw, Option.bind_some, Option.bind_some, if_pos rfl]
  by_cases h0 : (whyR o).2 = 0
  · rw [if_pos h0]
    obtain rfl := whyR_zero h0
    have G := check_none ho
    by_cases c1' : i < 0
    · rw [if_pos c1']; simp only [shellgamelaw13_ConfigFirst.j0, if_true]
    rw [if_neg c1']
    by_cases c2' : k ≤ i
    · rw [if_pos c2']; simp only [shellgamelaw13_ConfigFirst.j0, if_true]
    rw [if_neg c2']
    by_cases c3' : k > 4
    · rw [decide_eq_true c3']; simp only [shellgamelaw13_ConfigFirst.j0, if_true]
    rw [decide_eq_false c3']
    simp only [shellgamelaw13_ConfigFirst.j0, Bool.false_eq_true, if_false, Option.bind_some]
    have t1 : shellgamelaw13_ConfigFirst.j1 1 i k a b [(⟨#[67, 97, 112, 97, 99, 105, 116, 121]⟩ : ByteArray), (⟨#[66, 97, 116, 99, 104]⟩ : ByteArray), (⟨#[75, 105, 99, 107, 115]⟩ : ByteArray), (⟨#[83, 112, 105, 108, 108]⟩ : ByteArray), (⟨#[80, 111, 108, 105, 99, 121]⟩ : ByteArray)] true c0 c1 c2 c3 c4 c5 c6 c7 c8 = some true := by
      simp only [shellgamelaw13_ConfigFirst.j1, if_true]
    have key := tail_true c0 c1 c2 c3 c4 c5 c6 c7 c8 i k a b G (by omega) (by omega) (by omega)
    have ei : i = 0 ∨ i = 1 ∨ i = 2 ∨ i = 3 := by omega
    have ek : k = 1 ∨ k = 2 ∨ k = 3 ∨ k = 4 := by omega
    have l1 : ∀ j : Int, 0 ≤ j → j ≤ 4 → j < (([1, 1, 1, 1, 0] : List Int).length : Int) := by intro j _ h; simp; omega
    have l2 : ∀ j : Int, 0 ≤ j → j ≤ 4 → j < (([64, 16, 16, 32, 2] : List Int).length : Int) := by intro j _ h; simp; omega
    rw [if_pos (by omega), if_pos (l1 i (by omega) (by omega))]
    have hb : ¬ (b ≥ rd [1, 1, 1, 1, 0] k ∧ b ≤ rd [64, 16, 16, 32, 2] k) → (k = 1 → b < 1 ∨ 16 < b) ∧ (k = 2 → b < 1 ∨ 16 < b) ∧ (k = 3 → b < 1 ∨ 32 < b) ∧ (k = 4 → b < 0 ∨ 2 < b) := by
      intro h
      obtain rfl | rfl | rfl | rfl := ek <;> (simp [rd] at h; omega)
    have ha : ¬ (a ≥ rd [1, 1, 1, 1, 0] i ∧ a ≤ rd [64, 16, 16, 32, 2] i) → (i = 0 → a < 1 ∨ 64 < a) ∧ (i = 1 → a < 1 ∨ 16 < a) ∧ (i = 2 → a < 1 ∨ 16 < a) ∧ (i = 3 → a < 1 ∨ 32 < a) := by
      intro h
      obtain rfl | rfl | rfl | rfl := ei <;> (simp [rd] at h; omega)
    have second : ¬ (a ≥ rd [1, 1, 1, 1, 0] i ∧ a ≤ rd [64, 16, 16, 32, 2] i) → (if 0 ≤ k then (if k < (([1, 1, 1, 1, 0] : List Int).length : Int) then (if b ≥ (rd [1, 1, 1, 1, 0] k) then (if k < (([64, 16, 16, 32, 2] : List Int).length : Int) then (shellgamelaw13_ConfigFirst.j1 1 i k a b [(⟨#[67, 97, 112, 97, 99, 105, 116, 121]⟩ : ByteArray), (⟨#[66, 97, 116, 99, 104]⟩ : ByteArray), (⟨#[75, 105, 99, 107, 115]⟩ : ByteArray), (⟨#[83, 112, 105, 108, 108]⟩ : ByteArray), (⟨#[80, 111, 108, 105, 99, 121]⟩ : ByteArray)] (decide (b ≤ (rd [64, 16, 16, 32, 2] k))) c0 c1 c2 c3 c4 c5 c6 c7 c8) else (none)) else (shellgamelaw13_ConfigFirst.j1 1 i k a b [(⟨#[67, 97, 112, 97, 99, 105, 116, 121]⟩ : ByteArray), (⟨#[66, 97, 116, 99, 104]⟩ : ByteArray), (⟨#[75, 105, 99, 107, 115]⟩ : ByteArray), (⟨#[83, 112, 105, 108, 108]⟩ : ByteArray), (⟨#[80, 111, 108, 105, 99, 121]⟩ : ByteArray)] false c0 c1 c2 c3 c4 c5 c6 c7 c8)) else (none)) else (none)) = some true := by
      intro h
      rw [if_pos (by omega), if_pos (l1 k (by omega) (by omega))]
      by_cases q1 : b ≥ rd [1, 1, 1, 1, 0] k
      · rw [if_pos q1, if_pos (l2 k (by omega) (by omega))]
        by_cases q2 : b ≤ rd [64, 16, 16, 32, 2] k
        · rw [decide_eq_true q2]; exact t1
        · rw [decide_eq_false q2]; exact key (ha h) (hb (fun q => q2 q.2))
      · rw [if_neg q1]; exact key (ha h) (hb (fun q => q1 q.1))
    by_cases p1 : a ≥ rd [1, 1, 1, 1, 0] i
    · rw [if_pos p1, if_pos (l2 i (by omega) (by omega))]
      by_cases p2 : a ≤ rd [64, 16, 16, 32, 2] i
      · rw [if_pos p2]; exact t1
      · rw [if_neg p2]; exact second (fun q => p2 q.2)
    · rw [if_neg p1]; exact second (fun q => p1 q.1)
  · rw [if_neg h0]
    simp only [shellgamelaw13_ConfigFirst.j0, if_true]
end Go.Proofs.YtpaafeaolodkjaaDoor.Pure
