/- A text's word is that text's, and a word's text is that word's; two texts of at most seven bytes are one word just if they are one. No condition. -/
import Derived.Test.YtjkifbadbadoaaaPPackBackx1
import Derived.Test.YtjkifbadbadoaaaWordFacts
import Derived.OpenShut
namespace Go.Proofs.Ytjkifbadbadoaaa.Pure
open Go.RowKit Go.Proofs.Ytjkifbadbadoaaa.Hand Go.Proofs.Ytjkifbadbadoaaa.PPackBack Go.Proofs.YtjkifbadbadoaaaW.PrintWords Go.Proofs.YtjkifbadbadoaaaW.PrintLast

theorem PackBack : shellgamelaw4_PackBack.Pure := by
  intro a0 a1 a2 _ _ h2
  have hb := bounds_u64 h2
  refine ⟨3, ?_⟩
  have hs : shellgamelaw4_shown.f = some true := by
    unfold shellgamelaw4_shown.f
    rw [ab_some]
    simp
  have hj1 : ∀ k, shellgamelaw4_PackBack.j1 (k + 1) a2 = some true := by
    intro k
    simp only [shellgamelaw4_PackBack.j1]
    rcases text_cases a2 hb.1 hb.2 with ⟨t, e, _, ew, _⟩ | ⟨e, _⟩
    · rw [e]
      simp only [Option.bind_some, if_true]
      rw [ew]
      simp
    · rw [e]
      simp
  unfold shellgamelaw4_PackBack.f
  rw [hs]
  simp only [Option.bind_some, if_true]
  by_cases c0 : a0.size ≤ 7
  · obtain ⟨W0, w0, l0, m0, _, x0, _, _⟩ := word_some a0 c0
    have c0' : (a0.size : Int) ≤ 7 := by omega
    rw [w0]
    by_cases c1 : a1.size ≤ 7
    · obtain ⟨W1, w1, l1, m1, _, x1, _, _⟩ := word_some a1 c1
      have c1' : (a1.size : Int) ≤ 7 := by omega
      rw [w1]
      have e : ((W0 == W1) != (a0.toList == a1.toList)) = false := by
        have hi := word_inj c0 c1 w0 w1
        by_cases h : a0 = a1
        · have hw := hi.2 h
          subst h; subst hw; simp
        · have hw : W0 ≠ W1 := fun h' => h (hi.1 h')
          have hl : a0.toList ≠ a1.toList := fun h' => h (by
            rw [Lib.toList_data, Lib.toList_data] at h'
            exact ba_ext h')
          rw [beq_eq_false_iff_ne.2 hw, beq_eq_false_iff_ne.2 hl]
          rfl
      simp only [Option.bind_some, c0', c1', decide_true, beq_self_eq_true, bne_self_eq_false, Bool.false_eq_true, if_false]
      simp only [shellgamelaw4_PackBack.j0, Bool.false_eq_true, if_false, if_true]
      rw [x0]
      simp only [Option.bind_some, if_true, e, Bool.false_eq_true, if_false]
      rw [if_neg (by omega)]
      exact hj1 1
    · have c1' : ¬ (a1.size : Int) ≤ 7 := by omega
      rw [word_none a1 c1]
      have e4 : ((4 : Int) == 0) = false := by decide
      simp only [Option.bind_some, c0', c1', decide_true, decide_false, beq_self_eq_true, bne_self_eq_false, e4, Bool.false_eq_true, if_false]
      simp only [shellgamelaw4_PackBack.j0, Bool.false_eq_true, if_false, if_true]
      rw [x0]
      simp only [Option.bind_some, if_true]
      rw [if_neg (by omega), if_neg (by decide)]
      exact hj1 1
  · rw [word_none a0 c0]
    have c0' : ¬ (a0.size : Int) ≤ 7 := by omega
    have e4 : ((4 : Int) == 0) = false := by decide
    by_cases c1 : a1.size ≤ 7
    · obtain ⟨W1, w1, l1, m1, _, x1, _, _⟩ := word_some a1 c1
      rw [w1]
      have c1' : (a1.size : Int) ≤ 7 := by omega
      simp only [Option.bind_some, c0', c1', decide_true, decide_false, beq_self_eq_true, bne_self_eq_false, e4, Bool.false_eq_true, if_false]
      simp only [shellgamelaw4_PackBack.j0, Bool.false_eq_true, if_false]
      rw [if_neg (by decide)]
      exact hj1 1
    · rw [word_none a1 c1]
      have c1' : ¬ (a1.size : Int) ≤ 7 := by omega
      simp only [Option.bind_some, c0', c1', decide_false, bne_self_eq_false, e4, Bool.false_eq_true, if_false]
      simp only [shellgamelaw4_PackBack.j0, Bool.false_eq_true, if_false]
      rw [if_neg (by decide)]
      exact hj1 1
end Go.Proofs.Ytjkifbadbadoaaa.Pure
