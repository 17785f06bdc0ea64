/- A text's word, and a word's text, or what is wrong, are those of the document's reference. No condition. -/
import Derived.Test.YtjkifbadbadoaaaPPackWordsx1
import Derived.Test.YtjkifbadbadoaaaWordFacts
import Derived.OpenShut
namespace Go.Proofs.Ytjkifbadbadoaaa.Pure
open Go.RowKit Go.Proofs.Ytjkifbadbadoaaa.Hand Go.Proofs.Ytjkifbadbadoaaa.PPackWords Go.Proofs.YtjkifbadbadoaaaW.PrintWords Go.Proofs.YtjkifbadbadoaaaW.PrintLast Go.Proofs.YtjkifbadbadoaaaW.PrintMore

theorem PackWords : shellgamelaw4_PackWords.Pure := by
  intro a0 a1 h0 h1
  have hb := bounds_u64 h1
  refine ⟨2, ?_⟩
  have hs : shellgamelaw4_shown.f = some true := by
    unfold shellgamelaw4_shown.f
    rw [ab_some]
    simp
  unfold shellgamelaw4_PackWords.f
  rw [hs]
  simp only [Option.bind_some, if_true]
  by_cases c : a0.size ≤ 1000
  · rw [decide_eq_false (by omega)]
    simp only [shellgamelaw4_PackWords.j0, Bool.false_eq_true, if_false]
    unfold shellgameref4_Word.f shellgameref4_Text.f
    obtain ⟨p, hp⟩ : ∃ p, pack_Word.f a0 = some p := by
      by_cases h : a0.size ≤ 7
      · obtain ⟨W, hw, _⟩ := word_some a0 h
        exact ⟨_, hw⟩
      · exact ⟨_, word_none a0 h⟩
    rw [hp]
    rcases text_cases a1 hb.1 hb.2 with ⟨t, e, _, _, er⟩ | ⟨e, er⟩
    · rw [e, er]
      simp
    · rw [e, er]
      simp
  · rw [decide_eq_true (by omega)]
    simp only [shellgamelaw4_PackWords.j0, if_true]
end Go.Proofs.Ytjkifbadbadoaaa.Pure
