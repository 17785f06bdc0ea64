/- Two words are stirred alike only if they are one: from what is stirred the word can be told. No condition. -/
import Derived.Test.YtjkifbadbadoaaaPHashStirsx1
import Derived.Test.YtjkifbadbadoaaaHashFacts
import Derived.OpenShut
namespace Go.Proofs.Ytjkifbadbadoaaa.Pure
open Go.RowKit Go.Proofs.Ytjkifbadbadoaaa.Hand Go.Proofs.Ytjkifbadbadoaaa.PHashStirs Go.Proofs.YtjkifbadbadoaaaW.PrintWords Go.Proofs.YtjkifbadbadoaaaW.PrintLast Go.Proofs.YtjkifbadbadoaaaW.PrintMore

namespace HashStirsAid
theorem shown_true : shellgamelaw12_shown.f = some true := by
  unfold shellgamelaw12_shown.f
  rw [of_nil, Option.bind_some]
  unfold hash_At.f hash_Mix.f
  rw [at_shown, mix_0, mix_1]
  simp
theorem mix_f (a : Int) : hash_Mix.f a = some (mixN a) := rfl
end HashStirsAid
open HashStirsAid

theorem HashStirs : shellgamelaw12_HashStirs.Pure := by
  intro a0 a1 h0 h1
  have b0 := bounds_u64 h0
  have b1 := bounds_u64 h1
  unfold shellgamelaw12_HashStirs.f
  rw [shown_true, mix_f, mix_f, Option.bind_some, Option.bind_some]
  have hu := fun y hy => unmix a0 y _ b0.1 b0.2 hy rfl
  have hi := mix_inj a0 a1 b0.1 b0.2 b1.1 b1.2
  have hc : a0 = a1 → mixN a0 = mixN a1 := fun e => by rw [e]
  generalize hy : mixN a0 = y at *
  generalize mixN a1 = z at *
  rw [if_pos rfl, if_pos (hu y rfl), Option.bind_some, Option.bind_some]
  by_cases e : a0 = a1
  · rw [beq_iff_eq.2 e, beq_iff_eq.2 (hc e)]
    rfl
  · rw [beq_eq_false_iff_ne.2 e, beq_eq_false_iff_ne.2 (fun h => e (hi h))]
    rfl
end Go.Proofs.Ytjkifbadbadoaaa.Pure
