/- Two operations that are right and unlike are other bytes, and none is the beginning of another one. No condition. -/
import Derived.Test.YtinfbkfdkpjdiaaPOpApartx
import Derived.Test.YtinfbkfdkpjdiaaOpFacts
import Derived.OpenShut
namespace Go.Proofs.Ytinfbkfdkpjdiaa.Pure
open Go.RowKit Go.Proofs.Ytinfbkfdkpjdiaa.Hand Go.Proofs.Ytinfbkfdkpjdiaa.POpApart Go.Proofs.YtinfbkfdkpjdiaaW.PrintWords Go.Proofs.YtinfbkfdkpjdiaaW.PrintLast Go.Proofs.YtinfbkfdkpjdiaaW.PrintMore
set_option linter.unusedVariables false

namespace OpApartAid
theorem word_of {s : ByteArray} {W e : Int} (h : pack_Word.f s = some (W, e)) : shellgamelaw17_word.f s = some W := by
  unfold shellgamelaw17_word.f
  rw [h]
  rfl
theorem shown_true : shellgamelaw17_shown.f = some true := by
  obtain ⟨W1, W2, w1, w2, h⟩ := shown_bytes
  unfold shellgamelaw17_shown.f
  rw [word_of w1, Option.bind_some, word_of w2, Option.bind_some, h, Option.bind_some]
  rw [mk_toList]
  rfl
end OpApartAid
open OpApartAid
theorem OpApart : shellgamelaw17_OpApart.Pure := by
  intro o K V f o' K' V' f' _ h1 h2 _ _ h3 h4 _
  have d1 := bounds_u64 h1
  have d2 := bounds_u64 h2
  have d3 := bounds_u64 h3
  have d4 := bounds_u64 h4
  refine ⟨1, ?_⟩
  unfold shellgamelaw17_OpApart.f
  rw [shown_true, Option.bind_some]
  have he := empty_toList
  rcases op_cases o K V f d1.1 d1.2 d2.1 d2.2 with ⟨tk, tv, A, _⟩ | ⟨A, _⟩
  · rw [A.bytes, Option.bind_some]
    rcases op_cases o' K' V' f' d3.1 d3.2 d4.1 d4.2 with ⟨tk', tv', B, _⟩ | ⟨B, _⟩
    · rw [B.bytes, Option.bind_some, if_pos rfl, mk_toList, if_neg (bytesOp_ne _ _ _ _), mk_toList]
      have hn : (bytesOp o' f' tk' tv' == ([] : List UInt8)) = false := by simpa using bytesOp_ne _ _ _ _
      rw [hn]
      simp only [shellgamelaw17_OpApart.j0, Bool.false_eq_true, if_false]
      rw [mk_toList, mk_toList, mk_size, mk_size, Int.toNat_natCast, Lib.toList_data, Lib.extract_data]
      have hp := op_prefix A B
      have hq : o = o' ∧ K = K' ∧ V = V' ∧ f = f' → bytesOp o f tk tv = bytesOp o' f' tk' tv' := by
        rintro ⟨rfl, rfl, rfl, rfl⟩
        have e1 := Option.some.inj (A.hK.symm.trans B.hK)
        have e2 := Option.some.inj (A.hV.symm.trans B.hV)
        rw [(Prod.mk.inj e1).1, (Prod.mk.inj e2).1]
      show (if ((bytesOp o f tk tv == bytesOp o' f' tk' tv') != (o == o' && (K == K' && (V == V' && (f == f'))))) = true then _ else _) = _
      generalize bytesOp o f tk tv = s at *
      generalize bytesOp o' f' tk' tv' = t at *
      have hb : (o == o' && (K == K' && (V == V' && (f == f')))) = decide (o = o' ∧ K = K' ∧ V = V' ∧ f = f') := by
        rw [Bool.eq_iff_iff]
        simp
      rw [hb]
      by_cases hst : s = t
      · have hall := hp (by rw [hst]; exact List.prefix_refl _)
        rw [decide_eq_true hall, hst]
        simp
      · have hall : ¬ (o = o' ∧ K = K' ∧ V = V' ∧ f = f') := fun h => hst (hq h)
        have hf : (s == t) = false := by simpa using hst
        rw [decide_eq_false hall, hf, if_neg (by decide), if_neg hst]
        by_cases hl : (s.length : Int) ≥ (t.length : Int)
        · rw [if_pos hl]
        · rw [if_neg hl, if_pos (by omega), if_pos (by omega)]
          have : List.take (s.length - 0) (List.drop 0 t) ≠ s := by
            intro h
            rw [Nat.sub_zero, List.drop_zero] at h
            exact hst (hq (hp ⟨t.drop s.length, by conv => lhs; lhs; rw [← h]
                                                   rw [List.take_append_drop]⟩))
          simpa using this
    · rw [B, Option.bind_some, if_pos rfl, mk_toList, if_neg (bytesOp_ne _ _ _ _), he]
      simp only [shellgamelaw17_OpApart.j0, BEq.rfl, if_true]
  · rw [A, Option.bind_some]
    obtain ⟨r, hr⟩ : ∃ r, op_Bytes.f o' K' V' f' = some r := by
      rcases op_cases o' K' V' f' d3.1 d3.2 d4.1 d4.2 with ⟨tk', tv', B, _⟩ | ⟨B, _⟩
      · exact ⟨_, B.bytes⟩
      · exact ⟨_, B⟩
    rw [hr, Option.bind_some, if_pos rfl, he, if_pos rfl]
    simp only [shellgamelaw17_OpApart.j0, if_true]
end Go.Proofs.Ytinfbkfdkpjdiaa.Pure
