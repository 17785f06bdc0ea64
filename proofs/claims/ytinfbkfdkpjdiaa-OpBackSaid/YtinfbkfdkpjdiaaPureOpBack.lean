/- A right operation's bytes are that operation's; an operation that was read has those bytes; with a byte less, or one more, they are none. No condition. -/
import Derived.Test.YtinfbkfdkpjdiaaPOpBackx2
import Derived.Test.YtinfbkfdkpjdiaaOpDecode
import Derived.OpenShut
namespace Go.Proofs.Ytinfbkfdkpjdiaa.Pure
open Go.RowKit Go.Proofs.Ytinfbkfdkpjdiaa.Hand Go.Proofs.Ytinfbkfdkpjdiaa.POpBack Go.Proofs.YtinfbkfdkpjdiaaW.PrintWords Go.Proofs.YtinfbkfdkpjdiaaW.PrintLast Go.Proofs.YtinfbkfdkpjdiaaW.PrintMore
set_option linter.unusedVariables false

namespace OpBackAid
theorem word_of {s : ByteArray} {W e : Int} (h : pack_Word.f s = some (W, e)) : shellgamelaw17_word.f s = some W := by
  unfold shellgamelaw17_word.f
  rw [h]
  rfl
theorem shown_true : shellgamelaw17_shown.f = some true := by
  obtain ⟨W1, W2, w1, w2, h⟩ := shown_bytes
  unfold shellgamelaw17_shown.f
  rw [word_of w1, Option.bind_some, word_of w2, Option.bind_some, h, Option.bind_some]
  rw [mk_toList]
  rfl
theorem app_mk (x y : List UInt8) : (⟨x.toArray⟩ : ByteArray) ++ ⟨y.toArray⟩ = ⟨(x ++ y).toArray⟩ := by
  refine ba_ext ?_
  simp
theorem ex_less (x : List UInt8) : (⟨x.toArray⟩ : ByteArray).extract 0 (x.length - 1) = ⟨x.dropLast.toArray⟩ := by
  rw [mk_extract, List.drop_zero, Nat.sub_zero, List.dropLast_eq_take]
end OpBackAid
open OpBackAid
theorem read_true (s : ByteArray) : shellgamelaw17_OpBack.j1 1 s = some true := by
  simp only [shellgamelaw17_OpBack.j1]
  obtain ⟨p, hp, ho⟩ := parse_decode s
  rw [hp, Option.bind_some]
  cases hd : Hand.decode s.data.toList with
  | form =>
    rw [hd] at ho
    obtain rfl : p = (0, 0, 0, 0, 3) := ho
    rw [if_neg (by decide)]
    rfl
  | long =>
    rw [hd] at ho
    obtain rfl : p = (0, 0, 0, 0, 4) := ho
    rw [if_neg (by decide)]
    rfl
  | ok o f tk tv =>
    rw [hd] at ho
    obtain ⟨_, _, K, V, w1, w2, rfl⟩ := ho
    obtain ⟨A, hb⟩ := decode_opn hd w1 w2
    rw [if_pos rfl, opn_right A, Option.bind_some, if_pos rfl, A.bytes, Option.bind_some, hb]
    simp
theorem OpBack : shellgamelaw17_OpBack.Pure := by
  intro o K V f s c _ h1 h2 _ _ hc
  have d1 := bounds_u64 h1
  have d2 := bounds_u64 h2
  refine ⟨2, ?_⟩
  unfold shellgamelaw17_OpBack.f
  rw [shown_true, Option.bind_some, if_pos rfl]
  by_cases c0 : (s.size : Int) > 2000
  · rw [decide_eq_true c0]
    simp only [shellgamelaw17_OpBack.j0, if_true]
  · rw [decide_eq_false c0]
    simp only [shellgamelaw17_OpBack.j0, Bool.false_eq_true, if_false]
    rcases op_cases o K V f d1.1 d1.2 d2.1 d2.2 with ⟨tk, tv, A, hr⟩ | ⟨hb, hr⟩
    · have hne := bytesOp_ne o f tk tv
      have hn : (bytesOp o f tk tv != ([] : List UInt8)) = true := by simpa using hne
      have hl : 1 ≤ (bytesOp o f tk tv).length := by
        cases h : bytesOp o f tk tv with
        | nil => exact absurd h hne
        | cons x y => simp
      have hz : (bytesOp o f tk tv).length ≤ 1000 := by
        have := A.sk; have := A.sv
        have e1 := cnt_length tk
        have e2 := cnt_length tv
        unfold bytesOp
        split
        · simp only [List.length_cons, List.length_append]; omega
        · split
          · simp
          · simp only [List.length_cons]; omega
      rw [A.bytes, hr, Option.bind_some, Option.bind_some, mk_toList, hn, if_neg (by decide), if_neg hne, parse_back A, Option.bind_some, mk_size]
      have e1 : wrap64 (((bytesOp o f tk tv).length : Int) - 1) = (((bytesOp o f tk tv).length - 1 : Nat) : Int) := by unfold wrap64; omega
      rw [e1, if_pos (by omega), if_pos (by omega), Int.toNat_natCast, ex_less, parse_less A, Option.bind_some, Option.bind_some]
      have e2 : strOfNums [c] = ⟨[UInt8.ofNat c.toNat].toArray⟩ := rfl
      rw [e2, mk_size, if_pos (by simp only [List.length_singleton]; omega), app_mk, parse_more A, Option.bind_some]
      have e3 : (!(o == o) || (!(K == K) || (!(V == V) || (!(f == f))))) = false := by simp
      simp only [e3]
      rw [if_neg (by decide)]
      exact read_true s
    · rw [hb, hr, Option.bind_some, Option.bind_some, empty_toList]
      rw [show ((([] : List UInt8) != []) != false) = false from rfl, if_neg (by decide), if_pos rfl]
      exact read_true s
end Go.Proofs.Ytinfbkfdkpjdiaa.Pure
