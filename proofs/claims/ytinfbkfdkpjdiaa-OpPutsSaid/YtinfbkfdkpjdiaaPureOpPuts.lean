/- A Put's bytes have its time, its value, and its key, in this order, each as long as it is told to be. No condition. -/
import Derived.Test.YtinfbkfdkpjdiaaPOpPutsx
import Derived.Test.YtinfbkfdkpjdiaaOpFacts
import Derived.OpenShut
namespace Go.Proofs.Ytinfbkfdkpjdiaa.Pure
open Go.RowKit Go.Proofs.Ytinfbkfdkpjdiaa.Hand Go.Proofs.Ytinfbkfdkpjdiaa.POpPuts Go.Proofs.YtinfbkfdkpjdiaaW.PrintWords Go.Proofs.YtinfbkfdkpjdiaaW.PrintLast Go.Proofs.YtinfbkfdkpjdiaaW.PrintMore
set_option linter.unusedVariables false

namespace OpPutsAid
theorem word_of {s : ByteArray} {W e : Int} (h : pack_Word.f s = some (W, e)) : shellgamelaw17_word.f s = some W := by
  unfold shellgamelaw17_word.f
  rw [h]
  rfl
theorem shown_true : shellgamelaw17_shown.f = some true := by
  obtain ⟨W1, W2, w1, w2, h⟩ := shown_bytes
  unfold shellgamelaw17_shown.f
  rw [word_of w1, Option.bind_some, word_of w2, Option.bind_some, h, Option.bind_some]
  rw [mk_toList]
  rfl
theorem puts_arith (n m T : Nat) (f : Int) (hz : T = 5 + n + m) (hn : (n : Int) ≤ 7) (hm : (m : Int) ≤ 7) (h0 : 0 ≤ f) (h1 : f ≤ 65535) :
    wrap64 (5 + (n : Int)) = ((5 + n : Nat) : Int) ∧ wrap64 (((5 + n : Nat) : Int) + (m : Int)) = T ∧ wrap64 (4 + (n : Int)) = ((4 + n : Nat) : Int) ∧
    wrap64 (wrap64 (f % 256) + wrap64 (256 * wrap64 (f / 256))) = f ∧ wrap64 (n : Int) = n ∧ wrap64 (m : Int) = m := by
  have hw0 : ∀ x : Int, 0 ≤ x → x ≤ 100000 → wrap64 x = x := by intro x _ _; unfold wrap64; omega
  have f4 : f % 256 + 256 * (f / 256) = f := by omega
  refine ⟨?_, ?_, ?_, ?_, hw0 _ (by omega) (by omega), hw0 _ (by omega) (by omega)⟩
  · rw [hw0 _ (by omega) (by omega)]; omega
  · rw [hw0 _ (by omega) (by omega)]; omega
  · rw [hw0 _ (by omega) (by omega)]; omega
  · rw [hw0 (f % 256) (by omega) (by omega), hw0 (f / 256) (by omega) (by omega), hw0 (256 * (f / 256)) (by omega) (by omega), f4, hw0 f (by omega) (by omega)]
theorem puts_bounds (n m T : Nat) (hz : T = 5 + n + m) : 0 < (T : Int) ∧ 1 < (T : Int) ∧ 2 < (T : Int) ∧ 3 < (T : Int) ∧ (4 : Int) ≤ ((4 + n : Nat) : Int) ∧ ((4 + n : Nat) : Int) ≤ T ∧ 0 ≤ ((4 + n : Nat) : Int) ∧ ((4 + n : Nat) : Int) < T ∧
    0 ≤ ((5 + n : Nat) : Int) ∧ ((5 + n : Nat) : Int) ≤ T := by omega
end OpPutsAid
open OpPutsAid
theorem OpPuts : shellgamelaw17_OpPuts.Pure := by
  intro a0 a1 a2 _ _ hw
  refine ⟨1, ?_⟩
  unfold shellgamelaw17_OpPuts.f
  rw [shown_true, Option.bind_some, if_pos rfl]
  by_cases c0 : (a0.size : Int) > 7
  · rw [if_pos c0]
    simp only [shellgamelaw17_OpPuts.j0, if_true]
  · rw [if_neg c0]
    by_cases c1 : (a1.size : Int) > 7
    · rw [decide_eq_true c1]
      simp only [shellgamelaw17_OpPuts.j0, if_true]
    · rw [decide_eq_false c1]
      simp only [shellgamelaw17_OpPuts.j0, Bool.false_eq_true, if_false]
      obtain ⟨K, w0, l0, m0, z0, x0, r0, q0⟩ := word_some a0 (by omega)
      obtain ⟨V, w1, l1, m1, z1, x1, r1, q1⟩ := word_some a1 (by omega)
      rw [word_of w0, Option.bind_some, word_of w1, Option.bind_some, bytes_right 3 a2 K V a0 a1 x0 r0 x1 r1]
      have hr : rightOp 3 K V a2 true true = (decide (0 ≤ a2) && decide (a2 ≤ 65535)) := by
        unfold rightOp
        rw [if_pos rfl]
        simp
      rw [hr]
      clear w0 w1 x0 x1 r0 r1 q0 q1
      by_cases h0 : a2 < 0
      · rw [decide_eq_false (by omega), Bool.false_and, if_neg (by decide), Option.bind_some, if_pos h0, empty_toList]
        rfl
      · by_cases h1 : a2 > 65535
        · rw [decide_eq_false (p := a2 ≤ 65535) (by omega), Bool.and_false, if_neg (by decide), Option.bind_some, if_neg h0, if_pos h1, empty_toList]
          rfl
        · rw [decide_eq_true (p := 0 ≤ a2) (by omega), decide_eq_true (p := a2 ≤ 65535) (by omega), if_pos (show (true && true) = true from rfl), Option.bind_some, if_neg h0, if_neg h1]
          obtain ⟨t, ht, hz, b0, b1, b2, b3, hx, b4, hy⟩ := puts_facts a2 (by omega) (by omega) a0 a1 (by omega) (by omega)
          rw [ht]
          clear ht
          obtain ⟨e6, e5, e4, e7, e8, e9⟩ := puts_arith a1.size a0.size t.size a2 hz (by omega) (by omega) (by omega) (by omega)
          obtain ⟨g1, g2, g3, g4, g5, g6, g7, g8, g9, g10⟩ := puts_bounds a1.size a0.size t.size hz
          clear hz l0 m0 z0 l1 m1 z1 hr hw h0 h1 c0 c1
          rw [e6, e5, e4, b0, b1, b2, b3, b4, e7, e8, e9, Int.toNat_natCast, Int.toNat_natCast, hx, hy]
          rw [if_pos rfl, if_pos g1, if_pos rfl, if_pos g2, if_pos g3, if_pos rfl, if_pos g4, if_pos rfl, if_pos g5, if_pos g6, if_pos rfl, if_pos g7, if_pos g8, if_pos rfl, if_pos g9, if_pos g10]
          simp
end Go.Proofs.Ytinfbkfdkpjdiaa.Pure
