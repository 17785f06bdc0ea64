/- A word is a text's just if what is above its first bytes, up to the highest one, is noughts; texts of one length are in the order of their bytes, from behind, as words. No condition. -/
import Derived.Test.YtjkifbadbadoaaaPPackRightx1
import Derived.Test.YtjkifbadbadoaaaWordFacts
import Derived.OpenShut
namespace Go.Proofs.Ytjkifbadbadoaaa.Pure
open Go.RowKit Go.Proofs.Ytjkifbadbadoaaa.Hand Go.Proofs.Ytjkifbadbadoaaa.PPackRight Go.Proofs.YtjkifbadbadoaaaW.PrintWords Go.Proofs.YtjkifbadbadoaaaW.PrintLast Go.Proofs.YtjkifbadbadoaaaW.PrintMore

theorem wrap64_id {i : Int} (h0 : -9223372036854775808 ≤ i) (h : i ≤ 9223372036854775807) : wrap64 i = i := by
  unfold wrap64
  omega
theorem bt_nat (s : ByteArray) (i : Nat) (h : i < s.data.toList.length) : bt s i = ((s.data.toList[i]).toNat : Int) := by
  have h' : i < s.size := by rw [size_list] at h; exact h
  unfold bt
  simp only [Int.toNat_natCast, h', dif_pos]
  rfl
theorem leN_at (l : List UInt8) (i : Nat) (h : i < l.length) : leN l = leN (l.take i) + 256 ^ i * (l[i].toNat + 256 * leN (l.drop (i + 1))) := by
  have e : l = l.take i ++ (l[i] :: l.drop (i + 1)) := by rw [List.getElem_cons_drop, List.take_append_drop]
  have hl : (l.take i).length = i := by rw [List.length_take]; omega
  have := leN_append (l.take i) (l[i] :: l.drop (i + 1))
  rw [← e, hl] at this
  exact this
theorem leN_less {a b c : List UInt8} {x y i : Nat} (ha : leN a < 256 ^ i) (h : x < y) : leN a + 256 ^ i * (x + 256 * leN c) < leN b + 256 ^ i * (y + 256 * leN c) := by
  have h1 : 256 ^ i * (x + 256 * leN c) + 256 ^ i ≤ 256 ^ i * (y + 256 * leN c) := by
    rw [← Nat.mul_succ]
    exact Nat.mul_le_mul_left _ (by omega)
  omega

theorem order (s t : ByteArray) (A B : Int) (hz : s.size = t.size) (h7 : s.size ≤ 7)
    (hA : A = leN s.data.toList + s.size * 72057594037927936) (hB : B = leN t.data.toList + t.size * 72057594037927936) :
    ∀ (n k : Nat), n ≤ s.size → n < k → s.data.toList.drop n = t.data.toList.drop n → shellgamelaw4_PackRight.l0 k s t A B ((n : Int) - 1) = some true := by
  intro n
  induction n with
  | zero =>
    intro k _ hk hd
    obtain ⟨k, rfl⟩ : ∃ m, k = m + 1 := ⟨k - 1, by omega⟩
    simp only [shellgamelaw4_PackRight.l0]
    rw [if_neg (by omega)]
    simp only [List.drop_zero] at hd
    have : A = B := by rw [hA, hB, hd, hz]
    rw [this]
    simp
  | succ n ih =>
    intro k hn hk hd
    obtain ⟨k, rfl⟩ : ∃ m, k = m + 1 := ⟨k - 1, by omega⟩
    have ls := size_list s
    have lt := size_list t
    have e1 : ((n + 1 : Nat) : Int) - 1 = n := by omega
    rw [e1]
    simp only [shellgamelaw4_PackRight.l0]
    rw [if_pos (by omega), if_pos (by omega), if_pos (by omega), if_pos (by omega), bt_nat s n (by omega), bt_nat t n (by omega)]
    by_cases he : ((s.data.toList[n]'(by omega)).toNat : Int) = ((t.data.toList[n]'(by omega)).toNat : Int)
    · rw [if_pos he]
      rw [wrap64_id (by omega) (by omega)]
      refine ih k (by omega) (by omega) ?_
      have hc : s.data.toList[n]'(by omega) = t.data.toList[n]'(by omega) := UInt8.toNat_inj.1 (by omega)
      rw [← List.getElem_cons_drop (by omega : n < s.data.toList.length), ← List.getElem_cons_drop (by omega : n < t.data.toList.length), hc, hd]
    · rw [if_neg he]
      have s1 := leN_at s.data.toList n (by omega)
      have t1 := leN_at t.data.toList n (by omega)
      rw [hd] at s1
      have sb : leN (s.data.toList.take n) < 256 ^ n := by
        have := leN_lt (s.data.toList.take n)
        rwa [List.length_take, Nat.min_eq_left (by omega)] at this
      have tb : leN (t.data.toList.take n) < 256 ^ n := by
        have := leN_lt (t.data.toList.take n)
        rwa [List.length_take, Nat.min_eq_left (by omega)] at this
      rcases Nat.lt_or_ge (s.data.toList[n]'(by omega)).toNat (t.data.toList[n]'(by omega)).toNat with h | h
      · have hl := leN_less (b := t.data.toList.take n) (c := t.data.toList.drop (n + 1)) sb h
        rw [← s1, ← t1] at hl
        have h1 : A < B := by rw [hA, hB, hz]; omega
        have h2 : ((s.data.toList[n]'(by omega)).toNat : Int) < ((t.data.toList[n]'(by omega)).toNat : Int) := by omega
        rw [decide_eq_true h1, decide_eq_true h2]
        rfl
      · have h' : (t.data.toList[n]'(by omega)).toNat < (s.data.toList[n]'(by omega)).toNat := by omega
        have hl := leN_less (b := s.data.toList.take n) (c := t.data.toList.drop (n + 1)) tb h'
        rw [← s1, ← t1] at hl
        have h1 : ¬ A < B := by rw [hA, hB, hz]; omega
        have h2 : ¬ ((s.data.toList[n]'(by omega)).toNat : Int) < ((t.data.toList[n]'(by omega)).toNat : Int) := by omega
        rw [decide_eq_false h1, decide_eq_false h2]
        rfl

theorem right_val (n : Int) (h0 : 0 ≤ n) (h1 : n ≤ 18446744073709551615) (h7 : n / 72057594037927936 ≤ 6) :
    rightB n = (shr .u64 ((IntKind.u64.wrap (n * 256)) / 256) (IntKind.u64.wrap (8 * (n / 72057594037927936))) == 0) := by
  have e1 : IntKind.u64.wrap (n * 256) / 256 = n % 72057594037927936 := by
    rw [IntKind.wrap_u64]; omega
  obtain ⟨m, hm⟩ := Int.eq_ofNat_of_zero_le (show 0 ≤ n / 72057594037927936 by omega)
  have hi := rightB_iff n h0
  have e2 : IntKind.u64.wrap (8 * (m : Int)) = ((8 * m : Nat) : Int) := by rw [IntKind.wrap_u64]; omega
  have h6 : m ≤ 6 := by omega
  rw [hm] at hi
  rw [e1, hm, e2]
  unfold shr
  have hb : IntKind.u64.bits = 64 := rfl
  rw [hb, Int.toNat_natCast, Nat.min_eq_left (by omega)]
  simp only [Int.toNat_natCast] at hi
  rw [Bool.eq_iff_iff, hi, beq_iff_eq]
  obtain rfl | rfl | rfl | rfl | rfl | rfl | rfl : m = 0 ∨ m = 1 ∨ m = 2 ∨ m = 3 ∨ m = 4 ∨ m = 5 ∨ m = 6 := by omega
  all_goals
    constructor
    · intro ⟨_, h⟩
      simp only [Nat.reduceMul, Int.reducePow] at h ⊢
      omega
    · intro h
      refine ⟨by omega, ?_⟩
      simp only [Nat.reduceMul, Int.reducePow] at h ⊢
      omega

theorem PackRight : shellgamelaw4_PackRight.Pure := by
  intro a0 a1 a2 h0 h1 h2
  have hb := bounds_u64 h0
  refine ⟨20, ?_⟩
  have hs : shellgamelaw4_shown.f = some true := by
    unfold shellgamelaw4_shown.f
    rw [ab_some]
    simp
  have e4 : ((4 : Int) == 0) = false := by decide
  have hR : pack_Right.f a0 = some (rightB a0) := by unfold pack_Right.f; rw [if_pos hb.1, if_pos hb.2]
  generalize hrb : rightB a0 = rb at hR
  have hj0 : shellgamelaw4_PackRight.j0 20 a0 a1 a2 true rb = some true := by
    simp only [shellgamelaw4_PackRight.j0, if_true]
    rw [hR]
    simp only [Option.bind_some, bne_self_eq_false, Bool.false_eq_true, if_false]
    by_cases c1 : a1.size ≤ 7
    · obtain ⟨W1, w1, l1, m1, z1, _, _, q1⟩ := word_some a1 c1
      rw [w1]
      have ez : ((W1 / 72057594037927936) != IntKind.u64.wrap (a1.size : Int)) = false := by
        rw [z1, IntKind.wrap_u64, Int.emod_eq_of_lt (by omega) (by omega)]
        simp
      by_cases c2 : a2.size ≤ 7
      · obtain ⟨W2, w2, l2, m2, z2, _, _, q2⟩ := word_some a2 c2
        rw [w2]
        simp only [Option.bind_some, if_true, ez]
        simp only [shellgamelaw4_PackRight.j1, Bool.false_eq_true, if_false, if_true]
        by_cases c3 : a1.size = a2.size
        · have e3 : ((a1.size : Int) != (a2.size : Int)) = false := by rw [c3]; simp
          rw [e3]
          simp only [shellgamelaw4_PackRight.j2, Bool.false_eq_true, if_false]
          rw [wrap64_id (by omega) (by omega)]
          refine order a1 a2 W1 W2 c3 c1 q1 q2 a1.size _ (Nat.le_refl _) (by omega) ?_
          rw [List.drop_of_length_le (by rw [size_list]; exact Nat.le_refl _), List.drop_of_length_le (by rw [size_list]; omega)]
        · have e3 : ((a1.size : Int) != (a2.size : Int)) = true := by rw [bne_iff_ne]; omega
          rw [e3]
          simp only [shellgamelaw4_PackRight.j2, if_true]
      · rw [word_none a2 c2]
        simp only [Option.bind_some, if_true, ez]
        simp only [shellgamelaw4_PackRight.j1, Bool.false_eq_true, if_false, if_true]
        rw [if_neg (by decide)]
        simp only [shellgamelaw4_PackRight.j2, if_true]
    · rw [word_none a1 c1]
      by_cases c2 : a2.size ≤ 7
      · obtain ⟨W2, w2, _⟩ := word_some a2 c2
        rw [w2]
        simp only [Option.bind_some]
        rw [if_neg (by decide)]
        simp only [shellgamelaw4_PackRight.j1, Bool.false_eq_true, if_false]
        rw [if_neg (by decide)]
        simp only [shellgamelaw4_PackRight.j2, if_true]
        rw [if_neg (by decide)]
        rfl
      · rw [word_none a2 c2]
        simp only [Option.bind_some]
        rw [if_neg (by decide)]
        simp only [shellgamelaw4_PackRight.j1, Bool.false_eq_true, if_false]
        rw [if_neg (by decide)]
        simp only [shellgamelaw4_PackRight.j2, if_true]
        rw [if_neg (by decide)]
        rfl
  unfold shellgamelaw4_PackRight.f
  rw [hs]
  simp only [Option.bind_some]
  by_cases c : a0 / 72057594037927936 ≤ 7
  · rw [if_pos c]
    by_cases c7 : a0 / 72057594037927936 = 7
    · rw [if_pos c7]
      have : rb = true := by
        rw [← hrb, rightB_iff a0 hb.1, c7]
        exact ⟨by omega, rfl⟩
      rw [this] at hj0
      exact hj0
    · rw [if_neg c7, if_pos (by rw [IntKind.wrap_u64]; omega)]
      rw [← right_val a0 hb.1 hb.2 (by omega), hrb]
      exact hj0
  · rw [if_neg c]
    have : rb = false := by
      rw [← hrb, Bool.eq_false_iff]
      intro h
      exact c ((rightB_iff a0 hb.1).1 h).1
    rw [this] at hj0
    exact hj0
end Go.Proofs.Ytjkifbadbadoaaa.Pure
