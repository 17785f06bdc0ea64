/- The contract of shellgameref4.Text, the reference's text of a word: it is pack.Text's. -/
import Derived.Test.YtinfbkfdkpjdiaaPTextx1
import Derived.Test.YtinfbkfdkpjdiaaWordFacts
namespace Go.Proofs.Ytinfbkfdkpjdiaa.Hand
open Go.RowKit Go.Proofs.YtinfbkfdkpjdiaaW.PrintWords Go.Proofs.YtinfbkfdkpjdiaaW.PrintLast Go.Proofs.YtinfbkfdkpjdiaaW.PrintMore
set_option linter.unusedVariables false

theorem bytesN_snoc (m : Nat) : ∀ n, bytesN n (m + 1) = bytesN n m ++ [UInt8.ofNat (n / 256 ^ m % 256)] := by
  induction m with
  | zero => intro n; simp [bytesN]
  | succ m ih =>
    intro n
    rw [bytesN, ih, bytesN, List.cons_append, Nat.div_div_eq_div_mul, Nat.pow_succ, Nat.mul_comm (256 ^ m) 256]
theorem bytesN_length (m : Nat) : ∀ n, (bytesN n m).length = m := by
  induction m with
  | zero => intro n; rfl
  | succ m ih => intro n; rw [bytesN, List.length_cons, ih]
def numsN (n m : Nat) : List Int := (bytesN n m).map fun b => (b.toNat : Int)
theorem strOfNums_numsN (n m : Nat) : strOfNums (numsN n m) = ⟨(bytesN n m).toArray⟩ := by
  unfold strOfNums numsN
  rw [List.map_map]
  congr 2
  conv => rhs; rw [← List.map_id (bytesN n m)]
  apply List.map_congr_left
  intro b _
  simp

theorem ref_text_loop (n m : Nat) (hn : n < 18446744073709551616) (hm : n / 72057594037927936 = m) (h7 : m ≤ 7) : ∀ (d k i : Nat), i + d = m → d < k →
    PText.shellgameref4_Text.l0 k n m (numsN n i) i = pack_Text.f n := by
  intro d
  induction d with
  | zero =>
    intro k i hi hk
    obtain ⟨k, rfl⟩ : ∃ m, k = m + 1 := ⟨k - 1, by omega⟩
    obtain rfl : i = m := by omega
    simp only [PText.shellgameref4_Text.l0]
    have ew : wrap64 (i : Int) = i := by unfold wrap64; omega
    rw [ew, if_neg (by omega), strOfNums_numsN]
    have hz : (⟨(bytesN n i).toArray⟩ : ByteArray).size ≤ 7 := by
      show (bytesN n i).toArray.size ≤ 7
      rw [List.size_toArray, bytesN_length]; exact h7
    have et : textS n = ⟨(bytesN n i).toArray⟩ := by
      unfold textS
      have : ((n : Int) / 72057594037927936).toNat = i := by omega
      rw [this, textL_bytesN n i h7]
    unfold shellgameref4_Word.f pack_Word.f
    rw [if_pos hz]
    unfold pack_Text.f rightB
    rw [et]
    generalize wordN ⟨(bytesN n i).toArray⟩ = q
    have h8 : decide ((n : Int) / 72057594037927936 ≤ 7) = true := decide_eq_true (by omega)
    rw [if_pos (by omega), if_pos (by omega), h8]
    rw [Option.bind_some, Bool.true_and]
    by_cases hq : q = (n : Int)
    · rw [if_pos hq, if_pos (decide_eq_true hq)]
    · rw [if_neg hq, if_neg (by rw [decide_eq_false hq]; exact Bool.false_ne_true)]
      rfl
  | succ d ih =>
    intro k i hi hk
    obtain ⟨k, rfl⟩ : ∃ m, k = m + 1 := ⟨k - 1, by omega⟩
    simp only [PText.shellgameref4_Text.l0]
    have ew : wrap64 (m : Int) = m := by unfold wrap64; omega
    have e8 : wrap64 (8 * (i : Int)) = ((8 * i : Nat) : Int) := by unfold wrap64; omega
    have e1 : wrap64 ((i : Int) + 1) = ((i + 1 : Nat) : Int) := by unfold wrap64; omega
    have hl : (numsN n i).length = i := by unfold numsN; rw [List.length_map, bytesN_length]
    rw [ew, e8, e1, if_pos (by omega), if_pos (by omega), if_pos (by rw [hl]; omega)]
    have es : numsN n i ++ [shr .u64 (n : Int) ((8 * i : Nat) : Int) % 256] = numsN n (i + 1) := by
      unfold numsN
      rw [bytesN_snoc, List.map_append]
      congr 1
      simp only [List.map_cons, List.map_nil]
      congr 1
      unfold shr
      have hb : IntKind.u64.bits = 64 := rfl
      rw [hb, Int.toNat_natCast, Nat.min_eq_left (by omega), UInt8.toNat_ofNat']
      have hp : (2 : Int) ^ (8 * i) = ((256 ^ i : Nat) : Int) := by rw [Int.natCast_pow, Int.pow_mul]; rfl
      rw [hp]
      omega
    rw [es]
    exact ih k (i + 1) (by omega) (by omega)

def shellgameref4_Text.f (a0 : Int) : Option (ByteArray × Int) := pack_Text.f a0
theorem shellgameref4_Text.calls (a0 : Int) (r1 : ByteArray) (r2 : Int) (w : World) (h : shellgameref4_Text.f a0 = some (r1, r2)) :
    Calls Try.prog 37 #[.int .u64 a0] w fun e w' => e = .returned (.tuple #[.string r1, .int .i64 r2]) ∧ Below w.heap.size w w' := by
  refine PText.shellgameref4_Text.calls 9 a0 r1 r2 w ?_
  unfold shellgameref4_Text.f at h
  rw [← h]
  unfold PText.shellgameref4_Text.f
  by_cases h0 : 0 ≤ a0
  · by_cases h1 : a0 ≤ 18446744073709551615
    · obtain ⟨n, rfl⟩ := Int.eq_ofNat_of_zero_le h0
      obtain ⟨m, hm⟩ : ∃ m : Nat, n / 72057594037927936 = m := ⟨_, rfl⟩
      have e : IntKind.u64.wrap (Int.tdiv (n : Int) 72057594037927936) = (m : Int) := by
        rw [Int.tdiv_eq_ediv_of_nonneg h0, IntKind.wrap_u64]; omega
      rw [e]
      by_cases h7 : m ≤ 7
      · rw [if_neg (by omega)]
        exact ref_text_loop n m (by omega) hm h7 m 9 0 (by omega) (by omega)
      · rw [if_pos (by omega)]
        unfold pack_Text.f rightB
        have h8 : decide ((n : Int) / 72057594037927936 ≤ 7) = false := decide_eq_false (by omega)
        rw [if_pos h0, if_pos h1, h8]
        rfl
    · unfold pack_Text.f at h; rw [if_pos h0, if_neg h1] at h; cases h
  · unfold pack_Text.f at h; rw [if_neg h0] at h; cases h
end Go.Proofs.Ytinfbkfdkpjdiaa.Hand
