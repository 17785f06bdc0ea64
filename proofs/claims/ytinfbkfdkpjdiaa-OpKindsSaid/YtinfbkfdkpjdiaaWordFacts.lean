/- Plain facts on texts of at most seven bytes as words: no Go here. -/
import Derived.Test.YtinfbkfdkpjdiaaPackText
namespace Go.Proofs.Ytinfbkfdkpjdiaa.Hand
set_option linter.unusedVariables false

/-- bytes as a number, the first one the lowest -/
def leN : List UInt8 → Nat
  | [] => 0
  | c :: l => c.toNat + 256 * leN l
theorem leN_lt (l : List UInt8) : leN l < 256 ^ l.length := by
  induction l with
  | nil => simp [leN]
  | cons c l ih =>
    have := c.toNat_lt
    simp only [leN, List.length_cons, Nat.pow_succ]
    omega
theorem leN_append (x y : List UInt8) : leN (x ++ y) = leN x + 256 ^ x.length * leN y := by
  induction x with
  | nil => simp [leN]
  | cons c x ih =>
    simp only [List.cons_append, leN, ih, List.length_cons, Nat.pow_succ]
    rw [Nat.mul_add, Nat.mul_comm (256 ^ x.length) 256, Nat.mul_assoc, Nat.add_assoc]
theorem sz_mk (a : Array UInt8) : (⟨a⟩ : ByteArray).size = a.size := rfl
theorem leN_inj : ∀ (x y : List UInt8), x.length = y.length → leN x = leN y → x = y
  | [], [], _, _ => rfl
  | c :: x, d :: y, hl, h => by
    have hc := c.toNat_lt
    have hd := d.toNat_lt
    simp only [leN] at h
    have h1 : c.toNat = d.toNat := by omega
    have h2 : leN x = leN y := by omega
    rw [UInt8.toNat_inj.1 h1, leN_inj x y (by simpa using hl) h2]
theorem wordN_list : ∀ (l : List UInt8), l.length ≤ 7 → wordN ⟨l.toArray⟩ = leN l + l.length * 72057594037927936
  | [], _ => by simp [wordN, chr, leN, sz_mk]
  | [_], _ => by simp [wordN, chr, leN, sz_mk]
  | [_, _], _ => by simp [wordN, chr, leN, sz_mk]; omega
  | [_, _, _], _ => by simp [wordN, chr, leN, sz_mk]; omega
  | [_, _, _, _], _ => by simp [wordN, chr, leN, sz_mk]; omega
  | [_, _, _, _, _], _ => by simp [wordN, chr, leN, sz_mk]; omega
  | [_, _, _, _, _, _], _ => by simp [wordN, chr, leN, sz_mk]; omega
  | [_, _, _, _, _, _, _], _ => by simp [wordN, chr, leN, sz_mk]; omega
  | _ :: _ :: _ :: _ :: _ :: _ :: _ :: _ :: l, h => by simp at h
theorem wordN_le (s : ByteArray) (h : s.size ≤ 7) : wordN s = leN s.data.toList + s.size * 72057594037927936 := by
  have := wordN_list s.data.toList (by rw [size_list]; exact h)
  rw [size_list] at this
  simpa using this
theorem leN_lt7 (s : ByteArray) (h : s.size ≤ 7) : leN s.data.toList < 72057594037927936 := by
  have h1 := leN_lt s.data.toList
  rw [size_list] at h1
  have h2 : 256 ^ s.size ≤ 256 ^ 7 := Nat.pow_le_pow_right (by omega) h
  omega
theorem wordN_bd (s : ByteArray) (h : s.size ≤ 7) : 0 ≤ wordN s ∧ wordN s < 576460752303423488 := by
  have := leN_lt7 s h
  rw [wordN_le s h]
  omega
theorem wordN_size (s : ByteArray) (h : s.size ≤ 7) : wordN s / 72057594037927936 = s.size := by
  have := leN_lt7 s h
  rw [wordN_le s h]
  omega
theorem ba_ext {s t : ByteArray} (h : s.data.toList = t.data.toList) : s = t := by
  cases s; cases t
  simp only [ByteArray.mk.injEq]
  exact Array.toList_inj.1 h
theorem wordN_inj (s t : ByteArray) (hs : s.size ≤ 7) (ht : t.size ≤ 7) (h : wordN s = wordN t) : s = t := by
  have h1 := wordN_size s hs
  have h2 := wordN_size t ht
  have hz : s.size = t.size := by rw [h] at h1; omega
  apply ba_ext
  apply leN_inj
  · rw [size_list, size_list]; exact hz
  · rw [wordN_le s hs, wordN_le t ht, hz] at h; omega
def bytesN : Nat → Nat → List UInt8
  | _, 0 => []
  | n, m + 1 => UInt8.ofNat (n % 256) :: bytesN (n / 256) m
theorem leN_bytesN (m : Nat) : ∀ n, leN (bytesN n m) = n % 256 ^ m := by
  induction m with
  | zero => intro n; simp [bytesN, leN, Nat.mod_one]
  | succ m ih =>
    intro n
    have e : (UInt8.ofNat (n % 256)).toNat = n % 256 := by rw [UInt8.toNat_ofNat']; omega
    rw [Nat.pow_succ, Nat.mul_comm (256 ^ m) 256, Nat.mod_mul, bytesN, leN, ih, e]
theorem textL_bytesN (N m : Nat) (hm : m ≤ 7) : textL N m = bytesN N m := by
  have e0 : ((N : Int) % 256).toNat = N % 256 := by omega
  have e1 : ((N : Int) / 256 % 256).toNat = N / 256 % 256 := by omega
  have e2 : ((N : Int) / 65536 % 256).toNat = N / 256 / 256 % 256 := by omega
  have e3 : ((N : Int) / 16777216 % 256).toNat = N / 256 / 256 / 256 % 256 := by omega
  have e4 : ((N : Int) / 4294967296 % 256).toNat = N / 256 / 256 / 256 / 256 % 256 := by omega
  have e5 : ((N : Int) / 1099511627776 % 256).toNat = N / 256 / 256 / 256 / 256 / 256 % 256 := by omega
  have e6 : ((N : Int) / 281474976710656 % 256).toNat = N / 256 / 256 / 256 / 256 / 256 / 256 % 256 := by omega
  obtain rfl | rfl | rfl | rfl | rfl | rfl | rfl | rfl : m = 0 ∨ m = 1 ∨ m = 2 ∨ m = 3 ∨ m = 4 ∨ m = 5 ∨ m = 6 ∨ m = 7 := by omega
  all_goals simp only [textL, List.take_succ_cons, List.take_zero, e0, e1, e2, e3, e4, e5, e6, bytesN]
/-- the first m bytes of a number are that number, modulo 256 ^ m -/
theorem leN_textL (n : Int) (h0 : 0 ≤ n) (m : Nat) (hm : m ≤ 7) : (leN (textL n m) : Int) = n % 256 ^ m := by
  obtain ⟨N, rfl⟩ := Int.eq_ofNat_of_zero_le h0
  rw [textL_bytesN N m hm, leN_bytesN, Int.natCast_emod, Int.natCast_pow]
  rfl
theorem textS_size (n : Int) (h0 : 0 ≤ n) (h : n / 72057594037927936 ≤ 7) : (textS n).size = (n / 72057594037927936).toNat := by
  show (textL n _).toArray.size = _
  rw [List.size_toArray, textL_length n _ (by omega)]
theorem wordN_textS (n : Int) (h0 : 0 ≤ n) (h : n / 72057594037927936 ≤ 7) : wordN (textS n) = n % 256 ^ (n / 72057594037927936).toNat + (n / 72057594037927936) * 72057594037927936 := by
  have hz := textS_size n h0 h
  have hl := leN_textL n h0 (n / 72057594037927936).toNat (by omega)
  rw [wordN_le _ (by omega), hz]
  have : (textS n).data.toList = textL n (n / 72057594037927936).toNat := by simp [textS]
  rw [this, hl]
  omega
theorem textS_wordN (s : ByteArray) (h : s.size ≤ 7) : textS (wordN s) = s := by
  have hb := wordN_bd s h
  have hs := wordN_size s h
  have hz := textS_size (wordN s) hb.1 (by omega)
  apply ba_ext
  apply leN_inj
  · rw [size_list, size_list, hz, hs]; simp
  · have e : (textS (wordN s)).data.toList = textL (wordN s) s.size := by simp [textS, hs]
    rw [e]
    have h1 := leN_textL (wordN s) hb.1 s.size h
    have h2 : leN s.data.toList < 256 ^ s.size := by have := leN_lt s.data.toList; rwa [size_list] at this
    have h3 : ((leN s.data.toList + s.size * 72057594037927936 : Nat) : Int) % ((256 ^ s.size : Nat) : Int) = (leN s.data.toList : Int) := by
      have hd : (256 ^ s.size : Nat) ∣ 72057594037927936 := by
        have : (72057594037927936 : Nat) = 256 ^ s.size * 256 ^ (7 - s.size) := by
          rw [← Nat.pow_add, show s.size + (7 - s.size) = 7 from by omega]
        exact ⟨_, this⟩
      obtain ⟨q, hq⟩ := hd
      rw [hq, ← Int.natCast_emod, Nat.mul_left_comm, Nat.add_mul_mod_self_left, Nat.mod_eq_of_lt h2]
    have h4 : (256 : Int) ^ s.size = ((256 ^ s.size : Nat) : Int) := by rw [Int.natCast_pow]; rfl
    rw [wordN_le s h, h4] at h1
    have h5 : ((leN s.data.toList : Int) + (s.size : Int) * 72057594037927936) = ((leN s.data.toList + s.size * 72057594037927936 : Nat) : Int) := by omega
    rw [h5, h3] at h1
    rw [wordN_le s h, h5]
    exact Int.ofNat.inj h1
theorem rightB_wordN (s : ByteArray) (h : s.size ≤ 7) : rightB (wordN s) = true := by
  unfold rightB
  rw [textS_wordN s h, wordN_size s h]
  simp; omega
theorem rightB_iff (n : Int) (h0 : 0 ≤ n) : rightB n = true ↔ n / 72057594037927936 ≤ 7 ∧ n % 256 ^ (n / 72057594037927936).toNat = n % 72057594037927936 := by
  unfold rightB
  simp only [Bool.and_eq_true, decide_eq_true_eq]
  constructor
  · rintro ⟨h, e⟩
    rw [wordN_textS n h0 h] at e
    exact ⟨h, by omega⟩
  · rintro ⟨h, e⟩
    rw [wordN_textS n h0 h]
    exact ⟨h, by omega⟩
theorem rightB_text (n : Int) (h0 : 0 ≤ n) (h : rightB n = true) : (textS n).size ≤ 7 ∧ wordN (textS n) = n := by
  have h1 := (rightB_iff n h0).1 h
  refine ⟨by rw [textS_size n h0 h1.1]; omega, ?_⟩
  unfold rightB at h
  simp only [Bool.and_eq_true, decide_eq_true_eq] at h
  exact h.2
theorem ab_word : wordN ⟨#[97, 98]⟩ = 144115188075881057 := by decide
theorem ab_some : pack_Word.f ⟨#[97, 98]⟩ = some (144115188075881057, 0) := by
  unfold pack_Word.f
  rw [if_pos (by decide), ab_word]

/-- What a short text's word is, the number behind a letter (so that nobody unfolds it). -/
theorem word_some (s : ByteArray) (h : s.size ≤ 7) : ∃ W, pack_Word.f s = some (W, 0) ∧ 0 ≤ W ∧ W < 576460752303423488 ∧ W / 72057594037927936 = s.size ∧ pack_Text.f W = some (s, 0) ∧ pack_Right.f W = some true ∧
    W = leN s.data.toList + s.size * 72057594037927936 := by
  have hb := wordN_bd s h
  have h1 : wordN s ≤ 18446744073709551615 := by omega
  refine ⟨wordN s, by unfold pack_Word.f; rw [if_pos h], hb.1, hb.2, wordN_size s h, ?_, ?_, wordN_le s h⟩
  · unfold pack_Text.f
    rw [if_pos hb.1, if_pos h1, if_pos (rightB_wordN s h), textS_wordN s h]
  · unfold pack_Right.f
    rw [if_pos hb.1, if_pos h1, rightB_wordN s h]
theorem word_none (s : ByteArray) (h : ¬ s.size ≤ 7) : pack_Word.f s = some (0, 4) := by unfold pack_Word.f; rw [if_neg h]
theorem word_inj {s t : ByteArray} {V W : Int} (hs : s.size ≤ 7) (ht : t.size ≤ 7) (h1 : pack_Word.f s = some (V, 0)) (h2 : pack_Word.f t = some (W, 0)) : V = W ↔ s = t := by
  unfold pack_Word.f at h1 h2
  rw [if_pos hs] at h1
  rw [if_pos ht] at h2
  simp only [Option.some.injEq, Prod.mk.injEq, and_true] at h1 h2
  subst h1; subst h2
  exact ⟨wordN_inj s t hs ht, fun e => by rw [e]⟩
theorem text_cases (n : Int) (h0 : 0 ≤ n) (h1 : n ≤ 18446744073709551615) :
    (∃ t, pack_Text.f n = some (t, 0) ∧ t.size ≤ 7 ∧ pack_Word.f t = some (n, 0) ∧ pack_Right.f n = some true) ∨ (pack_Text.f n = some (ByteArray.empty, 3) ∧ pack_Right.f n = some false) := by
  unfold pack_Text.f pack_Right.f
  rw [if_pos h0, if_pos h1, if_pos h0, if_pos h1]
  by_cases hr : rightB n = true
  · have ht := rightB_text n h0 hr
    left
    rw [if_pos hr, hr]
    refine ⟨textS n, rfl, ht.1, ?_, rfl⟩
    unfold pack_Word.f
    rw [if_pos ht.1, ht.2]
  · right
    rw [if_neg hr]
    rw [Bool.not_eq_true] at hr
    rw [hr]
    exact ⟨rfl, rfl⟩
end Go.Proofs.Ytinfbkfdkpjdiaa.Hand
