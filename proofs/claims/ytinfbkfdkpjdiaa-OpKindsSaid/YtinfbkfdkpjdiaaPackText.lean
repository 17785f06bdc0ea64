/- The contracts of pack.Text and pack.Right: of a word that is a text's the text, of another one ErrForm and nothing; nothing that lay in memory is changed. No condition but that the word is a uint64. -/
import Derived.Test.YtinfbkfdkpjdiaaPackWord
import Derived.Laws.IdiomStrings
namespace Go.Proofs.Ytinfbkfdkpjdiaa.Hand
open Go.RowKit
set_option linter.unusedVariables false

theorem u8_nat (x : Int) (h0 : 0 ≤ x) (h1 : x < 256) : ((UInt8.ofNat x.toNat).toNat : Int) = x := by
  rw [UInt8.toNat_ofNat']
  omega
/-- the first m bytes of a word, from the lowest one on -/
def textL (n : Int) (m : Nat) : List UInt8 :=
  [UInt8.ofNat (n % 256).toNat, UInt8.ofNat (n / 256 % 256).toNat, UInt8.ofNat (n / 65536 % 256).toNat, UInt8.ofNat (n / 16777216 % 256).toNat, UInt8.ofNat (n / 4294967296 % 256).toNat, UInt8.ofNat (n / 1099511627776 % 256).toNat, UInt8.ofNat (n / 281474976710656 % 256).toNat].take m
theorem textL_length (n : Int) (m : Nat) (hm : m ≤ 7) : (textL n m).length = m := by simp [textL]; omega
/-- the text of a word -/
def textS (n : Int) : ByteArray := ⟨(textL n (n / 72057594037927936).toNat).toArray⟩
theorem convert7 (n : Int) (m : Nat) (hm : m ≤ 7) (w : World) :
    (convert 41 9 (.slice (some ⟨w.heap.size, 0, none⟩) m 7)).run Try.prog (w.alloc (.cells #[.int .u8 (n % 256), .int .u8 (n / 256 % 256), .int .u8 (n / 65536 % 256), .int .u8 (n / 16777216 % 256), .int .u8 (n / 4294967296 % 256), .int .u8 (n / 1099511627776 % 256), .int .u8 (n / 281474976710656 % 256)] 71)) =
      .ok (.string ⟨(textL n m).toArray⟩) (w.alloc (.cells #[.int .u8 (n % 256), .int .u8 (n / 256 % 256), .int .u8 (n / 65536 % 256), .int .u8 (n / 16777216 % 256), .int .u8 (n / 4294967296 % 256), .int .u8 (n / 1099511627776 % 256), .int .u8 (n / 281474976710656 % 256)] 71)) := by
  have h := run_convert_bytes_back (P := Try.prog) (w.alloc (.cells #[.int .u8 (n % 256), .int .u8 (n / 256 % 256), .int .u8 (n / 65536 % 256), .int .u8 (n / 16777216 % 256), .int .u8 (n / 4294967296 % 256), .int .u8 (n / 1099511627776 % 256), .int .u8 (n / 281474976710656 % 256)] 71))
    41 9 5 ⟨w.heap.size, 0, none⟩ 7 (textL n m) Try.underlying41 Try.underlying5 Try.underlying9 (by
      intro j hj
      rw [textL_length n m hm] at hj
      have e : (⟨w.heap.size, 0, none⟩ : Addr).add j = ⟨w.heap.size, j, none⟩ := by unfold Addr.add; split <;> simp_all
      rw [e, cell_of_row _ _ _ _ _ _ (heap_alloc_new w _)]
      obtain rfl | rfl | rfl | rfl | rfl | rfl | rfl : j = 0 ∨ j = 1 ∨ j = 2 ∨ j = 3 ∨ j = 4 ∨ j = 5 ∨ j = 6 := by omega
      all_goals
        simp only [textL, List.getElem_take, List.getElem_cons_succ, List.getElem_cons_zero]
        rw [u8_nat _ (by omega) (by omega)]
        rfl)
  rw [textL_length n m hm] at h
  exact h

theorem ret_si {s t : ByteArray} {l : IntKind} {c d : Int} (h : s = t) (h' : c = d) : Ending.returned (.tuple #[.string s, .int l c]) = .returned (.tuple #[.string t, .int l d]) := by rw [h, h']

set_option maxHeartbeats 2000000 in
set_option maxRecDepth 100000 in
theorem text_yes (n : Int) (m : Nat) (w : World) (h0 : 0 ≤ n) (h1 : n ≤ 18446744073709551615) (hm : m ≤ 7) (hn : n / 72057594037927936 = m) (hq : wordN ⟨(textL n m).toArray⟩ = n) :
    Calls Try.prog 18 #[.int .u64 n] w fun e w' => e = .returned (.tuple #[.string ⟨(textL n m).toArray⟩, .int .i64 0]) ∧ Below w.heap.size w w' := by
  have hcv := convert7 n m hm w
  have hsz : (⟨(textL n m).toArray⟩ : ByteArray).size ≤ 7 := by
    show (textL n m).toArray.size ≤ 7
    rw [List.size_toArray, textL_length n m hm]; exact hm
  have hb : (wordN ⟨(textL n m).toArray⟩ != n) = false := by rw [hq]; simp
  clear hq
  have HW := fun w => word_short ⟨(textL n m).toArray⟩ w hsz
  generalize (⟨(textL n m).toArray⟩ : ByteArray) = t at *
  generalize wordN t = q at *
  have HW' := Lib.hid HW
  clear HW hsz
  go_enter Try.func18, Try.ntmps18
  go_wp2
  refine wp_loop_rounds 8 ?_
  rw [rounds_succ]; go_wp2
  rw [rounds_succ]; go_wp2
  rw [rounds_succ]; go_wp2
  rw [rounds_succ]; go_wp2
  rw [rounds_succ]; go_wp2
  rw [rounds_succ]; go_wp2
  rw [rounds_succ]; go_wp2
  rw [rounds_succ]; go_wp2_with fail
  refine (HW'.out _).mono ?_
  rintro e w1 ⟨rfl, hb1⟩
  go_wp2
  go_ret2
  exact ⟨rfl, ((Below.refl _ _).alloc (Nat.le_refl _) _).trans (hb1.mono (by simp))⟩

set_option maxHeartbeats 2000000 in
set_option maxRecDepth 100000 in
theorem text_no (n : Int) (m : Nat) (w : World) (h0 : 0 ≤ n) (h1 : n ≤ 18446744073709551615) (hm : m ≤ 7) (hn : n / 72057594037927936 = m) (hq : ¬ wordN ⟨(textL n m).toArray⟩ = n) :
    Calls Try.prog 18 #[.int .u64 n] w fun e w' => e = .returned (.tuple #[.string ByteArray.empty, .int .i64 3]) ∧ Below w.heap.size w w' := by
  have hcv := convert7 n m hm w
  have hsz : (⟨(textL n m).toArray⟩ : ByteArray).size ≤ 7 := by
    show (textL n m).toArray.size ≤ 7
    rw [List.size_toArray, textL_length n m hm]; exact hm
  have hb : (wordN ⟨(textL n m).toArray⟩ != n) = true := by rw [bne_iff_ne]; exact hq
  clear hq
  have HW := fun w => word_short ⟨(textL n m).toArray⟩ w hsz
  generalize (⟨(textL n m).toArray⟩ : ByteArray) = t at *
  generalize wordN t = q at *
  have HW' := Lib.hid HW
  clear HW hsz
  go_enter Try.func18, Try.ntmps18
  go_wp2
  refine wp_loop_rounds 8 ?_
  rw [rounds_succ]; go_wp2
  rw [rounds_succ]; go_wp2
  rw [rounds_succ]; go_wp2
  rw [rounds_succ]; go_wp2
  rw [rounds_succ]; go_wp2
  rw [rounds_succ]; go_wp2
  rw [rounds_succ]; go_wp2
  rw [rounds_succ]; go_wp2_with fail
  refine (HW'.out _).mono ?_
  rintro e w1 ⟨rfl, hb1⟩
  go_wp2
  go_ret2
  exact ⟨rfl, ((Below.refl _ _).alloc (Nat.le_refl _) _).trans (hb1.mono (by simp))⟩

set_option maxHeartbeats 400000 in
theorem text_high (n : Int) (w : World) (h0 : 0 ≤ n) (h1 : n ≤ 18446744073709551615) (hm : 7 < n / 72057594037927936) :
    Calls Try.prog 18 #[.int .u64 n] w fun e w' => e = .returned (.tuple #[.string ByteArray.empty, .int .i64 3]) ∧ Below w.heap.size w w' := by
  go_enter Try.func18, Try.ntmps18
  go_wp2
  go_ret2
  exact ⟨rfl, Below.refl _ _⟩

/-- is a word a text's? -/
def rightB (n : Int) : Bool := decide (n / 72057594037927936 ≤ 7) && decide (wordN (textS n) = n)
def pack_Text.f (a0 : Int) : Option (ByteArray × Int) := if 0 ≤ a0 then (if a0 ≤ 18446744073709551615 then (if rightB a0 = true then some (textS a0, 0) else some (ByteArray.empty, 3)) else none) else none
theorem pack_Text.calls (a0 : Int) (r1 : ByteArray) (r2 : Int) (w : World) (h : pack_Text.f a0 = some (r1, r2)) :
    Calls Try.prog 18 #[.int .u64 a0] w fun e w' => e = .returned (.tuple #[.string r1, .int .i64 r2]) ∧ Below w.heap.size w w' := by
  unfold pack_Text.f at h
  by_cases h0 : 0 ≤ a0
  · by_cases h1 : a0 ≤ 18446744073709551615
    · rw [if_pos h0, if_pos h1] at h
      by_cases hm : a0 / 72057594037927936 ≤ 7
      · obtain ⟨m, em⟩ := Int.eq_ofNat_of_zero_le (show 0 ≤ a0 / 72057594037927936 by omega)
        have es : textS a0 = ⟨(textL a0 m).toArray⟩ := by unfold textS; rw [em]; rfl
        by_cases hq : wordN (textS a0) = a0
        · rw [if_pos (by simp [rightB, hm, hq])] at h
          cases h
          rw [es] at hq ⊢
          exact text_yes a0 m w h0 h1 (by omega) em hq
        · rw [if_neg (by simp [rightB, hq])] at h
          cases h
          rw [es] at hq
          exact text_no a0 m w h0 h1 (by omega) em hq
      · rw [if_neg (by simp [rightB, hm])] at h
        cases h
        exact text_high a0 w h0 h1 (by omega)
    · rw [if_pos h0, if_neg h1] at h; cases h
  · rw [if_neg h0] at h; cases h

theorem right_walk (n : Int) (w : World) (h0 : 0 ≤ n) (h1 : n ≤ 18446744073709551615) :
    Calls Try.prog 31 #[.int .u64 n] w fun e w' => e = .returned (.bool (rightB n)) ∧ Below w.heap.size w w' := by
  by_cases hr : rightB n = true
  · have HT := Lib.hid (fun w => pack_Text.calls n (textS n) 0 w (by unfold pack_Text.f; rw [if_pos h0, if_pos h1, if_pos hr]))
    rw [hr]
    clear hr
    go_enter Try.func31, Try.ntmps31
    go_wp2_with fail
    refine (HT.out _).mono ?_
    rintro e w1 ⟨rfl, hb1⟩
    go_wp2
    go_ret
    exact ⟨rfl, hb1⟩
  · have HT := Lib.hid (fun w => pack_Text.calls n ByteArray.empty 3 w (by unfold pack_Text.f; rw [if_pos h0, if_pos h1, if_neg hr]))
    rw [Bool.not_eq_true] at hr
    rw [hr]
    clear hr
    go_enter Try.func31, Try.ntmps31
    go_wp2_with fail
    refine (HT.out _).mono ?_
    rintro e w1 ⟨rfl, hb1⟩
    go_wp2
    go_ret
    exact ⟨rfl, hb1⟩
def pack_Right.f (a0 : Int) : Option Bool := if 0 ≤ a0 then (if a0 ≤ 18446744073709551615 then some (rightB a0) else none) else none
theorem pack_Right.calls (a0 : Int) (r : Bool) (w : World) (h : pack_Right.f a0 = some r) :
    Calls Try.prog 31 #[.int .u64 a0] w fun e w' => e = .returned (.bool r) ∧ Below w.heap.size w w' := by
  unfold pack_Right.f at h
  by_cases h0 : 0 ≤ a0
  · by_cases h1 : a0 ≤ 18446744073709551615
    · rw [if_pos h0, if_pos h1] at h
      cases h
      exact right_walk a0 w h0 h1
    · rw [if_pos h0, if_neg h1] at h; cases h
  · rw [if_neg h0] at h; cases h
end Go.Proofs.Ytinfbkfdkpjdiaa.Hand
