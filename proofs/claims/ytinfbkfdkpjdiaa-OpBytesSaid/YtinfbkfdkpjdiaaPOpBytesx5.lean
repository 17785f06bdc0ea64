-- Written by wip/printplus.py over contracts of this repo; not trusted: Lean checks it.
import Derived.Test.YtinfbkfdkpjdiaaPOpBytesx0
import Derived.Test.YtinfbkfdkpjdiaaPOpBytesx4
namespace Go.Proofs.Ytinfbkfdkpjdiaa.POpBytes
open Go.Proofs.Ytinfbkfdkpjdiaa.Hand Go.RowKit Go.Proofs.YtinfbkfdkpjdiaaW.PrintWords Go.Proofs.YtinfbkfdkpjdiaaW.PrintLast Go.Proofs.YtinfbkfdkpjdiaaW.PrintMore
attribute [local go_sem] max2_int min2_int max_two min_two max_three min_three max_four min_four   -- for this text's walks alone
set_option linter.unusedVariables false
set_option linter.unusedSimpArgs false

/-! ### shellgameref17_Bytes: function 17 -/
def shellgameref17_Bytes.f (k : Nat) (a0_0 : Int) (a0_1 : Int) (a0_2 : Int) (a0_3 : Int) : Option (ByteArray) := (shellgameref17_Right.f k a0_0 a0_1 a0_2 a0_3).bind fun t132 => (if t132 = true then (if 0 ≤ a0_0 then (if a0_0 ≤ (wrap64 (a0_0 + 1)) then (if (wrap64 (a0_0 + 1)) ≤ 6 then (if a0_0 = 3 then ((some (([(Int.tmod a0_3 256) % 256, (wrap64 (Int.tdiv a0_3 256)) % 256] : List Int) : List Int)).bind fun y133 => (if ((⟨#[32, 71, 75, 80, 68, 76]⟩ : ByteArray).extract (a0_0 : Int).toNat ((wrap64 (a0_0 + 1)) : Int).toNat).size + (strOfNums y133).size ≤ 9223372036854775807 then ((shellgameref17_counted.f a0_2).bind fun t136 => (if (((⟨#[32, 71, 75, 80, 68, 76]⟩ : ByteArray).extract (a0_0 : Int).toNat ((wrap64 (a0_0 + 1)) : Int).toNat) ++ (strOfNums y133)).size + t136.size ≤ 9223372036854775807 then (if a0_0 < 5 then ((shellgameref17_counted.f a0_1).bind fun t137 => (if ((((⟨#[32, 71, 75, 80, 68, 76]⟩ : ByteArray).extract (a0_0 : Int).toNat ((wrap64 (a0_0 + 1)) : Int).toNat) ++ (strOfNums y133)) ++ t136).size + t137.size ≤ 9223372036854775807 then (some (((((⟨#[32, 71, 75, 80, 68, 76]⟩ : ByteArray).extract (a0_0 : Int).toNat ((wrap64 (a0_0 + 1)) : Int).toNat) ++ (strOfNums y133)) ++ t136) ++ t137)) else (none))) else (some ((((⟨#[32, 71, 75, 80, 68, 76]⟩ : ByteArray).extract (a0_0 : Int).toNat ((wrap64 (a0_0 + 1)) : Int).toNat) ++ (strOfNums y133)) ++ t136))) else (none))) else (none))) else (if a0_0 < 5 then ((shellgameref17_counted.f a0_1).bind fun t138 => (if ((⟨#[32, 71, 75, 80, 68, 76]⟩ : ByteArray).extract (a0_0 : Int).toNat ((wrap64 (a0_0 + 1)) : Int).toNat).size + t138.size ≤ 9223372036854775807 then (some (((⟨#[32, 71, 75, 80, 68, 76]⟩ : ByteArray).extract (a0_0 : Int).toNat ((wrap64 (a0_0 + 1)) : Int).toNat) ++ t138)) else (none))) else (some ((⟨#[32, 71, 75, 80, 68, 76]⟩ : ByteArray).extract (a0_0 : Int).toNat ((wrap64 (a0_0 + 1)) : Int).toNat)))) else (none)) else (none)) else (none)) else (some (⟨#[]⟩ : ByteArray)))
theorem shellgameref17_Bytes.mono : ∀ a0 a1 a2 a3 k, LeO (shellgameref17_Bytes.f k a0 a1 a2 a3) (shellgameref17_Bytes.f (k + 1) a0 a1 a2 a3) := by
  intro a0 a1 a2 a3 k
  unfold shellgameref17_Bytes.f
  repeat' first
      | (with_reducible exact shellgameref17_Right.mono _ _ _ _ _)
      | (with_reducible exact LeO.refl _)
      | (with_reducible exact LeO.none _)
      | (with_reducible refine LeO.ite ?_ ?_)
      | (with_reducible refine LeO.bind ?_ (fun _ => ?_))
      | exact shellgameref17_Right.mono _ _ _ _ _
      | exact LeO.none _
      | refine LeO.ite ?_ ?_
      | refine LeO.bind ?_ (fun _ => ?_)
def shellgameref17_Bytes.T6 : Bool × List (List Nat × List Nat) := (true, [([], []), ([], []), ([1], [1]), ([0, 2], [0, 2]), ([], []), ([4], [4]), ([5], [5]), ([3, 6], [3, 6]), ([7, 6, 0, 1, 2, 3, 4, 5, 6, 7], [0, 7])])
def shellgameref17_Bytes.B6 : List Nat := [0, 0, 2, 7, 0, 16, 48, 127, 255]
theorem shellgameref17_Bytes.tab6 : rtab .any (opsOf Try.f17 6) = shellgameref17_Bytes.T6 := by kernel_rfl
theorem shellgameref17_Bytes.bits6 : waitsOk shellgameref17_Bytes.T6.2 shellgameref17_Bytes.B6 = true := by kernel_rfl
set_option maxHeartbeats 8000000 in
set_option maxRecDepth 100000 in
theorem shellgameref17_Bytes.calls (k : Nat) (a0_0 : Int) (a0_1 : Int) (a0_2 : Int) (a0_3 : Int) (r : ByteArray) (w : World) (h : shellgameref17_Bytes.f k a0_0 a0_1 a0_2 a0_3 = some r) :
    Calls Try.prog 17 #[.agg #[.int .i64 a0_0, .int .u64 a0_1, .int .u64 a0_2, .int .i64 a0_3]] w fun e w' => e = .returned (.string r) ∧ Below w.heap.size w w' := by
  have hu33 := Try.underlying33
  have HB := Aside0.mk (Below.refl w.heap.size w)
  have H : ((shellgameref17_Right.f k a0_0 a0_1 a0_2 a0_3).bind fun t132 => (if t132 = true then (if 0 ≤ a0_0 then (if a0_0 ≤ (wrap64 (a0_0 + 1)) then (if (wrap64 (a0_0 + 1)) ≤ 6 then (if a0_0 = 3 then ((some (([(Int.tmod a0_3 256) % 256, (wrap64 (Int.tdiv a0_3 256)) % 256] : List Int) : List Int)).bind fun y133 => (if ((⟨#[32, 71, 75, 80, 68, 76]⟩ : ByteArray).extract (a0_0 : Int).toNat ((wrap64 (a0_0 + 1)) : Int).toNat).size + (strOfNums y133).size ≤ 9223372036854775807 then ((shellgameref17_counted.f a0_2).bind fun t136 => (if (((⟨#[32, 71, 75, 80, 68, 76]⟩ : ByteArray).extract (a0_0 : Int).toNat ((wrap64 (a0_0 + 1)) : Int).toNat) ++ (strOfNums y133)).size + t136.size ≤ 9223372036854775807 then (if a0_0 < 5 then ((shellgameref17_counted.f a0_1).bind fun t137 => (if ((((⟨#[32, 71, 75, 80, 68, 76]⟩ : ByteArray).extract (a0_0 : Int).toNat ((wrap64 (a0_0 + 1)) : Int).toNat) ++ (strOfNums y133)) ++ t136).size + t137.size ≤ 9223372036854775807 then (some (((((⟨#[32, 71, 75, 80, 68, 76]⟩ : ByteArray).extract (a0_0 : Int).toNat ((wrap64 (a0_0 + 1)) : Int).toNat) ++ (strOfNums y133)) ++ t136) ++ t137)) else (none))) else (some ((((⟨#[32, 71, 75, 80, 68, 76]⟩ : ByteArray).extract (a0_0 : Int).toNat ((wrap64 (a0_0 + 1)) : Int).toNat) ++ (strOfNums y133)) ++ t136))) else (none))) else (none))) else (if a0_0 < 5 then ((shellgameref17_counted.f a0_1).bind fun t138 => (if ((⟨#[32, 71, 75, 80, 68, 76]⟩ : ByteArray).extract (a0_0 : Int).toNat ((wrap64 (a0_0 + 1)) : Int).toNat).size + t138.size ≤ 9223372036854775807 then (some (((⟨#[32, 71, 75, 80, 68, 76]⟩ : ByteArray).extract (a0_0 : Int).toNat ((wrap64 (a0_0 + 1)) : Int).toNat) ++ t138)) else (none))) else (some ((⟨#[32, 71, 75, 80, 68, 76]⟩ : ByteArray).extract (a0_0 : Int).toNat ((wrap64 (a0_0 + 1)) : Int).toNat)))) else (none)) else (none)) else (none)) else (some (⟨#[]⟩ : ByteArray)))) = some r := h
  clear h
  replace H := Option.bind_eq_some_iff.mp H
  obtain ⟨t132, A20, H⟩ := H
  replace H : (if t132 = true then (if 0 ≤ a0_0 then (if a0_0 ≤ (wrap64 (a0_0 + 1)) then (if (wrap64 (a0_0 + 1)) ≤ 6 then (if a0_0 = 3 then ((some (([(Int.tmod a0_3 256) % 256, (wrap64 (Int.tdiv a0_3 256)) % 256] : List Int) : List Int)).bind fun y133 => (if ((⟨#[32, 71, 75, 80, 68, 76]⟩ : ByteArray).extract (a0_0 : Int).toNat ((wrap64 (a0_0 + 1)) : Int).toNat).size + (strOfNums y133).size ≤ 9223372036854775807 then ((shellgameref17_counted.f a0_2).bind fun t136 => (if (((⟨#[32, 71, 75, 80, 68, 76]⟩ : ByteArray).extract (a0_0 : Int).toNat ((wrap64 (a0_0 + 1)) : Int).toNat) ++ (strOfNums y133)).size + t136.size ≤ 9223372036854775807 then (if a0_0 < 5 then ((shellgameref17_counted.f a0_1).bind fun t137 => (if ((((⟨#[32, 71, 75, 80, 68, 76]⟩ : ByteArray).extract (a0_0 : Int).toNat ((wrap64 (a0_0 + 1)) : Int).toNat) ++ (strOfNums y133)) ++ t136).size + t137.size ≤ 9223372036854775807 then (some (((((⟨#[32, 71, 75, 80, 68, 76]⟩ : ByteArray).extract (a0_0 : Int).toNat ((wrap64 (a0_0 + 1)) : Int).toNat) ++ (strOfNums y133)) ++ t136) ++ t137)) else (none))) else (some ((((⟨#[32, 71, 75, 80, 68, 76]⟩ : ByteArray).extract (a0_0 : Int).toNat ((wrap64 (a0_0 + 1)) : Int).toNat) ++ (strOfNums y133)) ++ t136))) else (none))) else (none))) else (if a0_0 < 5 then ((shellgameref17_counted.f a0_1).bind fun t138 => (if ((⟨#[32, 71, 75, 80, 68, 76]⟩ : ByteArray).extract (a0_0 : Int).toNat ((wrap64 (a0_0 + 1)) : Int).toNat).size + t138.size ≤ 9223372036854775807 then (some (((⟨#[32, 71, 75, 80, 68, 76]⟩ : ByteArray).extract (a0_0 : Int).toNat ((wrap64 (a0_0 + 1)) : Int).toNat) ++ t138)) else (none))) else (some ((⟨#[32, 71, 75, 80, 68, 76]⟩ : ByteArray).extract (a0_0 : Int).toNat ((wrap64 (a0_0 + 1)) : Int).toNat)))) else (none)) else (none)) else (none)) else (some (⟨#[]⟩ : ByteArray))) = some r := H
  have A2 := Aside0.mk A20
  clear A20
  by_cases c3 : t132 = true
  · subst c3
    have H1 : (if 0 ≤ a0_0 then (if a0_0 ≤ (wrap64 (a0_0 + 1)) then (if (wrap64 (a0_0 + 1)) ≤ 6 then (if a0_0 = 3 then ((some (([(Int.tmod a0_3 256) % 256, (wrap64 (Int.tdiv a0_3 256)) % 256] : List Int) : List Int)).bind fun y133 => (if ((⟨#[32, 71, 75, 80, 68, 76]⟩ : ByteArray).extract (a0_0 : Int).toNat ((wrap64 (a0_0 + 1)) : Int).toNat).size + (strOfNums y133).size ≤ 9223372036854775807 then ((shellgameref17_counted.f a0_2).bind fun t136 => (if (((⟨#[32, 71, 75, 80, 68, 76]⟩ : ByteArray).extract (a0_0 : Int).toNat ((wrap64 (a0_0 + 1)) : Int).toNat) ++ (strOfNums y133)).size + t136.size ≤ 9223372036854775807 then (if a0_0 < 5 then ((shellgameref17_counted.f a0_1).bind fun t137 => (if ((((⟨#[32, 71, 75, 80, 68, 76]⟩ : ByteArray).extract (a0_0 : Int).toNat ((wrap64 (a0_0 + 1)) : Int).toNat) ++ (strOfNums y133)) ++ t136).size + t137.size ≤ 9223372036854775807 then (some (((((⟨#[32, 71, 75, 80, 68, 76]⟩ : ByteArray).extract (a0_0 : Int).toNat ((wrap64 (a0_0 + 1)) : Int).toNat) ++ (strOfNums y133)) ++ t136) ++ t137)) else (none))) else (some ((((⟨#[32, 71, 75, 80, 68, 76]⟩ : ByteArray).extract (a0_0 : Int).toNat ((wrap64 (a0_0 + 1)) : Int).toNat) ++ (strOfNums y133)) ++ t136))) else (none))) else (none))) else (if a0_0 < 5 then ((shellgameref17_counted.f a0_1).bind fun t138 => (if ((⟨#[32, 71, 75, 80, 68, 76]⟩ : ByteArray).extract (a0_0 : Int).toNat ((wrap64 (a0_0 + 1)) : Int).toNat).size + t138.size ≤ 9223372036854775807 then (some (((⟨#[32, 71, 75, 80, 68, 76]⟩ : ByteArray).extract (a0_0 : Int).toNat ((wrap64 (a0_0 + 1)) : Int).toNat) ++ t138)) else (none))) else (some ((⟨#[32, 71, 75, 80, 68, 76]⟩ : ByteArray).extract (a0_0 : Int).toNat ((wrap64 (a0_0 + 1)) : Int).toNat)))) else (none)) else (none)) else (none)) = some r := by rw [if_pos rfl] at H; exact H
    clear H
    have H := H1
    clear H1
    by_cases c4 : 0 ≤ a0_0
    · rw [if_pos c4] at H
      have c4b0 := eq_true c4
      have c4b1 : decide (0 ≤ a0_0) = true := decide_eq_true c4
      clear c4
      by_cases c5 : a0_0 ≤ (wrap64 (a0_0 + 1))
      · rw [if_pos c5] at H
        have c5b0 := eq_true c5
        have c5b1 : decide (a0_0 ≤ (wrap64 (a0_0 + 1))) = true := decide_eq_true c5
        by_cases c6 : (wrap64 (a0_0 + 1)) ≤ 6
        · rw [if_pos c6] at H
          have c6b0 := eq_true c6
          have c6b1 : decide ((wrap64 (a0_0 + 1)) ≤ 6) = true := decide_eq_true c6
          have hE : ((⟨#[32, 71, 75, 80, 68, 76]⟩ : ByteArray).extract (a0_0 : Int).toNat ((wrap64 (a0_0 + 1)) : Int).toNat).size = (wrap64 (a0_0 + 1)).toNat - a0_0.toNat := by rw [ByteArray.size_extract]; show min _ 6 - _ = _; omega
          have HE := Aside0.mk hE
          clear hE
          by_cases c7 : a0_0 = 3
          · rw [if_pos c7] at H
            have c7b0 : (a0_0 == 3) = true := beq_iff_eq.mpr c7
            have c7b1 : (a0_0 != 3) = false := bne_eq_false_iff_eq.mpr c7
            clear c7
            obtain ⟨y133, hy133⟩ : ∃ y_ : List Int, y_ = (([(Int.tmod a0_3 256) % 256, (wrap64 (Int.tdiv a0_3 256)) % 256] : List Int)) := ⟨_, rfl⟩
            replace H : (if ((⟨#[32, 71, 75, 80, 68, 76]⟩ : ByteArray).extract (a0_0 : Int).toNat ((wrap64 (a0_0 + 1)) : Int).toNat).size + (strOfNums y133).size ≤ 9223372036854775807 then ((shellgameref17_counted.f a0_2).bind fun t136 => (if (((⟨#[32, 71, 75, 80, 68, 76]⟩ : ByteArray).extract (a0_0 : Int).toNat ((wrap64 (a0_0 + 1)) : Int).toNat) ++ (strOfNums y133)).size + t136.size ≤ 9223372036854775807 then (if a0_0 < 5 then ((shellgameref17_counted.f a0_1).bind fun t137 => (if ((((⟨#[32, 71, 75, 80, 68, 76]⟩ : ByteArray).extract (a0_0 : Int).toNat ((wrap64 (a0_0 + 1)) : Int).toNat) ++ (strOfNums y133)) ++ t136).size + t137.size ≤ 9223372036854775807 then (some (((((⟨#[32, 71, 75, 80, 68, 76]⟩ : ByteArray).extract (a0_0 : Int).toNat ((wrap64 (a0_0 + 1)) : Int).toNat) ++ (strOfNums y133)) ++ t136) ++ t137)) else (none))) else (some ((((⟨#[32, 71, 75, 80, 68, 76]⟩ : ByteArray).extract (a0_0 : Int).toNat ((wrap64 (a0_0 + 1)) : Int).toNat) ++ (strOfNums y133)) ++ t136))) else (none))) else (none)) = some r := by first | (rw [hy133]; with_reducible exact H) | (have H2_ := (Option.bind_some _ _).symm.trans H; rw [hy133]; with_reducible exact H2_) | (have H2_ := (Option.bind_some _ _).symm.trans H; with_reducible exact H2_) | with_reducible exact H | (rw [hy133]; exact H) | exact H
            have Ny133 := Aside0.mk hy133
            clear hy133
            by_cases c8 : ((⟨#[32, 71, 75, 80, 68, 76]⟩ : ByteArray).extract (a0_0 : Int).toNat ((wrap64 (a0_0 + 1)) : Int).toNat).size + (strOfNums y133).size ≤ 9223372036854775807
            · rw [if_pos c8] at H
              have c8b0 := eq_true c8
              have c8b1 : decide (((⟨#[32, 71, 75, 80, 68, 76]⟩ : ByteArray).extract (a0_0 : Int).toNat ((wrap64 (a0_0 + 1)) : Int).toNat).size + (strOfNums y133).size ≤ 9223372036854775807) = true := decide_eq_true c8
              try have c8b2 : (9223372036854775807 < ((⟨#[32, 71, 75, 80, 68, 76]⟩ : ByteArray).extract (a0_0 : Int).toNat ((wrap64 (a0_0 + 1)) : Int).toNat).size + (strOfNums y133).size) = False := eq_false (Nat.not_lt.2 c8)
              have c8b7 := c8
              simp only [ByteArray.size_append, HE.out] at c8b7
              have c8b6 : _ = False := eq_false (Nat.not_lt.2 c8b7)
              clear c8b7
              replace H := Option.bind_eq_some_iff.mp H
              obtain ⟨t136, A90, H⟩ := H
              replace H : (if (((⟨#[32, 71, 75, 80, 68, 76]⟩ : ByteArray).extract (a0_0 : Int).toNat ((wrap64 (a0_0 + 1)) : Int).toNat) ++ (strOfNums y133)).size + t136.size ≤ 9223372036854775807 then (if a0_0 < 5 then ((shellgameref17_counted.f a0_1).bind fun t137 => (if ((((⟨#[32, 71, 75, 80, 68, 76]⟩ : ByteArray).extract (a0_0 : Int).toNat ((wrap64 (a0_0 + 1)) : Int).toNat) ++ (strOfNums y133)) ++ t136).size + t137.size ≤ 9223372036854775807 then (some (((((⟨#[32, 71, 75, 80, 68, 76]⟩ : ByteArray).extract (a0_0 : Int).toNat ((wrap64 (a0_0 + 1)) : Int).toNat) ++ (strOfNums y133)) ++ t136) ++ t137)) else (none))) else (some ((((⟨#[32, 71, 75, 80, 68, 76]⟩ : ByteArray).extract (a0_0 : Int).toNat ((wrap64 (a0_0 + 1)) : Int).toNat) ++ (strOfNums y133)) ++ t136))) else (none)) = some r := H
              have A9 := Aside0.mk A90
              clear A90
              by_cases c10 : (((⟨#[32, 71, 75, 80, 68, 76]⟩ : ByteArray).extract (a0_0 : Int).toNat ((wrap64 (a0_0 + 1)) : Int).toNat) ++ (strOfNums y133)).size + t136.size ≤ 9223372036854775807
              · rw [if_pos c10] at H
                have c10b0 := eq_true c10
                have c10b1 : decide ((((⟨#[32, 71, 75, 80, 68, 76]⟩ : ByteArray).extract (a0_0 : Int).toNat ((wrap64 (a0_0 + 1)) : Int).toNat) ++ (strOfNums y133)).size + t136.size ≤ 9223372036854775807) = true := decide_eq_true c10
                try have c10b2 : (9223372036854775807 < (((⟨#[32, 71, 75, 80, 68, 76]⟩ : ByteArray).extract (a0_0 : Int).toNat ((wrap64 (a0_0 + 1)) : Int).toNat) ++ (strOfNums y133)).size + t136.size) = False := eq_false (Nat.not_lt.2 c10)
                have c10b7 := c10
                simp only [ByteArray.size_append, HE.out] at c10b7
                have c10b6 : _ = False := eq_false (Nat.not_lt.2 c10b7)
                clear c10b7
                by_cases c11 : a0_0 < 5
                · rw [if_pos c11] at H
                  have c11b0 : decide (a0_0 < 5) = true := decide_eq_true c11
                  clear c11
                  replace H := Option.bind_eq_some_iff.mp H
                  obtain ⟨t137, A120, H⟩ := H
                  replace H : (if ((((⟨#[32, 71, 75, 80, 68, 76]⟩ : ByteArray).extract (a0_0 : Int).toNat ((wrap64 (a0_0 + 1)) : Int).toNat) ++ (strOfNums y133)) ++ t136).size + t137.size ≤ 9223372036854775807 then (some (((((⟨#[32, 71, 75, 80, 68, 76]⟩ : ByteArray).extract (a0_0 : Int).toNat ((wrap64 (a0_0 + 1)) : Int).toNat) ++ (strOfNums y133)) ++ t136) ++ t137)) else (none)) = some r := H
                  have A12 := Aside0.mk A120
                  clear A120
                  by_cases c13 : ((((⟨#[32, 71, 75, 80, 68, 76]⟩ : ByteArray).extract (a0_0 : Int).toNat ((wrap64 (a0_0 + 1)) : Int).toNat) ++ (strOfNums y133)) ++ t136).size + t137.size ≤ 9223372036854775807
                  · rw [if_pos c13] at H
                    have c13b0 := eq_true c13
                    have c13b1 : decide (((((⟨#[32, 71, 75, 80, 68, 76]⟩ : ByteArray).extract (a0_0 : Int).toNat ((wrap64 (a0_0 + 1)) : Int).toNat) ++ (strOfNums y133)) ++ t136).size + t137.size ≤ 9223372036854775807) = true := decide_eq_true c13
                    try have c13b2 : (9223372036854775807 < ((((⟨#[32, 71, 75, 80, 68, 76]⟩ : ByteArray).extract (a0_0 : Int).toNat ((wrap64 (a0_0 + 1)) : Int).toNat) ++ (strOfNums y133)) ++ t136).size + t137.size) = False := eq_false (Nat.not_lt.2 c13)
                    have c13b7 := c13
                    simp only [ByteArray.size_append, HE.out] at c13b7
                    have c13b6 : _ = False := eq_false (Nat.not_lt.2 c13b7)
                    clear c13b7
                    obtain rfl := Option.some.inj H
                    go_enter Try.func17, Try.ntmps17
                    try go_wp2_with (first | ((with_reducible refine gate_dst (N := 1) rfl ?_); refine box_event ?hg (N := 1) ?hd (cs := #[.int .i64 a0_0, .int .u64 a0_1, .int .u64 a0_2, .int .i64 a0_3]) (t := 33) ?hr ?_; (case hd => rfl); (case hg => rfl); (case hr => first | (go_simp; done) | (go_simp; rfl)); intro gb131 hg w14 hbox hb; have n0_ := Aside0.mk (below_step (by repeat (first | (with_reducible first | exact HB.out | apply below_alloc | apply pw_below_drewN | apply below_drew1) | exact HB.out)) hb); have n1_ := Aside0.mk (hbox); have n2_ := Aside0.mk ((by rw [hg]; exact (below_size (by repeat (first | (with_reducible first | exact HB.out | apply below_alloc | apply pw_below_drewN | apply below_drew1) | exact HB.out))) : w.heap.size ≤ gb131)); have n3_ := Aside0.mk ((by rw [hg]; exact (below_size (by repeat (first | (with_reducible first | exact HB.out | apply below_alloc | apply pw_below_drewN | apply below_drew1) | exact HB.out))) : w.heap.size ≤ gb131)); clear HB; have HB := n0_; have BK131 := n1_; have GW131 := n2_; have GE131 := n3_; clear n0_ n1_ n2_ n3_; clear hb hbox hg; have hcz15_0 : w14.cell? ⟨gb131, 0, none⟩ = some (.int .i64 a0_0) := (blk_cell BK131.out 0).trans rfl; have hcz15_1 : w14.cell? ⟨gb131, 1, none⟩ = some (.int .u64 a0_1) := (blk_cell BK131.out 1).trans rfl; have hcz15_2 : w14.cell? ⟨gb131, 2, none⟩ = some (.int .u64 a0_2) := (blk_cell BK131.out 2).trans rfl; have hcz15_3 : w14.cell? ⟨gb131, 3, none⟩ = some (.int .i64 a0_3) := (blk_cell BK131.out 3).trans rfl; have hfz15_0 := blk_frozen BK131.out 0; have hfz15_1 := blk_frozen BK131.out 1; have hfz15_2 := blk_frozen BK131.out 2; have hfz15_3 := blk_frozen BK131.out 3) | ((with_reducible refine gate_callee (f := 15) rfl ?_); refine goesL_ (some 6) rfl rfl Try.func15 (by kernel_rfl) rfl #[.agg #[.int .i64 a0_0, .int .u64 a0_1, .int .u64 a0_2, .int .i64 a0_3]] rfl (by (try simp only [List.map_toArray, List.map_cons, List.map_nil]); first | done | rfl | (simp only [List.length_drop, List.length_take]; rfl)) ?_; (with_reducible refine (shellgameref17_Right.calls k a0_0 a0_1 a0_2 a0_3 true _ A2.out).mono ?_); rintro e w16 ⟨rfl, hb⟩; refine ⟨_, rfl, ?_⟩; have n0_ := Aside0.mk (blk_below (g := gb131) (o := .cells #[.int .i64 a0_0, .int .u64 a0_1, .int .u64 a0_2, .int .i64 a0_3] 33 (0, 0)) (by (with_reducible repeat (first | refine blk_drewN ?_ _ | refine blk_drew ?_ | refine blk_alloc ?_ _)); exact BK131.out) hb); have n1_ := Aside0.mk (below_step (by repeat (first | (with_reducible first | exact HB.out | apply below_alloc | apply pw_below_drewN | apply below_drew1 | refine below_set ?_ GE131.out) | exact HB.out)) hb); clear BK131; clear HB; have BK131 := n0_; have HB := n1_; clear n0_ n1_; (try clear hb); (try clear hb2); (try clear hk); (try clear hi); have hcz17_0 : w16.cell? ⟨gb131, 0, none⟩ = some (.int .i64 a0_0) := (blk_cell BK131.out 0).trans rfl; have hcz17_1 : w16.cell? ⟨gb131, 1, none⟩ = some (.int .u64 a0_1) := (blk_cell BK131.out 1).trans rfl; have hcz17_2 : w16.cell? ⟨gb131, 2, none⟩ = some (.int .u64 a0_2) := (blk_cell BK131.out 2).trans rfl; have hcz17_3 : w16.cell? ⟨gb131, 3, none⟩ = some (.int .i64 a0_3) := (blk_cell BK131.out 3).trans rfl; have hfz17_0 := blk_frozen BK131.out 0; have hfz17_1 := blk_frozen BK131.out 1; have hfz17_2 := blk_frozen BK131.out 2; have hfz17_3 := blk_frozen BK131.out 3) | ((with_reducible refine gate_dst (N := 25) rfl ?_); refine Kd.R_lit (Kd.int .u8) _ 5 ?hg (N := 25) ?hd (xs := ([(Int.tmod a0_3 256) % 256, (wrap64 (Int.tdiv a0_3 256)) % 256] : List Int)) (inner := [.int .u8 ((Int.tmod a0_3 256) % 256), .int .u8 ((wrap64 (Int.tdiv a0_3 256)) % 256)]) (ok := fun _ => True) (okp := fun _ => True) ?hr ?hp (fun _ hk => hk) trivial (Below.refl _ _) (Nat.le_refl _) (by simp) ?_; (case hd => rfl); (case hg => rfl); (case hr => first | (go_simp; done) | (go_simp; rfl)); (case hp => exact (Reps.one (show Kd.M (Kd.int .u8) _ _ _ ((Int.tmod a0_3 256) % 256) [.int .u8 ((Int.tmod a0_3 256) % 256)] from rfl) (Reps.one (show Kd.M (Kd.int .u8) _ _ _ ((wrap64 (Int.tdiv a0_3 256)) % 256) [.int .u8 ((wrap64 (Int.tdiv a0_3 256)) % 256)] from rfl) (Reps.none _ _)))); intro v134 w18 ho19 hb hg_ hnew_; clear hg_ hnew_; (first | rw [← Ny133.out] at ho19 | (simp only [Int.reduceToNat] at ho19; rw [← Ny133.out] at ho19)); have n0_ := Aside0.mk (Kd.R_lower ho19 (below_size (by repeat (first | (with_reducible first | exact HB.out | apply below_alloc | apply pw_below_drewN | apply below_drew1 | refine below_set ?_ GE131.out) | exact HB.out)))); have n1_ := Aside0.mk (blk_below (g := gb131) (o := .cells #[.int .i64 a0_0, .int .u64 a0_1, .int .u64 a0_2, .int .i64 a0_3] 33 (0, 0)) (by (with_reducible repeat (first | refine blk_drewN ?_ _ | refine blk_drew ?_ | refine blk_alloc ?_ _)); exact BK131.out) hb); have n2_ := Aside0.mk (below_step (by repeat (first | (with_reducible first | exact HB.out | apply below_alloc | apply pw_below_drewN | apply below_drew1 | refine below_set ?_ GE131.out) | exact HB.out)) hb); clear BK131; clear HB; have HO135 := n0_; have BK131 := n1_; have HB := n2_; clear n0_ n1_ n2_; clear hb ho19))
                    have n0_ := Aside0.mk (Kd.R_drew HO135.out)
                    have n1_ := Aside0.mk (blk_drew BK131.out)
                    have n2_ := Aside0.mk (below_drew1 HB.out)
                    clear HO135
                    clear BK131
                    clear HB
                    have HO135 := n0_
                    have BK131 := n1_
                    have HB := n2_
                    clear n0_ n1_ n2_
                    have hcv21 := own_string (P := Try.prog) Try.underlying41 Try.underlying5 Try.underlying9 (Kd.own_of_R HO135.out)
                    refine start_ (n := 9) (S := fun w' => w'.cell? ⟨gb131, 0, none⟩ = some (.int .i64 a0_0) ∧ w'.cell? ⟨gb131, 1, none⟩ = some (.int .u64 a0_1) ∧ w'.cell? ⟨gb131, 2, none⟩ = some (.int .u64 a0_2) ∧ w'.cell? ⟨gb131, 3, none⟩ = some (.int .i64 a0_3) ∧ (convert 41 9 v134).run Try.prog w' = .ok (.string (strOfNums y133)) w') (ds := []) #[false, false, false, false, false, false, false, false, false] (by kernel_rfl) rfl rfl ⟨(blk_cell BK131.out 0).trans rfl, (blk_cell BK131.out 1).trans rfl, (blk_cell BK131.out 2).trans rfl, (blk_cell BK131.out 3).trans rfl, hcv21⟩ (fun hHeld => ?_); refine with_tabW shellgameref17_Bytes.tab6 shellgameref17_Bytes.bits6 (fun HT_ HW_ => ?_)
                    generalize w18.drew = w20 at HO135 BK131 HB hHeld ⊢
                    refine pure_ (i := 0) (N := some 26) (v := ?_) (a' := ?_) #[true, false, false, false, false, false, false, false, false] rfl rfl (any_of HT_.out (by kernel_rfl)) (fun _ _ _ h => h) (Or.inl ⟨by rfl, ?_⟩) ?_ ?_
                    rotate_left
                    · intro w'
                      go_simp
                      with_reducible rfl
                    rotate_left
                    · simp only [Act.put, List.setIfInBounds_toArray, List.set_cons_zero, List.set_cons_succ, i64_w, i32_w]
                      rfl
                    refine pure_ (i := 1) (N := some 27) (v := ?_) (a' := ?_) #[true, true, false, false, false, false, false, false, false] rfl rfl (any_of HT_.out (by kernel_rfl)) (fun _ _ _ h => h) (Or.inl ⟨by rfl, ?_⟩) ?_ ?_
                    rotate_left
                    · intro w'
                      go_simp
                      with_reducible rfl
                    rotate_left
                    · simp only [Act.put, List.setIfInBounds_toArray, List.set_cons_zero, List.set_cons_succ, i64_w, i32_w]
                      rfl
                    refine take_ (i := 2) (N := some 28) (v := ?_) (a' := ?_) #[true, true, true, false, false, false, false, false, false] rfl rfl (take_ofW HT_.out HW_.out (by kernel_rfl)) (fun _ _ _ h => h) (Or.inl ⟨by rfl, ?_⟩) hHeld ?_ ?_
                    rotate_left
                    · rintro w' ⟨s0, s1, s2, s3, s4⟩
                      go_simp
                      with_reducible rfl
                    rotate_left
                    · simp only [Act.put, List.setIfInBounds_toArray, List.set_cons_zero, List.set_cons_succ, i64_w, i32_w]
                      rfl
                    refine pure_ (i := 3) (N := some 29) (v := ?_) (a' := ?_) #[true, true, true, true, false, false, false, false, false] rfl rfl (any_of HT_.out (by kernel_rfl)) (fun _ _ _ h => h) (Or.inl ⟨by rfl, ?_⟩) ?_ ?_
                    rotate_left
                    · intro w'
                      go_simp
                      with_reducible rfl
                    rotate_left
                    · simp only [Act.put, List.setIfInBounds_toArray, List.set_cons_zero, List.set_cons_succ, i64_w, i32_w]
                      rfl
                    refine pure_ (i := 4) (N := some 30) (v := ?_) (a' := ?_) #[true, true, true, true, true, false, false, false, false] rfl rfl (any_of HT_.out (by kernel_rfl)) (fun _ _ _ h => h) (Or.inl ⟨by rfl, ?_⟩) ?_ ?_
                    rotate_left
                    · intro w'
                      go_simp
                      with_reducible rfl
                    rotate_left
                    · simp only [Act.put, List.setIfInBounds_toArray, List.set_cons_zero, List.set_cons_succ, i64_w, i32_w]
                      rfl
                    refine take_ (i := 5) (N := some 31) (v := ?_) (a' := ?_) #[true, true, true, true, true, true, false, false, false] rfl rfl (take_ofW HT_.out HW_.out (by kernel_rfl)) (fun _ _ _ h => h) (Or.inl ⟨by rfl, ?_⟩) hHeld ?_ ?_
                    rotate_left
                    · rintro w' ⟨s0, s1, s2, s3, s4⟩
                      go_simp
                      with_reducible rfl
                    rotate_left
                    · simp only [Act.put, List.setIfInBounds_toArray, List.set_cons_zero, List.set_cons_succ, i64_w, i32_w]
                      rfl
                    refine one_ (i := 6) (N := some 32) #[true, true, true, true, true, true, true, false, false] rfl rfl (one_of HT_.out (by kernel_rfl)) (by decide) (fun K hK => ?_)
                    refine goes_ Try.func33 (by kernel_rfl) rfl #[.int .u64 a0_2] (by rfl) rfl rfl (by (try simp only [List.map_toArray, List.map_cons, List.map_nil]); first | done | rfl | (simp only [List.length_drop, List.length_take]; rfl)) ?_
                    with_reducible refine (shellgameref17_counted.calls a0_2 t136 _ A9.out).mono ?_
                    rintro e w22 ⟨rfl, hb⟩
                    refine ⟨_, rfl, ?_⟩
                    have n0_ := Aside0.mk (Kd.R_below (by (with_reducible repeat (first | apply Kd.R_alloc | apply Kd.R_drewN | apply Kd.R_drew)); exact HO135.out) hb)
                    have n1_ := Aside0.mk (blk_below (g := gb131) (o := .cells #[.int .i64 a0_0, .int .u64 a0_1, .int .u64 a0_2, .int .i64 a0_3] 33 (0, 0)) (by (with_reducible repeat (first | refine blk_drewN ?_ _ | refine blk_drew ?_ | refine blk_alloc ?_ _)); exact BK131.out) hb)
                    have n2_ := Aside0.mk (below_step (by repeat (first | (with_reducible first | exact HB.out | apply below_alloc | apply pw_below_drewN | apply below_drew1 | refine below_set ?_ GE131.out) | exact HB.out)) hb)
                    clear HO135
                    clear BK131
                    clear HB
                    have HO135 := n0_
                    have BK131 := n1_
                    have HB := n2_
                    clear n0_ n1_ n2_
                    (try clear hb)
                    (try clear hb2)
                    (try clear hk)
                    (try clear hi)
                    refine hK.out _ _ ⟨(blk_cell BK131.out 0).trans rfl, (blk_cell BK131.out 1).trans rfl, (blk_cell BK131.out 2).trans rfl, (blk_cell BK131.out 3).trans rfl, own_string (P := Try.prog) Try.underlying41 Try.underlying5 Try.underlying9 (Kd.own_of_R HO135.out)⟩ (fun hHeld => ?_)
                    clear hK K
                    refine norm_ (a' := ?_) ?_ ?_
                    rotate_left
                    · show Act.put _ (some 32) _ = _
                      simp only [Act.put, List.setIfInBounds_toArray, List.set_cons_zero, List.set_cons_succ, i64_w, i32_w]
                      rfl
                    refine pure_ (i := 7) (N := some 33) (v := ?_) (a' := ?_) #[true, true, true, true, true, true, true, true, false] rfl rfl (any_of HT_.out (by kernel_rfl)) (fun _ _ _ h => h) (Or.inl ⟨by rfl, ?_⟩) ?_ ?_
                    rotate_left
                    · intro w'
                      go_simp
                      with_reducible rfl
                    rotate_left
                    · simp only [Act.put, List.setIfInBounds_toArray, List.set_cons_zero, List.set_cons_succ, i64_w, i32_w]
                      rfl
                    refine pure_ (i := 8) (N := some 3) (v := ?_) (a' := ?_) #[true, true, true, true, true, true, true, true, true] rfl rfl (any_of HT_.out (by kernel_rfl)) (fun _ _ _ h => h) (Or.inl ⟨by rfl, ?_⟩) ?_ ?_
                    rotate_left
                    · intro w'
                      go_simp
                      with_reducible rfl
                    rotate_left
                    · simp only [Act.put, List.setIfInBounds_toArray, List.set_cons_zero, List.set_cons_succ, i64_w, i32_w]
                      rfl
                    refine done_ (done_of HT_.out (by kernel_rfl)) ?_
                    have hcz24_0 : w22.cell? ⟨gb131, 0, none⟩ = some (.int .i64 a0_0) := (blk_cell BK131.out 0).trans rfl
                    have hcz24_1 : w22.cell? ⟨gb131, 1, none⟩ = some (.int .u64 a0_1) := (blk_cell BK131.out 1).trans rfl
                    have hcz24_2 : w22.cell? ⟨gb131, 2, none⟩ = some (.int .u64 a0_2) := (blk_cell BK131.out 2).trans rfl
                    have hcz24_3 : w22.cell? ⟨gb131, 3, none⟩ = some (.int .i64 a0_3) := (blk_cell BK131.out 3).trans rfl
                    have hfz24_0 := blk_frozen BK131.out 0
                    have hfz24_1 := blk_frozen BK131.out 1
                    have hfz24_2 := blk_frozen BK131.out 2
                    have hfz24_3 := blk_frozen BK131.out 3
                    try go_wp2_with (first | ((with_reducible refine gate_callee (f := 33) rfl ?_); refine goesL_ (some 40) rfl rfl Try.func33 (by kernel_rfl) rfl #[.int .u64 a0_1] rfl (by (try simp only [List.map_toArray, List.map_cons, List.map_nil]); first | done | rfl | (simp only [List.length_drop, List.length_take]; rfl)) ?_; (with_reducible refine (shellgameref17_counted.calls a0_1 t137 _ A12.out).mono ?_); rintro e w25 ⟨rfl, hb⟩; refine ⟨_, rfl, ?_⟩; have n0_ := Aside0.mk (Kd.R_below (by (with_reducible repeat (first | apply Kd.R_alloc | apply Kd.R_drewN | apply Kd.R_drew)); exact HO135.out) hb); have n1_ := Aside0.mk (blk_below (g := gb131) (o := .cells #[.int .i64 a0_0, .int .u64 a0_1, .int .u64 a0_2, .int .i64 a0_3] 33 (0, 0)) (by (with_reducible repeat (first | refine blk_drewN ?_ _ | refine blk_drew ?_ | refine blk_alloc ?_ _)); exact BK131.out) hb); have n2_ := Aside0.mk (below_step (by repeat (first | (with_reducible first | exact HB.out | apply below_alloc | apply pw_below_drewN | apply below_drew1 | refine below_set ?_ GE131.out) | exact HB.out)) hb); clear HO135; clear BK131; clear HB; have HO135 := n0_; have BK131 := n1_; have HB := n2_; clear n0_ n1_ n2_; (try clear hb); (try clear hb2); (try clear hk); (try clear hi)))
                    go_ret
                    exact ⟨by first | rfl | (simp [errW_none, errW_some] <;> rfl) | (simp [*, errW_none, errW_some] <;> rfl), by repeat (first | (with_reducible first | exact HB.out | apply below_alloc | apply pw_below_drewN | apply below_drew1 | refine below_set ?_ GE131.out) | exact HB.out)⟩
                  · rw [if_neg c13] at H
                    exact absurd H (by simp)
                · rw [if_neg c11] at H
                  have c11b0 : decide (a0_0 < 5) = false := decide_eq_false c11
                  clear c11
                  obtain rfl := Option.some.inj H
                  go_enter Try.func17, Try.ntmps17
                  try go_wp2_with (first | ((with_reducible refine gate_dst (N := 1) rfl ?_); refine box_event ?hg (N := 1) ?hd (cs := #[.int .i64 a0_0, .int .u64 a0_1, .int .u64 a0_2, .int .i64 a0_3]) (t := 33) ?hr ?_; (case hd => rfl); (case hg => rfl); (case hr => first | (go_simp; done) | (go_simp; rfl)); intro gb131 hg w26 hbox hb; have n0_ := Aside0.mk (below_step (by repeat (first | (with_reducible first | exact HB.out | apply below_alloc | apply pw_below_drewN | apply below_drew1) | exact HB.out)) hb); have n1_ := Aside0.mk (hbox); have n2_ := Aside0.mk ((by rw [hg]; exact (below_size (by repeat (first | (with_reducible first | exact HB.out | apply below_alloc | apply pw_below_drewN | apply below_drew1) | exact HB.out))) : w.heap.size ≤ gb131)); have n3_ := Aside0.mk ((by rw [hg]; exact (below_size (by repeat (first | (with_reducible first | exact HB.out | apply below_alloc | apply pw_below_drewN | apply below_drew1) | exact HB.out))) : w.heap.size ≤ gb131)); clear HB; have HB := n0_; have BK131 := n1_; have GW131 := n2_; have GE131 := n3_; clear n0_ n1_ n2_ n3_; clear hb hbox hg; have hcz27_0 : w26.cell? ⟨gb131, 0, none⟩ = some (.int .i64 a0_0) := (blk_cell BK131.out 0).trans rfl; have hcz27_1 : w26.cell? ⟨gb131, 1, none⟩ = some (.int .u64 a0_1) := (blk_cell BK131.out 1).trans rfl; have hcz27_2 : w26.cell? ⟨gb131, 2, none⟩ = some (.int .u64 a0_2) := (blk_cell BK131.out 2).trans rfl; have hcz27_3 : w26.cell? ⟨gb131, 3, none⟩ = some (.int .i64 a0_3) := (blk_cell BK131.out 3).trans rfl; have hfz27_0 := blk_frozen BK131.out 0; have hfz27_1 := blk_frozen BK131.out 1; have hfz27_2 := blk_frozen BK131.out 2; have hfz27_3 := blk_frozen BK131.out 3) | ((with_reducible refine gate_callee (f := 15) rfl ?_); refine goesL_ (some 6) rfl rfl Try.func15 (by kernel_rfl) rfl #[.agg #[.int .i64 a0_0, .int .u64 a0_1, .int .u64 a0_2, .int .i64 a0_3]] rfl (by (try simp only [List.map_toArray, List.map_cons, List.map_nil]); first | done | rfl | (simp only [List.length_drop, List.length_take]; rfl)) ?_; (with_reducible refine (shellgameref17_Right.calls k a0_0 a0_1 a0_2 a0_3 true _ A2.out).mono ?_); rintro e w28 ⟨rfl, hb⟩; refine ⟨_, rfl, ?_⟩; have n0_ := Aside0.mk (blk_below (g := gb131) (o := .cells #[.int .i64 a0_0, .int .u64 a0_1, .int .u64 a0_2, .int .i64 a0_3] 33 (0, 0)) (by (with_reducible repeat (first | refine blk_drewN ?_ _ | refine blk_drew ?_ | refine blk_alloc ?_ _)); exact BK131.out) hb); have n1_ := Aside0.mk (below_step (by repeat (first | (with_reducible first | exact HB.out | apply below_alloc | apply pw_below_drewN | apply below_drew1 | refine below_set ?_ GE131.out) | exact HB.out)) hb); clear BK131; clear HB; have BK131 := n0_; have HB := n1_; clear n0_ n1_; (try clear hb); (try clear hb2); (try clear hk); (try clear hi); have hcz29_0 : w28.cell? ⟨gb131, 0, none⟩ = some (.int .i64 a0_0) := (blk_cell BK131.out 0).trans rfl; have hcz29_1 : w28.cell? ⟨gb131, 1, none⟩ = some (.int .u64 a0_1) := (blk_cell BK131.out 1).trans rfl; have hcz29_2 : w28.cell? ⟨gb131, 2, none⟩ = some (.int .u64 a0_2) := (blk_cell BK131.out 2).trans rfl; have hcz29_3 : w28.cell? ⟨gb131, 3, none⟩ = some (.int .i64 a0_3) := (blk_cell BK131.out 3).trans rfl; have hfz29_0 := blk_frozen BK131.out 0; have hfz29_1 := blk_frozen BK131.out 1; have hfz29_2 := blk_frozen BK131.out 2; have hfz29_3 := blk_frozen BK131.out 3) | ((with_reducible refine gate_dst (N := 25) rfl ?_); refine Kd.R_lit (Kd.int .u8) _ 5 ?hg (N := 25) ?hd (xs := ([(Int.tmod a0_3 256) % 256, (wrap64 (Int.tdiv a0_3 256)) % 256] : List Int)) (inner := [.int .u8 ((Int.tmod a0_3 256) % 256), .int .u8 ((wrap64 (Int.tdiv a0_3 256)) % 256)]) (ok := fun _ => True) (okp := fun _ => True) ?hr ?hp (fun _ hk => hk) trivial (Below.refl _ _) (Nat.le_refl _) (by simp) ?_; (case hd => rfl); (case hg => rfl); (case hr => first | (go_simp; done) | (go_simp; rfl)); (case hp => exact (Reps.one (show Kd.M (Kd.int .u8) _ _ _ ((Int.tmod a0_3 256) % 256) [.int .u8 ((Int.tmod a0_3 256) % 256)] from rfl) (Reps.one (show Kd.M (Kd.int .u8) _ _ _ ((wrap64 (Int.tdiv a0_3 256)) % 256) [.int .u8 ((wrap64 (Int.tdiv a0_3 256)) % 256)] from rfl) (Reps.none _ _)))); intro v134 w30 ho31 hb hg_ hnew_; clear hg_ hnew_; (first | rw [← Ny133.out] at ho31 | (simp only [Int.reduceToNat] at ho31; rw [← Ny133.out] at ho31)); have n0_ := Aside0.mk (Kd.R_lower ho31 (below_size (by repeat (first | (with_reducible first | exact HB.out | apply below_alloc | apply pw_below_drewN | apply below_drew1 | refine below_set ?_ GE131.out) | exact HB.out)))); have n1_ := Aside0.mk (blk_below (g := gb131) (o := .cells #[.int .i64 a0_0, .int .u64 a0_1, .int .u64 a0_2, .int .i64 a0_3] 33 (0, 0)) (by (with_reducible repeat (first | refine blk_drewN ?_ _ | refine blk_drew ?_ | refine blk_alloc ?_ _)); exact BK131.out) hb); have n2_ := Aside0.mk (below_step (by repeat (first | (with_reducible first | exact HB.out | apply below_alloc | apply pw_below_drewN | apply below_drew1 | refine below_set ?_ GE131.out) | exact HB.out)) hb); clear BK131; clear HB; have HO135 := n0_; have BK131 := n1_; have HB := n2_; clear n0_ n1_ n2_; clear hb ho31))
                  have n0_ := Aside0.mk (Kd.R_drew HO135.out)
                  have n1_ := Aside0.mk (blk_drew BK131.out)
                  have n2_ := Aside0.mk (below_drew1 HB.out)
                  clear HO135
                  clear BK131
                  clear HB
                  have HO135 := n0_
                  have BK131 := n1_
                  have HB := n2_
                  clear n0_ n1_ n2_
                  have hcv33 := own_string (P := Try.prog) Try.underlying41 Try.underlying5 Try.underlying9 (Kd.own_of_R HO135.out)
                  refine start_ (n := 9) (S := fun w' => w'.cell? ⟨gb131, 0, none⟩ = some (.int .i64 a0_0) ∧ w'.cell? ⟨gb131, 1, none⟩ = some (.int .u64 a0_1) ∧ w'.cell? ⟨gb131, 2, none⟩ = some (.int .u64 a0_2) ∧ w'.cell? ⟨gb131, 3, none⟩ = some (.int .i64 a0_3) ∧ (convert 41 9 v134).run Try.prog w' = .ok (.string (strOfNums y133)) w') (ds := []) #[false, false, false, false, false, false, false, false, false] (by kernel_rfl) rfl rfl ⟨(blk_cell BK131.out 0).trans rfl, (blk_cell BK131.out 1).trans rfl, (blk_cell BK131.out 2).trans rfl, (blk_cell BK131.out 3).trans rfl, hcv33⟩ (fun hHeld => ?_); refine with_tabW shellgameref17_Bytes.tab6 shellgameref17_Bytes.bits6 (fun HT_ HW_ => ?_)
                  generalize w30.drew = w32 at HO135 BK131 HB hHeld ⊢
                  refine pure_ (i := 0) (N := some 26) (v := ?_) (a' := ?_) #[true, false, false, false, false, false, false, false, false] rfl rfl (any_of HT_.out (by kernel_rfl)) (fun _ _ _ h => h) (Or.inl ⟨by rfl, ?_⟩) ?_ ?_
                  rotate_left
                  · intro w'
                    go_simp
                    with_reducible rfl
                  rotate_left
                  · simp only [Act.put, List.setIfInBounds_toArray, List.set_cons_zero, List.set_cons_succ, i64_w, i32_w]
                    rfl
                  refine pure_ (i := 1) (N := some 27) (v := ?_) (a' := ?_) #[true, true, false, false, false, false, false, false, false] rfl rfl (any_of HT_.out (by kernel_rfl)) (fun _ _ _ h => h) (Or.inl ⟨by rfl, ?_⟩) ?_ ?_
                  rotate_left
                  · intro w'
                    go_simp
                    with_reducible rfl
                  rotate_left
                  · simp only [Act.put, List.setIfInBounds_toArray, List.set_cons_zero, List.set_cons_succ, i64_w, i32_w]
                    rfl
                  refine take_ (i := 2) (N := some 28) (v := ?_) (a' := ?_) #[true, true, true, false, false, false, false, false, false] rfl rfl (take_ofW HT_.out HW_.out (by kernel_rfl)) (fun _ _ _ h => h) (Or.inl ⟨by rfl, ?_⟩) hHeld ?_ ?_
                  rotate_left
                  · rintro w' ⟨s0, s1, s2, s3, s4⟩
                    go_simp
                    with_reducible rfl
                  rotate_left
                  · simp only [Act.put, List.setIfInBounds_toArray, List.set_cons_zero, List.set_cons_succ, i64_w, i32_w]
                    rfl
                  refine pure_ (i := 3) (N := some 29) (v := ?_) (a' := ?_) #[true, true, true, true, false, false, false, false, false] rfl rfl (any_of HT_.out (by kernel_rfl)) (fun _ _ _ h => h) (Or.inl ⟨by rfl, ?_⟩) ?_ ?_
                  rotate_left
                  · intro w'
                    go_simp
                    with_reducible rfl
                  rotate_left
                  · simp only [Act.put, List.setIfInBounds_toArray, List.set_cons_zero, List.set_cons_succ, i64_w, i32_w]
                    rfl
                  refine pure_ (i := 4) (N := some 30) (v := ?_) (a' := ?_) #[true, true, true, true, true, false, false, false, false] rfl rfl (any_of HT_.out (by kernel_rfl)) (fun _ _ _ h => h) (Or.inl ⟨by rfl, ?_⟩) ?_ ?_
                  rotate_left
                  · intro w'
                    go_simp
                    with_reducible rfl
                  rotate_left
                  · simp only [Act.put, List.setIfInBounds_toArray, List.set_cons_zero, List.set_cons_succ, i64_w, i32_w]
                    rfl
                  refine take_ (i := 5) (N := some 31) (v := ?_) (a' := ?_) #[true, true, true, true, true, true, false, false, false] rfl rfl (take_ofW HT_.out HW_.out (by kernel_rfl)) (fun _ _ _ h => h) (Or.inl ⟨by rfl, ?_⟩) hHeld ?_ ?_
                  rotate_left
                  · rintro w' ⟨s0, s1, s2, s3, s4⟩
                    go_simp
                    with_reducible rfl
                  rotate_left
                  · simp only [Act.put, List.setIfInBounds_toArray, List.set_cons_zero, List.set_cons_succ, i64_w, i32_w]
                    rfl
                  refine one_ (i := 6) (N := some 32) #[true, true, true, true, true, true, true, false, false] rfl rfl (one_of HT_.out (by kernel_rfl)) (by decide) (fun K hK => ?_)
                  refine goes_ Try.func33 (by kernel_rfl) rfl #[.int .u64 a0_2] (by rfl) rfl rfl (by (try simp only [List.map_toArray, List.map_cons, List.map_nil]); first | done | rfl | (simp only [List.length_drop, List.length_take]; rfl)) ?_
                  with_reducible refine (shellgameref17_counted.calls a0_2 t136 _ A9.out).mono ?_
                  rintro e w34 ⟨rfl, hb⟩
                  refine ⟨_, rfl, ?_⟩
                  have n0_ := Aside0.mk (Kd.R_below (by (with_reducible repeat (first | apply Kd.R_alloc | apply Kd.R_drewN | apply Kd.R_drew)); exact HO135.out) hb)
                  have n1_ := Aside0.mk (blk_below (g := gb131) (o := .cells #[.int .i64 a0_0, .int .u64 a0_1, .int .u64 a0_2, .int .i64 a0_3] 33 (0, 0)) (by (with_reducible repeat (first | refine blk_drewN ?_ _ | refine blk_drew ?_ | refine blk_alloc ?_ _)); exact BK131.out) hb)
                  have n2_ := Aside0.mk (below_step (by repeat (first | (with_reducible first | exact HB.out | apply below_alloc | apply pw_below_drewN | apply below_drew1 | refine below_set ?_ GE131.out) | exact HB.out)) hb)
                  clear HO135
                  clear BK131
                  clear HB
                  have HO135 := n0_
                  have BK131 := n1_
                  have HB := n2_
                  clear n0_ n1_ n2_
                  (try clear hb)
                  (try clear hb2)
                  (try clear hk)
                  (try clear hi)
                  refine hK.out _ _ ⟨(blk_cell BK131.out 0).trans rfl, (blk_cell BK131.out 1).trans rfl, (blk_cell BK131.out 2).trans rfl, (blk_cell BK131.out 3).trans rfl, own_string (P := Try.prog) Try.underlying41 Try.underlying5 Try.underlying9 (Kd.own_of_R HO135.out)⟩ (fun hHeld => ?_)
                  clear hK K
                  refine norm_ (a' := ?_) ?_ ?_
                  rotate_left
                  · show Act.put _ (some 32) _ = _
                    simp only [Act.put, List.setIfInBounds_toArray, List.set_cons_zero, List.set_cons_succ, i64_w, i32_w]
                    rfl
                  refine pure_ (i := 7) (N := some 33) (v := ?_) (a' := ?_) #[true, true, true, true, true, true, true, true, false] rfl rfl (any_of HT_.out (by kernel_rfl)) (fun _ _ _ h => h) (Or.inl ⟨by rfl, ?_⟩) ?_ ?_
                  rotate_left
                  · intro w'
                    go_simp
                    with_reducible rfl
                  rotate_left
                  · simp only [Act.put, List.setIfInBounds_toArray, List.set_cons_zero, List.set_cons_succ, i64_w, i32_w]
                    rfl
                  refine pure_ (i := 8) (N := some 3) (v := ?_) (a' := ?_) #[true, true, true, true, true, true, true, true, true] rfl rfl (any_of HT_.out (by kernel_rfl)) (fun _ _ _ h => h) (Or.inl ⟨by rfl, ?_⟩) ?_ ?_
                  rotate_left
                  · intro w'
                    go_simp
                    with_reducible rfl
                  rotate_left
                  · simp only [Act.put, List.setIfInBounds_toArray, List.set_cons_zero, List.set_cons_succ, i64_w, i32_w]
                    rfl
                  refine done_ (done_of HT_.out (by kernel_rfl)) ?_
                  have hcz36_0 : w34.cell? ⟨gb131, 0, none⟩ = some (.int .i64 a0_0) := (blk_cell BK131.out 0).trans rfl
                  have hcz36_1 : w34.cell? ⟨gb131, 1, none⟩ = some (.int .u64 a0_1) := (blk_cell BK131.out 1).trans rfl
                  have hcz36_2 : w34.cell? ⟨gb131, 2, none⟩ = some (.int .u64 a0_2) := (blk_cell BK131.out 2).trans rfl
                  have hcz36_3 : w34.cell? ⟨gb131, 3, none⟩ = some (.int .i64 a0_3) := (blk_cell BK131.out 3).trans rfl
                  have hfz36_0 := blk_frozen BK131.out 0
                  have hfz36_1 := blk_frozen BK131.out 1
                  have hfz36_2 := blk_frozen BK131.out 2
                  have hfz36_3 := blk_frozen BK131.out 3
                  try go_wp2
                  go_ret
                  exact ⟨by first | rfl | (simp [errW_none, errW_some] <;> rfl) | (simp [*, errW_none, errW_some] <;> rfl), by repeat (first | (with_reducible first | exact HB.out | apply below_alloc | apply pw_below_drewN | apply below_drew1 | refine below_set ?_ GE131.out) | exact HB.out)⟩
              · rw [if_neg c10] at H
                exact absurd H (by simp)
            · rw [if_neg c8] at H
              exact absurd H (by simp)
          · rw [if_neg c7] at H
            have c7b0 : (a0_0 == 3) = false := beq_eq_false_iff_ne.mpr c7
            have c7b1 : (a0_0 != 3) = true := bne_iff_ne.mpr c7
            by_cases c37 : a0_0 < 5
            · rw [if_pos c37] at H
              have c37b0 : decide (a0_0 < 5) = true := decide_eq_true c37
              clear c37
              replace H := Option.bind_eq_some_iff.mp H
              obtain ⟨t138, A380, H⟩ := H
              replace H : (if ((⟨#[32, 71, 75, 80, 68, 76]⟩ : ByteArray).extract (a0_0 : Int).toNat ((wrap64 (a0_0 + 1)) : Int).toNat).size + t138.size ≤ 9223372036854775807 then (some (((⟨#[32, 71, 75, 80, 68, 76]⟩ : ByteArray).extract (a0_0 : Int).toNat ((wrap64 (a0_0 + 1)) : Int).toNat) ++ t138)) else (none)) = some r := H
              have A38 := Aside0.mk A380
              clear A380
              by_cases c39 : ((⟨#[32, 71, 75, 80, 68, 76]⟩ : ByteArray).extract (a0_0 : Int).toNat ((wrap64 (a0_0 + 1)) : Int).toNat).size + t138.size ≤ 9223372036854775807
              · rw [if_pos c39] at H
                have c39b0 := eq_true c39
                have c39b1 : decide (((⟨#[32, 71, 75, 80, 68, 76]⟩ : ByteArray).extract (a0_0 : Int).toNat ((wrap64 (a0_0 + 1)) : Int).toNat).size + t138.size ≤ 9223372036854775807) = true := decide_eq_true c39
                try have c39b2 : (9223372036854775807 < ((⟨#[32, 71, 75, 80, 68, 76]⟩ : ByteArray).extract (a0_0 : Int).toNat ((wrap64 (a0_0 + 1)) : Int).toNat).size + t138.size) = False := eq_false (Nat.not_lt.2 c39)
                have c39b7 := c39
                simp only [ByteArray.size_append, HE.out] at c39b7
                have c39b6 : _ = False := eq_false (Nat.not_lt.2 c39b7)
                clear c39b7
                obtain rfl := Option.some.inj H
                go_enter Try.func17, Try.ntmps17
                go_wp2_with (first | ((with_reducible refine gate_dst (N := 1) rfl ?_); refine box_event ?hg (N := 1) ?hd (cs := #[.int .i64 a0_0, .int .u64 a0_1, .int .u64 a0_2, .int .i64 a0_3]) (t := 33) ?hr ?_; (case hd => rfl); (case hg => rfl); (case hr => first | (go_simp; done) | (go_simp; rfl)); intro gb131 hg w40 hbox hb; have n0_ := Aside0.mk (below_step (by repeat (first | (with_reducible first | exact HB.out | apply below_alloc | apply pw_below_drewN | apply below_drew1) | exact HB.out)) hb); have n1_ := Aside0.mk (hbox); have n2_ := Aside0.mk ((by rw [hg]; exact (below_size (by repeat (first | (with_reducible first | exact HB.out | apply below_alloc | apply pw_below_drewN | apply below_drew1) | exact HB.out))) : w.heap.size ≤ gb131)); have n3_ := Aside0.mk ((by rw [hg]; exact (below_size (by repeat (first | (with_reducible first | exact HB.out | apply below_alloc | apply pw_below_drewN | apply below_drew1) | exact HB.out))) : w.heap.size ≤ gb131)); clear HB; have HB := n0_; have BK131 := n1_; have GW131 := n2_; have GE131 := n3_; clear n0_ n1_ n2_ n3_; clear hb hbox hg; have hcz41_0 : w40.cell? ⟨gb131, 0, none⟩ = some (.int .i64 a0_0) := (blk_cell BK131.out 0).trans rfl; have hcz41_1 : w40.cell? ⟨gb131, 1, none⟩ = some (.int .u64 a0_1) := (blk_cell BK131.out 1).trans rfl; have hcz41_2 : w40.cell? ⟨gb131, 2, none⟩ = some (.int .u64 a0_2) := (blk_cell BK131.out 2).trans rfl; have hcz41_3 : w40.cell? ⟨gb131, 3, none⟩ = some (.int .i64 a0_3) := (blk_cell BK131.out 3).trans rfl; have hfz41_0 := blk_frozen BK131.out 0; have hfz41_1 := blk_frozen BK131.out 1; have hfz41_2 := blk_frozen BK131.out 2; have hfz41_3 := blk_frozen BK131.out 3) | ((with_reducible refine gate_callee (f := 15) rfl ?_); refine goesL_ (some 6) rfl rfl Try.func15 (by kernel_rfl) rfl #[.agg #[.int .i64 a0_0, .int .u64 a0_1, .int .u64 a0_2, .int .i64 a0_3]] rfl (by (try simp only [List.map_toArray, List.map_cons, List.map_nil]); first | done | rfl | (simp only [List.length_drop, List.length_take]; rfl)) ?_; (with_reducible refine (shellgameref17_Right.calls k a0_0 a0_1 a0_2 a0_3 true _ A2.out).mono ?_); rintro e w42 ⟨rfl, hb⟩; refine ⟨_, rfl, ?_⟩; have n0_ := Aside0.mk (blk_below (g := gb131) (o := .cells #[.int .i64 a0_0, .int .u64 a0_1, .int .u64 a0_2, .int .i64 a0_3] 33 (0, 0)) (by (with_reducible repeat (first | refine blk_drewN ?_ _ | refine blk_drew ?_ | refine blk_alloc ?_ _)); exact BK131.out) hb); have n1_ := Aside0.mk (below_step (by repeat (first | (with_reducible first | exact HB.out | apply below_alloc | apply pw_below_drewN | apply below_drew1 | refine below_set ?_ GE131.out) | exact HB.out)) hb); clear BK131; clear HB; have BK131 := n0_; have HB := n1_; clear n0_ n1_; (try clear hb); (try clear hb2); (try clear hk); (try clear hi); have hcz43_0 : w42.cell? ⟨gb131, 0, none⟩ = some (.int .i64 a0_0) := (blk_cell BK131.out 0).trans rfl; have hcz43_1 : w42.cell? ⟨gb131, 1, none⟩ = some (.int .u64 a0_1) := (blk_cell BK131.out 1).trans rfl; have hcz43_2 : w42.cell? ⟨gb131, 2, none⟩ = some (.int .u64 a0_2) := (blk_cell BK131.out 2).trans rfl; have hcz43_3 : w42.cell? ⟨gb131, 3, none⟩ = some (.int .i64 a0_3) := (blk_cell BK131.out 3).trans rfl; have hfz43_0 := blk_frozen BK131.out 0; have hfz43_1 := blk_frozen BK131.out 1; have hfz43_2 := blk_frozen BK131.out 2; have hfz43_3 := blk_frozen BK131.out 3) | ((with_reducible refine gate_callee (f := 33) rfl ?_); refine goesL_ (some 40) rfl rfl Try.func33 (by kernel_rfl) rfl #[.int .u64 a0_1] rfl (by (try simp only [List.map_toArray, List.map_cons, List.map_nil]); first | done | rfl | (simp only [List.length_drop, List.length_take]; rfl)) ?_; (with_reducible refine (shellgameref17_counted.calls a0_1 t138 _ A38.out).mono ?_); rintro e w44 ⟨rfl, hb⟩; refine ⟨_, rfl, ?_⟩; have n0_ := Aside0.mk (blk_below (g := gb131) (o := .cells #[.int .i64 a0_0, .int .u64 a0_1, .int .u64 a0_2, .int .i64 a0_3] 33 (0, 0)) (by (with_reducible repeat (first | refine blk_drewN ?_ _ | refine blk_drew ?_ | refine blk_alloc ?_ _)); exact BK131.out) hb); have n1_ := Aside0.mk (below_step (by repeat (first | (with_reducible first | exact HB.out | apply below_alloc | apply pw_below_drewN | apply below_drew1 | refine below_set ?_ GE131.out) | exact HB.out)) hb); clear BK131; clear HB; have BK131 := n0_; have HB := n1_; clear n0_ n1_; (try clear hb); (try clear hb2); (try clear hk); (try clear hi)))
                go_ret
                exact ⟨by first | rfl | (simp [errW_none, errW_some] <;> rfl) | (simp [*, errW_none, errW_some] <;> rfl), by repeat (first | (with_reducible first | exact HB.out | apply below_alloc | apply pw_below_drewN | apply below_drew1 | refine below_set ?_ GE131.out) | exact HB.out)⟩
              · rw [if_neg c39] at H
                exact absurd H (by simp)
            · rw [if_neg c37] at H
              have c37b0 : decide (a0_0 < 5) = false := decide_eq_false c37
              clear c37
              obtain rfl := Option.some.inj H
              go_enter Try.func17, Try.ntmps17
              go_wp2_with (first | ((with_reducible refine gate_dst (N := 1) rfl ?_); refine box_event ?hg (N := 1) ?hd (cs := #[.int .i64 a0_0, .int .u64 a0_1, .int .u64 a0_2, .int .i64 a0_3]) (t := 33) ?hr ?_; (case hd => rfl); (case hg => rfl); (case hr => first | (go_simp; done) | (go_simp; rfl)); intro gb131 hg w45 hbox hb; have n0_ := Aside0.mk (below_step (by repeat (first | (with_reducible first | exact HB.out | apply below_alloc | apply pw_below_drewN | apply below_drew1) | exact HB.out)) hb); have n1_ := Aside0.mk (hbox); have n2_ := Aside0.mk ((by rw [hg]; exact (below_size (by repeat (first | (with_reducible first | exact HB.out | apply below_alloc | apply pw_below_drewN | apply below_drew1) | exact HB.out))) : w.heap.size ≤ gb131)); have n3_ := Aside0.mk ((by rw [hg]; exact (below_size (by repeat (first | (with_reducible first | exact HB.out | apply below_alloc | apply pw_below_drewN | apply below_drew1) | exact HB.out))) : w.heap.size ≤ gb131)); clear HB; have HB := n0_; have BK131 := n1_; have GW131 := n2_; have GE131 := n3_; clear n0_ n1_ n2_ n3_; clear hb hbox hg; have hcz46_0 : w45.cell? ⟨gb131, 0, none⟩ = some (.int .i64 a0_0) := (blk_cell BK131.out 0).trans rfl; have hcz46_1 : w45.cell? ⟨gb131, 1, none⟩ = some (.int .u64 a0_1) := (blk_cell BK131.out 1).trans rfl; have hcz46_2 : w45.cell? ⟨gb131, 2, none⟩ = some (.int .u64 a0_2) := (blk_cell BK131.out 2).trans rfl; have hcz46_3 : w45.cell? ⟨gb131, 3, none⟩ = some (.int .i64 a0_3) := (blk_cell BK131.out 3).trans rfl; have hfz46_0 := blk_frozen BK131.out 0; have hfz46_1 := blk_frozen BK131.out 1; have hfz46_2 := blk_frozen BK131.out 2; have hfz46_3 := blk_frozen BK131.out 3) | ((with_reducible refine gate_callee (f := 15) rfl ?_); refine goesL_ (some 6) rfl rfl Try.func15 (by kernel_rfl) rfl #[.agg #[.int .i64 a0_0, .int .u64 a0_1, .int .u64 a0_2, .int .i64 a0_3]] rfl (by (try simp only [List.map_toArray, List.map_cons, List.map_nil]); first | done | rfl | (simp only [List.length_drop, List.length_take]; rfl)) ?_; (with_reducible refine (shellgameref17_Right.calls k a0_0 a0_1 a0_2 a0_3 true _ A2.out).mono ?_); rintro e w47 ⟨rfl, hb⟩; refine ⟨_, rfl, ?_⟩; have n0_ := Aside0.mk (blk_below (g := gb131) (o := .cells #[.int .i64 a0_0, .int .u64 a0_1, .int .u64 a0_2, .int .i64 a0_3] 33 (0, 0)) (by (with_reducible repeat (first | refine blk_drewN ?_ _ | refine blk_drew ?_ | refine blk_alloc ?_ _)); exact BK131.out) hb); have n1_ := Aside0.mk (below_step (by repeat (first | (with_reducible first | exact HB.out | apply below_alloc | apply pw_below_drewN | apply below_drew1 | refine below_set ?_ GE131.out) | exact HB.out)) hb); clear BK131; clear HB; have BK131 := n0_; have HB := n1_; clear n0_ n1_; (try clear hb); (try clear hb2); (try clear hk); (try clear hi); have hcz48_0 : w47.cell? ⟨gb131, 0, none⟩ = some (.int .i64 a0_0) := (blk_cell BK131.out 0).trans rfl; have hcz48_1 : w47.cell? ⟨gb131, 1, none⟩ = some (.int .u64 a0_1) := (blk_cell BK131.out 1).trans rfl; have hcz48_2 : w47.cell? ⟨gb131, 2, none⟩ = some (.int .u64 a0_2) := (blk_cell BK131.out 2).trans rfl; have hcz48_3 : w47.cell? ⟨gb131, 3, none⟩ = some (.int .i64 a0_3) := (blk_cell BK131.out 3).trans rfl; have hfz48_0 := blk_frozen BK131.out 0; have hfz48_1 := blk_frozen BK131.out 1; have hfz48_2 := blk_frozen BK131.out 2; have hfz48_3 := blk_frozen BK131.out 3))
              go_ret
              exact ⟨by first | rfl | (simp [errW_none, errW_some] <;> rfl) | (simp [*, errW_none, errW_some] <;> rfl), by repeat (first | (with_reducible first | exact HB.out | apply below_alloc | apply pw_below_drewN | apply below_drew1 | refine below_set ?_ GE131.out) | exact HB.out)⟩
        · rw [if_neg c6] at H
          exact absurd H (by simp)
      · rw [if_neg c5] at H
        exact absurd H (by simp)
    · rw [if_neg c4] at H
      exact absurd H (by simp)
  · replace c3 := Bool.eq_false_iff.mpr c3
    subst c3
    have H1 : (some (⟨#[]⟩ : ByteArray)) = some r := by rw [if_neg (show ¬ (false = true) by decide)] at H; exact H
    clear H
    have H := H1
    clear H1
    obtain rfl := Option.some.inj H
    go_enter Try.func17, Try.ntmps17
    go_wp2_with (first | ((with_reducible refine gate_dst (N := 1) rfl ?_); refine box_event ?hg (N := 1) ?hd (cs := #[.int .i64 a0_0, .int .u64 a0_1, .int .u64 a0_2, .int .i64 a0_3]) (t := 33) ?hr ?_; (case hd => rfl); (case hg => rfl); (case hr => first | (go_simp; done) | (go_simp; rfl)); intro gb131 hg w49 hbox hb; have n0_ := Aside0.mk (below_step (by repeat (first | (with_reducible first | exact HB.out | apply below_alloc | apply pw_below_drewN | apply below_drew1) | exact HB.out)) hb); have n1_ := Aside0.mk (hbox); have n2_ := Aside0.mk ((by rw [hg]; exact (below_size (by repeat (first | (with_reducible first | exact HB.out | apply below_alloc | apply pw_below_drewN | apply below_drew1) | exact HB.out))) : w.heap.size ≤ gb131)); have n3_ := Aside0.mk ((by rw [hg]; exact (below_size (by repeat (first | (with_reducible first | exact HB.out | apply below_alloc | apply pw_below_drewN | apply below_drew1) | exact HB.out))) : w.heap.size ≤ gb131)); clear HB; have HB := n0_; have BK131 := n1_; have GW131 := n2_; have GE131 := n3_; clear n0_ n1_ n2_ n3_; clear hb hbox hg; have hcz50_0 : w49.cell? ⟨gb131, 0, none⟩ = some (.int .i64 a0_0) := (blk_cell BK131.out 0).trans rfl; have hcz50_1 : w49.cell? ⟨gb131, 1, none⟩ = some (.int .u64 a0_1) := (blk_cell BK131.out 1).trans rfl; have hcz50_2 : w49.cell? ⟨gb131, 2, none⟩ = some (.int .u64 a0_2) := (blk_cell BK131.out 2).trans rfl; have hcz50_3 : w49.cell? ⟨gb131, 3, none⟩ = some (.int .i64 a0_3) := (blk_cell BK131.out 3).trans rfl; have hfz50_0 := blk_frozen BK131.out 0; have hfz50_1 := blk_frozen BK131.out 1; have hfz50_2 := blk_frozen BK131.out 2; have hfz50_3 := blk_frozen BK131.out 3) | ((with_reducible refine gate_callee (f := 15) rfl ?_); refine goesL_ (some 6) rfl rfl Try.func15 (by kernel_rfl) rfl #[.agg #[.int .i64 a0_0, .int .u64 a0_1, .int .u64 a0_2, .int .i64 a0_3]] rfl (by (try simp only [List.map_toArray, List.map_cons, List.map_nil]); first | done | rfl | (simp only [List.length_drop, List.length_take]; rfl)) ?_; (with_reducible refine (shellgameref17_Right.calls k a0_0 a0_1 a0_2 a0_3 false _ A2.out).mono ?_); rintro e w51 ⟨rfl, hb⟩; refine ⟨_, rfl, ?_⟩; have n0_ := Aside0.mk (blk_below (g := gb131) (o := .cells #[.int .i64 a0_0, .int .u64 a0_1, .int .u64 a0_2, .int .i64 a0_3] 33 (0, 0)) (by (with_reducible repeat (first | refine blk_drewN ?_ _ | refine blk_drew ?_ | refine blk_alloc ?_ _)); exact BK131.out) hb); have n1_ := Aside0.mk (below_step (by repeat (first | (with_reducible first | exact HB.out | apply below_alloc | apply pw_below_drewN | apply below_drew1 | refine below_set ?_ GE131.out) | exact HB.out)) hb); clear BK131; clear HB; have BK131 := n0_; have HB := n1_; clear n0_ n1_; (try clear hb); (try clear hb2); (try clear hk); (try clear hi)))
    go_ret
    exact ⟨by first | rfl | (simp [errW_none, errW_some] <;> rfl) | (simp [*, errW_none, errW_some] <;> rfl), by repeat (first | (with_reducible first | exact HB.out | apply below_alloc | apply pw_below_drewN | apply below_drew1 | refine below_set ?_ GE131.out) | exact HB.out)⟩

end Go.Proofs.Ytinfbkfdkpjdiaa.POpBytes
