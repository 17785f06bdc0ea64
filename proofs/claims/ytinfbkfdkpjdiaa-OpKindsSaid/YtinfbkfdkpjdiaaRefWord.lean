/- The contract of shellgameref4.Word, the reference's word of a text: it is pack.Word's. The first part (up to 'end Go.Proofs..PRefWord') was written by the kit's print tool for this claim. -/
import Derived.Test.YtinfbkfdkpjdiaaProg
import Derived.Below
import Derived.Deep.Draws
import Derived.Deep.AppendLies
import Derived.Maps.AppendAt
import Derived.OwnWalk
import Derived.Laws.BytesArg
import Derived.Laws.MakeOwn
import Derived.Laws.OwnMore
import Derived.Deep.OwnRows
import Derived.Tactics
import Derived.Lib.ConvBytes
import Derived.Laws.Slices
import Derived.WalkKit
import Derived.KernelRfl
import Derived.RowKit3
import Derived.Deep.LoopGhost
import Derived.Deep.QuietTactic
import Derived.BigQuiet
import Derived.WideLaws
import Derived.Deep.DeepCutAuto
import Derived.Deep.CutBlock
import Derived.Deep.RegionHeld3
import Derived.Laws.Rows
import Derived.Lib.AppendStr
import Derived.ArgAppend
import Derived.Laws.IdiomCopy
import Derived.OrdersHeld
import Derived.Laws.BitsLemmas
import Derived.RowKit
import Derived.Test.YtinfbkfdkpjdiaaWWords
import Derived.Test.YtinfbkfdkpjdiaaWLast
import Derived.Test.YtinfbkfdkpjdiaaWTab
import Derived.Test.YtinfbkfdkpjdiaaWFour
import Derived.Test.YtinfbkfdkpjdiaaWQPut
import Derived.Test.YtinfbkfdkpjdiaaWApart
import Derived.Test.YtinfbkfdkpjdiaaWArr
import Derived.Test.YtinfbkfdkpjdiaaWZeros
import Derived.Test.YtinfbkfdkpjdiaaWFoot
import Derived.Test.YtinfbkfdkpjdiaaWKept
import Derived.Test.YtinfbkfdkpjdiaaWShare
import Derived.Test.YtinfbkfdkpjdiaaWN
import Derived.Test.YtinfbkfdkpjdiaaWFootNe
import Derived.Test.YtinfbkfdkpjdiaaWAt
import Derived.Test.YtinfbkfdkpjdiaaWEqStruct
import Derived.Test.YtinfbkfdkpjdiaaWRepsOne
import Derived.Test.YtinfbkfdkpjdiaaWInv
import Derived.Test.YtinfbkfdkpjdiaaWInvWords
import Derived.Test.YtinfbkfdkpjdiaaWGuard
import Derived.Test.YtinfbkfdkpjdiaaWNEv
import Derived.Test.YtinfbkfdkpjdiaaWMore
import Derived.Test.YtinfbkfdkpjdiaaWordFacts
namespace Go.Proofs.Ytinfbkfdkpjdiaa.PRefWord
open Go.RowKit Go.Proofs.YtinfbkfdkpjdiaaW.PrintWords Go.Proofs.YtinfbkfdkpjdiaaW.PrintLast Go.Proofs.YtinfbkfdkpjdiaaW.PrintMore
attribute [local go_sem] max2_int min2_int max_two min_two max_three min_three max_four min_four   -- for this text's walks alone
set_option linter.unusedVariables false
set_option linter.unusedSimpArgs false

/-! ### shellgameref4_Word: function 30 -/
def shellgameref4_Word.l0 : Nat → ByteArray → Int → Int → Int → Option (Int × Int)
  | 0, _, _, _, _ => none
  | k + 1, x0, x4, x5, x6 => if x6 < (x0.size : Int) then (if 0 ≤ x6 then (shellgameref4_Word.l0 k x0 (IntKind.u64.wrap (x4 + (IntKind.u64.wrap ((IntKind.u64.wrap (bt x0 x6)) * x5)))) (IntKind.u64.wrap (x5 * 256)) (wrap64 (x6 + 1))) else (none)) else (some (x4, 0))
def shellgameref4_Word.f (k : Nat) (a0 : ByteArray) : Option (Int × Int) := if (a0.size : Int) > 7 then (some (0, 4)) else (shellgameref4_Word.l0 k a0 (IntKind.u64.wrap ((IntKind.u64.wrap ((a0.size : Int))) * 72057594037927936)) 1 0)
theorem shellgameref4_Word.mono_l : ∀ k, (∀ y0 y1 y2 y3, LeO (shellgameref4_Word.l0 k y0 y1 y2 y3) (shellgameref4_Word.l0 (k + 1) y0 y1 y2 y3))
  | 0 => fun _ _ _ _ r h => by simp [shellgameref4_Word.l0] at h
  | k + 1 => by
    have ih0 := shellgameref4_Word.mono_l k
    · intro y0 y1 y2 y3
      unfold shellgameref4_Word.l0
      repeat' first
      | (with_reducible exact ih0 _ _ _ _)
      | (with_reducible exact LeO.refl _)
      | (with_reducible exact LeO.none _)
      | (with_reducible refine LeO.ite ?_ ?_)
      | (with_reducible refine LeO.bind ?_ (fun _ => ?_))
      | exact ih0 _ _ _ _
      | exact LeO.none _
      | refine LeO.ite ?_ ?_
      | refine LeO.bind ?_ (fun _ => ?_)
theorem shellgameref4_Word.mono : ∀ a0 k, LeO (shellgameref4_Word.f k a0) (shellgameref4_Word.f (k + 1) a0) := by
  intro a0 k
  have ih0 := shellgameref4_Word.mono_l k
  unfold shellgameref4_Word.f
  repeat' first
      | (with_reducible exact ih0 _ _ _ _)
      | (with_reducible exact LeO.refl _)
      | (with_reducible exact LeO.none _)
      | (with_reducible refine LeO.ite ?_ ?_)
      | (with_reducible refine LeO.bind ?_ (fun _ => ?_))
      | exact ih0 _ _ _ _
      | exact LeO.none _
      | refine LeO.ite ?_ ?_
      | refine LeO.bind ?_ (fun _ => ?_)
set_option maxHeartbeats 8000000 in
set_option maxRecDepth 100000 in
theorem shellgameref4_Word.calls (k : Nat) (a0 : ByteArray) (r1 : Int) (r2 : Int) (w : World) (h : shellgameref4_Word.f k a0 = some (r1, r2)) :
    Calls Try.prog 30 #[.string a0] w fun e w' => e = .returned (.tuple #[.int .u64 r1, .int .i64 r2]) ∧ Drawn0 w w' := by
  have H : (if (a0.size : Int) > 7 then (some (0, 4)) else (shellgameref4_Word.l0 k a0 (IntKind.u64.wrap ((IntKind.u64.wrap ((a0.size : Int))) * 72057594037927936)) 1 0)) = some (r1, r2) := h
  clear h
  by_cases c2 : (a0.size : Int) > 7
  · rw [if_pos c2] at H
    have c2b0 : decide (7 < (a0.size : Int)) = true := decide_eq_true c2
    have c2b1 : decide (7 < a0.size) = true := decide_eq_true (by omega)
    clear c2
    simp only [Option.some.injEq, Prod.mk.injEq] at H
    obtain ⟨rfl, rfl⟩ := H
    go_enter Try.func30, Try.ntmps30
    go_wp2
    go_ret2
    exact ⟨by first | rfl | (simp; done) | (simp [*]; done), by repeat (first | exact Drawn0.refl _ | apply Drawn0.step)⟩
  · rw [if_neg c2] at H
    have c2b0 : decide (7 < (a0.size : Int)) = false := decide_eq_false c2
    have c2b1 : decide (7 < a0.size) = false := decide_eq_false (by omega)
    clear c2
    have H' := Aside0.mk H
    clear H
    go_enter Try.func30, Try.ntmps30
    go_wp2
    go_loopg [4, 5, 6] k (fun kq v4 v5 v6 w' => ∃ (x4_1 : Int) (x5_1 : Int) (x6_1 : Int), v4 = .int .u64 x4_1 ∧ v5 = .int .u64 x5_1 ∧ v6 = .int .i64 x6_1 ∧ Aside0 (shellgameref4_Word.l0 kq a0 x4_1 x5_1 x6_1 = some (r1, r2)) ∧ Aside0 (kq ≤ k) ∧ Drawn0 w w')
    case atStart => exact ⟨(IntKind.u64.wrap ((IntKind.u64.wrap ((a0.size : Int))) * 72057594037927936)), (1), (0), (by first | rfl | (simp; done) | (simp [*]; done)), (by first | rfl | (simp; done) | (simp [*]; done)), (by first | rfl | (simp; done) | (simp [*]; done)), H', ⟨Nat.le_refl _⟩, by repeat (first | exact Drawn0.refl _ | apply Drawn0.step)⟩
    case round =>
      clear H'
      try clear c2
      try clear c2b0
      try clear c2b1
      try clear p2
      obtain ⟨x4_1, x5_1, x6_1, rfl, rfl, rfl, HA, HK1, ⟨m1, rfl⟩⟩ := hrel
      cases gk with
      | zero => exact absurd HA.out (by simp [shellgameref4_Word.l0])
      | succ k1 =>
        have H := HA.out
        clear HA
        simp only [shellgameref4_Word.l0] at H
        by_cases c3 : x6_1 < (a0.size : Int)
        · rw [if_pos c3] at H
          have c3b0 : decide (x6_1 < (a0.size : Int)) = true := decide_eq_true c3
          clear c3
          by_cases c4 : 0 ≤ x6_1
          · rw [if_pos c4] at H
            have c4b0 : decide (0 ≤ x6_1) = true := decide_eq_true c4
            clear c4
            have H' := Aside0.mk H
            clear H
            have p5 : 0 ≤ (x6_1 : Int) := of_decide_eq_true (by first | (with_reducible assumption) | assumption)
            have q5 : x6_1 < (a0.size : Int) := of_decide_eq_true (by first | (with_reducible assumption) | assumption)
            have hx5 := bt_at a0 x6_1
            replace p5 := eq_true p5
            replace q5 := eq_true q5
            go_wp2
            go_roundg k1
            case measure => have := HK1.out; omega
            case rel => exact ⟨(IntKind.u64.wrap (x4_1 + (IntKind.u64.wrap ((IntKind.u64.wrap (bt a0 x6_1)) * x5_1)))), (IntKind.u64.wrap (x5_1 * 256)), (wrap64 (x6_1 + 1)), (by first | rfl | (simp; done) | (simp [*]; done)), (by first | rfl | (simp; done) | (simp [*]; done)), (by first | rfl | (simp; done) | (simp [*]; done)), H', ⟨by have := HK1.out; omega⟩, by repeat (first | exact Drawn0.refl _ | apply Drawn0.step)⟩
          · rw [if_neg c4] at H
            exact absurd H (by simp)
        · rw [if_neg c3] at H
          have c3b0 : decide (x6_1 < (a0.size : Int)) = false := decide_eq_false c3
          clear c3
          simp only [Option.some.injEq, Prod.mk.injEq] at H
          obtain ⟨rfl, rfl⟩ := H
          go_wp2
          go_ret2
          exact ⟨by first | rfl | (simp; done) | (simp [*]; done), by repeat (first | exact Drawn0.refl _ | apply Drawn0.step)⟩

end Go.Proofs.Ytinfbkfdkpjdiaa.PRefWord
namespace Go.Proofs.Ytinfbkfdkpjdiaa.Hand
open Go.RowKit Go.Proofs.YtinfbkfdkpjdiaaW.PrintWords Go.Proofs.YtinfbkfdkpjdiaaW.PrintLast Go.Proofs.YtinfbkfdkpjdiaaW.PrintMore
set_option linter.unusedVariables false

theorem bt_nat (s : ByteArray) (i : Nat) (h : i < s.data.toList.length) : bt s i = ((s.data.toList[i]).toNat : Int) := by
  have h' : i < s.size := by rw [size_list] at h; exact h
  unfold bt
  simp only [Int.toNat_natCast, h', dif_pos]
  rfl
theorem leN_snoc (l : List UInt8) (i : Nat) (h : i < l.length) : leN (l.take (i + 1)) = leN (l.take i) + 256 ^ i * l[i].toNat := by
  have e : l.take (i + 1) = l.take i ++ [l[i]] := List.take_succ_eq_append_getElem h
  have hl : (l.take i).length = i := by rw [List.length_take]; omega
  rw [e, leN_append, hl]
  simp [leN]
theorem ref_loop (s : ByteArray) (S : Nat) (hS : S ≤ 504403158265495552) (h7 : s.size ≤ 7) : ∀ (d k i : Nat), i + d = s.size → d < k →
    PRefWord.shellgameref4_Word.l0 k s ((leN (s.data.toList.take i) + S : Nat) : Int) ((256 ^ i : Nat) : Int) i = some (((leN s.data.toList + S : Nat) : Int), 0) := by
  intro d
  have lz := size_list s
  induction d with
  | zero =>
    intro k i hi hk
    obtain ⟨k, rfl⟩ : ∃ m, k = m + 1 := ⟨k - 1, by omega⟩
    simp only [PRefWord.shellgameref4_Word.l0]
    rw [if_neg (by omega), List.take_of_length_le (by omega)]
  | succ d ih =>
    intro k i hi hk
    obtain ⟨k, rfl⟩ : ∃ m, k = m + 1 := ⟨k - 1, by omega⟩
    simp only [PRefWord.shellgameref4_Word.l0]
    have hlt : i < s.data.toList.length := by omega
    rw [if_pos (by omega), if_pos (by omega), bt_nat s i hlt]
    have hc := (s.data.toList[i]).toNat_lt
    have hp : 256 ^ i ≤ 256 ^ 6 := Nat.pow_le_pow_right (by omega) (by omega)
    have hb := leN_lt (s.data.toList.take (i + 1))
    rw [List.length_take, Nat.min_eq_left (by omega)] at hb
    have hp1 : 256 ^ (i + 1) ≤ 256 ^ 7 := Nat.pow_le_pow_right (by omega) (by omega)
    have hs := leN_snoc s.data.toList i hlt
    have hpc : 256 ^ i * (s.data.toList[i]).toNat ≤ leN (s.data.toList.take (i + 1)) := by omega
    have e1 : IntKind.u64.wrap (IntKind.u64.wrap ((s.data.toList[i]).toNat : Int) * ((256 ^ i : Nat) : Int)) = ((256 ^ i * (s.data.toList[i]).toNat : Nat) : Int) := by
      have : IntKind.u64.wrap ((s.data.toList[i]).toNat : Int) = ((s.data.toList[i]).toNat : Int) := by rw [IntKind.wrap_u64]; omega
      rw [this, Int.mul_comm, ← Int.natCast_mul, IntKind.wrap_u64]
      omega
    have e2 : IntKind.u64.wrap (((256 ^ i : Nat) : Int) * 256) = ((256 ^ (i + 1) : Nat) : Int) := by
      rw [IntKind.wrap_u64, Nat.pow_succ]
      omega
    have e3 : wrap64 ((i : Int) + 1) = ((i + 1 : Nat) : Int) := by unfold wrap64; omega
    have e4 : IntKind.u64.wrap (((leN (s.data.toList.take i) + S : Nat) : Int) + ((256 ^ i * (s.data.toList[i]).toNat : Nat) : Int)) = ((leN (s.data.toList.take (i + 1)) + S : Nat) : Int) := by
      rw [IntKind.wrap_u64, hs]
      omega
    rw [e1, e2, e3, e4]
    exact ih k (i + 1) (by omega) (by omega)

def shellgameref4_Word.f (a0 : ByteArray) : Option (Int × Int) := pack_Word.f a0
theorem shellgameref4_Word.calls (a0 : ByteArray) (r1 : Int) (r2 : Int) (w : World) (h : shellgameref4_Word.f a0 = some (r1, r2)) :
    Calls Try.prog 30 #[.string a0] w fun e w' => e = .returned (.tuple #[.int .u64 r1, .int .i64 r2]) ∧ Below w.heap.size w w' := by
  refine (PRefWord.shellgameref4_Word.calls 9 a0 r1 r2 w ?_).mono (fun _ _ ⟨he, hd⟩ => ⟨he, hd.below⟩)
  unfold PRefWord.shellgameref4_Word.f
  unfold shellgameref4_Word.f at h
  by_cases hs : a0.size ≤ 7
  · rw [if_neg (by omega)]
    obtain ⟨W, hw, _, _, _, _, _, q⟩ := word_some a0 hs
    rw [hw] at h
    obtain ⟨S, hS⟩ : ∃ S : Nat, IntKind.u64.wrap (IntKind.u64.wrap (a0.size : Int) * 72057594037927936) = S ∧ S ≤ 504403158265495552 ∧ (a0.size : Int) * 72057594037927936 = S := by
      refine ⟨a0.size * 72057594037927936, ?_, by omega, by omega⟩
      rw [IntKind.wrap_u64, IntKind.wrap_u64]
      omega
    have hl := ref_loop a0 S hS.2.1 hs a0.size 9 0 (by omega) (by omega)
    have e0 : leN (a0.data.toList.take 0) + S = S := by simp [leN]
    rw [e0, show ((0 : Nat) : Int) = 0 from rfl, show ((256 ^ 0 : Nat) : Int) = 1 from rfl] at hl
    rw [hS.1, hl, ← h, q, hS.2.2]
    rfl
  · rw [if_pos (by omega)]
    rw [word_none a0 hs] at h
    exact h
end Go.Proofs.Ytinfbkfdkpjdiaa.Hand
