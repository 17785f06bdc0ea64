/- The contract of pack.Word: a text of at most seven bytes is told as its word; a longer one as ErrLong; nothing that lay in memory is changed. No condition. -/
import Derived.Test.YtinfbkfdkpjdiaaProg
import Derived.WalkKit
import Derived.WalkSpells
import Derived.WalkLawsBesides
import Derived.LoopN
import Derived.Deep.WholeRow
import Derived.Lib.BufferWrite
import Derived.KernelRfl
import Derived.Lib.Hide
namespace Go.Proofs.Ytinfbkfdkpjdiaa.Hand
open Go.RowKit

theorem u8size : (Try.prog.info? 5).map (·.size) = some 1 := by kernel_rfl
/-- the i-th byte of a text; 0, if there is none -/
def chr (s : ByteArray) (i : Nat) : Int := ((s.data.toList[i]?.getD 0).toNat : Int)
theorem chr_bd (s : ByteArray) (i : Nat) : 0 ≤ chr s i ∧ chr s i ≤ 255 := by
  unfold chr
  have := (s.data.toList[i]?.getD 0).toNat_lt
  omega
theorem size_list (s : ByteArray) : s.data.toList.length = s.size := by simp
theorem list7 : ∀ (l : List UInt8), l.length ≤ 7 →
    (l.map fun b => Value.int .u8 (b.toNat : Int)) ++ [.int .u8 0, .int .u8 0, .int .u8 0, .int .u8 0, .int .u8 0, .int .u8 0, .int .u8 0, .int .u8 0].drop l.length =
      [.int .u8 ((l[0]?.getD 0).toNat : Int), .int .u8 ((l[1]?.getD 0).toNat : Int), .int .u8 ((l[2]?.getD 0).toNat : Int), .int .u8 ((l[3]?.getD 0).toNat : Int), .int .u8 ((l[4]?.getD 0).toNat : Int), .int .u8 ((l[5]?.getD 0).toNat : Int), .int .u8 ((l[6]?.getD 0).toNat : Int), .int .u8 0]
  | [], _ => rfl
  | [_], _ => rfl
  | [_, _], _ => rfl
  | [_, _, _], _ => rfl
  | [_, _, _, _], _ => rfl
  | [_, _, _, _, _], _ => rfl
  | [_, _, _, _, _, _], _ => rfl
  | [_, _, _, _, _, _, _], _ => rfl
  | _ :: _ :: _ :: _ :: _ :: _ :: _ :: _ :: l, h => by simp at h
theorem copy8 (s : ByteArray) (w : World) (hs : s.size ≤ 7) :
    (Builtin.copy_ #[41, 9] 3 #[.slice (some ⟨w.heap.size, 0, none⟩) 8 8, .string s]).run Try.prog (w.alloc (.cells #[.int .u8 0, .int .u8 0, .int .u8 0, .int .u8 0, .int .u8 0, .int .u8 0, .int .u8 0, .int .u8 0] 73)) =
      .ok (.int .i64 s.size) (w.alloc (.cells #[.int .u8 (chr s 0), .int .u8 (chr s 1), .int .u8 (chr s 2), .int .u8 (chr s 3), .int .u8 (chr s 4), .int .u8 (chr s 5), .int .u8 (chr s 6), .int .u8 0] 73)) := by
  rw [Lib.run_copy_row_string _ 41 9 3 5 w.heap.size 0 8 8 s _ 73 Try.underlying41 u8size (heap_alloc_new w _) (by omega) (by simp; omega)]
  rw [World.setRow_alloc_new]
  have h := list7 s.data.toList (by rw [size_list]; exact hs)
  simp only [Lib.byteCells, List.take_zero, List.nil_append, Nat.zero_add]
  rw [size_list] at h
  rw [h]
  rfl

/-- a text's word, as a number -/
def wordN (s : ByteArray) : Int := chr s 0 + chr s 1 * 256 + chr s 2 * 65536 + chr s 3 * 16777216 + chr s 4 * 4294967296 + chr s 5 * 1099511627776 + chr s 6 * 281474976710656 + s.size * 72057594037927936

theorem or_add (a b P : Int) (k : Nat) (hP : P = 2 ^ k) (hk : k ≤ 56) (h0 : 0 ≤ a) (ha : a < P) (hb0 : 0 ≤ b) (hb : b ≤ 255) : bits .or .u64 a (b * P) = a + b * P := by
  subst hP
  obtain ⟨x, rfl⟩ := Int.eq_ofNat_of_zero_le h0
  obtain ⟨y, rfl⟩ := Int.eq_ofNat_of_zero_le hb0
  have hx : x < 2 ^ k := by exact_mod_cast ha
  have h56 : 2 ^ k ≤ 2 ^ 56 := Nat.pow_le_pow_right (by omega) hk
  have hy : y * 2 ^ k ≤ 255 * 2 ^ 56 := Nat.mul_le_mul (by omega) h56
  have e : ((y : Int) * 2 ^ k) = ((y * 2 ^ k : Nat) : Int) := by push_cast; rfl
  rw [e, u64_or_nat x (y * 2 ^ k) (by omega) (by omega)]
  have h := Nat.two_pow_add_eq_or_of_lt hx y
  rw [Nat.or_comm, Nat.mul_comm y, ← h]
  push_cast
  omega
theorem ors (c0 c1 c2 c3 c4 c5 c6 c7 : Int) (b0 : 0 ≤ c0 ∧ c0 ≤ 255) (b1 : 0 ≤ c1 ∧ c1 ≤ 255) (b2 : 0 ≤ c2 ∧ c2 ≤ 255) (b3 : 0 ≤ c3 ∧ c3 ≤ 255) (b4 : 0 ≤ c4 ∧ c4 ≤ 255) (b5 : 0 ≤ c5 ∧ c5 ≤ 255) (b6 : 0 ≤ c6 ∧ c6 ≤ 255) (b7 : 0 ≤ c7 ∧ c7 ≤ 255) :
    bits .or .u64 (bits .or .u64 (bits .or .u64 (bits .or .u64 (bits .or .u64 (bits .or .u64 (bits .or .u64 (bits .or .u64 0 c0) (c1 * 256)) (c2 * 65536)) (c3 * 16777216)) (c4 * 4294967296)) (c5 * 1099511627776)) (c6 * 281474976710656)) (c7 * 72057594037927936) =
      c0 + c1 * 256 + c2 * 65536 + c3 * 16777216 + c4 * 4294967296 + c5 * 1099511627776 + c6 * 281474976710656 + c7 * 72057594037927936 := by
  have e0 := or_add 0 c0 1 0 rfl (by omega) (by omega) (by omega) b0.1 b0.2
  simp only [Int.mul_one, Int.zero_add] at e0
  rw [e0, or_add c0 c1 256 8 (by decide) (by omega) (by omega) (by omega) b1.1 b1.2, or_add _ c2 65536 16 (by decide) (by omega) (by omega) (by omega) b2.1 b2.2, or_add _ c3 16777216 24 (by decide) (by omega) (by omega) (by omega) b3.1 b3.2,
    or_add _ c4 4294967296 32 (by decide) (by omega) (by omega) (by omega) b4.1 b4.2, or_add _ c5 1099511627776 40 (by decide) (by omega) (by omega) (by omega) b5.1 b5.2, or_add _ c6 281474976710656 48 (by decide) (by omega) (by omega) (by omega) b6.1 b6.2, or_add _ c7 72057594037927936 56 (by decide) (by omega) (by omega) (by omega) b7.1 b7.2]

theorem ret2 {k l : IntKind} {a b c d : Int} (h : a = b) (h' : c = d) : Ending.returned (.tuple #[.int k a, .int l c]) = .returned (.tuple #[.int k b, .int l d]) := by rw [h, h']

set_option maxHeartbeats 2000000 in
set_option maxRecDepth 100000 in
theorem word_short (s : ByteArray) (w : World) (hs : s.size ≤ 7) :
    Calls Try.prog 24 #[.string s] w fun e w' => e = .returned (.tuple #[.int .u64 (wordN s), .int .i64 0]) ∧ Below w.heap.size w w' := by
  have hc : decide (7 < (s.size : Int)) = false := decide_eq_false (by omega)
  have hcp := copy8 s w hs
  have b0 := chr_bd s 0
  have b1 := chr_bd s 1
  have b2 := chr_bd s 2
  have b3 := chr_bd s 3
  have b4 := chr_bd s 4
  have b5 := chr_bd s 5
  have b6 := chr_bd s 6
  unfold wordN
  generalize chr s 0 = c0 at *
  generalize chr s 1 = c1 at *
  generalize chr s 2 = c2 at *
  generalize chr s 3 = c3 at *
  generalize chr s 4 = c4 at *
  generalize chr s 5 = c5 at *
  generalize chr s 6 = c6 at *
  have hor := fun c7 b7 => ors c0 c1 c2 c3 c4 c5 c6 c7 b0 b1 b2 b3 b4 b5 b6 b7
  have HOR := Lib.hid hor
  clear hor
  have i0 : ∀ w, (Instr.index 73 (.agg #[.int .u8 c0, .int .u8 c1, .int .u8 c2, .int .u8 c3, .int .u8 c4, .int .u8 c5, .int .u8 c6, .int .u8 s.size]) (.int .i64 0)).run Try.prog w = .ok (.int .u8 c0) w := fun _ => by kernel_rfl
  have i1 : ∀ w, (Instr.index 73 (.agg #[.int .u8 c0, .int .u8 c1, .int .u8 c2, .int .u8 c3, .int .u8 c4, .int .u8 c5, .int .u8 c6, .int .u8 s.size]) (.int .i64 1)).run Try.prog w = .ok (.int .u8 c1) w := fun _ => by kernel_rfl
  have i2 : ∀ w, (Instr.index 73 (.agg #[.int .u8 c0, .int .u8 c1, .int .u8 c2, .int .u8 c3, .int .u8 c4, .int .u8 c5, .int .u8 c6, .int .u8 s.size]) (.int .i64 2)).run Try.prog w = .ok (.int .u8 c2) w := fun _ => by kernel_rfl
  have i3 : ∀ w, (Instr.index 73 (.agg #[.int .u8 c0, .int .u8 c1, .int .u8 c2, .int .u8 c3, .int .u8 c4, .int .u8 c5, .int .u8 c6, .int .u8 s.size]) (.int .i64 3)).run Try.prog w = .ok (.int .u8 c3) w := fun _ => by kernel_rfl
  have i4 : ∀ w, (Instr.index 73 (.agg #[.int .u8 c0, .int .u8 c1, .int .u8 c2, .int .u8 c3, .int .u8 c4, .int .u8 c5, .int .u8 c6, .int .u8 s.size]) (.int .i64 4)).run Try.prog w = .ok (.int .u8 c4) w := fun _ => by kernel_rfl
  have i5 : ∀ w, (Instr.index 73 (.agg #[.int .u8 c0, .int .u8 c1, .int .u8 c2, .int .u8 c3, .int .u8 c4, .int .u8 c5, .int .u8 c6, .int .u8 s.size]) (.int .i64 5)).run Try.prog w = .ok (.int .u8 c5) w := fun _ => by kernel_rfl
  have i6 : ∀ w, (Instr.index 73 (.agg #[.int .u8 c0, .int .u8 c1, .int .u8 c2, .int .u8 c3, .int .u8 c4, .int .u8 c5, .int .u8 c6, .int .u8 s.size]) (.int .i64 6)).run Try.prog w = .ok (.int .u8 c6) w := fun _ => by kernel_rfl
  have i7 : ∀ w, (Instr.index 73 (.agg #[.int .u8 c0, .int .u8 c1, .int .u8 c2, .int .u8 c3, .int .u8 c4, .int .u8 c5, .int .u8 c6, .int .u8 s.size]) (.int .i64 7)).run Try.prog w = .ok (.int .u8 s.size) w := fun _ => by kernel_rfl
  go_enter Try.func24, Try.ntmps24
  go_wp2
  refine wp_loop_rounds 9 ?_
  rw [rounds_succ]; go_wp2
  rw [rounds_succ]; go_wp2
  rw [rounds_succ]; go_wp2
  rw [rounds_succ]; go_wp2
  rw [rounds_succ]; go_wp2
  rw [rounds_succ]; go_wp2
  rw [rounds_succ]; go_wp2
  rw [rounds_succ]; go_wp2
  rw [rounds_succ]; go_wp2
  go_ret2
  exact ⟨ret2 (HOR.out s.size (by omega)) rfl, (Below.refl _ _).alloc (Nat.le_refl _) _⟩

set_option maxHeartbeats 400000 in
theorem word_long (s : ByteArray) (w : World) (hs : ¬ s.size ≤ 7) :
    Calls Try.prog 24 #[.string s] w fun e w' => e = .returned (.tuple #[.int .u64 0, .int .i64 4]) ∧ Below w.heap.size w w' := by
  have hc : decide (7 < (s.size : Int)) = true := decide_eq_true (by omega)
  have hc' : decide (7 < s.size) = true := decide_eq_true (by omega)
  go_enter Try.func24, Try.ntmps24
  go_wp2
  go_ret2
  exact ⟨rfl, Below.refl _ _⟩

def pack_Word.f (a0 : ByteArray) : Option (Int × Int) := if a0.size ≤ 7 then some (wordN a0, 0) else some (0, 4)
theorem pack_Word.calls (a0 : ByteArray) (r1 : Int) (r2 : Int) (w : World) (h : pack_Word.f a0 = some (r1, r2)) :
    Calls Try.prog 24 #[.string a0] w fun e w' => e = .returned (.tuple #[.int .u64 r1, .int .i64 r2]) ∧ Below w.heap.size w w' := by
  unfold pack_Word.f at h
  by_cases hs : a0.size ≤ 7
  · rw [if_pos hs] at h
    cases h
    exact word_short a0 w hs
  · rw [if_neg hs] at h
    cases h
    exact word_long a0 w hs
end Go.Proofs.Ytinfbkfdkpjdiaa.Hand
