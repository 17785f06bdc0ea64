/- The contract of op.Parse: the operation of bytes, or what is wrong; nothing that lay in memory is changed. No condition. -/
import Derived.Test.YtinfbkfdkpjdiaaOpBytes
import Derived.Test.YtinfbkfdkpjdiaaPwordx1
import Derived.Laws.NewBlocks
import Derived.BigRegion
import Derived.Laws.BitsLemmas
namespace Go.Proofs.Ytinfbkfdkpjdiaa.Hand
open Go.RowKit Go.Proofs.Ytinfbkfdkpjdiaa.Pword Go.Proofs.YtinfbkfdkpjdiaaW.PrintWords Go.Proofs.YtinfbkfdkpjdiaaW.PrintLast Go.Proofs.YtinfbkfdkpjdiaaW.PrintMore
attribute [local go_sem] max2_int min2_int max_two min_two
set_option linter.unusedVariables false

/-- what Parse tells of what it has read -/
def finP (o K V f : Int) (l : ByteArray) (bad long : Bool) : Int × Int × Int × Int × Int :=
  if bad = true then (0, 0, 0, 0, 3) else if l.toList = [] then (if long = true then (0, 0, 0, 0, 4) else (o, K, V, f, 0)) else (0, 0, 0, 0, 3)
def opV (p : Int × Int × Int × Int × Int) : Value := .tuple #[.agg #[.int .i64 p.1, .int .u64 p.2.1, .int .u64 p.2.2.1, .int .i64 p.2.2.2.1], .int .i64 p.2.2.2.2]
theorem or_i64 (a b : Nat) (ha : a < 256) (hb : b < 256) : Go.bits .or .i64 (a : Int) ((b : Int) * 256) = a + 256 * b := by
  have e : ((b : Int) * 256) = ((b * 256 : Nat) : Int) := by rw [Int.natCast_mul]; rfl
  have h := Nat.two_pow_add_eq_or_of_lt (i := 8) (show a < 2 ^ 8 from ha) b
  rw [e]
  show IntKind.i64.wrap ((BitVec.ofInt 64 (a : Int) ||| BitVec.ofInt 64 ((b * 256 : Nat) : Int)).toNat : Int) = _
  rw [BitVec.toNat_or, ofInt_u64 a (by omega), ofInt_u64 (b * 256) (by omega), Nat.or_comm, Nat.mul_comm b 256]
  rw [show (256 : Nat) = 2 ^ 8 from rfl, ← h]
  first | rw [IntKind.wrap_i64] | rw [i64_w]
  have : (2 : Nat) ^ 8 = 256 := rfl
  first | omega | (unfold wrap64; omega)
theorem or_bytes (b : ByteArray) (z0 : 0 < b.size) (z1 : 1 < b.size) : Go.bits .or .i64 (wrap64 ((b[0]'z0).toNat : Int)) (wrap64 (wrap64 ((b[1]'z1).toNat : Int) * 256)) = bt b 0 + 256 * bt b 1 := by
  have h0 := (b[0]'z0).toNat_lt
  have h1 := (b[1]'z1).toNat_lt
  have e0 : bt b 0 = ((b[0]'z0).toNat : Int) := by unfold bt; rw [dif_pos (show Int.toNat 0 < b.size from z0)]; rfl
  have e1 : bt b 1 = ((b[1]'z1).toNat : Int) := by unfold bt; rw [dif_pos (show Int.toNat 1 < b.size from z1)]; rfl
  rw [e0, e1]
  generalize (b[0]'z0).toNat = x at *
  generalize (b[1]'z1).toNat = y at *
  have f0 : wrap64 (x : Int) = x := by unfold wrap64; omega
  have f1 : wrap64 (y : Int) = y := by unfold wrap64; omega
  have f2 : wrap64 ((y : Int) * 256) = y * 256 := by unfold wrap64; omega
  rw [f0, f1, f2]
  exact or_i64 x y (by omega) (by omega)
theorem fin_bad (o K V f : Int) (l : ByteArray) (long : Bool) : finP o K V f l true long = (0, 0, 0, 0, 3) := rfl
theorem fin_left (o K V f : Int) (l : ByteArray) (h : ¬ l.toList = []) (long : Bool) : finP o K V f l false long = (0, 0, 0, 0, 3) := by unfold finP; rw [if_neg (by decide), if_neg h]
theorem fin_long (o K V f : Int) (l : ByteArray) (h : l.toList = []) : finP o K V f l false true = (0, 0, 0, 0, 4) := by unfold finP; rw [if_neg (by decide), if_pos h, if_pos rfl]
theorem fin_ok (o K V f : Int) (l : ByteArray) (h : l.toList = []) : finP o K V f l false false = (o, K, V, f, 0) := by unfold finP; rw [if_neg (by decide), if_pos h, if_neg (by decide)]

set_option maxHeartbeats 4000000 in
set_option maxRecDepth 100000 in
theorem parse_none (s : ByteArray) (w : World) (b0 l1 : ByteArray) (d1 g1 : Bool) (h1 : op_reader_bytes.f s false false 1 = some (b0, l1, d1, g1)) (i : Int) (hi : i = -1 ∨ i = 0) (h2 : strings_Index.f ⟨#[32, 71, 75, 80, 68, 76]⟩ b0 = some i) :
    Calls Try.prog 12 #[.string s] w fun e w' => e = .returned (opV ((0, 0, 0, 0, 3))) ∧ Below w.heap.size w w' := by
  have hB0 : Below w.heap.size w (w.alloc (.cells #[.int .i64 0, .int .u64 0, .int .u64 0, .int .i64 0] 27)) := (Below.refl _ w).alloc (Nat.le_refl _) _
  have hI0 := IsS63.new w _ s false false hB0
  have hB0' := hB0.alloc hB0.size (.cells #[.string s, .bool false, .bool false] 63)
  have hR0 : ((w.alloc (.cells #[.int .i64 0, .int .u64 0, .int .u64 0, .int .i64 0] 27)).alloc (.cells #[.string s, .bool false, .bool false] 63)).heap[w.heap.size]? = some (.cells #[.int .i64 0, .int .u64 0, .int .u64 0, .int .i64 0] 27 (0, 0)) := by
    rw [Lib.alloc_old _ _ _ (by simp)]
    exact heap_alloc_new w _
  rw [show (w.alloc (.cells #[.int .i64 0, .int .u64 0, .int .u64 0, .int .i64 0] 27)).heap.size = w.heap.size + 1 from by simp] at hI0
  have C1 := Lib.hid (op_reader_bytes.calls (w.heap.size + 1) s false false 1 b0 l1 d1 g1 w _ hI0 hB0' h1)
  have HR0 := Lib.hid hR0
  clear hI0 hB0' hB0 h1 hR0
  go_enter Try.func12, Try.ntmps12
  go_wp2_with (go_at_call 26; with_reducible refine C1.out.mono ?_)
  rintro e w1 ⟨rfl, hI1, hB1, hK1⟩
  have hR1 := hK1.blk HR0.out (by omega) (by simp)
  clear C1 HR0 hK1
  have C2 := Lib.hid (strings_Index.calls _ b0 i w1 h2)
  clear h2
  have HI1 := Lib.hid hI1
  have HR1 := Lib.hid hR1
  have HB1 := Lib.hid hB1
  clear hI1 hR1 hB1
  go_wp2_with (go_at_call 25; with_reducible refine C2.out.mono ?_)
  rintro e w2 ⟨rfl, hb⟩
  have HI2 := Lib.hid (HI1.out.below hb)
  have HR2 := Lib.hid ((hb.block _ (by have := HI1.out.lt; omega)).trans HR1.out)
  have HB2 := Lib.hid (HB1.out.trans (hb.mono HB1.out.size))
  clear hb HI1 HR1 HB1 C2
  have rc0 : w2.cell? ⟨w.heap.size, 0, none⟩ = some (.int .i64 0) := (blk_cell HR2.out 0).trans rfl
  have rc1 : w2.cell? ⟨w.heap.size, 1, none⟩ = some (.int .u64 0) := (blk_cell HR2.out 1).trans rfl
  have rc2 : w2.cell? ⟨w.heap.size, 2, none⟩ = some (.int .u64 0) := (blk_cell HR2.out 2).trans rfl
  have rc3 : w2.cell? ⟨w.heap.size, 3, none⟩ = some (.int .i64 0) := (blk_cell HR2.out 3).trans rfl
  have rf0 := blk_frozen HR2.out 0
  have rf1 := blk_frozen HR2.out 1
  have rf2 := blk_frozen HR2.out 2
  have rf3 := blk_frozen HR2.out 3
  have hlt : w.heap.size < w2.heap.size := by have := HI2.out.lt; omega
  have hb : Below w.heap.size w (((((w2.setCell ⟨w.heap.size, 0, none⟩ (.int .i64 0)).setCell ⟨w.heap.size, 1, none⟩ (.int .u64 0)).setCell ⟨w.heap.size, 2, none⟩ (.int .u64 0)).setCell ⟨w.heap.size, 3, none⟩ (.int .i64 0)).alloc (.cells #[.int .i64 0, .int .u64 0, .int .u64 0, .int .i64 0] 27)) :=
    ((((HB2.out.setCell (p := ⟨w.heap.size, 0, none⟩) (Nat.le_refl _) _).setCell (p := ⟨w.heap.size, 1, none⟩) (Nat.le_refl _) _).setCell (p := ⟨w.heap.size, 2, none⟩) (Nat.le_refl _) _).setCell (p := ⟨w.heap.size, 3, none⟩) (Nat.le_refl _) _).alloc (by simp [World.setCell]; omega) _
  have HB := Lib.hid hb
  clear hb
  obtain rfl | rfl := hi
  all_goals
    go_wp2
    refine bodyPost_ret (v := .tuple #[.agg #[.int .i64 0, .int .u64 0, .int .u64 0, .int .i64 0], .int .i64 3]) (by simp [results, Try.results12, go_sem, *]) rfl ⟨rfl, HB.out⟩

set_option maxHeartbeats 4000000 in
set_option maxRecDepth 100000 in
theorem parse_len (s : ByteArray) (w : World) (b0 l1 : ByteArray) (d1 g1 : Bool) (h1 : op_reader_bytes.f s false false 1 = some (b0, l1, d1, g1)) (h2 : strings_Index.f ⟨#[32, 71, 75, 80, 68, 76]⟩ b0 = some 5) :
    Calls Try.prog 12 #[.string s] w fun e w' => e = .returned (opV (finP 5 0 0 0 l1 d1 g1)) ∧ Below w.heap.size w w' := by
  have hB0 : Below w.heap.size w (w.alloc (.cells #[.int .i64 0, .int .u64 0, .int .u64 0, .int .i64 0] 27)) := (Below.refl _ w).alloc (Nat.le_refl _) _
  have hI0 := IsS63.new w _ s false false hB0
  have hB0' := hB0.alloc hB0.size (.cells #[.string s, .bool false, .bool false] 63)
  have hR0 : ((w.alloc (.cells #[.int .i64 0, .int .u64 0, .int .u64 0, .int .i64 0] 27)).alloc (.cells #[.string s, .bool false, .bool false] 63)).heap[w.heap.size]? = some (.cells #[.int .i64 0, .int .u64 0, .int .u64 0, .int .i64 0] 27 (0, 0)) := by
    rw [Lib.alloc_old _ _ _ (by simp)]
    exact heap_alloc_new w _
  rw [show (w.alloc (.cells #[.int .i64 0, .int .u64 0, .int .u64 0, .int .i64 0] 27)).heap.size = w.heap.size + 1 from by simp] at hI0
  have C1 := Lib.hid (op_reader_bytes.calls (w.heap.size + 1) s false false 1 b0 l1 d1 g1 w _ hI0 hB0' h1)
  have HR0 := Lib.hid hR0
  clear hI0 hB0' hB0 h1 hR0
  go_enter Try.func12, Try.ntmps12
  go_wp2_with (go_at_call 26; with_reducible refine C1.out.mono ?_)
  rintro e w1 ⟨rfl, hI1, hB1, hK1⟩
  have hR1 := hK1.blk HR0.out (by omega) (by simp)
  clear C1 HR0 hK1
  have C2 := Lib.hid (strings_Index.calls _ b0 5 w1 h2)
  clear h2
  have HI1 := Lib.hid hI1
  have HR1 := Lib.hid hR1
  have HB1 := Lib.hid hB1
  clear hI1 hR1 hB1
  go_wp2_with (go_at_call 25; with_reducible refine C2.out.mono ?_)
  rintro e w2 ⟨rfl, hb⟩
  have HI2 := Lib.hid (HI1.out.below hb)
  have HR2 := Lib.hid ((hb.block _ (by have := HI1.out.lt; omega)).trans HR1.out)
  have HB2 := Lib.hid (HB1.out.trans (hb.mono HB1.out.size))
  clear hb HI1 HR1 HB1 C2
  go_upto_region 14 with fail
  have HO := Lib.hid (heap_alloc_new w2 (.cells #[.int .i64 5, .int .u64 0, .int .u64 0, .int .i64 0] 27))
  have HG := Lib.hid ((Lib.alloc_old w2 (.cells #[.int .i64 5, .int .u64 0, .int .u64 0, .int .i64 0] 27) _ HI2.out.lt).trans HI2.out.1)
  have HR := Lib.hid ((Lib.alloc_old w2 (.cells #[.int .i64 5, .int .u64 0, .int .u64 0, .int .i64 0] 27) _ (by have := HI2.out.lt; omega)).trans HR2.out)
  have HB := Lib.hid (HB2.out.alloc HB2.out.size (.cells #[.int .i64 5, .int .u64 0, .int .u64 0, .int .i64 0] 27))
  clear HI2 HR2 HB2
  generalize w2.alloc (.cells #[.int .i64 5, .int .u64 0, .int .u64 0, .int .i64 0] 27) = w3 at *
  generalize w2.heap.size = O at *
  have rc0 : w3.cell? ⟨w.heap.size, 0, none⟩ = some (.int .i64 0) := (blk_cell HR.out 0).trans rfl
  have rc1 : w3.cell? ⟨w.heap.size, 1, none⟩ = some (.int .u64 0) := (blk_cell HR.out 1).trans rfl
  have rc2 : w3.cell? ⟨w.heap.size, 2, none⟩ = some (.int .u64 0) := (blk_cell HR.out 2).trans rfl
  have rc3 : w3.cell? ⟨w.heap.size, 3, none⟩ = some (.int .i64 0) := (blk_cell HR.out 3).trans rfl
  have rf0 := blk_frozen HR.out 0
  have rf1 := blk_frozen HR.out 1
  have rf2 := blk_frozen HR.out 2
  have rf3 := blk_frozen HR.out 3
  have oc0 : w3.cell? ⟨O, 0, none⟩ = some (.int .i64 5) := (blk_cell HO.out 0).trans rfl
  have oc1 : w3.cell? ⟨O, 1, none⟩ = some (.int .u64 0) := (blk_cell HO.out 1).trans rfl
  have oc2 : w3.cell? ⟨O, 2, none⟩ = some (.int .u64 0) := (blk_cell HO.out 2).trans rfl
  have oc3 : w3.cell? ⟨O, 3, none⟩ = some (.int .i64 0) := (blk_cell HO.out 3).trans rfl
  have gc0 : w3.cell? ⟨w.heap.size + 1, 0, none⟩ = some (.string l1) := (blk_cell HG.out 0).trans rfl
  have gc1 : w3.cell? ⟨w.heap.size + 1, 1, none⟩ = some (.bool d1) := (blk_cell HG.out 1).trans rfl
  have gc2 : w3.cell? ⟨w.heap.size + 1, 2, none⟩ = some (.bool g1) := (blk_cell HG.out 2).trans rfl
  cases d1
  · by_cases hl : l1.toList = []
    · have hl1 : (l1.toList == ([] : List UInt8)) = true := by simpa using hl
      have hl2 : (l1.toList != ([] : List UInt8)) = false := by simpa using hl
      have HL := Lib.hid hl
      clear hl
      cases g1
      · go_wp2
        refine bodyPost_ret (v := .tuple #[.agg #[.int .i64 5, .int .u64 0, .int .u64 0, .int .i64 0], .int .i64 0]) (by simp [results, Try.results12, go_sem, *]) rfl ⟨by rw [fin_ok _ _ _ _ _ HL.out]; rfl, ?_⟩
        exact (((HB.out.setCell (Nat.le_refl _) _).setCell (Nat.le_refl _) _).setCell (Nat.le_refl _) _).setCell (Nat.le_refl _) _
      · go_wp2
        refine bodyPost_ret (v := .tuple #[.agg #[.int .i64 0, .int .u64 0, .int .u64 0, .int .i64 0], .int .i64 4]) (by simp [results, Try.results12, go_sem, *]) rfl ⟨by rw [fin_long _ _ _ _ _ HL.out]; rfl, ?_⟩
        exact (((HB.out.setCell (Nat.le_refl _) _).setCell (Nat.le_refl _) _).setCell (Nat.le_refl _) _).setCell (Nat.le_refl _) _
    · have hl1 : (l1.toList == ([] : List UInt8)) = false := by simpa using hl
      have hl2 : (l1.toList != ([] : List UInt8)) = true := by simpa using hl
      have HL := Lib.hid hl
      clear hl
      go_wp2
      refine bodyPost_ret (v := .tuple #[.agg #[.int .i64 0, .int .u64 0, .int .u64 0, .int .i64 0], .int .i64 3]) (by simp [results, Try.results12, go_sem, *]) rfl ⟨by rw [fin_left _ _ _ _ _ HL.out]; rfl, ?_⟩
      exact (((HB.out.setCell (Nat.le_refl _) _).setCell (Nat.le_refl _) _).setCell (Nat.le_refl _) _).setCell (Nat.le_refl _) _
  · go_wp2
    refine bodyPost_ret (v := .tuple #[.agg #[.int .i64 0, .int .u64 0, .int .u64 0, .int .i64 0], .int .i64 3]) (by simp [results, Try.results12, go_sem, *]) rfl ⟨by rw [fin_bad]; rfl, ?_⟩
    exact (((HB.out.setCell (Nat.le_refl _) _).setCell (Nat.le_refl _) _).setCell (Nat.le_refl _) _).setCell (Nat.le_refl _) _
set_option maxHeartbeats 4000000 in
set_option maxRecDepth 100000 in
theorem parse_key1 (s : ByteArray) (w : World) (b0 l1 : ByteArray) (d1 g1 : Bool) (h1 : op_reader_bytes.f s false false 1 = some (b0, l1, d1, g1)) (K : Int) (l2 : ByteArray) (d2 g2 : Bool) (h3 : op_reader_word.f l1 d1 g1 = some (K, l2, d2, g2)) (h2 : strings_Index.f ⟨#[32, 71, 75, 80, 68, 76]⟩ b0 = some 1) :
    Calls Try.prog 12 #[.string s] w fun e w' => e = .returned (opV (finP 1 K 0 0 l2 d2 g2)) ∧ Below w.heap.size w w' := by
  have hB0 : Below w.heap.size w (w.alloc (.cells #[.int .i64 0, .int .u64 0, .int .u64 0, .int .i64 0] 27)) := (Below.refl _ w).alloc (Nat.le_refl _) _
  have hI0 := IsS63.new w _ s false false hB0
  have hB0' := hB0.alloc hB0.size (.cells #[.string s, .bool false, .bool false] 63)
  have hR0 : ((w.alloc (.cells #[.int .i64 0, .int .u64 0, .int .u64 0, .int .i64 0] 27)).alloc (.cells #[.string s, .bool false, .bool false] 63)).heap[w.heap.size]? = some (.cells #[.int .i64 0, .int .u64 0, .int .u64 0, .int .i64 0] 27 (0, 0)) := by
    rw [Lib.alloc_old _ _ _ (by simp)]
    exact heap_alloc_new w _
  rw [show (w.alloc (.cells #[.int .i64 0, .int .u64 0, .int .u64 0, .int .i64 0] 27)).heap.size = w.heap.size + 1 from by simp] at hI0
  have C1 := Lib.hid (op_reader_bytes.calls (w.heap.size + 1) s false false 1 b0 l1 d1 g1 w _ hI0 hB0' h1)
  have HR0 := Lib.hid hR0
  clear hI0 hB0' hB0 h1 hR0
  go_enter Try.func12, Try.ntmps12
  go_wp2_with (go_at_call 26; with_reducible refine C1.out.mono ?_)
  rintro e w1 ⟨rfl, hI1, hB1, hK1⟩
  have hR1 := hK1.blk HR0.out (by omega) (by simp)
  clear C1 HR0 hK1
  have C2 := Lib.hid (strings_Index.calls _ b0 1 w1 h2)
  clear h2
  have HI1 := Lib.hid hI1
  have HR1 := Lib.hid hR1
  have HB1 := Lib.hid hB1
  clear hI1 hR1 hB1
  go_wp2_with (go_at_call 25; with_reducible refine C2.out.mono ?_)
  rintro e w2 ⟨rfl, hb⟩
  have HI2 := Lib.hid (HI1.out.below hb)
  have HR2 := Lib.hid ((hb.block _ (by have := HI1.out.lt; omega)).trans HR1.out)
  have HB2 := Lib.hid (HB1.out.trans (hb.mono HB1.out.size))
  clear hb HI1 HR1 HB1 C2
  have hne : w2.heap.size ≠ w.heap.size + 1 := by have := HI2.out.lt; omega
  have hnr : w.heap.size ≠ w2.heap.size := by have := HI2.out.lt; omega
  have hO : w.heap.size ≤ w2.heap.size := by have := HI2.out.lt; omega
  have hO3 := heap_alloc_new w2 (.cells #[.int .i64 1, .int .u64 0, .int .u64 0, .int .i64 0] 27)
  have hR3 := (Lib.alloc_old w2 (.cells #[.int .i64 1, .int .u64 0, .int .u64 0, .int .i64 0] 27) _ (by have := HI2.out.lt; omega)).trans HR2.out
  have hI3 := HI2.out.alloc (.cells #[.int .i64 1, .int .u64 0, .int .u64 0, .int .i64 0] 27)
  have hB3 := HB2.out.alloc HB2.out.size (.cells #[.int .i64 1, .int .u64 0, .int .u64 0, .int .i64 0] 27)
  have C3 := Lib.hid (op_reader_word.calls (w.heap.size + 1) l1 d1 g1 K l2 d2 g2 w (w2.alloc (.cells #[.int .i64 1, .int .u64 0, .int .u64 0, .int .i64 0] 27)) hI3 hB3 h3)
  have HO3 := Lib.hid hO3
  have HR3 := Lib.hid hR3
  clear hO3 hR3 hI3 hB3 h3 HI2 HR2 HB2
  go_wp2_with (go_at_call 27; with_reducible refine C3.out.mono ?_)
  rintro e w4 ⟨rfl, hI4, hB4, hK4⟩
  have HO4 := Lib.hid (hK4.blk HO3.out hne (by simp))
  have HR4 := Lib.hid (hK4.blk HR3.out (by omega) (by simp))
  have HI4 := Lib.hid hI4
  have HB4 := Lib.hid hB4
  clear hI4 hB4 hK4 C3 HO3 HR3
  generalize w2.heap.size = O at *
  have st := blk_frozen HO4.out 1
  have sc := blk_cell HO4.out 1
  go_upto_region 14 with fail
  have HO5 := Lib.hid (blk_put HO4.out 1 (.int .u64 K) rfl)
  have HR5 := Lib.hid (blk_far HR4.out (p := ⟨O, 1, none⟩) hnr (.int .u64 K))
  have HI5 := Lib.hid (HI4.out.far (p := ⟨O, 1, none⟩) (Ne.symm hne) (.int .u64 K))
  have HB5 := Lib.hid (HB4.out.setCell (p := ⟨O, 1, none⟩) hO (.int .u64 K))
  clear st sc HO4 HR4 HI4 HB4
  generalize w4.setCell ⟨O, 1, none⟩ (.int .u64 K) = w5 at *
  have HO := HO5
  have HG := Lib.hid HI5.out.1
  have HR := HR5
  have HB := HB5
  clear HO5 HI5 HR5 HB5
  have rc0 : w5.cell? ⟨w.heap.size, 0, none⟩ = some (.int .i64 0) := (blk_cell HR.out 0).trans rfl
  have rc1 : w5.cell? ⟨w.heap.size, 1, none⟩ = some (.int .u64 0) := (blk_cell HR.out 1).trans rfl
  have rc2 : w5.cell? ⟨w.heap.size, 2, none⟩ = some (.int .u64 0) := (blk_cell HR.out 2).trans rfl
  have rc3 : w5.cell? ⟨w.heap.size, 3, none⟩ = some (.int .i64 0) := (blk_cell HR.out 3).trans rfl
  have rf0 := blk_frozen HR.out 0
  have rf1 := blk_frozen HR.out 1
  have rf2 := blk_frozen HR.out 2
  have rf3 := blk_frozen HR.out 3
  have oc0 : w5.cell? ⟨O, 0, none⟩ = some (.int .i64 1) := (blk_cell HO.out 0).trans rfl
  have oc1 : w5.cell? ⟨O, 1, none⟩ = some (.int .u64 K) := (blk_cell HO.out 1).trans rfl
  have oc2 : w5.cell? ⟨O, 2, none⟩ = some (.int .u64 0) := (blk_cell HO.out 2).trans rfl
  have oc3 : w5.cell? ⟨O, 3, none⟩ = some (.int .i64 0) := (blk_cell HO.out 3).trans rfl
  have gc0 : w5.cell? ⟨w.heap.size + 1, 0, none⟩ = some (.string l2) := (blk_cell HG.out 0).trans rfl
  have gc1 : w5.cell? ⟨w.heap.size + 1, 1, none⟩ = some (.bool d2) := (blk_cell HG.out 1).trans rfl
  have gc2 : w5.cell? ⟨w.heap.size + 1, 2, none⟩ = some (.bool g2) := (blk_cell HG.out 2).trans rfl
  cases d2
  · by_cases hl : l2.toList = []
    · have hl1 : (l2.toList == ([] : List UInt8)) = true := by simpa using hl
      have hl2 : (l2.toList != ([] : List UInt8)) = false := by simpa using hl
      have HL := Lib.hid hl
      clear hl
      cases g2
      · go_wp2
        refine bodyPost_ret (v := .tuple #[.agg #[.int .i64 1, .int .u64 K, .int .u64 0, .int .i64 0], .int .i64 0]) (by simp [results, Try.results12, go_sem, *]) rfl ⟨by rw [fin_ok _ _ _ _ _ HL.out]; rfl, ?_⟩
        exact (((HB.out.setCell (Nat.le_refl _) _).setCell (Nat.le_refl _) _).setCell (Nat.le_refl _) _).setCell (Nat.le_refl _) _
      · go_wp2
        refine bodyPost_ret (v := .tuple #[.agg #[.int .i64 0, .int .u64 0, .int .u64 0, .int .i64 0], .int .i64 4]) (by simp [results, Try.results12, go_sem, *]) rfl ⟨by rw [fin_long _ _ _ _ _ HL.out]; rfl, ?_⟩
        exact (((HB.out.setCell (Nat.le_refl _) _).setCell (Nat.le_refl _) _).setCell (Nat.le_refl _) _).setCell (Nat.le_refl _) _
    · have hl1 : (l2.toList == ([] : List UInt8)) = false := by simpa using hl
      have hl2 : (l2.toList != ([] : List UInt8)) = true := by simpa using hl
      have HL := Lib.hid hl
      clear hl
      go_wp2
      refine bodyPost_ret (v := .tuple #[.agg #[.int .i64 0, .int .u64 0, .int .u64 0, .int .i64 0], .int .i64 3]) (by simp [results, Try.results12, go_sem, *]) rfl ⟨by rw [fin_left _ _ _ _ _ HL.out]; rfl, ?_⟩
      exact (((HB.out.setCell (Nat.le_refl _) _).setCell (Nat.le_refl _) _).setCell (Nat.le_refl _) _).setCell (Nat.le_refl _) _
  · go_wp2
    refine bodyPost_ret (v := .tuple #[.agg #[.int .i64 0, .int .u64 0, .int .u64 0, .int .i64 0], .int .i64 3]) (by simp [results, Try.results12, go_sem, *]) rfl ⟨by rw [fin_bad]; rfl, ?_⟩
    exact (((HB.out.setCell (Nat.le_refl _) _).setCell (Nat.le_refl _) _).setCell (Nat.le_refl _) _).setCell (Nat.le_refl _) _
set_option maxHeartbeats 4000000 in
set_option maxRecDepth 100000 in
theorem parse_key2 (s : ByteArray) (w : World) (b0 l1 : ByteArray) (d1 g1 : Bool) (h1 : op_reader_bytes.f s false false 1 = some (b0, l1, d1, g1)) (K : Int) (l2 : ByteArray) (d2 g2 : Bool) (h3 : op_reader_word.f l1 d1 g1 = some (K, l2, d2, g2)) (h2 : strings_Index.f ⟨#[32, 71, 75, 80, 68, 76]⟩ b0 = some 2) :
    Calls Try.prog 12 #[.string s] w fun e w' => e = .returned (opV (finP 2 K 0 0 l2 d2 g2)) ∧ Below w.heap.size w w' := by
  have hB0 : Below w.heap.size w (w.alloc (.cells #[.int .i64 0, .int .u64 0, .int .u64 0, .int .i64 0] 27)) := (Below.refl _ w).alloc (Nat.le_refl _) _
  have hI0 := IsS63.new w _ s false false hB0
  have hB0' := hB0.alloc hB0.size (.cells #[.string s, .bool false, .bool false] 63)
  have hR0 : ((w.alloc (.cells #[.int .i64 0, .int .u64 0, .int .u64 0, .int .i64 0] 27)).alloc (.cells #[.string s, .bool false, .bool false] 63)).heap[w.heap.size]? = some (.cells #[.int .i64 0, .int .u64 0, .int .u64 0, .int .i64 0] 27 (0, 0)) := by
    rw [Lib.alloc_old _ _ _ (by simp)]
    exact heap_alloc_new w _
  rw [show (w.alloc (.cells #[.int .i64 0, .int .u64 0, .int .u64 0, .int .i64 0] 27)).heap.size = w.heap.size + 1 from by simp] at hI0
  have C1 := Lib.hid (op_reader_bytes.calls (w.heap.size + 1) s false false 1 b0 l1 d1 g1 w _ hI0 hB0' h1)
  have HR0 := Lib.hid hR0
  clear hI0 hB0' hB0 h1 hR0
  go_enter Try.func12, Try.ntmps12
  go_wp2_with (go_at_call 26; with_reducible refine C1.out.mono ?_)
  rintro e w1 ⟨rfl, hI1, hB1, hK1⟩
  have hR1 := hK1.blk HR0.out (by omega) (by simp)
  clear C1 HR0 hK1
  have C2 := Lib.hid (strings_Index.calls _ b0 2 w1 h2)
  clear h2
  have HI1 := Lib.hid hI1
  have HR1 := Lib.hid hR1
  have HB1 := Lib.hid hB1
  clear hI1 hR1 hB1
  go_wp2_with (go_at_call 25; with_reducible refine C2.out.mono ?_)
  rintro e w2 ⟨rfl, hb⟩
  have HI2 := Lib.hid (HI1.out.below hb)
  have HR2 := Lib.hid ((hb.block _ (by have := HI1.out.lt; omega)).trans HR1.out)
  have HB2 := Lib.hid (HB1.out.trans (hb.mono HB1.out.size))
  clear hb HI1 HR1 HB1 C2
  have hne : w2.heap.size ≠ w.heap.size + 1 := by have := HI2.out.lt; omega
  have hnr : w.heap.size ≠ w2.heap.size := by have := HI2.out.lt; omega
  have hO : w.heap.size ≤ w2.heap.size := by have := HI2.out.lt; omega
  have hO3 := heap_alloc_new w2 (.cells #[.int .i64 2, .int .u64 0, .int .u64 0, .int .i64 0] 27)
  have hR3 := (Lib.alloc_old w2 (.cells #[.int .i64 2, .int .u64 0, .int .u64 0, .int .i64 0] 27) _ (by have := HI2.out.lt; omega)).trans HR2.out
  have hI3 := HI2.out.alloc (.cells #[.int .i64 2, .int .u64 0, .int .u64 0, .int .i64 0] 27)
  have hB3 := HB2.out.alloc HB2.out.size (.cells #[.int .i64 2, .int .u64 0, .int .u64 0, .int .i64 0] 27)
  have C3 := Lib.hid (op_reader_word.calls (w.heap.size + 1) l1 d1 g1 K l2 d2 g2 w (w2.alloc (.cells #[.int .i64 2, .int .u64 0, .int .u64 0, .int .i64 0] 27)) hI3 hB3 h3)
  have HO3 := Lib.hid hO3
  have HR3 := Lib.hid hR3
  clear hO3 hR3 hI3 hB3 h3 HI2 HR2 HB2
  go_wp2_with (go_at_call 27; with_reducible refine C3.out.mono ?_)
  rintro e w4 ⟨rfl, hI4, hB4, hK4⟩
  have HO4 := Lib.hid (hK4.blk HO3.out hne (by simp))
  have HR4 := Lib.hid (hK4.blk HR3.out (by omega) (by simp))
  have HI4 := Lib.hid hI4
  have HB4 := Lib.hid hB4
  clear hI4 hB4 hK4 C3 HO3 HR3
  generalize w2.heap.size = O at *
  have st := blk_frozen HO4.out 1
  have sc := blk_cell HO4.out 1
  go_upto_region 14 with fail
  have HO5 := Lib.hid (blk_put HO4.out 1 (.int .u64 K) rfl)
  have HR5 := Lib.hid (blk_far HR4.out (p := ⟨O, 1, none⟩) hnr (.int .u64 K))
  have HI5 := Lib.hid (HI4.out.far (p := ⟨O, 1, none⟩) (Ne.symm hne) (.int .u64 K))
  have HB5 := Lib.hid (HB4.out.setCell (p := ⟨O, 1, none⟩) hO (.int .u64 K))
  clear st sc HO4 HR4 HI4 HB4
  generalize w4.setCell ⟨O, 1, none⟩ (.int .u64 K) = w5 at *
  have HO := HO5
  have HG := Lib.hid HI5.out.1
  have HR := HR5
  have HB := HB5
  clear HO5 HI5 HR5 HB5
  have rc0 : w5.cell? ⟨w.heap.size, 0, none⟩ = some (.int .i64 0) := (blk_cell HR.out 0).trans rfl
  have rc1 : w5.cell? ⟨w.heap.size, 1, none⟩ = some (.int .u64 0) := (blk_cell HR.out 1).trans rfl
  have rc2 : w5.cell? ⟨w.heap.size, 2, none⟩ = some (.int .u64 0) := (blk_cell HR.out 2).trans rfl
  have rc3 : w5.cell? ⟨w.heap.size, 3, none⟩ = some (.int .i64 0) := (blk_cell HR.out 3).trans rfl
  have rf0 := blk_frozen HR.out 0
  have rf1 := blk_frozen HR.out 1
  have rf2 := blk_frozen HR.out 2
  have rf3 := blk_frozen HR.out 3
  have oc0 : w5.cell? ⟨O, 0, none⟩ = some (.int .i64 2) := (blk_cell HO.out 0).trans rfl
  have oc1 : w5.cell? ⟨O, 1, none⟩ = some (.int .u64 K) := (blk_cell HO.out 1).trans rfl
  have oc2 : w5.cell? ⟨O, 2, none⟩ = some (.int .u64 0) := (blk_cell HO.out 2).trans rfl
  have oc3 : w5.cell? ⟨O, 3, none⟩ = some (.int .i64 0) := (blk_cell HO.out 3).trans rfl
  have gc0 : w5.cell? ⟨w.heap.size + 1, 0, none⟩ = some (.string l2) := (blk_cell HG.out 0).trans rfl
  have gc1 : w5.cell? ⟨w.heap.size + 1, 1, none⟩ = some (.bool d2) := (blk_cell HG.out 1).trans rfl
  have gc2 : w5.cell? ⟨w.heap.size + 1, 2, none⟩ = some (.bool g2) := (blk_cell HG.out 2).trans rfl
  cases d2
  · by_cases hl : l2.toList = []
    · have hl1 : (l2.toList == ([] : List UInt8)) = true := by simpa using hl
      have hl2 : (l2.toList != ([] : List UInt8)) = false := by simpa using hl
      have HL := Lib.hid hl
      clear hl
      cases g2
      · go_wp2
        refine bodyPost_ret (v := .tuple #[.agg #[.int .i64 2, .int .u64 K, .int .u64 0, .int .i64 0], .int .i64 0]) (by simp [results, Try.results12, go_sem, *]) rfl ⟨by rw [fin_ok _ _ _ _ _ HL.out]; rfl, ?_⟩
        exact (((HB.out.setCell (Nat.le_refl _) _).setCell (Nat.le_refl _) _).setCell (Nat.le_refl _) _).setCell (Nat.le_refl _) _
      · go_wp2
        refine bodyPost_ret (v := .tuple #[.agg #[.int .i64 0, .int .u64 0, .int .u64 0, .int .i64 0], .int .i64 4]) (by simp [results, Try.results12, go_sem, *]) rfl ⟨by rw [fin_long _ _ _ _ _ HL.out]; rfl, ?_⟩
        exact (((HB.out.setCell (Nat.le_refl _) _).setCell (Nat.le_refl _) _).setCell (Nat.le_refl _) _).setCell (Nat.le_refl _) _
    · have hl1 : (l2.toList == ([] : List UInt8)) = false := by simpa using hl
      have hl2 : (l2.toList != ([] : List UInt8)) = true := by simpa using hl
      have HL := Lib.hid hl
      clear hl
      go_wp2
      refine bodyPost_ret (v := .tuple #[.agg #[.int .i64 0, .int .u64 0, .int .u64 0, .int .i64 0], .int .i64 3]) (by simp [results, Try.results12, go_sem, *]) rfl ⟨by rw [fin_left _ _ _ _ _ HL.out]; rfl, ?_⟩
      exact (((HB.out.setCell (Nat.le_refl _) _).setCell (Nat.le_refl _) _).setCell (Nat.le_refl _) _).setCell (Nat.le_refl _) _
  · go_wp2
    refine bodyPost_ret (v := .tuple #[.agg #[.int .i64 0, .int .u64 0, .int .u64 0, .int .i64 0], .int .i64 3]) (by simp [results, Try.results12, go_sem, *]) rfl ⟨by rw [fin_bad]; rfl, ?_⟩
    exact (((HB.out.setCell (Nat.le_refl _) _).setCell (Nat.le_refl _) _).setCell (Nat.le_refl _) _).setCell (Nat.le_refl _) _
set_option maxHeartbeats 4000000 in
set_option maxRecDepth 100000 in
theorem parse_key4 (s : ByteArray) (w : World) (b0 l1 : ByteArray) (d1 g1 : Bool) (h1 : op_reader_bytes.f s false false 1 = some (b0, l1, d1, g1)) (K : Int) (l2 : ByteArray) (d2 g2 : Bool) (h3 : op_reader_word.f l1 d1 g1 = some (K, l2, d2, g2)) (h2 : strings_Index.f ⟨#[32, 71, 75, 80, 68, 76]⟩ b0 = some 4) :
    Calls Try.prog 12 #[.string s] w fun e w' => e = .returned (opV (finP 4 K 0 0 l2 d2 g2)) ∧ Below w.heap.size w w' := by
  have hB0 : Below w.heap.size w (w.alloc (.cells #[.int .i64 0, .int .u64 0, .int .u64 0, .int .i64 0] 27)) := (Below.refl _ w).alloc (Nat.le_refl _) _
  have hI0 := IsS63.new w _ s false false hB0
  have hB0' := hB0.alloc hB0.size (.cells #[.string s, .bool false, .bool false] 63)
  have hR0 : ((w.alloc (.cells #[.int .i64 0, .int .u64 0, .int .u64 0, .int .i64 0] 27)).alloc (.cells #[.string s, .bool false, .bool false] 63)).heap[w.heap.size]? = some (.cells #[.int .i64 0, .int .u64 0, .int .u64 0, .int .i64 0] 27 (0, 0)) := by
    rw [Lib.alloc_old _ _ _ (by simp)]
    exact heap_alloc_new w _
  rw [show (w.alloc (.cells #[.int .i64 0, .int .u64 0, .int .u64 0, .int .i64 0] 27)).heap.size = w.heap.size + 1 from by simp] at hI0
  have C1 := Lib.hid (op_reader_bytes.calls (w.heap.size + 1) s false false 1 b0 l1 d1 g1 w _ hI0 hB0' h1)
  have HR0 := Lib.hid hR0
  clear hI0 hB0' hB0 h1 hR0
  go_enter Try.func12, Try.ntmps12
  go_wp2_with (go_at_call 26; with_reducible refine C1.out.mono ?_)
  rintro e w1 ⟨rfl, hI1, hB1, hK1⟩
  have hR1 := hK1.blk HR0.out (by omega) (by simp)
  clear C1 HR0 hK1
  have C2 := Lib.hid (strings_Index.calls _ b0 4 w1 h2)
  clear h2
  have HI1 := Lib.hid hI1
  have HR1 := Lib.hid hR1
  have HB1 := Lib.hid hB1
  clear hI1 hR1 hB1
  go_wp2_with (go_at_call 25; with_reducible refine C2.out.mono ?_)
  rintro e w2 ⟨rfl, hb⟩
  have HI2 := Lib.hid (HI1.out.below hb)
  have HR2 := Lib.hid ((hb.block _ (by have := HI1.out.lt; omega)).trans HR1.out)
  have HB2 := Lib.hid (HB1.out.trans (hb.mono HB1.out.size))
  clear hb HI1 HR1 HB1 C2
  have hne : w2.heap.size ≠ w.heap.size + 1 := by have := HI2.out.lt; omega
  have hnr : w.heap.size ≠ w2.heap.size := by have := HI2.out.lt; omega
  have hO : w.heap.size ≤ w2.heap.size := by have := HI2.out.lt; omega
  have hO3 := heap_alloc_new w2 (.cells #[.int .i64 4, .int .u64 0, .int .u64 0, .int .i64 0] 27)
  have hR3 := (Lib.alloc_old w2 (.cells #[.int .i64 4, .int .u64 0, .int .u64 0, .int .i64 0] 27) _ (by have := HI2.out.lt; omega)).trans HR2.out
  have hI3 := HI2.out.alloc (.cells #[.int .i64 4, .int .u64 0, .int .u64 0, .int .i64 0] 27)
  have hB3 := HB2.out.alloc HB2.out.size (.cells #[.int .i64 4, .int .u64 0, .int .u64 0, .int .i64 0] 27)
  have C3 := Lib.hid (op_reader_word.calls (w.heap.size + 1) l1 d1 g1 K l2 d2 g2 w (w2.alloc (.cells #[.int .i64 4, .int .u64 0, .int .u64 0, .int .i64 0] 27)) hI3 hB3 h3)
  have HO3 := Lib.hid hO3
  have HR3 := Lib.hid hR3
  clear hO3 hR3 hI3 hB3 h3 HI2 HR2 HB2
  go_wp2_with (go_at_call 27; with_reducible refine C3.out.mono ?_)
  rintro e w4 ⟨rfl, hI4, hB4, hK4⟩
  have HO4 := Lib.hid (hK4.blk HO3.out hne (by simp))
  have HR4 := Lib.hid (hK4.blk HR3.out (by omega) (by simp))
  have HI4 := Lib.hid hI4
  have HB4 := Lib.hid hB4
  clear hI4 hB4 hK4 C3 HO3 HR3
  generalize w2.heap.size = O at *
  have st := blk_frozen HO4.out 1
  have sc := blk_cell HO4.out 1
  go_upto_region 14 with fail
  have HO5 := Lib.hid (blk_put HO4.out 1 (.int .u64 K) rfl)
  have HR5 := Lib.hid (blk_far HR4.out (p := ⟨O, 1, none⟩) hnr (.int .u64 K))
  have HI5 := Lib.hid (HI4.out.far (p := ⟨O, 1, none⟩) (Ne.symm hne) (.int .u64 K))
  have HB5 := Lib.hid (HB4.out.setCell (p := ⟨O, 1, none⟩) hO (.int .u64 K))
  clear st sc HO4 HR4 HI4 HB4
  generalize w4.setCell ⟨O, 1, none⟩ (.int .u64 K) = w5 at *
  have HO := HO5
  have HG := Lib.hid HI5.out.1
  have HR := HR5
  have HB := HB5
  clear HO5 HI5 HR5 HB5
  have rc0 : w5.cell? ⟨w.heap.size, 0, none⟩ = some (.int .i64 0) := (blk_cell HR.out 0).trans rfl
  have rc1 : w5.cell? ⟨w.heap.size, 1, none⟩ = some (.int .u64 0) := (blk_cell HR.out 1).trans rfl
  have rc2 : w5.cell? ⟨w.heap.size, 2, none⟩ = some (.int .u64 0) := (blk_cell HR.out 2).trans rfl
  have rc3 : w5.cell? ⟨w.heap.size, 3, none⟩ = some (.int .i64 0) := (blk_cell HR.out 3).trans rfl
  have rf0 := blk_frozen HR.out 0
  have rf1 := blk_frozen HR.out 1
  have rf2 := blk_frozen HR.out 2
  have rf3 := blk_frozen HR.out 3
  have oc0 : w5.cell? ⟨O, 0, none⟩ = some (.int .i64 4) := (blk_cell HO.out 0).trans rfl
  have oc1 : w5.cell? ⟨O, 1, none⟩ = some (.int .u64 K) := (blk_cell HO.out 1).trans rfl
  have oc2 : w5.cell? ⟨O, 2, none⟩ = some (.int .u64 0) := (blk_cell HO.out 2).trans rfl
  have oc3 : w5.cell? ⟨O, 3, none⟩ = some (.int .i64 0) := (blk_cell HO.out 3).trans rfl
  have gc0 : w5.cell? ⟨w.heap.size + 1, 0, none⟩ = some (.string l2) := (blk_cell HG.out 0).trans rfl
  have gc1 : w5.cell? ⟨w.heap.size + 1, 1, none⟩ = some (.bool d2) := (blk_cell HG.out 1).trans rfl
  have gc2 : w5.cell? ⟨w.heap.size + 1, 2, none⟩ = some (.bool g2) := (blk_cell HG.out 2).trans rfl
  cases d2
  · by_cases hl : l2.toList = []
    · have hl1 : (l2.toList == ([] : List UInt8)) = true := by simpa using hl
      have hl2 : (l2.toList != ([] : List UInt8)) = false := by simpa using hl
      have HL := Lib.hid hl
      clear hl
      cases g2
      · go_wp2
        refine bodyPost_ret (v := .tuple #[.agg #[.int .i64 4, .int .u64 K, .int .u64 0, .int .i64 0], .int .i64 0]) (by simp [results, Try.results12, go_sem, *]) rfl ⟨by rw [fin_ok _ _ _ _ _ HL.out]; rfl, ?_⟩
        exact (((HB.out.setCell (Nat.le_refl _) _).setCell (Nat.le_refl _) _).setCell (Nat.le_refl _) _).setCell (Nat.le_refl _) _
      · go_wp2
        refine bodyPost_ret (v := .tuple #[.agg #[.int .i64 0, .int .u64 0, .int .u64 0, .int .i64 0], .int .i64 4]) (by simp [results, Try.results12, go_sem, *]) rfl ⟨by rw [fin_long _ _ _ _ _ HL.out]; rfl, ?_⟩
        exact (((HB.out.setCell (Nat.le_refl _) _).setCell (Nat.le_refl _) _).setCell (Nat.le_refl _) _).setCell (Nat.le_refl _) _
    · have hl1 : (l2.toList == ([] : List UInt8)) = false := by simpa using hl
      have hl2 : (l2.toList != ([] : List UInt8)) = true := by simpa using hl
      have HL := Lib.hid hl
      clear hl
      go_wp2
      refine bodyPost_ret (v := .tuple #[.agg #[.int .i64 0, .int .u64 0, .int .u64 0, .int .i64 0], .int .i64 3]) (by simp [results, Try.results12, go_sem, *]) rfl ⟨by rw [fin_left _ _ _ _ _ HL.out]; rfl, ?_⟩
      exact (((HB.out.setCell (Nat.le_refl _) _).setCell (Nat.le_refl _) _).setCell (Nat.le_refl _) _).setCell (Nat.le_refl _) _
  · go_wp2
    refine bodyPost_ret (v := .tuple #[.agg #[.int .i64 0, .int .u64 0, .int .u64 0, .int .i64 0], .int .i64 3]) (by simp [results, Try.results12, go_sem, *]) rfl ⟨by rw [fin_bad]; rfl, ?_⟩
    exact (((HB.out.setCell (Nat.le_refl _) _).setCell (Nat.le_refl _) _).setCell (Nat.le_refl _) _).setCell (Nat.le_refl _) _
set_option maxHeartbeats 4000000 in
set_option maxRecDepth 100000 in
theorem parse_put (s : ByteArray) (w : World) (b0 l1 : ByteArray) (d1 g1 : Bool) (h1 : op_reader_bytes.f s false false 1 = some (b0, l1, d1, g1)) (b : ByteArray) (hb : b.size = 2) (V K F : Int) (hF : Aside (bt b 0 + 256 * bt b 1 = F)) (l2 l3 l4 : ByteArray) (d2 g2 d3 g3 d4 g4 : Bool) (h3 : op_reader_bytes.f l1 d1 g1 2 = some (b, l2, d2, g2)) (h4 : op_reader_word.f l2 d2 g2 = some (V, l3, d3, g3)) (h5 : op_reader_word.f l3 d3 g3 = some (K, l4, d4, g4)) (h2 : strings_Index.f ⟨#[32, 71, 75, 80, 68, 76]⟩ b0 = some 3) :
    Calls Try.prog 12 #[.string s] w fun e w' => e = .returned (opV (finP 3 K V F l4 d4 g4)) ∧ Below w.heap.size w w' := by
  have hB0 : Below w.heap.size w (w.alloc (.cells #[.int .i64 0, .int .u64 0, .int .u64 0, .int .i64 0] 27)) := (Below.refl _ w).alloc (Nat.le_refl _) _
  have hI0 := IsS63.new w _ s false false hB0
  have hB0' := hB0.alloc hB0.size (.cells #[.string s, .bool false, .bool false] 63)
  have hR0 : ((w.alloc (.cells #[.int .i64 0, .int .u64 0, .int .u64 0, .int .i64 0] 27)).alloc (.cells #[.string s, .bool false, .bool false] 63)).heap[w.heap.size]? = some (.cells #[.int .i64 0, .int .u64 0, .int .u64 0, .int .i64 0] 27 (0, 0)) := by
    rw [Lib.alloc_old _ _ _ (by simp)]
    exact heap_alloc_new w _
  rw [show (w.alloc (.cells #[.int .i64 0, .int .u64 0, .int .u64 0, .int .i64 0] 27)).heap.size = w.heap.size + 1 from by simp] at hI0
  have C1 := Lib.hid (op_reader_bytes.calls (w.heap.size + 1) s false false 1 b0 l1 d1 g1 w _ hI0 hB0' h1)
  have HR0 := Lib.hid hR0
  clear hI0 hB0' hB0 h1 hR0
  go_enter Try.func12, Try.ntmps12
  go_wp2_with (go_at_call 26; with_reducible refine C1.out.mono ?_)
  rintro e w1 ⟨rfl, hI1, hB1, hK1⟩
  have hR1 := hK1.blk HR0.out (by omega) (by simp)
  clear C1 HR0 hK1
  have C2 := Lib.hid (strings_Index.calls _ b0 3 w1 h2)
  clear h2
  have HI1 := Lib.hid hI1
  have HR1 := Lib.hid hR1
  have HB1 := Lib.hid hB1
  clear hI1 hR1 hB1
  go_wp2_with (go_at_call 25; with_reducible refine C2.out.mono ?_)
  rintro e w2 ⟨rfl, hb⟩
  have HI2 := Lib.hid (HI1.out.below hb)
  have HR2 := Lib.hid ((hb.block _ (by have := HI1.out.lt; omega)).trans HR1.out)
  have HB2 := Lib.hid (HB1.out.trans (hb.mono HB1.out.size))
  clear hb HI1 HR1 HB1 C2
  have hne : w2.heap.size ≠ w.heap.size + 1 := by have := HI2.out.lt; omega
  have hnr : w.heap.size ≠ w2.heap.size := by have := HI2.out.lt; omega
  have hO : w.heap.size ≤ w2.heap.size := by have := HI2.out.lt; omega
  have hO3 := heap_alloc_new w2 (.cells #[.int .i64 3, .int .u64 0, .int .u64 0, .int .i64 0] 27)
  have hR3 := (Lib.alloc_old w2 (.cells #[.int .i64 3, .int .u64 0, .int .u64 0, .int .i64 0] 27) _ (by have := HI2.out.lt; omega)).trans HR2.out
  have hI3 := HI2.out.alloc (.cells #[.int .i64 3, .int .u64 0, .int .u64 0, .int .i64 0] 27)
  have hB3 := HB2.out.alloc HB2.out.size (.cells #[.int .i64 3, .int .u64 0, .int .u64 0, .int .i64 0] 27)
  have C3 := Lib.hid (op_reader_bytes.calls (w.heap.size + 1) l1 d1 g1 2 b l2 d2 g2 w (w2.alloc (.cells #[.int .i64 3, .int .u64 0, .int .u64 0, .int .i64 0] 27)) hI3 hB3 h3)
  have HO3 := Lib.hid hO3
  have HR3 := Lib.hid hR3
  clear hO3 hR3 hI3 hB3 h3 HI2 HR2 HB2
  go_wp2_with (go_at_call 26; with_reducible refine C3.out.mono ?_)
  rintro e w4 ⟨rfl, hI4, hB4, hK4⟩
  have HO4 := Lib.hid (hK4.blk HO3.out hne (by simp))
  have HR4 := Lib.hid (hK4.blk HR3.out (by omega) (by simp))
  have HI4 := Lib.hid hI4
  have HB4 := Lib.hid hB4
  clear hI4 hB4 hK4 C3 HO3 HR3
  generalize w2.heap.size = O at *
  have st := blk_frozen HO4.out 3
  have sc := blk_cell HO4.out 3
  go_wp2_with fail
  have z0 : (0 : Int) < (b.size : Int) := by omega
  have z1 : (1 : Int) < (b.size : Int) := by omega
  go_region
  clear st sc z0 z1
  have z0 : 0 < b.size := by omega
  have z1 : 1 < b.size := by omega
  have hF2 := (or_bytes b z0 z1).trans hF.out
  rw [hF2]
  have HO5 := Lib.hid (show (w4.setCell ⟨O, 3, none⟩ (.int .i64 F)).drew.heap[O]? = _ from blk_put HO4.out 3 (.int .i64 F) rfl)
  have HR5 := Lib.hid (show (w4.setCell ⟨O, 3, none⟩ (.int .i64 F)).drew.heap[w.heap.size]? = _ from blk_far HR4.out (p := ⟨O, 3, none⟩) hnr (.int .i64 F))
  have HI5 := Lib.hid (HI4.out.far (p := ⟨O, 3, none⟩) (Ne.symm hne) (.int .i64 F)).drew
  have HB5 := Lib.hid (HB4.out.setCell (p := ⟨O, 3, none⟩) hO (.int .i64 F)).drew
  clear HO4 HR4 HI4 HB4 hF hF2
  generalize (w4.setCell ⟨O, 3, none⟩ (.int .i64 F)).drew = w5 at *
  have C := Lib.hid (op_reader_word.calls (w.heap.size + 1) l2 d2 g2 V l3 d3 g3 w w5 HI5.out HB5.out h4)
  clear h4
  go_wp2_with (go_at_call 27; with_reducible refine C.out.mono ?_)
  rintro e w6 ⟨rfl, hI, hB, hK⟩
  have HO6 := Lib.hid (hK.blk HO5.out hne (by simp))
  have HR6 := Lib.hid (hK.blk HR5.out (by omega) (by simp))
  have HI6 := Lib.hid hI
  have HB6 := Lib.hid hB
  clear hI hB hK C HO5 HR5 HI5 HB5
  have st := blk_frozen HO6.out 2
  have sc := blk_cell HO6.out 2
  go_upto_region 13 with fail
  have HO7 := Lib.hid (blk_put HO6.out 2 (.int .u64 V) rfl)
  have HR7 := Lib.hid (blk_far HR6.out (p := ⟨O, 2, none⟩) hnr (.int .u64 V))
  have HI7 := Lib.hid (HI6.out.far (p := ⟨O, 2, none⟩) (Ne.symm hne) (.int .u64 V))
  have HB7 := Lib.hid (HB6.out.setCell (p := ⟨O, 2, none⟩) hO (.int .u64 V))
  clear st sc HO6 HR6 HI6 HB6
  generalize w6.setCell ⟨O, 2, none⟩ (.int .u64 V) = w7 at *
  have C := Lib.hid (op_reader_word.calls (w.heap.size + 1) l3 d3 g3 K l4 d4 g4 w w7 HI7.out HB7.out h5)
  clear h5
  go_wp2_with (go_at_call 27; with_reducible refine C.out.mono ?_)
  rintro e w8 ⟨rfl, hI, hB, hK⟩
  have HO8 := Lib.hid (hK.blk HO7.out hne (by simp))
  have HR8 := Lib.hid (hK.blk HR7.out (by omega) (by simp))
  have HI8 := Lib.hid hI
  have HB8 := Lib.hid hB
  clear hI hB hK C HO7 HR7 HI7 HB7
  have st := blk_frozen HO8.out 1
  have sc := blk_cell HO8.out 1
  go_upto_region 14 with fail
  have HO9 := Lib.hid (blk_put HO8.out 1 (.int .u64 K) rfl)
  have HR9 := Lib.hid (blk_far HR8.out (p := ⟨O, 1, none⟩) hnr (.int .u64 K))
  have HI9 := Lib.hid (HI8.out.far (p := ⟨O, 1, none⟩) (Ne.symm hne) (.int .u64 K))
  have HB9 := Lib.hid (HB8.out.setCell (p := ⟨O, 1, none⟩) hO (.int .u64 K))
  clear st sc HO8 HR8 HI8 HB8
  generalize w8.setCell ⟨O, 1, none⟩ (.int .u64 K) = w9 at *
  have HO := HO9
  have HG := Lib.hid HI9.out.1
  have HR := HR9
  have HB := HB9
  clear HO9 HI9 HR9 HB9
  have rc0 : w9.cell? ⟨w.heap.size, 0, none⟩ = some (.int .i64 0) := (blk_cell HR.out 0).trans rfl
  have rc1 : w9.cell? ⟨w.heap.size, 1, none⟩ = some (.int .u64 0) := (blk_cell HR.out 1).trans rfl
  have rc2 : w9.cell? ⟨w.heap.size, 2, none⟩ = some (.int .u64 0) := (blk_cell HR.out 2).trans rfl
  have rc3 : w9.cell? ⟨w.heap.size, 3, none⟩ = some (.int .i64 0) := (blk_cell HR.out 3).trans rfl
  have rf0 := blk_frozen HR.out 0
  have rf1 := blk_frozen HR.out 1
  have rf2 := blk_frozen HR.out 2
  have rf3 := blk_frozen HR.out 3
  have oc0 : w9.cell? ⟨O, 0, none⟩ = some (.int .i64 3) := (blk_cell HO.out 0).trans rfl
  have oc1 : w9.cell? ⟨O, 1, none⟩ = some (.int .u64 K) := (blk_cell HO.out 1).trans rfl
  have oc2 : w9.cell? ⟨O, 2, none⟩ = some (.int .u64 V) := (blk_cell HO.out 2).trans rfl
  have oc3 : w9.cell? ⟨O, 3, none⟩ = some (.int .i64 F) := (blk_cell HO.out 3).trans rfl
  have gc0 : w9.cell? ⟨w.heap.size + 1, 0, none⟩ = some (.string l4) := (blk_cell HG.out 0).trans rfl
  have gc1 : w9.cell? ⟨w.heap.size + 1, 1, none⟩ = some (.bool d4) := (blk_cell HG.out 1).trans rfl
  have gc2 : w9.cell? ⟨w.heap.size + 1, 2, none⟩ = some (.bool g4) := (blk_cell HG.out 2).trans rfl
  cases d4
  · by_cases hl : l4.toList = []
    · have hl1 : (l4.toList == ([] : List UInt8)) = true := by simpa using hl
      have hl2 : (l4.toList != ([] : List UInt8)) = false := by simpa using hl
      have HL := Lib.hid hl
      clear hl
      cases g4
      · go_wp2
        refine bodyPost_ret (v := .tuple #[.agg #[.int .i64 3, .int .u64 K, .int .u64 V, .int .i64 F], .int .i64 0]) (by simp [results, Try.results12, go_sem, *]) rfl ⟨by rw [fin_ok _ _ _ _ _ HL.out]; rfl, ?_⟩
        exact (((HB.out.setCell (Nat.le_refl _) _).setCell (Nat.le_refl _) _).setCell (Nat.le_refl _) _).setCell (Nat.le_refl _) _
      · go_wp2
        refine bodyPost_ret (v := .tuple #[.agg #[.int .i64 0, .int .u64 0, .int .u64 0, .int .i64 0], .int .i64 4]) (by simp [results, Try.results12, go_sem, *]) rfl ⟨by rw [fin_long _ _ _ _ _ HL.out]; rfl, ?_⟩
        exact (((HB.out.setCell (Nat.le_refl _) _).setCell (Nat.le_refl _) _).setCell (Nat.le_refl _) _).setCell (Nat.le_refl _) _
    · have hl1 : (l4.toList == ([] : List UInt8)) = false := by simpa using hl
      have hl2 : (l4.toList != ([] : List UInt8)) = true := by simpa using hl
      have HL := Lib.hid hl
      clear hl
      go_wp2
      refine bodyPost_ret (v := .tuple #[.agg #[.int .i64 0, .int .u64 0, .int .u64 0, .int .i64 0], .int .i64 3]) (by simp [results, Try.results12, go_sem, *]) rfl ⟨by rw [fin_left _ _ _ _ _ HL.out]; rfl, ?_⟩
      exact (((HB.out.setCell (Nat.le_refl _) _).setCell (Nat.le_refl _) _).setCell (Nat.le_refl _) _).setCell (Nat.le_refl _) _
  · go_wp2
    refine bodyPost_ret (v := .tuple #[.agg #[.int .i64 0, .int .u64 0, .int .u64 0, .int .i64 0], .int .i64 3]) (by simp [results, Try.results12, go_sem, *]) rfl ⟨by rw [fin_bad]; rfl, ?_⟩
    exact (((HB.out.setCell (Nat.le_refl _) _).setCell (Nat.le_refl _) _).setCell (Nat.le_refl _) _).setCell (Nat.le_refl _) _

/-- the letters of the kinds -/
def letters : ByteArray := ⟨#[32, 71, 75, 80, 68, 76]⟩
/-- what Parse tells of a text -/
def op_Parse.f (s : ByteArray) : Option (Int × Int × Int × Int × Int) :=
  (op_reader_bytes.f s false false 1).bind fun a => (strings_Index.f letters a.1).bind fun i =>
    if i = 5 then some (finP 5 0 0 0 a.2.1 a.2.2.1 a.2.2.2)
    else if i = 1 ∨ i = 2 ∨ i = 4 then (op_reader_word.f a.2.1 a.2.2.1 a.2.2.2).bind fun k => some (finP i k.1 0 0 k.2.1 k.2.2.1 k.2.2.2)
    else if i = 3 then (op_reader_bytes.f a.2.1 a.2.2.1 a.2.2.2 2).bind fun b => if b.1.size = 2 then (op_reader_word.f b.2.1 b.2.2.1 b.2.2.2).bind fun v =>
      (op_reader_word.f v.2.1 v.2.2.1 v.2.2.2).bind fun k => some (finP 3 k.1 v.1 (bt b.1 0 + 256 * bt b.1 1) k.2.1 k.2.2.1 k.2.2.2) else none
    else if i = -1 ∨ i = 0 then some (0, 0, 0, 0, 3) else none
theorem op_Parse.calls (s : ByteArray) (r1 r2 r3 r4 r5 : Int) (w : World) (h : op_Parse.f s = some (r1, r2, r3, r4, r5)) :
    Calls Try.prog 12 #[.string s] w fun e w' => e = .returned (.tuple #[.agg #[.int .i64 r1, .int .u64 r2, .int .u64 r3, .int .i64 r4], .int .i64 r5]) ∧ Below w.heap.size w w' := by
  show Calls Try.prog 12 #[.string s] w fun e w' => e = .returned (opV (r1, r2, r3, r4, r5)) ∧ Below w.heap.size w w'
  generalize (r1, r2, r3, r4, r5) = r at *
  unfold op_Parse.f at h
  obtain ⟨⟨b0, l1, d1, g1⟩, h1, h⟩ := Option.bind_eq_some_iff.mp h
  obtain ⟨i, h2, h⟩ := Option.bind_eq_some_iff.mp h
  by_cases c5 : i = 5
  · rw [if_pos c5] at h
    subst c5
    obtain rfl := Option.some.inj h
    exact parse_len s w b0 l1 d1 g1 h1 h2
  · rw [if_neg c5] at h
    by_cases ck : i = 1 ∨ i = 2 ∨ i = 4
    · rw [if_pos ck] at h
      obtain ⟨⟨K, l2, d2, g2⟩, h3, h⟩ := Option.bind_eq_some_iff.mp h
      obtain rfl := Option.some.inj h
      obtain rfl | rfl | rfl := ck
      · exact parse_key1 s w b0 l1 d1 g1 h1 K l2 d2 g2 h3 h2
      · exact parse_key2 s w b0 l1 d1 g1 h1 K l2 d2 g2 h3 h2
      · exact parse_key4 s w b0 l1 d1 g1 h1 K l2 d2 g2 h3 h2
    · rw [if_neg ck] at h
      by_cases c3 : i = 3
      · rw [if_pos c3] at h
        subst c3
        obtain ⟨⟨b, l2, d2, g2⟩, h3, h⟩ := Option.bind_eq_some_iff.mp h
        by_cases hb : b.size = 2
        · rw [if_pos hb] at h
          obtain ⟨⟨V, l3, d3, g3⟩, h4, h⟩ := Option.bind_eq_some_iff.mp h
          obtain ⟨⟨K, l4, d4, g4⟩, h5, h⟩ := Option.bind_eq_some_iff.mp h
          obtain rfl := Option.some.inj h
          exact parse_put s w b0 l1 d1 g1 h1 b hb V K _ rfl l2 l3 l4 d2 g2 d3 g3 d4 g4 h3 h4 h5 h2
        · rw [if_neg hb] at h; exact absurd h (by simp)
      · rw [if_neg c3] at h
        by_cases c0 : i = -1 ∨ i = 0
        · rw [if_pos c0] at h
          obtain rfl := Option.some.inj h
          exact parse_none s w b0 l1 d1 g1 h1 i c0 h2
        · rw [if_neg c0] at h; exact absurd h (by simp)
end Go.Proofs.Ytinfbkfdkpjdiaa.Hand
