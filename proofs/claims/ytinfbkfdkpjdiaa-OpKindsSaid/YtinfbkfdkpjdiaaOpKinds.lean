/- The walk of the law OpKinds (it turns a text into bytes, writes one, and turns them back): it returns true. -/
import Derived.Test.YtinfbkfdkpjdiaaOpDecode
import Derived.Test.YtinfbkfdkpjdiaaPshownx1
import Derived.Laws.NewBlocks
import Derived.Laws.IdiomStrings
import Derived.BigRegion
import Derived.BigQuiet
import Derived.Deep.QuietTactic
import Derived.LoopTactic
namespace Go.Proofs.Ytinfbkfdkpjdiaa.Hand
open Go.RowKit Go.Proofs.Ytinfbkfdkpjdiaa.Pshown Go.Proofs.YtinfbkfdkpjdiaaW.PrintWords Go.Proofs.YtinfbkfdkpjdiaaW.PrintLast Go.Proofs.YtinfbkfdkpjdiaaW.PrintMore
set_option linter.unusedVariables false
attribute [local go_sem high] eqOp

theorem u8_ne (c d : UInt8) (h : c ≠ d) : ((c.toNat : Int) == (d.toNat : Int)) = false := by
  rw [beq_eq_false_iff_ne]
  intro e
  exact h (UInt8.toNat_inj.1 (by omega))
/-- '[]byte(s)' of a text that is not empty: a new block with its bytes -/
theorem conv_bytes (w : World) (c : UInt8) (l : List UInt8) (n : Nat) (hn : l.length + 1 = n) : ∃ w1 cap, (convert 9 41 (.string ⟨(c :: l).toArray⟩)).run Try.prog w = .ok (.slice (some ⟨w.heap.size, 0, none⟩) n cap) w1 ∧ Below w.heap.size w w1 ∧ w.heap.size < w1.heap.size ∧
    (∀ j (hj : j < (c :: l).length), w1.cell? ⟨w.heap.size, j, none⟩ = some (.int .u8 ((c :: l)[j].toNat : Int))) ∧ w1.frozen? ⟨w.heap.size, 0, none⟩ = false := by
  have h := run_bytes_of_string (P := Try.prog) w 9 41 5 ⟨(c :: l).toArray⟩ Try.underlying9 Try.underlying41 Try.underlying5
  have hz : (⟨(c :: l).toArray⟩ : ByteArray).size = n := by rw [mk_size, ← hn]; rfl
  rw [hz] at h
  refine ⟨_, _, h, ?_, ?_, ?_, ?_⟩
  · exact (below_drew1 (Below.refl _ _)).alloc (Nat.le_refl _) _
  · simp
  · intro j hj
    exact (cell_of_row _ w.heap.size j _ _ _ (heap_alloc_new w.drew _)).trans (bytesRow_at _ _ j hj)
  · have h0 := heap_alloc_new w.drew (.cells (bytesRow ⟨(c :: l).toArray⟩ (grownCap w n 0 5)) 5 ((bytesRow ⟨(c :: l).toArray⟩ (grownCap w n 0 5)).size, (bytesRow ⟨(c :: l).toArray⟩ (grownCap w n 0 5)).size + 1))
    have hs : 0 < (bytesRow ⟨(c :: l).toArray⟩ (grownCap w n 0 5)).size := by unfold bytesRow; simp; omega
    have h1 : (w.drew.alloc (.cells (bytesRow ⟨(c :: l).toArray⟩ (grownCap w n 0 5)) 5 ((bytesRow ⟨(c :: l).toArray⟩ (grownCap w n 0 5)).size, (bytesRow ⟨(c :: l).toArray⟩ (grownCap w n 0 5)).size + 1))).heap[w.heap.size]? = _ := h0
    unfold World.frozen?
    rw [h1]
    generalize (bytesRow ⟨(c :: l).toArray⟩ (grownCap w n 0 5)) = R at hs
    show (decide (R.size ≤ 0) && decide (0 < R.size + 1)) = false
    rw [decide_eq_false (by omega)]
    rfl
/-- the bytes of an operation of a kind that has a key alone, one by one -/
theorem kind_text (i : Int) (key : ByteArray) (hk : key.size ≤ 7) : ∃ s : ByteArray, s = ⟨(letK i :: cntL key.data.toList).toArray⟩ ∧ s.size = key.size + 2 ∧ (∀ h : 0 < s.size, ((s[0]'h).toNat : Int) = ((letK i).toNat : Int)) ∧ (∀ h : 1 < s.size, ((s[1]'h).toNat : Int) = (key.size : Int)) ∧ s.extract 2 s.size = key := by
  refine ⟨_, rfl, ?_, ?_, ?_, ?_⟩
  · rw [mk_size]; simp only [cntL, List.length_cons, size_list]
  · intro h; rfl
  · intro h
    show ((UInt8.ofNat key.data.toList.length).toNat : Int) = _
    rw [size_list, ofNat_toNat _ (by omega)]
  · rw [mk_extract, mk_size]
    refine ba_ext ?_
    show (key.data.toList.take _) = _
    rw [List.take_of_length_le]
    simp only [cntL, List.length_cons]; omega

set_option maxHeartbeats 4000000 in
set_option maxRecDepth 100000 in
theorem kinds_walk (key : ByteArray) (hk : key.size ≤ 7) (c : UInt8) (K : Int) (w : World)
    (HS : ∀ w, Calls Try.prog 9 #[] w fun e w' => e = .returned (.bool true) ∧ Below w.heap.size w w')
    (HW : ∀ w, Calls Try.prog 11 #[.string key] w fun e w' => e = .returned (.int .u64 K) ∧ Below w.heap.size w w')
    (HB : ∀ i : Int, i = 1 ∨ i = 2 ∨ i = 4 → ∀ w, Calls Try.prog 10 #[.agg #[.int .i64 i, .int .u64 K, .int .u64 0, .int .i64 0]] w fun e w' => e = .returned (.string ⟨(letK i :: cntL key.data.toList).toArray⟩) ∧ Below w.heap.size w w')
    (H5 : ∀ w, Calls Try.prog 10 #[.agg #[.int .i64 5, .int .u64 0, .int .u64 0, .int .i64 0]] w fun e w' => e = .returned (.string ⟨#[76]⟩) ∧ Below w.heap.size w w')
    (H0 : ∀ w, Calls Try.prog 10 #[.agg #[.int .i64 0, .int .u64 0, .int .u64 0, .int .i64 0]] w fun e w' => e = .returned (.string ByteArray.empty) ∧ Below w.heap.size w w')
    (o k v f e : Int) (HP : ∀ w, Calls Try.prog 12 #[.string ⟨(c :: cntL key.data.toList).toArray⟩] w fun x w' => x = .returned (.tuple #[.agg #[.int .i64 o, .int .u64 k, .int .u64 v, .int .i64 f], .int .i64 e]) ∧ Below w.heap.size w w')
    (hcase : (c = 71 ∧ o = 1 ∧ k = K ∧ v = 0 ∧ f = 0 ∧ e = 0) ∨ (c = 75 ∧ o = 2 ∧ k = K ∧ v = 0 ∧ f = 0 ∧ e = 0) ∨ (c = 68 ∧ o = 4 ∧ k = K ∧ v = 0 ∧ f = 0 ∧ e = 0) ∨ c = 80 ∨ (c ≠ 71 ∧ c ≠ 75 ∧ c ≠ 68 ∧ c ≠ 80 ∧ e = 3)) :
    Calls Try.prog 8 #[.string key, .int .u8 (c.toNat : Int)] w fun e w' => e = .returned (.bool true) ∧ Below w.heap.size w w' := by
  have HS' := Lib.hid HS
  have HW' := Lib.hid HW
  have HB' := Lib.hid HB
  have H5' := Lib.hid H5
  have H0' := Lib.hid H0
  have HP' := Lib.hid HP
  have HC' := Lib.hid hcase
  clear HS HW HB H5 H0 HP hcase
  have k7 : decide (7 < (key.size : Int)) = false := decide_eq_false (by omega)
  have k7n : decide (7 < key.size) = false := decide_eq_false (by omega)
  go_enter Try.func8, Try.ntmps8
  go_wp2_with (go_at_call 9; with_reducible refine (HS'.out _).mono ?_)
  rintro e w1 ⟨rfl, hb1⟩
  have B1 := Lib.hid hb1
  clear hb1
  go_wp2_with (go_at_call 11; with_reducible refine (HW'.out _).mono ?_)
  rintro e w2 ⟨rfl, hb2⟩
  have B2 := Lib.hid (B1.out.trans (hb2.mono B1.out.size))
  clear hb2 B1
  go_wp2
  go_loopw [7] (fun v7 wr => ∃ i : Int, v7 = .int .i64 i ∧ 1 ≤ i ∧ i ≤ 5 ∧ Aside0 (Below w.heap.size w wr)) (fun v7 _ => 5 - (intOf v7).toNat)
  case atStart => exact ⟨1, rfl, by omega, by omega, ⟨B2.out⟩⟩
  case round =>
    obtain ⟨i, rfl, h1, h5, hbr⟩ := hrel
    clear B2
    obtain rfl | rfl | rfl | rfl | rfl : i = 1 ∨ i = 2 ∨ i = 3 ∨ i = 4 ∨ i = 5 := by omega
    · clear h1 h5
      have hC := Lib.hid (HB'.out 1 (by decide) wr)
      obtain ⟨s, hs, z, x0, x1, xe⟩ := kind_text 1 key hk
      rw [← hs] at hC
      go_wp2_with (go_at_call 10; with_reducible refine hC.out.mono ?_)
      rintro e w3 ⟨rfl, hb3⟩
      have B3 := Lib.hid (hbr.out.trans (hb3.mono hbr.out.size))
      clear hb3 hbr hC
      have HSS := Lib.hid hs
      clear hs
      go_wp2
      have y0 : ∀ h : 0 < s.size, ((s[0]'h).toNat : Int) = 71 := x0
      have z1 : ((s.size : Int) != (key.size : Int) + 2) = false := by rw [z]; simp
      have z2 : ((s.size : Int) == (key.size : Int) + 2) = true := by rw [z]; simp
      have q0 : (0 < s.size) = True := eq_true (by omega)
      have qi0 : (0 < (s.size : Int)) = True := eq_true (by omega)
      have q1 : (1 < s.size) = True := eq_true (by omega)
      have qi1 : (1 < (s.size : Int)) = True := eq_true (by omega)
      have q2 : (2 ≤ s.size) = True := eq_true (by omega)
      have qi2 : (2 ≤ (s.size : Int)) = True := eq_true (by omega)
      have g1 : IntKind.i64.wrap ((key.size : Int) + 2) = (key.size : Int) + 2 := (i64_w _).trans (by unfold wrap64; omega)
      have g2 : IntKind.i64.wrap (key.size : Int) = (key.size : Int) := (i64_w _).trans (by unfold wrap64; omega)
      have g3 : wrap64 (key.size : Int) = (key.size : Int) := by unfold wrap64; omega
      have e1 : (key.toList != key.toList) = false := by simp
      have Z := Lib.hid z
      clear z x0
      go_quiet (fail)
      clear y0 z1 z2 q0 qi0 q1 qi1 q2 qi2 x1 xe g1 g2 g3 e1
      have B4 := Lib.hid (pw_below_drewN B3.out nq)
      clear B3
      generalize w3.drewN nq = w4 at *
      obtain ⟨w5, cap, hcv0, hbv, hlt, hcells, hfr⟩ := conv_bytes w4 71 (cntL key.data.toList) (key.size + 2) (by simp [cntL])
      have hcv : (convert 9 41 (.string s)).run Try.prog w4 = .ok (.slice (some ⟨w4.heap.size, 0, none⟩) (key.size + 2) cap) w5 := by rw [HSS.out]; exact hcv0
      clear hcv0
      have B5 := Lib.hid (B4.out.trans (hbv.mono B4.out.size))
      have HL := Lib.hid hlt
      have HCE := Lib.hid hcells
      have HG := Lib.hid B4.out.size
      have hc0 := hcells 0 (by simp)
      clear hbv hlt hcells B4
      go_upto_region 14 with fail
      have hcb := run_convert_bytes_back (P := Try.prog) (w5.setCell ⟨w4.heap.size, 0, none⟩ (.int .u8 (c.toNat : Int))) 41 9 5 ⟨w4.heap.size, 0, none⟩ cap (c :: cntL key.data.toList) Try.underlying41 Try.underlying5 Try.underlying9 (by
        intro j hj
        have e : (⟨w4.heap.size, 0, none⟩ : Addr).add j = ⟨w4.heap.size, j, none⟩ := by unfold Addr.add; split <;> simp_all
        rw [e]
        cases j with
        | zero => exact World.cell?_setCell_same _ _ _ hc0
        | succ j =>
          rw [World.cell?_setCell_other _ _ _ _ (by simp)]
          exact HCE.out (j + 1) hj)
      rw [show (c :: cntL key.data.toList).length = key.size + 2 from by simp [cntL]] at hcb
      have B6 := Lib.hid (B5.out.setCell (p := ⟨w4.heap.size, 0, none⟩) HG.out (.int .u8 (c.toNat : Int)))
      clear B5 hc0 hfr hcv HL HCE HG
      generalize w5.setCell ⟨w4.heap.size, 0, none⟩ (.int .u8 (c.toNat : Int)) = w6 at *
      generalize w4.heap.size = g at *
      have hD := Lib.hid (HP'.out w6)
      go_wp2_with (go_at_call 12; with_reducible refine hD.out.mono ?_)
      rintro x w7 ⟨rfl, hb7⟩
      have B7 := Lib.hid (B6.out.trans (hb7.mono B6.out.size))
      clear hb7 hD hcb B6
      have g2 : (IntKind.i64.wrap 2) = 2 := (i64_w _).trans (by unfold wrap64; rfl)
      go_upto_region 15 with fail
      have hn0 := heap_alloc_new w7 (.cells #[.int .i64 o, .int .u64 k, .int .u64 v, .int .i64 f] 27)
      have B8 := Lib.hid (B7.out.alloc B7.out.size (.cells #[.int .i64 o, .int .u64 k, .int .u64 v, .int .i64 f] 27))
      have p0 := (blk_cell hn0 0).trans rfl
      have p1 := (blk_cell hn0 1).trans rfl
      have p2 := (blk_cell hn0 2).trans rfl
      have p3 := (blk_cell hn0 3).trans rfl
      clear hn0 B7
      generalize w7.alloc (.cells #[.int .i64 o, .int .u64 k, .int .u64 v, .int .i64 f] 27) = w8 at *
      generalize w7.heap.size = g8 at *
      rcases HC'.out with ⟨rfl, rfl, rfl, rfl, rfl, rfl⟩ | ⟨rfl, rfl, rfl, rfl, rfl, rfl⟩ | ⟨rfl, rfl, rfl, rfl, rfl, rfl⟩ | rfl | ⟨n1, n2, n3, n4, rfl⟩
      · go_wp2
        exact ⟨⟨2, rfl, by omega, by omega, ⟨B8.out⟩⟩, by decide⟩
      · go_wp2
        exact ⟨⟨2, rfl, by omega, by omega, ⟨B8.out⟩⟩, by decide⟩
      · go_wp2
        exact ⟨⟨2, rfl, by omega, by omega, ⟨B8.out⟩⟩, by decide⟩
      · go_wp2
        exact ⟨⟨2, rfl, by omega, by omega, ⟨B8.out⟩⟩, by decide⟩
      · have m1 : ((c.toNat : Int) == 71) = false := u8_ne c 71 n1
        have m2 : ((c.toNat : Int) == 75) = false := u8_ne c 75 n2
        have m3 : ((c.toNat : Int) == 68) = false := u8_ne c 68 n3
        have m4 : ((c.toNat : Int) != 80) = true := by have := u8_ne c 80 n4; unfold bne; rw [show (80 : Int) = (((80 : UInt8)).toNat : Int) from rfl]; rw [this]; rfl
        go_wp2
        exact ⟨⟨2, rfl, by omega, by omega, ⟨B8.out⟩⟩, by decide⟩
    · clear h1 h5
      have hC := Lib.hid (HB'.out 2 (by decide) wr)
      obtain ⟨s, hs, z, x0, x1, xe⟩ := kind_text 2 key hk
      rw [← hs] at hC
      go_wp2_with (go_at_call 10; with_reducible refine hC.out.mono ?_)
      rintro e w3 ⟨rfl, hb3⟩
      have B3 := Lib.hid (hbr.out.trans (hb3.mono hbr.out.size))
      clear hb3 hbr hC
      have HSS := Lib.hid hs
      clear hs
      go_wp2
      have y0 : ∀ h : 0 < s.size, ((s[0]'h).toNat : Int) = 75 := x0
      have z1 : ((s.size : Int) != (key.size : Int) + 2) = false := by rw [z]; simp
      have z2 : ((s.size : Int) == (key.size : Int) + 2) = true := by rw [z]; simp
      have q0 : (0 < s.size) = True := eq_true (by omega)
      have qi0 : (0 < (s.size : Int)) = True := eq_true (by omega)
      have q1 : (1 < s.size) = True := eq_true (by omega)
      have qi1 : (1 < (s.size : Int)) = True := eq_true (by omega)
      have q2 : (2 ≤ s.size) = True := eq_true (by omega)
      have qi2 : (2 ≤ (s.size : Int)) = True := eq_true (by omega)
      have g1 : IntKind.i64.wrap ((key.size : Int) + 2) = (key.size : Int) + 2 := (i64_w _).trans (by unfold wrap64; omega)
      have g2 : IntKind.i64.wrap (key.size : Int) = (key.size : Int) := (i64_w _).trans (by unfold wrap64; omega)
      have g3 : wrap64 (key.size : Int) = (key.size : Int) := by unfold wrap64; omega
      have e1 : (key.toList != key.toList) = false := by simp
      have Z := Lib.hid z
      clear z x0
      go_quiet (fail)
      clear y0 z1 z2 q0 qi0 q1 qi1 q2 qi2 x1 xe g1 g2 g3 e1
      have B4 := Lib.hid (pw_below_drewN B3.out nq)
      clear B3
      generalize w3.drewN nq = w4 at *
      obtain ⟨w5, cap, hcv0, hbv, hlt, hcells, hfr⟩ := conv_bytes w4 75 (cntL key.data.toList) (key.size + 2) (by simp [cntL])
      have hcv : (convert 9 41 (.string s)).run Try.prog w4 = .ok (.slice (some ⟨w4.heap.size, 0, none⟩) (key.size + 2) cap) w5 := by rw [HSS.out]; exact hcv0
      clear hcv0
      have B5 := Lib.hid (B4.out.trans (hbv.mono B4.out.size))
      have HL := Lib.hid hlt
      have HCE := Lib.hid hcells
      have HG := Lib.hid B4.out.size
      have hc0 := hcells 0 (by simp)
      clear hbv hlt hcells B4
      go_upto_region 14 with fail
      have hcb := run_convert_bytes_back (P := Try.prog) (w5.setCell ⟨w4.heap.size, 0, none⟩ (.int .u8 (c.toNat : Int))) 41 9 5 ⟨w4.heap.size, 0, none⟩ cap (c :: cntL key.data.toList) Try.underlying41 Try.underlying5 Try.underlying9 (by
        intro j hj
        have e : (⟨w4.heap.size, 0, none⟩ : Addr).add j = ⟨w4.heap.size, j, none⟩ := by unfold Addr.add; split <;> simp_all
        rw [e]
        cases j with
        | zero => exact World.cell?_setCell_same _ _ _ hc0
        | succ j =>
          rw [World.cell?_setCell_other _ _ _ _ (by simp)]
          exact HCE.out (j + 1) hj)
      rw [show (c :: cntL key.data.toList).length = key.size + 2 from by simp [cntL]] at hcb
      have B6 := Lib.hid (B5.out.setCell (p := ⟨w4.heap.size, 0, none⟩) HG.out (.int .u8 (c.toNat : Int)))
      clear B5 hc0 hfr hcv HL HCE HG
      generalize w5.setCell ⟨w4.heap.size, 0, none⟩ (.int .u8 (c.toNat : Int)) = w6 at *
      generalize w4.heap.size = g at *
      have hD := Lib.hid (HP'.out w6)
      go_wp2_with (go_at_call 12; with_reducible refine hD.out.mono ?_)
      rintro x w7 ⟨rfl, hb7⟩
      have B7 := Lib.hid (B6.out.trans (hb7.mono B6.out.size))
      clear hb7 hD hcb B6
      have g2 : (IntKind.i64.wrap 2) = 2 := (i64_w _).trans (by unfold wrap64; rfl)
      go_upto_region 15 with fail
      have hn0 := heap_alloc_new w7 (.cells #[.int .i64 o, .int .u64 k, .int .u64 v, .int .i64 f] 27)
      have B8 := Lib.hid (B7.out.alloc B7.out.size (.cells #[.int .i64 o, .int .u64 k, .int .u64 v, .int .i64 f] 27))
      have p0 := (blk_cell hn0 0).trans rfl
      have p1 := (blk_cell hn0 1).trans rfl
      have p2 := (blk_cell hn0 2).trans rfl
      have p3 := (blk_cell hn0 3).trans rfl
      clear hn0 B7
      generalize w7.alloc (.cells #[.int .i64 o, .int .u64 k, .int .u64 v, .int .i64 f] 27) = w8 at *
      generalize w7.heap.size = g8 at *
      rcases HC'.out with ⟨rfl, rfl, rfl, rfl, rfl, rfl⟩ | ⟨rfl, rfl, rfl, rfl, rfl, rfl⟩ | ⟨rfl, rfl, rfl, rfl, rfl, rfl⟩ | rfl | ⟨n1, n2, n3, n4, rfl⟩
      · go_wp2
        exact ⟨⟨3, rfl, by omega, by omega, ⟨B8.out⟩⟩, by decide⟩
      · go_wp2
        exact ⟨⟨3, rfl, by omega, by omega, ⟨B8.out⟩⟩, by decide⟩
      · go_wp2
        exact ⟨⟨3, rfl, by omega, by omega, ⟨B8.out⟩⟩, by decide⟩
      · go_wp2
        exact ⟨⟨3, rfl, by omega, by omega, ⟨B8.out⟩⟩, by decide⟩
      · have m1 : ((c.toNat : Int) == 71) = false := u8_ne c 71 n1
        have m2 : ((c.toNat : Int) == 75) = false := u8_ne c 75 n2
        have m3 : ((c.toNat : Int) == 68) = false := u8_ne c 68 n3
        have m4 : ((c.toNat : Int) != 80) = true := by have := u8_ne c 80 n4; unfold bne; rw [show (80 : Int) = (((80 : UInt8)).toNat : Int) from rfl]; rw [this]; rfl
        go_wp2
        exact ⟨⟨3, rfl, by omega, by omega, ⟨B8.out⟩⟩, by decide⟩
    · go_wp2
      exact ⟨⟨4, rfl, by omega, by omega, hbr⟩, by decide⟩
    · clear h1 h5
      have hC := Lib.hid (HB'.out 4 (by decide) wr)
      obtain ⟨s, hs, z, x0, x1, xe⟩ := kind_text 4 key hk
      rw [← hs] at hC
      go_wp2_with (go_at_call 10; with_reducible refine hC.out.mono ?_)
      rintro e w3 ⟨rfl, hb3⟩
      have B3 := Lib.hid (hbr.out.trans (hb3.mono hbr.out.size))
      clear hb3 hbr hC
      have HSS := Lib.hid hs
      clear hs
      go_wp2
      have y0 : ∀ h : 0 < s.size, ((s[0]'h).toNat : Int) = 68 := x0
      have z1 : ((s.size : Int) != (key.size : Int) + 2) = false := by rw [z]; simp
      have z2 : ((s.size : Int) == (key.size : Int) + 2) = true := by rw [z]; simp
      have q0 : (0 < s.size) = True := eq_true (by omega)
      have qi0 : (0 < (s.size : Int)) = True := eq_true (by omega)
      have q1 : (1 < s.size) = True := eq_true (by omega)
      have qi1 : (1 < (s.size : Int)) = True := eq_true (by omega)
      have q2 : (2 ≤ s.size) = True := eq_true (by omega)
      have qi2 : (2 ≤ (s.size : Int)) = True := eq_true (by omega)
      have g1 : IntKind.i64.wrap ((key.size : Int) + 2) = (key.size : Int) + 2 := (i64_w _).trans (by unfold wrap64; omega)
      have g2 : IntKind.i64.wrap (key.size : Int) = (key.size : Int) := (i64_w _).trans (by unfold wrap64; omega)
      have g3 : wrap64 (key.size : Int) = (key.size : Int) := by unfold wrap64; omega
      have e1 : (key.toList != key.toList) = false := by simp
      have Z := Lib.hid z
      clear z x0
      go_quiet (fail)
      clear y0 z1 z2 q0 qi0 q1 qi1 q2 qi2 x1 xe g1 g2 g3 e1
      have B4 := Lib.hid (pw_below_drewN B3.out nq)
      clear B3
      generalize w3.drewN nq = w4 at *
      obtain ⟨w5, cap, hcv0, hbv, hlt, hcells, hfr⟩ := conv_bytes w4 68 (cntL key.data.toList) (key.size + 2) (by simp [cntL])
      have hcv : (convert 9 41 (.string s)).run Try.prog w4 = .ok (.slice (some ⟨w4.heap.size, 0, none⟩) (key.size + 2) cap) w5 := by rw [HSS.out]; exact hcv0
      clear hcv0
      have B5 := Lib.hid (B4.out.trans (hbv.mono B4.out.size))
      have HL := Lib.hid hlt
      have HCE := Lib.hid hcells
      have HG := Lib.hid B4.out.size
      have hc0 := hcells 0 (by simp)
      clear hbv hlt hcells B4
      go_upto_region 14 with fail
      have hcb := run_convert_bytes_back (P := Try.prog) (w5.setCell ⟨w4.heap.size, 0, none⟩ (.int .u8 (c.toNat : Int))) 41 9 5 ⟨w4.heap.size, 0, none⟩ cap (c :: cntL key.data.toList) Try.underlying41 Try.underlying5 Try.underlying9 (by
        intro j hj
        have e : (⟨w4.heap.size, 0, none⟩ : Addr).add j = ⟨w4.heap.size, j, none⟩ := by unfold Addr.add; split <;> simp_all
        rw [e]
        cases j with
        | zero => exact World.cell?_setCell_same _ _ _ hc0
        | succ j =>
          rw [World.cell?_setCell_other _ _ _ _ (by simp)]
          exact HCE.out (j + 1) hj)
      rw [show (c :: cntL key.data.toList).length = key.size + 2 from by simp [cntL]] at hcb
      have B6 := Lib.hid (B5.out.setCell (p := ⟨w4.heap.size, 0, none⟩) HG.out (.int .u8 (c.toNat : Int)))
      clear B5 hc0 hfr hcv HL HCE HG
      generalize w5.setCell ⟨w4.heap.size, 0, none⟩ (.int .u8 (c.toNat : Int)) = w6 at *
      generalize w4.heap.size = g at *
      have hD := Lib.hid (HP'.out w6)
      go_wp2_with (go_at_call 12; with_reducible refine hD.out.mono ?_)
      rintro x w7 ⟨rfl, hb7⟩
      have B7 := Lib.hid (B6.out.trans (hb7.mono B6.out.size))
      clear hb7 hD hcb B6
      have g2 : (IntKind.i64.wrap 2) = 2 := (i64_w _).trans (by unfold wrap64; rfl)
      go_upto_region 15 with fail
      have hn0 := heap_alloc_new w7 (.cells #[.int .i64 o, .int .u64 k, .int .u64 v, .int .i64 f] 27)
      have B8 := Lib.hid (B7.out.alloc B7.out.size (.cells #[.int .i64 o, .int .u64 k, .int .u64 v, .int .i64 f] 27))
      have p0 := (blk_cell hn0 0).trans rfl
      have p1 := (blk_cell hn0 1).trans rfl
      have p2 := (blk_cell hn0 2).trans rfl
      have p3 := (blk_cell hn0 3).trans rfl
      clear hn0 B7
      generalize w7.alloc (.cells #[.int .i64 o, .int .u64 k, .int .u64 v, .int .i64 f] 27) = w8 at *
      generalize w7.heap.size = g8 at *
      rcases HC'.out with ⟨rfl, rfl, rfl, rfl, rfl, rfl⟩ | ⟨rfl, rfl, rfl, rfl, rfl, rfl⟩ | ⟨rfl, rfl, rfl, rfl, rfl, rfl⟩ | rfl | ⟨n1, n2, n3, n4, rfl⟩
      · go_wp2
        exact ⟨⟨5, rfl, by omega, by omega, ⟨B8.out⟩⟩, by decide⟩
      · go_wp2
        exact ⟨⟨5, rfl, by omega, by omega, ⟨B8.out⟩⟩, by decide⟩
      · go_wp2
        exact ⟨⟨5, rfl, by omega, by omega, ⟨B8.out⟩⟩, by decide⟩
      · go_wp2
        exact ⟨⟨5, rfl, by omega, by omega, ⟨B8.out⟩⟩, by decide⟩
      · have m1 : ((c.toNat : Int) == 71) = false := u8_ne c 71 n1
        have m2 : ((c.toNat : Int) == 75) = false := u8_ne c 75 n2
        have m3 : ((c.toNat : Int) == 68) = false := u8_ne c 68 n3
        have m4 : ((c.toNat : Int) != 80) = true := by have := u8_ne c 80 n4; unfold bne; rw [show (80 : Int) = (((80 : UInt8)).toNat : Int) from rfl]; rw [this]; rfl
        go_wp2
        exact ⟨⟨5, rfl, by omega, by omega, ⟨B8.out⟩⟩, by decide⟩
    · have C5 := Lib.hid (H5'.out wr)
      go_wp2_with (go_at_call 10; with_reducible refine C5.out.mono ?_)
      rintro e w3 ⟨rfl, hb3⟩
      have B3 := Lib.hid (hbr.out.trans (hb3.mono hbr.out.size))
      clear hb3
      have C0 := Lib.hid (H0'.out w3)
      go_wp2_with (go_at_call 10; with_reducible refine C0.out.mono ?_)
      rintro e w4 ⟨rfl, hb4⟩
      have B4 := Lib.hid (B3.out.trans (hb4.mono B3.out.size))
      clear hb4
      go_wp2
      go_ret
      exact ⟨rfl, B4.out⟩

set_option maxHeartbeats 4000000 in
set_option maxRecDepth 100000 in
theorem kinds_long (key : ByteArray) (hk : ¬ key.size ≤ 7) (c : Int) (w : World)
    (HS : ∀ w, Calls Try.prog 9 #[] w fun e w' => e = .returned (.bool true) ∧ Below w.heap.size w w') :
    Calls Try.prog 8 #[.string key, .int .u8 c] w fun e w' => e = .returned (.bool true) ∧ Below w.heap.size w w' := by
  have HS' := Lib.hid HS
  clear HS
  have k7 : decide (7 < (key.size : Int)) = true := decide_eq_true (by omega)
  have k7n : decide (7 < key.size) = true := decide_eq_true (by omega)
  have k8 : (7 < (key.size : Int)) = True := eq_true (by omega)
  have k8n : (7 < key.size) = True := eq_true (by omega)
  go_enter Try.func8, Try.ntmps8
  go_wp2_with (go_at_call 9; with_reducible refine (HS'.out _).mono ?_)
  rintro e w1 ⟨rfl, hb1⟩
  have B1 := Lib.hid hb1
  clear hb1
  go_wp2
  go_ret
  exact ⟨rfl, B1.out⟩

theorem word_of {s : ByteArray} {W e : Int} (h : pack_Word.f s = some (W, e)) : shellgamelaw17_word.f s = some W := by
  unfold shellgamelaw17_word.f
  rw [h]
  rfl
theorem shown_true : shellgamelaw17_shown.f = some true := by
  obtain ⟨W1, W2, w1, w2, h⟩ := shown_bytes
  unfold shellgamelaw17_shown.f
  rw [word_of w1, Option.bind_some, word_of w2, Option.bind_some, h, Option.bind_some]
  rw [mk_toList]
  rfl
/-- the law is true of every key, and every byte -/
def shellgamelaw17_OpKinds.f (a0 : ByteArray) (a1 : Int) : Option Bool := if 0 ≤ a1 then (if a1 ≤ 255 then some true else none) else none
theorem key_parse (c : UInt8) (key : ByteArray) (K : Int) (hk : key.size ≤ 7) (wK : pack_Word.f key = some (K, 0)) : ∃ o k v f e, op_Parse.f ⟨(c :: cntL key.data.toList).toArray⟩ = some (o, k, v, f, e) ∧
    ((c = 71 ∧ o = 1 ∧ k = K ∧ v = 0 ∧ f = 0 ∧ e = 0) ∨ (c = 75 ∧ o = 2 ∧ k = K ∧ v = 0 ∧ f = 0 ∧ e = 0) ∨ (c = 68 ∧ o = 4 ∧ k = K ∧ v = 0 ∧ f = 0 ∧ e = 0) ∨ c = 80 ∨ (c ≠ 71 ∧ c ≠ 75 ∧ c ≠ 68 ∧ c ≠ 80 ∧ e = 3)) := by
  obtain ⟨p, hp, ho⟩ := parse_decode ⟨(c :: cntL key.data.toList).toArray⟩
  rw [mk_data] at ho
  have lk : key.data.toList.length ≤ 7 := by rw [size_list]; exact hk
  have one : ∀ o : Int, (o = 1 ∨ o = 2 ∨ o = 4) → c = letK o → p = (o, K, 0, 0, 0) := by
    intro o h e
    rw [e, dec_key o h _ (by omega), if_pos lk] at ho
    obtain ⟨_, _, K', V', e1, e2, rfl⟩ := ho
    rw [mk_back] at e1
    rw [word_one e1 wK, word_zero_text e2]
  by_cases c1 : c = 71
  · exact ⟨_, _, _, _, _, hp.trans (congrArg some (one 1 (.inl rfl) c1)), .inl ⟨c1, rfl, rfl, rfl, rfl, rfl⟩⟩
  by_cases c2 : c = 75
  · exact ⟨_, _, _, _, _, hp.trans (congrArg some (one 2 (.inr (.inl rfl)) c2)), .inr (.inl ⟨c2, rfl, rfl, rfl, rfl, rfl⟩)⟩
  by_cases c4 : c = 68
  · exact ⟨_, _, _, _, _, hp.trans (congrArg some (one 4 (.inr (.inr rfl)) c4)), .inr (.inr (.inl ⟨c4, rfl, rfl, rfl, rfl, rfl⟩))⟩
  by_cases c3 : c = 80
  · obtain ⟨o, k, v, f, e⟩ := p
    exact ⟨o, k, v, f, e, hp, .inr (.inr (.inr (.inl c3)))⟩
  · have hd : decode (c :: cntL key.data.toList) = .form := by
      rw [decode_cons, if_neg c1, if_neg c2, if_neg c4, if_neg c3]
      by_cases c5 : c = 76
      · rw [if_pos c5, if_neg (cntL_ne _)]
      · rw [if_neg c5]
    rw [hd] at ho
    obtain rfl : p = (0, 0, 0, 0, 3) := ho
    exact ⟨_, _, _, _, _, hp, .inr (.inr (.inr (.inr ⟨c1, c2, c4, c3, rfl⟩)))⟩
theorem shellgamelaw17_OpKinds.calls (a0 : ByteArray) (a1 : Int) (r : Bool) (w : World) (h : shellgamelaw17_OpKinds.f a0 a1 = some r) :
    Calls Try.prog 8 #[.string a0, .int .u8 a1] w fun e w' => e = .returned (.bool r) ∧ Below w.heap.size w w' := by
  unfold shellgamelaw17_OpKinds.f at h
  by_cases h0 : 0 ≤ a1
  · by_cases h1 : a1 ≤ 255
    · rw [if_pos h0, if_pos h1] at h
      obtain rfl := Option.some.inj h
      have HS := fun w => shellgamelaw17_shown.calls true w ⟨rfl⟩ shown_true
      by_cases hk : a0.size ≤ 7
      · obtain ⟨K, w0, l0, m0, z0, x0, r0, q0⟩ := word_some a0 hk
        obtain ⟨Z, w9, _, _, _, x9, r9, _⟩ := word_some ByteArray.empty (by decide)
        have hZ : Z = 0 := word_one w9 word_empty
        subst hZ
        obtain ⟨n, hn, rfl⟩ : ∃ n : Nat, n < 256 ∧ a1 = (n : Int) := ⟨a1.toNat, by omega, by omega⟩
        obtain ⟨c, hc⟩ : ∃ c : UInt8, (c.toNat : Int) = n := ⟨UInt8.ofNat n, by rw [ofNat_toNat _ hn]⟩
        rw [← hc]
        obtain ⟨o, k, v, f, e, hP, hcase⟩ := key_parse c a0 K hk w0
        refine kinds_walk a0 hk c K w HS (fun w => shellgamelaw17_word.calls a0 K w (word_of w0)) ?_ ?_ ?_ o k v f e (fun w => op_Parse.calls _ o k v f e w hP) hcase
        · intro i hi w
          refine op_Bytes.calls i K 0 0 _ w ?_
          rw [bytes_right i 0 K 0 a0 ByteArray.empty x0 r0 x9 r9]
          have hr : rightOp i K 0 0 true true = true := by
            unfold rightOp
            obtain rfl | rfl | rfl := hi <;> rfl
          rw [if_pos hr, bytesOp_key i 0 hi]
        · intro w
          refine op_Bytes.calls 5 0 0 0 _ w ?_
          rw [bytes_right 5 0 0 0 ByteArray.empty ByteArray.empty x9 r9 x9 r9]
          rfl
        · intro w
          refine op_Bytes.calls 0 0 0 0 _ w ?_
          rw [bytes_right 0 0 0 0 ByteArray.empty ByteArray.empty x9 r9 x9 r9]
          rfl
      · exact kinds_long a0 hk a1 w HS
    · rw [if_pos h0, if_neg h1] at h; exact absurd h (by simp)
  · rw [if_neg h0] at h; exact absurd h (by simp)
end Go.Proofs.Ytinfbkfdkpjdiaa.Hand
