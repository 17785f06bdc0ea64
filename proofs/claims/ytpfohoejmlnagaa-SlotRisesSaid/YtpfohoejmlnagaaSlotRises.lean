/- The walk of the law SlotRises (three policies, a loop over the times, a slot in memory): it returns true. -/
import Derived.Test.YtpfohoejmlnagaaPCalSlotRisesx1
import Derived.Laws.NewBlocks
import Derived.BigRegion
namespace Go.Proofs.Ytpfohoejmlnagaa.Hand
open Go.RowKit Go.Proofs.Ytpfohoejmlnagaa.PCalSlotRises Go.Proofs.YtpfohoejmlnagaaW.PrintWords Go.Proofs.YtpfohoejmlnagaaW.PrintLast Go.Proofs.YtpfohoejmlnagaaW.PrintMore
set_option linter.unusedVariables false

/-- what a slot's rank is at a time, of each policy -/
def rankOf (p now uses : Int) : Int := if p = 0 then now else if p = 1 then 0 else uses * 4294967296 + now
/-- is the time over? -/
def overAt (U t : Int) : Bool := decide (U > 0) && decide (U ≤ t)
theorem exp_eq (a b U c d e t : Int) : slot_Expired.f true a b U c d e t = some (overAt U t) := by
  unfold slot_Expired.f overAt
  by_cases h : U > 0
  · rw [if_pos rfl, if_pos h, decide_eq_true h]; rfl
  · rw [if_pos rfl, if_neg h, decide_eq_false h]; rfl
theorem use_eq (p now uses : Int) (u : Bool) (a b c next t : Int) (hp0 : 0 ≤ p) (hp : p < 3) (hu0 : 0 ≤ uses) (hu : uses ≤ 1000) (ht0 : 0 ≤ t) (ht : t ≤ 1000000000) :
    slot_Use.f p u a b c (rankOf p now uses) uses next t = some (rankOf p t (uses + 1), uses + 1) := by
  unfold slot_Use.f rankOf
  have e1 : IntKind.u64.wrap (uses + 1) = uses + 1 := by rw [IntKind.wrap_u64]; omega
  have e2 : IntKind.u64.wrap (IntKind.u64.wrap ((uses + 1) * 4294967296) + t) = (uses + 1) * 4294967296 + t := by simp only [IntKind.wrap_u64]; omega
  rw [e1, e2]
  by_cases h0 : p = 0
  · rw [if_pos h0, if_pos h0]
  · rw [if_neg h0, if_neg h0]
    by_cases h1 : p = 1
    · rw [if_pos h1, if_pos h1, if_neg h0, if_pos h1]
    · rw [if_neg h1, if_neg h1, if_pos (by omega), if_neg h0, if_neg h1]
theorem enter_eq (p : Int) (h0 : 0 ≤ p) (h3 : p < 3) : slot_Enter.f p 0 = some (rankOf p 0 1, 1) := by
  unfold slot_Enter.f rankOf
  obtain rfl | rfl | rfl : p = 0 ∨ p = 1 ∨ p = 2 := by omega
  · rfl
  · rfl
  · rfl
theorem rank_rises (p now uses t : Int) (h : now < t) (hp0 : 0 ≤ p) (h1 : p ≠ 1) : rankOf p now uses < rankOf p t (uses + 1) := by
  unfold rankOf
  by_cases h0 : p = 0
  · rw [if_pos h0, if_pos h0]; exact h
  · rw [if_neg h0, if_neg h0, if_neg h1, if_neg h1]; omega
theorem rank_stays (now uses t : Int) : rankOf 1 t (uses + 1) = rankOf 1 now uses := by
  unfold rankOf
  rw [if_neg (by decide), if_pos rfl, if_neg (by decide), if_pos rfl]
theorem shown_true : ∀ k, shellgamelaw15_shown.f (k + 4) = some true := by
  intro k
  induction k with
  | zero => decide +kernel
  | succ k ih => exact shellgamelaw15_shown.mono (k + 4) _ ih

set_option maxHeartbeats 8000000 in
set_option maxRecDepth 100000 in
theorem rises_walk (A0 : Option Addr) (c0 : Nat) (l0 : List Int) (U : Int) (w : World) (hr0 : Kd.C (Kd.int .u64) w A0 l0.length l0) (hc0 : l0.length ≤ c0) (hl : ∀ x ∈ l0, 0 ≤ x ∧ x ≤ 18446744073709551615) (hU : 0 ≤ U) :
    Calls Try.prog 3 #[.slice A0 l0.length c0, .int .u64 U] w fun e w' => e = .returned (.bool true) ∧ Below w.heap.size w w' := by
  have HR := Aside0.mk hr0
  have HC := Aside0.mk hc0
  have HL := Aside0.mk hl
  have HU := Aside0.mk hU
  clear hr0 hc0 hl hU
  have C1 := Aside0.mk (fun w => shellgamelaw15_shown.calls 4 true w (shown_true 0))
  go_enter Try.func3, Try.ntmps3
  go_wp2_with (go_at_call 4; with_reducible refine (C1.out _).mono ?_)
  rintro e w1 ⟨rfl, hb1⟩
  have B1 := Aside0.mk hb1
  clear hb1 C1
  by_cases hn : (l0.length : Int) > 100
  · have n1 : decide (100 < (l0.length : Int)) = true := decide_eq_true hn
    have n2 : decide (100 < l0.length) = true := decide_eq_true (by omega)
    clear hn
    go_wp2
    go_ret
    exact ⟨rfl, B1.out⟩
  have HN := Aside0.mk hn
  have n1 : decide (100 < (l0.length : Int)) = false := decide_eq_false hn
  have n2 : decide (100 < l0.length) = false := decide_eq_false (by omega)
  clear hn
  go_wp2
  clear n1 n2
  go_loopg [6] 3 (fun kq v6 wr => ∃ p : Int, v6 = .int .i64 p ∧ Aside0 (0 ≤ p ∧ (kq : Int) = 3 - p) ∧ Aside0 (Below w.heap.size w wr))
  case atStart => exact ⟨0, rfl, ⟨by omega, by omega⟩, B1⟩
  case round =>
    clear B1
    obtain ⟨p, rfl, HP, HB⟩ := hrel
    cases gk with
    | zero =>
      have p1 : decide (p < 3) = false := decide_eq_false (by have := HP.out; omega)
      go_wp2
      go_ret
      exact ⟨rfl, HB.out⟩
    | succ k2 =>
      have hp := HP.out
      have hp3 : p < 3 := by omega
      have p1 : decide (p < 3) = true := decide_eq_true hp3
      obtain ⟨R0, hR0⟩ : ∃ R0, R0 = rankOf p 0 1 := ⟨_, rfl⟩
      obtain ⟨L0, hL0⟩ : ∃ L0, L0 = overAt U 0 := ⟨_, rfl⟩
      have hE := enter_eq p hp.1 hp3
      rw [← hR0] at hE
      have hX := exp_eq 0 0 U R0 1 0 0
      rw [← hL0] at hX
      have HR0 := Aside0.mk hR0
      have HL0 := Aside0.mk hL0
      have CE := Aside0.mk (fun w => slot_Enter.calls p 0 R0 1 w hE)
      have CX := Aside0.mk (fun w => slot_Expired.calls true 0 0 U R0 1 0 0 L0 w hX)
      have HP3 := Aside0.mk hp3
      clear hp hp3 hR0 hL0 hE hX
      go_upto_region 9 with fail
      have HS2 := Aside0.mk (heap_alloc_new wr (.cells #[.bool true, .int .u64 0, .int .u64 0, .int .u64 U, .int .u64 0, .int .u64 0, .int .i64 0] 26))
      have HB2 := Aside0.mk (HB.out.alloc HB.out.size (.cells #[.bool true, .int .u64 0, .int .u64 0, .int .u64 U, .int .u64 0, .int .u64 0, .int .i64 0] 26))
      have HO : Aside0 (w.heap.size ≤ wr.heap.size) := ⟨HB.out.size⟩
      clear HB p1
      generalize wr.alloc (.cells #[.bool true, .int .u64 0, .int .u64 0, .int .u64 U, .int .u64 0, .int .u64 0, .int .i64 0] 26) = w2 at *
      generalize wr.heap.size = O at *
      go_wp2_with (go_at_call 5; with_reducible refine (CE.out _).mono ?_)
      rintro e w' ⟨rfl, ⟨nd, rfl⟩⟩
      have HS3 := Aside0.mk (blk_drewN HS2.out nd)
      have HB3 := Aside0.mk (pw_below_drewN HB2.out nd)
      clear HS2 HB2 CE
      generalize w2.drewN nd = w3 at *
      have st := blk_frozen HS3.out 4
      have sc := blk_cell HS3.out 4
      go_upto_region 11 with fail
      have HS4 := Aside0.mk (blk_put HS3.out 4 (.int .u64 R0) rfl)
      have HB4 := Aside0.mk (HB3.out.setCell (p := ⟨O, 4, none⟩) HO.out (.int .u64 R0))
      clear st sc HS3 HB3
      generalize w3.setCell ⟨O, 4, none⟩ (.int .u64 R0) = w4 at *
      have st := blk_frozen HS4.out 5
      have sc := blk_cell HS4.out 5
      go_upto_region 12 with fail
      have HS5 := Aside0.mk (blk_put HS4.out 5 (.int .u64 1) rfl)
      have HB5 := Aside0.mk (HB4.out.setCell (p := ⟨O, 5, none⟩) HO.out (.int .u64 1))
      clear st sc HS4 HB4
      generalize w4.setCell ⟨O, 5, none⟩ (.int .u64 1) = w5 at *
      have q0 : w5.cell? ⟨O, 0, none⟩ = some (.bool true) := (blk_cell HS5.out 0).trans rfl
      have q1 : w5.cell? ⟨O, 1, none⟩ = some (.int .u64 0) := (blk_cell HS5.out 1).trans rfl
      have q2 : w5.cell? ⟨O, 2, none⟩ = some (.int .u64 0) := (blk_cell HS5.out 2).trans rfl
      have q3 : w5.cell? ⟨O, 3, none⟩ = some (.int .u64 U) := (blk_cell HS5.out 3).trans rfl
      have q4 : w5.cell? ⟨O, 4, none⟩ = some (.int .u64 R0) := (blk_cell HS5.out 4).trans rfl
      have q5 : w5.cell? ⟨O, 5, none⟩ = some (.int .u64 1) := (blk_cell HS5.out 5).trans rfl
      have q6 : w5.cell? ⟨O, 6, none⟩ = some (.int .i64 0) := (blk_cell HS5.out 6).trans rfl
      go_wp2_with (go_at_call 6; with_reducible refine (CX.out _).mono ?_)
      rintro e w6 ⟨rfl, hb⟩
      clear q0 q1 q2 q3 q4 q5 q6
      have HS6 := Aside0.mk (blk_below HS5.out hb)
      have HB6 := Aside0.mk (HB5.out.trans (hb.mono HB5.out.size))
      clear hb HS5 HB5 CX
      go_wp2
      go_loopg [7, 11, 12] l0.length (fun kq v7 v11 v12 w' => ∃ (now : Int) (L : Bool) (i R u : Int), v7 = .int .u64 now ∧ v11 = .bool L ∧ v12 = .int .i64 i ∧ Aside0 (0 ≤ i ∧ (kq : Int) = l0.length - i ∧ 0 ≤ now ∧ now ≤ i * 1000000 ∧ L = overAt U now ∧ R = rankOf p now u ∧ u = i + 1) ∧ Aside0 (w'.heap[O]? = some (.cells #[.bool true, .int .u64 0, .int .u64 0, .int .u64 U, .int .u64 R, .int .u64 u, .int .i64 0] 26 (0, 0))) ∧ Aside0 (Below w.heap.size w w'))
      case atStart => exact ⟨0, L0, 0, R0, 1, rfl, rfl, rfl, ⟨by omega, by omega, by omega, by omega, HL0.out, HR0.out, rfl⟩, HS6, HB6⟩
      case round =>
        clear HS6 HB6 HR0 HL0
        obtain ⟨now, L, i, R, u, rfl, rfl, rfl, HI, HS1, HB1⟩ := hrel
        cases gk with
        | zero =>
          have p1 : decide (i < (l0.length : Int)) = false := decide_eq_false (by have := HI.out; omega)
          go_wp2
          go_roundg k2
          case measure => have := HP.out; omega
          case rel => exact ⟨_, rfl, ⟨by have := HP.out; unfold wrap64; omega, by have := HP.out; unfold wrap64; omega⟩, HB1⟩
        | succ k3 =>
          have hi := HI.out
          have hN := HN.out
          have i0 : 0 ≤ i := hi.1
          have i1 : i < (l0.length : Int) := by omega
          obtain ⟨ad, ea, hx⟩ := Kd.at_int HR.out i i0 i1
          cases ea
          replace hx := (HB1.out.cell (World.block_lt_of_cell? w _ hx)).trans hx
          have hm : 0 ≤ rd l0 i ∧ rd l0 i ≤ 18446744073709551615 := by
            refine HL.out _ ?_
            unfold rd
            rw [List.getD_eq_getElem?_getD, List.getElem?_eq_getElem (by omega)]
            exact List.getElem_mem _
          have hr : 0 ≤ (rd l0 i).tmod 1000000 ∧ (rd l0 i).tmod 1000000 < 1000000 := by rw [Int.tmod_eq_emod_of_nonneg hm.1]; omega
          obtain ⟨t, ht, t1, t2⟩ : ∃ t, IntKind.u64.wrap (IntKind.u64.wrap (now + 1) + (rd l0 i).tmod 1000000) = t ∧ now < t ∧ t ≤ now + 1000000 := by
            refine ⟨now + 1 + (rd l0 i).tmod 1000000, ?_, by omega, by omega⟩
            simp only [IntKind.wrap_u64]; omega
          have hp := HP.out
          have hp3 := HP3.out
          obtain ⟨u2, hu2⟩ : ∃ u2, u2 = u + 1 := ⟨_, rfl⟩
          obtain ⟨R2, hR2⟩ : ∃ R2, R2 = rankOf p t u2 := ⟨_, rfl⟩
          obtain ⟨L2, hL2⟩ : ∃ L2, L2 = overAt U t := ⟨_, rfl⟩
          have hUse := use_eq p now u true 0 0 U 0 t hp.1 hp3 (by omega) (by omega) (by omega) (by omega)
          rw [← hi.2.2.2.2.2.1, ← hu2, ← hR2] at hUse
          have hX := exp_eq 0 0 U R u 0 t
          rw [← hL2] at hX
          have CU := Aside0.mk (fun w => slot_Use.calls p true 0 0 U R u 0 t R2 u2 w hUse)
          have CX := Aside0.mk (fun w => slot_Expired.calls true 0 0 U R u 0 t L2 w hX)
          have e72 : (u2 != IntKind.u64.wrap (u + 1)) = false := by rw [IntKind.wrap_u64]; exact bne_eq_false_iff_eq.mpr (by omega)
          have HRk : Aside0 (p = 1 ∧ R2 = R ∨ p ≠ 1 ∧ R < R2) := by
            refine ⟨?_⟩
            by_cases z : p = 1
            · refine Or.inl ⟨z, ?_⟩; rw [hR2, hi.2.2.2.2.2.1, z, hu2]; exact rank_stays now u t
            · refine Or.inr ⟨z, ?_⟩; rw [hR2, hi.2.2.2.2.2.1, hu2]; exact rank_rises p now u t t1 hp.1 z
          have HD : Aside0 ((L = false ∧ L2 = false ∧ decide (0 < U) = false) ∨ (L2 = true ∧ decide (0 < U) = true ∧ decide (U ≤ t) = true) ∨ (L = false ∧ L2 = false ∧ decide (0 < U) = true ∧ decide (U ≤ t) = false)) := by
            refine ⟨?_⟩
            rw [hi.2.2.2.2.1, hL2]
            unfold overAt
            by_cases z : 0 < U
            · by_cases y : U ≤ t
              · exact Or.inr (Or.inl ⟨by simp [z, y], by simp [z], by simp [y]⟩)
              · exact Or.inr (Or.inr ⟨by simp [z]; omega, by simp [y], by simp [z], by simp [y]⟩)
            · exact Or.inl ⟨by simp [z], by simp [z], by simp [z]⟩
          have p1 : decide (i < (l0.length : Int)) = true := decide_eq_true i1
          have HI2 : Aside0 (0 ≤ i + 1 ∧ (k3 : Int) = l0.length - (i + 1) ∧ 0 ≤ t ∧ t ≤ (i + 1) * 1000000 ∧ L2 = overAt U t ∧ R2 = rankOf p t u2 ∧ u2 = (i + 1) + 1) := ⟨by omega, by omega, by omega, by omega, hL2, hR2, by omega⟩
          have HW : Aside0 (wrap64 (i + 1) = i + 1) := ⟨by unfold wrap64; omega⟩
          clear hi hN hm hr t1 t2 hp hp3 hu2 hR2 hL2 hUse hX HI
          replace i0 := eq_true i0
          replace i1 := eq_true i1
          have q0 : wr.cell? ⟨O, 0, none⟩ = some (.bool true) := (blk_cell HS1.out 0).trans rfl
          have q1 : wr.cell? ⟨O, 1, none⟩ = some (.int .u64 0) := (blk_cell HS1.out 1).trans rfl
          have q2 : wr.cell? ⟨O, 2, none⟩ = some (.int .u64 0) := (blk_cell HS1.out 2).trans rfl
          have q3 : wr.cell? ⟨O, 3, none⟩ = some (.int .u64 U) := (blk_cell HS1.out 3).trans rfl
          have q4 : wr.cell? ⟨O, 4, none⟩ = some (.int .u64 R) := (blk_cell HS1.out 4).trans rfl
          have q5 : wr.cell? ⟨O, 5, none⟩ = some (.int .u64 u) := (blk_cell HS1.out 5).trans rfl
          have q6 : wr.cell? ⟨O, 6, none⟩ = some (.int .i64 0) := (blk_cell HS1.out 6).trans rfl
          go_upto_region 17 with fail
          clear hx ht p1 i0 i1
          go_wp2_with (go_at_call 7; with_reducible refine (CU.out _).mono ?_)
          rintro e w2 ⟨rfl, hb⟩
          clear q0 q1 q2 q3 q4 q5 q6
          have HS2 := Aside0.mk (blk_below HS1.out hb)
          have HB2 := Aside0.mk (HB1.out.trans (hb.mono HB1.out.size))
          clear hb HS1 HB1 CU
          have q0 : w2.cell? ⟨O, 0, none⟩ = some (.bool true) := (blk_cell HS2.out 0).trans rfl
          have q1 : w2.cell? ⟨O, 1, none⟩ = some (.int .u64 0) := (blk_cell HS2.out 1).trans rfl
          have q2 : w2.cell? ⟨O, 2, none⟩ = some (.int .u64 0) := (blk_cell HS2.out 2).trans rfl
          have q3 : w2.cell? ⟨O, 3, none⟩ = some (.int .u64 U) := (blk_cell HS2.out 3).trans rfl
          have q4 : w2.cell? ⟨O, 4, none⟩ = some (.int .u64 R) := (blk_cell HS2.out 4).trans rfl
          have q5 : w2.cell? ⟨O, 5, none⟩ = some (.int .u64 u) := (blk_cell HS2.out 5).trans rfl
          have q6 : w2.cell? ⟨O, 6, none⟩ = some (.int .i64 0) := (blk_cell HS2.out 6).trans rfl
          go_wp2_with (go_at_call 6; with_reducible refine (CX.out _).mono ?_)
          rintro e w3 ⟨rfl, hb⟩
          clear q0 q1 q2 q3 q4 q5 q6
          have HS3 := Aside0.mk (blk_below HS2.out hb)
          have HB3 := Aside0.mk (HB2.out.trans (hb.mono HB2.out.size))
          clear hb HS2 HB2 CX
          have q0 : w3.cell? ⟨O, 0, none⟩ = some (.bool true) := (blk_cell HS3.out 0).trans rfl
          have q1 : w3.cell? ⟨O, 1, none⟩ = some (.int .u64 0) := (blk_cell HS3.out 1).trans rfl
          have q2 : w3.cell? ⟨O, 2, none⟩ = some (.int .u64 0) := (blk_cell HS3.out 2).trans rfl
          have q3 : w3.cell? ⟨O, 3, none⟩ = some (.int .u64 U) := (blk_cell HS3.out 3).trans rfl
          have q4 : w3.cell? ⟨O, 4, none⟩ = some (.int .u64 R) := (blk_cell HS3.out 4).trans rfl
          have q5 : w3.cell? ⟨O, 5, none⟩ = some (.int .u64 u) := (blk_cell HS3.out 5).trans rfl
          have q6 : w3.cell? ⟨O, 6, none⟩ = some (.int .i64 0) := (blk_cell HS3.out 6).trans rfl
          go_upto_region 19 with fail
          rcases HRk.out with ⟨z, y⟩ | ⟨z, y⟩
          · have c0 : (p == 1) = true := beq_iff_eq.mpr z
            have c1 : (p != 1) = false := bne_eq_false_iff_eq.mpr z
            have e80 : (R2 != R) = false := bne_eq_false_iff_eq.mpr y
            clear z y
            rcases HD.out with ⟨rfl, rfl, d0⟩ | ⟨rfl, d0, d1⟩ | ⟨rfl, rfl, d0, d1⟩
            · have d1 := Aside0.mk d0
              clear HD HRk
              go_upto_region 21 with fail
              clear c0 c1 d0 d1 e72 e80 q0 q1 q2 q3 q4 q5 q6
              have st := blk_frozen HS3.out 4
              have sc := blk_cell HS3.out 4
              go_upto_region 22 with fail
              have HS4 := Aside0.mk (blk_put HS3.out 4 (.int .u64 R2) rfl)
              have HB4 := Aside0.mk (HB3.out.setCell (p := ⟨O, 4, none⟩) HO.out (.int .u64 R2))
              clear st sc HS3 HB3
              generalize w3.setCell ⟨O, 4, none⟩ (.int .u64 R2) = w4 at *
              have st := blk_frozen HS4.out 5
              have sc := blk_cell HS4.out 5
              go_upto_region 23 with fail
              have HS5 := Aside0.mk (blk_put HS4.out 5 (.int .u64 u2) rfl)
              have HB5 := Aside0.mk (HB4.out.setCell (p := ⟨O, 5, none⟩) HO.out (.int .u64 u2))
              clear st sc HS4 HB4
              generalize w4.setCell ⟨O, 5, none⟩ (.int .u64 u2) = w5 at *
              go_wp2
              go_roundg k3
              case measure => omega
              case rel => exact ⟨t, _, wrap64 (i + 1), R2, u2, rfl, rfl, rfl, by rw [HW.out]; exact HI2, HS5, HB5⟩
            · cases L
              · clear HD HRk
                go_upto_region 21 with fail
                clear c0 c1 d0 d1 e72 e80 q0 q1 q2 q3 q4 q5 q6
                have st := blk_frozen HS3.out 4
                have sc := blk_cell HS3.out 4
                go_upto_region 22 with fail
                have HS4 := Aside0.mk (blk_put HS3.out 4 (.int .u64 R2) rfl)
                have HB4 := Aside0.mk (HB3.out.setCell (p := ⟨O, 4, none⟩) HO.out (.int .u64 R2))
                clear st sc HS3 HB3
                generalize w3.setCell ⟨O, 4, none⟩ (.int .u64 R2) = w4 at *
                have st := blk_frozen HS4.out 5
                have sc := blk_cell HS4.out 5
                go_upto_region 23 with fail
                have HS5 := Aside0.mk (blk_put HS4.out 5 (.int .u64 u2) rfl)
                have HB5 := Aside0.mk (HB4.out.setCell (p := ⟨O, 5, none⟩) HO.out (.int .u64 u2))
                clear st sc HS4 HB4
                generalize w4.setCell ⟨O, 5, none⟩ (.int .u64 u2) = w5 at *
                go_wp2
                go_roundg k3
                case measure => omega
                case rel => exact ⟨t, _, wrap64 (i + 1), R2, u2, rfl, rfl, rfl, by rw [HW.out]; exact HI2, HS5, HB5⟩
              · clear HD HRk
                go_upto_region 21 with fail
                clear c0 c1 d0 d1 e72 e80 q0 q1 q2 q3 q4 q5 q6
                have st := blk_frozen HS3.out 4
                have sc := blk_cell HS3.out 4
                go_upto_region 22 with fail
                have HS4 := Aside0.mk (blk_put HS3.out 4 (.int .u64 R2) rfl)
                have HB4 := Aside0.mk (HB3.out.setCell (p := ⟨O, 4, none⟩) HO.out (.int .u64 R2))
                clear st sc HS3 HB3
                generalize w3.setCell ⟨O, 4, none⟩ (.int .u64 R2) = w4 at *
                have st := blk_frozen HS4.out 5
                have sc := blk_cell HS4.out 5
                go_upto_region 23 with fail
                have HS5 := Aside0.mk (blk_put HS4.out 5 (.int .u64 u2) rfl)
                have HB5 := Aside0.mk (HB4.out.setCell (p := ⟨O, 5, none⟩) HO.out (.int .u64 u2))
                clear st sc HS4 HB4
                generalize w4.setCell ⟨O, 5, none⟩ (.int .u64 u2) = w5 at *
                go_wp2
                go_roundg k3
                case measure => omega
                case rel => exact ⟨t, _, wrap64 (i + 1), R2, u2, rfl, rfl, rfl, by rw [HW.out]; exact HI2, HS5, HB5⟩
            · clear HD HRk
              go_upto_region 21 with fail
              clear c0 c1 d0 d1 e72 e80 q0 q1 q2 q3 q4 q5 q6
              have st := blk_frozen HS3.out 4
              have sc := blk_cell HS3.out 4
              go_upto_region 22 with fail
              have HS4 := Aside0.mk (blk_put HS3.out 4 (.int .u64 R2) rfl)
              have HB4 := Aside0.mk (HB3.out.setCell (p := ⟨O, 4, none⟩) HO.out (.int .u64 R2))
              clear st sc HS3 HB3
              generalize w3.setCell ⟨O, 4, none⟩ (.int .u64 R2) = w4 at *
              have st := blk_frozen HS4.out 5
              have sc := blk_cell HS4.out 5
              go_upto_region 23 with fail
              have HS5 := Aside0.mk (blk_put HS4.out 5 (.int .u64 u2) rfl)
              have HB5 := Aside0.mk (HB4.out.setCell (p := ⟨O, 5, none⟩) HO.out (.int .u64 u2))
              clear st sc HS4 HB4
              generalize w4.setCell ⟨O, 5, none⟩ (.int .u64 u2) = w5 at *
              go_wp2
              go_roundg k3
              case measure => omega
              case rel => exact ⟨t, _, wrap64 (i + 1), R2, u2, rfl, rfl, rfl, by rw [HW.out]; exact HI2, HS5, HB5⟩
          · have c0 : (p == 1) = false := beq_eq_false_iff_ne.mpr z
            have c1 : (p != 1) = true := bne_iff_ne.mpr z
            have e80 : decide (R2 ≤ R) = false := decide_eq_false (by omega)
            clear z y
            rcases HD.out with ⟨rfl, rfl, d0⟩ | ⟨rfl, d0, d1⟩ | ⟨rfl, rfl, d0, d1⟩
            · have d1 := Aside0.mk d0
              clear HD HRk
              go_upto_region 21 with fail
              clear c0 c1 d0 d1 e72 e80 q0 q1 q2 q3 q4 q5 q6
              have st := blk_frozen HS3.out 4
              have sc := blk_cell HS3.out 4
              go_upto_region 22 with fail
              have HS4 := Aside0.mk (blk_put HS3.out 4 (.int .u64 R2) rfl)
              have HB4 := Aside0.mk (HB3.out.setCell (p := ⟨O, 4, none⟩) HO.out (.int .u64 R2))
              clear st sc HS3 HB3
              generalize w3.setCell ⟨O, 4, none⟩ (.int .u64 R2) = w4 at *
              have st := blk_frozen HS4.out 5
              have sc := blk_cell HS4.out 5
              go_upto_region 23 with fail
              have HS5 := Aside0.mk (blk_put HS4.out 5 (.int .u64 u2) rfl)
              have HB5 := Aside0.mk (HB4.out.setCell (p := ⟨O, 5, none⟩) HO.out (.int .u64 u2))
              clear st sc HS4 HB4
              generalize w4.setCell ⟨O, 5, none⟩ (.int .u64 u2) = w5 at *
              go_wp2
              go_roundg k3
              case measure => omega
              case rel => exact ⟨t, _, wrap64 (i + 1), R2, u2, rfl, rfl, rfl, by rw [HW.out]; exact HI2, HS5, HB5⟩
            · cases L
              · clear HD HRk
                go_upto_region 21 with fail
                clear c0 c1 d0 d1 e72 e80 q0 q1 q2 q3 q4 q5 q6
                have st := blk_frozen HS3.out 4
                have sc := blk_cell HS3.out 4
                go_upto_region 22 with fail
                have HS4 := Aside0.mk (blk_put HS3.out 4 (.int .u64 R2) rfl)
                have HB4 := Aside0.mk (HB3.out.setCell (p := ⟨O, 4, none⟩) HO.out (.int .u64 R2))
                clear st sc HS3 HB3
                generalize w3.setCell ⟨O, 4, none⟩ (.int .u64 R2) = w4 at *
                have st := blk_frozen HS4.out 5
                have sc := blk_cell HS4.out 5
                go_upto_region 23 with fail
                have HS5 := Aside0.mk (blk_put HS4.out 5 (.int .u64 u2) rfl)
                have HB5 := Aside0.mk (HB4.out.setCell (p := ⟨O, 5, none⟩) HO.out (.int .u64 u2))
                clear st sc HS4 HB4
                generalize w4.setCell ⟨O, 5, none⟩ (.int .u64 u2) = w5 at *
                go_wp2
                go_roundg k3
                case measure => omega
                case rel => exact ⟨t, _, wrap64 (i + 1), R2, u2, rfl, rfl, rfl, by rw [HW.out]; exact HI2, HS5, HB5⟩
              · clear HD HRk
                go_upto_region 21 with fail
                clear c0 c1 d0 d1 e72 e80 q0 q1 q2 q3 q4 q5 q6
                have st := blk_frozen HS3.out 4
                have sc := blk_cell HS3.out 4
                go_upto_region 22 with fail
                have HS4 := Aside0.mk (blk_put HS3.out 4 (.int .u64 R2) rfl)
                have HB4 := Aside0.mk (HB3.out.setCell (p := ⟨O, 4, none⟩) HO.out (.int .u64 R2))
                clear st sc HS3 HB3
                generalize w3.setCell ⟨O, 4, none⟩ (.int .u64 R2) = w4 at *
                have st := blk_frozen HS4.out 5
                have sc := blk_cell HS4.out 5
                go_upto_region 23 with fail
                have HS5 := Aside0.mk (blk_put HS4.out 5 (.int .u64 u2) rfl)
                have HB5 := Aside0.mk (HB4.out.setCell (p := ⟨O, 5, none⟩) HO.out (.int .u64 u2))
                clear st sc HS4 HB4
                generalize w4.setCell ⟨O, 5, none⟩ (.int .u64 u2) = w5 at *
                go_wp2
                go_roundg k3
                case measure => omega
                case rel => exact ⟨t, _, wrap64 (i + 1), R2, u2, rfl, rfl, rfl, by rw [HW.out]; exact HI2, HS5, HB5⟩
            · clear HD HRk
              go_upto_region 21 with fail
              clear c0 c1 d0 d1 e72 e80 q0 q1 q2 q3 q4 q5 q6
              have st := blk_frozen HS3.out 4
              have sc := blk_cell HS3.out 4
              go_upto_region 22 with fail
              have HS4 := Aside0.mk (blk_put HS3.out 4 (.int .u64 R2) rfl)
              have HB4 := Aside0.mk (HB3.out.setCell (p := ⟨O, 4, none⟩) HO.out (.int .u64 R2))
              clear st sc HS3 HB3
              generalize w3.setCell ⟨O, 4, none⟩ (.int .u64 R2) = w4 at *
              have st := blk_frozen HS4.out 5
              have sc := blk_cell HS4.out 5
              go_upto_region 23 with fail
              have HS5 := Aside0.mk (blk_put HS4.out 5 (.int .u64 u2) rfl)
              have HB5 := Aside0.mk (HB4.out.setCell (p := ⟨O, 5, none⟩) HO.out (.int .u64 u2))
              clear st sc HS4 HB4
              generalize w4.setCell ⟨O, 5, none⟩ (.int .u64 u2) = w5 at *
              go_wp2
              go_roundg k3
              case measure => omega
              case rel => exact ⟨t, _, wrap64 (i + 1), R2, u2, rfl, rfl, rfl, by rw [HW.out]; exact HI2, HS5, HB5⟩

/-- what the law computes: true, if the arguments are of their kinds -/
def shellgamelaw15_SlotRises.f (l0 : List Int) (a1 : Int) : Option Bool := if (∀ x ∈ l0, (Lit.int .u64 x).wf = true) ∧ (Lit.int .u64 a1).wf = true then some true else none
theorem shellgamelaw15_SlotRises.calls (A0 : Option Addr) (c0 : Nat) (l0 : List Int) (a1 : Int) (r : Bool) (w : World) (hr0 : Kd.C (Kd.int .u64) w A0 l0.length l0) (hc0 : l0.length ≤ c0) (h : shellgamelaw15_SlotRises.f l0 a1 = some r) :
    Calls Try.prog 3 #[.slice A0 l0.length c0, .int .u64 a1] w fun e w' => e = .returned (.bool r) ∧ Below w.heap.size w w' := by
  unfold shellgamelaw15_SlotRises.f at h
  by_cases c : (∀ x ∈ l0, (Lit.int .u64 x).wf = true) ∧ (Lit.int .u64 a1).wf = true
  · rw [if_pos c] at h
    obtain rfl := Option.some.inj h
    exact rises_walk A0 c0 l0 a1 w hr0 hc0 (fun x hx => bounds_u64 (c.1 x hx)) (bounds_u64 c.2).1
  · rw [if_neg c] at h
    exact absurd h (by simp)
end Go.Proofs.Ytpfohoejmlnagaa.Hand
