-- Written by wip/printplus.py over contracts of this repo; not trusted: Lean checks it.
import Derived.Test.YtjkifbadbadoaaaPPackRightx0
namespace Go.Proofs.Ytjkifbadbadoaaa.PPackRight
open Go.Proofs.Ytjkifbadbadoaaa.Hand Go.RowKit Go.Proofs.YtjkifbadbadoaaaW.PrintWords Go.Proofs.YtjkifbadbadoaaaW.PrintLast Go.Proofs.YtjkifbadbadoaaaW.PrintMore
attribute [local go_sem] max2_int min2_int max_two min_two max_three min_three max_four min_four   -- for this text's walks alone
set_option linter.unusedVariables false
set_option linter.unusedSimpArgs false

-- given: function 18 (pack_Word)

/-! ### shellgamelaw4_shown: function 17 -/
def shellgamelaw4_shown.f  : Option (Bool) := (pack_Word.f (⟨#[97, 98]⟩ : ByteArray)).bind fun bt101 => (if bt101.1 = 144115188075881057 then (some (bt101.2 == 0)) else (some false))
set_option maxHeartbeats 8000000 in
set_option maxRecDepth 100000 in
theorem shellgamelaw4_shown.calls  (r : Bool) (w : World) (h : shellgamelaw4_shown.f  = some r) :
    Calls Try.prog 17 #[] w fun e w' => e = .returned (.bool r) ∧ Below w.heap.size w w' := by
  have HB := Aside0.mk (Below.refl w.heap.size w)
  have H : ((pack_Word.f (⟨#[97, 98]⟩ : ByteArray)).bind fun bt101 => (if bt101.1 = 144115188075881057 then (some (bt101.2 == 0)) else (some false))) = some r := h
  clear h
  replace H := Option.bind_eq_some_iff.mp H
  obtain ⟨⟨t101, t102⟩, A10, H⟩ := H
  replace H : (if t101 = 144115188075881057 then (some (t102 == 0)) else (some false)) = some r := H
  have A1 := Aside0.mk A10
  clear A10
  by_cases c2 : t101 = 144115188075881057
  · rw [if_pos c2] at H
    have c2b0 : (t101 == 144115188075881057) = true := beq_iff_eq.mpr c2
    have c2b1 : (t101 != 144115188075881057) = false := bne_eq_false_iff_eq.mpr c2
    clear c2
    obtain rfl := Option.some.inj H
    go_enter Try.func17, Try.ntmps17
    go_wp2_with (first | ((with_reducible refine gate_callee (f := 18) rfl ?_); refine goesL_ (some 4) rfl rfl Try.func18 (by kernel_rfl) rfl #[.string (⟨#[97, 98]⟩ : ByteArray)] rfl (by (try simp only [List.map_toArray, List.map_cons, List.map_nil]); first | done | rfl | (simp only [List.length_drop, List.length_take]; rfl)) ?_; (with_reducible refine (pack_Word.calls (⟨#[97, 98]⟩ : ByteArray) t101 t102 _ A1.out).mono ?_); rintro e w3 ⟨rfl, hb⟩; refine ⟨_, rfl, ?_⟩; have n0_ := Aside0.mk (below_step (by repeat (first | (with_reducible first | exact HB.out | apply below_alloc | apply pw_below_drewN | apply below_drew1) | exact HB.out)) hb); clear HB; have HB := n0_; clear n0_; (try clear hb); (try clear hb2); (try clear hk); (try clear hi)))
    go_ret
    exact ⟨by first | rfl | (simp [errW_none, errW_some] <;> rfl) | (simp [*, errW_none, errW_some] <;> rfl), by repeat (first | (with_reducible first | exact HB.out | apply below_alloc | apply pw_below_drewN | apply below_drew1) | exact HB.out)⟩
  · rw [if_neg c2] at H
    have c2b0 : (t101 == 144115188075881057) = false := beq_eq_false_iff_ne.mpr c2
    have c2b1 : (t101 != 144115188075881057) = true := bne_iff_ne.mpr c2
    obtain rfl := Option.some.inj H
    go_enter Try.func17, Try.ntmps17
    go_wp2_with (first | ((with_reducible refine gate_callee (f := 18) rfl ?_); refine goesL_ (some 4) rfl rfl Try.func18 (by kernel_rfl) rfl #[.string (⟨#[97, 98]⟩ : ByteArray)] rfl (by (try simp only [List.map_toArray, List.map_cons, List.map_nil]); first | done | rfl | (simp only [List.length_drop, List.length_take]; rfl)) ?_; (with_reducible refine (pack_Word.calls (⟨#[97, 98]⟩ : ByteArray) t101 t102 _ A1.out).mono ?_); rintro e w4 ⟨rfl, hb⟩; refine ⟨_, rfl, ?_⟩; have n0_ := Aside0.mk (below_step (by repeat (first | (with_reducible first | exact HB.out | apply below_alloc | apply pw_below_drewN | apply below_drew1) | exact HB.out)) hb); clear HB; have HB := n0_; clear n0_; (try clear hb); (try clear hb2); (try clear hk); (try clear hi)))
    go_ret
    exact ⟨by first | rfl | (simp [errW_none, errW_some] <;> rfl) | (simp [*, errW_none, errW_some] <;> rfl), by repeat (first | (with_reducible first | exact HB.out | apply below_alloc | apply pw_below_drewN | apply below_drew1) | exact HB.out)⟩

-- given: function 34 (pack_Right)

/-! ### shellgamelaw4_PackRight: function 13 -/
mutual
def shellgamelaw4_PackRight.j0 : Nat → Int → ByteArray → ByteArray → Bool → Bool → Option (Bool)
  | 0, _, _, _, _, _ => none
  | k + 1, x0, x1, x2, x7, x9 => (pack_Word.f x1).bind fun bt104 => ((pack_Word.f x2).bind fun bt106 => (if x7 = true then ((pack_Right.f x0).bind fun t108 => (if (t108 != x9) = true then (shellgamelaw4_PackRight.j1 k x1 x2 bt104.1 bt104.2 bt106.1 bt106.2 true) else (if bt104.2 = 0 then (shellgamelaw4_PackRight.j1 k x1 x2 bt104.1 bt104.2 bt106.1 bt106.2 ((bt104.1 / 72057594037927936) != (IntKind.u64.wrap ((x1.size : Int))))) else (shellgamelaw4_PackRight.j1 k x1 x2 bt104.1 bt104.2 bt106.1 bt106.2 false)))) else (shellgamelaw4_PackRight.j1 k x1 x2 bt104.1 bt104.2 bt106.1 bt106.2 true)))
def shellgamelaw4_PackRight.j1 : Nat → ByteArray → ByteArray → Int → Int → Int → Int → Bool → Option (Bool)
  | 0, _, _, _, _, _, _, _ => none
  | k + 1, x1, x2, x10, x11, x12, x13, x62 => if x62 = true then (some false) else (if x11 = 0 then (if x13 = 0 then (shellgamelaw4_PackRight.j2 k x1 x2 x10 x11 x12 ((x1.size : Int) != (x2.size : Int))) else (shellgamelaw4_PackRight.j2 k x1 x2 x10 x11 x12 true)) else (shellgamelaw4_PackRight.j2 k x1 x2 x10 x11 x12 true))
def shellgamelaw4_PackRight.j2 : Nat → ByteArray → ByteArray → Int → Int → Int → Bool → Option (Bool)
  | 0, _, _, _, _, _, _ => none
  | k + 1, x1, x2, x10, x11, x12, x75 => if x75 = true then (if x11 = 0 then (some true) else (some (x10 == 0))) else (shellgamelaw4_PackRight.l0 k x1 x2 x10 x12 (wrap64 ((x1.size : Int) - 1)))
def shellgamelaw4_PackRight.l0 : Nat → ByteArray → ByteArray → Int → Int → Int → Option (Bool)
  | 0, _, _, _, _, _ => none
  | k + 1, x1, x2, x10, x12, x14 => if x14 ≥ 0 then (if 0 ≤ x14 then (if x14 < (x1.size : Int) then (if x14 < (x2.size : Int) then (if (bt x1 x14) = (bt x2 x14) then (shellgamelaw4_PackRight.l0 k x1 x2 x10 x12 (wrap64 (x14 - 1))) else (some ((decide (x10 < x12)) == (decide ((bt x1 x14) < (bt x2 x14)))))) else (none)) else (none)) else (none)) else (some (x10 == x12))
end
def shellgamelaw4_PackRight.f (k : Nat) (a0 : Int) (a1 : ByteArray) (a2 : ByteArray) : Option (Bool) := (shellgamelaw4_shown.f).bind fun t103 => (if (a0 / 72057594037927936) ≤ 7 then (if (a0 / 72057594037927936) = 7 then (shellgamelaw4_PackRight.j0 k a0 a1 a2 t103 true) else (if 0 ≤ (IntKind.u64.wrap (8 * (a0 / 72057594037927936))) then (shellgamelaw4_PackRight.j0 k a0 a1 a2 t103 ((shr .u64 ((IntKind.u64.wrap (a0 * 256)) / 256) (IntKind.u64.wrap (8 * (a0 / 72057594037927936)))) == 0)) else (none))) else (shellgamelaw4_PackRight.j0 k a0 a1 a2 t103 false))
theorem shellgamelaw4_PackRight.mono_l : ∀ k, (∀ y0 y1 y2 y3 y4, LeO (shellgamelaw4_PackRight.j0 k y0 y1 y2 y3 y4) (shellgamelaw4_PackRight.j0 (k + 1) y0 y1 y2 y3 y4)) ∧ (∀ y0 y1 y2 y3 y4 y5 y6, LeO (shellgamelaw4_PackRight.j1 k y0 y1 y2 y3 y4 y5 y6) (shellgamelaw4_PackRight.j1 (k + 1) y0 y1 y2 y3 y4 y5 y6)) ∧ (∀ y0 y1 y2 y3 y4 y5, LeO (shellgamelaw4_PackRight.j2 k y0 y1 y2 y3 y4 y5) (shellgamelaw4_PackRight.j2 (k + 1) y0 y1 y2 y3 y4 y5)) ∧ (∀ y0 y1 y2 y3 y4, LeO (shellgamelaw4_PackRight.l0 k y0 y1 y2 y3 y4) (shellgamelaw4_PackRight.l0 (k + 1) y0 y1 y2 y3 y4))
  | 0 => ⟨fun _ _ _ _ _ r h => by simp [shellgamelaw4_PackRight.j0] at h, fun _ _ _ _ _ _ _ r h => by simp [shellgamelaw4_PackRight.j1] at h, fun _ _ _ _ _ _ r h => by simp [shellgamelaw4_PackRight.j2] at h, fun _ _ _ _ _ r h => by simp [shellgamelaw4_PackRight.l0] at h⟩
  | k + 1 => by
    obtain ⟨ih0, ih1, ih2, ih3⟩ := shellgamelaw4_PackRight.mono_l k
    refine ⟨?_, ?_, ?_, ?_⟩
    · intro y0 y1 y2 y3 y4
      unfold shellgamelaw4_PackRight.j0
      repeat' first
      | (with_reducible exact ih0 _ _ _ _ _)
      | (with_reducible exact ih1 _ _ _ _ _ _ _)
      | (with_reducible exact ih2 _ _ _ _ _ _)
      | (with_reducible exact ih3 _ _ _ _ _)
      | (with_reducible exact LeO.refl _)
      | (with_reducible exact LeO.none _)
      | (with_reducible refine LeO.ite ?_ ?_)
      | (with_reducible refine LeO.bind ?_ (fun _ => ?_))
      | exact ih0 _ _ _ _ _
      | exact ih1 _ _ _ _ _ _ _
      | exact ih2 _ _ _ _ _ _
      | exact ih3 _ _ _ _ _
      | exact LeO.none _
      | refine LeO.ite ?_ ?_
      | refine LeO.bind ?_ (fun _ => ?_)
    · intro y0 y1 y2 y3 y4 y5 y6
      unfold shellgamelaw4_PackRight.j1
      repeat' first
      | (with_reducible exact ih0 _ _ _ _ _)
      | (with_reducible exact ih1 _ _ _ _ _ _ _)
      | (with_reducible exact ih2 _ _ _ _ _ _)
      | (with_reducible exact ih3 _ _ _ _ _)
      | (with_reducible exact LeO.refl _)
      | (with_reducible exact LeO.none _)
      | (with_reducible refine LeO.ite ?_ ?_)
      | (with_reducible refine LeO.bind ?_ (fun _ => ?_))
      | exact ih0 _ _ _ _ _
      | exact ih1 _ _ _ _ _ _ _
      | exact ih2 _ _ _ _ _ _
      | exact ih3 _ _ _ _ _
      | exact LeO.none _
      | refine LeO.ite ?_ ?_
      | refine LeO.bind ?_ (fun _ => ?_)
    · intro y0 y1 y2 y3 y4 y5
      unfold shellgamelaw4_PackRight.j2
      repeat' first
      | (with_reducible exact ih0 _ _ _ _ _)
      | (with_reducible exact ih1 _ _ _ _ _ _ _)
      | (with_reducible exact ih2 _ _ _ _ _ _)
      | (with_reducible exact ih3 _ _ _ _ _)
      | (with_reducible exact LeO.refl _)
      | (with_reducible exact LeO.none _)
      | (with_reducible refine LeO.ite ?_ ?_)
      | (with_reducible refine LeO.bind ?_ (fun _ => ?_))
      | exact ih0 _ _ _ _ _
      | exact ih1 _ _ _ _ _ _ _
      | exact ih2 _ _ _ _ _ _
      | exact ih3 _ _ _ _ _
      | exact LeO.none _
      | refine LeO.ite ?_ ?_
      | refine LeO.bind ?_ (fun _ => ?_)
    · intro y0 y1 y2 y3 y4
      unfold shellgamelaw4_PackRight.l0
      repeat' first
      | (with_reducible exact ih0 _ _ _ _ _)
      | (with_reducible exact ih1 _ _ _ _ _ _ _)
      | (with_reducible exact ih2 _ _ _ _ _ _)
      | (with_reducible exact ih3 _ _ _ _ _)
      | (with_reducible exact LeO.refl _)
      | (with_reducible exact LeO.none _)
      | (with_reducible refine LeO.ite ?_ ?_)
      | (with_reducible refine LeO.bind ?_ (fun _ => ?_))
      | exact ih0 _ _ _ _ _
      | exact ih1 _ _ _ _ _ _ _
      | exact ih2 _ _ _ _ _ _
      | exact ih3 _ _ _ _ _
      | exact LeO.none _
      | refine LeO.ite ?_ ?_
      | refine LeO.bind ?_ (fun _ => ?_)
theorem shellgamelaw4_PackRight.mono : ∀ a0 a1 a2 k, LeO (shellgamelaw4_PackRight.f k a0 a1 a2) (shellgamelaw4_PackRight.f (k + 1) a0 a1 a2) := by
  intro a0 a1 a2 k
  obtain ⟨ih0, ih1, ih2, ih3⟩ := shellgamelaw4_PackRight.mono_l k
  unfold shellgamelaw4_PackRight.f
  repeat' first
      | (with_reducible exact ih0 _ _ _ _ _)
      | (with_reducible exact ih1 _ _ _ _ _ _ _)
      | (with_reducible exact ih2 _ _ _ _ _ _)
      | (with_reducible exact ih3 _ _ _ _ _)
      | (with_reducible exact LeO.refl _)
      | (with_reducible exact LeO.none _)
      | (with_reducible refine LeO.ite ?_ ?_)
      | (with_reducible refine LeO.bind ?_ (fun _ => ?_))
      | exact ih0 _ _ _ _ _
      | exact ih1 _ _ _ _ _ _ _
      | exact ih2 _ _ _ _ _ _
      | exact ih3 _ _ _ _ _
      | exact LeO.none _
      | refine LeO.ite ?_ ?_
      | refine LeO.bind ?_ (fun _ => ?_)
set_option maxHeartbeats 8000000 in
set_option maxRecDepth 100000 in
theorem shellgamelaw4_PackRight.calls (k : Nat) (a0 : Int) (a1 : ByteArray) (a2 : ByteArray) (r : Bool) (w : World) (h : shellgamelaw4_PackRight.f k a0 a1 a2 = some r) :
    Calls Try.prog 13 #[.int .u64 a0, .string a1, .string a2] w fun e w' => e = .returned (.bool r) ∧ Below w.heap.size w w' := by
  have HB := Aside0.mk (Below.refl w.heap.size w)
  have H : ((shellgamelaw4_shown.f).bind fun t103 => (if (a0 / 72057594037927936) ≤ 7 then (if (a0 / 72057594037927936) = 7 then (shellgamelaw4_PackRight.j0 k a0 a1 a2 t103 true) else (if 0 ≤ (IntKind.u64.wrap (8 * (a0 / 72057594037927936))) then (shellgamelaw4_PackRight.j0 k a0 a1 a2 t103 ((shr .u64 ((IntKind.u64.wrap (a0 * 256)) / 256) (IntKind.u64.wrap (8 * (a0 / 72057594037927936)))) == 0)) else (none))) else (shellgamelaw4_PackRight.j0 k a0 a1 a2 t103 false))) = some r := h
  clear h
  replace H := Option.bind_eq_some_iff.mp H
  obtain ⟨t103, A40, H⟩ := H
  replace H : (if (a0 / 72057594037927936) ≤ 7 then (if (a0 / 72057594037927936) = 7 then (shellgamelaw4_PackRight.j0 k a0 a1 a2 t103 true) else (if 0 ≤ (IntKind.u64.wrap (8 * (a0 / 72057594037927936))) then (shellgamelaw4_PackRight.j0 k a0 a1 a2 t103 ((shr .u64 ((IntKind.u64.wrap (a0 * 256)) / 256) (IntKind.u64.wrap (8 * (a0 / 72057594037927936)))) == 0)) else (none))) else (shellgamelaw4_PackRight.j0 k a0 a1 a2 t103 false)) = some r := H
  have A4 := Aside0.mk A40
  clear A40
  have HC5 := Aside0.mk H
  clear H
  go_enter Try.func13, Try.ntmps13
  go_upto_region 3 with (first | (go_at_call 17; (with_reducible refine (shellgamelaw4_shown.calls  t103 _ A4.out).mono ?_); rintro e w6 ⟨rfl, hb⟩; have n0_ := Aside0.mk (below_step (by repeat (first | (with_reducible first | exact HB.out | apply below_alloc | apply pw_below_drewN | apply below_drew1) | exact HB.out)) hb); clear HB; have HB := n0_; clear n0_; (try clear hb); (try clear hb2); (try clear hk); (try clear hi)))
  repeat (go_quiet (first | (go_at_call 17; (with_reducible refine (shellgamelaw4_shown.calls  t103 _ A4.out).mono ?_); rintro e w6 ⟨rfl, hb⟩; have n0_ := Aside0.mk (below_step (by repeat (first | (with_reducible first | exact HB.out | apply below_alloc | apply pw_below_drewN | apply below_drew1) | exact HB.out)) hb); clear HB; have HB := n0_; clear n0_; (try clear hb); (try clear hb2); (try clear hk); (try clear hi))); go_upto_region 3 with (first | (go_at_call 17; (with_reducible refine (shellgamelaw4_shown.calls  t103 _ A4.out).mono ?_); rintro e w6 ⟨rfl, hb⟩; have n0_ := Aside0.mk (below_step (by repeat (first | (with_reducible first | exact HB.out | apply below_alloc | apply pw_below_drewN | apply below_drew1) | exact HB.out)) hb); clear HB; have HB := n0_; clear n0_; (try clear hb); (try clear hb2); (try clear hk); (try clear hi))))
  (try simp only [Act.put, List.setIfInBounds_toArray, List.set_cons_zero, List.set_cons_succ])
  go_cut [9] (fun v9 wc => ∃ (kq : Nat) (x9_4 : Bool), v9 = .bool x9_4 ∧ Aside0 (shellgamelaw4_PackRight.j0 kq a0 a1 a2 t103 x9_4 = some r) ∧ Aside0 (kq ≤ k) ∧ Aside0 (Below w.heap.size w wc))
  case first =>
    have H := HC5.out
    clear HC5
    by_cases c7 : (a0 / 72057594037927936) ≤ 7
    · rw [if_pos c7] at H
      have c7b0 : decide ((a0 / 72057594037927936) ≤ 7) = true := decide_eq_true c7
      clear c7
      (first | rw [c7b0] | (simp only [i64_w, i32_w]; rw [c7b0]) | skip)
      by_cases c8 : (a0 / 72057594037927936) = 7
      · rw [if_pos c8] at H
        have c8b0 : ((a0 / 72057594037927936) == 7) = true := beq_iff_eq.mpr c8
        have c8b1 : ((a0 / 72057594037927936) != 7) = false := bne_eq_false_iff_eq.mpr c8
        clear c8
        have H' := Aside0.mk H
        clear H
        go_wp2
        repeat (go_quiet (fail); try go_wp2)
        go_meet
        case rel => exact ⟨_, (true), (by first | rfl | (simp; done) | (simp [*]; done)), H', ⟨by first | omega | exact Nat.le_refl _⟩, ⟨by repeat (first | (with_reducible first | exact HB.out | apply below_alloc | apply pw_below_drewN | apply below_drew1) | exact HB.out)⟩⟩
      · rw [if_neg c8] at H
        have c8b0 : ((a0 / 72057594037927936) == 7) = false := beq_eq_false_iff_ne.mpr c8
        have c8b1 : ((a0 / 72057594037927936) != 7) = true := bne_iff_ne.mpr c8
        obtain ⟨ji9, hji9⟩ : ∃ j_ : Int, (IntKind.u64.wrap (8 * (a0 / 72057594037927936))) = j_ := ⟨_, rfl⟩
        replace H : (if 0 ≤ (ji9) then (shellgamelaw4_PackRight.j0 k a0 a1 a2 t103 ((shr .u64 ((IntKind.u64.wrap (a0 * 256)) / 256) (ji9)) == 0)) else (none)) = some r := by first | (rw [hji9] at H; exact H) | (simp only [hji9] at H ⊢; exact H)
        by_cases c10 : 0 ≤ (ji9)
        · rw [if_pos c10] at H
          have c10b0 := eq_true c10
          have c10b1 : decide (0 ≤ (ji9)) = true := decide_eq_true c10
          clear c10
          obtain ⟨ji11, hji11⟩ : ∃ j_ : Int, (shr .u64 ((IntKind.u64.wrap (a0 * 256)) / 256) (ji9)) = j_ := ⟨_, rfl⟩
          replace H : (shellgamelaw4_PackRight.j0 k a0 a1 a2 t103 ((ji11) == 0)) = some r := by first | (rw [hji11] at H; exact H) | (simp only [hji11] at H ⊢; exact H)
          have hji11_ : (((IntKind.u64.wrap (a0 * 256)) / 256) / 2 ^ min (ji9).toNat 64) = ji11 := hji11
          have hji11z : (ji9) ≤ 64 → (((IntKind.u64.wrap (a0 * 256)) / 256) / 2 ^ (ji9).toNat) = ji11 := shr_small hji11
          have H' := Aside0.mk H
          clear H
          go_wp2
          repeat (go_quiet (fail); try go_wp2)
          go_meet
          case rel => exact ⟨_, (((ji11) == 0)), (by first | rfl | (simp; done) | (simp only [← hji11] <;> (first | rfl | simp)) | (simp [*]; done)), H', ⟨by first | omega | exact Nat.le_refl _⟩, ⟨by repeat (first | (with_reducible first | exact HB.out | apply below_alloc | apply pw_below_drewN | apply below_drew1) | exact HB.out)⟩⟩
        · rw [if_neg c10] at H
          exact absurd H (by simp)
    · rw [if_neg c7] at H
      have c7b0 : decide ((a0 / 72057594037927936) ≤ 7) = false := decide_eq_false c7
      clear c7
      (first | rw [c7b0] | (simp only [i64_w, i32_w]; rw [c7b0]) | skip)
      have H' := Aside0.mk H
      clear H
      go_wp2
      repeat (go_quiet (fail); try go_wp2)
      go_meet
      case rel => exact ⟨_, (false), (by first | rfl | (simp; done) | (simp [*]; done)), H', ⟨by first | omega | exact Nat.le_refl _⟩, ⟨by repeat (first | (with_reducible first | exact HB.out | apply below_alloc | apply pw_below_drewN | apply below_drew1) | exact HB.out)⟩⟩
  case rest =>
    clear HC5
    try clear c1
    try clear p2
    try clear c7
    try clear c7b0
    try clear c8
    try clear c8b0
    try clear c8b1
    try clear c10
    try clear c10b0
    try clear c10b1
    obtain ⟨kq, x9_4, rfl, HA, HJ4, HB⟩ := hcut
    cases kq with
    | zero => exact absurd HA.out (by simp [shellgamelaw4_PackRight.j0])
    | succ kj4 =>
      have H := HA.out
      clear HA
      simp only [shellgamelaw4_PackRight.j0] at H
      replace H := Option.bind_eq_some_iff.mp H
      obtain ⟨⟨t104, t105⟩, A120, H⟩ := H
      replace H : ((pack_Word.f a2).bind fun bt106 => (if t103 = true then ((pack_Right.f a0).bind fun t108 => (if (t108 != x9_4) = true then (shellgamelaw4_PackRight.j1 kj4 a1 a2 t104 t105 bt106.1 bt106.2 true) else (if t105 = 0 then (shellgamelaw4_PackRight.j1 kj4 a1 a2 t104 t105 bt106.1 bt106.2 ((t104 / 72057594037927936) != (IntKind.u64.wrap ((a1.size : Int))))) else (shellgamelaw4_PackRight.j1 kj4 a1 a2 t104 t105 bt106.1 bt106.2 false)))) else (shellgamelaw4_PackRight.j1 kj4 a1 a2 t104 t105 bt106.1 bt106.2 true))) = some r := H
      have A12 := Aside0.mk A120
      clear A120
      replace H := Option.bind_eq_some_iff.mp H
      obtain ⟨⟨t106, t107⟩, A130, H⟩ := H
      replace H : (if t103 = true then ((pack_Right.f a0).bind fun t108 => (if (t108 != x9_4) = true then (shellgamelaw4_PackRight.j1 kj4 a1 a2 t104 t105 t106 t107 true) else (if t105 = 0 then (shellgamelaw4_PackRight.j1 kj4 a1 a2 t104 t105 t106 t107 ((t104 / 72057594037927936) != (IntKind.u64.wrap ((a1.size : Int))))) else (shellgamelaw4_PackRight.j1 kj4 a1 a2 t104 t105 t106 t107 false)))) else (shellgamelaw4_PackRight.j1 kj4 a1 a2 t104 t105 t106 t107 true)) = some r := H
      have A13 := Aside0.mk A130
      clear A130
      have HC14 := Aside0.mk H
      clear H
      go_upto_region 6 with (first | (go_at_call 18; (with_reducible refine (pack_Word.calls a1 t104 t105 _ A12.out).mono ?_); rintro e w15 ⟨rfl, hb⟩; have n0_ := Aside0.mk (below_step (by repeat (first | (with_reducible first | exact HB.out | apply below_alloc | apply pw_below_drewN | apply below_drew1) | exact HB.out)) hb); clear HB; have HB := n0_; clear n0_; (try clear hb); (try clear hb2); (try clear hk); (try clear hi)) | (go_at_call 18; (with_reducible refine (pack_Word.calls a2 t106 t107 _ A13.out).mono ?_); rintro e w16 ⟨rfl, hb⟩; have n0_ := Aside0.mk (below_step (by repeat (first | (with_reducible first | exact HB.out | apply below_alloc | apply pw_below_drewN | apply below_drew1) | exact HB.out)) hb); clear HB; have HB := n0_; clear n0_; (try clear hb); (try clear hb2); (try clear hk); (try clear hi)))
      repeat (go_quiet (first | (go_at_call 18; (with_reducible refine (pack_Word.calls a1 t104 t105 _ A12.out).mono ?_); rintro e w15 ⟨rfl, hb⟩; have n0_ := Aside0.mk (below_step (by repeat (first | (with_reducible first | exact HB.out | apply below_alloc | apply pw_below_drewN | apply below_drew1) | exact HB.out)) hb); clear HB; have HB := n0_; clear n0_; (try clear hb); (try clear hb2); (try clear hk); (try clear hi)) | (go_at_call 18; (with_reducible refine (pack_Word.calls a2 t106 t107 _ A13.out).mono ?_); rintro e w16 ⟨rfl, hb⟩; have n0_ := Aside0.mk (below_step (by repeat (first | (with_reducible first | exact HB.out | apply below_alloc | apply pw_below_drewN | apply below_drew1) | exact HB.out)) hb); clear HB; have HB := n0_; clear n0_; (try clear hb); (try clear hb2); (try clear hk); (try clear hi))); go_upto_region 6 with (first | (go_at_call 18; (with_reducible refine (pack_Word.calls a1 t104 t105 _ A12.out).mono ?_); rintro e w15 ⟨rfl, hb⟩; have n0_ := Aside0.mk (below_step (by repeat (first | (with_reducible first | exact HB.out | apply below_alloc | apply pw_below_drewN | apply below_drew1) | exact HB.out)) hb); clear HB; have HB := n0_; clear n0_; (try clear hb); (try clear hb2); (try clear hk); (try clear hi)) | (go_at_call 18; (with_reducible refine (pack_Word.calls a2 t106 t107 _ A13.out).mono ?_); rintro e w16 ⟨rfl, hb⟩; have n0_ := Aside0.mk (below_step (by repeat (first | (with_reducible first | exact HB.out | apply below_alloc | apply pw_below_drewN | apply below_drew1) | exact HB.out)) hb); clear HB; have HB := n0_; clear n0_; (try clear hb); (try clear hb2); (try clear hk); (try clear hi))))
      (try simp only [Act.put, List.setIfInBounds_toArray, List.set_cons_zero, List.set_cons_succ])
      go_cut [62] (fun v62 wc => ∃ (kq : Nat) (x62_13 : Bool), v62 = .bool x62_13 ∧ Aside0 (shellgamelaw4_PackRight.j1 kq a1 a2 t104 t105 t106 t107 x62_13 = some r) ∧ Aside0 (kq ≤ kj4) ∧ Aside0 (Below w.heap.size w wc))
      case first =>
        have H := HC14.out
        clear HC14
        by_cases c17 : t103 = true
        · subst c17
          have H1 : ((pack_Right.f a0).bind fun t108 => (if (t108 != x9_4) = true then (shellgamelaw4_PackRight.j1 kj4 a1 a2 t104 t105 t106 t107 true) else (if t105 = 0 then (shellgamelaw4_PackRight.j1 kj4 a1 a2 t104 t105 t106 t107 ((t104 / 72057594037927936) != (IntKind.u64.wrap ((a1.size : Int))))) else (shellgamelaw4_PackRight.j1 kj4 a1 a2 t104 t105 t106 t107 false)))) = some r := by rw [if_pos rfl] at H; exact H
          clear H
          have H := H1
          clear H1
          replace H := Option.bind_eq_some_iff.mp H
          obtain ⟨t108, A180, H⟩ := H
          replace H : (if (t108 != x9_4) = true then (shellgamelaw4_PackRight.j1 kj4 a1 a2 t104 t105 t106 t107 true) else (if t105 = 0 then (shellgamelaw4_PackRight.j1 kj4 a1 a2 t104 t105 t106 t107 ((t104 / 72057594037927936) != (IntKind.u64.wrap ((a1.size : Int))))) else (shellgamelaw4_PackRight.j1 kj4 a1 a2 t104 t105 t106 t107 false))) = some r := H
          have A18 := Aside0.mk A180
          clear A180
          by_cases c19 : (t108 != x9_4) = true
          · rw [if_pos c19] at H
            have c19b0 : (t108 != x9_4) = true := c19
            (try (have c19b1 : decide (t108 = x9_4) = false := by simpa using c19))
            (try (have c19b2 : (t108 == x9_4) = false := by simpa using c19))
            (try (have c19b3 : ¬ (t108 = x9_4) := by simpa using c19))
            clear c19
            (first | rw [c19b0] | (simp only [i64_w, i32_w]; rw [c19b0]) | skip)
            have H' := Aside0.mk H
            clear H
            go_wp2_with (first | (go_at_call 34; (with_reducible refine (pack_Right.calls a0 t108 _ A18.out).mono ?_); rintro e w20 ⟨rfl, hb⟩; have n0_ := Aside0.mk (below_step (by repeat (first | (with_reducible first | exact HB.out | apply below_alloc | apply pw_below_drewN | apply below_drew1) | exact HB.out)) hb); clear HB; have HB := n0_; clear n0_; (try clear hb); (try clear hb2); (try clear hk); (try clear hi)))
            repeat (go_quiet (first | (go_at_call 34; (with_reducible refine (pack_Right.calls a0 t108 _ A18.out).mono ?_); rintro e w20 ⟨rfl, hb⟩; have n0_ := Aside0.mk (below_step (by repeat (first | (with_reducible first | exact HB.out | apply below_alloc | apply pw_below_drewN | apply below_drew1) | exact HB.out)) hb); clear HB; have HB := n0_; clear n0_; (try clear hb); (try clear hb2); (try clear hk); (try clear hi))); try go_wp2_with (first | (go_at_call 34; (with_reducible refine (pack_Right.calls a0 t108 _ A18.out).mono ?_); rintro e w20 ⟨rfl, hb⟩; have n0_ := Aside0.mk (below_step (by repeat (first | (with_reducible first | exact HB.out | apply below_alloc | apply pw_below_drewN | apply below_drew1) | exact HB.out)) hb); clear HB; have HB := n0_; clear n0_; (try clear hb); (try clear hb2); (try clear hk); (try clear hi))))
            go_meet
            case rel => exact ⟨_, (true), (by first | rfl | (simp; done) | (simp [*]; done)), H', ⟨by have := HJ4.out; first | omega | exact Nat.le_refl _⟩, ⟨by repeat (first | (with_reducible first | exact HB.out | apply below_alloc | apply pw_below_drewN | apply below_drew1) | exact HB.out)⟩⟩
          · rw [if_neg c19] at H
            have c19b0 : (t108 != x9_4) = false := by simpa using c19
            (try (have c19b1 : decide (t108 = x9_4) = true := by simpa using c19))
            (try (have c19b2 : (t108 == x9_4) = true := by simpa using c19))
            clear c19
            (first | rw [c19b0] | (simp only [i64_w, i32_w]; rw [c19b0]) | skip)
            by_cases c21 : t105 = 0
            · rw [if_pos c21] at H
              have c21b0 : (t105 == 0) = true := beq_iff_eq.mpr c21
              have c21b1 : (t105 != 0) = false := bne_eq_false_iff_eq.mpr c21
              clear c21
              have H' := Aside0.mk H
              clear H
              go_wp2_with (first | (go_at_call 34; (with_reducible refine (pack_Right.calls a0 t108 _ A18.out).mono ?_); rintro e w22 ⟨rfl, hb⟩; have n0_ := Aside0.mk (below_step (by repeat (first | (with_reducible first | exact HB.out | apply below_alloc | apply pw_below_drewN | apply below_drew1) | exact HB.out)) hb); clear HB; have HB := n0_; clear n0_; (try clear hb); (try clear hb2); (try clear hk); (try clear hi)))
              repeat (go_quiet (first | (go_at_call 34; (with_reducible refine (pack_Right.calls a0 t108 _ A18.out).mono ?_); rintro e w22 ⟨rfl, hb⟩; have n0_ := Aside0.mk (below_step (by repeat (first | (with_reducible first | exact HB.out | apply below_alloc | apply pw_below_drewN | apply below_drew1) | exact HB.out)) hb); clear HB; have HB := n0_; clear n0_; (try clear hb); (try clear hb2); (try clear hk); (try clear hi))); try go_wp2_with (first | (go_at_call 34; (with_reducible refine (pack_Right.calls a0 t108 _ A18.out).mono ?_); rintro e w22 ⟨rfl, hb⟩; have n0_ := Aside0.mk (below_step (by repeat (first | (with_reducible first | exact HB.out | apply below_alloc | apply pw_below_drewN | apply below_drew1) | exact HB.out)) hb); clear HB; have HB := n0_; clear n0_; (try clear hb); (try clear hb2); (try clear hk); (try clear hi))))
              go_meet
              case rel => exact ⟨_, (((t104 / 72057594037927936) != (IntKind.u64.wrap ((a1.size : Int))))), (by first | rfl | (simp; done) | (simp [*]; done)), H', ⟨by have := HJ4.out; first | omega | exact Nat.le_refl _⟩, ⟨by repeat (first | (with_reducible first | exact HB.out | apply below_alloc | apply pw_below_drewN | apply below_drew1) | exact HB.out)⟩⟩
            · rw [if_neg c21] at H
              have c21b0 : (t105 == 0) = false := beq_eq_false_iff_ne.mpr c21
              have c21b1 : (t105 != 0) = true := bne_iff_ne.mpr c21
              have H' := Aside0.mk H
              clear H
              go_wp2_with (first | (go_at_call 34; (with_reducible refine (pack_Right.calls a0 t108 _ A18.out).mono ?_); rintro e w23 ⟨rfl, hb⟩; have n0_ := Aside0.mk (below_step (by repeat (first | (with_reducible first | exact HB.out | apply below_alloc | apply pw_below_drewN | apply below_drew1) | exact HB.out)) hb); clear HB; have HB := n0_; clear n0_; (try clear hb); (try clear hb2); (try clear hk); (try clear hi)))
              repeat (go_quiet (first | (go_at_call 34; (with_reducible refine (pack_Right.calls a0 t108 _ A18.out).mono ?_); rintro e w23 ⟨rfl, hb⟩; have n0_ := Aside0.mk (below_step (by repeat (first | (with_reducible first | exact HB.out | apply below_alloc | apply pw_below_drewN | apply below_drew1) | exact HB.out)) hb); clear HB; have HB := n0_; clear n0_; (try clear hb); (try clear hb2); (try clear hk); (try clear hi))); try go_wp2_with (first | (go_at_call 34; (with_reducible refine (pack_Right.calls a0 t108 _ A18.out).mono ?_); rintro e w23 ⟨rfl, hb⟩; have n0_ := Aside0.mk (below_step (by repeat (first | (with_reducible first | exact HB.out | apply below_alloc | apply pw_below_drewN | apply below_drew1) | exact HB.out)) hb); clear HB; have HB := n0_; clear n0_; (try clear hb); (try clear hb2); (try clear hk); (try clear hi))))
              go_meet
              case rel => exact ⟨_, (false), (by first | rfl | (simp; done) | (simp [*]; done)), H', ⟨by have := HJ4.out; first | omega | exact Nat.le_refl _⟩, ⟨by repeat (first | (with_reducible first | exact HB.out | apply below_alloc | apply pw_below_drewN | apply below_drew1) | exact HB.out)⟩⟩
        · replace c17 := Bool.eq_false_iff.mpr c17
          subst c17
          have H1 : (shellgamelaw4_PackRight.j1 kj4 a1 a2 t104 t105 t106 t107 true) = some r := by rw [if_neg (show ¬ (false = true) by decide)] at H; exact H
          clear H
          have H := H1
          clear H1
          have H' := Aside0.mk H
          clear H
          go_wp2
          repeat (go_quiet (fail); try go_wp2)
          go_meet
          case rel => exact ⟨_, (true), (by first | rfl | (simp; done) | (simp [*]; done)), H', ⟨by have := HJ4.out; first | omega | exact Nat.le_refl _⟩, ⟨by repeat (first | (with_reducible first | exact HB.out | apply below_alloc | apply pw_below_drewN | apply below_drew1) | exact HB.out)⟩⟩
      case rest =>
        clear HC14
        try clear c1
        try clear c2
        try clear p2
        try clear c7
        try clear c7b0
        try clear c8
        try clear c8b0
        try clear c8b1
        try clear c10
        try clear c10b0
        try clear c10b1
        try clear c13
        try clear c17
        try clear c19
        try clear c19b0
        try clear c19b1
        try clear c19b2
        try clear c21
        try clear c21b0
        try clear c21b1
        try clear p2
        obtain ⟨kq, x62_13, rfl, HA, HJ13, HB⟩ := hcut
        cases kq with
        | zero => exact absurd HA.out (by simp [shellgamelaw4_PackRight.j1])
        | succ kj13 =>
          have H := HA.out
          clear HA
          simp only [shellgamelaw4_PackRight.j1] at H
          by_cases c24 : x62_13 = true
          · subst c24
            have H1 : (some false) = some r := by rw [if_pos rfl] at H; exact H
            clear H
            have H := H1
            clear H1
            obtain rfl := Option.some.inj H
            go_wp2
            repeat (go_quiet (fail); try go_wp2)
            go_ret
            exact ⟨by first | rfl | (simp [errW_none, errW_some] <;> rfl) | (simp [*, errW_none, errW_some] <;> rfl), by repeat (first | (with_reducible first | exact HB.out | apply below_alloc | apply pw_below_drewN | apply below_drew1) | exact HB.out)⟩
          · replace c24 := Bool.eq_false_iff.mpr c24
            subst c24
            have H1 : (if t105 = 0 then (if t107 = 0 then (shellgamelaw4_PackRight.j2 kj13 a1 a2 t104 t105 t106 ((a1.size : Int) != (a2.size : Int))) else (shellgamelaw4_PackRight.j2 kj13 a1 a2 t104 t105 t106 true)) else (shellgamelaw4_PackRight.j2 kj13 a1 a2 t104 t105 t106 true)) = some r := by rw [if_neg (show ¬ (false = true) by decide)] at H; exact H
            clear H
            have H := H1
            clear H1
            have HC25 := Aside0.mk H
            clear H
            go_upto_region 8 with (fail)
            repeat (go_quiet (fail); go_upto_region 8 with (fail))
            go_cut [75] (fun v75 wc => ∃ (kq : Nat) (x75_24 : Bool), v75 = .bool x75_24 ∧ Aside0 (shellgamelaw4_PackRight.j2 kq a1 a2 t104 t105 t106 x75_24 = some r) ∧ Aside0 (kq ≤ kj13) ∧ Aside0 (Below w.heap.size w wc))
            case first =>
              have H := HC25.out
              clear HC25
              by_cases c26 : t105 = 0
              · rw [if_pos c26] at H
                have c26b0 : (t105 == 0) = true := beq_iff_eq.mpr c26
                have c26b1 : (t105 != 0) = false := bne_eq_false_iff_eq.mpr c26
                clear c26
                (first | rw [c26b0] | (simp only [i64_w, i32_w]; rw [c26b0]) | skip)
                by_cases c27 : t107 = 0
                · rw [if_pos c27] at H
                  have c27b0 : (t107 == 0) = true := beq_iff_eq.mpr c27
                  have c27b1 : (t107 != 0) = false := bne_eq_false_iff_eq.mpr c27
                  clear c27
                  have H' := Aside0.mk H
                  clear H
                  go_wp2
                  repeat (go_quiet (fail); try go_wp2)
                  go_meet
                  case rel => exact ⟨_, (((a1.size : Int) != (a2.size : Int))), (by first | rfl | (simp; done) | (simp [*]; done)), H', ⟨by have := HJ4.out; have := HJ13.out; first | omega | exact Nat.le_refl _⟩, ⟨by repeat (first | (with_reducible first | exact HB.out | apply below_alloc | apply pw_below_drewN | apply below_drew1) | exact HB.out)⟩⟩
                · rw [if_neg c27] at H
                  have c27b0 : (t107 == 0) = false := beq_eq_false_iff_ne.mpr c27
                  have c27b1 : (t107 != 0) = true := bne_iff_ne.mpr c27
                  have H' := Aside0.mk H
                  clear H
                  go_wp2
                  repeat (go_quiet (fail); try go_wp2)
                  go_meet
                  case rel => exact ⟨_, (true), (by first | rfl | (simp; done) | (simp [*]; done)), H', ⟨by have := HJ4.out; have := HJ13.out; first | omega | exact Nat.le_refl _⟩, ⟨by repeat (first | (with_reducible first | exact HB.out | apply below_alloc | apply pw_below_drewN | apply below_drew1) | exact HB.out)⟩⟩
              · rw [if_neg c26] at H
                have c26b0 : (t105 == 0) = false := beq_eq_false_iff_ne.mpr c26
                have c26b1 : (t105 != 0) = true := bne_iff_ne.mpr c26
                (first | rw [c26b0] | (simp only [i64_w, i32_w]; rw [c26b0]) | skip)
                have H' := Aside0.mk H
                clear H
                go_wp2
                repeat (go_quiet (fail); try go_wp2)
                go_meet
                case rel => exact ⟨_, (true), (by first | rfl | (simp; done) | (simp [*]; done)), H', ⟨by have := HJ4.out; have := HJ13.out; first | omega | exact Nat.le_refl _⟩, ⟨by repeat (first | (with_reducible first | exact HB.out | apply below_alloc | apply pw_below_drewN | apply below_drew1) | exact HB.out)⟩⟩
            case rest =>
              clear HC25
              try clear c1
              try clear c2
              try clear p2
              try clear c7
              try clear c7b0
              try clear c8
              try clear c8b0
              try clear c8b1
              try clear c10
              try clear c10b0
              try clear c10b1
              try clear c13
              try clear c17
              try clear c19
              try clear c19b0
              try clear c19b1
              try clear c19b2
              try clear c21
              try clear c21b0
              try clear c21b1
              try clear c24
              try clear c26
              try clear c26b0
              try clear c26b1
              try clear c27
              try clear c27b0
              try clear c27b1
              try clear p2
              obtain ⟨kq, x75_24, rfl, HA, HJ24, HB⟩ := hcut
              cases kq with
              | zero => exact absurd HA.out (by simp [shellgamelaw4_PackRight.j2])
              | succ kj24 =>
                have H := HA.out
                clear HA
                simp only [shellgamelaw4_PackRight.j2] at H
                by_cases c28 : x75_24 = true
                · subst c28
                  have H1 : (if t105 = 0 then (some true) else (some (t104 == 0))) = some r := by rw [if_pos rfl] at H; exact H
                  clear H
                  have H := H1
                  clear H1
                  by_cases c29 : t105 = 0
                  · rw [if_pos c29] at H
                    have c29b0 : (t105 == 0) = true := beq_iff_eq.mpr c29
                    have c29b1 : (t105 != 0) = false := bne_eq_false_iff_eq.mpr c29
                    clear c29
                    obtain rfl := Option.some.inj H
                    go_wp2
                    repeat (go_quiet (fail); try go_wp2)
                    go_ret
                    exact ⟨by first | rfl | (simp [errW_none, errW_some] <;> rfl) | (simp [*, errW_none, errW_some] <;> rfl), by repeat (first | (with_reducible first | exact HB.out | apply below_alloc | apply pw_below_drewN | apply below_drew1) | exact HB.out)⟩
                  · rw [if_neg c29] at H
                    have c29b0 : (t105 == 0) = false := beq_eq_false_iff_ne.mpr c29
                    have c29b1 : (t105 != 0) = true := bne_iff_ne.mpr c29
                    obtain rfl := Option.some.inj H
                    go_wp2
                    repeat (go_quiet (fail); try go_wp2)
                    go_ret
                    exact ⟨by first | rfl | (simp [errW_none, errW_some] <;> rfl) | (simp [*, errW_none, errW_some] <;> rfl), by repeat (first | (with_reducible first | exact HB.out | apply below_alloc | apply pw_below_drewN | apply below_drew1) | exact HB.out)⟩
                · replace c28 := Bool.eq_false_iff.mpr c28
                  subst c28
                  have H1 : (shellgamelaw4_PackRight.l0 kj24 a1 a2 t104 t106 (wrap64 ((a1.size : Int) - 1))) = some r := by rw [if_neg (show ¬ (false = true) by decide)] at H; exact H
                  clear H
                  have H := H1
                  clear H1
                  have H' := Aside0.mk H
                  clear H
                  go_wp2
                  repeat (go_quiet (fail); try go_wp2)
                  go_loopg [14] kj24 (fun kq v14 w' => ∃ (x14_4 : Int), v14 = .int .i64 x14_4 ∧ Aside0 (shellgamelaw4_PackRight.l0 kq a1 a2 t104 t106 x14_4 = some r) ∧ Aside0 (kq ≤ kj24) ∧ Aside0 (Below w.heap.size w w'))
                  case atStart => exact ⟨(wrap64 ((a1.size : Int) - 1)), (by first | rfl | (simp; done) | (simp [*]; done)), H', ⟨Nat.le_refl _⟩, ⟨by repeat (first | (with_reducible first | exact HB.out | apply below_alloc | apply pw_below_drewN | apply below_drew1) | exact HB.out)⟩⟩
                  case round =>
                    clear H'
                    try clear c1
                    try clear c2
                    try clear p2
                    try clear p6
                    try clear c7
                    try clear c7b0
                    try clear c8
                    try clear c8b0
                    try clear c8b1
                    try clear c10
                    try clear c10b0
                    try clear c10b1
                    try clear c13
                    try clear c17
                    try clear c19
                    try clear c19b0
                    try clear c19b1
                    try clear c19b2
                    try clear c21
                    try clear c21b0
                    try clear c21b1
                    try clear c24
                    try clear c26
                    try clear c26b0
                    try clear c26b1
                    try clear c27
                    try clear c27b0
                    try clear c27b1
                    try clear c28
                    try clear c29
                    try clear c29b0
                    try clear c29b1
                    try clear p2
                    obtain ⟨x14_4, rfl, HA, HK4, HB⟩ := hrel
                    cases gk with
                    | zero => exact absurd HA.out (by simp [shellgamelaw4_PackRight.l0])
                    | succ k4 =>
                      have H := HA.out
                      clear HA
                      simp only [shellgamelaw4_PackRight.l0] at H
                      by_cases c30 : x14_4 ≥ 0
                      · rw [if_pos c30] at H
                        have c30b0 : decide (0 ≤ x14_4) = true := decide_eq_true c30
                        clear c30
                        by_cases c31 : 0 ≤ x14_4
                        · rw [if_pos c31] at H
                          have c31b0 : decide (0 ≤ x14_4) = true := decide_eq_true c31
                          clear c31
                          by_cases c32 : x14_4 < (a1.size : Int)
                          · rw [if_pos c32] at H
                            have c32b0 : decide (x14_4 < (a1.size : Int)) = true := decide_eq_true c32
                            clear c32
                            by_cases c34 : x14_4 < (a2.size : Int)
                            · rw [if_pos c34] at H
                              have c34b0 : decide (x14_4 < (a2.size : Int)) = true := decide_eq_true c34
                              clear c34
                              by_cases c36 : (bt a1 x14_4) = (bt a2 x14_4)
                              · rw [if_pos c36] at H
                                have c36b0 : ((bt a1 x14_4) == (bt a2 x14_4)) = true := beq_iff_eq.mpr c36
                                have c36b1 : ((bt a1 x14_4) != (bt a2 x14_4)) = false := bne_eq_false_iff_eq.mpr c36
                                clear c36
                                have H' := Aside0.mk H
                                clear H
                                have p33 : 0 ≤ (x14_4 : Int) := of_decide_eq_true (by first | (with_reducible assumption) | assumption)
                                have q33 : x14_4 < (a1.size : Int) := of_decide_eq_true (by first | (with_reducible assumption) | assumption)
                                have hx33 := bt_at a1 x14_4
                                replace p33 := eq_true p33
                                replace q33 := eq_true q33
                                have p35 : 0 ≤ (x14_4 : Int) := of_decide_eq_true (by first | (with_reducible assumption) | assumption)
                                have q35 : x14_4 < (a2.size : Int) := of_decide_eq_true (by first | (with_reducible assumption) | assumption)
                                have hx35 := bt_at a2 x14_4
                                replace p35 := eq_true p35
                                replace q35 := eq_true q35
                                go_wp2
                                repeat (go_quiet (fail); try go_wp2)
                                go_roundg k4
                                case measure => have := HJ4.out; have := HJ13.out; have := HJ24.out; have := HK4.out; omega
                                case rel => exact ⟨(wrap64 (x14_4 - 1)), (by first | rfl | (simp; done) | (simp [*]; done)), H', ⟨by have := HJ4.out; have := HJ13.out; have := HJ24.out; have := HK4.out; omega⟩, ⟨by repeat (first | (with_reducible first | exact HB.out | apply below_alloc | apply pw_below_drewN | apply below_drew1) | exact HB.out)⟩⟩
                              · rw [if_neg c36] at H
                                have c36b0 : ((bt a1 x14_4) == (bt a2 x14_4)) = false := beq_eq_false_iff_ne.mpr c36
                                have c36b1 : ((bt a1 x14_4) != (bt a2 x14_4)) = true := bne_iff_ne.mpr c36
                                obtain rfl := Option.some.inj H
                                have p33 : 0 ≤ (x14_4 : Int) := of_decide_eq_true (by first | (with_reducible assumption) | assumption)
                                have q33 : x14_4 < (a1.size : Int) := of_decide_eq_true (by first | (with_reducible assumption) | assumption)
                                have hx33 := bt_at a1 x14_4
                                replace p33 := eq_true p33
                                replace q33 := eq_true q33
                                have p35 : 0 ≤ (x14_4 : Int) := of_decide_eq_true (by first | (with_reducible assumption) | assumption)
                                have q35 : x14_4 < (a2.size : Int) := of_decide_eq_true (by first | (with_reducible assumption) | assumption)
                                have hx35 := bt_at a2 x14_4
                                replace p35 := eq_true p35
                                replace q35 := eq_true q35
                                have p37 : 0 ≤ (x14_4 : Int) := of_decide_eq_true (by first | (with_reducible assumption) | assumption)
                                have q37 : x14_4 < (a1.size : Int) := of_decide_eq_true (by first | (with_reducible assumption) | assumption)
                                have hx37 := bt_at a1 x14_4
                                replace p37 := eq_true p37
                                replace q37 := eq_true q37
                                have p38 : 0 ≤ (x14_4 : Int) := of_decide_eq_true (by first | (with_reducible assumption) | assumption)
                                have q38 : x14_4 < (a2.size : Int) := of_decide_eq_true (by first | (with_reducible assumption) | assumption)
                                have hx38 := bt_at a2 x14_4
                                replace p38 := eq_true p38
                                replace q38 := eq_true q38
                                go_wp2
                                repeat (go_quiet (fail); try go_wp2)
                                go_ret
                                exact ⟨by first | rfl | (simp [errW_none, errW_some] <;> rfl) | (simp [*, errW_none, errW_some] <;> rfl), by repeat (first | (with_reducible first | exact HB.out | apply below_alloc | apply pw_below_drewN | apply below_drew1) | exact HB.out)⟩
                            · rw [if_neg c34] at H
                              exact absurd H (by simp)
                          · rw [if_neg c32] at H
                            exact absurd H (by simp)
                        · rw [if_neg c31] at H
                          exact absurd H (by simp)
                      · rw [if_neg c30] at H
                        have c30b0 : decide (0 ≤ x14_4) = false := decide_eq_false c30
                        clear c30
                        obtain rfl := Option.some.inj H
                        go_wp2
                        repeat (go_quiet (fail); try go_wp2)
                        go_ret
                        exact ⟨by first | rfl | (simp [errW_none, errW_some] <;> rfl) | (simp [*, errW_none, errW_some] <;> rfl), by repeat (first | (with_reducible first | exact HB.out | apply below_alloc | apply pw_below_drewN | apply below_drew1) | exact HB.out)⟩

/-- THE ONE PURE STATEMENT of shellgamelaw4_PackRight: yours. -/
def shellgamelaw4_PackRight.Pure : Prop := ∀ (a0 : Int) (a1 : ByteArray) (a2 : ByteArray), (Lit.int .u64 a0).wf = true → a1.size ≤ 140737488351232 → a2.size ≤ 140737488351232 → ∃ k, shellgamelaw4_PackRight.f k a0 a1 a2 = some true
theorem shellgamelaw4_PackRight.walk (P : shellgamelaw4_PackRight.Pure) (a0 : Int) (a1 : ByteArray) (a2 : ByteArray) (w : World) (w0 : (Lit.int .u64 a0).wf = true) (w1 : a1.size ≤ 140737488351232) (w2 : a2.size ≤ 140737488351232) :
    Calls Try.prog 13 #[.int .u64 a0, .string a1, .string a2] w fun e w' => e = .returned (.bool true) ∧ Below w.heap.size w w' := by
  obtain ⟨k, h⟩ := P a0 a1 a2 w0 w1 w2
  refine (shellgamelaw4_PackRight.calls k a0 a1 a2 true w h).mono ?_
  rintro e w' ⟨rfl, hd⟩
  exact ⟨rfl, hd⟩

end Go.Proofs.Ytjkifbadbadoaaa.PPackRight
