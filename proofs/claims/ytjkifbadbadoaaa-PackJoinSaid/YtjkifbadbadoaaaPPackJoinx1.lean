-- Written by wip/printplus.py over contracts of this repo; not trusted: Lean checks it.
import Derived.Test.YtjkifbadbadoaaaPPackJoinx0
namespace Go.Proofs.Ytjkifbadbadoaaa.PPackJoin
open Go.Proofs.Ytjkifbadbadoaaa.Hand Go.RowKit Go.Proofs.YtjkifbadbadoaaaW.PrintWords Go.Proofs.YtjkifbadbadoaaaW.PrintLast Go.Proofs.YtjkifbadbadoaaaW.PrintMore
attribute [local go_sem] max2_int min2_int max_two min_two max_three min_three max_four min_four   -- for this text's walks alone
set_option linter.unusedVariables false
set_option linter.unusedSimpArgs false

-- given: function 18 (pack_Word)

/-! ### shellgamelaw4_shown: function 17 -/
def shellgamelaw4_shown.f  : Option (Bool) := (pack_Word.f (⟨#[97, 98]⟩ : ByteArray)).bind fun bt101 => (if bt101.1 = 144115188075881057 then (some (bt101.2 == 0)) else (some false))
set_option maxHeartbeats 8000000 in
set_option maxRecDepth 100000 in
theorem shellgamelaw4_shown.calls  (r : Bool) (w : World) (h : shellgamelaw4_shown.f  = some r) :
    Calls Try.prog 17 #[] w fun e w' => e = .returned (.bool r) ∧ Below w.heap.size w w' := by
  have HB := Aside0.mk (Below.refl w.heap.size w)
  have H : ((pack_Word.f (⟨#[97, 98]⟩ : ByteArray)).bind fun bt101 => (if bt101.1 = 144115188075881057 then (some (bt101.2 == 0)) else (some false))) = some r := h
  clear h
  replace H := Option.bind_eq_some_iff.mp H
  obtain ⟨⟨t101, t102⟩, A10, H⟩ := H
  replace H : (if t101 = 144115188075881057 then (some (t102 == 0)) else (some false)) = some r := H
  have A1 := Aside0.mk A10
  clear A10
  by_cases c2 : t101 = 144115188075881057
  · rw [if_pos c2] at H
    have c2b0 : (t101 == 144115188075881057) = true := beq_iff_eq.mpr c2
    have c2b1 : (t101 != 144115188075881057) = false := bne_eq_false_iff_eq.mpr c2
    clear c2
    obtain rfl := Option.some.inj H
    go_enter Try.func17, Try.ntmps17
    go_wp2_with (first | ((with_reducible refine gate_callee (f := 18) rfl ?_); refine goesL_ (some 4) rfl rfl Try.func18 (by kernel_rfl) rfl #[.string (⟨#[97, 98]⟩ : ByteArray)] rfl (by (try simp only [List.map_toArray, List.map_cons, List.map_nil]); first | done | rfl | (simp only [List.length_drop, List.length_take]; rfl)) ?_; (with_reducible refine (pack_Word.calls (⟨#[97, 98]⟩ : ByteArray) t101 t102 _ A1.out).mono ?_); rintro e w3 ⟨rfl, hb⟩; refine ⟨_, rfl, ?_⟩; have n0_ := Aside0.mk (below_step (by repeat (first | (with_reducible first | exact HB.out | apply below_alloc | apply pw_below_drewN | apply below_drew1) | exact HB.out)) hb); clear HB; have HB := n0_; clear n0_; (try clear hb); (try clear hb2); (try clear hk); (try clear hi)))
    go_ret
    exact ⟨by first | rfl | (simp [errW_none, errW_some] <;> rfl) | (simp [*, errW_none, errW_some] <;> rfl), by repeat (first | (with_reducible first | exact HB.out | apply below_alloc | apply pw_below_drewN | apply below_drew1) | exact HB.out)⟩
  · rw [if_neg c2] at H
    have c2b0 : (t101 == 144115188075881057) = false := beq_eq_false_iff_ne.mpr c2
    have c2b1 : (t101 != 144115188075881057) = true := bne_iff_ne.mpr c2
    obtain rfl := Option.some.inj H
    go_enter Try.func17, Try.ntmps17
    go_wp2_with (first | ((with_reducible refine gate_callee (f := 18) rfl ?_); refine goesL_ (some 4) rfl rfl Try.func18 (by kernel_rfl) rfl #[.string (⟨#[97, 98]⟩ : ByteArray)] rfl (by (try simp only [List.map_toArray, List.map_cons, List.map_nil]); first | done | rfl | (simp only [List.length_drop, List.length_take]; rfl)) ?_; (with_reducible refine (pack_Word.calls (⟨#[97, 98]⟩ : ByteArray) t101 t102 _ A1.out).mono ?_); rintro e w4 ⟨rfl, hb⟩; refine ⟨_, rfl, ?_⟩; have n0_ := Aside0.mk (below_step (by repeat (first | (with_reducible first | exact HB.out | apply below_alloc | apply pw_below_drewN | apply below_drew1) | exact HB.out)) hb); clear HB; have HB := n0_; clear n0_; (try clear hb); (try clear hb2); (try clear hk); (try clear hi)))
    go_ret
    exact ⟨by first | rfl | (simp [errW_none, errW_some] <;> rfl) | (simp [*, errW_none, errW_some] <;> rfl), by repeat (first | (with_reducible first | exact HB.out | apply below_alloc | apply pw_below_drewN | apply below_drew1) | exact HB.out)⟩

/-! ### shellgamelaw4_PackJoin: function 3 -/
def shellgamelaw4_PackJoin.j0 : Nat → ByteArray → Int → Bool → Bool → Option (Bool)
  | 0, _, _, _, _ => none
  | k + 1, x0, x1, x5, x21 => if x21 = true then (some x5) else (if 0 ≤ (mx 0 (mn x1 (x0.size : Int))) then (if (mx 0 (mn x1 (x0.size : Int))) ≤ (x0.size : Int) then ((pack_Word.f (x0.extract 0 ((mx 0 (mn x1 (x0.size : Int))) : Int).toNat)).bind fun bt104 => ((pack_Word.f (x0.extract ((mx 0 (mn x1 (x0.size : Int))) : Int).toNat x0.size)).bind fun bt106 => ((pack_Word.f x0).bind fun bt108 => (if bt104.2 = 0 then (if bt106.2 = 0 then (if bt108.2 = 0 then (if (bt108.1 / 72057594037927936) = (IntKind.u64.wrap ((bt104.1 / 72057594037927936) + (bt106.1 / 72057594037927936))) then (if 0 ≤ (wrap64 (8 * (mx 0 (mn x1 (x0.size : Int))))) then (some ((Go.bits .and .u64 bt108.1 72057594037927935) == (Go.bits .and .u64 (Go.bits .or .u64 (Go.bits .and .u64 bt104.1 72057594037927935) (shl .u64 (Go.bits .and .u64 bt106.1 72057594037927935) (wrap64 (8 * (mx 0 (mn x1 (x0.size : Int))))))) 72057594037927935))) else (none)) else (some false)) else (some false)) else (some false)) else (some false))))) else (none)) else (none))
def shellgamelaw4_PackJoin.f (k : Nat) (a0 : ByteArray) (a1 : Int) : Option (Bool) := (shellgamelaw4_shown.f).bind fun t103 => (if t103 = true then (shellgamelaw4_PackJoin.j0 k a0 a1 t103 (decide ((a0.size : Int) > 7))) else (shellgamelaw4_PackJoin.j0 k a0 a1 t103 true))
theorem shellgamelaw4_PackJoin.mono_l : ∀ k, (∀ y0 y1 y2 y3, LeO (shellgamelaw4_PackJoin.j0 k y0 y1 y2 y3) (shellgamelaw4_PackJoin.j0 (k + 1) y0 y1 y2 y3))
  | 0 => fun _ _ _ _ r h => by simp [shellgamelaw4_PackJoin.j0] at h
  | k + 1 => by
    have ih0 := shellgamelaw4_PackJoin.mono_l k
    · intro y0 y1 y2 y3
      unfold shellgamelaw4_PackJoin.j0
      repeat' first
      | (with_reducible exact ih0 _ _ _ _)
      | (with_reducible exact LeO.refl _)
      | (with_reducible exact LeO.none _)
      | (with_reducible refine LeO.ite ?_ ?_)
      | (with_reducible refine LeO.bind ?_ (fun _ => ?_))
      | exact ih0 _ _ _ _
      | exact LeO.none _
      | refine LeO.ite ?_ ?_
      | refine LeO.bind ?_ (fun _ => ?_)
theorem shellgamelaw4_PackJoin.mono : ∀ a0 a1 k, LeO (shellgamelaw4_PackJoin.f k a0 a1) (shellgamelaw4_PackJoin.f (k + 1) a0 a1) := by
  intro a0 a1 k
  have ih0 := shellgamelaw4_PackJoin.mono_l k
  unfold shellgamelaw4_PackJoin.f
  repeat' first
      | (with_reducible exact ih0 _ _ _ _)
      | (with_reducible exact LeO.refl _)
      | (with_reducible exact LeO.none _)
      | (with_reducible refine LeO.ite ?_ ?_)
      | (with_reducible refine LeO.bind ?_ (fun _ => ?_))
      | exact ih0 _ _ _ _
      | exact LeO.none _
      | refine LeO.ite ?_ ?_
      | refine LeO.bind ?_ (fun _ => ?_)
set_option maxHeartbeats 8000000 in
set_option maxRecDepth 100000 in
theorem shellgamelaw4_PackJoin.calls (k : Nat) (a0 : ByteArray) (a1 : Int) (r : Bool) (w : World) (h : shellgamelaw4_PackJoin.f k a0 a1 = some r) :
    Calls Try.prog 3 #[.string a0, .int .i64 a1] w fun e w' => e = .returned (.bool r) ∧ Below w.heap.size w w' := by
  have HB := Aside0.mk (Below.refl w.heap.size w)
  have H : ((shellgamelaw4_shown.f).bind fun t103 => (if t103 = true then (shellgamelaw4_PackJoin.j0 k a0 a1 t103 (decide ((a0.size : Int) > 7))) else (shellgamelaw4_PackJoin.j0 k a0 a1 t103 true))) = some r := h
  clear h
  replace H := Option.bind_eq_some_iff.mp H
  obtain ⟨t103, A30, H⟩ := H
  replace H : (if t103 = true then (shellgamelaw4_PackJoin.j0 k a0 a1 t103 (decide ((a0.size : Int) > 7))) else (shellgamelaw4_PackJoin.j0 k a0 a1 t103 true)) = some r := H
  have A3 := Aside0.mk A30
  clear A30
  have HC4 := Aside0.mk H
  clear H
  go_enter Try.func3, Try.ntmps3
  go_upto_region 2 with (first | ((with_reducible refine gate_callee (f := 17) rfl ?_); refine goesL_ (some 14) rfl rfl Try.func17 (by kernel_rfl) rfl #[] rfl (by (try simp only [List.map_toArray, List.map_cons, List.map_nil]); first | done | rfl | (simp only [List.length_drop, List.length_take]; rfl)) ?_; (with_reducible refine (shellgamelaw4_shown.calls  t103 _ A3.out).mono ?_); rintro e w5 ⟨rfl, hb⟩; refine ⟨_, rfl, ?_⟩; have n0_ := Aside0.mk (below_step (by repeat (first | (with_reducible first | exact HB.out | apply below_alloc | apply pw_below_drewN | apply below_drew1) | exact HB.out)) hb); clear HB; have HB := n0_; clear n0_; (try clear hb); (try clear hb2); (try clear hk); (try clear hi)))
  (try simp only [Act.put, List.setIfInBounds_toArray, List.set_cons_zero, List.set_cons_succ])
  go_cut [21] (fun v21 wc => ∃ (kq : Nat) (x21_3 : Bool), v21 = .bool x21_3 ∧ Aside0 (shellgamelaw4_PackJoin.j0 kq a0 a1 t103 x21_3 = some r) ∧ Aside0 (kq ≤ k) ∧ Aside0 (Below w.heap.size w wc))
  case first =>
    have H := HC4.out
    clear HC4
    by_cases c6 : t103 = true
    · subst c6
      have H1 : (shellgamelaw4_PackJoin.j0 k a0 a1 true (decide ((a0.size : Int) > 7))) = some r := by rw [if_pos rfl] at H; exact H
      clear H
      have H := H1
      clear H1
      have H' := Aside0.mk H
      clear H
      go_wp2
      go_meet
      case rel => exact ⟨_, (decide ((a0.size : Int) > 7)), (by first | rfl | (simp; done) | (simp [*]; done)), H', ⟨by first | omega | exact Nat.le_refl _⟩, ⟨by repeat (first | (with_reducible first | exact HB.out | apply below_alloc | apply pw_below_drewN | apply below_drew1) | exact HB.out)⟩⟩
    · replace c6 := Bool.eq_false_iff.mpr c6
      subst c6
      have H1 : (shellgamelaw4_PackJoin.j0 k a0 a1 false true) = some r := by rw [if_neg (show ¬ (false = true) by decide)] at H; exact H
      clear H
      have H := H1
      clear H1
      have H' := Aside0.mk H
      clear H
      go_wp2
      go_meet
      case rel => exact ⟨_, (true), (by first | rfl | (simp; done) | (simp [*]; done)), H', ⟨by first | omega | exact Nat.le_refl _⟩, ⟨by repeat (first | (with_reducible first | exact HB.out | apply below_alloc | apply pw_below_drewN | apply below_drew1) | exact HB.out)⟩⟩
  case rest =>
    clear HC4
    try clear c1
    try clear p2
    try clear c3
    try clear c6
    obtain ⟨kq, x21_3, rfl, HA, HJ3, HB⟩ := hcut
    cases kq with
    | zero => exact absurd HA.out (by simp [shellgamelaw4_PackJoin.j0])
    | succ kj3 =>
      have H := HA.out
      clear HA
      simp only [shellgamelaw4_PackJoin.j0] at H
      by_cases c7 : x21_3 = true
      · subst c7
        have H1 : (some t103) = some r := by rw [if_pos rfl] at H; exact H
        clear H
        have H := H1
        clear H1
        obtain rfl := Option.some.inj H
        go_wp2
        go_ret
        exact ⟨by first | rfl | (simp [errW_none, errW_some] <;> rfl) | (simp [*, errW_none, errW_some] <;> rfl), by repeat (first | (with_reducible first | exact HB.out | apply below_alloc | apply pw_below_drewN | apply below_drew1) | exact HB.out)⟩
      · replace c7 := Bool.eq_false_iff.mpr c7
        subst c7
        have H1 : (if 0 ≤ (mx 0 (mn a1 (a0.size : Int))) then (if (mx 0 (mn a1 (a0.size : Int))) ≤ (a0.size : Int) then ((pack_Word.f (a0.extract 0 ((mx 0 (mn a1 (a0.size : Int))) : Int).toNat)).bind fun bt104 => ((pack_Word.f (a0.extract ((mx 0 (mn a1 (a0.size : Int))) : Int).toNat a0.size)).bind fun bt106 => ((pack_Word.f a0).bind fun bt108 => (if bt104.2 = 0 then (if bt106.2 = 0 then (if bt108.2 = 0 then (if (bt108.1 / 72057594037927936) = (IntKind.u64.wrap ((bt104.1 / 72057594037927936) + (bt106.1 / 72057594037927936))) then (if 0 ≤ (wrap64 (8 * (mx 0 (mn a1 (a0.size : Int))))) then (some ((Go.bits .and .u64 bt108.1 72057594037927935) == (Go.bits .and .u64 (Go.bits .or .u64 (Go.bits .and .u64 bt104.1 72057594037927935) (shl .u64 (Go.bits .and .u64 bt106.1 72057594037927935) (wrap64 (8 * (mx 0 (mn a1 (a0.size : Int))))))) 72057594037927935))) else (none)) else (some false)) else (some false)) else (some false)) else (some false))))) else (none)) else (none)) = some r := by rw [if_neg (show ¬ (false = true) by decide)] at H; exact H
        clear H
        have H := H1
        clear H1
        obtain ⟨ji8, hji8⟩ : ∃ j_ : Int, (mn a1 (a0.size : Int)) = j_ := ⟨_, rfl⟩
        replace H : (if 0 ≤ (mx 0 (ji8)) then (if (mx 0 (ji8)) ≤ (a0.size : Int) then ((pack_Word.f (a0.extract 0 ((mx 0 (ji8)) : Int).toNat)).bind fun bt104 => ((pack_Word.f (a0.extract ((mx 0 (ji8)) : Int).toNat a0.size)).bind fun bt106 => ((pack_Word.f a0).bind fun bt108 => (if bt104.2 = 0 then (if bt106.2 = 0 then (if bt108.2 = 0 then (if (bt108.1 / 72057594037927936) = (IntKind.u64.wrap ((bt104.1 / 72057594037927936) + (bt106.1 / 72057594037927936))) then (if 0 ≤ (wrap64 (8 * (mx 0 (ji8)))) then (some ((Go.bits .and .u64 bt108.1 72057594037927935) == (Go.bits .and .u64 (Go.bits .or .u64 (Go.bits .and .u64 bt104.1 72057594037927935) (shl .u64 (Go.bits .and .u64 bt106.1 72057594037927935) (wrap64 (8 * (mx 0 (ji8)))))) 72057594037927935))) else (none)) else (some false)) else (some false)) else (some false)) else (some false))))) else (none)) else (none)) = some r := by first | (rw [hji8] at H; exact H) | (simp only [hji8] at H ⊢; exact H)
        have hji8_ : (if (a0.size : Int) < a1 then (a0.size : Int) else a1) = ji8 := hji8
        obtain ⟨ji9, hji9⟩ : ∃ j_ : Int, (mx 0 (ji8)) = j_ := ⟨_, rfl⟩
        replace H : (if 0 ≤ (ji9) then (if (ji9) ≤ (a0.size : Int) then ((pack_Word.f (a0.extract 0 ((ji9) : Int).toNat)).bind fun bt104 => ((pack_Word.f (a0.extract ((ji9) : Int).toNat a0.size)).bind fun bt106 => ((pack_Word.f a0).bind fun bt108 => (if bt104.2 = 0 then (if bt106.2 = 0 then (if bt108.2 = 0 then (if (bt108.1 / 72057594037927936) = (IntKind.u64.wrap ((bt104.1 / 72057594037927936) + (bt106.1 / 72057594037927936))) then (if 0 ≤ (wrap64 (8 * (ji9))) then (some ((Go.bits .and .u64 bt108.1 72057594037927935) == (Go.bits .and .u64 (Go.bits .or .u64 (Go.bits .and .u64 bt104.1 72057594037927935) (shl .u64 (Go.bits .and .u64 bt106.1 72057594037927935) (wrap64 (8 * (ji9))))) 72057594037927935))) else (none)) else (some false)) else (some false)) else (some false)) else (some false))))) else (none)) else (none)) = some r := by first | (rw [hji9] at H; exact H) | (simp only [hji9] at H ⊢; exact H)
        have hji9_ : (if 0 < (ji8) then (ji8) else 0) = ji9 := hji9
        by_cases c10 : 0 ≤ (ji9)
        · rw [if_pos c10] at H
          have c10b0 := eq_true c10
          have c10b1 : decide (0 ≤ (ji9)) = true := decide_eq_true c10
          clear c10
          by_cases c11 : (ji9) ≤ (a0.size : Int)
          · rw [if_pos c11] at H
            have c11b0 := eq_true c11
            have c11b1 : decide ((ji9) ≤ (a0.size : Int)) = true := decide_eq_true c11
            clear c11
            replace H := Option.bind_eq_some_iff.mp H
            obtain ⟨⟨t104, t105⟩, A120, H⟩ := H
            replace H : ((pack_Word.f (a0.extract ((ji9) : Int).toNat a0.size)).bind fun bt106 => ((pack_Word.f a0).bind fun bt108 => (if t105 = 0 then (if bt106.2 = 0 then (if bt108.2 = 0 then (if (bt108.1 / 72057594037927936) = (IntKind.u64.wrap ((t104 / 72057594037927936) + (bt106.1 / 72057594037927936))) then (if 0 ≤ (wrap64 (8 * (ji9))) then (some ((Go.bits .and .u64 bt108.1 72057594037927935) == (Go.bits .and .u64 (Go.bits .or .u64 (Go.bits .and .u64 t104 72057594037927935) (shl .u64 (Go.bits .and .u64 bt106.1 72057594037927935) (wrap64 (8 * (ji9))))) 72057594037927935))) else (none)) else (some false)) else (some false)) else (some false)) else (some false)))) = some r := H
            have A12 := Aside0.mk A120
            clear A120
            have c13b0 := eq_true (of_decide_eq_true (by first | (with_reducible assumption) | assumption) : 0 ≤ (ji9))
            have c14b0 := eq_true (of_decide_eq_true (by first | (with_reducible assumption) | assumption) : (ji9) ≤ (a0.size : Int))
            replace H := Option.bind_eq_some_iff.mp H
            obtain ⟨⟨t106, t107⟩, A150, H⟩ := H
            replace H : ((pack_Word.f a0).bind fun bt108 => (if t105 = 0 then (if t107 = 0 then (if bt108.2 = 0 then (if (bt108.1 / 72057594037927936) = (IntKind.u64.wrap ((t104 / 72057594037927936) + (t106 / 72057594037927936))) then (if 0 ≤ (wrap64 (8 * (ji9))) then (some ((Go.bits .and .u64 bt108.1 72057594037927935) == (Go.bits .and .u64 (Go.bits .or .u64 (Go.bits .and .u64 t104 72057594037927935) (shl .u64 (Go.bits .and .u64 t106 72057594037927935) (wrap64 (8 * (ji9))))) 72057594037927935))) else (none)) else (some false)) else (some false)) else (some false)) else (some false))) = some r := H
            have A15 := Aside0.mk A150
            clear A150
            replace H := Option.bind_eq_some_iff.mp H
            obtain ⟨⟨t108, t109⟩, A160, H⟩ := H
            replace H : (if t105 = 0 then (if t107 = 0 then (if t109 = 0 then (if (t108 / 72057594037927936) = (IntKind.u64.wrap ((t104 / 72057594037927936) + (t106 / 72057594037927936))) then (if 0 ≤ (wrap64 (8 * (ji9))) then (some ((Go.bits .and .u64 t108 72057594037927935) == (Go.bits .and .u64 (Go.bits .or .u64 (Go.bits .and .u64 t104 72057594037927935) (shl .u64 (Go.bits .and .u64 t106 72057594037927935) (wrap64 (8 * (ji9))))) 72057594037927935))) else (none)) else (some false)) else (some false)) else (some false)) else (some false)) = some r := H
            have A16 := Aside0.mk A160
            clear A160
            by_cases c17 : t105 = 0
            · rw [if_pos c17] at H
              have c17b0 : (t105 == 0) = true := beq_iff_eq.mpr c17
              have c17b1 : (t105 != 0) = false := bne_eq_false_iff_eq.mpr c17
              clear c17
              by_cases c18 : t107 = 0
              · rw [if_pos c18] at H
                have c18b0 : (t107 == 0) = true := beq_iff_eq.mpr c18
                have c18b1 : (t107 != 0) = false := bne_eq_false_iff_eq.mpr c18
                clear c18
                by_cases c19 : t109 = 0
                · rw [if_pos c19] at H
                  have c19b0 : (t109 == 0) = true := beq_iff_eq.mpr c19
                  have c19b1 : (t109 != 0) = false := bne_eq_false_iff_eq.mpr c19
                  clear c19
                  by_cases c20 : (t108 / 72057594037927936) = (IntKind.u64.wrap ((t104 / 72057594037927936) + (t106 / 72057594037927936)))
                  · rw [if_pos c20] at H
                    have c20b0 : ((t108 / 72057594037927936) == (IntKind.u64.wrap ((t104 / 72057594037927936) + (t106 / 72057594037927936)))) = true := beq_iff_eq.mpr c20
                    have c20b1 : ((t108 / 72057594037927936) != (IntKind.u64.wrap ((t104 / 72057594037927936) + (t106 / 72057594037927936)))) = false := bne_eq_false_iff_eq.mpr c20
                    clear c20
                    obtain ⟨ji21, hji21⟩ : ∃ j_ : Int, (wrap64 (8 * (ji9))) = j_ := ⟨_, rfl⟩
                    replace H : (if 0 ≤ (ji21) then (some ((Go.bits .and .u64 t108 72057594037927935) == (Go.bits .and .u64 (Go.bits .or .u64 (Go.bits .and .u64 t104 72057594037927935) (shl .u64 (Go.bits .and .u64 t106 72057594037927935) (ji21))) 72057594037927935))) else (none)) = some r := by first | (rw [hji21] at H; exact H) | (simp only [hji21] at H ⊢; exact H)
                    (try rw [hji21] at A12)
                    (try rw [hji21] at A15)
                    (try rw [hji21] at A16)
                    have hji21w : (IntKind.i64.wrap (8 * (ji9))) = ji21 := (i64_w _).trans hji21
                    by_cases c22 : 0 ≤ (ji21)
                    · rw [if_pos c22] at H
                      have c22b0 := eq_true c22
                      have c22b1 : decide (0 ≤ (ji21)) = true := decide_eq_true c22
                      clear c22
                      obtain ⟨ji23, hji23⟩ : ∃ j_ : Int, (shl .u64 (Go.bits .and .u64 t106 72057594037927935) (ji21)) = j_ := ⟨_, rfl⟩
                      replace H : (some ((Go.bits .and .u64 t108 72057594037927935) == (Go.bits .and .u64 (Go.bits .or .u64 (Go.bits .and .u64 t104 72057594037927935) (ji23)) 72057594037927935))) = some r := by first | (rw [hji23] at H; exact H) | (simp only [hji23] at H ⊢; exact H)
                      (try rw [hji23] at A12)
                      (try rw [hji23] at A15)
                      (try rw [hji23] at A16)
                      have hji23_ : (IntKind.u64.wrap ((Go.bits .and .u64 t106 72057594037927935) * 2 ^ min (ji21).toNat 64)) = ji23 := hji23
                      have hji23z : (ji21) ≤ 64 → (IntKind.u64.wrap ((Go.bits .and .u64 t106 72057594037927935) * 2 ^ (ji21).toNat)) = ji23 := shl_small hji23
                      obtain rfl := Option.some.inj H
                      go_wp2_with (first | ((with_reducible refine gate_callee (f := 18) rfl ?_); refine goesL_ (some 32) rfl rfl Try.func18 (by kernel_rfl) rfl #[.string (a0.extract 0 ((ji9) : Int).toNat)] rfl (by (try simp only [List.map_toArray, List.map_cons, List.map_nil]); first | done | (simp only [hji9]; rfl) | rfl | (simp only [List.length_drop, List.length_take]; rfl)) ?_; (with_reducible refine (pack_Word.calls (a0.extract 0 ((ji9) : Int).toNat) t104 t105 _ A12.out).mono ?_); rintro e w24 ⟨rfl, hb⟩; refine ⟨_, rfl, ?_⟩; have n0_ := Aside0.mk (below_step (by repeat (first | (with_reducible first | exact HB.out | apply below_alloc | apply pw_below_drewN | apply below_drew1) | exact HB.out)) hb); clear HB; have HB := n0_; clear n0_; (try clear hb); (try clear hb2); (try clear hk); (try clear hi)) | ((with_reducible refine gate_callee (f := 18) rfl ?_); refine goesL_ (some 39) rfl rfl Try.func18 (by kernel_rfl) rfl #[.string (a0.extract ((ji9) : Int).toNat a0.size)] rfl (by (try simp only [List.map_toArray, List.map_cons, List.map_nil]); first | done | (simp only [hji9]; rfl) | rfl | (simp only [List.length_drop, List.length_take]; rfl)) ?_; (with_reducible refine (pack_Word.calls (a0.extract ((ji9) : Int).toNat a0.size) t106 t107 _ A15.out).mono ?_); rintro e w25 ⟨rfl, hb⟩; refine ⟨_, rfl, ?_⟩; have n0_ := Aside0.mk (below_step (by repeat (first | (with_reducible first | exact HB.out | apply below_alloc | apply pw_below_drewN | apply below_drew1) | exact HB.out)) hb); clear HB; have HB := n0_; clear n0_; (try clear hb); (try clear hb2); (try clear hk); (try clear hi)) | ((with_reducible refine gate_callee (f := 18) rfl ?_); refine goesL_ (some 44) rfl rfl Try.func18 (by kernel_rfl) rfl #[.string a0] rfl (by (try simp only [List.map_toArray, List.map_cons, List.map_nil]); first | done | rfl | (simp only [List.length_drop, List.length_take]; rfl)) ?_; (with_reducible refine (pack_Word.calls a0 t108 t109 _ A16.out).mono ?_); rintro e w26 ⟨rfl, hb⟩; refine ⟨_, rfl, ?_⟩; have n0_ := Aside0.mk (below_step (by repeat (first | (with_reducible first | exact HB.out | apply below_alloc | apply pw_below_drewN | apply below_drew1) | exact HB.out)) hb); clear HB; have HB := n0_; clear n0_; (try clear hb); (try clear hb2); (try clear hk); (try clear hi)))
                      go_ret
                      exact ⟨by first | rfl | (simp [errW_none, errW_some] <;> rfl) | (simp only [← hji8, ← hji9, ← hji21, ← hji23]; first | rfl | (simp [errW_none, errW_some] <;> rfl)) | (simp [*, errW_none, errW_some] <;> rfl), by repeat (first | (with_reducible first | exact HB.out | apply below_alloc | apply pw_below_drewN | apply below_drew1) | exact HB.out)⟩
                    · rw [if_neg c22] at H
                      exact absurd H (by simp)
                  · rw [if_neg c20] at H
                    have c20b0 : ((t108 / 72057594037927936) == (IntKind.u64.wrap ((t104 / 72057594037927936) + (t106 / 72057594037927936)))) = false := beq_eq_false_iff_ne.mpr c20
                    have c20b1 : ((t108 / 72057594037927936) != (IntKind.u64.wrap ((t104 / 72057594037927936) + (t106 / 72057594037927936)))) = true := bne_iff_ne.mpr c20
                    obtain rfl := Option.some.inj H
                    go_wp2_with (first | ((with_reducible refine gate_callee (f := 18) rfl ?_); refine goesL_ (some 32) rfl rfl Try.func18 (by kernel_rfl) rfl #[.string (a0.extract 0 ((ji9) : Int).toNat)] rfl (by (try simp only [List.map_toArray, List.map_cons, List.map_nil]); first | done | (simp only [hji9]; rfl) | rfl | (simp only [List.length_drop, List.length_take]; rfl)) ?_; (with_reducible refine (pack_Word.calls (a0.extract 0 ((ji9) : Int).toNat) t104 t105 _ A12.out).mono ?_); rintro e w27 ⟨rfl, hb⟩; refine ⟨_, rfl, ?_⟩; have n0_ := Aside0.mk (below_step (by repeat (first | (with_reducible first | exact HB.out | apply below_alloc | apply pw_below_drewN | apply below_drew1) | exact HB.out)) hb); clear HB; have HB := n0_; clear n0_; (try clear hb); (try clear hb2); (try clear hk); (try clear hi)) | ((with_reducible refine gate_callee (f := 18) rfl ?_); refine goesL_ (some 39) rfl rfl Try.func18 (by kernel_rfl) rfl #[.string (a0.extract ((ji9) : Int).toNat a0.size)] rfl (by (try simp only [List.map_toArray, List.map_cons, List.map_nil]); first | done | (simp only [hji9]; rfl) | rfl | (simp only [List.length_drop, List.length_take]; rfl)) ?_; (with_reducible refine (pack_Word.calls (a0.extract ((ji9) : Int).toNat a0.size) t106 t107 _ A15.out).mono ?_); rintro e w28 ⟨rfl, hb⟩; refine ⟨_, rfl, ?_⟩; have n0_ := Aside0.mk (below_step (by repeat (first | (with_reducible first | exact HB.out | apply below_alloc | apply pw_below_drewN | apply below_drew1) | exact HB.out)) hb); clear HB; have HB := n0_; clear n0_; (try clear hb); (try clear hb2); (try clear hk); (try clear hi)) | ((with_reducible refine gate_callee (f := 18) rfl ?_); refine goesL_ (some 44) rfl rfl Try.func18 (by kernel_rfl) rfl #[.string a0] rfl (by (try simp only [List.map_toArray, List.map_cons, List.map_nil]); first | done | rfl | (simp only [List.length_drop, List.length_take]; rfl)) ?_; (with_reducible refine (pack_Word.calls a0 t108 t109 _ A16.out).mono ?_); rintro e w29 ⟨rfl, hb⟩; refine ⟨_, rfl, ?_⟩; have n0_ := Aside0.mk (below_step (by repeat (first | (with_reducible first | exact HB.out | apply below_alloc | apply pw_below_drewN | apply below_drew1) | exact HB.out)) hb); clear HB; have HB := n0_; clear n0_; (try clear hb); (try clear hb2); (try clear hk); (try clear hi)))
                    go_ret
                    exact ⟨by first | rfl | (simp [errW_none, errW_some] <;> rfl) | (simp only [← hji8, ← hji9]; first | rfl | (simp [errW_none, errW_some] <;> rfl)) | (simp [*, errW_none, errW_some] <;> rfl), by repeat (first | (with_reducible first | exact HB.out | apply below_alloc | apply pw_below_drewN | apply below_drew1) | exact HB.out)⟩
                · rw [if_neg c19] at H
                  have c19b0 : (t109 == 0) = false := beq_eq_false_iff_ne.mpr c19
                  have c19b1 : (t109 != 0) = true := bne_iff_ne.mpr c19
                  obtain rfl := Option.some.inj H
                  go_wp2_with (first | ((with_reducible refine gate_callee (f := 18) rfl ?_); refine goesL_ (some 32) rfl rfl Try.func18 (by kernel_rfl) rfl #[.string (a0.extract 0 ((ji9) : Int).toNat)] rfl (by (try simp only [List.map_toArray, List.map_cons, List.map_nil]); first | done | (simp only [hji9]; rfl) | rfl | (simp only [List.length_drop, List.length_take]; rfl)) ?_; (with_reducible refine (pack_Word.calls (a0.extract 0 ((ji9) : Int).toNat) t104 t105 _ A12.out).mono ?_); rintro e w30 ⟨rfl, hb⟩; refine ⟨_, rfl, ?_⟩; have n0_ := Aside0.mk (below_step (by repeat (first | (with_reducible first | exact HB.out | apply below_alloc | apply pw_below_drewN | apply below_drew1) | exact HB.out)) hb); clear HB; have HB := n0_; clear n0_; (try clear hb); (try clear hb2); (try clear hk); (try clear hi)) | ((with_reducible refine gate_callee (f := 18) rfl ?_); refine goesL_ (some 39) rfl rfl Try.func18 (by kernel_rfl) rfl #[.string (a0.extract ((ji9) : Int).toNat a0.size)] rfl (by (try simp only [List.map_toArray, List.map_cons, List.map_nil]); first | done | (simp only [hji9]; rfl) | rfl | (simp only [List.length_drop, List.length_take]; rfl)) ?_; (with_reducible refine (pack_Word.calls (a0.extract ((ji9) : Int).toNat a0.size) t106 t107 _ A15.out).mono ?_); rintro e w31 ⟨rfl, hb⟩; refine ⟨_, rfl, ?_⟩; have n0_ := Aside0.mk (below_step (by repeat (first | (with_reducible first | exact HB.out | apply below_alloc | apply pw_below_drewN | apply below_drew1) | exact HB.out)) hb); clear HB; have HB := n0_; clear n0_; (try clear hb); (try clear hb2); (try clear hk); (try clear hi)) | ((with_reducible refine gate_callee (f := 18) rfl ?_); refine goesL_ (some 44) rfl rfl Try.func18 (by kernel_rfl) rfl #[.string a0] rfl (by (try simp only [List.map_toArray, List.map_cons, List.map_nil]); first | done | rfl | (simp only [List.length_drop, List.length_take]; rfl)) ?_; (with_reducible refine (pack_Word.calls a0 t108 t109 _ A16.out).mono ?_); rintro e w32 ⟨rfl, hb⟩; refine ⟨_, rfl, ?_⟩; have n0_ := Aside0.mk (below_step (by repeat (first | (with_reducible first | exact HB.out | apply below_alloc | apply pw_below_drewN | apply below_drew1) | exact HB.out)) hb); clear HB; have HB := n0_; clear n0_; (try clear hb); (try clear hb2); (try clear hk); (try clear hi)))
                  go_ret
                  exact ⟨by first | rfl | (simp [errW_none, errW_some] <;> rfl) | (simp only [← hji8, ← hji9]; first | rfl | (simp [errW_none, errW_some] <;> rfl)) | (simp [*, errW_none, errW_some] <;> rfl), by repeat (first | (with_reducible first | exact HB.out | apply below_alloc | apply pw_below_drewN | apply below_drew1) | exact HB.out)⟩
              · rw [if_neg c18] at H
                have c18b0 : (t107 == 0) = false := beq_eq_false_iff_ne.mpr c18
                have c18b1 : (t107 != 0) = true := bne_iff_ne.mpr c18
                obtain rfl := Option.some.inj H
                go_wp2_with (first | ((with_reducible refine gate_callee (f := 18) rfl ?_); refine goesL_ (some 32) rfl rfl Try.func18 (by kernel_rfl) rfl #[.string (a0.extract 0 ((ji9) : Int).toNat)] rfl (by (try simp only [List.map_toArray, List.map_cons, List.map_nil]); first | done | (simp only [hji9]; rfl) | rfl | (simp only [List.length_drop, List.length_take]; rfl)) ?_; (with_reducible refine (pack_Word.calls (a0.extract 0 ((ji9) : Int).toNat) t104 t105 _ A12.out).mono ?_); rintro e w33 ⟨rfl, hb⟩; refine ⟨_, rfl, ?_⟩; have n0_ := Aside0.mk (below_step (by repeat (first | (with_reducible first | exact HB.out | apply below_alloc | apply pw_below_drewN | apply below_drew1) | exact HB.out)) hb); clear HB; have HB := n0_; clear n0_; (try clear hb); (try clear hb2); (try clear hk); (try clear hi)) | ((with_reducible refine gate_callee (f := 18) rfl ?_); refine goesL_ (some 39) rfl rfl Try.func18 (by kernel_rfl) rfl #[.string (a0.extract ((ji9) : Int).toNat a0.size)] rfl (by (try simp only [List.map_toArray, List.map_cons, List.map_nil]); first | done | (simp only [hji9]; rfl) | rfl | (simp only [List.length_drop, List.length_take]; rfl)) ?_; (with_reducible refine (pack_Word.calls (a0.extract ((ji9) : Int).toNat a0.size) t106 t107 _ A15.out).mono ?_); rintro e w34 ⟨rfl, hb⟩; refine ⟨_, rfl, ?_⟩; have n0_ := Aside0.mk (below_step (by repeat (first | (with_reducible first | exact HB.out | apply below_alloc | apply pw_below_drewN | apply below_drew1) | exact HB.out)) hb); clear HB; have HB := n0_; clear n0_; (try clear hb); (try clear hb2); (try clear hk); (try clear hi)) | ((with_reducible refine gate_callee (f := 18) rfl ?_); refine goesL_ (some 44) rfl rfl Try.func18 (by kernel_rfl) rfl #[.string a0] rfl (by (try simp only [List.map_toArray, List.map_cons, List.map_nil]); first | done | rfl | (simp only [List.length_drop, List.length_take]; rfl)) ?_; (with_reducible refine (pack_Word.calls a0 t108 t109 _ A16.out).mono ?_); rintro e w35 ⟨rfl, hb⟩; refine ⟨_, rfl, ?_⟩; have n0_ := Aside0.mk (below_step (by repeat (first | (with_reducible first | exact HB.out | apply below_alloc | apply pw_below_drewN | apply below_drew1) | exact HB.out)) hb); clear HB; have HB := n0_; clear n0_; (try clear hb); (try clear hb2); (try clear hk); (try clear hi)))
                go_ret
                exact ⟨by first | rfl | (simp [errW_none, errW_some] <;> rfl) | (simp only [← hji8, ← hji9]; first | rfl | (simp [errW_none, errW_some] <;> rfl)) | (simp [*, errW_none, errW_some] <;> rfl), by repeat (first | (with_reducible first | exact HB.out | apply below_alloc | apply pw_below_drewN | apply below_drew1) | exact HB.out)⟩
            · rw [if_neg c17] at H
              have c17b0 : (t105 == 0) = false := beq_eq_false_iff_ne.mpr c17
              have c17b1 : (t105 != 0) = true := bne_iff_ne.mpr c17
              obtain rfl := Option.some.inj H
              go_wp2_with (first | ((with_reducible refine gate_callee (f := 18) rfl ?_); refine goesL_ (some 32) rfl rfl Try.func18 (by kernel_rfl) rfl #[.string (a0.extract 0 ((ji9) : Int).toNat)] rfl (by (try simp only [List.map_toArray, List.map_cons, List.map_nil]); first | done | (simp only [hji9]; rfl) | rfl | (simp only [List.length_drop, List.length_take]; rfl)) ?_; (with_reducible refine (pack_Word.calls (a0.extract 0 ((ji9) : Int).toNat) t104 t105 _ A12.out).mono ?_); rintro e w36 ⟨rfl, hb⟩; refine ⟨_, rfl, ?_⟩; have n0_ := Aside0.mk (below_step (by repeat (first | (with_reducible first | exact HB.out | apply below_alloc | apply pw_below_drewN | apply below_drew1) | exact HB.out)) hb); clear HB; have HB := n0_; clear n0_; (try clear hb); (try clear hb2); (try clear hk); (try clear hi)) | ((with_reducible refine gate_callee (f := 18) rfl ?_); refine goesL_ (some 39) rfl rfl Try.func18 (by kernel_rfl) rfl #[.string (a0.extract ((ji9) : Int).toNat a0.size)] rfl (by (try simp only [List.map_toArray, List.map_cons, List.map_nil]); first | done | (simp only [hji9]; rfl) | rfl | (simp only [List.length_drop, List.length_take]; rfl)) ?_; (with_reducible refine (pack_Word.calls (a0.extract ((ji9) : Int).toNat a0.size) t106 t107 _ A15.out).mono ?_); rintro e w37 ⟨rfl, hb⟩; refine ⟨_, rfl, ?_⟩; have n0_ := Aside0.mk (below_step (by repeat (first | (with_reducible first | exact HB.out | apply below_alloc | apply pw_below_drewN | apply below_drew1) | exact HB.out)) hb); clear HB; have HB := n0_; clear n0_; (try clear hb); (try clear hb2); (try clear hk); (try clear hi)) | ((with_reducible refine gate_callee (f := 18) rfl ?_); refine goesL_ (some 44) rfl rfl Try.func18 (by kernel_rfl) rfl #[.string a0] rfl (by (try simp only [List.map_toArray, List.map_cons, List.map_nil]); first | done | rfl | (simp only [List.length_drop, List.length_take]; rfl)) ?_; (with_reducible refine (pack_Word.calls a0 t108 t109 _ A16.out).mono ?_); rintro e w38 ⟨rfl, hb⟩; refine ⟨_, rfl, ?_⟩; have n0_ := Aside0.mk (below_step (by repeat (first | (with_reducible first | exact HB.out | apply below_alloc | apply pw_below_drewN | apply below_drew1) | exact HB.out)) hb); clear HB; have HB := n0_; clear n0_; (try clear hb); (try clear hb2); (try clear hk); (try clear hi)))
              go_ret
              exact ⟨by first | rfl | (simp [errW_none, errW_some] <;> rfl) | (simp only [← hji8, ← hji9]; first | rfl | (simp [errW_none, errW_some] <;> rfl)) | (simp [*, errW_none, errW_some] <;> rfl), by repeat (first | (with_reducible first | exact HB.out | apply below_alloc | apply pw_below_drewN | apply below_drew1) | exact HB.out)⟩
          · rw [if_neg c11] at H
            exact absurd H (by simp)
        · rw [if_neg c10] at H
          exact absurd H (by simp)

/-- THE ONE PURE STATEMENT of shellgamelaw4_PackJoin: yours. -/
def shellgamelaw4_PackJoin.Pure : Prop := ∀ (a0 : ByteArray) (a1 : Int), a0.size ≤ 140737488351232 → (Lit.int .i64 a1).wf = true → ∃ k, shellgamelaw4_PackJoin.f k a0 a1 = some true
theorem shellgamelaw4_PackJoin.walk (P : shellgamelaw4_PackJoin.Pure) (a0 : ByteArray) (a1 : Int) (w : World) (w0 : a0.size ≤ 140737488351232) (w1 : (Lit.int .i64 a1).wf = true) :
    Calls Try.prog 3 #[.string a0, .int .i64 a1] w fun e w' => e = .returned (.bool true) ∧ Below w.heap.size w w' := by
  obtain ⟨k, h⟩ := P a0 a1 w0 w1
  refine (shellgamelaw4_PackJoin.calls k a0 a1 true w h).mono ?_
  rintro e w' ⟨rfl, hd⟩
  exact ⟨rfl, hd⟩

end Go.Proofs.Ytjkifbadbadoaaa.PPackJoin
