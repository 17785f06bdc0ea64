-- Written by wip/printplus.py over contracts of this repo; not trusted: Lean checks it.
import Derived.Test.YtinfbkfdkpjdiaaPOpLongx0
import Derived.Test.YtinfbkfdkpjdiaaPOpLongx1
namespace Go.Proofs.Ytinfbkfdkpjdiaa.POpLong
open Go.Proofs.Ytinfbkfdkpjdiaa.Hand Go.RowKit Go.Proofs.YtinfbkfdkpjdiaaW.PrintWords Go.Proofs.YtinfbkfdkpjdiaaW.PrintLast Go.Proofs.YtinfbkfdkpjdiaaW.PrintMore
attribute [local go_sem] max2_int min2_int max_two min_two max_three min_three max_four min_four   -- for this text's walks alone
set_option linter.unusedVariables false
set_option linter.unusedSimpArgs false

attribute [local go_sem high] eqA27
-- given: function 10 (op_Bytes)

-- given: function 24 (pack_Word)

/-! ### shellgamelaw17_word: function 11 -/
def shellgamelaw17_word.f (a0 : ByteArray) : Option (Int) := (pack_Word.f a0).bind fun bt101 => (some bt101.1)
set_option maxHeartbeats 8000000 in
set_option maxRecDepth 100000 in
theorem shellgamelaw17_word.calls (a0 : ByteArray) (r : Int) (w : World) (h : shellgamelaw17_word.f a0 = some r) :
    Calls Try.prog 11 #[.string a0] w fun e w' => e = .returned (.int .u64 r) ∧ Below w.heap.size w w' := by
  have HB := Aside0.mk (Below.refl w.heap.size w)
  have H : ((pack_Word.f a0).bind fun bt101 => (some bt101.1)) = some r := h
  clear h
  replace H := Option.bind_eq_some_iff.mp H
  obtain ⟨⟨t101, t102⟩, A20, H⟩ := H
  replace H : (some t101) = some r := H
  have A2 := Aside0.mk A20
  clear A20
  obtain rfl := Option.some.inj H
  go_enter Try.func11, Try.ntmps11
  go_wp2_with (first | ((with_reducible refine gate_callee (f := 24) rfl ?_); refine goesL_ (some 7) rfl rfl Try.func24 (by kernel_rfl) rfl #[.string a0] rfl (by (try simp only [List.map_toArray, List.map_cons, List.map_nil]); first | done | rfl | (simp only [List.length_drop, List.length_take]; rfl)) ?_; (with_reducible refine (pack_Word.calls a0 t101 t102 _ A2.out).mono ?_); rintro e w3 ⟨rfl, hb⟩; refine ⟨_, rfl, ?_⟩; have n0_ := Aside0.mk (below_step (by repeat (first | (with_reducible first | exact HB.out | apply below_alloc | apply pw_below_drewN | apply below_drew1) | exact HB.out)) hb); clear HB; have HB := n0_; clear n0_; (try clear hb); (try clear hb2); (try clear hk); (try clear hi)))
  go_ret
  exact ⟨by first | rfl | (simp [errW_none, errW_some] <;> rfl) | (simp [*, errW_none, errW_some] <;> rfl), by repeat (first | (with_reducible first | exact HB.out | apply below_alloc | apply pw_below_drewN | apply below_drew1) | exact HB.out)⟩

/-! ### shellgamelaw17_shown: function 9 -/
def shellgamelaw17_shown.f  : Option (Bool) := (shellgamelaw17_word.f (⟨#[107]⟩ : ByteArray)).bind fun t103 => ((shellgamelaw17_word.f (⟨#[118, 118]⟩ : ByteArray)).bind fun t104 => ((op_Bytes.f 3 t103 t104 258).bind fun t105 => (some (t105.toList == ([80, 2, 1, 2, 118, 118, 1, 107] : List UInt8)))))
set_option maxHeartbeats 8000000 in
set_option maxRecDepth 100000 in
theorem shellgamelaw17_shown.calls  (r : Bool) (w : World) (h : shellgamelaw17_shown.f  = some r) :
    Calls Try.prog 9 #[] w fun e w' => e = .returned (.bool r) ∧ Below w.heap.size w w' := by
  have hu27 := Try.underlying27
  have HB := Aside0.mk (Below.refl w.heap.size w)
  have H : ((shellgamelaw17_word.f (⟨#[107]⟩ : ByteArray)).bind fun t103 => ((shellgamelaw17_word.f (⟨#[118, 118]⟩ : ByteArray)).bind fun t104 => ((op_Bytes.f 3 t103 t104 258).bind fun t105 => (some (t105.toList == ([80, 2, 1, 2, 118, 118, 1, 107] : List UInt8)))))) = some r := h
  clear h
  replace H := Option.bind_eq_some_iff.mp H
  obtain ⟨t103, A10, H⟩ := H
  replace H : ((shellgamelaw17_word.f (⟨#[118, 118]⟩ : ByteArray)).bind fun t104 => ((op_Bytes.f 3 t103 t104 258).bind fun t105 => (some (t105.toList == ([80, 2, 1, 2, 118, 118, 1, 107] : List UInt8))))) = some r := H
  have A1 := Aside0.mk A10
  clear A10
  replace H := Option.bind_eq_some_iff.mp H
  obtain ⟨t104, A20, H⟩ := H
  replace H : ((op_Bytes.f 3 t103 t104 258).bind fun t105 => (some (t105.toList == ([80, 2, 1, 2, 118, 118, 1, 107] : List UInt8)))) = some r := H
  have A2 := Aside0.mk A20
  clear A20
  replace H := Option.bind_eq_some_iff.mp H
  obtain ⟨t105, A30, H⟩ := H
  replace H : (some (t105.toList == ([80, 2, 1, 2, 118, 118, 1, 107] : List UInt8))) = some r := H
  have A3 := Aside0.mk A30
  clear A30
  obtain rfl := Option.some.inj H
  go_enter Try.func9, Try.ntmps9
  go_wp2_with (first | ((with_reducible refine gate_callee (f := 11) rfl ?_); refine goesL_ (some 1) rfl rfl Try.func11 (by kernel_rfl) rfl #[.string (⟨#[107]⟩ : ByteArray)] rfl (by (try simp only [List.map_toArray, List.map_cons, List.map_nil]); first | done | rfl | (simp only [List.length_drop, List.length_take]; rfl)) ?_; (with_reducible refine (shellgamelaw17_word.calls (⟨#[107]⟩ : ByteArray) t103 _ A1.out).mono ?_); rintro e w4 ⟨rfl, hb⟩; refine ⟨_, rfl, ?_⟩; have n0_ := Aside0.mk (below_step (by repeat (first | (with_reducible first | exact HB.out | apply below_alloc | apply pw_below_drewN | apply below_drew1) | exact HB.out)) hb); clear HB; have HB := n0_; clear n0_; (try clear hb); (try clear hb2); (try clear hk); (try clear hi)) | ((with_reducible refine gate_callee (f := 11) rfl ?_); refine goesL_ (some 2) rfl rfl Try.func11 (by kernel_rfl) rfl #[.string (⟨#[118, 118]⟩ : ByteArray)] rfl (by (try simp only [List.map_toArray, List.map_cons, List.map_nil]); first | done | rfl | (simp only [List.length_drop, List.length_take]; rfl)) ?_; (with_reducible refine (shellgamelaw17_word.calls (⟨#[118, 118]⟩ : ByteArray) t104 _ A2.out).mono ?_); rintro e w5 ⟨rfl, hb⟩; refine ⟨_, rfl, ?_⟩; have n0_ := Aside0.mk (below_step (by repeat (first | (with_reducible first | exact HB.out | apply below_alloc | apply pw_below_drewN | apply below_drew1) | exact HB.out)) hb); clear HB; have HB := n0_; clear n0_; (try clear hb); (try clear hb2); (try clear hk); (try clear hi)) | ((with_reducible refine gate_callee (f := 10) rfl ?_); refine goesL_ (some 4) rfl rfl Try.func10 (by kernel_rfl) rfl #[.agg #[.int .i64 3, .int .u64 t103, .int .u64 t104, .int .i64 258]] rfl (by (try simp only [List.map_toArray, List.map_cons, List.map_nil]); first | done | rfl | (simp only [List.length_drop, List.length_take]; rfl)) ?_; (with_reducible refine (op_Bytes.calls 3 t103 t104 258 t105 _ A3.out).mono ?_); rintro e w6 ⟨rfl, hb⟩; refine ⟨_, rfl, ?_⟩; have n0_ := Aside0.mk (below_step (by repeat (first | (with_reducible first | exact HB.out | apply below_alloc | apply pw_below_drewN | apply below_drew1) | exact HB.out)) hb); clear HB; have HB := n0_; clear n0_; (try clear hb); (try clear hb2); (try clear hk); (try clear hi)))
  go_ret
  exact ⟨by first | rfl | (simp [errW_none, errW_some] <;> rfl) | (simp [*, errW_none, errW_some] <;> rfl), by repeat (first | (with_reducible first | exact HB.out | apply below_alloc | apply pw_below_drewN | apply below_drew1) | exact HB.out)⟩

-- given: function 12 (op_Parse)

-- given: function 18 (pack_Text)

/-! ### shellgamelaw17_OpLong: function 7 -/
mutual
def shellgamelaw17_OpLong.j0 : Nat → Int → ByteArray → ByteArray → Int → Bool → Bool → Option (Bool)
  | 0, _, _, _, _, _, _ => none
  | k + 1, x0, x1, x2, x3, x9, x35 => if x35 = true then (some x9) else (if 0 ≤ x0 then (if x0 ≤ (wrap64 (x0 + 1)) then (if (wrap64 (x0 + 1)) ≤ 5 then (if x0 = 3 then ((some (([(x3) % 256, (wrap64 (Int.tdiv x3 256)) % 256, ((x2.size : Int)) % 256] : List Int) : List Int)).bind fun y107 => (if ((⟨#[63, 71, 75, 80, 68]⟩ : ByteArray).extract (x0 : Int).toNat ((wrap64 (x0 + 1)) : Int).toNat).size + (strOfNums y107).size ≤ 9223372036854775807 then (if (((⟨#[63, 71, 75, 80, 68]⟩ : ByteArray).extract (x0 : Int).toNat ((wrap64 (x0 + 1)) : Int).toNat) ++ (strOfNums y107)).size + x2.size ≤ 9223372036854775807 then (shellgamelaw17_OpLong.j1 k x0 x1 x2 ((((⟨#[63, 71, 75, 80, 68]⟩ : ByteArray).extract (x0 : Int).toNat ((wrap64 (x0 + 1)) : Int).toNat) ++ (strOfNums y107)) ++ x2)) else (none)) else (none))) else (shellgamelaw17_OpLong.j1 k x0 x1 x2 ((⟨#[63, 71, 75, 80, 68]⟩ : ByteArray).extract (x0 : Int).toNat ((wrap64 (x0 + 1)) : Int).toNat))) else (none)) else (none)) else (none))
def shellgamelaw17_OpLong.j1 : Nat → Int → ByteArray → ByteArray → ByteArray → Option (Bool)
  | 0, _, _, _, _ => none
  | k + 1, x0, x1, x2, x10 => (some (([((x1.size : Int)) % 256] : List Int) : List Int)).bind fun y110 => (if x10.size + (strOfNums y110).size ≤ 9223372036854775807 then (if (x10 ++ (strOfNums y110)).size + x1.size ≤ 9223372036854775807 then ((op_Parse.f ((x10 ++ (strOfNums y110)) ++ x1)).bind fun bt113 => (if (x1.size : Int) > 7 then (if bt113.2.2.2.2 = 4 then (some (bt113.1 == 0 && (bt113.2.1 == 0 && (bt113.2.2.1 == 0 && (bt113.2.2.2.1 == 0))))) else (some false)) else (if x0 = 3 then (if (x2.size : Int) > 7 then (if bt113.2.2.2.2 = 4 then (some (bt113.1 == 0 && (bt113.2.1 == 0 && (bt113.2.2.1 == 0 && (bt113.2.2.2.1 == 0))))) else (some false)) else ((pack_Text.f bt113.2.1).bind fun bt119 => (if bt113.2.2.2.2 = 0 then (if bt113.1 = x0 then (if bt119.1.toList = x1.toList then (if bt119.2 = 0 then (some true) else (some false)) else (some false)) else (some false)) else (some false)))) else ((pack_Text.f bt113.2.1).bind fun bt121 => (if bt113.2.2.2.2 = 0 then (if bt113.1 = x0 then (if bt121.1.toList = x1.toList then (if bt121.2 = 0 then (if bt113.2.2.1 = 0 then (some (bt113.2.2.2.1 == 0)) else (some false)) else (some false)) else (some false)) else (some false)) else (some false)))))) else (none)) else (none))
end
def shellgamelaw17_OpLong.f (k : Nat) (a0 : Int) (a1 : ByteArray) (a2 : ByteArray) (a3 : Int) : Option (Bool) := (shellgamelaw17_shown.f).bind fun t106 => (if t106 = true then (if a0 < 1 then (shellgamelaw17_OpLong.j0 k a0 a1 a2 a3 t106 true) else (if a0 > 4 then (shellgamelaw17_OpLong.j0 k a0 a1 a2 a3 t106 true) else (if (a1.size : Int) > 255 then (shellgamelaw17_OpLong.j0 k a0 a1 a2 a3 t106 true) else (shellgamelaw17_OpLong.j0 k a0 a1 a2 a3 t106 (decide ((a2.size : Int) > 255)))))) else (shellgamelaw17_OpLong.j0 k a0 a1 a2 a3 t106 true))
theorem shellgamelaw17_OpLong.mono_l : ∀ k, (∀ y0 y1 y2 y3 y4 y5, LeO (shellgamelaw17_OpLong.j0 k y0 y1 y2 y3 y4 y5) (shellgamelaw17_OpLong.j0 (k + 1) y0 y1 y2 y3 y4 y5)) ∧ (∀ y0 y1 y2 y3, LeO (shellgamelaw17_OpLong.j1 k y0 y1 y2 y3) (shellgamelaw17_OpLong.j1 (k + 1) y0 y1 y2 y3))
  | 0 => ⟨fun _ _ _ _ _ _ r h => by simp [shellgamelaw17_OpLong.j0] at h, fun _ _ _ _ r h => by simp [shellgamelaw17_OpLong.j1] at h⟩
  | k + 1 => by
    obtain ⟨ih0, ih1⟩ := shellgamelaw17_OpLong.mono_l k
    refine ⟨?_, ?_⟩
    · intro y0 y1 y2 y3 y4 y5
      unfold shellgamelaw17_OpLong.j0
      repeat' first
      | (with_reducible exact ih0 _ _ _ _ _ _)
      | (with_reducible exact ih1 _ _ _ _)
      | (with_reducible exact LeO.refl _)
      | (with_reducible exact LeO.none _)
      | (with_reducible refine LeO.ite ?_ ?_)
      | (with_reducible refine LeO.bind ?_ (fun _ => ?_))
      | exact ih0 _ _ _ _ _ _
      | exact ih1 _ _ _ _
      | exact LeO.none _
      | refine LeO.ite ?_ ?_
      | refine LeO.bind ?_ (fun _ => ?_)
    · intro y0 y1 y2 y3
      unfold shellgamelaw17_OpLong.j1
      repeat' first
      | (with_reducible exact ih0 _ _ _ _ _ _)
      | (with_reducible exact ih1 _ _ _ _)
      | (with_reducible exact LeO.refl _)
      | (with_reducible exact LeO.none _)
      | (with_reducible refine LeO.ite ?_ ?_)
      | (with_reducible refine LeO.bind ?_ (fun _ => ?_))
      | exact ih0 _ _ _ _ _ _
      | exact ih1 _ _ _ _
      | exact LeO.none _
      | refine LeO.ite ?_ ?_
      | refine LeO.bind ?_ (fun _ => ?_)
theorem shellgamelaw17_OpLong.mono : ∀ a0 a1 a2 a3 k, LeO (shellgamelaw17_OpLong.f k a0 a1 a2 a3) (shellgamelaw17_OpLong.f (k + 1) a0 a1 a2 a3) := by
  intro a0 a1 a2 a3 k
  obtain ⟨ih0, ih1⟩ := shellgamelaw17_OpLong.mono_l k
  unfold shellgamelaw17_OpLong.f
  repeat' first
      | (with_reducible exact ih0 _ _ _ _ _ _)
      | (with_reducible exact ih1 _ _ _ _)
      | (with_reducible exact LeO.refl _)
      | (with_reducible exact LeO.none _)
      | (with_reducible refine LeO.ite ?_ ?_)
      | (with_reducible refine LeO.bind ?_ (fun _ => ?_))
      | exact ih0 _ _ _ _ _ _
      | exact ih1 _ _ _ _
      | exact LeO.none _
      | refine LeO.ite ?_ ?_
      | refine LeO.bind ?_ (fun _ => ?_)
set_option maxHeartbeats 8000000 in
set_option maxRecDepth 100000 in
theorem shellgamelaw17_OpLong.calls (k : Nat) (a0 : Int) (a1 : ByteArray) (a2 : ByteArray) (a3 : Int) (r : Bool) (w : World) (hrT : Aside0 (r = true)) (h : shellgamelaw17_OpLong.f k a0 a1 a2 a3 = some r) :
    Calls Try.prog 7 #[.int .i64 a0, .string a1, .string a2, .int .i64 a3] w fun e w' => e = .returned (.bool r) ∧ Below w.heap.size w w' := by
  have hu27 := Try.underlying27
  have HB := Aside0.mk (Below.refl w.heap.size w)
  have H : ((shellgamelaw17_shown.f).bind fun t106 => (if t106 = true then (if a0 < 1 then (shellgamelaw17_OpLong.j0 k a0 a1 a2 a3 t106 true) else (if a0 > 4 then (shellgamelaw17_OpLong.j0 k a0 a1 a2 a3 t106 true) else (if (a1.size : Int) > 255 then (shellgamelaw17_OpLong.j0 k a0 a1 a2 a3 t106 true) else (shellgamelaw17_OpLong.j0 k a0 a1 a2 a3 t106 (decide ((a2.size : Int) > 255)))))) else (shellgamelaw17_OpLong.j0 k a0 a1 a2 a3 t106 true))) = some r := h
  clear h
  replace H := Option.bind_eq_some_iff.mp H
  obtain ⟨t106, A50, H⟩ := H
  replace H : (if t106 = true then (if a0 < 1 then (shellgamelaw17_OpLong.j0 k a0 a1 a2 a3 t106 true) else (if a0 > 4 then (shellgamelaw17_OpLong.j0 k a0 a1 a2 a3 t106 true) else (if (a1.size : Int) > 255 then (shellgamelaw17_OpLong.j0 k a0 a1 a2 a3 t106 true) else (shellgamelaw17_OpLong.j0 k a0 a1 a2 a3 t106 (decide ((a2.size : Int) > 255)))))) else (shellgamelaw17_OpLong.j0 k a0 a1 a2 a3 t106 true)) = some r := H
  have A5 := Aside0.mk A50
  clear A50
  have HC6 := Aside0.mk H
  clear H
  go_enter Try.func7, Try.ntmps7
  go_upto_region 2 with (first | ((with_reducible refine gate_callee (f := 9) rfl ?_); refine goesL_ (some 15) rfl rfl Try.func9 (by kernel_rfl) rfl #[] rfl (by (try simp only [List.map_toArray, List.map_cons, List.map_nil]); first | done | rfl | (simp only [List.length_drop, List.length_take]; rfl)) ?_; (with_reducible refine (shellgamelaw17_shown.calls  t106 _ A5.out).mono ?_); rintro e w7 ⟨rfl, hb⟩; refine ⟨_, rfl, ?_⟩; have n0_ := Aside0.mk (below_step (by repeat (first | (with_reducible first | exact HB.out | apply below_alloc | apply pw_below_drewN | apply below_drew1) | exact HB.out)) hb); clear HB; have HB := n0_; clear n0_; (try clear hb); (try clear hb2); (try clear hk); (try clear hi)))
  (try simp only [Act.put, List.setIfInBounds_toArray, List.set_cons_zero, List.set_cons_succ])
  go_cut [35] (fun v35 wc => ∃ (kq : Nat) (x35_5 : Bool), v35 = .bool x35_5 ∧ Aside0 (shellgamelaw17_OpLong.j0 kq a0 a1 a2 a3 t106 x35_5 = some r) ∧ Aside0 (kq ≤ k) ∧ Aside0 (Below w.heap.size w wc))
  case first =>
    have H := HC6.out
    clear HC6
    by_cases c8 : t106 = true
    · subst c8
      have H1 : (if a0 < 1 then (shellgamelaw17_OpLong.j0 k a0 a1 a2 a3 true true) else (if a0 > 4 then (shellgamelaw17_OpLong.j0 k a0 a1 a2 a3 true true) else (if (a1.size : Int) > 255 then (shellgamelaw17_OpLong.j0 k a0 a1 a2 a3 true true) else (shellgamelaw17_OpLong.j0 k a0 a1 a2 a3 true (decide ((a2.size : Int) > 255)))))) = some r := by rw [if_pos rfl] at H; exact H
      clear H
      have H := H1
      clear H1
      by_cases c9 : a0 < 1
      · rw [if_pos c9] at H
        have c9b0 : decide (a0 < 1) = true := decide_eq_true c9
        clear c9
        (first | rw [c9b0] | (simp only [i64_w, i32_w]; rw [c9b0]) | skip)
        have H' := Aside0.mk H
        clear H
        go_wp2
        go_meet
        case rel => exact ⟨_, (true), (by first | rfl | (simp; done) | (simp [*]; done)), H', ⟨by first | omega | exact Nat.le_refl _⟩, ⟨by repeat (first | (with_reducible first | exact HB.out | apply below_alloc | apply pw_below_drewN | apply below_drew1) | exact HB.out)⟩⟩
      · rw [if_neg c9] at H
        have c9b0 : decide (a0 < 1) = false := decide_eq_false c9
        clear c9
        (first | rw [c9b0] | (simp only [i64_w, i32_w]; rw [c9b0]) | skip)
        by_cases c10 : a0 > 4
        · rw [if_pos c10] at H
          have c10b0 : decide (4 < a0) = true := decide_eq_true c10
          clear c10
          have H' := Aside0.mk H
          clear H
          go_wp2
          go_meet
          case rel => exact ⟨_, (true), (by first | rfl | (simp; done) | (simp [*]; done)), H', ⟨by first | omega | exact Nat.le_refl _⟩, ⟨by repeat (first | (with_reducible first | exact HB.out | apply below_alloc | apply pw_below_drewN | apply below_drew1) | exact HB.out)⟩⟩
        · rw [if_neg c10] at H
          have c10b0 : decide (4 < a0) = false := decide_eq_false c10
          clear c10
          by_cases c11 : (a1.size : Int) > 255
          · rw [if_pos c11] at H
            have c11b0 : decide (255 < (a1.size : Int)) = true := decide_eq_true c11
            have c11b1 : decide (255 < a1.size) = true := decide_eq_true (by omega)
            clear c11
            have H' := Aside0.mk H
            clear H
            go_wp2
            go_meet
            case rel => exact ⟨_, (true), (by first | rfl | (simp; done) | (simp [*]; done)), H', ⟨by first | omega | exact Nat.le_refl _⟩, ⟨by repeat (first | (with_reducible first | exact HB.out | apply below_alloc | apply pw_below_drewN | apply below_drew1) | exact HB.out)⟩⟩
          · rw [if_neg c11] at H
            have c11b0 : decide (255 < (a1.size : Int)) = false := decide_eq_false c11
            have c11b1 : decide (255 < a1.size) = false := decide_eq_false (by omega)
            clear c11
            have H' := Aside0.mk H
            clear H
            go_wp2
            go_meet
            case rel => exact ⟨_, (decide ((a2.size : Int) > 255)), (by first | rfl | (simp; done) | (simp [*]; done)), H', ⟨by first | omega | exact Nat.le_refl _⟩, ⟨by repeat (first | (with_reducible first | exact HB.out | apply below_alloc | apply pw_below_drewN | apply below_drew1) | exact HB.out)⟩⟩
    · replace c8 := Bool.eq_false_iff.mpr c8
      subst c8
      have H1 : (shellgamelaw17_OpLong.j0 k a0 a1 a2 a3 false true) = some r := by rw [if_neg (show ¬ (false = true) by decide)] at H; exact H
      clear H
      have H := H1
      clear H1
      have H' := Aside0.mk H
      clear H
      go_wp2
      go_meet
      case rel => exact ⟨_, (true), (by first | rfl | (simp; done) | (simp [*]; done)), H', ⟨by first | omega | exact Nat.le_refl _⟩, ⟨by repeat (first | (with_reducible first | exact HB.out | apply below_alloc | apply pw_below_drewN | apply below_drew1) | exact HB.out)⟩⟩
  case rest =>
    clear HC6
    try clear c1
    try clear p2
    try clear c7
    try clear c8
    try clear c9
    try clear c9b0
    try clear c10
    try clear c10b0
    try clear c11
    try clear c11b0
    try clear c11b1
    obtain ⟨kq, x35_5, rfl, HA, HJ5, HB⟩ := hcut
    cases kq with
    | zero => exact absurd HA.out (by simp [shellgamelaw17_OpLong.j0])
    | succ kj5 =>
      have H := HA.out
      clear HA
      simp only [shellgamelaw17_OpLong.j0] at H
      by_cases c12 : x35_5 = true
      · subst c12
        have H1 : (some t106) = some r := by rw [if_pos rfl] at H; exact H
        clear H
        have H := H1
        clear H1
        obtain rfl := Option.some.inj H
        go_wp2
        go_ret
        exact ⟨by first | rfl | (simp [errW_none, errW_some] <;> rfl) | (simp [*, errW_none, errW_some] <;> rfl), by repeat (first | (with_reducible first | exact HB.out | apply below_alloc | apply pw_below_drewN | apply below_drew1) | exact HB.out)⟩
      · replace c12 := Bool.eq_false_iff.mpr c12
        subst c12
        have H1 : (if 0 ≤ a0 then (if a0 ≤ (wrap64 (a0 + 1)) then (if (wrap64 (a0 + 1)) ≤ 5 then (if a0 = 3 then ((some (([(a3) % 256, (wrap64 (Int.tdiv a3 256)) % 256, ((a2.size : Int)) % 256] : List Int) : List Int)).bind fun y107 => (if ((⟨#[63, 71, 75, 80, 68]⟩ : ByteArray).extract (a0 : Int).toNat ((wrap64 (a0 + 1)) : Int).toNat).size + (strOfNums y107).size ≤ 9223372036854775807 then (if (((⟨#[63, 71, 75, 80, 68]⟩ : ByteArray).extract (a0 : Int).toNat ((wrap64 (a0 + 1)) : Int).toNat) ++ (strOfNums y107)).size + a2.size ≤ 9223372036854775807 then (shellgamelaw17_OpLong.j1 kj5 a0 a1 a2 ((((⟨#[63, 71, 75, 80, 68]⟩ : ByteArray).extract (a0 : Int).toNat ((wrap64 (a0 + 1)) : Int).toNat) ++ (strOfNums y107)) ++ a2)) else (none)) else (none))) else (shellgamelaw17_OpLong.j1 kj5 a0 a1 a2 ((⟨#[63, 71, 75, 80, 68]⟩ : ByteArray).extract (a0 : Int).toNat ((wrap64 (a0 + 1)) : Int).toNat))) else (none)) else (none)) else (none)) = some r := by rw [if_neg (show ¬ (false = true) by decide)] at H; exact H
        clear H
        have H := H1
        clear H1
        by_cases c13 : 0 ≤ a0
        · rw [if_pos c13] at H
          have c13b0 := eq_true c13
          have c13b1 : decide (0 ≤ a0) = true := decide_eq_true c13
          clear c13
          by_cases c14 : a0 ≤ (wrap64 (a0 + 1))
          · rw [if_pos c14] at H
            have c14b0 := eq_true c14
            have c14b1 : decide (a0 ≤ (wrap64 (a0 + 1))) = true := decide_eq_true c14
            by_cases c15 : (wrap64 (a0 + 1)) ≤ 5
            · rw [if_pos c15] at H
              have c15b0 := eq_true c15
              have c15b1 : decide ((wrap64 (a0 + 1)) ≤ 5) = true := decide_eq_true c15
              have HC16 := Aside0.mk H
              clear H
              go_upto_if 42 with (fail)
              go_cut [10] (fun v10 wc => ∃ (kq : Nat) (x10_15 : ByteArray), v10 = .string x10_15 ∧ Aside0 (shellgamelaw17_OpLong.j1 kq a0 a1 a2 x10_15 = some r) ∧ Aside0 (kq ≤ kj5) ∧ Aside0 (Below w.heap.size w wc))
              case first =>
                have H := HC16.out
                clear HC16
                by_cases c17 : a0 = 3
                · rw [if_pos c17] at H
                  have c17b0 : (a0 == 3) = true := beq_iff_eq.mpr c17
                  have c17b1 : (a0 != 3) = false := bne_eq_false_iff_eq.mpr c17
                  clear c17
                  (first | rw [c17b0] | (simp only [i64_w, i32_w]; rw [c17b0]) | skip)
                  obtain ⟨y107, hy107⟩ : ∃ y_ : List Int, y_ = (([(a3) % 256, (wrap64 (Int.tdiv a3 256)) % 256, ((a2.size : Int)) % 256] : List Int)) := ⟨_, rfl⟩
                  replace H : (if ((⟨#[63, 71, 75, 80, 68]⟩ : ByteArray).extract (a0 : Int).toNat ((wrap64 (a0 + 1)) : Int).toNat).size + (strOfNums y107).size ≤ 9223372036854775807 then (if (((⟨#[63, 71, 75, 80, 68]⟩ : ByteArray).extract (a0 : Int).toNat ((wrap64 (a0 + 1)) : Int).toNat) ++ (strOfNums y107)).size + a2.size ≤ 9223372036854775807 then (shellgamelaw17_OpLong.j1 kj5 a0 a1 a2 ((((⟨#[63, 71, 75, 80, 68]⟩ : ByteArray).extract (a0 : Int).toNat ((wrap64 (a0 + 1)) : Int).toNat) ++ (strOfNums y107)) ++ a2)) else (none)) else (none)) = some r := by first | (rw [hy107]; with_reducible exact H) | (have H2_ := (Option.bind_some _ _).symm.trans H; rw [hy107]; with_reducible exact H2_) | (have H2_ := (Option.bind_some _ _).symm.trans H; with_reducible exact H2_) | with_reducible exact H | (rw [hy107]; exact H) | exact H
                  have Ny107 := Aside0.mk hy107
                  clear hy107
                  by_cases c18 : ((⟨#[63, 71, 75, 80, 68]⟩ : ByteArray).extract (a0 : Int).toNat ((wrap64 (a0 + 1)) : Int).toNat).size + (strOfNums y107).size ≤ 9223372036854775807
                  · rw [if_pos c18] at H
                    have c18b0 := eq_true c18
                    have c18b1 : decide (((⟨#[63, 71, 75, 80, 68]⟩ : ByteArray).extract (a0 : Int).toNat ((wrap64 (a0 + 1)) : Int).toNat).size + (strOfNums y107).size ≤ 9223372036854775807) = true := decide_eq_true c18
                    try have c18b2 : (9223372036854775807 < ((⟨#[63, 71, 75, 80, 68]⟩ : ByteArray).extract (a0 : Int).toNat ((wrap64 (a0 + 1)) : Int).toNat).size + (strOfNums y107).size) = False := eq_false (Nat.not_lt.2 c18)
                    by_cases c19 : (((⟨#[63, 71, 75, 80, 68]⟩ : ByteArray).extract (a0 : Int).toNat ((wrap64 (a0 + 1)) : Int).toNat) ++ (strOfNums y107)).size + a2.size ≤ 9223372036854775807
                    · rw [if_pos c19] at H
                      have c19b0 := eq_true c19
                      have c19b1 : decide ((((⟨#[63, 71, 75, 80, 68]⟩ : ByteArray).extract (a0 : Int).toNat ((wrap64 (a0 + 1)) : Int).toNat) ++ (strOfNums y107)).size + a2.size ≤ 9223372036854775807) = true := decide_eq_true c19
                      try have c19b2 : (9223372036854775807 < (((⟨#[63, 71, 75, 80, 68]⟩ : ByteArray).extract (a0 : Int).toNat ((wrap64 (a0 + 1)) : Int).toNat) ++ (strOfNums y107)).size + a2.size) = False := eq_false (Nat.not_lt.2 c19)
                      have H' := Aside0.mk H
                      clear H
                      go_wp2_with (first | ((with_reducible refine gate_dst (N := 52) rfl ?_); (try (refine gate_guard (by rfl) ?_; dsimp only)); refine Kd.R_lit (Kd.int .u8) _ 5 ?hg (N := 52) ?hd (xs := ([(a3) % 256, (wrap64 (Int.tdiv a3 256)) % 256, ((a2.size : Int)) % 256] : List Int)) (inner := [.int .u8 ((a3) % 256), .int .u8 ((wrap64 (Int.tdiv a3 256)) % 256), .int .u8 (((a2.size : Int)) % 256)]) (ok := fun _ => True) (okp := fun _ => True) ?hr ?hp (fun _ hk => hk) trivial (Below.refl _ _) (Nat.le_refl _) (by simp) ?_; (case hd => rfl); (case hg => rfl); (case hr => first | (go_simp; done) | (go_simp; rfl)); (case hp => exact (Reps.one (show Kd.M (Kd.int .u8) _ _ _ ((a3) % 256) [.int .u8 ((a3) % 256)] from rfl) (Reps.one (show Kd.M (Kd.int .u8) _ _ _ ((wrap64 (Int.tdiv a3 256)) % 256) [.int .u8 ((wrap64 (Int.tdiv a3 256)) % 256)] from rfl) (Reps.one (show Kd.M (Kd.int .u8) _ _ _ (((a2.size : Int)) % 256) [.int .u8 (((a2.size : Int)) % 256)] from rfl) (Reps.none _ _))))); intro v108 w20 ho21 hb hg_ hnew_; clear hg_ hnew_; (first | rw [← Ny107.out] at ho21 | (simp only [Int.reduceToNat] at ho21; rw [← Ny107.out] at ho21)); have n0_ := Aside0.mk (Kd.R_lower ho21 (below_size (by repeat (first | (with_reducible first | exact HB.out | apply below_alloc | apply pw_below_drewN | apply below_drew1) | exact HB.out)))); have n1_ := Aside0.mk (below_step (by repeat (first | (with_reducible first | exact HB.out | apply below_alloc | apply pw_below_drewN | apply below_drew1) | exact HB.out)) hb); clear HB; have HO109 := n0_; have HB := n1_; clear n0_ n1_; clear hb ho21; have hcv22 := own_string (P := Try.prog) Try.underlying41 Try.underlying5 Try.underlying9 (Kd.own_of_R HO109.out)))
                      go_meet
                      case rel => exact ⟨_, ((((⟨#[63, 71, 75, 80, 68]⟩ : ByteArray).extract (a0 : Int).toNat ((wrap64 (a0 + 1)) : Int).toNat) ++ (strOfNums y107)) ++ a2), (by first | rfl | (simp; done) | (simp [*]; done)), H', ⟨by have := HJ5.out; first | omega | exact Nat.le_refl _⟩, ⟨by repeat (first | (with_reducible first | exact HB.out | apply below_alloc | apply pw_below_drewN | apply below_drew1) | exact HB.out)⟩⟩
                    · rw [if_neg c19] at H
                      exact absurd H (by simp)
                  · rw [if_neg c18] at H
                    exact absurd H (by simp)
                · rw [if_neg c17] at H
                  have c17b0 : (a0 == 3) = false := beq_eq_false_iff_ne.mpr c17
                  have c17b1 : (a0 != 3) = true := bne_iff_ne.mpr c17
                  (first | rw [c17b0] | (simp only [i64_w, i32_w]; rw [c17b0]) | skip)
                  have H' := Aside0.mk H
                  clear H
                  go_wp2
                  go_meet
                  case rel => exact ⟨_, ((⟨#[63, 71, 75, 80, 68]⟩ : ByteArray).extract (a0 : Int).toNat ((wrap64 (a0 + 1)) : Int).toNat), (by first | rfl | (simp; done) | (simp [*]; done)), H', ⟨by have := HJ5.out; first | omega | exact Nat.le_refl _⟩, ⟨by repeat (first | (with_reducible first | exact HB.out | apply below_alloc | apply pw_below_drewN | apply below_drew1) | exact HB.out)⟩⟩
              case rest =>
                clear HC16
                try clear c1
                try clear p2
                try clear hcv2
                try clear p6
                try clear c7
                try clear c8
                try clear c9
                try clear c9b0
                try clear c10
                try clear c10b0
                try clear c11
                try clear c11b0
                try clear c11b1
                try clear c12
                try clear c13
                try clear c13b0
                try clear c13b1
                try clear c14
                try clear c14b0
                try clear c14b1
                try clear c15
                try clear c15b0
                try clear c15b1
                try clear c17
                try clear c17b0
                try clear c17b1
                try clear c18
                try clear c18b0
                try clear c18b1
                try clear c18b2
                try clear c19
                try clear c19b0
                try clear c19b1
                try clear c19b2
                try clear hcv22
                try clear p2
                obtain ⟨kq, x10_15, rfl, HA, HJ15, HB⟩ := hcut
                cases kq with
                | zero => exact absurd HA.out (by simp [shellgamelaw17_OpLong.j1])
                | succ kj15 =>
                  have H := HA.out
                  clear HA
                  simp only [shellgamelaw17_OpLong.j1] at H
                  obtain ⟨y110, hy110⟩ : ∃ y_ : List Int, y_ = (([((a1.size : Int)) % 256] : List Int)) := ⟨_, rfl⟩
                  replace H : (if x10_15.size + (strOfNums y110).size ≤ 9223372036854775807 then (if (x10_15 ++ (strOfNums y110)).size + a1.size ≤ 9223372036854775807 then ((op_Parse.f ((x10_15 ++ (strOfNums y110)) ++ a1)).bind fun bt113 => (if (a1.size : Int) > 7 then (if bt113.2.2.2.2 = 4 then (some (bt113.1 == 0 && (bt113.2.1 == 0 && (bt113.2.2.1 == 0 && (bt113.2.2.2.1 == 0))))) else (some false)) else (if a0 = 3 then (if (a2.size : Int) > 7 then (if bt113.2.2.2.2 = 4 then (some (bt113.1 == 0 && (bt113.2.1 == 0 && (bt113.2.2.1 == 0 && (bt113.2.2.2.1 == 0))))) else (some false)) else ((pack_Text.f bt113.2.1).bind fun bt119 => (if bt113.2.2.2.2 = 0 then (if bt113.1 = a0 then (if bt119.1.toList = a1.toList then (if bt119.2 = 0 then (some true) else (some false)) else (some false)) else (some false)) else (some false)))) else ((pack_Text.f bt113.2.1).bind fun bt121 => (if bt113.2.2.2.2 = 0 then (if bt113.1 = a0 then (if bt121.1.toList = a1.toList then (if bt121.2 = 0 then (if bt113.2.2.1 = 0 then (some (bt113.2.2.2.1 == 0)) else (some false)) else (some false)) else (some false)) else (some false)) else (some false)))))) else (none)) else (none)) = some r := by first | (rw [hy110]; with_reducible exact H) | (have H2_ := (Option.bind_some _ _).symm.trans H; rw [hy110]; with_reducible exact H2_) | (have H2_ := (Option.bind_some _ _).symm.trans H; with_reducible exact H2_) | with_reducible exact H | (rw [hy110]; exact H) | exact H
                  have Ny110 := Aside0.mk hy110
                  clear hy110
                  by_cases c23 : x10_15.size + (strOfNums y110).size ≤ 9223372036854775807
                  · rw [if_pos c23] at H
                    have c23b0 := eq_true c23
                    have c23b1 : decide (x10_15.size + (strOfNums y110).size ≤ 9223372036854775807) = true := decide_eq_true c23
                    try have c23b2 : (9223372036854775807 < x10_15.size + (strOfNums y110).size) = False := eq_false (Nat.not_lt.2 c23)
                    by_cases c24 : (x10_15 ++ (strOfNums y110)).size + a1.size ≤ 9223372036854775807
                    · rw [if_pos c24] at H
                      have c24b0 := eq_true c24
                      have c24b1 : decide ((x10_15 ++ (strOfNums y110)).size + a1.size ≤ 9223372036854775807) = true := decide_eq_true c24
                      try have c24b2 : (9223372036854775807 < (x10_15 ++ (strOfNums y110)).size + a1.size) = False := eq_false (Nat.not_lt.2 c24)
                      replace H := Option.bind_eq_some_iff.mp H
                      obtain ⟨⟨t113, t114, t115, t116, t117⟩, A250, H⟩ := H
                      replace H : (if (a1.size : Int) > 7 then (if t117 = 4 then (some (t113 == 0 && (t114 == 0 && (t115 == 0 && (t116 == 0))))) else (some false)) else (if a0 = 3 then (if (a2.size : Int) > 7 then (if t117 = 4 then (some (t113 == 0 && (t114 == 0 && (t115 == 0 && (t116 == 0))))) else (some false)) else ((pack_Text.f t114).bind fun bt119 => (if t117 = 0 then (if t113 = a0 then (if bt119.1.toList = a1.toList then (if bt119.2 = 0 then (some true) else (some false)) else (some false)) else (some false)) else (some false)))) else ((pack_Text.f t114).bind fun bt121 => (if t117 = 0 then (if t113 = a0 then (if bt121.1.toList = a1.toList then (if bt121.2 = 0 then (if t115 = 0 then (some (t116 == 0)) else (some false)) else (some false)) else (some false)) else (some false)) else (some false))))) = some r := H
                      have A25 := Aside0.mk A250
                      clear A250
                      by_cases c26 : (a1.size : Int) > 7
                      · rw [if_pos c26] at H
                        have c26b0 : decide (7 < (a1.size : Int)) = true := decide_eq_true c26
                        have c26b1 : decide (7 < a1.size) = true := decide_eq_true (by omega)
                        clear c26
                        by_cases c27 : t117 = 4
                        · rw [if_pos c27] at H
                          have c27b0 : (t117 == 4) = true := beq_iff_eq.mpr c27
                          have c27b1 : (t117 != 4) = false := bne_eq_false_iff_eq.mpr c27
                          clear c27
                          obtain rfl := Option.some.inj H
                          go_wp2_with (first | ((with_reducible refine gate_dst (N := 61) rfl ?_); (try (refine gate_guard (by rfl) ?_; dsimp only)); refine Kd.R_lit (Kd.int .u8) _ 5 ?hg (N := 61) ?hd (xs := ([((a1.size : Int)) % 256] : List Int)) (inner := [.int .u8 (((a1.size : Int)) % 256)]) (ok := fun _ => True) (okp := fun _ => True) ?hr ?hp (fun _ hk => hk) trivial (Below.refl _ _) (Nat.le_refl _) (by simp) ?_; (case hd => rfl); (case hg => rfl); (case hr => first | (go_simp; done) | (go_simp; rfl)); (case hp => exact (Reps.one (show Kd.M (Kd.int .u8) _ _ _ (((a1.size : Int)) % 256) [.int .u8 (((a1.size : Int)) % 256)] from rfl) (Reps.none _ _))); intro v111 w28 ho29 hb hg_ hnew_; clear hg_ hnew_; (first | rw [← Ny110.out] at ho29 | (simp only [Int.reduceToNat] at ho29; rw [← Ny110.out] at ho29)); have n0_ := Aside0.mk (Kd.R_lower ho29 (below_size (by repeat (first | (with_reducible first | exact HB.out | apply below_alloc | apply pw_below_drewN | apply below_drew1) | exact HB.out)))); have n1_ := Aside0.mk (below_step (by repeat (first | (with_reducible first | exact HB.out | apply below_alloc | apply pw_below_drewN | apply below_drew1) | exact HB.out)) hb); clear HB; have HO112 := n0_; have HB := n1_; clear n0_ n1_; clear hb ho29; have hcv30 := own_string (P := Try.prog) Try.underlying41 Try.underlying5 Try.underlying9 (Kd.own_of_R HO112.out)) | ((with_reducible refine gate_callee (f := 12) rfl ?_); refine goesL_ (some 68) rfl rfl Try.func12 (by kernel_rfl) rfl #[.string ((x10_15 ++ (strOfNums y110)) ++ a1)] rfl (by (try simp only [List.map_toArray, List.map_cons, List.map_nil]); first | done | rfl | (simp only [List.length_drop, List.length_take]; rfl)) ?_; (with_reducible refine (op_Parse.calls ((x10_15 ++ (strOfNums y110)) ++ a1) t113 t114 t115 t116 t117 _ A25.out).mono ?_); rintro e w31 ⟨rfl, hb⟩; refine ⟨_, rfl, ?_⟩; have n0_ := Aside0.mk (Kd.R_below (by (with_reducible repeat (first | apply Kd.R_alloc | apply Kd.R_drewN | apply Kd.R_drew)); exact HO112.out) hb); have n1_ := Aside0.mk (below_step (by repeat (first | (with_reducible first | exact HB.out | apply below_alloc | apply pw_below_drewN | apply below_drew1) | exact HB.out)) hb); clear HO112; clear HB; have HO112 := n0_; have HB := n1_; clear n0_ n1_; (try clear hb); (try clear hb2); (try clear hk); (try clear hi)) | ((with_reducible refine gate_dst (N := 11) rfl ?_); (try (refine gate_guard (by rfl) ?_; dsimp only)); refine box_event ?hg (N := 11) ?hd (cs := #[.int .i64 0, .int .u64 0, .int .u64 0, .int .i64 0]) (t := 27) ?hr ?_; (case hd => rfl); (case hg => rfl); (case hr => first | (go_simp; done) | (go_simp; rfl)); intro gb118 hg w32 hbox hb; have n0_ := Aside0.mk (Kd.R_below (by (with_reducible repeat (first | apply Kd.R_alloc | apply Kd.R_drewN | apply Kd.R_drew)); exact HO112.out) hb); have n1_ := Aside0.mk (below_step (by repeat (first | (with_reducible first | exact HB.out | apply below_alloc | apply pw_below_drewN | apply below_drew1) | exact HB.out)) hb); have n2_ := Aside0.mk (hbox); have n3_ := Aside0.mk ((by rw [hg]; exact (below_size (by repeat (first | (with_reducible first | exact HB.out | apply below_alloc | apply pw_below_drewN | apply below_drew1) | exact HB.out))) : w.heap.size ≤ gb118)); have n4_ := Aside0.mk ((by rw [hg]; exact (below_size (by repeat (first | (with_reducible first | exact HB.out | apply below_alloc | apply pw_below_drewN | apply below_drew1) | exact HB.out))) : w.heap.size ≤ gb118)); clear HO112; clear HB; have HO112 := n0_; have HB := n1_; have BK118 := n2_; have GW118 := n3_; have GE118 := n4_; clear n0_ n1_ n2_ n3_ n4_; clear hb hbox hg; have hcz33_0 : w32.cell? ⟨gb118, 0, none⟩ = some (.int .i64 0) := (blk_cell BK118.out 0).trans rfl; have hcz33_1 : w32.cell? ⟨gb118, 1, none⟩ = some (.int .u64 0) := (blk_cell BK118.out 1).trans rfl; have hcz33_2 : w32.cell? ⟨gb118, 2, none⟩ = some (.int .u64 0) := (blk_cell BK118.out 2).trans rfl; have hcz33_3 : w32.cell? ⟨gb118, 3, none⟩ = some (.int .i64 0) := (blk_cell BK118.out 3).trans rfl; have hfz33_0 := blk_frozen BK118.out 0; have hfz33_1 := blk_frozen BK118.out 1; have hfz33_2 := blk_frozen BK118.out 2; have hfz33_3 := blk_frozen BK118.out 3))
                          go_ret
                          exact ⟨by first | rfl | (simp [errW_none, errW_some] <;> rfl) | (simp [*, errW_none, errW_some] <;> rfl), by repeat (first | (with_reducible first | exact HB.out | apply below_alloc | apply pw_below_drewN | apply below_drew1 | refine below_set ?_ GE118.out) | exact HB.out)⟩
                        · rw [if_neg c27] at H
                          have c27b0 : (t117 == 4) = false := beq_eq_false_iff_ne.mpr c27
                          have c27b1 : (t117 != 4) = true := bne_iff_ne.mpr c27
                          rw [hrT.out] at H
                          exact absurd H (by simp)
                      · rw [if_neg c26] at H
                        have c26b0 : decide (7 < (a1.size : Int)) = false := decide_eq_false c26
                        have c26b1 : decide (7 < a1.size) = false := decide_eq_false (by omega)
                        clear c26
                        by_cases c34 : a0 = 3
                        · rw [if_pos c34] at H
                          have c34b0 : (a0 == 3) = true := beq_iff_eq.mpr c34
                          have c34b1 : (a0 != 3) = false := bne_eq_false_iff_eq.mpr c34
                          clear c34
                          by_cases c35 : (a2.size : Int) > 7
                          · rw [if_pos c35] at H
                            have c35b0 : decide (7 < (a2.size : Int)) = true := decide_eq_true c35
                            have c35b1 : decide (7 < a2.size) = true := decide_eq_true (by omega)
                            clear c35
                            by_cases c36 : t117 = 4
                            · rw [if_pos c36] at H
                              have c36b0 : (t117 == 4) = true := beq_iff_eq.mpr c36
                              have c36b1 : (t117 != 4) = false := bne_eq_false_iff_eq.mpr c36
                              clear c36
                              obtain rfl := Option.some.inj H
                              go_wp2_with (first | ((with_reducible refine gate_dst (N := 61) rfl ?_); (try (refine gate_guard (by rfl) ?_; dsimp only)); refine Kd.R_lit (Kd.int .u8) _ 5 ?hg (N := 61) ?hd (xs := ([((a1.size : Int)) % 256] : List Int)) (inner := [.int .u8 (((a1.size : Int)) % 256)]) (ok := fun _ => True) (okp := fun _ => True) ?hr ?hp (fun _ hk => hk) trivial (Below.refl _ _) (Nat.le_refl _) (by simp) ?_; (case hd => rfl); (case hg => rfl); (case hr => first | (go_simp; done) | (go_simp; rfl)); (case hp => exact (Reps.one (show Kd.M (Kd.int .u8) _ _ _ (((a1.size : Int)) % 256) [.int .u8 (((a1.size : Int)) % 256)] from rfl) (Reps.none _ _))); intro v111 w37 ho38 hb hg_ hnew_; clear hg_ hnew_; (first | rw [← Ny110.out] at ho38 | (simp only [Int.reduceToNat] at ho38; rw [← Ny110.out] at ho38)); have n0_ := Aside0.mk (Kd.R_lower ho38 (below_size (by repeat (first | (with_reducible first | exact HB.out | apply below_alloc | apply pw_below_drewN | apply below_drew1) | exact HB.out)))); have n1_ := Aside0.mk (below_step (by repeat (first | (with_reducible first | exact HB.out | apply below_alloc | apply pw_below_drewN | apply below_drew1) | exact HB.out)) hb); clear HB; have HO112 := n0_; have HB := n1_; clear n0_ n1_; clear hb ho38; have hcv39 := own_string (P := Try.prog) Try.underlying41 Try.underlying5 Try.underlying9 (Kd.own_of_R HO112.out)) | ((with_reducible refine gate_callee (f := 12) rfl ?_); refine goesL_ (some 68) rfl rfl Try.func12 (by kernel_rfl) rfl #[.string ((x10_15 ++ (strOfNums y110)) ++ a1)] rfl (by (try simp only [List.map_toArray, List.map_cons, List.map_nil]); first | done | rfl | (simp only [List.length_drop, List.length_take]; rfl)) ?_; (with_reducible refine (op_Parse.calls ((x10_15 ++ (strOfNums y110)) ++ a1) t113 t114 t115 t116 t117 _ A25.out).mono ?_); rintro e w40 ⟨rfl, hb⟩; refine ⟨_, rfl, ?_⟩; have n0_ := Aside0.mk (Kd.R_below (by (with_reducible repeat (first | apply Kd.R_alloc | apply Kd.R_drewN | apply Kd.R_drew)); exact HO112.out) hb); have n1_ := Aside0.mk (below_step (by repeat (first | (with_reducible first | exact HB.out | apply below_alloc | apply pw_below_drewN | apply below_drew1) | exact HB.out)) hb); clear HO112; clear HB; have HO112 := n0_; have HB := n1_; clear n0_ n1_; (try clear hb); (try clear hb2); (try clear hk); (try clear hi)) | ((with_reducible refine gate_dst (N := 11) rfl ?_); (try (refine gate_guard (by rfl) ?_; dsimp only)); refine box_event ?hg (N := 11) ?hd (cs := #[.int .i64 0, .int .u64 0, .int .u64 0, .int .i64 0]) (t := 27) ?hr ?_; (case hd => rfl); (case hg => rfl); (case hr => first | (go_simp; done) | (go_simp; rfl)); intro gb118 hg w41 hbox hb; have n0_ := Aside0.mk (Kd.R_below (by (with_reducible repeat (first | apply Kd.R_alloc | apply Kd.R_drewN | apply Kd.R_drew)); exact HO112.out) hb); have n1_ := Aside0.mk (below_step (by repeat (first | (with_reducible first | exact HB.out | apply below_alloc | apply pw_below_drewN | apply below_drew1) | exact HB.out)) hb); have n2_ := Aside0.mk (hbox); have n3_ := Aside0.mk ((by rw [hg]; exact (below_size (by repeat (first | (with_reducible first | exact HB.out | apply below_alloc | apply pw_below_drewN | apply below_drew1) | exact HB.out))) : w.heap.size ≤ gb118)); have n4_ := Aside0.mk ((by rw [hg]; exact (below_size (by repeat (first | (with_reducible first | exact HB.out | apply below_alloc | apply pw_below_drewN | apply below_drew1) | exact HB.out))) : w.heap.size ≤ gb118)); clear HO112; clear HB; have HO112 := n0_; have HB := n1_; have BK118 := n2_; have GW118 := n3_; have GE118 := n4_; clear n0_ n1_ n2_ n3_ n4_; clear hb hbox hg; have hcz42_0 : w41.cell? ⟨gb118, 0, none⟩ = some (.int .i64 0) := (blk_cell BK118.out 0).trans rfl; have hcz42_1 : w41.cell? ⟨gb118, 1, none⟩ = some (.int .u64 0) := (blk_cell BK118.out 1).trans rfl; have hcz42_2 : w41.cell? ⟨gb118, 2, none⟩ = some (.int .u64 0) := (blk_cell BK118.out 2).trans rfl; have hcz42_3 : w41.cell? ⟨gb118, 3, none⟩ = some (.int .i64 0) := (blk_cell BK118.out 3).trans rfl; have hfz42_0 := blk_frozen BK118.out 0; have hfz42_1 := blk_frozen BK118.out 1; have hfz42_2 := blk_frozen BK118.out 2; have hfz42_3 := blk_frozen BK118.out 3))
                              go_ret
                              exact ⟨by first | rfl | (simp [errW_none, errW_some] <;> rfl) | (simp [*, errW_none, errW_some] <;> rfl), by repeat (first | (with_reducible first | exact HB.out | apply below_alloc | apply pw_below_drewN | apply below_drew1 | refine below_set ?_ GE118.out) | exact HB.out)⟩
                            · rw [if_neg c36] at H
                              have c36b0 : (t117 == 4) = false := beq_eq_false_iff_ne.mpr c36
                              have c36b1 : (t117 != 4) = true := bne_iff_ne.mpr c36
                              rw [hrT.out] at H
                              exact absurd H (by simp)
                          · rw [if_neg c35] at H
                            have c35b0 : decide (7 < (a2.size : Int)) = false := decide_eq_false c35
                            have c35b1 : decide (7 < a2.size) = false := decide_eq_false (by omega)
                            clear c35
                            replace H := Option.bind_eq_some_iff.mp H
                            obtain ⟨⟨t119, t120⟩, A430, H⟩ := H
                            replace H : (if t117 = 0 then (if t113 = a0 then (if t119.toList = a1.toList then (if t120 = 0 then (some true) else (some false)) else (some false)) else (some false)) else (some false)) = some r := H
                            have A43 := Aside0.mk A430
                            clear A430
                            by_cases c44 : t117 = 0
                            · rw [if_pos c44] at H
                              have c44b0 : (t117 == 0) = true := beq_iff_eq.mpr c44
                              have c44b1 : (t117 != 0) = false := bne_eq_false_iff_eq.mpr c44
                              clear c44
                              by_cases c45 : t113 = a0
                              · rw [if_pos c45] at H
                                have c45b0 : (t113 == a0) = true := beq_iff_eq.mpr c45
                                have c45b1 : (t113 != a0) = false := bne_eq_false_iff_eq.mpr c45
                                clear c45
                                by_cases c46 : t119.toList = a1.toList
                                · rw [if_pos c46] at H
                                  have c46b0 : (t119.toList == a1.toList) = true := beq_iff_eq.mpr c46
                                  have c46b1 : (t119.toList != a1.toList) = false := bne_eq_false_iff_eq.mpr c46
                                  clear c46
                                  by_cases c47 : t120 = 0
                                  · rw [if_pos c47] at H
                                    have c47b0 : (t120 == 0) = true := beq_iff_eq.mpr c47
                                    have c47b1 : (t120 != 0) = false := bne_eq_false_iff_eq.mpr c47
                                    clear c47
                                    obtain rfl := Option.some.inj H
                                    go_wp2_with (first | ((with_reducible refine gate_dst (N := 61) rfl ?_); (try (refine gate_guard (by rfl) ?_; dsimp only)); refine Kd.R_lit (Kd.int .u8) _ 5 ?hg (N := 61) ?hd (xs := ([((a1.size : Int)) % 256] : List Int)) (inner := [.int .u8 (((a1.size : Int)) % 256)]) (ok := fun _ => True) (okp := fun _ => True) ?hr ?hp (fun _ hk => hk) trivial (Below.refl _ _) (Nat.le_refl _) (by simp) ?_; (case hd => rfl); (case hg => rfl); (case hr => first | (go_simp; done) | (go_simp; rfl)); (case hp => exact (Reps.one (show Kd.M (Kd.int .u8) _ _ _ (((a1.size : Int)) % 256) [.int .u8 (((a1.size : Int)) % 256)] from rfl) (Reps.none _ _))); intro v111 w48 ho49 hb hg_ hnew_; clear hg_ hnew_; (first | rw [← Ny110.out] at ho49 | (simp only [Int.reduceToNat] at ho49; rw [← Ny110.out] at ho49)); have n0_ := Aside0.mk (Kd.R_lower ho49 (below_size (by repeat (first | (with_reducible first | exact HB.out | apply below_alloc | apply pw_below_drewN | apply below_drew1) | exact HB.out)))); have n1_ := Aside0.mk (below_step (by repeat (first | (with_reducible first | exact HB.out | apply below_alloc | apply pw_below_drewN | apply below_drew1) | exact HB.out)) hb); clear HB; have HO112 := n0_; have HB := n1_; clear n0_ n1_; clear hb ho49; have hcv50 := own_string (P := Try.prog) Try.underlying41 Try.underlying5 Try.underlying9 (Kd.own_of_R HO112.out)) | ((with_reducible refine gate_callee (f := 12) rfl ?_); refine goesL_ (some 68) rfl rfl Try.func12 (by kernel_rfl) rfl #[.string ((x10_15 ++ (strOfNums y110)) ++ a1)] rfl (by (try simp only [List.map_toArray, List.map_cons, List.map_nil]); first | done | rfl | (simp only [List.length_drop, List.length_take]; rfl)) ?_; (with_reducible refine (op_Parse.calls ((x10_15 ++ (strOfNums y110)) ++ a1) t113 t114 t115 t116 t117 _ A25.out).mono ?_); rintro e w51 ⟨rfl, hb⟩; refine ⟨_, rfl, ?_⟩; have n0_ := Aside0.mk (Kd.R_below (by (with_reducible repeat (first | apply Kd.R_alloc | apply Kd.R_drewN | apply Kd.R_drew)); exact HO112.out) hb); have n1_ := Aside0.mk (below_step (by repeat (first | (with_reducible first | exact HB.out | apply below_alloc | apply pw_below_drewN | apply below_drew1) | exact HB.out)) hb); clear HO112; clear HB; have HO112 := n0_; have HB := n1_; clear n0_ n1_; (try clear hb); (try clear hb2); (try clear hk); (try clear hi)) | ((with_reducible refine gate_dst (N := 11) rfl ?_); (try (refine gate_guard (by rfl) ?_; dsimp only)); refine box_event ?hg (N := 11) ?hd (cs := #[.int .i64 0, .int .u64 0, .int .u64 0, .int .i64 0]) (t := 27) ?hr ?_; (case hd => rfl); (case hg => rfl); (case hr => first | (go_simp; done) | (go_simp; rfl)); intro gb118 hg w52 hbox hb; have n0_ := Aside0.mk (Kd.R_below (by (with_reducible repeat (first | apply Kd.R_alloc | apply Kd.R_drewN | apply Kd.R_drew)); exact HO112.out) hb); have n1_ := Aside0.mk (below_step (by repeat (first | (with_reducible first | exact HB.out | apply below_alloc | apply pw_below_drewN | apply below_drew1) | exact HB.out)) hb); have n2_ := Aside0.mk (hbox); have n3_ := Aside0.mk ((by rw [hg]; exact (below_size (by repeat (first | (with_reducible first | exact HB.out | apply below_alloc | apply pw_below_drewN | apply below_drew1) | exact HB.out))) : w.heap.size ≤ gb118)); have n4_ := Aside0.mk ((by rw [hg]; exact (below_size (by repeat (first | (with_reducible first | exact HB.out | apply below_alloc | apply pw_below_drewN | apply below_drew1) | exact HB.out))) : w.heap.size ≤ gb118)); clear HO112; clear HB; have HO112 := n0_; have HB := n1_; have BK118 := n2_; have GW118 := n3_; have GE118 := n4_; clear n0_ n1_ n2_ n3_ n4_; clear hb hbox hg; have hcz53_0 : w52.cell? ⟨gb118, 0, none⟩ = some (.int .i64 0) := (blk_cell BK118.out 0).trans rfl; have hcz53_1 : w52.cell? ⟨gb118, 1, none⟩ = some (.int .u64 0) := (blk_cell BK118.out 1).trans rfl; have hcz53_2 : w52.cell? ⟨gb118, 2, none⟩ = some (.int .u64 0) := (blk_cell BK118.out 2).trans rfl; have hcz53_3 : w52.cell? ⟨gb118, 3, none⟩ = some (.int .i64 0) := (blk_cell BK118.out 3).trans rfl; have hfz53_0 := blk_frozen BK118.out 0; have hfz53_1 := blk_frozen BK118.out 1; have hfz53_2 := blk_frozen BK118.out 2; have hfz53_3 := blk_frozen BK118.out 3) | ((with_reducible refine gate_callee (f := 18) rfl ?_); refine goesL_ (some 93) rfl rfl Try.func18 (by kernel_rfl) rfl #[.int .u64 t114] rfl (by (try simp only [List.map_toArray, List.map_cons, List.map_nil]); first | done | rfl | (simp only [List.length_drop, List.length_take]; rfl)) ?_; (with_reducible refine (pack_Text.calls t114 t119 t120 _ A43.out).mono ?_); rintro e w54 ⟨rfl, hb⟩; refine ⟨_, rfl, ?_⟩; have n0_ := Aside0.mk (Kd.R_below (by (with_reducible repeat (first | apply Kd.R_alloc | apply Kd.R_drewN | apply Kd.R_drew)); exact (Kd.R_mono (Kd.R_far (p := ⟨gb118, 3, none⟩) (Kd.R_far (p := ⟨gb118, 2, none⟩) (Kd.R_far (p := ⟨gb118, 1, none⟩) (Kd.R_far (p := ⟨gb118, 0, none⟩) (Kd.R_types HO112.out BK118.out (by decide)) (fun _ hk => hk.2) (.int .i64 t113)) (fun _ hk => hk.2) (.int .u64 t114)) (fun _ hk => hk.2) (.int .u64 t115)) (fun _ hk => hk.2) (.int .i64 t116)) (fun _ h_ => h_.1))) hb); have n1_ := Aside0.mk (blk_below (g := gb118) (o := .cells #[.int .i64 t113, .int .u64 t114, .int .u64 t115, .int .i64 t116] 27 (0, 0)) (by (with_reducible repeat (first | refine blk_drewN ?_ _ | refine blk_drew ?_ | refine blk_alloc ?_ _)); refine blk_put (cs := #[.int .i64 t113, .int .u64 t114, .int .u64 t115, .int .i64 0]) ?_ 3 _ rfl; (with_reducible repeat (first | refine blk_drewN ?_ _ | refine blk_drew ?_ | refine blk_alloc ?_ _)); refine blk_put (cs := #[.int .i64 t113, .int .u64 t114, .int .u64 0, .int .i64 0]) ?_ 2 _ rfl; (with_reducible repeat (first | refine blk_drewN ?_ _ | refine blk_drew ?_ | refine blk_alloc ?_ _)); refine blk_put (cs := #[.int .i64 t113, .int .u64 0, .int .u64 0, .int .i64 0]) ?_ 1 _ rfl; (with_reducible repeat (first | refine blk_drewN ?_ _ | refine blk_drew ?_ | refine blk_alloc ?_ _)); refine blk_put (cs := #[.int .i64 0, .int .u64 0, .int .u64 0, .int .i64 0]) ?_ 0 _ rfl; (with_reducible repeat (first | refine blk_drewN ?_ _ | refine blk_drew ?_ | refine blk_alloc ?_ _)); exact BK118.out) hb); have n2_ := Aside0.mk (below_step (by repeat (first | (with_reducible first | exact HB.out | apply below_alloc | apply pw_below_drewN | apply below_drew1 | refine below_set ?_ GE118.out) | exact HB.out)) hb); clear HO112; clear BK118; clear HB; have HO112 := n0_; have BK118 := n1_; have HB := n2_; clear n0_ n1_ n2_; (try clear hb); (try clear hb2); (try clear hk); (try clear hi); have hcz55_0 : w54.cell? ⟨gb118, 0, none⟩ = some (.int .i64 t113) := (blk_cell BK118.out 0).trans rfl; have hcz55_1 : w54.cell? ⟨gb118, 1, none⟩ = some (.int .u64 t114) := (blk_cell BK118.out 1).trans rfl; have hcz55_2 : w54.cell? ⟨gb118, 2, none⟩ = some (.int .u64 t115) := (blk_cell BK118.out 2).trans rfl; have hcz55_3 : w54.cell? ⟨gb118, 3, none⟩ = some (.int .i64 t116) := (blk_cell BK118.out 3).trans rfl; have hfz55_0 := blk_frozen BK118.out 0; have hfz55_1 := blk_frozen BK118.out 1; have hfz55_2 := blk_frozen BK118.out 2; have hfz55_3 := blk_frozen BK118.out 3))
                                    go_ret
                                    exact ⟨by first | rfl | (simp [errW_none, errW_some] <;> rfl) | (simp [*, errW_none, errW_some] <;> rfl), by repeat (first | (with_reducible first | exact HB.out | apply below_alloc | apply pw_below_drewN | apply below_drew1 | refine below_set ?_ GE118.out) | exact HB.out)⟩
                                  · rw [if_neg c47] at H
                                    have c47b0 : (t120 == 0) = false := beq_eq_false_iff_ne.mpr c47
                                    have c47b1 : (t120 != 0) = true := bne_iff_ne.mpr c47
                                    rw [hrT.out] at H
                                    exact absurd H (by simp)
                                · rw [if_neg c46] at H
                                  have c46b0 : (t119.toList == a1.toList) = false := beq_eq_false_iff_ne.mpr c46
                                  have c46b1 : (t119.toList != a1.toList) = true := bne_iff_ne.mpr c46
                                  rw [hrT.out] at H
                                  exact absurd H (by simp)
                              · rw [if_neg c45] at H
                                have c45b0 : (t113 == a0) = false := beq_eq_false_iff_ne.mpr c45
                                have c45b1 : (t113 != a0) = true := bne_iff_ne.mpr c45
                                rw [hrT.out] at H
                                exact absurd H (by simp)
                            · rw [if_neg c44] at H
                              have c44b0 : (t117 == 0) = false := beq_eq_false_iff_ne.mpr c44
                              have c44b1 : (t117 != 0) = true := bne_iff_ne.mpr c44
                              rw [hrT.out] at H
                              exact absurd H (by simp)
                        · rw [if_neg c34] at H
                          have c34b0 : (a0 == 3) = false := beq_eq_false_iff_ne.mpr c34
                          have c34b1 : (a0 != 3) = true := bne_iff_ne.mpr c34
                          replace H := Option.bind_eq_some_iff.mp H
                          obtain ⟨⟨t121, t122⟩, A560, H⟩ := H
                          replace H : (if t117 = 0 then (if t113 = a0 then (if t121.toList = a1.toList then (if t122 = 0 then (if t115 = 0 then (some (t116 == 0)) else (some false)) else (some false)) else (some false)) else (some false)) else (some false)) = some r := H
                          have A56 := Aside0.mk A560
                          clear A560
                          by_cases c57 : t117 = 0
                          · rw [if_pos c57] at H
                            have c57b0 : (t117 == 0) = true := beq_iff_eq.mpr c57
                            have c57b1 : (t117 != 0) = false := bne_eq_false_iff_eq.mpr c57
                            clear c57
                            by_cases c58 : t113 = a0
                            · rw [if_pos c58] at H
                              have c58b0 : (t113 == a0) = true := beq_iff_eq.mpr c58
                              have c58b1 : (t113 != a0) = false := bne_eq_false_iff_eq.mpr c58
                              clear c58
                              by_cases c59 : t121.toList = a1.toList
                              · rw [if_pos c59] at H
                                have c59b0 : (t121.toList == a1.toList) = true := beq_iff_eq.mpr c59
                                have c59b1 : (t121.toList != a1.toList) = false := bne_eq_false_iff_eq.mpr c59
                                clear c59
                                by_cases c60 : t122 = 0
                                · rw [if_pos c60] at H
                                  have c60b0 : (t122 == 0) = true := beq_iff_eq.mpr c60
                                  have c60b1 : (t122 != 0) = false := bne_eq_false_iff_eq.mpr c60
                                  clear c60
                                  by_cases c61 : t115 = 0
                                  · rw [if_pos c61] at H
                                    have c61b0 : (t115 == 0) = true := beq_iff_eq.mpr c61
                                    have c61b1 : (t115 != 0) = false := bne_eq_false_iff_eq.mpr c61
                                    clear c61
                                    obtain rfl := Option.some.inj H
                                    go_wp2_with (first | ((with_reducible refine gate_dst (N := 61) rfl ?_); (try (refine gate_guard (by rfl) ?_; dsimp only)); refine Kd.R_lit (Kd.int .u8) _ 5 ?hg (N := 61) ?hd (xs := ([((a1.size : Int)) % 256] : List Int)) (inner := [.int .u8 (((a1.size : Int)) % 256)]) (ok := fun _ => True) (okp := fun _ => True) ?hr ?hp (fun _ hk => hk) trivial (Below.refl _ _) (Nat.le_refl _) (by simp) ?_; (case hd => rfl); (case hg => rfl); (case hr => first | (go_simp; done) | (go_simp; rfl)); (case hp => exact (Reps.one (show Kd.M (Kd.int .u8) _ _ _ (((a1.size : Int)) % 256) [.int .u8 (((a1.size : Int)) % 256)] from rfl) (Reps.none _ _))); intro v111 w62 ho63 hb hg_ hnew_; clear hg_ hnew_; (first | rw [← Ny110.out] at ho63 | (simp only [Int.reduceToNat] at ho63; rw [← Ny110.out] at ho63)); have n0_ := Aside0.mk (Kd.R_lower ho63 (below_size (by repeat (first | (with_reducible first | exact HB.out | apply below_alloc | apply pw_below_drewN | apply below_drew1) | exact HB.out)))); have n1_ := Aside0.mk (below_step (by repeat (first | (with_reducible first | exact HB.out | apply below_alloc | apply pw_below_drewN | apply below_drew1) | exact HB.out)) hb); clear HB; have HO112 := n0_; have HB := n1_; clear n0_ n1_; clear hb ho63; have hcv64 := own_string (P := Try.prog) Try.underlying41 Try.underlying5 Try.underlying9 (Kd.own_of_R HO112.out)) | ((with_reducible refine gate_callee (f := 12) rfl ?_); refine goesL_ (some 68) rfl rfl Try.func12 (by kernel_rfl) rfl #[.string ((x10_15 ++ (strOfNums y110)) ++ a1)] rfl (by (try simp only [List.map_toArray, List.map_cons, List.map_nil]); first | done | rfl | (simp only [List.length_drop, List.length_take]; rfl)) ?_; (with_reducible refine (op_Parse.calls ((x10_15 ++ (strOfNums y110)) ++ a1) t113 t114 t115 t116 t117 _ A25.out).mono ?_); rintro e w65 ⟨rfl, hb⟩; refine ⟨_, rfl, ?_⟩; have n0_ := Aside0.mk (Kd.R_below (by (with_reducible repeat (first | apply Kd.R_alloc | apply Kd.R_drewN | apply Kd.R_drew)); exact HO112.out) hb); have n1_ := Aside0.mk (below_step (by repeat (first | (with_reducible first | exact HB.out | apply below_alloc | apply pw_below_drewN | apply below_drew1) | exact HB.out)) hb); clear HO112; clear HB; have HO112 := n0_; have HB := n1_; clear n0_ n1_; (try clear hb); (try clear hb2); (try clear hk); (try clear hi)) | ((with_reducible refine gate_dst (N := 11) rfl ?_); (try (refine gate_guard (by rfl) ?_; dsimp only)); refine box_event ?hg (N := 11) ?hd (cs := #[.int .i64 0, .int .u64 0, .int .u64 0, .int .i64 0]) (t := 27) ?hr ?_; (case hd => rfl); (case hg => rfl); (case hr => first | (go_simp; done) | (go_simp; rfl)); intro gb118 hg w66 hbox hb; have n0_ := Aside0.mk (Kd.R_below (by (with_reducible repeat (first | apply Kd.R_alloc | apply Kd.R_drewN | apply Kd.R_drew)); exact HO112.out) hb); have n1_ := Aside0.mk (below_step (by repeat (first | (with_reducible first | exact HB.out | apply below_alloc | apply pw_below_drewN | apply below_drew1) | exact HB.out)) hb); have n2_ := Aside0.mk (hbox); have n3_ := Aside0.mk ((by rw [hg]; exact (below_size (by repeat (first | (with_reducible first | exact HB.out | apply below_alloc | apply pw_below_drewN | apply below_drew1) | exact HB.out))) : w.heap.size ≤ gb118)); have n4_ := Aside0.mk ((by rw [hg]; exact (below_size (by repeat (first | (with_reducible first | exact HB.out | apply below_alloc | apply pw_below_drewN | apply below_drew1) | exact HB.out))) : w.heap.size ≤ gb118)); clear HO112; clear HB; have HO112 := n0_; have HB := n1_; have BK118 := n2_; have GW118 := n3_; have GE118 := n4_; clear n0_ n1_ n2_ n3_ n4_; clear hb hbox hg; have hcz67_0 : w66.cell? ⟨gb118, 0, none⟩ = some (.int .i64 0) := (blk_cell BK118.out 0).trans rfl; have hcz67_1 : w66.cell? ⟨gb118, 1, none⟩ = some (.int .u64 0) := (blk_cell BK118.out 1).trans rfl; have hcz67_2 : w66.cell? ⟨gb118, 2, none⟩ = some (.int .u64 0) := (blk_cell BK118.out 2).trans rfl; have hcz67_3 : w66.cell? ⟨gb118, 3, none⟩ = some (.int .i64 0) := (blk_cell BK118.out 3).trans rfl; have hfz67_0 := blk_frozen BK118.out 0; have hfz67_1 := blk_frozen BK118.out 1; have hfz67_2 := blk_frozen BK118.out 2; have hfz67_3 := blk_frozen BK118.out 3) | ((with_reducible refine gate_callee (f := 18) rfl ?_); refine goesL_ (some 93) rfl rfl Try.func18 (by kernel_rfl) rfl #[.int .u64 t114] rfl (by (try simp only [List.map_toArray, List.map_cons, List.map_nil]); first | done | rfl | (simp only [List.length_drop, List.length_take]; rfl)) ?_; (with_reducible refine (pack_Text.calls t114 t121 t122 _ A56.out).mono ?_); rintro e w68 ⟨rfl, hb⟩; refine ⟨_, rfl, ?_⟩; have n0_ := Aside0.mk (Kd.R_below (by (with_reducible repeat (first | apply Kd.R_alloc | apply Kd.R_drewN | apply Kd.R_drew)); exact (Kd.R_mono (Kd.R_far (p := ⟨gb118, 3, none⟩) (Kd.R_far (p := ⟨gb118, 2, none⟩) (Kd.R_far (p := ⟨gb118, 1, none⟩) (Kd.R_far (p := ⟨gb118, 0, none⟩) (Kd.R_types HO112.out BK118.out (by decide)) (fun _ hk => hk.2) (.int .i64 t113)) (fun _ hk => hk.2) (.int .u64 t114)) (fun _ hk => hk.2) (.int .u64 t115)) (fun _ hk => hk.2) (.int .i64 t116)) (fun _ h_ => h_.1))) hb); have n1_ := Aside0.mk (blk_below (g := gb118) (o := .cells #[.int .i64 t113, .int .u64 t114, .int .u64 t115, .int .i64 t116] 27 (0, 0)) (by (with_reducible repeat (first | refine blk_drewN ?_ _ | refine blk_drew ?_ | refine blk_alloc ?_ _)); refine blk_put (cs := #[.int .i64 t113, .int .u64 t114, .int .u64 t115, .int .i64 0]) ?_ 3 _ rfl; (with_reducible repeat (first | refine blk_drewN ?_ _ | refine blk_drew ?_ | refine blk_alloc ?_ _)); refine blk_put (cs := #[.int .i64 t113, .int .u64 t114, .int .u64 0, .int .i64 0]) ?_ 2 _ rfl; (with_reducible repeat (first | refine blk_drewN ?_ _ | refine blk_drew ?_ | refine blk_alloc ?_ _)); refine blk_put (cs := #[.int .i64 t113, .int .u64 0, .int .u64 0, .int .i64 0]) ?_ 1 _ rfl; (with_reducible repeat (first | refine blk_drewN ?_ _ | refine blk_drew ?_ | refine blk_alloc ?_ _)); refine blk_put (cs := #[.int .i64 0, .int .u64 0, .int .u64 0, .int .i64 0]) ?_ 0 _ rfl; (with_reducible repeat (first | refine blk_drewN ?_ _ | refine blk_drew ?_ | refine blk_alloc ?_ _)); exact BK118.out) hb); have n2_ := Aside0.mk (below_step (by repeat (first | (with_reducible first | exact HB.out | apply below_alloc | apply pw_below_drewN | apply below_drew1 | refine below_set ?_ GE118.out) | exact HB.out)) hb); clear HO112; clear BK118; clear HB; have HO112 := n0_; have BK118 := n1_; have HB := n2_; clear n0_ n1_ n2_; (try clear hb); (try clear hb2); (try clear hk); (try clear hi); have hcz69_0 : w68.cell? ⟨gb118, 0, none⟩ = some (.int .i64 t113) := (blk_cell BK118.out 0).trans rfl; have hcz69_1 : w68.cell? ⟨gb118, 1, none⟩ = some (.int .u64 t114) := (blk_cell BK118.out 1).trans rfl; have hcz69_2 : w68.cell? ⟨gb118, 2, none⟩ = some (.int .u64 t115) := (blk_cell BK118.out 2).trans rfl; have hcz69_3 : w68.cell? ⟨gb118, 3, none⟩ = some (.int .i64 t116) := (blk_cell BK118.out 3).trans rfl; have hfz69_0 := blk_frozen BK118.out 0; have hfz69_1 := blk_frozen BK118.out 1; have hfz69_2 := blk_frozen BK118.out 2; have hfz69_3 := blk_frozen BK118.out 3))
                                    go_ret
                                    exact ⟨by first | rfl | (simp [errW_none, errW_some] <;> rfl) | (simp [*, errW_none, errW_some] <;> rfl), by repeat (first | (with_reducible first | exact HB.out | apply below_alloc | apply pw_below_drewN | apply below_drew1 | refine below_set ?_ GE118.out) | exact HB.out)⟩
                                  · rw [if_neg c61] at H
                                    have c61b0 : (t115 == 0) = false := beq_eq_false_iff_ne.mpr c61
                                    have c61b1 : (t115 != 0) = true := bne_iff_ne.mpr c61
                                    rw [hrT.out] at H
                                    exact absurd H (by simp)
                                · rw [if_neg c60] at H
                                  have c60b0 : (t122 == 0) = false := beq_eq_false_iff_ne.mpr c60
                                  have c60b1 : (t122 != 0) = true := bne_iff_ne.mpr c60
                                  rw [hrT.out] at H
                                  exact absurd H (by simp)
                              · rw [if_neg c59] at H
                                have c59b0 : (t121.toList == a1.toList) = false := beq_eq_false_iff_ne.mpr c59
                                have c59b1 : (t121.toList != a1.toList) = true := bne_iff_ne.mpr c59
                                rw [hrT.out] at H
                                exact absurd H (by simp)
                            · rw [if_neg c58] at H
                              have c58b0 : (t113 == a0) = false := beq_eq_false_iff_ne.mpr c58
                              have c58b1 : (t113 != a0) = true := bne_iff_ne.mpr c58
                              rw [hrT.out] at H
                              exact absurd H (by simp)
                          · rw [if_neg c57] at H
                            have c57b0 : (t117 == 0) = false := beq_eq_false_iff_ne.mpr c57
                            have c57b1 : (t117 != 0) = true := bne_iff_ne.mpr c57
                            rw [hrT.out] at H
                            exact absurd H (by simp)
                    · rw [if_neg c24] at H
                      exact absurd H (by simp)
                  · rw [if_neg c23] at H
                    exact absurd H (by simp)
            · rw [if_neg c15] at H
              exact absurd H (by simp)
          · rw [if_neg c14] at H
            exact absurd H (by simp)
        · rw [if_neg c13] at H
          exact absurd H (by simp)

/-- THE ONE PURE STATEMENT of shellgamelaw17_OpLong: yours. -/
def shellgamelaw17_OpLong.Pure : Prop := ∀ (a0 : Int) (a1 : ByteArray) (a2 : ByteArray) (a3 : Int), (Lit.int .i64 a0).wf = true → a1.size ≤ 140737488351232 → a2.size ≤ 140737488351232 → (Lit.int .i64 a3).wf = true → ∃ k, shellgamelaw17_OpLong.f k a0 a1 a2 a3 = some true
theorem shellgamelaw17_OpLong.walk (P : shellgamelaw17_OpLong.Pure) (a0 : Int) (a1 : ByteArray) (a2 : ByteArray) (a3 : Int) (w : World) (w0 : (Lit.int .i64 a0).wf = true) (w1 : a1.size ≤ 140737488351232) (w2 : a2.size ≤ 140737488351232) (w3 : (Lit.int .i64 a3).wf = true) :
    Calls Try.prog 7 #[.int .i64 a0, .string a1, .string a2, .int .i64 a3] w fun e w' => e = .returned (.bool true) ∧ Below w.heap.size w w' := by
  obtain ⟨k, h⟩ := P a0 a1 a2 a3 w0 w1 w2 w3
  refine (shellgamelaw17_OpLong.calls k a0 a1 a2 a3 true w ⟨rfl⟩ h).mono ?_
  rintro e w' ⟨rfl, hd⟩
  exact ⟨rfl, hd⟩

end Go.Proofs.Ytinfbkfdkpjdiaa.POpLong
