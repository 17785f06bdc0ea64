-- Written by wip/printplus.py over contracts of this repo; not trusted: Lean checks it.
import Derived.Test.YtinfbkfdkpjdiaaPOpPutsx0
namespace Go.Proofs.Ytinfbkfdkpjdiaa.POpPuts
open Go.Proofs.Ytinfbkfdkpjdiaa.Hand Go.RowKit Go.Proofs.YtinfbkfdkpjdiaaW.PrintWords Go.Proofs.YtinfbkfdkpjdiaaW.PrintLast Go.Proofs.YtinfbkfdkpjdiaaW.PrintMore
attribute [local go_sem] max2_int min2_int max_two min_two max_three min_three max_four min_four   -- for this text's walks alone
set_option linter.unusedVariables false
set_option linter.unusedSimpArgs false

-- given: function 10 (op_Bytes)

-- given: function 24 (pack_Word)

/-! ### shellgamelaw17_word: function 11 -/
def shellgamelaw17_word.f (a0 : ByteArray) : Option (Int) := (pack_Word.f a0).bind fun bt101 => (some bt101.1)
set_option maxHeartbeats 8000000 in
set_option maxRecDepth 100000 in
theorem shellgamelaw17_word.calls (a0 : ByteArray) (r : Int) (w : World) (h : shellgamelaw17_word.f a0 = some r) :
    Calls Try.prog 11 #[.string a0] w fun e w' => e = .returned (.int .u64 r) ∧ Below w.heap.size w w' := by
  have HB := Aside0.mk (Below.refl w.heap.size w)
  have H : ((pack_Word.f a0).bind fun bt101 => (some bt101.1)) = some r := h
  clear h
  replace H := Option.bind_eq_some_iff.mp H
  obtain ⟨⟨t101, t102⟩, A20, H⟩ := H
  replace H : (some t101) = some r := H
  have A2 := Aside0.mk A20
  clear A20
  obtain rfl := Option.some.inj H
  go_enter Try.func11, Try.ntmps11
  go_wp2_with (first | ((with_reducible refine gate_callee (f := 24) rfl ?_); refine goesL_ (some 7) rfl rfl Try.func24 (by kernel_rfl) rfl #[.string a0] rfl (by (try simp only [List.map_toArray, List.map_cons, List.map_nil]); first | done | rfl | (simp only [List.length_drop, List.length_take]; rfl)) ?_; (with_reducible refine (pack_Word.calls a0 t101 t102 _ A2.out).mono ?_); rintro e w3 ⟨rfl, hb⟩; refine ⟨_, rfl, ?_⟩; have n0_ := Aside0.mk (below_step (by repeat (first | (with_reducible first | exact HB.out | apply below_alloc | apply pw_below_drewN | apply below_drew1) | exact HB.out)) hb); clear HB; have HB := n0_; clear n0_; (try clear hb); (try clear hb2); (try clear hk); (try clear hi)))
  go_ret
  exact ⟨by first | rfl | (simp [errW_none, errW_some] <;> rfl) | (simp [*, errW_none, errW_some] <;> rfl), by repeat (first | (with_reducible first | exact HB.out | apply below_alloc | apply pw_below_drewN | apply below_drew1) | exact HB.out)⟩

/-! ### shellgamelaw17_shown: function 9 -/
def shellgamelaw17_shown.f  : Option (Bool) := (shellgamelaw17_word.f (⟨#[107]⟩ : ByteArray)).bind fun t103 => ((shellgamelaw17_word.f (⟨#[118, 118]⟩ : ByteArray)).bind fun t104 => ((op_Bytes.f 3 t103 t104 258).bind fun t105 => (some (t105.toList == ([80, 2, 1, 2, 118, 118, 1, 107] : List UInt8)))))
set_option maxHeartbeats 8000000 in
set_option maxRecDepth 100000 in
theorem shellgamelaw17_shown.calls  (r : Bool) (w : World) (h : shellgamelaw17_shown.f  = some r) :
    Calls Try.prog 9 #[] w fun e w' => e = .returned (.bool r) ∧ Below w.heap.size w w' := by
  have hu27 := Try.underlying27
  have HB := Aside0.mk (Below.refl w.heap.size w)
  have H : ((shellgamelaw17_word.f (⟨#[107]⟩ : ByteArray)).bind fun t103 => ((shellgamelaw17_word.f (⟨#[118, 118]⟩ : ByteArray)).bind fun t104 => ((op_Bytes.f 3 t103 t104 258).bind fun t105 => (some (t105.toList == ([80, 2, 1, 2, 118, 118, 1, 107] : List UInt8)))))) = some r := h
  clear h
  replace H := Option.bind_eq_some_iff.mp H
  obtain ⟨t103, A10, H⟩ := H
  replace H : ((shellgamelaw17_word.f (⟨#[118, 118]⟩ : ByteArray)).bind fun t104 => ((op_Bytes.f 3 t103 t104 258).bind fun t105 => (some (t105.toList == ([80, 2, 1, 2, 118, 118, 1, 107] : List UInt8))))) = some r := H
  have A1 := Aside0.mk A10
  clear A10
  replace H := Option.bind_eq_some_iff.mp H
  obtain ⟨t104, A20, H⟩ := H
  replace H : ((op_Bytes.f 3 t103 t104 258).bind fun t105 => (some (t105.toList == ([80, 2, 1, 2, 118, 118, 1, 107] : List UInt8)))) = some r := H
  have A2 := Aside0.mk A20
  clear A20
  replace H := Option.bind_eq_some_iff.mp H
  obtain ⟨t105, A30, H⟩ := H
  replace H : (some (t105.toList == ([80, 2, 1, 2, 118, 118, 1, 107] : List UInt8))) = some r := H
  have A3 := Aside0.mk A30
  clear A30
  obtain rfl := Option.some.inj H
  go_enter Try.func9, Try.ntmps9
  go_wp2_with (first | ((with_reducible refine gate_callee (f := 11) rfl ?_); refine goesL_ (some 1) rfl rfl Try.func11 (by kernel_rfl) rfl #[.string (⟨#[107]⟩ : ByteArray)] rfl (by (try simp only [List.map_toArray, List.map_cons, List.map_nil]); first | done | rfl | (simp only [List.length_drop, List.length_take]; rfl)) ?_; (with_reducible refine (shellgamelaw17_word.calls (⟨#[107]⟩ : ByteArray) t103 _ A1.out).mono ?_); rintro e w4 ⟨rfl, hb⟩; refine ⟨_, rfl, ?_⟩; have n0_ := Aside0.mk (below_step (by repeat (first | (with_reducible first | exact HB.out | apply below_alloc | apply pw_below_drewN | apply below_drew1) | exact HB.out)) hb); clear HB; have HB := n0_; clear n0_; (try clear hb); (try clear hb2); (try clear hk); (try clear hi)) | ((with_reducible refine gate_callee (f := 11) rfl ?_); refine goesL_ (some 2) rfl rfl Try.func11 (by kernel_rfl) rfl #[.string (⟨#[118, 118]⟩ : ByteArray)] rfl (by (try simp only [List.map_toArray, List.map_cons, List.map_nil]); first | done | rfl | (simp only [List.length_drop, List.length_take]; rfl)) ?_; (with_reducible refine (shellgamelaw17_word.calls (⟨#[118, 118]⟩ : ByteArray) t104 _ A2.out).mono ?_); rintro e w5 ⟨rfl, hb⟩; refine ⟨_, rfl, ?_⟩; have n0_ := Aside0.mk (below_step (by repeat (first | (with_reducible first | exact HB.out | apply below_alloc | apply pw_below_drewN | apply below_drew1) | exact HB.out)) hb); clear HB; have HB := n0_; clear n0_; (try clear hb); (try clear hb2); (try clear hk); (try clear hi)) | ((with_reducible refine gate_callee (f := 10) rfl ?_); refine goesL_ (some 4) rfl rfl Try.func10 (by kernel_rfl) rfl #[.agg #[.int .i64 3, .int .u64 t103, .int .u64 t104, .int .i64 258]] rfl (by (try simp only [List.map_toArray, List.map_cons, List.map_nil]); first | done | rfl | (simp only [List.length_drop, List.length_take]; rfl)) ?_; (with_reducible refine (op_Bytes.calls 3 t103 t104 258 t105 _ A3.out).mono ?_); rintro e w6 ⟨rfl, hb⟩; refine ⟨_, rfl, ?_⟩; have n0_ := Aside0.mk (below_step (by repeat (first | (with_reducible first | exact HB.out | apply below_alloc | apply pw_below_drewN | apply below_drew1) | exact HB.out)) hb); clear HB; have HB := n0_; clear n0_; (try clear hb); (try clear hb2); (try clear hk); (try clear hi)))
  go_ret
  exact ⟨by first | rfl | (simp [errW_none, errW_some] <;> rfl) | (simp [*, errW_none, errW_some] <;> rfl), by repeat (first | (with_reducible first | exact HB.out | apply below_alloc | apply pw_below_drewN | apply below_drew1) | exact HB.out)⟩

/-! ### shellgamelaw17_OpPuts: function 3 -/
def shellgamelaw17_OpPuts.j0 : Nat → ByteArray → ByteArray → Int → Bool → Bool → Option (Bool)
  | 0, _, _, _, _, _ => none
  | k + 1, x0, x1, x2, x7, x22 => if x22 = true then (some x7) else ((shellgamelaw17_word.f x0).bind fun t107 => ((shellgamelaw17_word.f x1).bind fun t108 => ((op_Bytes.f 3 t107 t108 x2).bind fun t109 => (if x2 < 0 then (some (t109.toList == ([] : List UInt8))) else (if x2 > 65535 then (some (t109.toList == ([] : List UInt8))) else (if (t109.size : Int) = (wrap64 ((wrap64 (5 + (x1.size : Int))) + (x0.size : Int))) then (if 0 < (t109.size : Int) then (if (bt t109 0) = 80 then (if 1 < (t109.size : Int) then (if 2 < (t109.size : Int) then (if (wrap64 ((wrap64 (bt t109 1)) + (wrap64 (256 * (wrap64 (bt t109 2)))))) = x2 then (if 3 < (t109.size : Int) then (if (wrap64 (bt t109 3)) = (x1.size : Int) then (if 4 ≤ (wrap64 (4 + (x1.size : Int))) then (if (wrap64 (4 + (x1.size : Int))) ≤ (t109.size : Int) then (if (t109.extract 4 ((wrap64 (4 + (x1.size : Int))) : Int).toNat).toList = x1.toList then (if 0 ≤ (wrap64 (4 + (x1.size : Int))) then (if (wrap64 (4 + (x1.size : Int))) < (t109.size : Int) then (if (wrap64 (bt t109 (wrap64 (4 + (x1.size : Int))))) = (x0.size : Int) then (if 0 ≤ (wrap64 (5 + (x1.size : Int))) then (if (wrap64 (5 + (x1.size : Int))) ≤ (t109.size : Int) then (some ((t109.extract ((wrap64 (5 + (x1.size : Int))) : Int).toNat t109.size).toList == x0.toList)) else (none)) else (none)) else (some false)) else (none)) else (none)) else (some false)) else (none)) else (none)) else (some false)) else (none)) else (some false)) else (none)) else (none)) else (some false)) else (none)) else (some false)))))))
def shellgamelaw17_OpPuts.f (k : Nat) (a0 : ByteArray) (a1 : ByteArray) (a2 : Int) : Option (Bool) := (shellgamelaw17_shown.f).bind fun t106 => (if t106 = true then (if (a0.size : Int) > 7 then (shellgamelaw17_OpPuts.j0 k a0 a1 a2 t106 true) else (shellgamelaw17_OpPuts.j0 k a0 a1 a2 t106 (decide ((a1.size : Int) > 7)))) else (shellgamelaw17_OpPuts.j0 k a0 a1 a2 t106 true))
theorem shellgamelaw17_OpPuts.mono_l : ∀ k, (∀ y0 y1 y2 y3 y4, LeO (shellgamelaw17_OpPuts.j0 k y0 y1 y2 y3 y4) (shellgamelaw17_OpPuts.j0 (k + 1) y0 y1 y2 y3 y4))
  | 0 => fun _ _ _ _ _ r h => by simp [shellgamelaw17_OpPuts.j0] at h
  | k + 1 => by
    have ih0 := shellgamelaw17_OpPuts.mono_l k
    · intro y0 y1 y2 y3 y4
      unfold shellgamelaw17_OpPuts.j0
      repeat' first
      | (with_reducible exact ih0 _ _ _ _ _)
      | (with_reducible exact LeO.refl _)
      | (with_reducible exact LeO.none _)
      | (with_reducible refine LeO.ite ?_ ?_)
      | (with_reducible refine LeO.bind ?_ (fun _ => ?_))
      | exact ih0 _ _ _ _ _
      | exact LeO.none _
      | refine LeO.ite ?_ ?_
      | refine LeO.bind ?_ (fun _ => ?_)
theorem shellgamelaw17_OpPuts.mono : ∀ a0 a1 a2 k, LeO (shellgamelaw17_OpPuts.f k a0 a1 a2) (shellgamelaw17_OpPuts.f (k + 1) a0 a1 a2) := by
  intro a0 a1 a2 k
  have ih0 := shellgamelaw17_OpPuts.mono_l k
  unfold shellgamelaw17_OpPuts.f
  repeat' first
      | (with_reducible exact ih0 _ _ _ _ _)
      | (with_reducible exact LeO.refl _)
      | (with_reducible exact LeO.none _)
      | (with_reducible refine LeO.ite ?_ ?_)
      | (with_reducible refine LeO.bind ?_ (fun _ => ?_))
      | exact ih0 _ _ _ _ _
      | exact LeO.none _
      | refine LeO.ite ?_ ?_
      | refine LeO.bind ?_ (fun _ => ?_)
set_option maxHeartbeats 8000000 in
set_option maxRecDepth 100000 in
theorem shellgamelaw17_OpPuts.calls (k : Nat) (a0 : ByteArray) (a1 : ByteArray) (a2 : Int) (r : Bool) (w : World) (hrT : Aside0 (r = true)) (h : shellgamelaw17_OpPuts.f k a0 a1 a2 = some r) :
    Calls Try.prog 3 #[.string a0, .string a1, .int .i64 a2] w fun e w' => e = .returned (.bool r) ∧ Below w.heap.size w w' := by
  have hu27 := Try.underlying27
  have HB := Aside0.mk (Below.refl w.heap.size w)
  have H : ((shellgamelaw17_shown.f).bind fun t106 => (if t106 = true then (if (a0.size : Int) > 7 then (shellgamelaw17_OpPuts.j0 k a0 a1 a2 t106 true) else (shellgamelaw17_OpPuts.j0 k a0 a1 a2 t106 (decide ((a1.size : Int) > 7)))) else (shellgamelaw17_OpPuts.j0 k a0 a1 a2 t106 true))) = some r := h
  clear h
  replace H := Option.bind_eq_some_iff.mp H
  obtain ⟨t106, A40, H⟩ := H
  replace H : (if t106 = true then (if (a0.size : Int) > 7 then (shellgamelaw17_OpPuts.j0 k a0 a1 a2 t106 true) else (shellgamelaw17_OpPuts.j0 k a0 a1 a2 t106 (decide ((a1.size : Int) > 7)))) else (shellgamelaw17_OpPuts.j0 k a0 a1 a2 t106 true)) = some r := H
  have A4 := Aside0.mk A40
  clear A40
  have HC5 := Aside0.mk H
  clear H
  go_enter Try.func3, Try.ntmps3
  go_upto_region 2 with (first | (go_at_call 9; (with_reducible refine (shellgamelaw17_shown.calls  t106 _ A4.out).mono ?_); rintro e w6 ⟨rfl, hb⟩; have n0_ := Aside0.mk (below_step (by repeat (first | (with_reducible first | exact HB.out | apply below_alloc | apply pw_below_drewN | apply below_drew1) | exact HB.out)) hb); clear HB; have HB := n0_; clear n0_; (try clear hb); (try clear hb2); (try clear hk); (try clear hi)))
  repeat (go_quiet (first | (go_at_call 9; (with_reducible refine (shellgamelaw17_shown.calls  t106 _ A4.out).mono ?_); rintro e w6 ⟨rfl, hb⟩; have n0_ := Aside0.mk (below_step (by repeat (first | (with_reducible first | exact HB.out | apply below_alloc | apply pw_below_drewN | apply below_drew1) | exact HB.out)) hb); clear HB; have HB := n0_; clear n0_; (try clear hb); (try clear hb2); (try clear hk); (try clear hi))); go_upto_region 2 with (first | (go_at_call 9; (with_reducible refine (shellgamelaw17_shown.calls  t106 _ A4.out).mono ?_); rintro e w6 ⟨rfl, hb⟩; have n0_ := Aside0.mk (below_step (by repeat (first | (with_reducible first | exact HB.out | apply below_alloc | apply pw_below_drewN | apply below_drew1) | exact HB.out)) hb); clear HB; have HB := n0_; clear n0_; (try clear hb); (try clear hb2); (try clear hk); (try clear hi))))
  (try simp only [Act.put, List.setIfInBounds_toArray, List.set_cons_zero, List.set_cons_succ])
  go_cut [22] (fun v22 wc => ∃ (kq : Nat) (x22_4 : Bool), v22 = .bool x22_4 ∧ Aside0 (shellgamelaw17_OpPuts.j0 kq a0 a1 a2 t106 x22_4 = some r) ∧ Aside0 (kq ≤ k) ∧ Aside0 (Below w.heap.size w wc))
  case first =>
    have H := HC5.out
    clear HC5
    by_cases c7 : t106 = true
    · subst c7
      have H1 : (if (a0.size : Int) > 7 then (shellgamelaw17_OpPuts.j0 k a0 a1 a2 true true) else (shellgamelaw17_OpPuts.j0 k a0 a1 a2 true (decide ((a1.size : Int) > 7)))) = some r := by rw [if_pos rfl] at H; exact H
      clear H
      have H := H1
      clear H1
      by_cases c8 : (a0.size : Int) > 7
      · rw [if_pos c8] at H
        have c8b0 : decide (7 < (a0.size : Int)) = true := decide_eq_true c8
        have c8b1 : decide (7 < a0.size) = true := decide_eq_true (by omega)
        clear c8
        (first | rw [c8b0] | (simp only [i64_w, i32_w]; rw [c8b0]) | skip)
        have H' := Aside0.mk H
        clear H
        go_wp2
        repeat (go_quiet (fail); try go_wp2)
        go_meet
        case rel => exact ⟨_, (true), (by first | rfl | (simp; done) | (simp [*]; done)), H', ⟨by first | omega | exact Nat.le_refl _⟩, ⟨by repeat (first | (with_reducible first | exact HB.out | apply below_alloc | apply pw_below_drewN | apply below_drew1) | exact HB.out)⟩⟩
      · rw [if_neg c8] at H
        have c8b0 : decide (7 < (a0.size : Int)) = false := decide_eq_false c8
        have c8b1 : decide (7 < a0.size) = false := decide_eq_false (by omega)
        clear c8
        (first | rw [c8b0] | (simp only [i64_w, i32_w]; rw [c8b0]) | skip)
        have H' := Aside0.mk H
        clear H
        go_wp2
        repeat (go_quiet (fail); try go_wp2)
        go_meet
        case rel => exact ⟨_, (decide ((a1.size : Int) > 7)), (by first | rfl | (simp; done) | (simp [*]; done)), H', ⟨by first | omega | exact Nat.le_refl _⟩, ⟨by repeat (first | (with_reducible first | exact HB.out | apply below_alloc | apply pw_below_drewN | apply below_drew1) | exact HB.out)⟩⟩
    · replace c7 := Bool.eq_false_iff.mpr c7
      subst c7
      have H1 : (shellgamelaw17_OpPuts.j0 k a0 a1 a2 false true) = some r := by rw [if_neg (show ¬ (false = true) by decide)] at H; exact H
      clear H
      have H := H1
      clear H1
      have H' := Aside0.mk H
      clear H
      go_wp2
      repeat (go_quiet (fail); try go_wp2)
      go_meet
      case rel => exact ⟨_, (true), (by first | rfl | (simp; done) | (simp [*]; done)), H', ⟨by first | omega | exact Nat.le_refl _⟩, ⟨by repeat (first | (with_reducible first | exact HB.out | apply below_alloc | apply pw_below_drewN | apply below_drew1) | exact HB.out)⟩⟩
  case rest =>
    clear HC5
    try clear p2
    try clear c3
    try clear c7
    try clear c8
    try clear c8b0
    try clear c8b1
    obtain ⟨kq, x22_4, rfl, HA, HJ4, HB⟩ := hcut
    cases kq with
    | zero => exact absurd HA.out (by simp [shellgamelaw17_OpPuts.j0])
    | succ kj4 =>
      have H := HA.out
      clear HA
      simp only [shellgamelaw17_OpPuts.j0] at H
      by_cases c9 : x22_4 = true
      · subst c9
        have H1 : (some t106) = some r := by rw [if_pos rfl] at H; exact H
        clear H
        have H := H1
        clear H1
        obtain rfl := Option.some.inj H
        go_wp2
        repeat (go_quiet (fail); try go_wp2)
        go_ret
        exact ⟨by first | rfl | (simp [errW_none, errW_some] <;> rfl) | (simp [*, errW_none, errW_some] <;> rfl), by repeat (first | (with_reducible first | exact HB.out | apply below_alloc | apply pw_below_drewN | apply below_drew1) | exact HB.out)⟩
      · replace c9 := Bool.eq_false_iff.mpr c9
        subst c9
        have H1 : ((shellgamelaw17_word.f a0).bind fun t107 => ((shellgamelaw17_word.f a1).bind fun t108 => ((op_Bytes.f 3 t107 t108 a2).bind fun t109 => (if a2 < 0 then (some (t109.toList == ([] : List UInt8))) else (if a2 > 65535 then (some (t109.toList == ([] : List UInt8))) else (if (t109.size : Int) = (wrap64 ((wrap64 (5 + (a1.size : Int))) + (a0.size : Int))) then (if 0 < (t109.size : Int) then (if (bt t109 0) = 80 then (if 1 < (t109.size : Int) then (if 2 < (t109.size : Int) then (if (wrap64 ((wrap64 (bt t109 1)) + (wrap64 (256 * (wrap64 (bt t109 2)))))) = a2 then (if 3 < (t109.size : Int) then (if (wrap64 (bt t109 3)) = (a1.size : Int) then (if 4 ≤ (wrap64 (4 + (a1.size : Int))) then (if (wrap64 (4 + (a1.size : Int))) ≤ (t109.size : Int) then (if (t109.extract 4 ((wrap64 (4 + (a1.size : Int))) : Int).toNat).toList = a1.toList then (if 0 ≤ (wrap64 (4 + (a1.size : Int))) then (if (wrap64 (4 + (a1.size : Int))) < (t109.size : Int) then (if (wrap64 (bt t109 (wrap64 (4 + (a1.size : Int))))) = (a0.size : Int) then (if 0 ≤ (wrap64 (5 + (a1.size : Int))) then (if (wrap64 (5 + (a1.size : Int))) ≤ (t109.size : Int) then (some ((t109.extract ((wrap64 (5 + (a1.size : Int))) : Int).toNat t109.size).toList == a0.toList)) else (none)) else (none)) else (some false)) else (none)) else (none)) else (some false)) else (none)) else (none)) else (some false)) else (none)) else (some false)) else (none)) else (none)) else (some false)) else (none)) else (some false))))))) = some r := by rw [if_neg (show ¬ (false = true) by decide)] at H; exact H
        clear H
        have H := H1
        clear H1
        replace H := Option.bind_eq_some_iff.mp H
        obtain ⟨t107, A100, H⟩ := H
        replace H : ((shellgamelaw17_word.f a1).bind fun t108 => ((op_Bytes.f 3 t107 t108 a2).bind fun t109 => (if a2 < 0 then (some (t109.toList == ([] : List UInt8))) else (if a2 > 65535 then (some (t109.toList == ([] : List UInt8))) else (if (t109.size : Int) = (wrap64 ((wrap64 (5 + (a1.size : Int))) + (a0.size : Int))) then (if 0 < (t109.size : Int) then (if (bt t109 0) = 80 then (if 1 < (t109.size : Int) then (if 2 < (t109.size : Int) then (if (wrap64 ((wrap64 (bt t109 1)) + (wrap64 (256 * (wrap64 (bt t109 2)))))) = a2 then (if 3 < (t109.size : Int) then (if (wrap64 (bt t109 3)) = (a1.size : Int) then (if 4 ≤ (wrap64 (4 + (a1.size : Int))) then (if (wrap64 (4 + (a1.size : Int))) ≤ (t109.size : Int) then (if (t109.extract 4 ((wrap64 (4 + (a1.size : Int))) : Int).toNat).toList = a1.toList then (if 0 ≤ (wrap64 (4 + (a1.size : Int))) then (if (wrap64 (4 + (a1.size : Int))) < (t109.size : Int) then (if (wrap64 (bt t109 (wrap64 (4 + (a1.size : Int))))) = (a0.size : Int) then (if 0 ≤ (wrap64 (5 + (a1.size : Int))) then (if (wrap64 (5 + (a1.size : Int))) ≤ (t109.size : Int) then (some ((t109.extract ((wrap64 (5 + (a1.size : Int))) : Int).toNat t109.size).toList == a0.toList)) else (none)) else (none)) else (some false)) else (none)) else (none)) else (some false)) else (none)) else (none)) else (some false)) else (none)) else (some false)) else (none)) else (none)) else (some false)) else (none)) else (some false)))))) = some r := H
        have A10 := Aside0.mk A100
        clear A100
        replace H := Option.bind_eq_some_iff.mp H
        obtain ⟨t108, A110, H⟩ := H
        replace H : ((op_Bytes.f 3 t107 t108 a2).bind fun t109 => (if a2 < 0 then (some (t109.toList == ([] : List UInt8))) else (if a2 > 65535 then (some (t109.toList == ([] : List UInt8))) else (if (t109.size : Int) = (wrap64 ((wrap64 (5 + (a1.size : Int))) + (a0.size : Int))) then (if 0 < (t109.size : Int) then (if (bt t109 0) = 80 then (if 1 < (t109.size : Int) then (if 2 < (t109.size : Int) then (if (wrap64 ((wrap64 (bt t109 1)) + (wrap64 (256 * (wrap64 (bt t109 2)))))) = a2 then (if 3 < (t109.size : Int) then (if (wrap64 (bt t109 3)) = (a1.size : Int) then (if 4 ≤ (wrap64 (4 + (a1.size : Int))) then (if (wrap64 (4 + (a1.size : Int))) ≤ (t109.size : Int) then (if (t109.extract 4 ((wrap64 (4 + (a1.size : Int))) : Int).toNat).toList = a1.toList then (if 0 ≤ (wrap64 (4 + (a1.size : Int))) then (if (wrap64 (4 + (a1.size : Int))) < (t109.size : Int) then (if (wrap64 (bt t109 (wrap64 (4 + (a1.size : Int))))) = (a0.size : Int) then (if 0 ≤ (wrap64 (5 + (a1.size : Int))) then (if (wrap64 (5 + (a1.size : Int))) ≤ (t109.size : Int) then (some ((t109.extract ((wrap64 (5 + (a1.size : Int))) : Int).toNat t109.size).toList == a0.toList)) else (none)) else (none)) else (some false)) else (none)) else (none)) else (some false)) else (none)) else (none)) else (some false)) else (none)) else (some false)) else (none)) else (none)) else (some false)) else (none)) else (some false))))) = some r := H
        have A11 := Aside0.mk A110
        clear A110
        replace H := Option.bind_eq_some_iff.mp H
        obtain ⟨t109, A120, H⟩ := H
        replace H : (if a2 < 0 then (some (t109.toList == ([] : List UInt8))) else (if a2 > 65535 then (some (t109.toList == ([] : List UInt8))) else (if (t109.size : Int) = (wrap64 ((wrap64 (5 + (a1.size : Int))) + (a0.size : Int))) then (if 0 < (t109.size : Int) then (if (bt t109 0) = 80 then (if 1 < (t109.size : Int) then (if 2 < (t109.size : Int) then (if (wrap64 ((wrap64 (bt t109 1)) + (wrap64 (256 * (wrap64 (bt t109 2)))))) = a2 then (if 3 < (t109.size : Int) then (if (wrap64 (bt t109 3)) = (a1.size : Int) then (if 4 ≤ (wrap64 (4 + (a1.size : Int))) then (if (wrap64 (4 + (a1.size : Int))) ≤ (t109.size : Int) then (if (t109.extract 4 ((wrap64 (4 + (a1.size : Int))) : Int).toNat).toList = a1.toList then (if 0 ≤ (wrap64 (4 + (a1.size : Int))) then (if (wrap64 (4 + (a1.size : Int))) < (t109.size : Int) then (if (wrap64 (bt t109 (wrap64 (4 + (a1.size : Int))))) = (a0.size : Int) then (if 0 ≤ (wrap64 (5 + (a1.size : Int))) then (if (wrap64 (5 + (a1.size : Int))) ≤ (t109.size : Int) then (some ((t109.extract ((wrap64 (5 + (a1.size : Int))) : Int).toNat t109.size).toList == a0.toList)) else (none)) else (none)) else (some false)) else (none)) else (none)) else (some false)) else (none)) else (none)) else (some false)) else (none)) else (some false)) else (none)) else (none)) else (some false)) else (none)) else (some false)))) = some r := H
        have A12 := Aside0.mk A120
        clear A120
        by_cases c13 : a2 < 0
        · rw [if_pos c13] at H
          have c13b0 : decide (a2 < 0) = true := decide_eq_true c13
          clear c13
          obtain rfl := Option.some.inj H
          go_wp2_with (first | (go_at_call 11; (with_reducible refine (shellgamelaw17_word.calls a0 t107 _ A10.out).mono ?_); rintro e w14 ⟨rfl, hb⟩; have n0_ := Aside0.mk (below_step (by repeat (first | (with_reducible first | exact HB.out | apply below_alloc | apply pw_below_drewN | apply below_drew1) | exact HB.out)) hb); clear HB; have HB := n0_; clear n0_; (try clear hb); (try clear hb2); (try clear hk); (try clear hi)) | (go_at_call 11; (with_reducible refine (shellgamelaw17_word.calls a1 t108 _ A11.out).mono ?_); rintro e w15 ⟨rfl, hb⟩; have n0_ := Aside0.mk (below_step (by repeat (first | (with_reducible first | exact HB.out | apply below_alloc | apply pw_below_drewN | apply below_drew1) | exact HB.out)) hb); clear HB; have HB := n0_; clear n0_; (try clear hb); (try clear hb2); (try clear hk); (try clear hi)) | (go_at_call 10; (with_reducible refine (op_Bytes.calls 3 t107 t108 a2 t109 _ A12.out).mono ?_); rintro e w16 ⟨rfl, hb⟩; have n0_ := Aside0.mk (below_step (by repeat (first | (with_reducible first | exact HB.out | apply below_alloc | apply pw_below_drewN | apply below_drew1) | exact HB.out)) hb); clear HB; have HB := n0_; clear n0_; (try clear hb); (try clear hb2); (try clear hk); (try clear hi)))
          repeat (go_quiet (first | (go_at_call 11; (with_reducible refine (shellgamelaw17_word.calls a0 t107 _ A10.out).mono ?_); rintro e w14 ⟨rfl, hb⟩; have n0_ := Aside0.mk (below_step (by repeat (first | (with_reducible first | exact HB.out | apply below_alloc | apply pw_below_drewN | apply below_drew1) | exact HB.out)) hb); clear HB; have HB := n0_; clear n0_; (try clear hb); (try clear hb2); (try clear hk); (try clear hi)) | (go_at_call 11; (with_reducible refine (shellgamelaw17_word.calls a1 t108 _ A11.out).mono ?_); rintro e w15 ⟨rfl, hb⟩; have n0_ := Aside0.mk (below_step (by repeat (first | (with_reducible first | exact HB.out | apply below_alloc | apply pw_below_drewN | apply below_drew1) | exact HB.out)) hb); clear HB; have HB := n0_; clear n0_; (try clear hb); (try clear hb2); (try clear hk); (try clear hi)) | (go_at_call 10; (with_reducible refine (op_Bytes.calls 3 t107 t108 a2 t109 _ A12.out).mono ?_); rintro e w16 ⟨rfl, hb⟩; have n0_ := Aside0.mk (below_step (by repeat (first | (with_reducible first | exact HB.out | apply below_alloc | apply pw_below_drewN | apply below_drew1) | exact HB.out)) hb); clear HB; have HB := n0_; clear n0_; (try clear hb); (try clear hb2); (try clear hk); (try clear hi))); try go_wp2_with (first | (go_at_call 11; (with_reducible refine (shellgamelaw17_word.calls a0 t107 _ A10.out).mono ?_); rintro e w14 ⟨rfl, hb⟩; have n0_ := Aside0.mk (below_step (by repeat (first | (with_reducible first | exact HB.out | apply below_alloc | apply pw_below_drewN | apply below_drew1) | exact HB.out)) hb); clear HB; have HB := n0_; clear n0_; (try clear hb); (try clear hb2); (try clear hk); (try clear hi)) | (go_at_call 11; (with_reducible refine (shellgamelaw17_word.calls a1 t108 _ A11.out).mono ?_); rintro e w15 ⟨rfl, hb⟩; have n0_ := Aside0.mk (below_step (by repeat (first | (with_reducible first | exact HB.out | apply below_alloc | apply pw_below_drewN | apply below_drew1) | exact HB.out)) hb); clear HB; have HB := n0_; clear n0_; (try clear hb); (try clear hb2); (try clear hk); (try clear hi)) | (go_at_call 10; (with_reducible refine (op_Bytes.calls 3 t107 t108 a2 t109 _ A12.out).mono ?_); rintro e w16 ⟨rfl, hb⟩; have n0_ := Aside0.mk (below_step (by repeat (first | (with_reducible first | exact HB.out | apply below_alloc | apply pw_below_drewN | apply below_drew1) | exact HB.out)) hb); clear HB; have HB := n0_; clear n0_; (try clear hb); (try clear hb2); (try clear hk); (try clear hi))))
          go_ret
          exact ⟨by first | rfl | (simp [errW_none, errW_some] <;> rfl) | (simp [*, errW_none, errW_some] <;> rfl), by repeat (first | (with_reducible first | exact HB.out | apply below_alloc | apply pw_below_drewN | apply below_drew1) | exact HB.out)⟩
        · rw [if_neg c13] at H
          have c13b0 : decide (a2 < 0) = false := decide_eq_false c13
          clear c13
          by_cases c17 : a2 > 65535
          · rw [if_pos c17] at H
            have c17b0 : decide (65535 < a2) = true := decide_eq_true c17
            clear c17
            obtain rfl := Option.some.inj H
            go_wp2_with (first | (go_at_call 11; (with_reducible refine (shellgamelaw17_word.calls a0 t107 _ A10.out).mono ?_); rintro e w18 ⟨rfl, hb⟩; have n0_ := Aside0.mk (below_step (by repeat (first | (with_reducible first | exact HB.out | apply below_alloc | apply pw_below_drewN | apply below_drew1) | exact HB.out)) hb); clear HB; have HB := n0_; clear n0_; (try clear hb); (try clear hb2); (try clear hk); (try clear hi)) | (go_at_call 11; (with_reducible refine (shellgamelaw17_word.calls a1 t108 _ A11.out).mono ?_); rintro e w19 ⟨rfl, hb⟩; have n0_ := Aside0.mk (below_step (by repeat (first | (with_reducible first | exact HB.out | apply below_alloc | apply pw_below_drewN | apply below_drew1) | exact HB.out)) hb); clear HB; have HB := n0_; clear n0_; (try clear hb); (try clear hb2); (try clear hk); (try clear hi)) | (go_at_call 10; (with_reducible refine (op_Bytes.calls 3 t107 t108 a2 t109 _ A12.out).mono ?_); rintro e w20 ⟨rfl, hb⟩; have n0_ := Aside0.mk (below_step (by repeat (first | (with_reducible first | exact HB.out | apply below_alloc | apply pw_below_drewN | apply below_drew1) | exact HB.out)) hb); clear HB; have HB := n0_; clear n0_; (try clear hb); (try clear hb2); (try clear hk); (try clear hi)))
            repeat (go_quiet (first | (go_at_call 11; (with_reducible refine (shellgamelaw17_word.calls a0 t107 _ A10.out).mono ?_); rintro e w18 ⟨rfl, hb⟩; have n0_ := Aside0.mk (below_step (by repeat (first | (with_reducible first | exact HB.out | apply below_alloc | apply pw_below_drewN | apply below_drew1) | exact HB.out)) hb); clear HB; have HB := n0_; clear n0_; (try clear hb); (try clear hb2); (try clear hk); (try clear hi)) | (go_at_call 11; (with_reducible refine (shellgamelaw17_word.calls a1 t108 _ A11.out).mono ?_); rintro e w19 ⟨rfl, hb⟩; have n0_ := Aside0.mk (below_step (by repeat (first | (with_reducible first | exact HB.out | apply below_alloc | apply pw_below_drewN | apply below_drew1) | exact HB.out)) hb); clear HB; have HB := n0_; clear n0_; (try clear hb); (try clear hb2); (try clear hk); (try clear hi)) | (go_at_call 10; (with_reducible refine (op_Bytes.calls 3 t107 t108 a2 t109 _ A12.out).mono ?_); rintro e w20 ⟨rfl, hb⟩; have n0_ := Aside0.mk (below_step (by repeat (first | (with_reducible first | exact HB.out | apply below_alloc | apply pw_below_drewN | apply below_drew1) | exact HB.out)) hb); clear HB; have HB := n0_; clear n0_; (try clear hb); (try clear hb2); (try clear hk); (try clear hi))); try go_wp2_with (first | (go_at_call 11; (with_reducible refine (shellgamelaw17_word.calls a0 t107 _ A10.out).mono ?_); rintro e w18 ⟨rfl, hb⟩; have n0_ := Aside0.mk (below_step (by repeat (first | (with_reducible first | exact HB.out | apply below_alloc | apply pw_below_drewN | apply below_drew1) | exact HB.out)) hb); clear HB; have HB := n0_; clear n0_; (try clear hb); (try clear hb2); (try clear hk); (try clear hi)) | (go_at_call 11; (with_reducible refine (shellgamelaw17_word.calls a1 t108 _ A11.out).mono ?_); rintro e w19 ⟨rfl, hb⟩; have n0_ := Aside0.mk (below_step (by repeat (first | (with_reducible first | exact HB.out | apply below_alloc | apply pw_below_drewN | apply below_drew1) | exact HB.out)) hb); clear HB; have HB := n0_; clear n0_; (try clear hb); (try clear hb2); (try clear hk); (try clear hi)) | (go_at_call 10; (with_reducible refine (op_Bytes.calls 3 t107 t108 a2 t109 _ A12.out).mono ?_); rintro e w20 ⟨rfl, hb⟩; have n0_ := Aside0.mk (below_step (by repeat (first | (with_reducible first | exact HB.out | apply below_alloc | apply pw_below_drewN | apply below_drew1) | exact HB.out)) hb); clear HB; have HB := n0_; clear n0_; (try clear hb); (try clear hb2); (try clear hk); (try clear hi))))
            go_ret
            exact ⟨by first | rfl | (simp [errW_none, errW_some] <;> rfl) | (simp [*, errW_none, errW_some] <;> rfl), by repeat (first | (with_reducible first | exact HB.out | apply below_alloc | apply pw_below_drewN | apply below_drew1) | exact HB.out)⟩
          · rw [if_neg c17] at H
            have c17b0 : decide (65535 < a2) = false := decide_eq_false c17
            clear c17
            by_cases c21 : (t109.size : Int) = (wrap64 ((wrap64 (5 + (a1.size : Int))) + (a0.size : Int)))
            · rw [if_pos c21] at H
              have c21b0 : ((t109.size : Int) == (wrap64 ((wrap64 (5 + (a1.size : Int))) + (a0.size : Int)))) = true := beq_iff_eq.mpr c21
              have c21b1 : ((t109.size : Int) != (wrap64 ((wrap64 (5 + (a1.size : Int))) + (a0.size : Int)))) = false := bne_eq_false_iff_eq.mpr c21
              clear c21
              by_cases c22 : 0 < (t109.size : Int)
              · rw [if_pos c22] at H
                have c22b0 : decide (0 < (t109.size : Int)) = true := decide_eq_true c22
                have c22b1 : decide (0 < t109.size) = true := decide_eq_true (by omega)
                clear c22
                by_cases c24 : (bt t109 0) = 80
                · rw [if_pos c24] at H
                  have c24b0 : ((bt t109 0) == 80) = true := beq_iff_eq.mpr c24
                  have c24b1 : ((bt t109 0) != 80) = false := bne_eq_false_iff_eq.mpr c24
                  clear c24
                  by_cases c25 : 1 < (t109.size : Int)
                  · rw [if_pos c25] at H
                    have c25b0 : decide (1 < (t109.size : Int)) = true := decide_eq_true c25
                    have c25b1 : decide (1 < t109.size) = true := decide_eq_true (by omega)
                    clear c25
                    by_cases c27 : 2 < (t109.size : Int)
                    · rw [if_pos c27] at H
                      have c27b0 : decide (2 < (t109.size : Int)) = true := decide_eq_true c27
                      have c27b1 : decide (2 < t109.size) = true := decide_eq_true (by omega)
                      clear c27
                      by_cases c29 : (wrap64 ((wrap64 (bt t109 1)) + (wrap64 (256 * (wrap64 (bt t109 2)))))) = a2
                      · rw [if_pos c29] at H
                        have c29b0 : ((wrap64 ((wrap64 (bt t109 1)) + (wrap64 (256 * (wrap64 (bt t109 2)))))) == a2) = true := beq_iff_eq.mpr c29
                        have c29b1 : ((wrap64 ((wrap64 (bt t109 1)) + (wrap64 (256 * (wrap64 (bt t109 2)))))) != a2) = false := bne_eq_false_iff_eq.mpr c29
                        clear c29
                        by_cases c30 : 3 < (t109.size : Int)
                        · rw [if_pos c30] at H
                          have c30b0 : decide (3 < (t109.size : Int)) = true := decide_eq_true c30
                          have c30b1 : decide (3 < t109.size) = true := decide_eq_true (by omega)
                          clear c30
                          by_cases c32 : (wrap64 (bt t109 3)) = (a1.size : Int)
                          · rw [if_pos c32] at H
                            have c32b0 : ((wrap64 (bt t109 3)) == (a1.size : Int)) = true := beq_iff_eq.mpr c32
                            have c32b1 : ((wrap64 (bt t109 3)) != (a1.size : Int)) = false := bne_eq_false_iff_eq.mpr c32
                            clear c32
                            by_cases c33 : 4 ≤ (wrap64 (4 + (a1.size : Int)))
                            · rw [if_pos c33] at H
                              have c33b0 := eq_true c33
                              have c33b1 : decide (4 ≤ (wrap64 (4 + (a1.size : Int)))) = true := decide_eq_true c33
                              by_cases c34 : (wrap64 (4 + (a1.size : Int))) ≤ (t109.size : Int)
                              · rw [if_pos c34] at H
                                have c34b0 := eq_true c34
                                have c34b1 : decide ((wrap64 (4 + (a1.size : Int))) ≤ (t109.size : Int)) = true := decide_eq_true c34
                                by_cases c35 : (t109.extract 4 ((wrap64 (4 + (a1.size : Int))) : Int).toNat).toList = a1.toList
                                · rw [if_pos c35] at H
                                  have c35b0 : ((t109.extract 4 ((wrap64 (4 + (a1.size : Int))) : Int).toNat).toList == a1.toList) = true := beq_iff_eq.mpr c35
                                  have c35b1 : ((t109.extract 4 ((wrap64 (4 + (a1.size : Int))) : Int).toNat).toList != a1.toList) = false := bne_eq_false_iff_eq.mpr c35
                                  clear c35
                                  obtain ⟨ji36, hji36⟩ : ∃ j_ : Int, (wrap64 (4 + (a1.size : Int))) = j_ := ⟨_, rfl⟩
                                  replace H : (if 0 ≤ (ji36) then (if (ji36) < (t109.size : Int) then (if (wrap64 (bt t109 (ji36))) = (a0.size : Int) then (if 0 ≤ (wrap64 (5 + (a1.size : Int))) then (if (wrap64 (5 + (a1.size : Int))) ≤ (t109.size : Int) then (some ((t109.extract ((wrap64 (5 + (a1.size : Int))) : Int).toNat t109.size).toList == a0.toList)) else (none)) else (none)) else (some false)) else (none)) else (none)) = some r := by first | (rw [hji36] at H; exact H) | (simp only [hji36] at H ⊢; exact H)
                                  (try rw [hji36] at c33b0)
                                  (try rw [hji36] at c33b1)
                                  (try rw [hji36] at c33)
                                  (try rw [hji36] at c34b0)
                                  (try rw [hji36] at c34b1)
                                  (try rw [hji36] at c34)
                                  (try rw [hji36] at c35b0)
                                  (try rw [hji36] at c35b1)
                                  (try rw [hji36] at A10)
                                  (try rw [hji36] at A11)
                                  (try rw [hji36] at A12)
                                  have hji36w : (IntKind.i64.wrap (4 + (a1.size : Int))) = ji36 := (i64_w _).trans hji36
                                  by_cases c37 : 0 ≤ (ji36)
                                  · rw [if_pos c37] at H
                                    have c37b0 : decide (0 ≤ (ji36)) = true := decide_eq_true c37
                                    clear c37
                                    by_cases c38 : (ji36) < (t109.size : Int)
                                    · rw [if_pos c38] at H
                                      have c38b0 : decide ((ji36) < (t109.size : Int)) = true := decide_eq_true c38
                                      clear c38
                                      by_cases c40 : (wrap64 (bt t109 (ji36))) = (a0.size : Int)
                                      · rw [if_pos c40] at H
                                        have c40b0 : ((wrap64 (bt t109 (ji36))) == (a0.size : Int)) = true := beq_iff_eq.mpr c40
                                        have c40b1 : ((wrap64 (bt t109 (ji36))) != (a0.size : Int)) = false := bne_eq_false_iff_eq.mpr c40
                                        clear c40
                                        obtain ⟨ji41, hji41⟩ : ∃ j_ : Int, (wrap64 (5 + (a1.size : Int))) = j_ := ⟨_, rfl⟩
                                        replace H : (if 0 ≤ (ji41) then (if (ji41) ≤ (t109.size : Int) then (some ((t109.extract ((ji41) : Int).toNat t109.size).toList == a0.toList)) else (none)) else (none)) = some r := by first | (rw [hji41] at H; exact H) | (simp only [hji41] at H ⊢; exact H)
                                        (try rw [hji41] at c21b0)
                                        (try rw [hji41] at c21b1)
                                        (try rw [hji41] at A10)
                                        (try rw [hji41] at A11)
                                        (try rw [hji41] at A12)
                                        have hji41w : (IntKind.i64.wrap (5 + (a1.size : Int))) = ji41 := (i64_w _).trans hji41
                                        by_cases c42 : 0 ≤ (ji41)
                                        · rw [if_pos c42] at H
                                          have c42b0 := eq_true c42
                                          have c42b1 : decide (0 ≤ (ji41)) = true := decide_eq_true c42
                                          clear c42
                                          by_cases c43 : (ji41) ≤ (t109.size : Int)
                                          · rw [if_pos c43] at H
                                            have c43b0 := eq_true c43
                                            have c43b1 : decide ((ji41) ≤ (t109.size : Int)) = true := decide_eq_true c43
                                            clear c43
                                            obtain rfl := Option.some.inj H
                                            go_wp2_with (first | (go_at_call 11; (with_reducible refine (shellgamelaw17_word.calls a0 t107 _ A10.out).mono ?_); rintro e w44 ⟨rfl, hb⟩; have n0_ := Aside0.mk (below_step (by repeat (first | (with_reducible first | exact HB.out | apply below_alloc | apply pw_below_drewN | apply below_drew1) | exact HB.out)) hb); clear HB; have HB := n0_; clear n0_; (try clear hb); (try clear hb2); (try clear hk); (try clear hi)) | (go_at_call 11; (with_reducible refine (shellgamelaw17_word.calls a1 t108 _ A11.out).mono ?_); rintro e w45 ⟨rfl, hb⟩; have n0_ := Aside0.mk (below_step (by repeat (first | (with_reducible first | exact HB.out | apply below_alloc | apply pw_below_drewN | apply below_drew1) | exact HB.out)) hb); clear HB; have HB := n0_; clear n0_; (try clear hb); (try clear hb2); (try clear hk); (try clear hi)) | (go_at_call 10; (with_reducible refine (op_Bytes.calls 3 t107 t108 a2 t109 _ A12.out).mono ?_); rintro e w46 ⟨rfl, hb⟩; have n0_ := Aside0.mk (below_step (by repeat (first | (with_reducible first | exact HB.out | apply below_alloc | apply pw_below_drewN | apply below_drew1) | exact HB.out)) hb); clear HB; have HB := n0_; clear n0_; (try clear hb); (try clear hb2); (try clear hk); (try clear hi); have p23 : 0 ≤ (0 : Int) := (by omega); have q23 : 0 < t109.size := (by have : (0 : Int) < (t109.size : Int) := of_decide_eq_true (by first | (with_reducible assumption) | assumption); omega); have hx23 : ∀ h : 0 < t109.size, ((t109[0]'h).toNat : Int) = bt t109 0 := bt_at t109 0; clear p23; have qi23 : (0 < (t109.size : Int)) = True := eq_true (of_decide_eq_true (by first | (with_reducible assumption) | assumption)); replace q23 := eq_true q23; have p26 : 0 ≤ (1 : Int) := (by omega); have q26 : 1 < t109.size := (by have : (1 : Int) < (t109.size : Int) := of_decide_eq_true (by first | (with_reducible assumption) | assumption); omega); have hx26 : ∀ h : 1 < t109.size, ((t109[1]'h).toNat : Int) = bt t109 1 := bt_at t109 1; clear p26; have qi26 : (1 < (t109.size : Int)) = True := eq_true (of_decide_eq_true (by first | (with_reducible assumption) | assumption)); replace q26 := eq_true q26; have p28 : 0 ≤ (2 : Int) := (by omega); have q28 : 2 < t109.size := (by have : (2 : Int) < (t109.size : Int) := of_decide_eq_true (by first | (with_reducible assumption) | assumption); omega); have hx28 : ∀ h : 2 < t109.size, ((t109[2]'h).toNat : Int) = bt t109 2 := bt_at t109 2; clear p28; have qi28 : (2 < (t109.size : Int)) = True := eq_true (of_decide_eq_true (by first | (with_reducible assumption) | assumption)); replace q28 := eq_true q28; have p31 : 0 ≤ (3 : Int) := (by omega); have q31 : 3 < t109.size := (by have : (3 : Int) < (t109.size : Int) := of_decide_eq_true (by first | (with_reducible assumption) | assumption); omega); have hx31 : ∀ h : 3 < t109.size, ((t109[3]'h).toNat : Int) = bt t109 3 := bt_at t109 3; clear p31; have qi31 : (3 < (t109.size : Int)) = True := eq_true (of_decide_eq_true (by first | (with_reducible assumption) | assumption)); replace q31 := eq_true q31; have p39 : 0 ≤ ((ji36) : Int) := of_decide_eq_true (by first | (with_reducible assumption) | assumption); have q39 : (ji36) < (t109.size : Int) := of_decide_eq_true (by first | (with_reducible assumption) | assumption); have hx39 := bt_at t109 (ji36); replace p39 := eq_true p39; replace q39 := eq_true q39))
                                            repeat (go_quiet (first | (go_at_call 11; (with_reducible refine (shellgamelaw17_word.calls a0 t107 _ A10.out).mono ?_); rintro e w44 ⟨rfl, hb⟩; have n0_ := Aside0.mk (below_step (by repeat (first | (with_reducible first | exact HB.out | apply below_alloc | apply pw_below_drewN | apply below_drew1) | exact HB.out)) hb); clear HB; have HB := n0_; clear n0_; (try clear hb); (try clear hb2); (try clear hk); (try clear hi)) | (go_at_call 11; (with_reducible refine (shellgamelaw17_word.calls a1 t108 _ A11.out).mono ?_); rintro e w45 ⟨rfl, hb⟩; have n0_ := Aside0.mk (below_step (by repeat (first | (with_reducible first | exact HB.out | apply below_alloc | apply pw_below_drewN | apply below_drew1) | exact HB.out)) hb); clear HB; have HB := n0_; clear n0_; (try clear hb); (try clear hb2); (try clear hk); (try clear hi)) | (go_at_call 10; (with_reducible refine (op_Bytes.calls 3 t107 t108 a2 t109 _ A12.out).mono ?_); rintro e w46 ⟨rfl, hb⟩; have n0_ := Aside0.mk (below_step (by repeat (first | (with_reducible first | exact HB.out | apply below_alloc | apply pw_below_drewN | apply below_drew1) | exact HB.out)) hb); clear HB; have HB := n0_; clear n0_; (try clear hb); (try clear hb2); (try clear hk); (try clear hi); have p23 : 0 ≤ (0 : Int) := (by omega); have q23 : 0 < t109.size := (by have : (0 : Int) < (t109.size : Int) := of_decide_eq_true (by first | (with_reducible assumption) | assumption); omega); have hx23 : ∀ h : 0 < t109.size, ((t109[0]'h).toNat : Int) = bt t109 0 := bt_at t109 0; clear p23; have qi23 : (0 < (t109.size : Int)) = True := eq_true (of_decide_eq_true (by first | (with_reducible assumption) | assumption)); replace q23 := eq_true q23; have p26 : 0 ≤ (1 : Int) := (by omega); have q26 : 1 < t109.size := (by have : (1 : Int) < (t109.size : Int) := of_decide_eq_true (by first | (with_reducible assumption) | assumption); omega); have hx26 : ∀ h : 1 < t109.size, ((t109[1]'h).toNat : Int) = bt t109 1 := bt_at t109 1; clear p26; have qi26 : (1 < (t109.size : Int)) = True := eq_true (of_decide_eq_true (by first | (with_reducible assumption) | assumption)); replace q26 := eq_true q26; have p28 : 0 ≤ (2 : Int) := (by omega); have q28 : 2 < t109.size := (by have : (2 : Int) < (t109.size : Int) := of_decide_eq_true (by first | (with_reducible assumption) | assumption); omega); have hx28 : ∀ h : 2 < t109.size, ((t109[2]'h).toNat : Int) = bt t109 2 := bt_at t109 2; clear p28; have qi28 : (2 < (t109.size : Int)) = True := eq_true (of_decide_eq_true (by first | (with_reducible assumption) | assumption)); replace q28 := eq_true q28; have p31 : 0 ≤ (3 : Int) := (by omega); have q31 : 3 < t109.size := (by have : (3 : Int) < (t109.size : Int) := of_decide_eq_true (by first | (with_reducible assumption) | assumption); omega); have hx31 : ∀ h : 3 < t109.size, ((t109[3]'h).toNat : Int) = bt t109 3 := bt_at t109 3; clear p31; have qi31 : (3 < (t109.size : Int)) = True := eq_true (of_decide_eq_true (by first | (with_reducible assumption) | assumption)); replace q31 := eq_true q31; have p39 : 0 ≤ ((ji36) : Int) := of_decide_eq_true (by first | (with_reducible assumption) | assumption); have q39 : (ji36) < (t109.size : Int) := of_decide_eq_true (by first | (with_reducible assumption) | assumption); have hx39 := bt_at t109 (ji36); replace p39 := eq_true p39; replace q39 := eq_true q39)); try go_wp2_with (first | (go_at_call 11; (with_reducible refine (shellgamelaw17_word.calls a0 t107 _ A10.out).mono ?_); rintro e w44 ⟨rfl, hb⟩; have n0_ := Aside0.mk (below_step (by repeat (first | (with_reducible first | exact HB.out | apply below_alloc | apply pw_below_drewN | apply below_drew1) | exact HB.out)) hb); clear HB; have HB := n0_; clear n0_; (try clear hb); (try clear hb2); (try clear hk); (try clear hi)) | (go_at_call 11; (with_reducible refine (shellgamelaw17_word.calls a1 t108 _ A11.out).mono ?_); rintro e w45 ⟨rfl, hb⟩; have n0_ := Aside0.mk (below_step (by repeat (first | (with_reducible first | exact HB.out | apply below_alloc | apply pw_below_drewN | apply below_drew1) | exact HB.out)) hb); clear HB; have HB := n0_; clear n0_; (try clear hb); (try clear hb2); (try clear hk); (try clear hi)) | (go_at_call 10; (with_reducible refine (op_Bytes.calls 3 t107 t108 a2 t109 _ A12.out).mono ?_); rintro e w46 ⟨rfl, hb⟩; have n0_ := Aside0.mk (below_step (by repeat (first | (with_reducible first | exact HB.out | apply below_alloc | apply pw_below_drewN | apply below_drew1) | exact HB.out)) hb); clear HB; have HB := n0_; clear n0_; (try clear hb); (try clear hb2); (try clear hk); (try clear hi); have p23 : 0 ≤ (0 : Int) := (by omega); have q23 : 0 < t109.size := (by have : (0 : Int) < (t109.size : Int) := of_decide_eq_true (by first | (with_reducible assumption) | assumption); omega); have hx23 : ∀ h : 0 < t109.size, ((t109[0]'h).toNat : Int) = bt t109 0 := bt_at t109 0; clear p23; have qi23 : (0 < (t109.size : Int)) = True := eq_true (of_decide_eq_true (by first | (with_reducible assumption) | assumption)); replace q23 := eq_true q23; have p26 : 0 ≤ (1 : Int) := (by omega); have q26 : 1 < t109.size := (by have : (1 : Int) < (t109.size : Int) := of_decide_eq_true (by first | (with_reducible assumption) | assumption); omega); have hx26 : ∀ h : 1 < t109.size, ((t109[1]'h).toNat : Int) = bt t109 1 := bt_at t109 1; clear p26; have qi26 : (1 < (t109.size : Int)) = True := eq_true (of_decide_eq_true (by first | (with_reducible assumption) | assumption)); replace q26 := eq_true q26; have p28 : 0 ≤ (2 : Int) := (by omega); have q28 : 2 < t109.size := (by have : (2 : Int) < (t109.size : Int) := of_decide_eq_true (by first | (with_reducible assumption) | assumption); omega); have hx28 : ∀ h : 2 < t109.size, ((t109[2]'h).toNat : Int) = bt t109 2 := bt_at t109 2; clear p28; have qi28 : (2 < (t109.size : Int)) = True := eq_true (of_decide_eq_true (by first | (with_reducible assumption) | assumption)); replace q28 := eq_true q28; have p31 : 0 ≤ (3 : Int) := (by omega); have q31 : 3 < t109.size := (by have : (3 : Int) < (t109.size : Int) := of_decide_eq_true (by first | (with_reducible assumption) | assumption); omega); have hx31 : ∀ h : 3 < t109.size, ((t109[3]'h).toNat : Int) = bt t109 3 := bt_at t109 3; clear p31; have qi31 : (3 < (t109.size : Int)) = True := eq_true (of_decide_eq_true (by first | (with_reducible assumption) | assumption)); replace q31 := eq_true q31; have p39 : 0 ≤ ((ji36) : Int) := of_decide_eq_true (by first | (with_reducible assumption) | assumption); have q39 : (ji36) < (t109.size : Int) := of_decide_eq_true (by first | (with_reducible assumption) | assumption); have hx39 := bt_at t109 (ji36); replace p39 := eq_true p39; replace q39 := eq_true q39)))
                                            go_ret
                                            exact ⟨by first | rfl | (simp [errW_none, errW_some] <;> rfl) | (simp only [← hji36, ← hji41]; first | rfl | (simp [errW_none, errW_some] <;> rfl)) | (simp [*, errW_none, errW_some] <;> rfl), by repeat (first | (with_reducible first | exact HB.out | apply below_alloc | apply pw_below_drewN | apply below_drew1) | exact HB.out)⟩
                                          · rw [if_neg c43] at H
                                            exact absurd H (by simp)
                                        · rw [if_neg c42] at H
                                          exact absurd H (by simp)
                                      · rw [if_neg c40] at H
                                        have c40b0 : ((wrap64 (bt t109 (ji36))) == (a0.size : Int)) = false := beq_eq_false_iff_ne.mpr c40
                                        have c40b1 : ((wrap64 (bt t109 (ji36))) != (a0.size : Int)) = true := bne_iff_ne.mpr c40
                                        rw [hrT.out] at H
                                        exact absurd H (by simp)
                                    · rw [if_neg c38] at H
                                      exact absurd H (by simp)
                                  · rw [if_neg c37] at H
                                    exact absurd H (by simp)
                                · rw [if_neg c35] at H
                                  have c35b0 : ((t109.extract 4 ((wrap64 (4 + (a1.size : Int))) : Int).toNat).toList == a1.toList) = false := beq_eq_false_iff_ne.mpr c35
                                  have c35b1 : ((t109.extract 4 ((wrap64 (4 + (a1.size : Int))) : Int).toNat).toList != a1.toList) = true := bne_iff_ne.mpr c35
                                  rw [hrT.out] at H
                                  exact absurd H (by simp)
                              · rw [if_neg c34] at H
                                exact absurd H (by simp)
                            · rw [if_neg c33] at H
                              exact absurd H (by simp)
                          · rw [if_neg c32] at H
                            have c32b0 : ((wrap64 (bt t109 3)) == (a1.size : Int)) = false := beq_eq_false_iff_ne.mpr c32
                            have c32b1 : ((wrap64 (bt t109 3)) != (a1.size : Int)) = true := bne_iff_ne.mpr c32
                            rw [hrT.out] at H
                            exact absurd H (by simp)
                        · rw [if_neg c30] at H
                          exact absurd H (by simp)
                      · rw [if_neg c29] at H
                        have c29b0 : ((wrap64 ((wrap64 (bt t109 1)) + (wrap64 (256 * (wrap64 (bt t109 2)))))) == a2) = false := beq_eq_false_iff_ne.mpr c29
                        have c29b1 : ((wrap64 ((wrap64 (bt t109 1)) + (wrap64 (256 * (wrap64 (bt t109 2)))))) != a2) = true := bne_iff_ne.mpr c29
                        rw [hrT.out] at H
                        exact absurd H (by simp)
                    · rw [if_neg c27] at H
                      exact absurd H (by simp)
                  · rw [if_neg c25] at H
                    exact absurd H (by simp)
                · rw [if_neg c24] at H
                  have c24b0 : ((bt t109 0) == 80) = false := beq_eq_false_iff_ne.mpr c24
                  have c24b1 : ((bt t109 0) != 80) = true := bne_iff_ne.mpr c24
                  rw [hrT.out] at H
                  exact absurd H (by simp)
              · rw [if_neg c22] at H
                exact absurd H (by simp)
            · rw [if_neg c21] at H
              have c21b0 : ((t109.size : Int) == (wrap64 ((wrap64 (5 + (a1.size : Int))) + (a0.size : Int)))) = false := beq_eq_false_iff_ne.mpr c21
              have c21b1 : ((t109.size : Int) != (wrap64 ((wrap64 (5 + (a1.size : Int))) + (a0.size : Int)))) = true := bne_iff_ne.mpr c21
              rw [hrT.out] at H
              exact absurd H (by simp)

/-- THE ONE PURE STATEMENT of shellgamelaw17_OpPuts: yours. -/
def shellgamelaw17_OpPuts.Pure : Prop := ∀ (a0 : ByteArray) (a1 : ByteArray) (a2 : Int), a0.size ≤ 140737488351232 → a1.size ≤ 140737488351232 → (Lit.int .i64 a2).wf = true → ∃ k, shellgamelaw17_OpPuts.f k a0 a1 a2 = some true
theorem shellgamelaw17_OpPuts.walk (P : shellgamelaw17_OpPuts.Pure) (a0 : ByteArray) (a1 : ByteArray) (a2 : Int) (w : World) (w0 : a0.size ≤ 140737488351232) (w1 : a1.size ≤ 140737488351232) (w2 : (Lit.int .i64 a2).wf = true) :
    Calls Try.prog 3 #[.string a0, .string a1, .int .i64 a2] w fun e w' => e = .returned (.bool true) ∧ Below w.heap.size w w' := by
  obtain ⟨k, h⟩ := P a0 a1 a2 w0 w1 w2
  refine (shellgamelaw17_OpPuts.calls k a0 a1 a2 true w ⟨rfl⟩ h).mono ?_
  rintro e w' ⟨rfl, hd⟩
  exact ⟨rfl, hd⟩

end Go.Proofs.Ytinfbkfdkpjdiaa.POpPuts
