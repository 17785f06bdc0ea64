-- Written by wip/printplus.py over contracts of this repo; not trusted: Lean checks it.
import Derived.Test.YtjkifbadbadoaaaPHashMovesx0
namespace Go.Proofs.Ytjkifbadbadoaaa.PHashMoves
open Go.Proofs.Ytjkifbadbadoaaa.Hand Go.RowKit Go.Proofs.YtjkifbadbadoaaaW.PrintWords Go.Proofs.YtjkifbadbadoaaaW.PrintLast Go.Proofs.YtjkifbadbadoaaaW.PrintMore
attribute [local go_sem] max2_int min2_int max_two min_two max_three min_three max_four min_four   -- for this text's walks alone
set_option linter.unusedVariables false
set_option linter.unusedSimpArgs false

-- given: function 24 (hash_Of)

-- given: function 27 (hash_Mix)

-- given: function 29 (hash_At)

/-! ### shellgamelaw12_shown: function 23 -/
def shellgamelaw12_shown.f  : Option (Bool) := (hash_Of.f ([] : List Int)).bind fun bt101 => ((hash_At.f bt101.1 bt101.2.1 bt101.2.2.1 bt101.2.2.2 0 0 8).bind fun t105 => (if t105 = 0 then ((hash_Mix.f 0).bind fun t106 => (if t106 = 0 then ((hash_Mix.f 1).bind fun t107 => (some (t107 == 11400714820970677676))) else (some false))) else (some false)))
set_option maxHeartbeats 8000000 in
set_option maxRecDepth 100000 in
theorem shellgamelaw12_shown.calls  (r : Bool) (w : World) (h : shellgamelaw12_shown.f  = some r) :
    Calls Try.prog 23 #[] w fun e w' => e = .returned (.bool r) ∧ Below w.heap.size w w' := by
  have HB := Aside0.mk (Below.refl w.heap.size w)
  have H : ((hash_Of.f ([] : List Int)).bind fun bt101 => ((hash_At.f bt101.1 bt101.2.1 bt101.2.2.1 bt101.2.2.2 0 0 8).bind fun t105 => (if t105 = 0 then ((hash_Mix.f 0).bind fun t106 => (if t106 = 0 then ((hash_Mix.f 1).bind fun t107 => (some (t107 == 11400714820970677676))) else (some false))) else (some false)))) = some r := h
  clear h
  replace H := Option.bind_eq_some_iff.mp H
  obtain ⟨⟨t101, t102, t103, t104⟩, A10, H⟩ := H
  replace H : ((hash_At.f t101 t102 t103 t104 0 0 8).bind fun t105 => (if t105 = 0 then ((hash_Mix.f 0).bind fun t106 => (if t106 = 0 then ((hash_Mix.f 1).bind fun t107 => (some (t107 == 11400714820970677676))) else (some false))) else (some false))) = some r := H
  have A1 := Aside0.mk A10
  clear A10
  replace H := Option.bind_eq_some_iff.mp H
  obtain ⟨t105, A20, H⟩ := H
  replace H : (if t105 = 0 then ((hash_Mix.f 0).bind fun t106 => (if t106 = 0 then ((hash_Mix.f 1).bind fun t107 => (some (t107 == 11400714820970677676))) else (some false))) else (some false)) = some r := H
  have A2 := Aside0.mk A20
  clear A20
  by_cases c3 : t105 = 0
  · rw [if_pos c3] at H
    have c3b0 : (t105 == 0) = true := beq_iff_eq.mpr c3
    have c3b1 : (t105 != 0) = false := bne_eq_false_iff_eq.mpr c3
    clear c3
    replace H := Option.bind_eq_some_iff.mp H
    obtain ⟨t106, A40, H⟩ := H
    replace H : (if t106 = 0 then ((hash_Mix.f 1).bind fun t107 => (some (t107 == 11400714820970677676))) else (some false)) = some r := H
    have A4 := Aside0.mk A40
    clear A40
    by_cases c5 : t106 = 0
    · rw [if_pos c5] at H
      have c5b0 : (t106 == 0) = true := beq_iff_eq.mpr c5
      have c5b1 : (t106 != 0) = false := bne_eq_false_iff_eq.mpr c5
      clear c5
      replace H := Option.bind_eq_some_iff.mp H
      obtain ⟨t107, A60, H⟩ := H
      replace H : (some (t107 == 11400714820970677676)) = some r := H
      have A6 := Aside0.mk A60
      clear A60
      obtain rfl := Option.some.inj H
      go_enter Try.func23, Try.ntmps23
      go_wp2_with (first | ((with_reducible refine gate_callee (f := 24) rfl ?_); refine goesL_ (some 1) rfl rfl Try.func24 (by kernel_rfl) rfl #[.slice none 0 0] rfl (by (try simp only [List.map_toArray, List.map_cons, List.map_nil]); first | done | rfl | (simp only [List.length_drop, List.length_take]; rfl)) ?_; (refine (hash_Of.calls _ _ ([] : List Int) t101 t102 t103 t104 _ ?side1 ?side2 A1.out).mono ?_); (case side1 => exact Kd.C_nil _ _); (case side2 => exact Nat.le_refl _); rintro e w7 ⟨rfl, hb⟩; refine ⟨_, rfl, ?_⟩; have n0_ := Aside0.mk (below_step (by repeat (first | (with_reducible first | exact HB.out | apply below_alloc | apply pw_below_drewN | apply below_drew1) | exact HB.out)) hb); clear HB; have HB := n0_; clear n0_; (try clear hb); (try clear hb2); (try clear hk); (try clear hi)) | ((with_reducible refine gate_callee (f := 29) rfl ?_); refine goesL_ (some 2) rfl rfl Try.func29 (by kernel_rfl) rfl #[.agg #[.int .u64 t101, .int .u64 t102, .int .u64 t103, .int .u64 t104], .int .i64 0, .int .u64 0, .int .i64 8] rfl (by (try simp only [List.map_toArray, List.map_cons, List.map_nil]); first | done | rfl | (simp only [List.length_drop, List.length_take]; rfl)) ?_; (with_reducible refine (hash_At.calls t101 t102 t103 t104 0 0 8 t105 _ A2.out).mono ?_); rintro e w8 ⟨rfl, hb⟩; refine ⟨_, rfl, ?_⟩; have n0_ := Aside0.mk (below_step (by repeat (first | (with_reducible first | exact HB.out | apply below_alloc | apply pw_below_drewN | apply below_drew1) | exact HB.out)) hb); clear HB; have HB := n0_; clear n0_; (try clear hb); (try clear hb2); (try clear hk); (try clear hi)) | (go_at_call 27; (with_reducible refine (hash_Mix.calls 0 t106 _ A4.out).mono ?_); rintro e w9 ⟨rfl, hb⟩; have n0_ := Aside0.mk (below_step (by repeat (first | (with_reducible first | exact HB.out | apply below_alloc | apply pw_below_drewN | apply below_drew1) | exact HB.out)) hb); clear HB; have HB := n0_; clear n0_; (try clear hb); (try clear hb2); (try clear hk); (try clear hi)) | (go_at_call 27; (with_reducible refine (hash_Mix.calls 1 t107 _ A6.out).mono ?_); rintro e w10 ⟨rfl, hb⟩; have n0_ := Aside0.mk (below_step (by repeat (first | (with_reducible first | exact HB.out | apply below_alloc | apply pw_below_drewN | apply below_drew1) | exact HB.out)) hb); clear HB; have HB := n0_; clear n0_; (try clear hb); (try clear hb2); (try clear hk); (try clear hi)))
      go_ret
      exact ⟨by first | rfl | (simp [errW_none, errW_some] <;> rfl) | (simp [*, errW_none, errW_some] <;> rfl), by repeat (first | (with_reducible first | exact HB.out | apply below_alloc | apply pw_below_drewN | apply below_drew1) | exact HB.out)⟩
    · rw [if_neg c5] at H
      have c5b0 : (t106 == 0) = false := beq_eq_false_iff_ne.mpr c5
      have c5b1 : (t106 != 0) = true := bne_iff_ne.mpr c5
      obtain rfl := Option.some.inj H
      go_enter Try.func23, Try.ntmps23
      go_wp2_with (first | ((with_reducible refine gate_callee (f := 24) rfl ?_); refine goesL_ (some 1) rfl rfl Try.func24 (by kernel_rfl) rfl #[.slice none 0 0] rfl (by (try simp only [List.map_toArray, List.map_cons, List.map_nil]); first | done | rfl | (simp only [List.length_drop, List.length_take]; rfl)) ?_; (refine (hash_Of.calls _ _ ([] : List Int) t101 t102 t103 t104 _ ?side1 ?side2 A1.out).mono ?_); (case side1 => exact Kd.C_nil _ _); (case side2 => exact Nat.le_refl _); rintro e w11 ⟨rfl, hb⟩; refine ⟨_, rfl, ?_⟩; have n0_ := Aside0.mk (below_step (by repeat (first | (with_reducible first | exact HB.out | apply below_alloc | apply pw_below_drewN | apply below_drew1) | exact HB.out)) hb); clear HB; have HB := n0_; clear n0_; (try clear hb); (try clear hb2); (try clear hk); (try clear hi)) | ((with_reducible refine gate_callee (f := 29) rfl ?_); refine goesL_ (some 2) rfl rfl Try.func29 (by kernel_rfl) rfl #[.agg #[.int .u64 t101, .int .u64 t102, .int .u64 t103, .int .u64 t104], .int .i64 0, .int .u64 0, .int .i64 8] rfl (by (try simp only [List.map_toArray, List.map_cons, List.map_nil]); first | done | rfl | (simp only [List.length_drop, List.length_take]; rfl)) ?_; (with_reducible refine (hash_At.calls t101 t102 t103 t104 0 0 8 t105 _ A2.out).mono ?_); rintro e w12 ⟨rfl, hb⟩; refine ⟨_, rfl, ?_⟩; have n0_ := Aside0.mk (below_step (by repeat (first | (with_reducible first | exact HB.out | apply below_alloc | apply pw_below_drewN | apply below_drew1) | exact HB.out)) hb); clear HB; have HB := n0_; clear n0_; (try clear hb); (try clear hb2); (try clear hk); (try clear hi)) | (go_at_call 27; (with_reducible refine (hash_Mix.calls 0 t106 _ A4.out).mono ?_); rintro e w13 ⟨rfl, hb⟩; have n0_ := Aside0.mk (below_step (by repeat (first | (with_reducible first | exact HB.out | apply below_alloc | apply pw_below_drewN | apply below_drew1) | exact HB.out)) hb); clear HB; have HB := n0_; clear n0_; (try clear hb); (try clear hb2); (try clear hk); (try clear hi)))
      go_ret
      exact ⟨by first | rfl | (simp [errW_none, errW_some] <;> rfl) | (simp [*, errW_none, errW_some] <;> rfl), by repeat (first | (with_reducible first | exact HB.out | apply below_alloc | apply pw_below_drewN | apply below_drew1) | exact HB.out)⟩
  · rw [if_neg c3] at H
    have c3b0 : (t105 == 0) = false := beq_eq_false_iff_ne.mpr c3
    have c3b1 : (t105 != 0) = true := bne_iff_ne.mpr c3
    obtain rfl := Option.some.inj H
    go_enter Try.func23, Try.ntmps23
    go_wp2_with (first | ((with_reducible refine gate_callee (f := 24) rfl ?_); refine goesL_ (some 1) rfl rfl Try.func24 (by kernel_rfl) rfl #[.slice none 0 0] rfl (by (try simp only [List.map_toArray, List.map_cons, List.map_nil]); first | done | rfl | (simp only [List.length_drop, List.length_take]; rfl)) ?_; (refine (hash_Of.calls _ _ ([] : List Int) t101 t102 t103 t104 _ ?side1 ?side2 A1.out).mono ?_); (case side1 => exact Kd.C_nil _ _); (case side2 => exact Nat.le_refl _); rintro e w14 ⟨rfl, hb⟩; refine ⟨_, rfl, ?_⟩; have n0_ := Aside0.mk (below_step (by repeat (first | (with_reducible first | exact HB.out | apply below_alloc | apply pw_below_drewN | apply below_drew1) | exact HB.out)) hb); clear HB; have HB := n0_; clear n0_; (try clear hb); (try clear hb2); (try clear hk); (try clear hi)) | ((with_reducible refine gate_callee (f := 29) rfl ?_); refine goesL_ (some 2) rfl rfl Try.func29 (by kernel_rfl) rfl #[.agg #[.int .u64 t101, .int .u64 t102, .int .u64 t103, .int .u64 t104], .int .i64 0, .int .u64 0, .int .i64 8] rfl (by (try simp only [List.map_toArray, List.map_cons, List.map_nil]); first | done | rfl | (simp only [List.length_drop, List.length_take]; rfl)) ?_; (with_reducible refine (hash_At.calls t101 t102 t103 t104 0 0 8 t105 _ A2.out).mono ?_); rintro e w15 ⟨rfl, hb⟩; refine ⟨_, rfl, ?_⟩; have n0_ := Aside0.mk (below_step (by repeat (first | (with_reducible first | exact HB.out | apply below_alloc | apply pw_below_drewN | apply below_drew1) | exact HB.out)) hb); clear HB; have HB := n0_; clear n0_; (try clear hb); (try clear hb2); (try clear hk); (try clear hi)))
    go_ret
    exact ⟨by first | rfl | (simp [errW_none, errW_some] <;> rfl) | (simp [*, errW_none, errW_some] <;> rfl), by repeat (first | (with_reducible first | exact HB.out | apply below_alloc | apply pw_below_drewN | apply below_drew1) | exact HB.out)⟩

/-! ### shellgamelaw12_HashMoves: function 9 -/
mutual
def shellgamelaw12_HashMoves.j0 : Nat → Int → Int → Int → Int → Int → Int → Bool → Bool → Option (Bool)
  | 0, _, _, _, _, _, _, _, _ => none
  | k + 1, x0, x1, x2, x3, x4, x5, x13, x28 => if x28 = true then (some x13) else (if 0 ≤ x5 then ((hash_At.f x0 x1 x2 x3 0 x4 (shl .i64 1 x5)).bind fun t110 => ((hash_At.f x0 x1 x2 x3 1 x4 (shl .i64 1 x5)).bind fun t111 => ((hash_At.f x0 x1 x3 x2 0 x4 (shl .i64 1 x5)).bind fun t112 => (if t112 = t110 then ((hash_At.f x1 x0 x2 x3 1 x4 (shl .i64 1 x5)).bind fun t113 => (if t113 = t111 then ((hash_At.f x2 x3 0 0 0 x4 (shl .i64 1 x5)).bind fun t114 => (shellgamelaw12_HashMoves.j1 k x0 x1 x4 (shl .i64 1 x5) t110 (t114 != t111))) else (shellgamelaw12_HashMoves.j1 k x0 x1 x4 (shl .i64 1 x5) t110 true))) else (shellgamelaw12_HashMoves.j1 k x0 x1 x4 (shl .i64 1 x5) t110 true))))) else (none))
def shellgamelaw12_HashMoves.j1 : Nat → Int → Int → Int → Int → Int → Bool → Option (Bool)
  | 0, _, _, _, _, _, _ => none
  | k + 1, x0, x1, x4, x14, x16, x76 => if x76 = true then (some false) else ((hash_Mix.f (IntKind.u64.wrap ((IntKind.u64.wrap (x4 * (IntKind.u64.wrap ((IntKind.u64.wrap (2 * x0)) + 1)))) + x1))).bind fun t115 => (if (IntKind.u64.wrap (x14)) = 0 then (none) else (if (IntKind.u64.wrap (x16)) = (Int.tmod t115 (IntKind.u64.wrap (x14))) then ((hash_At.f x0 (IntKind.u64.wrap ((IntKind.u64.wrap (x1 - (IntKind.u64.wrap (2 * x0)))) - 1)) 0 0 0 (IntKind.u64.wrap (x4 + 1)) x14).bind fun t116 => (some (t116 == x16))) else (some false))))
end
def shellgamelaw12_HashMoves.f (k : Nat) (a0 : Int) (a1 : Int) (a2 : Int) (a3 : Int) (a4 : Int) (a5 : Int) : Option (Bool) := (shellgamelaw12_shown.f).bind fun t108 => (if t108 = true then (if a5 < 0 then (shellgamelaw12_HashMoves.j0 k a0 a1 a2 a3 a4 a5 t108 true) else (shellgamelaw12_HashMoves.j0 k a0 a1 a2 a3 a4 a5 t108 (decide (a5 > 10)))) else (shellgamelaw12_HashMoves.j0 k a0 a1 a2 a3 a4 a5 t108 true))
theorem shellgamelaw12_HashMoves.mono_l : ∀ k, (∀ y0 y1 y2 y3 y4 y5 y6 y7, LeO (shellgamelaw12_HashMoves.j0 k y0 y1 y2 y3 y4 y5 y6 y7) (shellgamelaw12_HashMoves.j0 (k + 1) y0 y1 y2 y3 y4 y5 y6 y7)) ∧ (∀ y0 y1 y2 y3 y4 y5, LeO (shellgamelaw12_HashMoves.j1 k y0 y1 y2 y3 y4 y5) (shellgamelaw12_HashMoves.j1 (k + 1) y0 y1 y2 y3 y4 y5))
  | 0 => ⟨fun _ _ _ _ _ _ _ _ r h => by simp [shellgamelaw12_HashMoves.j0] at h, fun _ _ _ _ _ _ r h => by simp [shellgamelaw12_HashMoves.j1] at h⟩
  | k + 1 => by
    obtain ⟨ih0, ih1⟩ := shellgamelaw12_HashMoves.mono_l k
    refine ⟨?_, ?_⟩
    · intro y0 y1 y2 y3 y4 y5 y6 y7
      unfold shellgamelaw12_HashMoves.j0
      repeat' first
      | (with_reducible exact ih0 _ _ _ _ _ _ _ _)
      | (with_reducible exact ih1 _ _ _ _ _ _)
      | (with_reducible exact LeO.refl _)
      | (with_reducible exact LeO.none _)
      | (with_reducible refine LeO.ite ?_ ?_)
      | (with_reducible refine LeO.bind ?_ (fun _ => ?_))
      | exact ih0 _ _ _ _ _ _ _ _
      | exact ih1 _ _ _ _ _ _
      | exact LeO.none _
      | refine LeO.ite ?_ ?_
      | refine LeO.bind ?_ (fun _ => ?_)
    · intro y0 y1 y2 y3 y4 y5
      unfold shellgamelaw12_HashMoves.j1
      repeat' first
      | (with_reducible exact ih0 _ _ _ _ _ _ _ _)
      | (with_reducible exact ih1 _ _ _ _ _ _)
      | (with_reducible exact LeO.refl _)
      | (with_reducible exact LeO.none _)
      | (with_reducible refine LeO.ite ?_ ?_)
      | (with_reducible refine LeO.bind ?_ (fun _ => ?_))
      | exact ih0 _ _ _ _ _ _ _ _
      | exact ih1 _ _ _ _ _ _
      | exact LeO.none _
      | refine LeO.ite ?_ ?_
      | refine LeO.bind ?_ (fun _ => ?_)
theorem shellgamelaw12_HashMoves.mono : ∀ a0 a1 a2 a3 a4 a5 k, LeO (shellgamelaw12_HashMoves.f k a0 a1 a2 a3 a4 a5) (shellgamelaw12_HashMoves.f (k + 1) a0 a1 a2 a3 a4 a5) := by
  intro a0 a1 a2 a3 a4 a5 k
  obtain ⟨ih0, ih1⟩ := shellgamelaw12_HashMoves.mono_l k
  unfold shellgamelaw12_HashMoves.f
  repeat' first
      | (with_reducible exact ih0 _ _ _ _ _ _ _ _)
      | (with_reducible exact ih1 _ _ _ _ _ _)
      | (with_reducible exact LeO.refl _)
      | (with_reducible exact LeO.none _)
      | (with_reducible refine LeO.ite ?_ ?_)
      | (with_reducible refine LeO.bind ?_ (fun _ => ?_))
      | exact ih0 _ _ _ _ _ _ _ _
      | exact ih1 _ _ _ _ _ _
      | exact LeO.none _
      | refine LeO.ite ?_ ?_
      | refine LeO.bind ?_ (fun _ => ?_)
set_option maxHeartbeats 8000000 in
set_option maxRecDepth 100000 in
theorem shellgamelaw12_HashMoves.calls (k : Nat) (a0 : Int) (a1 : Int) (a2 : Int) (a3 : Int) (a4 : Int) (a5 : Int) (r : Bool) (w : World) (h : shellgamelaw12_HashMoves.f k a0 a1 a2 a3 a4 a5 = some r) :
    Calls Try.prog 9 #[.int .u64 a0, .int .u64 a1, .int .u64 a2, .int .u64 a3, .int .u64 a4, .int .i64 a5] w fun e w' => e = .returned (.bool r) ∧ Below w.heap.size w w' := by
  have hu39 := Try.underlying39
  have HB := Aside0.mk (Below.refl w.heap.size w)
  have H : ((shellgamelaw12_shown.f).bind fun t108 => (if t108 = true then (if a5 < 0 then (shellgamelaw12_HashMoves.j0 k a0 a1 a2 a3 a4 a5 t108 true) else (shellgamelaw12_HashMoves.j0 k a0 a1 a2 a3 a4 a5 t108 (decide (a5 > 10)))) else (shellgamelaw12_HashMoves.j0 k a0 a1 a2 a3 a4 a5 t108 true))) = some r := h
  clear h
  replace H := Option.bind_eq_some_iff.mp H
  obtain ⟨t108, A70, H⟩ := H
  replace H : (if t108 = true then (if a5 < 0 then (shellgamelaw12_HashMoves.j0 k a0 a1 a2 a3 a4 a5 t108 true) else (shellgamelaw12_HashMoves.j0 k a0 a1 a2 a3 a4 a5 t108 (decide (a5 > 10)))) else (shellgamelaw12_HashMoves.j0 k a0 a1 a2 a3 a4 a5 t108 true)) = some r := H
  have A7 := Aside0.mk A70
  clear A70
  have HC8 := Aside0.mk H
  clear H
  go_enter Try.func9, Try.ntmps9
  go_upto_region 2 with (first | ((with_reducible refine gate_callee (f := 23) rfl ?_); refine goesL_ (some 18) rfl rfl Try.func23 (by kernel_rfl) rfl #[] rfl (by (try simp only [List.map_toArray, List.map_cons, List.map_nil]); first | done | rfl | (simp only [List.length_drop, List.length_take]; rfl)) ?_; (with_reducible refine (shellgamelaw12_shown.calls  t108 _ A7.out).mono ?_); rintro e w9 ⟨rfl, hb⟩; refine ⟨_, rfl, ?_⟩; have n0_ := Aside0.mk (below_step (by repeat (first | (with_reducible first | exact HB.out | apply below_alloc | apply pw_below_drewN | apply below_drew1) | exact HB.out)) hb); clear HB; have HB := n0_; clear n0_; (try clear hb); (try clear hb2); (try clear hk); (try clear hi)))
  (try simp only [Act.put, List.setIfInBounds_toArray, List.set_cons_zero, List.set_cons_succ])
  go_cut [28] (fun v28 wc => ∃ (kq : Nat) (x28_7 : Bool), v28 = .bool x28_7 ∧ Aside0 (shellgamelaw12_HashMoves.j0 kq a0 a1 a2 a3 a4 a5 t108 x28_7 = some r) ∧ Aside0 (kq ≤ k) ∧ Aside0 (Below w.heap.size w wc))
  case first =>
    have H := HC8.out
    clear HC8
    by_cases c10 : t108 = true
    · subst c10
      have H1 : (if a5 < 0 then (shellgamelaw12_HashMoves.j0 k a0 a1 a2 a3 a4 a5 true true) else (shellgamelaw12_HashMoves.j0 k a0 a1 a2 a3 a4 a5 true (decide (a5 > 10)))) = some r := by rw [if_pos rfl] at H; exact H
      clear H
      have H := H1
      clear H1
      by_cases c11 : a5 < 0
      · rw [if_pos c11] at H
        have c11b0 : decide (a5 < 0) = true := decide_eq_true c11
        clear c11
        (first | rw [c11b0] | (simp only [i64_w, i32_w]; rw [c11b0]) | skip)
        have H' := Aside0.mk H
        clear H
        go_wp2
        go_meet
        case rel => exact ⟨_, (true), (by first | rfl | (simp; done) | (simp [*]; done)), H', ⟨by first | omega | exact Nat.le_refl _⟩, ⟨by repeat (first | (with_reducible first | exact HB.out | apply below_alloc | apply pw_below_drewN | apply below_drew1) | exact HB.out)⟩⟩
      · rw [if_neg c11] at H
        have c11b0 : decide (a5 < 0) = false := decide_eq_false c11
        clear c11
        (first | rw [c11b0] | (simp only [i64_w, i32_w]; rw [c11b0]) | skip)
        have H' := Aside0.mk H
        clear H
        go_wp2
        go_meet
        case rel => exact ⟨_, (decide (a5 > 10)), (by first | rfl | (simp; done) | (simp [*]; done)), H', ⟨by first | omega | exact Nat.le_refl _⟩, ⟨by repeat (first | (with_reducible first | exact HB.out | apply below_alloc | apply pw_below_drewN | apply below_drew1) | exact HB.out)⟩⟩
    · replace c10 := Bool.eq_false_iff.mpr c10
      subst c10
      have H1 : (shellgamelaw12_HashMoves.j0 k a0 a1 a2 a3 a4 a5 false true) = some r := by rw [if_neg (show ¬ (false = true) by decide)] at H; exact H
      clear H
      have H := H1
      clear H1
      have H' := Aside0.mk H
      clear H
      go_wp2
      go_meet
      case rel => exact ⟨_, (true), (by first | rfl | (simp; done) | (simp [*]; done)), H', ⟨by first | omega | exact Nat.le_refl _⟩, ⟨by repeat (first | (with_reducible first | exact HB.out | apply below_alloc | apply pw_below_drewN | apply below_drew1) | exact HB.out)⟩⟩
  case rest =>
    clear HC8
    try clear c1
    try clear c2
    try clear p2
    try clear c9
    try clear c10
    try clear c11
    try clear c11b0
    obtain ⟨kq, x28_7, rfl, HA, HJ7, HB⟩ := hcut
    cases kq with
    | zero => exact absurd HA.out (by simp [shellgamelaw12_HashMoves.j0])
    | succ kj7 =>
      have H := HA.out
      clear HA
      simp only [shellgamelaw12_HashMoves.j0] at H
      by_cases c12 : x28_7 = true
      · subst c12
        have H1 : (some t108) = some r := by rw [if_pos rfl] at H; exact H
        clear H
        have H := H1
        clear H1
        obtain rfl := Option.some.inj H
        go_wp2
        go_ret
        exact ⟨by first | rfl | (simp [errW_none, errW_some] <;> rfl) | (simp [*, errW_none, errW_some] <;> rfl), by repeat (first | (with_reducible first | exact HB.out | apply below_alloc | apply pw_below_drewN | apply below_drew1) | exact HB.out)⟩
      · replace c12 := Bool.eq_false_iff.mpr c12
        subst c12
        have H1 : (if 0 ≤ a5 then ((hash_At.f a0 a1 a2 a3 0 a4 (shl .i64 1 a5)).bind fun t110 => ((hash_At.f a0 a1 a2 a3 1 a4 (shl .i64 1 a5)).bind fun t111 => ((hash_At.f a0 a1 a3 a2 0 a4 (shl .i64 1 a5)).bind fun t112 => (if t112 = t110 then ((hash_At.f a1 a0 a2 a3 1 a4 (shl .i64 1 a5)).bind fun t113 => (if t113 = t111 then ((hash_At.f a2 a3 0 0 0 a4 (shl .i64 1 a5)).bind fun t114 => (shellgamelaw12_HashMoves.j1 kj7 a0 a1 a4 (shl .i64 1 a5) t110 (t114 != t111))) else (shellgamelaw12_HashMoves.j1 kj7 a0 a1 a4 (shl .i64 1 a5) t110 true))) else (shellgamelaw12_HashMoves.j1 kj7 a0 a1 a4 (shl .i64 1 a5) t110 true))))) else (none)) = some r := by rw [if_neg (show ¬ (false = true) by decide)] at H; exact H
        clear H
        have H := H1
        clear H1
        by_cases c13 : 0 ≤ a5
        · rw [if_pos c13] at H
          have c13b0 := eq_true c13
          have c13b1 : decide (0 ≤ a5) = true := decide_eq_true c13
          clear c13
          obtain ⟨ji14, hji14⟩ : ∃ j_ : Int, (shl .i64 1 a5) = j_ := ⟨_, rfl⟩
          replace H : ((hash_At.f a0 a1 a2 a3 0 a4 (ji14)).bind fun t110 => ((hash_At.f a0 a1 a2 a3 1 a4 (ji14)).bind fun t111 => ((hash_At.f a0 a1 a3 a2 0 a4 (ji14)).bind fun t112 => (if t112 = t110 then ((hash_At.f a1 a0 a2 a3 1 a4 (ji14)).bind fun t113 => (if t113 = t111 then ((hash_At.f a2 a3 0 0 0 a4 (ji14)).bind fun t114 => (shellgamelaw12_HashMoves.j1 kj7 a0 a1 a4 ji14 t110 (t114 != t111))) else (shellgamelaw12_HashMoves.j1 kj7 a0 a1 a4 ji14 t110 true))) else (shellgamelaw12_HashMoves.j1 kj7 a0 a1 a4 ji14 t110 true))))) = some r := by first | (rw [hji14] at H; exact H) | (simp only [hji14] at H ⊢; exact H)
          have hji14_ : (IntKind.i64.wrap (1 * 2 ^ min a5.toNat 64)) = ji14 := hji14
          have hji14z : a5 ≤ 64 → (IntKind.i64.wrap (1 * 2 ^ a5.toNat)) = ji14 := shl_small hji14
          have hji14u : (IntKind.i64.wrap (2 ^ min a5.toNat 64)) = ji14 := by have h_ := hji14_; rw [Int.one_mul] at h_; exact h_
          have hji14v : a5 ≤ 64 → (IntKind.i64.wrap (2 ^ a5.toNat)) = ji14 := fun hle_ => by have h_ := hji14z hle_; rw [Int.one_mul] at h_; exact h_
          have hji14y : (wrap64 (1 * 2 ^ min a5.toNat 64)) = ji14 := (i64_w _).symm.trans hji14_
          have hji14x : a5 ≤ 64 → (wrap64 (1 * 2 ^ a5.toNat)) = ji14 := fun h_ => (i64_w _).symm.trans (hji14z h_)
          replace H := Option.bind_eq_some_iff.mp H
          obtain ⟨t110, A150, H⟩ := H
          replace H : ((hash_At.f a0 a1 a2 a3 1 a4 (ji14)).bind fun t111 => ((hash_At.f a0 a1 a3 a2 0 a4 (ji14)).bind fun t112 => (if t112 = t110 then ((hash_At.f a1 a0 a2 a3 1 a4 (ji14)).bind fun t113 => (if t113 = t111 then ((hash_At.f a2 a3 0 0 0 a4 (ji14)).bind fun t114 => (shellgamelaw12_HashMoves.j1 kj7 a0 a1 a4 ji14 t110 (t114 != t111))) else (shellgamelaw12_HashMoves.j1 kj7 a0 a1 a4 ji14 t110 true))) else (shellgamelaw12_HashMoves.j1 kj7 a0 a1 a4 ji14 t110 true)))) = some r := H
          have A15 := Aside0.mk A150
          clear A150
          replace H := Option.bind_eq_some_iff.mp H
          obtain ⟨t111, A160, H⟩ := H
          replace H : ((hash_At.f a0 a1 a3 a2 0 a4 (ji14)).bind fun t112 => (if t112 = t110 then ((hash_At.f a1 a0 a2 a3 1 a4 (ji14)).bind fun t113 => (if t113 = t111 then ((hash_At.f a2 a3 0 0 0 a4 (ji14)).bind fun t114 => (shellgamelaw12_HashMoves.j1 kj7 a0 a1 a4 ji14 t110 (t114 != t111))) else (shellgamelaw12_HashMoves.j1 kj7 a0 a1 a4 ji14 t110 true))) else (shellgamelaw12_HashMoves.j1 kj7 a0 a1 a4 ji14 t110 true))) = some r := H
          have A16 := Aside0.mk A160
          clear A160
          have HC17 := Aside0.mk H
          clear H
          go_upto_region 8 with (first | ((with_reducible refine gate_dst (N := 15) rfl ?_); refine box_event ?hg (N := 15) ?hd (cs := #[.int .u64 0, .int .u64 0, .int .u64 0, .int .u64 0]) (t := 39) ?hr ?_; (case hd => rfl); (case hg => rfl); (case hr => first | (go_simp; done) | (go_simp; rfl)); intro gb109 hg w18 hbox hb; have n0_ := Aside0.mk (below_step (by repeat (first | (with_reducible first | exact HB.out | apply below_alloc | apply pw_below_drewN | apply below_drew1) | exact HB.out)) hb); have n1_ := Aside0.mk (hbox); have n2_ := Aside0.mk ((by rw [hg]; exact (below_size (by repeat (first | (with_reducible first | exact HB.out | apply below_alloc | apply pw_below_drewN | apply below_drew1) | exact HB.out))) : w.heap.size ≤ gb109)); have n3_ := Aside0.mk ((by rw [hg]; exact (below_size (by repeat (first | (with_reducible first | exact HB.out | apply below_alloc | apply pw_below_drewN | apply below_drew1) | exact HB.out))) : w.heap.size ≤ gb109)); clear HB; have HB := n0_; have BK109 := n1_; have GW109 := n2_; have GE109 := n3_; clear n0_ n1_ n2_ n3_; clear hb hbox hg; have hcz19_0 : w18.cell? ⟨gb109, 0, none⟩ = some (.int .u64 0) := (blk_cell BK109.out 0).trans rfl; have hcz19_1 : w18.cell? ⟨gb109, 1, none⟩ = some (.int .u64 0) := (blk_cell BK109.out 1).trans rfl; have hcz19_2 : w18.cell? ⟨gb109, 2, none⟩ = some (.int .u64 0) := (blk_cell BK109.out 2).trans rfl; have hcz19_3 : w18.cell? ⟨gb109, 3, none⟩ = some (.int .u64 0) := (blk_cell BK109.out 3).trans rfl; have hfz19_0 := blk_frozen BK109.out 0; have hfz19_1 := blk_frozen BK109.out 1; have hfz19_2 := blk_frozen BK109.out 2; have hfz19_3 := blk_frozen BK109.out 3) | ((with_reducible refine gate_callee (f := 29) rfl ?_); refine goesL_ (some 40) rfl rfl Try.func29 (by kernel_rfl) rfl #[.agg #[.int .u64 a0, .int .u64 a1, .int .u64 a2, .int .u64 a3], .int .i64 0, .int .u64 a4, .int .i64 ji14] rfl (by (try simp only [List.map_toArray, List.map_cons, List.map_nil]); first | done | (simp only [hji14]; rfl) | rfl | (simp only [List.length_drop, List.length_take]; rfl)) ?_; (with_reducible refine (hash_At.calls a0 a1 a2 a3 0 a4 ji14 t110 _ A15.out).mono ?_); rintro e w20 ⟨rfl, hb⟩; refine ⟨_, rfl, ?_⟩; have n0_ := Aside0.mk (blk_below (g := gb109) (o := .cells #[.int .u64 a0, .int .u64 a1, .int .u64 a2, .int .u64 a3] 39 (0, 0)) (by (with_reducible repeat (first | refine blk_drewN ?_ _ | refine blk_drew ?_ | refine blk_alloc ?_ _)); refine blk_put (cs := #[.int .u64 a0, .int .u64 a1, .int .u64 a2, .int .u64 0]) ?_ 3 _ rfl; (with_reducible repeat (first | refine blk_drewN ?_ _ | refine blk_drew ?_ | refine blk_alloc ?_ _)); refine blk_put (cs := #[.int .u64 a0, .int .u64 a1, .int .u64 0, .int .u64 0]) ?_ 2 _ rfl; (with_reducible repeat (first | refine blk_drewN ?_ _ | refine blk_drew ?_ | refine blk_alloc ?_ _)); refine blk_put (cs := #[.int .u64 a0, .int .u64 0, .int .u64 0, .int .u64 0]) ?_ 1 _ rfl; (with_reducible repeat (first | refine blk_drewN ?_ _ | refine blk_drew ?_ | refine blk_alloc ?_ _)); refine blk_put (cs := #[.int .u64 0, .int .u64 0, .int .u64 0, .int .u64 0]) ?_ 0 _ rfl; (with_reducible repeat (first | refine blk_drewN ?_ _ | refine blk_drew ?_ | refine blk_alloc ?_ _)); exact BK109.out) hb); have n1_ := Aside0.mk (below_step (by repeat (first | (with_reducible first | exact HB.out | apply below_alloc | apply pw_below_drewN | apply below_drew1 | refine below_set ?_ GE109.out) | exact HB.out)) hb); clear BK109; clear HB; have BK109 := n0_; have HB := n1_; clear n0_ n1_; (try clear hb); (try clear hb2); (try clear hk); (try clear hi); have hcz21_0 : w20.cell? ⟨gb109, 0, none⟩ = some (.int .u64 a0) := (blk_cell BK109.out 0).trans rfl; have hcz21_1 : w20.cell? ⟨gb109, 1, none⟩ = some (.int .u64 a1) := (blk_cell BK109.out 1).trans rfl; have hcz21_2 : w20.cell? ⟨gb109, 2, none⟩ = some (.int .u64 a2) := (blk_cell BK109.out 2).trans rfl; have hcz21_3 : w20.cell? ⟨gb109, 3, none⟩ = some (.int .u64 a3) := (blk_cell BK109.out 3).trans rfl; have hfz21_0 := blk_frozen BK109.out 0; have hfz21_1 := blk_frozen BK109.out 1; have hfz21_2 := blk_frozen BK109.out 2; have hfz21_3 := blk_frozen BK109.out 3) | ((with_reducible refine gate_callee (f := 29) rfl ?_); refine goesL_ (some 44) rfl rfl Try.func29 (by kernel_rfl) rfl #[.agg #[.int .u64 a0, .int .u64 a1, .int .u64 a2, .int .u64 a3], .int .i64 1, .int .u64 a4, .int .i64 ji14] rfl (by (try simp only [List.map_toArray, List.map_cons, List.map_nil]); first | done | (simp only [hji14]; rfl) | rfl | (simp only [List.length_drop, List.length_take]; rfl)) ?_; (with_reducible refine (hash_At.calls a0 a1 a2 a3 1 a4 ji14 t111 _ A16.out).mono ?_); rintro e w22 ⟨rfl, hb⟩; refine ⟨_, rfl, ?_⟩; have n0_ := Aside0.mk (blk_below (g := gb109) (o := .cells #[.int .u64 a0, .int .u64 a1, .int .u64 a2, .int .u64 a3] 39 (0, 0)) (by (with_reducible repeat (first | refine blk_drewN ?_ _ | refine blk_drew ?_ | refine blk_alloc ?_ _)); exact BK109.out) hb); have n1_ := Aside0.mk (below_step (by repeat (first | (with_reducible first | exact HB.out | apply below_alloc | apply pw_below_drewN | apply below_drew1 | refine below_set ?_ GE109.out) | exact HB.out)) hb); clear BK109; clear HB; have BK109 := n0_; have HB := n1_; clear n0_ n1_; (try clear hb); (try clear hb2); (try clear hk); (try clear hi)))
          (try simp only [Act.put, List.setIfInBounds_toArray, List.set_cons_zero, List.set_cons_succ])
          go_cut [76] (fun v76 wc => ∃ (kq : Nat) (x76_16 : Bool), v76 = .bool x76_16 ∧ Aside0 (shellgamelaw12_HashMoves.j1 kq a0 a1 a4 ji14 t110 x76_16 = some r) ∧ Aside0 (kq ≤ kj7) ∧ Aside0 (wc.heap[gb109]? = some (.cells #[.int .u64 a0, .int .u64 a1, .int .u64 a2, .int .u64 a3] 39 (0, 0))) ∧ Aside0 (Below w.heap.size w wc))
          case first =>
            have H := HC17.out
            clear HC17
            replace H := Option.bind_eq_some_iff.mp H
            obtain ⟨t112, A230, H⟩ := H
            replace H : (if t112 = t110 then ((hash_At.f a1 a0 a2 a3 1 a4 (ji14)).bind fun t113 => (if t113 = t111 then ((hash_At.f a2 a3 0 0 0 a4 (ji14)).bind fun t114 => (shellgamelaw12_HashMoves.j1 kj7 a0 a1 a4 ji14 t110 (t114 != t111))) else (shellgamelaw12_HashMoves.j1 kj7 a0 a1 a4 ji14 t110 true))) else (shellgamelaw12_HashMoves.j1 kj7 a0 a1 a4 ji14 t110 true)) = some r := H
            have A23 := Aside0.mk A230
            clear A230
            by_cases c24 : t112 = t110
            · rw [if_pos c24] at H
              have c24b0 : (t112 == t110) = true := beq_iff_eq.mpr c24
              have c24b1 : (t112 != t110) = false := bne_eq_false_iff_eq.mpr c24
              clear c24
              (first | rw [c24b0] | (simp only [i64_w, i32_w]; rw [c24b0]) | skip)
              replace H := Option.bind_eq_some_iff.mp H
              obtain ⟨t113, A250, H⟩ := H
              replace H : (if t113 = t111 then ((hash_At.f a2 a3 0 0 0 a4 (ji14)).bind fun t114 => (shellgamelaw12_HashMoves.j1 kj7 a0 a1 a4 ji14 t110 (t114 != t111))) else (shellgamelaw12_HashMoves.j1 kj7 a0 a1 a4 ji14 t110 true)) = some r := H
              have A25 := Aside0.mk A250
              clear A250
              by_cases c26 : t113 = t111
              · rw [if_pos c26] at H
                have c26b0 : (t113 == t111) = true := beq_iff_eq.mpr c26
                have c26b1 : (t113 != t111) = false := bne_eq_false_iff_eq.mpr c26
                clear c26
                replace H := Option.bind_eq_some_iff.mp H
                obtain ⟨t114, A270, H⟩ := H
                replace H : (shellgamelaw12_HashMoves.j1 kj7 a0 a1 a4 ji14 t110 (t114 != t111)) = some r := H
                have A27 := Aside0.mk A270
                clear A270
                have H' := Aside0.mk H
                clear H
                go_wp2_with (first | ((with_reducible refine gate_callee (f := 29) rfl ?_); refine goesL_ (some 52) rfl rfl Try.func29 (by kernel_rfl) rfl #[.agg #[.int .u64 a0, .int .u64 a1, .int .u64 a3, .int .u64 a2], .int .i64 0, .int .u64 a4, .int .i64 ji14] rfl (by (try simp only [List.map_toArray, List.map_cons, List.map_nil]); first | done | (simp only [hji14]; rfl) | rfl | (simp only [List.length_drop, List.length_take]; rfl)) ?_; (with_reducible refine (hash_At.calls a0 a1 a3 a2 0 a4 ji14 t112 _ A23.out).mono ?_); rintro e w28 ⟨rfl, hb⟩; refine ⟨_, rfl, ?_⟩; have n0_ := Aside0.mk (blk_below (g := gb109) (o := .cells #[.int .u64 a0, .int .u64 a1, .int .u64 a2, .int .u64 a3] 39 (0, 0)) (by (with_reducible repeat (first | refine blk_drewN ?_ _ | refine blk_drew ?_ | refine blk_alloc ?_ _)); exact BK109.out) hb); have n1_ := Aside0.mk (below_step (by repeat (first | (with_reducible first | exact HB.out | apply below_alloc | apply pw_below_drewN | apply below_drew1 | refine below_set ?_ GE109.out) | exact HB.out)) hb); clear BK109; clear HB; have BK109 := n0_; have HB := n1_; clear n0_ n1_; (try clear hb); (try clear hb2); (try clear hk); (try clear hi)) | (go_at_call 29; (with_reducible refine (hash_At.calls a1 a0 a2 a3 1 a4 ji14 t113 _ A25.out).mono ?_); rintro e w29 ⟨rfl, hb⟩; have n0_ := Aside0.mk (blk_below (g := gb109) (o := .cells #[.int .u64 a0, .int .u64 a1, .int .u64 a2, .int .u64 a3] 39 (0, 0)) (by (with_reducible repeat (first | refine blk_drewN ?_ _ | refine blk_drew ?_ | refine blk_alloc ?_ _)); exact BK109.out) hb); have n1_ := Aside0.mk (below_step (by repeat (first | (with_reducible first | exact HB.out | apply below_alloc | apply pw_below_drewN | apply below_drew1 | refine below_set ?_ GE109.out) | exact HB.out)) hb); clear BK109; clear HB; have BK109 := n0_; have HB := n1_; clear n0_ n1_; (try clear hb); (try clear hb2); (try clear hk); (try clear hi)) | (go_at_call 29; (with_reducible refine (hash_At.calls a2 a3 0 0 0 a4 ji14 t114 _ A27.out).mono ?_); rintro e w30 ⟨rfl, hb⟩; have n0_ := Aside0.mk (blk_below (g := gb109) (o := .cells #[.int .u64 a0, .int .u64 a1, .int .u64 a2, .int .u64 a3] 39 (0, 0)) (by (with_reducible repeat (first | refine blk_drewN ?_ _ | refine blk_drew ?_ | refine blk_alloc ?_ _)); exact BK109.out) hb); have n1_ := Aside0.mk (below_step (by repeat (first | (with_reducible first | exact HB.out | apply below_alloc | apply pw_below_drewN | apply below_drew1 | refine below_set ?_ GE109.out) | exact HB.out)) hb); clear BK109; clear HB; have BK109 := n0_; have HB := n1_; clear n0_ n1_; (try clear hb); (try clear hb2); (try clear hk); (try clear hi)))
                go_meet
                case rel => exact ⟨_, ((t114 != t111)), (by first | rfl | (simp; done) | (simp [*]; done)), H', ⟨by have := HJ7.out; first | omega | exact Nat.le_refl _⟩, ⟨by (with_reducible repeat (first | refine blk_drewN ?_ _ | refine blk_drew ?_ | refine blk_alloc ?_ _)); exact BK109.out⟩, ⟨by repeat (first | (with_reducible first | exact HB.out | apply below_alloc | apply pw_below_drewN | apply below_drew1 | refine below_set ?_ GE109.out) | exact HB.out)⟩⟩
              · rw [if_neg c26] at H
                have c26b0 : (t113 == t111) = false := beq_eq_false_iff_ne.mpr c26
                have c26b1 : (t113 != t111) = true := bne_iff_ne.mpr c26
                have H' := Aside0.mk H
                clear H
                go_wp2_with (first | ((with_reducible refine gate_callee (f := 29) rfl ?_); refine goesL_ (some 52) rfl rfl Try.func29 (by kernel_rfl) rfl #[.agg #[.int .u64 a0, .int .u64 a1, .int .u64 a3, .int .u64 a2], .int .i64 0, .int .u64 a4, .int .i64 ji14] rfl (by (try simp only [List.map_toArray, List.map_cons, List.map_nil]); first | done | (simp only [hji14]; rfl) | rfl | (simp only [List.length_drop, List.length_take]; rfl)) ?_; (with_reducible refine (hash_At.calls a0 a1 a3 a2 0 a4 ji14 t112 _ A23.out).mono ?_); rintro e w31 ⟨rfl, hb⟩; refine ⟨_, rfl, ?_⟩; have n0_ := Aside0.mk (blk_below (g := gb109) (o := .cells #[.int .u64 a0, .int .u64 a1, .int .u64 a2, .int .u64 a3] 39 (0, 0)) (by (with_reducible repeat (first | refine blk_drewN ?_ _ | refine blk_drew ?_ | refine blk_alloc ?_ _)); exact BK109.out) hb); have n1_ := Aside0.mk (below_step (by repeat (first | (with_reducible first | exact HB.out | apply below_alloc | apply pw_below_drewN | apply below_drew1 | refine below_set ?_ GE109.out) | exact HB.out)) hb); clear BK109; clear HB; have BK109 := n0_; have HB := n1_; clear n0_ n1_; (try clear hb); (try clear hb2); (try clear hk); (try clear hi)) | (go_at_call 29; (with_reducible refine (hash_At.calls a1 a0 a2 a3 1 a4 ji14 t113 _ A25.out).mono ?_); rintro e w32 ⟨rfl, hb⟩; have n0_ := Aside0.mk (blk_below (g := gb109) (o := .cells #[.int .u64 a0, .int .u64 a1, .int .u64 a2, .int .u64 a3] 39 (0, 0)) (by (with_reducible repeat (first | refine blk_drewN ?_ _ | refine blk_drew ?_ | refine blk_alloc ?_ _)); exact BK109.out) hb); have n1_ := Aside0.mk (below_step (by repeat (first | (with_reducible first | exact HB.out | apply below_alloc | apply pw_below_drewN | apply below_drew1 | refine below_set ?_ GE109.out) | exact HB.out)) hb); clear BK109; clear HB; have BK109 := n0_; have HB := n1_; clear n0_ n1_; (try clear hb); (try clear hb2); (try clear hk); (try clear hi)))
                go_meet
                case rel => exact ⟨_, (true), (by first | rfl | (simp; done) | (simp [*]; done)), H', ⟨by have := HJ7.out; first | omega | exact Nat.le_refl _⟩, ⟨by (with_reducible repeat (first | refine blk_drewN ?_ _ | refine blk_drew ?_ | refine blk_alloc ?_ _)); exact BK109.out⟩, ⟨by repeat (first | (with_reducible first | exact HB.out | apply below_alloc | apply pw_below_drewN | apply below_drew1 | refine below_set ?_ GE109.out) | exact HB.out)⟩⟩
            · rw [if_neg c24] at H
              have c24b0 : (t112 == t110) = false := beq_eq_false_iff_ne.mpr c24
              have c24b1 : (t112 != t110) = true := bne_iff_ne.mpr c24
              (first | rw [c24b0] | (simp only [i64_w, i32_w]; rw [c24b0]) | skip)
              have H' := Aside0.mk H
              clear H
              go_wp2_with (first | ((with_reducible refine gate_callee (f := 29) rfl ?_); refine goesL_ (some 52) rfl rfl Try.func29 (by kernel_rfl) rfl #[.agg #[.int .u64 a0, .int .u64 a1, .int .u64 a3, .int .u64 a2], .int .i64 0, .int .u64 a4, .int .i64 ji14] rfl (by (try simp only [List.map_toArray, List.map_cons, List.map_nil]); first | done | (simp only [hji14]; rfl) | rfl | (simp only [List.length_drop, List.length_take]; rfl)) ?_; (with_reducible refine (hash_At.calls a0 a1 a3 a2 0 a4 ji14 t112 _ A23.out).mono ?_); rintro e w33 ⟨rfl, hb⟩; refine ⟨_, rfl, ?_⟩; have n0_ := Aside0.mk (blk_below (g := gb109) (o := .cells #[.int .u64 a0, .int .u64 a1, .int .u64 a2, .int .u64 a3] 39 (0, 0)) (by (with_reducible repeat (first | refine blk_drewN ?_ _ | refine blk_drew ?_ | refine blk_alloc ?_ _)); exact BK109.out) hb); have n1_ := Aside0.mk (below_step (by repeat (first | (with_reducible first | exact HB.out | apply below_alloc | apply pw_below_drewN | apply below_drew1 | refine below_set ?_ GE109.out) | exact HB.out)) hb); clear BK109; clear HB; have BK109 := n0_; have HB := n1_; clear n0_ n1_; (try clear hb); (try clear hb2); (try clear hk); (try clear hi)))
              go_meet
              case rel => exact ⟨_, (true), (by first | rfl | (simp; done) | (simp [*]; done)), H', ⟨by have := HJ7.out; first | omega | exact Nat.le_refl _⟩, ⟨by (with_reducible repeat (first | refine blk_drewN ?_ _ | refine blk_drew ?_ | refine blk_alloc ?_ _)); exact BK109.out⟩, ⟨by repeat (first | (with_reducible first | exact HB.out | apply below_alloc | apply pw_below_drewN | apply below_drew1 | refine below_set ?_ GE109.out) | exact HB.out)⟩⟩
          case rest =>
            clear HC17
            try clear c1
            try clear c2
            try clear p2
            try clear p6
            try clear c9
            try clear c10
            try clear c11
            try clear c11b0
            try clear c12
            try clear c13
            try clear c13b0
            try clear c13b1
            try clear c23
            try clear c24
            try clear c24b0
            try clear c24b1
            try clear c26
            try clear c26b0
            try clear c26b1
            try clear c29
            try clear hcz19_0
            try clear hcz19_1
            try clear hcz19_2
            try clear hcz19_3
            try clear hcz21_0
            try clear hcz21_1
            try clear hcz21_2
            try clear hcz21_3
            try clear hfz19_0
            try clear hfz19_1
            try clear hfz19_2
            try clear hfz19_3
            try clear hfz21_0
            try clear hfz21_1
            try clear hfz21_2
            try clear hfz21_3
            try clear p2
            obtain ⟨kq, x76_16, rfl, HA, HJ16, BK109, HB⟩ := hcut
            cases kq with
            | zero => exact absurd HA.out (by simp [shellgamelaw12_HashMoves.j1])
            | succ kj16 =>
              have H := HA.out
              clear HA
              simp only [shellgamelaw12_HashMoves.j1] at H
              by_cases c34 : x76_16 = true
              · subst c34
                have H1 : (some false) = some r := by rw [if_pos rfl] at H; exact H
                clear H
                have H := H1
                clear H1
                obtain rfl := Option.some.inj H
                go_wp2
                go_ret
                exact ⟨by first | rfl | (simp [errW_none, errW_some] <;> rfl) | (simp only [← hji14]; first | rfl | (simp [errW_none, errW_some] <;> rfl)) | (simp [*, errW_none, errW_some] <;> rfl), by repeat (first | (with_reducible first | exact HB.out | apply below_alloc | apply pw_below_drewN | apply below_drew1 | refine below_set ?_ GE109.out) | exact HB.out)⟩
              · replace c34 := Bool.eq_false_iff.mpr c34
                subst c34
                have H1 : ((hash_Mix.f (IntKind.u64.wrap ((IntKind.u64.wrap (a4 * (IntKind.u64.wrap ((IntKind.u64.wrap (2 * a0)) + 1)))) + a1))).bind fun t115 => (if (IntKind.u64.wrap (ji14)) = 0 then (none) else (if (IntKind.u64.wrap (t110)) = (Int.tmod t115 (IntKind.u64.wrap (ji14))) then ((hash_At.f a0 (IntKind.u64.wrap ((IntKind.u64.wrap (a1 - (IntKind.u64.wrap (2 * a0)))) - 1)) 0 0 0 (IntKind.u64.wrap (a4 + 1)) ji14).bind fun t116 => (some (t116 == t110))) else (some false)))) = some r := by rw [if_neg (show ¬ (false = true) by decide)] at H; exact H
                clear H
                have H := H1
                clear H1
                replace H := Option.bind_eq_some_iff.mp H
                obtain ⟨t115, A350, H⟩ := H
                replace H : (if (IntKind.u64.wrap (ji14)) = 0 then (none) else (if (IntKind.u64.wrap (t110)) = (Int.tmod t115 (IntKind.u64.wrap (ji14))) then ((hash_At.f a0 (IntKind.u64.wrap ((IntKind.u64.wrap (a1 - (IntKind.u64.wrap (2 * a0)))) - 1)) 0 0 0 (IntKind.u64.wrap (a4 + 1)) ji14).bind fun t116 => (some (t116 == t110))) else (some false))) = some r := H
                have A35 := Aside0.mk A350
                clear A350
                by_cases c36 : (IntKind.u64.wrap (ji14)) = 0
                · rw [if_pos c36] at H
                  exact absurd H (by simp)
                · rw [if_neg c36] at H
                  have c36b0 : ((IntKind.u64.wrap (ji14)) == 0) = false := beq_eq_false_iff_ne.mpr c36
                  have c36b1 : ((IntKind.u64.wrap (ji14)) != 0) = true := bne_iff_ne.mpr c36
                  by_cases c37 : (IntKind.u64.wrap (t110)) = (Int.tmod t115 (IntKind.u64.wrap (ji14)))
                  · rw [if_pos c37] at H
                    have c37b0 : ((IntKind.u64.wrap (t110)) == (Int.tmod t115 (IntKind.u64.wrap (ji14)))) = true := beq_iff_eq.mpr c37
                    have c37b1 : ((IntKind.u64.wrap (t110)) != (Int.tmod t115 (IntKind.u64.wrap (ji14)))) = false := bne_eq_false_iff_eq.mpr c37
                    clear c37
                    replace H := Option.bind_eq_some_iff.mp H
                    obtain ⟨t116, A380, H⟩ := H
                    replace H : (some (t116 == t110)) = some r := H
                    have A38 := Aside0.mk A380
                    clear A380
                    obtain rfl := Option.some.inj H
                    go_wp2_with (first | ((with_reducible refine gate_callee (f := 27) rfl ?_); refine goesL_ (some 86) rfl rfl Try.func27 (by kernel_rfl) rfl #[.int .u64 (IntKind.u64.wrap ((IntKind.u64.wrap (a4 * (IntKind.u64.wrap ((IntKind.u64.wrap (2 * a0)) + 1)))) + a1))] rfl (by (try simp only [List.map_toArray, List.map_cons, List.map_nil]); first | done | rfl | (simp only [List.length_drop, List.length_take]; rfl)) ?_; (with_reducible refine (hash_Mix.calls (IntKind.u64.wrap ((IntKind.u64.wrap (a4 * (IntKind.u64.wrap ((IntKind.u64.wrap (2 * a0)) + 1)))) + a1)) t115 _ A35.out).mono ?_); rintro e w39 ⟨rfl, hb⟩; refine ⟨_, rfl, ?_⟩; have n0_ := Aside0.mk (blk_below (g := gb109) (o := .cells #[.int .u64 a0, .int .u64 a1, .int .u64 a2, .int .u64 a3] 39 (0, 0)) (by (with_reducible repeat (first | refine blk_drewN ?_ _ | refine blk_drew ?_ | refine blk_alloc ?_ _)); exact BK109.out) hb); have n1_ := Aside0.mk (below_step (by repeat (first | (with_reducible first | exact HB.out | apply below_alloc | apply pw_below_drewN | apply below_drew1 | refine below_set ?_ GE109.out) | exact HB.out)) hb); clear BK109; clear HB; have BK109 := n0_; have HB := n1_; clear n0_ n1_; (try clear hb); (try clear hb2); (try clear hk); (try clear hi)) | (go_at_call 29; (with_reducible refine (hash_At.calls a0 (IntKind.u64.wrap ((IntKind.u64.wrap (a1 - (IntKind.u64.wrap (2 * a0)))) - 1)) 0 0 0 (IntKind.u64.wrap (a4 + 1)) ji14 t116 _ A38.out).mono ?_); rintro e w40 ⟨rfl, hb⟩; have n0_ := Aside0.mk (blk_below (g := gb109) (o := .cells #[.int .u64 a0, .int .u64 a1, .int .u64 a2, .int .u64 a3] 39 (0, 0)) (by (with_reducible repeat (first | refine blk_drewN ?_ _ | refine blk_drew ?_ | refine blk_alloc ?_ _)); exact BK109.out) hb); have n1_ := Aside0.mk (below_step (by repeat (first | (with_reducible first | exact HB.out | apply below_alloc | apply pw_below_drewN | apply below_drew1 | refine below_set ?_ GE109.out) | exact HB.out)) hb); clear BK109; clear HB; have BK109 := n0_; have HB := n1_; clear n0_ n1_; (try clear hb); (try clear hb2); (try clear hk); (try clear hi)))
                    go_ret
                    exact ⟨by first | rfl | (simp [errW_none, errW_some] <;> rfl) | (simp only [← hji14]; first | rfl | (simp [errW_none, errW_some] <;> rfl)) | (simp [*, errW_none, errW_some] <;> rfl), by repeat (first | (with_reducible first | exact HB.out | apply below_alloc | apply pw_below_drewN | apply below_drew1 | refine below_set ?_ GE109.out) | exact HB.out)⟩
                  · rw [if_neg c37] at H
                    have c37b0 : ((IntKind.u64.wrap (t110)) == (Int.tmod t115 (IntKind.u64.wrap (ji14)))) = false := beq_eq_false_iff_ne.mpr c37
                    have c37b1 : ((IntKind.u64.wrap (t110)) != (Int.tmod t115 (IntKind.u64.wrap (ji14)))) = true := bne_iff_ne.mpr c37
                    obtain rfl := Option.some.inj H
                    go_wp2_with (first | ((with_reducible refine gate_callee (f := 27) rfl ?_); refine goesL_ (some 86) rfl rfl Try.func27 (by kernel_rfl) rfl #[.int .u64 (IntKind.u64.wrap ((IntKind.u64.wrap (a4 * (IntKind.u64.wrap ((IntKind.u64.wrap (2 * a0)) + 1)))) + a1))] rfl (by (try simp only [List.map_toArray, List.map_cons, List.map_nil]); first | done | rfl | (simp only [List.length_drop, List.length_take]; rfl)) ?_; (with_reducible refine (hash_Mix.calls (IntKind.u64.wrap ((IntKind.u64.wrap (a4 * (IntKind.u64.wrap ((IntKind.u64.wrap (2 * a0)) + 1)))) + a1)) t115 _ A35.out).mono ?_); rintro e w41 ⟨rfl, hb⟩; refine ⟨_, rfl, ?_⟩; have n0_ := Aside0.mk (blk_below (g := gb109) (o := .cells #[.int .u64 a0, .int .u64 a1, .int .u64 a2, .int .u64 a3] 39 (0, 0)) (by (with_reducible repeat (first | refine blk_drewN ?_ _ | refine blk_drew ?_ | refine blk_alloc ?_ _)); exact BK109.out) hb); have n1_ := Aside0.mk (below_step (by repeat (first | (with_reducible first | exact HB.out | apply below_alloc | apply pw_below_drewN | apply below_drew1 | refine below_set ?_ GE109.out) | exact HB.out)) hb); clear BK109; clear HB; have BK109 := n0_; have HB := n1_; clear n0_ n1_; (try clear hb); (try clear hb2); (try clear hk); (try clear hi)))
                    go_ret
                    exact ⟨by first | rfl | (simp [errW_none, errW_some] <;> rfl) | (simp only [← hji14]; first | rfl | (simp [errW_none, errW_some] <;> rfl)) | (simp [*, errW_none, errW_some] <;> rfl), by repeat (first | (with_reducible first | exact HB.out | apply below_alloc | apply pw_below_drewN | apply below_drew1 | refine below_set ?_ GE109.out) | exact HB.out)⟩
        · rw [if_neg c13] at H
          exact absurd H (by simp)

/-- THE ONE PURE STATEMENT of shellgamelaw12_HashMoves: yours. -/
def shellgamelaw12_HashMoves.Pure : Prop := ∀ (a0 : Int) (a1 : Int) (a2 : Int) (a3 : Int) (a4 : Int) (a5 : Int), (Lit.int .u64 a0).wf = true → (Lit.int .u64 a1).wf = true → (Lit.int .u64 a2).wf = true → (Lit.int .u64 a3).wf = true → (Lit.int .u64 a4).wf = true → (Lit.int .i64 a5).wf = true → ∃ k, shellgamelaw12_HashMoves.f k a0 a1 a2 a3 a4 a5 = some true
theorem shellgamelaw12_HashMoves.walk (P : shellgamelaw12_HashMoves.Pure) (a0 : Int) (a1 : Int) (a2 : Int) (a3 : Int) (a4 : Int) (a5 : Int) (w : World) (w0 : (Lit.int .u64 a0).wf = true) (w1 : (Lit.int .u64 a1).wf = true) (w2 : (Lit.int .u64 a2).wf = true) (w3 : (Lit.int .u64 a3).wf = true) (w4 : (Lit.int .u64 a4).wf = true) (w5 : (Lit.int .i64 a5).wf = true) :
    Calls Try.prog 9 #[.int .u64 a0, .int .u64 a1, .int .u64 a2, .int .u64 a3, .int .u64 a4, .int .i64 a5] w fun e w' => e = .returned (.bool true) ∧ Below w.heap.size w w' := by
  obtain ⟨k, h⟩ := P a0 a1 a2 a3 a4 a5 w0 w1 w2 w3 w4 w5
  refine (shellgamelaw12_HashMoves.calls k a0 a1 a2 a3 a4 a5 true w h).mono ?_
  rintro e w' ⟨rfl, hd⟩
  exact ⟨rfl, hd⟩

end Go.Proofs.Ytjkifbadbadoaaa.PHashMoves
