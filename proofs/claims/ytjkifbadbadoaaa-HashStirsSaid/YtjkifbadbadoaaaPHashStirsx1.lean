-- Written by wip/printplus.py over contracts of this repo; not trusted: Lean checks it.
import Derived.Test.YtjkifbadbadoaaaPHashStirsx0
namespace Go.Proofs.Ytjkifbadbadoaaa.PHashStirs
open Go.Proofs.Ytjkifbadbadoaaa.Hand Go.RowKit Go.Proofs.YtjkifbadbadoaaaW.PrintWords Go.Proofs.YtjkifbadbadoaaaW.PrintLast Go.Proofs.YtjkifbadbadoaaaW.PrintMore
attribute [local go_sem] max2_int min2_int max_two min_two max_three min_three max_four min_four   -- for this text's walks alone
set_option linter.unusedVariables false
set_option linter.unusedSimpArgs false

-- given: function 24 (hash_Of)

-- given: function 27 (hash_Mix)

-- given: function 29 (hash_At)

/-! ### shellgamelaw12_shown: function 23 -/
def shellgamelaw12_shown.f  : Option (Bool) := (hash_Of.f ([] : List Int)).bind fun bt101 => ((hash_At.f bt101.1 bt101.2.1 bt101.2.2.1 bt101.2.2.2 0 0 8).bind fun t105 => (if t105 = 0 then ((hash_Mix.f 0).bind fun t106 => (if t106 = 0 then ((hash_Mix.f 1).bind fun t107 => (some (t107 == 11400714820970677676))) else (some false))) else (some false)))
set_option maxHeartbeats 8000000 in
set_option maxRecDepth 100000 in
theorem shellgamelaw12_shown.calls  (r : Bool) (w : World) (h : shellgamelaw12_shown.f  = some r) :
    Calls Try.prog 23 #[] w fun e w' => e = .returned (.bool r) ∧ Below w.heap.size w w' := by
  have HB := Aside0.mk (Below.refl w.heap.size w)
  have H : ((hash_Of.f ([] : List Int)).bind fun bt101 => ((hash_At.f bt101.1 bt101.2.1 bt101.2.2.1 bt101.2.2.2 0 0 8).bind fun t105 => (if t105 = 0 then ((hash_Mix.f 0).bind fun t106 => (if t106 = 0 then ((hash_Mix.f 1).bind fun t107 => (some (t107 == 11400714820970677676))) else (some false))) else (some false)))) = some r := h
  clear h
  replace H := Option.bind_eq_some_iff.mp H
  obtain ⟨⟨t101, t102, t103, t104⟩, A10, H⟩ := H
  replace H : ((hash_At.f t101 t102 t103 t104 0 0 8).bind fun t105 => (if t105 = 0 then ((hash_Mix.f 0).bind fun t106 => (if t106 = 0 then ((hash_Mix.f 1).bind fun t107 => (some (t107 == 11400714820970677676))) else (some false))) else (some false))) = some r := H
  have A1 := Aside0.mk A10
  clear A10
  replace H := Option.bind_eq_some_iff.mp H
  obtain ⟨t105, A20, H⟩ := H
  replace H : (if t105 = 0 then ((hash_Mix.f 0).bind fun t106 => (if t106 = 0 then ((hash_Mix.f 1).bind fun t107 => (some (t107 == 11400714820970677676))) else (some false))) else (some false)) = some r := H
  have A2 := Aside0.mk A20
  clear A20
  by_cases c3 : t105 = 0
  · rw [if_pos c3] at H
    have c3b0 : (t105 == 0) = true := beq_iff_eq.mpr c3
    have c3b1 : (t105 != 0) = false := bne_eq_false_iff_eq.mpr c3
    clear c3
    replace H := Option.bind_eq_some_iff.mp H
    obtain ⟨t106, A40, H⟩ := H
    replace H : (if t106 = 0 then ((hash_Mix.f 1).bind fun t107 => (some (t107 == 11400714820970677676))) else (some false)) = some r := H
    have A4 := Aside0.mk A40
    clear A40
    by_cases c5 : t106 = 0
    · rw [if_pos c5] at H
      have c5b0 : (t106 == 0) = true := beq_iff_eq.mpr c5
      have c5b1 : (t106 != 0) = false := bne_eq_false_iff_eq.mpr c5
      clear c5
      replace H := Option.bind_eq_some_iff.mp H
      obtain ⟨t107, A60, H⟩ := H
      replace H : (some (t107 == 11400714820970677676)) = some r := H
      have A6 := Aside0.mk A60
      clear A60
      obtain rfl := Option.some.inj H
      go_enter Try.func23, Try.ntmps23
      go_wp2_with (first | ((with_reducible refine gate_callee (f := 24) rfl ?_); refine goesL_ (some 1) rfl rfl Try.func24 (by kernel_rfl) rfl #[.slice none 0 0] rfl (by (try simp only [List.map_toArray, List.map_cons, List.map_nil]); first | done | rfl | (simp only [List.length_drop, List.length_take]; rfl)) ?_; (refine (hash_Of.calls _ _ ([] : List Int) t101 t102 t103 t104 _ ?side1 ?side2 A1.out).mono ?_); (case side1 => exact Kd.C_nil _ _); (case side2 => exact Nat.le_refl _); rintro e w7 ⟨rfl, hb⟩; refine ⟨_, rfl, ?_⟩; have n0_ := Aside0.mk (below_step (by repeat (first | (with_reducible first | exact HB.out | apply below_alloc | apply pw_below_drewN | apply below_drew1) | exact HB.out)) hb); clear HB; have HB := n0_; clear n0_; (try clear hb); (try clear hb2); (try clear hk); (try clear hi)) | ((with_reducible refine gate_callee (f := 29) rfl ?_); refine goesL_ (some 2) rfl rfl Try.func29 (by kernel_rfl) rfl #[.agg #[.int .u64 t101, .int .u64 t102, .int .u64 t103, .int .u64 t104], .int .i64 0, .int .u64 0, .int .i64 8] rfl (by (try simp only [List.map_toArray, List.map_cons, List.map_nil]); first | done | rfl | (simp only [List.length_drop, List.length_take]; rfl)) ?_; (with_reducible refine (hash_At.calls t101 t102 t103 t104 0 0 8 t105 _ A2.out).mono ?_); rintro e w8 ⟨rfl, hb⟩; refine ⟨_, rfl, ?_⟩; have n0_ := Aside0.mk (below_step (by repeat (first | (with_reducible first | exact HB.out | apply below_alloc | apply pw_below_drewN | apply below_drew1) | exact HB.out)) hb); clear HB; have HB := n0_; clear n0_; (try clear hb); (try clear hb2); (try clear hk); (try clear hi)) | (go_at_call 27; (with_reducible refine (hash_Mix.calls 0 t106 _ A4.out).mono ?_); rintro e w9 ⟨rfl, hb⟩; have n0_ := Aside0.mk (below_step (by repeat (first | (with_reducible first | exact HB.out | apply below_alloc | apply pw_below_drewN | apply below_drew1) | exact HB.out)) hb); clear HB; have HB := n0_; clear n0_; (try clear hb); (try clear hb2); (try clear hk); (try clear hi)) | (go_at_call 27; (with_reducible refine (hash_Mix.calls 1 t107 _ A6.out).mono ?_); rintro e w10 ⟨rfl, hb⟩; have n0_ := Aside0.mk (below_step (by repeat (first | (with_reducible first | exact HB.out | apply below_alloc | apply pw_below_drewN | apply below_drew1) | exact HB.out)) hb); clear HB; have HB := n0_; clear n0_; (try clear hb); (try clear hb2); (try clear hk); (try clear hi)))
      go_ret
      exact ⟨by first | rfl | (simp [errW_none, errW_some] <;> rfl) | (simp [*, errW_none, errW_some] <;> rfl), by repeat (first | (with_reducible first | exact HB.out | apply below_alloc | apply pw_below_drewN | apply below_drew1) | exact HB.out)⟩
    · rw [if_neg c5] at H
      have c5b0 : (t106 == 0) = false := beq_eq_false_iff_ne.mpr c5
      have c5b1 : (t106 != 0) = true := bne_iff_ne.mpr c5
      obtain rfl := Option.some.inj H
      go_enter Try.func23, Try.ntmps23
      go_wp2_with (first | ((with_reducible refine gate_callee (f := 24) rfl ?_); refine goesL_ (some 1) rfl rfl Try.func24 (by kernel_rfl) rfl #[.slice none 0 0] rfl (by (try simp only [List.map_toArray, List.map_cons, List.map_nil]); first | done | rfl | (simp only [List.length_drop, List.length_take]; rfl)) ?_; (refine (hash_Of.calls _ _ ([] : List Int) t101 t102 t103 t104 _ ?side1 ?side2 A1.out).mono ?_); (case side1 => exact Kd.C_nil _ _); (case side2 => exact Nat.le_refl _); rintro e w11 ⟨rfl, hb⟩; refine ⟨_, rfl, ?_⟩; have n0_ := Aside0.mk (below_step (by repeat (first | (with_reducible first | exact HB.out | apply below_alloc | apply pw_below_drewN | apply below_drew1) | exact HB.out)) hb); clear HB; have HB := n0_; clear n0_; (try clear hb); (try clear hb2); (try clear hk); (try clear hi)) | ((with_reducible refine gate_callee (f := 29) rfl ?_); refine goesL_ (some 2) rfl rfl Try.func29 (by kernel_rfl) rfl #[.agg #[.int .u64 t101, .int .u64 t102, .int .u64 t103, .int .u64 t104], .int .i64 0, .int .u64 0, .int .i64 8] rfl (by (try simp only [List.map_toArray, List.map_cons, List.map_nil]); first | done | rfl | (simp only [List.length_drop, List.length_take]; rfl)) ?_; (with_reducible refine (hash_At.calls t101 t102 t103 t104 0 0 8 t105 _ A2.out).mono ?_); rintro e w12 ⟨rfl, hb⟩; refine ⟨_, rfl, ?_⟩; have n0_ := Aside0.mk (below_step (by repeat (first | (with_reducible first | exact HB.out | apply below_alloc | apply pw_below_drewN | apply below_drew1) | exact HB.out)) hb); clear HB; have HB := n0_; clear n0_; (try clear hb); (try clear hb2); (try clear hk); (try clear hi)) | (go_at_call 27; (with_reducible refine (hash_Mix.calls 0 t106 _ A4.out).mono ?_); rintro e w13 ⟨rfl, hb⟩; have n0_ := Aside0.mk (below_step (by repeat (first | (with_reducible first | exact HB.out | apply below_alloc | apply pw_below_drewN | apply below_drew1) | exact HB.out)) hb); clear HB; have HB := n0_; clear n0_; (try clear hb); (try clear hb2); (try clear hk); (try clear hi)))
      go_ret
      exact ⟨by first | rfl | (simp [errW_none, errW_some] <;> rfl) | (simp [*, errW_none, errW_some] <;> rfl), by repeat (first | (with_reducible first | exact HB.out | apply below_alloc | apply pw_below_drewN | apply below_drew1) | exact HB.out)⟩
  · rw [if_neg c3] at H
    have c3b0 : (t105 == 0) = false := beq_eq_false_iff_ne.mpr c3
    have c3b1 : (t105 != 0) = true := bne_iff_ne.mpr c3
    obtain rfl := Option.some.inj H
    go_enter Try.func23, Try.ntmps23
    go_wp2_with (first | ((with_reducible refine gate_callee (f := 24) rfl ?_); refine goesL_ (some 1) rfl rfl Try.func24 (by kernel_rfl) rfl #[.slice none 0 0] rfl (by (try simp only [List.map_toArray, List.map_cons, List.map_nil]); first | done | rfl | (simp only [List.length_drop, List.length_take]; rfl)) ?_; (refine (hash_Of.calls _ _ ([] : List Int) t101 t102 t103 t104 _ ?side1 ?side2 A1.out).mono ?_); (case side1 => exact Kd.C_nil _ _); (case side2 => exact Nat.le_refl _); rintro e w14 ⟨rfl, hb⟩; refine ⟨_, rfl, ?_⟩; have n0_ := Aside0.mk (below_step (by repeat (first | (with_reducible first | exact HB.out | apply below_alloc | apply pw_below_drewN | apply below_drew1) | exact HB.out)) hb); clear HB; have HB := n0_; clear n0_; (try clear hb); (try clear hb2); (try clear hk); (try clear hi)) | ((with_reducible refine gate_callee (f := 29) rfl ?_); refine goesL_ (some 2) rfl rfl Try.func29 (by kernel_rfl) rfl #[.agg #[.int .u64 t101, .int .u64 t102, .int .u64 t103, .int .u64 t104], .int .i64 0, .int .u64 0, .int .i64 8] rfl (by (try simp only [List.map_toArray, List.map_cons, List.map_nil]); first | done | rfl | (simp only [List.length_drop, List.length_take]; rfl)) ?_; (with_reducible refine (hash_At.calls t101 t102 t103 t104 0 0 8 t105 _ A2.out).mono ?_); rintro e w15 ⟨rfl, hb⟩; refine ⟨_, rfl, ?_⟩; have n0_ := Aside0.mk (below_step (by repeat (first | (with_reducible first | exact HB.out | apply below_alloc | apply pw_below_drewN | apply below_drew1) | exact HB.out)) hb); clear HB; have HB := n0_; clear n0_; (try clear hb); (try clear hb2); (try clear hk); (try clear hi)))
    go_ret
    exact ⟨by first | rfl | (simp [errW_none, errW_some] <;> rfl) | (simp [*, errW_none, errW_some] <;> rfl), by repeat (first | (with_reducible first | exact HB.out | apply below_alloc | apply pw_below_drewN | apply below_drew1) | exact HB.out)⟩

/-! ### shellgamelaw12_HashStirs: function 8 -/
def shellgamelaw12_HashStirs.f (a0 : Int) (a1 : Int) : Option (Bool) := (shellgamelaw12_shown.f).bind fun t108 => ((hash_Mix.f a0).bind fun t109 => (if t108 = true then (if (Go.bits .xor .u64 (Go.bits .xor .u64 (IntKind.u64.wrap ((Go.bits .xor .u64 t109 (t109 / 4294967296)) * 17428512612931826493)) ((IntKind.u64.wrap ((Go.bits .xor .u64 t109 (t109 / 4294967296)) * 17428512612931826493)) / 536870912)) ((IntKind.u64.wrap ((Go.bits .xor .u64 t109 (t109 / 4294967296)) * 17428512612931826493)) / 288230376151711744)) = a0 then ((hash_Mix.f a0).bind fun t110 => ((hash_Mix.f a1).bind fun t111 => (some ((t110 == t111) == (a0 == a1))))) else (some false)) else (some false)))
set_option maxHeartbeats 8000000 in
set_option maxRecDepth 100000 in
theorem shellgamelaw12_HashStirs.calls (a0 : Int) (a1 : Int) (r : Bool) (w : World) (h : shellgamelaw12_HashStirs.f a0 a1 = some r) :
    Calls Try.prog 8 #[.int .u64 a0, .int .u64 a1] w fun e w' => e = .returned (.bool r) ∧ Below w.heap.size w w' := by
  have HB := Aside0.mk (Below.refl w.heap.size w)
  have H : ((shellgamelaw12_shown.f).bind fun t108 => ((hash_Mix.f a0).bind fun t109 => (if t108 = true then (if (Go.bits .xor .u64 (Go.bits .xor .u64 (IntKind.u64.wrap ((Go.bits .xor .u64 t109 (t109 / 4294967296)) * 17428512612931826493)) ((IntKind.u64.wrap ((Go.bits .xor .u64 t109 (t109 / 4294967296)) * 17428512612931826493)) / 536870912)) ((IntKind.u64.wrap ((Go.bits .xor .u64 t109 (t109 / 4294967296)) * 17428512612931826493)) / 288230376151711744)) = a0 then ((hash_Mix.f a0).bind fun t110 => ((hash_Mix.f a1).bind fun t111 => (some ((t110 == t111) == (a0 == a1))))) else (some false)) else (some false)))) = some r := h
  clear h
  replace H := Option.bind_eq_some_iff.mp H
  obtain ⟨t108, A30, H⟩ := H
  replace H : ((hash_Mix.f a0).bind fun t109 => (if t108 = true then (if (Go.bits .xor .u64 (Go.bits .xor .u64 (IntKind.u64.wrap ((Go.bits .xor .u64 t109 (t109 / 4294967296)) * 17428512612931826493)) ((IntKind.u64.wrap ((Go.bits .xor .u64 t109 (t109 / 4294967296)) * 17428512612931826493)) / 536870912)) ((IntKind.u64.wrap ((Go.bits .xor .u64 t109 (t109 / 4294967296)) * 17428512612931826493)) / 288230376151711744)) = a0 then ((hash_Mix.f a0).bind fun t110 => ((hash_Mix.f a1).bind fun t111 => (some ((t110 == t111) == (a0 == a1))))) else (some false)) else (some false))) = some r := H
  have A3 := Aside0.mk A30
  clear A30
  replace H := Option.bind_eq_some_iff.mp H
  obtain ⟨t109, A40, H⟩ := H
  replace H : (if t108 = true then (if (Go.bits .xor .u64 (Go.bits .xor .u64 (IntKind.u64.wrap ((Go.bits .xor .u64 t109 (t109 / 4294967296)) * 17428512612931826493)) ((IntKind.u64.wrap ((Go.bits .xor .u64 t109 (t109 / 4294967296)) * 17428512612931826493)) / 536870912)) ((IntKind.u64.wrap ((Go.bits .xor .u64 t109 (t109 / 4294967296)) * 17428512612931826493)) / 288230376151711744)) = a0 then ((hash_Mix.f a0).bind fun t110 => ((hash_Mix.f a1).bind fun t111 => (some ((t110 == t111) == (a0 == a1))))) else (some false)) else (some false)) = some r := H
  have A4 := Aside0.mk A40
  clear A40
  by_cases c5 : t108 = true
  · subst c5
    have H1 : (if (Go.bits .xor .u64 (Go.bits .xor .u64 (IntKind.u64.wrap ((Go.bits .xor .u64 t109 (t109 / 4294967296)) * 17428512612931826493)) ((IntKind.u64.wrap ((Go.bits .xor .u64 t109 (t109 / 4294967296)) * 17428512612931826493)) / 536870912)) ((IntKind.u64.wrap ((Go.bits .xor .u64 t109 (t109 / 4294967296)) * 17428512612931826493)) / 288230376151711744)) = a0 then ((hash_Mix.f a0).bind fun t110 => ((hash_Mix.f a1).bind fun t111 => (some ((t110 == t111) == (a0 == a1))))) else (some false)) = some r := by rw [if_pos rfl] at H; exact H
    clear H
    have H := H1
    clear H1
    by_cases c6 : (Go.bits .xor .u64 (Go.bits .xor .u64 (IntKind.u64.wrap ((Go.bits .xor .u64 t109 (t109 / 4294967296)) * 17428512612931826493)) ((IntKind.u64.wrap ((Go.bits .xor .u64 t109 (t109 / 4294967296)) * 17428512612931826493)) / 536870912)) ((IntKind.u64.wrap ((Go.bits .xor .u64 t109 (t109 / 4294967296)) * 17428512612931826493)) / 288230376151711744)) = a0
    · rw [if_pos c6] at H
      have c6b0 : ((Go.bits .xor .u64 (Go.bits .xor .u64 (IntKind.u64.wrap ((Go.bits .xor .u64 t109 (t109 / 4294967296)) * 17428512612931826493)) ((IntKind.u64.wrap ((Go.bits .xor .u64 t109 (t109 / 4294967296)) * 17428512612931826493)) / 536870912)) ((IntKind.u64.wrap ((Go.bits .xor .u64 t109 (t109 / 4294967296)) * 17428512612931826493)) / 288230376151711744)) == a0) = true := beq_iff_eq.mpr c6
      have c6b1 : ((Go.bits .xor .u64 (Go.bits .xor .u64 (IntKind.u64.wrap ((Go.bits .xor .u64 t109 (t109 / 4294967296)) * 17428512612931826493)) ((IntKind.u64.wrap ((Go.bits .xor .u64 t109 (t109 / 4294967296)) * 17428512612931826493)) / 536870912)) ((IntKind.u64.wrap ((Go.bits .xor .u64 t109 (t109 / 4294967296)) * 17428512612931826493)) / 288230376151711744)) != a0) = false := bne_eq_false_iff_eq.mpr c6
      clear c6
      replace H := Option.bind_eq_some_iff.mp H
      obtain ⟨t110, A70, H⟩ := H
      replace H : ((hash_Mix.f a1).bind fun t111 => (some ((t110 == t111) == (a0 == a1)))) = some r := H
      have A7 := Aside0.mk A70
      clear A70
      replace H := Option.bind_eq_some_iff.mp H
      obtain ⟨t111, A80, H⟩ := H
      replace H : (some ((t110 == t111) == (a0 == a1))) = some r := H
      have A8 := Aside0.mk A80
      clear A80
      obtain rfl := Option.some.inj H
      go_enter Try.func8, Try.ntmps8
      go_wp2_with (first | ((with_reducible refine gate_callee (f := 23) rfl ?_); refine goesL_ (some 7) rfl rfl Try.func23 (by kernel_rfl) rfl #[] rfl (by (try simp only [List.map_toArray, List.map_cons, List.map_nil]); first | done | rfl | (simp only [List.length_drop, List.length_take]; rfl)) ?_; (with_reducible refine (shellgamelaw12_shown.calls  true _ A3.out).mono ?_); rintro e w9 ⟨rfl, hb⟩; refine ⟨_, rfl, ?_⟩; have n0_ := Aside0.mk (below_step (by repeat (first | (with_reducible first | exact HB.out | apply below_alloc | apply pw_below_drewN | apply below_drew1) | exact HB.out)) hb); clear HB; have HB := n0_; clear n0_; (try clear hb); (try clear hb2); (try clear hk); (try clear hi)) | ((with_reducible refine gate_callee (f := 27) rfl ?_); refine goesL_ (some 9) rfl rfl Try.func27 (by kernel_rfl) rfl #[.int .u64 a0] rfl (by (try simp only [List.map_toArray, List.map_cons, List.map_nil]); first | done | rfl | (simp only [List.length_drop, List.length_take]; rfl)) ?_; (with_reducible refine (hash_Mix.calls a0 t109 _ A4.out).mono ?_); rintro e w10 ⟨rfl, hb⟩; refine ⟨_, rfl, ?_⟩; have n0_ := Aside0.mk (below_step (by repeat (first | (with_reducible first | exact HB.out | apply below_alloc | apply pw_below_drewN | apply below_drew1) | exact HB.out)) hb); clear HB; have HB := n0_; clear n0_; (try clear hb); (try clear hb2); (try clear hk); (try clear hi)) | (go_at_call 27; (with_reducible refine (hash_Mix.calls a0 t110 _ A7.out).mono ?_); rintro e w11 ⟨rfl, hb⟩; have n0_ := Aside0.mk (below_step (by repeat (first | (with_reducible first | exact HB.out | apply below_alloc | apply pw_below_drewN | apply below_drew1) | exact HB.out)) hb); clear HB; have HB := n0_; clear n0_; (try clear hb); (try clear hb2); (try clear hk); (try clear hi)) | (go_at_call 27; (with_reducible refine (hash_Mix.calls a1 t111 _ A8.out).mono ?_); rintro e w12 ⟨rfl, hb⟩; have n0_ := Aside0.mk (below_step (by repeat (first | (with_reducible first | exact HB.out | apply below_alloc | apply pw_below_drewN | apply below_drew1) | exact HB.out)) hb); clear HB; have HB := n0_; clear n0_; (try clear hb); (try clear hb2); (try clear hk); (try clear hi)))
      go_ret
      exact ⟨by first | rfl | (simp [errW_none, errW_some] <;> rfl) | (simp [*, errW_none, errW_some] <;> rfl), by repeat (first | (with_reducible first | exact HB.out | apply below_alloc | apply pw_below_drewN | apply below_drew1) | exact HB.out)⟩
    · rw [if_neg c6] at H
      have c6b0 : ((Go.bits .xor .u64 (Go.bits .xor .u64 (IntKind.u64.wrap ((Go.bits .xor .u64 t109 (t109 / 4294967296)) * 17428512612931826493)) ((IntKind.u64.wrap ((Go.bits .xor .u64 t109 (t109 / 4294967296)) * 17428512612931826493)) / 536870912)) ((IntKind.u64.wrap ((Go.bits .xor .u64 t109 (t109 / 4294967296)) * 17428512612931826493)) / 288230376151711744)) == a0) = false := beq_eq_false_iff_ne.mpr c6
      have c6b1 : ((Go.bits .xor .u64 (Go.bits .xor .u64 (IntKind.u64.wrap ((Go.bits .xor .u64 t109 (t109 / 4294967296)) * 17428512612931826493)) ((IntKind.u64.wrap ((Go.bits .xor .u64 t109 (t109 / 4294967296)) * 17428512612931826493)) / 536870912)) ((IntKind.u64.wrap ((Go.bits .xor .u64 t109 (t109 / 4294967296)) * 17428512612931826493)) / 288230376151711744)) != a0) = true := bne_iff_ne.mpr c6
      obtain rfl := Option.some.inj H
      go_enter Try.func8, Try.ntmps8
      go_wp2_with (first | ((with_reducible refine gate_callee (f := 23) rfl ?_); refine goesL_ (some 7) rfl rfl Try.func23 (by kernel_rfl) rfl #[] rfl (by (try simp only [List.map_toArray, List.map_cons, List.map_nil]); first | done | rfl | (simp only [List.length_drop, List.length_take]; rfl)) ?_; (with_reducible refine (shellgamelaw12_shown.calls  true _ A3.out).mono ?_); rintro e w13 ⟨rfl, hb⟩; refine ⟨_, rfl, ?_⟩; have n0_ := Aside0.mk (below_step (by repeat (first | (with_reducible first | exact HB.out | apply below_alloc | apply pw_below_drewN | apply below_drew1) | exact HB.out)) hb); clear HB; have HB := n0_; clear n0_; (try clear hb); (try clear hb2); (try clear hk); (try clear hi)) | ((with_reducible refine gate_callee (f := 27) rfl ?_); refine goesL_ (some 9) rfl rfl Try.func27 (by kernel_rfl) rfl #[.int .u64 a0] rfl (by (try simp only [List.map_toArray, List.map_cons, List.map_nil]); first | done | rfl | (simp only [List.length_drop, List.length_take]; rfl)) ?_; (with_reducible refine (hash_Mix.calls a0 t109 _ A4.out).mono ?_); rintro e w14 ⟨rfl, hb⟩; refine ⟨_, rfl, ?_⟩; have n0_ := Aside0.mk (below_step (by repeat (first | (with_reducible first | exact HB.out | apply below_alloc | apply pw_below_drewN | apply below_drew1) | exact HB.out)) hb); clear HB; have HB := n0_; clear n0_; (try clear hb); (try clear hb2); (try clear hk); (try clear hi)))
      go_ret
      exact ⟨by first | rfl | (simp [errW_none, errW_some] <;> rfl) | (simp [*, errW_none, errW_some] <;> rfl), by repeat (first | (with_reducible first | exact HB.out | apply below_alloc | apply pw_below_drewN | apply below_drew1) | exact HB.out)⟩
  · replace c5 := Bool.eq_false_iff.mpr c5
    subst c5
    have H1 : (some false) = some r := by rw [if_neg (show ¬ (false = true) by decide)] at H; exact H
    clear H
    have H := H1
    clear H1
    obtain rfl := Option.some.inj H
    go_enter Try.func8, Try.ntmps8
    go_wp2_with (first | ((with_reducible refine gate_callee (f := 23) rfl ?_); refine goesL_ (some 7) rfl rfl Try.func23 (by kernel_rfl) rfl #[] rfl (by (try simp only [List.map_toArray, List.map_cons, List.map_nil]); first | done | rfl | (simp only [List.length_drop, List.length_take]; rfl)) ?_; (with_reducible refine (shellgamelaw12_shown.calls  false _ A3.out).mono ?_); rintro e w15 ⟨rfl, hb⟩; refine ⟨_, rfl, ?_⟩; have n0_ := Aside0.mk (below_step (by repeat (first | (with_reducible first | exact HB.out | apply below_alloc | apply pw_below_drewN | apply below_drew1) | exact HB.out)) hb); clear HB; have HB := n0_; clear n0_; (try clear hb); (try clear hb2); (try clear hk); (try clear hi)) | ((with_reducible refine gate_callee (f := 27) rfl ?_); refine goesL_ (some 9) rfl rfl Try.func27 (by kernel_rfl) rfl #[.int .u64 a0] rfl (by (try simp only [List.map_toArray, List.map_cons, List.map_nil]); first | done | rfl | (simp only [List.length_drop, List.length_take]; rfl)) ?_; (with_reducible refine (hash_Mix.calls a0 t109 _ A4.out).mono ?_); rintro e w16 ⟨rfl, hb⟩; refine ⟨_, rfl, ?_⟩; have n0_ := Aside0.mk (below_step (by repeat (first | (with_reducible first | exact HB.out | apply below_alloc | apply pw_below_drewN | apply below_drew1) | exact HB.out)) hb); clear HB; have HB := n0_; clear n0_; (try clear hb); (try clear hb2); (try clear hk); (try clear hi)))
    go_ret
    exact ⟨by first | rfl | (simp [errW_none, errW_some] <;> rfl) | (simp [*, errW_none, errW_some] <;> rfl), by repeat (first | (with_reducible first | exact HB.out | apply below_alloc | apply pw_below_drewN | apply below_drew1) | exact HB.out)⟩

/-- THE ONE PURE STATEMENT of shellgamelaw12_HashStirs: yours. -/
def shellgamelaw12_HashStirs.Pure : Prop := ∀ (a0 : Int) (a1 : Int), (Lit.int .u64 a0).wf = true → (Lit.int .u64 a1).wf = true → shellgamelaw12_HashStirs.f a0 a1 = some true
theorem shellgamelaw12_HashStirs.walk (P : shellgamelaw12_HashStirs.Pure) (a0 : Int) (a1 : Int) (w : World) (w0 : (Lit.int .u64 a0).wf = true) (w1 : (Lit.int .u64 a1).wf = true) :
    Calls Try.prog 8 #[.int .u64 a0, .int .u64 a1] w fun e w' => e = .returned (.bool true) ∧ Below w.heap.size w w' := by
  have h := P a0 a1 w0 w1
  refine (shellgamelaw12_HashStirs.calls a0 a1 true w h).mono ?_
  rintro e w' ⟨rfl, hd⟩
  exact ⟨rfl, hd⟩

end Go.Proofs.Ytjkifbadbadoaaa.PHashStirs
