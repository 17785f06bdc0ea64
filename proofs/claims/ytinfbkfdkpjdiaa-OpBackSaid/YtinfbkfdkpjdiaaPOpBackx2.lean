-- Written by wip/printplus.py over contracts of this repo; not trusted: Lean checks it.
import Derived.Test.YtinfbkfdkpjdiaaPOpBackx0
import Derived.Test.YtinfbkfdkpjdiaaPOpBackx1
namespace Go.Proofs.Ytinfbkfdkpjdiaa.POpBack
open Go.Proofs.Ytinfbkfdkpjdiaa.Hand Go.RowKit Go.Proofs.YtinfbkfdkpjdiaaW.PrintWords Go.Proofs.YtinfbkfdkpjdiaaW.PrintLast Go.Proofs.YtinfbkfdkpjdiaaW.PrintMore
attribute [local go_sem] max2_int min2_int max_two min_two max_three min_three max_four min_four   -- for this text's walks alone
set_option linter.unusedVariables false
set_option linter.unusedSimpArgs false

attribute [local go_sem high] eqA27
-- given: function 10 (op_Bytes)

-- given: function 24 (pack_Word)

/-! ### shellgamelaw17_word: function 11 -/
def shellgamelaw17_word.f (a0 : ByteArray) : Option (Int) := (pack_Word.f a0).bind fun bt101 => (some bt101.1)
set_option maxHeartbeats 8000000 in
set_option maxRecDepth 100000 in
theorem shellgamelaw17_word.calls (a0 : ByteArray) (r : Int) (w : World) (h : shellgamelaw17_word.f a0 = some r) :
    Calls Try.prog 11 #[.string a0] w fun e w' => e = .returned (.int .u64 r) ∧ Below w.heap.size w w' := by
  have HB := Aside0.mk (Below.refl w.heap.size w)
  have H : ((pack_Word.f a0).bind fun bt101 => (some bt101.1)) = some r := h
  clear h
  replace H := Option.bind_eq_some_iff.mp H
  obtain ⟨⟨t101, t102⟩, A20, H⟩ := H
  replace H : (some t101) = some r := H
  have A2 := Aside0.mk A20
  clear A20
  obtain rfl := Option.some.inj H
  go_enter Try.func11, Try.ntmps11
  go_wp2_with (first | ((with_reducible refine gate_callee (f := 24) rfl ?_); refine goesL_ (some 7) rfl rfl Try.func24 (by kernel_rfl) rfl #[.string a0] rfl (by (try simp only [List.map_toArray, List.map_cons, List.map_nil]); first | done | rfl | (simp only [List.length_drop, List.length_take]; rfl)) ?_; (with_reducible refine (pack_Word.calls a0 t101 t102 _ A2.out).mono ?_); rintro e w3 ⟨rfl, hb⟩; refine ⟨_, rfl, ?_⟩; have n0_ := Aside0.mk (below_step (by repeat (first | (with_reducible first | exact HB.out | apply below_alloc | apply pw_below_drewN | apply below_drew1) | exact HB.out)) hb); clear HB; have HB := n0_; clear n0_; (try clear hb); (try clear hb2); (try clear hk); (try clear hi)))
  go_ret
  exact ⟨by first | rfl | (simp [errW_none, errW_some] <;> rfl) | (simp [*, errW_none, errW_some] <;> rfl), by repeat (first | (with_reducible first | exact HB.out | apply below_alloc | apply pw_below_drewN | apply below_drew1) | exact HB.out)⟩

/-! ### shellgamelaw17_shown: function 9 -/
def shellgamelaw17_shown.f  : Option (Bool) := (shellgamelaw17_word.f (⟨#[107]⟩ : ByteArray)).bind fun t103 => ((shellgamelaw17_word.f (⟨#[118, 118]⟩ : ByteArray)).bind fun t104 => ((op_Bytes.f 3 t103 t104 258).bind fun t105 => (some (t105.toList == ([80, 2, 1, 2, 118, 118, 1, 107] : List UInt8)))))
set_option maxHeartbeats 8000000 in
set_option maxRecDepth 100000 in
theorem shellgamelaw17_shown.calls  (r : Bool) (w : World) (h : shellgamelaw17_shown.f  = some r) :
    Calls Try.prog 9 #[] w fun e w' => e = .returned (.bool r) ∧ Below w.heap.size w w' := by
  have hu27 := Try.underlying27
  have HB := Aside0.mk (Below.refl w.heap.size w)
  have H : ((shellgamelaw17_word.f (⟨#[107]⟩ : ByteArray)).bind fun t103 => ((shellgamelaw17_word.f (⟨#[118, 118]⟩ : ByteArray)).bind fun t104 => ((op_Bytes.f 3 t103 t104 258).bind fun t105 => (some (t105.toList == ([80, 2, 1, 2, 118, 118, 1, 107] : List UInt8)))))) = some r := h
  clear h
  replace H := Option.bind_eq_some_iff.mp H
  obtain ⟨t103, A10, H⟩ := H
  replace H : ((shellgamelaw17_word.f (⟨#[118, 118]⟩ : ByteArray)).bind fun t104 => ((op_Bytes.f 3 t103 t104 258).bind fun t105 => (some (t105.toList == ([80, 2, 1, 2, 118, 118, 1, 107] : List UInt8))))) = some r := H
  have A1 := Aside0.mk A10
  clear A10
  replace H := Option.bind_eq_some_iff.mp H
  obtain ⟨t104, A20, H⟩ := H
  replace H : ((op_Bytes.f 3 t103 t104 258).bind fun t105 => (some (t105.toList == ([80, 2, 1, 2, 118, 118, 1, 107] : List UInt8)))) = some r := H
  have A2 := Aside0.mk A20
  clear A20
  replace H := Option.bind_eq_some_iff.mp H
  obtain ⟨t105, A30, H⟩ := H
  replace H : (some (t105.toList == ([80, 2, 1, 2, 118, 118, 1, 107] : List UInt8))) = some r := H
  have A3 := Aside0.mk A30
  clear A30
  obtain rfl := Option.some.inj H
  go_enter Try.func9, Try.ntmps9
  go_wp2_with (first | ((with_reducible refine gate_callee (f := 11) rfl ?_); refine goesL_ (some 1) rfl rfl Try.func11 (by kernel_rfl) rfl #[.string (⟨#[107]⟩ : ByteArray)] rfl (by (try simp only [List.map_toArray, List.map_cons, List.map_nil]); first | done | rfl | (simp only [List.length_drop, List.length_take]; rfl)) ?_; (with_reducible refine (shellgamelaw17_word.calls (⟨#[107]⟩ : ByteArray) t103 _ A1.out).mono ?_); rintro e w4 ⟨rfl, hb⟩; refine ⟨_, rfl, ?_⟩; have n0_ := Aside0.mk (below_step (by repeat (first | (with_reducible first | exact HB.out | apply below_alloc | apply pw_below_drewN | apply below_drew1) | exact HB.out)) hb); clear HB; have HB := n0_; clear n0_; (try clear hb); (try clear hb2); (try clear hk); (try clear hi)) | ((with_reducible refine gate_callee (f := 11) rfl ?_); refine goesL_ (some 2) rfl rfl Try.func11 (by kernel_rfl) rfl #[.string (⟨#[118, 118]⟩ : ByteArray)] rfl (by (try simp only [List.map_toArray, List.map_cons, List.map_nil]); first | done | rfl | (simp only [List.length_drop, List.length_take]; rfl)) ?_; (with_reducible refine (shellgamelaw17_word.calls (⟨#[118, 118]⟩ : ByteArray) t104 _ A2.out).mono ?_); rintro e w5 ⟨rfl, hb⟩; refine ⟨_, rfl, ?_⟩; have n0_ := Aside0.mk (below_step (by repeat (first | (with_reducible first | exact HB.out | apply below_alloc | apply pw_below_drewN | apply below_drew1) | exact HB.out)) hb); clear HB; have HB := n0_; clear n0_; (try clear hb); (try clear hb2); (try clear hk); (try clear hi)) | ((with_reducible refine gate_callee (f := 10) rfl ?_); refine goesL_ (some 4) rfl rfl Try.func10 (by kernel_rfl) rfl #[.agg #[.int .i64 3, .int .u64 t103, .int .u64 t104, .int .i64 258]] rfl (by (try simp only [List.map_toArray, List.map_cons, List.map_nil]); first | done | rfl | (simp only [List.length_drop, List.length_take]; rfl)) ?_; (with_reducible refine (op_Bytes.calls 3 t103 t104 258 t105 _ A3.out).mono ?_); rintro e w6 ⟨rfl, hb⟩; refine ⟨_, rfl, ?_⟩; have n0_ := Aside0.mk (below_step (by repeat (first | (with_reducible first | exact HB.out | apply below_alloc | apply pw_below_drewN | apply below_drew1) | exact HB.out)) hb); clear HB; have HB := n0_; clear n0_; (try clear hb); (try clear hb2); (try clear hk); (try clear hi)))
  go_ret
  exact ⟨by first | rfl | (simp [errW_none, errW_some] <;> rfl) | (simp [*, errW_none, errW_some] <;> rfl), by repeat (first | (with_reducible first | exact HB.out | apply below_alloc | apply pw_below_drewN | apply below_drew1) | exact HB.out)⟩

-- given: function 12 (op_Parse)

-- given: function 14 (op_Right)

/-! ### shellgamelaw17_OpBack: function 6 -/
mutual
def shellgamelaw17_OpBack.j0 : Nat → ByteArray → Int → Bool → Bool → Int → Int → Int → Int → Option (Bool)
  | 0, _, _, _, _, _, _, _, _ => none
  | k + 1, x1, x2, x7, x24, x107000, x107001, x107002, x107003 => if x24 = true then (some x7) else ((op_Bytes.f x107000 x107001 x107002 x107003).bind fun t108 => ((op_Right.f x107000 x107001 x107002 x107003).bind fun t109 => (if ((t108.toList != ([] : List UInt8)) != t109) = true then (some false) else (if t108.toList = ([] : List UInt8) then (shellgamelaw17_OpBack.j1 k x1) else ((op_Parse.f t108).bind fun bt110 => (if 0 ≤ (wrap64 ((t108.size : Int) - 1)) then (if (wrap64 ((t108.size : Int) - 1)) ≤ (t108.size : Int) then ((op_Parse.f (t108.extract 0 ((wrap64 ((t108.size : Int) - 1)) : Int).toNat)).bind fun bt116 => ((some (([x2] : List Int) : List Int)).bind fun y122 => (if t108.size + (strOfNums y122).size ≤ 9223372036854775807 then ((op_Parse.f (t108 ++ (strOfNums y122))).bind fun bt125 => (if (!(bt110.1 == x107000) || (!(bt110.2.1 == x107001) || (!(bt110.2.2.1 == x107002) || (!(bt110.2.2.2.1 == x107003))))) = true then (some false) else (if bt110.2.2.2.2 = 0 then (if bt116.2.2.2.2 = 3 then (if bt125.2.2.2.2 = 3 then (shellgamelaw17_OpBack.j1 k x1) else (some false)) else (some false)) else (some false)))) else (none)))) else (none)) else (none)))))))
def shellgamelaw17_OpBack.j1 : Nat → ByteArray → Option (Bool)
  | 0, _ => none
  | k + 1, x1 => (op_Parse.f x1).bind fun bt131 => (if bt131.2.2.2.2 = 0 then ((op_Right.f bt131.1 bt131.2.1 bt131.2.2.1 bt131.2.2.2.1).bind fun t137 => (if t137 = true then ((op_Bytes.f bt131.1 bt131.2.1 bt131.2.2.1 bt131.2.2.2.1).bind fun t138 => (some (t138.toList == x1.toList))) else (some false))) else (some (bt131.1 == 0 && (bt131.2.1 == 0 && (bt131.2.2.1 == 0 && (bt131.2.2.2.1 == 0))))))
end
def shellgamelaw17_OpBack.f (k : Nat) (a0_0 : Int) (a0_1 : Int) (a0_2 : Int) (a0_3 : Int) (a1 : ByteArray) (a2 : Int) : Option (Bool) := (shellgamelaw17_shown.f).bind fun t107 => (if t107 = true then (shellgamelaw17_OpBack.j0 k a1 a2 t107 (decide ((a1.size : Int) > 2000)) a0_0 a0_1 a0_2 a0_3) else (shellgamelaw17_OpBack.j0 k a1 a2 t107 true a0_0 a0_1 a0_2 a0_3))
theorem shellgamelaw17_OpBack.mono_l : ∀ k, (∀ y0 y1 y2 y3 y4 y5 y6 y7, LeO (shellgamelaw17_OpBack.j0 k y0 y1 y2 y3 y4 y5 y6 y7) (shellgamelaw17_OpBack.j0 (k + 1) y0 y1 y2 y3 y4 y5 y6 y7)) ∧ (∀ y0, LeO (shellgamelaw17_OpBack.j1 k y0) (shellgamelaw17_OpBack.j1 (k + 1) y0))
  | 0 => ⟨fun _ _ _ _ _ _ _ _ r h => by simp [shellgamelaw17_OpBack.j0] at h, fun _ r h => by simp [shellgamelaw17_OpBack.j1] at h⟩
  | k + 1 => by
    obtain ⟨ih0, ih1⟩ := shellgamelaw17_OpBack.mono_l k
    refine ⟨?_, ?_⟩
    · intro y0 y1 y2 y3 y4 y5 y6 y7
      unfold shellgamelaw17_OpBack.j0
      repeat' first
      | (with_reducible exact ih0 _ _ _ _ _ _ _ _)
      | (with_reducible exact ih1 _)
      | (with_reducible exact LeO.refl _)
      | (with_reducible exact LeO.none _)
      | (with_reducible refine LeO.ite ?_ ?_)
      | (with_reducible refine LeO.bind ?_ (fun _ => ?_))
      | exact ih0 _ _ _ _ _ _ _ _
      | exact ih1 _
      | exact LeO.none _
      | refine LeO.ite ?_ ?_
      | refine LeO.bind ?_ (fun _ => ?_)
    · intro y0
      unfold shellgamelaw17_OpBack.j1
      repeat' first
      | (with_reducible exact ih0 _ _ _ _ _ _ _ _)
      | (with_reducible exact ih1 _)
      | (with_reducible exact LeO.refl _)
      | (with_reducible exact LeO.none _)
      | (with_reducible refine LeO.ite ?_ ?_)
      | (with_reducible refine LeO.bind ?_ (fun _ => ?_))
      | exact ih0 _ _ _ _ _ _ _ _
      | exact ih1 _
      | exact LeO.none _
      | refine LeO.ite ?_ ?_
      | refine LeO.bind ?_ (fun _ => ?_)
theorem shellgamelaw17_OpBack.mono : ∀ a0 a1 a2 a3 a4 a5 k, LeO (shellgamelaw17_OpBack.f k a0 a1 a2 a3 a4 a5) (shellgamelaw17_OpBack.f (k + 1) a0 a1 a2 a3 a4 a5) := by
  intro a0 a1 a2 a3 a4 a5 k
  obtain ⟨ih0, ih1⟩ := shellgamelaw17_OpBack.mono_l k
  unfold shellgamelaw17_OpBack.f
  repeat' first
      | (with_reducible exact ih0 _ _ _ _ _ _ _ _)
      | (with_reducible exact ih1 _)
      | (with_reducible exact LeO.refl _)
      | (with_reducible exact LeO.none _)
      | (with_reducible refine LeO.ite ?_ ?_)
      | (with_reducible refine LeO.bind ?_ (fun _ => ?_))
      | exact ih0 _ _ _ _ _ _ _ _
      | exact ih1 _
      | exact LeO.none _
      | refine LeO.ite ?_ ?_
      | refine LeO.bind ?_ (fun _ => ?_)
set_option maxHeartbeats 8000000 in
set_option maxRecDepth 100000 in
theorem shellgamelaw17_OpBack.calls (k : Nat) (a0_0 : Int) (a0_1 : Int) (a0_2 : Int) (a0_3 : Int) (a1 : ByteArray) (a2 : Int) (r : Bool) (w : World) (hrT : Aside0 (r = true)) (h : shellgamelaw17_OpBack.f k a0_0 a0_1 a0_2 a0_3 a1 a2 = some r) :
    Calls Try.prog 6 #[.agg #[.int .i64 a0_0, .int .u64 a0_1, .int .u64 a0_2, .int .i64 a0_3], .string a1, .int .u8 a2] w fun e w' => e = .returned (.bool r) ∧ Below w.heap.size w w' := by
  have hu27 := Try.underlying27
  have HB := Aside0.mk (Below.refl w.heap.size w)
  have H : ((shellgamelaw17_shown.f).bind fun t107 => (if t107 = true then (shellgamelaw17_OpBack.j0 k a1 a2 t107 (decide ((a1.size : Int) > 2000)) a0_0 a0_1 a0_2 a0_3) else (shellgamelaw17_OpBack.j0 k a1 a2 t107 true a0_0 a0_1 a0_2 a0_3))) = some r := h
  clear h
  replace H := Option.bind_eq_some_iff.mp H
  obtain ⟨t107, A40, H⟩ := H
  replace H : (if t107 = true then (shellgamelaw17_OpBack.j0 k a1 a2 t107 (decide ((a1.size : Int) > 2000)) a0_0 a0_1 a0_2 a0_3) else (shellgamelaw17_OpBack.j0 k a1 a2 t107 true a0_0 a0_1 a0_2 a0_3)) = some r := H
  have A4 := Aside0.mk A40
  clear A40
  have HC5 := Aside0.mk H
  clear H
  go_enter Try.func6, Try.ntmps6
  go_upto_region 2 with (first | ((with_reducible refine gate_dst (N := 3) rfl ?_); (try (refine gate_guard (by rfl) ?_; dsimp only)); refine box_event ?hg (N := 3) ?hd (cs := #[.int .i64 a0_0, .int .u64 a0_1, .int .u64 a0_2, .int .i64 a0_3]) (t := 27) ?hr ?_; (case hd => rfl); (case hg => rfl); (case hr => first | (go_simp; done) | (go_simp; rfl)); intro gb106 hg w6 hbox hb; have n0_ := Aside0.mk (below_step (by repeat (first | (with_reducible first | exact HB.out | apply below_alloc | apply pw_below_drewN | apply below_drew1) | exact HB.out)) hb); have n1_ := Aside0.mk (hbox); have n2_ := Aside0.mk ((by rw [hg]; exact (below_size (by repeat (first | (with_reducible first | exact HB.out | apply below_alloc | apply pw_below_drewN | apply below_drew1) | exact HB.out))) : w.heap.size ≤ gb106)); have n3_ := Aside0.mk ((by rw [hg]; exact (below_size (by repeat (first | (with_reducible first | exact HB.out | apply below_alloc | apply pw_below_drewN | apply below_drew1) | exact HB.out))) : w.heap.size ≤ gb106)); clear HB; have HB := n0_; have BK106 := n1_; have GW106 := n2_; have GE106 := n3_; clear n0_ n1_ n2_ n3_; clear hb hbox hg) | ((with_reducible refine gate_callee (f := 9) rfl ?_); refine goesL_ (some 17) rfl rfl Try.func9 (by kernel_rfl) rfl #[] rfl (by (try simp only [List.map_toArray, List.map_cons, List.map_nil]); first | done | rfl | (simp only [List.length_drop, List.length_take]; rfl)) ?_; (with_reducible refine (shellgamelaw17_shown.calls  t107 _ A4.out).mono ?_); rintro e w7 ⟨rfl, hb⟩; refine ⟨_, rfl, ?_⟩; have n0_ := Aside0.mk (blk_below (g := gb106) (o := .cells #[.int .i64 a0_0, .int .u64 a0_1, .int .u64 a0_2, .int .i64 a0_3] 27 (0, 0)) (by (with_reducible repeat (first | refine blk_drewN ?_ _ | refine blk_drew ?_ | refine blk_alloc ?_ _)); exact BK106.out) hb); have n1_ := Aside0.mk (below_step (by repeat (first | (with_reducible first | exact HB.out | apply below_alloc | apply pw_below_drewN | apply below_drew1 | refine below_set ?_ GE106.out) | exact HB.out)) hb); clear BK106; clear HB; have BK106 := n0_; have HB := n1_; clear n0_ n1_; (try clear hb); (try clear hb2); (try clear hk); (try clear hi)))
  (try simp only [Act.put, List.setIfInBounds_toArray, List.set_cons_zero, List.set_cons_succ])
  go_cut [24] (fun v24 wc => ∃ (kq : Nat) (x24_4 : Bool), v24 = .bool x24_4 ∧ Aside0 (shellgamelaw17_OpBack.j0 kq a1 a2 t107 x24_4 a0_0 a0_1 a0_2 a0_3 = some r) ∧ Aside0 (kq ≤ k) ∧ Aside0 (wc.heap[gb106]? = some (.cells #[.int .i64 a0_0, .int .u64 a0_1, .int .u64 a0_2, .int .i64 a0_3] 27 (0, 0))) ∧ Aside0 (Below w.heap.size w wc))
  case first =>
    have H := HC5.out
    clear HC5
    by_cases c8 : t107 = true
    · subst c8
      have H1 : (shellgamelaw17_OpBack.j0 k a1 a2 true (decide ((a1.size : Int) > 2000)) a0_0 a0_1 a0_2 a0_3) = some r := by rw [if_pos rfl] at H; exact H
      clear H
      have H := H1
      clear H1
      have H' := Aside0.mk H
      clear H
      go_wp2
      go_meet
      case rel => exact ⟨_, (decide ((a1.size : Int) > 2000)), (by first | rfl | (simp; done) | (simp [*]; done)), H', ⟨by first | omega | exact Nat.le_refl _⟩, ⟨by (with_reducible repeat (first | refine blk_drewN ?_ _ | refine blk_drew ?_ | refine blk_alloc ?_ _)); exact BK106.out⟩, ⟨by repeat (first | (with_reducible first | exact HB.out | apply below_alloc | apply pw_below_drewN | apply below_drew1 | refine below_set ?_ GE106.out) | exact HB.out)⟩⟩
    · replace c8 := Bool.eq_false_iff.mpr c8
      subst c8
      have H1 : (shellgamelaw17_OpBack.j0 k a1 a2 false true a0_0 a0_1 a0_2 a0_3) = some r := by rw [if_neg (show ¬ (false = true) by decide)] at H; exact H
      clear H
      have H := H1
      clear H1
      have H' := Aside0.mk H
      clear H
      go_wp2
      go_meet
      case rel => exact ⟨_, (true), (by first | rfl | (simp; done) | (simp [*]; done)), H', ⟨by first | omega | exact Nat.le_refl _⟩, ⟨by (with_reducible repeat (first | refine blk_drewN ?_ _ | refine blk_drew ?_ | refine blk_alloc ?_ _)); exact BK106.out⟩, ⟨by repeat (first | (with_reducible first | exact HB.out | apply below_alloc | apply pw_below_drewN | apply below_drew1 | refine below_set ?_ GE106.out) | exact HB.out)⟩⟩
  case rest =>
    clear HC5
    try clear p2
    try clear c6
    try clear c8
    obtain ⟨kq, x24_4, rfl, HA, HJ4, BK106, HB⟩ := hcut
    cases kq with
    | zero => exact absurd HA.out (by simp [shellgamelaw17_OpBack.j0])
    | succ kj4 =>
      have H := HA.out
      clear HA
      simp only [shellgamelaw17_OpBack.j0] at H
      by_cases c9 : x24_4 = true
      · subst c9
        have H1 : (some t107) = some r := by rw [if_pos rfl] at H; exact H
        clear H
        have H := H1
        clear H1
        obtain rfl := Option.some.inj H
        go_wp2
        go_ret
        exact ⟨by first | rfl | (simp [errW_none, errW_some] <;> rfl) | (simp [*, errW_none, errW_some] <;> rfl), by repeat (first | (with_reducible first | exact HB.out | apply below_alloc | apply pw_below_drewN | apply below_drew1 | refine below_set ?_ GE106.out) | exact HB.out)⟩
      · replace c9 := Bool.eq_false_iff.mpr c9
        subst c9
        have H1 : ((op_Bytes.f a0_0 a0_1 a0_2 a0_3).bind fun t108 => ((op_Right.f a0_0 a0_1 a0_2 a0_3).bind fun t109 => (if ((t108.toList != ([] : List UInt8)) != t109) = true then (some false) else (if t108.toList = ([] : List UInt8) then (shellgamelaw17_OpBack.j1 kj4 a1) else ((op_Parse.f t108).bind fun bt110 => (if 0 ≤ (wrap64 ((t108.size : Int) - 1)) then (if (wrap64 ((t108.size : Int) - 1)) ≤ (t108.size : Int) then ((op_Parse.f (t108.extract 0 ((wrap64 ((t108.size : Int) - 1)) : Int).toNat)).bind fun bt116 => ((some (([a2] : List Int) : List Int)).bind fun y122 => (if t108.size + (strOfNums y122).size ≤ 9223372036854775807 then ((op_Parse.f (t108 ++ (strOfNums y122))).bind fun bt125 => (if (!(bt110.1 == a0_0) || (!(bt110.2.1 == a0_1) || (!(bt110.2.2.1 == a0_2) || (!(bt110.2.2.2.1 == a0_3))))) = true then (some false) else (if bt110.2.2.2.2 = 0 then (if bt116.2.2.2.2 = 3 then (if bt125.2.2.2.2 = 3 then (shellgamelaw17_OpBack.j1 kj4 a1) else (some false)) else (some false)) else (some false)))) else (none)))) else (none)) else (none))))))) = some r := by rw [if_neg (show ¬ (false = true) by decide)] at H; exact H
        clear H
        have H := H1
        clear H1
        replace H := Option.bind_eq_some_iff.mp H
        obtain ⟨t108, A100, H⟩ := H
        replace H : ((op_Right.f a0_0 a0_1 a0_2 a0_3).bind fun t109 => (if ((t108.toList != ([] : List UInt8)) != t109) = true then (some false) else (if t108.toList = ([] : List UInt8) then (shellgamelaw17_OpBack.j1 kj4 a1) else ((op_Parse.f t108).bind fun bt110 => (if 0 ≤ (wrap64 ((t108.size : Int) - 1)) then (if (wrap64 ((t108.size : Int) - 1)) ≤ (t108.size : Int) then ((op_Parse.f (t108.extract 0 ((wrap64 ((t108.size : Int) - 1)) : Int).toNat)).bind fun bt116 => ((some (([a2] : List Int) : List Int)).bind fun y122 => (if t108.size + (strOfNums y122).size ≤ 9223372036854775807 then ((op_Parse.f (t108 ++ (strOfNums y122))).bind fun bt125 => (if (!(bt110.1 == a0_0) || (!(bt110.2.1 == a0_1) || (!(bt110.2.2.1 == a0_2) || (!(bt110.2.2.2.1 == a0_3))))) = true then (some false) else (if bt110.2.2.2.2 = 0 then (if bt116.2.2.2.2 = 3 then (if bt125.2.2.2.2 = 3 then (shellgamelaw17_OpBack.j1 kj4 a1) else (some false)) else (some false)) else (some false)))) else (none)))) else (none)) else (none)))))) = some r := H
        have A10 := Aside0.mk A100
        clear A100
        replace H := Option.bind_eq_some_iff.mp H
        obtain ⟨t109, A110, H⟩ := H
        replace H : (if ((t108.toList != ([] : List UInt8)) != t109) = true then (some false) else (if t108.toList = ([] : List UInt8) then (shellgamelaw17_OpBack.j1 kj4 a1) else ((op_Parse.f t108).bind fun bt110 => (if 0 ≤ (wrap64 ((t108.size : Int) - 1)) then (if (wrap64 ((t108.size : Int) - 1)) ≤ (t108.size : Int) then ((op_Parse.f (t108.extract 0 ((wrap64 ((t108.size : Int) - 1)) : Int).toNat)).bind fun bt116 => ((some (([a2] : List Int) : List Int)).bind fun y122 => (if t108.size + (strOfNums y122).size ≤ 9223372036854775807 then ((op_Parse.f (t108 ++ (strOfNums y122))).bind fun bt125 => (if (!(bt110.1 == a0_0) || (!(bt110.2.1 == a0_1) || (!(bt110.2.2.1 == a0_2) || (!(bt110.2.2.2.1 == a0_3))))) = true then (some false) else (if bt110.2.2.2.2 = 0 then (if bt116.2.2.2.2 = 3 then (if bt125.2.2.2.2 = 3 then (shellgamelaw17_OpBack.j1 kj4 a1) else (some false)) else (some false)) else (some false)))) else (none)))) else (none)) else (none))))) = some r := H
        have A11 := Aside0.mk A110
        clear A110
        by_cases c12 : ((t108.toList != ([] : List UInt8)) != t109) = true
        · rw [if_pos c12] at H
          have c12b0 : ((t108.toList != ([] : List UInt8)) != t109) = true := c12
          (try (have c12b1 : decide ((t108.toList != ([] : List UInt8)) = t109) = false := by simpa using c12))
          (try (have c12b2 : ((t108.toList != ([] : List UInt8)) == t109) = false := by simpa using c12))
          (try (have c12b3 : ¬ ((t108.toList != ([] : List UInt8)) = t109) := by simpa using c12))
          clear c12
          rw [hrT.out] at H
          exact absurd H (by simp)
        · rw [if_neg c12] at H
          have c12b0 : ((t108.toList != ([] : List UInt8)) != t109) = false := by simpa using c12
          (try (have c12b1 : decide ((t108.toList != ([] : List UInt8)) = t109) = true := by simpa using c12))
          (try (have c12b2 : ((t108.toList != ([] : List UInt8)) == t109) = true := by simpa using c12))
          clear c12
          have c12b3 : ((!t108.toList.isEmpty) == t109) = true := by have hA := c12b2; revert hA; cases t109 <;> cases h : t108.toList <;> simp
          have c12b4 : (!((!t108.toList.isEmpty) == t109)) = false := by rw [c12b3]; rfl
          have HC13 := Aside0.mk H
          clear H
          have hcz14_0 : wc.cell? ⟨gb106, 0, none⟩ = some (.int .i64 a0_0) := (blk_cell BK106.out 0).trans rfl
          have hcz14_1 : wc.cell? ⟨gb106, 1, none⟩ = some (.int .u64 a0_1) := (blk_cell BK106.out 1).trans rfl
          have hcz14_2 : wc.cell? ⟨gb106, 2, none⟩ = some (.int .u64 a0_2) := (blk_cell BK106.out 2).trans rfl
          have hcz14_3 : wc.cell? ⟨gb106, 3, none⟩ = some (.int .i64 a0_3) := (blk_cell BK106.out 3).trans rfl
          have hfz14_0 := blk_frozen BK106.out 0
          have hfz14_1 := blk_frozen BK106.out 1
          have hfz14_2 := blk_frozen BK106.out 2
          have hfz14_3 := blk_frozen BK106.out 3
          go_upto_if 34 with (first | ((with_reducible refine gate_callee (f := 10) rfl ?_); refine goesL_ (some 27) rfl rfl Try.func10 (by kernel_rfl) rfl #[.agg #[.int .i64 a0_0, .int .u64 a0_1, .int .u64 a0_2, .int .i64 a0_3]] rfl (by (try simp only [List.map_toArray, List.map_cons, List.map_nil]); first | done | rfl | (simp only [List.length_drop, List.length_take]; rfl)) ?_; (with_reducible refine (op_Bytes.calls a0_0 a0_1 a0_2 a0_3 t108 _ A10.out).mono ?_); rintro e w15 ⟨rfl, hb⟩; refine ⟨_, rfl, ?_⟩; have n0_ := Aside0.mk (blk_below (g := gb106) (o := .cells #[.int .i64 a0_0, .int .u64 a0_1, .int .u64 a0_2, .int .i64 a0_3] 27 (0, 0)) (by (with_reducible repeat (first | refine blk_drewN ?_ _ | refine blk_drew ?_ | refine blk_alloc ?_ _)); exact BK106.out) hb); have n1_ := Aside0.mk (below_step (by repeat (first | (with_reducible first | exact HB.out | apply below_alloc | apply pw_below_drewN | apply below_drew1 | refine below_set ?_ GE106.out) | exact HB.out)) hb); clear BK106; clear HB; have BK106 := n0_; have HB := n1_; clear n0_ n1_; (try clear hb); (try clear hb2); (try clear hk); (try clear hi); have hcz16_0 : w15.cell? ⟨gb106, 0, none⟩ = some (.int .i64 a0_0) := (blk_cell BK106.out 0).trans rfl; have hcz16_1 : w15.cell? ⟨gb106, 1, none⟩ = some (.int .u64 a0_1) := (blk_cell BK106.out 1).trans rfl; have hcz16_2 : w15.cell? ⟨gb106, 2, none⟩ = some (.int .u64 a0_2) := (blk_cell BK106.out 2).trans rfl; have hcz16_3 : w15.cell? ⟨gb106, 3, none⟩ = some (.int .i64 a0_3) := (blk_cell BK106.out 3).trans rfl; have hfz16_0 := blk_frozen BK106.out 0; have hfz16_1 := blk_frozen BK106.out 1; have hfz16_2 := blk_frozen BK106.out 2; have hfz16_3 := blk_frozen BK106.out 3) | ((with_reducible refine gate_callee (f := 14) rfl ?_); refine goesL_ (some 31) rfl rfl Try.func14 (by kernel_rfl) rfl #[.agg #[.int .i64 a0_0, .int .u64 a0_1, .int .u64 a0_2, .int .i64 a0_3]] rfl (by (try simp only [List.map_toArray, List.map_cons, List.map_nil]); first | done | rfl | (simp only [List.length_drop, List.length_take]; rfl)) ?_; (with_reducible refine (op_Right.calls a0_0 a0_1 a0_2 a0_3 t109 _ A11.out).mono ?_); rintro e w17 ⟨rfl, hb⟩; refine ⟨_, rfl, ?_⟩; have n0_ := Aside0.mk (blk_below (g := gb106) (o := .cells #[.int .i64 a0_0, .int .u64 a0_1, .int .u64 a0_2, .int .i64 a0_3] 27 (0, 0)) (by (with_reducible repeat (first | refine blk_drewN ?_ _ | refine blk_drew ?_ | refine blk_alloc ?_ _)); exact BK106.out) hb); have n1_ := Aside0.mk (below_step (by repeat (first | (with_reducible first | exact HB.out | apply below_alloc | apply pw_below_drewN | apply below_drew1 | refine below_set ?_ GE106.out) | exact HB.out)) hb); clear BK106; clear HB; have BK106 := n0_; have HB := n1_; clear n0_ n1_; (try clear hb); (try clear hb2); (try clear hk); (try clear hi)))
          (try simp only [Act.put, List.setIfInBounds_toArray, List.set_cons_zero, List.set_cons_succ])
          go_cut [] (fun wc => ∃ (kq : Nat), Aside0 (shellgamelaw17_OpBack.j1 kq a1 = some r) ∧ Aside0 (kq ≤ kj4) ∧ Aside0 (wc.heap[gb106]? = some (.cells #[.int .i64 a0_0, .int .u64 a0_1, .int .u64 a0_2, .int .i64 a0_3] 27 (0, 0))) ∧ Aside0 (Below w.heap.size w wc))
          case first =>
            have H := HC13.out
            clear HC13
            by_cases c18 : t108.toList = ([] : List UInt8)
            · rw [if_pos c18] at H
              have c18b0 : (t108.toList == ([] : List UInt8)) = true := beq_iff_eq.mpr c18
              have c18b1 : (t108.toList != ([] : List UInt8)) = false := bne_eq_false_iff_eq.mpr c18
              have c18b8 : t108.toList.isEmpty = true := by have hA := c18b1; revert hA; cases h : t108.toList <;> simp
              have c18b9 : (!t108.toList.isEmpty) = false := by rw [c18b8]; rfl
              (try rw [c18b9])
              clear c18
              (first | rw [c18b0] | (simp only [i64_w, i32_w]; rw [c18b0]) | skip)
              have H' := Aside0.mk H
              clear H
              go_wp2
              go_meet
              case rel => exact ⟨_, H', ⟨by have := HJ4.out; first | omega | exact Nat.le_refl _⟩, ⟨by (with_reducible repeat (first | refine blk_drewN ?_ _ | refine blk_drew ?_ | refine blk_alloc ?_ _)); exact BK106.out⟩, ⟨by repeat (first | (with_reducible first | exact HB.out | apply below_alloc | apply pw_below_drewN | apply below_drew1 | refine below_set ?_ GE106.out) | exact HB.out)⟩⟩
            · rw [if_neg c18] at H
              have c18b0 : (t108.toList == ([] : List UInt8)) = false := beq_eq_false_iff_ne.mpr c18
              have c18b1 : (t108.toList != ([] : List UInt8)) = true := bne_iff_ne.mpr c18
              have c18b8 : t108.toList.isEmpty = false := by have hA := c18b1; revert hA; cases h : t108.toList <;> simp
              have c18b9 : (!t108.toList.isEmpty) = true := by rw [c18b8]; rfl
              (try rw [c18b9])
              (first | rw [c18b0] | (simp only [i64_w, i32_w]; rw [c18b0]) | skip)
              replace H := Option.bind_eq_some_iff.mp H
              obtain ⟨⟨t110, t111, t112, t113, t114⟩, A190, H⟩ := H
              replace H : (if 0 ≤ (wrap64 ((t108.size : Int) - 1)) then (if (wrap64 ((t108.size : Int) - 1)) ≤ (t108.size : Int) then ((op_Parse.f (t108.extract 0 ((wrap64 ((t108.size : Int) - 1)) : Int).toNat)).bind fun bt116 => ((some (([a2] : List Int) : List Int)).bind fun y122 => (if t108.size + (strOfNums y122).size ≤ 9223372036854775807 then ((op_Parse.f (t108 ++ (strOfNums y122))).bind fun bt125 => (if (!(t110 == a0_0) || (!(t111 == a0_1) || (!(t112 == a0_2) || (!(t113 == a0_3))))) = true then (some false) else (if t114 = 0 then (if bt116.2.2.2.2 = 3 then (if bt125.2.2.2.2 = 3 then (shellgamelaw17_OpBack.j1 kj4 a1) else (some false)) else (some false)) else (some false)))) else (none)))) else (none)) else (none)) = some r := H
              have A19 := Aside0.mk A190
              clear A190
              obtain ⟨ji20, hji20⟩ : ∃ j_ : Int, (wrap64 ((t108.size : Int) - 1)) = j_ := ⟨_, rfl⟩
              replace H : (if 0 ≤ (ji20) then (if (ji20) ≤ (t108.size : Int) then ((op_Parse.f (t108.extract 0 ((ji20) : Int).toNat)).bind fun bt116 => ((some (([a2] : List Int) : List Int)).bind fun y122 => (if t108.size + (strOfNums y122).size ≤ 9223372036854775807 then ((op_Parse.f (t108 ++ (strOfNums y122))).bind fun bt125 => (if (!(t110 == a0_0) || (!(t111 == a0_1) || (!(t112 == a0_2) || (!(t113 == a0_3))))) = true then (some false) else (if t114 = 0 then (if bt116.2.2.2.2 = 3 then (if bt125.2.2.2.2 = 3 then (shellgamelaw17_OpBack.j1 kj4 a1) else (some false)) else (some false)) else (some false)))) else (none)))) else (none)) else (none)) = some r := by first | (rw [hji20] at H; exact H) | (simp only [hji20] at H ⊢; exact H)
              (try rw [hji20] at A19)
              have hji20w : (IntKind.i64.wrap ((t108.size : Int) - 1)) = ji20 := (i64_w _).trans hji20
              by_cases c21 : 0 ≤ (ji20)
              · rw [if_pos c21] at H
                have c21b0 := eq_true c21
                have c21b1 : decide (0 ≤ (ji20)) = true := decide_eq_true c21
                clear c21
                by_cases c22 : (ji20) ≤ (t108.size : Int)
                · rw [if_pos c22] at H
                  have c22b0 := eq_true c22
                  have c22b1 : decide ((ji20) ≤ (t108.size : Int)) = true := decide_eq_true c22
                  clear c22
                  replace H := Option.bind_eq_some_iff.mp H
                  obtain ⟨⟨t116, t117, t118, t119, t120⟩, A230, H⟩ := H
                  replace H : ((some (([a2] : List Int) : List Int)).bind fun y122 => (if t108.size + (strOfNums y122).size ≤ 9223372036854775807 then ((op_Parse.f (t108 ++ (strOfNums y122))).bind fun bt125 => (if (!(t110 == a0_0) || (!(t111 == a0_1) || (!(t112 == a0_2) || (!(t113 == a0_3))))) = true then (some false) else (if t114 = 0 then (if t120 = 3 then (if bt125.2.2.2.2 = 3 then (shellgamelaw17_OpBack.j1 kj4 a1) else (some false)) else (some false)) else (some false)))) else (none))) = some r := H
                  have A23 := Aside0.mk A230
                  clear A230
                  obtain ⟨y122, hy122⟩ : ∃ y_ : List Int, y_ = (([a2] : List Int)) := ⟨_, rfl⟩
                  replace H : (if t108.size + (strOfNums y122).size ≤ 9223372036854775807 then ((op_Parse.f (t108 ++ (strOfNums y122))).bind fun bt125 => (if (!(t110 == a0_0) || (!(t111 == a0_1) || (!(t112 == a0_2) || (!(t113 == a0_3))))) = true then (some false) else (if t114 = 0 then (if t120 = 3 then (if bt125.2.2.2.2 = 3 then (shellgamelaw17_OpBack.j1 kj4 a1) else (some false)) else (some false)) else (some false)))) else (none)) = some r := by first | (rw [hy122]; with_reducible exact H) | (have H2_ := (Option.bind_some _ _).symm.trans H; rw [hy122]; with_reducible exact H2_) | (have H2_ := (Option.bind_some _ _).symm.trans H; with_reducible exact H2_) | with_reducible exact H | (rw [hy122]; exact H) | exact H
                  have Ny122 := Aside0.mk hy122
                  clear hy122
                  by_cases c24 : t108.size + (strOfNums y122).size ≤ 9223372036854775807
                  · rw [if_pos c24] at H
                    have c24b0 := eq_true c24
                    have c24b1 : decide (t108.size + (strOfNums y122).size ≤ 9223372036854775807) = true := decide_eq_true c24
                    try have c24b2 : (9223372036854775807 < t108.size + (strOfNums y122).size) = False := eq_false (Nat.not_lt.2 c24)
                    replace H := Option.bind_eq_some_iff.mp H
                    obtain ⟨⟨t125, t126, t127, t128, t129⟩, A250, H⟩ := H
                    replace H : (if (!(t110 == a0_0) || (!(t111 == a0_1) || (!(t112 == a0_2) || (!(t113 == a0_3))))) = true then (some false) else (if t114 = 0 then (if t120 = 3 then (if t129 = 3 then (shellgamelaw17_OpBack.j1 kj4 a1) else (some false)) else (some false)) else (some false))) = some r := H
                    have A25 := Aside0.mk A250
                    clear A250
                    by_cases c26 : (!(t110 == a0_0) || (!(t111 == a0_1) || (!(t112 == a0_2) || (!(t113 == a0_3))))) = true
                    · rw [if_pos c26] at H
                      have c26b0 : (!(t110 == a0_0) || (!(t111 == a0_1) || (!(t112 == a0_2) || (!(t113 == a0_3))))) = true := c26
                      clear c26
                      rw [hrT.out] at H
                      exact absurd H (by simp)
                    · rw [if_neg c26] at H
                      have c26b0 : (!(t110 == a0_0) || (!(t111 == a0_1) || (!(t112 == a0_2) || (!(t113 == a0_3))))) = false := by simpa using c26
                      clear c26
                      by_cases c27 : t114 = 0
                      · rw [if_pos c27] at H
                        have c27b0 : (t114 == 0) = true := beq_iff_eq.mpr c27
                        have c27b1 : (t114 != 0) = false := bne_eq_false_iff_eq.mpr c27
                        clear c27
                        by_cases c28 : t120 = 3
                        · rw [if_pos c28] at H
                          have c28b0 : (t120 == 3) = true := beq_iff_eq.mpr c28
                          have c28b1 : (t120 != 3) = false := bne_eq_false_iff_eq.mpr c28
                          clear c28
                          by_cases c29 : t129 = 3
                          · rw [if_pos c29] at H
                            have c29b0 : (t129 == 3) = true := beq_iff_eq.mpr c29
                            have c29b1 : (t129 != 3) = false := bne_eq_false_iff_eq.mpr c29
                            clear c29
                            have H' := Aside0.mk H
                            clear H
                            go_wp2_with (first | ((with_reducible refine gate_callee (f := 12) rfl ?_); refine goesL_ (some 37) rfl rfl Try.func12 (by kernel_rfl) rfl #[.string t108] rfl (by (try simp only [List.map_toArray, List.map_cons, List.map_nil]); first | done | rfl | (simp only [List.length_drop, List.length_take]; rfl)) ?_; (with_reducible refine (op_Parse.calls t108 t110 t111 t112 t113 t114 _ A19.out).mono ?_); rintro e w30 ⟨rfl, hb⟩; refine ⟨_, rfl, ?_⟩; have n0_ := Aside0.mk (blk_below (g := gb106) (o := .cells #[.int .i64 a0_0, .int .u64 a0_1, .int .u64 a0_2, .int .i64 a0_3] 27 (0, 0)) (by (with_reducible repeat (first | refine blk_drewN ?_ _ | refine blk_drew ?_ | refine blk_alloc ?_ _)); exact BK106.out) hb); have n1_ := Aside0.mk (below_step (by repeat (first | (with_reducible first | exact HB.out | apply below_alloc | apply pw_below_drewN | apply below_drew1 | refine below_set ?_ GE106.out) | exact HB.out)) hb); clear BK106; clear HB; have BK106 := n0_; have HB := n1_; clear n0_ n1_; (try clear hb); (try clear hb2); (try clear hk); (try clear hi)) | ((with_reducible refine gate_dst (N := 9) rfl ?_); (try (refine gate_guard (by rfl) ?_; dsimp only)); refine box_event ?hg (N := 9) ?hd (cs := #[.int .i64 0, .int .u64 0, .int .u64 0, .int .i64 0]) (t := 27) ?hr ?_; (case hd => rfl); (case hg => rfl); (case hr => first | (go_simp; done) | (go_simp; rfl)); intro gb115 hg w31 hbox hb; have n0_ := Aside0.mk (blk_below (g := gb106) (o := .cells #[.int .i64 a0_0, .int .u64 a0_1, .int .u64 a0_2, .int .i64 a0_3] 27 (0, 0)) (by (with_reducible repeat (first | refine blk_drewN ?_ _ | refine blk_drew ?_ | refine blk_alloc ?_ _)); exact BK106.out) hb); have n1_ := Aside0.mk (below_step (by repeat (first | (with_reducible first | exact HB.out | apply below_alloc | apply pw_below_drewN | apply below_drew1 | refine below_set ?_ GE106.out) | exact HB.out)) hb); have n2_ := Aside0.mk (hbox); have n3_ := Aside0.mk ((by rw [hg]; exact (below_size (by repeat (first | (with_reducible first | exact HB.out | apply below_alloc | apply pw_below_drewN | apply below_drew1 | refine below_set ?_ GE106.out) | exact HB.out))) : w.heap.size ≤ gb115)); have n4_ := Aside0.mk ((by rw [hg]; exact (below_size (by repeat (first | (with_reducible first | exact HB.out | apply below_alloc | apply pw_below_drewN | apply below_drew1 | refine below_set ?_ GE106.out) | exact HB.out))) : w.heap.size ≤ gb115)); have n5_ := Aside0.mk ((by rw [hg]; exact Nat.ne_of_lt (blk_lt (g := gb106) (o := .cells #[.int .i64 a0_0, .int .u64 a0_1, .int .u64 a0_2, .int .i64 a0_3] 27 (0, 0)) (by (with_reducible repeat (first | refine blk_drewN ?_ _ | refine blk_drew ?_ | refine blk_alloc ?_ _)); exact BK106.out)) : gb106 ≠ gb115)); have n6_ := Aside0.mk ((by rw [hg]; exact Nat.ne_of_gt (blk_lt (g := gb106) (o := .cells #[.int .i64 a0_0, .int .u64 a0_1, .int .u64 a0_2, .int .i64 a0_3] 27 (0, 0)) (by (with_reducible repeat (first | refine blk_drewN ?_ _ | refine blk_drew ?_ | refine blk_alloc ?_ _)); exact BK106.out)) : gb115 ≠ gb106)); clear BK106; clear HB; have BK106 := n0_; have HB := n1_; have BK115 := n2_; have GW115 := n3_; have GE115 := n4_; have NB106_115 := n5_; have NB115_106 := n6_; clear n0_ n1_ n2_ n3_ n4_ n5_ n6_; clear hb hbox hg; have hnb32 := NB115_106.out; have hnc32 := NB106_115.out; have hcz33_0 : w31.cell? ⟨gb115, 0, none⟩ = some (.int .i64 0) := (blk_cell BK115.out 0).trans rfl; have hcz33_1 : w31.cell? ⟨gb115, 1, none⟩ = some (.int .u64 0) := (blk_cell BK115.out 1).trans rfl; have hcz33_2 : w31.cell? ⟨gb115, 2, none⟩ = some (.int .u64 0) := (blk_cell BK115.out 2).trans rfl; have hcz33_3 : w31.cell? ⟨gb115, 3, none⟩ = some (.int .i64 0) := (blk_cell BK115.out 3).trans rfl; have hfz33_0 := blk_frozen BK115.out 0; have hfz33_1 := blk_frozen BK115.out 1; have hfz33_2 := blk_frozen BK115.out 2; have hfz33_3 := blk_frozen BK115.out 3) | ((with_reducible refine gate_callee (f := 12) rfl ?_); refine goesL_ (some 46) rfl rfl Try.func12 (by kernel_rfl) rfl #[.string (t108.extract 0 ((ji20) : Int).toNat)] rfl (by (try simp only [List.map_toArray, List.map_cons, List.map_nil]); first | done | (simp only [hji20]; rfl) | rfl | (simp only [List.length_drop, List.length_take]; rfl)) ?_; (with_reducible refine (op_Parse.calls (t108.extract 0 ((ji20) : Int).toNat) t116 t117 t118 t119 t120 _ A23.out).mono ?_); rintro e w34 ⟨rfl, hb⟩; refine ⟨_, rfl, ?_⟩; have n0_ := Aside0.mk (blk_below (g := gb106) (o := .cells #[.int .i64 a0_0, .int .u64 a0_1, .int .u64 a0_2, .int .i64 a0_3] 27 (0, 0)) (by (with_reducible repeat (first | refine blk_drewN ?_ _ | refine blk_drew ?_ | refine blk_alloc ?_ _)); refine blk_far ?_ NB106_115.out _; (with_reducible repeat (first | refine blk_drewN ?_ _ | refine blk_drew ?_ | refine blk_alloc ?_ _)); refine blk_far ?_ NB106_115.out _; (with_reducible repeat (first | refine blk_drewN ?_ _ | refine blk_drew ?_ | refine blk_alloc ?_ _)); refine blk_far ?_ NB106_115.out _; (with_reducible repeat (first | refine blk_drewN ?_ _ | refine blk_drew ?_ | refine blk_alloc ?_ _)); refine blk_far ?_ NB106_115.out _; (with_reducible repeat (first | refine blk_drewN ?_ _ | refine blk_drew ?_ | refine blk_alloc ?_ _)); exact BK106.out) hb); have n1_ := Aside0.mk (blk_below (g := gb115) (o := .cells #[.int .i64 t110, .int .u64 t111, .int .u64 t112, .int .i64 t113] 27 (0, 0)) (by (with_reducible repeat (first | refine blk_drewN ?_ _ | refine blk_drew ?_ | refine blk_alloc ?_ _)); refine blk_put (cs := #[.int .i64 t110, .int .u64 t111, .int .u64 t112, .int .i64 0]) ?_ 3 _ rfl; (with_reducible repeat (first | refine blk_drewN ?_ _ | refine blk_drew ?_ | refine blk_alloc ?_ _)); refine blk_put (cs := #[.int .i64 t110, .int .u64 t111, .int .u64 0, .int .i64 0]) ?_ 2 _ rfl; (with_reducible repeat (first | refine blk_drewN ?_ _ | refine blk_drew ?_ | refine blk_alloc ?_ _)); refine blk_put (cs := #[.int .i64 t110, .int .u64 0, .int .u64 0, .int .i64 0]) ?_ 1 _ rfl; (with_reducible repeat (first | refine blk_drewN ?_ _ | refine blk_drew ?_ | refine blk_alloc ?_ _)); refine blk_put (cs := #[.int .i64 0, .int .u64 0, .int .u64 0, .int .i64 0]) ?_ 0 _ rfl; (with_reducible repeat (first | refine blk_drewN ?_ _ | refine blk_drew ?_ | refine blk_alloc ?_ _)); exact BK115.out) hb); have n2_ := Aside0.mk (below_step (by repeat (first | (with_reducible first | exact HB.out | apply below_alloc | apply pw_below_drewN | apply below_drew1 | refine below_set ?_ GE106.out | refine below_set ?_ GE115.out) | exact HB.out)) hb); clear BK106; clear BK115; clear HB; have BK106 := n0_; have BK115 := n1_; have HB := n2_; clear n0_ n1_ n2_; (try clear hb); (try clear hb2); (try clear hk); (try clear hi)) | ((with_reducible refine gate_dst (N := 11) rfl ?_); (try (refine gate_guard (by rfl) ?_; dsimp only)); refine box_event ?hg (N := 11) ?hd (cs := #[.int .i64 0, .int .u64 0, .int .u64 0, .int .i64 0]) (t := 27) ?hr ?_; (case hd => rfl); (case hg => rfl); (case hr => first | (go_simp; done) | (go_simp; rfl)); intro gb121 hg w35 hbox hb; have n0_ := Aside0.mk (blk_below (g := gb106) (o := .cells #[.int .i64 a0_0, .int .u64 a0_1, .int .u64 a0_2, .int .i64 a0_3] 27 (0, 0)) (by (with_reducible repeat (first | refine blk_drewN ?_ _ | refine blk_drew ?_ | refine blk_alloc ?_ _)); exact BK106.out) hb); have n1_ := Aside0.mk (blk_below (g := gb115) (o := .cells #[.int .i64 t110, .int .u64 t111, .int .u64 t112, .int .i64 t113] 27 (0, 0)) (by (with_reducible repeat (first | refine blk_drewN ?_ _ | refine blk_drew ?_ | refine blk_alloc ?_ _)); exact BK115.out) hb); have n2_ := Aside0.mk (below_step (by repeat (first | (with_reducible first | exact HB.out | apply below_alloc | apply pw_below_drewN | apply below_drew1 | refine below_set ?_ GE106.out | refine below_set ?_ GE115.out) | exact HB.out)) hb); have n3_ := Aside0.mk (hbox); have n4_ := Aside0.mk ((by rw [hg]; exact (below_size (by repeat (first | (with_reducible first | exact HB.out | apply below_alloc | apply pw_below_drewN | apply below_drew1 | refine below_set ?_ GE106.out | refine below_set ?_ GE115.out) | exact HB.out))) : w.heap.size ≤ gb121)); have n5_ := Aside0.mk ((by rw [hg]; exact (below_size (by repeat (first | (with_reducible first | exact HB.out | apply below_alloc | apply pw_below_drewN | apply below_drew1 | refine below_set ?_ GE106.out | refine below_set ?_ GE115.out) | exact HB.out))) : w.heap.size ≤ gb121)); have n6_ := Aside0.mk ((by rw [hg]; exact Nat.ne_of_lt (blk_lt (g := gb106) (o := .cells #[.int .i64 a0_0, .int .u64 a0_1, .int .u64 a0_2, .int .i64 a0_3] 27 (0, 0)) (by (with_reducible repeat (first | refine blk_drewN ?_ _ | refine blk_drew ?_ | refine blk_alloc ?_ _)); exact BK106.out)) : gb106 ≠ gb121)); have n7_ := Aside0.mk ((by rw [hg]; exact Nat.ne_of_gt (blk_lt (g := gb106) (o := .cells #[.int .i64 a0_0, .int .u64 a0_1, .int .u64 a0_2, .int .i64 a0_3] 27 (0, 0)) (by (with_reducible repeat (first | refine blk_drewN ?_ _ | refine blk_drew ?_ | refine blk_alloc ?_ _)); exact BK106.out)) : gb121 ≠ gb106)); have n8_ := Aside0.mk ((by rw [hg]; exact Nat.ne_of_lt (blk_lt (g := gb115) (o := .cells #[.int .i64 t110, .int .u64 t111, .int .u64 t112, .int .i64 t113] 27 (0, 0)) (by (with_reducible repeat (first | refine blk_drewN ?_ _ | refine blk_drew ?_ | refine blk_alloc ?_ _)); exact BK115.out)) : gb115 ≠ gb121)); have n9_ := Aside0.mk ((by rw [hg]; exact Nat.ne_of_gt (blk_lt (g := gb115) (o := .cells #[.int .i64 t110, .int .u64 t111, .int .u64 t112, .int .i64 t113] 27 (0, 0)) (by (with_reducible repeat (first | refine blk_drewN ?_ _ | refine blk_drew ?_ | refine blk_alloc ?_ _)); exact BK115.out)) : gb121 ≠ gb115)); clear BK106; clear BK115; clear HB; have BK106 := n0_; have BK115 := n1_; have HB := n2_; have BK121 := n3_; have GW121 := n4_; have GE121 := n5_; have NB106_121 := n6_; have NB121_106 := n7_; have NB115_121 := n8_; have NB121_115 := n9_; clear n0_ n1_ n2_ n3_ n4_ n5_ n6_ n7_ n8_ n9_; clear hb hbox hg; have hnb36 := NB121_106.out; have hnc36 := NB106_121.out; have hnb37 := NB121_115.out; have hnc37 := NB115_121.out; have hcz38_0 : w35.cell? ⟨gb121, 0, none⟩ = some (.int .i64 0) := (blk_cell BK121.out 0).trans rfl; have hcz38_1 : w35.cell? ⟨gb121, 1, none⟩ = some (.int .u64 0) := (blk_cell BK121.out 1).trans rfl; have hcz38_2 : w35.cell? ⟨gb121, 2, none⟩ = some (.int .u64 0) := (blk_cell BK121.out 2).trans rfl; have hcz38_3 : w35.cell? ⟨gb121, 3, none⟩ = some (.int .i64 0) := (blk_cell BK121.out 3).trans rfl; have hfz38_0 := blk_frozen BK121.out 0; have hfz38_1 := blk_frozen BK121.out 1; have hfz38_2 := blk_frozen BK121.out 2; have hfz38_3 := blk_frozen BK121.out 3) | ((with_reducible refine gate_dst (N := 52) rfl ?_); (try (refine gate_guard (by rfl) ?_; dsimp only)); refine Kd.R_lit (Kd.int .u8) _ 5 ?hg (N := 52) ?hd (xs := ([a2] : List Int)) (inner := [.int .u8 a2]) (ok := fun _ => True) (okp := fun _ => True) ?hr ?hp (fun _ hk => hk) trivial (Below.refl _ _) (Nat.le_refl _) (by simp) ?_; (case hd => rfl); (case hg => rfl); (case hr => first | (go_simp; done) | (go_simp; rfl)); (case hp => exact (Reps.one (show Kd.M (Kd.int .u8) _ _ _ a2 [.int .u8 a2] from rfl) (Reps.none _ _))); intro v123 w39 ho40 hb hg_ hnew_; clear hg_ hnew_; (first | rw [← Ny122.out] at ho40 | (simp only [Int.reduceToNat] at ho40; rw [← Ny122.out] at ho40)); have n0_ := Aside0.mk (Kd.R_lower ho40 (below_size (by repeat (first | (with_reducible first | exact HB.out | apply below_alloc | apply pw_below_drewN | apply below_drew1 | refine below_set ?_ GE106.out | refine below_set ?_ GE115.out | refine below_set ?_ GE121.out) | exact HB.out)))); have n1_ := Aside0.mk (blk_below (g := gb106) (o := .cells #[.int .i64 a0_0, .int .u64 a0_1, .int .u64 a0_2, .int .i64 a0_3] 27 (0, 0)) (by (with_reducible repeat (first | refine blk_drewN ?_ _ | refine blk_drew ?_ | refine blk_alloc ?_ _)); refine blk_far ?_ NB106_121.out _; (with_reducible repeat (first | refine blk_drewN ?_ _ | refine blk_drew ?_ | refine blk_alloc ?_ _)); refine blk_far ?_ NB106_121.out _; (with_reducible repeat (first | refine blk_drewN ?_ _ | refine blk_drew ?_ | refine blk_alloc ?_ _)); refine blk_far ?_ NB106_121.out _; (with_reducible repeat (first | refine blk_drewN ?_ _ | refine blk_drew ?_ | refine blk_alloc ?_ _)); refine blk_far ?_ NB106_121.out _; (with_reducible repeat (first | refine blk_drewN ?_ _ | refine blk_drew ?_ | refine blk_alloc ?_ _)); exact BK106.out) hb); have n2_ := Aside0.mk (blk_below (g := gb115) (o := .cells #[.int .i64 t110, .int .u64 t111, .int .u64 t112, .int .i64 t113] 27 (0, 0)) (by (with_reducible repeat (first | refine blk_drewN ?_ _ | refine blk_drew ?_ | refine blk_alloc ?_ _)); refine blk_far ?_ NB115_121.out _; (with_reducible repeat (first | refine blk_drewN ?_ _ | refine blk_drew ?_ | refine blk_alloc ?_ _)); refine blk_far ?_ NB115_121.out _; (with_reducible repeat (first | refine blk_drewN ?_ _ | refine blk_drew ?_ | refine blk_alloc ?_ _)); refine blk_far ?_ NB115_121.out _; (with_reducible repeat (first | refine blk_drewN ?_ _ | refine blk_drew ?_ | refine blk_alloc ?_ _)); refine blk_far ?_ NB115_121.out _; (with_reducible repeat (first | refine blk_drewN ?_ _ | refine blk_drew ?_ | refine blk_alloc ?_ _)); exact BK115.out) hb); have n3_ := Aside0.mk (blk_below (g := gb121) (o := .cells #[.int .i64 t116, .int .u64 t117, .int .u64 t118, .int .i64 t119] 27 (0, 0)) (by (with_reducible repeat (first | refine blk_drewN ?_ _ | refine blk_drew ?_ | refine blk_alloc ?_ _)); refine blk_put (cs := #[.int .i64 t116, .int .u64 t117, .int .u64 t118, .int .i64 0]) ?_ 3 _ rfl; (with_reducible repeat (first | refine blk_drewN ?_ _ | refine blk_drew ?_ | refine blk_alloc ?_ _)); refine blk_put (cs := #[.int .i64 t116, .int .u64 t117, .int .u64 0, .int .i64 0]) ?_ 2 _ rfl; (with_reducible repeat (first | refine blk_drewN ?_ _ | refine blk_drew ?_ | refine blk_alloc ?_ _)); refine blk_put (cs := #[.int .i64 t116, .int .u64 0, .int .u64 0, .int .i64 0]) ?_ 1 _ rfl; (with_reducible repeat (first | refine blk_drewN ?_ _ | refine blk_drew ?_ | refine blk_alloc ?_ _)); refine blk_put (cs := #[.int .i64 0, .int .u64 0, .int .u64 0, .int .i64 0]) ?_ 0 _ rfl; (with_reducible repeat (first | refine blk_drewN ?_ _ | refine blk_drew ?_ | refine blk_alloc ?_ _)); exact BK121.out) hb); have n4_ := Aside0.mk (below_step (by repeat (first | (with_reducible first | exact HB.out | apply below_alloc | apply pw_below_drewN | apply below_drew1 | refine below_set ?_ GE106.out | refine below_set ?_ GE115.out | refine below_set ?_ GE121.out) | exact HB.out)) hb); clear BK106; clear BK115; clear BK121; clear HB; have HO124 := n0_; have BK106 := n1_; have BK115 := n2_; have BK121 := n3_; have HB := n4_; clear n0_ n1_ n2_ n3_ n4_; clear hb ho40; have hcv41 := own_string (P := Try.prog) Try.underlying41 Try.underlying5 Try.underlying9 (Kd.own_of_R HO124.out)) | ((with_reducible refine gate_callee (f := 12) rfl ?_); refine goesL_ (some 55) rfl rfl Try.func12 (by kernel_rfl) rfl #[.string (t108 ++ (strOfNums y122))] rfl (by (try simp only [List.map_toArray, List.map_cons, List.map_nil]); first | done | rfl | (simp only [List.length_drop, List.length_take]; rfl)) ?_; (with_reducible refine (op_Parse.calls (t108 ++ (strOfNums y122)) t125 t126 t127 t128 t129 _ A25.out).mono ?_); rintro e w42 ⟨rfl, hb⟩; refine ⟨_, rfl, ?_⟩; have n0_ := Aside0.mk (Kd.R_below (by (with_reducible repeat (first | apply Kd.R_alloc | apply Kd.R_drewN | apply Kd.R_drew)); exact HO124.out) hb); have n1_ := Aside0.mk (blk_below (g := gb106) (o := .cells #[.int .i64 a0_0, .int .u64 a0_1, .int .u64 a0_2, .int .i64 a0_3] 27 (0, 0)) (by (with_reducible repeat (first | refine blk_drewN ?_ _ | refine blk_drew ?_ | refine blk_alloc ?_ _)); exact BK106.out) hb); have n2_ := Aside0.mk (blk_below (g := gb115) (o := .cells #[.int .i64 t110, .int .u64 t111, .int .u64 t112, .int .i64 t113] 27 (0, 0)) (by (with_reducible repeat (first | refine blk_drewN ?_ _ | refine blk_drew ?_ | refine blk_alloc ?_ _)); exact BK115.out) hb); have n3_ := Aside0.mk (blk_below (g := gb121) (o := .cells #[.int .i64 t116, .int .u64 t117, .int .u64 t118, .int .i64 t119] 27 (0, 0)) (by (with_reducible repeat (first | refine blk_drewN ?_ _ | refine blk_drew ?_ | refine blk_alloc ?_ _)); exact BK121.out) hb); have n4_ := Aside0.mk (below_step (by repeat (first | (with_reducible first | exact HB.out | apply below_alloc | apply pw_below_drewN | apply below_drew1 | refine below_set ?_ GE106.out | refine below_set ?_ GE115.out | refine below_set ?_ GE121.out) | exact HB.out)) hb); clear HO124; clear BK106; clear BK115; clear BK121; clear HB; have HO124 := n0_; have BK106 := n1_; have BK115 := n2_; have BK121 := n3_; have HB := n4_; clear n0_ n1_ n2_ n3_ n4_; (try clear hb); (try clear hb2); (try clear hk); (try clear hi)) | ((with_reducible refine gate_dst (N := 13) rfl ?_); (try (refine gate_guard (by rfl) ?_; dsimp only)); refine box_event ?hg (N := 13) ?hd (cs := #[.int .i64 0, .int .u64 0, .int .u64 0, .int .i64 0]) (t := 27) ?hr ?_; (case hd => rfl); (case hg => rfl); (case hr => first | (go_simp; done) | (go_simp; rfl)); intro gb130 hg w43 hbox hb; have n0_ := Aside0.mk (Kd.R_below (by (with_reducible repeat (first | apply Kd.R_alloc | apply Kd.R_drewN | apply Kd.R_drew)); exact HO124.out) hb); have n1_ := Aside0.mk (blk_below (g := gb106) (o := .cells #[.int .i64 a0_0, .int .u64 a0_1, .int .u64 a0_2, .int .i64 a0_3] 27 (0, 0)) (by (with_reducible repeat (first | refine blk_drewN ?_ _ | refine blk_drew ?_ | refine blk_alloc ?_ _)); exact BK106.out) hb); have n2_ := Aside0.mk (blk_below (g := gb115) (o := .cells #[.int .i64 t110, .int .u64 t111, .int .u64 t112, .int .i64 t113] 27 (0, 0)) (by (with_reducible repeat (first | refine blk_drewN ?_ _ | refine blk_drew ?_ | refine blk_alloc ?_ _)); exact BK115.out) hb); have n3_ := Aside0.mk (blk_below (g := gb121) (o := .cells #[.int .i64 t116, .int .u64 t117, .int .u64 t118, .int .i64 t119] 27 (0, 0)) (by (with_reducible repeat (first | refine blk_drewN ?_ _ | refine blk_drew ?_ | refine blk_alloc ?_ _)); exact BK121.out) hb); have n4_ := Aside0.mk (below_step (by repeat (first | (with_reducible first | exact HB.out | apply below_alloc | apply pw_below_drewN | apply below_drew1 | refine below_set ?_ GE106.out | refine below_set ?_ GE115.out | refine below_set ?_ GE121.out) | exact HB.out)) hb); have n5_ := Aside0.mk (hbox); have n6_ := Aside0.mk ((by rw [hg]; exact (below_size (by repeat (first | (with_reducible first | exact HB.out | apply below_alloc | apply pw_below_drewN | apply below_drew1 | refine below_set ?_ GE106.out | refine below_set ?_ GE115.out | refine below_set ?_ GE121.out) | exact HB.out))) : w.heap.size ≤ gb130)); have n7_ := Aside0.mk ((by rw [hg]; exact (below_size (by repeat (first | (with_reducible first | exact HB.out | apply below_alloc | apply pw_below_drewN | apply below_drew1 | refine below_set ?_ GE106.out | refine below_set ?_ GE115.out | refine below_set ?_ GE121.out) | exact HB.out))) : w.heap.size ≤ gb130)); have n8_ := Aside0.mk ((by rw [hg]; exact Nat.ne_of_lt (blk_lt (g := gb106) (o := .cells #[.int .i64 a0_0, .int .u64 a0_1, .int .u64 a0_2, .int .i64 a0_3] 27 (0, 0)) (by (with_reducible repeat (first | refine blk_drewN ?_ _ | refine blk_drew ?_ | refine blk_alloc ?_ _)); exact BK106.out)) : gb106 ≠ gb130)); have n9_ := Aside0.mk ((by rw [hg]; exact Nat.ne_of_gt (blk_lt (g := gb106) (o := .cells #[.int .i64 a0_0, .int .u64 a0_1, .int .u64 a0_2, .int .i64 a0_3] 27 (0, 0)) (by (with_reducible repeat (first | refine blk_drewN ?_ _ | refine blk_drew ?_ | refine blk_alloc ?_ _)); exact BK106.out)) : gb130 ≠ gb106)); have n10_ := Aside0.mk ((by rw [hg]; exact Nat.ne_of_lt (blk_lt (g := gb115) (o := .cells #[.int .i64 t110, .int .u64 t111, .int .u64 t112, .int .i64 t113] 27 (0, 0)) (by (with_reducible repeat (first | refine blk_drewN ?_ _ | refine blk_drew ?_ | refine blk_alloc ?_ _)); exact BK115.out)) : gb115 ≠ gb130)); have n11_ := Aside0.mk ((by rw [hg]; exact Nat.ne_of_gt (blk_lt (g := gb115) (o := .cells #[.int .i64 t110, .int .u64 t111, .int .u64 t112, .int .i64 t113] 27 (0, 0)) (by (with_reducible repeat (first | refine blk_drewN ?_ _ | refine blk_drew ?_ | refine blk_alloc ?_ _)); exact BK115.out)) : gb130 ≠ gb115)); have n12_ := Aside0.mk ((by rw [hg]; exact Nat.ne_of_lt (blk_lt (g := gb121) (o := .cells #[.int .i64 t116, .int .u64 t117, .int .u64 t118, .int .i64 t119] 27 (0, 0)) (by (with_reducible repeat (first | refine blk_drewN ?_ _ | refine blk_drew ?_ | refine blk_alloc ?_ _)); exact BK121.out)) : gb121 ≠ gb130)); have n13_ := Aside0.mk ((by rw [hg]; exact Nat.ne_of_gt (blk_lt (g := gb121) (o := .cells #[.int .i64 t116, .int .u64 t117, .int .u64 t118, .int .i64 t119] 27 (0, 0)) (by (with_reducible repeat (first | refine blk_drewN ?_ _ | refine blk_drew ?_ | refine blk_alloc ?_ _)); exact BK121.out)) : gb130 ≠ gb121)); clear HO124; clear BK106; clear BK115; clear BK121; clear HB; have HO124 := n0_; have BK106 := n1_; have BK115 := n2_; have BK121 := n3_; have HB := n4_; have BK130 := n5_; have GW130 := n6_; have GE130 := n7_; have NB106_130 := n8_; have NB130_106 := n9_; have NB115_130 := n10_; have NB130_115 := n11_; have NB121_130 := n12_; have NB130_121 := n13_; clear n0_ n1_ n2_ n3_ n4_ n5_ n6_ n7_ n8_ n9_ n10_ n11_ n12_ n13_; clear hb hbox hg; have hnb44 := NB130_106.out; have hnc44 := NB106_130.out; have hnb45 := NB130_115.out; have hnc45 := NB115_130.out; have hnb46 := NB130_121.out; have hnc46 := NB121_130.out; have hcz47_0 : w43.cell? ⟨gb130, 0, none⟩ = some (.int .i64 0) := (blk_cell BK130.out 0).trans rfl; have hcz47_1 : w43.cell? ⟨gb130, 1, none⟩ = some (.int .u64 0) := (blk_cell BK130.out 1).trans rfl; have hcz47_2 : w43.cell? ⟨gb130, 2, none⟩ = some (.int .u64 0) := (blk_cell BK130.out 2).trans rfl; have hcz47_3 : w43.cell? ⟨gb130, 3, none⟩ = some (.int .i64 0) := (blk_cell BK130.out 3).trans rfl; have hfz47_0 := blk_frozen BK130.out 0; have hfz47_1 := blk_frozen BK130.out 1; have hfz47_2 := blk_frozen BK130.out 2; have hfz47_3 := blk_frozen BK130.out 3; have hcz48_0 : w43.cell? ⟨gb115, 0, none⟩ = some (.int .i64 t110) := (blk_cell BK115.out 0).trans rfl; have hcz48_1 : w43.cell? ⟨gb115, 1, none⟩ = some (.int .u64 t111) := (blk_cell BK115.out 1).trans rfl; have hcz48_2 : w43.cell? ⟨gb115, 2, none⟩ = some (.int .u64 t112) := (blk_cell BK115.out 2).trans rfl; have hcz48_3 : w43.cell? ⟨gb115, 3, none⟩ = some (.int .i64 t113) := (blk_cell BK115.out 3).trans rfl; have hfz48_0 := blk_frozen BK115.out 0; have hfz48_1 := blk_frozen BK115.out 1; have hfz48_2 := blk_frozen BK115.out 2; have hfz48_3 := blk_frozen BK115.out 3; have hcz49_0 : w43.cell? ⟨gb106, 0, none⟩ = some (.int .i64 a0_0) := (blk_cell BK106.out 0).trans rfl; have hcz49_1 : w43.cell? ⟨gb106, 1, none⟩ = some (.int .u64 a0_1) := (blk_cell BK106.out 1).trans rfl; have hcz49_2 : w43.cell? ⟨gb106, 2, none⟩ = some (.int .u64 a0_2) := (blk_cell BK106.out 2).trans rfl; have hcz49_3 : w43.cell? ⟨gb106, 3, none⟩ = some (.int .i64 a0_3) := (blk_cell BK106.out 3).trans rfl; have hfz49_0 := blk_frozen BK106.out 0; have hfz49_1 := blk_frozen BK106.out 1; have hfz49_2 := blk_frozen BK106.out 2; have hfz49_3 := blk_frozen BK106.out 3))
                            go_meet
                            case rel => exact ⟨_, H', ⟨by have := HJ4.out; first | omega | exact Nat.le_refl _⟩, ⟨by (with_reducible repeat (first | refine blk_drewN ?_ _ | refine blk_drew ?_ | refine blk_alloc ?_ _)); refine blk_far ?_ NB106_130.out _; (with_reducible repeat (first | refine blk_drewN ?_ _ | refine blk_drew ?_ | refine blk_alloc ?_ _)); refine blk_far ?_ NB106_130.out _; (with_reducible repeat (first | refine blk_drewN ?_ _ | refine blk_drew ?_ | refine blk_alloc ?_ _)); refine blk_far ?_ NB106_130.out _; (with_reducible repeat (first | refine blk_drewN ?_ _ | refine blk_drew ?_ | refine blk_alloc ?_ _)); refine blk_far ?_ NB106_130.out _; (with_reducible repeat (first | refine blk_drewN ?_ _ | refine blk_drew ?_ | refine blk_alloc ?_ _)); exact BK106.out⟩, ⟨by repeat (first | (with_reducible first | exact HB.out | apply below_alloc | apply pw_below_drewN | apply below_drew1 | refine below_set ?_ GE106.out | refine below_set ?_ GE115.out | refine below_set ?_ GE121.out | refine below_set ?_ GE130.out) | exact HB.out)⟩⟩
                          · rw [if_neg c29] at H
                            have c29b0 : (t129 == 3) = false := beq_eq_false_iff_ne.mpr c29
                            have c29b1 : (t129 != 3) = true := bne_iff_ne.mpr c29
                            rw [hrT.out] at H
                            exact absurd H (by simp)
                        · rw [if_neg c28] at H
                          have c28b0 : (t120 == 3) = false := beq_eq_false_iff_ne.mpr c28
                          have c28b1 : (t120 != 3) = true := bne_iff_ne.mpr c28
                          rw [hrT.out] at H
                          exact absurd H (by simp)
                      · rw [if_neg c27] at H
                        have c27b0 : (t114 == 0) = false := beq_eq_false_iff_ne.mpr c27
                        have c27b1 : (t114 != 0) = true := bne_iff_ne.mpr c27
                        rw [hrT.out] at H
                        exact absurd H (by simp)
                  · rw [if_neg c24] at H
                    exact absurd H (by simp)
                · rw [if_neg c22] at H
                  exact absurd H (by simp)
              · rw [if_neg c21] at H
                exact absurd H (by simp)
          case rest =>
            clear HC13
            try clear c1
            try clear c2
            try clear p2
            try clear c3
            try clear c4
            try clear hcv4
            try clear c6
            try clear p6
            try clear c8
            try clear c9
            try clear c10
            try clear c12
            try clear c12b0
            try clear c12b1
            try clear c12b2
            try clear c14
            try clear c18
            try clear c18b0
            try clear c18b1
            try clear c21
            try clear c21b0
            try clear c21b1
            try clear c22
            try clear c22b0
            try clear c22b1
            try clear c24
            try clear c24b0
            try clear c24b1
            try clear c24b2
            try clear c26
            try clear c26b0
            try clear c27
            try clear c27b0
            try clear c27b1
            try clear c28
            try clear c28b0
            try clear c28b1
            try clear c29
            try clear c29b0
            try clear c29b1
            try clear c32
            try clear c36
            try clear c37
            try clear hcv41
            try clear c44
            try clear c45
            try clear c46
            try clear hcz14_0
            try clear hcz14_1
            try clear hcz14_2
            try clear hcz14_3
            try clear hcz16_0
            try clear hcz16_1
            try clear hcz16_2
            try clear hcz16_3
            try clear hcz33_0
            try clear hcz33_1
            try clear hcz33_2
            try clear hcz33_3
            try clear hcz38_0
            try clear hcz38_1
            try clear hcz38_2
            try clear hcz38_3
            try clear hcz47_0
            try clear hcz47_1
            try clear hcz47_2
            try clear hcz47_3
            try clear hcz48_0
            try clear hcz48_1
            try clear hcz48_2
            try clear hcz48_3
            try clear hcz49_0
            try clear hcz49_1
            try clear hcz49_2
            try clear hcz49_3
            try clear hfz14_0
            try clear hfz14_1
            try clear hfz14_2
            try clear hfz14_3
            try clear hfz16_0
            try clear hfz16_1
            try clear hfz16_2
            try clear hfz16_3
            try clear hfz33_0
            try clear hfz33_1
            try clear hfz33_2
            try clear hfz33_3
            try clear hfz38_0
            try clear hfz38_1
            try clear hfz38_2
            try clear hfz38_3
            try clear hfz47_0
            try clear hfz47_1
            try clear hfz47_2
            try clear hfz47_3
            try clear hfz48_0
            try clear hfz48_1
            try clear hfz48_2
            try clear hfz48_3
            try clear hfz49_0
            try clear hfz49_1
            try clear hfz49_2
            try clear hfz49_3
            try clear p2
            obtain ⟨kq, HA, HJ12, BK106, HB⟩ := hcut
            cases kq with
            | zero => exact absurd HA.out (by simp [shellgamelaw17_OpBack.j1])
            | succ kj12 =>
              have H := HA.out
              clear HA
              simp only [shellgamelaw17_OpBack.j1] at H
              replace H := Option.bind_eq_some_iff.mp H
              obtain ⟨⟨t131, t132, t133, t134, t135⟩, A500, H⟩ := H
              replace H : (if t135 = 0 then ((op_Right.f t131 t132 t133 t134).bind fun t137 => (if t137 = true then ((op_Bytes.f t131 t132 t133 t134).bind fun t138 => (some (t138.toList == a1.toList))) else (some false))) else (some (t131 == 0 && (t132 == 0 && (t133 == 0 && (t134 == 0)))))) = some r := H
              have A50 := Aside0.mk A500
              clear A500
              by_cases c51 : t135 = 0
              · rw [if_pos c51] at H
                have c51b0 : (t135 == 0) = true := beq_iff_eq.mpr c51
                have c51b1 : (t135 != 0) = false := bne_eq_false_iff_eq.mpr c51
                clear c51
                replace H := Option.bind_eq_some_iff.mp H
                obtain ⟨t137, A520, H⟩ := H
                replace H : (if t137 = true then ((op_Bytes.f t131 t132 t133 t134).bind fun t138 => (some (t138.toList == a1.toList))) else (some false)) = some r := H
                have A52 := Aside0.mk A520
                clear A520
                by_cases c53 : t137 = true
                · subst c53
                  have H1 : ((op_Bytes.f t131 t132 t133 t134).bind fun t138 => (some (t138.toList == a1.toList))) = some r := by rw [if_pos rfl] at H; exact H
                  clear H
                  have H := H1
                  clear H1
                  replace H := Option.bind_eq_some_iff.mp H
                  obtain ⟨t138, A540, H⟩ := H
                  replace H : (some (t138.toList == a1.toList)) = some r := H
                  have A54 := Aside0.mk A540
                  clear A540
                  obtain rfl := Option.some.inj H
                  go_wp2_with (first | ((with_reducible refine gate_callee (f := 12) rfl ?_); refine goesL_ (some 75) rfl rfl Try.func12 (by kernel_rfl) rfl #[.string a1] rfl (by (try simp only [List.map_toArray, List.map_cons, List.map_nil]); first | done | rfl | (simp only [List.length_drop, List.length_take]; rfl)) ?_; (with_reducible refine (op_Parse.calls a1 t131 t132 t133 t134 t135 _ A50.out).mono ?_); rintro e w55 ⟨rfl, hb⟩; refine ⟨_, rfl, ?_⟩; have n0_ := Aside0.mk (blk_below (g := gb106) (o := .cells #[.int .i64 a0_0, .int .u64 a0_1, .int .u64 a0_2, .int .i64 a0_3] 27 (0, 0)) (by (with_reducible repeat (first | refine blk_drewN ?_ _ | refine blk_drew ?_ | refine blk_alloc ?_ _)); exact BK106.out) hb); have n1_ := Aside0.mk (below_step (by repeat (first | (with_reducible first | exact HB.out | apply below_alloc | apply pw_below_drewN | apply below_drew1 | refine below_set ?_ GE106.out) | exact HB.out)) hb); clear BK106; clear HB; have BK106 := n0_; have HB := n1_; clear n0_ n1_; (try clear hb); (try clear hb2); (try clear hk); (try clear hi)) | ((with_reducible refine gate_dst (N := 15) rfl ?_); (try (refine gate_guard (by rfl) ?_; dsimp only)); refine box_event ?hg (N := 15) ?hd (cs := #[.int .i64 0, .int .u64 0, .int .u64 0, .int .i64 0]) (t := 27) ?hr ?_; (case hd => rfl); (case hg => rfl); (case hr => first | (go_simp; done) | (go_simp; rfl)); intro gb136 hg w56 hbox hb; have n0_ := Aside0.mk (blk_below (g := gb106) (o := .cells #[.int .i64 a0_0, .int .u64 a0_1, .int .u64 a0_2, .int .i64 a0_3] 27 (0, 0)) (by (with_reducible repeat (first | refine blk_drewN ?_ _ | refine blk_drew ?_ | refine blk_alloc ?_ _)); exact BK106.out) hb); have n1_ := Aside0.mk (below_step (by repeat (first | (with_reducible first | exact HB.out | apply below_alloc | apply pw_below_drewN | apply below_drew1 | refine below_set ?_ GE106.out) | exact HB.out)) hb); have n2_ := Aside0.mk (hbox); have n3_ := Aside0.mk ((by rw [hg]; exact (below_size (by repeat (first | (with_reducible first | exact HB.out | apply below_alloc | apply pw_below_drewN | apply below_drew1 | refine below_set ?_ GE106.out) | exact HB.out))) : w.heap.size ≤ gb136)); have n4_ := Aside0.mk ((by rw [hg]; exact (below_size (by repeat (first | (with_reducible first | exact HB.out | apply below_alloc | apply pw_below_drewN | apply below_drew1 | refine below_set ?_ GE106.out) | exact HB.out))) : w.heap.size ≤ gb136)); have n5_ := Aside0.mk ((by rw [hg]; exact Nat.ne_of_lt (blk_lt (g := gb106) (o := .cells #[.int .i64 a0_0, .int .u64 a0_1, .int .u64 a0_2, .int .i64 a0_3] 27 (0, 0)) (by (with_reducible repeat (first | refine blk_drewN ?_ _ | refine blk_drew ?_ | refine blk_alloc ?_ _)); exact BK106.out)) : gb106 ≠ gb136)); have n6_ := Aside0.mk ((by rw [hg]; exact Nat.ne_of_gt (blk_lt (g := gb106) (o := .cells #[.int .i64 a0_0, .int .u64 a0_1, .int .u64 a0_2, .int .i64 a0_3] 27 (0, 0)) (by (with_reducible repeat (first | refine blk_drewN ?_ _ | refine blk_drew ?_ | refine blk_alloc ?_ _)); exact BK106.out)) : gb136 ≠ gb106)); clear BK106; clear HB; have BK106 := n0_; have HB := n1_; have BK136 := n2_; have GW136 := n3_; have GE136 := n4_; have NB106_136 := n5_; have NB136_106 := n6_; clear n0_ n1_ n2_ n3_ n4_ n5_ n6_; clear hb hbox hg; have hnb57 := NB136_106.out; have hnc57 := NB106_136.out; have hcz58_0 : w56.cell? ⟨gb136, 0, none⟩ = some (.int .i64 0) := (blk_cell BK136.out 0).trans rfl; have hcz58_1 : w56.cell? ⟨gb136, 1, none⟩ = some (.int .u64 0) := (blk_cell BK136.out 1).trans rfl; have hcz58_2 : w56.cell? ⟨gb136, 2, none⟩ = some (.int .u64 0) := (blk_cell BK136.out 2).trans rfl; have hcz58_3 : w56.cell? ⟨gb136, 3, none⟩ = some (.int .i64 0) := (blk_cell BK136.out 3).trans rfl; have hfz58_0 := blk_frozen BK136.out 0; have hfz58_1 := blk_frozen BK136.out 1; have hfz58_2 := blk_frozen BK136.out 2; have hfz58_3 := blk_frozen BK136.out 3) | ((with_reducible refine gate_callee (f := 14) rfl ?_); refine goesL_ (some 84) rfl rfl Try.func14 (by kernel_rfl) rfl #[.agg #[.int .i64 t131, .int .u64 t132, .int .u64 t133, .int .i64 t134]] rfl (by (try simp only [List.map_toArray, List.map_cons, List.map_nil]); first | done | rfl | (simp only [List.length_drop, List.length_take]; rfl)) ?_; (with_reducible refine (op_Right.calls t131 t132 t133 t134 true _ A52.out).mono ?_); rintro e w59 ⟨rfl, hb⟩; refine ⟨_, rfl, ?_⟩; have n0_ := Aside0.mk (blk_below (g := gb106) (o := .cells #[.int .i64 a0_0, .int .u64 a0_1, .int .u64 a0_2, .int .i64 a0_3] 27 (0, 0)) (by (with_reducible repeat (first | refine blk_drewN ?_ _ | refine blk_drew ?_ | refine blk_alloc ?_ _)); refine blk_far ?_ NB106_136.out _; (with_reducible repeat (first | refine blk_drewN ?_ _ | refine blk_drew ?_ | refine blk_alloc ?_ _)); refine blk_far ?_ NB106_136.out _; (with_reducible repeat (first | refine blk_drewN ?_ _ | refine blk_drew ?_ | refine blk_alloc ?_ _)); refine blk_far ?_ NB106_136.out _; (with_reducible repeat (first | refine blk_drewN ?_ _ | refine blk_drew ?_ | refine blk_alloc ?_ _)); refine blk_far ?_ NB106_136.out _; (with_reducible repeat (first | refine blk_drewN ?_ _ | refine blk_drew ?_ | refine blk_alloc ?_ _)); exact BK106.out) hb); have n1_ := Aside0.mk (blk_below (g := gb136) (o := .cells #[.int .i64 t131, .int .u64 t132, .int .u64 t133, .int .i64 t134] 27 (0, 0)) (by (with_reducible repeat (first | refine blk_drewN ?_ _ | refine blk_drew ?_ | refine blk_alloc ?_ _)); refine blk_put (cs := #[.int .i64 t131, .int .u64 t132, .int .u64 t133, .int .i64 0]) ?_ 3 _ rfl; (with_reducible repeat (first | refine blk_drewN ?_ _ | refine blk_drew ?_ | refine blk_alloc ?_ _)); refine blk_put (cs := #[.int .i64 t131, .int .u64 t132, .int .u64 0, .int .i64 0]) ?_ 2 _ rfl; (with_reducible repeat (first | refine blk_drewN ?_ _ | refine blk_drew ?_ | refine blk_alloc ?_ _)); refine blk_put (cs := #[.int .i64 t131, .int .u64 0, .int .u64 0, .int .i64 0]) ?_ 1 _ rfl; (with_reducible repeat (first | refine blk_drewN ?_ _ | refine blk_drew ?_ | refine blk_alloc ?_ _)); refine blk_put (cs := #[.int .i64 0, .int .u64 0, .int .u64 0, .int .i64 0]) ?_ 0 _ rfl; (with_reducible repeat (first | refine blk_drewN ?_ _ | refine blk_drew ?_ | refine blk_alloc ?_ _)); exact BK136.out) hb); have n2_ := Aside0.mk (below_step (by repeat (first | (with_reducible first | exact HB.out | apply below_alloc | apply pw_below_drewN | apply below_drew1 | refine below_set ?_ GE106.out | refine below_set ?_ GE136.out) | exact HB.out)) hb); clear BK106; clear BK136; clear HB; have BK106 := n0_; have BK136 := n1_; have HB := n2_; clear n0_ n1_ n2_; (try clear hb); (try clear hb2); (try clear hk); (try clear hi); have hcz60_0 : w59.cell? ⟨gb136, 0, none⟩ = some (.int .i64 t131) := (blk_cell BK136.out 0).trans rfl; have hcz60_1 : w59.cell? ⟨gb136, 1, none⟩ = some (.int .u64 t132) := (blk_cell BK136.out 1).trans rfl; have hcz60_2 : w59.cell? ⟨gb136, 2, none⟩ = some (.int .u64 t133) := (blk_cell BK136.out 2).trans rfl; have hcz60_3 : w59.cell? ⟨gb136, 3, none⟩ = some (.int .i64 t134) := (blk_cell BK136.out 3).trans rfl; have hfz60_0 := blk_frozen BK136.out 0; have hfz60_1 := blk_frozen BK136.out 1; have hfz60_2 := blk_frozen BK136.out 2; have hfz60_3 := blk_frozen BK136.out 3) | (go_at_call 10; (with_reducible refine (op_Bytes.calls t131 t132 t133 t134 t138 _ A54.out).mono ?_); rintro e w61 ⟨rfl, hb⟩; have n0_ := Aside0.mk (blk_below (g := gb106) (o := .cells #[.int .i64 a0_0, .int .u64 a0_1, .int .u64 a0_2, .int .i64 a0_3] 27 (0, 0)) (by (with_reducible repeat (first | refine blk_drewN ?_ _ | refine blk_drew ?_ | refine blk_alloc ?_ _)); exact BK106.out) hb); have n1_ := Aside0.mk (blk_below (g := gb136) (o := .cells #[.int .i64 t131, .int .u64 t132, .int .u64 t133, .int .i64 t134] 27 (0, 0)) (by (with_reducible repeat (first | refine blk_drewN ?_ _ | refine blk_drew ?_ | refine blk_alloc ?_ _)); exact BK136.out) hb); have n2_ := Aside0.mk (below_step (by repeat (first | (with_reducible first | exact HB.out | apply below_alloc | apply pw_below_drewN | apply below_drew1 | refine below_set ?_ GE106.out | refine below_set ?_ GE136.out) | exact HB.out)) hb); clear BK106; clear BK136; clear HB; have BK106 := n0_; have BK136 := n1_; have HB := n2_; clear n0_ n1_ n2_; (try clear hb); (try clear hb2); (try clear hk); (try clear hi)))
                  go_ret
                  exact ⟨by first | rfl | (simp [errW_none, errW_some] <;> rfl) | (simp [*, errW_none, errW_some] <;> rfl), by repeat (first | (with_reducible first | exact HB.out | apply below_alloc | apply pw_below_drewN | apply below_drew1 | refine below_set ?_ GE106.out | refine below_set ?_ GE136.out) | exact HB.out)⟩
                · replace c53 := Bool.eq_false_iff.mpr c53
                  subst c53
                  have H1 : (some false) = some r := by rw [if_neg (show ¬ (false = true) by decide)] at H; exact H
                  clear H
                  have H := H1
                  clear H1
                  rw [hrT.out] at H
                  exact absurd H (by simp)
              · rw [if_neg c51] at H
                have c51b0 : (t135 == 0) = false := beq_eq_false_iff_ne.mpr c51
                have c51b1 : (t135 != 0) = true := bne_iff_ne.mpr c51
                obtain rfl := Option.some.inj H
                go_wp2_with (first | ((with_reducible refine gate_callee (f := 12) rfl ?_); refine goesL_ (some 75) rfl rfl Try.func12 (by kernel_rfl) rfl #[.string a1] rfl (by (try simp only [List.map_toArray, List.map_cons, List.map_nil]); first | done | rfl | (simp only [List.length_drop, List.length_take]; rfl)) ?_; (with_reducible refine (op_Parse.calls a1 t131 t132 t133 t134 t135 _ A50.out).mono ?_); rintro e w62 ⟨rfl, hb⟩; refine ⟨_, rfl, ?_⟩; have n0_ := Aside0.mk (blk_below (g := gb106) (o := .cells #[.int .i64 a0_0, .int .u64 a0_1, .int .u64 a0_2, .int .i64 a0_3] 27 (0, 0)) (by (with_reducible repeat (first | refine blk_drewN ?_ _ | refine blk_drew ?_ | refine blk_alloc ?_ _)); exact BK106.out) hb); have n1_ := Aside0.mk (below_step (by repeat (first | (with_reducible first | exact HB.out | apply below_alloc | apply pw_below_drewN | apply below_drew1 | refine below_set ?_ GE106.out) | exact HB.out)) hb); clear BK106; clear HB; have BK106 := n0_; have HB := n1_; clear n0_ n1_; (try clear hb); (try clear hb2); (try clear hk); (try clear hi)) | ((with_reducible refine gate_dst (N := 15) rfl ?_); (try (refine gate_guard (by rfl) ?_; dsimp only)); refine box_event ?hg (N := 15) ?hd (cs := #[.int .i64 0, .int .u64 0, .int .u64 0, .int .i64 0]) (t := 27) ?hr ?_; (case hd => rfl); (case hg => rfl); (case hr => first | (go_simp; done) | (go_simp; rfl)); intro gb136 hg w63 hbox hb; have n0_ := Aside0.mk (blk_below (g := gb106) (o := .cells #[.int .i64 a0_0, .int .u64 a0_1, .int .u64 a0_2, .int .i64 a0_3] 27 (0, 0)) (by (with_reducible repeat (first | refine blk_drewN ?_ _ | refine blk_drew ?_ | refine blk_alloc ?_ _)); exact BK106.out) hb); have n1_ := Aside0.mk (below_step (by repeat (first | (with_reducible first | exact HB.out | apply below_alloc | apply pw_below_drewN | apply below_drew1 | refine below_set ?_ GE106.out) | exact HB.out)) hb); have n2_ := Aside0.mk (hbox); have n3_ := Aside0.mk ((by rw [hg]; exact (below_size (by repeat (first | (with_reducible first | exact HB.out | apply below_alloc | apply pw_below_drewN | apply below_drew1 | refine below_set ?_ GE106.out) | exact HB.out))) : w.heap.size ≤ gb136)); have n4_ := Aside0.mk ((by rw [hg]; exact (below_size (by repeat (first | (with_reducible first | exact HB.out | apply below_alloc | apply pw_below_drewN | apply below_drew1 | refine below_set ?_ GE106.out) | exact HB.out))) : w.heap.size ≤ gb136)); have n5_ := Aside0.mk ((by rw [hg]; exact Nat.ne_of_lt (blk_lt (g := gb106) (o := .cells #[.int .i64 a0_0, .int .u64 a0_1, .int .u64 a0_2, .int .i64 a0_3] 27 (0, 0)) (by (with_reducible repeat (first | refine blk_drewN ?_ _ | refine blk_drew ?_ | refine blk_alloc ?_ _)); exact BK106.out)) : gb106 ≠ gb136)); have n6_ := Aside0.mk ((by rw [hg]; exact Nat.ne_of_gt (blk_lt (g := gb106) (o := .cells #[.int .i64 a0_0, .int .u64 a0_1, .int .u64 a0_2, .int .i64 a0_3] 27 (0, 0)) (by (with_reducible repeat (first | refine blk_drewN ?_ _ | refine blk_drew ?_ | refine blk_alloc ?_ _)); exact BK106.out)) : gb136 ≠ gb106)); clear BK106; clear HB; have BK106 := n0_; have HB := n1_; have BK136 := n2_; have GW136 := n3_; have GE136 := n4_; have NB106_136 := n5_; have NB136_106 := n6_; clear n0_ n1_ n2_ n3_ n4_ n5_ n6_; clear hb hbox hg; have hnb64 := NB136_106.out; have hnc64 := NB106_136.out; have hcz65_0 : w63.cell? ⟨gb136, 0, none⟩ = some (.int .i64 0) := (blk_cell BK136.out 0).trans rfl; have hcz65_1 : w63.cell? ⟨gb136, 1, none⟩ = some (.int .u64 0) := (blk_cell BK136.out 1).trans rfl; have hcz65_2 : w63.cell? ⟨gb136, 2, none⟩ = some (.int .u64 0) := (blk_cell BK136.out 2).trans rfl; have hcz65_3 : w63.cell? ⟨gb136, 3, none⟩ = some (.int .i64 0) := (blk_cell BK136.out 3).trans rfl; have hfz65_0 := blk_frozen BK136.out 0; have hfz65_1 := blk_frozen BK136.out 1; have hfz65_2 := blk_frozen BK136.out 2; have hfz65_3 := blk_frozen BK136.out 3))
                go_ret
                exact ⟨by first | rfl | (simp [errW_none, errW_some] <;> rfl) | (simp [*, errW_none, errW_some] <;> rfl), by repeat (first | (with_reducible first | exact HB.out | apply below_alloc | apply pw_below_drewN | apply below_drew1 | refine below_set ?_ GE106.out | refine below_set ?_ GE136.out) | exact HB.out)⟩

/-- THE ONE PURE STATEMENT of shellgamelaw17_OpBack: yours. -/
def shellgamelaw17_OpBack.Pure : Prop := ∀ (a0_0 : Int) (a0_1 : Int) (a0_2 : Int) (a0_3 : Int) (a1 : ByteArray) (a2 : Int), (Lit.int .i64 a0_0).wf = true → (Lit.int .u64 a0_1).wf = true → (Lit.int .u64 a0_2).wf = true → (Lit.int .i64 a0_3).wf = true → a1.size ≤ 140737488351232 → (Lit.int .u8 a2).wf = true → ∃ k, shellgamelaw17_OpBack.f k a0_0 a0_1 a0_2 a0_3 a1 a2 = some true
theorem shellgamelaw17_OpBack.walk (P : shellgamelaw17_OpBack.Pure) (a0_0 : Int) (a0_1 : Int) (a0_2 : Int) (a0_3 : Int) (a1 : ByteArray) (a2 : Int) (w : World) (w0_0 : (Lit.int .i64 a0_0).wf = true) (w0_1 : (Lit.int .u64 a0_1).wf = true) (w0_2 : (Lit.int .u64 a0_2).wf = true) (w0_3 : (Lit.int .i64 a0_3).wf = true) (w1 : a1.size ≤ 140737488351232) (w2 : (Lit.int .u8 a2).wf = true) :
    Calls Try.prog 6 #[.agg #[.int .i64 a0_0, .int .u64 a0_1, .int .u64 a0_2, .int .i64 a0_3], .string a1, .int .u8 a2] w fun e w' => e = .returned (.bool true) ∧ Below w.heap.size w w' := by
  obtain ⟨k, h⟩ := P a0_0 a0_1 a0_2 a0_3 a1 a2 w0_0 w0_1 w0_2 w0_3 w1 w2
  refine (shellgamelaw17_OpBack.calls k a0_0 a0_1 a0_2 a0_3 a1 a2 true w ⟨rfl⟩ h).mono ?_
  rintro e w' ⟨rfl, hd⟩
  exact ⟨rfl, hd⟩

end Go.Proofs.Ytinfbkfdkpjdiaa.POpBack
