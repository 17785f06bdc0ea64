/- The contract of op.Right: whether an operation is right; nothing that lay in memory is changed. No condition but that its words are uint64s. -/
import Derived.Test.YtinfbkfdkpjdiaaRefText
import Derived.Test.YtinfbkfdkpjdiaaArrays
import Derived.Test.YtinfbkfdkpjdiaaWEqStruct
import Derived.Laws.NewBlocks
namespace Go.Proofs.Ytinfbkfdkpjdiaa.Hand
open Go.RowKit Go.Proofs.YtinfbkfdkpjdiaaW.PrintWords Go.Proofs.YtinfbkfdkpjdiaaW.PrintLast Go.Proofs.YtinfbkfdkpjdiaaW.PrintMore
set_option linter.unusedVariables false

theorem eqOp (d : Nat) (w : World) (x0 y0 x1 y1 x2 y2 x3 y3 : Int) :
    (Op.equalIn (d + 2) 27 (.agg #[.int .i64 x0, .int .u64 x1, .int .u64 x2, .int .i64 x3]) (.agg #[.int .i64 y0, .int .u64 y1, .int .u64 y2, .int .i64 y3])).run Try.prog w = .ok (x0 == y0 && (x1 == y1 && (x2 == y2 && (x3 == y3)))) w := by
  refine eqA_of Try.underlying27 (by kernel_rfl) ?_
  refine eqf_cons (by rfl) (by go_simp; rfl) (by go_simp; rfl) (by go_simp) ?_
  refine eqf_cons (by rfl) (by go_simp; rfl) (by go_simp; rfl) (by go_simp) ?_
  refine eqf_cons (by rfl) (by go_simp; rfl) (by go_simp; rfl) (by go_simp) ?_
  exact eqf_last (by rfl) (by go_simp; rfl) (by go_simp; rfl) (by go_simp)
attribute [local go_sem high] eqOp


set_option maxHeartbeats 2000000 in
set_option maxRecDepth 100000 in
theorem right_put (key v f : Int) (w : World) (rk rv : Bool) (HK : ∀ w, Calls Try.prog 31 #[.int .u64 key] w fun e w' => e = .returned (.bool rk) ∧ Below w.heap.size w w') (HV : ∀ w, Calls Try.prog 31 #[.int .u64 v] w fun e w' => e = .returned (.bool rv) ∧ Below w.heap.size w w') (r : Bool) (hr : Aside (r = (decide (0 ≤ f) && decide (f ≤ 65535) && (rk && rv)))) :
    Calls Try.prog 14 #[.agg #[.int .i64 3, .int .u64 key, .int .u64 v, .int .i64 f]] w fun e w' => e = .returned (.bool r) ∧ Below w.heap.size w w' := by
  have HK' := Lib.hid HK
  have HV' := Lib.hid HV
  clear HK HV
  cases rk
  all_goals
    go_enter Try.func14, Try.ntmps14
    go_wp2_with (go_at_call 31; first
      | (with_reducible refine (HK'.out _).mono ?_; rintro e w1 ⟨rfl, hb1⟩; have c2 : w1.cell? ⟨w.heap.size, 2, none⟩ = some (.int .u64 v) := (hb1.cell (by simp; omega)).trans (by go_simp))
      | (with_reducible refine (HV'.out _).mono ?_; rintro e w2 ⟨rfl, hb2⟩))
    all_goals
      go_ret
      refine ⟨?_, ?_⟩
      · show Ending.returned (.bool _) = _
        rw [hr.out]
        first | rfl | (simp [*]; done) | (simp [*]; omega)
      · first
        | exact ((Below.refl w.heap.size w).alloc (Nat.le_refl _) _).alloc (by simp) _
        | exact (((Below.refl w.heap.size w).alloc (Nat.le_refl _) _).alloc (by simp) _).trans (hb1.mono (by simp; omega))
        | exact ((((Below.refl w.heap.size w).alloc (Nat.le_refl _) _).alloc (by simp) _).trans (hb1.mono (by simp; omega))).trans (hb2.mono (by have := hb1.size; simp at this; omega))
set_option maxHeartbeats 2000000 in
set_option maxRecDepth 100000 in
theorem right_key (o : Int) (ho : o = 1 ∨ o = 2 ∨ o = 4) (key v f : Int) (w : World) (rk rv : Bool) (HK : ∀ w, Calls Try.prog 31 #[.int .u64 key] w fun e w' => e = .returned (.bool rk) ∧ Below w.heap.size w w') (HV : ∀ w, Calls Try.prog 31 #[.int .u64 v] w fun e w' => e = .returned (.bool rv) ∧ Below w.heap.size w w') (r : Bool) (hr : Aside (r = ((v == 0) && (f == 0) && (rk && rv)))) :
    Calls Try.prog 14 #[.agg #[.int .i64 o, .int .u64 key, .int .u64 v, .int .i64 f]] w fun e w' => e = .returned (.bool r) ∧ Below w.heap.size w w' := by
  have HK' := Lib.hid HK
  have HV' := Lib.hid HV
  clear HK HV
  have cv : (v == 0) = true ∨ (v == 0) = false := by cases v == 0 <;> simp
  have cf : f = 0 ∨ (f == 0) = false := by by_cases c : f = 0 <;> simp [c]
  obtain rfl | rfl | rfl := ho
  all_goals
    obtain cv | cv := cv
    · obtain rfl | cf := cf
      · cases rk
        all_goals
          go_enter Try.func14, Try.ntmps14
          go_wp2_with (go_at_call 31; first
            | (with_reducible refine (HK'.out _).mono ?_; rintro e w1 ⟨rfl, hb1⟩; have c2 : w1.cell? ⟨w.heap.size, 2, none⟩ = some (.int .u64 v) := (hb1.cell (by simp; omega)).trans (by go_simp))
            | (with_reducible refine (HV'.out _).mono ?_; rintro e w2 ⟨rfl, hb2⟩))
          all_goals
            go_ret
            refine ⟨?_, ?_⟩
            · show Ending.returned (.bool _) = _
              rw [hr.out]
              simp [*]
            · first
              | exact (((Below.refl w.heap.size w).alloc (Nat.le_refl _) _).alloc (by simp) _).trans (hb1.mono (by simp; omega))
              | exact ((((Below.refl w.heap.size w).alloc (Nat.le_refl _) _).alloc (by simp) _).trans (hb1.mono (by simp; omega))).trans (hb2.mono (by have := hb1.size; simp at this; omega))
      · go_enter Try.func14, Try.ntmps14
        go_wp2
        go_ret
        refine ⟨?_, ((Below.refl w.heap.size w).alloc (Nat.le_refl _) _).alloc (by simp) _⟩
        show Ending.returned (.bool _) = _
        rw [hr.out]
        simp [*]
    · go_enter Try.func14, Try.ntmps14
      go_wp2
      go_ret
      refine ⟨?_, ((Below.refl w.heap.size w).alloc (Nat.le_refl _) _).alloc (by simp) _⟩
      show Ending.returned (.bool _) = _
      rw [hr.out]
      simp [*]
set_option maxHeartbeats 2000000 in
set_option maxRecDepth 100000 in
theorem right_len (key v f : Int) (w : World) (rk rv : Bool) (HK : ∀ w, Calls Try.prog 31 #[.int .u64 key] w fun e w' => e = .returned (.bool rk) ∧ Below w.heap.size w w') (HV : ∀ w, Calls Try.prog 31 #[.int .u64 v] w fun e w' => e = .returned (.bool rv) ∧ Below w.heap.size w w') (r : Bool) (hr : Aside (r = ((key == 0) && (v == 0) && (f == 0) && (rk && rv)))) :
    Calls Try.prog 14 #[.agg #[.int .i64 5, .int .u64 key, .int .u64 v, .int .i64 f]] w fun e w' => e = .returned (.bool r) ∧ Below w.heap.size w w' := by
  have HK' := Lib.hid HK
  have HV' := Lib.hid HV
  clear HK HV
  have ck : (key == 0) = true ∨ (key == 0) = false := by cases key == 0 <;> simp
  have cv : (v == 0) = true ∨ (v == 0) = false := by cases v == 0 <;> simp
  have cf : f = 0 ∨ (f == 0) = false := by by_cases c : f = 0 <;> simp [c]
  obtain ck | ck := ck
  · obtain cv | cv := cv
    · obtain rfl | cf := cf
      · cases rk
        all_goals
          go_enter Try.func14, Try.ntmps14
          go_wp2_with (go_at_call 31; first
            | (with_reducible refine (HK'.out _).mono ?_; rintro e w1 ⟨rfl, hb1⟩; have c2 : w1.cell? ⟨w.heap.size, 2, none⟩ = some (.int .u64 v) := (hb1.cell (by simp; omega)).trans (by go_simp))
            | (with_reducible refine (HV'.out _).mono ?_; rintro e w2 ⟨rfl, hb2⟩))
          all_goals
            go_ret
            refine ⟨?_, ?_⟩
            · show Ending.returned (.bool _) = _
              rw [hr.out]
              simp [*]
            · first
              | exact (((Below.refl w.heap.size w).alloc (Nat.le_refl _) _).alloc (by simp) _).trans (hb1.mono (by simp; omega))
              | exact ((((Below.refl w.heap.size w).alloc (Nat.le_refl _) _).alloc (by simp) _).trans (hb1.mono (by simp; omega))).trans (hb2.mono (by have := hb1.size; simp at this; omega))
      · go_enter Try.func14, Try.ntmps14
        go_wp2
        go_ret
        refine ⟨?_, ((Below.refl w.heap.size w).alloc (Nat.le_refl _) _).alloc (by simp) _⟩
        show Ending.returned (.bool _) = _
        rw [hr.out]
        simp [*]
    · go_enter Try.func14, Try.ntmps14
      go_wp2
      go_ret
      refine ⟨?_, ((Below.refl w.heap.size w).alloc (Nat.le_refl _) _).alloc (by simp) _⟩
      show Ending.returned (.bool _) = _
      rw [hr.out]
      simp [*]
  · go_enter Try.func14, Try.ntmps14
    go_wp2
    go_ret
    refine ⟨?_, ((Below.refl w.heap.size w).alloc (Nat.le_refl _) _).alloc (by simp) _⟩
    show Ending.returned (.bool _) = _
    rw [hr.out]
    simp [*]
set_option maxHeartbeats 2000000 in
set_option maxRecDepth 100000 in
theorem right_none (o key v f : Int) (w : World) (h1 : (o == 1) = false) (h2 : (o == 2) = false) (h3 : (o == 3) = false) (h4 : (o == 4) = false) (h5 : (o == 5) = false) :
    Calls Try.prog 14 #[.agg #[.int .i64 o, .int .u64 key, .int .u64 v, .int .i64 f]] w fun e w' => e = .returned (.bool false) ∧ Below w.heap.size w w' := by
  go_enter Try.func14, Try.ntmps14
  go_wp2
  go_ret
  exact ⟨rfl, ((Below.refl w.heap.size w).alloc (Nat.le_refl _) _).alloc (by simp) _⟩

/-- whether an operation is right, by whether its words are -/
def rightOp (o key v f : Int) (rk rv : Bool) : Bool :=
  if o = 3 then decide (0 ≤ f) && decide (f ≤ 65535) && (rk && rv)
  else if o = 1 ∨ o = 2 ∨ o = 4 then (v == 0) && (f == 0) && (rk && rv)
  else if o = 5 then (key == 0) && (v == 0) && (f == 0) && (rk && rv)
  else false
def op_Right.f (o key v f : Int) : Option Bool := (pack_Right.f key).bind fun rk => (pack_Right.f v).bind fun rv => some (rightOp o key v f rk rv)
theorem op_Right.calls (o key v f : Int) (r : Bool) (w : World) (h : op_Right.f o key v f = some r) :
    Calls Try.prog 14 #[.agg #[.int .i64 o, .int .u64 key, .int .u64 v, .int .i64 f]] w fun e w' => e = .returned (.bool r) ∧ Below w.heap.size w w' := by
  unfold op_Right.f at h
  obtain ⟨rk, hk, h⟩ := Option.bind_eq_some_iff.mp h
  obtain ⟨rv, hv, h⟩ := Option.bind_eq_some_iff.mp h
  have hr := (Option.some.inj h).symm
  have HK := fun w => pack_Right.calls key rk w hk
  have HV := fun w => pack_Right.calls v rv w hv
  unfold rightOp at hr
  by_cases h3 : o = 3
  · subst h3
    rw [if_pos rfl] at hr
    exact right_put key v f w rk rv HK HV r hr
  · rw [if_neg h3] at hr
    by_cases h124 : o = 1 ∨ o = 2 ∨ o = 4
    · rw [if_pos h124] at hr
      exact right_key o h124 key v f w rk rv HK HV r hr
    · rw [if_neg h124] at hr
      by_cases h5 : o = 5
      · subst h5
        rw [if_pos rfl] at hr
        exact right_len key v f w rk rv HK HV r hr
      · rw [if_neg h5] at hr
        subst hr
        exact right_none o key v f w (by simp; omega) (by simp; omega) (by simp; omega) (by simp; omega) (by simp; omega)
end Go.Proofs.Ytinfbkfdkpjdiaa.Hand
