/- The contracts of config.Why and of config's right: the field that is wrong, and how. Nothing that lay in memory is changed; the variable errors.errorType holds its type's handle. -/
import Derived.Test.YtpaafeaolodkjaaDoorCheck
import Derived.Test.YtpaafeaolodkjaaDoorErrors
import Derived.LoopN
namespace Go.Proofs.YtpaafeaolodkjaaDoor.Hand
open Go.RowKit Go.Extern Go.Extern.Rtype Rl Go.Proofs.YtpaafeaolodkjaaDoorW.PrintWords Go.Proofs.YtpaafeaolodkjaaDoorW.PrintLast Go.Proofs.YtpaafeaolodkjaaDoorW.PrintMore
set_option linter.unusedVariables false

/-- errors.errorType holds the handle of 'error' -/
def Env (w : World) : Prop := w.cell? ⟨0, 0, none⟩ = some (rt 58)
theorem Env.lt {w : World} (h : Env w) : 0 < w.heap.size := by
  rcases Nat.lt_or_ge 0 w.heap.size with h' | h'
  · exact h'
  · have h0 : w.cell? ⟨0, 0, none⟩ = some (rt 58) := h
    simp [World.cell?, Array.getElem?_eq_none h'] at h0
theorem Env.below {w w' : World} (h : Env w) (hb : Below w.heap.size w w') : Env w' := (hb.cell (p := ⟨0, 0, none⟩) h.lt).trans h

set_option maxRecDepth 100000 in
set_option maxHeartbeats 2000000 in
theorem right_nil (c0 c1 c2 c3 c4 c5 c6 c7 c8 : Int) (w : World) (HC : ∀ w, Calls Tryd.prog 29 #[.agg #[.int .i64 c0, .int .i64 c1, .int .i64 c2, .int .i64 c3, .int .i64 c4, .int .i64 c5, .int .i64 c6, .int .i64 c7, .int .i64 c8]] w (NilPost w)) : Calls Tryd.prog 32 #[.agg #[.int .i64 c0, .int .i64 c1, .int .i64 c2, .int .i64 c3, .int .i64 c4, .int .i64 c5, .int .i64 c6, .int .i64 c7, .int .i64 c8]] w fun e w' => e = .returned (.bool true) ∧ Below w.heap.size w w' := by
  have HC' := Lib.hid HC
  clear HC
  have b0 := Lib.hid ((Below.refl _ w).alloc (Nat.le_refl _) (.cells #[.int .i64 c0, .int .i64 c1, .int .i64 c2, .int .i64 c3, .int .i64 c4, .int .i64 c5, .int .i64 c6, .int .i64 c7, .int .i64 c8] 23))
  go_enter Tryd.func32, Tryd.ntmps32
  go_wp2_with (go_at_call 29; with_reducible refine (HC'.out _).mono ?_)
  rintro e w1 ⟨rfl, h1⟩
  have b1 := Lib.hid (b0.out.trans (h1.mono (by simp)))
  clear h1
  go_wp2
  go_ret
  exact ⟨rfl, b1.out⟩
set_option maxRecDepth 100000 in
set_option maxHeartbeats 2000000 in
theorem right_fault (c0 c1 c2 c3 c4 c5 c6 c7 c8 : Int) (s : ByteArray) (c : Int) (w : World) (HC : ∀ w, Calls Tryd.prog 29 #[.agg #[.int .i64 c0, .int .i64 c1, .int .i64 c2, .int .i64 c3, .int .i64 c4, .int .i64 c5, .int .i64 c6, .int .i64 c7, .int .i64 c8]] w (FaultPost w s c)) : Calls Tryd.prog 32 #[.agg #[.int .i64 c0, .int .i64 c1, .int .i64 c2, .int .i64 c3, .int .i64 c4, .int .i64 c5, .int .i64 c6, .int .i64 c7, .int .i64 c8]] w fun e w' => e = .returned (.bool false) ∧ Below w.heap.size w w' := by
  have HC' := Lib.hid HC
  clear HC
  have b0 := Lib.hid ((Below.refl _ w).alloc (Nat.le_refl _) (.cells #[.int .i64 c0, .int .i64 c1, .int .i64 c2, .int .i64 c3, .int .i64 c4, .int .i64 c5, .int .i64 c6, .int .i64 c7, .int .i64 c8] 23))
  go_enter Tryd.func32, Tryd.ntmps32
  go_wp2_with (go_at_call 29; with_reducible refine (HC'.out _).mono ?_)
  rintro e w1 ⟨g, rfl, g0, g1, h1⟩
  have b1 := Lib.hid (b0.out.trans (h1.mono (by simp)))
  clear h1
  go_wp2
  go_ret
  exact ⟨rfl, b1.out⟩
set_option maxRecDepth 100000 in
set_option maxHeartbeats 2000000 in
theorem why_nil (c0 c1 c2 c3 c4 c5 c6 c7 c8 : Int) (w : World) (HC : ∀ w, Calls Tryd.prog 29 #[.agg #[.int .i64 c0, .int .i64 c1, .int .i64 c2, .int .i64 c3, .int .i64 c4, .int .i64 c5, .int .i64 c6, .int .i64 c7, .int .i64 c8]] w (NilPost w)) : Calls Tryd.prog 10 #[.agg #[.int .i64 c0, .int .i64 c1, .int .i64 c2, .int .i64 c3, .int .i64 c4, .int .i64 c5, .int .i64 c6, .int .i64 c7, .int .i64 c8]] w fun e w' => e = .returned (.tuple #[.string ⟨#[]⟩, .int .i64 0]) ∧ Below w.heap.size w w' := by
  have HC' := Lib.hid HC
  clear HC
  have b0 := Lib.hid ((Below.refl _ w).alloc (Nat.le_refl _) (.cells #[.int .i64 c0, .int .i64 c1, .int .i64 c2, .int .i64 c3, .int .i64 c4, .int .i64 c5, .int .i64 c6, .int .i64 c7, .int .i64 c8] 23))
  go_enter Tryd.func10, Tryd.ntmps10
  go_wp2_with (go_at_call 29; with_reducible refine (HC'.out _).mono ?_)
  rintro e w1 ⟨rfl, h1⟩
  have b1 := Lib.hid (b0.out.trans (h1.mono (by simp)))
  clear h1
  go_wp2_with (go_at_call 30; with_reducible refine (as_nil _ _).mono ?_; rintro e w' ⟨rfl, rfl⟩)
  go_ret2
  exact ⟨rfl, b1.out.alloc b1.out.size _⟩

set_option maxRecDepth 100000 in
set_option maxHeartbeats 4000000 in
theorem why_2 (c0 c1 c2 c3 c4 c5 c6 c7 c8 : Int) (s : ByteArray) (c : Int) (hc : (c == 2) = true) (w : World) (hE : Env w) (HC : ∀ w, Calls Tryd.prog 29 #[.agg #[.int .i64 c0, .int .i64 c1, .int .i64 c2, .int .i64 c3, .int .i64 c4, .int .i64 c5, .int .i64 c6, .int .i64 c7, .int .i64 c8]] w (FaultPost w s c)) : Calls Tryd.prog 10 #[.agg #[.int .i64 c0, .int .i64 c1, .int .i64 c2, .int .i64 c3, .int .i64 c4, .int .i64 c5, .int .i64 c6, .int .i64 c7, .int .i64 c8]] w fun e w' => e = .returned (.tuple #[.string s, .int .i64 2]) ∧ Below w.heap.size w w' := by
  have HC' := Lib.hid HC
  have HE := Lib.hid hE
  clear HC hE
  have b0 := Lib.hid ((Below.refl _ w).alloc (Nat.le_refl _) (.cells #[.int .i64 c0, .int .i64 c1, .int .i64 c2, .int .i64 c3, .int .i64 c4, .int .i64 c5, .int .i64 c6, .int .i64 c7, .int .i64 c8] 23))
  go_enter Tryd.func10, Tryd.ntmps10
  go_wp2_with (go_at_call 29; with_reducible refine (HC'.out _).mono ?_)
  rintro e w1 ⟨g, rfl, g0, g1, h1⟩
  have b1 := Lib.hid (b0.out.trans (h1.mono (by simp)))
  clear h1 b0
  have b2 := Lib.hid (b1.out.alloc b1.out.size (.cells #[.pointer none] 60))
  have gl := lt_of_cell g0
  have A := Lib.hid (as_fault g w1.heap.size (w1.alloc (.cells #[.pointer none] 60)) (HE.out.below b2.out) (heap_alloc_new w1 _))
  go_wp2_with (go_at_call 30; with_reducible refine A.out.mono ?_)
  rintro e w2 ⟨rfl, hb, h2'⟩
  have k0 : w2.cell? ⟨g, 0, none⟩ = some (.string s) := (h2'.cell (p := ⟨g, 0, none⟩) gl).trans ((World.cell?_alloc_lt w1 _ _ gl).trans g0)
  have k1 : w2.cell? ⟨g, 1, none⟩ = some (.iface 25 (.int .i64 c)) := (h2'.cell (p := ⟨g, 1, none⟩) gl).trans ((World.cell?_alloc_lt w1 _ _ gl).trans g1)
  have k2 : w2.cell? ⟨w1.heap.size, 0, none⟩ = some (.pointer (some ⟨g, 0, none⟩)) := cell_of_row _ _ 0 _ _ _ hb
  have hz : w1.heap.size < w2.heap.size := (Array.getElem?_eq_some_iff.1 hb).1
  have b3 := Lib.hid (b2.out.trans (h2'.mono b1.out.size))
  have I := Lib.hid (fun t => is_fault g s c t (w2.alloc (.cells #[.int .i64 2, .int .i64 3, .int .i64 4] 25)) ((World.cell?_alloc_lt w2 _ _ (by show g < _; omega)).trans k0) ((World.cell?_alloc_lt w2 _ _ (by show g < _; omega)).trans k1))
  have m0 : (w2.alloc (.cells #[.int .i64 2, .int .i64 3, .int .i64 4] 25)).cell? ⟨g, 0, none⟩ = some (.string s) := (World.cell?_alloc_lt w2 _ _ (by show g < _; omega)).trans k0
  have m2 : (w2.alloc (.cells #[.int .i64 2, .int .i64 3, .int .i64 4] 25)).cell? ⟨w1.heap.size, 0, none⟩ = some (.pointer (some ⟨g, 0, none⟩)) := (World.cell?_alloc_lt w2 _ _ hz).trans k2
  clear hb h2' k0 k1 k2 A g0 g1 b1 b2 hz gl
  generalize w1.heap.size = b at *
  go_wp2
  refine wp_loop_rounds 1 ?_
  rw [rounds_succ]
  go_wp2_with (go_at_call 31; with_reducible refine (I.out 2).mono ?_; rintro e w' ⟨rfl, rfl⟩)
  go_ret2
  exact ⟨rfl, b3.out.alloc b3.out.size _⟩

set_option maxRecDepth 100000 in
set_option maxHeartbeats 4000000 in
theorem why_3 (c0 c1 c2 c3 c4 c5 c6 c7 c8 : Int) (s : ByteArray) (c : Int) (h2 : (c == 2) = false) (hc : (c == 3) = true) (w : World) (hE : Env w) (HC : ∀ w, Calls Tryd.prog 29 #[.agg #[.int .i64 c0, .int .i64 c1, .int .i64 c2, .int .i64 c3, .int .i64 c4, .int .i64 c5, .int .i64 c6, .int .i64 c7, .int .i64 c8]] w (FaultPost w s c)) : Calls Tryd.prog 10 #[.agg #[.int .i64 c0, .int .i64 c1, .int .i64 c2, .int .i64 c3, .int .i64 c4, .int .i64 c5, .int .i64 c6, .int .i64 c7, .int .i64 c8]] w fun e w' => e = .returned (.tuple #[.string s, .int .i64 3]) ∧ Below w.heap.size w w' := by
  have HC' := Lib.hid HC
  have HE := Lib.hid hE
  clear HC hE
  have b0 := Lib.hid ((Below.refl _ w).alloc (Nat.le_refl _) (.cells #[.int .i64 c0, .int .i64 c1, .int .i64 c2, .int .i64 c3, .int .i64 c4, .int .i64 c5, .int .i64 c6, .int .i64 c7, .int .i64 c8] 23))
  go_enter Tryd.func10, Tryd.ntmps10
  go_wp2_with (go_at_call 29; with_reducible refine (HC'.out _).mono ?_)
  rintro e w1 ⟨g, rfl, g0, g1, h1⟩
  have b1 := Lib.hid (b0.out.trans (h1.mono (by simp)))
  clear h1 b0
  have b2 := Lib.hid (b1.out.alloc b1.out.size (.cells #[.pointer none] 60))
  have gl := lt_of_cell g0
  have A := Lib.hid (as_fault g w1.heap.size (w1.alloc (.cells #[.pointer none] 60)) (HE.out.below b2.out) (heap_alloc_new w1 _))
  go_wp2_with (go_at_call 30; with_reducible refine A.out.mono ?_)
  rintro e w2 ⟨rfl, hb, h2'⟩
  have k0 : w2.cell? ⟨g, 0, none⟩ = some (.string s) := (h2'.cell (p := ⟨g, 0, none⟩) gl).trans ((World.cell?_alloc_lt w1 _ _ gl).trans g0)
  have k1 : w2.cell? ⟨g, 1, none⟩ = some (.iface 25 (.int .i64 c)) := (h2'.cell (p := ⟨g, 1, none⟩) gl).trans ((World.cell?_alloc_lt w1 _ _ gl).trans g1)
  have k2 : w2.cell? ⟨w1.heap.size, 0, none⟩ = some (.pointer (some ⟨g, 0, none⟩)) := cell_of_row _ _ 0 _ _ _ hb
  have hz : w1.heap.size < w2.heap.size := (Array.getElem?_eq_some_iff.1 hb).1
  have b3 := Lib.hid (b2.out.trans (h2'.mono b1.out.size))
  have I := Lib.hid (fun t => is_fault g s c t (w2.alloc (.cells #[.int .i64 2, .int .i64 3, .int .i64 4] 25)) ((World.cell?_alloc_lt w2 _ _ (by show g < _; omega)).trans k0) ((World.cell?_alloc_lt w2 _ _ (by show g < _; omega)).trans k1))
  have m0 : (w2.alloc (.cells #[.int .i64 2, .int .i64 3, .int .i64 4] 25)).cell? ⟨g, 0, none⟩ = some (.string s) := (World.cell?_alloc_lt w2 _ _ (by show g < _; omega)).trans k0
  have m2 : (w2.alloc (.cells #[.int .i64 2, .int .i64 3, .int .i64 4] 25)).cell? ⟨w1.heap.size, 0, none⟩ = some (.pointer (some ⟨g, 0, none⟩)) := (World.cell?_alloc_lt w2 _ _ hz).trans k2
  clear hb h2' k0 k1 k2 A g0 g1 b1 b2 hz gl
  generalize w1.heap.size = b at *
  go_wp2
  refine wp_loop_rounds 2 ?_
  rw [rounds_succ]
  go_wp2_with (go_at_call 31; with_reducible refine (I.out 2).mono ?_; rintro e w' ⟨rfl, rfl⟩)
  rw [rounds_succ]
  go_wp2_with (go_at_call 31; with_reducible refine (I.out 3).mono ?_; rintro e w' ⟨rfl, rfl⟩)
  go_ret2
  exact ⟨rfl, b3.out.alloc b3.out.size _⟩

set_option maxRecDepth 100000 in
set_option maxHeartbeats 4000000 in
theorem why_4 (c0 c1 c2 c3 c4 c5 c6 c7 c8 : Int) (s : ByteArray) (c : Int) (h2 : (c == 2) = false) (h3 : (c == 3) = false) (hc : (c == 4) = true) (w : World) (hE : Env w) (HC : ∀ w, Calls Tryd.prog 29 #[.agg #[.int .i64 c0, .int .i64 c1, .int .i64 c2, .int .i64 c3, .int .i64 c4, .int .i64 c5, .int .i64 c6, .int .i64 c7, .int .i64 c8]] w (FaultPost w s c)) : Calls Tryd.prog 10 #[.agg #[.int .i64 c0, .int .i64 c1, .int .i64 c2, .int .i64 c3, .int .i64 c4, .int .i64 c5, .int .i64 c6, .int .i64 c7, .int .i64 c8]] w fun e w' => e = .returned (.tuple #[.string s, .int .i64 4]) ∧ Below w.heap.size w w' := by
  have HC' := Lib.hid HC
  have HE := Lib.hid hE
  clear HC hE
  have b0 := Lib.hid ((Below.refl _ w).alloc (Nat.le_refl _) (.cells #[.int .i64 c0, .int .i64 c1, .int .i64 c2, .int .i64 c3, .int .i64 c4, .int .i64 c5, .int .i64 c6, .int .i64 c7, .int .i64 c8] 23))
  go_enter Tryd.func10, Tryd.ntmps10
  go_wp2_with (go_at_call 29; with_reducible refine (HC'.out _).mono ?_)
  rintro e w1 ⟨g, rfl, g0, g1, h1⟩
  have b1 := Lib.hid (b0.out.trans (h1.mono (by simp)))
  clear h1 b0
  have b2 := Lib.hid (b1.out.alloc b1.out.size (.cells #[.pointer none] 60))
  have gl := lt_of_cell g0
  have A := Lib.hid (as_fault g w1.heap.size (w1.alloc (.cells #[.pointer none] 60)) (HE.out.below b2.out) (heap_alloc_new w1 _))
  go_wp2_with (go_at_call 30; with_reducible refine A.out.mono ?_)
  rintro e w2 ⟨rfl, hb, h2'⟩
  have k0 : w2.cell? ⟨g, 0, none⟩ = some (.string s) := (h2'.cell (p := ⟨g, 0, none⟩) gl).trans ((World.cell?_alloc_lt w1 _ _ gl).trans g0)
  have k1 : w2.cell? ⟨g, 1, none⟩ = some (.iface 25 (.int .i64 c)) := (h2'.cell (p := ⟨g, 1, none⟩) gl).trans ((World.cell?_alloc_lt w1 _ _ gl).trans g1)
  have k2 : w2.cell? ⟨w1.heap.size, 0, none⟩ = some (.pointer (some ⟨g, 0, none⟩)) := cell_of_row _ _ 0 _ _ _ hb
  have hz : w1.heap.size < w2.heap.size := (Array.getElem?_eq_some_iff.1 hb).1
  have b3 := Lib.hid (b2.out.trans (h2'.mono b1.out.size))
  have I := Lib.hid (fun t => is_fault g s c t (w2.alloc (.cells #[.int .i64 2, .int .i64 3, .int .i64 4] 25)) ((World.cell?_alloc_lt w2 _ _ (by show g < _; omega)).trans k0) ((World.cell?_alloc_lt w2 _ _ (by show g < _; omega)).trans k1))
  have m0 : (w2.alloc (.cells #[.int .i64 2, .int .i64 3, .int .i64 4] 25)).cell? ⟨g, 0, none⟩ = some (.string s) := (World.cell?_alloc_lt w2 _ _ (by show g < _; omega)).trans k0
  have m2 : (w2.alloc (.cells #[.int .i64 2, .int .i64 3, .int .i64 4] 25)).cell? ⟨w1.heap.size, 0, none⟩ = some (.pointer (some ⟨g, 0, none⟩)) := (World.cell?_alloc_lt w2 _ _ hz).trans k2
  clear hb h2' k0 k1 k2 A g0 g1 b1 b2 hz gl
  generalize w1.heap.size = b at *
  go_wp2
  refine wp_loop_rounds 3 ?_
  rw [rounds_succ]
  go_wp2_with (go_at_call 31; with_reducible refine (I.out 2).mono ?_; rintro e w' ⟨rfl, rfl⟩)
  rw [rounds_succ]
  go_wp2_with (go_at_call 31; with_reducible refine (I.out 3).mono ?_; rintro e w' ⟨rfl, rfl⟩)
  rw [rounds_succ]
  go_wp2_with (go_at_call 31; with_reducible refine (I.out 4).mono ?_; rintro e w' ⟨rfl, rfl⟩)
  go_ret2
  exact ⟨rfl, b3.out.alloc b3.out.size _⟩

set_option maxRecDepth 100000 in
set_option maxHeartbeats 4000000 in
theorem why_x (c0 c1 c2 c3 c4 c5 c6 c7 c8 : Int) (s : ByteArray) (c : Int) (h2 : (c == 2) = false) (h3 : (c == 3) = false) (h4 : (c == 4) = false) (w : World) (hE : Env w) (HC : ∀ w, Calls Tryd.prog 29 #[.agg #[.int .i64 c0, .int .i64 c1, .int .i64 c2, .int .i64 c3, .int .i64 c4, .int .i64 c5, .int .i64 c6, .int .i64 c7, .int .i64 c8]] w (FaultPost w s c)) : Calls Tryd.prog 10 #[.agg #[.int .i64 c0, .int .i64 c1, .int .i64 c2, .int .i64 c3, .int .i64 c4, .int .i64 c5, .int .i64 c6, .int .i64 c7, .int .i64 c8]] w fun e w' => e = .returned (.tuple #[.string s, .int .i64 1]) ∧ Below w.heap.size w w' := by
  have HC' := Lib.hid HC
  have HE := Lib.hid hE
  clear HC hE
  have b0 := Lib.hid ((Below.refl _ w).alloc (Nat.le_refl _) (.cells #[.int .i64 c0, .int .i64 c1, .int .i64 c2, .int .i64 c3, .int .i64 c4, .int .i64 c5, .int .i64 c6, .int .i64 c7, .int .i64 c8] 23))
  go_enter Tryd.func10, Tryd.ntmps10
  go_wp2_with (go_at_call 29; with_reducible refine (HC'.out _).mono ?_)
  rintro e w1 ⟨g, rfl, g0, g1, h1⟩
  have b1 := Lib.hid (b0.out.trans (h1.mono (by simp)))
  clear h1 b0
  have b2 := Lib.hid (b1.out.alloc b1.out.size (.cells #[.pointer none] 60))
  have gl := lt_of_cell g0
  have A := Lib.hid (as_fault g w1.heap.size (w1.alloc (.cells #[.pointer none] 60)) (HE.out.below b2.out) (heap_alloc_new w1 _))
  go_wp2_with (go_at_call 30; with_reducible refine A.out.mono ?_)
  rintro e w2 ⟨rfl, hb, h2'⟩
  have k0 : w2.cell? ⟨g, 0, none⟩ = some (.string s) := (h2'.cell (p := ⟨g, 0, none⟩) gl).trans ((World.cell?_alloc_lt w1 _ _ gl).trans g0)
  have k1 : w2.cell? ⟨g, 1, none⟩ = some (.iface 25 (.int .i64 c)) := (h2'.cell (p := ⟨g, 1, none⟩) gl).trans ((World.cell?_alloc_lt w1 _ _ gl).trans g1)
  have k2 : w2.cell? ⟨w1.heap.size, 0, none⟩ = some (.pointer (some ⟨g, 0, none⟩)) := cell_of_row _ _ 0 _ _ _ hb
  have hz : w1.heap.size < w2.heap.size := (Array.getElem?_eq_some_iff.1 hb).1
  have b3 := Lib.hid (b2.out.trans (h2'.mono b1.out.size))
  have I := Lib.hid (fun t => is_fault g s c t (w2.alloc (.cells #[.int .i64 2, .int .i64 3, .int .i64 4] 25)) ((World.cell?_alloc_lt w2 _ _ (by show g < _; omega)).trans k0) ((World.cell?_alloc_lt w2 _ _ (by show g < _; omega)).trans k1))
  have m0 : (w2.alloc (.cells #[.int .i64 2, .int .i64 3, .int .i64 4] 25)).cell? ⟨g, 0, none⟩ = some (.string s) := (World.cell?_alloc_lt w2 _ _ (by show g < _; omega)).trans k0
  have m2 : (w2.alloc (.cells #[.int .i64 2, .int .i64 3, .int .i64 4] 25)).cell? ⟨w1.heap.size, 0, none⟩ = some (.pointer (some ⟨g, 0, none⟩)) := (World.cell?_alloc_lt w2 _ _ hz).trans k2
  clear hb h2' k0 k1 k2 A g0 g1 b1 b2 hz gl
  generalize w1.heap.size = b at *
  go_wp2
  refine wp_loop_rounds 4 ?_
  rw [rounds_succ]
  go_wp2_with (go_at_call 31; with_reducible refine (I.out 2).mono ?_; rintro e w' ⟨rfl, rfl⟩)
  rw [rounds_succ]
  go_wp2_with (go_at_call 31; with_reducible refine (I.out 3).mono ?_; rintro e w' ⟨rfl, rfl⟩)
  rw [rounds_succ]
  go_wp2_with (go_at_call 31; with_reducible refine (I.out 4).mono ?_; rintro e w' ⟨rfl, rfl⟩)
  rw [rounds_succ]
  go_wp2
  go_ret2
  exact ⟨rfl, b3.out.alloc b3.out.size _⟩

def config_Config_right.f (c0 c1 c2 c3 c4 c5 c6 c7 c8 : Int) : Option Bool := (check.f c0 c1 c2 c3 c4 c5 c6 c7 c8).bind fun o => some o.isNone
theorem config_Config_right.calls (c0 c1 c2 c3 c4 c5 c6 c7 c8 : Int) (r : Bool) (w : World) (h : config_Config_right.f c0 c1 c2 c3 c4 c5 c6 c7 c8 = some r) : Calls Tryd.prog 32 #[.agg #[.int .i64 c0, .int .i64 c1, .int .i64 c2, .int .i64 c3, .int .i64 c4, .int .i64 c5, .int .i64 c6, .int .i64 c7, .int .i64 c8]] w fun e w' => e = .returned (.bool r) ∧ Below w.heap.size w w' := by
  unfold config_Config_right.f at h
  obtain ⟨o, ho, h⟩ := Option.bind_eq_some_iff.mp h
  obtain rfl := Option.some.inj h
  cases o with
  | none => exact right_nil c0 c1 c2 c3 c4 c5 c6 c7 c8 w (fun w => check.calls c0 c1 c2 c3 c4 c5 c6 c7 c8 none w ho)
  | some p => exact right_fault c0 c1 c2 c3 c4 c5 c6 c7 c8 p.1 p.2 w (fun w => check.calls c0 c1 c2 c3 c4 c5 c6 c7 c8 (some p) w ho)
def whyR : Option (ByteArray × Int) → ByteArray × Int
  | none => (⟨#[]⟩, 0)
  | some p => (p.1, if p.2 = 2 then 2 else if p.2 = 3 then 3 else if p.2 = 4 then 4 else 1)
def config_Why.f (c0 c1 c2 c3 c4 c5 c6 c7 c8 : Int) : Option (ByteArray × Int) := (check.f c0 c1 c2 c3 c4 c5 c6 c7 c8).bind fun o => some (whyR o)
theorem config_Why.calls (c0 c1 c2 c3 c4 c5 c6 c7 c8 : Int) (r1 : ByteArray) (r2 : Int) (w : World) (hE : Env w) (h : config_Why.f c0 c1 c2 c3 c4 c5 c6 c7 c8 = some (r1, r2)) : Calls Tryd.prog 10 #[.agg #[.int .i64 c0, .int .i64 c1, .int .i64 c2, .int .i64 c3, .int .i64 c4, .int .i64 c5, .int .i64 c6, .int .i64 c7, .int .i64 c8]] w fun e w' => e = .returned (.tuple #[.string r1, .int .i64 r2]) ∧ Below w.heap.size w w' := by
  unfold config_Why.f at h
  obtain ⟨o, ho, h⟩ := Option.bind_eq_some_iff.mp h
  cases o with
  | none =>
    obtain ⟨rfl, rfl⟩ := Prod.mk.inj (Option.some.inj h)
    exact why_nil c0 c1 c2 c3 c4 c5 c6 c7 c8 w (fun w => check.calls c0 c1 c2 c3 c4 c5 c6 c7 c8 none w ho)
  | some p =>
    obtain ⟨s, c⟩ := p
    obtain ⟨rfl, rfl⟩ := Prod.mk.inj (Option.some.inj h)
    have HC := fun w => check.calls c0 c1 c2 c3 c4 c5 c6 c7 c8 (some (s, c)) w ho
    show Calls Tryd.prog 10 #[.agg #[.int .i64 c0, .int .i64 c1, .int .i64 c2, .int .i64 c3, .int .i64 c4, .int .i64 c5, .int .i64 c6, .int .i64 c7, .int .i64 c8]] w fun e w' => e = .returned (.tuple #[.string s, .int .i64 (if c = 2 then 2 else if c = 3 then 3 else if c = 4 then 4 else 1)]) ∧ Below w.heap.size w w'
    by_cases h2 : c = 2
    · rw [if_pos h2]; exact why_2 c0 c1 c2 c3 c4 c5 c6 c7 c8 s c (by simpa using h2) w hE HC
    rw [if_neg h2]
    by_cases h3 : c = 3
    · rw [if_pos h3]; exact why_3 c0 c1 c2 c3 c4 c5 c6 c7 c8 s c (by simpa using h2) (by simpa using h3) w hE HC
    rw [if_neg h3]
    by_cases h4 : c = 4
    · rw [if_pos h4]; exact why_4 c0 c1 c2 c3 c4 c5 c6 c7 c8 s c (by simpa using h2) (by simpa using h3) (by simpa using h4) w hE HC
    rw [if_neg h4]
    exact why_x c0 c1 c2 c3 c4 c5 c6 c7 c8 s c (by simpa using h2) (by simpa using h3) (by simpa using h4) w hE HC
end Go.Proofs.YtpaafeaolodkjaaDoor.Hand
