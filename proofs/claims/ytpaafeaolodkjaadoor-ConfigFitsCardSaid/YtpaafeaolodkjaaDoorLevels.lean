/- The contract of config's levels (what is wrong with a store; it hands a closure to the library). Nothing that lay in memory is changed. -/
import Derived.Test.YtpaafeaolodkjaaDoorContains
import Derived.Test.YtpaafeaolodkjaaDoorStoreRight
import Derived.Test.YtpaafeaolodkjaaDoorPStSizesx1
import Derived.Test.YtpaafeaolodkjaaDoorPtablex1
import Derived.Test.YtpaafeaolodkjaaDoorPstorex1
namespace Go.Proofs.YtpaafeaolodkjaaDoor.Hand
open Go.RowKit Go.Proofs.YtpaafeaolodkjaaDoorW.PrintWords Go.Proofs.YtpaafeaolodkjaaDoorW.PrintLast Go.Proofs.YtpaafeaolodkjaaDoorW.PrintMore
set_option linter.unusedVariables false

set_option maxRecDepth 100000 in
set_option maxHeartbeats 2000000 in
theorem levels_no (c0 c1 c2 c3 c4 c5 c6 c7 c8 : Int) (b s t L : Int) (w : World) (HS : ∀ w, Calls Tryd.prog 33 #[.agg #[.int .i64 c0, .int .i64 c1, .int .i64 c2, .int .i64 c3, .int .i64 c4, .int .i64 c5, .int .i64 c6, .int .i64 c7, .int .i64 c8]] w fun e w' => e = .returned (.agg #[.int .i64 b, .int .i64 s, .int .i64 t, .int .i64 L]) ∧ Below w.heap.size w w')
    (HR : ∀ w, Calls Tryd.prog 25 #[.agg #[.int .i64 b, .int .i64 s, .int .i64 t, .int .i64 L]] w fun e w' => e = .returned (.bool false) ∧ Below w.heap.size w w') :
    Calls Tryd.prog 51 #[.agg #[.int .i64 c0, .int .i64 c1, .int .i64 c2, .int .i64 c3, .int .i64 c4, .int .i64 c5, .int .i64 c6, .int .i64 c7, .int .i64 c8]] w fun e w' => e = .returned (.int .i64 1) ∧ Below w.heap.size w w' := by
  have HS' := Lib.hid HS
  have HR' := Lib.hid HR
  clear HS HR
  have b0 := Lib.hid ((Below.refl _ w).alloc (Nat.le_refl _) (.cells #[.int .i64 c0, .int .i64 c1, .int .i64 c2, .int .i64 c3, .int .i64 c4, .int .i64 c5, .int .i64 c6, .int .i64 c7, .int .i64 c8] 23))
  go_enter Tryd.func51, Tryd.ntmps51
  go_wp2_with (go_at_call 33; with_reducible refine (HS'.out _).mono ?_)
  rintro e w1 ⟨rfl, h1⟩
  have b1 := Lib.hid (b0.out.trans (h1.mono (by simp)))
  clear h1
  go_wp2_with (go_at_call 25; with_reducible refine (HR'.out _).mono ?_)
  rintro e w2 ⟨rfl, h2⟩
  have b2 := Lib.hid (b1.out.trans (h2.mono b1.out.size))
  clear h2
  go_wp2
  go_ret
  exact ⟨rfl, b2.out⟩
def LevelsPost (w : World) (r : Int) (e : Ending) (w' : World) : Prop := e = .returned (.int .i64 r) ∧ Below w.heap.size w w'
set_option maxRecDepth 100000 in
set_option maxHeartbeats 2000000 in
theorem levels_yes (c0 c1 c2 c3 c4 c5 c6 c7 c8 : Int) (b s t L : Int) (l : List Int) (hl : l ≠ []) (hl2 : l.length ≤ 1000) (big : Bool) (hbig : Hid (l.any (fun n => decide (4096 < n)) = big)) (R : Int) (hR : Hid ((if big = true then 1 else 0) = R)) (w : World) (HS : ∀ w, Calls Tryd.prog 33 #[.agg #[.int .i64 c0, .int .i64 c1, .int .i64 c2, .int .i64 c3, .int .i64 c4, .int .i64 c5, .int .i64 c6, .int .i64 c7, .int .i64 c8]] w fun e w' => e = .returned (.agg #[.int .i64 b, .int .i64 s, .int .i64 t, .int .i64 L]) ∧ Below w.heap.size w w')
    (HR : ∀ w, Calls Tryd.prog 25 #[.agg #[.int .i64 b, .int .i64 s, .int .i64 t, .int .i64 L]] w fun e w' => e = .returned (.bool true) ∧ Below w.heap.size w w')
    (HZ : ∀ w, Calls Tryd.prog 27 #[.agg #[.int .i64 b, .int .i64 s, .int .i64 t, .int .i64 L]] w fun e w' => ∃ v0_ : Value, e = .returned (v0_) ∧ Kd.R (Kd.int .i64) 3 w' w.heap.size (fun _ => True) v0_ l ∧ Below w.heap.size w w') :
    Calls Tryd.prog 51 #[.agg #[.int .i64 c0, .int .i64 c1, .int .i64 c2, .int .i64 c3, .int .i64 c4, .int .i64 c5, .int .i64 c6, .int .i64 c7, .int .i64 c8]] w (LevelsPost w R) := by
  have HS' := Lib.hid HS
  have HR' := Lib.hid HR
  have HZ' := Lib.hid HZ
  have HL := Lib.hid hl
  have HL2 := Lib.hid hl2
  have HG := Lib.hid hbig.out
  clear HS HR HZ hl hl2 hbig
  have b0 := Lib.hid ((Below.refl _ w).alloc (Nat.le_refl _) (.cells #[.int .i64 c0, .int .i64 c1, .int .i64 c2, .int .i64 c3, .int .i64 c4, .int .i64 c5, .int .i64 c6, .int .i64 c7, .int .i64 c8] 23))
  go_enter Tryd.func51, Tryd.ntmps51
  go_wp2_with (go_at_call 33; with_reducible refine (HS'.out _).mono ?_)
  rintro e w1 ⟨rfl, h1⟩
  have b1 := Lib.hid (b0.out.trans (h1.mono (by simp)))
  have q0 : w1.cell? ⟨w.heap.size, 0, none⟩ = some (.int .i64 c0) := (h1.cell (by simp)).trans (by simp [go_sem])
  have q1 : w1.cell? ⟨w.heap.size, 1, none⟩ = some (.int .i64 c1) := (h1.cell (by simp)).trans (by simp [go_sem])
  have q2 : w1.cell? ⟨w.heap.size, 2, none⟩ = some (.int .i64 c2) := (h1.cell (by simp)).trans (by simp [go_sem])
  have q3 : w1.cell? ⟨w.heap.size, 3, none⟩ = some (.int .i64 c3) := (h1.cell (by simp)).trans (by simp [go_sem])
  have q4 : w1.cell? ⟨w.heap.size, 4, none⟩ = some (.int .i64 c4) := (h1.cell (by simp)).trans (by simp [go_sem])
  have q5 : w1.cell? ⟨w.heap.size, 5, none⟩ = some (.int .i64 c5) := (h1.cell (by simp)).trans (by simp [go_sem])
  have q6 : w1.cell? ⟨w.heap.size, 6, none⟩ = some (.int .i64 c6) := (h1.cell (by simp)).trans (by simp [go_sem])
  have q7 : w1.cell? ⟨w.heap.size, 7, none⟩ = some (.int .i64 c7) := (h1.cell (by simp)).trans (by simp [go_sem])
  have q8 : w1.cell? ⟨w.heap.size, 8, none⟩ = some (.int .i64 c8) := (h1.cell (by simp)).trans (by simp [go_sem])
  have ql : w.heap.size < w1.heap.size := by have := h1.size; simp at this; omega
  clear h1
  go_wp2_with (go_at_call 25; with_reducible refine (HR'.out _).mono ?_)
  rintro e w2 ⟨rfl, h2⟩
  have b2 := Lib.hid (b1.out.trans (h2.mono b1.out.size))
  have p0 : w2.cell? ⟨w.heap.size, 0, none⟩ = some (.int .i64 c0) := (h2.cell (by simpa using ql)).trans q0
  have p1 : w2.cell? ⟨w.heap.size, 1, none⟩ = some (.int .i64 c1) := (h2.cell (by simpa using ql)).trans q1
  have p2 : w2.cell? ⟨w.heap.size, 2, none⟩ = some (.int .i64 c2) := (h2.cell (by simpa using ql)).trans q2
  have p3 : w2.cell? ⟨w.heap.size, 3, none⟩ = some (.int .i64 c3) := (h2.cell (by simpa using ql)).trans q3
  have p4 : w2.cell? ⟨w.heap.size, 4, none⟩ = some (.int .i64 c4) := (h2.cell (by simpa using ql)).trans q4
  have p5 : w2.cell? ⟨w.heap.size, 5, none⟩ = some (.int .i64 c5) := (h2.cell (by simpa using ql)).trans q5
  have p6 : w2.cell? ⟨w.heap.size, 6, none⟩ = some (.int .i64 c6) := (h2.cell (by simpa using ql)).trans q6
  have p7 : w2.cell? ⟨w.heap.size, 7, none⟩ = some (.int .i64 c7) := (h2.cell (by simpa using ql)).trans q7
  have p8 : w2.cell? ⟨w.heap.size, 8, none⟩ = some (.int .i64 c8) := (h2.cell (by simpa using ql)).trans q8
  clear q0 q1 q2 q3 q4 q5 q6 q7 q8 ql
  clear h2
  go_wp2_with (go_at_call 33; with_reducible refine (HS'.out _).mono ?_)
  rintro e w3 ⟨rfl, h3⟩
  have b3 := Lib.hid (b2.out.trans (h3.mono b2.out.size))
  clear h3
  go_wp2_with (go_at_call 27; with_reducible refine (HZ'.out _).mono ?_)
  rintro e w4 ⟨v, rfl, hv, h4⟩
  have b4 := Lib.hid (b3.out.trans (h4.mono b3.out.size))
  clear h4
  obtain ⟨g, cap, rfl⟩ : ∃ g cap, v = .slice (some ⟨g, 0, none⟩) l.length cap := by
    have := Kd.own_of_R hv
    rcases this.2 with ⟨_, hn⟩ | ⟨g, cap, cur, hv, _⟩
    · exact absurd (List.eq_nil_of_length_eq_zero hn) HL.out
    · exact ⟨g, cap, hv⟩
  have HC := Lib.hid (contains_some g cap l w4 HL2.out (fun i h => by
    have := (Kd.R_cell (d := (0 : Int)) hv (i : Int) (by omega) (by omega)).1
    rw [Int.toNat_natCast] at this
    rw [this]
    unfold rdOf
    rw [Int.toNat_natCast, List.getD_eq_getElem?_getD, List.getElem?_eq_getElem h]
    rfl))
  rw [HG.out] at HC
  clear hv
  cases big
  all_goals
    go_wp2_with (go_at_call 71; with_reducible refine HC.out.mono ?_)
    rintro e w5 ⟨rfl, rfl⟩
    go_wp2
    go_ret
    exact ⟨by rw [← hR.out]; rfl, b4.out⟩
def config_Config_levels.f (c0 c1 c2 c3 c4 c5 c6 c7 c8 : Int) : Option Int :=
  (Pstore.config_Config_store.f c0 c1 c2 c3 c4 c5 c6 c7 c8).bind fun c => (store_Right.f c.1 c.2.1 c.2.2.1 c.2.2.2).bind fun r => if r = true then ((PStSizes.store_Sizes.f 10 c.1 c.2.1 c.2.2.1 c.2.2.2).bind fun l => if l ≠ [] ∧ l.length ≤ 1000 then some (if (l.any fun n => decide (4096 < n)) = true then 1 else 0) else none) else some 1
theorem config_Config_levels.calls (c0 c1 c2 c3 c4 c5 c6 c7 c8 r : Int) (w : World) (h : config_Config_levels.f c0 c1 c2 c3 c4 c5 c6 c7 c8 = some r) : Calls Tryd.prog 51 #[.agg #[.int .i64 c0, .int .i64 c1, .int .i64 c2, .int .i64 c3, .int .i64 c4, .int .i64 c5, .int .i64 c6, .int .i64 c7, .int .i64 c8]] w fun e w' => e = .returned (.int .i64 r) ∧ Below w.heap.size w w' := by
  unfold config_Config_levels.f at h
  obtain ⟨⟨b, s, t, L⟩, h1, h⟩ := Option.bind_eq_some_iff.mp h
  obtain ⟨q, h2, h⟩ := Option.bind_eq_some_iff.mp h
  cases q
  · rw [if_neg (by decide)] at h
    obtain rfl := Option.some.inj h
    exact levels_no c0 c1 c2 c3 c4 c5 c6 c7 c8 b s t L w (fun w => Pstore.config_Config_store.calls c0 c1 c2 c3 c4 c5 c6 c7 c8 b s t L w h1) (fun w => store_Right.calls b s t L false w h2)
  · rw [if_pos rfl] at h
    obtain ⟨l, h3, h⟩ := Option.bind_eq_some_iff.mp h
    by_cases hl : l ≠ [] ∧ l.length ≤ 1000
    · rw [if_pos hl] at h
      obtain rfl := Option.some.inj h
      exact levels_yes c0 c1 c2 c3 c4 c5 c6 c7 c8 b s t L l hl.1 hl.2 _ (Lib.hid rfl) _ (Lib.hid rfl) w (fun w => Pstore.config_Config_store.calls c0 c1 c2 c3 c4 c5 c6 c7 c8 b s t L w h1) (fun w => store_Right.calls b s t L true w h2) (fun w => PStSizes.store_Sizes.calls 10 b s t L l w h3)
    · rw [if_neg hl] at h; exact absurd h (by simp)
end Go.Proofs.YtpaafeaolodkjaaDoor.Hand
