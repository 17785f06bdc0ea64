/- The contract of slices.ContainsFunc[[]int,int] with config's closure: whether a number is greater than 4096. Nothing is written. -/
import Derived.Test.YtpaafeaolodkjaaDoorChecked
import Derived.WalkKit
import Derived.OwnWalk
import Derived.OpenShut
import Derived.LoopTactic
import Derived.Lib.Hide
namespace Go.Proofs.YtpaafeaolodkjaaDoor.Hand
open Go.RowKit
set_option linter.unusedVariables false

set_option maxRecDepth 100000 in
theorem large_any (n : Int) (w : World) : Calls Tryd.prog 70 #[.int .i64 n] w fun e w' => e = .returned (.bool (decide (4096 < n))) ∧ w' = w := by
  go_enter Tryd.func70, Tryd.ntmps70
  go_wp2
  go_ret
  exact ⟨rfl, rfl⟩
def SomeIx (l : List Int) (w : World) (e : Ending) (w' : World) : Prop := ∃ i : Int, e = .returned (.int .i64 i) ∧ decide (0 ≤ i) = l.any (fun n => decide (4096 < n)) ∧ w' = w
set_option maxHeartbeats 1000000 in
set_option maxRecDepth 100000 in
theorem index_some (g cap : Nat) (l : List Int) (w : World) (hm : l.length ≤ 1000) (hc : ∀ i (h : i < l.length), w.cell? ⟨g, i, none⟩ = some (.int .i64 l[i])) :
    Calls Tryd.prog 80 #[.slice (some ⟨g, 0, none⟩) l.length cap, .func (.func 70) #[] #[]] w (SomeIx l w) := by
  have HC := Lib.hid hc
  clear hc
  go_enter Tryd.func80, Tryd.ntmps80
  go_wp2
  go_loop [8] (fun i => ∃ k : Nat, k ≤ l.length ∧ i = .int .i64 k ∧ Hid (∀ j (h : j < l.length), j < k → l[j] ≤ 4096)) (fun i => l.length - (intOf i).toNat)
  case atStart => exact ⟨0, Nat.zero_le _, rfl, Lib.hid (fun j _ h => absurd h (Nat.not_lt_zero _))⟩
  case round =>
    obtain ⟨k, hk, rfl, hj⟩ := hrel
    by_cases hlt : k < l.length
    · have hcell := HC.out k hlt
      obtain ⟨x, hx⟩ : ∃ x, l[k] = x := ⟨_, rfl⟩
      rw [hx] at hcell
      by_cases h4 : 4096 < x
      · have HB := Lib.hid (large_any x w)
        rw [decide_eq_true h4] at HB
        have H4 := Lib.hid h4
        have HX := Lib.hid hx
        clear h4 hx
        go_wp2_with (go_at_call 70; with_reducible refine HB.out.mono ?_; rintro e w' ⟨rfl, rfl⟩)
        go_ret
        refine ⟨k, rfl, ?_, rfl⟩
        rw [decide_eq_true (by omega)]
        refine (List.any_eq_true.2 ⟨x, ?_, decide_eq_true H4.out⟩).symm
        rw [← HX.out]; exact List.getElem_mem hlt
      · have HB := Lib.hid (large_any x w)
        rw [decide_eq_false h4] at HB
        have H4 := Lib.hid h4
        have HX := Lib.hid hx
        clear h4 hx
        go_wp2_with (go_at_call 70; with_reducible refine HB.out.mono ?_; rintro e w' ⟨rfl, rfl⟩)
        go_round
        case rel =>
          refine ⟨k + 1, by omega, by go_num, Lib.hid (fun j h h' => ?_)⟩
          rcases Nat.lt_or_ge j k with q | q
          · exact hj.out j h q
          · obtain rfl : j = k := by omega
            have := HX.out
            have := H4.out
            omega
        case measure => simp [intOf]; omega
    · go_wp2
      go_ret
      refine ⟨-1, rfl, ?_, rfl⟩
      rw [decide_eq_false (by decide)]
      refine (List.any_eq_false.2 fun x hx => ?_).symm
      obtain ⟨j, h, rfl⟩ := List.getElem_of_mem hx
      have := hj.out j h (by omega)
      simp; omega
set_option maxHeartbeats 1000000 in
set_option maxRecDepth 100000 in
theorem contains_some (g cap : Nat) (l : List Int) (w : World) (hm : l.length ≤ 1000) (hc : ∀ i (h : i < l.length), w.cell? ⟨g, i, none⟩ = some (.int .i64 l[i])) :
    Calls Tryd.prog 71 #[.slice (some ⟨g, 0, none⟩) l.length cap, .func (.func 70) #[] #[]] w fun e w' => e = .returned (.bool (l.any (fun n => decide (4096 < n)))) ∧ w' = w := by
  have HI := Lib.hid (index_some g cap l w hm hc)
  clear hc
  go_enter Tryd.func71, Tryd.ntmps71
  go_wp2_with (go_at_call 80; with_reducible refine HI.out.mono ?_)
  rintro e w' ⟨i, rfl, hi, rfl⟩
  have H := Lib.hid hi
  clear hi
  go_wp2
  go_ret
  exact ⟨by rw [← H.out]; rfl, rfl⟩
end Go.Proofs.YtpaafeaolodkjaaDoor.Hand
