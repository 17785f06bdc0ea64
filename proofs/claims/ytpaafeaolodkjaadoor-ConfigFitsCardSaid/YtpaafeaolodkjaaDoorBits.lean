/- The contract of bits.Len64 (the shelf's), in the print's own form. -/
import Derived.Test.YtpaafeaolodkjaaDoorShelf
import Derived.Test.YtpaafeaolodkjaaDoorDealRight
namespace Go.Proofs.YtpaafeaolodkjaaDoor.Hand
open Go.RowKit
def bits_Len64.f (x : Int) : Option Int := if 0 ≤ x then (if x ≤ 18446744073709551615 then some (Lib.bitLen x.toNat) else none) else none
theorem bits_Len64.calls (x : Int) (r : Int) (w : World) (h : bits_Len64.f x = some r) : Calls Tryd.prog 59 #[.int .u64 x] w fun e w' => e = .returned (.int .i64 r) ∧ Below w.heap.size w w' := by
  unfold bits_Len64.f at h
  by_cases h0 : 0 ≤ x
  · by_cases h1 : x ≤ 18446744073709551615
    · rw [if_pos h0, if_pos h1] at h
      obtain rfl := Option.some.inj h
      refine (Tryd.bits_Len64 x w h0 h1).mono ?_
      rintro e w' ⟨rfl, rfl⟩
      exact ⟨rfl, Below.refl _ _⟩
    · rw [if_pos h0, if_neg h1] at h; exact absurd h (by simp)
  · rw [if_neg h0] at h; exact absurd h (by simp)
end Go.Proofs.YtpaafeaolodkjaaDoor.Hand
