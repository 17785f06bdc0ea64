/- Of times that rise the rank of what is used rises, of the first and of the last policy; of the second it stays; its time is over for good, or not yet. No condition. -/
import Derived.Test.YtpfohoejmlnagaaPSlotRisesx1
namespace Go.Proofs.Ytpfohoejmlnagaa.Pure
open Go.RowKit Go.Proofs.Ytpfohoejmlnagaa.Hand Go.Proofs.Ytpfohoejmlnagaa.PSlotRises Go.Proofs.YtpfohoejmlnagaaW.PrintWords Go.Proofs.YtpfohoejmlnagaaW.PrintLast
set_option linter.unusedVariables false

theorem SlotRises : shellgamelaw15_SlotRises.Pure := by
  intro l0 a1 _ _ h0 h1
  unfold shellgamelaw15_SlotRises.f
  rw [if_pos ⟨h0, h1⟩]
end Go.Proofs.Ytpfohoejmlnagaa.Pure
