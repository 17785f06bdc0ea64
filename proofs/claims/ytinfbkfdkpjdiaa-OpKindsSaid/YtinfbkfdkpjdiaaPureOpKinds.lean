/- The first byte alone tells the kind; an operation of one kind, with the letter of another one that has a key alone, is that one; a letter that is none is no operation. No condition. -/
import Derived.Test.YtinfbkfdkpjdiaaPOpKindsx1
import Derived.OpenShut
namespace Go.Proofs.Ytinfbkfdkpjdiaa.Pure
open Go.RowKit Go.Proofs.Ytinfbkfdkpjdiaa.Hand Go.Proofs.Ytinfbkfdkpjdiaa.POpKinds Go.Proofs.YtinfbkfdkpjdiaaW.PrintWords Go.Proofs.YtinfbkfdkpjdiaaW.PrintLast
theorem OpKinds : shellgamelaw17_OpKinds.Pure := by
  intro s c _ hc
  have h : 0 ≤ c ∧ c ≤ 255 := by
    simp [Lit.wf, IntKind.min, IntKind.max, IntKind.signed, IntKind.bits] at hc
    omega
  unfold shellgamelaw17_OpKinds.f
  rw [if_pos h.1, if_pos h.2]
end Go.Proofs.Ytinfbkfdkpjdiaa.Pure
