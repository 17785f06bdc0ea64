-- Written by wip/printplus.py over contracts of this repo; not trusted: Lean checks it.
import Derived.Test.YtpfohoejmlnagaaProg
import Derived.Test.YtpfohoejmlnagaaSlotRises
import Derived.Below
import Derived.Deep.Draws
import Derived.Deep.AppendLies
import Derived.Maps.AppendAt
import Derived.OwnWalk
import Derived.Laws.BytesArg
import Derived.Laws.MakeOwn
import Derived.Laws.OwnMore
import Derived.Deep.OwnRows
import Derived.Tactics
import Derived.Lib.ConvBytes
import Derived.Laws.Slices
import Derived.WalkKit
import Derived.KernelRfl
import Derived.RowKit3
import Derived.Deep.LoopGhost
import Derived.Deep.QuietTactic
import Derived.BigQuiet
import Derived.WideLaws
import Derived.Deep.DeepCutAuto
import Derived.Deep.CutBlock
import Derived.Deep.RegionHeld3
import Derived.Laws.Rows
import Derived.Lib.AppendStr
import Derived.ArgAppend
import Derived.Laws.IdiomCopy
import Derived.OrdersHeld
import Derived.Laws.BitsLemmas
import Derived.RowKit
import Derived.Test.YtpfohoejmlnagaaWWords
import Derived.Test.YtpfohoejmlnagaaWLast
import Derived.Test.YtpfohoejmlnagaaWTab
import Derived.Test.YtpfohoejmlnagaaWFour
import Derived.Test.YtpfohoejmlnagaaWQPut
import Derived.Test.YtpfohoejmlnagaaWApart
import Derived.Test.YtpfohoejmlnagaaWArr
import Derived.Test.YtpfohoejmlnagaaWZeros
import Derived.Test.YtpfohoejmlnagaaWFoot
import Derived.Test.YtpfohoejmlnagaaWKept
import Derived.Test.YtpfohoejmlnagaaWShare
import Derived.Test.YtpfohoejmlnagaaWN
import Derived.Test.YtpfohoejmlnagaaWFootNe
import Derived.Test.YtpfohoejmlnagaaWAt
import Derived.Test.YtpfohoejmlnagaaWEqStruct
import Derived.Test.YtpfohoejmlnagaaWRepsOne
import Derived.Test.YtpfohoejmlnagaaWInv
import Derived.Test.YtpfohoejmlnagaaWInvWords
import Derived.Test.YtpfohoejmlnagaaWGuard
import Derived.Test.YtpfohoejmlnagaaWNEv
import Derived.Test.YtpfohoejmlnagaaWMore
namespace Go.Proofs.Ytpfohoejmlnagaa.PSlotRises
open Go.Proofs.Ytpfohoejmlnagaa.Hand Go.RowKit Go.Proofs.YtpfohoejmlnagaaW.PrintWords Go.Proofs.YtpfohoejmlnagaaW.PrintLast Go.Proofs.YtpfohoejmlnagaaW.PrintMore
attribute [local go_sem] max2_int min2_int max_two min_two max_three min_three max_four min_four   -- for this text's walks alone
set_option linter.unusedVariables false
set_option linter.unusedSimpArgs false



def errW : Option Int → Value
  | none => .nilIface
  | some c => .iface 0 (.int .i64 c)
theorem errW_none : errW none = .nilIface := rfl
theorem errW_some (c : Int) : errW (some c) = .iface 0 (.int .i64 c) := rfl

-- the values' own types

end Go.Proofs.Ytpfohoejmlnagaa.PSlotRises
