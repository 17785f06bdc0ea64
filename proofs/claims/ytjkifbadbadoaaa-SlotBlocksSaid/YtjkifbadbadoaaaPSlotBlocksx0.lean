-- Written by wip/printplus.py over contracts of this repo; not trusted: Lean checks it.
import Derived.Test.YtjkifbadbadoaaaProg
import Derived.Test.YtjkifbadbadoaaaPackText
import Derived.Test.YtjkifbadbadoaaaRefText
import Derived.Test.YtjkifbadbadoaaaArrays
import Derived.Below
import Derived.Deep.Draws
import Derived.Deep.AppendLies
import Derived.Maps.AppendAt
import Derived.OwnWalk
import Derived.Laws.BytesArg
import Derived.Laws.MakeOwn
import Derived.Laws.OwnMore
import Derived.Deep.OwnRows
import Derived.Tactics
import Derived.Lib.ConvBytes
import Derived.Laws.Slices
import Derived.WalkKit
import Derived.KernelRfl
import Derived.RowKit3
import Derived.Deep.LoopGhost
import Derived.Deep.QuietTactic
import Derived.BigQuiet
import Derived.WideLaws
import Derived.Deep.DeepCutAuto
import Derived.Deep.CutBlock
import Derived.Deep.RegionHeld3
import Derived.Laws.Rows
import Derived.Lib.AppendStr
import Derived.ArgAppend
import Derived.Laws.IdiomCopy
import Derived.OrdersHeld
import Derived.Laws.BitsLemmas
import Derived.RowKit
import Derived.Test.YtjkifbadbadoaaaWWords
import Derived.Test.YtjkifbadbadoaaaWLast
import Derived.Test.YtjkifbadbadoaaaWTab
import Derived.Test.YtjkifbadbadoaaaWFour
import Derived.Test.YtjkifbadbadoaaaWQPut
import Derived.Test.YtjkifbadbadoaaaWApart
import Derived.Test.YtjkifbadbadoaaaWArr
import Derived.Test.YtjkifbadbadoaaaWZeros
import Derived.Test.YtjkifbadbadoaaaWFoot
import Derived.Test.YtjkifbadbadoaaaWKept
import Derived.Test.YtjkifbadbadoaaaWShare
import Derived.Test.YtjkifbadbadoaaaWN
import Derived.Test.YtjkifbadbadoaaaWFootNe
import Derived.Test.YtjkifbadbadoaaaWAt
import Derived.Test.YtjkifbadbadoaaaWEqStruct
import Derived.Test.YtjkifbadbadoaaaWRepsOne
import Derived.Test.YtjkifbadbadoaaaWInv
import Derived.Test.YtjkifbadbadoaaaWInvWords
import Derived.Test.YtjkifbadbadoaaaWGuard
import Derived.Test.YtjkifbadbadoaaaWNEv
import Derived.Test.YtjkifbadbadoaaaWMore
namespace Go.Proofs.Ytjkifbadbadoaaa.PSlotBlocks
open Go.Proofs.Ytjkifbadbadoaaa.Hand Go.RowKit Go.Proofs.YtjkifbadbadoaaaW.PrintWords Go.Proofs.YtjkifbadbadoaaaW.PrintLast Go.Proofs.YtjkifbadbadoaaaW.PrintMore
attribute [local go_sem] max2_int min2_int max_two min_two max_three min_three max_four min_four   -- for this text's walks alone
set_option linter.unusedVariables false
set_option linter.unusedSimpArgs false



def errW : Option Int → Value
  | none => .nilIface
  | some c => .iface 0 (.int .i64 c)
theorem errW_none : errW none = .nilIface := rfl
theorem errW_some (c : Int) : errW (some c) = .iface 0 (.int .i64 c) := rfl

-- the values' own types

end Go.Proofs.Ytjkifbadbadoaaa.PSlotBlocks
