-- Written by wip/printplus.py over contracts of this repo; not trusted: Lean checks it.
import Derived.Test.YtjkifbadbadoaaaPSlotBlocksx0
import Derived.Test.YtjkifbadbadoaaaPSlotBlocksx1
import Derived.Test.YtjkifbadbadoaaaPSlotBlocksx2
import Derived.Test.YtjkifbadbadoaaaPSlotBlocksx3
import Derived.Test.YtjkifbadbadoaaaPSlotBlocksx4
import Derived.Test.YtjkifbadbadoaaaPSlotBlocksx5
import Derived.Test.YtjkifbadbadoaaaPSlotBlocksx6
import Derived.Test.YtjkifbadbadoaaaPSlotBlocksx7
namespace Go.Proofs.Ytjkifbadbadoaaa.PSlotBlocks
open Go.Proofs.Ytjkifbadbadoaaa.Hand Go.RowKit Go.Proofs.YtjkifbadbadoaaaW.PrintWords Go.Proofs.YtjkifbadbadoaaaW.PrintLast Go.Proofs.YtjkifbadbadoaaaW.PrintMore
attribute [local go_sem] max2_int min2_int max_two min_two max_three min_three max_four min_four   -- for this text's walks alone
set_option linter.unusedVariables false
set_option linter.unusedSimpArgs false

end Go.Proofs.Ytjkifbadbadoaaa.PSlotBlocks
