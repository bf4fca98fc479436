-- made by a program of this work (wip/mkprint.py, wip/mp.sh) out of the translation
import Derived.Test.YtbiohdgeclokmaaProg
import Derived.Below
import Derived.Deep.Draws
import Derived.Deep.AppendLies
import Derived.Maps.AppendAt
import Derived.OwnWalk
import Derived.Laws.BytesArg
import Derived.Laws.MakeOwn
import Derived.Laws.OwnMore
import Derived.Deep.OwnRows
import Derived.Tactics
import Derived.Lib.ConvBytes
import Derived.Laws.Slices
import Derived.WalkKit
import Derived.KernelRfl
import Derived.RowKit3
import Derived.Deep.LoopGhost
import Derived.Deep.QuietTactic
import Derived.BigQuiet
import Derived.WideLaws
import Derived.Deep.DeepCutAuto
import Derived.Deep.CutBlock
import Derived.Deep.RegionHeld3
import Derived.Laws.Rows
import Derived.Lib.AppendStr
import Derived.ArgAppend
import Derived.Laws.IdiomCopy
import Derived.OrdersHeld
import Derived.Laws.BitsLemmas
import Derived.RowKit
import Derived.Test.YtbiohdgeclokmaaSh
import Derived.Test.YtbiohdgeclokmaaVWords
import Derived.Test.YtbiohdgeclokmaaVLast
import Derived.Test.YtbiohdgeclokmaaVTab
import Derived.Test.YtbiohdgeclokmaaVFour
import Derived.Test.YtbiohdgeclokmaaVQPut
import Derived.Test.YtbiohdgeclokmaaVApart
import Derived.Test.YtbiohdgeclokmaaVArr
import Derived.Test.YtbiohdgeclokmaaVZeros
import Derived.Test.YtbiohdgeclokmaaVFoot
import Derived.Test.YtbiohdgeclokmaaVKept
import Derived.Test.YtbiohdgeclokmaaVShare
import Derived.Test.YtbiohdgeclokmaaVN
import Derived.Test.YtbiohdgeclokmaaVFootNe
import Derived.Test.YtbiohdgeclokmaaVAt
import Derived.Test.YtbiohdgeclokmaaVEqStruct
import Derived.Test.YtbiohdgeclokmaaVRepsOne
import Derived.Test.YtbiohdgeclokmaaVInv
import Derived.Test.YtbiohdgeclokmaaVInvWords
import Derived.Test.YtbiohdgeclokmaaVGuard
import Derived.Test.YtbiohdgeclokmaaVNEv
import Derived.Test.YtbiohdgeclokmaaVMore
namespace Go.Proofs.Ytbiohdgeclokmaa.P
open Go.RowKit Go.Proofs.YtbiohdgeclokmaaW.PrintWords Go.Proofs.YtbiohdgeclokmaaW.PrintLast Go.Proofs.YtbiohdgeclokmaaW.PrintMore
attribute [local go_sem] max2_int min2_int max_two min_two max_three min_three max_four min_four   -- for this text's walks alone
set_option linter.unusedVariables false
set_option linter.unusedSimpArgs false



def errW : Option Int → Value
  | none => .nilIface
  | some c => .iface 0 (.int .i64 c)
theorem errW_none : errW none = .nilIface := rfl
theorem errW_some (c : Int) : errW (some c) = .iface 0 (.int .i64 c) := rfl

-- the values' own types

end Go.Proofs.Ytbiohdgeclokmaa.P
