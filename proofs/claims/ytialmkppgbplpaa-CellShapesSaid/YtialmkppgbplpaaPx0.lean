-- Printed by a changed copy of the kit's printer (wip/tools/ext.py); labels and more
import Derived.Test.YtialmkppgbplpaaProg
import Derived.Below
import Derived.Deep.Draws
import Derived.Deep.AppendLies
import Derived.Maps.AppendAt
import Derived.OwnWalk
import Derived.Laws.BytesArg
import Derived.Laws.MakeOwn
import Derived.Laws.OwnMore
import Derived.Deep.OwnRows
import Derived.Tactics
import Derived.Lib.ConvBytes
import Derived.Laws.Slices
import Derived.WalkKit
import Derived.KernelRfl
import Derived.RowKit3
import Derived.Deep.LoopGhost
import Derived.Deep.QuietTactic
import Derived.BigQuiet
import Derived.WideLaws
import Derived.Deep.DeepCutAuto
import Derived.Deep.CutBlock
import Derived.Deep.RegionHeld3
import Derived.Laws.Rows
import Derived.Lib.AppendStr
import Derived.ArgAppend
import Derived.Laws.IdiomCopy
import Derived.OrdersHeld
import Derived.Laws.BitsLemmas
import Derived.RowKit
import Derived.Test.YtialmkppgbplpaaWWords
import Derived.Test.YtialmkppgbplpaaWLast
import Derived.Test.YtialmkppgbplpaaWTab
import Derived.Test.YtialmkppgbplpaaWFour
import Derived.Test.YtialmkppgbplpaaWQPut
import Derived.Test.YtialmkppgbplpaaWApart
import Derived.Test.YtialmkppgbplpaaWArr
import Derived.Test.YtialmkppgbplpaaWZeros
import Derived.Test.YtialmkppgbplpaaWFoot
import Derived.Test.YtialmkppgbplpaaWKept
import Derived.Test.YtialmkppgbplpaaWShare
import Derived.Test.YtialmkppgbplpaaWN
import Derived.Test.YtialmkppgbplpaaWFootNe
import Derived.Test.YtialmkppgbplpaaWAt
import Derived.Test.YtialmkppgbplpaaWEqStruct
import Derived.Test.YtialmkppgbplpaaWRepsOne
import Derived.Test.YtialmkppgbplpaaWInv
import Derived.Test.YtialmkppgbplpaaWInvWords
import Derived.Test.YtialmkppgbplpaaWGuard
import Derived.Test.YtialmkppgbplpaaWNEv
import Derived.Test.YtialmkppgbplpaaWMore
namespace Go.Proofs.Ytialmkppgbplpaa.P
open Go.RowKit Go.Proofs.YtialmkppgbplpaaW.PrintWords Go.Proofs.YtialmkppgbplpaaW.PrintLast Go.Proofs.YtialmkppgbplpaaW.PrintMore
attribute [local go_sem] max2_int min2_int max_two min_two max_three min_three max_four min_four   -- for this text's walks alone
set_option linter.unusedVariables false
set_option linter.unusedSimpArgs false



def errW : Option Int → Value
  | none => .nilIface
  | some c => .iface 0 (.int .i64 c)
theorem errW_none : errW none = .nilIface := rfl
theorem errW_some (c : Int) : errW (some c) = .iface 0 (.int .i64 c) := rfl

theorem info5 : (Try.prog.info? 5).map (fun i => (i.zero, i.size, i.bytes)) = some (some (.int .u8 0), 1, 1) := by kernel_rfl
-- the values' own types

end Go.Proofs.Ytialmkppgbplpaa.P
