-- Written by a program of this session (wip/tools/mk.py), through the kit's print program.
import Derived.Test.YtihfcnhiknljpaaProg
import Derived.Below
import Derived.Deep.Draws
import Derived.Deep.AppendLies
import Derived.Maps.AppendAt
import Derived.OwnWalk
import Derived.Laws.BytesArg
import Derived.Laws.MakeOwn
import Derived.Laws.OwnMore
import Derived.Deep.OwnRows
import Derived.Tactics
import Derived.Lib.ConvBytes
import Derived.Laws.Slices
import Derived.WalkKit
import Derived.KernelRfl
import Derived.RowKit3
import Derived.Deep.LoopGhost
import Derived.Deep.QuietTactic
import Derived.BigQuiet
import Derived.WideLaws
import Derived.Deep.DeepCutAuto
import Derived.Deep.CutBlock
import Derived.Deep.RegionHeld3
import Derived.Laws.Rows
import Derived.Lib.AppendStr
import Derived.ArgAppend
import Derived.Laws.IdiomCopy
import Derived.OrdersHeld
import Derived.Laws.BitsLemmas
import Derived.RowKit
import Derived.Lib.Hide
import Derived.LoopTactic
import Derived.Test.YtihfcnhiknljpaaWWords
import Derived.Test.YtihfcnhiknljpaaWLast
import Derived.Test.YtihfcnhiknljpaaWTab
import Derived.Test.YtihfcnhiknljpaaWFour
import Derived.Test.YtihfcnhiknljpaaWQPut
import Derived.Test.YtihfcnhiknljpaaWApart
import Derived.Test.YtihfcnhiknljpaaWArr
import Derived.Test.YtihfcnhiknljpaaWZeros
import Derived.Test.YtihfcnhiknljpaaWFoot
import Derived.Test.YtihfcnhiknljpaaWKept
import Derived.Test.YtihfcnhiknljpaaWShare
import Derived.Test.YtihfcnhiknljpaaWN
import Derived.Test.YtihfcnhiknljpaaWFootNe
import Derived.Test.YtihfcnhiknljpaaWAt
import Derived.Test.YtihfcnhiknljpaaWEqStruct
import Derived.Test.YtihfcnhiknljpaaWRepsOne
import Derived.Test.YtihfcnhiknljpaaWInv
import Derived.Test.YtihfcnhiknljpaaWInvWords
import Derived.Test.YtihfcnhiknljpaaWGuard
import Derived.Test.YtihfcnhiknljpaaWNEv
import Derived.Test.YtihfcnhiknljpaaWMore
namespace Go.Proofs.Ytihfcnhiknljpaa.Q
open Go.RowKit Go.Proofs.YtihfcnhiknljpaaW.PrintWords Go.Proofs.YtihfcnhiknljpaaW.PrintLast Go.Proofs.YtihfcnhiknljpaaW.PrintMore
attribute [local go_sem] max2_int min2_int max_two min_two max_three min_three max_four min_four   -- for this text's walks alone
set_option linter.unusedVariables false
set_option linter.unusedSimpArgs false



def errW : Option Int → Value
  | none => .nilIface
  | some c => .iface 0 (.int .i64 c)
theorem errW_none : errW none = .nilIface := rfl
theorem errW_some (c : Int) : errW (some c) = .iface 0 (.int .i64 c) := rfl

theorem info3 : (Try.prog.info? 3).map (fun i => (i.zero, i.size, i.bytes)) = some (some (.int .i64 0), 1, 8) := by kernel_rfl
-- the values' own types

end Go.Proofs.Ytihfcnhiknljpaa.Q
