-- laid by a program of this session (wip/tools/xprint.py), function by function; Lean checks it
import Derived.Test.YtijabpabmipdbaaProg
import Derived.Below
import Derived.Deep.Draws
import Derived.Deep.AppendLies
import Derived.Maps.AppendAt
import Derived.OwnWalk
import Derived.Laws.BytesArg
import Derived.Laws.MakeOwn
import Derived.Laws.OwnMore
import Derived.Deep.OwnRows
import Derived.Tactics
import Derived.Lib.ConvBytes
import Derived.Laws.Slices
import Derived.WalkKit
import Derived.KernelRfl
import Derived.RowKit3
import Derived.Deep.LoopGhost
import Derived.Deep.QuietTactic
import Derived.BigQuiet
import Derived.WideLaws
import Derived.Deep.DeepCutAuto
import Derived.Deep.CutBlock
import Derived.Deep.RegionHeld3
import Derived.Laws.Rows
import Derived.Lib.AppendStr
import Derived.ArgAppend
import Derived.Laws.IdiomCopy
import Derived.OrdersHeld
import Derived.Laws.BitsLemmas
import Derived.RowKit
import Derived.Test.YtijabpabmipdbaaWWords
import Derived.Test.YtijabpabmipdbaaWLast
import Derived.Test.YtijabpabmipdbaaWTab
import Derived.Test.YtijabpabmipdbaaWFour
import Derived.Test.YtijabpabmipdbaaWQPut
import Derived.Test.YtijabpabmipdbaaWApart
import Derived.Test.YtijabpabmipdbaaWArr
import Derived.Test.YtijabpabmipdbaaWZeros
import Derived.Test.YtijabpabmipdbaaWFoot
import Derived.Test.YtijabpabmipdbaaWKept
import Derived.Test.YtijabpabmipdbaaWShare
import Derived.Test.YtijabpabmipdbaaWN
import Derived.Test.YtijabpabmipdbaaWFootNe
import Derived.Test.YtijabpabmipdbaaWAt
import Derived.Test.YtijabpabmipdbaaWEqStruct
import Derived.Test.YtijabpabmipdbaaWRepsOne
import Derived.Test.YtijabpabmipdbaaWInv
import Derived.Test.YtijabpabmipdbaaWInvWords
import Derived.Test.YtijabpabmipdbaaWGuard
import Derived.Test.YtijabpabmipdbaaWNEv
import Derived.Test.YtijabpabmipdbaaWMore
namespace Go.Proofs.Ytijabpabmipdbaa.X
open Go.RowKit Go.Proofs.YtijabpabmipdbaaW.PrintWords Go.Proofs.YtijabpabmipdbaaW.PrintLast Go.Proofs.YtijabpabmipdbaaW.PrintMore
attribute [local go_sem] max2_int min2_int max_two min_two max_three min_three max_four min_four   -- for this text's walks alone
set_option linter.unusedVariables false
set_option linter.unusedSimpArgs false



def errW : Option Int → Value
  | none => .nilIface
  | some c => .iface 0 (.int .i64 c)
theorem errW_none : errW none = .nilIface := rfl
theorem errW_some (c : Int) : errW (some c) = .iface 0 (.int .i64 c) := rfl

theorem info3 : (Try.prog.info? 3).map (fun i => (i.zero, i.size, i.bytes)) = some (some (.int .i64 0), 1, 8) := by kernel_rfl
-- the values' own types

end Go.Proofs.Ytijabpabmipdbaa.X
