-- laid by a program of this session (wip/tools/xprint.py), function by function; Lean checks it
import Derived.Test.YtnadpefbimbggaaProg
import Derived.Below
import Derived.Deep.Draws
import Derived.Deep.AppendLies
import Derived.Maps.AppendAt
import Derived.OwnWalk
import Derived.Laws.BytesArg
import Derived.Laws.MakeOwn
import Derived.Laws.OwnMore
import Derived.Deep.OwnRows
import Derived.Tactics
import Derived.Lib.ConvBytes
import Derived.Laws.Slices
import Derived.WalkKit
import Derived.KernelRfl
import Derived.RowKit3
import Derived.Deep.LoopGhost
import Derived.Deep.QuietTactic
import Derived.BigQuiet
import Derived.WideLaws
import Derived.Deep.DeepCutAuto
import Derived.Deep.CutBlock
import Derived.Deep.RegionHeld3
import Derived.Laws.Rows
import Derived.Lib.AppendStr
import Derived.ArgAppend
import Derived.Laws.IdiomCopy
import Derived.OrdersHeld
import Derived.Laws.BitsLemmas
import Derived.RowKit
import Derived.Test.YtnadpefbimbggaaWWords
import Derived.Test.YtnadpefbimbggaaWLast
import Derived.Test.YtnadpefbimbggaaWTab
import Derived.Test.YtnadpefbimbggaaWFour
import Derived.Test.YtnadpefbimbggaaWQPut
import Derived.Test.YtnadpefbimbggaaWApart
import Derived.Test.YtnadpefbimbggaaWArr
import Derived.Test.YtnadpefbimbggaaWZeros
import Derived.Test.YtnadpefbimbggaaWFoot
import Derived.Test.YtnadpefbimbggaaWKept
import Derived.Test.YtnadpefbimbggaaWShare
import Derived.Test.YtnadpefbimbggaaWN
import Derived.Test.YtnadpefbimbggaaWFootNe
import Derived.Test.YtnadpefbimbggaaWAt
import Derived.Test.YtnadpefbimbggaaWEqStruct
import Derived.Test.YtnadpefbimbggaaWRepsOne
import Derived.Test.YtnadpefbimbggaaWInv
import Derived.Test.YtnadpefbimbggaaWInvWords
import Derived.Test.YtnadpefbimbggaaWGuard
import Derived.Test.YtnadpefbimbggaaWNEv
import Derived.Test.YtnadpefbimbggaaWMore
namespace Go.Proofs.Ytnadpefbimbggaa.Y
open Go.RowKit Go.Proofs.YtnadpefbimbggaaW.PrintWords Go.Proofs.YtnadpefbimbggaaW.PrintLast Go.Proofs.YtnadpefbimbggaaW.PrintMore
attribute [local go_sem] max2_int min2_int max_two min_two max_three min_three max_four min_four   -- for this text's walks alone
set_option linter.unusedVariables false
set_option linter.unusedSimpArgs false



def errW : Option Int → Value
  | none => .nilIface
  | some c => .iface 0 (.int .i64 c)
theorem errW_none : errW none = .nilIface := rfl
theorem errW_some (c : Int) : errW (some c) = .iface 0 (.int .i64 c) := rfl

theorem info5 : (Try.prog.info? 5).map (fun i => (i.zero, i.size, i.bytes)) = some (some (.int .u8 0), 1, 1) := by kernel_rfl
theorem info9 : (Try.prog.info? 9).map (fun i => (i.zero, i.size, i.bytes)) = some (some (.string ⟨#[]⟩), 1, 16) := by kernel_rfl
-- the values' own types

end Go.Proofs.Ytnadpefbimbggaa.Y
