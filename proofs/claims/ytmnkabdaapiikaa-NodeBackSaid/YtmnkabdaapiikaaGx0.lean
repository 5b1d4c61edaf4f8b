-- laid by a program of this session (wip/tools/xprint.py), function by function; Lean checks it
import Derived.Test.YtmnkabdaapiikaaProg
import Derived.Below
import Derived.Deep.Draws
import Derived.Deep.AppendLies
import Derived.Maps.AppendAt
import Derived.OwnWalk
import Derived.Laws.BytesArg
import Derived.Laws.MakeOwn
import Derived.Laws.OwnMore
import Derived.Deep.OwnRows
import Derived.Tactics
import Derived.Lib.ConvBytes
import Derived.Laws.Slices
import Derived.WalkKit
import Derived.KernelRfl
import Derived.RowKit3
import Derived.Deep.LoopGhost
import Derived.Deep.QuietTactic
import Derived.BigQuiet
import Derived.WideLaws
import Derived.Deep.DeepCutAuto
import Derived.Deep.CutBlock
import Derived.Deep.RegionHeld3
import Derived.Laws.Rows
import Derived.Lib.AppendStr
import Derived.ArgAppend
import Derived.Laws.IdiomCopy
import Derived.OrdersHeld
import Derived.Laws.BitsLemmas
import Derived.RowKit
import Derived.Test.YtmnkabdaapiikaaXLeq
import Derived.Test.YtmnkabdaapiikaaWWords
import Derived.Test.YtmnkabdaapiikaaWLast
import Derived.Test.YtmnkabdaapiikaaWTab
import Derived.Test.YtmnkabdaapiikaaWFour
import Derived.Test.YtmnkabdaapiikaaWQPut
import Derived.Test.YtmnkabdaapiikaaWApart
import Derived.Test.YtmnkabdaapiikaaWArr
import Derived.Test.YtmnkabdaapiikaaWZeros
import Derived.Test.YtmnkabdaapiikaaWFoot
import Derived.Test.YtmnkabdaapiikaaWKept
import Derived.Test.YtmnkabdaapiikaaWShare
import Derived.Test.YtmnkabdaapiikaaWN
import Derived.Test.YtmnkabdaapiikaaWFootNe
import Derived.Test.YtmnkabdaapiikaaWAt
import Derived.Test.YtmnkabdaapiikaaWEqStruct
import Derived.Test.YtmnkabdaapiikaaWRepsOne
import Derived.Test.YtmnkabdaapiikaaWInv
import Derived.Test.YtmnkabdaapiikaaWInvWords
import Derived.Test.YtmnkabdaapiikaaWGuard
import Derived.Test.YtmnkabdaapiikaaWNEv
import Derived.Test.YtmnkabdaapiikaaWMore
namespace Go.Proofs.Ytmnkabdaapiikaa.G
open Go.RowKit Go.Proofs.YtmnkabdaapiikaaW.PrintWords Go.Proofs.YtmnkabdaapiikaaW.PrintLast Go.Proofs.YtmnkabdaapiikaaW.PrintMore
attribute [local go_sem] max2_int min2_int max_two min_two max_three min_three max_four min_four   -- for this text's walks alone
set_option linter.unusedVariables false
set_option linter.unusedSimpArgs false



def errW : Option Int → Value
  | none => .nilIface
  | some c => .iface 0 (.int .i64 c)
theorem errW_none : errW none = .nilIface := rfl
theorem errW_some (c : Int) : errW (some c) = .iface 0 (.int .i64 c) := rfl

-- the values' own types

end Go.Proofs.Ytmnkabdaapiikaa.G
