-- laid by a program of this session (wip/tools/xprint.py), function by function; Lean checks it
import Derived.Test.YtmbpnggldpgcdaaBx13
import Derived.Test.YtmbpnggldpgcdaaBx0
namespace Go.Proofs.Ytmbpnggldpgcdaa.B
open Go.RowKit Go.Proofs.YtmbpnggldpgcdaaW.PrintWords
/-- The one pure statement of the law. -/
def penelopelaw18_TaskBytes.Pure : Prop := ∀ (x0 : S26) (a1 : ByteArray), ((Lit.int .i64 x0.f0).wf = true ∧ (Lit.int .i64 x0.f1).wf = true ∧ (Lit.int .i64 x0.f2).wf = true ∧ (Lit.int .i64 x0.f3).wf = true ∧ x0.f4.size ≤ maxLen) → a1.size ≤ 140737488351232 → ∃ k, penelopelaw18_TaskBytes.f k x0.f0 x0.f1 x0.f2 x0.f3 x0.f4 a1 = some true
end Go.Proofs.Ytmbpnggldpgcdaa.B
