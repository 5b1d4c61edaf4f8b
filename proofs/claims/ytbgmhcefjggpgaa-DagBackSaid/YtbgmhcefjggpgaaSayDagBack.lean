-- laid by a program of this session (wip/tools/xprint.py), function by function; Lean checks it
import Derived.Test.YtbgmhcefjggpgaaXx22
import Derived.Test.YtbgmhcefjggpgaaXx0
namespace Go.Proofs.Ytbgmhcefjggpgaa.X
open Go.RowKit Go.Proofs.YtbgmhcefjggpgaaW.PrintWords
/-- The one pure statement of the law. -/
def penelopelaw16_DagBack.Pure : Prop := ∀ (x0 : S24) (a1 : ByteArray), (x0.f0.size ≤ maxLen ∧ (x0.f1.length ≤ maxLen ∧ ∀ a_ ∈ x0.f1, ((a_.f0.length ≤ maxLen ∧ ∀ b_ ∈ a_.f0, (Lit.int .i64 b_).wf = true) ∧ (Lit.int .i64 a_.f1).wf = true ∧ (Lit.int .i64 a_.f2).wf = true ∧ (Lit.int .i64 a_.f3).wf = true))) → a1.size ≤ 140737488351232 → ∃ k, penelopelaw16_DagBack.f k x0.f0 x0.f1 a1 = some true
end Go.Proofs.Ytbgmhcefjggpgaa.X
