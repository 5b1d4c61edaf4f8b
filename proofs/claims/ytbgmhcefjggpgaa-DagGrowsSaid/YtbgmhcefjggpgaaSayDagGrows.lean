-- laid by a program of this session (wip/tools/xprint.py), function by function; Lean checks it
import Derived.Test.YtbgmhcefjggpgaaXx16
import Derived.Test.YtbgmhcefjggpgaaXx0
namespace Go.Proofs.Ytbgmhcefjggpgaa.X
open Go.RowKit Go.Proofs.YtbgmhcefjggpgaaW.PrintWords
/-- The one pure statement of the law. -/
def penelopelaw16_DagGrows.Pure : Prop := ∀ (x0 : S24) (x1 : List Bool) (a2 : Int), (x0.f0.size ≤ maxLen ∧ (x0.f1.length ≤ maxLen ∧ ∀ a_ ∈ x0.f1, ((a_.f0.length ≤ maxLen ∧ ∀ b_ ∈ a_.f0, (Lit.int .i64 b_).wf = true) ∧ (Lit.int .i64 a_.f1).wf = true ∧ (Lit.int .i64 a_.f2).wf = true ∧ (Lit.int .i64 a_.f3).wf = true))) → (x1.length ≤ maxLen ∧ ∀ a_ ∈ x1, True) → (Lit.int .i64 a2).wf = true → ∃ k, penelopelaw16_DagGrows.f k x0.f0 x0.f1 x1 a2 = some true
end Go.Proofs.Ytbgmhcefjggpgaa.X
