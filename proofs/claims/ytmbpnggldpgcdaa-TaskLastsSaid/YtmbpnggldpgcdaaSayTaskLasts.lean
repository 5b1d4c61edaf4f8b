-- laid by a program of this session (wip/tools/xprint.py), function by function; Lean checks it
import Derived.Test.YtmbpnggldpgcdaaXx28
import Derived.Test.YtmbpnggldpgcdaaXx0
namespace Go.Proofs.Ytmbpnggldpgcdaa.X
open Go.RowKit Go.Proofs.YtmbpnggldpgcdaaW.PrintWords
/-- The one pure statement of the law. -/
def penelopelaw18_TaskLasts.Pure : Prop := ∀ (x0 : S24) (x1 : List (S42)), ((x0.f0.length ≤ maxLen ∧ ∀ a_ ∈ x0.f0, (Lit.int .i64 a_).wf = true) ∧ (Lit.int .i64 x0.f1).wf = true ∧ (Lit.int .i64 x0.f2).wf = true ∧ (Lit.int .i64 x0.f3).wf = true) → (x1.length ≤ maxLen ∧ ∀ a_ ∈ x1, ((Lit.int .i64 a_.f0).wf = true ∧ (Lit.int .i64 a_.f1).wf = true)) → ∃ k, penelopelaw18_TaskLasts.f k x0.f0 x0.f1 x0.f2 x0.f3 x1 = some true
end Go.Proofs.Ytmbpnggldpgcdaa.X
