-- laid by a program of this session (wip/tools/xprint.py), function by function; Lean checks it
import Derived.Test.YtmbpnggldpgcdaaXx24
import Derived.Test.YtmbpnggldpgcdaaXx0
namespace Go.Proofs.Ytmbpnggldpgcdaa.X
open Go.RowKit Go.Proofs.YtmbpnggldpgcdaaW.PrintWords
/-- The one pure statement of the law. -/
def penelopelaw18_TaskBeats.Pure : Prop := ∀ (x0 : S24) (x1 : S26) (a2 : Int) (a3 : Int), ((x0.f0.length ≤ maxLen ∧ ∀ a_ ∈ x0.f0, (Lit.int .i64 a_).wf = true) ∧ (Lit.int .i64 x0.f1).wf = true ∧ (Lit.int .i64 x0.f2).wf = true ∧ (Lit.int .i64 x0.f3).wf = true) → ((Lit.int .i64 x1.f0).wf = true ∧ (Lit.int .i64 x1.f1).wf = true ∧ (Lit.int .i64 x1.f2).wf = true ∧ (Lit.int .i64 x1.f3).wf = true ∧ x1.f4.size ≤ maxLen) → (Lit.int .i64 a2).wf = true → (Lit.int .i64 a3).wf = true → ∃ k, penelopelaw18_TaskBeats.f k x0.f0 x0.f1 x0.f2 x0.f3 x1.f0 x1.f1 x1.f2 x1.f3 x1.f4 a2 a3 = some true
end Go.Proofs.Ytmbpnggldpgcdaa.X
