-- laid by a program of this session (wip/tools/xprint.py), function by function; Lean checks it
import Derived.Test.YtmnkabdaapiikaaCx9
import Derived.Test.YtmnkabdaapiikaaCx0
namespace Go.Proofs.Ytmnkabdaapiikaa.C
open Go.RowKit Go.Proofs.YtmnkabdaapiikaaW.PrintWords
/-- The one pure statement of the law. -/
def penelopelaw07_NodeHalves.Pure : Prop := ∀ (x0 : S25), (True ∧ (x0.f1.length ≤ maxLen ∧ ∀ a_ ∈ x0.f1, a_.size ≤ maxLen) ∧ (x0.f2.length ≤ maxLen ∧ ∀ a_ ∈ x0.f2, a_.size ≤ maxLen) ∧ (x0.f3.length ≤ maxLen ∧ ∀ a_ ∈ x0.f3, (Lit.int .i64 a_).wf = true)) → ∃ k, penelopelaw07_NodeHalves.f k x0.f0 x0.f1 x0.f2 x0.f3 = some true
end Go.Proofs.Ytmnkabdaapiikaa.C
