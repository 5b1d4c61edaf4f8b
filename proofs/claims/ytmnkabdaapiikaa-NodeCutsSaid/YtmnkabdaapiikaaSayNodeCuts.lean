-- laid by a program of this session (wip/tools/xprint.py), function by function; Lean checks it
import Derived.Test.YtmnkabdaapiikaaCx8
import Derived.Test.YtmnkabdaapiikaaCx0
namespace Go.Proofs.Ytmnkabdaapiikaa.C
open Go.RowKit Go.Proofs.YtmnkabdaapiikaaW.PrintWords
/-- The one pure statement of the law. -/
def penelopelaw07_NodeCuts.Pure : Prop := ∀ (x0 : S25) (a1 : ByteArray) (x2 : S25), (True ∧ (x0.f1.length ≤ maxLen ∧ ∀ a_ ∈ x0.f1, a_.size ≤ maxLen) ∧ (x0.f2.length ≤ maxLen ∧ ∀ a_ ∈ x0.f2, a_.size ≤ maxLen) ∧ (x0.f3.length ≤ maxLen ∧ ∀ a_ ∈ x0.f3, (Lit.int .i64 a_).wf = true)) → a1.size ≤ 140737488351232 → (True ∧ (x2.f1.length ≤ maxLen ∧ ∀ a_ ∈ x2.f1, a_.size ≤ maxLen) ∧ (x2.f2.length ≤ maxLen ∧ ∀ a_ ∈ x2.f2, a_.size ≤ maxLen) ∧ (x2.f3.length ≤ maxLen ∧ ∀ a_ ∈ x2.f3, (Lit.int .i64 a_).wf = true)) → ∃ k, penelopelaw07_NodeCuts.f k x0.f0 x0.f1 x0.f2 x0.f3 a1 x2.f0 x2.f1 x2.f2 x2.f3 = some true
end Go.Proofs.Ytmnkabdaapiikaa.C
