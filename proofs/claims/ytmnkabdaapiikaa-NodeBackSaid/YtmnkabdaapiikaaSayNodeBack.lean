-- laid by a program of this session (wip/tools/xprint.py), function by function; Lean checks it
import Derived.Test.YtmnkabdaapiikaaRx11
import Derived.Test.YtmnkabdaapiikaaRx0
namespace Go.Proofs.Ytmnkabdaapiikaa.R
open Go.RowKit Go.Proofs.YtmnkabdaapiikaaW.PrintWords
/-- The one pure statement of the law. -/
def penelopelaw07_NodeBack.Pure : Prop := ∀ (x0 : S25) (a1 : Int) (a2 : ByteArray), (True ∧ (x0.f1.length ≤ maxLen ∧ ∀ a_ ∈ x0.f1, a_.size ≤ maxLen) ∧ (x0.f2.length ≤ maxLen ∧ ∀ a_ ∈ x0.f2, a_.size ≤ maxLen) ∧ (x0.f3.length ≤ maxLen ∧ ∀ a_ ∈ x0.f3, (Lit.int .i64 a_).wf = true)) → (Lit.int .i64 a1).wf = true → a2.size ≤ 140737488351232 → ∃ k, penelopelaw07_NodeBack.f k x0.f0 x0.f1 x0.f2 x0.f3 a1 a2 = some true
end Go.Proofs.Ytmnkabdaapiikaa.R
