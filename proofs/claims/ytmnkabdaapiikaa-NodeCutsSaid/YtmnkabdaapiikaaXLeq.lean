/- Comparing two texts: not above is the other's not being below. -/
import Derived.WalkKit
import Derived.Laws.Strings
import Derived.Lib.MinMaxS
namespace Go.Proofs.Ytmnkabdaapiikaa
theorem less_or_eq (a b : List UInt8) : (Op.bytesLess a b || a == b) = !(Op.bytesLess b a) := by
  rw [Proofs.bytesLess_eq, Proofs.bytesLess_eq]
  by_cases h : b < a
  · have h1 : ¬ a < b := fun h2 => List.lt_irrefl _ (List.lt_trans h h2)
    have h2 : a ≠ b := fun e => List.lt_irrefl _ (e ▸ h)
    simp [h, h1, h2]
  · rcases List.le_iff_lt_or_eq.1 (List.not_lt.1 h) with h1 | h1
    · simp [h, h1]
    · subst h1; simp
@[go_sem] theorem string_leq_not (t : TypeId) (a b : ByteArray) : binOp .leq t (.string a) (.string b) = pure (.bool (!(Op.bytesLess b.toList a.toList))) := by
  rw [← less_or_eq]
  simp [binOp, Op.stringOp]
end Go.Proofs.Ytmnkabdaapiikaa
