/-
  No cell of these rows narrows 'for every input' (looked for: loops, veiled, ifaces, maps, wideKeys, modest, calm, conditions, laid).
  DERIVED. THE GIVEN ROWS OF THIS SEAT. 7 by the template 'for every input the law returns true; each argument reads behind the call as it read before'; 0 by the template 'total and deterministic' (their statements: YtnadpefbimbggaaTotals.lean).
  GIVEN WITH THE SEED: the statements are not yours to turn. If you find one false, say at which input.
  Laid BY PROGRAM, IN A SANDBOX (cutbox-rows.mjs): the forced cells as the released guide's own fill.sh prints them over the translation f258ea129766f174… (all of the seat's roots in one cut). By AI agents, Wed Nov 11 2026. No macro, syntax, notation, axiom, sorry.
-/
import Derived.Test.YtnadpefbimbggaaChecked
import GoSem.Claim
import GoSem.ClaimJoined
import GoSem.ClaimMapViews
import Derived.JoinedTies
import Derived.KernelRfl
namespace Go.Proofs.Ytnadpefbimbggaa
/- THE CELL 'sum', in the pinned program and in every row, IS THE sha256 OF THE DUMP (.gsa) THAT YtnadpefbimbggaaProg.lean LOADS. Nothing in Lean hashes anything: it is a label: what it is worth is what the hold of that sum in a sandbox is worth. -/
noncomputable def Try.pinned : Pinned := { name := "ytnadpefbimbggaa", sum := "f258ea129766f17488bef698f6a9a6f3e364a7e282be51a5a2b440f4494aa3ba", checked := Try.checked }
namespace Rows
def none {H : Type} : Left H := { results := [], args := [] }

/-- 'penelopelaw02.SumIs': WHATEVER THE INPUT: true; the input reads as it did. -/
def sumIsSpec : ChangeSpec := { name := "sumIs", fn := fun _ => fun
  | [d1, d2] => { results := [.lit (.bool true)], args := [d1, d2] }
  | _ => none }
def sumIsRow : OpenClaim := { program := "ytnadpefbimbggaa", sum := "f258ea129766f17488bef698f6a9a6f3e364a7e282be51a5a2b440f4494aa3ba", func := "penelope/penelopelaw02.SumIs", spec := "sumIs", apart := false }
def SumIsSaid : Prop := sumIsRow.holds Try.pinned (OpenSpec.ofChange sumIsSpec)

/-- ITS FALSE NEIGHBOUR: 'it returns false'. Refute it at one input. -/
def sumIsWrong : ChangeSpec := { name := "sumIs", fn := fun _ => fun
  | [d1, d2] => { results := [.lit (.bool false)], args := [d1, d2] }
  | _ => none }
def SumIsWrongFalsely : Prop := sumIsRow.holds Try.pinned (OpenSpec.ofChange sumIsWrong)

/-- 'penelopelaw02.SumJoins': WHATEVER THE INPUT: true; the input reads as it did. -/
def sumJoinsSpec : ChangeSpec := { name := "sumJoins", fn := fun _ => fun
  | [d1, d2, d3] => { results := [.lit (.bool true)], args := [d1, d2, d3] }
  | _ => none }
def sumJoinsRow : OpenClaim := { program := "ytnadpefbimbggaa", sum := "f258ea129766f17488bef698f6a9a6f3e364a7e282be51a5a2b440f4494aa3ba", func := "penelope/penelopelaw02.SumJoins", spec := "sumJoins", apart := false }
def SumJoinsSaid : Prop := sumJoinsRow.holds Try.pinned (OpenSpec.ofChange sumJoinsSpec)

/-- ITS FALSE NEIGHBOUR: 'it returns false'. Refute it at one input. -/
def sumJoinsWrong : ChangeSpec := { name := "sumJoins", fn := fun _ => fun
  | [d1, d2, d3] => { results := [.lit (.bool false)], args := [d1, d2, d3] }
  | _ => none }
def SumJoinsWrongFalsely : Prop := sumJoinsRow.holds Try.pinned (OpenSpec.ofChange sumJoinsWrong)

/-- 'penelopelaw02.SumBursts': WHATEVER THE INPUT: true; the input reads as it did. -/
def sumBurstsSpec : ChangeSpec := { name := "sumBursts", fn := fun _ => fun
  | [d1, d2, d3] => { results := [.lit (.bool true)], args := [d1, d2, d3] }
  | _ => none }
def sumBurstsRow : OpenClaim := { program := "ytnadpefbimbggaa", sum := "f258ea129766f17488bef698f6a9a6f3e364a7e282be51a5a2b440f4494aa3ba", func := "penelope/penelopelaw02.SumBursts", spec := "sumBursts", apart := false }
def SumBurstsSaid : Prop := sumBurstsRow.holds Try.pinned (OpenSpec.ofChange sumBurstsSpec)

/-- ITS FALSE NEIGHBOUR: 'it returns false'. Refute it at one input. -/
def sumBurstsWrong : ChangeSpec := { name := "sumBursts", fn := fun _ => fun
  | [d1, d2, d3] => { results := [.lit (.bool false)], args := [d1, d2, d3] }
  | _ => none }
def SumBurstsWrongFalsely : Prop := sumBurstsRow.holds Try.pinned (OpenSpec.ofChange sumBurstsWrong)

/-- 'penelopelaw02.SumThree': WHATEVER THE INPUT: true; the input reads as it did. -/
def sumThreeSpec : ChangeSpec := { name := "sumThree", fn := fun _ => fun
  | [d1, d2, d3] => { results := [.lit (.bool true)], args := [d1, d2, d3] }
  | _ => none }
def sumThreeRow : OpenClaim := { program := "ytnadpefbimbggaa", sum := "f258ea129766f17488bef698f6a9a6f3e364a7e282be51a5a2b440f4494aa3ba", func := "penelope/penelopelaw02.SumThree", spec := "sumThree", apart := false }
def SumThreeSaid : Prop := sumThreeRow.holds Try.pinned (OpenSpec.ofChange sumThreeSpec)

/-- ITS FALSE NEIGHBOUR: 'it returns false'. Refute it at one input. -/
def sumThreeWrong : ChangeSpec := { name := "sumThree", fn := fun _ => fun
  | [d1, d2, d3] => { results := [.lit (.bool false)], args := [d1, d2, d3] }
  | _ => none }
def SumThreeWrongFalsely : Prop := sumThreeRow.holds Try.pinned (OpenSpec.ofChange sumThreeWrong)

/-- 'penelopelaw02.SumSeals': WHATEVER THE INPUT: true; the input reads as it did. -/
def sumSealsSpec : ChangeSpec := { name := "sumSeals", fn := fun _ => fun
  | [d] => { results := [.lit (.bool true)], args := [d] }
  | _ => none }
def sumSealsRow : OpenClaim := { program := "ytnadpefbimbggaa", sum := "f258ea129766f17488bef698f6a9a6f3e364a7e282be51a5a2b440f4494aa3ba", func := "penelope/penelopelaw02.SumSeals", spec := "sumSeals", inPlace := ["internal/abi.NoEscape", "internal/bytealg.MakeNoZero"], apart := false }
def SumSealsSaid : Prop := sumSealsRow.holds Try.pinned (OpenSpec.ofChange sumSealsSpec)

/-- ITS FALSE NEIGHBOUR: 'it returns false'. Refute it at one input. -/
def sumSealsWrong : ChangeSpec := { name := "sumSeals", fn := fun _ => fun
  | [d] => { results := [.lit (.bool false)], args := [d] }
  | _ => none }
def SumSealsWrongFalsely : Prop := sumSealsRow.holds Try.pinned (OpenSpec.ofChange sumSealsWrong)

/-- 'penelopelaw02.SumTurned': WHATEVER THE INPUT: true; the input reads as it did. -/
def sumTurnedSpec : ChangeSpec := { name := "sumTurned", fn := fun _ => fun
  | [d1, d2, d3] => { results := [.lit (.bool true)], args := [d1, d2, d3] }
  | _ => none }
def sumTurnedRow : OpenClaim := { program := "ytnadpefbimbggaa", sum := "f258ea129766f17488bef698f6a9a6f3e364a7e282be51a5a2b440f4494aa3ba", func := "penelope/penelopelaw02.SumTurned", spec := "sumTurned", inPlace := ["internal/abi.NoEscape", "internal/bytealg.MakeNoZero"], apart := false }
def SumTurnedSaid : Prop := sumTurnedRow.holds Try.pinned (OpenSpec.ofChange sumTurnedSpec)

/-- ITS FALSE NEIGHBOUR: 'it returns false'. Refute it at one input. -/
def sumTurnedWrong : ChangeSpec := { name := "sumTurned", fn := fun _ => fun
  | [d1, d2, d3] => { results := [.lit (.bool false)], args := [d1, d2, d3] }
  | _ => none }
def SumTurnedWrongFalsely : Prop := sumTurnedRow.holds Try.pinned (OpenSpec.ofChange sumTurnedWrong)

/-- 'penelopelaw02.SumBack': WHATEVER THE INPUT: true; the input reads as it did. -/
def sumBackSpec : ChangeSpec := { name := "sumBack", fn := fun _ => fun
  | [d] => { results := [.lit (.bool true)], args := [d] }
  | _ => none }
def sumBackRow : OpenClaim := { program := "ytnadpefbimbggaa", sum := "f258ea129766f17488bef698f6a9a6f3e364a7e282be51a5a2b440f4494aa3ba", func := "penelope/penelopelaw02.SumBack", spec := "sumBack", inPlace := ["internal/abi.NoEscape", "internal/bytealg.MakeNoZero"], apart := false }
def SumBackSaid : Prop := sumBackRow.holds Try.pinned (OpenSpec.ofChange sumBackSpec)

/-- ITS FALSE NEIGHBOUR: 'it returns false'. Refute it at one input. -/
def sumBackWrong : ChangeSpec := { name := "sumBack", fn := fun _ => fun
  | [d] => { results := [.lit (.bool false)], args := [d] }
  | _ => none }
def SumBackWrongFalsely : Prop := sumBackRow.holds Try.pinned (OpenSpec.ofChange sumBackWrong)

/- THE SECOND FORM. 'bulk': how many values and letters a reading holds, each counted each time it is reached (what is shared counts as often as it is met; a slice's spare places count too). A statement '..UptoSaid' is the law's where the arguments, and the package variables that the reading takes, are together of bulk at most 1048576: NARROWER than '..Said'. Prove '..Said' where nothing that the law and all that it calls make is longer than what came in: it says more and counts as full. Else prove '..UptoSaid'. A law counts once. -/
mutual
def uptoBulk {H : Type} : DataW H → Nat
  | .lit (.string bytes) => bytes.length + 1
  | .lit _ => 1
  | .nil => 1
  | .ptr d => uptoBulk d + 1
  | .slice elems spare => uptoBulkAll elems + uptoBulkAll spare + 1
  | .agg parts => uptoBulkAll parts + 1
  | .iface _ d => uptoBulk d + 1
  | .map entries => uptoBulkEntries entries + 1
  | .held _ => 1
def uptoBulkAll {H : Type} : List (DataW H) → Nat
  | [] => 0
  | d :: r => uptoBulk d + uptoBulkAll r
def uptoBulkEntries {H : Type} : List (Lit × DataW H) → Nat
  | [] => 0
  | x :: r => uptoBulkEntry x + uptoBulkEntries r
def uptoBulkEntry {H : Type} : Lit × DataW H → Nat
  | (.string bytes, d) => bytes.length + uptoBulk d + 1
  | (_, d) => uptoBulk d + 1
 end
def uptoSmall : (H : Type) → List (DataW H) → Bool := fun _ ds => decide (uptoBulkAll ds ≤ 1048576)
def OpenSpec.upto (s : _root_.Go.ChangeSpec) : _root_.Go.OpenSpec := { _root_.Go.OpenSpec.ofChange s with cond := some uptoSmall }

/-- 'penelopelaw02.SumIs', WHERE WHAT IT READS IS OF BULK AT MOST 1048576: true; the input reads as it did. -/
def sumIsUptoRow : OpenClaim := { program := "ytnadpefbimbggaa", sum := "f258ea129766f17488bef698f6a9a6f3e364a7e282be51a5a2b440f4494aa3ba", func := "penelope/penelopelaw02.SumIs", spec := "sumIs", apart := false, narrowed := true }
def SumIsUptoSaid : Prop := sumIsUptoRow.holds Try.pinned (OpenSpec.upto sumIsSpec)

/-- 'penelopelaw02.SumJoins', WHERE WHAT IT READS IS OF BULK AT MOST 1048576: true; the input reads as it did. -/
def sumJoinsUptoRow : OpenClaim := { program := "ytnadpefbimbggaa", sum := "f258ea129766f17488bef698f6a9a6f3e364a7e282be51a5a2b440f4494aa3ba", func := "penelope/penelopelaw02.SumJoins", spec := "sumJoins", apart := false, narrowed := true }
def SumJoinsUptoSaid : Prop := sumJoinsUptoRow.holds Try.pinned (OpenSpec.upto sumJoinsSpec)

/-- 'penelopelaw02.SumBursts', WHERE WHAT IT READS IS OF BULK AT MOST 1048576: true; the input reads as it did. -/
def sumBurstsUptoRow : OpenClaim := { program := "ytnadpefbimbggaa", sum := "f258ea129766f17488bef698f6a9a6f3e364a7e282be51a5a2b440f4494aa3ba", func := "penelope/penelopelaw02.SumBursts", spec := "sumBursts", apart := false, narrowed := true }
def SumBurstsUptoSaid : Prop := sumBurstsUptoRow.holds Try.pinned (OpenSpec.upto sumBurstsSpec)

/-- 'penelopelaw02.SumThree', WHERE WHAT IT READS IS OF BULK AT MOST 1048576: true; the input reads as it did. -/
def sumThreeUptoRow : OpenClaim := { program := "ytnadpefbimbggaa", sum := "f258ea129766f17488bef698f6a9a6f3e364a7e282be51a5a2b440f4494aa3ba", func := "penelope/penelopelaw02.SumThree", spec := "sumThree", apart := false, narrowed := true }
def SumThreeUptoSaid : Prop := sumThreeUptoRow.holds Try.pinned (OpenSpec.upto sumThreeSpec)

/-- 'penelopelaw02.SumSeals', WHERE WHAT IT READS IS OF BULK AT MOST 1048576: true; the input reads as it did. -/
def sumSealsUptoRow : OpenClaim := { program := "ytnadpefbimbggaa", sum := "f258ea129766f17488bef698f6a9a6f3e364a7e282be51a5a2b440f4494aa3ba", func := "penelope/penelopelaw02.SumSeals", spec := "sumSeals", inPlace := ["internal/abi.NoEscape", "internal/bytealg.MakeNoZero"], apart := false, narrowed := true }
def SumSealsUptoSaid : Prop := sumSealsUptoRow.holds Try.pinned (OpenSpec.upto sumSealsSpec)

/-- 'penelopelaw02.SumTurned', WHERE WHAT IT READS IS OF BULK AT MOST 1048576: true; the input reads as it did. -/
def sumTurnedUptoRow : OpenClaim := { program := "ytnadpefbimbggaa", sum := "f258ea129766f17488bef698f6a9a6f3e364a7e282be51a5a2b440f4494aa3ba", func := "penelope/penelopelaw02.SumTurned", spec := "sumTurned", inPlace := ["internal/abi.NoEscape", "internal/bytealg.MakeNoZero"], apart := false, narrowed := true }
def SumTurnedUptoSaid : Prop := sumTurnedUptoRow.holds Try.pinned (OpenSpec.upto sumTurnedSpec)

/-- 'penelopelaw02.SumBack', WHERE WHAT IT READS IS OF BULK AT MOST 1048576: true; the input reads as it did. -/
def sumBackUptoRow : OpenClaim := { program := "ytnadpefbimbggaa", sum := "f258ea129766f17488bef698f6a9a6f3e364a7e282be51a5a2b440f4494aa3ba", func := "penelope/penelopelaw02.SumBack", spec := "sumBack", inPlace := ["internal/abi.NoEscape", "internal/bytealg.MakeNoZero"], apart := false, narrowed := true }
def SumBackUptoSaid : Prop := sumBackUptoRow.holds Try.pinned (OpenSpec.upto sumBackSpec)

end Rows
end Go.Proofs.Ytnadpefbimbggaa
