/-
  No cell of these rows narrows 'for every input' (looked for: loops, veiled, ifaces, maps, wideKeys, modest, calm, conditions, laid).
  DERIVED. THE GIVEN ROWS OF THIS SEAT. 5 by the template 'for every input the law returns true; each argument reads behind the call as it read before'; 0 by the template 'total and deterministic' (their statements: YtijabpabmipdbaaTotals.lean).
  GIVEN WITH THE SEED: the statements are not yours to turn. If you find one false, say at which input.
  Laid BY PROGRAM, IN A SANDBOX (cutbox-rows.mjs): the forced cells as the released guide's own fill.sh prints them over the translation 4fc1beced368bfa6… (all of the seat's roots in one cut). By AI agents, Wed Nov 11 2026. No macro, syntax, notation, axiom, sorry.
-/
import Derived.Test.YtijabpabmipdbaaChecked
import GoSem.Claim
import GoSem.ClaimJoined
import GoSem.ClaimMapViews
import Derived.JoinedTies
import Derived.KernelRfl
namespace Go.Proofs.Ytijabpabmipdbaa
/- THE CELL 'sum', in the pinned program and in every row, IS THE sha256 OF THE DUMP (.gsa) THAT YtijabpabmipdbaaProg.lean LOADS. Nothing in Lean hashes anything: it is a label: what it is worth is what the hold of that sum in a sandbox is worth. -/
noncomputable def Try.pinned : Pinned := { name := "ytijabpabmipdbaa", sum := "4fc1beced368bfa6c504688134188464d0dded0f949544bd0e0fa20fc6783a7d", checked := Try.checked }
namespace Rows
def none {H : Type} : Left H := { results := [], args := [] }

/-- 'penelopelaw17.WaitDoubles': WHATEVER THE INPUT: true; the input reads as it did. -/
def waitDoublesSpec : ChangeSpec := { name := "waitDoubles", fn := fun _ => fun
  | [d1, d2] => { results := [.lit (.bool true)], args := [d1, d2] }
  | _ => none }
def waitDoublesRow : OpenClaim := { program := "ytijabpabmipdbaa", sum := "4fc1beced368bfa6c504688134188464d0dded0f949544bd0e0fa20fc6783a7d", func := "penelope/penelopelaw17.WaitDoubles", spec := "waitDoubles", apart := false }
def WaitDoublesSaid : Prop := waitDoublesRow.holds Try.pinned (OpenSpec.ofChange waitDoublesSpec)

/-- ITS FALSE NEIGHBOUR: 'it returns false'. Refute it at one input. -/
def waitDoublesWrong : ChangeSpec := { name := "waitDoubles", fn := fun _ => fun
  | [d1, d2] => { results := [.lit (.bool false)], args := [d1, d2] }
  | _ => none }
def WaitDoublesWrongFalsely : Prop := waitDoublesRow.holds Try.pinned (OpenSpec.ofChange waitDoublesWrong)

/-- 'penelopelaw17.WaitAfter': WHATEVER THE INPUT: true; the input reads as it did. -/
def waitAfterSpec : ChangeSpec := { name := "waitAfter", fn := fun _ => fun
  | [d1, d2] => { results := [.lit (.bool true)], args := [d1, d2] }
  | _ => none }
def waitAfterRow : OpenClaim := { program := "ytijabpabmipdbaa", sum := "4fc1beced368bfa6c504688134188464d0dded0f949544bd0e0fa20fc6783a7d", func := "penelope/penelopelaw17.WaitAfter", spec := "waitAfter", apart := false }
def WaitAfterSaid : Prop := waitAfterRow.holds Try.pinned (OpenSpec.ofChange waitAfterSpec)

/-- ITS FALSE NEIGHBOUR: 'it returns false'. Refute it at one input. -/
def waitAfterWrong : ChangeSpec := { name := "waitAfter", fn := fun _ => fun
  | [d1, d2] => { results := [.lit (.bool false)], args := [d1, d2] }
  | _ => none }
def WaitAfterWrongFalsely : Prop := waitAfterRow.holds Try.pinned (OpenSpec.ofChange waitAfterWrong)

/-- 'penelopelaw17.WaitUntil': WHATEVER THE INPUT: true; the input reads as it did. -/
def waitUntilSpec : ChangeSpec := { name := "waitUntil", fn := fun _ => fun
  | [d1, d2] => { results := [.lit (.bool true)], args := [d1, d2] }
  | _ => none }
def waitUntilRow : OpenClaim := { program := "ytijabpabmipdbaa", sum := "4fc1beced368bfa6c504688134188464d0dded0f949544bd0e0fa20fc6783a7d", func := "penelope/penelopelaw17.WaitUntil", spec := "waitUntil", apart := false }
def WaitUntilSaid : Prop := waitUntilRow.holds Try.pinned (OpenSpec.ofChange waitUntilSpec)

/-- ITS FALSE NEIGHBOUR: 'it returns false'. Refute it at one input. -/
def waitUntilWrong : ChangeSpec := { name := "waitUntil", fn := fun _ => fun
  | [d1, d2] => { results := [.lit (.bool false)], args := [d1, d2] }
  | _ => none }
def WaitUntilWrongFalsely : Prop := waitUntilRow.holds Try.pinned (OpenSpec.ofChange waitUntilWrong)

/-- 'penelopelaw17.WaitRises': WHATEVER THE INPUT: true; the input reads as it did. -/
def waitRisesSpec : ChangeSpec := { name := "waitRises", fn := fun _ => fun
  | [d1, d2] => { results := [.lit (.bool true)], args := [d1, d2] }
  | _ => none }
def waitRisesRow : OpenClaim := { program := "ytijabpabmipdbaa", sum := "4fc1beced368bfa6c504688134188464d0dded0f949544bd0e0fa20fc6783a7d", func := "penelope/penelopelaw17.WaitRises", spec := "waitRises", apart := false }
def WaitRisesSaid : Prop := waitRisesRow.holds Try.pinned (OpenSpec.ofChange waitRisesSpec)

/-- ITS FALSE NEIGHBOUR: 'it returns false'. Refute it at one input. -/
def waitRisesWrong : ChangeSpec := { name := "waitRises", fn := fun _ => fun
  | [d1, d2] => { results := [.lit (.bool false)], args := [d1, d2] }
  | _ => none }
def WaitRisesWrongFalsely : Prop := waitRisesRow.holds Try.pinned (OpenSpec.ofChange waitRisesWrong)

/-- 'penelopelaw17.WaitSums': WHATEVER THE INPUT: true; the input reads as it did. -/
def waitSumsSpec : ChangeSpec := { name := "waitSums", fn := fun _ => fun
  | [d1, d2, d3] => { results := [.lit (.bool true)], args := [d1, d2, d3] }
  | _ => none }
def waitSumsRow : OpenClaim := { program := "ytijabpabmipdbaa", sum := "4fc1beced368bfa6c504688134188464d0dded0f949544bd0e0fa20fc6783a7d", func := "penelope/penelopelaw17.WaitSums", spec := "waitSums", apart := false }
def WaitSumsSaid : Prop := waitSumsRow.holds Try.pinned (OpenSpec.ofChange waitSumsSpec)

/-- ITS FALSE NEIGHBOUR: 'it returns false'. Refute it at one input. -/
def waitSumsWrong : ChangeSpec := { name := "waitSums", fn := fun _ => fun
  | [d1, d2, d3] => { results := [.lit (.bool false)], args := [d1, d2, d3] }
  | _ => none }
def WaitSumsWrongFalsely : Prop := waitSumsRow.holds Try.pinned (OpenSpec.ofChange waitSumsWrong)

/- THE SECOND FORM. 'bulk': how many values and letters a reading holds, each counted each time it is reached (what is shared counts as often as it is met; a slice's spare places count too). A statement '..UptoSaid' is the law's where the arguments, and the package variables that the reading takes, are together of bulk at most 1048576: NARROWER than '..Said'. Prove '..Said' where nothing that the law and all that it calls make is longer than what came in: it says more and counts as full. Else prove '..UptoSaid'. A law counts once. -/
mutual
def uptoBulk {H : Type} : DataW H → Nat
  | .lit (.string bytes) => bytes.length + 1
  | .lit _ => 1
  | .nil => 1
  | .ptr d => uptoBulk d + 1
  | .slice elems spare => uptoBulkAll elems + uptoBulkAll spare + 1
  | .agg parts => uptoBulkAll parts + 1
  | .iface _ d => uptoBulk d + 1
  | .map entries => uptoBulkEntries entries + 1
  | .held _ => 1
def uptoBulkAll {H : Type} : List (DataW H) → Nat
  | [] => 0
  | d :: r => uptoBulk d + uptoBulkAll r
def uptoBulkEntries {H : Type} : List (Lit × DataW H) → Nat
  | [] => 0
  | x :: r => uptoBulkEntry x + uptoBulkEntries r
def uptoBulkEntry {H : Type} : Lit × DataW H → Nat
  | (.string bytes, d) => bytes.length + uptoBulk d + 1
  | (_, d) => uptoBulk d + 1
 end
def uptoSmall : (H : Type) → List (DataW H) → Bool := fun _ ds => decide (uptoBulkAll ds ≤ 1048576)
def OpenSpec.upto (s : _root_.Go.ChangeSpec) : _root_.Go.OpenSpec := { _root_.Go.OpenSpec.ofChange s with cond := some uptoSmall }

/-- 'penelopelaw17.WaitDoubles', WHERE WHAT IT READS IS OF BULK AT MOST 1048576: true; the input reads as it did. -/
def waitDoublesUptoRow : OpenClaim := { program := "ytijabpabmipdbaa", sum := "4fc1beced368bfa6c504688134188464d0dded0f949544bd0e0fa20fc6783a7d", func := "penelope/penelopelaw17.WaitDoubles", spec := "waitDoubles", apart := false, narrowed := true }
def WaitDoublesUptoSaid : Prop := waitDoublesUptoRow.holds Try.pinned (OpenSpec.upto waitDoublesSpec)

/-- 'penelopelaw17.WaitAfter', WHERE WHAT IT READS IS OF BULK AT MOST 1048576: true; the input reads as it did. -/
def waitAfterUptoRow : OpenClaim := { program := "ytijabpabmipdbaa", sum := "4fc1beced368bfa6c504688134188464d0dded0f949544bd0e0fa20fc6783a7d", func := "penelope/penelopelaw17.WaitAfter", spec := "waitAfter", apart := false, narrowed := true }
def WaitAfterUptoSaid : Prop := waitAfterUptoRow.holds Try.pinned (OpenSpec.upto waitAfterSpec)

/-- 'penelopelaw17.WaitUntil', WHERE WHAT IT READS IS OF BULK AT MOST 1048576: true; the input reads as it did. -/
def waitUntilUptoRow : OpenClaim := { program := "ytijabpabmipdbaa", sum := "4fc1beced368bfa6c504688134188464d0dded0f949544bd0e0fa20fc6783a7d", func := "penelope/penelopelaw17.WaitUntil", spec := "waitUntil", apart := false, narrowed := true }
def WaitUntilUptoSaid : Prop := waitUntilUptoRow.holds Try.pinned (OpenSpec.upto waitUntilSpec)

/-- 'penelopelaw17.WaitRises', WHERE WHAT IT READS IS OF BULK AT MOST 1048576: true; the input reads as it did. -/
def waitRisesUptoRow : OpenClaim := { program := "ytijabpabmipdbaa", sum := "4fc1beced368bfa6c504688134188464d0dded0f949544bd0e0fa20fc6783a7d", func := "penelope/penelopelaw17.WaitRises", spec := "waitRises", apart := false, narrowed := true }
def WaitRisesUptoSaid : Prop := waitRisesUptoRow.holds Try.pinned (OpenSpec.upto waitRisesSpec)

/-- 'penelopelaw17.WaitSums', WHERE WHAT IT READS IS OF BULK AT MOST 1048576: true; the input reads as it did. -/
def waitSumsUptoRow : OpenClaim := { program := "ytijabpabmipdbaa", sum := "4fc1beced368bfa6c504688134188464d0dded0f949544bd0e0fa20fc6783a7d", func := "penelope/penelopelaw17.WaitSums", spec := "waitSums", apart := false, narrowed := true }
def WaitSumsUptoSaid : Prop := waitSumsUptoRow.holds Try.pinned (OpenSpec.upto waitSumsSpec)

end Rows
end Go.Proofs.Ytijabpabmipdbaa
