/-
  No cell of these rows narrows 'for every input' (looked for: loops, veiled, ifaces, maps, wideKeys, modest, calm, conditions, laid).
  DERIVED. THE GIVEN ROWS OF THIS SEAT. 5 by the template 'for every input the law returns true; each argument reads behind the call as it read before'; 0 by the template 'total and deterministic' (their statements: YtbgmhcefjggpgaaTotals.lean).
  GIVEN WITH THE SEED: the statements are not yours to turn. If you find one false, say at which input.
  Laid BY PROGRAM, IN A SANDBOX (cutbox-rows.mjs): the forced cells as the released guide's own fill.sh prints them over the translation 0481d197c74f4206… (all of the seat's roots in one cut). By AI agents, Wed Nov 11 2026. No macro, syntax, notation, axiom, sorry.
-/
import Derived.Test.YtbgmhcefjggpgaaChecked
import GoSem.Claim
import GoSem.ClaimJoined
import GoSem.ClaimMapViews
import Derived.JoinedTies
import Derived.KernelRfl
namespace Go.Proofs.Ytbgmhcefjggpgaa
/- THE CELL 'sum', in the pinned program and in every row, IS THE sha256 OF THE DUMP (.gsa) THAT YtbgmhcefjggpgaaProg.lean LOADS. Nothing in Lean hashes anything: it is a label: what it is worth is what the hold of that sum in a sandbox is worth. -/
noncomputable def Try.pinned : Pinned := { name := "ytbgmhcefjggpgaa", sum := "0481d197c74f42065687abd58d51c2afd1592522fc2b665f28c9466377123d9a", checked := Try.checked }
namespace Rows
def none {H : Type} : Left H := { results := [], args := [] }

/-- 'penelopelaw16.DagRights': WHATEVER THE INPUT: true; the input reads as it did. -/
def dagRightsSpec : ChangeSpec := { name := "dagRights", fn := fun _ => fun
  | [d1, d2] => { results := [.lit (.bool true)], args := [d1, d2] }
  | _ => none }
def dagRightsRow : OpenClaim := { program := "ytbgmhcefjggpgaa", sum := "0481d197c74f42065687abd58d51c2afd1592522fc2b665f28c9466377123d9a", func := "penelope/penelopelaw16.DagRights", spec := "dagRights", unfollowed := true, recurses := true, apart := false }
def DagRightsSaid : Prop := dagRightsRow.holds Try.pinned (OpenSpec.ofChange dagRightsSpec)

/-- ITS FALSE NEIGHBOUR: 'it returns false'. Refute it at one input. -/
def dagRightsWrong : ChangeSpec := { name := "dagRights", fn := fun _ => fun
  | [d1, d2] => { results := [.lit (.bool false)], args := [d1, d2] }
  | _ => none }
def DagRightsWrongFalsely : Prop := dagRightsRow.holds Try.pinned (OpenSpec.ofChange dagRightsWrong)

/-- 'penelopelaw16.DagOrder': WHATEVER THE INPUT: true; the input reads as it did. -/
def dagOrderSpec : ChangeSpec := { name := "dagOrder", fn := fun _ => fun
  | [d] => { results := [.lit (.bool true)], args := [d] }
  | _ => none }
def dagOrderRow : OpenClaim := { program := "ytbgmhcefjggpgaa", sum := "0481d197c74f42065687abd58d51c2afd1592522fc2b665f28c9466377123d9a", func := "penelope/penelopelaw16.DagOrder", spec := "dagOrder", unfollowed := true, recurses := true, apart := false }
def DagOrderSaid : Prop := dagOrderRow.holds Try.pinned (OpenSpec.ofChange dagOrderSpec)

/-- ITS FALSE NEIGHBOUR: 'it returns false'. Refute it at one input. -/
def dagOrderWrong : ChangeSpec := { name := "dagOrder", fn := fun _ => fun
  | [d] => { results := [.lit (.bool false)], args := [d] }
  | _ => none }
def DagOrderWrongFalsely : Prop := dagOrderRow.holds Try.pinned (OpenSpec.ofChange dagOrderWrong)

/-- 'penelopelaw16.DagGrows': WHATEVER THE INPUT: true; the input reads as it did. -/
def dagGrowsSpec : ChangeSpec := { name := "dagGrows", fn := fun _ => fun
  | [d1, d2, d3] => { results := [.lit (.bool true)], args := [d1, d2, d3] }
  | _ => none }
def dagGrowsRow : OpenClaim := { program := "ytbgmhcefjggpgaa", sum := "0481d197c74f42065687abd58d51c2afd1592522fc2b665f28c9466377123d9a", func := "penelope/penelopelaw16.DagGrows", spec := "dagGrows", unfollowed := true, recurses := true, apart := false }
def DagGrowsSaid : Prop := dagGrowsRow.holds Try.pinned (OpenSpec.ofChange dagGrowsSpec)

/-- ITS FALSE NEIGHBOUR: 'it returns false'. Refute it at one input. -/
def dagGrowsWrong : ChangeSpec := { name := "dagGrows", fn := fun _ => fun
  | [d1, d2, d3] => { results := [.lit (.bool false)], args := [d1, d2, d3] }
  | _ => none }
def DagGrowsWrongFalsely : Prop := dagGrowsRow.holds Try.pinned (OpenSpec.ofChange dagGrowsWrong)

/-- 'penelopelaw16.DagBytes': WHATEVER THE INPUT: true; the input reads as it did. -/
def dagBytesSpec : ChangeSpec := { name := "dagBytes", fn := fun _ => fun
  | [d1, d2] => { results := [.lit (.bool true)], args := [d1, d2] }
  | _ => none }
def dagBytesRow : OpenClaim := { program := "ytbgmhcefjggpgaa", sum := "0481d197c74f42065687abd58d51c2afd1592522fc2b665f28c9466377123d9a", func := "penelope/penelopelaw16.DagBytes", spec := "dagBytes", inPlace := ["internal/abi.NoEscape", "internal/bytealg.MakeNoZero"], unfollowed := true, recurses := true, apart := false }
def DagBytesSaid : Prop := dagBytesRow.holds Try.pinned (OpenSpec.ofChange dagBytesSpec)

/-- ITS FALSE NEIGHBOUR: 'it returns false'. Refute it at one input. -/
def dagBytesWrong : ChangeSpec := { name := "dagBytes", fn := fun _ => fun
  | [d1, d2] => { results := [.lit (.bool false)], args := [d1, d2] }
  | _ => none }
def DagBytesWrongFalsely : Prop := dagBytesRow.holds Try.pinned (OpenSpec.ofChange dagBytesWrong)

/-- 'penelopelaw16.DagBack': WHATEVER THE INPUT: true; the input reads as it did. -/
def dagBackSpec : ChangeSpec := { name := "dagBack", fn := fun _ => fun
  | [d1, d2] => { results := [.lit (.bool true)], args := [d1, d2] }
  | _ => none }
def dagBackRow : OpenClaim := { program := "ytbgmhcefjggpgaa", sum := "0481d197c74f42065687abd58d51c2afd1592522fc2b665f28c9466377123d9a", func := "penelope/penelopelaw16.DagBack", spec := "dagBack", inPlace := ["internal/abi.NoEscape", "internal/bytealg.MakeNoZero"], unfollowed := true, recurses := true, apart := false }
def DagBackSaid : Prop := dagBackRow.holds Try.pinned (OpenSpec.ofChange dagBackSpec)

/-- ITS FALSE NEIGHBOUR: 'it returns false'. Refute it at one input. -/
def dagBackWrong : ChangeSpec := { name := "dagBack", fn := fun _ => fun
  | [d1, d2] => { results := [.lit (.bool false)], args := [d1, d2] }
  | _ => none }
def DagBackWrongFalsely : Prop := dagBackRow.holds Try.pinned (OpenSpec.ofChange dagBackWrong)

/- THE SECOND FORM. 'bulk': how many values and letters a reading holds, each counted each time it is reached (what is shared counts as often as it is met; a slice's spare places count too). A statement '..UptoSaid' is the law's where the arguments, and the package variables that the reading takes, are together of bulk at most 1048576: NARROWER than '..Said'. Prove '..Said' where nothing that the law and all that it calls make is longer than what came in: it says more and counts as full. Else prove '..UptoSaid'. A law counts once. -/
mutual
def uptoBulk {H : Type} : DataW H → Nat
  | .lit (.string bytes) => bytes.length + 1
  | .lit _ => 1
  | .nil => 1
  | .ptr d => uptoBulk d + 1
  | .slice elems spare => uptoBulkAll elems + uptoBulkAll spare + 1
  | .agg parts => uptoBulkAll parts + 1
  | .iface _ d => uptoBulk d + 1
  | .map entries => uptoBulkEntries entries + 1
  | .held _ => 1
def uptoBulkAll {H : Type} : List (DataW H) → Nat
  | [] => 0
  | d :: r => uptoBulk d + uptoBulkAll r
def uptoBulkEntries {H : Type} : List (Lit × DataW H) → Nat
  | [] => 0
  | x :: r => uptoBulkEntry x + uptoBulkEntries r
def uptoBulkEntry {H : Type} : Lit × DataW H → Nat
  | (.string bytes, d) => bytes.length + uptoBulk d + 1
  | (_, d) => uptoBulk d + 1
 end
def uptoSmall : (H : Type) → List (DataW H) → Bool := fun _ ds => decide (uptoBulkAll ds ≤ 1048576)
def OpenSpec.upto (s : _root_.Go.ChangeSpec) : _root_.Go.OpenSpec := { _root_.Go.OpenSpec.ofChange s with cond := some uptoSmall }

/-- 'penelopelaw16.DagRights', WHERE WHAT IT READS IS OF BULK AT MOST 1048576: true; the input reads as it did. -/
def dagRightsUptoRow : OpenClaim := { program := "ytbgmhcefjggpgaa", sum := "0481d197c74f42065687abd58d51c2afd1592522fc2b665f28c9466377123d9a", func := "penelope/penelopelaw16.DagRights", spec := "dagRights", unfollowed := true, recurses := true, apart := false, narrowed := true }
def DagRightsUptoSaid : Prop := dagRightsUptoRow.holds Try.pinned (OpenSpec.upto dagRightsSpec)

/-- 'penelopelaw16.DagOrder', WHERE WHAT IT READS IS OF BULK AT MOST 1048576: true; the input reads as it did. -/
def dagOrderUptoRow : OpenClaim := { program := "ytbgmhcefjggpgaa", sum := "0481d197c74f42065687abd58d51c2afd1592522fc2b665f28c9466377123d9a", func := "penelope/penelopelaw16.DagOrder", spec := "dagOrder", unfollowed := true, recurses := true, apart := false, narrowed := true }
def DagOrderUptoSaid : Prop := dagOrderUptoRow.holds Try.pinned (OpenSpec.upto dagOrderSpec)

/-- 'penelopelaw16.DagGrows', WHERE WHAT IT READS IS OF BULK AT MOST 1048576: true; the input reads as it did. -/
def dagGrowsUptoRow : OpenClaim := { program := "ytbgmhcefjggpgaa", sum := "0481d197c74f42065687abd58d51c2afd1592522fc2b665f28c9466377123d9a", func := "penelope/penelopelaw16.DagGrows", spec := "dagGrows", unfollowed := true, recurses := true, apart := false, narrowed := true }
def DagGrowsUptoSaid : Prop := dagGrowsUptoRow.holds Try.pinned (OpenSpec.upto dagGrowsSpec)

/-- 'penelopelaw16.DagBytes', WHERE WHAT IT READS IS OF BULK AT MOST 1048576: true; the input reads as it did. -/
def dagBytesUptoRow : OpenClaim := { program := "ytbgmhcefjggpgaa", sum := "0481d197c74f42065687abd58d51c2afd1592522fc2b665f28c9466377123d9a", func := "penelope/penelopelaw16.DagBytes", spec := "dagBytes", inPlace := ["internal/abi.NoEscape", "internal/bytealg.MakeNoZero"], unfollowed := true, recurses := true, apart := false, narrowed := true }
def DagBytesUptoSaid : Prop := dagBytesUptoRow.holds Try.pinned (OpenSpec.upto dagBytesSpec)

/-- 'penelopelaw16.DagBack', WHERE WHAT IT READS IS OF BULK AT MOST 1048576: true; the input reads as it did. -/
def dagBackUptoRow : OpenClaim := { program := "ytbgmhcefjggpgaa", sum := "0481d197c74f42065687abd58d51c2afd1592522fc2b665f28c9466377123d9a", func := "penelope/penelopelaw16.DagBack", spec := "dagBack", inPlace := ["internal/abi.NoEscape", "internal/bytealg.MakeNoZero"], unfollowed := true, recurses := true, apart := false, narrowed := true }
def DagBackUptoSaid : Prop := dagBackUptoRow.holds Try.pinned (OpenSpec.upto dagBackSpec)

end Rows
end Go.Proofs.Ytbgmhcefjggpgaa
