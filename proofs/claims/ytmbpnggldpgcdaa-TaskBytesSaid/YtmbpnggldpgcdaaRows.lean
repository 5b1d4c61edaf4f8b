/-
  No cell of these rows narrows 'for every input' (looked for: loops, veiled, ifaces, maps, wideKeys, modest, calm, conditions, laid).
  DERIVED. THE GIVEN ROWS OF THIS SEAT. 7 by the template 'for every input the law returns true; each argument reads behind the call as it read before'; 0 by the template 'total and deterministic' (their statements: YtmbpnggldpgcdaaTotals.lean).
  GIVEN WITH THE SEED: the statements are not yours to turn. If you find one false, say at which input.
  Laid BY PROGRAM, IN A SANDBOX (cutbox-rows.mjs): the forced cells as the released guide's own fill.sh prints them over the translation 54fe59a75ab5cd9e… (all of the seat's roots in one cut). By AI agents, Wed Nov 11 2026. No macro, syntax, notation, axiom, sorry.
-/
import Derived.Test.YtmbpnggldpgcdaaChecked
import GoSem.Claim
import GoSem.ClaimJoined
import GoSem.ClaimMapViews
import Derived.JoinedTies
import Derived.KernelRfl
namespace Go.Proofs.Ytmbpnggldpgcdaa
/- THE CELL 'sum', in the pinned program and in every row, IS THE sha256 OF THE DUMP (.gsa) THAT YtmbpnggldpgcdaaProg.lean LOADS. Nothing in Lean hashes anything: it is a label: what it is worth is what the hold of that sum in a sandbox is worth. -/
noncomputable def Try.pinned : Pinned := { name := "ytmbpnggldpgcdaa", sum := "54fe59a75ab5cd9e27a1c3f427c5efe5149c70934a3f4c37db2ebc5417ca9d0e", checked := Try.checked }
namespace Rows
def none {H : Type} : Left H := { results := [], args := [] }

/-- 'penelopelaw18.TaskLeases': WHATEVER THE INPUT: true; the input reads as it did. -/
def taskLeasesSpec : ChangeSpec := { name := "taskLeases", fn := fun _ => fun
  | [d1, d2, d3, d4] => { results := [.lit (.bool true)], args := [d1, d2, d3, d4] }
  | _ => none }
def taskLeasesRow : OpenClaim := { program := "ytmbpnggldpgcdaa", sum := "54fe59a75ab5cd9e27a1c3f427c5efe5149c70934a3f4c37db2ebc5417ca9d0e", func := "penelope/penelopelaw18.TaskLeases", spec := "taskLeases", apart := false }
def TaskLeasesSaid : Prop := taskLeasesRow.holds Try.pinned (OpenSpec.ofChange taskLeasesSpec)

/-- ITS FALSE NEIGHBOUR: 'it returns false'. Refute it at one input. -/
def taskLeasesWrong : ChangeSpec := { name := "taskLeases", fn := fun _ => fun
  | [d1, d2, d3, d4] => { results := [.lit (.bool false)], args := [d1, d2, d3, d4] }
  | _ => none }
def TaskLeasesWrongFalsely : Prop := taskLeasesRow.holds Try.pinned (OpenSpec.ofChange taskLeasesWrong)

/-- 'penelopelaw18.TaskBeats': WHATEVER THE INPUT: true; the input reads as it did. -/
def taskBeatsSpec : ChangeSpec := { name := "taskBeats", fn := fun _ => fun
  | [d1, d2, d3, d4] => { results := [.lit (.bool true)], args := [d1, d2, d3, d4] }
  | _ => none }
def taskBeatsRow : OpenClaim := { program := "ytmbpnggldpgcdaa", sum := "54fe59a75ab5cd9e27a1c3f427c5efe5149c70934a3f4c37db2ebc5417ca9d0e", func := "penelope/penelopelaw18.TaskBeats", spec := "taskBeats", apart := false }
def TaskBeatsSaid : Prop := taskBeatsRow.holds Try.pinned (OpenSpec.ofChange taskBeatsSpec)

/-- ITS FALSE NEIGHBOUR: 'it returns false'. Refute it at one input. -/
def taskBeatsWrong : ChangeSpec := { name := "taskBeats", fn := fun _ => fun
  | [d1, d2, d3, d4] => { results := [.lit (.bool false)], args := [d1, d2, d3, d4] }
  | _ => none }
def TaskBeatsWrongFalsely : Prop := taskBeatsRow.holds Try.pinned (OpenSpec.ofChange taskBeatsWrong)

/-- 'penelopelaw18.TaskEnds': WHATEVER THE INPUT: true; the input reads as it did. -/
def taskEndsSpec : ChangeSpec := { name := "taskEnds", fn := fun _ => fun
  | [d1, d2, d3, d4] => { results := [.lit (.bool true)], args := [d1, d2, d3, d4] }
  | _ => none }
def taskEndsRow : OpenClaim := { program := "ytmbpnggldpgcdaa", sum := "54fe59a75ab5cd9e27a1c3f427c5efe5149c70934a3f4c37db2ebc5417ca9d0e", func := "penelope/penelopelaw18.TaskEnds", spec := "taskEnds", apart := false }
def TaskEndsSaid : Prop := taskEndsRow.holds Try.pinned (OpenSpec.ofChange taskEndsSpec)

/-- ITS FALSE NEIGHBOUR: 'it returns false'. Refute it at one input. -/
def taskEndsWrong : ChangeSpec := { name := "taskEnds", fn := fun _ => fun
  | [d1, d2, d3, d4] => { results := [.lit (.bool false)], args := [d1, d2, d3, d4] }
  | _ => none }
def TaskEndsWrongFalsely : Prop := taskEndsRow.holds Try.pinned (OpenSpec.ofChange taskEndsWrong)

/-- 'penelopelaw18.TaskRights': WHATEVER THE INPUT: true; the input reads as it did. -/
def taskRightsSpec : ChangeSpec := { name := "taskRights", fn := fun _ => fun
  | [d1, d2, d3] => { results := [.lit (.bool true)], args := [d1, d2, d3] }
  | _ => none }
def taskRightsRow : OpenClaim := { program := "ytmbpnggldpgcdaa", sum := "54fe59a75ab5cd9e27a1c3f427c5efe5149c70934a3f4c37db2ebc5417ca9d0e", func := "penelope/penelopelaw18.TaskRights", spec := "taskRights", apart := false }
def TaskRightsSaid : Prop := taskRightsRow.holds Try.pinned (OpenSpec.ofChange taskRightsSpec)

/-- ITS FALSE NEIGHBOUR: 'it returns false'. Refute it at one input. -/
def taskRightsWrong : ChangeSpec := { name := "taskRights", fn := fun _ => fun
  | [d1, d2, d3] => { results := [.lit (.bool false)], args := [d1, d2, d3] }
  | _ => none }
def TaskRightsWrongFalsely : Prop := taskRightsRow.holds Try.pinned (OpenSpec.ofChange taskRightsWrong)

/-- 'penelopelaw18.TaskLasts': WHATEVER THE INPUT: true; the input reads as it did. -/
def taskLastsSpec : ChangeSpec := { name := "taskLasts", fn := fun _ => fun
  | [d1, d2] => { results := [.lit (.bool true)], args := [d1, d2] }
  | _ => none }
def taskLastsRow : OpenClaim := { program := "ytmbpnggldpgcdaa", sum := "54fe59a75ab5cd9e27a1c3f427c5efe5149c70934a3f4c37db2ebc5417ca9d0e", func := "penelope/penelopelaw18.TaskLasts", spec := "taskLasts", apart := false }
def TaskLastsSaid : Prop := taskLastsRow.holds Try.pinned (OpenSpec.ofChange taskLastsSpec)

/-- ITS FALSE NEIGHBOUR: 'it returns false'. Refute it at one input. -/
def taskLastsWrong : ChangeSpec := { name := "taskLasts", fn := fun _ => fun
  | [d1, d2] => { results := [.lit (.bool false)], args := [d1, d2] }
  | _ => none }
def TaskLastsWrongFalsely : Prop := taskLastsRow.holds Try.pinned (OpenSpec.ofChange taskLastsWrong)

/-- 'penelopelaw18.TaskBytes': WHATEVER THE INPUT: true; the input reads as it did. -/
def taskBytesSpec : ChangeSpec := { name := "taskBytes", fn := fun _ => fun
  | [d1, d2] => { results := [.lit (.bool true)], args := [d1, d2] }
  | _ => none }
def taskBytesRow : OpenClaim := { program := "ytmbpnggldpgcdaa", sum := "54fe59a75ab5cd9e27a1c3f427c5efe5149c70934a3f4c37db2ebc5417ca9d0e", func := "penelope/penelopelaw18.TaskBytes", spec := "taskBytes", inPlace := ["internal/abi.NoEscape", "internal/bytealg.MakeNoZero"], apart := false }
def TaskBytesSaid : Prop := taskBytesRow.holds Try.pinned (OpenSpec.ofChange taskBytesSpec)

/-- ITS FALSE NEIGHBOUR: 'it returns false'. Refute it at one input. -/
def taskBytesWrong : ChangeSpec := { name := "taskBytes", fn := fun _ => fun
  | [d1, d2] => { results := [.lit (.bool false)], args := [d1, d2] }
  | _ => none }
def TaskBytesWrongFalsely : Prop := taskBytesRow.holds Try.pinned (OpenSpec.ofChange taskBytesWrong)

/-- 'penelopelaw18.TaskBack': WHATEVER THE INPUT: true; the input reads as it did. -/
def taskBackSpec : ChangeSpec := { name := "taskBack", fn := fun _ => fun
  | [d1, d2] => { results := [.lit (.bool true)], args := [d1, d2] }
  | _ => none }
def taskBackRow : OpenClaim := { program := "ytmbpnggldpgcdaa", sum := "54fe59a75ab5cd9e27a1c3f427c5efe5149c70934a3f4c37db2ebc5417ca9d0e", func := "penelope/penelopelaw18.TaskBack", spec := "taskBack", inPlace := ["internal/abi.NoEscape", "internal/bytealg.MakeNoZero"], apart := false }
def TaskBackSaid : Prop := taskBackRow.holds Try.pinned (OpenSpec.ofChange taskBackSpec)

/-- ITS FALSE NEIGHBOUR: 'it returns false'. Refute it at one input. -/
def taskBackWrong : ChangeSpec := { name := "taskBack", fn := fun _ => fun
  | [d1, d2] => { results := [.lit (.bool false)], args := [d1, d2] }
  | _ => none }
def TaskBackWrongFalsely : Prop := taskBackRow.holds Try.pinned (OpenSpec.ofChange taskBackWrong)

/- THE SECOND FORM. 'bulk': how many values and letters a reading holds, each counted each time it is reached (what is shared counts as often as it is met; a slice's spare places count too). A statement '..UptoSaid' is the law's where the arguments, and the package variables that the reading takes, are together of bulk at most 1048576: NARROWER than '..Said'. Prove '..Said' where nothing that the law and all that it calls make is longer than what came in: it says more and counts as full. Else prove '..UptoSaid'. A law counts once. -/
mutual
def uptoBulk {H : Type} : DataW H → Nat
  | .lit (.string bytes) => bytes.length + 1
  | .lit _ => 1
  | .nil => 1
  | .ptr d => uptoBulk d + 1
  | .slice elems spare => uptoBulkAll elems + uptoBulkAll spare + 1
  | .agg parts => uptoBulkAll parts + 1
  | .iface _ d => uptoBulk d + 1
  | .map entries => uptoBulkEntries entries + 1
  | .held _ => 1
def uptoBulkAll {H : Type} : List (DataW H) → Nat
  | [] => 0
  | d :: r => uptoBulk d + uptoBulkAll r
def uptoBulkEntries {H : Type} : List (Lit × DataW H) → Nat
  | [] => 0
  | x :: r => uptoBulkEntry x + uptoBulkEntries r
def uptoBulkEntry {H : Type} : Lit × DataW H → Nat
  | (.string bytes, d) => bytes.length + uptoBulk d + 1
  | (_, d) => uptoBulk d + 1
 end
def uptoSmall : (H : Type) → List (DataW H) → Bool := fun _ ds => decide (uptoBulkAll ds ≤ 1048576)
def OpenSpec.upto (s : _root_.Go.ChangeSpec) : _root_.Go.OpenSpec := { _root_.Go.OpenSpec.ofChange s with cond := some uptoSmall }

/-- 'penelopelaw18.TaskLeases', WHERE WHAT IT READS IS OF BULK AT MOST 1048576: true; the input reads as it did. -/
def taskLeasesUptoRow : OpenClaim := { program := "ytmbpnggldpgcdaa", sum := "54fe59a75ab5cd9e27a1c3f427c5efe5149c70934a3f4c37db2ebc5417ca9d0e", func := "penelope/penelopelaw18.TaskLeases", spec := "taskLeases", apart := false, narrowed := true }
def TaskLeasesUptoSaid : Prop := taskLeasesUptoRow.holds Try.pinned (OpenSpec.upto taskLeasesSpec)

/-- 'penelopelaw18.TaskBeats', WHERE WHAT IT READS IS OF BULK AT MOST 1048576: true; the input reads as it did. -/
def taskBeatsUptoRow : OpenClaim := { program := "ytmbpnggldpgcdaa", sum := "54fe59a75ab5cd9e27a1c3f427c5efe5149c70934a3f4c37db2ebc5417ca9d0e", func := "penelope/penelopelaw18.TaskBeats", spec := "taskBeats", apart := false, narrowed := true }
def TaskBeatsUptoSaid : Prop := taskBeatsUptoRow.holds Try.pinned (OpenSpec.upto taskBeatsSpec)

/-- 'penelopelaw18.TaskEnds', WHERE WHAT IT READS IS OF BULK AT MOST 1048576: true; the input reads as it did. -/
def taskEndsUptoRow : OpenClaim := { program := "ytmbpnggldpgcdaa", sum := "54fe59a75ab5cd9e27a1c3f427c5efe5149c70934a3f4c37db2ebc5417ca9d0e", func := "penelope/penelopelaw18.TaskEnds", spec := "taskEnds", apart := false, narrowed := true }
def TaskEndsUptoSaid : Prop := taskEndsUptoRow.holds Try.pinned (OpenSpec.upto taskEndsSpec)

/-- 'penelopelaw18.TaskRights', WHERE WHAT IT READS IS OF BULK AT MOST 1048576: true; the input reads as it did. -/
def taskRightsUptoRow : OpenClaim := { program := "ytmbpnggldpgcdaa", sum := "54fe59a75ab5cd9e27a1c3f427c5efe5149c70934a3f4c37db2ebc5417ca9d0e", func := "penelope/penelopelaw18.TaskRights", spec := "taskRights", apart := false, narrowed := true }
def TaskRightsUptoSaid : Prop := taskRightsUptoRow.holds Try.pinned (OpenSpec.upto taskRightsSpec)

/-- 'penelopelaw18.TaskLasts', WHERE WHAT IT READS IS OF BULK AT MOST 1048576: true; the input reads as it did. -/
def taskLastsUptoRow : OpenClaim := { program := "ytmbpnggldpgcdaa", sum := "54fe59a75ab5cd9e27a1c3f427c5efe5149c70934a3f4c37db2ebc5417ca9d0e", func := "penelope/penelopelaw18.TaskLasts", spec := "taskLasts", apart := false, narrowed := true }
def TaskLastsUptoSaid : Prop := taskLastsUptoRow.holds Try.pinned (OpenSpec.upto taskLastsSpec)

/-- 'penelopelaw18.TaskBytes', WHERE WHAT IT READS IS OF BULK AT MOST 1048576: true; the input reads as it did. -/
def taskBytesUptoRow : OpenClaim := { program := "ytmbpnggldpgcdaa", sum := "54fe59a75ab5cd9e27a1c3f427c5efe5149c70934a3f4c37db2ebc5417ca9d0e", func := "penelope/penelopelaw18.TaskBytes", spec := "taskBytes", inPlace := ["internal/abi.NoEscape", "internal/bytealg.MakeNoZero"], apart := false, narrowed := true }
def TaskBytesUptoSaid : Prop := taskBytesUptoRow.holds Try.pinned (OpenSpec.upto taskBytesSpec)

/-- 'penelopelaw18.TaskBack', WHERE WHAT IT READS IS OF BULK AT MOST 1048576: true; the input reads as it did. -/
def taskBackUptoRow : OpenClaim := { program := "ytmbpnggldpgcdaa", sum := "54fe59a75ab5cd9e27a1c3f427c5efe5149c70934a3f4c37db2ebc5417ca9d0e", func := "penelope/penelopelaw18.TaskBack", spec := "taskBack", inPlace := ["internal/abi.NoEscape", "internal/bytealg.MakeNoZero"], apart := false, narrowed := true }
def TaskBackUptoSaid : Prop := taskBackUptoRow.holds Try.pinned (OpenSpec.upto taskBackSpec)

end Rows
end Go.Proofs.Ytmbpnggldpgcdaa
