/-
  No cell of these rows narrows 'for every input' (looked for: loops, veiled, ifaces, maps, wideKeys, modest, calm, conditions, laid).
  DERIVED. THE GIVEN ROWS OF THIS SEAT. 6 by the template 'for every input the law returns true; each argument reads behind the call as it read before'; 0 by the template 'total and deterministic' (their statements: YtabmkighhmchmaaTotals.lean).
  GIVEN WITH THE SEED: the statements are not yours to turn. If you find one false, say at which input.
  Laid BY PROGRAM, IN A SANDBOX (cutbox-rows.mjs): the forced cells as the released guide's own fill.sh prints them over the translation 24a49a596709df0e… (all of the seat's roots in one cut). By AI agents, Wed Nov 11 2026. No macro, syntax, notation, axiom, sorry.
-/
import Derived.Test.YtabmkighhmchmaaChecked
import GoSem.Claim
import GoSem.ClaimJoined
import GoSem.ClaimMapViews
import Derived.JoinedTies
import Derived.KernelRfl
namespace Go.Proofs.Ytabmkighhmchmaa
/- THE CELL 'sum', in the pinned program and in every row, IS THE sha256 OF THE DUMP (.gsa) THAT YtabmkighhmchmaaProg.lean LOADS. Nothing in Lean hashes anything: it is a label: what it is worth is what the hold of that sum in a sandbox is worth. -/
noncomputable def Try.pinned : Pinned := { name := "ytabmkighhmchmaa", sum := "24a49a596709df0efdfe9793e4a46f3c6fd910ad42f6fcc63ccb07c821ed5a2a", checked := Try.checked }
namespace Rows
def none {H : Type} : Left H := { results := [], args := [] }

/-- 'penelopelaw19.RunRights': WHATEVER THE INPUT: true; the input reads as it did. -/
def runRightsSpec : ChangeSpec := { name := "runRights", fn := fun _ => fun
  | [d1, d2] => { results := [.lit (.bool true)], args := [d1, d2] }
  | _ => none }
def runRightsRow : OpenClaim := { program := "ytabmkighhmchmaa", sum := "24a49a596709df0efdfe9793e4a46f3c6fd910ad42f6fcc63ccb07c821ed5a2a", func := "penelope/penelopelaw19.RunRights", spec := "runRights", unfollowed := true, recurses := true, apart := false }
def RunRightsSaid : Prop := runRightsRow.holds Try.pinned (OpenSpec.ofChange runRightsSpec)

/-- ITS FALSE NEIGHBOUR: 'it returns false'. Refute it at one input. -/
def runRightsWrong : ChangeSpec := { name := "runRights", fn := fun _ => fun
  | [d1, d2] => { results := [.lit (.bool false)], args := [d1, d2] }
  | _ => none }
def RunRightsWrongFalsely : Prop := runRightsRow.holds Try.pinned (OpenSpec.ofChange runRightsWrong)

/-- 'penelopelaw19.RunTolds': WHATEVER THE INPUT: true; the input reads as it did. -/
def runToldsSpec : ChangeSpec := { name := "runTolds", fn := fun _ => fun
  | [d1, d2, d3, d4] => { results := [.lit (.bool true)], args := [d1, d2, d3, d4] }
  | _ => none }
def runToldsRow : OpenClaim := { program := "ytabmkighhmchmaa", sum := "24a49a596709df0efdfe9793e4a46f3c6fd910ad42f6fcc63ccb07c821ed5a2a", func := "penelope/penelopelaw19.RunTolds", spec := "runTolds", unfollowed := true, recurses := true, apart := false }
def RunToldsSaid : Prop := runToldsRow.holds Try.pinned (OpenSpec.ofChange runToldsSpec)

/-- ITS FALSE NEIGHBOUR: 'it returns false'. Refute it at one input. -/
def runToldsWrong : ChangeSpec := { name := "runTolds", fn := fun _ => fun
  | [d1, d2, d3, d4] => { results := [.lit (.bool false)], args := [d1, d2, d3, d4] }
  | _ => none }
def RunToldsWrongFalsely : Prop := runToldsRow.holds Try.pinned (OpenSpec.ofChange runToldsWrong)

/-- 'penelopelaw19.RunLeases': WHATEVER THE INPUT: true; the input reads as it did. -/
def runLeasesSpec : ChangeSpec := { name := "runLeases", fn := fun _ => fun
  | [d1, d2, d3] => { results := [.lit (.bool true)], args := [d1, d2, d3] }
  | _ => none }
def runLeasesRow : OpenClaim := { program := "ytabmkighhmchmaa", sum := "24a49a596709df0efdfe9793e4a46f3c6fd910ad42f6fcc63ccb07c821ed5a2a", func := "penelope/penelopelaw19.RunLeases", spec := "runLeases", unfollowed := true, recurses := true, apart := false }
def RunLeasesSaid : Prop := runLeasesRow.holds Try.pinned (OpenSpec.ofChange runLeasesSpec)

/-- ITS FALSE NEIGHBOUR: 'it returns false'. Refute it at one input. -/
def runLeasesWrong : ChangeSpec := { name := "runLeases", fn := fun _ => fun
  | [d1, d2, d3] => { results := [.lit (.bool false)], args := [d1, d2, d3] }
  | _ => none }
def RunLeasesWrongFalsely : Prop := runLeasesRow.holds Try.pinned (OpenSpec.ofChange runLeasesWrong)

/-- 'penelopelaw19.RunEnds': WHATEVER THE INPUT: true; the input reads as it did. -/
def runEndsSpec : ChangeSpec := { name := "runEnds", fn := fun _ => fun
  | [d1, d2] => { results := [.lit (.bool true)], args := [d1, d2] }
  | _ => none }
def runEndsRow : OpenClaim := { program := "ytabmkighhmchmaa", sum := "24a49a596709df0efdfe9793e4a46f3c6fd910ad42f6fcc63ccb07c821ed5a2a", func := "penelope/penelopelaw19.RunEnds", spec := "runEnds", unfollowed := true, recurses := true, apart := false }
def RunEndsSaid : Prop := runEndsRow.holds Try.pinned (OpenSpec.ofChange runEndsSpec)

/-- ITS FALSE NEIGHBOUR: 'it returns false'. Refute it at one input. -/
def runEndsWrong : ChangeSpec := { name := "runEnds", fn := fun _ => fun
  | [d1, d2] => { results := [.lit (.bool false)], args := [d1, d2] }
  | _ => none }
def RunEndsWrongFalsely : Prop := runEndsRow.holds Try.pinned (OpenSpec.ofChange runEndsWrong)

/-- 'penelopelaw19.RunTwo': WHATEVER THE INPUT: true; the input reads as it did. -/
def runTwoSpec : ChangeSpec := { name := "runTwo", fn := fun _ => fun
  | [d1, d2, d3, d4] => { results := [.lit (.bool true)], args := [d1, d2, d3, d4] }
  | _ => none }
def runTwoRow : OpenClaim := { program := "ytabmkighhmchmaa", sum := "24a49a596709df0efdfe9793e4a46f3c6fd910ad42f6fcc63ccb07c821ed5a2a", func := "penelope/penelopelaw19.RunTwo", spec := "runTwo", unfollowed := true, recurses := true, apart := false }
def RunTwoSaid : Prop := runTwoRow.holds Try.pinned (OpenSpec.ofChange runTwoSpec)

/-- ITS FALSE NEIGHBOUR: 'it returns false'. Refute it at one input. -/
def runTwoWrong : ChangeSpec := { name := "runTwo", fn := fun _ => fun
  | [d1, d2, d3, d4] => { results := [.lit (.bool false)], args := [d1, d2, d3, d4] }
  | _ => none }
def RunTwoWrongFalsely : Prop := runTwoRow.holds Try.pinned (OpenSpec.ofChange runTwoWrong)

/-- 'penelopelaw19.RunSettles': WHATEVER THE INPUT: true; the input reads as it did. -/
def runSettlesSpec : ChangeSpec := { name := "runSettles", fn := fun _ => fun
  | [d1, d2, d3, d4] => { results := [.lit (.bool true)], args := [d1, d2, d3, d4] }
  | _ => none }
def runSettlesRow : OpenClaim := { program := "ytabmkighhmchmaa", sum := "24a49a596709df0efdfe9793e4a46f3c6fd910ad42f6fcc63ccb07c821ed5a2a", func := "penelope/penelopelaw19.RunSettles", spec := "runSettles", unfollowed := true, recurses := true, apart := false }
def RunSettlesSaid : Prop := runSettlesRow.holds Try.pinned (OpenSpec.ofChange runSettlesSpec)

/-- ITS FALSE NEIGHBOUR: 'it returns false'. Refute it at one input. -/
def runSettlesWrong : ChangeSpec := { name := "runSettles", fn := fun _ => fun
  | [d1, d2, d3, d4] => { results := [.lit (.bool false)], args := [d1, d2, d3, d4] }
  | _ => none }
def RunSettlesWrongFalsely : Prop := runSettlesRow.holds Try.pinned (OpenSpec.ofChange runSettlesWrong)

/- THE SECOND FORM. 'bulk': how many values and letters a reading holds, each counted each time it is reached (what is shared counts as often as it is met; a slice's spare places count too). A statement '..UptoSaid' is the law's where the arguments, and the package variables that the reading takes, are together of bulk at most 1048576: NARROWER than '..Said'. Prove '..Said' where nothing that the law and all that it calls make is longer than what came in: it says more and counts as full. Else prove '..UptoSaid'. A law counts once. -/
mutual
def uptoBulk {H : Type} : DataW H → Nat
  | .lit (.string bytes) => bytes.length + 1
  | .lit _ => 1
  | .nil => 1
  | .ptr d => uptoBulk d + 1
  | .slice elems spare => uptoBulkAll elems + uptoBulkAll spare + 1
  | .agg parts => uptoBulkAll parts + 1
  | .iface _ d => uptoBulk d + 1
  | .map entries => uptoBulkEntries entries + 1
  | .held _ => 1
def uptoBulkAll {H : Type} : List (DataW H) → Nat
  | [] => 0
  | d :: r => uptoBulk d + uptoBulkAll r
def uptoBulkEntries {H : Type} : List (Lit × DataW H) → Nat
  | [] => 0
  | x :: r => uptoBulkEntry x + uptoBulkEntries r
def uptoBulkEntry {H : Type} : Lit × DataW H → Nat
  | (.string bytes, d) => bytes.length + uptoBulk d + 1
  | (_, d) => uptoBulk d + 1
 end
def uptoSmall : (H : Type) → List (DataW H) → Bool := fun _ ds => decide (uptoBulkAll ds ≤ 1048576)
def OpenSpec.upto (s : _root_.Go.ChangeSpec) : _root_.Go.OpenSpec := { _root_.Go.OpenSpec.ofChange s with cond := some uptoSmall }

/-- 'penelopelaw19.RunRights', WHERE WHAT IT READS IS OF BULK AT MOST 1048576: true; the input reads as it did. -/
def runRightsUptoRow : OpenClaim := { program := "ytabmkighhmchmaa", sum := "24a49a596709df0efdfe9793e4a46f3c6fd910ad42f6fcc63ccb07c821ed5a2a", func := "penelope/penelopelaw19.RunRights", spec := "runRights", unfollowed := true, recurses := true, apart := false, narrowed := true }
def RunRightsUptoSaid : Prop := runRightsUptoRow.holds Try.pinned (OpenSpec.upto runRightsSpec)

/-- 'penelopelaw19.RunTolds', WHERE WHAT IT READS IS OF BULK AT MOST 1048576: true; the input reads as it did. -/
def runToldsUptoRow : OpenClaim := { program := "ytabmkighhmchmaa", sum := "24a49a596709df0efdfe9793e4a46f3c6fd910ad42f6fcc63ccb07c821ed5a2a", func := "penelope/penelopelaw19.RunTolds", spec := "runTolds", unfollowed := true, recurses := true, apart := false, narrowed := true }
def RunToldsUptoSaid : Prop := runToldsUptoRow.holds Try.pinned (OpenSpec.upto runToldsSpec)

/-- 'penelopelaw19.RunLeases', WHERE WHAT IT READS IS OF BULK AT MOST 1048576: true; the input reads as it did. -/
def runLeasesUptoRow : OpenClaim := { program := "ytabmkighhmchmaa", sum := "24a49a596709df0efdfe9793e4a46f3c6fd910ad42f6fcc63ccb07c821ed5a2a", func := "penelope/penelopelaw19.RunLeases", spec := "runLeases", unfollowed := true, recurses := true, apart := false, narrowed := true }
def RunLeasesUptoSaid : Prop := runLeasesUptoRow.holds Try.pinned (OpenSpec.upto runLeasesSpec)

/-- 'penelopelaw19.RunEnds', WHERE WHAT IT READS IS OF BULK AT MOST 1048576: true; the input reads as it did. -/
def runEndsUptoRow : OpenClaim := { program := "ytabmkighhmchmaa", sum := "24a49a596709df0efdfe9793e4a46f3c6fd910ad42f6fcc63ccb07c821ed5a2a", func := "penelope/penelopelaw19.RunEnds", spec := "runEnds", unfollowed := true, recurses := true, apart := false, narrowed := true }
def RunEndsUptoSaid : Prop := runEndsUptoRow.holds Try.pinned (OpenSpec.upto runEndsSpec)

/-- 'penelopelaw19.RunTwo', WHERE WHAT IT READS IS OF BULK AT MOST 1048576: true; the input reads as it did. -/
def runTwoUptoRow : OpenClaim := { program := "ytabmkighhmchmaa", sum := "24a49a596709df0efdfe9793e4a46f3c6fd910ad42f6fcc63ccb07c821ed5a2a", func := "penelope/penelopelaw19.RunTwo", spec := "runTwo", unfollowed := true, recurses := true, apart := false, narrowed := true }
def RunTwoUptoSaid : Prop := runTwoUptoRow.holds Try.pinned (OpenSpec.upto runTwoSpec)

/-- 'penelopelaw19.RunSettles', WHERE WHAT IT READS IS OF BULK AT MOST 1048576: true; the input reads as it did. -/
def runSettlesUptoRow : OpenClaim := { program := "ytabmkighhmchmaa", sum := "24a49a596709df0efdfe9793e4a46f3c6fd910ad42f6fcc63ccb07c821ed5a2a", func := "penelope/penelopelaw19.RunSettles", spec := "runSettles", unfollowed := true, recurses := true, apart := false, narrowed := true }
def RunSettlesUptoSaid : Prop := runSettlesUptoRow.holds Try.pinned (OpenSpec.upto runSettlesSpec)

end Rows
end Go.Proofs.Ytabmkighhmchmaa
