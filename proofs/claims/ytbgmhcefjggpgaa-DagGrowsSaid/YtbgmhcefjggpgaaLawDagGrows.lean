-- laid by a program of this session (wip/tools/xprint.py), function by function; Lean checks it
import Derived.Test.YtbgmhcefjggpgaaRows
import Derived.Test.YtbgmhcefjggpgaaXx16
import Derived.Test.YtbgmhcefjggpgaaPureDagGrows
import Derived.Test.YtbgmhcefjggpgaaOpens
import Derived.WalkKit
import Derived.ProofKit
import Derived.OpenShut
import Derived.ShutString
import Derived.ChangeOld
import Derived.Below
import Derived.SizedLaws
namespace Go.Proofs.Ytbgmhcefjggpgaa.dagGrows
open Go.ChangeShapes Go.WideShapes Go.ChangeAt Go.RowKit Go.Proofs.Ytbgmhcefjggpgaa.X Go.Proofs.YtbgmhcefjggpgaaW.PrintWords
open Go.ChangeMaps (open_string shut_string)
set_option linter.unusedVariables false
theorem own : ownKnob Try.prog.godebug = none := by kernel_rfl
theorem laidOut : laidOutB Try.prog = true := by kernel_rfl
theorem opens24 : Opens Try.prog 24 k24 (fun x => (x.f0.size ≤ maxLen ∧ (x.f1.length ≤ maxLen ∧ ∀ a_ ∈ x.f1, ((a_.f0.length ≤ maxLen ∧ ∀ b_ ∈ a_.f0, (Lit.int .i64 b_).wf = true) ∧ (Lit.int .i64 a_.f1).wf = true ∧ (Lit.int .i64 a_.f2).wf = true ∧ (Lit.int .i64 a_.f3).wf = true)))) := (opens_struct (C := 2) (fun x : S24 => (x.f0, x.f1)) (fun a => ⟨a.1, a.2⟩) (fun _ => rfl) Try.underlying24 (by kernel_rfl) (opens_more (off := 0) (off' := 1) (opens_string Try.underlying9) rfl (by kernel_rfl) (opens_last (off := 1) (opens_slice Try.underlying22 (by kernel_rfl) (opens_struct (C := 4) (fun x : S39 => (x.f0, x.f1, x.f2, x.f3)) (fun a => ⟨a.1, a.2.1, a.2.2.1, a.2.2.2⟩) (fun _ => rfl) Try.underlying39 (by kernel_rfl) (opens_more (off := 0) (off' := 1) (opens_slice Try.underlying29 (by kernel_rfl) (opens_int Try.underlying3)) rfl (by kernel_rfl) (opens_more (off := 1) (off' := 2) (opens_int Try.underlying3) rfl (by kernel_rfl) (opens_more (off := 2) (off' := 3) (opens_int Try.underlying3) rfl (by kernel_rfl) (opens_last (off := 3) (opens_int Try.underlying3) rfl (by kernel_rfl))))))) rfl (by kernel_rfl))))
theorem opens25 : Opens Try.prog 25 (Kd.slice 4 Kd.bool) (fun x => (x.length ≤ maxLen ∧ ∀ a_ ∈ x, True)) := (opens_slice Try.underlying25 (by kernel_rfl) (opens_bool Try.underlying4))
set_option maxRecDepth 100000 in
set_option maxHeartbeats 1000000 in
theorem lifted (os : Os) (started : os.Started) (H : Type) (enc : TypeId × Value → H) :
    ReturnsInHanded {} Try.checked os 5 .any (Rows.dagGrowsSpec.pre6 enc Try.prog Try.f5 Rows.dagGrowsRow.domain false) (Rows.dagGrowsSpec.post enc Try.prog Try.f5 false true false false) := by
  refine returnsInHanded_of_change_sized (C := Try.checked) own started (by kernel_rfl) Try.func5
    (ChangeSpec.witness6 (enc := enc) (C := Try.checked) false ⟨#[], #[.agg #[.string ByteArray.empty, .slice none 0 0], .slice none 0 0, .int .i64 0], []⟩ 8 (by kernel_rfl) (by kernel_rfl) (by kernel_rfl) (by kernel_rfl)) ?_
  intro W base args ds gs before hval0 hW hcnd hsz0 _
  have hval : ∀ (j : Nat) t v, Try.f5.params[j]? = some t → args[j]? = some v → Value.okWide Try.prog W .any base t v := hval0
  have hW' := hW
  obtain ⟨p, q, hA0, hV, rfl, hfz, hnd⟩ := hW
  have hA : DataW.TrodAll enc Try.prog W 0 (fun _ => true) true Try.f5.params.toList args.toList ds p := hA0
  rw [Try.params5] at hA hval
  obtain ⟨v0, vs0, d0, ds0, p0, q0, hargs, rfl, rfl, h0, r0⟩ := trodAll_cons hA
  obtain ⟨v1, vs1, d1, ds1, p1, q1, rfl, rfl, rfl, h1, r1⟩ := trodAll_cons r0
  obtain ⟨v2, vs2, d2, ds2, p2, q2, rfl, rfl, rfl, h2, r2⟩ := trodAll_cons r1
  obtain ⟨rfl, rfl, rfl⟩ := trodAll_nil r2
  obtain rfl : args = #[v0, v1, v2] := by cases args; simp_all
  obtain ⟨rfl, rfl⟩ := trodVars_none hV
  have k0 := h0
  have lt0 : ∀ x ∈ p0, x.block < W.heap.size := by obtain ⟨m, hm⟩ := k0; exact DataW.trod_lt m _ _ _ hm
  obtain ⟨x0, cs0, rfl, hK0, w0⟩ := opens_agg opens24 Try.underlying24 (hval 0 24 v0 rfl rfl) h0
  obtain ⟨A0_1, c0_1, rfl, l0_1, g0_1⟩ := k24_open hK0
  have k1 := h1
  have lt1 : ∀ x ∈ p1, x.block < W.heap.size := by obtain ⟨m, hm⟩ := k1; exact DataW.trod_lt m _ _ _ hm
  obtain ⟨x1, A1, c1, rfl, l1, g1, w1⟩ := opens_row opens25 Try.underlying25 (hval 1 25 v1 rfl rfl) h1
  obtain ⟨a2, rfl, rfl, rfl, w2⟩ := open_int Try.underlying3 (hval 2 3 v2 rfl rfl) h2
  obtain ⟨k, h⟩ := Pure.DagGrows x0 x1 a2 w0 w1 w2
  refine (penelopelaw16_DagGrows.calls k (x0.f0) A0_1 c0_1 (x0.f1) A1 c1 x1 a2 true W g0_1 l0_1 g1 l1 h).mono fun e W' ⟨he, bel0⟩ => ?_
  have bel : Below W.heap.size W W' := bel0
  subst he
  exact ⟨_, rfl, _, _, _, [], _, [], hW', trodAll_mk1 (shut_bool Try.underlying4 _), (trodAll_cons_mk (Below.trod laidOut (by kernel_rfl) (of_decide_eq_true (by kernel_rfl)) k0 bel lt0) (trodAll_cons_mk (Below.trod laidOut (by kernel_rfl) (of_decide_eq_true (by kernel_rfl)) k1 bel lt1) (trodAll_cons_mk (shut_int Try.underlying3 w2) trodAll_mk0))), rfl, bel.frame _, fun h => by cases h⟩
theorem over : Rows.dagGrowsRow.holds Try.pinned (OpenSpec.ofChange Rows.dagGrowsSpec) :=
  OpenClaim.holds_of_wide 5 Try.f5 rfl rfl rfl rfl rfl rfl rfl ⟨rfl, rfl, rfl, rfl, rfl⟩ rfl rfl rfl rfl rfl (by kernel_rfl) Try.func5 (by kernel_rfl)
    (of_decide_eq_true (by kernel_rfl)) (by unfold Func.isWrapper; first | (rw [if_pos (by decide +kernel)]; kernel_rfl) | (rw [if_neg (by decide +kernel)]; exact ⟨rfl, rfl⟩))
    (fun os started H enc _ => lifted os started H enc)
theorem proved : Rows.DagGrowsSaid := over
#print axioms proved
end Go.Proofs.Ytbgmhcefjggpgaa.dagGrows
namespace Go.Proofs.Ytbgmhcefjggpgaa
/-- The row, under a short name, for the claim. -/
theorem dagGrows_holds : Rows.DagGrowsSaid := dagGrows.proved
end Go.Proofs.Ytbgmhcefjggpgaa
