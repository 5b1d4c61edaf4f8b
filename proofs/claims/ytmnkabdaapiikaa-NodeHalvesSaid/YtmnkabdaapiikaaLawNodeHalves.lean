-- laid by a program of this session (wip/tools/xprint.py), function by function; Lean checks it
import Derived.Test.YtmnkabdaapiikaaRows
import Derived.Test.YtmnkabdaapiikaaCx9
import Derived.Test.YtmnkabdaapiikaaPureNodeHalves
import Derived.Test.YtmnkabdaapiikaaOpens
import Derived.WalkKit
import Derived.ProofKit
import Derived.OpenShut
import Derived.ShutString
import Derived.ChangeOld
import Derived.Below
import Derived.SizedLaws
namespace Go.Proofs.Ytmnkabdaapiikaa.nodeHalves
open Go.ChangeShapes Go.WideShapes Go.ChangeAt Go.RowKit Go.Proofs.Ytmnkabdaapiikaa.C Go.Proofs.YtmnkabdaapiikaaW.PrintWords
open Go.ChangeMaps (open_string shut_string)
set_option linter.unusedVariables false
theorem own : ownKnob Try.prog.godebug = none := by kernel_rfl
theorem laidOut : laidOutB Try.prog = true := by kernel_rfl
theorem opens25 : Opens Try.prog 25 k25 (fun x => (True ∧ (x.f1.length ≤ maxLen ∧ ∀ a_ ∈ x.f1, a_.size ≤ maxLen) ∧ (x.f2.length ≤ maxLen ∧ ∀ a_ ∈ x.f2, a_.size ≤ maxLen) ∧ (x.f3.length ≤ maxLen ∧ ∀ a_ ∈ x.f3, (Lit.int .i64 a_).wf = true))) := (opens_struct (C := 4) (fun x : S25 => (x.f0, x.f1, x.f2, x.f3)) (fun a => ⟨a.1, a.2.1, a.2.2.1, a.2.2.2⟩) (fun _ => rfl) Try.underlying25 (by kernel_rfl) (opens_more (off := 0) (off' := 1) (opens_bool Try.underlying4) rfl (by kernel_rfl) (opens_more (off := 1) (off' := 2) (opens_slice Try.underlying22 (by kernel_rfl) (opens_string Try.underlying9)) rfl (by kernel_rfl) (opens_more (off := 2) (off' := 3) (opens_slice Try.underlying22 (by kernel_rfl) (opens_string Try.underlying9)) rfl (by kernel_rfl) (opens_last (off := 3) (opens_slice Try.underlying23 (by kernel_rfl) (opens_int Try.underlying3)) rfl (by kernel_rfl))))))
set_option maxRecDepth 100000 in
set_option maxHeartbeats 1000000 in
theorem lifted (os : Os) (started : os.Started) (H : Type) (enc : TypeId × Value → H) :
    ReturnsInHanded {} Try.checked os 7 .any (Rows.nodeHalvesSpec.pre6 enc Try.prog Try.f7 Rows.nodeHalvesRow.domain false) (Rows.nodeHalvesSpec.post enc Try.prog Try.f7 false true false false) := by
  refine returnsInHanded_of_change_sized (C := Try.checked) own started (by kernel_rfl) Try.func7
    (ChangeSpec.witness6 (enc := enc) (C := Try.checked) false ⟨#[], #[.agg #[.bool false, .slice none 0 0, .slice none 0 0, .slice none 0 0]], []⟩ 8 (by kernel_rfl) (by kernel_rfl) (by kernel_rfl) (by kernel_rfl)) ?_
  intro W base args ds gs before hval0 hW hcnd hsz0 _
  have hval : ∀ (j : Nat) t v, Try.f7.params[j]? = some t → args[j]? = some v → Value.okWide Try.prog W .any base t v := hval0
  have hW' := hW
  obtain ⟨p, q, hA0, hV, rfl, hfz, hnd⟩ := hW
  have hA : DataW.TrodAll enc Try.prog W 0 (fun _ => true) true Try.f7.params.toList args.toList ds p := hA0
  rw [Try.params7] at hA hval
  obtain ⟨v0, vs0, d0, ds0, p0, q0, hargs, rfl, rfl, h0, r0⟩ := trodAll_cons hA
  obtain ⟨rfl, rfl, rfl⟩ := trodAll_nil r0
  obtain rfl : args = #[v0] := by cases args; simp_all
  obtain ⟨rfl, rfl⟩ := trodVars_none hV
  have k0 := h0
  have lt0 : ∀ x ∈ p0, x.block < W.heap.size := by obtain ⟨m, hm⟩ := k0; exact DataW.trod_lt m _ _ _ hm
  obtain ⟨x0, cs0, rfl, hK0, w0⟩ := opens_agg opens25 Try.underlying25 (hval 0 25 v0 rfl rfl) h0
  obtain ⟨A0_1, c0_1, A0_2, c0_2, A0_3, c0_3, rfl, l0_1, g0_1, l0_2, g0_2, l0_3, g0_3⟩ := k25_open hK0
  obtain ⟨k, h⟩ := Pure.NodeHalves x0 w0
  refine (penelopelaw07_NodeHalves.calls k (x0.f0) A0_1 c0_1 (x0.f1) A0_2 c0_2 (x0.f2) A0_3 c0_3 (x0.f3) true W g0_1 l0_1 g0_2 l0_2 g0_3 l0_3 h).mono fun e W' ⟨he, bel0⟩ => ?_
  have bel : Below W.heap.size W W' := bel0
  subst he
  exact ⟨_, rfl, _, _, _, [], _, [], hW', trodAll_mk1 (shut_bool Try.underlying4 _), (trodAll_cons_mk (Below.trod laidOut (by kernel_rfl) (of_decide_eq_true (by kernel_rfl)) k0 bel lt0) trodAll_mk0), rfl, bel.frame _, fun h => by cases h⟩
theorem over : Rows.nodeHalvesRow.holds Try.pinned (OpenSpec.ofChange Rows.nodeHalvesSpec) :=
  OpenClaim.holds_of_wide 7 Try.f7 rfl rfl rfl rfl rfl rfl rfl ⟨rfl, rfl, rfl, rfl, rfl⟩ rfl rfl rfl rfl rfl (by kernel_rfl) Try.func7 (by kernel_rfl)
    (of_decide_eq_true (by kernel_rfl)) (by unfold Func.isWrapper; first | (rw [if_pos (by decide +kernel)]; kernel_rfl) | (rw [if_neg (by decide +kernel)]; exact ⟨rfl, rfl⟩))
    (fun os started H enc _ => lifted os started H enc)
theorem proved : Rows.NodeHalvesSaid := over
#print axioms proved
end Go.Proofs.Ytmnkabdaapiikaa.nodeHalves
namespace Go.Proofs.Ytmnkabdaapiikaa
/-- The row, under a short name, for the claim. -/
theorem nodeHalves_holds : Rows.NodeHalvesSaid := nodeHalves.proved
end Go.Proofs.Ytmnkabdaapiikaa
