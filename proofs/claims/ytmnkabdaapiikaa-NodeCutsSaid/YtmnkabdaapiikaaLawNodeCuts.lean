-- laid by a program of this session (wip/tools/xprint.py), function by function; Lean checks it
import Derived.Test.YtmnkabdaapiikaaRows
import Derived.Test.YtmnkabdaapiikaaCx8
import Derived.Test.YtmnkabdaapiikaaPureNodeCuts
import Derived.Test.YtmnkabdaapiikaaOpens
import Derived.WalkKit
import Derived.ProofKit
import Derived.OpenShut
import Derived.ShutString
import Derived.ChangeOld
import Derived.Below
import Derived.SizedLaws
namespace Go.Proofs.Ytmnkabdaapiikaa.nodeCuts
open Go.ChangeShapes Go.WideShapes Go.ChangeAt Go.RowKit Go.Proofs.Ytmnkabdaapiikaa.C Go.Proofs.YtmnkabdaapiikaaW.PrintWords
open Go.ChangeMaps (open_string shut_string)
set_option linter.unusedVariables false
theorem own : ownKnob Try.prog.godebug = none := by kernel_rfl
theorem laidOut : laidOutB Try.prog = true := by kernel_rfl
theorem opens25 : Opens Try.prog 25 k25 (fun x => (True ∧ (x.f1.length ≤ maxLen ∧ ∀ a_ ∈ x.f1, a_.size ≤ maxLen) ∧ (x.f2.length ≤ maxLen ∧ ∀ a_ ∈ x.f2, a_.size ≤ maxLen) ∧ (x.f3.length ≤ maxLen ∧ ∀ a_ ∈ x.f3, (Lit.int .i64 a_).wf = true))) := (opens_struct (C := 4) (fun x : S25 => (x.f0, x.f1, x.f2, x.f3)) (fun a => ⟨a.1, a.2.1, a.2.2.1, a.2.2.2⟩) (fun _ => rfl) Try.underlying25 (by kernel_rfl) (opens_more (off := 0) (off' := 1) (opens_bool Try.underlying4) rfl (by kernel_rfl) (opens_more (off := 1) (off' := 2) (opens_slice Try.underlying22 (by kernel_rfl) (opens_string Try.underlying9)) rfl (by kernel_rfl) (opens_more (off := 2) (off' := 3) (opens_slice Try.underlying22 (by kernel_rfl) (opens_string Try.underlying9)) rfl (by kernel_rfl) (opens_last (off := 3) (opens_slice Try.underlying23 (by kernel_rfl) (opens_int Try.underlying3)) rfl (by kernel_rfl))))))
set_option maxRecDepth 100000 in
set_option maxHeartbeats 1000000 in
theorem lifted (os : Os) (started : os.Started) (H : Type) (enc : TypeId × Value → H) :
    ReturnsInHanded {} Try.checked os 6 .any (Rows.nodeCutsSpec.pre6 enc Try.prog Try.f6 Rows.nodeCutsRow.domain false) (Rows.nodeCutsSpec.post enc Try.prog Try.f6 false true false false) := by
  refine returnsInHanded_of_change_sized (C := Try.checked) own started (by kernel_rfl) Try.func6
    (ChangeSpec.witness6 (enc := enc) (C := Try.checked) false ⟨#[], #[.agg #[.bool false, .slice none 0 0, .slice none 0 0, .slice none 0 0], .string ByteArray.empty, .agg #[.bool false, .slice none 0 0, .slice none 0 0, .slice none 0 0]], []⟩ 8 (by kernel_rfl) (by kernel_rfl) (by kernel_rfl) (by kernel_rfl)) ?_
  intro W base args ds gs before hval0 hW hcnd hsz0 _
  have hsz : (DataW.weightsEach Try.prog (Try.f6.params.toList ++ Rows.nodeCutsSpec.plain.varTypes Try.prog) (ds ++ gs)).all (· ≤ reachBytes) = true := hsz0
  have hval : ∀ (j : Nat) t v, Try.f6.params[j]? = some t → args[j]? = some v → Value.okWide Try.prog W .any base t v := hval0
  have hW' := hW
  obtain ⟨p, q, hA0, hV, rfl, hfz, hnd⟩ := hW
  have hA : DataW.TrodAll enc Try.prog W 0 (fun _ => true) true Try.f6.params.toList args.toList ds p := hA0
  rw [Try.params6] at hA hval hsz
  obtain ⟨v0, vs0, d0, ds0, p0, q0, hargs, rfl, rfl, h0, r0⟩ := trodAll_cons hA
  obtain ⟨v1, vs1, d1, ds1, p1, q1, rfl, rfl, rfl, h1, r1⟩ := trodAll_cons r0
  obtain ⟨v2, vs2, d2, ds2, p2, q2, rfl, rfl, rfl, h2, r2⟩ := trodAll_cons r1
  obtain ⟨rfl, rfl, rfl⟩ := trodAll_nil r2
  obtain rfl : args = #[v0, v1, v2] := by cases args; simp_all
  obtain ⟨rfl, rfl⟩ := trodVars_none hV
  have k0 := h0
  have lt0 : ∀ x ∈ p0, x.block < W.heap.size := by obtain ⟨m, hm⟩ := k0; exact DataW.trod_lt m _ _ _ hm
  obtain ⟨x0, cs0, rfl, hK0, w0⟩ := opens_agg opens25 Try.underlying25 (hval 0 25 v0 rfl rfl) h0
  obtain ⟨A0_1, c0_1, A0_2, c0_2, A0_3, c0_3, rfl, l0_1, g0_1, l0_2, g0_2, l0_3, g0_3⟩ := k25_open hK0
  obtain ⟨a1, rfl, rfl, rfl, y1⟩ := open_string Try.underlying9 (hval 1 9 v1 rfl rfl) h1
  have w1 : a1.size ≤ 140737488351232 := by
    have z := sized_string hsz (j := 1) (t := 9) rfl rfl
    rw [Array.length_toList] at z
    exact z
  have k2 := h2
  have lt2 : ∀ x ∈ p2, x.block < W.heap.size := by obtain ⟨m, hm⟩ := k2; exact DataW.trod_lt m _ _ _ hm
  obtain ⟨x2, cs2, rfl, hK2, w2⟩ := opens_agg opens25 Try.underlying25 (hval 2 25 v2 rfl rfl) h2
  obtain ⟨A2_1, c2_1, A2_2, c2_2, A2_3, c2_3, rfl, l2_1, g2_1, l2_2, g2_2, l2_3, g2_3⟩ := k25_open hK2
  obtain ⟨k, h⟩ := Pure.NodeCuts x0 a1 x2 w0 w1 w2
  refine (penelopelaw07_NodeCuts.calls k (x0.f0) A0_1 c0_1 (x0.f1) A0_2 c0_2 (x0.f2) A0_3 c0_3 (x0.f3) a1 (x2.f0) A2_1 c2_1 (x2.f1) A2_2 c2_2 (x2.f2) A2_3 c2_3 (x2.f3) true W g0_1 l0_1 g0_2 l0_2 g0_3 l0_3 g2_1 l2_1 g2_2 l2_2 g2_3 l2_3 h).mono fun e W' ⟨he, bel0⟩ => ?_
  have bel : Below W.heap.size W W' := bel0
  subst he
  exact ⟨_, rfl, _, _, _, [], _, [], hW', trodAll_mk1 (shut_bool Try.underlying4 _), (trodAll_cons_mk (Below.trod laidOut (by kernel_rfl) (of_decide_eq_true (by kernel_rfl)) k0 bel lt0) (trodAll_cons_mk (shut_string Try.underlying9 y1) (trodAll_cons_mk (Below.trod laidOut (by kernel_rfl) (of_decide_eq_true (by kernel_rfl)) k2 bel lt2) trodAll_mk0))), rfl, bel.frame _, fun h => by cases h⟩
theorem over : Rows.nodeCutsRow.holds Try.pinned (OpenSpec.ofChange Rows.nodeCutsSpec) :=
  OpenClaim.holds_of_wide 6 Try.f6 rfl rfl rfl rfl rfl rfl rfl ⟨rfl, rfl, rfl, rfl, rfl⟩ rfl rfl rfl rfl rfl (by kernel_rfl) Try.func6 (by kernel_rfl)
    (of_decide_eq_true (by kernel_rfl)) (by unfold Func.isWrapper; first | (rw [if_pos (by decide +kernel)]; kernel_rfl) | (rw [if_neg (by decide +kernel)]; exact ⟨rfl, rfl⟩))
    (fun os started H enc _ => lifted os started H enc)
theorem proved : Rows.NodeCutsSaid := over
#print axioms proved
end Go.Proofs.Ytmnkabdaapiikaa.nodeCuts
namespace Go.Proofs.Ytmnkabdaapiikaa
/-- The row, under a short name, for the claim. -/
theorem nodeCuts_holds : Rows.NodeCutsSaid := nodeCuts.proved
end Go.Proofs.Ytmnkabdaapiikaa
