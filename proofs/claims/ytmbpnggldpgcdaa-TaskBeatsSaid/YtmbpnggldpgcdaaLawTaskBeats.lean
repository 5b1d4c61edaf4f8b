-- laid by a program of this session (wip/tools/xprint.py), function by function; Lean checks it
import Derived.Test.YtmbpnggldpgcdaaRows
import Derived.Test.YtmbpnggldpgcdaaXx24
import Derived.Test.YtmbpnggldpgcdaaPureTaskBeats
import Derived.Test.YtmbpnggldpgcdaaOpens
import Derived.WalkKit
import Derived.ProofKit
import Derived.OpenShut
import Derived.ShutString
import Derived.ChangeOld
import Derived.Below
import Derived.SizedLaws
namespace Go.Proofs.Ytmbpnggldpgcdaa.taskBeats
open Go.ChangeShapes Go.WideShapes Go.ChangeAt Go.RowKit Go.Proofs.Ytmbpnggldpgcdaa.X
open Go.ChangeMaps (open_string shut_string)
set_option linter.unusedVariables false
theorem own : ownKnob Try.prog.godebug = none := by kernel_rfl
theorem laidOut : laidOutB Try.prog = true := by kernel_rfl
theorem opens24 : Opens Try.prog 24 k24 (fun x => ((x.f0.length ≤ maxLen ∧ ∀ a_ ∈ x.f0, (Lit.int .i64 a_).wf = true) ∧ (Lit.int .i64 x.f1).wf = true ∧ (Lit.int .i64 x.f2).wf = true ∧ (Lit.int .i64 x.f3).wf = true)) := (opens_struct (C := 4) (fun x : S24 => (x.f0, x.f1, x.f2, x.f3)) (fun a => ⟨a.1, a.2.1, a.2.2.1, a.2.2.2⟩) (fun _ => rfl) Try.underlying24 (by kernel_rfl) (opens_more (off := 0) (off' := 1) (opens_slice Try.underlying22 (by kernel_rfl) (opens_int Try.underlying3)) rfl (by kernel_rfl) (opens_more (off := 1) (off' := 2) (opens_int Try.underlying3) rfl (by kernel_rfl) (opens_more (off := 2) (off' := 3) (opens_int Try.underlying3) rfl (by kernel_rfl) (opens_last (off := 3) (opens_int Try.underlying3) rfl (by kernel_rfl))))))
theorem opens26 : Opens Try.prog 26 k26 (fun x => ((Lit.int .i64 x.f0).wf = true ∧ (Lit.int .i64 x.f1).wf = true ∧ (Lit.int .i64 x.f2).wf = true ∧ (Lit.int .i64 x.f3).wf = true ∧ x.f4.size ≤ maxLen)) := (opens_struct (C := 5) (fun x : S26 => (x.f0, x.f1, x.f2, x.f3, x.f4)) (fun a => ⟨a.1, a.2.1, a.2.2.1, a.2.2.2.1, a.2.2.2.2⟩) (fun _ => rfl) Try.underlying26 (by kernel_rfl) (opens_more (off := 0) (off' := 1) (opens_int Try.underlying3) rfl (by kernel_rfl) (opens_more (off := 1) (off' := 2) (opens_int Try.underlying3) rfl (by kernel_rfl) (opens_more (off := 2) (off' := 3) (opens_int Try.underlying3) rfl (by kernel_rfl) (opens_more (off := 3) (off' := 4) (opens_int Try.underlying3) rfl (by kernel_rfl) (opens_last (off := 4) (opens_string Try.underlying9) rfl (by kernel_rfl)))))))
set_option maxRecDepth 100000 in
set_option maxHeartbeats 1000000 in
theorem lifted (os : Os) (started : os.Started) (H : Type) (enc : TypeId × Value → H) :
    ReturnsInHanded {} Try.checked os 4 .any (Rows.taskBeatsSpec.pre6 enc Try.prog Try.f4 Rows.taskBeatsRow.domain false) (Rows.taskBeatsSpec.post enc Try.prog Try.f4 false true false false) := by
  refine returnsInHanded_of_change_sized (C := Try.checked) own started (by kernel_rfl) Try.func4
    (ChangeSpec.witness6 (enc := enc) (C := Try.checked) false ⟨#[], #[.agg #[.slice none 0 0, .int .i64 0, .int .i64 0, .int .i64 0], .agg #[.int .i64 0, .int .i64 0, .int .i64 0, .int .i64 0, .string ByteArray.empty], .int .i64 0, .int .i64 0], []⟩ 8 (by kernel_rfl) (by kernel_rfl) (by kernel_rfl) (by kernel_rfl)) ?_
  intro W base args ds gs before hval0 hW hcnd hsz0 _
  have hval : ∀ (j : Nat) t v, Try.f4.params[j]? = some t → args[j]? = some v → Value.okWide Try.prog W .any base t v := hval0
  have hW' := hW
  obtain ⟨p, q, hA0, hV, rfl, hfz, hnd⟩ := hW
  have hA : DataW.TrodAll enc Try.prog W 0 (fun _ => true) true Try.f4.params.toList args.toList ds p := hA0
  rw [Try.params4] at hA hval
  obtain ⟨v0, vs0, d0, ds0, p0, q0, hargs, rfl, rfl, h0, r0⟩ := trodAll_cons hA
  obtain ⟨v1, vs1, d1, ds1, p1, q1, rfl, rfl, rfl, h1, r1⟩ := trodAll_cons r0
  obtain ⟨v2, vs2, d2, ds2, p2, q2, rfl, rfl, rfl, h2, r2⟩ := trodAll_cons r1
  obtain ⟨v3, vs3, d3, ds3, p3, q3, rfl, rfl, rfl, h3, r3⟩ := trodAll_cons r2
  obtain ⟨rfl, rfl, rfl⟩ := trodAll_nil r3
  obtain rfl : args = #[v0, v1, v2, v3] := by cases args; simp_all
  obtain ⟨rfl, rfl⟩ := trodVars_none hV
  have k0 := h0
  have lt0 : ∀ x ∈ p0, x.block < W.heap.size := by obtain ⟨m, hm⟩ := k0; exact DataW.trod_lt m _ _ _ hm
  obtain ⟨x0, cs0, rfl, hK0, w0⟩ := opens_agg opens24 Try.underlying24 (hval 0 24 v0 rfl rfl) h0
  obtain ⟨A0_0, c0_0, rfl, l0_0, g0_0⟩ := k24_open hK0
  have k1 := h1
  have lt1 : ∀ x ∈ p1, x.block < W.heap.size := by obtain ⟨m, hm⟩ := k1; exact DataW.trod_lt m _ _ _ hm
  obtain ⟨x1, cs1, rfl, hK1, w1⟩ := opens_agg opens26 Try.underlying26 (hval 1 26 v1 rfl rfl) h1
  have he1 := k26_open hK1
  subst he1
  obtain ⟨a2, rfl, rfl, rfl, w2⟩ := open_int Try.underlying3 (hval 2 3 v2 rfl rfl) h2
  obtain ⟨a3, rfl, rfl, rfl, w3⟩ := open_int Try.underlying3 (hval 3 3 v3 rfl rfl) h3
  obtain ⟨k, h⟩ := Pure.TaskBeats x0 x1 a2 a3 w0 w1 w2 w3
  refine (penelopelaw18_TaskBeats.calls k A0_0 c0_0 (x0.f0) (x0.f1) (x0.f2) (x0.f3) (x1.f0) (x1.f1) (x1.f2) (x1.f3) (x1.f4) a2 a3 true W g0_0 l0_0 h).mono fun e W' ⟨he, bel0⟩ => ?_
  have bel : Below W.heap.size W W' := bel0
  subst he
  exact ⟨_, rfl, _, _, _, [], _, [], hW', trodAll_mk1 (shut_bool Try.underlying4 _), (trodAll_cons_mk (Below.trod laidOut (by kernel_rfl) (of_decide_eq_true (by kernel_rfl)) k0 bel lt0) (trodAll_cons_mk (Below.trod laidOut (by kernel_rfl) (of_decide_eq_true (by kernel_rfl)) k1 bel lt1) (trodAll_cons_mk (shut_int Try.underlying3 w2) (trodAll_cons_mk (shut_int Try.underlying3 w3) trodAll_mk0)))), rfl, bel.frame _, fun h => by cases h⟩
theorem over : Rows.taskBeatsRow.holds Try.pinned (OpenSpec.ofChange Rows.taskBeatsSpec) :=
  OpenClaim.holds_of_wide 4 Try.f4 rfl rfl rfl rfl rfl rfl rfl ⟨rfl, rfl, rfl, rfl, rfl⟩ rfl rfl rfl rfl rfl (by kernel_rfl) Try.func4 (by kernel_rfl)
    (of_decide_eq_true (by kernel_rfl)) (by unfold Func.isWrapper; first | (rw [if_pos (by decide +kernel)]; kernel_rfl) | (rw [if_neg (by decide +kernel)]; exact ⟨rfl, rfl⟩))
    (fun os started H enc _ => lifted os started H enc)
theorem proved : Rows.TaskBeatsSaid := over
#print axioms proved
end Go.Proofs.Ytmbpnggldpgcdaa.taskBeats
namespace Go.Proofs.Ytmbpnggldpgcdaa
/-- The row, under a short name, for the claim. -/
theorem taskBeats_holds : Rows.TaskBeatsSaid := taskBeats.proved
end Go.Proofs.Ytmbpnggldpgcdaa
