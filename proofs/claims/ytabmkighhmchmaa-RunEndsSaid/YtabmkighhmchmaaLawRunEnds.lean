/- The row of RunEnds: for every input that its guards let in, the law answers true. -/
import Derived.Test.YtabmkighhmchmaaRows
import Derived.Test.YtabmkighhmchmaaD9
import Derived.Test.YtabmkighhmchmaaD11
import Derived.WalkKit
import Derived.ProofKit
import Derived.OpenShut
import Derived.ShutString
import Derived.ChangeOld
import Derived.Below
import Derived.SizedLaws
namespace Go.Proofs.Ytabmkighhmchmaa.runEnds
open Go.ChangeShapes Go.WideShapes Go.ChangeAt Go.RowKit Go.Proofs.Ytabmkighhmchmaa.X Go.Proofs.YtabmkighhmchmaaW.PrintWords
open Go.ChangeMaps (open_string shut_string)
set_option linter.unusedVariables false
theorem own : ownKnob Try.prog.godebug = none := by kernel_rfl
theorem laidOut : laidOutB Try.prog = true := by kernel_rfl
theorem opens24 : Opens Try.prog 24 k24 (fun x => (x.f0.size ≤ maxLen ∧ (x.f1.length ≤ maxLen ∧ ∀ a_ ∈ x.f1, ((a_.f0.length ≤ maxLen ∧ ∀ b_ ∈ a_.f0, (Lit.int .i64 b_).wf = true) ∧ (Lit.int .i64 a_.f1).wf = true ∧ (Lit.int .i64 a_.f2).wf = true ∧ (Lit.int .i64 a_.f3).wf = true)))) := (opens_struct (C := 2) (fun x : S24 => (x.f0, x.f1)) (fun a => ⟨a.1, a.2⟩) (fun _ => rfl) Try.underlying24 (by kernel_rfl) (opens_more (off := 0) (off' := 1) (opens_string Try.underlying9) rfl (by kernel_rfl) (opens_last (off := 1) (opens_slice Try.underlying22 (by kernel_rfl) (opens_struct (C := 4) (fun x : S49 => (x.f0, x.f1, x.f2, x.f3)) (fun a => ⟨a.1, a.2.1, a.2.2.1, a.2.2.2⟩) (fun _ => rfl) Try.underlying49 (by kernel_rfl) (opens_more (off := 0) (off' := 1) (opens_slice Try.underlying47 (by kernel_rfl) (opens_int Try.underlying3)) rfl (by kernel_rfl) (opens_more (off := 1) (off' := 2) (opens_int Try.underlying3) rfl (by kernel_rfl) (opens_more (off := 2) (off' := 3) (opens_int Try.underlying3) rfl (by kernel_rfl) (opens_last (off := 3) (opens_int Try.underlying3) rfl (by kernel_rfl))))))) rfl (by kernel_rfl))))
theorem opens47 : Opens Try.prog 47 (Kd.slice 3 (Kd.int .i64)) (fun x => (x.length ≤ maxLen ∧ ∀ a_ ∈ x, (Lit.int .i64 a_).wf = true)) := (opens_slice Try.underlying47 (by kernel_rfl) (opens_int Try.underlying3))
set_option maxRecDepth 100000 in
set_option maxHeartbeats 1000000 in
theorem lifted (os : Os) (started : os.Started) (H : Type) (enc : TypeId × Value → H) :
  ReturnsInHanded {} Try.checked os 6 .any (Rows.runEndsSpec.pre6 enc Try.prog Try.f6 Rows.runEndsRow.domain false) (Rows.runEndsSpec.post enc Try.prog Try.f6 false true false false) := by
 refine returnsInHanded_of_change_sized (C := Try.checked) own started (by kernel_rfl) Try.func6
  (ChangeSpec.witness6 (enc := enc) (C := Try.checked) false ⟨#[], #[.agg #[.string ByteArray.empty, .slice none 0 0], .slice none 0 0], []⟩ 8 (by kernel_rfl) (by kernel_rfl) (by kernel_rfl) (by kernel_rfl)) ?_
 intro W base args ds gs before hval0 hW hcnd hsz0 _
 have hval : ∀ (j : Nat) t v, Try.f6.params[j]? = some t → args[j]? = some v → Value.okWide Try.prog W .any base t v := hval0
 have hW' := hW
 obtain ⟨p, q, hA0, hV, rfl, hfz, hnd⟩ := hW
 have hA : DataW.TrodAll enc Try.prog W 0 (fun _ => true) true Try.f6.params.toList args.toList ds p := hA0
 rw [Try.params6] at hA hval
 obtain ⟨v0, vs0, d0, ds0, p0, q0, hargs, rfl, rfl, h0, r0⟩ := trodAll_cons hA
 obtain ⟨v1, vs1, d1, ds1, p1, q1, rfl, rfl, rfl, h1, r1⟩ := trodAll_cons r0
 obtain ⟨rfl, rfl, rfl⟩ := trodAll_nil r1
 obtain rfl : args = #[v0, v1] := by cases args; simp_all
 obtain ⟨rfl, rfl⟩ := trodVars_none hV
 have k0 := h0
 have lt0 : ∀ x ∈ p0, x.block < W.heap.size := by obtain ⟨m, hm⟩ := k0; exact DataW.trod_lt m _ _ _ hm
 obtain ⟨x0, cs0, rfl, hK0, w0⟩ := opens_agg opens24 Try.underlying24 (hval 0 24 v0 rfl rfl) h0
 obtain ⟨A0_1, c0_1, rfl, l0_1, g0_1⟩ := k24_open hK0
 have k1 := h1
 have lt1 : ∀ x ∈ p1, x.block < W.heap.size := by obtain ⟨m, hm⟩ := k1; exact DataW.trod_lt m _ _ _ hm
 obtain ⟨x1, A1, c1, rfl, l1, g1, w1⟩ := opens_row opens47 Try.underlying47 (hval 1 47 v1 rfl rfl) h1
 obtain ⟨k, h⟩ := Pure.RunEnds x0 x1 w0 w1
 refine (Fa.calls k (x0.f0) A0_1 c0_1 (x0.f1) A1 c1 x1 true W g0_1 l0_1 g1 l1 h).mono fun e W' ⟨he, bel0⟩ => ?_
 have bel : Below W.heap.size W W' := bel0
 subst he
 exact ⟨_, rfl, _, _, _, [], _, [], hW', trodAll_mk1 (shut_bool Try.underlying4 _), (trodAll_cons_mk (Below.trod laidOut (by kernel_rfl) (of_decide_eq_true (by kernel_rfl)) k0 bel lt0) (trodAll_cons_mk (Below.trod laidOut (by kernel_rfl) (of_decide_eq_true (by kernel_rfl)) k1 bel lt1) trodAll_mk0)), rfl, bel.frame _, fun h => by cases h⟩
theorem over : Rows.runEndsRow.holds Try.pinned (OpenSpec.ofChange Rows.runEndsSpec) :=
 OpenClaim.holds_of_wide 6 Try.f6 rfl rfl rfl rfl rfl rfl rfl ⟨rfl, rfl, rfl, rfl, rfl⟩ rfl rfl rfl rfl rfl (by kernel_rfl) Try.func6 (by kernel_rfl)
  (of_decide_eq_true (by kernel_rfl)) (by unfold Func.isWrapper; first | (rw [if_pos (by decide +kernel)]; kernel_rfl) | (rw [if_neg (by decide +kernel)]; exact ⟨rfl, rfl⟩))
  (fun os started H enc _ => lifted os started H enc)
theorem proved : Rows.RunEndsSaid := over
#print axioms proved
end Go.Proofs.Ytabmkighhmchmaa.runEnds
namespace Go.Proofs.Ytabmkighhmchmaa
theorem runEnds_holds : Rows.RunEndsSaid := runEnds.proved
end Go.Proofs.Ytabmkighhmchmaa
