/- The row of RunSettles: for every input that its guards let in, the law answers true. -/
import Derived.Test.YtabmkighhmchmaaRows
import Derived.Test.YtabmkighhmchmaaG10
import Derived.Test.YtabmkighhmchmaaG12
import Derived.WalkKit
import Derived.ProofKit
import Derived.OpenShut
import Derived.ShutString
import Derived.ChangeOld
import Derived.Below
import Derived.SizedLaws
namespace Go.Proofs.Ytabmkighhmchmaa.runSettles
open Go.ChangeShapes Go.WideShapes Go.ChangeAt Go.RowKit Go.Proofs.Ytabmkighhmchmaa.X Go.YW.PrintWords
open Go.ChangeMaps (open_string shut_string)
set_option linter.unusedVariables false
theorem own : ownKnob Try.prog.godebug = none := by kernel_rfl
theorem laidOut : laidOutB Try.prog = true := by kernel_rfl
theorem opens27 : Opens Try.prog 27 k27 (fun x => (x.f0.size ≤ maxLen ∧ ((x.f1.f0.size ≤ maxLen ∧ (x.f1.f1.length ≤ maxLen ∧ ∀ a_ ∈ x.f1.f1, ((a_.f0.length ≤ maxLen ∧ ∀ b_ ∈ a_.f0, (Lit.int .i64 b_).wf = true) ∧ (Lit.int .i64 a_.f1).wf = true ∧ (Lit.int .i64 a_.f2).wf = true ∧ (Lit.int .i64 a_.f3).wf = true)))) ∧ (Lit.int .i64 x.f2).wf = true ∧ (x.f3.length ≤ maxLen ∧ ∀ a_ ∈ x.f3, ((Lit.int .i64 a_.f0).wf = true ∧ (Lit.int .i64 a_.f1).wf = true ∧ (Lit.int .i64 a_.f2).wf = true ∧ (Lit.int .i64 a_.f3).wf = true ∧ a_.f4.size ≤ maxLen)))) := (q4h (C := 5) (fun x : S27 => (x.f0, x.f1, x.f2, x.f3)) (fun a => ⟨a.1, a.2.1, a.2.2.1, a.2.2.2⟩) (fun _ => rfl) Try.underlying27 (by kernel_rfl) (q2f (off := 0) (off' := 1) (opens_string Try.underlying9) rfl (by kernel_rfl) (q2f (off := 1) (off' := 3) (q4h (C := 2) (fun x : S24 => (x.f0, x.f1)) (fun a => ⟨a.1, a.2⟩) (fun _ => rfl) Try.underlying24 (by kernel_rfl) (q2f (off := 0) (off' := 1) (opens_string Try.underlying9) rfl (by kernel_rfl) (opens_last (off := 1) (opens_slice Try.underlying22 (by kernel_rfl) (q4h (C := 4) (fun x : S49 => (x.f0, x.f1, x.f2, x.f3)) (fun a => ⟨a.1, a.2.1, a.2.2.1, a.2.2.2⟩) (fun _ => rfl) Try.underlying49 (by kernel_rfl) (q2f (off := 0) (off' := 1) (opens_slice Try.underlying47 (by kernel_rfl) (q3f Try.underlying3)) rfl (by kernel_rfl) (q2f (off := 1) (off' := 2) (q3f Try.underlying3) rfl (by kernel_rfl) (q2f (off := 2) (off' := 3) (q3f Try.underlying3) rfl (by kernel_rfl) (opens_last (off := 3) (q3f Try.underlying3) rfl (by kernel_rfl))))))) rfl (by kernel_rfl)))) rfl (by kernel_rfl) (q2f (off := 3) (off' := 4) (q3f Try.underlying3) rfl (by kernel_rfl) (opens_last (off := 4) (opens_slice Try.underlying25 (by kernel_rfl) (q4h (C := 5) (fun x : S51 => (x.f0, x.f1, x.f2, x.f3, x.f4)) (fun a => ⟨a.1, a.2.1, a.2.2.1, a.2.2.2.1, a.2.2.2.2⟩) (fun _ => rfl) Try.underlying51 (by kernel_rfl) (q2f (off := 0) (off' := 1) (q3f Try.underlying3) rfl (by kernel_rfl) (q2f (off := 1) (off' := 2) (q3f Try.underlying3) rfl (by kernel_rfl) (q2f (off := 2) (off' := 3) (q3f Try.underlying3) rfl (by kernel_rfl) (q2f (off := 3) (off' := 4) (q3f Try.underlying3) rfl (by kernel_rfl) (opens_last (off := 4) (opens_string Try.underlying9) rfl (by kernel_rfl)))))))) rfl (by kernel_rfl))))))
set_option maxRecDepth 100000 in
set_option maxHeartbeats 1000000 in
theorem lifted (os : Os) (started : os.Started) (H : Type) (enc : TypeId × Value → H) :
  ReturnsInHanded {} Try.checked os 8 .any (Rows.runSettlesSpec.pre6 enc Try.prog Try.f8 Rows.runSettlesRow.domain false) (Rows.runSettlesSpec.post enc Try.prog Try.f8 false true false false) := by
 refine returnsInHanded_of_change_sized (C := Try.checked) own started (by kernel_rfl) Try.func8
  (ChangeSpec.witness6 (enc := enc) (C := Try.checked) false ⟨#[], #[.agg #[.string ByteArray.empty, .string ByteArray.empty, .slice none 0 0, .int .i64 0, .slice none 0 0], .int .i64 0, .int .i64 0, .int .i64 0], []⟩ 8 (by kernel_rfl) (by kernel_rfl) (by kernel_rfl) (by kernel_rfl)) ?_
 intro W base args ds gs before hval0 hW hcnd hsz0 _
 have hval : ∀ (j : Nat) t v, Try.f8.params[j]? = some t → args[j]? = some v → Value.okWide Try.prog W .any base t v := hval0
 have hW' := hW
 obtain ⟨p, q, hA0, hV, rfl, hfz, hnd⟩ := hW
 have hA : DataW.TrodAll enc Try.prog W 0 (fun _ => true) true Try.f8.params.toList args.toList ds p := hA0
 rw [Try.params8] at hA hval
 obtain ⟨v0, vs0, d0, ds0, p0, q0, hargs, rfl, rfl, h0, r0⟩ := trodAll_cons hA
 obtain ⟨v1, vs1, d1, ds1, p1, q1, rfl, rfl, rfl, h1, r1⟩ := trodAll_cons r0
 obtain ⟨v2, vs2, d2, ds2, p2, q2, rfl, rfl, rfl, h2, r2⟩ := trodAll_cons r1
 obtain ⟨v3, vs3, d3, ds3, p3, q3, rfl, rfl, rfl, h3, r3⟩ := trodAll_cons r2
 obtain ⟨rfl, rfl, rfl⟩ := trodAll_nil r3
 obtain rfl : args = #[v0, v1, v2, v3] := by cases args; simp_all
 obtain ⟨rfl, rfl⟩ := trodVars_none hV
 have k0 := h0
 have lt0 : ∀ x ∈ p0, x.block < W.heap.size := by obtain ⟨m, hm⟩ := k0; exact DataW.trod_lt m _ _ _ hm
 obtain ⟨x0, cs0, rfl, hK0, w0⟩ := opens_agg opens27 Try.underlying27 (hval 0 27 v0 rfl rfl) h0
 obtain ⟨A0_2, c0_2, A0_4, c0_4, rfl, l0_2, g0_2, l0_4, g0_4⟩ := k27_open hK0
 obtain ⟨a1, rfl, rfl, rfl, w1⟩ := open_int Try.underlying3 (hval 1 3 v1 rfl rfl) h1
 obtain ⟨a2, rfl, rfl, rfl, w2⟩ := open_int Try.underlying3 (hval 2 3 v2 rfl rfl) h2
 obtain ⟨a3, rfl, rfl, rfl, w3⟩ := open_int Try.underlying3 (hval 3 3 v3 rfl rfl) h3
 obtain ⟨k, h⟩ := Pure.RunSettles x0 a1 a2 a3 w0 w1 w2 w3
 refine (Fb.calls k (x0.f0) (x0.f1.f0) A0_2 c0_2 (x0.f1.f1) (x0.f2) A0_4 c0_4 (x0.f3) a1 a2 a3 true W g0_2 l0_2 g0_4 l0_4 h).mono fun e W' ⟨he, bel0⟩ => ?_
 have bel : Below W.heap.size W W' := bel0
 subst he
 exact ⟨_, rfl, _, _, _, [], _, [], hW', trodAll_mk1 (shut_bool Try.underlying4 _), (trodAll_cons_mk (Below.trod laidOut (by kernel_rfl) (of_decide_eq_true (by kernel_rfl)) k0 bel lt0) (trodAll_cons_mk (shut_int Try.underlying3 w1) (trodAll_cons_mk (shut_int Try.underlying3 w2) (trodAll_cons_mk (shut_int Try.underlying3 w3) trodAll_mk0)))), rfl, bel.frame _, fun h => by cases h⟩
theorem over : Rows.runSettlesRow.holds Try.pinned (OpenSpec.ofChange Rows.runSettlesSpec) :=
 OpenClaim.holds_of_wide 8 Try.f8 rfl rfl rfl rfl rfl rfl rfl ⟨rfl, rfl, rfl, rfl, rfl⟩ rfl rfl rfl rfl rfl (by kernel_rfl) Try.func8 (by kernel_rfl)
  (of_decide_eq_true (by kernel_rfl)) (by unfold Func.isWrapper; first | (rw [if_pos (by decide +kernel)]; kernel_rfl) | (rw [if_neg (by decide +kernel)]; exact ⟨rfl, rfl⟩))
  (fun os started H enc _ => lifted os started H enc)
theorem proved : Rows.RunSettlesSaid := over
#print axioms proved
end Go.Proofs.Ytabmkighhmchmaa.runSettles
namespace Go.Proofs.Ytabmkighhmchmaa
theorem runSettles_holds : Rows.RunSettlesSaid := runSettles.proved
end Go.Proofs.Ytabmkighhmchmaa
