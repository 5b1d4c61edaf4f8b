/- The pure statement of NodeRights: which nodes may be, and the bytes of any one. -/
import Derived.Test.YtmnkabdaapiikaaSayNodeRights
import Derived.Test.YtmnkabdaapiikaaPutB
namespace Go.Proofs.Ytmnkabdaapiikaa.Pure
open Go.RowKit Go.Proofs.Ytmnkabdaapiikaa.X Go.Proofs.YtmnkabdaapiikaaW.PrintWords Go.Proofs.YtmnkabdaapiikaaW.PrintLast

theorem NodeRights : penelopelaw07_NodeRights.Pure := by
  intro x0 a1 hw
  obtain ⟨leaf, K, V, C⟩ := x0
  simp only at hw ⊢
  obtain ⟨_, h1, h2, h3⟩ := hw
  refine ⟨100, ?_⟩
  unfold penelopelaw07_NodeRights.f
  rw [few_f leaf K V C, Option.bind_some]
  simp only
  have e1 : (V.take 30).length ≤ 30 := by rw [List.length_take]; omega
  have e2 : (C.take 30).length ≤ 30 := by rw [List.length_take]; omega
  generalize K.take 30 = K at *
  generalize V.take 30 = V at *
  generalize C.take 30 = C at *
  rw [put_f leaf K V C (by omega) (by omega) 100 (by omega), Option.bind_some, ref_right_f leaf K V C true (by omega) (by omega) 100 (by omega), Option.bind_some, alive_f 100 (by omega),
    node_right_f leaf K V C a1 (by omega) (by omega) 100 (by omega), ref_right_f leaf K V C a1 (by omega) (by omega) 100 (by omega)]
  cases hr : rightB leaf K V C true
  · have hn : rightB leaf K V C a1 = false := by
      unfold rightB at hr ⊢
      revert hr
      cases standsB leaf K V C <;> cases decide (K.length ≤ 8) <;> simp
    rw [hn]
    simp [Go.Lib.toList_data]
  · have hs : standsB leaf K V C = true := by
      unfold rightB at hr
      simp only [Bool.and_eq_true] at hr
      exact hr.1
    rw [ref_put_f leaf K V C hs 100 (by omega)]
    simp
end Go.Proofs.Ytmnkabdaapiikaa.Pure
