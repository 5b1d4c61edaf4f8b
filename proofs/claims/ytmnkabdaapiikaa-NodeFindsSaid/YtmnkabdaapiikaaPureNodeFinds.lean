/- The pure statement of NodeFinds: where any key stands in any node, and which child it belongs to. -/
import Derived.Test.YtmnkabdaapiikaaSayNodeFinds
import Derived.Test.YtmnkabdaapiikaaPos
namespace Go.Proofs.Ytmnkabdaapiikaa.Pure
open Go.RowKit Go.Proofs.Ytmnkabdaapiikaa.X Go.Proofs.YtmnkabdaapiikaaW.PrintWords Go.Proofs.YtmnkabdaapiikaaW.PrintLast

theorem NodeFinds : penelopelaw07_NodeFinds.Pure := by
  intro x0 x hw _
  obtain ⟨leaf, K, V, C⟩ := x0
  simp only at hw ⊢
  clear hw
  refine ⟨100, ?_⟩
  unfold penelopelaw07_NodeFinds.f
  rw [few_f leaf K V C, Option.bind_some]
  simp only
  have e1 : (V.take 30).length ≤ 30 := by rw [List.length_take]; omega
  have e2 : (C.take 30).length ≤ 30 := by rw [List.length_take]; omega
  generalize K.take 30 = K at *
  generalize V.take 30 = V at *
  generalize C.take 30 = C at *
  rw [alive_f 100 (by omega)]
  cases hs : standsB leaf K V C
  · rw [find_no leaf K V C x hs (by omega) (by omega) 100 (by omega), Option.bind_some, ref_find_no leaf K V C x hs (by omega) (by omega) 100 (by omega), Option.bind_some, kid_no leaf K V C x hs (by omega) (by omega) 100 (by omega), ref_kid_no leaf K V C x hs (by omega) (by omega) 100 (by omega)]
    simp
  · obtain ⟨r, hr, hp⟩ := pos_ex (stands_of hs).2.1 x
    rw [find_f leaf K V C x hs (by omega) (by omega) r hr hp 100 (by omega), Option.bind_some, ref_find_f leaf K V C x hs (by omega) (by omega) r hr hp 100 (by omega), Option.bind_some, kid_f leaf K V C x hs (by omega) (by omega) r hr hp 100 (by omega), ref_kid_f leaf K V C x hs (by omega) (by omega) r hr hp 100 (by omega)]
    simp
end Go.Proofs.Ytmnkabdaapiikaa.Pure
