/- The pure statement of DagRights: which graphs may be, in which order their tasks can be done, and which are free. -/
import Derived.Test.YtbgmhcefjggpgaaSayDagRights
import Derived.Test.YtbgmhcefjggpgaaRefD
namespace Go.Proofs.Ytbgmhcefjggpgaa.Pure
open Go.RowKit Go.Proofs.Ytbgmhcefjggpgaa.X Go.Proofs.YtbgmhcefjggpgaaW.PrintWords Go.Proofs.YtbgmhcefjggpgaaW.PrintLast
set_option linter.unusedVariables false

theorem DagRights : penelopelaw16_DagRights.Pure := by
  intro x0 l1 _ _
  obtain ⟨nm, T⟩ := x0
  simp only
  refine ⟨5000, ?_⟩
  obtain ⟨hl, hn⟩ := few_ok T
  unfold penelopelaw16_DagRights.f penelopelaw16_few.f
  rw [Option.bind_some]
  simp only
  generalize (T.take 20).map cutT = T at *
  obtain ⟨R, ord, hR, hz⟩ := right_ex nm T hn hl
  obtain ⟨R', hR', hRef⟩ := right_both nm T hn hl
  have eR : R' = R := by
    have h1 := hR 5000 (by omega)
    rw [hR' 5000 (by omega)] at h1
    exact Option.some.inj h1
  subst eR
  rw [hRef 5000 (by omega), Option.bind_some, hR 5000 (by omega)]
  unfold dag_Order.f dag_Free.f
  rw [hR 5000 (by omega), Option.bind_some, Option.bind_some, alive_f 5000 (by omega)]
  by_cases h : R' = 0
  · obtain ⟨hT, h1, h10, ho, hTr, hord⟩ := hz h
    subst h
    rw [if_pos rfl, if_pos rfl, hord 5000 (by omega), Option.bind_some, Option.bind_some]
    have hro : peneloperef16_Order.f 4999 nm T = some ord := by
      unfold peneloperef16_Order.f
      rw [if_pos (by omega), if_pos (by omega), Int.toNat_natCast]
      have := ref_order_l nm T hT hl ord (List.replicate T.length false) 0 4999 [] (by simp) hTr (by omega) (by omega) (by simp)
      exact this
    by_cases hd : l1.length = T.length
    · rw [if_pos (by omega), free_f 5000 T l1 hT hd hl, Option.bind_some, Option.bind_some, Option.bind_some, if_pos rfl, if_pos rfl, Option.bind_some, penelopelaw16_DagRights.j0, if_neg (by simp), if_pos rfl, hro, Option.bind_some, same_self 4999 (by omega) ord (by omega), Option.bind_some, if_pos rfl, if_pos (by omega), if_pos rfl, ref_free_f nm T hT hl l1 hd 4999 (by omega), Option.bind_some,
        same_self 4999 (by omega) (freeV l1 T 0) (by have := free_len l1 T 0; omega)]
      rfl
    · rw [if_neg (by omega), Option.bind_some, Option.bind_some, if_pos rfl, if_pos rfl, Option.bind_some, penelopelaw16_DagRights.j0, if_neg (by simp), if_pos rfl, hro, Option.bind_some, same_self 4999 (by omega) ord (by omega), Option.bind_some, if_pos rfl, if_neg (by omega), if_pos rfl]
      rfl
  · rw [if_neg h, if_neg h, Option.bind_some, Option.bind_some, Option.bind_some, if_pos rfl, if_pos rfl, Option.bind_some, penelopelaw16_DagRights.j0, if_neg (by simp), if_neg h, if_pos rfl]
    simp [wrap64]
end Go.Proofs.Ytbgmhcefjggpgaa.Pure
