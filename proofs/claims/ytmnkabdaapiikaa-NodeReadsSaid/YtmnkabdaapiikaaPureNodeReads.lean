/- The pure statement of NodeReads: any bytes are read as just that node, or refused. -/
import Derived.Test.YtmnkabdaapiikaaRx9
import Derived.Test.YtmnkabdaapiikaaReads
namespace Go.Proofs.Ytmnkabdaapiikaa.Pure
open Go.RowKit Go.Proofs.Ytmnkabdaapiikaa.R Go.Proofs.YtmnkabdaapiikaaW.PrintWords Go.Proofs.YtmnkabdaapiikaaW.PrintLast

theorem NodeReads : penelopelaw07_NodeReads.Pure := by
  intro kind a _ _
  refine ⟨4000, ?_⟩
  unfold penelopelaw07_NodeReads.f
  obtain ⟨h1, h2, h3⟩ := cut5000 a
  rw [if_pos h1, if_pos h2]
  generalize a.extract 0 (mn (a.size : Int) 5000).toNat = a at *
  rw [node_get_f 4000 (by omega) kind a h3, Option.bind_some, ref_get_f 4000 (by omega) kind a h3, Option.bind_some, alive_f 4000 (by omega), Option.bind_some, if_pos rfl, if_pos rfl]
  rcases read_cases kind a with ⟨e, he, h⟩ | ⟨leaf, K, V, C, h, _, g1, g2, g3⟩
  · rw [h, like_self 4000 (by omega) false [] [] [] (by simp) (by simp) (by simp)]; rfl
  · rw [h, like_self 4000 (by omega) leaf K V C (by omega) (by omega) (by omega)]; rfl
end Go.Proofs.Ytmnkabdaapiikaa.Pure
