/- The pure statement of NodeHalves: both parts of what is cut may be; joined with the key between them, they are the node; each key belongs to its part. -/
import Derived.Test.YtmnkabdaapiikaaSayNodeHalves
import Derived.Test.YtmnkabdaapiikaaCutB
namespace Go.Proofs.Ytmnkabdaapiikaa.Pure
open Go.RowKit Go.Proofs.Ytmnkabdaapiikaa.C Go.Proofs.YtmnkabdaapiikaaW.PrintWords Go.Proofs.YtmnkabdaapiikaaW.PrintLast

theorem NodeHalves : penelopelaw07_NodeHalves.Pure := by
  intro x0 hw
  obtain ⟨lf, K, V, C⟩ := x0
  simp only at hw ⊢
  clear hw
  refine ⟨3000, ?_⟩
  unfold penelopelaw07_NodeHalves.f
  have e0 : (K.take 30).length ≤ 30 := by rw [List.length_take]; omega
  have e1 : (V.take 30).length ≤ 30 := by rw [List.length_take]; omega
  have e2 : (C.take 30).length ≤ 30 := by rw [List.length_take]; omega
  generalize K.take 30 = K at *
  generalize V.take 30 = V at *
  generalize C.take 30 = C at *
  rw [cut_f lf K V C (by omega) (by omega) (by omega) 3000 (by omega), Option.bind_some, alive_f 3000 (by omega)]
  unfold cutV
  by_cases hs : standsB lf K V C = true ∧ K.length = 9
  case neg => rw [if_neg hs, if_neg (by simp), Option.bind_some, if_pos rfl, if_pos rfl]
  rw [if_pos hs]
  obtain ⟨hs, h9⟩ := hs
  obtain ⟨_, h2, _, h4, h5⟩ := stands_of hs
  cases lf
  · obtain ⟨rfl, _, hcl, hcb⟩ := h5 rfl
    rw [if_neg (show ¬ (false = true) by simp)]
    dsimp only
    rw [if_pos rfl]
    have l1 : (K.take 4).length = 4 := by rw [List.length_take]; omega
    have l2 : (K.drop 5).length = 4 := by rw [List.length_drop]; omega
    have l3 : (C.take 5).length = 5 := by rw [List.length_take]; omega
    have l4 : (C.drop 5).length = 5 := by rw [List.length_drop]; omega
    have s1 : standsB false (K.take 4) [] (C.take 5) = true := stands_mk (by omega) (ok_take h2 4) (tail_inner (by omega) (by omega) (fun b hb => hcb b (List.mem_of_mem_take hb)))
    have s2 : standsB false (K.drop 5) [] (C.drop 5) = true := stands_mk (by omega) (ok_drop h2 5) (tail_inner (by omega) (by omega) (fun b hb => hcb b (List.mem_of_mem_drop hb)))
    have ek : joinK false (K.take 4) (key K 4) (K.drop 5) = K := by
      unfold joinK
      rw [if_neg (by simp)]
      have : [key K 4] ++ K.drop 5 = K.drop 4 := by rw [List.drop_eq_getElem_cons (show 4 < K.length by omega), key_eq (by omega)]; rfl
      rw [this, List.take_append_drop]
    rw [join_f false (K.take 4) [] (C.take 5) (key K 4) false (K.drop 5) [] (C.drop 5) (by omega) (by simp) (by omega) (by omega) (by simp) (by omega) 3000 (by omega), Option.bind_some]
    have ej : joinV false (K.take 4) [] (C.take 5) (key K 4) false (K.drop 5) [] (C.drop 5) = (false, K, [], C, 0) := by
      unfold joinV
      rw [ek, List.take_append_drop, List.append_nil, if_pos (by simp [s1, s2, hs])]
    rw [ej]
    dsimp only
    rw [if_pos rfl]
    rw [like_self 3000 (by omega) false K [] C (by omega) (by simp) (by omega), Option.bind_some, if_pos rfl, node_right_f false _ _ _ false (by simp) (by omega) 3000 (by omega), Option.bind_some, right_mk s1 (by omega) (by omega), if_pos rfl,
      node_right_f false _ _ _ false (by simp) (by omega) 3000 (by omega), Option.bind_some, right_mk s2 (by omega) (by omega), if_pos rfl, if_pos ⟨rfl, rfl, by omega, by omega, low_part h2 4 (by omega), high_part h2 4 5 (by omega) (by omega)⟩, Option.bind_some, if_pos rfl]
  · obtain ⟨rfl, hvl, hvb⟩ := h4 rfl
    rw [if_pos (show true = true from rfl)]
    dsimp only
    rw [if_pos rfl]
    have l1 : (K.take 4).length = 4 := by rw [List.length_take]; omega
    have l2 : (K.drop 4).length = 5 := by rw [List.length_drop]; omega
    have l3 : (V.take 4).length = 4 := by rw [List.length_take]; omega
    have l4 : (V.drop 4).length = 5 := by rw [List.length_drop]; omega
    have s1 : standsB true (K.take 4) (V.take 4) [] = true := stands_mk (by omega) (ok_take h2 4) (tail_leaf (by omega) (fun b hb => hvb b (List.mem_of_mem_take hb)))
    have s2 : standsB true (K.drop 4) (V.drop 4) [] = true := stands_mk (by omega) (ok_drop h2 4) (tail_leaf (by omega) (fun b hb => hvb b (List.mem_of_mem_drop hb)))
    have ek : joinK true (K.take 4) (key K 4) (K.drop 4) = K := by
      unfold joinK
      rw [if_pos rfl, List.take_append_drop]
    rw [join_f true (K.take 4) (V.take 4) [] (key K 4) true (K.drop 4) (V.drop 4) [] (by omega) (by omega) (by simp) (by omega) (by omega) (by simp) 3000 (by omega), Option.bind_some]
    have ej : joinV true (K.take 4) (V.take 4) [] (key K 4) true (K.drop 4) (V.drop 4) [] = (true, K, V, [], 0) := by
      unfold joinV
      rw [ek, List.take_append_drop, List.append_nil, if_pos (by simp [s1, s2, hs])]
    rw [ej]
    dsimp only
    rw [if_pos rfl]
    rw [like_self 3000 (by omega) true K V [] (by omega) (by omega) (by simp), Option.bind_some, if_pos rfl, node_right_f true _ _ _ false (by omega) (by simp) 3000 (by omega), Option.bind_some, right_mk s1 (by omega) (by omega), if_pos rfl,
      node_right_f true _ _ _ false (by omega) (by simp) 3000 (by omega), Option.bind_some, right_mk s2 (by omega) (by omega), if_pos rfl, if_pos ⟨rfl, rfl, by omega, by omega, low_part h2 4 (by omega), high_part h2 4 4 (by omega) (by omega)⟩, Option.bind_some, if_pos rfl]
end Go.Proofs.Ytmnkabdaapiikaa.Pure
