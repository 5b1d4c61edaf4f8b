/- The pure statement of DagOrder: in the order each task stands once, behind all that it needs; as long as not all are done, one that can be done is free. -/
import Derived.Test.YtbgmhcefjggpgaaSayDagOrder
import Derived.Test.YtbgmhcefjggpgaaOrd
namespace Go.Proofs.Ytbgmhcefjggpgaa.Pure
open Go.RowKit Go.Proofs.Ytbgmhcefjggpgaa.X Go.Proofs.YtbgmhcefjggpgaaW.PrintWords Go.Proofs.YtbgmhcefjggpgaaW.PrintLast
set_option linter.unusedVariables false

theorem Free_ok (nm : ByteArray) (T : List S39) (hR : ∀ k, 100 ≤ k → dag_Right.f k nm T = some 0) (hT : inB T.length T) (hl : T.length ≤ 20) (D : List Bool) (hD : D.length = T.length) (k : Nat) (hk : 100 ≤ k) : dag_Free.f k nm T D = some (freeV D T 0, 0) := by
  unfold dag_Free.f
  rw [hR k hk, Option.bind_some, if_pos rfl, if_pos (by omega), free_f k T D hT hD hl]
  rfl
theorem needs_l (nm : ByteArray) (T : List S39) (hR : ∀ k, 100 ≤ k → dag_Right.f k nm T = some 0) (hT : inB T.length T) (hl : T.length ≤ 20) (D : List Bool) (hD : D.length = T.length) (j : Nat) (hj : j < T.length) (l : List Int) (hf : freeV D T 0 = (j : Int) :: l)
    (L : List Int) (lenL idx : Int) (K : Nat) (hK : 100 ≤ K) (hcont : ∀ k, K ≤ k → penelopelaw16_DagOrder.l0 k (D.set j true) L lenL (wrap64 (idx + 1)) nm T = some true) (N : List Int) (hN : ∀ x ∈ N, 0 ≤ x ∧ x < (T.length : Int) ∧ doneB D x = true) (hNl : N.length ≤ 20) : ∀ m i k, i + m = N.length → m + 1 + K ≤ k →
    penelopelaw16_DagOrder.l1 k D (j : Int) L lenL idx N (N.length : Int) (i : Int) nm T = some true := by
  intro m
  induction m with
  | zero =>
    intro i k hi hk
    obtain ⟨k, rfl⟩ : ∃ q, k = q + 1 := ⟨k - 1, by omega⟩
    have hx0 : rd ((j : Int) :: l) 0 = (j : Int) := rfl
    rw [penelopelaw16_DagOrder.l1, if_neg (by omega), Free_ok nm T hR hT hl D hD k (by omega), Option.bind_some, if_pos rfl, hf, if_neg (by simp; omega), if_pos (by simp), hx0, if_pos rfl, if_pos (by omega), if_pos (by omega), Int.toNat_natCast]
    exact hcont k (by omega)
  | succ m ih =>
    intro i k hi hk
    obtain ⟨k, rfl⟩ : ∃ q, k = q + 1 := ⟨k - 1, by omega⟩
    have hx := hN N[i] (List.getElem_mem (by omega))
    unfold doneB at hx
    rw [penelopelaw16_DagOrder.l1, if_pos (by omega), if_pos (by omega), if_pos (by omega), rd_nat _ _ (by omega), if_pos hx.1, if_pos (by omega), if_pos hx.2.2, show wrap64 ((i : Int) + 1) = ((i + 1 : Nat) : Int) by rw [w64_in _ (by omega)]; omega]
    exact ih (i + 1) k (by omega) (by omega)
theorem order_l (nm : ByteArray) (T : List S39) (hR : ∀ k, 100 ≤ k → dag_Right.f k nm T = some 0) (hT : inB T.length T) (hl : T.length ≤ 20) (L : List Int) (hL : L.length ≤ 100) : ∀ (rest : List Int) (D : List Bool) (i : Nat), D.length = T.length → Tr T D rest → L.drop i = rest → i ≤ L.length → ∀ k, 110 + 30 * rest.length ≤ k →
    penelopelaw16_DagOrder.l0 k D L (L.length : Int) (i : Int) nm T = some true := by
  intro rest
  induction rest with
  | nil =>
    intro D i hD hTr hd hi k hk
    obtain ⟨k, rfl⟩ : ∃ q, k = q + 1 := ⟨k - 1, by omega⟩
    have : L.length ≤ i := List.drop_eq_nil_iff.1 hd
    rw [Tr] at hTr
    rw [penelopelaw16_DagOrder.l0, if_neg (by omega), Free_ok nm T hR hT hl D hD k (by omega), Option.bind_some, alive_f k (by omega), Option.bind_some, if_pos rfl, if_pos rfl, hTr]
    rfl
  | cons x xs ih =>
    intro D i hD hTr hd hi k hk
    simp only [List.length_cons] at hk
    rw [Tr] at hTr
    obtain ⟨⟨l, hf⟩, hTr2⟩ := hTr
    obtain ⟨j, e, hj, hcan⟩ := free_mem D T 0 x (by rw [hf]; simp)
    unfold canB at hcan
    simp only [Nat.zero_add, Bool.and_eq_true, Bool.not_eq_true'] at hcan e
    subst e
    have hil : i < L.length := by
      rcases Nat.lt_or_ge i L.length with h | h
      · exact h
      · rw [List.drop_eq_nil_of_le h] at hd; cases hd
    rw [List.drop_eq_getElem_cons hil] at hd
    injection hd with hd1 hd2
    obtain ⟨k, rfl⟩ : ∃ q, k = q + 2 := ⟨k - 2, by omega⟩
    have hdj : rdOf false D (j : Int) = false := hcan.1
    have ht := hT T[j] (List.getElem_mem hj)
    have hrd : rd_T39 T (j : Int) = T[j] := by simp [rd_T39, List.getD_eq_getElem?_getD, List.getElem?_eq_getElem hj]
    rw [Int.toNat_natCast] at hTr2
    rw [penelopelaw16_DagOrder.l0, if_pos (by omega), if_pos (by omega), if_pos (by omega), rd_nat _ _ hil, hd1, if_neg (by omega), if_neg (by omega), if_pos (by omega), if_pos (by omega), hdj, penelopelaw16_DagOrder.j1, if_neg (by simp), if_pos (by omega), if_pos (by omega), hrd]
    refine needs_l nm T hR hT hl D hD j hj l hf L L.length i (110 + 30 * xs.length) (by omega) (fun k' hk' => ?_) T[j].f0 (fun y hy => ?_) ht.1 T[j].f0.length 0 k (by omega) (by omega)
    · rw [show wrap64 ((i : Int) + 1) = ((i + 1 : Nat) : Int) by rw [w64_in _ (by omega)]; omega]
      exact ih (D.set j true) (i + 1) (by rw [List.length_set]; exact hD) hTr2 hd2 (by omega) k' hk'
    · exact ⟨(ht.2 y hy).1, (ht.2 y hy).2, List.all_eq_true.1 hcan.2 y hy⟩
theorem DagOrder : penelopelaw16_DagOrder.Pure := by
  intro x0 _
  obtain ⟨nm, T⟩ := x0
  simp only
  refine ⟨1000, ?_⟩
  obtain ⟨hl, hn⟩ := few_ok T
  unfold penelopelaw16_DagOrder.f penelopelaw16_few.f
  rw [Option.bind_some]
  simp only
  generalize (T.take 20).map cutT = T at *
  obtain ⟨R, ord, hR, hz⟩ := right_ex nm T hn hl
  unfold dag_Order.f
  rw [hR 1000 (by omega), Option.bind_some]
  by_cases h : R = 0
  · obtain ⟨hT, h1, h10, ho, hTr, hord⟩ := hz h
    subst h
    rw [if_pos rfl, hord 1000 (by omega), Option.bind_some, Option.bind_some, if_pos rfl]
    simp only
    rw [if_pos (by omega), if_pos (by omega), if_pos (by omega), Int.toNat_natCast]
    exact order_l nm T hR hT hl ord (by omega) ord (List.replicate T.length false) 0 (by simp) hTr (by simp) (by omega) 1000 (by omega)
  · rw [if_neg h, Option.bind_some, if_neg h, alive_f 1000 (by omega), Option.bind_some, if_pos rfl, Option.bind_some]
    simp
end Go.Proofs.Ytbgmhcefjggpgaa.Pure
