/- The pure statement of NodeOrder: all keys ahead of the place of a key are below it, those from there on are not; a key belongs to a child behind all keys that are not above it. -/
import Derived.Test.YtmnkabdaapiikaaSayNodeOrder
import Derived.Test.YtmnkabdaapiikaaPos
namespace Go.Proofs.Ytmnkabdaapiikaa.Pure
open Go.RowKit Go.Proofs.Ytmnkabdaapiikaa.X Go.Proofs.YtmnkabdaapiikaaW.PrintWords Go.Proofs.YtmnkabdaapiikaaW.PrintLast

theorem order_l (leaf : Bool) (K V : List ByteArray) (C : List Int) (x : ByteArray) (hs : standsB leaf K V C = true) (hv : V.length ≤ 40) (hc : C.length ≤ 40) (r : Nat) (hr : r ≤ K.length) (hp : ∀ i, i < K.length → Op.bytesLess (key K i).toList x.toList = decide (i < r)) : ∀ m i k, i + m = K.length → m + 20 ≤ k →
    penelopelaw07_NodeOrder.l0 k x (r : Int) (isB K x r) K (K.length : Int) (i : Int) leaf K V C = some true := by
  have hso := stands_of hs
  have h9 := hso.1
  have hcn := cnt_le (x := x) hr
  intro m
  induction m with
  | zero =>
    intro i k hi hk
    obtain ⟨k, rfl⟩ : ∃ q, k = q + 1 := ⟨k - 1, by omega⟩
    rw [penelopelaw07_NodeOrder.l0, if_neg (by omega), kid_f leaf K V C x hs (by omega) (by omega) r hr hp k (by omega), Option.bind_some, alive_f k (by omega)]
    cases leaf
    · have hC := (hso.2.2.2.2 rfl).2.2.1
      simp only [Bool.false_eq_true, if_false]
      unfold cnt at hcn ⊢
      cases hb : isB K x r
      · rw [hb] at hcn
        simp at hcn ⊢
        omega
      · rw [hb] at hcn
        simp only [if_true] at hcn ⊢
        rw [w64_in _ (by omega)]
        simp
        omega
    · simp
  | succ m ih =>
    intro i k hi hk
    obtain ⟨k, rfl⟩ : ∃ q, k = q + 1 := ⟨k - 1, by omega⟩
    rw [penelopelaw07_NodeOrder.l0, if_pos (by omega), if_pos (by omega), if_pos (by omega), rdOf_nat, hp i (by omega), show wrap64 ((i : Int) + 1) = ((i + 1 : Nat) : Int) by rw [w64_in _ (by omega)]; omega, ih (i + 1) k (by omega) (by omega)]
    have e : decide ((i : Int) < (r : Int)) = decide (i < r) := by simp
    rw [e, if_neg (by simp)]
    by_cases he : (key K i).toList = x.toList
    · rw [if_pos he]
      have hA := hp i (by omega)
      rw [less_iff, he, decide_eq_false (List.lt_irrefl _)] at hA
      have h1 : ¬ i < r := by
        intro h; rw [decide_eq_true h] at hA; cases hA
      have h2 : i = r := by
        rcases Nat.lt_or_eq_of_le (Nat.le_of_not_lt h1) with h3 | h3
        · exfalso
          have h4 := asc hso.2.1 i r h3 (by omega)
          rw [he] at h4
          have h5 := hp r (by omega)
          rw [less_iff, decide_eq_true h4, decide_eq_false (by omega)] at h5
          cases h5
        · exact h3.symm
      subst h2
      have hb : isB K x i = true := by
        unfold isB
        rw [decide_eq_true (show i < K.length by omega), he]
        simp
      rw [hb, if_pos rfl, if_pos rfl]
    · rw [if_neg he]
theorem NodeOrder : penelopelaw07_NodeOrder.Pure := by
  intro x0 x hw _
  obtain ⟨leaf, K, V, C⟩ := x0
  simp only at hw ⊢
  clear hw
  refine ⟨101, ?_⟩
  unfold penelopelaw07_NodeOrder.f
  rw [few_f leaf K V C, Option.bind_some]
  simp only
  have e1 : (V.take 30).length ≤ 30 := by rw [List.length_take]; omega
  have e2 : (C.take 30).length ≤ 30 := by rw [List.length_take]; omega
  generalize K.take 30 = K at *
  generalize V.take 30 = V at *
  generalize C.take 30 = C at *
  rw [alive_f 101 (by omega), ref_stands_f leaf K V C (by omega) (by omega) 101 (by omega), Option.bind_some]
  cases hs : standsB leaf K V C
  · simp
  · obtain ⟨r, hr, hp⟩ := pos_ex (stands_of hs).2.1 x
    have h9 := (stands_of hs).1
    rw [if_pos rfl, find_f leaf K V C x hs (by omega) (by omega) r hr hp 101 (by omega), Option.bind_some]
    simp only
    rw [if_neg (by omega), penelopelaw07_NodeOrder.j0, if_neg (by simp; omega)]
    exact order_l leaf K V C x hs (by omega) (by omega) r hr hp K.length 0 100 (by omega) (by omega)
end Go.Proofs.Ytmnkabdaapiikaa.Pure
