/- Graphs of tasks: the plain value of what the reference computes. -/
import Derived.Test.YtbgmhcefjggpgaaCyc
import Derived.Test.YtbgmhcefjggpgaaXx3
import Derived.Test.YtbgmhcefjggpgaaXx8
import Derived.Test.YtbgmhcefjggpgaaXx11
namespace Go.Proofs.Ytbgmhcefjggpgaa.Pure
open Go.RowKit Go.Proofs.Ytbgmhcefjggpgaa.X Go.Proofs.YtbgmhcefjggpgaaW.PrintWords Go.Proofs.YtbgmhcefjggpgaaW.PrintLast
set_option linter.unusedVariables false

theorem rdT {T : List S39} {i : Nat} (h : i < T.length) : rd_T39 T (i : Int) = T[i] := by simp [rd_T39, List.getD_eq_getElem?_getD, List.getElem?_eq_getElem h]
theorem wi (i : Nat) (h : i < 100000) : wrap64 ((i : Int) + 1) = ((i + 1 : Nat) : Int) := by rw [w64_in _ (by omega)]; omega
theorem shaped_l1 (n : Int) (T : List S39) (len x28 : Int) (t : S39) (hl : t.f0.length ≤ 1000) : ∀ m a k last, a + m = t.f0.length → (a = 0 ∧ last = -1 ∨ 0 < a ∧ 0 ≤ last ∧ ∃ h : a - 1 < t.f0.length, t.f0[a - 1] = last) →
    peneloperef16_shaped.l1 (k + m + 1) n T len x28 t.f0 (t.f0.length : Int) (a : Int) t.f0 t.f1 t.f2 t.f3 = if (ascB n last (t.f0.drop a) && numsB t) = true then peneloperef16_shaped.l0 k n T len (wrap64 (x28 + 1)) else some false := by
  intro m
  induction m with
  | zero =>
    intro a k last ha hp
    rw [Nat.add_zero, peneloperef16_shaped.l1, if_neg (by omega), List.drop_eq_nil_of_le (by omega), ascB, Bool.true_and]
    unfold numsB
    by_cases h1 : 1 ≤ t.f1
    case neg => rw [if_pos (by omega), if_neg (by simp [h1])]
    rw [if_neg (by omega)]
    by_cases h2 : t.f1 ≤ 8
    case neg => rw [if_pos (by omega), if_neg (by simp [h2])]
    rw [if_neg (by omega)]
    by_cases h3 : 0 ≤ t.f2
    case neg => rw [if_pos (by omega), if_neg (by simp [h3])]
    rw [if_neg (by omega)]
    by_cases h4 : t.f2 ≤ 1048576
    case neg => rw [if_pos (by omega), if_neg (by simp [h4])]
    rw [if_neg (by omega)]
    by_cases h5 : 1 ≤ t.f3
    case neg => rw [if_pos (by omega), if_neg (by simp [h5])]
    rw [if_neg (by omega)]
    by_cases h6 : t.f3 ≤ 1048576
    case neg => rw [if_pos (by omega), if_neg (by simp [h6])]
    rw [if_neg (by omega), if_pos (by simp [h1, h2, h3, h4, h5, h6])]
  | succ m ih =>
    intro a k last ha hp
    have hd : t.f0.drop a = t.f0[a]'(by omega) :: t.f0.drop (a + 1) := List.drop_eq_getElem_cons (by omega)
    rw [show k + (m + 1) + 1 = (k + m + 1) + 1 by omega, peneloperef16_shaped.l1, if_pos (by omega), if_pos (by omega), if_pos (by omega), rd_nat _ _ (by omega), hd, ascB]
    have hI := fun (hx : 0 ≤ t.f0[a]'(by omega)) => ih (a + 1) k (t.f0[a]'(by omega)) (by omega) (.inr ⟨by omega, hx, by simp; omega, by simp⟩)
    rw [wi a (by omega)]
    by_cases h1 : t.f0[a]'(by omega) < 0
    · rw [if_pos h1, if_neg]
      have : ¬ last < t.f0[a]'(by omega) := by rcases hp with ⟨_, e⟩ | ⟨_, e, _⟩ <;> omega
      simp [this]
    rw [if_neg h1]
    by_cases h2 : t.f0[a]'(by omega) ≥ n
    · rw [if_pos h2, if_neg]
      have : ¬ t.f0[a]'(by omega) < n := by omega
      simp [this]
    rw [if_neg h2, hI (by omega)]
    rcases hp with ⟨e1, e2⟩ | ⟨e1, e2, e3, e4⟩
    · rw [if_neg (by omega)]
      have g1 : last < t.f0[a]'(by omega) := by omega
      have g2 : t.f0[a]'(by omega) < n := by omega
      simp only [g1, g2, decide_true, Bool.true_and]
    · have ew : wrap64 ((a : Int) - 1) = ((a - 1 : Nat) : Int) := by rw [w64_in _ (by omega)]; omega
      rw [if_pos (by omega), ew, if_pos (by omega), if_pos (by omega), rd_nat _ _ e3, e4]
      have g2 : t.f0[a]'(by omega) < n := by omega
      by_cases g1 : last < t.f0[a]'(by omega)
      · rw [if_neg (by omega)]
        simp only [g1, g2, decide_true, Bool.true_and]
      · rw [if_pos (by omega), if_neg (by simp [g1])]
theorem shaped_l0 (n : Int) (T : List S39) (hT : ∀ t ∈ T, t.f0.length ≤ 20) (hl : T.length ≤ 20) : ∀ m i k, i + m = T.length → 23 * m + 1 ≤ k → peneloperef16_shaped.l0 k n T (T.length : Int) (i : Int) = some ((T.drop i).all (taskB n)) := by
  intro m
  induction m with
  | zero =>
    intro i k hi hk
    obtain ⟨k, rfl⟩ : ∃ q, k = q + 1 := ⟨k - 1, by omega⟩
    rw [peneloperef16_shaped.l0, if_neg (by omega), List.drop_eq_nil_of_le (by omega)]
    rfl
  | succ m ih =>
    intro i k hi hk
    have hiT : i < T.length := by omega
    have ht := hT T[i] (List.getElem_mem hiT)
    obtain ⟨k, rfl⟩ : ∃ q, k = (q + T[i].f0.length + 1) + 1 := ⟨k - T[i].f0.length - 2, by omega⟩
    rw [peneloperef16_shaped.l0, if_pos (by omega), if_pos (by omega), if_pos (by omega), rdT (by omega), show (0 : Int) = ((0 : Nat) : Int) from rfl, shaped_l1 n T _ _ T[i] (by omega) T[i].f0.length 0 k (-1) (by omega) (.inl ⟨rfl, rfl⟩), List.drop_zero, wi i (by omega), ih (i + 1) k (by omega) (by omega), List.drop_eq_getElem_cons (show i < T.length by omega), List.all_cons]
    unfold taskB
    cases ascB n (-1) T[i].f0 && numsB T[i] <;> simp
theorem reach_l3 (nm : ByteArray) (T : List S39) (x8 x41 x42 : Int) (x40 : List S39) (L : List Int) (hL : L.length ≤ 1000) : ∀ m a k (M : List Bool), (∀ x ∈ L, 0 ≤ x ∧ x < (M.length : Int)) → a + m = L.length →
    peneloperef16_reach.l3 (k + m + 1) M x8 x40 x41 x42 L (L.length : Int) (a : Int) nm T = peneloperef16_reach.l2 k (markL M (L.drop a)) x8 x40 x41 (wrap64 (x42 + 1)) nm T := by
  intro m
  induction m with
  | zero =>
    intro a k M h ha
    rw [Nat.add_zero, peneloperef16_reach.l3, if_neg (by omega), List.drop_eq_nil_of_le (by omega), markL]
  | succ m ih =>
    intro a k M h ha
    have hx := h L[a] (List.getElem_mem (by omega))
    rw [show k + (m + 1) + 1 = (k + m + 1) + 1 by omega, peneloperef16_reach.l3, if_pos (by omega), if_pos (by omega), if_pos (by omega), rd_nat _ _ (by omega), if_pos hx.1, if_pos hx.2, wi a (by omega), ih (a + 1) k _ (by rw [List.length_set]; exact h) (by omega), List.drop_eq_getElem_cons (show a < L.length by omega), markL]
theorem reach_l2 (nm : ByteArray) (T : List S39) (hT : inB T.length T) (hl : T.length ≤ 20) (x8 : Int) : ∀ m i (M : List Bool), M.length = T.length → i + m = T.length → ∀ k, 23 * m + 1 ≤ k → ∃ k', k - (23 * m + 1) ≤ k' ∧
    peneloperef16_reach.l2 k M x8 T (T.length : Int) (i : Int) nm T = peneloperef16_reach.l1 k' (roundL (T.drop i) i M) (wrap64 (x8 + 1)) nm T := by
  intro m
  induction m with
  | zero =>
    intro i M hM hi k hk
    obtain ⟨k, rfl⟩ : ∃ q, k = q + 1 := ⟨k - 1, by omega⟩
    refine ⟨k, by omega, ?_⟩
    rw [peneloperef16_reach.l2, if_neg (by omega), List.drop_eq_nil_of_le (by omega), roundL]
  | succ m ih =>
    intro i M hM hi k hk
    have hiT : i < T.length := by omega
    have ht := hT T[i] (List.getElem_mem hiT)
    obtain ⟨k, rfl⟩ : ∃ q, k = q + 1 := ⟨k - 1, by omega⟩
    rw [peneloperef16_reach.l2, if_pos (by omega), if_pos (by omega), if_pos (by omega), if_pos (by omega), rdOf_g, List.drop_eq_getElem_cons (show i < T.length by omega), roundL]
    cases hg : g M i with
    | false =>
      rw [if_neg (by simp), if_neg (by simp), wi i (by omega)]
      obtain ⟨k', h1, h2⟩ := ih (i + 1) M hM (by omega) k (by omega)
      exact ⟨k', by omega, h2⟩
    | true =>
      rw [if_pos rfl, if_pos rfl, rdT (by omega)]
      obtain ⟨q, rfl⟩ : ∃ q, k = q + T[i].f0.length + 1 := ⟨k - T[i].f0.length - 1, by omega⟩
      rw [show (0 : Int) = ((0 : Nat) : Int) from rfl, reach_l3 nm T x8 _ _ T T[i].f0 (by omega) T[i].f0.length 0 q M (by rw [hM]; exact ht.2) (by omega), List.drop_zero, wi i (by omega)]
      obtain ⟨k', h1, h2⟩ := ih (i + 1) (markL M T[i].f0) (by rw [mark_len]; exact hM) (by omega) q (by omega)
      exact ⟨k', by omega, h2⟩
theorem reach_l1 (nm : ByteArray) (T : List S39) (hT : inB T.length T) (hl : T.length ≤ 10) : ∀ r x8 (M : List Bool), M.length = T.length → x8 + r = T.length → ∀ k, 240 * r + 1 ≤ k → peneloperef16_reach.l1 k M (x8 : Int) nm T = some (roundsL T r M) := by
  intro r
  induction r with
  | zero =>
    intro x8 M hM hi k hk
    obtain ⟨k, rfl⟩ : ∃ q, k = q + 1 := ⟨k - 1, by omega⟩
    rw [peneloperef16_reach.l1, if_neg (by omega), roundsL]
  | succ r ih =>
    intro x8 M hM hi k hk
    obtain ⟨k, rfl⟩ : ∃ q, k = q + 1 := ⟨k - 1, by omega⟩
    obtain ⟨k', h1, h2⟩ := reach_l2 nm T hT (by omega) (x8 : Int) T.length 0 M hM (by omega) k (by omega)
    rw [peneloperef16_reach.l1, if_pos (by omega), show (0 : Int) = ((0 : Nat) : Int) from rfl, h2, List.drop_zero, wi x8 (by omega), ih (x8 + 1) _ (by rw [round_len]; exact hM) (by omega) k' (by omega), roundsL]
theorem reach_l0 (nm : ByteArray) (T : List S39) (L : List Int) (hL : L.length ≤ 1000) : ∀ m a k (M : List Bool), (∀ x ∈ L, 0 ≤ x ∧ x < (M.length : Int)) → a + m = L.length →
    peneloperef16_reach.l0 (k + m + 1) M L (L.length : Int) (a : Int) nm T = peneloperef16_reach.l1 k (markL M (L.drop a)) 0 nm T := by
  intro m
  induction m with
  | zero =>
    intro a k M h ha
    rw [Nat.add_zero, peneloperef16_reach.l0, if_neg (by omega), List.drop_eq_nil_of_le (by omega), markL]
  | succ m ih =>
    intro a k M h ha
    have hx := h L[a] (List.getElem_mem (by omega))
    rw [show k + (m + 1) + 1 = (k + m + 1) + 1 by omega, peneloperef16_reach.l0, if_pos (by omega), if_pos (by omega), if_pos (by omega), rd_nat _ _ (by omega), if_pos hx.1, if_pos hx.2, wi a (by omega), ih (a + 1) k _ (by rw [List.length_set]; exact h) (by omega), List.drop_eq_getElem_cons (show a < L.length by omega), markL]
theorem reach_f (nm : ByteArray) (T : List S39) (hT : inB T.length T) (hl : T.length ≤ 10) (i : Nat) (hi : i < T.length) (k : Nat) (hk : 3000 ≤ k) : peneloperef16_reach.f k nm T (i : Int) = some (reachL T i) := by
  unfold peneloperef16_reach.f reachL
  have ht := hT T[i] (List.getElem_mem hi)
  obtain ⟨q, rfl⟩ : ∃ q, k = q + T[i].f0.length + 1 := ⟨k - T[i].f0.length - 1, by omega⟩
  rw [if_pos (by omega), if_pos (by omega), if_pos (by omega), if_pos (by omega), Int.toNat_natCast, rdT hi, needs_at hi]
  have h0 := reach_l0 nm T T[i].f0 (by omega) T[i].f0.length 0 q (List.replicate T.length false) (by simpa using ht.2) (by omega)
  rw [List.drop_zero] at h0
  rw [show ((0 : Nat) : Int) = 0 from rfl] at h0
  rw [h0]
  exact reach_l1 nm T hT hl T.length 0 _ (by rw [mark_len]; simp) (by omega) q (by omega)
theorem right_l0 (nm : ByteArray) (T : List S39) (hT : inB T.length T) (hl : T.length ≤ 10) : ∀ m i k, i + m = T.length → m + 3001 ≤ k →
    peneloperef16_Right.l0 k (T.length : Int) (i : Int) nm T = some (if (List.range' i m).any (fun j => g (reachL T j) j) = true then 160 else 0) := by
  intro m
  induction m with
  | zero =>
    intro i k hi hk
    obtain ⟨k, rfl⟩ : ∃ q, k = q + 1 := ⟨k - 1, by omega⟩
    rw [peneloperef16_Right.l0, if_neg (by omega)]
    rfl
  | succ m ih =>
    intro i k hi hk
    obtain ⟨k, rfl⟩ : ∃ q, k = q + 1 := ⟨k - 1, by omega⟩
    have hlen : (reachL T i).length = T.length := by unfold reachL; rw [rounds_len, mark_len]; simp
    rw [peneloperef16_Right.l0, if_pos (by omega), reach_f nm T hT hl i (by omega) k (by omega), Option.bind_some, if_pos (by omega), if_pos (by omega), rdOf_g, wi i (by omega), ih (i + 1) k (by omega) (by omega), List.range'_succ, List.any_cons]
    cases g (reachL T i) i
    · rw [if_neg (by simp), Bool.false_or]
    · simp
/-- What both tell of a graph. -/
theorem right_both (nm : ByteArray) (T : List S39) (hn : ∀ t ∈ T, t.f0.length ≤ 20) (hl : T.length ≤ 20) : ∃ R, (∀ k, 100 ≤ k → dag_Right.f k nm T = some R) ∧ (∀ k, 4000 ≤ k → peneloperef16_Right.f k nm T = some R) := by
  unfold dag_Right.f peneloperef16_Right.f peneloperef16_shaped.f
  by_cases h1 : 10 < T.length
  · exact ⟨2, fun k hk => by rw [if_pos h1], fun k hk => by rw [if_pos (by omega)]⟩
  by_cases h2 : T.length < 1
  · refine ⟨1, fun k hk => by rw [if_neg h1, if_pos h2], fun k hk => ?_⟩
    obtain ⟨k, rfl⟩ : ∃ q, k = q + 1 := ⟨k - 1, by omega⟩
    rw [if_neg (by omega), if_pos (by omega), peneloperef16_shaped.j0, if_pos rfl]; rfl
  by_cases h3 : nm.size < 1
  · refine ⟨1, fun k hk => by rw [if_neg h1, if_neg h2, if_pos h3], fun k hk => ?_⟩
    obtain ⟨k, rfl⟩ : ∃ q, k = q + 1 := ⟨k - 1, by omega⟩
    rw [if_neg (by omega), if_neg (by omega), if_pos (by omega), peneloperef16_shaped.j0, if_pos rfl]; rfl
  by_cases h4 : 16 < nm.size
  · refine ⟨1, fun k hk => by rw [if_neg h1, if_neg h2, if_neg h3, if_pos h4], fun k hk => ?_⟩
    obtain ⟨k, rfl⟩ : ∃ q, k = q + 1 := ⟨k - 1, by omega⟩
    rw [if_neg (by omega), if_neg (by omega), if_neg (by omega), peneloperef16_shaped.j0, if_pos (by simp; omega)]; rfl
  have hsh : ∀ k, 4000 ≤ k → peneloperef16_shaped.j0 k (T.length : Int) (decide ((nm.size : Int) > 16)) nm T = some (T.all (taskB (T.length : Int))) := by
    intro k hk
    obtain ⟨k, rfl⟩ : ∃ q, k = q + 1 := ⟨k - 1, by omega⟩
    rw [peneloperef16_shaped.j0, if_neg (by simp; omega)]
    have := shaped_l0 (T.length : Int) T hn hl T.length 0 k (by omega) (by omega)
    rw [List.drop_zero] at this
    exact this
  cases h5 : T.all (taskB (T.length : Int)) with
  | false =>
    exact ⟨1, fun k hk => by rw [if_neg h1, if_neg h2, if_neg h3, if_neg h4, anyT_f _ k (by omega) T hn, h5]; rfl, fun k hk => by rw [if_neg (by omega), if_neg (by omega), if_neg (by omega), hsh k hk, h5]; rfl⟩
  | true =>
    have hT : inB T.length T := by
      intro t ht
      refine ⟨hn t ht, fun x hx => ?_⟩
      have h6 := List.all_eq_true.1 h5 t ht
      unfold taskB at h6
      simp only [Bool.and_eq_true] at h6
      have := asc_mem h6.1 x hx
      omega
    obtain ⟨ord, o1, o2, o3⟩ := order_ex T hT hl T.length (List.replicate T.length false) (by simp) (by simp)
    have hord : ∀ k, 100 ≤ k → dag_order.f k T = some ord := by
      intro k hk
      unfold dag_order.f
      rw [if_pos (by omega), if_pos (by omega), Int.toNat_natCast, o3 k [] (by omega) (by simp; omega), List.nil_append]
    have hcyc := order_cyc T hT ord o1 o2
    have href : ∀ k, 4000 ≤ k → peneloperef16_Right.l0 k (T.length : Int) 0 nm T = some (if (List.range' 0 T.length).any (fun j => g (reachL T j) j) = true then 160 else 0) := by
      intro k hk
      have := right_l0 nm T hT (by omega) T.length 0 k (by omega) (by omega)
      exact this
    have hany : (List.range' 0 T.length).any (fun j => g (reachL T j) j) = true ↔ ∃ v, v < T.length ∧ g (reachL T v) v = true := by
      rw [List.any_eq_true]
      constructor
      · rintro ⟨v, hv, e⟩
        rw [List.mem_range'_1] at hv
        exact ⟨v, by omega, e⟩
      · rintro ⟨v, hv, e⟩
        exact ⟨v, by rw [List.mem_range'_1]; omega, e⟩
    refine ⟨if ord.length < T.length then 160 else 0, fun k hk => ?_, fun k hk => ?_⟩
    · rw [if_neg h1, if_neg h2, if_neg h3, if_neg h4, anyT_f _ k (by omega) T hn, h5, Option.bind_some, if_neg (by simp), hord k hk, Option.bind_some]
      split <;> rfl
    · rw [if_neg (by omega), if_neg (by omega), if_neg (by omega), hsh k hk, h5, Option.bind_some, if_pos rfl, href k hk]
      by_cases h6 : ord.length < T.length
      · rw [if_pos h6, if_pos (hany.2 (hcyc.1 h6))]
      · rw [if_neg h6, if_neg (fun e => h6 (hcyc.2 (hany.1 e)))]
/-! What is free, and the order. -/
theorem isfree_l (D : List Bool) (L : List Int) (hL : ∀ x ∈ L, 0 ≤ x ∧ x < (D.length : Int)) (hl : L.length ≤ 1000) : ∀ m a k, a + m = L.length → m + 1 ≤ k → peneloperef16_IsFree.l0 k D L (L.length : Int) (a : Int) = some ((L.drop a).all (doneB D)) := by
  intro m
  induction m with
  | zero =>
    intro a k ha hk
    obtain ⟨k, rfl⟩ : ∃ q, k = q + 1 := ⟨k - 1, by omega⟩
    rw [peneloperef16_IsFree.l0, if_neg (by omega), List.drop_eq_nil_of_le (by omega)]
    rfl
  | succ m ih =>
    intro a k ha hk
    obtain ⟨k, rfl⟩ : ∃ q, k = q + 1 := ⟨k - 1, by omega⟩
    have hx := hL L[a] (List.getElem_mem (by omega))
    rw [peneloperef16_IsFree.l0, if_pos (by omega), if_pos (by omega), if_pos (by omega), rd_nat _ _ (by omega), if_pos hx.1, if_pos hx.2, wi a (by omega), ih (a + 1) k (by omega) (by omega), List.drop_eq_getElem_cons (show a < L.length by omega), List.all_cons]
    unfold doneB
    cases rdOf false D L[a] <;> simp
theorem isfree_f (nm : ByteArray) (T : List S39) (hT : inB T.length T) (hl : T.length ≤ 20) (D : List Bool) (hD : D.length = T.length) (i : Nat) (hi : i < T.length) (k : Nat) (hk : 100 ≤ k) : peneloperef16_IsFree.f k nm T D (i : Int) = some (canB D T[i] i) := by
  have ht := hT T[i] (List.getElem_mem hi)
  unfold peneloperef16_IsFree.f canB
  have h0 := isfree_l D T[i].f0 (by rw [hD]; exact ht.2) (by omega) T[i].f0.length 0 k (by omega) (by omega)
  rw [List.drop_zero, show ((0 : Nat) : Int) = 0 from rfl] at h0
  rw [if_pos (by omega), if_pos (by omega), show doneB D (i : Int) = rdOf false D (i : Int) from rfl]
  cases rdOf false D (i : Int)
  · rw [if_neg (by simp), if_pos (by omega), rdT hi, h0]
    simp
  · rfl
theorem Free_l (nm : ByteArray) (T : List S39) (hT : inB T.length T) (hl : T.length ≤ 20) (D : List Bool) (hD : D.length = T.length) : ∀ m i k (out : List Int), i + m = T.length → m + 101 ≤ k → out.length + m ≤ 100 → peneloperef16_Free.l0 k D out (T.length : Int) (i : Int) nm T = some (out ++ freeV D (T.drop i) i) := by
  intro m
  induction m with
  | zero =>
    intro i k out hi hk ho
    obtain ⟨k, rfl⟩ : ∃ q, k = q + 1 := ⟨k - 1, by omega⟩
    rw [peneloperef16_Free.l0, if_neg (by omega), List.drop_eq_nil_of_le (by omega), freeV, List.append_nil]
  | succ m ih =>
    intro i k out hi hk ho
    obtain ⟨k, rfl⟩ : ∃ q, k = q + 1 := ⟨k - 1, by omega⟩
    rw [peneloperef16_Free.l0, if_pos (by omega), isfree_f nm T hT hl D hD i (by omega) k (by omega), Option.bind_some, List.drop_eq_getElem_cons (show i < T.length by omega), freeV, wi i (by omega)]
    cases canB D T[i] i
    · rw [if_neg (by simp), if_neg (by simp)]
      exact ih (i + 1) k out (by omega) (by omega) (by omega)
    · rw [if_pos rfl, if_pos rfl, if_pos (by omega), ih (i + 1) k (out ++ [(i : Int)]) (by omega) (by omega) (by rw [List.length_append]; simp; omega)]
      simp
theorem ref_free_f (nm : ByteArray) (T : List S39) (hT : inB T.length T) (hl : T.length ≤ 20) (D : List Bool) (hD : D.length = T.length) (k : Nat) (hk : 200 ≤ k) : peneloperef16_Free.f k nm T D = some (freeV D T 0) := by
  unfold peneloperef16_Free.f
  have := Free_l nm T hT hl D hD T.length 0 k [] (by omega) (by omega) (by simp; omega)
  rw [List.drop_zero, List.nil_append] at this
  exact this
theorem ref_order_l (nm : ByteArray) (T : List S39) (hT : inB T.length T) (hl : T.length ≤ 20) : ∀ (rest : List Int) (D : List Bool) (i k : Nat) (out : List Int), D.length = T.length → Tr T D rest → i + rest.length = T.length → 300 + rest.length ≤ k → out.length ≤ i → peneloperef16_Order.l0 k D out (T.length : Int) (i : Int) nm T = some (out ++ rest)
  | [], D, i, k, out, hD, h, hi, hk, ho => by
    obtain ⟨k, rfl⟩ : ∃ q, k = q + 1 := ⟨k - 1, by omega⟩
    simp only [List.length_nil] at hi
    rw [peneloperef16_Order.l0, if_neg (by omega), List.append_nil]
  | x :: xs, D, i, k, out, hD, h, hi, hk, ho => by
    simp only [List.length_cons] at hi hk
    obtain ⟨k, rfl⟩ : ∃ q, k = q + 1 := ⟨k - 1, by omega⟩
    rw [Tr] at h
    obtain ⟨⟨l, hf⟩, h2⟩ := h
    obtain ⟨j, e, hj, _⟩ := free_mem D T 0 x (by rw [hf]; simp)
    have hx0 : rd (x :: l) 0 = x := rfl
    rw [peneloperef16_Order.l0, if_pos (by omega), ref_free_f nm T hT hl D hD k (by omega), Option.bind_some, hf, if_pos (by simp), if_pos (by simp), hx0, if_pos (by omega), if_pos (by omega), if_pos (by omega), wi i (by omega), ref_order_l nm T hT hl xs (D.set x.toNat true) (i + 1) k (out ++ [x]) (by rw [List.length_set]; exact hD) h2 (by omega) (by omega) (by rw [List.length_append]; simp; omega)]
    simp
theorem same_l (x : List Int) (hx : x.length ≤ 1000) : ∀ m i k, i + m = x.length → m + 1 ≤ k → peneloperef16_SameInts.l0 k x x (x.length : Int) (i : Int) = some true := by
  intro m
  induction m with
  | zero =>
    intro i k hi hk
    obtain ⟨k, rfl⟩ : ∃ q, k = q + 1 := ⟨k - 1, by omega⟩
    rw [peneloperef16_SameInts.l0, if_neg (by omega)]
  | succ m ih =>
    intro i k hi hk
    obtain ⟨k, rfl⟩ : ∃ q, k = q + 1 := ⟨k - 1, by omega⟩
    rw [peneloperef16_SameInts.l0, if_pos (by omega), if_pos (by omega), if_pos (by omega), if_pos (by omega), if_pos rfl, wi i (by omega), ih (i + 1) k (by omega) (by omega)]
theorem same_self (k : Nat) (hk : 1002 ≤ k) (x : List Int) (hx : x.length ≤ 1000) : peneloperef16_SameInts.f k x x = some true := by
  unfold peneloperef16_SameInts.f
  rw [if_pos rfl, show (0 : Int) = ((0 : Nat) : Int) from rfl, same_l x hx x.length 0 k (by omega) (by omega)]
theorem free_len (D : List Bool) : ∀ (T : List S39) (i : Nat), (freeV D T i).length ≤ T.length
  | [], i => by simp [freeV]
  | t :: T, i => by
    have := free_len D T (i + 1)
    rw [freeV]
    split
    · simp; omega
    · simp; omega
end Go.Proofs.Ytbgmhcefjggpgaa.Pure
