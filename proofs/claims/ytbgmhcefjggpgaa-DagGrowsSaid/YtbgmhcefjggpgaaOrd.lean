/- Graphs of tasks: the plain value of what the code computes: which tasks may be, which can be done, in which order. -/
import Derived.Test.YtbgmhcefjggpgaaXFew
import Derived.Test.YtbgmhcefjggpgaaXx6
import Derived.Test.YtbgmhcefjggpgaaXx7
namespace Go.Proofs.Ytbgmhcefjggpgaa.Pure
open Go.RowKit Go.Proofs.Ytbgmhcefjggpgaa.X Go.Proofs.YtbgmhcefjggpgaaW.PrintWords Go.Proofs.YtbgmhcefjggpgaaW.PrintLast
set_option linter.unusedVariables false

theorem w64_in (n : Int) (h : -9223372036854775808 ≤ n ∧ n ≤ 9223372036854775807) : wrap64 n = n := by unfold wrap64; omega
theorem rd_nat (l : List Int) (i : Nat) (h : i < l.length) : rd l (i : Int) = l[i] := by simp [rd, List.getD_eq_getElem?_getD, List.getElem?_eq_getElem h]
def ascB (n last : Int) : List Int → Bool
  | [] => true
  | x :: xs => decide (last < x) && (decide (x < n) && ascB n x xs)
def numsB (t : S39) : Bool := decide (1 ≤ t.f1) && (decide (t.f1 ≤ 8) && (decide (0 ≤ t.f2) && (decide (t.f2 ≤ 1048576) && (decide (1 ≤ t.f3) && decide (t.f3 ≤ 1048576)))))
def taskB (n : Int) (t : S39) : Bool := ascB n (-1) t.f0 && numsB t
theorem task_l (n : Int) (t : S39) (hl : t.f0.length ≤ 1000) : ∀ m i k last, i + m = t.f0.length → m + 1 ≤ k →
    dag_task.l0 k n last t.f0 (t.f0.length : Int) (i : Int) t.f0 t.f1 t.f2 t.f3 = some (ascB n last (t.f0.drop i) && numsB t) := by
  intro m
  induction m with
  | zero =>
    intro i k last hi hk
    obtain ⟨k, rfl⟩ : ∃ q, k = q + 1 := ⟨k - 1, by omega⟩
    rw [dag_task.l0, if_neg (by omega), List.drop_eq_nil_of_le (by omega), ascB, Bool.true_and]
    unfold numsB
    by_cases h1 : 1 ≤ t.f1
    case neg => rw [if_neg (by omega)]; simp [h1]
    rw [if_pos (by omega)]
    by_cases h2 : t.f1 ≤ 8
    case neg => rw [if_neg (by omega)]; simp [h2]
    rw [if_pos (by omega)]
    by_cases h3 : 0 ≤ t.f2
    case neg => rw [if_neg (by omega)]; simp [h3]
    rw [if_pos (by omega)]
    by_cases h4 : t.f2 ≤ 1048576
    case neg => rw [if_neg (by omega)]; simp [h4]
    rw [if_pos (by omega)]
    by_cases h5 : 1 ≤ t.f3
    case neg => rw [if_neg (by omega)]; simp [h5]
    rw [if_pos (by omega)]
    simp [h1, h2, h3, h4, h5]
  | succ m ih =>
    intro i k last hi hk
    obtain ⟨k, rfl⟩ : ∃ q, k = q + 1 := ⟨k - 1, by omega⟩
    rw [dag_task.l0, if_pos (by omega), if_pos (by omega), if_pos (by omega), rd_nat _ _ (by omega), show wrap64 ((i : Int) + 1) = ((i + 1 : Nat) : Int) by rw [w64_in _ (by omega)]; omega, ih (i + 1) k _ (by omega) (by omega), List.drop_eq_getElem_cons (show i < t.f0.length by omega), ascB]
    generalize t.f0[i]'(by omega) = x
    by_cases h1 : last < x
    case neg => rw [if_pos (by omega)]; simp [h1]
    rw [if_neg (by omega)]
    by_cases h2 : x < n
    case neg => rw [if_pos (by omega)]; simp [h2]
    rw [if_neg (by omega)]
    simp [h1, h2]
theorem task_f (n : Int) (t : S39) (hl : t.f0.length ≤ 20) (k : Nat) (hk : 22 ≤ k) : dag_task.f k t.f0 t.f1 t.f2 t.f3 n = some (taskB n t) := by
  unfold dag_task.f taskB
  rw [show (0 : Int) = ((0 : Nat) : Int) from rfl, task_l n t (by omega) t.f0.length 0 k (-1) (by omega) (by omega), List.drop_zero]
theorem anyT_f (n : Int) (k : Nat) (hk : 22 ≤ k) : ∀ l : List S39, (∀ t ∈ l, t.f0.length ≤ 20) → anyT k n l = some (!(l.all (taskB n)))
  | [], _ => rfl
  | t :: ts, h => by
    rw [anyT, task_f n t (h t (by simp)) k hk, Option.bind_some, anyT_f n k hk ts (fun y hy => h y (by simp [hy])), List.all_cons]
    cases taskB n t <;> simp
theorem asc_mem {n : Int} : ∀ {l : List Int} {last : Int}, ascB n last l = true → ∀ x ∈ l, last < x ∧ x < n
  | [], last, _, x, hx => by simp at hx
  | y :: l, last, h, x, hx => by
    rw [ascB] at h
    simp only [Bool.and_eq_true, decide_eq_true_eq] at h
    rcases List.mem_cons.1 hx with rfl | hx
    · exact ⟨h.1, h.2.1⟩
    · have := asc_mem h.2.2 x hx
      omega
/-- All needs lie among so many tasks. -/
def inB (n : Nat) (T : List S39) : Prop := ∀ t ∈ T, t.f0.length ≤ 20 ∧ ∀ x ∈ t.f0, 0 ≤ x ∧ x < (n : Int)
def doneB (D : List Bool) (x : Int) : Bool := rdOf false D x
def canB (D : List Bool) (t : S39) (i : Nat) : Bool := !(doneB D (i : Int)) && t.f0.all (doneB D)
def freeV (D : List Bool) : List S39 → Nat → List Int
  | [], _ => []
  | t :: ts, i => if canB D t i = true then (i : Int) :: freeV D ts (i + 1) else freeV D ts (i + 1)
theorem any_ok (D : List Bool) : ∀ l : List Int, (∀ x ∈ l, 0 ≤ x ∧ x < (D.length : Int)) → anyO (openF D) l = some (!(l.all (doneB D)))
  | [], _ => rfl
  | x :: l, h => by
    rw [anyO, openF, if_pos (h x (by simp)), Option.bind_some, any_ok D l (fun y hy => h y (by simp [hy])), List.all_cons]
    unfold doneB
    cases rdOf false D x <;> simp
theorem free_ok (D : List Bool) : ∀ (T : List S39) (i : Nat), inB D.length T → i + T.length ≤ D.length → freeL D T i = some (freeV D T i)
  | [], i, _, _ => rfl
  | t :: ts, i, h, hi => by
    simp only [List.length_cons] at hi
    have ht := h t (by simp)
    have ho : openF D (i : Int) = some (!(rdOf false D (i : Int))) := by unfold openF; rw [if_pos ⟨by omega, by omega⟩]
    have ha : anyF (openF D) t.f0 = some (!(t.f0.all (doneB D))) := by
      have := ht.1
      unfold anyF
      rw [if_pos (by omega), any_ok D t.f0 ht.2]
    rw [freeL, ho, Option.bind_some, ha, Option.bind_some, free_ok D ts (i + 1) (fun y hy => h y (by simp [hy])) (by omega), freeV]
    unfold canB
    rw [show doneB D (i : Int) = rdOf false D (i : Int) from rfl]
    cases rdOf false D (i : Int) <;> cases t.f0.all (doneB D) <;> simp
theorem free_mem (D : List Bool) : ∀ (T : List S39) (i : Nat) (x : Int), x ∈ freeV D T i → ∃ j : Nat, x = ((i + j : Nat) : Int) ∧ ∃ h : j < T.length, canB D T[j] (i + j) = true
  | [], i, x, h => by simp [freeV] at h
  | t :: ts, i, x, h => by
    have rec_ : x ∈ freeV D ts (i + 1) → ∃ j : Nat, x = ((i + j : Nat) : Int) ∧ ∃ h : j < (t :: ts).length, canB D (t :: ts)[j] (i + j) = true := by
      intro hx
      obtain ⟨j, e, hj, hc⟩ := free_mem D ts (i + 1) x hx
      exact ⟨j + 1, by rw [e]; omega, by simp; omega, by rw [show i + (j + 1) = i + 1 + j by omega]; exact hc⟩
    rw [freeV] at h
    by_cases hc : canB D t i = true
    · rw [if_pos hc] at h
      rcases List.mem_cons.1 h with rfl | h
      · exact ⟨0, rfl, by simp, hc⟩
      · exact rec_ h
    · rw [if_neg hc] at h
      exact rec_ h
theorem free_f (k : Nat) (T : List S39) (D : List Bool) (hT : inB T.length T) (hD : D.length = T.length) (hl : T.length ≤ 20) : dag_free.f k T D = some (freeV D T 0) := by
  unfold dag_free.f
  rw [if_pos (by omega), free_ok D T 0 (by rw [hD]; exact hT) (by omega)]
/-- An order: each task is the first that can be done, behind those ahead of it; at its end none can. -/
def Tr (T : List S39) : List Bool → List Int → Prop
  | D, [] => freeV D T 0 = []
  | D, x :: xs => (∃ l, freeV D T 0 = x :: l) ∧ Tr T (D.set x.toNat true) xs
theorem rdOf_nat (D : List Bool) (j : Nat) (h : j < D.length) : rdOf false D (j : Int) = D[j] := by simp [rdOf, List.getD_eq_getElem?_getD, List.getElem?_eq_getElem h]
theorem count_set_lt {D : List Bool} {j : Nat} (h : j < D.length) (hf : D[j] = false) : (D.set j true).count false + 1 = D.count false := by
  have h1 := List.count_set (a := true) (b := false) h
  rw [hf] at h1
  have h2 : 0 < D.count false := List.count_pos_iff.2 (by rw [← hf]; exact List.getElem_mem h)
  simp at h1
  omega
theorem order_ex (T : List S39) (hT : inB T.length T) (hl : T.length ≤ 20) : ∀ (c : Nat) (D : List Bool), D.length = T.length → D.count false = c → ∃ rest, rest.length ≤ c ∧ Tr T D rest ∧ ∀ k out, c < k → out.length + c ≤ 1000 → dag_order.l0 k T D out = some (out ++ rest) := by
  intro c
  induction c with
  | zero =>
    intro D hD hc
    have hnil : freeV D T 0 = [] := by
      cases h : freeV D T 0 with
      | nil => rfl
      | cons x l =>
        exfalso
        obtain ⟨j, e, hj, hcan⟩ := free_mem D T 0 x (by rw [h]; simp)
        unfold canB doneB at hcan
        simp only [Nat.zero_add, Bool.and_eq_true, Bool.not_eq_true'] at hcan
        have h1 := hcan.1
        rw [rdOf_nat D j (by omega)] at h1
        have h2 : 0 < D.count false := List.count_pos_iff.2 (by rw [← h1]; exact List.getElem_mem _)
        omega
    refine ⟨[], by simp, hnil, fun k out hk _ => ?_⟩
    obtain ⟨k, rfl⟩ : ∃ q, k = q + 1 := ⟨k - 1, by omega⟩
    rw [dag_order.l0, free_f k T D hT hD hl, Option.bind_some, hnil]
    simp
  | succ c ih =>
    intro D hD hc
    cases h : freeV D T 0 with
    | nil =>
      refine ⟨[], by simp, h, fun k out hk _ => ?_⟩
      obtain ⟨k, rfl⟩ : ∃ q, k = q + 1 := ⟨k - 1, by omega⟩
      rw [dag_order.l0, free_f k T D hT hD hl, Option.bind_some, h]
      simp
    | cons x l =>
      obtain ⟨j, e, hj, hcan⟩ := free_mem D T 0 x (by rw [h]; simp)
      unfold canB doneB at hcan
      simp only [Nat.zero_add, Bool.and_eq_true, Bool.not_eq_true'] at hcan
      have h1 := hcan.1
      rw [rdOf_nat D j (by omega)] at h1
      have h2 := count_set_lt (by omega) h1
      have ex : x.toNat = j := by omega
      obtain ⟨rest, r1, r2, r3⟩ := ih (D.set j true) (by rw [List.length_set]; exact hD) (by omega)
      refine ⟨x :: rest, by simp; omega, ⟨⟨l, h⟩, by rw [ex]; exact r2⟩, fun k out hk ho => ?_⟩
      obtain ⟨k, rfl⟩ : ∃ q, k = q + 1 := ⟨k - 1, by omega⟩
      have hx0 : rd (x :: l) 0 = x := rfl
      rw [dag_order.l0, free_f k T D hT hD hl, Option.bind_some, h, if_neg (by simp; omega), if_pos (by simp), hx0, if_pos (by omega), if_pos (by omega), if_pos (by omega), ex, r3 k (out ++ [x]) (by omega) (by rw [List.length_append]; simp; omega)]
      simp
/-- What is told of a graph: the same with any number of rounds; where it may be, the order has each task once. -/
theorem right_ex (nm : ByteArray) (T : List S39) (hn : ∀ t ∈ T, t.f0.length ≤ 20) (hl : T.length ≤ 20) : ∃ R ord, (∀ k, 100 ≤ k → dag_Right.f k nm T = some R) ∧
    (R = 0 → inB T.length T ∧ 1 ≤ T.length ∧ T.length ≤ 10 ∧ ord.length = T.length ∧ Tr T (List.replicate T.length false) ord ∧ ∀ k, 100 ≤ k → dag_order.f k T = some ord) := by
  unfold dag_Right.f
  by_cases h1 : 10 < T.length
  · exact ⟨2, [], fun k hk => by rw [if_pos h1], fun h => by simp at h⟩
  by_cases h2 : T.length < 1
  · exact ⟨1, [], fun k hk => by rw [if_neg h1, if_pos h2], fun h => by simp at h⟩
  by_cases h3 : nm.size < 1
  · exact ⟨1, [], fun k hk => by rw [if_neg h1, if_neg h2, if_pos h3], fun h => by simp at h⟩
  by_cases h4 : 16 < nm.size
  · exact ⟨1, [], fun k hk => by rw [if_neg h1, if_neg h2, if_neg h3, if_pos h4], fun h => by simp at h⟩
  cases h5 : T.all (taskB (T.length : Int)) with
  | false => exact ⟨1, [], fun k hk => by rw [if_neg h1, if_neg h2, if_neg h3, if_neg h4, anyT_f _ k (by omega) T hn, h5]; rfl, fun h => by simp at h⟩
  | true =>
    have hT : inB T.length T := by
      intro t ht
      refine ⟨hn t ht, fun x hx => ?_⟩
      have h6 := List.all_eq_true.1 h5 t ht
      unfold taskB at h6
      simp only [Bool.and_eq_true] at h6
      have := asc_mem h6.1 x hx
      omega
    obtain ⟨ord, o1, o2, o3⟩ := order_ex T hT hl T.length (List.replicate T.length false) (by simp) (by simp)
    have hord : ∀ k, 100 ≤ k → dag_order.f k T = some ord := by
      intro k hk
      unfold dag_order.f
      rw [if_pos (by omega), if_pos (by omega), Int.toNat_natCast, o3 k [] (by omega) (by simp; omega), List.nil_append]
    by_cases h6 : ord.length < T.length
    · exact ⟨160, ord, fun k hk => by rw [if_neg h1, if_neg h2, if_neg h3, if_neg h4, anyT_f _ k (by omega) T hn, h5, Option.bind_some, if_neg (by simp), hord k hk, Option.bind_some, if_pos h6], fun h => by simp at h⟩
    · exact ⟨0, ord, fun k hk => by rw [if_neg h1, if_neg h2, if_neg h3, if_neg h4, anyT_f _ k (by omega) T hn, h5, Option.bind_some, if_neg (by simp), hord k hk, Option.bind_some, if_neg h6], fun _ => ⟨hT, by omega, by omega, by omega, o2, hord⟩⟩
theorem few_ok (T : List S39) : ((T.take 20).map cutT).length ≤ 20 ∧ ∀ t ∈ (T.take 20).map cutT, t.f0.length ≤ 20 := by
  refine ⟨by rw [List.length_map, List.length_take]; omega, fun t ht => ?_⟩
  obtain ⟨u, _, rfl⟩ := List.mem_map.1 ht
  simp only [cutT, List.length_take]
  omega
theorem alive_f (k : Nat) (hk : 100 ≤ k) : penelopelaw16_alive.f k = some true := by
  unfold penelopelaw16_alive.f penelopelaw16_one.f dag_Order.f dag_Right.f
  have hv : [(⟨[], 1, 0, 1⟩ : S39)].all (taskB (1 : Int)) = true := by decide
  have hT : inB 1 [(⟨[], 1, 0, 1⟩ : S39)] := by
    intro t ht
    simp only [List.mem_singleton] at ht
    subst ht
    simp
  obtain ⟨ord, o1, o2, o3⟩ := order_ex [(⟨[], 1, 0, 1⟩ : S39)] hT (by simp) 1 [false] rfl rfl
  have hord : dag_order.f k [(⟨[], 1, 0, 1⟩ : S39)] = some ord := by
    unfold dag_order.f
    rw [if_pos (by simp), if_pos (by simp), show List.replicate (([(⟨[], 1, 0, 1⟩ : S39)].length : Int)).toNat false = [false] from rfl, o3 k [] (by omega) (by simp), List.nil_append]
  have hlen : ord.length = 1 := by
    have hf : freeV [false] [(⟨[], 1, 0, 1⟩ : S39)] 0 = [0] := by decide
    cases ord with
    | nil => rw [Tr, hf] at o2; simp at o2
    | cons x xs =>
      simp only [List.length_cons] at o1 ⊢
      omega
  rw [Option.bind_some]
  simp only [List.length_cons, List.length_nil]
  rw [if_neg (by omega), if_neg (by omega), if_neg (by decide), if_neg (by decide), anyT_f _ k (by omega) _ (by simp)]
  rw [show ((0 + 1 : Nat) : Int) = 1 from rfl, hv, Option.bind_some, if_neg (by simp), hord, Option.bind_some, if_neg (by omega), Option.bind_some, if_pos rfl, Option.bind_some, Option.bind_some]
  simp [hlen]
end Go.Proofs.Ytbgmhcefjggpgaa.Pure
