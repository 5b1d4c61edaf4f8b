/- The pure statement of DagBytes: any graph is written as just those bytes, any bytes are read as just that graph, or refused. -/
import Derived.Test.YtbgmhcefjggpgaaXx21
import Derived.Test.YtbgmhcefjggpgaaXx0
import Derived.Test.YtbgmhcefjggpgaaXFew
import Derived.Test.YtbgmhcefjggpgaaXx6
import Derived.Test.YtbgmhcefjggpgaaXx7
import Derived.Test.YtbgmhcefjggpgaaXx3
import Derived.Test.YtbgmhcefjggpgaaXx8
import Derived.Test.YtbgmhcefjggpgaaXPut
import Derived.Test.YtbgmhcefjggpgaaXDGet
import Derived.Test.YtbgmhcefjggpgaaXRGet
import Derived.Test.YtbgmhcefjggpgaaXx19
import Derived.Test.YtbgmhcefjggpgaaXx20
namespace Go.Proofs.Ytbgmhcefjggpgaa.X
open Go.RowKit Go.Proofs.YtbgmhcefjggpgaaW.PrintWords
/-- The one pure statement of the law. -/
def penelopelaw16_DagBytes.Pure : Prop := ∀ (x0 : S24) (a1 : ByteArray), (x0.f0.size ≤ maxLen ∧ (x0.f1.length ≤ maxLen ∧ ∀ a_ ∈ x0.f1, ((a_.f0.length ≤ maxLen ∧ ∀ b_ ∈ a_.f0, (Lit.int .i64 b_).wf = true) ∧ (Lit.int .i64 a_.f1).wf = true ∧ (Lit.int .i64 a_.f2).wf = true ∧ (Lit.int .i64 a_.f3).wf = true))) → a1.size ≤ 140737488351232 → ∃ k, penelopelaw16_DagBytes.f k x0.f0 x0.f1 a1 = some true
end Go.Proofs.Ytbgmhcefjggpgaa.X
/- Graphs of tasks: the plain value of what the code computes: which tasks may be, which can be done, in which order. -/
namespace Go.Proofs.Ytbgmhcefjggpgaa.Pure
open Go.RowKit Go.Proofs.Ytbgmhcefjggpgaa.X Go.Proofs.YtbgmhcefjggpgaaW.PrintWords Go.Proofs.YtbgmhcefjggpgaaW.PrintLast
set_option linter.unusedVariables false

theorem w64_in (n : Int) (h : -9223372036854775808 ≤ n ∧ n ≤ 9223372036854775807) : wrap64 n = n := by unfold wrap64; omega
theorem rd_nat (l : List Int) (i : Nat) (h : i < l.length) : rd l (i : Int) = l[i] := by simp [rd, List.getD_eq_getElem?_getD, List.getElem?_eq_getElem h]
def ascB (n last : Int) : List Int → Bool
  | [] => true
  | x :: xs => decide (last < x) && (decide (x < n) && ascB n x xs)
def numsB (t : S39) : Bool := decide (1 ≤ t.f1) && (decide (t.f1 ≤ 8) && (decide (0 ≤ t.f2) && (decide (t.f2 ≤ 1048576) && (decide (1 ≤ t.f3) && decide (t.f3 ≤ 1048576)))))
def taskB (n : Int) (t : S39) : Bool := ascB n (-1) t.f0 && numsB t
theorem task_l (n : Int) (t : S39) (hl : t.f0.length ≤ 1000) : ∀ m i k last, i + m = t.f0.length → m + 1 ≤ k →
    dag_task.l0 k n last t.f0 (t.f0.length : Int) (i : Int) t.f0 t.f1 t.f2 t.f3 = some (ascB n last (t.f0.drop i) && numsB t) := by
  intro m
  induction m with
  | zero =>
    intro i k last hi hk
    obtain ⟨k, rfl⟩ : ∃ q, k = q + 1 := ⟨k - 1, by omega⟩
    rw [dag_task.l0, if_neg (by omega), List.drop_eq_nil_of_le (by omega), ascB, Bool.true_and]
    unfold numsB
    by_cases h1 : 1 ≤ t.f1
    case neg => rw [if_neg (by omega)]; simp [h1]
    rw [if_pos (by omega)]
    by_cases h2 : t.f1 ≤ 8
    case neg => rw [if_neg (by omega)]; simp [h2]
    rw [if_pos (by omega)]
    by_cases h3 : 0 ≤ t.f2
    case neg => rw [if_neg (by omega)]; simp [h3]
    rw [if_pos (by omega)]
    by_cases h4 : t.f2 ≤ 1048576
    case neg => rw [if_neg (by omega)]; simp [h4]
    rw [if_pos (by omega)]
    by_cases h5 : 1 ≤ t.f3
    case neg => rw [if_neg (by omega)]; simp [h5]
    rw [if_pos (by omega)]
    simp [h1, h2, h3, h4, h5]
  | succ m ih =>
    intro i k last hi hk
    obtain ⟨k, rfl⟩ : ∃ q, k = q + 1 := ⟨k - 1, by omega⟩
    rw [dag_task.l0, if_pos (by omega), if_pos (by omega), if_pos (by omega), rd_nat _ _ (by omega), show wrap64 ((i : Int) + 1) = ((i + 1 : Nat) : Int) by rw [w64_in _ (by omega)]; omega, ih (i + 1) k _ (by omega) (by omega), List.drop_eq_getElem_cons (show i < t.f0.length by omega), ascB]
    generalize t.f0[i]'(by omega) = x
    by_cases h1 : last < x
    case neg => rw [if_pos (by omega)]; simp [h1]
    rw [if_neg (by omega)]
    by_cases h2 : x < n
    case neg => rw [if_pos (by omega)]; simp [h2]
    rw [if_neg (by omega)]
    simp [h1, h2]
theorem task_f (n : Int) (t : S39) (hl : t.f0.length ≤ 20) (k : Nat) (hk : 22 ≤ k) : dag_task.f k t.f0 t.f1 t.f2 t.f3 n = some (taskB n t) := by
  unfold dag_task.f taskB
  rw [show (0 : Int) = ((0 : Nat) : Int) from rfl, task_l n t (by omega) t.f0.length 0 k (-1) (by omega) (by omega), List.drop_zero]
theorem anyT_f (n : Int) (k : Nat) (hk : 22 ≤ k) : ∀ l : List S39, (∀ t ∈ l, t.f0.length ≤ 20) → anyT k n l = some (!(l.all (taskB n)))
  | [], _ => rfl
  | t :: ts, h => by
    rw [anyT, task_f n t (h t (by simp)) k hk, Option.bind_some, anyT_f n k hk ts (fun y hy => h y (by simp [hy])), List.all_cons]
    cases taskB n t <;> simp
theorem asc_mem {n : Int} : ∀ {l : List Int} {last : Int}, ascB n last l = true → ∀ x ∈ l, last < x ∧ x < n
  | [], last, _, x, hx => by simp at hx
  | y :: l, last, h, x, hx => by
    rw [ascB] at h
    simp only [Bool.and_eq_true, decide_eq_true_eq] at h
    rcases List.mem_cons.1 hx with rfl | hx
    · exact ⟨h.1, h.2.1⟩
    · have := asc_mem h.2.2 x hx
      omega
/-- All needs lie among so many tasks. -/
def inB (n : Nat) (T : List S39) : Prop := ∀ t ∈ T, t.f0.length ≤ 20 ∧ ∀ x ∈ t.f0, 0 ≤ x ∧ x < (n : Int)
def doneB (D : List Bool) (x : Int) : Bool := rdOf false D x
def canB (D : List Bool) (t : S39) (i : Nat) : Bool := !(doneB D (i : Int)) && t.f0.all (doneB D)
def freeV (D : List Bool) : List S39 → Nat → List Int
  | [], _ => []
  | t :: ts, i => if canB D t i = true then (i : Int) :: freeV D ts (i + 1) else freeV D ts (i + 1)
theorem any_ok (D : List Bool) : ∀ l : List Int, (∀ x ∈ l, 0 ≤ x ∧ x < (D.length : Int)) → anyO (openF D) l = some (!(l.all (doneB D)))
  | [], _ => rfl
  | x :: l, h => by
    rw [anyO, openF, if_pos (h x (by simp)), Option.bind_some, any_ok D l (fun y hy => h y (by simp [hy])), List.all_cons]
    unfold doneB
    cases rdOf false D x <;> simp
theorem free_ok (D : List Bool) : ∀ (T : List S39) (i : Nat), inB D.length T → i + T.length ≤ D.length → freeL D T i = some (freeV D T i)
  | [], i, _, _ => rfl
  | t :: ts, i, h, hi => by
    simp only [List.length_cons] at hi
    have ht := h t (by simp)
    have ho : openF D (i : Int) = some (!(rdOf false D (i : Int))) := by unfold openF; rw [if_pos ⟨by omega, by omega⟩]
    have ha : anyF (openF D) t.f0 = some (!(t.f0.all (doneB D))) := by
      have := ht.1
      unfold anyF
      rw [if_pos (by omega), any_ok D t.f0 ht.2]
    rw [freeL, ho, Option.bind_some, ha, Option.bind_some, free_ok D ts (i + 1) (fun y hy => h y (by simp [hy])) (by omega), freeV]
    unfold canB
    rw [show doneB D (i : Int) = rdOf false D (i : Int) from rfl]
    cases rdOf false D (i : Int) <;> cases t.f0.all (doneB D) <;> simp
theorem free_mem (D : List Bool) : ∀ (T : List S39) (i : Nat) (x : Int), x ∈ freeV D T i → ∃ j : Nat, x = ((i + j : Nat) : Int) ∧ ∃ h : j < T.length, canB D T[j] (i + j) = true
  | [], i, x, h => by simp [freeV] at h
  | t :: ts, i, x, h => by
    have rec_ : x ∈ freeV D ts (i + 1) → ∃ j : Nat, x = ((i + j : Nat) : Int) ∧ ∃ h : j < (t :: ts).length, canB D (t :: ts)[j] (i + j) = true := by
      intro hx
      obtain ⟨j, e, hj, hc⟩ := free_mem D ts (i + 1) x hx
      exact ⟨j + 1, by rw [e]; omega, by simp; omega, by rw [show i + (j + 1) = i + 1 + j by omega]; exact hc⟩
    rw [freeV] at h
    by_cases hc : canB D t i = true
    · rw [if_pos hc] at h
      rcases List.mem_cons.1 h with rfl | h
      · exact ⟨0, rfl, by simp, hc⟩
      · exact rec_ h
    · rw [if_neg hc] at h
      exact rec_ h
theorem free_f (k : Nat) (T : List S39) (D : List Bool) (hT : inB T.length T) (hD : D.length = T.length) (hl : T.length ≤ 20) : dag_free.f k T D = some (freeV D T 0) := by
  unfold dag_free.f
  rw [if_pos (by omega), free_ok D T 0 (by rw [hD]; exact hT) (by omega)]
/-- An order: each task is the first that can be done, behind those ahead of it; at its end none can. -/
def Tr (T : List S39) : List Bool → List Int → Prop
  | D, [] => freeV D T 0 = []
  | D, x :: xs => (∃ l, freeV D T 0 = x :: l) ∧ Tr T (D.set x.toNat true) xs
theorem rdOf_nat (D : List Bool) (j : Nat) (h : j < D.length) : rdOf false D (j : Int) = D[j] := by simp [rdOf, List.getD_eq_getElem?_getD, List.getElem?_eq_getElem h]
theorem count_set_lt {D : List Bool} {j : Nat} (h : j < D.length) (hf : D[j] = false) : (D.set j true).count false + 1 = D.count false := by
  have h1 := List.count_set (a := true) (b := false) h
  rw [hf] at h1
  have h2 : 0 < D.count false := List.count_pos_iff.2 (by rw [← hf]; exact List.getElem_mem h)
  simp at h1
  omega
theorem order_ex (T : List S39) (hT : inB T.length T) (hl : T.length ≤ 20) : ∀ (c : Nat) (D : List Bool), D.length = T.length → D.count false = c → ∃ rest, rest.length ≤ c ∧ Tr T D rest ∧ ∀ k out, c < k → out.length + c ≤ 1000 → dag_order.l0 k T D out = some (out ++ rest) := by
  intro c
  induction c with
  | zero =>
    intro D hD hc
    have hnil : freeV D T 0 = [] := by
      cases h : freeV D T 0 with
      | nil => rfl
      | cons x l =>
        exfalso
        obtain ⟨j, e, hj, hcan⟩ := free_mem D T 0 x (by rw [h]; simp)
        unfold canB doneB at hcan
        simp only [Nat.zero_add, Bool.and_eq_true, Bool.not_eq_true'] at hcan
        have h1 := hcan.1
        rw [rdOf_nat D j (by omega)] at h1
        have h2 : 0 < D.count false := List.count_pos_iff.2 (by rw [← h1]; exact List.getElem_mem _)
        omega
    refine ⟨[], by simp, hnil, fun k out hk _ => ?_⟩
    obtain ⟨k, rfl⟩ : ∃ q, k = q + 1 := ⟨k - 1, by omega⟩
    rw [dag_order.l0, free_f k T D hT hD hl, Option.bind_some, hnil]
    simp
  | succ c ih =>
    intro D hD hc
    cases h : freeV D T 0 with
    | nil =>
      refine ⟨[], by simp, h, fun k out hk _ => ?_⟩
      obtain ⟨k, rfl⟩ : ∃ q, k = q + 1 := ⟨k - 1, by omega⟩
      rw [dag_order.l0, free_f k T D hT hD hl, Option.bind_some, h]
      simp
    | cons x l =>
      obtain ⟨j, e, hj, hcan⟩ := free_mem D T 0 x (by rw [h]; simp)
      unfold canB doneB at hcan
      simp only [Nat.zero_add, Bool.and_eq_true, Bool.not_eq_true'] at hcan
      have h1 := hcan.1
      rw [rdOf_nat D j (by omega)] at h1
      have h2 := count_set_lt (by omega) h1
      have ex : x.toNat = j := by omega
      obtain ⟨rest, r1, r2, r3⟩ := ih (D.set j true) (by rw [List.length_set]; exact hD) (by omega)
      refine ⟨x :: rest, by simp; omega, ⟨⟨l, h⟩, by rw [ex]; exact r2⟩, fun k out hk ho => ?_⟩
      obtain ⟨k, rfl⟩ : ∃ q, k = q + 1 := ⟨k - 1, by omega⟩
      have hx0 : rd (x :: l) 0 = x := rfl
      rw [dag_order.l0, free_f k T D hT hD hl, Option.bind_some, h, if_neg (by simp; omega), if_pos (by simp), hx0, if_pos (by omega), if_pos (by omega), if_pos (by omega), ex, r3 k (out ++ [x]) (by omega) (by rw [List.length_append]; simp; omega)]
      simp
/-- What is told of a graph: the same with any number of rounds; where it may be, the order has each task once. -/
theorem right_ex (nm : ByteArray) (T : List S39) (hn : ∀ t ∈ T, t.f0.length ≤ 20) (hl : T.length ≤ 20) : ∃ R ord, (∀ k, 100 ≤ k → dag_Right.f k nm T = some R) ∧
    (R = 0 → inB T.length T ∧ 1 ≤ T.length ∧ T.length ≤ 10 ∧ ord.length = T.length ∧ Tr T (List.replicate T.length false) ord ∧ ∀ k, 100 ≤ k → dag_order.f k T = some ord) := by
  unfold dag_Right.f
  by_cases h1 : 10 < T.length
  · exact ⟨2, [], fun k hk => by rw [if_pos h1], fun h => by simp at h⟩
  by_cases h2 : T.length < 1
  · exact ⟨1, [], fun k hk => by rw [if_neg h1, if_pos h2], fun h => by simp at h⟩
  by_cases h3 : nm.size < 1
  · exact ⟨1, [], fun k hk => by rw [if_neg h1, if_neg h2, if_pos h3], fun h => by simp at h⟩
  by_cases h4 : 16 < nm.size
  · exact ⟨1, [], fun k hk => by rw [if_neg h1, if_neg h2, if_neg h3, if_pos h4], fun h => by simp at h⟩
  cases h5 : T.all (taskB (T.length : Int)) with
  | false => exact ⟨1, [], fun k hk => by rw [if_neg h1, if_neg h2, if_neg h3, if_neg h4, anyT_f _ k (by omega) T hn, h5]; rfl, fun h => by simp at h⟩
  | true =>
    have hT : inB T.length T := by
      intro t ht
      refine ⟨hn t ht, fun x hx => ?_⟩
      have h6 := List.all_eq_true.1 h5 t ht
      unfold taskB at h6
      simp only [Bool.and_eq_true] at h6
      have := asc_mem h6.1 x hx
      omega
    obtain ⟨ord, o1, o2, o3⟩ := order_ex T hT hl T.length (List.replicate T.length false) (by simp) (by simp)
    have hord : ∀ k, 100 ≤ k → dag_order.f k T = some ord := by
      intro k hk
      unfold dag_order.f
      rw [if_pos (by omega), if_pos (by omega), Int.toNat_natCast, o3 k [] (by omega) (by simp; omega), List.nil_append]
    by_cases h6 : ord.length < T.length
    · exact ⟨160, ord, fun k hk => by rw [if_neg h1, if_neg h2, if_neg h3, if_neg h4, anyT_f _ k (by omega) T hn, h5, Option.bind_some, if_neg (by simp), hord k hk, Option.bind_some, if_pos h6], fun h => by simp at h⟩
    · exact ⟨0, ord, fun k hk => by rw [if_neg h1, if_neg h2, if_neg h3, if_neg h4, anyT_f _ k (by omega) T hn, h5, Option.bind_some, if_neg (by simp), hord k hk, Option.bind_some, if_neg h6], fun _ => ⟨hT, by omega, by omega, by omega, o2, hord⟩⟩
theorem few_ok (T : List S39) : ((T.take 20).map cutT).length ≤ 20 ∧ ∀ t ∈ (T.take 20).map cutT, t.f0.length ≤ 20 := by
  refine ⟨by rw [List.length_map, List.length_take]; omega, fun t ht => ?_⟩
  obtain ⟨u, _, rfl⟩ := List.mem_map.1 ht
  simp only [cutT, List.length_take]
  omega
theorem alive_f (k : Nat) (hk : 100 ≤ k) : penelopelaw16_alive.f k = some true := by
  unfold penelopelaw16_alive.f penelopelaw16_one.f dag_Order.f dag_Right.f
  have hv : [(⟨[], 1, 0, 1⟩ : S39)].all (taskB (1 : Int)) = true := by decide
  have hT : inB 1 [(⟨[], 1, 0, 1⟩ : S39)] := by
    intro t ht
    simp only [List.mem_singleton] at ht
    subst ht
    simp
  obtain ⟨ord, o1, o2, o3⟩ := order_ex [(⟨[], 1, 0, 1⟩ : S39)] hT (by simp) 1 [false] rfl rfl
  have hord : dag_order.f k [(⟨[], 1, 0, 1⟩ : S39)] = some ord := by
    unfold dag_order.f
    rw [if_pos (by simp), if_pos (by simp), show List.replicate (([(⟨[], 1, 0, 1⟩ : S39)].length : Int)).toNat false = [false] from rfl, o3 k [] (by omega) (by simp), List.nil_append]
  have hlen : ord.length = 1 := by
    have hf : freeV [false] [(⟨[], 1, 0, 1⟩ : S39)] 0 = [0] := by decide
    cases ord with
    | nil => rw [Tr, hf] at o2; simp at o2
    | cons x xs =>
      simp only [List.length_cons] at o1 ⊢
      omega
  rw [Option.bind_some]
  simp only [List.length_cons, List.length_nil]
  rw [if_neg (by omega), if_neg (by omega), if_neg (by decide), if_neg (by decide), anyT_f _ k (by omega) _ (by simp)]
  rw [show ((0 + 1 : Nat) : Int) = 1 from rfl, hv, Option.bind_some, if_neg (by simp), hord, Option.bind_some, if_neg (by omega), Option.bind_some, if_pos rfl, Option.bind_some, Option.bind_some]
  simp [hlen]
end Go.Proofs.Ytbgmhcefjggpgaa.Pure
/- Graphs of tasks: an order of all tasks there is just where no task comes to itself. Plain laws. -/
namespace Go.Proofs.Ytbgmhcefjggpgaa.Pure
open Go.RowKit Go.Proofs.Ytbgmhcefjggpgaa.X Go.Proofs.YtbgmhcefjggpgaaW.PrintWords Go.Proofs.YtbgmhcefjggpgaaW.PrintLast
set_option linter.unusedVariables false

def g (M : List Bool) (x : Nat) : Bool := M.getD x false
theorem rdOf_g (M : List Bool) (x : Nat) : rdOf false M (x : Int) = g M x := by simp [rdOf, g]
theorem g_set (M : List Bool) (j x : Nat) (h : j < M.length) : g (M.set j true) x = (decide (j = x) || g M x) := by
  unfold g
  rw [List.getD_eq_getElem?_getD, List.getD_eq_getElem?_getD, List.getElem?_set]
  by_cases e : j = x
  · subst e
    rw [if_pos rfl, if_pos h]
    simp
  · rw [if_neg e]
    simp [e]
def markL (M : List Bool) : List Int → List Bool
  | [] => M
  | x :: xs => markL (M.set x.toNat true) xs
def roundL : List S39 → Nat → List Bool → List Bool
  | [], _, M => M
  | t :: ts, i, M => roundL ts (i + 1) (if g M i = true then markL M t.f0 else M)
def roundsL (T : List S39) : Nat → List Bool → List Bool
  | 0, M => M
  | r + 1, M => roundsL T r (roundL T 0 M)
def needs (T : List S39) (i : Nat) : List Int := (T.getD i z39).f0
def reachL (T : List S39) (i : Nat) : List Bool := roundsL T T.length (markL (List.replicate T.length false) (needs T i))
theorem mark_len : ∀ (L : List Int) (M : List Bool), (markL M L).length = M.length
  | [], M => rfl
  | x :: L, M => by rw [markL, mark_len L, List.length_set]
theorem mark_iff : ∀ (L : List Int) (M : List Bool), (∀ x ∈ L, 0 ≤ x ∧ x < (M.length : Int)) → ∀ x, g (markL M L) x = true ↔ (g M x = true ∨ ((x : Nat) : Int) ∈ L)
  | [], M, _, x => by simp [markL]
  | y :: L, M, h, x => by
    have hy := h y (by simp)
    rw [markL, mark_iff L (M.set y.toNat true) (fun z hz => by rw [List.length_set]; exact h z (by simp [hz])) x, g_set M y.toNat x (by omega)]
    simp only [Bool.or_eq_true, decide_eq_true_eq, List.mem_cons]
    constructor
    · rintro ((e | e) | e)
      · exact .inr (.inl (by omega))
      · exact .inl e
      · exact .inr (.inr e)
    · rintro (e | e | e)
      · exact .inl (.inr e)
      · exact .inl (.inl (by omega))
      · exact .inr e
theorem round_len : ∀ (T : List S39) (i : Nat) (M : List Bool), (roundL T i M).length = M.length
  | [], i, M => rfl
  | t :: T, i, M => by
    rw [roundL, round_len T]
    split
    · exact mark_len _ _
    · rfl
theorem rounds_len (T : List S39) : ∀ (r : Nat) (M : List Bool), (roundsL T r M).length = M.length
  | 0, M => rfl
  | r + 1, M => by rw [roundsL, rounds_len T r, round_len]
/-- A round keeps what is marked. -/
theorem round_keep (n : Nat) : ∀ (T : List S39) (i : Nat) (M : List Bool), M.length = n → (∀ t ∈ T, ∀ x ∈ t.f0, 0 ≤ x ∧ x < (n : Int)) → ∀ x, g M x = true → g (roundL T i M) x = true
  | [], i, M, _, _, x, h => h
  | t :: T, i, M, hM, hT, x, h => by
    rw [roundL]
    have ht := hT t (by simp)
    refine round_keep n T (i + 1) _ ?_ (fun u hu => hT u (by simp [hu])) x ?_
    · split
      · rw [mark_len]; exact hM
      · exact hM
    · split
      · exact (mark_iff t.f0 M (by rw [hM]; exact ht) x).2 (.inl h)
      · exact h
/-- A round marks what a marked task needs. -/
theorem round_need (n : Nat) : ∀ (T : List S39) (i : Nat) (M : List Bool), M.length = n → (∀ t ∈ T, ∀ x ∈ t.f0, 0 ≤ x ∧ x < (n : Int)) → ∀ (j : Nat) (hj : j < T.length), g M (i + j) = true → ∀ x : Nat, (x : Int) ∈ T[j].f0 → g (roundL T i M) x = true
  | [], i, M, _, _, j, hj, _, _, _ => by simp at hj
  | t :: T, i, M, hM, hT, j, hj, h, x, hx => by
    rw [roundL]
    have ht := hT t (by simp)
    cases j with
    | zero =>
      rw [Nat.add_zero] at h
      rw [if_pos h]
      exact round_keep n T (i + 1) _ (by rw [mark_len]; exact hM) (fun u hu => hT u (by simp [hu])) x ((mark_iff t.f0 M (by rw [hM]; exact ht) x).2 (.inr hx))
    | succ j =>
      refine round_need n T (i + 1) _ ?_ (fun u hu => hT u (by simp [hu])) j (by simpa using hj) ?_ x hx
      · split
        · rw [mark_len]; exact hM
        · exact hM
      · rw [show i + 1 + j = i + (j + 1) by omega]
        split
        · exact (mark_iff t.f0 M (by rw [hM]; exact ht) _).2 (.inl h)
        · exact h
/-- A round marks nothing that leaves a property. -/
theorem round_inv (n : Nat) (P : Nat → Prop) : ∀ (T : List S39) (i : Nat) (M : List Bool), M.length = n → (∀ t ∈ T, ∀ x ∈ t.f0, 0 ≤ x ∧ x < (n : Int)) →
    (∀ (j : Nat) (hj : j < T.length), P (i + j) → ∀ x : Nat, (x : Int) ∈ T[j].f0 → P x) → (∀ x, g M x = true → P x) → ∀ x, g (roundL T i M) x = true → P x
  | [], i, M, _, _, _, h, x, hx => h x hx
  | t :: T, i, M, hM, hT, hP, h, x, hx => by
    rw [roundL] at hx
    have ht := hT t (by simp)
    refine round_inv n P T (i + 1) _ ?_ (fun u hu => hT u (by simp [hu])) (fun j hj hp y hy => hP (j + 1) (by simp; omega) (by rw [show i + (j + 1) = i + 1 + j by omega]; exact hp) y hy) ?_ x hx
    · split
      · rw [mark_len]; exact hM
      · exact hM
    · intro y hy
      split at hy
      · rename_i hi
        rcases (mark_iff t.f0 M (by rw [hM]; exact ht) y).1 hy with e | e
        · exact h y e
        · exact hP 0 (by simp) (h i hi) y e
      · exact h y hy
theorem needs_at {T : List S39} {j : Nat} (hj : j < T.length) : needs T j = T[j].f0 := by simp [needs, List.getD_eq_getElem?_getD, List.getElem?_eq_getElem hj]
/-- Where every task's needs lie lower, none comes to itself. -/
theorem reach_no (T : List S39) (hT : inB T.length T) (p : Nat → Nat) (hp : ∀ i, i < T.length → ∀ x : Nat, (x : Int) ∈ needs T i → p x < p i) (i : Nat) (hi : i < T.length) : g (reachL T i) i = false := by
  have hT2 : ∀ t ∈ T, ∀ x ∈ t.f0, 0 ≤ x ∧ x < (T.length : Int) := fun t ht => (hT t ht).2
  have hin : ∀ x ∈ needs T i, 0 ≤ x ∧ x < (T.length : Int) := by rw [needs_at hi]; exact hT2 _ (List.getElem_mem hi)
  have key : ∀ (r : Nat) (M : List Bool), M.length = T.length → (∀ x, g M x = true → p x < p i) → ∀ x, g (roundsL T r M) x = true → p x < p i := by
    intro r
    induction r with
    | zero => intro M _ h x hx; exact h x hx
    | succ r ih =>
      intro M hM h x hx
      rw [roundsL] at hx
      refine ih (roundL T 0 M) (by rw [round_len]; exact hM) ?_ x hx
      refine round_inv T.length (fun x => p x < p i) T 0 M hM hT2 (fun j hj hpj y hy => ?_) h
      have := hp j hj y (by rw [needs_at hj]; exact hy)
      simp only [Nat.zero_add] at hpj
      omega
  cases h : g (reachL T i) i with
  | false => rfl
  | true =>
    exfalso
    have := key T.length _ (by rw [mark_len]; simp) (fun x hx => by
      rcases (mark_iff _ _ (by simpa using hin) x).1 hx with e | e
      · simp [g, List.getD_eq_getElem?_getD, List.getElem?_replicate] at e
        split at e <;> simp at e
      · exact hp i hi x e) i h
    omega
/-- A way along needs. -/
def Way (T : List S39) : Nat → Nat → Nat → Prop
  | 0, a, b => a = b
  | l + 1, a, b => ∃ c : Nat, (c : Int) ∈ needs T a ∧ Way T l c b
theorem way_snoc (T : List S39) : ∀ l a b c, Way T l a b → ((c : Nat) : Int) ∈ needs T b → Way T (l + 1) a c
  | 0, a, b, c, h, hc => by
    have h' : a = b := h
    subst h'
    exact ⟨c, hc, rfl⟩
  | l + 1, a, b, c, ⟨d, hd, h⟩, hc => ⟨d, hd, way_snoc T l d b c h hc⟩
theorem way_last (T : List S39) : ∀ l a c, Way T (l + 1) a c → ∃ b, Way T l a b ∧ ((c : Nat) : Int) ∈ needs T b
  | 0, a, c, ⟨d, hd, h⟩ => by
    have h' : d = c := h
    subst h'
    exact ⟨a, rfl, hd⟩
  | l + 1, a, c, ⟨d, hd, h⟩ => by
    obtain ⟨b, hb, hc⟩ := way_last T l d c h
    exact ⟨b, ⟨d, hd, hb⟩, hc⟩
theorem needs_lt {T : List S39} (hT : inB T.length T) {a : Nat} {c : Nat} (h : (c : Int) ∈ needs T a) : a < T.length ∧ c < T.length := by
  by_cases ha : a < T.length
  · rw [needs_at ha] at h
    have := (hT _ (List.getElem_mem ha)).2 _ h
    exact ⟨ha, by omega⟩
  · simp [needs, List.getD_eq_getElem?_getD, List.getElem?_eq_none (Nat.le_of_not_lt ha), z39] at h
theorem reach_yes (T : List S39) (hT : inB T.length T) (v : Nat) (hv : v < T.length) (l : Nat) (hl : l ≤ T.length) (hw : Way T (l + 1) v v) : g (reachL T v) v = true := by
  have hT2 : ∀ t ∈ T, ∀ x ∈ t.f0, 0 ≤ x ∧ x < (T.length : Int) := fun t ht => (hT t ht).2
  have hin : ∀ x ∈ needs T v, 0 ≤ x ∧ x < (T.length : Int) := by rw [needs_at hv]; exact hT2 _ (List.getElem_mem hv)
  have keepR : ∀ (r : Nat) (M : List Bool), M.length = T.length → ∀ x, g M x = true → g (roundsL T r M) x = true := by
    intro r
    induction r with
    | zero => intro M _ x h; exact h
    | succ r ih => intro M hM x h; exact ih _ (by rw [round_len]; exact hM) x (round_keep T.length T 0 M hM hT2 x h)
  have stepR : ∀ (r : Nat) (M : List Bool), M.length = T.length → ∀ b c : Nat, g (roundsL T r M) b = true → (c : Int) ∈ needs T b → g (roundsL T (r + 1) M) c = true := by
    intro r
    induction r with
    | zero =>
      intro M hM b c hb hc
      have hb' := (needs_lt hT hc).1
      exact round_need T.length T 0 M hM hT2 b hb' (by rw [Nat.zero_add]; exact hb) c (by rw [← needs_at hb']; exact hc)
    | succ r ih => intro M hM b c hb hc; exact ih (roundL T 0 M) (by rw [round_len]; exact hM) b c hb hc
  have hM0 : (markL (List.replicate T.length false) (needs T v)).length = T.length := by rw [mark_len]; simp
  have key : ∀ (l : Nat) (x : Nat), Way T (l + 1) v x → g (roundsL T l (markL (List.replicate T.length false) (needs T v))) x = true := by
    intro l
    induction l with
    | zero =>
      intro x hx
      obtain ⟨d, hd, he⟩ := hx
      have he' : d = x := he
      subst he'
      exact (mark_iff _ _ (by simpa using hin) _).2 (.inr hd)
    | succ l ih =>
      intro x hx
      obtain ⟨b, hb, hc⟩ := way_last T (l + 1) v x hx
      exact stepR l _ hM0 b x (ih b hb) hc
  have add : ∀ (a r : Nat) (M : List Bool), roundsL T (a + r) M = roundsL T r (roundsL T a M) := by
    intro a
    induction a with
    | zero => intro r M; rw [Nat.zero_add]; rfl
    | succ a ih => intro r M; rw [show a + 1 + r = (a + r) + 1 by omega, roundsL, ih, roundsL]
  unfold reachL
  obtain ⟨d, hd⟩ : ∃ d, T.length = l + d := ⟨T.length - l, by omega⟩
  have h1 := key l v hw
  have h2 := keepR d _ (by rw [rounds_len]; exact hM0) v h1
  rw [← add] at h2
  rw [← hd] at h2
  exact h2
/-- Of so many and one more, below so many, two are the same. -/
theorem pigeon : ∀ (n : Nat) (s : Nat → Nat), (∀ k, k ≤ n → s k < n) → ∃ a b, a < b ∧ b ≤ n ∧ s a = s b := by
  intro n
  induction n with
  | zero => intro s h; have := h 0 (Nat.le_refl _); omega
  | succ n ih =>
    intro s h
    by_cases hex : ∃ a, a ≤ n ∧ s a = s (n + 1)
    · obtain ⟨a, ha, e⟩ := hex
      exact ⟨a, n + 1, by omega, Nat.le_refl _, e⟩
    · have hv := h (n + 1) (Nat.le_refl _)
      obtain ⟨a, b, h1, h2, h3⟩ := ih (fun k => if s k = n then s (n + 1) else s k) (fun k hk => by
        have hk1 := h k (by omega)
        have hk2 : s k ≠ s (n + 1) := fun e => hex ⟨k, hk, e⟩
        split
        · rename_i e; omega
        · omega)
      refine ⟨a, b, h1, by omega, ?_⟩
      have ha : s a ≠ s (n + 1) := fun e => hex ⟨a, by omega, e⟩
      have hb : s b ≠ s (n + 1) := fun e => hex ⟨b, by omega, e⟩
      split at h3 <;> split at h3 <;> omega
theorem free_none (D : List Bool) : ∀ (T : List S39) (i : Nat), freeV D T i = [] → ∀ (j : Nat) (hj : j < T.length), canB D T[j] (i + j) = false
  | [], i, _, j, hj => by simp at hj
  | t :: T, i, h, j, hj => by
    rw [freeV] at h
    by_cases hc : canB D t i = true
    · rw [if_pos hc] at h; cases h
    · rw [if_neg hc] at h
      cases j with
      | zero => simpa using hc
      | succ j =>
        have := free_none D T (i + 1) h j (by simpa using hj)
        rw [show i + (j + 1) = i + 1 + j by omega]
        exact this
/-- An order that ends too soon leaves tasks that wait for one another. -/
theorem tr_stuck (T : List S39) (hT : inB T.length T) : ∀ (rest : List Int) (D : List Bool), D.length = T.length → Tr T D rest → rest.length < D.count false → ∃ D' : List Bool, D'.length = T.length ∧ 0 < D'.count false ∧ freeV D' T 0 = []
  | [], D, hD, h, hlt => ⟨D, hD, by simpa using hlt, h⟩
  | x :: xs, D, hD, h, hlt => by
    rw [Tr] at h
    obtain ⟨⟨l, hf⟩, h2⟩ := h
    obtain ⟨j, e, hj, hcan⟩ := free_mem D T 0 x (by rw [hf]; simp)
    unfold canB doneB at hcan
    simp only [Nat.zero_add, Bool.and_eq_true, Bool.not_eq_true'] at hcan e
    have h1 := hcan.1
    rw [rdOf_nat D j (by omega)] at h1
    have h3 := count_set_lt (by omega) h1
    have ex : x.toNat = j := by omega
    rw [ex] at h2
    simp only [List.length_cons] at hlt
    exact tr_stuck T hT xs (D.set j true) (by rw [List.length_set]; exact hD) h2 (by omega)
theorem stuck_cycle (T : List S39) (hT : inB T.length T) (D : List Bool) (hD : D.length = T.length) (hc : 0 < D.count false) (hf : freeV D T 0 = []) : ∃ v, v < T.length ∧ g (reachL T v) v = true := by
  have hnext : ∀ i, i < T.length → g D i = false → ∃ x : Nat, (x : Int) ∈ needs T i ∧ g D x = false := by
    intro i hi hu
    have h1 := free_none D T 0 hf i hi
    unfold canB doneB at h1
    rw [Nat.zero_add, rdOf_g, hu] at h1
    simp only [Bool.not_false, Bool.true_and] at h1
    rw [List.all_eq_false] at h1
    obtain ⟨x, hx, hn⟩ := h1
    have hr := (hT _ (List.getElem_mem hi)).2 x hx
    refine ⟨x.toNat, by rw [needs_at hi, Int.toNat_of_nonneg hr.1]; exact hx, ?_⟩
    rw [← rdOf_g, Int.toNat_of_nonneg hr.1]
    simpa using hn
  obtain ⟨i0, hi0, hu0⟩ : ∃ i, i < T.length ∧ g D i = false := by
    obtain ⟨i, hi, e⟩ := List.mem_iff_getElem.1 (List.count_pos_iff.1 hc)
    exact ⟨i, by omega, by simp [g, List.getD_eq_getElem?_getD, List.getElem?_eq_getElem hi, e]⟩
  have hall : ∀ i : Nat, ∃ x : Nat, (i < T.length ∧ g D i = false) → ((x : Int) ∈ needs T i ∧ g D x = false) := by
    intro i
    by_cases h : i < T.length ∧ g D i = false
    · obtain ⟨x, h1, h2⟩ := hnext i h.1 h.2
      exact ⟨x, fun _ => ⟨h1, h2⟩⟩
    · exact ⟨0, fun hh => absurd hh h⟩
  obtain ⟨f, hfn⟩ := Classical.axiomOfChoice hall
  let s : Nat → Nat := fun k => Nat.rec i0 (fun _ r => f r) k
  have hs : ∀ k, s k < T.length ∧ g D (s k) = false := by
    intro k
    induction k with
    | zero => exact ⟨hi0, hu0⟩
    | succ k ih =>
      have := hfn (s k) ih
      exact ⟨(needs_lt hT this.1).2, this.2⟩
  have hstep : ∀ k, ((s (k + 1) : Nat) : Int) ∈ needs T (s k) := fun k => (hfn (s k) (hs k)).1
  have hway : ∀ d a, Way T d (s a) (s (a + d)) := by
    intro d
    induction d with
    | zero => intro a; rfl
    | succ d ih => intro a; exact way_snoc T d _ _ _ (ih a) (by have := hstep (a + d); exact this)
  obtain ⟨a, b, h1, h2, h3⟩ := pigeon T.length s (fun k _ => (hs k).1)
  refine ⟨s a, (hs a).1, reach_yes T hT (s a) (hs a).1 (b - a - 1) (by omega) ?_⟩
  have := hway (b - a) a
  rw [show a + (b - a) = b by omega, ← h3, show b - a = b - a - 1 + 1 by omega] at this
  exact this
/-- A whole order ranks the tasks. -/
theorem tr_rank (T : List S39) (hT : inB T.length T) : ∀ (rest : List Int) (D : List Bool), D.length = T.length → Tr T D rest → rest.length = D.count false → ∃ p : Nat → Nat, ∀ i, i < T.length → g D i = false → ∀ x : Nat, (x : Int) ∈ needs T i → g D x = true ∨ p x < p i
  | [], D, hD, _, hl => by
    refine ⟨fun _ => 0, fun i hi hu => ?_⟩
    exfalso
    have hm : (false : Bool) ∈ D := by
      have e : D[i]'(by omega) = false := by simpa [g, List.getD_eq_getElem?_getD, List.getElem?_eq_getElem (show i < D.length by omega)] using hu
      rw [← e]; exact List.getElem_mem _
    have := List.count_pos_iff.2 hm
    simp at hl
    omega
  | x0 :: xs, D, hD, h, hl => by
    rw [Tr] at h
    obtain ⟨⟨l, hf⟩, h2⟩ := h
    obtain ⟨j, e, hj, hcan⟩ := free_mem D T 0 x0 (by rw [hf]; simp)
    unfold canB doneB at hcan
    simp only [Nat.zero_add, Bool.and_eq_true, Bool.not_eq_true'] at hcan e
    have h1 := hcan.1
    rw [rdOf_nat D j (by omega)] at h1
    have h3 := count_set_lt (by omega) h1
    have ex : x0.toNat = j := by omega
    rw [ex] at h2
    simp only [List.length_cons] at hl
    obtain ⟨p, hp⟩ := tr_rank T hT xs (D.set j true) (by rw [List.length_set]; exact hD) h2 (by omega)
    refine ⟨fun i => if i = j then 0 else p i + 1, fun i hi hu x hx => ?_⟩
    by_cases hij : i = j
    · subst hij
      left
      rw [← rdOf_g]
      rw [needs_at hi] at hx
      exact List.all_eq_true.1 hcan.2 _ hx
    · have hu' : g (D.set j true) i = false := by rw [g_set D j i (by omega), hu]; simp; omega
      rcases hp i hi hu' x hx with e1 | e1
      · rw [g_set D j x (by omega)] at e1
        simp only [Bool.or_eq_true, decide_eq_true_eq] at e1
        rcases e1 with rfl | e1
        · right; simp [hij]
        · exact .inl e1
      · right
        simp only [hij, if_false]
        split <;> omega
/-- The order has all tasks just where no task comes to itself. -/
theorem order_cyc (T : List S39) (hT : inB T.length T) (ord : List Int) (hlen : ord.length ≤ T.length) (hTr : Tr T (List.replicate T.length false) ord) : ord.length < T.length ↔ ∃ v, v < T.length ∧ g (reachL T v) v = true := by
  have hcnt : (List.replicate T.length false).count false = T.length := by simp
  constructor
  · intro h
    obtain ⟨D, d1, d2, d3⟩ := tr_stuck T hT ord _ (by simp) hTr (by rw [hcnt]; exact h)
    exact stuck_cycle T hT D d1 d2 d3
  · rintro ⟨v, hv, hr⟩
    rcases Nat.lt_or_eq_of_le hlen with h | h
    · exact h
    · exfalso
      obtain ⟨p, hp⟩ := tr_rank T hT ord _ (by simp) hTr (by rw [hcnt]; exact h)
      have hno := reach_no T hT p (fun i hi x hx => by
        have hu : g (List.replicate T.length false) i = false := by simp [g, List.getD_eq_getElem?_getD, List.getElem?_replicate]; split <;> rfl
        rcases hp i hi hu x hx with e | e
        · simp [g, List.getD_eq_getElem?_getD, List.getElem?_replicate] at e
          split at e <;> simp at e
        · exact e) v hv
      rw [hno] at hr
      cases hr
end Go.Proofs.Ytbgmhcefjggpgaa.Pure
/- Graphs of tasks: the plain value of what the reference computes. -/
namespace Go.Proofs.Ytbgmhcefjggpgaa.Pure
open Go.RowKit Go.Proofs.Ytbgmhcefjggpgaa.X Go.Proofs.YtbgmhcefjggpgaaW.PrintWords Go.Proofs.YtbgmhcefjggpgaaW.PrintLast
set_option linter.unusedVariables false

theorem rdT {T : List S39} {i : Nat} (h : i < T.length) : rd_T39 T (i : Int) = T[i] := by simp [rd_T39, List.getD_eq_getElem?_getD, List.getElem?_eq_getElem h]
theorem wi (i : Nat) (h : i < 100000) : wrap64 ((i : Int) + 1) = ((i + 1 : Nat) : Int) := by rw [w64_in _ (by omega)]; omega
theorem shaped_l1 (n : Int) (T : List S39) (len x28 : Int) (t : S39) (hl : t.f0.length ≤ 1000) : ∀ m a k last, a + m = t.f0.length → (a = 0 ∧ last = -1 ∨ 0 < a ∧ 0 ≤ last ∧ ∃ h : a - 1 < t.f0.length, t.f0[a - 1] = last) →
    peneloperef16_shaped.l1 (k + m + 1) n T len x28 t.f0 (t.f0.length : Int) (a : Int) t.f0 t.f1 t.f2 t.f3 = if (ascB n last (t.f0.drop a) && numsB t) = true then peneloperef16_shaped.l0 k n T len (wrap64 (x28 + 1)) else some false := by
  intro m
  induction m with
  | zero =>
    intro a k last ha hp
    rw [Nat.add_zero, peneloperef16_shaped.l1, if_neg (by omega), List.drop_eq_nil_of_le (by omega), ascB, Bool.true_and]
    unfold numsB
    by_cases h1 : 1 ≤ t.f1
    case neg => rw [if_pos (by omega), if_neg (by simp [h1])]
    rw [if_neg (by omega)]
    by_cases h2 : t.f1 ≤ 8
    case neg => rw [if_pos (by omega), if_neg (by simp [h2])]
    rw [if_neg (by omega)]
    by_cases h3 : 0 ≤ t.f2
    case neg => rw [if_pos (by omega), if_neg (by simp [h3])]
    rw [if_neg (by omega)]
    by_cases h4 : t.f2 ≤ 1048576
    case neg => rw [if_pos (by omega), if_neg (by simp [h4])]
    rw [if_neg (by omega)]
    by_cases h5 : 1 ≤ t.f3
    case neg => rw [if_pos (by omega), if_neg (by simp [h5])]
    rw [if_neg (by omega)]
    by_cases h6 : t.f3 ≤ 1048576
    case neg => rw [if_pos (by omega), if_neg (by simp [h6])]
    rw [if_neg (by omega), if_pos (by simp [h1, h2, h3, h4, h5, h6])]
  | succ m ih =>
    intro a k last ha hp
    have hd : t.f0.drop a = t.f0[a]'(by omega) :: t.f0.drop (a + 1) := List.drop_eq_getElem_cons (by omega)
    rw [show k + (m + 1) + 1 = (k + m + 1) + 1 by omega, peneloperef16_shaped.l1, if_pos (by omega), if_pos (by omega), if_pos (by omega), rd_nat _ _ (by omega), hd, ascB]
    have hI := fun (hx : 0 ≤ t.f0[a]'(by omega)) => ih (a + 1) k (t.f0[a]'(by omega)) (by omega) (.inr ⟨by omega, hx, by simp; omega, by simp⟩)
    rw [wi a (by omega)]
    by_cases h1 : t.f0[a]'(by omega) < 0
    · rw [if_pos h1, if_neg]
      have : ¬ last < t.f0[a]'(by omega) := by rcases hp with ⟨_, e⟩ | ⟨_, e, _⟩ <;> omega
      simp [this]
    rw [if_neg h1]
    by_cases h2 : t.f0[a]'(by omega) ≥ n
    · rw [if_pos h2, if_neg]
      have : ¬ t.f0[a]'(by omega) < n := by omega
      simp [this]
    rw [if_neg h2, hI (by omega)]
    rcases hp with ⟨e1, e2⟩ | ⟨e1, e2, e3, e4⟩
    · rw [if_neg (by omega)]
      have g1 : last < t.f0[a]'(by omega) := by omega
      have g2 : t.f0[a]'(by omega) < n := by omega
      simp only [g1, g2, decide_true, Bool.true_and]
    · have ew : wrap64 ((a : Int) - 1) = ((a - 1 : Nat) : Int) := by rw [w64_in _ (by omega)]; omega
      rw [if_pos (by omega), ew, if_pos (by omega), if_pos (by omega), rd_nat _ _ e3, e4]
      have g2 : t.f0[a]'(by omega) < n := by omega
      by_cases g1 : last < t.f0[a]'(by omega)
      · rw [if_neg (by omega)]
        simp only [g1, g2, decide_true, Bool.true_and]
      · rw [if_pos (by omega), if_neg (by simp [g1])]
theorem shaped_l0 (n : Int) (T : List S39) (hT : ∀ t ∈ T, t.f0.length ≤ 20) (hl : T.length ≤ 20) : ∀ m i k, i + m = T.length → 23 * m + 1 ≤ k → peneloperef16_shaped.l0 k n T (T.length : Int) (i : Int) = some ((T.drop i).all (taskB n)) := by
  intro m
  induction m with
  | zero =>
    intro i k hi hk
    obtain ⟨k, rfl⟩ : ∃ q, k = q + 1 := ⟨k - 1, by omega⟩
    rw [peneloperef16_shaped.l0, if_neg (by omega), List.drop_eq_nil_of_le (by omega)]
    rfl
  | succ m ih =>
    intro i k hi hk
    have hiT : i < T.length := by omega
    have ht := hT T[i] (List.getElem_mem hiT)
    obtain ⟨k, rfl⟩ : ∃ q, k = (q + T[i].f0.length + 1) + 1 := ⟨k - T[i].f0.length - 2, by omega⟩
    rw [peneloperef16_shaped.l0, if_pos (by omega), if_pos (by omega), if_pos (by omega), rdT (by omega), show (0 : Int) = ((0 : Nat) : Int) from rfl, shaped_l1 n T _ _ T[i] (by omega) T[i].f0.length 0 k (-1) (by omega) (.inl ⟨rfl, rfl⟩), List.drop_zero, wi i (by omega), ih (i + 1) k (by omega) (by omega), List.drop_eq_getElem_cons (show i < T.length by omega), List.all_cons]
    unfold taskB
    cases ascB n (-1) T[i].f0 && numsB T[i] <;> simp
theorem reach_l3 (nm : ByteArray) (T : List S39) (x8 x41 x42 : Int) (x40 : List S39) (L : List Int) (hL : L.length ≤ 1000) : ∀ m a k (M : List Bool), (∀ x ∈ L, 0 ≤ x ∧ x < (M.length : Int)) → a + m = L.length →
    peneloperef16_reach.l3 (k + m + 1) M x8 x40 x41 x42 L (L.length : Int) (a : Int) nm T = peneloperef16_reach.l2 k (markL M (L.drop a)) x8 x40 x41 (wrap64 (x42 + 1)) nm T := by
  intro m
  induction m with
  | zero =>
    intro a k M h ha
    rw [Nat.add_zero, peneloperef16_reach.l3, if_neg (by omega), List.drop_eq_nil_of_le (by omega), markL]
  | succ m ih =>
    intro a k M h ha
    have hx := h L[a] (List.getElem_mem (by omega))
    rw [show k + (m + 1) + 1 = (k + m + 1) + 1 by omega, peneloperef16_reach.l3, if_pos (by omega), if_pos (by omega), if_pos (by omega), rd_nat _ _ (by omega), if_pos hx.1, if_pos hx.2, wi a (by omega), ih (a + 1) k _ (by rw [List.length_set]; exact h) (by omega), List.drop_eq_getElem_cons (show a < L.length by omega), markL]
theorem reach_l2 (nm : ByteArray) (T : List S39) (hT : inB T.length T) (hl : T.length ≤ 20) (x8 : Int) : ∀ m i (M : List Bool), M.length = T.length → i + m = T.length → ∀ k, 23 * m + 1 ≤ k → ∃ k', k - (23 * m + 1) ≤ k' ∧
    peneloperef16_reach.l2 k M x8 T (T.length : Int) (i : Int) nm T = peneloperef16_reach.l1 k' (roundL (T.drop i) i M) (wrap64 (x8 + 1)) nm T := by
  intro m
  induction m with
  | zero =>
    intro i M hM hi k hk
    obtain ⟨k, rfl⟩ : ∃ q, k = q + 1 := ⟨k - 1, by omega⟩
    refine ⟨k, by omega, ?_⟩
    rw [peneloperef16_reach.l2, if_neg (by omega), List.drop_eq_nil_of_le (by omega), roundL]
  | succ m ih =>
    intro i M hM hi k hk
    have hiT : i < T.length := by omega
    have ht := hT T[i] (List.getElem_mem hiT)
    obtain ⟨k, rfl⟩ : ∃ q, k = q + 1 := ⟨k - 1, by omega⟩
    rw [peneloperef16_reach.l2, if_pos (by omega), if_pos (by omega), if_pos (by omega), if_pos (by omega), rdOf_g, List.drop_eq_getElem_cons (show i < T.length by omega), roundL]
    cases hg : g M i with
    | false =>
      rw [if_neg (by simp), if_neg (by simp), wi i (by omega)]
      obtain ⟨k', h1, h2⟩ := ih (i + 1) M hM (by omega) k (by omega)
      exact ⟨k', by omega, h2⟩
    | true =>
      rw [if_pos rfl, if_pos rfl, rdT (by omega)]
      obtain ⟨q, rfl⟩ : ∃ q, k = q + T[i].f0.length + 1 := ⟨k - T[i].f0.length - 1, by omega⟩
      rw [show (0 : Int) = ((0 : Nat) : Int) from rfl, reach_l3 nm T x8 _ _ T T[i].f0 (by omega) T[i].f0.length 0 q M (by rw [hM]; exact ht.2) (by omega), List.drop_zero, wi i (by omega)]
      obtain ⟨k', h1, h2⟩ := ih (i + 1) (markL M T[i].f0) (by rw [mark_len]; exact hM) (by omega) q (by omega)
      exact ⟨k', by omega, h2⟩
theorem reach_l1 (nm : ByteArray) (T : List S39) (hT : inB T.length T) (hl : T.length ≤ 10) : ∀ r x8 (M : List Bool), M.length = T.length → x8 + r = T.length → ∀ k, 240 * r + 1 ≤ k → peneloperef16_reach.l1 k M (x8 : Int) nm T = some (roundsL T r M) := by
  intro r
  induction r with
  | zero =>
    intro x8 M hM hi k hk
    obtain ⟨k, rfl⟩ : ∃ q, k = q + 1 := ⟨k - 1, by omega⟩
    rw [peneloperef16_reach.l1, if_neg (by omega), roundsL]
  | succ r ih =>
    intro x8 M hM hi k hk
    obtain ⟨k, rfl⟩ : ∃ q, k = q + 1 := ⟨k - 1, by omega⟩
    obtain ⟨k', h1, h2⟩ := reach_l2 nm T hT (by omega) (x8 : Int) T.length 0 M hM (by omega) k (by omega)
    rw [peneloperef16_reach.l1, if_pos (by omega), show (0 : Int) = ((0 : Nat) : Int) from rfl, h2, List.drop_zero, wi x8 (by omega), ih (x8 + 1) _ (by rw [round_len]; exact hM) (by omega) k' (by omega), roundsL]
theorem reach_l0 (nm : ByteArray) (T : List S39) (L : List Int) (hL : L.length ≤ 1000) : ∀ m a k (M : List Bool), (∀ x ∈ L, 0 ≤ x ∧ x < (M.length : Int)) → a + m = L.length →
    peneloperef16_reach.l0 (k + m + 1) M L (L.length : Int) (a : Int) nm T = peneloperef16_reach.l1 k (markL M (L.drop a)) 0 nm T := by
  intro m
  induction m with
  | zero =>
    intro a k M h ha
    rw [Nat.add_zero, peneloperef16_reach.l0, if_neg (by omega), List.drop_eq_nil_of_le (by omega), markL]
  | succ m ih =>
    intro a k M h ha
    have hx := h L[a] (List.getElem_mem (by omega))
    rw [show k + (m + 1) + 1 = (k + m + 1) + 1 by omega, peneloperef16_reach.l0, if_pos (by omega), if_pos (by omega), if_pos (by omega), rd_nat _ _ (by omega), if_pos hx.1, if_pos hx.2, wi a (by omega), ih (a + 1) k _ (by rw [List.length_set]; exact h) (by omega), List.drop_eq_getElem_cons (show a < L.length by omega), markL]
theorem reach_f (nm : ByteArray) (T : List S39) (hT : inB T.length T) (hl : T.length ≤ 10) (i : Nat) (hi : i < T.length) (k : Nat) (hk : 3000 ≤ k) : peneloperef16_reach.f k nm T (i : Int) = some (reachL T i) := by
  unfold peneloperef16_reach.f reachL
  have ht := hT T[i] (List.getElem_mem hi)
  obtain ⟨q, rfl⟩ : ∃ q, k = q + T[i].f0.length + 1 := ⟨k - T[i].f0.length - 1, by omega⟩
  rw [if_pos (by omega), if_pos (by omega), if_pos (by omega), if_pos (by omega), Int.toNat_natCast, rdT hi, needs_at hi]
  have h0 := reach_l0 nm T T[i].f0 (by omega) T[i].f0.length 0 q (List.replicate T.length false) (by simpa using ht.2) (by omega)
  rw [List.drop_zero] at h0
  rw [show ((0 : Nat) : Int) = 0 from rfl] at h0
  rw [h0]
  exact reach_l1 nm T hT hl T.length 0 _ (by rw [mark_len]; simp) (by omega) q (by omega)
theorem right_l0 (nm : ByteArray) (T : List S39) (hT : inB T.length T) (hl : T.length ≤ 10) : ∀ m i k, i + m = T.length → m + 3001 ≤ k →
    peneloperef16_Right.l0 k (T.length : Int) (i : Int) nm T = some (if (List.range' i m).any (fun j => g (reachL T j) j) = true then 160 else 0) := by
  intro m
  induction m with
  | zero =>
    intro i k hi hk
    obtain ⟨k, rfl⟩ : ∃ q, k = q + 1 := ⟨k - 1, by omega⟩
    rw [peneloperef16_Right.l0, if_neg (by omega)]
    rfl
  | succ m ih =>
    intro i k hi hk
    obtain ⟨k, rfl⟩ : ∃ q, k = q + 1 := ⟨k - 1, by omega⟩
    have hlen : (reachL T i).length = T.length := by unfold reachL; rw [rounds_len, mark_len]; simp
    rw [peneloperef16_Right.l0, if_pos (by omega), reach_f nm T hT hl i (by omega) k (by omega), Option.bind_some, if_pos (by omega), if_pos (by omega), rdOf_g, wi i (by omega), ih (i + 1) k (by omega) (by omega), List.range'_succ, List.any_cons]
    cases g (reachL T i) i
    · rw [if_neg (by simp), Bool.false_or]
    · simp
/-- What both tell of a graph. -/
theorem right_both (nm : ByteArray) (T : List S39) (hn : ∀ t ∈ T, t.f0.length ≤ 20) (hl : T.length ≤ 20) : ∃ R, (∀ k, 100 ≤ k → dag_Right.f k nm T = some R) ∧ (∀ k, 4000 ≤ k → peneloperef16_Right.f k nm T = some R) := by
  unfold dag_Right.f peneloperef16_Right.f peneloperef16_shaped.f
  by_cases h1 : 10 < T.length
  · exact ⟨2, fun k hk => by rw [if_pos h1], fun k hk => by rw [if_pos (by omega)]⟩
  by_cases h2 : T.length < 1
  · refine ⟨1, fun k hk => by rw [if_neg h1, if_pos h2], fun k hk => ?_⟩
    obtain ⟨k, rfl⟩ : ∃ q, k = q + 1 := ⟨k - 1, by omega⟩
    rw [if_neg (by omega), if_pos (by omega), peneloperef16_shaped.j0, if_pos rfl]; rfl
  by_cases h3 : nm.size < 1
  · refine ⟨1, fun k hk => by rw [if_neg h1, if_neg h2, if_pos h3], fun k hk => ?_⟩
    obtain ⟨k, rfl⟩ : ∃ q, k = q + 1 := ⟨k - 1, by omega⟩
    rw [if_neg (by omega), if_neg (by omega), if_pos (by omega), peneloperef16_shaped.j0, if_pos rfl]; rfl
  by_cases h4 : 16 < nm.size
  · refine ⟨1, fun k hk => by rw [if_neg h1, if_neg h2, if_neg h3, if_pos h4], fun k hk => ?_⟩
    obtain ⟨k, rfl⟩ : ∃ q, k = q + 1 := ⟨k - 1, by omega⟩
    rw [if_neg (by omega), if_neg (by omega), if_neg (by omega), peneloperef16_shaped.j0, if_pos (by simp; omega)]; rfl
  have hsh : ∀ k, 4000 ≤ k → peneloperef16_shaped.j0 k (T.length : Int) (decide ((nm.size : Int) > 16)) nm T = some (T.all (taskB (T.length : Int))) := by
    intro k hk
    obtain ⟨k, rfl⟩ : ∃ q, k = q + 1 := ⟨k - 1, by omega⟩
    rw [peneloperef16_shaped.j0, if_neg (by simp; omega)]
    have := shaped_l0 (T.length : Int) T hn hl T.length 0 k (by omega) (by omega)
    rw [List.drop_zero] at this
    exact this
  cases h5 : T.all (taskB (T.length : Int)) with
  | false =>
    exact ⟨1, fun k hk => by rw [if_neg h1, if_neg h2, if_neg h3, if_neg h4, anyT_f _ k (by omega) T hn, h5]; rfl, fun k hk => by rw [if_neg (by omega), if_neg (by omega), if_neg (by omega), hsh k hk, h5]; rfl⟩
  | true =>
    have hT : inB T.length T := by
      intro t ht
      refine ⟨hn t ht, fun x hx => ?_⟩
      have h6 := List.all_eq_true.1 h5 t ht
      unfold taskB at h6
      simp only [Bool.and_eq_true] at h6
      have := asc_mem h6.1 x hx
      omega
    obtain ⟨ord, o1, o2, o3⟩ := order_ex T hT hl T.length (List.replicate T.length false) (by simp) (by simp)
    have hord : ∀ k, 100 ≤ k → dag_order.f k T = some ord := by
      intro k hk
      unfold dag_order.f
      rw [if_pos (by omega), if_pos (by omega), Int.toNat_natCast, o3 k [] (by omega) (by simp; omega), List.nil_append]
    have hcyc := order_cyc T hT ord o1 o2
    have href : ∀ k, 4000 ≤ k → peneloperef16_Right.l0 k (T.length : Int) 0 nm T = some (if (List.range' 0 T.length).any (fun j => g (reachL T j) j) = true then 160 else 0) := by
      intro k hk
      have := right_l0 nm T hT (by omega) T.length 0 k (by omega) (by omega)
      exact this
    have hany : (List.range' 0 T.length).any (fun j => g (reachL T j) j) = true ↔ ∃ v, v < T.length ∧ g (reachL T v) v = true := by
      rw [List.any_eq_true]
      constructor
      · rintro ⟨v, hv, e⟩
        rw [List.mem_range'_1] at hv
        exact ⟨v, by omega, e⟩
      · rintro ⟨v, hv, e⟩
        exact ⟨v, by rw [List.mem_range'_1]; omega, e⟩
    refine ⟨if ord.length < T.length then 160 else 0, fun k hk => ?_, fun k hk => ?_⟩
    · rw [if_neg h1, if_neg h2, if_neg h3, if_neg h4, anyT_f _ k (by omega) T hn, h5, Option.bind_some, if_neg (by simp), hord k hk, Option.bind_some]
      split <;> rfl
    · rw [if_neg (by omega), if_neg (by omega), if_neg (by omega), hsh k hk, h5, Option.bind_some, if_pos rfl, href k hk]
      by_cases h6 : ord.length < T.length
      · rw [if_pos h6, if_pos (hany.2 (hcyc.1 h6))]
      · rw [if_neg h6, if_neg (fun e => h6 (hcyc.2 (hany.1 e)))]
/-! What is free, and the order. -/
theorem same_l (x : List Int) (hx : x.length ≤ 1000) : ∀ m i k, i + m = x.length → m + 1 ≤ k → peneloperef16_SameInts.l0 k x x (x.length : Int) (i : Int) = some true := by
  intro m
  induction m with
  | zero =>
    intro i k hi hk
    obtain ⟨k, rfl⟩ : ∃ q, k = q + 1 := ⟨k - 1, by omega⟩
    rw [peneloperef16_SameInts.l0, if_neg (by omega)]
  | succ m ih =>
    intro i k hi hk
    obtain ⟨k, rfl⟩ : ∃ q, k = q + 1 := ⟨k - 1, by omega⟩
    rw [peneloperef16_SameInts.l0, if_pos (by omega), if_pos (by omega), if_pos (by omega), if_pos (by omega), if_pos rfl, wi i (by omega), ih (i + 1) k (by omega) (by omega)]
theorem same_self (k : Nat) (hk : 1002 ≤ k) (x : List Int) (hx : x.length ≤ 1000) : peneloperef16_SameInts.f k x x = some true := by
  unfold peneloperef16_SameInts.f
  rw [if_pos rfl, show (0 : Int) = ((0 : Nat) : Int) from rfl, same_l x hx x.length 0 k (by omega) (by omega)]
end Go.Proofs.Ytbgmhcefjggpgaa.Pure
/- The bytes of a graph: the plain value of what the code writes. -/
namespace Go.Proofs.Ytbgmhcefjggpgaa.Pure
open Go.RowKit Go.Proofs.Ytbgmhcefjggpgaa.X Go.Proofs.YtbgmhcefjggpgaaW.PrintWords Go.Proofs.YtbgmhcefjggpgaaW.PrintLast
set_option linter.unusedVariables false

theorem put1 (k : Nat) (hk : 4 ≤ k) {n : Int} (h0 : 0 ≤ n) (h1 : n < 256) : P.code_Put.f k n 1 = some (strOfNums [n % 256], 0) := by
  obtain ⟨k, rfl⟩ : ∃ m, k = m + 4 := ⟨k - 4, by omega⟩
  have e : n / 256 = 0 := by omega
  unfold P.code_Put.f
  rw [if_neg (by omega), if_neg (by omega), if_neg (by omega)]
  simp [P.code_Put.j0, P.code_Put.l0, wrap64, shr, e, IntKind.bits]
theorem put2 (k : Nat) (hk : 5 ≤ k) {n : Int} (h0 : 0 ≤ n) (h1 : n < 65536) : P.code_Put.f k n 2 = some (strOfNums [n / 256 % 256, n % 256], 0) := by
  obtain ⟨k, rfl⟩ : ∃ m, k = m + 5 := ⟨k - 5, by omega⟩
  have e : n / 65536 = 0 := by omega
  unfold P.code_Put.f
  rw [if_neg (by omega), if_neg (by omega), if_neg (by omega)]
  simp [P.code_Put.j0, P.code_Put.l0, wrap64, shr, e, IntKind.bits, List.replicate]
theorem put3 (k : Nat) (hk : 6 ≤ k) {n : Int} (h0 : 0 ≤ n) (h1 : n < 16777216) : P.code_Put.f k n 3 = some (strOfNums [n / 65536 % 256, n / 256 % 256, n % 256], 0) := by
  obtain ⟨k, rfl⟩ : ∃ m, k = m + 6 := ⟨k - 6, by omega⟩
  have e : n / 16777216 = 0 := by omega
  unfold P.code_Put.f
  rw [if_neg (by omega), if_neg (by omega), if_neg (by omega)]
  simp [P.code_Put.j0, P.code_Put.l0, wrap64, shr, e, IntKind.bits, List.replicate]
/-- A byte of a number. -/
def ub (n : Int) : UInt8 := UInt8.ofNat n.toNat
theorem ub_of (c : UInt8) {n : Int} (h : n = c.toNat) : ub n = c := by
  subst h
  unfold ub
  rw [Int.toNat_natCast]
  exact UInt8.ofNat_toNat
def mkB (l : List UInt8) : ByteArray := ⟨l.toArray⟩
theorem mkB_list (l : List UInt8) : (mkB l).data.toList = l := by simp [mkB]
theorem mkB_of (b : ByteArray) : mkB b.data.toList = b := by cases b; simp [mkB]
theorem mkB_size (l : List UInt8) : (mkB l).size = l.length := by rw [Go.Lib.size_eq, mkB_list]
theorem mkB_app (a b : List UInt8) : mkB a ++ mkB b = mkB (a ++ b) := by
  rw [← mkB_of (mkB a ++ mkB b)]
  congr 1
/-- A number in two bytes, in three, and a text and its length ahead of it. -/
def two (n : Int) : List UInt8 := [ub (n / 256 % 256), ub (n % 256)]
def three (n : Int) : List UInt8 := [ub (n / 65536 % 256), ub (n / 256 % 256), ub (n % 256)]
def txt (s : ByteArray) : List UInt8 := two (s.size : Int) ++ s.data.toList
theorem txt_len (s : ByteArray) : (txt s).length = s.size + 2 := by
  unfold txt two
  rw [List.length_append, ← Go.Lib.size_eq]; simp only [List.length_cons, List.length_nil]; omega
theorem all2 (a b : List UInt8) (h : a.length + b.length ≤ 1000000) : code_All.f [mkB a, mkB b] = some (mkB (a ++ b)) := by
  have e : catL [mkB a, mkB b] = a ++ b := by simp [catL, mkB]
  unfold code_All.f
  rw [e, if_pos ⟨by rw [List.length_append]; omega, by simp⟩]
  rfl
theorem strTwo (n : Int) : strOfNums [n / 256 % 256, n % 256] = mkB (two n) := rfl
theorem text_p (k : Nat) (hk : 5 ≤ k) (s : ByteArray) (h : s.size ≤ 65535) : P.code_Text.f k s = some (mkB (txt s), 0) := by
  unfold P.code_Text.f
  rw [if_neg (by omega), put2 k hk (by omega) (by omega)]
  simp only [Option.bind_some]
  have e := all2 (two (s.size : Int)) s.data.toList (by rw [← Go.Lib.size_eq]; simp [two]; omega)
  rw [mkB_of] at e
  rw [strTwo, e]
  rfl
theorem add1 (k : Nat) (hk : 6 ≤ k) (o : List UInt8) (ho : o.length ≤ 90000) {n : Int} (h0 : 0 ≤ n) (h1 : n < 256) : addF k (mkB o) n 1 = some (mkB (o ++ [ub n])) := by
  unfold addF
  rw [put1 k (by omega) h0 h1, Option.bind_some, show n % 256 = n by omega]
  exact all2 o [ub n] (by simp; omega)
theorem add3 (k : Nat) (hk : 6 ≤ k) (o : List UInt8) (ho : o.length ≤ 90000) {n : Int} (h0 : 0 ≤ n) (h1 : n < 16777216) : addF k (mkB o) n 3 = some (mkB (o ++ three n)) := by
  unfold addF
  rw [put3 k (by omega) h0 h1, Option.bind_some]
  exact all2 o (three n) (by simp [three]; omega)
/-- The bytes of a task, and of a graph. -/
def taskBy (t : S39) : List UInt8 := ub (t.f0.length : Int) :: (t.f0.map ub ++ (ub t.f1 :: (three t.f2 ++ three t.f3)))
def dagB (nm : ByteArray) (T : List S39) : List UInt8 := txt nm ++ (ub (T.length : Int) :: T.flatMap taskBy)
def byT (t : S39) : Prop := t.f0.length ≤ 255 ∧ (∀ x ∈ t.f0, 0 ≤ x ∧ x < 256) ∧ 0 ≤ t.f1 ∧ t.f1 < 256 ∧ 0 ≤ t.f2 ∧ t.f2 < 16777216 ∧ 0 ≤ t.f3 ∧ t.f3 < 16777216
theorem putNeeds_p (k : Nat) (hk : 6 ≤ k) : ∀ (L : List Int) (o : List UInt8), (∀ x ∈ L, 0 ≤ x ∧ x < 256) → o.length + L.length ≤ 80000 → putNeeds k L (mkB o) = some (mkB (o ++ L.map ub))
  | [], o, _, _ => by rw [putNeeds, List.map_nil, List.append_nil]
  | x :: L, o, h, hl => by
    rw [List.length_cons] at hl
    rw [putNeeds, add1 k hk o (by omega) (h x (by simp)).1 (h x (by simp)).2, Option.bind_some, putNeeds_p k hk L _ (fun y hy => h y (by simp [hy])) (by rw [List.length_append]; simp; omega)]
    simp
theorem putTasks_p (k : Nat) (hk : 6 ≤ k) : ∀ (T : List S39) (o : List UInt8), (∀ t ∈ T, byT t) → o.length + 300 * T.length ≤ 70000 → putTasks k T (mkB o) = some (mkB (o ++ T.flatMap taskBy))
  | [], o, _, _ => by rw [putTasks, List.flatMap_nil, List.append_nil]
  | t :: T, o, h, hl => by
    obtain ⟨h1, h2, h3, h4, h5, h6, h7, h8⟩ := h t (by simp)
    rw [List.length_cons] at hl
    rw [putTasks, if_pos (by omega), add1 k hk o (by omega) (by omega) (by omega), Option.bind_some, putNeeds_p k hk t.f0 _ h2 (by simp; omega), Option.bind_some,
      add1 k hk _ (by simp; omega) h3 h4, Option.bind_some, add3 k hk _ (by simp; omega) h5 h6, Option.bind_some, add3 k hk _ (by simp [three]; omega) h7 h8, Option.bind_some,
      putTasks_p k hk T _ (fun y hy => h y (by simp [hy])) (by simp [three]; omega)]
    simp [taskBy, List.flatMap_cons]
/-! What may be, is written in few bytes. -/
theorem asc_len {n : Int} : ∀ {l : List Int} {last : Int}, last < n → ascB n last l = true → (l.length : Int) ≤ n - 1 - last
  | [], last, h0, _ => by simp; omega
  | x :: xs, last, h0, h => by
    simp only [ascB, Bool.and_eq_true, decide_eq_true_eq] at h
    have := asc_len (l := xs) h.2.1 h.2.2
    simp only [List.length_cons]
    omega
theorem task_by {n : Nat} (hn : n ≤ 200) (h1 : 1 ≤ n) {t : S39} (h : taskB (n : Int) t = true) : byT t ∧ t.f0.length ≤ n := by
  unfold taskB numsB at h
  simp only [Bool.and_eq_true, decide_eq_true_eq] at h
  obtain ⟨ha, c1, c2, c3, c4, c5, c6⟩ := h
  have hl := asc_len (l := t.f0) (show (-1 : Int) < n by omega) ha
  refine ⟨⟨by omega, fun x hx => ?_, by omega, by omega, by omega, by omega, by omega, by omega⟩, by omega⟩
  have := asc_mem ha x hx
  omega
theorem put_f (nm : ByteArray) (T : List S39) (k : Nat) (hk : 6 ≤ k) (hR : dag_Right.f k nm T = some 0) (hl : T.length ≤ 10) (h1 : 1 ≤ T.length) (hn : nm.size ≤ 16) (hT : T.all (taskB (T.length : Int)) = true) : dag_Put.f k nm T = some (mkB (dagB nm T), 0) := by
  unfold dag_Put.f
  rw [hR, Option.bind_some, if_pos rfl, if_pos (by omega), text_p k (by omega) nm (by omega), Option.bind_some, add1 k hk _ (by rw [txt_len]; omega) (by omega) (by omega), Option.bind_some,
    putTasks_p k hk T _ (fun t ht => (task_by (by omega) h1 (List.all_eq_true.1 hT t ht)).1) (by rw [List.length_append, txt_len]; simp; omega)]
  simp [dagB]
/-- What is told of any graph read. -/
theorem anyT_g (n : Int) (k : Nat) (hk : 1002 ≤ k) : ∀ l : List S39, (∀ t ∈ l, t.f0.length ≤ 1000) → anyT k n l = some (!(l.all (taskB n)))
  | [], _ => rfl
  | t :: ts, h => by
    have e : dag_task.f k t.f0 t.f1 t.f2 t.f3 n = some (taskB n t) := by
      unfold dag_task.f taskB
      have := task_l n t (h t (by simp)) t.f0.length 0 k (-1) (by omega) (by have := h t (by simp); omega)
      rw [List.drop_zero] at this
      exact this
    rw [anyT, e, Option.bind_some, anyT_g n k hk ts (fun y hy => h y (by simp [hy])), List.all_cons]
    cases taskB n t <;> simp
theorem right_any (nm : ByteArray) (T : List S39) (hn : ∀ t ∈ T, t.f0.length ≤ 1000) : ∃ R, (∀ k, 1002 ≤ k → dag_Right.f k nm T = some R) ∧
    (R = 0 → 1 ≤ T.length ∧ T.length ≤ 10 ∧ 1 ≤ nm.size ∧ nm.size ≤ 16 ∧ T.all (taskB (T.length : Int)) = true) := by
  by_cases h : T.all (taskB (T.length : Int)) = true ∧ 1 ≤ T.length ∧ T.length ≤ 10 ∧ 1 ≤ nm.size ∧ nm.size ≤ 16
  · obtain ⟨h5, h1, h2, h3, h4⟩ := h
    obtain ⟨R, _, hR, _⟩ := right_ex nm T (fun t ht => by have := (task_by (by omega) h1 (List.all_eq_true.1 h5 t ht)).2; omega) (by omega)
    exact ⟨R, fun k hk => hR k (by omega), fun _ => ⟨h1, h2, h3, h4, h5⟩⟩
  · unfold dag_Right.f
    by_cases h1 : 10 < T.length
    · exact ⟨2, fun k hk => by rw [if_pos h1], fun h => by simp at h⟩
    by_cases h2 : T.length < 1
    · exact ⟨1, fun k hk => by rw [if_neg h1, if_pos h2], fun h => by simp at h⟩
    by_cases h3 : nm.size < 1
    · exact ⟨1, fun k hk => by rw [if_neg h1, if_neg h2, if_pos h3], fun h => by simp at h⟩
    by_cases h4 : 16 < nm.size
    · exact ⟨1, fun k hk => by rw [if_neg h1, if_neg h2, if_neg h3, if_pos h4], fun h => by simp at h⟩
    cases h5 : T.all (taskB (T.length : Int)) with
    | false => exact ⟨1, fun k hk => by rw [if_neg h1, if_neg h2, if_neg h3, if_neg h4, anyT_g _ k hk T hn, h5]; rfl, fun h => by simp at h⟩
    | true => exact absurd ⟨h5, by omega, by omega, by omega, by omega⟩ h
end Go.Proofs.Ytbgmhcefjggpgaa.Pure
/- A graph out of bytes: the plain value of what the code reads. -/
namespace Go.Proofs.Ytbgmhcefjggpgaa.Pure
open Go.RowKit Go.Proofs.Ytbgmhcefjggpgaa.X Go.Proofs.YtbgmhcefjggpgaaW.PrintWords Go.Proofs.YtbgmhcefjggpgaaW.PrintLast
set_option linter.unusedVariables false

/-- A number and a text at a place. -/
def fld (a : ByteArray) (m n : Nat) : Int := numOf ((a.data.toList.drop m).take n)
def gv (a : ByteArray) (m n : Nat) : Int × Int × Int := if a.size < m + n then (0, 0, 3) else (fld a m n, ((m + n : Nat) : Int), 0)
def cutOf (a : ByteArray) (m : Nat) : ByteArray × Int × Int :=
  if a.size < m + 2 then (⟨#[]⟩, 0, 3) else
  if (a.size : Int) - ((m + 2 : Nat) : Int) < fld a m 2 then (⟨#[]⟩, 0, 3) else
  (a.extract (m + 2) (m + 2 + (fld a m 2).toNat), ((m + 2 + (fld a m 2).toNat : Nat) : Int), 0)
theorem fld_bd (a : ByteArray) (m n : Nat) (h : m + n ≤ a.size) : 0 ≤ fld a m n ∧ fld a m n < 256 ^ n := by
  have := numOf_bd (a.data.toList.drop m) n (by rw [List.length_drop, ← Go.Lib.size_eq]; omega)
  exact this
theorem get_in (a : ByteArray) (hs : a.size ≤ 5000) (m n : Nat) (hm : m ≤ a.size) (h1 : 1 ≤ n) (h6 : n ≤ 6) : code_Get.f a (m : Int) (n : Int) = some (gv a m n) := by
  unfold code_Get.f gv fld
  rw [if_pos (by omega), if_neg (by omega)]
  by_cases h : a.size < m + n
  · rw [if_pos h, if_pos (by omega)]
  · rw [if_neg h, if_neg (by omega)]
    simp
theorem cut_in (a : ByteArray) (hs : a.size ≤ 5000) (m : Nat) (hm : m ≤ a.size) : P.code_Cut.f a (m : Int) = some (cutOf a m) := by
  unfold P.code_Cut.f cutOf
  rw [show code_Get.f a (m : Int) 2 = some (gv a m 2) from get_in a hs m 2 hm (by omega) (by omega), Option.bind_some]
  unfold gv
  by_cases h : a.size < m + 2
  · rw [if_pos h, if_pos h]; rfl
  · rw [if_neg h, if_neg h]
    have hb := fld_bd a m 2 (by omega)
    generalize fld a m 2 = q at *
    obtain ⟨q, rfl⟩ : ∃ n : Nat, q = n := ⟨q.toNat, by omega⟩
    simp only [if_true]
    rw [w64_in _ (by omega), w64_in _ (by omega)]
    by_cases h2 : (a.size : Int) - ((m + 2 : Nat) : Int) < (q : Int)
    · rw [if_pos h2, if_pos h2]
    · rw [if_neg h2, if_neg h2, if_pos (by omega), if_pos (by omega), if_pos (by omega), Int.toNat_natCast]
      rfl
/-- A text that is cut off: its place behind lies in the bytes. -/
theorem cut_cases (a : ByteArray) (m : Nat) (hm : m ≤ a.size) : (cutOf a m = (⟨#[]⟩, 0, 3)) ∨ ∃ (t : ByteArray), t.size ≤ 65535 ∧ m + 2 + t.size ≤ a.size ∧ cutOf a m = (t, ((m + 2 + t.size : Nat) : Int), 0) ∧ a.data.toList.drop m = txt t ++ a.data.toList.drop (m + 2 + t.size) := by
  by_cases h : a.size < m + 2
  · left; unfold cutOf; rw [if_pos h]
  have hb := fld_bd a m 2 (by omega)
  by_cases h2 : (a.size : Int) - ((m + 2 : Nat) : Int) < fld a m 2
  · left; unfold cutOf; rw [if_neg h, if_pos h2]
  right
  obtain ⟨q, hq⟩ : ∃ n : Nat, fld a m 2 = n := ⟨(fld a m 2).toNat, by omega⟩
  rw [hq] at hb h2
  have hsz : (a.extract (m + 2) (m + 2 + q)).size = q := by rw [ByteArray.size_extract]; omega
  refine ⟨a.extract (m + 2) (m + 2 + q), by omega, by omega, ?_, ?_⟩
  · unfold cutOf
    rw [if_neg h, hq, if_neg h2, Int.toNat_natCast, hsz]
  · rw [hsz]
    have hl : m + 1 < a.data.toList.length := by rw [← Go.Lib.size_eq]; omega
    have e1 : a.data.toList.drop m = a.data.toList[m] :: a.data.toList[m + 1] :: a.data.toList.drop (m + 2) := by
      rw [List.drop_eq_getElem_cons (by omega), List.drop_eq_getElem_cons hl]
    have e2 : (q : Int) = (a.data.toList[m]).toNat * 256 + (a.data.toList[m + 1]).toNat := by
      rw [← hq]
      unfold fld
      rw [e1]
      simp [numOf]
    have c1 := (a.data.toList[m]).toNat_lt
    have c2 := (a.data.toList[m + 1]).toNat_lt
    have e3 : (a.extract (m + 2) (m + 2 + q)).data.toList = (a.data.toList.drop (m + 2)).take q := by
      rw [ByteArray.data_extract, Array.toList_extract, List.extract_eq_take_drop]
      congr 1; omega
    unfold txt two
    rw [hsz, e3, e1]
    rw [ub_of a.data.toList[m] (by omega), ub_of a.data.toList[m + 1] (by omega)]
    simp only [List.cons_append, List.nil_append]
    rw [show a.data.toList.drop (m + 2 + q) = (a.data.toList.drop (m + 2)).drop q from by rw [List.drop_drop], List.take_append_drop]
/-! Reading off a row of bytes. -/
def pNum (n : Nat) (l : List UInt8) : Option (Int × List UInt8) := if l.length < n then none else some (numOf (l.take n), l.drop n)
def pNeeds : Nat → List UInt8 → Option (List Int × List UInt8)
  | 0, l => some ([], l)
  | c + 1, l => (pNum 1 l).bind fun x => (pNeeds c x.2).map fun y => (x.1 :: y.1, y.2)
def pTask (l : List UInt8) : Option (S39 × List UInt8) :=
  (pNum 1 l).bind fun c => (pNeeds c.1.toNat c.2).bind fun L => (pNum 1 L.2).bind fun d => (pNum 3 d.2).bind fun e => (pNum 3 e.2).map fun g => (⟨L.1, d.1, e.1, g.1⟩, g.2)
def pTasks : Nat → List UInt8 → Option (List S39 × List UInt8)
  | 0, l => some ([], l)
  | c + 1, l => (pTask l).bind fun t => (pTasks c t.2).map fun y => (t.1 :: y.1, y.2)
theorem num1_inv {l r : List UInt8} {x : Int} (h : pNum 1 l = some (x, r)) : l = ub x :: r ∧ 0 ≤ x ∧ x < 256 := by
  unfold pNum at h
  match l with
  | [] => simp at h
  | c :: l =>
    have hc := c.toNat_lt
    simp [numOf] at h
    obtain ⟨h1, rfl⟩ := h
    refine ⟨by rw [ub_of c h1.symm], by omega, by omega⟩
theorem num3_inv {l r : List UInt8} {x : Int} (h : pNum 3 l = some (x, r)) : l = three x ++ r ∧ 0 ≤ x ∧ x < 16777216 := by
  unfold pNum at h
  match l with
  | [] => simp at h
  | [_] => simp at h
  | [_, _] => simp at h
  | a :: b :: c :: l =>
    have ha := a.toNat_lt
    have hb := b.toNat_lt
    have hc := c.toNat_lt
    simp [numOf] at h
    obtain ⟨h1, rfl⟩ := h
    refine ⟨?_, by omega, by omega⟩
    unfold three
    rw [ub_of a (n := x / 65536 % 256) (by omega), ub_of b (n := x / 256 % 256) (by omega), ub_of c (n := x % 256) (by omega)]
    rfl
theorem needs_inv : ∀ (c : Nat) (l : List UInt8) (L : List Int) (r : List UInt8), pNeeds c l = some (L, r) → l = L.map ub ++ r ∧ L.length = c ∧ ∀ x ∈ L, 0 ≤ x ∧ x < 256
  | 0, l, L, r, h => by
    simp only [pNeeds, Option.some.injEq, Prod.mk.injEq] at h
    obtain ⟨rfl, rfl⟩ := h
    simp
  | c + 1, l, L, r, h => by
    obtain ⟨⟨x, l1⟩, h1, h2⟩ := Option.bind_eq_some_iff.1 h
    obtain ⟨⟨L1, r1⟩, h3, h4⟩ := Option.map_eq_some_iff.1 h2
    simp only [Prod.mk.injEq] at h4
    obtain ⟨rfl, rfl⟩ := h4
    obtain ⟨rfl, hx⟩ := num1_inv h1
    obtain ⟨h5, h6, h7⟩ := needs_inv c _ _ _ h3
    simp only at h5
    subst h5
    refine ⟨by simp, by simp [h6], fun y hy => ?_⟩
    rcases List.mem_cons.1 hy with rfl | hy
    · exact hx
    · exact h7 y hy
theorem task_inv {l r : List UInt8} {t : S39} (h : pTask l = some (t, r)) : l = taskBy t ++ r ∧ t.f0.length ≤ 255 := by
  obtain ⟨⟨c, l1⟩, h1, h⟩ := Option.bind_eq_some_iff.1 h
  obtain ⟨⟨L, l2⟩, h2, h⟩ := Option.bind_eq_some_iff.1 h
  obtain ⟨⟨d, l3⟩, h3, h⟩ := Option.bind_eq_some_iff.1 h
  obtain ⟨⟨e, l4⟩, h4, h⟩ := Option.bind_eq_some_iff.1 h
  obtain ⟨⟨g, l5⟩, h5, h⟩ := Option.map_eq_some_iff.1 h
  simp only [Prod.mk.injEq] at h
  obtain ⟨rfl, rfl⟩ := h
  simp only at h2 h3 h4 h5
  obtain ⟨rfl, b1⟩ := num1_inv h1
  obtain ⟨rfl, b2, _⟩ := needs_inv _ _ _ _ h2
  obtain ⟨rfl, b3⟩ := num1_inv h3
  obtain ⟨rfl, b4⟩ := num3_inv h4
  obtain ⟨rfl, b5⟩ := num3_inv h5
  refine ⟨?_, by simp only; omega⟩
  unfold taskBy
  simp only
  rw [b2, Int.toNat_of_nonneg b1.1]
  simp
theorem tasks_inv : ∀ (c : Nat) (l : List UInt8) (T : List S39) (r : List UInt8), pTasks c l = some (T, r) → l = T.flatMap taskBy ++ r ∧ T.length = c ∧ ∀ t ∈ T, t.f0.length ≤ 255
  | 0, l, T, r, h => by
    simp only [pTasks, Option.some.injEq, Prod.mk.injEq] at h
    obtain ⟨rfl, rfl⟩ := h
    simp
  | c + 1, l, T, r, h => by
    obtain ⟨⟨t, l1⟩, h1, h2⟩ := Option.bind_eq_some_iff.1 h
    obtain ⟨⟨T1, r1⟩, h3, h4⟩ := Option.map_eq_some_iff.1 h2
    simp only [Prod.mk.injEq] at h4
    obtain ⟨rfl, rfl⟩ := h4
    obtain ⟨rfl, hx⟩ := task_inv h1
    obtain ⟨h5, h6, h7⟩ := tasks_inv c _ _ _ h3
    simp only at h5
    subst h5
    refine ⟨by simp [List.flatMap_cons], by simp [h6], fun y hy => ?_⟩
    rcases List.mem_cons.1 hy with rfl | hy
    · exact hx
    · exact h7 y hy
end Go.Proofs.Ytbgmhcefjggpgaa.Pure
/- A graph out of bytes: what the code's reading comes to. -/
namespace Go.Proofs.Ytbgmhcefjggpgaa.Pure
open Go.RowKit Go.Proofs.Ytbgmhcefjggpgaa.X Go.Proofs.YtbgmhcefjggpgaaW.PrintWords Go.Proofs.YtbgmhcefjggpgaaW.PrintLast
set_option linter.unusedVariables false

abbrev at_ (a : ByteArray) (m : Nat) : List UInt8 := a.data.toList.drop m
theorem gv_num (a : ByteArray) (m n : Nat) (hm : m ≤ a.size) : (pNum n (at_ a m) = none ∧ gv a m n = (0, 0, 3)) ∨
    (m + n ≤ a.size ∧ ∃ x : Int, 0 ≤ x ∧ x < 256 ^ n ∧ pNum n (at_ a m) = some (x, at_ a (m + n)) ∧ gv a m n = (x, ((m + n : Nat) : Int), 0)) := by
  unfold pNum gv
  have hl : (at_ a m).length = a.size - m := by rw [List.length_drop, ← Go.Lib.size_eq]
  by_cases h : a.size < m + n
  · left
    rw [if_pos (by omega), if_pos h]
    exact ⟨rfl, rfl⟩
  · right
    have := fld_bd a m n (by omega)
    refine ⟨by omega, fld a m n, this.1, this.2, ?_, by rw [if_neg h]⟩
    rw [if_neg (by omega)]
    simp [fld, List.drop_drop]
theorem num_ok (a : ByteArray) (hs : a.size ≤ 5000) (m n : Nat) (hm : m ≤ a.size) (h1 : 1 ≤ n) (h6 : n ≤ 6) : (pNum n (at_ a m) = none ∧ numberF a (m : Int) 0 (n : Int) = some (0, 0, 3)) ∨
    (m + n ≤ a.size ∧ ∃ x : Int, 0 ≤ x ∧ x < 256 ^ n ∧ pNum n (at_ a m) = some (x, at_ a (m + n)) ∧ numberF a (m : Int) 0 (n : Int) = some (x, ((m + n : Nat) : Int), 0)) := by
  have e : numberF a (m : Int) 0 (n : Int) = some (gv a m n) := by unfold numberF; rw [if_pos rfl, get_in a hs m n hm h1 h6]
  rw [e]
  rcases gv_num a m n hm with ⟨h2, h3⟩ | ⟨h2, x, h3, h4, h5, h6⟩
  · left; exact ⟨h2, by rw [h3]⟩
  · right; exact ⟨h2, x, h3, h4, h5, by rw [h6]⟩
theorem num_bad (a : ByteArray) (p e n : Int) (he : e ≠ 0) : numberF a p e n = some (0, p, e) := by
  unfold numberF; rw [if_neg he]
theorem needs_stop (a : ByteArray) (k : Nat) (c p e : Int) (he : e ≠ 0) (L : List Int) : needsL a (k + 1) c p e L = some (p, e, L) := by
  rw [needsL]
  by_cases h : c > 0
  · rw [if_pos h, if_neg he]
  · rw [if_neg h]
theorem tasks_stop (a : ByteArray) (k : Nat) (c p e : Int) (he : e ≠ 0) (T : List S39) : tasksL a (k + 1) c p e T = some (p, e, T) := by
  rw [tasksL]
  by_cases h : c > 0
  · rw [if_pos h, if_neg he]
  · rw [if_neg h]
theorem needs_ok (a : ByteArray) (hs : a.size ≤ 5000) : ∀ (c m k : Nat) (L : List Int), m ≤ a.size → c ≤ 255 → c + 2 ≤ k → L.length + c ≤ 1000 →
    (pNeeds c (at_ a m) = none ∧ ∃ q L', needsL a k (c : Int) (m : Int) 0 L = some (q, 3, L')) ∨
    (∃ (m' : Nat) (L' : List Int), m' ≤ a.size ∧ pNeeds c (at_ a m) = some (L', at_ a m') ∧ needsL a k (c : Int) (m : Int) 0 L = some ((m' : Int), 0, L ++ L')) := by
  intro c
  induction c with
  | zero =>
    intro m k L hm _ hk _
    obtain ⟨k, rfl⟩ : ∃ q, k = q + 1 := ⟨k - 1, by omega⟩
    right
    exact ⟨m, [], hm, rfl, by rw [needsL, if_neg (by omega), List.append_nil]⟩
  | succ c ih =>
    intro m k L hm hc hk hl
    obtain ⟨k, rfl⟩ : ∃ q, k = q + 2 := ⟨k - 2, by omega⟩
    rw [needsL, if_pos (by omega), if_pos rfl, if_pos ⟨by omega, by omega⟩, pNeeds, show wrap64 (((c + 1 : Nat) : Int) - 1) = (c : Int) by rw [w64_in _ (by omega)]; omega]
    rcases num_ok a hs m 1 hm (by omega) (by omega) with ⟨h1, h2⟩ | ⟨h1, x, h2, h3, h4, h5⟩
    · left
      rw [h1, show ((1 : Nat) : Int) = 1 from rfl] at *
      rw [h2, Option.bind_some]
      exact ⟨rfl, 0, L ++ [0], needs_stop a k _ _ _ (by simp) _⟩
    · rw [show ((1 : Nat) : Int) = 1 from rfl] at h5
      rw [h5, h4, Option.bind_some, Option.bind_some]
      simp only
      rcases ih (m + 1) (k + 1) (L ++ [x]) h1 (by omega) (by omega) (by rw [List.length_append]; simp; omega) with ⟨g1, q, L', g2⟩ | ⟨m', L', g1, g2, g3⟩
      · left
        rw [g1]
        exact ⟨rfl, q, L', g2⟩
      · right
        rw [g2]
        exact ⟨m', x :: L', g1, rfl, by rw [g3]; simp⟩
/-- One task, by the code: what the rounds do. -/
def taskL (a : ByteArray) (k : Nat) (p e : Int) : Option (S39 × Int × Int) :=
  (numberF a p e 1).bind fun c => (needsL a k c.1 c.2.1 c.2.2 []).bind fun b => (numberF a b.1 b.2.1 1).bind fun d => (numberF a d.2.1 d.2.2 3).bind fun e => (numberF a e.2.1 e.2.2 3).bind fun g => some (⟨b.2.2, d.1, e.1, g.1⟩, g.2.1, g.2.2)
theorem tasks_step (a : ByteArray) (k : Nat) (c p : Int) (T : List S39) (h1 : c > 0) (h2 : T.length < 1000000 ∧ c < 1000000000000) : tasksL a (k + 1) c p 0 T = (taskL a k p 0).bind fun t => tasksL a k (wrap64 (c - 1)) t.2.1 t.2.2 (T ++ [t.1]) := by
  rw [tasksL, if_pos h1, if_pos rfl, if_pos h2]
  unfold taskL
  simp only [Option.bind_assoc, Option.bind_some]
theorem task_end_bad (a : ByteArray) (p e : Int) (he : e ≠ 0) (L : List Int) : ((numberF a p e 1).bind fun d => (numberF a d.2.1 d.2.2 3).bind fun e => (numberF a e.2.1 e.2.2 3).bind fun g => some ((⟨L, d.1, e.1, g.1⟩ : S39), g.2.1, g.2.2)) = some (⟨L, 0, 0, 0⟩, p, e) := by
  rw [num_bad a p e 1 he, Option.bind_some, num_bad a p e 3 he, Option.bind_some, num_bad a p e 3 he, Option.bind_some]
theorem task_ok (a : ByteArray) (hs : a.size ≤ 5000) (m k : Nat) (hm : m ≤ a.size) (hk : 300 ≤ k) :
    (pTask (at_ a m) = none ∧ ∃ t q, taskL a k (m : Int) 0 = some (t, q, 3)) ∨ (∃ (m' : Nat) (t : S39), m' ≤ a.size ∧ pTask (at_ a m) = some (t, at_ a m') ∧ taskL a k (m : Int) 0 = some (t, (m' : Int), 0)) := by
  unfold taskL pTask
  obtain ⟨k', hk'⟩ : ∃ q, k = q + 1 := ⟨k - 1, by omega⟩
  rcases num_ok a hs m 1 hm (by omega) (by omega) with ⟨h1, h2⟩ | ⟨h1, x, h2, h3, h4, h5⟩
  · left
    rw [show ((1 : Nat) : Int) = 1 from rfl] at h2
    rw [h1, h2, Option.bind_some]
    simp only
    rw [hk', needs_stop a k' _ _ _ (by simp), Option.bind_some]
    simp only
    rw [task_end_bad a _ _ (by simp)]
    exact ⟨rfl, _, _, rfl⟩
  rw [show ((1 : Nat) : Int) = 1 from rfl] at h5
  rw [h5, h4, Option.bind_some, Option.bind_some]
  simp only
  obtain ⟨c, rfl⟩ : ∃ n : Nat, x = n := ⟨x.toNat, by omega⟩
  rw [Int.toNat_natCast]
  rcases needs_ok a hs c (m + 1) k [] h1 (by omega) (by omega) (by simp; omega) with ⟨g1, q, L', g2⟩ | ⟨m2, L, g1, g2, g3⟩
  · left
    rw [g1, g2, Option.bind_some]
    simp only
    rw [task_end_bad a _ _ (by simp)]
    exact ⟨rfl, _, _, rfl⟩
  rw [g2, g3, Option.bind_some, Option.bind_some, List.nil_append]
  simp only
  rcases num_ok a hs m2 1 g1 (by omega) (by omega) with ⟨h1, h2⟩ | ⟨h1, d, h2, h3, h4, h5⟩
  · left
    rw [show ((1 : Nat) : Int) = 1 from rfl] at h2
    rw [h1, h2, Option.bind_some]
    simp only
    rw [num_bad a _ _ 3 (by simp), Option.bind_some, num_bad a _ _ 3 (by simp), Option.bind_some]
    exact ⟨rfl, _, _, rfl⟩
  rw [show ((1 : Nat) : Int) = 1 from rfl] at h5
  rw [h5, h4, Option.bind_some, Option.bind_some]
  simp only
  rcases num_ok a hs (m2 + 1) 3 h1 (by omega) (by omega) with ⟨i1, i2⟩ | ⟨i1, e, i2, i3, i4, i5⟩
  · left
    rw [show ((3 : Nat) : Int) = 3 from rfl] at i2
    rw [i1, i2, Option.bind_some]
    simp only
    rw [num_bad a _ _ 3 (by simp), Option.bind_some]
    exact ⟨rfl, _, _, rfl⟩
  rw [show ((3 : Nat) : Int) = 3 from rfl] at i5
  rw [i5, i4, Option.bind_some, Option.bind_some]
  simp only
  rcases num_ok a hs (m2 + 1 + 3) 3 i1 (by omega) (by omega) with ⟨j1, j2⟩ | ⟨j1, g, j2, j3, j4, j5⟩
  · left
    rw [show ((3 : Nat) : Int) = 3 from rfl] at j2
    rw [j1, j2, Option.bind_some]
    exact ⟨rfl, _, _, rfl⟩
  right
  rw [show ((3 : Nat) : Int) = 3 from rfl] at j5
  rw [j5, j4]
  exact ⟨m2 + 1 + 3 + 3, _, j1, rfl, rfl⟩
theorem tasks_ok (a : ByteArray) (hs : a.size ≤ 5000) : ∀ (c m k : Nat) (T : List S39), m ≤ a.size → c ≤ 255 → c + 302 ≤ k → T.length + c ≤ 1000 →
    (pTasks c (at_ a m) = none ∧ ∃ q T', tasksL a k (c : Int) (m : Int) 0 T = some (q, 3, T')) ∨
    (∃ (m' : Nat) (T' : List S39), m' ≤ a.size ∧ pTasks c (at_ a m) = some (T', at_ a m') ∧ tasksL a k (c : Int) (m : Int) 0 T = some ((m' : Int), 0, T ++ T')) := by
  intro c
  induction c with
  | zero =>
    intro m k T hm _ hk _
    obtain ⟨k, rfl⟩ : ∃ q, k = q + 1 := ⟨k - 1, by omega⟩
    right
    exact ⟨m, [], hm, rfl, by rw [tasksL, if_neg (by omega), List.append_nil]⟩
  | succ c ih =>
    intro m k T hm hc hk hl
    obtain ⟨k, rfl⟩ : ∃ q, k = q + 2 := ⟨k - 2, by omega⟩
    rw [tasks_step a (k + 1) _ _ T (by omega) ⟨by omega, by omega⟩, pTasks, show wrap64 (((c + 1 : Nat) : Int) - 1) = (c : Int) by rw [w64_in _ (by omega)]; omega]
    rcases task_ok a hs m (k + 1) hm (by omega) with ⟨h1, t, q, h2⟩ | ⟨m1, t, h1, h2, h3⟩
    · left
      rw [h1, h2, Option.bind_some]
      exact ⟨rfl, q, T ++ [t], tasks_stop a k _ _ _ (by simp) _⟩
    · rw [h2, h3, Option.bind_some, Option.bind_some]
      simp only
      rcases ih m1 (k + 1) (T ++ [t]) h1 (by omega) (by omega) (by rw [List.length_append]; simp; omega) with ⟨g1, q, L', g2⟩ | ⟨m', T', g1, g2, g3⟩
      · left
        rw [g1]
        exact ⟨rfl, q, L', g2⟩
      · right
        rw [g2]
        exact ⟨m', t :: T', g1, rfl, by rw [g3]; simp⟩
/-- A graph as it stands in the bytes, and what is behind it. -/
def parse (a : ByteArray) : Option (ByteArray × List S39 × List UInt8) :=
  if (cutOf a 0).2.2 = 0 then (pNum 1 (at_ a (cutOf a 0).2.1.toNat)).bind fun n => (pTasks n.1.toNat n.2).map fun T => ((cutOf a 0).1, T.1, T.2) else none
/-- What both tell of a graph that was read. -/
def rightV (nm : ByteArray) (T : List S39) : Int := (dag_Right.f 1002 nm T).getD 0
def getV (a : ByteArray) : ByteArray × List S39 × Int :=
  match parse a with
  | none => (⟨#[]⟩, [], 3)
  | some (nm, T, r) => if r = [] then (if rightV nm T = 0 then (nm, T, 0) else (⟨#[]⟩, [], rightV nm T)) else (⟨#[]⟩, [], 4)
theorem rightV_of (nm : ByteArray) (T : List S39) (hn : ∀ t ∈ T, t.f0.length ≤ 1000) (k : Nat) (hk : 1002 ≤ k) : dag_Right.f k nm T = some (rightV nm T) := by
  obtain ⟨R, hR, _⟩ := right_any nm T hn
  unfold rightV
  rw [hR k hk, hR 1002 (by omega)]
  rfl
theorem rightV_zero (nm : ByteArray) (T : List S39) (hn : ∀ t ∈ T, t.f0.length ≤ 1000) (h : rightV nm T = 0) : 1 ≤ T.length ∧ T.length ≤ 10 ∧ 1 ≤ nm.size ∧ nm.size ≤ 16 ∧ T.all (taskB (T.length : Int)) = true := by
  obtain ⟨R, hR, hz⟩ := right_any nm T hn
  have := rightV_of nm T hn 1002 (by omega)
  rw [hR 1002 (by omega)] at this
  exact hz (by rw [Option.some.inj this]; exact h)
theorem drop_nil (a : ByteArray) (m : Nat) (hm : m ≤ a.size) : at_ a m = [] ↔ (m : Int) = (a.size : Int) := by
  have hl : (at_ a m).length = a.size - m := by rw [List.length_drop, ← Go.Lib.size_eq]
  rw [← List.length_eq_zero_iff]
  omega
theorem get_f (k : Nat) (hk : 2000 ≤ k) (a : ByteArray) (hs : a.size ≤ 5000) : dag_Get.f k a = some (getV a) := by
  unfold dag_Get.f getV parse
  rw [show P.code_Cut.f a 0 = some (cutOf a 0) from cut_in a hs 0 (by omega), Option.bind_some]
  obtain ⟨k', hk'⟩ : ∃ q, k = q + 1 := ⟨k - 1, by omega⟩
  rcases cut_cases a 0 (by omega) with h1 | ⟨t, ht, hp, h1, _⟩
  · rw [h1]
    simp only
    rw [num_bad a _ _ 1 (by simp), Option.bind_some]
    simp only
    rw [hk', tasks_stop a k' _ _ _ (by simp), Option.bind_some]
    rfl
  rw [h1]
  simp only [if_true]
  rw [Int.toNat_natCast]
  generalize 0 + 2 + t.size = m at *
  rcases num_ok a hs m 1 hp (by omega) (by omega) with ⟨h1, h2⟩ | ⟨h1, x, h2, h3, h4, h5⟩
  · rw [show ((1 : Nat) : Int) = 1 from rfl] at h2
    rw [h1, h2, Option.bind_some]
    simp only
    rw [hk', tasks_stop a k' _ _ _ (by simp), Option.bind_some]
    rfl
  rw [show ((1 : Nat) : Int) = 1 from rfl] at h5
  rw [h5, h4, Option.bind_some, Option.bind_some]
  simp only
  obtain ⟨c, rfl⟩ : ∃ n : Nat, x = n := ⟨x.toNat, by omega⟩
  rw [Int.toNat_natCast]
  rcases tasks_ok a hs c (m + 1) k [] h1 (by omega) (by omega) (by simp; omega) with ⟨g1, q, T', g2⟩ | ⟨m', T, g1, g2, g3⟩
  · rw [g1, g2, Option.bind_some]
    rfl
  rw [g2, g3, Option.bind_some, List.nil_append]
  simp only [Option.map_some, if_true]
  have hn := (tasks_inv _ _ _ _ g2).2.2
  by_cases he : (m' : Int) = (a.size : Int)
  · rw [if_pos he, if_pos ((drop_nil a m' g1).2 he), rightV_of t T (fun y hy => by have := hn y hy; omega) k (by omega), Option.bind_some]
    split <;> rfl
  · rw [if_neg he, if_neg (fun h => he ((drop_nil a m' g1).1 h))]
/-- What is read is as it is put. -/
theorem parse_inv (a nm : ByteArray) (T : List S39) (h : parse a = some (nm, T, [])) : a = mkB (dagB nm T) ∧ ∀ t ∈ T, t.f0.length ≤ 255 := by
  unfold parse at h
  by_cases h0 : (cutOf a 0).2.2 = 0
  case neg => rw [if_neg h0] at h; cases h
  rw [if_pos h0] at h
  rcases cut_cases a 0 (by omega) with h1 | ⟨t, ht, hp, h1, h2⟩
  · rw [h1] at h0; simp at h0
  rw [h1] at h
  simp only at h
  rw [Int.toNat_natCast] at h
  obtain ⟨⟨x, l⟩, h3, h4⟩ := Option.bind_eq_some_iff.1 h
  obtain ⟨⟨T1, r⟩, h5, h6⟩ := Option.map_eq_some_iff.1 h4
  simp only [Prod.mk.injEq] at h6
  obtain ⟨rfl, rfl, rfl⟩ := h6
  obtain ⟨i1, i2⟩ := num1_inv h3
  obtain ⟨j1, j2, j3⟩ := tasks_inv _ _ _ _ h5
  refine ⟨?_, j3⟩
  rw [← mkB_of a]
  congr 1
  rw [List.drop_zero] at h2
  unfold at_ at i1
  simp only at j1
  rw [h2, i1, j1]
  unfold dagB
  rw [j2, Int.toNat_of_nonneg i2.1, List.append_nil]
end Go.Proofs.Ytbgmhcefjggpgaa.Pure
/- A graph's bytes and a graph out of bytes: what the reference writes and reads. -/
namespace Go.Proofs.Ytbgmhcefjggpgaa.Pure
open Go.RowKit Go.Proofs.Ytbgmhcefjggpgaa.X Go.Proofs.YtbgmhcefjggpgaaW.PrintWords Go.Proofs.YtbgmhcefjggpgaaW.PrintLast
set_option linter.unusedVariables false

theorem bt_nat (a : ByteArray) (j : Nat) (h : j < a.data.toList.length) : bt a ((j : Nat) : Int) = (a.data.toList[j]).toNat := by
  unfold bt
  rw [dif_pos (by rw [Int.toNat_natCast, Go.Lib.size_eq]; exact h)]
  simp only [Int.toNat_natCast]
  rfl
theorem pow6' {k : Nat} (h : k ≤ 5) : (256 : Int) ^ k ≤ 1099511627776 := by
  match k, h with
  | 0, _ => decide
  | 1, _ => decide
  | 2, _ => decide
  | 3, _ => decide
  | 4, _ => decide
  | 5, _ => decide
theorem rget_l (a : ByteArray) (hs : a.size ≤ 5000) (m n : Nat) (hn : n ≤ 6) (hm : m + n ≤ a.size) : ∀ k i : Nat, i ≤ n → n - i < k →
    peneloperef01_Get.l0 k a m n (numOf ((a.data.toList.drop m).take i)) i = some (fld a m n, ((m + n : Nat) : Int), 0) := by
  intro k
  induction k with
  | zero => intro i _ h; omega
  | succ k ih =>
    intro i hi hk
    rw [peneloperef01_Get.l0]
    by_cases hlt : i < n
    · have hl : i < (a.data.toList.drop m).length := by rw [List.length_drop, ← Go.Lib.size_eq]; omega
      have hb := numOf_bd (a.data.toList.drop m) i (by omega)
      have hp := pow6' (k := i) (by omega)
      have e1 : wrap64 ((m : Int) + (i : Int)) = ((m + i : Nat) : Int) := by rw [w64_in _ (by omega)]; omega
      have hj : m + i < a.data.toList.length := by rw [← Go.Lib.size_eq]; omega
      have hc := (a.data.toList[m + i]).toNat_lt
      have e2 : numOf ((a.data.toList.drop m).take (i + 1)) = numOf ((a.data.toList.drop m).take i) * 256 + (a.data.toList[m + i]).toNat := by
        rw [List.take_succ_eq_append_getElem hl, numOf_snoc, List.getElem_drop]
      rw [if_pos (by omega), e1, if_pos (by omega), if_pos (by omega), bt_nat a (m + i) hj, w64_in (numOf ((a.data.toList.drop m).take i) * 256) (by omega), w64_in ((a.data.toList[m + i]).toNat : Int) (by omega), w64_in (numOf ((a.data.toList.drop m).take i) * 256 + ((a.data.toList[m + i]).toNat : Int)) (by omega), ← e2, w64_in ((i : Int) + 1) (by omega)]
      exact ih (i + 1) (by omega) (by omega)
    · obtain rfl : i = n := by omega
      rw [if_neg (by omega), w64_in _ (by omega)]
      unfold fld
      congr 3
theorem rget (k : Nat) (hk : 9 ≤ k) (a : ByteArray) (hs : a.size ≤ 5000) (m n : Nat) (h1 : 1 ≤ n) (hn : n ≤ 6) (hm : m ≤ a.size) :
    peneloperef01_Get.f k a m n = some (gv a m n) := by
  obtain ⟨k, rfl⟩ : ∃ q, k = q + 1 := ⟨k - 1, by omega⟩
  unfold peneloperef01_Get.f gv
  rw [if_neg (by omega), if_neg (by omega), if_neg (by omega), peneloperef01_Get.j0, if_neg (by simp; omega), w64_in _ (by omega)]
  by_cases h : a.size < m + n
  · rw [if_pos h, if_pos (by omega)]
  · rw [if_neg h, if_neg (by omega)]
    exact rget_l a hs m n hn (by omega) k 0 (by omega) (by omega)
theorem rcut (k : Nat) (hk : 9 ≤ k) (a : ByteArray) (hs : a.size ≤ 5000) (m : Nat) (hm : m ≤ a.size) : peneloperef01_Cut.f k a (m : Int) = some (cutOf a m) := by
  unfold peneloperef01_Cut.f cutOf
  rw [show peneloperef01_Get.f k a (m : Int) 2 = some (gv a m 2) from rget k hk a hs m 2 (by omega) (by omega) hm, Option.bind_some]
  unfold gv
  by_cases h : a.size < m + 2
  · rw [if_pos h, if_pos h]; rfl
  · rw [if_neg h, if_neg h]
    have hb := fld_bd a m 2 (by omega)
    generalize fld a m 2 = q at *
    obtain ⟨q, rfl⟩ : ∃ n : Nat, q = n := ⟨q.toNat, by omega⟩
    simp only [if_true]
    rw [w64_in _ (by omega), w64_in _ (by omega)]
    by_cases h2 : (a.size : Int) - ((m + 2 : Nat) : Int) < (q : Int)
    · rw [if_pos h2, if_pos h2]
    · rw [if_neg h2, if_neg h2, if_pos (by omega), if_pos (by omega), if_pos (by omega), Int.toNat_natCast]
      rfl
theorem tq {n d : Int} (h0 : 0 ≤ n) (h1 : n < 281474976710656) (hd : 0 < d) : Int.tmod (wrap64 (Int.tdiv n d)) 256 % 256 = n / d % 256 := by
  have e := Int.ediv_nonneg h0 (Int.le_of_lt hd)
  have e2 := Int.ediv_le_self d h0
  rw [Int.tdiv_eq_ediv_of_nonneg h0, w64_in _ (by omega), Int.tmod_eq_emod_of_nonneg e]
  omega
theorem tq1 {n : Int} (h0 : 0 ≤ n) (h1 : n < 281474976710656) : Int.tmod (wrap64 n) 256 % 256 = n % 256 := by
  rw [w64_in _ (by omega), Int.tmod_eq_emod_of_nonneg h0]
  omega
theorem rnum1 (k : Nat) (hk : 14 ≤ k) {n : Int} (h0 : 0 ≤ n) (h1 : n < 256) : peneloperef16_number.f k n 1 = some (mkB [ub n]) := by
  obtain ⟨k, rfl⟩ : ∃ m, k = m + 14 := ⟨k - 14, by omega⟩
  have e : peneloperef01_Put.f (k + 14) n 1 = some (strOfNums [n % 256], 0) := by
    unfold peneloperef01_Put.f
    rw [if_neg (by omega), if_neg (by omega), if_neg (by omega)]
    simp [peneloperef01_Put.j0, peneloperef01_Put.l0, peneloperef01_power.f, peneloperef01_power.l0, w64_in, show ¬ 256 ≤ n by omega, tq1 h0 (show n < 281474976710656 by omega)]
  unfold peneloperef16_number.f
  rw [e, Option.bind_some, show n % 256 = n by omega]
  rfl
theorem rnum3 (k : Nat) (hk : 14 ≤ k) {n : Int} (h0 : 0 ≤ n) (h1 : n < 16777216) : peneloperef16_number.f k n 3 = some (mkB (three n)) := by
  obtain ⟨k, rfl⟩ : ∃ m, k = m + 14 := ⟨k - 14, by omega⟩
  have e : peneloperef01_Put.f (k + 14) n 3 = some (strOfNums [n / 65536 % 256, n / 256 % 256, n % 256], 0) := by
    unfold peneloperef01_Put.f
    rw [if_neg (by omega), if_neg (by omega), if_neg (by omega)]
    simp [peneloperef01_Put.j0, peneloperef01_Put.l0, peneloperef01_power.f, peneloperef01_power.l0, w64_in, show ¬ 16777216 ≤ n by omega, tq1 h0 (show n < 281474976710656 by omega), tq h0 (show n < 281474976710656 by omega)]
  unfold peneloperef16_number.f
  rw [e, Option.bind_some]
  rfl
theorem mkB_sz (a b : List UInt8) : (mkB a).size + (mkB b).size = a.length + b.length := by rw [mkB_size, mkB_size]
theorem ref_l1 (T : List S39) (len : Int) (i : Nat) (L : List Int) {f1 f2 f3 : Int} (hL : ∀ x ∈ L, 0 ≤ x ∧ x < 256) (hl : L.length ≤ 255) (b1 : 0 ≤ f1) (b2 : f1 < 256) (b3 : 0 ≤ f2) (b4 : f2 < 16777216) (b5 : 0 ≤ f3) (b6 : f3 < 16777216) : ∀ m a q (o : List UInt8), a + m = L.length → 20 ≤ q → o.length + m ≤ 80000 →
    peneloperef16_Put.l1 (q + m + 1) (mkB o) T len (i : Int) L (L.length : Int) (a : Int) L f1 f2 f3 = peneloperef16_Put.l0 q (mkB (o ++ ((L.drop a).map ub ++ (ub f1 :: (three f2 ++ three f3))))) T len (wrap64 ((i : Int) + 1)) := by
  intro m
  induction m with
  | zero =>
    intro a q o ha hq ho
    rw [peneloperef16_Put.l1, if_neg (by omega), rnum1 _ (by omega) b1 b2, Option.bind_some, if_pos (by rw [mkB_sz]; simp; omega), rnum3 _ (by omega) b3 b4, Option.bind_some, mkB_app, if_pos (by rw [mkB_sz]; simp [three]; omega), rnum3 _ (by omega) b5 b6, Option.bind_some, mkB_app, if_pos (by rw [mkB_sz]; simp [three]; omega), mkB_app, List.drop_eq_nil_of_le (by omega)]
    simp
  | succ m ih =>
    intro a q o ha hq ho
    have hx := hL L[a] (List.getElem_mem (by omega))
    rw [show q + (m + 1) + 1 = (q + m + 1) + 1 by omega, peneloperef16_Put.l1, if_pos (by omega), if_pos (by omega), if_pos (by omega), rd_nat L a (by omega), rnum1 _ (by omega) hx.1 hx.2, Option.bind_some, if_pos (by rw [mkB_sz]; simp; omega), mkB_app, wi a (by omega), ih (a + 1) q _ (by omega) hq (by rw [List.length_append]; simp; omega), List.drop_eq_getElem_cons (show a < L.length by omega)]
    simp only [List.map_cons, List.append_assoc, List.cons_append, List.nil_append]
theorem ref_l0 (T : List S39) (hT : ∀ t ∈ T, byT t) (hl : T.length ≤ 255) : ∀ m i k (o : List UInt8), i + m = T.length → 300 * m + 30 ≤ k → o.length + 300 * m ≤ 79000 → peneloperef16_Put.l0 k (mkB o) T (T.length : Int) (i : Int) = some (mkB (o ++ (T.drop i).flatMap taskBy)) := by
  intro m
  induction m with
  | zero =>
    intro i k o hi hk ho
    obtain ⟨k, rfl⟩ : ∃ q, k = q + 1 := ⟨k - 1, by omega⟩
    rw [peneloperef16_Put.l0, if_neg (by omega), List.drop_eq_nil_of_le (by omega)]
    simp
  | succ m ih =>
    intro i k o hi hk ho
    have hiT : i < T.length := by omega
    obtain ⟨h1, h2, h3, h4, h5, h6, h7, h8⟩ := hT T[i] (List.getElem_mem hiT)
    obtain ⟨k, rfl⟩ : ∃ q, k = (q + T[i].f0.length + 1) + 1 := ⟨k - T[i].f0.length - 2, by omega⟩
    rw [peneloperef16_Put.l0, if_pos (by omega), if_pos (by omega), if_pos (by omega), rdT hiT, rnum1 _ (by omega) (by omega) (by omega), Option.bind_some, if_pos (by rw [mkB_sz]; simp; omega), mkB_app]
    have e := ref_l1 T (T.length : Int) i T[i].f0 h2 h1 h3 h4 h5 h6 h7 h8 T[i].f0.length 0 k (o ++ [ub (T[i].f0.length : Int)]) (by omega) (by omega) (by rw [List.length_append]; simp; omega)
    rw [show ((0 : Nat) : Int) = 0 from rfl] at e
    rw [e, wi i (by omega), ih (i + 1) k _ (by omega) (by omega) (by simp [three]; omega), List.drop_eq_getElem_cons hiT, List.drop_zero, List.flatMap_cons]
    simp [taskBy]
theorem ref_put (nm : ByteArray) (T : List S39) (k : Nat) (hk : 4000 ≤ k) (hl : T.length ≤ 10) (hn : nm.size ≤ 16) (hT : ∀ t ∈ T, byT t) : peneloperef16_Put.f k nm T = some (mkB (dagB nm T)) := by
  have e0 : peneloperef01_Text.f nm = some (mkB (txt nm), 0) := by
    unfold peneloperef01_Text.f
    rw [if_neg (by omega), Option.bind_some, show (nm.size : Int) / 256 % 256 = (nm.size : Int) / 256 % 256 from rfl, strTwo, if_pos (by rw [mkB_size]; simp [two]; omega)]
    have := mkB_app (two (nm.size : Int)) nm.data.toList
    rw [mkB_of] at this
    rw [this]
    rfl
  unfold peneloperef16_Put.f
  rw [e0, Option.bind_some, rnum1 k (by omega) (by omega) (by omega), Option.bind_some, if_pos (by rw [mkB_sz, txt_len]; simp; omega), mkB_app]
  have := ref_l0 T hT (by omega) T.length 0 k (txt nm ++ [ub (T.length : Int)]) (by omega) (by omega) (by rw [List.length_append, txt_len]; simp; omega)
  rw [show ((0 : Nat) : Int) = 0 from rfl] at this
  rw [this, List.drop_zero]
  simp [dagB]
end Go.Proofs.Ytbgmhcefjggpgaa.Pure
/- A graph out of bytes: what the reference's reading comes to. -/
namespace Go.Proofs.Ytbgmhcefjggpgaa.Pure
open Go.RowKit Go.Proofs.Ytbgmhcefjggpgaa.X Go.Proofs.YtbgmhcefjggpgaaW.PrintWords Go.Proofs.YtbgmhcefjggpgaaW.PrintLast
set_option linter.unusedVariables false

theorem rnext_ok (k : Nat) (hk : 9 ≤ k) (a : ByteArray) (hs : a.size ≤ 5000) (m n : Nat) (hm : m ≤ a.size) (h1 : 1 ≤ n) (h6 : n ≤ 6) :
    (pNum n (at_ a m) = none ∧ peneloperef16_R_Next.f k a (m : Int) 0 (n : Int) = some (0, a, 0, 3)) ∨
    (m + n ≤ a.size ∧ ∃ x : Int, 0 ≤ x ∧ x < 256 ^ n ∧ pNum n (at_ a m) = some (x, at_ a (m + n)) ∧ peneloperef16_R_Next.f k a (m : Int) 0 (n : Int) = some (x, a, ((m + n : Nat) : Int), 0)) := by
  have e : peneloperef16_R_Next.f k a (m : Int) 0 (n : Int) = some ((gv a m n).1, a, (gv a m n).2.1, (gv a m n).2.2) := by
    unfold peneloperef16_R_Next.f
    rw [if_pos rfl, rget k hk a hs m n h1 h6 hm, Option.bind_some]
  rw [e]
  rcases gv_num a m n hm with ⟨h2, h3⟩ | ⟨h2, x, h3, h4, h5, h6⟩
  · left; exact ⟨h2, by rw [h3]⟩
  · right; exact ⟨h2, x, h3, h4, h5, by rw [h6]⟩
theorem rnext_bad (k : Nat) (a : ByteArray) (p e n : Int) (he : e ≠ 0) : peneloperef16_R_Next.f k a p e n = some (0, a, p, e) := by
  unfold peneloperef16_R_Next.f
  rw [if_neg he]
theorem rread_stop (k : Nat) (n i : Int) (a : ByteArray) (p e : Int) (he : e ≠ 0) (nm : ByteArray) (T : List S39) : peneloperef16_R_Read.l0 (k + 2) n i a p e nm T = some (nm, T, a, p, e) := by
  rw [peneloperef16_R_Read.l0]
  have hb : (e == 0) = false := beq_eq_false_iff_ne.mpr he
  by_cases h : i < n
  · rw [if_pos h, hb, peneloperef16_R_Read.j1, if_neg (by simp)]
  · rw [if_neg h, peneloperef16_R_Read.j1, if_neg (by simp)]
/-- What is behind a task's needs. -/
def tailR (q : Nat) (n i p e : Int) (a nm : ByteArray) (T : List S39) (L : List Int) : Option (ByteArray × List S39 × ByteArray × Int × Int) :=
  (peneloperef16_R_Next.f q a p e 1).bind fun b => (peneloperef16_R_Next.f q b.2.1 b.2.2.1 b.2.2.2 3).bind fun c => (peneloperef16_R_Next.f q c.2.1 c.2.2.1 c.2.2.2 3).bind fun d =>
    if T.length < 2932031007402 then peneloperef16_R_Read.l0 q n (wrap64 (i + 1)) d.2.1 d.2.2.1 d.2.2.2 nm (T ++ [⟨L, b.1, c.1, d.1⟩]) else none
theorem tail_bad (q : Nat) (n i p e : Int) (he : e ≠ 0) (a nm : ByteArray) (T : List S39) (hT : T.length ≤ 1000) (L : List Int) : ∃ T', tailR (q + 2) n i p e a nm T L = some (nm, T', a, p, e) := by
  unfold tailR
  rw [rnext_bad _ _ _ _ _ he, Option.bind_some]
  simp only
  rw [rnext_bad _ _ _ _ _ he, Option.bind_some]
  simp only
  rw [rnext_bad _ _ _ _ _ he, Option.bind_some, if_pos (by omega)]
  exact ⟨_, rread_stop q _ _ a p e he nm _⟩
theorem rl1_end (q : Nat) (n i c j p e : Int) (h : ¬ (j < c) ∨ e ≠ 0) (a nm : ByteArray) (T : List S39) (L : List Int) (f1 f2 f3 : Int) : peneloperef16_R_Read.l1 (q + 1) n i c j a p e nm T L f1 f2 f3 = tailR q n i p e a nm T L := by
  rw [peneloperef16_R_Read.l1]
  unfold tailR
  by_cases h1 : j < c
  · rw [if_pos h1, if_neg (by rcases h with h | h; exact absurd h1 h; exact h)]
  · rw [if_neg h1]
theorem rneeds (a : ByteArray) (hs : a.size ≤ 5000) (n i : Int) (nm : ByteArray) (T : List S39) (hT : T.length ≤ 1000) (c : Nat) (hc : c ≤ 255) : ∀ (r j m q : Nat) (L : List Int), j + r = c → m ≤ a.size → 20 ≤ q → L.length + r ≤ 1000 →
    (pNeeds r (at_ a m) = none ∧ ∃ p T', peneloperef16_R_Read.l1 (q + r + 1) n i (c : Int) (j : Int) a (m : Int) 0 nm T L 0 0 0 = some (nm, T', a, p, 3)) ∨
    (∃ (m' : Nat) (L' : List Int), m' ≤ a.size ∧ pNeeds r (at_ a m) = some (L', at_ a m') ∧ peneloperef16_R_Read.l1 (q + r + 1) n i (c : Int) (j : Int) a (m : Int) 0 nm T L 0 0 0 = tailR q n i (m' : Int) 0 a nm T (L ++ L')) := by
  intro r
  induction r with
  | zero =>
    intro j m q L hj hm hq hl
    right
    exact ⟨m, [], hm, rfl, by rw [Nat.add_zero, rl1_end q n i _ _ _ _ (.inl (by omega)), List.append_nil]⟩
  | succ r ih =>
    intro j m q L hj hm hq hl
    rw [show q + (r + 1) + 1 = (q + r + 1) + 1 by omega, peneloperef16_R_Read.l1, if_pos (by omega), if_pos rfl, pNeeds]
    rcases rnext_ok (q + r + 1) (by omega) a hs m 1 hm (by omega) (by omega) with ⟨h1, h2⟩ | ⟨h1, x, h2, h3, h4, h5⟩
    · left
      rw [show ((1 : Nat) : Int) = 1 from rfl] at h2
      rw [h1, h2, Option.bind_some, if_pos (by omega)]
      simp only
      rw [rl1_end (q + r) n i _ _ _ _ (.inr (by simp))]
      obtain ⟨T', hT'⟩ := tail_bad (q + r - 2) n i 0 3 (by simp) a nm T hT (L ++ [0])
      rw [show q + r - 2 + 2 = q + r by omega] at hT'
      exact ⟨rfl, 0, T', hT'⟩
    · rw [show ((1 : Nat) : Int) = 1 from rfl] at h5
      rw [h5, h4, Option.bind_some, Option.bind_some, if_pos (by omega)]
      simp only
      rw [show wrap64 ((j : Int) + 1) = ((j + 1 : Nat) : Int) by rw [w64_in _ (by omega)]; omega]
      rcases ih (j + 1) (m + 1) q (L ++ [x]) (by omega) h1 hq (by rw [List.length_append]; simp; omega) with ⟨g1, p, T', g2⟩ | ⟨m', L', g1, g2, g3⟩
      · left
        rw [g1]
        exact ⟨rfl, p, T', g2⟩
      · right
        rw [g2]
        exact ⟨m', x :: L', g1, rfl, by rw [g3]; simp⟩
theorem rtasks (a : ByteArray) (hs : a.size ≤ 5000) (nm : ByteArray) (n : Nat) (hn : n ≤ 255) : ∀ (c i m k : Nat) (T : List S39), i + c = n → m ≤ a.size → 300 * c + 50 ≤ k → T.length + c ≤ 1000 →
    (pTasks c (at_ a m) = none ∧ ∃ p T', peneloperef16_R_Read.l0 k (n : Int) (i : Int) a (m : Int) 0 nm T = some (nm, T', a, p, 3)) ∨
    (∃ (m' : Nat) (T' : List S39), m' ≤ a.size ∧ pTasks c (at_ a m) = some (T', at_ a m') ∧ peneloperef16_R_Read.l0 k (n : Int) (i : Int) a (m : Int) 0 nm T = some (nm, T ++ T', a, (m' : Int), 0)) := by
  intro c
  induction c with
  | zero =>
    intro i m k T hi hm hk hl
    obtain ⟨k, rfl⟩ : ∃ q, k = q + 2 := ⟨k - 2, by omega⟩
    right
    exact ⟨m, [], hm, rfl, by rw [peneloperef16_R_Read.l0, if_neg (by omega), peneloperef16_R_Read.j1, if_neg (by simp), List.append_nil]⟩
  | succ c ih =>
    intro i m k T hi hm hk hl
    obtain ⟨k, rfl⟩ : ∃ q, k = q + 2 := ⟨k - 2, by omega⟩
    rw [peneloperef16_R_Read.l0, if_pos (by omega), show ((0 : Int) == 0) = true from rfl, peneloperef16_R_Read.j1, if_pos rfl, pTasks]
    unfold pTask
    rcases rnext_ok k (by omega) a hs m 1 hm (by omega) (by omega) with ⟨h1, h2⟩ | ⟨h1, x, h2, h3, h4, h5⟩
    · left
      rw [show ((1 : Nat) : Int) = 1 from rfl] at h2
      rw [h1, h2, Option.bind_some]
      simp only
      obtain ⟨k, rfl⟩ : ∃ q, k = q + 3 := ⟨k - 3, by omega⟩
      rw [rl1_end (k + 2) _ _ _ _ _ _ (.inr (by simp))]
      obtain ⟨T', hT'⟩ := tail_bad k (n : Int) (i : Int) 0 3 (by simp) a nm T (by omega) []
      exact ⟨rfl, 0, T', hT'⟩
    rw [show ((1 : Nat) : Int) = 1 from rfl] at h5
    rw [h5, h4, Option.bind_some, Option.bind_some]
    simp only
    obtain ⟨d, rfl⟩ : ∃ n : Nat, x = n := ⟨x.toNat, by omega⟩
    rw [Int.toNat_natCast]
    obtain ⟨q, rfl⟩ : ∃ q, k = q + d + 1 := ⟨k - d - 1, by omega⟩
    have hd : d ≤ 255 := by omega
    rcases rneeds a hs (n : Int) (i : Int) nm T (by omega) d hd d 0 (m + 1) q [] (by omega) h1 (by omega) (by simp; omega) with ⟨g1, p, T', g2⟩ | ⟨m2, L, g1, g2, g3⟩
    · left
      rw [g1]
      exact ⟨rfl, p, T', g2⟩
    rw [show ((0 : Nat) : Int) = 0 from rfl, List.nil_append] at g3
    rw [g2, g3, Option.bind_some]
    unfold tailR
    simp only
    obtain ⟨q2, hq2⟩ : ∃ q2, q = q2 + 2 := ⟨q - 2, by omega⟩
    rcases rnext_ok q (by omega) a hs m2 1 g1 (by omega) (by omega) with ⟨h1, h2⟩ | ⟨h1, f1, h2, h3, h4, h5⟩
    · left
      rw [show ((1 : Nat) : Int) = 1 from rfl] at h2
      rw [h1, h2, Option.bind_some]
      simp only
      rw [rnext_bad _ _ _ _ _ (by simp), Option.bind_some]
      simp only
      rw [rnext_bad _ _ _ _ _ (by simp), Option.bind_some, if_pos (by omega)]
      simp only
      rw [hq2, rread_stop _ _ _ _ _ _ (by simp)]
      exact ⟨rfl, _, _, rfl⟩
    rw [show ((1 : Nat) : Int) = 1 from rfl] at h5
    rw [h5, h4, Option.bind_some, Option.bind_some]
    simp only
    rcases rnext_ok q (by omega) a hs (m2 + 1) 3 h1 (by omega) (by omega) with ⟨i1, i2⟩ | ⟨i1, f2, i2, i3, i4, i5⟩
    · left
      rw [show ((3 : Nat) : Int) = 3 from rfl] at i2
      rw [i1, i2, Option.bind_some]
      simp only
      rw [rnext_bad _ _ _ _ _ (by simp), Option.bind_some, if_pos (by omega)]
      simp only
      rw [hq2, rread_stop _ _ _ _ _ _ (by simp)]
      exact ⟨rfl, _, _, rfl⟩
    rw [show ((3 : Nat) : Int) = 3 from rfl] at i5
    rw [i5, i4, Option.bind_some, Option.bind_some]
    simp only
    rcases rnext_ok q (by omega) a hs (m2 + 1 + 3) 3 i1 (by omega) (by omega) with ⟨j1, j2⟩ | ⟨j1, f3, j2, j3, j4, j5⟩
    · left
      rw [show ((3 : Nat) : Int) = 3 from rfl] at j2
      rw [j1, j2, Option.bind_some, if_pos (by omega)]
      simp only
      rw [hq2, rread_stop _ _ _ _ _ _ (by simp)]
      exact ⟨rfl, _, _, rfl⟩
    rw [show ((3 : Nat) : Int) = 3 from rfl] at j5
    rw [j5, j4, Option.bind_some, if_pos (by omega)]
    simp only [Option.map_some, Option.bind_some]
    rw [wi i (by omega)]
    rcases ih (i + 1) (m2 + 1 + 3 + 3) q (T ++ [⟨L, f1, f2, f3⟩]) (by omega) j1 (by omega) (by rw [List.length_append]; simp; omega) with ⟨g1, p, T', g2⟩ | ⟨m', T', g1, g2, g3⟩
    · left
      rw [g1]
      exact ⟨rfl, p, T', g2⟩
    · right
      rw [g2]
      exact ⟨m', _ :: T', g1, rfl, by rw [g3]; simp⟩
/-! What the reference tells of a graph that was read. -/
theorem shaped_g (n : Int) (T : List S39) (hT : ∀ t ∈ T, t.f0.length ≤ 255) (hl : T.length ≤ 20) : ∀ m i k, i + m = T.length → 258 * m + 1 ≤ k → peneloperef16_shaped.l0 k n T (T.length : Int) (i : Int) = some ((T.drop i).all (taskB n)) := by
  intro m
  induction m with
  | zero =>
    intro i k hi hk
    obtain ⟨k, rfl⟩ : ∃ q, k = q + 1 := ⟨k - 1, by omega⟩
    rw [peneloperef16_shaped.l0, if_neg (by omega), List.drop_eq_nil_of_le (by omega)]
    rfl
  | succ m ih =>
    intro i k hi hk
    have hiT : i < T.length := by omega
    have ht := hT T[i] (List.getElem_mem hiT)
    obtain ⟨k, rfl⟩ : ∃ q, k = (q + T[i].f0.length + 1) + 1 := ⟨k - T[i].f0.length - 2, by omega⟩
    rw [peneloperef16_shaped.l0, if_pos (by omega), if_pos (by omega), if_pos (by omega), rdT (by omega), show (0 : Int) = ((0 : Nat) : Int) from rfl, shaped_l1 n T _ _ T[i] (by omega) T[i].f0.length 0 k (-1) (by omega) (.inl ⟨rfl, rfl⟩), List.drop_zero, wi i (by omega), ih (i + 1) k (by omega) (by omega), List.drop_eq_getElem_cons (show i < T.length by omega), List.all_cons]
    unfold taskB
    cases ascB n (-1) T[i].f0 && numsB T[i] <;> simp
theorem ref_right (nm : ByteArray) (T : List S39) (hn : ∀ t ∈ T, t.f0.length ≤ 255) (k : Nat) (hk : 6000 ≤ k) : peneloperef16_Right.f k nm T = some (rightV nm T) := by
  by_cases h : T.all (taskB (T.length : Int)) = true ∧ 1 ≤ T.length ∧ T.length ≤ 10
  · obtain ⟨h5, h1, h2⟩ := h
    obtain ⟨R, hR, hR2⟩ := right_both nm T (fun t ht => by have := (task_by (by omega) h1 (List.all_eq_true.1 h5 t ht)).2; omega) (by omega)
    have e := rightV_of nm T (fun t ht => by have := hn t ht; omega) 1002 (by omega)
    rw [hR 1002 (by omega)] at e
    rw [hR2 k (by omega), Option.some.inj e]
  · have e := rightV_of nm T (fun t ht => by have := hn t ht; omega) 1002 (by omega)
    rw [← e]
    unfold dag_Right.f peneloperef16_Right.f peneloperef16_shaped.f
    by_cases h1 : 10 < T.length
    · rw [if_pos h1, if_pos (by omega)]
    rw [if_neg h1, if_neg (by omega)]
    obtain ⟨k, rfl⟩ : ∃ q, k = q + 1 := ⟨k - 1, by omega⟩
    by_cases h2 : T.length < 1
    · rw [if_pos h2, if_pos (by omega), peneloperef16_shaped.j0, if_pos rfl]; rfl
    rw [if_neg h2, if_neg (by omega)]
    by_cases h3 : nm.size < 1
    · rw [if_pos h3, if_pos (by omega), peneloperef16_shaped.j0, if_pos rfl]; rfl
    rw [if_neg h3, if_neg (by omega)]
    by_cases h4 : 16 < nm.size
    · rw [if_pos h4, peneloperef16_shaped.j0, if_pos (by simp; omega)]; rfl
    rw [if_neg h4, peneloperef16_shaped.j0, if_neg (by simp; omega)]
    have e5 := shaped_g (T.length : Int) T hn (by omega) T.length 0 k (by omega) (by omega)
    rw [List.drop_zero, show ((0 : Nat) : Int) = 0 from rfl] at e5
    cases h5 : T.all (taskB (T.length : Int)) with
    | true => exact absurd ⟨h5, by omega, by omega⟩ h
    | false =>
      rw [anyT_g _ 1002 (by omega) T (fun t ht => by have := hn t ht; omega), h5, e5, h5]
      rfl
theorem rget_f (k : Nat) (hk : 90000 ≤ k) (a : ByteArray) (hs : a.size ≤ 5000) : peneloperef16_Get.f k a = some (getV a) := by
  unfold peneloperef16_Get.f peneloperef16_R_Read.f peneloperef16_R_Text.f getV parse
  rw [if_pos rfl, show peneloperef01_Cut.f k a 0 = some (cutOf a 0) from rcut k (by omega) a hs 0 (by omega), Option.bind_some, Option.bind_some]
  obtain ⟨k', hk'⟩ : ∃ q, k = q + 2 := ⟨k - 2, by omega⟩
  rcases cut_cases a 0 (by omega) with h1 | ⟨t, ht, hp, h1, _⟩
  · rw [h1]
    simp only
    rw [rnext_bad _ _ _ _ _ (by simp), Option.bind_some]
    simp only
    rw [hk', rread_stop _ _ _ _ _ _ (by simp), Option.bind_some]
    rfl
  rw [h1]
  simp only [if_true]
  rw [Int.toNat_natCast]
  generalize 0 + 2 + t.size = m at *
  rcases rnext_ok k (by omega) a hs m 1 hp (by omega) (by omega) with ⟨h1, h2⟩ | ⟨h1, x, h2, h3, h4, h5⟩
  · rw [show ((1 : Nat) : Int) = 1 from rfl] at h2
    rw [h1, h2, Option.bind_some]
    simp only
    rw [hk', rread_stop _ _ _ _ _ _ (by simp), Option.bind_some]
    rfl
  rw [show ((1 : Nat) : Int) = 1 from rfl] at h5
  rw [h5, h4, Option.bind_some, Option.bind_some]
  simp only
  obtain ⟨c, rfl⟩ : ∃ n : Nat, x = n := ⟨x.toNat, by omega⟩
  rw [Int.toNat_natCast]
  rcases rtasks a hs t c (by omega) c 0 (m + 1) k [] (by omega) h1 (by omega) (by simp; omega) with ⟨g1, q, T', g2⟩ | ⟨m', T, g1, g2, g3⟩
  · rw [show ((0 : Nat) : Int) = 0 from rfl] at g2
    rw [g1, g2, Option.bind_some]
    rfl
  rw [show ((0 : Nat) : Int) = 0 from rfl] at g3
  rw [g2, g3, Option.bind_some, List.nil_append]
  simp only [Option.map_some, if_true]
  have hn := (tasks_inv _ _ _ _ g2).2.2
  by_cases he : (m' : Int) = (a.size : Int)
  · rw [if_pos he, if_pos ((drop_nil a m' g1).2 he), ref_right t T hn k (by omega), Option.bind_some]
    split <;> rfl
  · rw [if_neg he, if_neg (fun h => he ((drop_nil a m' g1).1 h))]
end Go.Proofs.Ytbgmhcefjggpgaa.Pure
namespace Go.Proofs.Ytbgmhcefjggpgaa.Pure
open Go.RowKit Go.Proofs.Ytbgmhcefjggpgaa.X Go.Proofs.YtbgmhcefjggpgaaW.PrintWords Go.Proofs.YtbgmhcefjggpgaaW.PrintLast
set_option linter.unusedVariables false

theorem like_l (nm nm' : ByteArray) (T : List S39) (hl : T.length ≤ 1000) (hT : ∀ t ∈ T, t.f0.length ≤ 1000) : ∀ m i k, i + m = T.length → m + 1010 ≤ k → peneloperef16_Like.l0 k T (T.length : Int) (i : Int) nm T = some true := by
  intro m
  induction m with
  | zero =>
    intro i k hi hk
    obtain ⟨k, rfl⟩ : ∃ q, k = q + 1 := ⟨k - 1, by omega⟩
    rw [peneloperef16_Like.l0, if_neg (by omega)]
  | succ m ih =>
    intro i k hi hk
    obtain ⟨k, rfl⟩ : ∃ q, k = q + 1 := ⟨k - 1, by omega⟩
    rw [peneloperef16_Like.l0, if_pos (by omega), if_pos (by omega), if_pos (by omega), if_pos (by omega), rdT (show i < T.length by omega), same_self k (by omega) _ (hT _ (List.getElem_mem _)), Option.bind_some, if_pos rfl, if_pos rfl, if_pos rfl, if_pos rfl, wi i (by omega)]
    exact ih (i + 1) k (by omega) (by omega)
theorem like_self (k : Nat) (hk : 2020 ≤ k) (nm : ByteArray) (T : List S39) (hl : T.length ≤ 1000) (hT : ∀ t ∈ T, t.f0.length ≤ 1000) : peneloperef16_Like.f k nm T nm T = some true := by
  unfold peneloperef16_Like.f
  obtain ⟨k, rfl⟩ : ∃ q, k = q + 1 := ⟨k - 1, by omega⟩
  rw [if_pos rfl, show ((T.length : Int) != (T.length : Int)) = false by simp, peneloperef16_Like.j0, if_neg (by simp)]
  exact like_l nm nm T hl hT T.length 0 k (by omega) (by omega)
theorem put_bad (nm : ByteArray) (T : List S39) (k : Nat) (R : Int) (hR : dag_Right.f k nm T = some R) (h : R ≠ 0) : dag_Put.f k nm T = some (⟨#[]⟩, R) := by
  unfold dag_Put.f
  rw [hR, Option.bind_some, if_neg h]
theorem getV_cases (a : ByteArray) : (∃ nm T, getV a = (nm, T, 0) ∧ parse a = some (nm, T, []) ∧ rightV nm T = 0) ∨ ∃ e, e ≠ 0 ∧ getV a = (⟨#[]⟩, [], e) := by
  unfold getV
  cases h : parse a with
  | none => exact .inr ⟨3, by simp, rfl⟩
  | some x =>
    obtain ⟨nm, T, r⟩ := x
    simp only
    by_cases h1 : r = []
    · subst h1
      rw [if_pos rfl]
      by_cases h2 : rightV nm T = 0
      · rw [if_pos h2]; exact .inl ⟨nm, T, rfl, rfl, h2⟩
      · rw [if_neg h2]; exact .inr ⟨_, h2, rfl⟩
    · rw [if_neg h1]; exact .inr ⟨4, by simp, rfl⟩
theorem cut2000 (a : ByteArray) : 0 ≤ mn (a.size : Int) 2000 ∧ mn (a.size : Int) 2000 ≤ a.size ∧ (a.extract 0 (mn (a.size : Int) 2000).toNat).size ≤ 5000 := by
  have h : 0 ≤ mn (a.size : Int) 2000 ∧ mn (a.size : Int) 2000 ≤ a.size ∧ mn (a.size : Int) 2000 ≤ 2000 := by
    unfold mn
    split <;> omega
  refine ⟨h.1, h.2.1, ?_⟩
  rw [ByteArray.size_extract]
  omega
theorem bytes_j (k : Nat) (hk : 3000 ≤ k) (e : Int) (nm : ByteArray) (T : List S39) (hl : T.length ≤ 1000) (hT : ∀ t ∈ T, t.f0.length ≤ 1000) : penelopelaw16_DagBytes.j0 k e e false nm T nm T = some true := by
  obtain ⟨k, rfl⟩ : ∃ q, k = q + 1 := ⟨k - 1, by omega⟩
  rw [penelopelaw16_DagBytes.j0, if_neg (by simp), alive_f k (by omega), Option.bind_some, if_pos rfl, if_pos rfl, like_self k (by omega) nm T hl hT, Option.bind_some]
theorem getV_small (a : ByteArray) : (getV a).2.1.length ≤ 1000 ∧ ∀ t ∈ (getV a).2.1, t.f0.length ≤ 1000 := by
  rcases getV_cases a with ⟨nm, T, h1, h2, h3⟩ | ⟨e, he, h1⟩
  · obtain ⟨ha, hn⟩ := parse_inv a nm T h2
    have hn' : ∀ t ∈ T, t.f0.length ≤ 1000 := fun t ht => by have := hn t ht; omega
    obtain ⟨c1, c2, c3, c4, c5⟩ := rightV_zero nm T hn' h3
    rw [h1]
    exact ⟨by simp only; omega, hn'⟩
  · rw [h1]; simp
theorem DagBytes : penelopelaw16_DagBytes.Pure := by
  intro x0 a1 _ _
  obtain ⟨nm, T⟩ := x0
  simp only
  refine ⟨100000, ?_⟩
  obtain ⟨hl, hn⟩ := few_ok T
  unfold penelopelaw16_DagBytes.f penelopelaw16_few.f
  rw [Option.bind_some]
  simp only
  generalize (T.take 20).map cutT = T at *
  obtain ⟨m1, m2, m3⟩ := cut2000 a1
  rw [if_pos m1, if_pos m2]
  generalize a1.extract 0 (mn (a1.size : Int) 2000).toNat = s at *
  have hn' : ∀ t ∈ T, t.f0.length ≤ 1000 := fun t ht => by have := hn t ht; omega
  have hr := rightV_of nm T hn' 100000 (by omega)
  have hr2 := ref_right nm T (fun t ht => by have := hn t ht; omega) 100000 (by omega)
  obtain ⟨s1, s2⟩ := getV_small s
  have hj := bytes_j 100000 (by omega) (getV s).2.2 (getV s).1 (getV s).2.1 s1 s2
  rw [get_f 100000 (by omega) s m3, rget_f 100000 (by omega) s m3, hr2]
  by_cases h : rightV nm T = 0
  · obtain ⟨c1, c2, c3, c4, c5⟩ := rightV_zero nm T hn' h
    rw [h] at hr ⊢
    have hT : ∀ t ∈ T, byT t := fun t ht => (task_by (by omega) c1 (List.all_eq_true.1 c5 t ht)).1
    rw [put_f nm T 100000 (by omega) hr c2 c1 c4 c5, ref_put nm T 100000 (by omega) c2 c4 hT]
    simp only [Option.bind_some, if_true]
    exact hj
  · rw [put_bad nm T 100000 _ hr h]
    simp only [Option.bind_some, if_true]
    rw [if_neg h, show ((⟨#[]⟩ : ByteArray).toList != ([] : List UInt8)) = false from by first | rfl | decide | simp]
    exact hj
end Go.Proofs.Ytbgmhcefjggpgaa.Pure
