/- Words and walks for the law RunEnds, joined and made small by a program of mine. -/
import Derived.Test.YtabmkighhmchmaaD3
import Derived.Test.YtabmkighhmchmaaD2
import Derived.Test.YtabmkighhmchmaaD7
import Derived.Test.YtabmkighhmchmaaD8
import Derived.Test.YtabmkighhmchmaaD9
import Derived.Test.YtabmkighhmchmaaD4
import Derived.LoopTactic
import Derived.Outline
import Derived.BigRegion
namespace Go.Proofs.Ytabmkighhmchmaa.Pure
open Go.RowKit Go.Proofs.Ytabmkighhmchmaa.X Go.Proofs.YtabmkighhmchmaaW.PrintWords Go.Proofs.YtabmkighhmchmaaW.PrintLast
set_option linter.unusedVariables false
theorem w64_in (n : Int) (h : -9223372036854775808 ≤ n ∧ n ≤ 9223372036854775807) : wrap64 n = n := by unfold wrap64; omega
theorem rd_nat (l : List Int) (i : Nat) (h : i < l.length) : rd l (i : Int) = l[i] := by simp [rd, List.getD_eq_getElem?_getD, List.getElem?_eq_getElem h]
def ascB (n a0 : Int) : List Int → Bool
 | [] => true
 | x :: xs => decide (a0 < x) && (decide (x < n) && ascB n x xs)
def numsB (t : S49) : Bool := decide (1 ≤ t.f1) && (decide (t.f1 ≤ 8) && (decide (0 ≤ t.f2) && (decide (t.f2 ≤ 1048576) && (decide (1 ≤ t.f3) && decide (t.f3 ≤ 1048576)))))
def taskB (n : Int) (t : S49) : Bool := ascB n (-1) t.f0 && numsB t
theorem task_l (n : Int) (t : S49) (hl : t.f0.length ≤ 1000) : ∀ m i k a0, i + m = t.f0.length → m + 1 ≤ k →
  Fw.l0 k n a0 t.f0 (t.f0.length : Int) (i : Int) t.f0 t.f1 t.f2 t.f3 = some (ascB n a0 (t.f0.drop i) && numsB t) := by
 intro m
 induction m with
 | zero =>
  intro i k a0 hi hk
  obtain ⟨k, rfl⟩ : ∃ q, k = q + 1 := ⟨k - 1, by omega⟩
  rw [Fw.l0, if_neg (by omega), List.drop_eq_nil_of_le (by omega), ascB, Bool.true_and]
  unfold numsB
  by_cases h1 : 1 ≤ t.f1
  case neg => rw [if_neg (by omega)]; simp [h1]
  rw [if_pos (by omega)]
  by_cases h2 : t.f1 ≤ 8
  case neg => rw [if_neg (by omega)]; simp [h2]
  rw [if_pos (by omega)]
  by_cases h3 : 0 ≤ t.f2
  case neg => rw [if_neg (by omega)]; simp [h3]
  rw [if_pos (by omega)]
  by_cases h4 : t.f2 ≤ 1048576
  case neg => rw [if_neg (by omega)]; simp [h4]
  rw [if_pos (by omega)]
  by_cases h5 : 1 ≤ t.f3
  case neg => rw [if_neg (by omega)]; simp [h5]
  rw [if_pos (by omega)]
  simp [h1, h2, h3, h4, h5]
 | succ m ih =>
  intro i k a0 hi hk
  obtain ⟨k, rfl⟩ : ∃ q, k = q + 1 := ⟨k - 1, by omega⟩
  rw [Fw.l0, if_pos (by omega), if_pos (by omega), if_pos (by omega), rd_nat _ _ (by omega), show wrap64 ((i : Int) + 1) = ((i + 1 : Nat) : Int) by rw [w64_in _ (by omega)]; omega, ih (i + 1) k _ (by omega) (by omega), List.drop_eq_getElem_cons (show i < t.f0.length by omega), ascB]
  generalize t.f0[i]'(by omega) = x
  by_cases h1 : a0 < x
  case neg => rw [if_pos (by omega)]; simp [h1]
  rw [if_neg (by omega)]
  by_cases h2 : x < n
  case neg => rw [if_pos (by omega)]; simp [h2]
  rw [if_neg (by omega)]
  simp [h1, h2]
theorem task_f (n : Int) (t : S49) (hl : t.f0.length ≤ 20) (k : Nat) (hk : 22 ≤ k) : Fw.f k t.f0 t.f1 t.f2 t.f3 n = some (taskB n t) := by
 unfold Fw.f taskB
 rw [show (0 : Int) = ((0 : Nat) : Int) from rfl, task_l n t (by omega) t.f0.length 0 k (-1) (by omega) (by omega), List.drop_zero]
theorem anyT_f (n : Int) (k : Nat) (hk : 22 ≤ k) : ∀ l : List S49, (∀ t ∈ l, t.f0.length ≤ 20) → anyT k n l = some (!(l.all (taskB n)))
 | [], _ => rfl
 | t :: ts, h => by
  rw [anyT, task_f n t (h t (by simp)) k hk, Option.bind_some, anyT_f n k hk ts (fun y hy => h y (by simp [hy])), List.all_cons]
  cases taskB n t <;> simp
theorem asc_mem {n : Int} : ∀ {l : List Int} {last : Int}, ascB n last l = true → ∀ x ∈ l, last < x ∧ x < n
 | [], last, _, x, hx => by simp at hx
 | y :: l, last, h, x, hx => by
  rw [ascB] at h
  simp only [Bool.and_eq_true, decide_eq_true_eq] at h
  rcases List.mem_cons.1 hx with rfl | hx
  ·
   exact ⟨h.1, h.2.1⟩
  have := asc_mem h.2.2 x hx
  omega
def inB (n : Nat) (T : List S49) : Prop := ∀ t ∈ T, t.f0.length ≤ 20 ∧ ∀ x ∈ t.f0, 0 ≤ x ∧ x < (n : Int)
def doneB (D : List Bool) (x : Int) : Bool := rdOf false D x
def canB (D : List Bool) (t : S49) (i : Nat) : Bool := !(doneB D (i : Int)) && t.f0.all (doneB D)
def freeV (D : List Bool) : List S49 → Nat → List Int
 | [], _ => []
 | t :: ts, i => if canB D t i = true then (i : Int) :: freeV D ts (i + 1) else freeV D ts (i + 1)
theorem any_ok (D : List Bool) : ∀ l : List Int, (∀ x ∈ l, 0 ≤ x ∧ x < (D.length : Int)) → anyO (openF D) l = some (!(l.all (doneB D)))
 | [], _ => rfl
 | x :: l, h => by
  rw [anyO, openF, if_pos (h x (by simp)), Option.bind_some, any_ok D l (fun y hy => h y (by simp [hy])), List.all_cons]
  unfold doneB
  cases rdOf false D x <;> simp
theorem free_ok (D : List Bool) : ∀ (T : List S49) (i : Nat), inB D.length T → i + T.length ≤ D.length → freeL D T i = some (freeV D T i)
 | [], i, _, _ => rfl
 | t :: ts, i, h, hi => by
  simp only [List.length_cons] at hi
  have ht := h t (by simp)
  have ho : openF D (i : Int) = some (!(rdOf false D (i : Int))) := by unfold openF; rw [if_pos ⟨by omega, by omega⟩]
  have ha : anyF (openF D) t.f0 = some (!(t.f0.all (doneB D))) := by
   have := ht.1
   unfold anyF
   rw [if_pos (by omega), any_ok D t.f0 ht.2]
  rw [freeL, ho, Option.bind_some, ha, Option.bind_some, free_ok D ts (i + 1) (fun y hy => h y (by simp [hy])) (by omega), freeV]
  unfold canB
  rw [show doneB D (i : Int) = rdOf false D (i : Int) from rfl]
  cases rdOf false D (i : Int) <;> cases t.f0.all (doneB D) <;> simp
theorem free_mem (D : List Bool) : ∀ (T : List S49) (i : Nat) (x : Int), x ∈ freeV D T i → ∃ j : Nat, x = ((i + j : Nat) : Int) ∧ ∃ h : j < T.length, canB D T[j] (i + j) = true
 | [], i, x, h => by simp [freeV] at h
 | t :: ts, i, x, h => by
  have a0 : x ∈ freeV D ts (i + 1) → ∃ j : Nat, x = ((i + j : Nat) : Int) ∧ ∃ h : j < (t :: ts).length, canB D (t :: ts)[j] (i + j) = true := by
   intro hx
   obtain ⟨j, e, hj, hc⟩ := free_mem D ts (i + 1) x hx
   exact ⟨j + 1, by rw [e]; omega, by simp; omega, by rw [show i + (j + 1) = i + 1 + j by omega]; exact hc⟩
  rw [freeV] at h
  by_cases hc : canB D t i = true
  ·
   rw [if_pos hc] at h
   rcases List.mem_cons.1 h with rfl | h
   ·
    exact ⟨0, rfl, by simp, hc⟩
   exact a0 h
  rw [if_neg hc] at h
  exact a0 h
theorem free_f (k : Nat) (T : List S49) (D : List Bool) (hT : inB T.length T) (hD : D.length = T.length) (hl : T.length ≤ 20) : F5.f k T D = some (freeV D T 0) := by
 unfold F5.f
 rw [if_pos (by omega), free_ok D T 0 (by rw [hD]; exact hT) (by omega)]
def OrdOf (T : List S49) : List Bool → List Int → Prop
 | D, [] => freeV D T 0 = []
 | D, x :: xs => (∃ l, freeV D T 0 = x :: l) ∧ OrdOf T (D.set x.toNat true) xs
theorem rdOf_nat (D : List Bool) (j : Nat) (h : j < D.length) : rdOf false D (j : Int) = D[j] := by simp [rdOf, List.getD_eq_getElem?_getD, List.getElem?_eq_getElem h]
theorem count_set_lt {D : List Bool} {j : Nat} (h : j < D.length) (hf : D[j] = false) : (D.set j true).count false + 1 = D.count false := by
 have h1 := List.count_set (a := true) (b := false) h
 rw [hf] at h1
 have h2 : 0 < D.count false := List.count_pos_iff.2 (by rw [← hf]; exact List.getElem_mem h)
 simp at h1
 omega
theorem order_ex (T : List S49) (hT : inB T.length T) (hl : T.length ≤ 20) : ∀ (c : Nat) (D : List Bool), D.length = T.length → D.count false = c → ∃ a1, a1.length ≤ c ∧ OrdOf T D a1 ∧ ∀ k a2, c < k → a2.length + c ≤ 1000 → Ft.l0 k T D a2 = some (a2 ++ a1) := by
 intro c
 induction c with
 | zero =>
  intro D hD hc
  have a3 : freeV D T 0 = [] := by
   cases h : freeV D T 0 with
   | nil => rfl
   | cons x l =>
    exfalso
    obtain ⟨j, e, hj, a0⟩ := free_mem D T 0 x (by rw [h]; simp)
    unfold canB doneB at a0
    simp only [Nat.zero_add, Bool.and_eq_true, Bool.not_eq_true'] at a0
    have h1 := a0.1
    rw [rdOf_nat D j (by omega)] at h1
    have h2 : 0 < D.count false := List.count_pos_iff.2 (by rw [← h1]; exact List.getElem_mem _)
    omega
  refine ⟨[], by simp, a3, fun k a2 hk _ => ?_⟩
  obtain ⟨k, rfl⟩ : ∃ q, k = q + 1 := ⟨k - 1, by omega⟩
  rw [Ft.l0, free_f k T D hT hD hl, Option.bind_some, a3]
  simp
 | succ c ih =>
  intro D hD hc
  cases h : freeV D T 0 with
  | nil =>
   refine ⟨[], by simp, h, fun k a2 hk _ => ?_⟩
   obtain ⟨k, rfl⟩ : ∃ q, k = q + 1 := ⟨k - 1, by omega⟩
   rw [Ft.l0, free_f k T D hT hD hl, Option.bind_some, h]
   simp
  | cons x l =>
   obtain ⟨j, e, hj, a0⟩ := free_mem D T 0 x (by rw [h]; simp)
   unfold canB doneB at a0
   simp only [Nat.zero_add, Bool.and_eq_true, Bool.not_eq_true'] at a0
   have h1 := a0.1
   rw [rdOf_nat D j (by omega)] at h1
   have h2 := count_set_lt (by omega) h1
   have ex : x.toNat = j := by omega
   obtain ⟨a1, r1, r2, r3⟩ := ih (D.set j true) (by rw [List.length_set]; exact hD) (by omega)
   refine ⟨x :: a1, by simp; omega, ⟨⟨l, h⟩, by rw [ex]; exact r2⟩, fun k a2 hk ho => ?_⟩
   obtain ⟨k, rfl⟩ : ∃ q, k = q + 1 := ⟨k - 1, by omega⟩
   have a4 : rd (x :: l) 0 = x := rfl
   rw [Ft.l0, free_f k T D hT hD hl, Option.bind_some, h, if_neg (by simp; omega), if_pos (by simp), a4, if_pos (by omega), if_pos (by omega), if_pos (by omega), ex, r3 k (a2 ++ [x]) (by omega) (by rw [List.length_append]; simp; omega)]
   simp
theorem right_ex (nm : ByteArray) (T : List S49) (hn : ∀ t ∈ T, t.f0.length ≤ 20) (hl : T.length ≤ 20) : ∃ R a0, (∀ k, 100 ≤ k → Fu.f k nm T = some R) ∧
  (R = 0 → inB T.length T ∧ 1 ≤ T.length ∧ T.length ≤ 10 ∧ a0.length = T.length ∧ OrdOf T (List.replicate T.length false) a0 ∧ ∀ k, 100 ≤ k → Ft.f k T = some a0) := by
 unfold Fu.f
 by_cases h1 : 10 < T.length
 ·
  exact ⟨2, [], fun k hk => by rw [if_pos h1], fun h => by simp at h⟩
 by_cases h2 : T.length < 1
 ·
  exact ⟨1, [], fun k hk => by rw [if_neg h1, if_pos h2], fun h => by simp at h⟩
 by_cases h3 : nm.size < 1
 ·
  exact ⟨1, [], fun k hk => by rw [if_neg h1, if_neg h2, if_pos h3], fun h => by simp at h⟩
 by_cases h4 : 16 < nm.size
 ·
  exact ⟨1, [], fun k hk => by rw [if_neg h1, if_neg h2, if_neg h3, if_pos h4], fun h => by simp at h⟩
 cases h5 : T.all (taskB (T.length : Int)) with
 | false => exact ⟨1, [], fun k hk => by rw [if_neg h1, if_neg h2, if_neg h3, if_neg h4, anyT_f _ k (by omega) T hn, h5]; rfl, fun h => by simp at h⟩
 | true =>
  have hT : inB T.length T := by
   intro t ht
   refine ⟨hn t ht, fun x hx => ?_⟩
   have h6 := List.all_eq_true.1 h5 t ht
   unfold taskB at h6
   simp only [Bool.and_eq_true] at h6
   have := asc_mem h6.1 x hx
   omega
  obtain ⟨a0, o1, o2, o3⟩ := order_ex T hT hl T.length (List.replicate T.length false) (by simp) (by simp)
  have a1 : ∀ k, 100 ≤ k → Ft.f k T = some a0 := by
   intro k hk
   unfold Ft.f
   rw [if_pos (by omega), if_pos (by omega), Int.toNat_natCast, o3 k [] (by omega) (by simp; omega), List.nil_append]
  by_cases h6 : a0.length < T.length
  ·
   exact ⟨160, a0, fun k hk => by rw [if_neg h1, if_neg h2, if_neg h3, if_neg h4, anyT_f _ k (by omega) T hn, h5, Option.bind_some, if_neg (by simp), a1 k hk, Option.bind_some, if_pos h6], fun h => by simp at h⟩
  exact ⟨0, a0, fun k hk => by rw [if_neg h1, if_neg h2, if_neg h3, if_neg h4, anyT_f _ k (by omega) T hn, h5, Option.bind_some, if_neg (by simp), a1 k hk, Option.bind_some, if_neg h6], fun _ => ⟨hT, by omega, by omega, by omega, o2, a1⟩⟩
def g (M : List Bool) (x : Nat) : Bool := M.getD x false
theorem rdOf_g (M : List Bool) (x : Nat) : rdOf false M (x : Int) = g M x := by simp [rdOf, g]
theorem g_set (M : List Bool) (j x : Nat) (h : j < M.length) : g (M.set j true) x = (decide (j = x) || g M x) := by
 unfold g
 rw [List.getD_eq_getElem?_getD, List.getD_eq_getElem?_getD, List.getElem?_set]
 by_cases e : j = x
 ·
  subst e
  rw [if_pos rfl, if_pos h]
  simp
 rw [if_neg e]
 simp [e]
def markL (M : List Bool) : List Int → List Bool
 | [] => M
 | x :: xs => markL (M.set x.toNat true) xs
def roundL : List S49 → Nat → List Bool → List Bool
 | [], _, M => M
 | t :: ts, i, M => roundL ts (i + 1) (if g M i = true then markL M t.f0 else M)
def roundsL (T : List S49) : Nat → List Bool → List Bool
 | 0, M => M
 | r + 1, M => roundsL T r (roundL T 0 M)
def needs (T : List S49) (i : Nat) : List Int := (T.getD i z49).f0
def reachL (T : List S49) (i : Nat) : List Bool := roundsL T T.length (markL (List.replicate T.length false) (needs T i))
theorem mark_len : ∀ (L : List Int) (M : List Bool), (markL M L).length = M.length
 | [], M => rfl
 | x :: L, M => by rw [markL, mark_len L, List.length_set]
theorem mark_iff : ∀ (L : List Int) (M : List Bool), (∀ x ∈ L, 0 ≤ x ∧ x < (M.length : Int)) → ∀ x, g (markL M L) x = true ↔ (g M x = true ∨ ((x : Nat) : Int) ∈ L)
 | [], M, _, x => by simp [markL]
 | y :: L, M, h, x => by
  have hy := h y (by simp)
  rw [markL, mark_iff L (M.set y.toNat true) (fun z hz => by rw [List.length_set]; exact h z (by simp [hz])) x, g_set M y.toNat x (by omega)]
  simp only [Bool.or_eq_true, decide_eq_true_eq, List.mem_cons]
  constructor
  ·
   rintro ((e | e) | e)
   ·
    exact .inr (.inl (by omega))
   ·
    exact .inl e
   exact .inr (.inr e)
  rintro (e | e | e)
  ·
   exact .inl (.inr e)
  ·
   exact .inl (.inl (by omega))
  exact .inr e
theorem round_len : ∀ (T : List S49) (i : Nat) (M : List Bool), (roundL T i M).length = M.length
 | [], i, M => rfl
 | t :: T, i, M => by
  rw [roundL, round_len T]
  split
  ·
   exact mark_len _ _
  rfl
theorem rounds_len (T : List S49) : ∀ (r : Nat) (M : List Bool), (roundsL T r M).length = M.length
 | 0, M => rfl
 | r + 1, M => by rw [roundsL, rounds_len T r, round_len]
theorem round_keep (n : Nat) : ∀ (T : List S49) (i : Nat) (M : List Bool), M.length = n → (∀ t ∈ T, ∀ x ∈ t.f0, 0 ≤ x ∧ x < (n : Int)) → ∀ x, g M x = true → g (roundL T i M) x = true
 | [], i, M, _, _, x, h => h
 | t :: T, i, M, hM, hT, x, h => by
  rw [roundL]
  have ht := hT t (by simp)
  refine round_keep n T (i + 1) _ ?_ (fun u hu => hT u (by simp [hu])) x ?_
  ·
   split
   ·
    rw [mark_len]; exact hM
   exact hM
  split
  ·
   exact (mark_iff t.f0 M (by rw [hM]; exact ht) x).2 (.inl h)
  exact h
theorem round_need (n : Nat) : ∀ (T : List S49) (i : Nat) (M : List Bool), M.length = n → (∀ t ∈ T, ∀ x ∈ t.f0, 0 ≤ x ∧ x < (n : Int)) → ∀ (j : Nat) (hj : j < T.length), g M (i + j) = true → ∀ x : Nat, (x : Int) ∈ T[j].f0 → g (roundL T i M) x = true
 | [], i, M, _, _, j, hj, _, _, _ => by simp at hj
 | t :: T, i, M, hM, hT, j, hj, h, x, hx => by
  rw [roundL]
  have ht := hT t (by simp)
  cases j with
  | zero =>
   rw [Nat.add_zero] at h
   rw [if_pos h]
   exact round_keep n T (i + 1) _ (by rw [mark_len]; exact hM) (fun u hu => hT u (by simp [hu])) x ((mark_iff t.f0 M (by rw [hM]; exact ht) x).2 (.inr hx))
  | succ j =>
   refine round_need n T (i + 1) _ ?_ (fun u hu => hT u (by simp [hu])) j (by simpa using hj) ?_ x hx
   ·
    split
    ·
     rw [mark_len]; exact hM
    exact hM
   rw [show i + 1 + j = i + (j + 1) by omega]
   split
   ·
    exact (mark_iff t.f0 M (by rw [hM]; exact ht) _).2 (.inl h)
   exact h
theorem round_inv (n : Nat) (P : Nat → Prop) : ∀ (T : List S49) (i : Nat) (M : List Bool), M.length = n → (∀ t ∈ T, ∀ x ∈ t.f0, 0 ≤ x ∧ x < (n : Int)) →
  (∀ (j : Nat) (hj : j < T.length), P (i + j) → ∀ x : Nat, (x : Int) ∈ T[j].f0 → P x) → (∀ x, g M x = true → P x) → ∀ x, g (roundL T i M) x = true → P x
 | [], i, M, _, _, _, h, x, hx => h x hx
 | t :: T, i, M, hM, hT, hP, h, x, hx => by
  rw [roundL] at hx
  have ht := hT t (by simp)
  refine round_inv n P T (i + 1) _ ?_ (fun u hu => hT u (by simp [hu])) (fun j hj hp y hy => hP (j + 1) (by simp; omega) (by rw [show i + (j + 1) = i + 1 + j by omega]; exact hp) y hy) ?_ x hx
  ·
   split
   ·
    rw [mark_len]; exact hM
   exact hM
  intro y hy
  split at hy
  ·
   rename_i hi
   rcases (mark_iff t.f0 M (by rw [hM]; exact ht) y).1 hy with e | e
   ·
    exact h y e
   exact hP 0 (by simp) (h i hi) y e
  exact h y hy
theorem needs_at {T : List S49} {j : Nat} (hj : j < T.length) : needs T j = T[j].f0 := by simp [needs, List.getD_eq_getElem?_getD, List.getElem?_eq_getElem hj]
theorem reach_no (T : List S49) (hT : inB T.length T) (p : Nat → Nat) (hp : ∀ i, i < T.length → ∀ x : Nat, (x : Int) ∈ needs T i → p x < p i) (i : Nat) (hi : i < T.length) : g (reachL T i) i = false := by
 have a0 : ∀ t ∈ T, ∀ x ∈ t.f0, 0 ≤ x ∧ x < (T.length : Int) := fun t ht => (hT t ht).2
 have a1 : ∀ x ∈ needs T i, 0 ≤ x ∧ x < (T.length : Int) := by rw [needs_at hi]; exact a0 _ (List.getElem_mem hi)
 have a3 : ∀ (r : Nat) (M : List Bool), M.length = T.length → (∀ x, g M x = true → p x < p i) → ∀ x, g (roundsL T r M) x = true → p x < p i := by
  intro r
  induction r with
  | zero => intro M _ h x hx; exact h x hx
  | succ r ih =>
   intro M hM h x hx
   rw [roundsL] at hx
   refine ih (roundL T 0 M) (by rw [round_len]; exact hM) ?_ x hx
   refine round_inv T.length (fun x => p x < p i) T 0 M hM a0 (fun j hj a2 y hy => ?_) h
   have := hp j hj y (by rw [needs_at hj]; exact hy)
   simp only [Nat.zero_add] at a2
   omega
 cases h : g (reachL T i) i with
 | false => rfl
 | true =>
  exfalso
  have := a3 T.length _ (by rw [mark_len]; simp) (fun x hx => by
   rcases (mark_iff _ _ (by simpa using a1) x).1 hx with e | e
   ·
    simp [g, List.getD_eq_getElem?_getD, List.getElem?_replicate] at e
    split at e <;> simp at e
   exact hp i hi x e) i h
  omega
def Way (T : List S49) : Nat → Nat → Nat → Prop
 | 0, a, b => a = b
 | l + 1, a, b => ∃ c : Nat, (c : Int) ∈ needs T a ∧ Way T l c b
theorem way_snoc (T : List S49) : ∀ l a b c, Way T l a b → ((c : Nat) : Int) ∈ needs T b → Way T (l + 1) a c
 | 0, a, b, c, h, hc => by
  have h' : a = b := h
  subst h'
  exact ⟨c, hc, rfl⟩
 | l + 1, a, b, c, ⟨d, hd, h⟩, hc => ⟨d, hd, way_snoc T l d b c h hc⟩
theorem way_last (T : List S49) : ∀ l a c, Way T (l + 1) a c → ∃ b, Way T l a b ∧ ((c : Nat) : Int) ∈ needs T b
 | 0, a, c, ⟨d, hd, h⟩ => by
  have h' : d = c := h
  subst h'
  exact ⟨a, rfl, hd⟩
 | l + 1, a, c, ⟨d, hd, h⟩ => by
  obtain ⟨b, hb, hc⟩ := way_last T l d c h
  exact ⟨b, ⟨d, hd, hb⟩, hc⟩
theorem needs_lt {T : List S49} (hT : inB T.length T) {a : Nat} {c : Nat} (h : (c : Int) ∈ needs T a) : a < T.length ∧ c < T.length := by
 by_cases ha : a < T.length
 ·
  rw [needs_at ha] at h
  have := (hT _ (List.getElem_mem ha)).2 _ h
  exact ⟨ha, by omega⟩
 simp [needs, List.getD_eq_getElem?_getD, List.getElem?_eq_none (Nat.le_of_not_lt ha), z49] at h
theorem reach_yes (T : List S49) (hT : inB T.length T) (v : Nat) (hv : v < T.length) (l : Nat) (hl : l ≤ T.length) (hw : Way T (l + 1) v v) : g (reachL T v) v = true := by
 have a2 : ∀ t ∈ T, ∀ x ∈ t.f0, 0 ≤ x ∧ x < (T.length : Int) := fun t ht => (hT t ht).2
 have a7 : ∀ x ∈ needs T v, 0 ≤ x ∧ x < (T.length : Int) := by rw [needs_at hv]; exact a2 _ (List.getElem_mem hv)
 have a0 : ∀ (r : Nat) (M : List Bool), M.length = T.length → ∀ x, g M x = true → g (roundsL T r M) x = true := by
  intro r
  induction r with
  | zero => intro M _ x h; exact h
  | succ r ih => intro M hM x h; exact ih _ (by rw [round_len]; exact hM) x (round_keep T.length T 0 M hM a2 x h)
 have a1 : ∀ (r : Nat) (M : List Bool), M.length = T.length → ∀ b c : Nat, g (roundsL T r M) b = true → (c : Int) ∈ needs T b → g (roundsL T (r + 1) M) c = true := by
  intro r
  induction r with
  | zero =>
   intro M hM b c hb hc
   have a4 := (needs_lt hT hc).1
   exact round_need T.length T 0 M hM a2 b a4 (by rw [Nat.zero_add]; exact hb) c (by rw [← needs_at a4]; exact hc)
  | succ r ih => intro M hM b c hb hc; exact ih (roundL T 0 M) (by rw [round_len]; exact hM) b c hb hc
 have a3 : (markL (List.replicate T.length false) (needs T v)).length = T.length := by rw [mark_len]; simp
 have a8 : ∀ (l : Nat) (x : Nat), Way T (l + 1) v x → g (roundsL T l (markL (List.replicate T.length false) (needs T v))) x = true := by
  intro l
  induction l with
  | zero =>
   intro x hx
   obtain ⟨d, hd, he⟩ := hx
   have a6 : d = x := he
   subst a6
   exact (mark_iff _ _ (by simpa using a7) _).2 (.inr hd)
  | succ l ih =>
   intro x hx
   obtain ⟨b, hb, hc⟩ := way_last T (l + 1) v x hx
   exact a1 l _ a3 b x (ih b hb) hc
 have a5 : ∀ (a r : Nat) (M : List Bool), roundsL T (a + r) M = roundsL T r (roundsL T a M) := by
  intro a
  induction a with
  | zero => intro r M; rw [Nat.zero_add]; rfl
  | succ a ih => intro r M; rw [show a + 1 + r = (a + r) + 1 by omega, roundsL, ih, roundsL]
 unfold reachL
 obtain ⟨d, hd⟩ : ∃ d, T.length = l + d := ⟨T.length - l, by omega⟩
 have h1 := a8 l v hw
 have h2 := a0 d _ (by rw [rounds_len]; exact a3) v h1
 rw [← a5] at h2
 rw [← hd] at h2
 exact h2
theorem pigeon : ∀ (n : Nat) (s : Nat → Nat), (∀ k, k ≤ n → s k < n) → ∃ a b, a < b ∧ b ≤ n ∧ s a = s b := by
 intro n
 induction n with
 | zero => intro s h; have := h 0 (Nat.le_refl _); omega
 | succ n ih =>
  intro s h
  by_cases a0 : ∃ a, a ≤ n ∧ s a = s (n + 1)
  ·
   obtain ⟨a, ha, e⟩ := a0
   exact ⟨a, n + 1, by omega, Nat.le_refl _, e⟩
  have hv := h (n + 1) (Nat.le_refl _)
  obtain ⟨a, b, h1, h2, h3⟩ := ih (fun k => if s k = n then s (n + 1) else s k) (fun k hk => by
   have a1 := h k (by omega)
   have a2 : s k ≠ s (n + 1) := fun e => a0 ⟨k, hk, e⟩
   split
   ·
    rename_i e; omega
   omega)
  refine ⟨a, b, h1, by omega, ?_⟩
  have ha : s a ≠ s (n + 1) := fun e => a0 ⟨a, by omega, e⟩
  have hb : s b ≠ s (n + 1) := fun e => a0 ⟨b, by omega, e⟩
  split at h3 <;> split at h3 <;> omega
theorem free_none (D : List Bool) : ∀ (T : List S49) (i : Nat), freeV D T i = [] → ∀ (j : Nat) (hj : j < T.length), canB D T[j] (i + j) = false
 | [], i, _, j, hj => by simp at hj
 | t :: T, i, h, j, hj => by
  rw [freeV] at h
  by_cases hc : canB D t i = true
  ·
   rw [if_pos hc] at h; cases h
  rw [if_neg hc] at h
  cases j with
  | zero => simpa using hc
  | succ j =>
   have := free_none D T (i + 1) h j (by simpa using hj)
   rw [show i + (j + 1) = i + 1 + j by omega]
   exact this
theorem tr_stuck (T : List S49) (hT : inB T.length T) : ∀ (a1 : List Int) (D : List Bool), D.length = T.length → OrdOf T D a1 → a1.length < D.count false → ∃ D' : List Bool, D'.length = T.length ∧ 0 < D'.count false ∧ freeV D' T 0 = []
 | [], D, hD, h, hlt => ⟨D, hD, by simpa using hlt, h⟩
 | x :: xs, D, hD, h, hlt => by
  rw [OrdOf] at h
  obtain ⟨⟨l, hf⟩, h2⟩ := h
  obtain ⟨j, e, hj, a0⟩ := free_mem D T 0 x (by rw [hf]; simp)
  unfold canB doneB at a0
  simp only [Nat.zero_add, Bool.and_eq_true, Bool.not_eq_true'] at a0 e
  have h1 := a0.1
  rw [rdOf_nat D j (by omega)] at h1
  have h3 := count_set_lt (by omega) h1
  have ex : x.toNat = j := by omega
  rw [ex] at h2
  simp only [List.length_cons] at hlt
  exact tr_stuck T hT xs (D.set j true) (by rw [List.length_set]; exact hD) h2 (by omega)
theorem stuck_cycle (T : List S49) (hT : inB T.length T) (D : List Bool) (hD : D.length = T.length) (hc : 0 < D.count false) (hf : freeV D T 0 = []) : ∃ v, v < T.length ∧ g (reachL T v) v = true := by
 have a0 : ∀ i, i < T.length → g D i = false → ∃ x : Nat, (x : Int) ∈ needs T i ∧ g D x = false := by
  intro i hi hu
  have h1 := free_none D T 0 hf i hi
  unfold canB doneB at h1
  rw [Nat.zero_add, rdOf_g, hu] at h1
  simp only [Bool.not_false, Bool.true_and] at h1
  rw [List.all_eq_false] at h1
  obtain ⟨x, hx, hn⟩ := h1
  have hr := (hT _ (List.getElem_mem hi)).2 x hx
  refine ⟨x.toNat, by rw [needs_at hi, Int.toNat_of_nonneg hr.1]; exact hx, ?_⟩
  rw [← rdOf_g, Int.toNat_of_nonneg hr.1]
  simpa using hn
 obtain ⟨i0, hi0, hu0⟩ : ∃ i, i < T.length ∧ g D i = false := by
  obtain ⟨i, hi, e⟩ := List.mem_iff_getElem.1 (List.count_pos_iff.1 hc)
  exact ⟨i, by omega, by simp [g, List.getD_eq_getElem?_getD, List.getElem?_eq_getElem hi, e]⟩
 have a2 : ∀ i : Nat, ∃ x : Nat, (i < T.length ∧ g D i = false) → ((x : Int) ∈ needs T i ∧ g D x = false) := by
  intro i
  by_cases h : i < T.length ∧ g D i = false
  ·
   obtain ⟨x, h1, h2⟩ := a0 i h.1 h.2
   exact ⟨x, fun _ => ⟨h1, h2⟩⟩
  exact ⟨0, fun hh => absurd hh h⟩
 obtain ⟨f, a4⟩ := Classical.axiomOfChoice a2
 let s : Nat → Nat := fun k => Nat.rec i0 (fun _ r => f r) k
 have hs : ∀ k, s k < T.length ∧ g D (s k) = false := by
  intro k
  induction k with
  | zero => exact ⟨hi0, hu0⟩
  | succ k ih =>
   have := a4 (s k) ih
   exact ⟨(needs_lt hT this.1).2, this.2⟩
 have a1 : ∀ k, ((s (k + 1) : Nat) : Int) ∈ needs T (s k) := fun k => (a4 (s k) (hs k)).1
 have a3 : ∀ d a, Way T d (s a) (s (a + d)) := by
  intro d
  induction d with
  | zero => intro a; rfl
  | succ d ih => intro a; exact way_snoc T d _ _ _ (ih a) (by have := a1 (a + d); exact this)
 obtain ⟨a, b, h1, h2, h3⟩ := pigeon T.length s (fun k _ => (hs k).1)
 refine ⟨s a, (hs a).1, reach_yes T hT (s a) (hs a).1 (b - a - 1) (by omega) ?_⟩
 have := a3 (b - a) a
 rw [show a + (b - a) = b by omega, ← h3, show b - a = b - a - 1 + 1 by omega] at this
 exact this
theorem tr_rank (T : List S49) (hT : inB T.length T) : ∀ (a1 : List Int) (D : List Bool), D.length = T.length → OrdOf T D a1 → a1.length = D.count false → ∃ p : Nat → Nat, ∀ i, i < T.length → g D i = false → ∀ x : Nat, (x : Int) ∈ needs T i → g D x = true ∨ p x < p i
 | [], D, hD, _, hl => by
  refine ⟨fun _ => 0, fun i hi hu => ?_⟩
  exfalso
  have hm : (false : Bool) ∈ D := by
   have e : D[i]'(by omega) = false := by simpa [g, List.getD_eq_getElem?_getD, List.getElem?_eq_getElem (show i < D.length by omega)] using hu
   rw [← e]; exact List.getElem_mem _
  have := List.count_pos_iff.2 hm
  simp at hl
  omega
 | x0 :: xs, D, hD, h, hl => by
  rw [OrdOf] at h
  obtain ⟨⟨l, hf⟩, h2⟩ := h
  obtain ⟨j, e, hj, a0⟩ := free_mem D T 0 x0 (by rw [hf]; simp)
  unfold canB doneB at a0
  simp only [Nat.zero_add, Bool.and_eq_true, Bool.not_eq_true'] at a0 e
  have h1 := a0.1
  rw [rdOf_nat D j (by omega)] at h1
  have h3 := count_set_lt (by omega) h1
  have ex : x0.toNat = j := by omega
  rw [ex] at h2
  simp only [List.length_cons] at hl
  obtain ⟨p, hp⟩ := tr_rank T hT xs (D.set j true) (by rw [List.length_set]; exact hD) h2 (by omega)
  refine ⟨fun i => if i = j then 0 else p i + 1, fun i hi hu x hx => ?_⟩
  by_cases a2 : i = j
  ·
   subst a2
   left
   rw [← rdOf_g]
   rw [needs_at hi] at hx
   exact List.all_eq_true.1 a0.2 _ hx
  have a3 : g (D.set j true) i = false := by rw [g_set D j i (by omega), hu]; simp; omega
  rcases hp i hi a3 x hx with e1 | e1
  ·
   rw [g_set D j x (by omega)] at e1
   simp only [Bool.or_eq_true, decide_eq_true_eq] at e1
   rcases e1 with rfl | e1
   ·
    right; simp [a2]
   exact .inl e1
  right
  simp only [a2, if_false]
  split <;> omega
theorem order_cyc (T : List S49) (hT : inB T.length T) (a1 : List Int) (a2 : a1.length ≤ T.length) (a3 : OrdOf T (List.replicate T.length false) a1) : a1.length < T.length ↔ ∃ v, v < T.length ∧ g (reachL T v) v = true := by
 have a0 : (List.replicate T.length false).count false = T.length := by simp
 constructor
 ·
  intro h
  obtain ⟨D, d1, d2, d3⟩ := tr_stuck T hT a1 _ (by simp) a3 (by rw [a0]; exact h)
  exact stuck_cycle T hT D d1 d2 d3
 rintro ⟨v, hv, hr⟩
 rcases Nat.lt_or_eq_of_le a2 with h | h
 ·
  exact h
 exfalso
 obtain ⟨p, hp⟩ := tr_rank T hT a1 _ (by simp) a3 (by rw [a0]; exact h)
 have a4 := reach_no T hT p (fun i hi x hx => by
  have hu : g (List.replicate T.length false) i = false := by simp [g, List.getD_eq_getElem?_getD, List.getElem?_replicate]; split <;> rfl
  rcases hp i hi hu x hx with e | e
  ·
   simp [g, List.getD_eq_getElem?_getD, List.getElem?_replicate] at e
   split at e <;> simp at e
  exact e) v hv
 rw [a4] at hr
 cases hr
theorem rdT {T : List S49} {i : Nat} (h : i < T.length) : rd_T49 T (i : Int) = T[i] := by simp [rd_T49, List.getD_eq_getElem?_getD, List.getElem?_eq_getElem h]
theorem wi (i : Nat) (h : i < 100000) : wrap64 ((i : Int) + 1) = ((i + 1 : Nat) : Int) := by rw [w64_in _ (by omega)]; omega
theorem shaped_l1 (n : Int) (T : List S49) (a1 a2 : Int) (t : S49) (hl : t.f0.length ≤ 1000) : ∀ m a k a0, a + m = t.f0.length → (a = 0 ∧ a0 = -1 ∨ 0 < a ∧ 0 ≤ a0 ∧ ∃ h : a - 1 < t.f0.length, t.f0[a - 1] = a0) →
  Fd.l1 (k + m + 1) n T a1 a2 t.f0 (t.f0.length : Int) (a : Int) t.f0 t.f1 t.f2 t.f3 = if (ascB n a0 (t.f0.drop a) && numsB t) = true then Fd.l0 k n T a1 (wrap64 (a2 + 1)) else some false := by
 intro m
 induction m with
 | zero =>
  intro a k a0 ha hp
  rw [Nat.add_zero, Fd.l1, if_neg (by omega), List.drop_eq_nil_of_le (by omega), ascB, Bool.true_and]
  unfold numsB
  by_cases h1 : 1 ≤ t.f1
  case neg => rw [if_pos (by omega), if_neg (by simp [h1])]
  rw [if_neg (by omega)]
  by_cases h2 : t.f1 ≤ 8
  case neg => rw [if_pos (by omega), if_neg (by simp [h2])]
  rw [if_neg (by omega)]
  by_cases h3 : 0 ≤ t.f2
  case neg => rw [if_pos (by omega), if_neg (by simp [h3])]
  rw [if_neg (by omega)]
  by_cases h4 : t.f2 ≤ 1048576
  case neg => rw [if_pos (by omega), if_neg (by simp [h4])]
  rw [if_neg (by omega)]
  by_cases h5 : 1 ≤ t.f3
  case neg => rw [if_pos (by omega), if_neg (by simp [h5])]
  rw [if_neg (by omega)]
  by_cases h6 : t.f3 ≤ 1048576
  case neg => rw [if_pos (by omega), if_neg (by simp [h6])]
  rw [if_neg (by omega), if_pos (by simp [h1, h2, h3, h4, h5, h6])]
 | succ m ih =>
  intro a k a0 ha hp
  have hd : t.f0.drop a = t.f0[a]'(by omega) :: t.f0.drop (a + 1) := List.drop_eq_getElem_cons (by omega)
  rw [show k + (m + 1) + 1 = (k + m + 1) + 1 by omega, Fd.l1, if_pos (by omega), if_pos (by omega), if_pos (by omega), rd_nat _ _ (by omega), hd, ascB]
  have hI := fun (hx : 0 ≤ t.f0[a]'(by omega)) => ih (a + 1) k (t.f0[a]'(by omega)) (by omega) (.inr ⟨by omega, hx, by simp; omega, by simp⟩)
  rw [wi a (by omega)]
  by_cases h1 : t.f0[a]'(by omega) < 0
  ·
   rw [if_pos h1, if_neg]
   have : ¬ a0 < t.f0[a]'(by omega) := by rcases hp with ⟨_, e⟩ | ⟨_, e, _⟩ <;> omega
   simp [this]
  rw [if_neg h1]
  by_cases h2 : t.f0[a]'(by omega) ≥ n
  ·
   rw [if_pos h2, if_neg]
   have : ¬ t.f0[a]'(by omega) < n := by omega
   simp [this]
  rw [if_neg h2, hI (by omega)]
  rcases hp with ⟨e1, e2⟩ | ⟨e1, e2, e3, e4⟩
  ·
   rw [if_neg (by omega)]
   have g1 : a0 < t.f0[a]'(by omega) := by omega
   have g2 : t.f0[a]'(by omega) < n := by omega
   simp only [g1, g2, decide_true, Bool.true_and]
  have ew : wrap64 ((a : Int) - 1) = ((a - 1 : Nat) : Int) := by rw [w64_in _ (by omega)]; omega
  rw [if_pos (by omega), ew, if_pos (by omega), if_pos (by omega), rd_nat _ _ e3, e4]
  have g2 : t.f0[a]'(by omega) < n := by omega
  by_cases g1 : a0 < t.f0[a]'(by omega)
  ·
   rw [if_neg (by omega)]
   simp only [g1, g2, decide_true, Bool.true_and]
  rw [if_pos (by omega), if_neg (by simp [g1])]
theorem shaped_l0 (n : Int) (T : List S49) (hT : ∀ t ∈ T, t.f0.length ≤ 20) (hl : T.length ≤ 20) : ∀ m i k, i + m = T.length → 23 * m + 1 ≤ k → Fd.l0 k n T (T.length : Int) (i : Int) = some ((T.drop i).all (taskB n)) := by
 intro m
 induction m with
 | zero =>
  intro i k hi hk
  obtain ⟨k, rfl⟩ : ∃ q, k = q + 1 := ⟨k - 1, by omega⟩
  rw [Fd.l0, if_neg (by omega), List.drop_eq_nil_of_le (by omega)]
  rfl
 | succ m ih =>
  intro i k hi hk
  have a0 : i < T.length := by omega
  have ht := hT T[i] (List.getElem_mem a0)
  obtain ⟨k, rfl⟩ : ∃ q, k = (q + T[i].f0.length + 1) + 1 := ⟨k - T[i].f0.length - 2, by omega⟩
  rw [Fd.l0, if_pos (by omega), if_pos (by omega), if_pos (by omega), rdT (by omega), show (0 : Int) = ((0 : Nat) : Int) from rfl, shaped_l1 n T _ _ T[i] (by omega) T[i].f0.length 0 k (-1) (by omega) (.inl ⟨rfl, rfl⟩), List.drop_zero, wi i (by omega), ih (i + 1) k (by omega) (by omega), List.drop_eq_getElem_cons (show i < T.length by omega), List.all_cons]
  unfold taskB
  cases ascB n (-1) T[i].f0 && numsB T[i] <;> simp
theorem reach_l3 (nm : ByteArray) (T : List S49) (x8 a1 a2 : Int) (a0 : List S49) (L : List Int) (hL : L.length ≤ 1000) : ∀ m a k (M : List Bool), (∀ x ∈ L, 0 ≤ x ∧ x < (M.length : Int)) → a + m = L.length →
  Fc.l3 (k + m + 1) M x8 a0 a1 a2 L (L.length : Int) (a : Int) nm T = Fc.l2 k (markL M (L.drop a)) x8 a0 a1 (wrap64 (a2 + 1)) nm T := by
 intro m
 induction m with
 | zero =>
  intro a k M h ha
  rw [Nat.add_zero, Fc.l3, if_neg (by omega), List.drop_eq_nil_of_le (by omega), markL]
 | succ m ih =>
  intro a k M h ha
  have hx := h L[a] (List.getElem_mem (by omega))
  rw [show k + (m + 1) + 1 = (k + m + 1) + 1 by omega, Fc.l3, if_pos (by omega), if_pos (by omega), if_pos (by omega), rd_nat _ _ (by omega), if_pos hx.1, if_pos hx.2, wi a (by omega), ih (a + 1) k _ (by rw [List.length_set]; exact h) (by omega), List.drop_eq_getElem_cons (show a < L.length by omega), markL]
theorem reach_l2 (nm : ByteArray) (T : List S49) (hT : inB T.length T) (hl : T.length ≤ 20) (x8 : Int) : ∀ m i (M : List Bool), M.length = T.length → i + m = T.length → ∀ k, 23 * m + 1 ≤ k → ∃ k', k - (23 * m + 1) ≤ k' ∧
  Fc.l2 k M x8 T (T.length : Int) (i : Int) nm T = Fc.l1 k' (roundL (T.drop i) i M) (wrap64 (x8 + 1)) nm T := by
 intro m
 induction m with
 | zero =>
  intro i M hM hi k hk
  obtain ⟨k, rfl⟩ : ∃ q, k = q + 1 := ⟨k - 1, by omega⟩
  refine ⟨k, by omega, ?_⟩
  rw [Fc.l2, if_neg (by omega), List.drop_eq_nil_of_le (by omega), roundL]
 | succ m ih =>
  intro i M hM hi k hk
  have a0 : i < T.length := by omega
  have ht := hT T[i] (List.getElem_mem a0)
  obtain ⟨k, rfl⟩ : ∃ q, k = q + 1 := ⟨k - 1, by omega⟩
  rw [Fc.l2, if_pos (by omega), if_pos (by omega), if_pos (by omega), if_pos (by omega), rdOf_g, List.drop_eq_getElem_cons (show i < T.length by omega), roundL]
  cases hg : g M i with
  | false =>
   rw [if_neg (by simp), if_neg (by simp), wi i (by omega)]
   obtain ⟨k', h1, h2⟩ := ih (i + 1) M hM (by omega) k (by omega)
   exact ⟨k', by omega, h2⟩
  | true =>
   rw [if_pos rfl, if_pos rfl, rdT (by omega)]
   obtain ⟨q, rfl⟩ : ∃ q, k = q + T[i].f0.length + 1 := ⟨k - T[i].f0.length - 1, by omega⟩
   rw [show (0 : Int) = ((0 : Nat) : Int) from rfl, reach_l3 nm T x8 _ _ T T[i].f0 (by omega) T[i].f0.length 0 q M (by rw [hM]; exact ht.2) (by omega), List.drop_zero, wi i (by omega)]
   obtain ⟨k', h1, h2⟩ := ih (i + 1) (markL M T[i].f0) (by rw [mark_len]; exact hM) (by omega) q (by omega)
   exact ⟨k', by omega, h2⟩
theorem reach_l1 (nm : ByteArray) (T : List S49) (hT : inB T.length T) (hl : T.length ≤ 10) : ∀ r x8 (M : List Bool), M.length = T.length → x8 + r = T.length → ∀ k, 240 * r + 1 ≤ k → Fc.l1 k M (x8 : Int) nm T = some (roundsL T r M) := by
 intro r
 induction r with
 | zero =>
  intro x8 M hM hi k hk
  obtain ⟨k, rfl⟩ : ∃ q, k = q + 1 := ⟨k - 1, by omega⟩
  rw [Fc.l1, if_neg (by omega), roundsL]
 | succ r ih =>
  intro x8 M hM hi k hk
  obtain ⟨k, rfl⟩ : ∃ q, k = q + 1 := ⟨k - 1, by omega⟩
  obtain ⟨k', h1, h2⟩ := reach_l2 nm T hT (by omega) (x8 : Int) T.length 0 M hM (by omega) k (by omega)
  rw [Fc.l1, if_pos (by omega), show (0 : Int) = ((0 : Nat) : Int) from rfl, h2, List.drop_zero, wi x8 (by omega), ih (x8 + 1) _ (by rw [round_len]; exact hM) (by omega) k' (by omega), roundsL]
theorem reach_l0 (nm : ByteArray) (T : List S49) (L : List Int) (hL : L.length ≤ 1000) : ∀ m a k (M : List Bool), (∀ x ∈ L, 0 ≤ x ∧ x < (M.length : Int)) → a + m = L.length →
  Fc.l0 (k + m + 1) M L (L.length : Int) (a : Int) nm T = Fc.l1 k (markL M (L.drop a)) 0 nm T := by
 intro m
 induction m with
 | zero =>
  intro a k M h ha
  rw [Nat.add_zero, Fc.l0, if_neg (by omega), List.drop_eq_nil_of_le (by omega), markL]
 | succ m ih =>
  intro a k M h ha
  have hx := h L[a] (List.getElem_mem (by omega))
  rw [show k + (m + 1) + 1 = (k + m + 1) + 1 by omega, Fc.l0, if_pos (by omega), if_pos (by omega), if_pos (by omega), rd_nat _ _ (by omega), if_pos hx.1, if_pos hx.2, wi a (by omega), ih (a + 1) k _ (by rw [List.length_set]; exact h) (by omega), List.drop_eq_getElem_cons (show a < L.length by omega), markL]
theorem reach_f (nm : ByteArray) (T : List S49) (hT : inB T.length T) (hl : T.length ≤ 10) (i : Nat) (hi : i < T.length) (k : Nat) (hk : 3000 ≤ k) : Fc.f k nm T (i : Int) = some (reachL T i) := by
 unfold Fc.f reachL
 have ht := hT T[i] (List.getElem_mem hi)
 obtain ⟨q, rfl⟩ : ∃ q, k = q + T[i].f0.length + 1 := ⟨k - T[i].f0.length - 1, by omega⟩
 rw [if_pos (by omega), if_pos (by omega), if_pos (by omega), if_pos (by omega), Int.toNat_natCast, rdT hi, needs_at hi]
 have h0 := reach_l0 nm T T[i].f0 (by omega) T[i].f0.length 0 q (List.replicate T.length false) (by simpa using ht.2) (by omega)
 rw [List.drop_zero] at h0
 rw [show ((0 : Nat) : Int) = 0 from rfl] at h0
 rw [h0]
 exact reach_l1 nm T hT hl T.length 0 _ (by rw [mark_len]; simp) (by omega) q (by omega)
theorem right_l0 (nm : ByteArray) (T : List S49) (hT : inB T.length T) (hl : T.length ≤ 10) : ∀ m i k, i + m = T.length → m + 3001 ≤ k →
  Fh.l0 k (T.length : Int) (i : Int) nm T = some (if (List.range' i m).any (fun j => g (reachL T j) j) = true then 160 else 0) := by
 intro m
 induction m with
 | zero =>
  intro i k hi hk
  obtain ⟨k, rfl⟩ : ∃ q, k = q + 1 := ⟨k - 1, by omega⟩
  rw [Fh.l0, if_neg (by omega)]
  rfl
 | succ m ih =>
  intro i k hi hk
  obtain ⟨k, rfl⟩ : ∃ q, k = q + 1 := ⟨k - 1, by omega⟩
  have a0 : (reachL T i).length = T.length := by unfold reachL; rw [rounds_len, mark_len]; simp
  rw [Fh.l0, if_pos (by omega), reach_f nm T hT hl i (by omega) k (by omega), Option.bind_some, if_pos (by omega), if_pos (by omega), rdOf_g, wi i (by omega), ih (i + 1) k (by omega) (by omega), List.range'_succ, List.any_cons]
  cases g (reachL T i) i
  ·
   rw [if_neg (by simp), Bool.false_or]
  simp
theorem right_both (nm : ByteArray) (T : List S49) (hn : ∀ t ∈ T, t.f0.length ≤ 20) (hl : T.length ≤ 20) : ∃ R, (∀ k, 100 ≤ k → Fu.f k nm T = some R) ∧ (∀ k, 4000 ≤ k → Fh.f k nm T = some R) := by
 unfold Fu.f Fh.f Fd.f
 by_cases h1 : 10 < T.length
 ·
  exact ⟨2, fun k hk => by rw [if_pos h1], fun k hk => by rw [if_pos (by omega)]⟩
 by_cases h2 : T.length < 1
 ·
  refine ⟨1, fun k hk => by rw [if_neg h1, if_pos h2], fun k hk => ?_⟩
  obtain ⟨k, rfl⟩ : ∃ q, k = q + 1 := ⟨k - 1, by omega⟩
  rw [if_neg (by omega), if_pos (by omega), Fd.j0, if_pos rfl]; rfl
 by_cases h3 : nm.size < 1
 ·
  refine ⟨1, fun k hk => by rw [if_neg h1, if_neg h2, if_pos h3], fun k hk => ?_⟩
  obtain ⟨k, rfl⟩ : ∃ q, k = q + 1 := ⟨k - 1, by omega⟩
  rw [if_neg (by omega), if_neg (by omega), if_pos (by omega), Fd.j0, if_pos rfl]; rfl
 by_cases h4 : 16 < nm.size
 ·
  refine ⟨1, fun k hk => by rw [if_neg h1, if_neg h2, if_neg h3, if_pos h4], fun k hk => ?_⟩
  obtain ⟨k, rfl⟩ : ∃ q, k = q + 1 := ⟨k - 1, by omega⟩
  rw [if_neg (by omega), if_neg (by omega), if_neg (by omega), Fd.j0, if_pos (by simp; omega)]; rfl
 have a5 : ∀ k, 4000 ≤ k → Fd.j0 k (T.length : Int) (decide ((nm.size : Int) > 16)) nm T = some (T.all (taskB (T.length : Int))) := by
  intro k hk
  obtain ⟨k, rfl⟩ : ∃ q, k = q + 1 := ⟨k - 1, by omega⟩
  rw [Fd.j0, if_neg (by simp; omega)]
  have := shaped_l0 (T.length : Int) T hn hl T.length 0 k (by omega) (by omega)
  rw [List.drop_zero] at this
  exact this
 cases h5 : T.all (taskB (T.length : Int)) with
 | false =>
  exact ⟨1, fun k hk => by rw [if_neg h1, if_neg h2, if_neg h3, if_neg h4, anyT_f _ k (by omega) T hn, h5]; rfl, fun k hk => by rw [if_neg (by omega), if_neg (by omega), if_neg (by omega), a5 k hk, h5]; rfl⟩
 | true =>
  have hT : inB T.length T := by
   intro t ht
   refine ⟨hn t ht, fun x hx => ?_⟩
   have h6 := List.all_eq_true.1 h5 t ht
   unfold taskB at h6
   simp only [Bool.and_eq_true] at h6
   have := asc_mem h6.1 x hx
   omega
  obtain ⟨a2, o1, o2, o3⟩ := order_ex T hT hl T.length (List.replicate T.length false) (by simp) (by simp)
  have a3 : ∀ k, 100 ≤ k → Ft.f k T = some a2 := by
   intro k hk
   unfold Ft.f
   rw [if_pos (by omega), if_pos (by omega), Int.toNat_natCast, o3 k [] (by omega) (by simp; omega), List.nil_append]
  have a1 := order_cyc T hT a2 o1 o2
  have a4 : ∀ k, 4000 ≤ k → Fh.l0 k (T.length : Int) 0 nm T = some (if (List.range' 0 T.length).any (fun j => g (reachL T j) j) = true then 160 else 0) := by
   intro k hk
   have := right_l0 nm T hT (by omega) T.length 0 k (by omega) (by omega)
   exact this
  have a0 : (List.range' 0 T.length).any (fun j => g (reachL T j) j) = true ↔ ∃ v, v < T.length ∧ g (reachL T v) v = true := by
   rw [List.any_eq_true]
   constructor
   ·
    rintro ⟨v, hv, e⟩
    rw [List.mem_range'_1] at hv
    exact ⟨v, by omega, e⟩
   rintro ⟨v, hv, e⟩
   exact ⟨v, by rw [List.mem_range'_1]; omega, e⟩
  refine ⟨if a2.length < T.length then 160 else 0, fun k hk => ?_, fun k hk => ?_⟩
  ·
   rw [if_neg h1, if_neg h2, if_neg h3, if_neg h4, anyT_f _ k (by omega) T hn, h5, Option.bind_some, if_neg (by simp), a3 k hk, Option.bind_some]
   split <;> rfl
  rw [if_neg (by omega), if_neg (by omega), if_neg (by omega), a5 k hk, h5, Option.bind_some, if_pos rfl, a4 k hk]
  by_cases h6 : a2.length < T.length
  ·
   rw [if_pos h6, if_pos (a0.2 (a1.1 h6))]
  rw [if_neg h6, if_neg (fun e => h6 (a1.2 (a0.1 e)))]
def openB (xs : List S51) : Bool := hasB 0 xs || (hasB 1 xs || hasB 2 xs)
def stB (ts : List S49) (xs : List S51) (j : Nat) : Bool := decide (RightP (rd_T49 ts (j : Int)).f1 (rd_T51 xs (j : Int)).f0 (rd_T51 xs (j : Int)).f1 (rd_T51 xs (j : Int)).f2 (rd_T51 xs (j : Int)).f3 (rd_T51 xs (j : Int)).f4)
def tokAt (xs : List S51) (j a : Nat) : Bool := decide (0 < (rd_T51 xs (j : Int)).f3) && ((xs.take j).drop a).any fun y => decide (y.f3 = (rd_T51 xs (j : Int)).f3)
def waitB (ts : List S49) (xs : List S51) (j : Nat) : Bool := decide ((rd_T51 xs (j : Int)).f0 = 5) || (decide ((rd_T51 xs (j : Int)).f0 = 0) != readyB ts xs j)
def okB (ts : List S49) (xs : List S51) (j : Nat) : Bool := stB ts xs j && (!(tokAt xs j 0) && waitB ts xs j)
def allOk (ts : List S49) (xs : List S51) (i m : Nat) : Bool := (List.range' i m).all (okB ts xs)
def fitsB (is : Int) (xs : List S51) : Bool :=
 if (!(openB xs) && (!(hasB 4 xs) && !(hasB 5 xs))) = true then is == 1
 else if hasB 4 xs = true then (if is = 2 then !(openB xs) else false)
 else if openB xs = true then (if is = 0 then !(hasB 5 xs) else false) else is == 3
def runB (ky : ByteArray) (ts : List S49) (is : Int) (xs : List S51) : Bool :=
 decide (1 ≤ ky.size) && (decide (ky.size ≤ 16) && (decide (xs.length = ts.length) && (fitsB is xs && allOk ts xs 0 xs.length)))
theorem allOk_succ (ts : List S49) (xs : List S51) (i m : Nat) : allOk ts xs i (m + 1) = (okB ts xs i && allOk ts xs (i + 1) m) := by
 unfold allOk
 rw [List.range'_succ, List.all_cons]
theorem open_f (k : Nat) (ky nm : ByteArray) (ts : List S49) (is : Int) (xs : List S51) (hl : xs.length ≤ 1000) (hk : xs.length < k) : Fp.f k ky nm ts is xs = some (openB xs) := by
 unfold Fp.f openB
 rw [has_f k ky nm ts is xs 0 hl hk, has_f k ky nm ts is xs 1 hl hk, has_f k ky nm ts is xs 2 hl hk]
 cases hasB 0 xs <;> cases hasB 1 xs <;> cases hasB 2 xs <;> rfl
theorem fits_f (k : Nat) (ky nm : ByteArray) (ts : List S49) (is : Int) (xs : List S51) (hl : xs.length ≤ 1000) (hk : xs.length + 1 < k) : Fm.f k ky nm ts is xs = some (fitsB is xs) := by
 have hj : ∀ b, Fm.j0 k b ky nm ts is xs = some (if b = true then is == 1
 else if hasB 4 xs = true then (if is = 2 then !(openB xs) else false)
 else if openB xs = true then (if is = 0 then !(hasB 5 xs) else false) else is == 3) := by
  obtain ⟨k, rfl⟩ : ∃ q, k = q + 1 := ⟨k - 1, by omega⟩
  intro b
  rw [Fm.j0, has_f k ky nm ts is xs 4 hl (by omega), has_f k ky nm ts is xs 5 hl (by omega), open_f k ky nm ts is xs hl (by omega)]
  simp only [Option.bind_some]
  repeat' split
  all_goals first | rfl | contradiction
 unfold Fm.f fitsB
 rw [open_f k ky nm ts is xs hl (by omega), has_f k ky nm ts is xs 4 hl (by omega), has_f k ky nm ts is xs 5 hl (by omega)]
 simp only [Option.bind_some, hj]
 cases openB xs <;> cases hasB 4 xs <;> cases hasB 5 xs <;> rfl
theorem ref_right_j3 (ky nm : ByteArray) (ts : List S49) (is : Int) (xs : List S51) (h : Wf ts xs.length) (i k K : Nat) (V : Bool) (b : Bool) (hi : i < xs.length) (hk : K + 1 ≤ k) (a0 : 30 ≤ k)
  (hn : ∀ q, K ≤ q → Fb.l0 q xs (xs.length : Int) ((i + 1 : Nat) : Int) ky nm ts is xs = some V) :
  Fb.j3 k (i : Int) xs (xs.length : Int) (i : Int) b ky nm ts is xs (rd_T51 xs (i : Int)).f0 (rd_T51 xs (i : Int)).f1 (rd_T51 xs (i : Int)).f2 (rd_T51 xs (i : Int)).f3 (rd_T51 xs (i : Int)).f4
   = some (if b = true then false else if (rd_T51 xs (i : Int)).f0 = 0 then V else if (rd_T51 xs (i : Int)).f0 = 5 then V else if readyB ts xs i = true then V else false) := by
 have h2 := h.2.1
 obtain ⟨k, rfl⟩ : ∃ q, k = q + 1 := ⟨k - 1, by omega⟩
 rw [Fb.j3, wrap_nat i (by omega), hn k (by omega), isready_f k ky nm ts is xs h i hi (by omega), Option.bind_some]
 repeat' split
 all_goals first | rfl | contradiction
theorem ref_right_l1 (ky nm : ByteArray) (ts : List S49) (is : Int) (xs : List S51) (h : Wf ts xs.length) (i K : Nat) (V : Bool) (hi : i < xs.length)
  (hn : ∀ q, K ≤ q → Fb.l0 q xs (xs.length : Int) ((i + 1 : Nat) : Int) ky nm ts is xs = some V) : ∀ m a k, a + m = i → K + m + 40 ≤ k →
  Fb.l1 k (i : Int) (a : Int) xs (xs.length : Int) (i : Int) ky nm ts is xs (rd_T51 xs (i : Int)).f0 (rd_T51 xs (i : Int)).f1 (rd_T51 xs (i : Int)).f2 (rd_T51 xs (i : Int)).f3 (rd_T51 xs (i : Int)).f4
   = some (!(tokAt xs i a) && (waitB ts xs i && V)) := by
 have h2 := h.2.1
 intro m
 induction m with
 | zero =>
  intro a k ha hk
  obtain ⟨k, rfl⟩ : ∃ q, k = q + 1 := ⟨k - 1, by omega⟩
  have ht : tokAt xs i a = false := by unfold tokAt; rw [List.drop_eq_nil_of_le (by rw [List.length_take]; omega)]; simp
  rw [Fb.l1, if_neg (by omega), ref_right_j3 ky nm ts is xs h i k K V _ hi (by omega) (by omega) hn, isready_f k ky nm ts is xs h i hi (by omega), Option.bind_some, ref_right_j3 ky nm ts is xs h i k K V _ hi (by omega) (by omega) hn, ht]
  unfold waitB
  by_cases h0 : (rd_T51 xs (i : Int)).f0 = 0
  ·
   rw [if_pos h0, if_pos h0, h0]
   cases readyB ts xs i <;> cases V <;> rfl
  rw [if_neg h0, if_neg h0, decide_eq_false h0]
  by_cases h5 : (rd_T51 xs (i : Int)).f0 = 5
  ·
   rw [if_pos h5, decide_eq_true h5]
   cases V <;> rfl
  rw [if_neg h5, decide_eq_false h5]
  cases readyB ts xs i <;> cases V <;> rfl
 | succ m ih =>
  intro a k ha hk
  obtain ⟨k, rfl⟩ : ∃ q, k = q + 1 := ⟨k - 1, by omega⟩
  have hd : (xs.take i).drop a = xs[a] :: (xs.take i).drop (a + 1) := by
   rw [List.drop_eq_getElem_cons (show a < (xs.take i).length by rw [List.length_take]; omega), List.getElem_take]
  have ht : tokAt xs i a = (decide (0 < (rd_T51 xs (i : Int)).f3) && (decide (xs[a].f3 = (rd_T51 xs (i : Int)).f3)) || tokAt xs i (a + 1)) := by
   unfold tokAt
   rw [hd, List.any_cons]
   cases decide (0 < (rd_T51 xs (i : Int)).f3) <;> rfl
  rw [Fb.l1, if_pos (by omega), wrap_nat a (by omega), ih (a + 1) k (by omega) (by omega), ht]
  by_cases h3 : (rd_T51 xs (i : Int)).f3 > 0
  ·
   rw [if_pos h3, if_pos (by omega), if_pos (by omega), rd51_nat xs a (by omega), decide_eq_true (show 0 < (rd_T51 xs (i : Int)).f3 from h3)]
   by_cases h4 : xs[a].f3 = (rd_T51 xs (i : Int)).f3
   ·
    rw [if_pos h4, decide_eq_true h4]
    rfl
   rw [if_neg h4, decide_eq_false h4]
   rfl
  rw [if_neg h3, decide_eq_false (show ¬ 0 < (rd_T51 xs (i : Int)).f3 from h3)]
  rfl
theorem ref_right_l0 (ky nm : ByteArray) (ts : List S49) (is : Int) (xs : List S51) (h : Wf ts xs.length) : ∀ m i k, i + m = xs.length → 60 * m + 60 ≤ k →
  Fb.l0 k xs (xs.length : Int) (i : Int) ky nm ts is xs = some (allOk ts xs i m) := by
 have h1 := h.1
 have h2 := h.2.1
 intro m
 induction m with
 | zero =>
  intro i k hi hk
  obtain ⟨k, rfl⟩ : ∃ q, k = q + 1 := ⟨k - 1, by omega⟩
  rw [Fb.l0, if_neg (by omega)]
  rfl
 | succ m ih =>
  intro i k hi hk
  obtain ⟨k, rfl⟩ : ∃ q, k = q + 1 := ⟨k - 1, by omega⟩
  have hn : ∀ q, 60 * m + 60 ≤ q → Fb.l0 q xs (xs.length : Int) ((i + 1 : Nat) : Int) ky nm ts is xs = some (allOk ts xs (i + 1) m) := fun q hq => ih (i + 1) q (by omega) hq
  have a0 := ref_right_l1 ky nm ts is xs h i (60 * m + 60) (allOk ts xs (i + 1) m) (by omega) hn i 0 k (by omega) (by omega)
  rw [Fb.l0, if_pos (by omega), if_pos (by omega), if_pos (by omega), if_pos (by omega), ref_right_f k (by omega), Option.bind_some, show (0 : Int) = ((0 : Nat) : Int) from rfl, a0, allOk_succ]
  unfold okB
  show (if stB ts xs i = true then _ else _) = _
  cases stB ts xs i
  ·
   rfl
  rw [if_pos rfl, Bool.true_and, Bool.and_assoc]
theorem cnt_any (ks : List Int) (xs : List S51) : 0 < cntI ks (upto xs xs.length) ↔ (xs.any fun s => ks.contains s.f0) = true := by
 rw [cnt_eq, List.any_eq_true]
 constructor
 ·
  intro h
  obtain ⟨s, hs⟩ := List.exists_mem_of_length_pos (l := xs.filter fun s => ks.contains s.f0) (by omega)
  rw [List.mem_filter] at hs
  exact ⟨s, hs.1, hs.2⟩
 rintro ⟨s, hs, h⟩
 have := List.length_pos_of_mem (List.mem_filter (p := fun s : S51 => ks.contains s.f0).2 ⟨hs, h⟩)
 omega
theorem cnt_ge (ks : List Int) (xs : List S51) : 0 ≤ cntI ks (upto xs xs.length) := by unfold cntI; omega
theorem open_any (xs : List S51) : (xs.any fun s => [0, 1, 2].contains s.f0) = openB xs := by
 unfold openB hasB
 induction xs with
 | nil => rfl
 | cons x xs ih =>
  simp only [List.any_cons] at ih ⊢
  rw [ih]
  have : [0, 1, 2].contains x.f0 = (decide (x.f0 = 0) || (decide (x.f0 = 1) || decide (x.f0 = 2))) := by
   simp only [List.contains_cons, List.contains_nil, Bool.or_false]
   rfl
  rw [this]
  cases decide (x.f0 = 0) <;> cases decide (x.f0 = 1) <;> cases decide (x.f0 = 2) <;> simp
theorem cnt_open (xs : List S51) : cntA [0, 1, 2] xs = 0 ↔ openB xs = false := by
 have h1 := cnt_any [0, 1, 2] xs
 have h2 := cnt_ge [0, 1, 2] xs
 rw [open_any] at h1
 unfold cntA
 cases hb : openB xs
 ·
  exact ⟨fun _ => rfl, fun _ => have h3 : ¬ 0 < cntI [0, 1, 2] (upto xs xs.length) := (fun e => by rw [h1.1 e] at hb; cases hb); by omega⟩
 exact ⟨fun e => by have := h1.2 hb; omega, fun e => by cases e⟩
theorem cnt_none (c : Int) (xs : List S51) : cntA [c] xs = 0 ↔ hasB c xs = false := by
 have h1 := cnt_pos c xs
 have h2 := cnt_ge [c] xs
 unfold cntA
 cases hb : hasB c xs
 ·
  exact ⟨fun _ => rfl, fun _ => have h3 : ¬ 0 < cntI [c] (upto xs xs.length) := (fun e => by rw [h1.1 e] at hb; cases hb); by omega⟩
 exact ⟨fun e => by have := h1.2 hb; omega, fun e => by cases e⟩
def In5 (xs : List S51) : Prop := ∀ s ∈ xs, 0 ≤ s.f0 ∧ s.f0 ≤ 5
theorem all3 (xs : List S51) (h : In5 xs) : allB 3 xs = (!(openB xs) && (!(hasB 4 xs) && !(hasB 5 xs))) := by
 unfold openB hasB allB
 induction xs with
 | nil => rfl
 | cons x xs ih =>
  have hx := h x (List.mem_cons_self ..)
  rw [List.all_cons, ih (fun s hs => h s (List.mem_cons_of_mem _ hs))]
  simp only [List.any_cons]
  rcases (by omega : x.f0 = 0 ∨ x.f0 = 1 ∨ x.f0 = 2 ∨ x.f0 = 3 ∨ x.f0 = 4 ∨ x.f0 = 5) with e | e | e | e | e | e <;> rw [e] <;> simp
theorem kind_fits (is : Int) (xs : List S51) (h : In5 xs) : (decide (is = kindF xs) && endF is xs) = fitsB is xs := by
 unfold kindF fitsB
 rw [← all3 xs h]
 by_cases h3 : allB 3 xs = true
 ·
  have a0 : cntA [3] xs = (xs.length : Int) := (cnt_all 3 xs).2 h3
  rw [if_pos a0, if_pos h3]
  unfold endF
  by_cases e : is = 1
  ·
   subst e; rfl
  rw [decide_eq_false e]; simp [e]
 have a0 : ¬ cntA [3] xs = (xs.length : Int) := fun e => h3 ((cnt_all 3 xs).1 e)
 rw [if_neg a0, if_neg h3]
 by_cases h4 : hasB 4 xs = true
 ·
  have a1 : 0 < cntA [4] xs := (cnt_pos 4 xs).2 h4
  rw [if_pos a1, if_pos h4]
  by_cases e : is = 2
  ·
   rw [decide_eq_true e, if_pos e]
   unfold endF
   rw [if_pos e, Bool.true_and]
   have := cnt_open xs
   cases ho : openB xs
   ·
    rw [decide_eq_true (this.2 ho)]; rfl
   rw [decide_eq_false (fun e => by rw [this.1 e] at ho; cases ho)]; rfl
  rw [decide_eq_false e, if_neg e]; rfl
 have a1 : ¬ 0 < cntA [4] xs := fun e => h4 ((cnt_pos 4 xs).1 e)
 rw [if_neg a1, if_neg h4]
 have ho := cnt_open xs
 cases hb : openB xs
 ·
  rw [if_pos (ho.2 hb), if_neg (by decide)]
  unfold endF
  by_cases e : is = 3
  ·
   subst e; rfl
  rw [decide_eq_false e]; simp [e]
 rw [if_neg (fun e => by rw [ho.1 e] at hb; cases hb), if_pos rfl]
 unfold endF
 by_cases e : is = 0
 ·
  rw [decide_eq_true e, if_pos e, if_neg (by omega), if_pos e, Bool.true_and]
  have h5 := cnt_none 5 xs
  cases h5b : hasB 5 xs
  ·
   rw [decide_eq_true (h5.2 h5b)]; rfl
  rw [decide_eq_false (fun e => by rw [h5.1 e] at h5b; cases h5b)]; rfl
 rw [decide_eq_false e, Bool.false_and, if_neg e]
theorem taskRight_o (k : Nat) (hk : 2 ≤ k) (ts : List S49) (xs : List S51) (j : Nat) : taskRightO k (rd_T49 ts (j : Int)) (rd_T51 xs (j : Int)) = some (stB ts xs j) := by
 unfold taskRightO stB
 rw [right_f k hk]
theorem rightL_ok (k : Nat) (hk : 2 ≤ k) (ts : List S49) (xs : List S51) (h : Wf ts xs.length) : ∀ m i (a0 : List Int), i + m = xs.length → (∀ y, y ∈ a0 ↔ ∃ s ∈ xs.take i, s.f3 = y) →
  rightL k ts xs ((List.finRange xs.length).drop i) a0 = some (allOk ts xs i m) := by
 intro m
 induction m with
 | zero =>
  intro i a0 hi ht
  rw [List.drop_eq_nil_of_le (by simp; omega)]
  rfl
 | succ m ih =>
  intro i a0 hi ht
  have hd : (List.finRange xs.length).drop i = ⟨i, by omega⟩ :: (List.finRange xs.length).drop (i + 1) := by
   rw [List.drop_eq_getElem_cons (show i < (List.finRange xs.length).length by simp; omega)]
   simp
  have hn : ∀ y, y ∈ (rd_T51 xs (i : Int)).f3 :: a0 ↔ ∃ s ∈ xs.take (i + 1), s.f3 = y := by
   intro y
   rw [List.mem_cons, ht, List.take_succ_eq_append_getElem (show i < xs.length by omega), rd51_nat xs i (by omega)]
   constructor
   ·
    rintro (rfl | ⟨s, hs, e⟩)
    ·
     exact ⟨_, List.mem_append_right _ (List.mem_singleton.2 rfl), rfl⟩
    exact ⟨s, List.mem_append_left _ hs, e⟩
   rintro ⟨s, hs, e⟩
   rcases List.mem_append.1 hs with hs | hs
   ·
    exact .inr ⟨s, hs, e⟩
   rw [List.mem_singleton] at hs; subst hs; exact .inl e.symm
  have a2 := ih (i + 1) ((rd_T51 xs (i : Int)).f3 :: a0) (by omega) hn
  rw [hd, rightL]
  dsimp only
  rw [taskRight_o k hk, Option.bind_some, allOk_succ, a2, ready_o ts xs h i (by omega), Option.bind_some]
  unfold okB
  cases stB ts xs i
  ·
   rfl
  rw [if_neg (by decide), Bool.true_and]
  have a1 : tokAt xs i 0 = true ↔ 0 < (rd_T51 xs (i : Int)).f3 ∧ (rd_T51 xs (i : Int)).f3 ∈ a0 := by
   unfold tokAt
   rw [Bool.and_eq_true, decide_eq_true_eq, List.any_eq_true, ht, List.drop_zero]
   simp only [decide_eq_true_eq]
  by_cases h1 : 0 < (rd_T51 xs (i : Int)).f3 ∧ (rd_T51 xs (i : Int)).f3 ∈ a0
  ·
   rw [if_pos h1, a1.2 h1]; rfl
  rw [if_neg h1, Bool.eq_false_iff.2 (fun e => h1 (a1.1 e))]
  unfold waitB
  by_cases h5 : (rd_T51 xs (i : Int)).f0 = 5
  ·
   rw [if_pos h5, decide_eq_true h5]; rfl
  rw [if_neg h5, decide_eq_false h5]
  cases decide ((rd_T51 xs (i : Int)).f0 = 0) <;> cases readyB ts xs i <;> rfl
theorem allOk_at {ts : List S49} {xs : List S51} (h : allOk ts xs 0 xs.length = true) (j : Nat) (hj : j < xs.length) : okB ts xs j = true :=
 List.all_eq_true.1 h j (by rw [List.mem_range'_1]; omega)
theorem stB_of {ts : List S49} {xs : List S51} (h : allOk ts xs 0 xs.length = true) (j : Nat) (hj : j < xs.length) : RightP (rd_T49 ts (j : Int)).f1 (rd_T51 xs (j : Int)).f0 (rd_T51 xs (j : Int)).f1 (rd_T51 xs (j : Int)).f2 (rd_T51 xs (j : Int)).f3 (rd_T51 xs (j : Int)).f4 := by
 have h1 := allOk_at h j hj
 unfold okB stB at h1
 rw [Bool.and_eq_true] at h1
 exact of_decide_eq_true h1.1
theorem in5_of {ts : List S49} {xs : List S51} (h : allOk ts xs 0 xs.length = true) : In5 xs := by
 intro s hs
 obtain ⟨j, hj, rfl⟩ := List.mem_iff_getElem.1 hs
 have h1 := stB_of h j hj
 rw [rd51_nat xs j hj] at h1
 exact ⟨h1.1.1, h1.1.2.1⟩
def Tk (xs : List S51) : Prop := ∀ s ∈ xs, -9223372036854775808 ≤ s.f3 ∧ s.f3 ≤ 9223372036854775807
theorem goodRight_ok (k : Nat) (hk : 2 ≤ k) (ts : List S49) (xs : List S51) (h : Wf ts xs.length) (ht : Tk xs) : goodRight k ts xs = true := by
 refine List.all_eq_true.2 fun x _ => ?_
 have hx := x.isLt
 have := ht _ (rd51_mem (i := (x.val : Int)) (by omega) (by omega))
 rw [taskRight_o k hk, ready_o ts xs h x.val hx, decide_eq_true ⟨this.1, by omega⟩]
 rfl
theorem asc_len {n : Int} : ∀ {l : List Int} {last : Int}, ascB n last l = true → (l.length : Int) ≤ max 0 (n - last - 1)
 | [], _, _ => by simp; omega
 | x :: l, last, h => by
  have hx := asc_mem h x (List.mem_cons_self ..)
  have h2 : ascB n x l = true := by
   unfold ascB at h
   simp only [Bool.and_eq_true] at h
   exact h.2.2
  have := asc_len h2
  rw [List.length_cons]
  omega
structure DagOk (nm : ByteArray) (ts : List S49) : Prop where
 code : ∀ k, 100 ≤ k → Fu.f k nm ts = some 0
 ref : ∀ k, 4000 ≤ k → Fh.f k nm ts = some 0
 one : 1 ≤ ts.length
 ten : ts.length ≤ 10
 nums : ∀ t ∈ ts, taskB (ts.length : Int) t = true
 rank : ∃ p : Nat → Nat, ∀ i, i < ts.length → ∀ x : Nat, (x : Int) ∈ needs ts i → p x < p i
theorem dag_zero (nm : ByteArray) (ts : List S49) (hn : ∀ t ∈ ts, t.f0.length ≤ 20) (k : Nat) (hk : 100 ≤ k) (h : Fu.f k nm ts = some 0) : ∀ t ∈ ts, taskB (ts.length : Int) t = true := by
 unfold Fu.f at h
 split at h
 ·
  cases h
 split at h
 ·
  cases h
 split at h
 ·
  cases h
 split at h
 ·
  cases h
 rw [anyT_f _ k (by omega) ts hn, Option.bind_some] at h
 cases h5 : ts.all (taskB (ts.length : Int)) with
 | false => rw [h5, if_pos (by decide)] at h; cases h
 | true => exact fun t ht => List.all_eq_true.1 h5 t ht
theorem dag_cases (nm : ByteArray) (ts : List S49) (hn : ∀ t ∈ ts, t.f0.length ≤ 20) (hl : ts.length ≤ 20) :
  (∃ R, R ≠ 0 ∧ (∀ k, 100 ≤ k → Fu.f k nm ts = some R) ∧ ∀ k, 4000 ≤ k → Fh.f k nm ts = some R) ∨ DagOk nm ts := by
 obtain ⟨R, hR, a0⟩ := right_both nm ts hn hl
 by_cases h0 : R = 0
 ·
  subst h0
  obtain ⟨R', a4, a2, hz⟩ := right_ex nm ts hn hl
  have e : R' = 0 := by
   have h1 := hR 100 (by omega)
   rw [a2 100 (by omega)] at h1
   exact Option.some.inj h1
  obtain ⟨hT, h1, a1, ho, a3, _⟩ := hz e
  refine .inr ⟨hR, a0, h1, a1, dag_zero nm ts hn 100 (by omega) (hR 100 (by omega)), ?_⟩
  obtain ⟨p, hp⟩ := tr_rank ts hT a4 (List.replicate ts.length false) (by simp) a3 (by simp [ho])
  exact ⟨p, fun i hi x hx => (hp i hi (by simp [g, hi]) x hx).resolve_left (by rw [g, List.getD_eq_getElem?_getD, List.getElem?_replicate]; split <;> simp)⟩
 exact .inl ⟨R, h0, hR, a0⟩
theorem rd49_mem {ts : List S49} {i : Nat} (h : i < ts.length) : rd_T49 ts (i : Int) ∈ ts := by
 rw [rd49_nat ts i h]
 exact List.getElem_mem h
theorem DagOk.task {nm : ByteArray} {ts : List S49} (h : DagOk nm ts) {i : Nat} (hi : i < ts.length) : (∀ x ∈ (rd_T49 ts (i : Int)).f0, 0 ≤ x ∧ x < (ts.length : Int)) ∧ (rd_T49 ts (i : Int)).f0.length ≤ 10 ∧
  1 ≤ (rd_T49 ts (i : Int)).f1 ∧ (rd_T49 ts (i : Int)).f1 ≤ 8 ∧ 0 ≤ (rd_T49 ts (i : Int)).f2 ∧ (rd_T49 ts (i : Int)).f2 ≤ 1048576 ∧ 1 ≤ (rd_T49 ts (i : Int)).f3 ∧ (rd_T49 ts (i : Int)).f3 ≤ 1048576 := by
 have h1 := h.nums _ (rd49_mem hi)
 have a0 := h.ten
 unfold taskB numsB at h1
 simp only [Bool.and_eq_true, decide_eq_true_eq] at h1
 have h2 := asc_len h1.1
 refine ⟨fun x hx => ?_, by omega, h1.2⟩
 have := asc_mem h1.1 x hx
 omega
theorem DagOk.wf {nm : ByteArray} {ts : List S49} (h : DagOk nm ts) {n : Nat} (hn : n = ts.length) : Wf ts n := by
 subst hn
 exact ⟨rfl, h.ten, fun i hi => ⟨(h.task hi).2.1, (h.task hi).1⟩⟩
theorem code_right (ky nm : ByteArray) (ts : List S49) (is : Int) (xs : List S51) (h : DagOk nm ts) (ht : Tk xs) (k : Nat) (hk : 100 ≤ k) : rightF k ky nm ts is xs = some (runB ky ts is xs) := by
 unfold rightF runB
 by_cases h1 : ky.size < 1
 ·
  rw [if_pos h1, decide_eq_false (by omega)]; rfl
 rw [if_neg h1, decide_eq_true (show 1 ≤ ky.size by omega), Bool.true_and]
 by_cases h2 : 16 < ky.size
 ·
  rw [if_pos h2, decide_eq_false (by omega)]; rfl
 rw [if_neg h2, decide_eq_true (show ky.size ≤ 16 by omega), Bool.true_and, h.code k hk, Option.bind_some, if_neg (by simp)]
 by_cases h3 : xs.length = ts.length
 ·
  have hw := h.wf h3
  have a0 := hw.2.1
  rw [if_neg (by simpa using h3), decide_eq_true h3, Bool.true_and, if_neg (by omega)]
  have hg := goodRight_ok k (by omega) ts xs hw ht
  have hr := rightL_ok k (by omega) ts xs hw xs.length 0 [] (by omega) (by simp)
  rw [List.drop_zero] at hr
  rw [hr]
  by_cases h4 : is = kindF xs
  ·
   rw [if_neg (by simpa using h4), if_neg (by rw [hg]; decide), Option.bind_some]
   cases ha : allOk ts xs 0 xs.length
   ·
    rw [if_pos rfl, Bool.and_false]
   have hk := kind_fits is xs (in5_of ha)
   rw [decide_eq_true h4, Bool.true_and] at hk
   rw [if_neg (by decide), hk, Bool.and_true]
  rw [if_pos h4]
  cases ha : allOk ts xs 0 xs.length
  ·
   rw [Bool.and_false]
  have hk := kind_fits is xs (in5_of ha)
  rw [decide_eq_false h4, Bool.false_and] at hk
  rw [← hk]; rfl
 rw [if_pos (by simpa using h3), decide_eq_false h3]; rfl
theorem ref_right (ky nm : ByteArray) (ts : List S49) (is : Int) (xs : List S51) (h : DagOk nm ts) (k : Nat) (hk : 4001 ≤ k) : Fb.f k ky nm ts is xs = some (runB ky ts is xs) := by
 have hj : Fb.j0 k true ky nm ts is xs = some false := by
  obtain ⟨k, rfl⟩ : ∃ q, k = q + 1 := ⟨k - 1, by omega⟩
  rw [Fb.j0, if_pos rfl]
 unfold Fb.f runB
 rw [hj]
 by_cases h1 : ky.size < 1
 ·
  rw [if_pos (by omega), decide_eq_false (by omega)]; rfl
 rw [if_neg (by omega), decide_eq_true (show 1 ≤ ky.size by omega), Bool.true_and]
 by_cases h2 : 16 < ky.size
 ·
  rw [if_pos (by omega), decide_eq_false (by omega)]; rfl
 rw [if_neg (by omega), decide_eq_true (show ky.size ≤ 16 by omega), Bool.true_and, h.ref k (by omega), Option.bind_some, if_pos rfl]
 by_cases h3 : xs.length = ts.length
 ·
  have hw := h.wf h3
  have a0 := hw.2.1
  rw [if_pos (by omega), decide_eq_true h3, Bool.true_and, fits_f k ky nm ts is xs (by omega) (by omega), Option.bind_some]
  cases hf : fitsB is xs
  ·
   show Fb.j0 k true ky nm ts is xs = _
   rw [hj]; rfl
  obtain ⟨k, rfl⟩ : ∃ q, k = q + 1 := ⟨k - 1, by omega⟩
  rw [Fb.j0, if_neg (by decide), Bool.true_and]
  exact ref_right_l0 ky nm ts is xs hw xs.length 0 k (by omega) (by omega)
 rw [if_neg (by omega), decide_eq_false h3]; rfl
def fst_ (u : Int) (xs : List S51) : Int := firstF u xs (List.finRange xs.length)
def Cand (u : Int) (xs : List S51) (j : Nat) : Prop := j < xs.length ∧ (rd_T51 xs (j : Int)).f0 = 2 ∧ (rd_T51 xs (j : Int)).f2 ≤ u
def IsFst (u : Int) (xs : List S51) (n : Nat) (a : Int) : Prop :=
 (a = -1 ∧ ∀ j, j < n → ¬ Cand u xs j) ∨ ∃ i : Nat, a = (i : Int) ∧ i < n ∧ Cand u xs i ∧ ∀ j, j < n → Cand u xs j → (rd_T51 xs (i : Int)).f2 < (rd_T51 xs (j : Int)).f2 ∨ (rd_T51 xs (i : Int)).f2 = (rd_T51 xs (j : Int)).f2 ∧ i ≤ j
theorem isFst_to (u : Int) (xs : List S51) : ∀ n, n ≤ xs.length → IsFst u xs n (firstF u xs ((List.finRange xs.length).take n))
 | 0, _ => .inl ⟨rfl, fun j h => absurd h (by omega)⟩
 | n + 1, h => by
  have ih := isFst_to u xs n (by omega)
  have ht : (List.finRange xs.length).take (n + 1) = (List.finRange xs.length).take n ++ [⟨n, by omega⟩] := by
   rw [List.take_succ_eq_append_getElem (show n < (List.finRange xs.length).length by simp; omega)]
   simp
  rw [ht, firstF_snoc]
  generalize firstF u xs ((List.finRange xs.length).take n) = a at ih
  unfold firstS
  dsimp only
  by_cases hc : Cand u xs n
  ·
   rcases ih with ⟨rfl, h1⟩ | ⟨i, rfl, hi, ci, h1⟩
   ·
    rw [if_pos ⟨hc.2.1, hc.2.2, .inl (by omega)⟩]
    refine .inr ⟨n, rfl, by omega, hc, fun j hj cj => ?_⟩
    rcases Nat.lt_or_ge j n with a0 | a0
    ·
     exact absurd cj (h1 j a0)
    obtain rfl : j = n := by omega
    exact .inr ⟨rfl, Nat.le_refl _⟩
   by_cases hd : (rd_T51 xs (n : Int)).f2 < (rd_T51 xs (i : Int)).f2
   ·
    rw [if_pos ⟨hc.2.1, hc.2.2, .inr hd⟩]
    refine .inr ⟨n, rfl, by omega, hc, fun j hj cj => ?_⟩
    rcases Nat.lt_or_ge j n with a0 | a0
    ·
     rcases h1 j a0 cj with h2 | h2
     ·
      exact .inl (by omega)
     exact .inl (by omega)
    obtain rfl : j = n := by omega
    exact .inr ⟨rfl, Nat.le_refl _⟩
   rw [if_neg (fun h => h.2.2.elim (by omega) hd)]
   refine .inr ⟨i, rfl, by omega, ci, fun j hj cj => ?_⟩
   rcases Nat.lt_or_ge j n with a0 | a0
   ·
    exact h1 j a0 cj
   obtain rfl : j = n := by omega
   omega
  rw [if_neg (fun h => hc ⟨by omega, h.1, h.2.1⟩)]
  rcases ih with ⟨rfl, h1⟩ | ⟨i, rfl, hi, ci, h1⟩
  ·
   refine .inl ⟨rfl, fun j hj cj => ?_⟩
   rcases Nat.lt_or_ge j n with a0 | a0
   ·
    exact h1 j a0 cj
   obtain rfl : j = n := by omega
   exact hc cj
  refine .inr ⟨i, rfl, by omega, ci, fun j hj cj => ?_⟩
  rcases Nat.lt_or_ge j n with a0 | a0
  ·
   exact h1 j a0 cj
  obtain rfl : j = n := by omega
  exact absurd cj hc
theorem isFst (u : Int) (xs : List S51) : IsFst u xs xs.length (fst_ u xs) := by
 have h := isFst_to u xs xs.length (Nat.le_refl _)
 rw [List.take_of_length_le (by simp)] at h
 exact h
theorem fst_cand {u : Int} {xs : List S51} (h0 : 0 ≤ fst_ u xs) : ∃ i : Nat, fst_ u xs = (i : Int) ∧ Cand u xs i := by
 rcases isFst u xs with ⟨e, _⟩ | ⟨i, e, hi, ci, h1⟩
 ·
  omega
 exact ⟨i, e, ci⟩
theorem fst_held {u : Int} {xs : List S51} (h : hasB 2 xs = false) : ¬ 0 ≤ fst_ u xs := by
 intro h0
 obtain ⟨i, _, c⟩ := fst_cand h0
 have : hasB 2 xs = true := List.any_eq_true.2 ⟨rd_T51 xs (i : Int), rd51_mem (by omega) (by have := c.1; omega), by simpa using c.2.1⟩
 rw [h] at this
 cases this
def heldN (xs : List S51) : Nat := xs.countP fun s => decide (s.f0 = 2)
theorem held_set {xs : List S51} {i : Nat} (hi : i < xs.length) (s : S51) (h : (rd_T51 xs (i : Int)).f0 = 2) (hs : s.f0 ≠ 2) : heldN (xs.set i s) + 1 = heldN xs := by
 unfold heldN
 rw [rd51_nat xs i hi] at h
 have h2 := List.countP_set (p := fun s : S51 => decide (s.f0 = 2)) (a := s) hi
 rw [h2, h, decide_eq_false hs]
 have : 0 < xs.countP fun s => decide (s.f0 = 2) := List.countP_pos_iff.2 ⟨_, List.getElem_mem hi, by simpa using h⟩
 simp
 omega
theorem held_same {xs : List S51} {i : Nat} (hi : i < xs.length) (s : S51) (h : s.f0 = 2 ↔ (rd_T51 xs (i : Int)).f0 = 2) : heldN (xs.set i s) = heldN xs := by
 unfold heldN
 rw [rd51_nat xs i hi] at h
 have h2 := List.countP_set (p := fun s : S51 => decide (s.f0 = 2)) (a := s) hi
 rw [h2]
 by_cases e : xs[i].f0 = 2
 ·
  have : 0 < xs.countP fun s => decide (s.f0 = 2) := List.countP_pos_iff.2 ⟨_, List.getElem_mem hi, by simpa using e⟩
  simp [e, h.2 e]
  omega
 simp [e, show s.f0 ≠ 2 from fun e2 => e (h.1 e2)]
theorem readyS_f0 (s : S51) : (readyS s).f0 = if s.f0 = 0 then 1 else s.f0 := by unfold readyS; split <;> rfl
theorem held_ready (ts : List S49) (xs : List S51) : ∀ q, q ≤ xs.length → heldN (readyTo ts xs q) = heldN xs
 | 0, _ => rfl
 | q + 1, hq => by
  have ih := held_ready ts xs q (by omega)
  rw [readyTo]
  split
  ·
   rw [held_same (by rw [readyTo_len]; omega) _ ?_, ih]
   rw [readyTo_at ts xs q q (Nat.le_refl _), readyS_f0]
   split <;> omega
  exact ih
theorem cancelS_f0 (s : S51) : (cancelS s).f0 = if s.f0 = 0 ∨ s.f0 = 1 ∨ s.f0 = 2 then 5 else s.f0 := by unfold cancelS; split <;> rfl
theorem held_cancel (xs : List S51) : heldN (xs.map cancelS) = 0 := by
 unfold heldN
 rw [List.countP_eq_zero]
 intro s hs
 obtain ⟨x, _, rfl⟩ := List.mem_map.1 hs
 rw [cancelS_f0]
 simp only [decide_eq_true_eq]
 split <;> omega
theorem held_mend (ts : List S49) (is : Int) (xs : List S51) : heldN (mendP ts is xs).2 ≤ heldN xs := by
 unfold mendP
 split
 ·
  rw [held_cancel]; omega
 rw [held_ready ts xs _ (Nat.le_refl _)]; omega
theorem expS_f0 {t : S49} {s : S51} {now : Int} (h : s.f0 = 2) (hd : s.f2 ≤ unt now []) : (expS t s now).f0 ≠ 2 := by
 unfold expS ofV expireV
 rw [if_pos ⟨h, hd⟩]
 split <;> simp
theorem stepS_no {ts : List S49} {now : Int} {p : Int × List S51} (h : ¬ 0 ≤ fst_ (unt now []) p.2) : stepS ts now p = p := if_neg h
theorem stepS_yes {ts : List S49} {now : Int} {p : Int × List S51} {i : Nat} (h : fst_ (unt now []) p.2 = (i : Int)) : stepS ts now p = mendP ts p.1 (p.2.set i (expS (rd_T49 ts (i : Int)) (rd_T51 p.2 (i : Int)) now)) := by
 unfold stepS
 unfold fst_ at h
 rw [h, if_pos (by omega), Int.toNat_natCast]
theorem step_held {ts : List S49} {now : Int} {p : Int × List S51} (h : 0 ≤ fst_ (unt now []) p.2) : heldN (stepS ts now p).2 < heldN p.2 := by
 obtain ⟨i, e, c⟩ := fst_cand h
 rw [stepS_yes e]
 have h1 := held_mend ts p.1 (p.2.set i (expS (rd_T49 ts (i : Int)) (rd_T51 p.2 (i : Int)) now))
 have h2 := held_set c.1 (expS (rd_T49 ts (i : Int)) (rd_T51 p.2 (i : Int)) now) c.2.1 (expS_f0 c.2.1 c.2.2)
 omega
theorem iter_no {ts : List S49} {now : Int} {p : Int × List S51} (h : ¬ 0 ≤ fst_ (unt now []) p.2) : ∀ n, iterS ts now n p = p
 | 0 => rfl
 | n + 1 => by rw [iterS, stepS_no h, iter_no h n]
theorem iter_more {ts : List S49} {now : Int} : ∀ (m n : Nat) (p : Int × List S51), heldN p.2 ≤ m → heldN p.2 ≤ n → iterS ts now m p = iterS ts now n p ∧ ¬ 0 ≤ fst_ (unt now []) (iterS ts now n p).2
 | 0, n, p, hm, hn => by
  have h : ¬ 0 ≤ fst_ (unt now []) p.2 := fun h => by have := step_held (ts := ts) h; omega
  rw [iter_no h, iter_no h]
  exact ⟨rfl, h⟩
 | m + 1, 0, p, hm, hn => by
  have h : ¬ 0 ≤ fst_ (unt now []) p.2 := fun h => by have := step_held (ts := ts) h; omega
  rw [iter_no h, iter_no h]
  exact ⟨rfl, h⟩
 | m + 1, n + 1, p, hm, hn => by
  by_cases h : 0 ≤ fst_ (unt now []) p.2
  ·
   have := step_held (ts := ts) h
   exact iter_more m n (stepS ts now p) (by omega) (by omega)
  rw [iter_no h, iter_no h]
  exact ⟨rfl, h⟩
theorem iter_len (ts : List S49) (now : Int) : ∀ n (p : Int × List S51), (iterS ts now n p).2.length = p.2.length
 | 0, p => rfl
 | n + 1, p => by rw [iterS, iter_len ts now n, stepS_len]
theorem held_le (xs : List S51) : heldN xs ≤ xs.length := List.countP_le_length
theorem settleL_ok (k : Nat) (hk : 60 ≤ k) (ts : List S49) (now : Int) : ∀ (q : Nat) (is : Int) (zs : List S51), Wf ts zs.length → Tr zs → heldN zs < q →
  settleL k ts now (unt now []) q is zs = some (iterS ts now (heldN zs) (is, zs)) := by
 intro q
 induction q with
 | zero => intro is zs hw ht hq; omega
 | succ q ih =>
  intro is zs hw ht hq
  rw [settleL]
  show (if 0 ≤ fst_ (unt now []) zs then _ else _) = _
  by_cases h : 0 ≤ fst_ (unt now []) zs
  ·
   obtain ⟨i, e, c⟩ := fst_cand h
   have hs := stepS_yes (ts := ts) (p := (is, zs)) e
   have hh := step_held (ts := ts) (p := (is, zs)) h
   dsimp only at hs hh
   rw [if_pos h]
   unfold fst_ at e
   rw [e, exp_o k hk _ _ now (ht _ (rd51_mem (by omega) (by have := c.1; omega))), Option.bind_some, Int.toNat_natCast, mend_f _ _ _ (by rw [List.length_set]; exact hw), Option.bind_some, ← hs,
    ih _ _ (by rw [stepS_len]; exact hw) (tr_step ts now (is, zs) ht) (by omega)]
   have h2 := (iter_more (ts := ts) (now := now) (heldN (stepS ts now (is, zs)).2) (heldN zs - 1) (stepS ts now (is, zs)) (Nat.le_refl _) (by omega)).1
   rw [show heldN zs = (heldN zs - 1) + 1 by omega, iterS]
   exact congrArg some h2
  rw [if_neg h, iter_no h]
def setP (ts : List S49) (now : Int) (p : Int × List S51) : Int × List S51 := iterS ts now p.2.length p
theorem setP_len (ts : List S49) (now : Int) (p : Int × List S51) : (setP ts now p).2.length = p.2.length := iter_len _ _ _ _
theorem run_parts {ky : ByteArray} {ts : List S49} {is : Int} {xs : List S51} (h : runB ky ts is xs = true) : 1 ≤ ky.size ∧ ky.size ≤ 16 ∧ xs.length = ts.length ∧ fitsB is xs = true ∧ allOk ts xs 0 xs.length = true := by
 unfold runB at h
 simp only [Bool.and_eq_true, decide_eq_true_eq] at h
 exact h
theorem tr_of {ts : List S49} {xs : List S51} (h : allOk ts xs 0 xs.length = true) : Tr xs := by
 intro s hs
 obtain ⟨j, hj, rfl⟩ := List.mem_iff_getElem.1 hs
 have h1 := stB_of h j hj
 rw [rd51_nat xs j hj] at h1
 have := h1.1.2.2
 omega
theorem tk_of {ts : List S49} {xs : List S51} (h : allOk ts xs 0 xs.length = true) : Tk xs := by
 intro s hs
 obtain ⟨j, hj, rfl⟩ := List.mem_iff_getElem.1 hs
 have h1 := stB_of h j hj
 rw [rd51_nat xs j hj] at h1
 have := h1.1.2.2
 omega
theorem fits_over {is : Int} {xs : List S51} (h : fitsB is xs = true) (hi : is ≠ 0) : openB xs = false := by
 unfold fitsB at h
 split at h
 ·
  rename_i h1
  simp only [Bool.and_eq_true, Bool.not_eq_true'] at h1
  exact h1.1
 split at h
 ·
  split at h
  ·
   simpa using h
  cases h
 split at h
 ·
  cases h
 rename_i h1
 simpa using h1
theorem held_of {xs : List S51} (h : openB xs = false) : hasB 2 xs = false := by
 unfold openB at h
 simp only [Bool.or_eq_false_iff] at h
 exact h.2.2
theorem code_settle (ky nm : ByteArray) (ts : List S49) (is : Int) (xs : List S51) (now : Int) (hd : DagOk nm ts) (h : runB ky ts is xs = true) (k : Nat) (hk : 100 ≤ k) :
  settleO k ky nm ts is xs now = some (some (setP ts now (is, xs))) := by
 obtain ⟨h1, h2, h3, h4, h5⟩ := run_parts h
 have hw := hd.wf h3
 have a0 := hw.2.1
 unfold settleO
 rw [code_right ky nm ts is xs hd (tk_of h5) k hk, h, Option.bind_some, if_neg (by decide)]
 by_cases hi : is = 0
 ·
  rw [if_neg (by simpa using hi), unt_f k now [] (by simp) (by omega), Option.bind_some, settleL_ok k (by omega) ts now k is xs hw (tr_of h5) (by have := held_le xs; omega), Option.bind_some]
  unfold setP
  rw [(iter_more (ts := ts) (now := now) (heldN xs) xs.length (is, xs) (Nat.le_refl _) (held_le xs)).1]
 rw [if_pos hi]
 unfold setP
 rw [iter_no (fst_held (held_of (fits_over h4 hi)))]
end Go.Proofs.Ytabmkighhmchmaa.Pure
namespace Go.Proofs.Ytabmkighhmchmaa.X
open Go.RowKit Go.Proofs.YtabmkighhmchmaaW.PrintWords Go.Proofs.YtabmkighhmchmaaW.PrintLast Go.Proofs.YtabmkighhmchmaaW.PrintMore Go.Proofs.YtabmkighhmchmaaW.Sq
attribute [local go_sem] max2_int min2_int max_two min_two max_three min_three max_four min_four
set_option linter.unusedVariables false
set_option linter.unusedSimpArgs false
set_option linter.unusedSimpArgs false
end Go.Proofs.Ytabmkighhmchmaa.X
namespace Go.Proofs.Ytabmkighhmchmaa.X
open Go.RowKit Go.Proofs.YtabmkighhmchmaaW.PrintWords Go.Proofs.YtabmkighhmchmaaW.PrintLast Go.Proofs.YtabmkighhmchmaaW.PrintMore Go.Proofs.YtabmkighhmchmaaW.Sq
attribute [local go_sem] max2_int min2_int max_two min_two max_three min_three max_four min_four
set_option linter.unusedVariables false
set_option linter.unusedSimpArgs false
attribute [local go_sem high] eqA51
end Go.Proofs.Ytabmkighhmchmaa.X
namespace Go.Proofs.Ytabmkighhmchmaa.X
open Go.RowKit Go.Proofs.YtabmkighhmchmaaW.PrintWords Go.Proofs.YtabmkighhmchmaaW.PrintLast Go.Proofs.YtabmkighhmchmaaW.PrintMore Go.Proofs.YtabmkighhmchmaaW.Sq
attribute [local go_sem] max2_int min2_int max_two min_two max_three min_three max_four min_four
set_option linter.unusedVariables false
set_option linter.unusedSimpArgs false
end Go.Proofs.Ytabmkighhmchmaa.X
namespace Go.Proofs.Ytabmkighhmchmaa
open Go.RowKit Go.Proofs.YtabmkighhmchmaaW.PrintWords Go.Proofs.YtabmkighhmchmaaW.PrintLast Go.Proofs.YtabmkighhmchmaaW.PrintMore Go.Proofs.YtabmkighhmchmaaW.Sq
open X (S49 S51 k49 k51 rd_T49 at_T49 z49 k49_open k49_mk)
theorem min2_mn (k k' : IntKind) (x y : Int) : Builtin.min2 (.int k x) (.int k' y) = pure (.int k (mn x y)) := by simp only [Builtin.min2, mn]
attribute [local go_sem] min2_mn min_two
set_option linter.unusedVariables false
end Go.Proofs.Ytabmkighhmchmaa
namespace Go.Proofs.Ytabmkighhmchmaa.Pure
open Go.RowKit Go.Proofs.Ytabmkighhmchmaa.X Go.Proofs.YtabmkighhmchmaaW.PrintWords Go.Proofs.YtabmkighhmchmaaW.PrintLast
set_option linter.unusedVariables false
def newP (ts : List S49) : Int × List S51 := mendP ts 0 (List.replicate ts.length z51)
theorem newP_len (ts : List S49) : (newP ts).2.length = ts.length := by unfold newP; rw [mendP_len, List.length_replicate]
theorem code_new (ky nm : ByteArray) (ts : List S49) (h : DagOk nm ts) (h1 : 1 ≤ ky.size) (h2 : ky.size ≤ 16) (k : Nat) (hk : 100 ≤ k) : newO k ky nm ts = some (0, (newP ts).1, (newP ts).2) := by
 unfold newO
 rw [if_neg (by omega), if_neg (by omega), h.code k hk, Option.bind_some, if_neg (by simp), mend_f ts 0 _ (h.wf (by rw [List.length_replicate]))]
 rfl
theorem one_dag : DagOk ⟨#[97]⟩ [(⟨[], 1, 0, 1⟩ : S49)] := by
 rcases dag_cases ⟨#[97]⟩ [(⟨[], 1, 0, 1⟩ : S49)] (by simp) (by simp) with ⟨R, h0, h1, _⟩ | h
 ·
  have h2 := h1 100 (by omega)
  have h3 : Fu.f 100 ⟨#[97]⟩ [(⟨[], 1, 0, 1⟩ : S49)] = some 0 := by decide +kernel
  rw [h3] at h2
  exact absurd (Option.some.inj h2).symm h0
 exact h
theorem alive_f (k : Nat) (hk : 100 ≤ k) : Fo.f k = some true := by
 have hp : newP [(⟨[], 1, 0, 1⟩ : S49)] = (0, [(⟨1, 0, 0, 0, ⟨#[]⟩⟩ : S51)]) := by kernel_rfl
 have hr : runB ⟨#[107]⟩ [(⟨[], 1, 0, 1⟩ : S49)] 0 [(⟨1, 0, 0, 0, ⟨#[]⟩⟩ : S51)] = true := by decide +kernel
 have hc := code_right ⟨#[107]⟩ ⟨#[97]⟩ [(⟨[], 1, 0, 1⟩ : S49)] 0 [(⟨1, 0, 0, 0, ⟨#[]⟩⟩ : S51)] one_dag (by simp [Tk]) k hk
 unfold Fo.f Fz.f Ga.f
 rw [code_new ⟨#[107]⟩ ⟨#[97]⟩ _ one_dag (by decide) (by decide) k hk, Option.bind_some, Option.bind_some, hp]
 unfold runOf
 rw [if_pos rfl]
 dsimp only
 rw [hc, hr]
 rfl
def heldI (token : Int) (ys : List S51) : Nat → Nat → Int
 | _, 0 => -1
 | i, m + 1 => if (rd_T51 ys (i : Int)).f0 = 2 ∧ (rd_T51 ys (i : Int)).f3 = token then (i : Int) else heldI token ys (i + 1) m
theorem heldI_lt (token : Int) (ys : List S51) : ∀ m i, heldI token ys i m < 0 ∨ (∃ j : Nat, heldI token ys i m = (j : Int) ∧ i ≤ j ∧ j < i + m ∧ (rd_T51 ys (j : Int)).f0 = 2 ∧ (rd_T51 ys (j : Int)).f3 = token)
 | 0, i => .inl (by rw [heldI]; omega)
 | m + 1, i => by
  rw [heldI]
  split
  ·
   rename_i h
   exact .inr ⟨i, rfl, Nat.le_refl _, by omega, h.1, h.2⟩
  rcases heldI_lt token ys m (i + 1) with h | ⟨j, h1, h2, h3, h4⟩
  ·
   exact .inl h
  exact .inr ⟨j, h1, by omega, by omega, h4⟩
def toldAt (ts : List S49) (is : Int) (ys : List S51) (a0 : S49 → S51 → S51 × Int) (f : Int) : Int × Int × List S51 :=
 if f < 0 then (191, 0, []) else if (a0 (rd_T49 ts f) (rd_T51 ys f)).2 ≠ 0 then ((a0 (rd_T49 ts f) (rd_T51 ys f)).2, 0, [])
 else (0, (mendP ts is (ys.set f.toNat (a0 (rd_T49 ts f) (rd_T51 ys f)).1)).1, (mendP ts is (ys.set f.toNat (a0 (rd_T49 ts f) (rd_T51 ys f)).1)).2)
def toldP (ts : List S49) (now token : Int) (a0 : S49 → S51 → S51 × Int) (p : Int × List S51) : Int × Int × List S51 :=
 toldAt ts (setP ts now p).1 (setP ts now p).2 a0 (heldI token (setP ts now p).2 0 (setP ts now p).2.length)
theorem heldL_ok (ts : List S49) (is : Int) (ys : List S51) (token : Int) (a1 : S49 → S51 → Option (S51 × Int)) (a0 : S49 → S51 → S51 × Int) (hw : Wf ts ys.length) (ha : ∀ t, ∀ s ∈ ys, a1 t s = some (a0 t s)) : ∀ m i, i + m = ys.length →
  heldL ts is ys token a1 ((List.finRange ys.length).drop i) = some (toldAt ts is ys a0 (heldI token ys i m)) := by
 intro m
 induction m with
 | zero =>
  intro i hi
  rw [List.drop_eq_nil_of_le (by simp; omega)]
  rfl
 | succ m ih =>
  intro i hi
  have hd : (List.finRange ys.length).drop i = ⟨i, by omega⟩ :: (List.finRange ys.length).drop (i + 1) := by
   rw [List.drop_eq_getElem_cons (show i < (List.finRange ys.length).length by simp; omega)]
   simp
  rw [hd, heldL]
  dsimp only
  rw [ih (i + 1) (by omega), ha _ _ (rd51_mem (by omega) (by omega)), Option.bind_some]
  by_cases h1 : (rd_T51 ys (i : Int)).f0 = 2
  ·
   by_cases h2 : (rd_T51 ys (i : Int)).f3 = token
   ·
    rw [show heldI token ys i (m + 1) = (i : Int) by rw [heldI, if_pos ⟨h1, h2⟩], if_neg (by simpa using h1), if_neg (by simpa using h2)]
    unfold toldAt
    rw [if_neg (show ¬ ((i : Int) < 0) by omega), Int.toNat_natCast, mend_f _ _ _ (by rw [List.length_set]; exact hw), Option.bind_some]
    split <;> rfl
   rw [show heldI token ys i (m + 1) = heldI token ys (i + 1) m by rw [heldI, if_neg (fun h => h2 h.2)], if_neg (by simpa using h1), if_pos h2]
  rw [show heldI token ys i (m + 1) = heldI token ys (i + 1) m by rw [heldI, if_neg (fun h => h1 h.1)], if_pos h1]
theorem goodHeld_ok (ts : List S49) (is : Int) (ys : List S51) (token : Int) (a1 : S49 → S51 → Option (S51 × Int)) (a0 : S49 → S51 → S51 × Int) (hw : Wf ts ys.length) (ha : ∀ t, ∀ s ∈ ys, a1 t s = some (a0 t s)) : goodHeld ts is ys token a1 = true := by
 refine List.all_eq_true.2 fun x _ => ?_
 have hx := x.isLt
 rw [ha _ _ (rd51_mem (by omega) (by omega))]
 dsimp only
 rw [mend_f _ _ _ (by rw [List.length_set]; exact hw)]
 simp
theorem tr_set_p {ts : List S49} {now : Int} {p : Int × List S51} (h : Tr p.2) : Tr (setP ts now p).2 := by
 have a0 : ∀ n (p : Int × List S51), Tr p.2 → Tr (iterS ts now n p).2 := by
  intro n
  induction n with
  | zero => intro p h; exact h
  | succ n ih => intro p h; exact ih _ (tr_step ts now p h)
 exact a0 _ p h
theorem code_held (ky nm : ByteArray) (ts : List S49) (is : Int) (xs : List S51) (now token : Int) (a1 : S49 → S51 → Option (S51 × Int)) (a0 : S49 → S51 → S51 × Int) (hd : DagOk nm ts) (h : runB ky ts is xs = true) (k : Nat) (hk : 100 ≤ k)
  (ha : ∀ t s, -9223372036854775808 ≤ s.f1 ∧ s.f1 ≤ 9223372036854775807 → a1 t s = some (a0 t s)) : heldO k ky nm ts is xs now token a1 = some (toldP ts now token a0 (is, xs)) := by
 obtain ⟨h1, h2, h3, h4, h5⟩ := run_parts h
 have a3 := tr_set_p (ts := ts) (now := now) (p := (is, xs)) (tr_of h5)
 have hw : Wf ts (setP ts now (is, xs)).2.length := hd.wf (by rw [setP_len]; exact h3)
 have a2 : ∀ t, ∀ s ∈ (setP ts now (is, xs)).2, a1 t s = some (a0 t s) := fun t s hs => ha t s (a3 s hs)
 unfold heldO toldP
 rw [code_settle ky nm ts is xs now hd h k hk, Option.bind_some]
 dsimp only
 rw [if_neg (by rw [goodHeld_ok ts _ _ token a1 a0 hw a2]; decide)]
 have := heldL_ok ts (setP ts now (is, xs)).1 (setP ts now (is, xs)).2 token a1 a0 hw a2 (setP ts now (is, xs)).2.length 0 (by omega)
 rw [List.drop_zero] at this
 exact this
def ofA (p : Int × Int × Int × Int × ByteArray × Int) : S51 × Int := (⟨p.1, p.2.1, p.2.2.1, p.2.2.2.1, p.2.2.2.2.1⟩, p.2.2.2.2.2)
def beatP (now : Int) (t : S49) (s : S51) : S51 × Int := ofA (beatV t.f3 s.f0 s.f1 s.f3 s.f4 now)
def doneP (a0 : ByteArray) (t : S49) (s : S51) : S51 × Int := ofA (doneV s.f0 s.f1 a0)
def failP (now : Int) (t : S49) (s : S51) : S51 × Int := ofA (failV t.f1 t.f2 s.f0 s.f1 s.f4 now)
theorem code_beat (ky nm : ByteArray) (ts : List S49) (is : Int) (xs : List S51) (now token : Int) (hd : DagOk nm ts) (h : runB ky ts is xs = true) (k : Nat) (hk : 100 ≤ k) : Ge.f k ky nm ts is xs now token = some (runOf ky nm ts (toldP ts now token (beatP now) (is, xs))) := by
 unfold Ge.f
 rw [code_held ky nm ts is xs now token (beatA k now) (beatP now) hd h k hk fun t s hs => by unfold beatA; rw [beat_f k (by omega)]; rfl]
 rfl
theorem code_done (ky nm : ByteArray) (ts : List S49) (is : Int) (xs : List S51) (now token : Int) (a0 : ByteArray) (hd : DagOk nm ts) (h : runB ky ts is xs = true) (k : Nat) (hk : 100 ≤ k) : Gc.f k ky nm ts is xs now token a0 = some (runOf ky nm ts (toldP ts now token (doneP a0) (is, xs))) := by
 unfold Gc.f
 rw [code_held ky nm ts is xs now token (doneA a0) (doneP a0) hd h k hk fun t s hs => by unfold doneA; rw [done_f]; rfl]
 rfl
theorem code_fail (ky nm : ByteArray) (ts : List S49) (is : Int) (xs : List S51) (now token : Int) (hd : DagOk nm ts) (h : runB ky ts is xs = true) (k : Nat) (hk : 100 ≤ k) : Gd.f k ky nm ts is xs now token = some (runOf ky nm ts (toldP ts now token (failP now) (is, xs))) := by
 unfold Gd.f
 rw [code_held ky nm ts is xs now token (failA k now) (failP now) hd h k hk fun t s hs => by unfold failA; rw [fail_f k (by omega) _ _ _ _ _ _ _ _ _ _ hs.1 hs.2]; rfl]
 rfl
def leaseP (now token : Int) (t : S49) (s : S51) : S51 × Int := ofA (leaseV t.f3 s.f0 s.f1 s.f2 s.f4 now token)
def dueI (now : Int) (is : Int) (ys : List S51) : Nat → Nat → Int
 | _, 0 => -1
 | i, m + 1 => if is = 0 ∧ (rd_T51 ys (i : Int)).f0 = 1 ∧ (rd_T51 ys (i : Int)).f2 ≤ unt now [] then (i : Int) else dueI now is ys (i + 1) m
theorem dueI_lt (now is : Int) (ys : List S51) : ∀ m i, dueI now is ys i m = -1 ∨ (∃ j : Nat, dueI now is ys i m = (j : Int) ∧ i ≤ j ∧ j < i + m ∧ is = 0 ∧ (rd_T51 ys (j : Int)).f0 = 1 ∧ (rd_T51 ys (j : Int)).f2 ≤ unt now [])
 | 0, i => .inl rfl
 | m + 1, i => by
  rw [dueI]
  split
  ·
   rename_i h
   exact .inr ⟨i, rfl, Nat.le_refl _, by omega, h⟩
  rcases dueI_lt now is ys m (i + 1) with h | ⟨j, h1, h2, h3, h4⟩
  ·
   exact .inl h
  exact .inr ⟨j, h1, by omega, by omega, h4⟩
theorem dueI_no (now : Int) {is : Int} (h : is ≠ 0) (ys : List S51) : ∀ m i, dueI now is ys i m = -1
 | 0, i => rfl
 | m + 1, i => by rw [dueI, if_neg (fun e => h e.1), dueI_no now h ys m]
def leaseR (ts : List S49) (now token : Int) (p : Int × List S51) : Int × Int × List S51 × Int :=
 if token < 1 ∨ 1099511627776 < token then (1, 0, [], 0) else if (p.2.any fun s => s.f3 == token) = true then (1, 0, [], 0)
 else if dueI now p.1 p.2 0 p.2.length < 0 then (192, 0, [], 0)
 else (0, p.1, p.2.set (dueI now p.1 p.2 0 p.2.length).toNat (leaseP now token (rd_T49 ts (dueI now p.1 p.2 0 p.2.length)) (rd_T51 p.2 (dueI now p.1 p.2 0 p.2.length))).1, dueI now p.1 p.2 0 p.2.length)
theorem lease_ok {now token : Int} (ht : ¬ (token < 1 ∨ 1099511627776 < token)) (t : S49) (s : S51) : (leaseP now token t s).2 = 0 ↔ s.f0 = 1 ∧ s.f2 ≤ unt now [] := by
 unfold leaseP leaseV ofA
 rw [if_neg (by omega)]
 by_cases h : s.f0 = 1 ∧ s.f2 ≤ unt now []
 ·
  rw [if_pos h]; simp [h]
 rw [if_neg h]; simp [h]
theorem leaseO_eq (k : Nat) (hk : 60 ≤ k) (t : S49) (s : S51) (now token : Int) : leaseO k t s now token = some (leaseP now token t s) := by
 unfold leaseO
 rw [lease_f k hk]
 rfl
theorem leaseL_ok (k : Nat) (hk : 60 ≤ k) (ts : List S49) (ys : List S51) (now token : Int) (ht : ¬ (token < 1 ∨ 1099511627776 < token)) : ∀ m i, i + m = ys.length →
  (dueI now 0 ys i m < 0 ∧ leaseL k ts ys now token ((List.finRange ys.length).drop i) = some none) ∨
  ∃ j : Fin ys.length, dueI now 0 ys i m = (j.val : Int) ∧ leaseL k ts ys now token ((List.finRange ys.length).drop i) = some (some (j, (leaseP now token (rd_T49 ts (j.val : Int)) (rd_T51 ys (j.val : Int))).1)) := by
 intro m
 induction m with
 | zero =>
  intro i hi
  rw [List.drop_eq_nil_of_le (by simp; omega)]
  exact .inl ⟨by rw [dueI]; omega, rfl⟩
 | succ m ih =>
  intro i hi
  have hd : (List.finRange ys.length).drop i = ⟨i, by omega⟩ :: (List.finRange ys.length).drop (i + 1) := by
   rw [List.drop_eq_getElem_cons (show i < (List.finRange ys.length).length by simp; omega)]
   simp
  rw [hd, leaseL, dueI]
  dsimp only
  rw [leaseO_eq k hk, Option.bind_some]
  have hl := lease_ok (now := now) ht (rd_T49 ts (i : Int)) (rd_T51 ys (i : Int))
  by_cases h : (leaseP now token (rd_T49 ts (i : Int)) (rd_T51 ys (i : Int))).2 = 0
  ·
   rw [if_pos h, if_pos ⟨rfl, hl.1 h⟩]
   exact .inr ⟨⟨i, by omega⟩, rfl, rfl⟩
  rw [if_neg h, if_neg (fun e => h (hl.2 e.2))]
  exact ih (i + 1) (by omega)
theorem code_lease (ky nm : ByteArray) (ts : List S49) (is : Int) (xs : List S51) (now token : Int) (hd : DagOk nm ts) (h : runB ky ts is xs = true) (k : Nat) (hk : 100 ≤ k) : runLeaseO k ky nm ts is xs now token = some (leaseR ts now token (setP ts now (is, xs))) := by
 unfold runLeaseO leaseR
 rw [code_settle ky nm ts is xs now hd h k hk, Option.bind_some]
 dsimp only
 generalize setP ts now (is, xs) = p
 by_cases h1 : token < 1
 ·
  rw [if_pos h1, if_pos (.inl h1)]
 by_cases h2 : 1099511627776 < token
 ·
  rw [if_neg h1, if_pos h2, if_pos (.inr h2)]
 have ht : ¬ (token < 1 ∨ 1099511627776 < token) := fun h => h.elim h1 h2
 rw [if_neg h1, if_neg h2, if_neg ht]
 unfold noTok
 by_cases h3 : (p.2.any fun s => s.f3 == token) = true
 ·
  rw [h3, if_pos rfl, if_pos (by decide)]
 rw [if_neg h3, if_neg (by simpa using h3)]
 by_cases h4 : p.1 = 0
 ·
  have hg : goodLease k ts p.2 now token = true := List.all_eq_true.2 fun x _ => by rw [leaseO_eq k (by omega)]; rfl
  rw [if_neg (by simpa using h4), if_neg (by rw [hg]; decide), h4]
  rcases leaseL_ok k (by omega) ts p.2 now token ht p.2.length 0 (by omega) with ⟨h5, h6⟩ | ⟨j, h5, h6⟩
  ·
   rw [List.drop_zero] at h6
   rw [if_pos h5, h6, Option.bind_some]
  rw [List.drop_zero] at h6
  rw [h5, if_neg (by omega), h6, Option.bind_some]
  dsimp only
  rw [Int.toNat_natCast]
 rw [if_pos h4, dueI_no now h4, if_pos (by omega)]
def leaseOf (ky nm : ByteArray) (ts : List S49) (r : Int × Int × List S51 × Int) : ByteArray × ByteArray × List S49 × Int × List S51 × Int × Int :=
 if r.1 = 0 then (ky, nm, ts, r.2.1, r.2.2.1, r.2.2.2, 0) else (⟨#[]⟩, ⟨#[]⟩, [], 0, [], 0, r.1)
theorem code_lease_f (ky nm : ByteArray) (ts : List S49) (is : Int) (xs : List S51) (now token : Int) (hd : DagOk nm ts) (h : runB ky ts is xs = true) (k : Nat) (hk : 100 ≤ k) : Gb.f k ky nm ts is xs now token = some (leaseOf ky nm ts (leaseR ts now token (setP ts now (is, xs)))) := by
 unfold Gb.f
 rw [code_lease ky nm ts is xs now token hd h k hk]
 rfl
theorem code_settle_f (ky nm : ByteArray) (ts : List S49) (is : Int) (xs : List S51) (now : Int) (hd : DagOk nm ts) (h : runB ky ts is xs = true) (k : Nat) (hk : 100 ≤ k) : F3.f k ky nm ts is xs now = some (ky, nm, ts, (setP ts now (is, xs)).1, (setP ts now (is, xs)).2, 0) := by
 unfold F3.f
 rw [code_settle ky nm ts is xs now hd h k hk]
 rfl
def RightS (t : S49) (s : S51) : Prop := RightP t.f1 s.f0 s.f1 s.f2 s.f3 s.f4
structure OkAt (ts : List S49) (xs : List S51) (j : Nat) : Prop where
 st : RightS (rd_T49 ts (j : Int)) (rd_T51 xs (j : Int))
 tok : 0 < (rd_T51 xs (j : Int)).f3 → ∀ a, a < j → (rd_T51 xs (a : Int)).f3 ≠ (rd_T51 xs (j : Int)).f3
 wait : (rd_T51 xs (j : Int)).f0 = 5 ∨ ((rd_T51 xs (j : Int)).f0 = 0 ↔ readyB ts xs j = false)
theorem tokAt_iff (xs : List S51) (j : Nat) (hj : j < xs.length) : tokAt xs j 0 = true ↔ 0 < (rd_T51 xs (j : Int)).f3 ∧ ∃ a, a < j ∧ (rd_T51 xs (a : Int)).f3 = (rd_T51 xs (j : Int)).f3 := by
 unfold tokAt
 rw [Bool.and_eq_true, decide_eq_true_eq, List.any_eq_true, List.drop_zero]
 refine and_congr Iff.rfl ⟨?_, ?_⟩
 ·
  rintro ⟨y, hy, e⟩
  obtain ⟨a, ha, rfl⟩ := List.mem_iff_getElem.1 hy
  rw [List.length_take] at ha
  rw [List.getElem_take] at e
  exact ⟨a, by omega, by rw [rd51_nat xs a (by omega)]; simpa using e⟩
 rintro ⟨a, ha, e⟩
 rw [rd51_nat xs a (by omega)] at e
 exact ⟨xs[a], List.mem_iff_getElem.2 ⟨a, by rw [List.length_take]; omega, by rw [List.getElem_take]⟩, by simpa using e⟩
theorem okB_iff (ts : List S49) (xs : List S51) (j : Nat) (hj : j < xs.length) : okB ts xs j = true ↔ OkAt ts xs j := by
 unfold okB stB waitB
 simp only [Bool.and_eq_true, Bool.or_eq_true, decide_eq_true_eq, Bool.not_eq_true', bne_iff_ne]
 constructor
 ·
  rintro ⟨h1, h2, h3⟩
  refine ⟨h1, fun h0 a ha e => ?_, h3.imp id fun h => ?_⟩
  ·
   rw [(tokAt_iff xs j hj).2 ⟨h0, a, ha, e⟩] at h2; cases h2
  by_cases e : (rd_T51 xs (j : Int)).f0 = 0
  ·
   rw [decide_eq_true e] at h
   exact ⟨fun _ => by cases hr : readyB ts xs j; rfl; rw [hr] at h; exact absurd rfl h, fun _ => e⟩
  rw [decide_eq_false e] at h
  exact ⟨fun h' => absurd h' e, fun hr => by rw [hr] at h; exact absurd rfl h⟩
 rintro ⟨h1, h2, h3⟩
 refine ⟨h1, ?_, h3.imp id fun h => ?_⟩
 ·
  cases ht : tokAt xs j 0
  ·
   rfl
  obtain ⟨h0, a, ha, e⟩ := (tokAt_iff xs j hj).1 ht
  exact absurd e (h2 h0 a ha)
 by_cases e : (rd_T51 xs (j : Int)).f0 = 0
 ·
  rw [decide_eq_true e, h.1 e]; decide
 rw [decide_eq_false e]
 cases hr : readyB ts xs j
 ·
  exact absurd (h.2 hr) e
 decide
theorem allOk_iff (ts : List S49) (xs : List S51) : allOk ts xs 0 xs.length = true ↔ ∀ j, j < xs.length → OkAt ts xs j :=
 ⟨fun h j hj => (okB_iff ts xs j hj).1 (allOk_at h j hj), fun h => List.all_eq_true.2 fun j hj => by rw [List.mem_range'_1] at hj; exact (okB_iff ts xs j (by omega)).2 (h j (by omega))⟩
theorem hasB_iff (c : Int) (xs : List S51) : hasB c xs = true ↔ ∃ j, j < xs.length ∧ (rd_T51 xs (j : Int)).f0 = c := by
 unfold hasB
 rw [List.any_eq_true]
 constructor
 ·
  rintro ⟨s, hs, e⟩
  obtain ⟨j, hj, rfl⟩ := List.mem_iff_getElem.1 hs
  exact ⟨j, hj, by rw [rd51_nat xs j hj]; simpa using e⟩
 rintro ⟨j, hj, e⟩
 exact ⟨rd_T51 xs (j : Int), rd51_mem (by omega) (by omega), by simpa using e⟩
theorem hasB_no (c : Int) (xs : List S51) : hasB c xs = false ↔ ∀ j, j < xs.length → (rd_T51 xs (j : Int)).f0 ≠ c := by
 constructor
 ·
  intro h j hj e
  rw [(hasB_iff c xs).2 ⟨j, hj, e⟩] at h; cases h
 intro h
 cases hb : hasB c xs
 ·
  rfl
 obtain ⟨j, hj, e⟩ := (hasB_iff c xs).1 hb
 exact absurd e (h j hj)
theorem open_iff (xs : List S51) : openB xs = true ↔ ∃ j, j < xs.length ∧ ((rd_T51 xs (j : Int)).f0 = 0 ∨ (rd_T51 xs (j : Int)).f0 = 1 ∨ (rd_T51 xs (j : Int)).f0 = 2) := by
 unfold openB
 simp only [Bool.or_eq_true, hasB_iff]
 constructor
 ·
  rintro (⟨j, hj, e⟩ | ⟨j, hj, e⟩ | ⟨j, hj, e⟩)
  ·
   exact ⟨j, hj, .inl e⟩
  ·
   exact ⟨j, hj, .inr (.inl e)⟩
  exact ⟨j, hj, .inr (.inr e)⟩
 rintro ⟨j, hj, e | e | e⟩
 ·
  exact .inl ⟨j, hj, e⟩
 ·
  exact .inr (.inl ⟨j, hj, e⟩)
 exact .inr (.inr ⟨j, hj, e⟩)
theorem open_no (xs : List S51) : openB xs = false ↔ ∀ j, j < xs.length → (rd_T51 xs (j : Int)).f0 ≠ 0 ∧ (rd_T51 xs (j : Int)).f0 ≠ 1 ∧ (rd_T51 xs (j : Int)).f0 ≠ 2 := by
 constructor
 ·
  intro h j hj
  refine ⟨fun e => ?_, fun e => ?_, fun e => ?_⟩
  ·
   rw [(open_iff xs).2 ⟨j, hj, .inl e⟩] at h; cases h
  ·
   rw [(open_iff xs).2 ⟨j, hj, .inr (.inl e)⟩] at h; cases h
  rw [(open_iff xs).2 ⟨j, hj, .inr (.inr e)⟩] at h; cases h
 intro h
 cases hb : openB xs
 ·
  rfl
 obtain ⟨j, hj, e⟩ := (open_iff xs).1 hb
 have := h j hj
 omega
theorem fits0 {xs : List S51} : fitsB 0 xs = true ↔ openB xs = true ∧ hasB 4 xs = false ∧ hasB 5 xs = false := by
 unfold fitsB
 cases openB xs <;> cases hasB 4 xs <;> cases hasB 5 xs <;> decide
theorem fits1 {xs : List S51} (h0 : openB xs = false) (h4 : hasB 4 xs = false) (h5 : hasB 5 xs = false) : fitsB 1 xs = true := by unfold fitsB; rw [h0, h4, h5]; rfl
theorem fits2 {xs : List S51} (h0 : openB xs = false) (h4 : hasB 4 xs = true) : fitsB 2 xs = true := by unfold fitsB; rw [h0, h4]; rfl
theorem rd_set {xs : List S51} {i : Nat} (hi : i < xs.length) (s : S51) (j : Nat) : rd_T51 (xs.set i s) (j : Int) = if i = j then s else rd_T51 xs (j : Int) := by
 unfold rd_T51
 simp only [Int.toNat_natCast, List.getD_eq_getElem?_getD]
 by_cases h : i = j
 ·
  subst h
  rw [if_pos rfl, List.getElem?_set_self hi]
  rfl
 rw [if_neg h, List.getElem?_set_ne h]
theorem rd_map {xs : List S51} (f : S51 → S51) {j : Nat} (hj : j < xs.length) : rd_T51 (xs.map f) (j : Int) = f (rd_T51 xs (j : Int)) := by
 rw [rd51_nat _ j (by rw [List.length_map]; exact hj), rd51_nat xs j hj, List.getElem_map]
theorem readyB_congr {ts : List S49} {xs ys : List S51} {n : Nat} (hw : Wf ts n) {j : Nat} (hj : j < n) (h : ∀ x : Nat, x < n → ((rd_T51 xs (x : Int)).f0 = 3 ↔ (rd_T51 ys (x : Int)).f0 = 3)) : readyB ts xs j = readyB ts ys j := by
 unfold readyB
 have hb := (hw.2.2 j hj).2
 rw [Bool.eq_iff_iff, List.all_eq_true, List.all_eq_true]
 refine forall_congr' fun x => ⟨fun h1 hx => ?_, fun h1 hx => ?_⟩
 ·
  obtain ⟨q, rfl⟩ := Int.eq_ofNat_of_zero_le (hb x hx).1
  have := h q (by have := (hb _ hx).2; omega)
  simpa [← this] using h1 hx
 obtain ⟨q, rfl⟩ := Int.eq_ofNat_of_zero_le (hb x hx).1
 have := h q (by have := (hb _ hx).2; omega)
 simpa [this] using h1 hx
theorem readyB_mono {ts : List S49} {xs ys : List S51} {n : Nat} (hw : Wf ts n) {j : Nat} (hj : j < n) (h : ∀ x : Nat, x < n → (rd_T51 xs (x : Int)).f0 = 3 → (rd_T51 ys (x : Int)).f0 = 3) (hr : readyB ts xs j = true) : readyB ts ys j = true := by
 unfold readyB at hr ⊢
 have hb := (hw.2.2 j hj).2
 rw [List.all_eq_true] at hr ⊢
 intro x hx
 obtain ⟨q, rfl⟩ := Int.eq_ofNat_of_zero_le (hb x hx).1
 have := h q (by have := (hb _ hx).2; omega) (by simpa using hr _ hx)
 simpa using this
theorem rd_ready {ts : List S49} {xs : List S51} (hw : Wf ts xs.length) : ∀ (q j : Nat), q ≤ xs.length → rd_T51 (readyTo ts xs q) (j : Int) = if j < q ∧ readyB ts xs j = true then readyS (rd_T51 xs (j : Int)) else rd_T51 xs (j : Int)
 | 0, j, _ => by rw [if_neg (by omega)]; rfl
 | q + 1, j, hq => by
  have ih := fun j => rd_ready hw q j (by omega)
  have hc : readyB ts (readyTo ts xs q) q = readyB ts xs q := readyB_congr hw (by omega) fun x hx => by
   rw [ih x]
   split
   ·
    rw [readyS_f0]; split <;> omega
   exact Iff.rfl
  rw [readyTo, hc]
  by_cases hr : readyB ts xs q = true
  ·
   rw [if_pos hr, rd_set (by rw [readyTo_len]; omega)]
   by_cases e : q = j
   ·
    subst e
    rw [if_pos rfl, if_pos ⟨by omega, hr⟩]
   rw [if_neg e, ih j]
   by_cases h1 : j < q ∧ readyB ts xs j = true
   ·
    rw [if_pos h1, if_pos ⟨by omega, h1.2⟩]
   rw [if_neg h1, if_neg (fun h => h1 ⟨by omega, h.2⟩)]
  rw [if_neg hr, ih j]
  by_cases h1 : j < q ∧ readyB ts xs j = true
  ·
   rw [if_pos h1, if_pos ⟨by omega, h1.2⟩]
  rw [if_neg h1, if_neg (fun h => ?_)]
  rcases Nat.lt_or_ge j q with h2 | h2
  ·
   exact h1 ⟨h2, h.2⟩
  have e : j = q := by omega
  subst e
  exact hr h.2
theorem cancel_right_s {t : S49} {s : S51} (h : RightS t s) : RightS t (cancelS s) := by
 unfold RightS RightP StandsP at *
 unfold cancelS
 split
 ·
  dsimp only
  refine ⟨⟨by omega, by omega, by omega, by omega, by omega, by omega, by omega, by omega, by omega, h.1.2.2.2.2.2.2.2.2.2.1, .inl (h.1.2.2.2.2.2.2.2.2.2.2.resolve_right (by omega))⟩, by omega, by omega, by omega, by omega, by omega, by omega⟩
 exact h
theorem ready_right_s {t : S49} {s : S51} (h : RightS t s) (h1 : 1 ≤ t.f1) : RightS t (readyS s) := by
 unfold RightS RightP StandsP at *
 unfold readyS
 split
 ·
  dsimp only
  refine ⟨⟨by omega, by omega, by omega, by omega, by omega, by omega, by omega, by omega, by omega, h.1.2.2.2.2.2.2.2.2.2.1, .inl (h.1.2.2.2.2.2.2.2.2.2.2.resolve_right (by omega))⟩, by omega, by omega, by omega, by omega, by omega, by omega⟩
 exact h
theorem readyS_f3 (s : S51) : (readyS s).f3 = s.f3 := by unfold readyS; split <;> rfl
theorem tok_zero {t : S49} {s : S51} (h : RightS t s) (h2 : s.f0 ≠ 2) : s.f3 = 0 := by
 have := h.1.2.2.2.2.2.2
 omega
theorem run_mk {ky : ByteArray} {ts : List S49} {is : Int} {xs zs : List S51} {is' : Int} (h : runB ky ts is xs = true) (hl : zs.length = xs.length) (hf : fitsB is' zs = true) (ho : ∀ j, j < zs.length → OkAt ts zs j) : runB ky ts is' zs = true := by
 obtain ⟨h1, h2, h3, _, _⟩ := run_parts h
 unfold runB
 simp only [Bool.and_eq_true, decide_eq_true_eq]
 exact ⟨h1, h2, by omega, hf, (allOk_iff ts zs).2 ho⟩
theorem cancel_ok {nm : ByteArray} {ts : List S49} {xs : List S51} (hd : DagOk nm ts) (hl : xs.length = ts.length) (h : ∀ j, j < xs.length → RightS (rd_T49 ts (j : Int)) (rd_T51 xs (j : Int)))
  (hr : ∀ j, j < xs.length → (rd_T51 xs (j : Int)).f0 = 3 ∨ (rd_T51 xs (j : Int)).f0 = 4 → readyB ts xs j = true) : ∀ j, j < (xs.map cancelS).length → OkAt ts (xs.map cancelS) j := by
 intro j hj
 rw [List.length_map] at hj
 have hw := hd.wf hl
 have a0 := h j hj
 have hc := readyB_congr (xs := xs) (ys := xs.map cancelS) hw hj (fun x hx => by rw [rd_map cancelS hx, cancelS_f0]; split <;> omega)
 have h0 : (cancelS (rd_T51 xs (j : Int))).f0 = 3 ∨ (cancelS (rd_T51 xs (j : Int))).f0 = 4 ∨ (cancelS (rd_T51 xs (j : Int))).f0 = 5 := by
  have := a0.1
  rw [cancelS_f0]
  unfold StandsP at this
  split <;> omega
 refine ⟨?_, ?_, ?_⟩
 ·
  rw [rd_map cancelS hj]; exact cancel_right_s a0
 ·
  rw [rd_map cancelS hj]
  intro h1
  have := tok_zero (cancel_right_s a0) (by omega)
  omega
 rw [rd_map cancelS hj, ← hc]
 have a1 := hr j hj
 rw [cancelS_f0] at h0 ⊢
 by_cases h5 : (rd_T51 xs (j : Int)).f0 = 3 ∨ (rd_T51 xs (j : Int)).f0 = 4
 ·
  rw [if_neg (by omega), a1 h5]
  exact .inr ⟨fun e => by omega, fun e => by cases e⟩
 refine .inl ?_
 split at h0 <;> split <;> omega
theorem mendP_lost {ts : List S49} {is : Int} {xs : List S51} (h : hasB 4 xs = true) : mendP ts is xs = (2, xs.map cancelS) := if_pos h
theorem mendP_goes {ts : List S49} {is : Int} {xs : List S51} (h : hasB 4 xs = false) : mendP ts is xs = (if allB 3 (readyTo ts xs xs.length) = true then 1 else is, readyTo ts xs xs.length) := if_neg (by rw [h]; decide)
theorem mend_right {ky nm : ByteArray} {ts : List S49} {xs : List S51} (hd : DagOk nm ts) (h : runB ky ts 0 xs = true) {i : Nat} (hi : i < xs.length) (h2 : (rd_T51 xs (i : Int)).f0 = 2) {s : S51} (hs : RightS (rd_T49 ts (i : Int)) s)
  (h0 : s.f0 = 1 ∨ s.f0 = 2 ∨ s.f0 = 3 ∨ s.f0 = 4) (h3 : s.f3 = 0 ∨ s.f3 = (rd_T51 xs (i : Int)).f3) : runB ky ts (mendP ts 0 (xs.set i s)).1 (mendP ts 0 (xs.set i s)).2 = true := by
 obtain ⟨_, _, hl, hf, ha⟩ := run_parts h
 obtain ⟨f1, f2, f3⟩ := fits0.1 hf
 have ho := (allOk_iff ts xs).1 ha
 have hw := hd.wf hl
 rw [hasB_no] at f2 f3
 have hy : ∀ j : Nat, rd_T51 (xs.set i s) (j : Int) = if i = j then s else rd_T51 xs (j : Int) := rd_set hi s
 have a3 : (xs.set i s).length = xs.length := List.length_set
 have a6 : ∀ j, j < (xs.set i s).length → RightS (rd_T49 ts (j : Int)) (rd_T51 (xs.set i s) (j : Int)) := by
  intro j hj
  rw [hy]
  split
  ·
   rename_i e; subst e; exact hs
  exact (ho j (by omega)).st
 have a9 : ∀ x : Nat, x < xs.length → (rd_T51 xs (x : Int)).f0 = 3 → (rd_T51 (xs.set i s) (x : Int)).f0 = 3 := by
  intro x hx e
  rw [hy, if_neg (fun e2 => by subst e2; omega)]
  exact e
 have a7 : ∀ j, j < xs.length → (rd_T51 (xs.set i s) (j : Int)).f0 ≠ 0 → readyB ts (xs.set i s) j = true := by
  intro j hj e
  refine readyB_mono hw hj a9 ?_
  have h1 := ((ho j hj).wait.resolve_left (f3 j hj))
  have h4 : (rd_T51 xs (j : Int)).f0 ≠ 0 := by
   rw [hy] at e
   split at e
   ·
    rename_i e2; subst e2; omega
   exact e
  cases hr : readyB ts xs j
  ·
   exact absurd (h1.2 hr) h4
  rfl
 cases h4 : hasB 4 (xs.set i s)
 ·
  rw [mendP_goes h4]
  dsimp only
  have a4 : (readyTo ts (xs.set i s) (xs.set i s).length).length = xs.length := by rw [readyTo_len, a3]
  have hz : ∀ j : Nat, j < xs.length → rd_T51 (readyTo ts (xs.set i s) (xs.set i s).length) (j : Int) = if readyB ts (xs.set i s) j = true then readyS (rd_T51 (xs.set i s) (j : Int)) else rd_T51 (xs.set i s) (j : Int) := by
   intro j hj
   rw [rd_ready (by rw [a3]; exact hw) _ j (Nat.le_refl _), a3]
   by_cases hr : readyB ts (xs.set i s) j = true
   ·
    rw [if_pos ⟨hj, hr⟩, if_pos hr]
   rw [if_neg (fun e => hr e.2), if_neg hr]
  have b0 : ∀ x : Nat, x < xs.length → ((rd_T51 (xs.set i s) (x : Int)).f0 = 3 ↔ (rd_T51 (readyTo ts (xs.set i s) (xs.set i s).length) (x : Int)).f0 = 3) := by
   intro x hx
   rw [hz x hx]
   split
   ·
    rw [readyS_f0]; split <;> omega
   exact Iff.rfl
  have b1 := fun j hj => readyB_congr (j := j) hw hj b0
  have a1 : ∀ x : Nat, x < xs.length → (rd_T51 (readyTo ts (xs.set i s) (xs.set i s).length) (x : Int)).f3 = (rd_T51 (xs.set i s) (x : Int)).f3 := by
   intro x hx
   rw [hz x hx]
   split
   ·
    exact readyS_f3 _
   rfl
  rw [hasB_no] at h4
  have a2 : ∀ j, j < (readyTo ts (xs.set i s) (xs.set i s).length).length → OkAt ts (readyTo ts (xs.set i s) (xs.set i s).length) j := by
   intro j hj
   rw [a4] at hj
   refine ⟨?_, ?_, ?_⟩
   ·
    rw [hz j hj]
    split
    ·
     exact ready_right_s (a6 j (by omega)) (hd.task (i := j) (by omega)).2.2.1
    exact a6 j (by omega)
   ·
    intro hp a a5
    rw [a1 j hj] at hp ⊢
    rw [a1 a (by omega)]
    rw [hy] at hp ⊢
    rw [hy]
    by_cases e1 : i = j
    ·
     subst e1
     rw [if_pos rfl] at hp ⊢
     rw [if_neg (by omega)]
     rcases h3 with h3 | h3
     ·
      omega
     rw [h3] at hp ⊢
     exact (ho i hj).tok hp a a5
    rw [if_neg e1] at hp ⊢
    by_cases e2 : i = a
    ·
     subst e2
     rw [if_pos rfl]
     rcases h3 with h3 | h3
     ·
      omega
     rw [h3]; exact (ho j hj).tok hp i a5
    rw [if_neg e2]
    exact (ho j hj).tok hp a a5
   refine .inr ?_
   rw [← b1 j hj, hz j hj]
   cases hr : readyB ts (xs.set i s) j
   ·
    rw [if_neg (by decide)]
    refine ⟨fun _ => rfl, fun _ => ?_⟩
    by_cases e : (rd_T51 (xs.set i s) (j : Int)).f0 = 0
    ·
     exact e
    rw [a7 j hj e] at hr; cases hr
   rw [if_pos rfl, readyS_f0]
   refine ⟨fun e => ?_, fun e => by cases e⟩
   split at e <;> omega
  have z4 : hasB 4 (readyTo ts (xs.set i s) (xs.set i s).length) = false := by
   rw [hasB_no]
   intro j hj
   rw [a4] at hj
   have := h4 j (by omega)
   rw [hz j hj]
   split
   ·
    rw [readyS_f0]; split <;> omega
   exact this
  have z5 : hasB 5 (readyTo ts (xs.set i s) (xs.set i s).length) = false := by
   rw [hasB_no]
   intro j hj
   rw [a4] at hj
   have h5 : (rd_T51 (xs.set i s) (j : Int)).f0 ≠ 5 := by
    rw [hy]
    split
    ·
     omega
    exact f3 j hj
   rw [hz j hj]
   split
   ·
    rw [readyS_f0]; split <;> omega
   exact h5
  have a8 : In5 (readyTo ts (xs.set i s) (xs.set i s).length) := in5_of ((allOk_iff _ _).2 a2)
  have a0 := all3 _ a8
  rw [z4, z5] at a0
  refine run_mk h a4 ?_ a2
  cases hb : allB 3 (readyTo ts (xs.set i s) (xs.set i s).length)
  ·
   rw [if_neg (by decide), fits0]
   rw [hb] at a0
   exact ⟨by simpa using a0.symm, z4, z5⟩
  rw [if_pos rfl]
  rw [hb] at a0
  exact fits1 (by simpa using a0.symm) z4 z5
 rw [mendP_lost h4]
 dsimp only
 have a2 := cancel_ok hd (xs := xs.set i s) (by omega) a6 (fun j hj e => a7 j (by omega) (by omega))
 refine run_mk h (by rw [List.length_map, a3]) (fits2 ?_ ?_) a2
 ·
  rw [open_no]
  intro j hj
  rw [List.length_map] at hj
  rw [rd_map cancelS hj, cancelS_f0]
  split <;> omega
 obtain ⟨j, hj, e⟩ := (hasB_iff _ _).1 h4
 rw [hasB_iff]
 refine ⟨j, by rw [List.length_map]; exact hj, ?_⟩
 rw [rd_map cancelS hj, cancelS_f0, if_neg (by omega)]
 exact e
theorem mend_word (ts : List S49) (xs : List S51) : (mendP ts 0 xs).1 = 0 ∨ (mendP ts 0 xs).1 = 1 ∨ (mendP ts 0 xs).1 = 2 := by
 unfold mendP
 split
 ·
  exact .inr (.inr rfl)
 dsimp only
 split
 ·
  exact .inr (.inl rfl)
 exact .inl rfl
theorem exp_right {t : S49} {s : S51} {now : Int} (h : RightS t s) (h2 : s.f0 = 2) (hd : s.f2 ≤ unt now []) : RightS t (expS t s now) ∧ ((expS t s now).f0 = 1 ∨ (expS t s now).f0 = 4) ∧ (expS t s now).f3 = 0 := by
 have hb := unt_bd s.f2 [aft t.f2 s.f1]
 unfold RightS RightP StandsP at *
 unfold expS ofV expireV
 rw [if_pos ⟨h2, hd⟩]
 have hr := h.1.2.2.2.2.2.2.2.2.2.2.resolve_right (by omega)
 split
 ·
  dsimp only
  exact ⟨⟨⟨by omega, by omega, by omega, by omega, by omega, by omega, by omega, by omega, by omega, h.1.2.2.2.2.2.2.2.2.2.1, .inl hr⟩, by omega, by omega, by omega, by omega, by omega, by omega⟩, .inr rfl, rfl⟩
 dsimp only
 exact ⟨⟨⟨by omega, by omega, by omega, by omega, by omega, by omega, by omega, by omega, by omega, h.1.2.2.2.2.2.2.2.2.2.1, .inl hr⟩, by omega, by omega, by omega, by omega, by omega, by omega⟩, .inl rfl, rfl⟩
theorem set_again {ts : List S49} {now : Int} {p : Int × List S51} (h : ¬ 0 ≤ fst_ (unt now []) p.2) : setP ts now p = p := iter_no h _
theorem lease_right {ky nm : ByteArray} {ts : List S49} {now token : Int} {p : Int × List S51} (hd : DagOk nm ts) (h : runB ky ts p.1 p.2 = true) (h0 : (leaseR ts now token p).1 = 0) :
  p.1 = 0 ∧ runB ky ts (leaseR ts now token p).2.1 (leaseR ts now token p).2.2.1 = true ∧ ∃ j : Nat, j < p.2.length ∧ (rd_T51 p.2 (j : Int)).f0 = 1 ∧ (leaseR ts now token p).2 = (0, p.2.set j (leaseP now token (rd_T49 ts (j : Int)) (rd_T51 p.2 (j : Int))).1, (j : Int)) ∧
   (leaseP now token (rd_T49 ts (j : Int)) (rd_T51 p.2 (j : Int))).1 = ⟨2, (rd_T51 p.2 (j : Int)).f1 + 1, unt now [(rd_T49 ts (j : Int)).f3], token, (rd_T51 p.2 (j : Int)).f4⟩ := by
 unfold leaseR at h0 ⊢
 by_cases h1 : token < 1 ∨ 1099511627776 < token
 ·
  rw [if_pos h1] at h0; cases h0
 rw [if_neg h1] at h0 ⊢
 by_cases h2 : (p.2.any fun s => s.f3 == token) = true
 ·
  rw [if_pos h2] at h0; cases h0
 rw [if_neg h2] at h0 ⊢
 rcases dueI_lt now p.1 p.2 p.2.length 0 with h3 | ⟨j, h3, h4, h5, h6, h7, h8⟩
 ·
  rw [if_pos (by omega)] at h0; cases h0
 rw [h3, if_neg (by omega), Int.toNat_natCast]
 have hj : j < p.2.length := by omega
 rw [h6] at h ⊢
 obtain ⟨_, _, hl, hf, ha⟩ := run_parts h
 obtain ⟨f1, f2, f3⟩ := fits0.1 hf
 have ho := (allOk_iff ts p.2).1 ha
 have hw := hd.wf hl
 have a2 := (ho j hj).st
 have hb := unt_bd now [(rd_T49 ts (j : Int)).f3]
 have hp : (leaseP now token (rd_T49 ts (j : Int)) (rd_T51 p.2 (j : Int))).1 = ⟨2, (rd_T51 p.2 (j : Int)).f1 + 1, unt now [(rd_T49 ts (j : Int)).f3], token, (rd_T51 p.2 (j : Int)).f4⟩ := by
  have hr := a2.1
  unfold StandsP at hr
  unfold leaseP leaseV ofA
  rw [if_neg (by omega), if_pos ⟨h7, h8⟩]
  dsimp only
  rw [w64_in _ (by omega)]
 refine ⟨rfl, ?_, j, hj, h7, rfl, hp⟩
 dsimp only
 rw [hp]
 generalize hs : (⟨2, (rd_T51 p.2 (j : Int)).f1 + 1, unt now [(rd_T49 ts (j : Int)).f3], token, (rd_T51 p.2 (j : Int)).f4⟩ : S51) = s
 have hy : ∀ x : Nat, rd_T51 (p.2.set j s) (x : Int) = if j = x then s else rd_T51 p.2 (x : Int) := rd_set hj s
 have e0 : s.f0 = 2 := by subst hs; rfl
 have e3 : s.f3 = token := by subst hs; rfl
 have a4 : RightS (rd_T49 ts (j : Int)) s := by
  subst hs
  unfold RightS RightP StandsP at *
  dsimp only
  exact ⟨⟨by omega, by omega, by omega, by have := (hd.task (i := j) (by omega)).2.2.2.1; omega, by omega, by omega, by omega, by omega, by omega, a2.1.2.2.2.2.2.2.2.2.2.1, .inl (a2.1.2.2.2.2.2.2.2.2.2.2.resolve_right (by omega))⟩, by omega, by omega, by omega, by omega, by omega, by omega⟩
 have hc : ∀ x : Nat, x < p.2.length → ((rd_T51 p.2 (x : Int)).f0 = 3 ↔ (rd_T51 (p.2.set j s) (x : Int)).f0 = 3) := by
  intro x hx
  rw [hy]
  split
  ·
   rename_i e; subst e; omega
  exact Iff.rfl
 have a0 : ∀ x : Nat, x < p.2.length → (rd_T51 p.2 (x : Int)).f3 ≠ token := by
  intro x hx e
  exact h2 (List.any_eq_true.2 ⟨rd_T51 p.2 (x : Int), rd51_mem (by omega) (by omega), by simpa using e⟩)
 rw [hasB_no] at f2 f3
 refine run_mk h (by rw [List.length_set]) (fits0.2 ⟨(open_iff _).2 ⟨j, by rw [List.length_set]; exact hj, by rw [hy, if_pos rfl]; omega⟩, ?_, ?_⟩) ?_
 ·
  rw [hasB_no]
  intro x hx
  rw [List.length_set] at hx
  rw [hy]
  split
  ·
   omega
  exact f2 x hx
 ·
  rw [hasB_no]
  intro x hx
  rw [List.length_set] at hx
  rw [hy]
  split
  ·
   omega
  exact f3 x hx
 intro x hx
 rw [List.length_set] at hx
 have a1 := ho x hx
 refine ⟨?_, ?_, ?_⟩
 ·
  rw [hy]
  split
  ·
   rename_i e; subst e; exact a4
  exact a1.st
 ·
  intro hp a a3
  rw [hy] at hp ⊢
  rw [hy]
  by_cases e1 : j = x
  ·
   subst e1
   rw [if_pos rfl] at hp ⊢
   rw [if_neg (by omega), e3]
   exact a0 a (by omega)
  rw [if_neg e1] at hp ⊢
  by_cases e2 : j = a
  ·
   rw [if_pos e2, e3]
   exact fun e => a0 x hx e.symm
  rw [if_neg e2]; exact a1.tok hp a a3
 refine .inr ?_
 have h9 := a1.wait.resolve_left (f3 x hx)
 rw [← readyB_congr hw hx hc, hy]
 by_cases e1 : j = x
 ·
  subst e1
  rw [if_pos rfl]
  exact ⟨fun e => by omega, fun e => by have := h9.2 e; omega⟩
 rw [if_neg e1]; exact h9
def Tells (a0 : S49 → S51 → S51 × Int) : Prop := ∀ t s, RightS t s → s.f0 = 2 → (a0 t s).2 = 0 → RightS t (a0 t s).1 ∧ ((a0 t s).1.f0 = 1 ∨ (a0 t s).1.f0 = 2 ∨ (a0 t s).1.f0 = 3 ∨ (a0 t s).1.f0 = 4) ∧ ((a0 t s).1.f3 = 0 ∨ (a0 t s).1.f3 = s.f3)
theorem tells_done (r : ByteArray) : Tells (doneP r) := by
 intro t s h h2 h0
 unfold doneP ofA doneV at *
 rw [if_pos h2] at h0 ⊢
 by_cases hr : r.size ≤ 16
 ·
  rw [if_pos hr] at h0 ⊢
  unfold RightS RightP StandsP at *
  dsimp only
  exact ⟨⟨⟨by omega, by omega, by omega, by omega, by omega, by omega, by omega, by omega, by omega, hr, .inr rfl⟩, by omega, by omega, by omega, by omega, by omega, by omega⟩, by omega, .inl rfl⟩
 rw [if_neg hr] at h0; cases h0
theorem tells_fail (now : Int) : Tells (failP now) := by
 intro t s h h2 h0
 have hb := unt_bd now [aft t.f2 s.f1]
 unfold failP ofA failV at *
 rw [if_pos h2] at h0 ⊢
 unfold RightS RightP StandsP at *
 have hr := h.1.2.2.2.2.2.2.2.2.2.2.resolve_right (by omega)
 split
 ·
  dsimp only
  exact ⟨⟨⟨by omega, by omega, by omega, by omega, by omega, by omega, by omega, by omega, by omega, h.1.2.2.2.2.2.2.2.2.2.1, .inl hr⟩, by omega, by omega, by omega, by omega, by omega, by omega⟩, by omega, .inl rfl⟩
 dsimp only
 exact ⟨⟨⟨by omega, by omega, by omega, by omega, by omega, by omega, by omega, by omega, by omega, h.1.2.2.2.2.2.2.2.2.2.1, .inl hr⟩, by omega, by omega, by omega, by omega, by omega, by omega⟩, by omega, .inl rfl⟩
theorem heldI_some {token : Int} {ys : List S51} {j : Nat} (h2 : (rd_T51 ys (j : Int)).f0 = 2) (h3 : (rd_T51 ys (j : Int)).f3 = token) : ∀ m i, i ≤ j → j < i + m → 0 ≤ heldI token ys i m
 | 0, i, h, h' => by omega
 | m + 1, i, h, h' => by
  rw [heldI]
  split
  ·
   omega
  rename_i hn
  have : i ≠ j := fun e => hn (by subst e; exact ⟨h2, h3⟩)
  exact heldI_some h2 h3 m (i + 1) (by omega) (by omega)
theorem done_ok {r : ByteArray} (hr : r.size ≤ 16) {t : S49} {s : S51} (h : s.f0 = 2) : (doneP r t s).1 = ⟨3, s.f1, 0, 0, r⟩ ∧ (doneP r t s).2 = 0 := by
 unfold doneP doneV ofA
 rw [if_pos h, if_pos hr]
 exact ⟨rfl, rfl⟩
end Go.Proofs.Ytabmkighhmchmaa.Pure
