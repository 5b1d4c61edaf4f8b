/- Graphs of tasks: an order of all tasks there is just where no task comes to itself. Plain laws. -/
import Derived.Test.YtbgmhcefjggpgaaOrd
namespace Go.Proofs.Ytbgmhcefjggpgaa.Pure
open Go.RowKit Go.Proofs.Ytbgmhcefjggpgaa.X Go.Proofs.YtbgmhcefjggpgaaW.PrintWords Go.Proofs.YtbgmhcefjggpgaaW.PrintLast
set_option linter.unusedVariables false

def g (M : List Bool) (x : Nat) : Bool := M.getD x false
theorem rdOf_g (M : List Bool) (x : Nat) : rdOf false M (x : Int) = g M x := by simp [rdOf, g]
theorem g_set (M : List Bool) (j x : Nat) (h : j < M.length) : g (M.set j true) x = (decide (j = x) || g M x) := by
  unfold g
  rw [List.getD_eq_getElem?_getD, List.getD_eq_getElem?_getD, List.getElem?_set]
  by_cases e : j = x
  · subst e
    rw [if_pos rfl, if_pos h]
    simp
  · rw [if_neg e]
    simp [e]
def markL (M : List Bool) : List Int → List Bool
  | [] => M
  | x :: xs => markL (M.set x.toNat true) xs
def roundL : List S39 → Nat → List Bool → List Bool
  | [], _, M => M
  | t :: ts, i, M => roundL ts (i + 1) (if g M i = true then markL M t.f0 else M)
def roundsL (T : List S39) : Nat → List Bool → List Bool
  | 0, M => M
  | r + 1, M => roundsL T r (roundL T 0 M)
def needs (T : List S39) (i : Nat) : List Int := (T.getD i z39).f0
def reachL (T : List S39) (i : Nat) : List Bool := roundsL T T.length (markL (List.replicate T.length false) (needs T i))
theorem mark_len : ∀ (L : List Int) (M : List Bool), (markL M L).length = M.length
  | [], M => rfl
  | x :: L, M => by rw [markL, mark_len L, List.length_set]
theorem mark_iff : ∀ (L : List Int) (M : List Bool), (∀ x ∈ L, 0 ≤ x ∧ x < (M.length : Int)) → ∀ x, g (markL M L) x = true ↔ (g M x = true ∨ ((x : Nat) : Int) ∈ L)
  | [], M, _, x => by simp [markL]
  | y :: L, M, h, x => by
    have hy := h y (by simp)
    rw [markL, mark_iff L (M.set y.toNat true) (fun z hz => by rw [List.length_set]; exact h z (by simp [hz])) x, g_set M y.toNat x (by omega)]
    simp only [Bool.or_eq_true, decide_eq_true_eq, List.mem_cons]
    constructor
    · rintro ((e | e) | e)
      · exact .inr (.inl (by omega))
      · exact .inl e
      · exact .inr (.inr e)
    · rintro (e | e | e)
      · exact .inl (.inr e)
      · exact .inl (.inl (by omega))
      · exact .inr e
theorem round_len : ∀ (T : List S39) (i : Nat) (M : List Bool), (roundL T i M).length = M.length
  | [], i, M => rfl
  | t :: T, i, M => by
    rw [roundL, round_len T]
    split
    · exact mark_len _ _
    · rfl
theorem rounds_len (T : List S39) : ∀ (r : Nat) (M : List Bool), (roundsL T r M).length = M.length
  | 0, M => rfl
  | r + 1, M => by rw [roundsL, rounds_len T r, round_len]
/-- A round keeps what is marked. -/
theorem round_keep (n : Nat) : ∀ (T : List S39) (i : Nat) (M : List Bool), M.length = n → (∀ t ∈ T, ∀ x ∈ t.f0, 0 ≤ x ∧ x < (n : Int)) → ∀ x, g M x = true → g (roundL T i M) x = true
  | [], i, M, _, _, x, h => h
  | t :: T, i, M, hM, hT, x, h => by
    rw [roundL]
    have ht := hT t (by simp)
    refine round_keep n T (i + 1) _ ?_ (fun u hu => hT u (by simp [hu])) x ?_
    · split
      · rw [mark_len]; exact hM
      · exact hM
    · split
      · exact (mark_iff t.f0 M (by rw [hM]; exact ht) x).2 (.inl h)
      · exact h
/-- A round marks what a marked task needs. -/
theorem round_need (n : Nat) : ∀ (T : List S39) (i : Nat) (M : List Bool), M.length = n → (∀ t ∈ T, ∀ x ∈ t.f0, 0 ≤ x ∧ x < (n : Int)) → ∀ (j : Nat) (hj : j < T.length), g M (i + j) = true → ∀ x : Nat, (x : Int) ∈ T[j].f0 → g (roundL T i M) x = true
  | [], i, M, _, _, j, hj, _, _, _ => by simp at hj
  | t :: T, i, M, hM, hT, j, hj, h, x, hx => by
    rw [roundL]
    have ht := hT t (by simp)
    cases j with
    | zero =>
      rw [Nat.add_zero] at h
      rw [if_pos h]
      exact round_keep n T (i + 1) _ (by rw [mark_len]; exact hM) (fun u hu => hT u (by simp [hu])) x ((mark_iff t.f0 M (by rw [hM]; exact ht) x).2 (.inr hx))
    | succ j =>
      refine round_need n T (i + 1) _ ?_ (fun u hu => hT u (by simp [hu])) j (by simpa using hj) ?_ x hx
      · split
        · rw [mark_len]; exact hM
        · exact hM
      · rw [show i + 1 + j = i + (j + 1) by omega]
        split
        · exact (mark_iff t.f0 M (by rw [hM]; exact ht) _).2 (.inl h)
        · exact h
/-- A round marks nothing that leaves a property. -/
theorem round_inv (n : Nat) (P : Nat → Prop) : ∀ (T : List S39) (i : Nat) (M : List Bool), M.length = n → (∀ t ∈ T, ∀ x ∈ t.f0, 0 ≤ x ∧ x < (n : Int)) →
    (∀ (j : Nat) (hj : j < T.length), P (i + j) → ∀ x : Nat, (x : Int) ∈ T[j].f0 → P x) → (∀ x, g M x = true → P x) → ∀ x, g (roundL T i M) x = true → P x
  | [], i, M, _, _, _, h, x, hx => h x hx
  | t :: T, i, M, hM, hT, hP, h, x, hx => by
    rw [roundL] at hx
    have ht := hT t (by simp)
    refine round_inv n P T (i + 1) _ ?_ (fun u hu => hT u (by simp [hu])) (fun j hj hp y hy => hP (j + 1) (by simp; omega) (by rw [show i + (j + 1) = i + 1 + j by omega]; exact hp) y hy) ?_ x hx
    · split
      · rw [mark_len]; exact hM
      · exact hM
    · intro y hy
      split at hy
      · rename_i hi
        rcases (mark_iff t.f0 M (by rw [hM]; exact ht) y).1 hy with e | e
        · exact h y e
        · exact hP 0 (by simp) (h i hi) y e
      · exact h y hy
theorem needs_at {T : List S39} {j : Nat} (hj : j < T.length) : needs T j = T[j].f0 := by simp [needs, List.getD_eq_getElem?_getD, List.getElem?_eq_getElem hj]
/-- Where every task's needs lie lower, none comes to itself. -/
theorem reach_no (T : List S39) (hT : inB T.length T) (p : Nat → Nat) (hp : ∀ i, i < T.length → ∀ x : Nat, (x : Int) ∈ needs T i → p x < p i) (i : Nat) (hi : i < T.length) : g (reachL T i) i = false := by
  have hT2 : ∀ t ∈ T, ∀ x ∈ t.f0, 0 ≤ x ∧ x < (T.length : Int) := fun t ht => (hT t ht).2
  have hin : ∀ x ∈ needs T i, 0 ≤ x ∧ x < (T.length : Int) := by rw [needs_at hi]; exact hT2 _ (List.getElem_mem hi)
  have key : ∀ (r : Nat) (M : List Bool), M.length = T.length → (∀ x, g M x = true → p x < p i) → ∀ x, g (roundsL T r M) x = true → p x < p i := by
    intro r
    induction r with
    | zero => intro M _ h x hx; exact h x hx
    | succ r ih =>
      intro M hM h x hx
      rw [roundsL] at hx
      refine ih (roundL T 0 M) (by rw [round_len]; exact hM) ?_ x hx
      refine round_inv T.length (fun x => p x < p i) T 0 M hM hT2 (fun j hj hpj y hy => ?_) h
      have := hp j hj y (by rw [needs_at hj]; exact hy)
      simp only [Nat.zero_add] at hpj
      omega
  cases h : g (reachL T i) i with
  | false => rfl
  | true =>
    exfalso
    have := key T.length _ (by rw [mark_len]; simp) (fun x hx => by
      rcases (mark_iff _ _ (by simpa using hin) x).1 hx with e | e
      · simp [g, List.getD_eq_getElem?_getD, List.getElem?_replicate] at e
        split at e <;> simp at e
      · exact hp i hi x e) i h
    omega
/-- A way along needs. -/
def Way (T : List S39) : Nat → Nat → Nat → Prop
  | 0, a, b => a = b
  | l + 1, a, b => ∃ c : Nat, (c : Int) ∈ needs T a ∧ Way T l c b
theorem way_snoc (T : List S39) : ∀ l a b c, Way T l a b → ((c : Nat) : Int) ∈ needs T b → Way T (l + 1) a c
  | 0, a, b, c, h, hc => by
    have h' : a = b := h
    subst h'
    exact ⟨c, hc, rfl⟩
  | l + 1, a, b, c, ⟨d, hd, h⟩, hc => ⟨d, hd, way_snoc T l d b c h hc⟩
theorem way_last (T : List S39) : ∀ l a c, Way T (l + 1) a c → ∃ b, Way T l a b ∧ ((c : Nat) : Int) ∈ needs T b
  | 0, a, c, ⟨d, hd, h⟩ => by
    have h' : d = c := h
    subst h'
    exact ⟨a, rfl, hd⟩
  | l + 1, a, c, ⟨d, hd, h⟩ => by
    obtain ⟨b, hb, hc⟩ := way_last T l d c h
    exact ⟨b, ⟨d, hd, hb⟩, hc⟩
theorem needs_lt {T : List S39} (hT : inB T.length T) {a : Nat} {c : Nat} (h : (c : Int) ∈ needs T a) : a < T.length ∧ c < T.length := by
  by_cases ha : a < T.length
  · rw [needs_at ha] at h
    have := (hT _ (List.getElem_mem ha)).2 _ h
    exact ⟨ha, by omega⟩
  · simp [needs, List.getD_eq_getElem?_getD, List.getElem?_eq_none (Nat.le_of_not_lt ha), z39] at h
theorem reach_yes (T : List S39) (hT : inB T.length T) (v : Nat) (hv : v < T.length) (l : Nat) (hl : l ≤ T.length) (hw : Way T (l + 1) v v) : g (reachL T v) v = true := by
  have hT2 : ∀ t ∈ T, ∀ x ∈ t.f0, 0 ≤ x ∧ x < (T.length : Int) := fun t ht => (hT t ht).2
  have hin : ∀ x ∈ needs T v, 0 ≤ x ∧ x < (T.length : Int) := by rw [needs_at hv]; exact hT2 _ (List.getElem_mem hv)
  have keepR : ∀ (r : Nat) (M : List Bool), M.length = T.length → ∀ x, g M x = true → g (roundsL T r M) x = true := by
    intro r
    induction r with
    | zero => intro M _ x h; exact h
    | succ r ih => intro M hM x h; exact ih _ (by rw [round_len]; exact hM) x (round_keep T.length T 0 M hM hT2 x h)
  have stepR : ∀ (r : Nat) (M : List Bool), M.length = T.length → ∀ b c : Nat, g (roundsL T r M) b = true → (c : Int) ∈ needs T b → g (roundsL T (r + 1) M) c = true := by
    intro r
    induction r with
    | zero =>
      intro M hM b c hb hc
      have hb' := (needs_lt hT hc).1
      exact round_need T.length T 0 M hM hT2 b hb' (by rw [Nat.zero_add]; exact hb) c (by rw [← needs_at hb']; exact hc)
    | succ r ih => intro M hM b c hb hc; exact ih (roundL T 0 M) (by rw [round_len]; exact hM) b c hb hc
  have hM0 : (markL (List.replicate T.length false) (needs T v)).length = T.length := by rw [mark_len]; simp
  have key : ∀ (l : Nat) (x : Nat), Way T (l + 1) v x → g (roundsL T l (markL (List.replicate T.length false) (needs T v))) x = true := by
    intro l
    induction l with
    | zero =>
      intro x hx
      obtain ⟨d, hd, he⟩ := hx
      have he' : d = x := he
      subst he'
      exact (mark_iff _ _ (by simpa using hin) _).2 (.inr hd)
    | succ l ih =>
      intro x hx
      obtain ⟨b, hb, hc⟩ := way_last T (l + 1) v x hx
      exact stepR l _ hM0 b x (ih b hb) hc
  have add : ∀ (a r : Nat) (M : List Bool), roundsL T (a + r) M = roundsL T r (roundsL T a M) := by
    intro a
    induction a with
    | zero => intro r M; rw [Nat.zero_add]; rfl
    | succ a ih => intro r M; rw [show a + 1 + r = (a + r) + 1 by omega, roundsL, ih, roundsL]
  unfold reachL
  obtain ⟨d, hd⟩ : ∃ d, T.length = l + d := ⟨T.length - l, by omega⟩
  have h1 := key l v hw
  have h2 := keepR d _ (by rw [rounds_len]; exact hM0) v h1
  rw [← add] at h2
  rw [← hd] at h2
  exact h2
/-- Of so many and one more, below so many, two are the same. -/
theorem pigeon : ∀ (n : Nat) (s : Nat → Nat), (∀ k, k ≤ n → s k < n) → ∃ a b, a < b ∧ b ≤ n ∧ s a = s b := by
  intro n
  induction n with
  | zero => intro s h; have := h 0 (Nat.le_refl _); omega
  | succ n ih =>
    intro s h
    by_cases hex : ∃ a, a ≤ n ∧ s a = s (n + 1)
    · obtain ⟨a, ha, e⟩ := hex
      exact ⟨a, n + 1, by omega, Nat.le_refl _, e⟩
    · have hv := h (n + 1) (Nat.le_refl _)
      obtain ⟨a, b, h1, h2, h3⟩ := ih (fun k => if s k = n then s (n + 1) else s k) (fun k hk => by
        have hk1 := h k (by omega)
        have hk2 : s k ≠ s (n + 1) := fun e => hex ⟨k, hk, e⟩
        split
        · rename_i e; omega
        · omega)
      refine ⟨a, b, h1, by omega, ?_⟩
      have ha : s a ≠ s (n + 1) := fun e => hex ⟨a, by omega, e⟩
      have hb : s b ≠ s (n + 1) := fun e => hex ⟨b, by omega, e⟩
      split at h3 <;> split at h3 <;> omega
theorem free_none (D : List Bool) : ∀ (T : List S39) (i : Nat), freeV D T i = [] → ∀ (j : Nat) (hj : j < T.length), canB D T[j] (i + j) = false
  | [], i, _, j, hj => by simp at hj
  | t :: T, i, h, j, hj => by
    rw [freeV] at h
    by_cases hc : canB D t i = true
    · rw [if_pos hc] at h; cases h
    · rw [if_neg hc] at h
      cases j with
      | zero => simpa using hc
      | succ j =>
        have := free_none D T (i + 1) h j (by simpa using hj)
        rw [show i + (j + 1) = i + 1 + j by omega]
        exact this
/-- An order that ends too soon leaves tasks that wait for one another. -/
theorem tr_stuck (T : List S39) (hT : inB T.length T) : ∀ (rest : List Int) (D : List Bool), D.length = T.length → Tr T D rest → rest.length < D.count false → ∃ D' : List Bool, D'.length = T.length ∧ 0 < D'.count false ∧ freeV D' T 0 = []
  | [], D, hD, h, hlt => ⟨D, hD, by simpa using hlt, h⟩
  | x :: xs, D, hD, h, hlt => by
    rw [Tr] at h
    obtain ⟨⟨l, hf⟩, h2⟩ := h
    obtain ⟨j, e, hj, hcan⟩ := free_mem D T 0 x (by rw [hf]; simp)
    unfold canB doneB at hcan
    simp only [Nat.zero_add, Bool.and_eq_true, Bool.not_eq_true'] at hcan e
    have h1 := hcan.1
    rw [rdOf_nat D j (by omega)] at h1
    have h3 := count_set_lt (by omega) h1
    have ex : x.toNat = j := by omega
    rw [ex] at h2
    simp only [List.length_cons] at hlt
    exact tr_stuck T hT xs (D.set j true) (by rw [List.length_set]; exact hD) h2 (by omega)
theorem stuck_cycle (T : List S39) (hT : inB T.length T) (D : List Bool) (hD : D.length = T.length) (hc : 0 < D.count false) (hf : freeV D T 0 = []) : ∃ v, v < T.length ∧ g (reachL T v) v = true := by
  have hnext : ∀ i, i < T.length → g D i = false → ∃ x : Nat, (x : Int) ∈ needs T i ∧ g D x = false := by
    intro i hi hu
    have h1 := free_none D T 0 hf i hi
    unfold canB doneB at h1
    rw [Nat.zero_add, rdOf_g, hu] at h1
    simp only [Bool.not_false, Bool.true_and] at h1
    rw [List.all_eq_false] at h1
    obtain ⟨x, hx, hn⟩ := h1
    have hr := (hT _ (List.getElem_mem hi)).2 x hx
    refine ⟨x.toNat, by rw [needs_at hi, Int.toNat_of_nonneg hr.1]; exact hx, ?_⟩
    rw [← rdOf_g, Int.toNat_of_nonneg hr.1]
    simpa using hn
  obtain ⟨i0, hi0, hu0⟩ : ∃ i, i < T.length ∧ g D i = false := by
    obtain ⟨i, hi, e⟩ := List.mem_iff_getElem.1 (List.count_pos_iff.1 hc)
    exact ⟨i, by omega, by simp [g, List.getD_eq_getElem?_getD, List.getElem?_eq_getElem hi, e]⟩
  have hall : ∀ i : Nat, ∃ x : Nat, (i < T.length ∧ g D i = false) → ((x : Int) ∈ needs T i ∧ g D x = false) := by
    intro i
    by_cases h : i < T.length ∧ g D i = false
    · obtain ⟨x, h1, h2⟩ := hnext i h.1 h.2
      exact ⟨x, fun _ => ⟨h1, h2⟩⟩
    · exact ⟨0, fun hh => absurd hh h⟩
  obtain ⟨f, hfn⟩ := Classical.axiomOfChoice hall
  let s : Nat → Nat := fun k => Nat.rec i0 (fun _ r => f r) k
  have hs : ∀ k, s k < T.length ∧ g D (s k) = false := by
    intro k
    induction k with
    | zero => exact ⟨hi0, hu0⟩
    | succ k ih =>
      have := hfn (s k) ih
      exact ⟨(needs_lt hT this.1).2, this.2⟩
  have hstep : ∀ k, ((s (k + 1) : Nat) : Int) ∈ needs T (s k) := fun k => (hfn (s k) (hs k)).1
  have hway : ∀ d a, Way T d (s a) (s (a + d)) := by
    intro d
    induction d with
    | zero => intro a; rfl
    | succ d ih => intro a; exact way_snoc T d _ _ _ (ih a) (by have := hstep (a + d); exact this)
  obtain ⟨a, b, h1, h2, h3⟩ := pigeon T.length s (fun k _ => (hs k).1)
  refine ⟨s a, (hs a).1, reach_yes T hT (s a) (hs a).1 (b - a - 1) (by omega) ?_⟩
  have := hway (b - a) a
  rw [show a + (b - a) = b by omega, ← h3, show b - a = b - a - 1 + 1 by omega] at this
  exact this
/-- A whole order ranks the tasks. -/
theorem tr_rank (T : List S39) (hT : inB T.length T) : ∀ (rest : List Int) (D : List Bool), D.length = T.length → Tr T D rest → rest.length = D.count false → ∃ p : Nat → Nat, ∀ i, i < T.length → g D i = false → ∀ x : Nat, (x : Int) ∈ needs T i → g D x = true ∨ p x < p i
  | [], D, hD, _, hl => by
    refine ⟨fun _ => 0, fun i hi hu => ?_⟩
    exfalso
    have hm : (false : Bool) ∈ D := by
      have e : D[i]'(by omega) = false := by simpa [g, List.getD_eq_getElem?_getD, List.getElem?_eq_getElem (show i < D.length by omega)] using hu
      rw [← e]; exact List.getElem_mem _
    have := List.count_pos_iff.2 hm
    simp at hl
    omega
  | x0 :: xs, D, hD, h, hl => by
    rw [Tr] at h
    obtain ⟨⟨l, hf⟩, h2⟩ := h
    obtain ⟨j, e, hj, hcan⟩ := free_mem D T 0 x0 (by rw [hf]; simp)
    unfold canB doneB at hcan
    simp only [Nat.zero_add, Bool.and_eq_true, Bool.not_eq_true'] at hcan e
    have h1 := hcan.1
    rw [rdOf_nat D j (by omega)] at h1
    have h3 := count_set_lt (by omega) h1
    have ex : x0.toNat = j := by omega
    rw [ex] at h2
    simp only [List.length_cons] at hl
    obtain ⟨p, hp⟩ := tr_rank T hT xs (D.set j true) (by rw [List.length_set]; exact hD) h2 (by omega)
    refine ⟨fun i => if i = j then 0 else p i + 1, fun i hi hu x hx => ?_⟩
    by_cases hij : i = j
    · subst hij
      left
      rw [← rdOf_g]
      rw [needs_at hi] at hx
      exact List.all_eq_true.1 hcan.2 _ hx
    · have hu' : g (D.set j true) i = false := by rw [g_set D j i (by omega), hu]; simp; omega
      rcases hp i hi hu' x hx with e1 | e1
      · rw [g_set D j x (by omega)] at e1
        simp only [Bool.or_eq_true, decide_eq_true_eq] at e1
        rcases e1 with rfl | e1
        · right; simp [hij]
        · exact .inl e1
      · right
        simp only [hij, if_false]
        split <;> omega
/-- The order has all tasks just where no task comes to itself. -/
theorem order_cyc (T : List S39) (hT : inB T.length T) (ord : List Int) (hlen : ord.length ≤ T.length) (hTr : Tr T (List.replicate T.length false) ord) : ord.length < T.length ↔ ∃ v, v < T.length ∧ g (reachL T v) v = true := by
  have hcnt : (List.replicate T.length false).count false = T.length := by simp
  constructor
  · intro h
    obtain ⟨D, d1, d2, d3⟩ := tr_stuck T hT ord _ (by simp) hTr (by rw [hcnt]; exact h)
    exact stuck_cycle T hT D d1 d2 d3
  · rintro ⟨v, hv, hr⟩
    rcases Nat.lt_or_eq_of_le hlen with h | h
    · exact h
    · exfalso
      obtain ⟨p, hp⟩ := tr_rank T hT ord _ (by simp) hTr (by rw [hcnt]; exact h)
      have hno := reach_no T hT p (fun i hi x hx => by
        have hu : g (List.replicate T.length false) i = false := by simp [g, List.getD_eq_getElem?_getD, List.getElem?_replicate]; split <;> rfl
        rcases hp i hi hu x hx with e | e
        · simp [g, List.getD_eq_getElem?_getD, List.getElem?_replicate] at e
          split at e <;> simp at e
        · exact e) v hv
      rw [hno] at hr
      cases hr
end Go.Proofs.Ytbgmhcefjggpgaa.Pure
