/- WaitAfter: how long a task waits behind any number of failures, and all waits of any number of tries, is as the document says, for every two ints. -/
import Derived.Test.YtijabpabmipdbaaPWaitAfterx1
namespace Go.Proofs.Ytijabpabmipdbaa.Pure
open Go.RowKit Go.Proofs.Ytijabpabmipdbaa.PWaitAfter Go.Proofs.YtijabpabmipdbaaW.PrintWords Go.Proofs.YtijabpabmipdbaaW.PrintLast

/-- What After comes to: the wait, doubled, at most 2^20. -/
def aft (w n : Int) : Int := if w < 1 ∨ n < 1 then 0 else min (w * 2 ^ (n - 1).toNat) 1048576

theorem pow_pos' (n : Nat) : (1 : Int) ≤ 2 ^ n := by
  induction n with
  | zero => simp
  | succ n ih => rw [Int.pow_succ]; omega

theorem mul_ge {x : Int} {n : Nat} (h : 0 ≤ x) : x ≤ x * 2 ^ n := by
  have h1 := pow_pos' n
  have h2 := Int.mul_le_mul_of_nonneg_left h1 h
  omega

theorem mul_step (x : Int) (n : Nat) : x * 2 ^ (n + 1) = 2 * x * 2 ^ n := by
  rw [Int.pow_succ, Int.mul_comm 2 x, Int.mul_assoc, Int.mul_comm (2 ^ n) 2]

theorem min_step {x : Int} {n : Nat} (h : 0 ≤ x) : min (min x 1048576 * 2 ^ n) 1048576 = min (x * 2 ^ n) 1048576 := by
  by_cases hx : x ≤ 1048576
  · rw [Int.min_eq_left (a := x) (b := 1048576) hx]
  · rw [Int.min_eq_right (a := x) (b := 1048576) (by omega)]
    have h1 := mul_ge (x := 1048576) (n := n) (by omega)
    have h2 := mul_ge (x := x) (n := n) h
    omega

theorem after_l0 (e : Nat) : ∀ (k : Nat) (x0 x1 : Int), 1 ≤ x0 → x0 ≤ 1048576 → -9223372036854775808 ≤ x1 - 1 → x1 ≤ 9223372036854775807 → 1048576 ≤ x0 * 2 ^ e → e < k →
    wait_After.l0 k x0 x1 = some (min (x0 * 2 ^ (x1 - 1).toNat) 1048576) := by
  induction e with
  | zero =>
    intro k x0 x1 h0 h1 h2 h3 he hk
    obtain ⟨k, rfl⟩ : ∃ m, k = m + 1 := ⟨k - 1, by omega⟩
    have hx : x0 = 1048576 := by simp at he; omega
    have hg := mul_ge (x := x0) (n := (x1 - 1).toNat) (by omega)
    simp only [wait_After.l0]
    have hm : mn x0 1048576 = min (x0 * 2 ^ (x1 - 1).toNat) 1048576 := by unfold mn; split <;> omega
    by_cases hc : x1 > 1
    · rw [if_pos hc, if_neg (by omega), hm]
    · rw [if_neg hc, hm]
  | succ e ih =>
    intro k x0 x1 h0 h1 h2 h3 he hk
    obtain ⟨k, rfl⟩ : ∃ m, k = m + 1 := ⟨k - 1, by omega⟩
    simp only [wait_After.l0]
    by_cases hc : x1 > 1
    · rw [if_pos hc]
      by_cases hd : x0 < 1048576
      · rw [if_pos hd]
        have e1 : wrap64 (x0 * 2) = 2 * x0 := by unfold wrap64; omega
        have e2 : wrap64 (x1 - 1) = x1 - 1 := by unfold wrap64; omega
        have e3 : (x1 - 1).toNat = (x1 - 1 - 1).toNat + 1 := by omega
        rw [e1, e2, e3, mul_step]
        by_cases hs : 2 * x0 ≤ 1048576
        · exact ih k (2 * x0) (x1 - 1) (by omega) hs (by omega) (by omega) (by rw [← mul_step]; exact he) (by omega)
        · have hg := mul_ge (x := 2 * x0) (n := (x1 - 1 - 1).toNat) (by omega)
          obtain ⟨k, rfl⟩ : ∃ m, k = m + 1 := ⟨k - 1, by omega⟩
          simp only [wait_After.l0]
          have hm : mn (2 * x0) 1048576 = min (2 * x0 * 2 ^ (x1 - 1 - 1).toNat) 1048576 := by unfold mn; split <;> omega
          by_cases hc' : x1 - 1 > 1
          · rw [if_pos hc', if_neg (by omega), hm]
          · rw [if_neg hc', hm]
      · rw [if_neg hd]
        have hg := mul_ge (x := x0) (n := (x1 - 1).toNat) (by omega)
        congr 1
        unfold mn; split <;> omega
    · rw [if_neg hc]
      have e3 : (x1 - 1).toNat = 0 := by omega
      rw [e3]
      congr 1
      simp
      unfold mn; split <;> omega

theorem after_f (k : Nat) (w n : Int) (hn : -9223372036854775808 ≤ n) (hn2 : n ≤ 9223372036854775807) (hk : 24 ≤ k) : wait_After.f k w n = some (aft w n) := by
  obtain ⟨k, rfl⟩ : ∃ m, k = m + 1 := ⟨k - 1, by omega⟩
  unfold wait_After.f aft
  by_cases hw : w < 1
  · rw [if_pos hw, if_pos (.inl hw)]; simp [wait_After.j0]
  · rw [if_neg hw]
    by_cases hn1 : n < 1
    · rw [if_pos (.inr hn1), decide_eq_true hn1]; simp [wait_After.j0]
    · rw [if_neg (by omega), decide_eq_false hn1]
      simp only [wait_After.j0]
      rw [if_neg (by simp)]
      have hm : mn w 1048576 = min w 1048576 := by unfold mn; split <;> omega
      rw [hm, ← min_step (by omega)]
      exact after_l0 20 k _ n (by omega) (by omega) (by omega) hn2 (by have : 1 ≤ min w 1048576 := by omega
                                                                       omega) (by omega)

theorem aft_bd (w n : Int) : 0 ≤ aft w n ∧ aft w n ≤ 1048576 := by
  unfold aft
  split
  · omega
  · have := mul_ge (x := w) (n := (n - 1).toNat) (by omega)
    omega

theorem aft_double {w n : Int} (hn : 1 ≤ n) : aft w (n + 1) = min (2 * aft w n) 1048576 := by
  unfold aft
  by_cases hw : w < 1
  · rw [if_pos (.inl hw), if_pos (.inl hw)]; rfl
  · rw [if_neg (by omega), if_neg (by omega)]
    have e3 : (n + 1 - 1).toNat = (n - 1).toNat + 1 := by omega
    rw [e3, Int.pow_succ, ← Int.mul_assoc]
    have := mul_ge (x := w) (n := (n - 1).toNat) (by omega)
    omega

theorem aft_one {w : Int} (h : 0 ≤ w) : aft w 1 = min w 1048576 := by
  unfold aft
  by_cases hw : w < 1
  · rw [if_pos (.inl hw)]; omega
  · rw [if_neg (by omega)]; simp

theorem aft_zero (w : Int) : aft w 0 = 0 := by unfold aft; rw [if_pos (.inr (by omega))]
theorem aft_neg {w n : Int} (h : w < 1) : aft w n = 0 := by unfold aft; rw [if_pos (.inl h)]

theorem aft_mono {w v n : Int} (h : w ≤ v) : aft w n ≤ aft v n := by
  unfold aft
  by_cases hw : w < 1 ∨ n < 1
  · rw [if_pos hw]
    split
    · omega
    · have := mul_ge (x := v) (n := (n - 1).toNat) (by omega)
      omega
  · rw [if_neg hw, if_neg (by omega)]
    have := Int.mul_le_mul_of_nonneg_right h (show (0 : Int) ≤ 2 ^ (n - 1).toNat by have := pow_pos' (n - 1).toNat; omega)
    omega

theorem alive_f (k : Nat) (hk : 24 ≤ k) : penelopelaw17_alive.f k = some true := by
  unfold penelopelaw17_alive.f
  rw [after_f k 3 3 (by omega) (by omega) hk]
  rfl

theorem wf64 {a : Int} (h : (Lit.int .i64 a).wf = true) : -9223372036854775808 ≤ a ∧ a ≤ 9223372036854775807 := by
  simp only [Lit.wf, Bool.and_eq_true, decide_eq_true_eq] at h
  have h1 : IntKind.i64.min = -9223372036854775808 := by decide
  have h2 : IntKind.i64.max = 9223372036854775807 := by decide
  rw [h1, h2] at h
  exact h

/-- The waits of so many tries from one on. -/
def asum (w : Int) : Int → Nat → Int
  | _, 0 => 0
  | i, d + 1 => aft w i + asum w (i + 1) d

theorem asum_bd (w : Int) (d : Nat) : ∀ i, 0 ≤ asum w i d ∧ asum w i d ≤ d * 1048576 := by
  induction d with
  | zero => intro i; simp [asum]
  | succ d ih =>
    intro i
    have h1 := aft_bd w i
    have h2 := ih (i + 1)
    simp only [asum]
    omega

theorem mn8 (n : Int) : mn n 8 = min n 8 := by unfold mn; split <;> omega

theorem all_l0 (w n : Int) (d : Nat) : ∀ (k : Nat) (s i : Int), 1 ≤ i → i ≤ 8 → (min n 8 - i).toNat = d → 0 ≤ s → s ≤ i * 1048576 → d + 25 ≤ k →
    wait_All.l0 k w n s i = some (s + asum w i d) := by
  induction d with
  | zero =>
    intro k s i h1 h2 hd h3 h4 hk
    obtain ⟨k, rfl⟩ : ∃ m, k = m + 1 := ⟨k - 1, by omega⟩
    simp only [wait_All.l0, mn8]
    rw [if_neg (by omega)]
    simp [asum]
  | succ d ih =>
    intro k s i h1 h2 hd h3 h4 hk
    obtain ⟨k, rfl⟩ : ∃ m, k = m + 1 := ⟨k - 1, by omega⟩
    simp only [wait_All.l0, mn8]
    rw [if_pos (by omega), after_f k w i (by omega) (by omega) (by omega)]
    simp only [Option.bind_some]
    have hb := aft_bd w i
    have e1 : wrap64 (s + aft w i) = s + aft w i := by unfold wrap64; omega
    have e2 : wrap64 (i + 1) = i + 1 := by unfold wrap64; omega
    rw [e1, e2, ih k (s + aft w i) (i + 1) (by omega) (by omega) (by omega) (by omega) (by omega) (by omega)]
    simp only [asum]
    rw [Int.add_assoc]

theorem all_f (k : Nat) (w n : Int) (hk : 40 ≤ k) : wait_All.f k w n = some (asum w 1 (min n 8 - 1).toNat) := by
  unfold wait_All.f
  rw [all_l0 w n (min n 8 - 1).toNat k 0 1 (by omega) (by omega) rfl (by omega) (by omega) (by omega)]
  simp

theorem pow_le {a b : Nat} (h : a ≤ b) : (2 : Int) ^ a ≤ 2 ^ b := by
  obtain ⟨c, rfl⟩ : ∃ c, b = a + c := ⟨b - a, by omega⟩
  rw [Int.pow_add]
  exact mul_ge (by have := pow_pos' a; omega)

theorem ref_l0 (d : Nat) : ∀ (k : Nat) (x0 x1 x5 : Int), 1 ≤ x0 → 1 ≤ x5 → x1 ≤ 40 → x5 ≤ 40 → x0 ≤ 1048576 * 2 ^ (x5 - 1).toNat → (x1 - x5).toNat = d → d < k →
    peneloperef17_After.l0 k x0 x1 x5 = some (min (x0 * 2 ^ d) 1048576) := by
  have hp : ∀ m : Nat, m ≤ 39 → (2 : Int) ^ m ≤ 549755813888 := by
    intro m hm
    have := pow_le hm
    simpa using this
  induction d with
  | zero =>
    intro k x0 x1 x5 h0 h1 h2 h3 h4 hd hk
    obtain ⟨k, rfl⟩ : ∃ m, k = m + 1 := ⟨k - 1, by omega⟩
    simp only [peneloperef17_After.l0]
    rw [if_neg (by omega)]
    simp only [Int.pow_zero, Int.mul_one]
    split
    · congr 1; omega
    · congr 1; omega
  | succ d ih =>
    intro k x0 x1 x5 h0 h1 h2 h3 h4 hd hk
    obtain ⟨k, rfl⟩ : ∃ m, k = m + 1 := ⟨k - 1, by omega⟩
    simp only [peneloperef17_After.l0]
    have := hp (x5 - 1).toNat (by omega)
    have e1 : wrap64 (2 * x0) = 2 * x0 := by unfold wrap64; omega
    have e2 : wrap64 (x5 + 1) = x5 + 1 := by unfold wrap64; omega
    have e3 : (x5 + 1 - 1).toNat = (x5 - 1).toNat + 1 := by omega
    rw [if_pos (by omega), e1, e2, mul_step]
    exact ih k (2 * x0) x1 (x5 + 1) (by omega) (by omega) h2 (by omega) (by rw [e3, Int.pow_succ]; omega) (by omega) (by omega)

theorem ref_after_f (k : Nat) (w n : Int) (hk : 60 ≤ k) : peneloperef17_After.f k w n = some (aft w n) := by
  obtain ⟨k, rfl⟩ : ∃ m, k = m + 2 := ⟨k - 2, by omega⟩
  unfold peneloperef17_After.f aft
  by_cases hw : w < 1
  · rw [if_pos hw, if_pos (.inl hw)]; simp [peneloperef17_After.j0]
  · rw [if_neg hw]
    by_cases hn : n < 1
    · rw [if_pos (.inr hn), decide_eq_true hn]; simp [peneloperef17_After.j0]
    · rw [if_neg (by omega), decide_eq_false hn]
      simp only [peneloperef17_After.j0]
      rw [if_neg (by simp)]
      have hg := mul_ge (x := w) (n := (n - 1).toNat) (by omega)
      by_cases hw2 : w ≥ 1048576
      · rw [if_pos hw2]
        simp only [peneloperef17_After.j1, if_true]
        congr 1; omega
      · rw [if_neg hw2]
        by_cases hn2 : n > 40
        · rw [decide_eq_true hn2]
          simp only [peneloperef17_After.j1, if_true]
          have h1 : (2 : Int) ^ 40 ≤ 2 ^ (n - 1).toNat := pow_le (by omega)
          have h2 := Int.mul_le_mul_of_nonneg_right (show (1 : Int) ≤ w by omega) (show (0 : Int) ≤ 2 ^ (n - 1).toNat by omega)
          congr 1; omega
        · rw [decide_eq_false hn2]
          simp only [peneloperef17_After.j1]
          rw [if_neg (by simp)]
          exact ref_l0 (n - 1).toNat k w n 1 (by omega) (by omega) (by omega) (by omega) (by simp; omega) rfl (by omega)

theorem ref_all_l0 (w n : Int) (d : Nat) : ∀ (k : Nat) (s i : Int), 1 ≤ i → n ≤ 8 → i ≤ 8 → (n - i).toNat = d → 0 ≤ s → s ≤ i * 1048576 → d + 61 ≤ k →
    peneloperef17_All.l0 k w n s i = some (s + asum w i d) := by
  induction d with
  | zero =>
    intro k s i h1 h2 h5 hd h3 h4 hk
    obtain ⟨k, rfl⟩ : ∃ m, k = m + 1 := ⟨k - 1, by omega⟩
    simp only [peneloperef17_All.l0]
    rw [if_neg (by omega)]
    simp [asum]
  | succ d ih =>
    intro k s i h1 h2 h5 hd h3 h4 hk
    obtain ⟨k, rfl⟩ : ∃ m, k = m + 1 := ⟨k - 1, by omega⟩
    simp only [peneloperef17_All.l0]
    rw [if_pos (by omega), ref_after_f k w i (by omega)]
    simp only [Option.bind_some]
    have hb := aft_bd w i
    have e1 : wrap64 (s + aft w i) = s + aft w i := by unfold wrap64; omega
    have e2 : wrap64 (i + 1) = i + 1 := by unfold wrap64; omega
    rw [e1, e2, ih k (s + aft w i) (i + 1) (by omega) (by omega) (by omega) (by omega) (by omega) (by omega) (by omega)]
    simp only [asum]
    rw [Int.add_assoc]

theorem ref_all_f (k : Nat) (w n : Int) (hk : 80 ≤ k) : peneloperef17_All.f k w n = some (asum w 1 (min n 8 - 1).toNat) := by
  obtain ⟨k, rfl⟩ : ∃ m, k = m + 1 := ⟨k - 1, by omega⟩
  unfold peneloperef17_All.f
  by_cases h : n > 8
  · rw [if_pos h]
    simp only [peneloperef17_All.j0]
    rw [ref_all_l0 w 8 (min n 8 - 1).toNat k 0 1 (by omega) (by omega) (by omega) (by omega) (by omega) (by omega) (by omega)]
    simp
  · rw [if_neg h]
    simp only [peneloperef17_All.j0]
    rw [ref_all_l0 w n (min n 8 - 1).toNat k 0 1 (by omega) (by omega) (by omega) (by omega) (by omega) (by omega) (by omega)]
    simp

theorem WaitAfter : penelopelaw17_WaitAfter.Pure := by
  intro a0 a1 h0 h1
  have b1 := wf64 h1
  refine ⟨80, ?_⟩
  unfold penelopelaw17_WaitAfter.f
  rw [alive_f 80 (by omega)]
  simp only [Option.bind_some, if_true]
  rw [after_f 80 a0 a1 (by omega) (by omega) (by omega)]
  simp only [Option.bind_some]
  rw [ref_after_f 80 a0 a1 (by omega)]
  simp only [Option.bind_some, if_true]
  rw [all_f 80 a0 a1 (by omega)]
  simp only [Option.bind_some]
  rw [ref_all_f 80 a0 a1 (by omega)]
  simp

end Go.Proofs.Ytijabpabmipdbaa.Pure
