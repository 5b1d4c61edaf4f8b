/- WaitUntil: when any waits are over is as the document says, for every start and every list of parts (of which forty count). -/
import Derived.Test.YtijabpabmipdbaaXx5
import Derived.OpenShut
namespace Go.Proofs.Ytijabpabmipdbaa.Pure
open Go.RowKit Go.Proofs.Ytijabpabmipdbaa.X Go.Proofs.YtijabpabmipdbaaW.PrintWords Go.Proofs.YtijabpabmipdbaaW.PrintLast

/-- What After comes to: the wait, doubled, at most 2^20. -/
def aft (w n : Int) : Int := if w < 1 ∨ n < 1 then 0 else min (w * 2 ^ (n - 1).toNat) 1048576

theorem pow_pos' (n : Nat) : (1 : Int) ≤ 2 ^ n := by
  induction n with
  | zero => simp
  | succ n ih => rw [Int.pow_succ]; omega

theorem mul_ge {x : Int} {n : Nat} (h : 0 ≤ x) : x ≤ x * 2 ^ n := by
  have h1 := pow_pos' n
  have h2 := Int.mul_le_mul_of_nonneg_left h1 h
  omega

theorem mul_step (x : Int) (n : Nat) : x * 2 ^ (n + 1) = 2 * x * 2 ^ n := by
  rw [Int.pow_succ, Int.mul_comm 2 x, Int.mul_assoc, Int.mul_comm (2 ^ n) 2]

theorem min_step {x : Int} {n : Nat} (h : 0 ≤ x) : min (min x 1048576 * 2 ^ n) 1048576 = min (x * 2 ^ n) 1048576 := by
  by_cases hx : x ≤ 1048576
  · rw [Int.min_eq_left (a := x) (b := 1048576) hx]
  · rw [Int.min_eq_right (a := x) (b := 1048576) (by omega)]
    have h1 := mul_ge (x := 1048576) (n := n) (by omega)
    have h2 := mul_ge (x := x) (n := n) h
    omega

theorem after_l0 (e : Nat) : ∀ (k : Nat) (x0 x1 : Int), 1 ≤ x0 → x0 ≤ 1048576 → -9223372036854775808 ≤ x1 - 1 → x1 ≤ 9223372036854775807 → 1048576 ≤ x0 * 2 ^ e → e < k →
    wait_After.l0 k x0 x1 = some (min (x0 * 2 ^ (x1 - 1).toNat) 1048576) := by
  induction e with
  | zero =>
    intro k x0 x1 h0 h1 h2 h3 he hk
    obtain ⟨k, rfl⟩ : ∃ m, k = m + 1 := ⟨k - 1, by omega⟩
    have hx : x0 = 1048576 := by simp at he; omega
    have hg := mul_ge (x := x0) (n := (x1 - 1).toNat) (by omega)
    simp only [wait_After.l0]
    have hm : mn x0 1048576 = min (x0 * 2 ^ (x1 - 1).toNat) 1048576 := by unfold mn; split <;> omega
    by_cases hc : x1 > 1
    · rw [if_pos hc, if_neg (by omega), hm]
    · rw [if_neg hc, hm]
  | succ e ih =>
    intro k x0 x1 h0 h1 h2 h3 he hk
    obtain ⟨k, rfl⟩ : ∃ m, k = m + 1 := ⟨k - 1, by omega⟩
    simp only [wait_After.l0]
    by_cases hc : x1 > 1
    · rw [if_pos hc]
      by_cases hd : x0 < 1048576
      · rw [if_pos hd]
        have e1 : wrap64 (x0 * 2) = 2 * x0 := by unfold wrap64; omega
        have e2 : wrap64 (x1 - 1) = x1 - 1 := by unfold wrap64; omega
        have e3 : (x1 - 1).toNat = (x1 - 1 - 1).toNat + 1 := by omega
        rw [e1, e2, e3, mul_step]
        by_cases hs : 2 * x0 ≤ 1048576
        · exact ih k (2 * x0) (x1 - 1) (by omega) hs (by omega) (by omega) (by rw [← mul_step]; exact he) (by omega)
        · have hg := mul_ge (x := 2 * x0) (n := (x1 - 1 - 1).toNat) (by omega)
          obtain ⟨k, rfl⟩ : ∃ m, k = m + 1 := ⟨k - 1, by omega⟩
          simp only [wait_After.l0]
          have hm : mn (2 * x0) 1048576 = min (2 * x0 * 2 ^ (x1 - 1 - 1).toNat) 1048576 := by unfold mn; split <;> omega
          by_cases hc' : x1 - 1 > 1
          · rw [if_pos hc', if_neg (by omega), hm]
          · rw [if_neg hc', hm]
      · rw [if_neg hd]
        have hg := mul_ge (x := x0) (n := (x1 - 1).toNat) (by omega)
        congr 1
        unfold mn; split <;> omega
    · rw [if_neg hc]
      have e3 : (x1 - 1).toNat = 0 := by omega
      rw [e3]
      congr 1
      simp
      unfold mn; split <;> omega

theorem after_f (k : Nat) (w n : Int) (hn : -9223372036854775808 ≤ n) (hn2 : n ≤ 9223372036854775807) (hk : 24 ≤ k) : wait_After.f k w n = some (aft w n) := by
  obtain ⟨k, rfl⟩ : ∃ m, k = m + 1 := ⟨k - 1, by omega⟩
  unfold wait_After.f aft
  by_cases hw : w < 1
  · rw [if_pos hw, if_pos (.inl hw)]; simp [wait_After.j0]
  · rw [if_neg hw]
    by_cases hn1 : n < 1
    · rw [if_pos (.inr hn1), decide_eq_true hn1]; simp [wait_After.j0]
    · rw [if_neg (by omega), decide_eq_false hn1]
      simp only [wait_After.j0]
      rw [if_neg (by simp)]
      have hm : mn w 1048576 = min w 1048576 := by unfold mn; split <;> omega
      rw [hm, ← min_step (by omega)]
      exact after_l0 20 k _ n (by omega) (by omega) (by omega) hn2 (by have : 1 ≤ min w 1048576 := by omega
                                                                       omega) (by omega)

theorem aft_bd (w n : Int) : 0 ≤ aft w n ∧ aft w n ≤ 1048576 := by
  unfold aft
  split
  · omega
  · have := mul_ge (x := w) (n := (n - 1).toNat) (by omega)
    omega

theorem aft_double {w n : Int} (hn : 1 ≤ n) : aft w (n + 1) = min (2 * aft w n) 1048576 := by
  unfold aft
  by_cases hw : w < 1
  · rw [if_pos (.inl hw), if_pos (.inl hw)]; rfl
  · rw [if_neg (by omega), if_neg (by omega)]
    have e3 : (n + 1 - 1).toNat = (n - 1).toNat + 1 := by omega
    rw [e3, Int.pow_succ, ← Int.mul_assoc]
    have := mul_ge (x := w) (n := (n - 1).toNat) (by omega)
    omega

theorem aft_one {w : Int} (h : 0 ≤ w) : aft w 1 = min w 1048576 := by
  unfold aft
  by_cases hw : w < 1
  · rw [if_pos (.inl hw)]; omega
  · rw [if_neg (by omega)]; simp

theorem aft_zero (w : Int) : aft w 0 = 0 := by unfold aft; rw [if_pos (.inr (by omega))]
theorem aft_neg {w n : Int} (h : w < 1) : aft w n = 0 := by unfold aft; rw [if_pos (.inl h)]

theorem aft_mono {w v n : Int} (h : w ≤ v) : aft w n ≤ aft v n := by
  unfold aft
  by_cases hw : w < 1 ∨ n < 1
  · rw [if_pos hw]
    split
    · omega
    · have := mul_ge (x := v) (n := (n - 1).toNat) (by omega)
      omega
  · rw [if_neg hw, if_neg (by omega)]
    have := Int.mul_le_mul_of_nonneg_right h (show (0 : Int) ≤ 2 ^ (n - 1).toNat by have := pow_pos' (n - 1).toNat; omega)
    omega

theorem alive_f (k : Nat) (hk : 24 ≤ k) : penelopelaw17_alive.f k = some true := by
  unfold penelopelaw17_alive.f
  rw [after_f k 3 3 (by omega) (by omega) hk]
  rfl

theorem wf64 {a : Int} (h : (Lit.int .i64 a).wf = true) : -9223372036854775808 ≤ a ∧ a ≤ 9223372036854775807 := by
  simp only [Lit.wf, Bool.and_eq_true, decide_eq_true_eq] at h
  have h1 : IntKind.i64.min = -9223372036854775808 := by decide
  have h2 : IntKind.i64.max = 9223372036854775807 := by decide
  rw [h1, h2] at h
  exact h
/-- What a part counts. -/
def cnt (p : Int) : Int := min (max p 0) 1099511627776
def csum (l : List Int) : Int := (l.map cnt).sum
theorem cnt_bd (p : Int) : 0 ≤ cnt p ∧ cnt p ≤ 1099511627776 := by unfold cnt; omega
theorem csum_cons (p : Int) (l : List Int) : csum (p :: l) = cnt p + csum l := by simp [csum]
theorem csum_append (a b : List Int) : csum (a ++ b) = csum a + csum b := by simp [csum]
theorem csum_nonneg (l : List Int) : 0 ≤ csum l := by
  induction l with
  | nil => simp [csum]
  | cons p l ih => rw [csum_cons]; have := cnt_bd p; omega
theorem csum_ge {p : Int} {l : List Int} (h : p ∈ l) : cnt p ≤ csum l := by
  induction l with
  | nil => cases h
  | cons q l ih =>
    rw [csum_cons]
    have h1 := cnt_bd q
    have h2 := csum_nonneg l
    rcases List.mem_cons.1 h with rfl | h
    · omega
    · have := ih h; omega
theorem csum_turned (l : List Int) (n : Nat) : csum (l.drop n ++ l.take n) = csum l := by
  conv => rhs; rw [← List.take_append_drop n l]
  rw [csum_append, csum_append, Int.add_comm]
theorem cnt_mn (p : Int) : mn (mx p 0) 1099511627776 = cnt p := by unfold mn mx cnt; split <;> split <;> omega
theorem mn_min (a b : Int) : mn a b = min a b := by unfold mn; split <;> omega
theorem rd_at {l : List Int} {i : Int} (h0 : 0 ≤ i) (h : i < l.length) : rd l i = l[i.toNat]'(by omega) := by
  unfold rd
  have : i.toNat < l.length := by omega
  simp [List.getD, this]
theorem until_l0 (xs : List Int) (hn : xs.length ≤ 17592186044416) (d : Nat) : ∀ (k : Nat) (s i : Int), 0 ≤ s → s ≤ 1099511627776 → 0 ≤ i → i ≤ xs.length → (xs.length : Int) - i = d → d < k →
    wait_Until.l0 k s xs (xs.length : Int) i = some (min (s + csum (xs.drop i.toNat)) 1099511627776) := by
  induction d with
  | zero =>
    intro k s i h0 h1 h2 h3 hd hk
    obtain ⟨k, rfl⟩ : ∃ m, k = m + 1 := ⟨k - 1, by omega⟩
    simp only [wait_Until.l0]
    rw [if_neg (by omega), List.drop_of_length_le (by omega)]
    simp [csum]
    omega
  | succ d ih =>
    intro k s i h0 h1 h2 h3 hd hk
    obtain ⟨k, rfl⟩ : ∃ m, k = m + 1 := ⟨k - 1, by omega⟩
    simp only [wait_Until.l0]
    have hj : i.toNat < xs.length := by omega
    have hb := cnt_bd (xs[i.toNat])
    have e1 : wrap64 (i + 1) = i + 1 := by unfold wrap64; omega
    have e2 : wrap64 (s + cnt (xs[i.toNat])) = s + cnt (xs[i.toNat]) := by unfold wrap64; omega
    have hc := csum_nonneg (xs.drop (i.toNat + 1))
    rw [if_pos (by omega), if_pos h2, if_pos (by omega), cnt_mn, rd_at h2 (by omega), e1, e2, mn_min, ih k _ (i + 1) (by omega) (by omega) (by omega) (by omega) (by omega) (by omega)]
    rw [List.drop_eq_getElem_cons hj, csum_cons, show (i + 1).toNat = i.toNat + 1 from by omega]
    congr 1
    omega
theorem until_f (k : Nat) (a : Int) (l : List Int) (hl : l.length ≤ 40) (hk : 50 ≤ k) : wait_Until.f k a l = some (min (cnt a + csum l) 1099511627776) := by
  unfold wait_Until.f
  simp only [Option.bind_some]
  rw [if_pos (by simp; omega)]
  have := until_l0 ([a] ++ l) (by simp; omega) ([a] ++ l).length k 0 0 (by omega) (by omega) (by omega) (by omega) (by omega) (by simp; omega)
  rw [this]
  simp [csum_cons]
theorem ref_until_l0 (xs : List Int) (hn : xs.length ≤ 17592186044416) (d : Nat) : ∀ (k : Nat) (s i : Int), 0 ≤ s → 0 ≤ i → i ≤ xs.length → (xs.length : Int) - i = d → 2 * d + 1 < k →
    peneloperef17_Until.l0 k s xs (xs.length : Int) i = some (min (s + csum (xs.drop i.toNat)) 1099511627776) := by
  induction d with
  | zero =>
    intro k s i h0 h2 h3 hd hk
    obtain ⟨k, rfl⟩ : ∃ m, k = m + 1 := ⟨k - 1, by omega⟩
    simp only [peneloperef17_Until.l0]
    rw [if_neg (by omega), List.drop_of_length_le (by omega)]
    simp only [csum, List.map_nil, List.sum_nil, Int.add_zero]
    split
    · congr 1; omega
    · congr 1; omega
  | succ d ih =>
    intro k s i h0 h2 h3 hd hk
    obtain ⟨k, rfl⟩ : ∃ m, k = m + 2 := ⟨k - 2, by omega⟩
    have hj : i.toNat < xs.length := by omega
    have e1 : wrap64 (i + 1) = i + 1 := by unfold wrap64; omega
    have hc := csum_nonneg (xs.drop (i.toNat + 1))
    rw [List.drop_eq_getElem_cons hj, csum_cons]
    simp only [peneloperef17_Until.l0]
    rw [if_pos (by omega), if_pos h2, if_pos (by omega), rd_at h2 (by omega)]
    obtain ⟨p, hp⟩ : ∃ p, xs[i.toNat] = p := ⟨_, rfl⟩
    rw [hp]
    by_cases hs : s ≥ 1099511627776
    · rw [if_pos hs]
      simp only [peneloperef17_Until.j2, if_true]
      have := cnt_bd p
      congr 1; omega
    · rw [if_neg hs]
      by_cases hq : p ≥ 1099511627776
      · rw [decide_eq_true hq]
        simp only [peneloperef17_Until.j2, if_true]
        unfold cnt
        congr 1; omega
      · rw [decide_eq_false hq]
        simp only [peneloperef17_Until.j2]
        rw [if_neg (by simp)]
        by_cases h1 : p > 0
        · have e2 : wrap64 (s + p) = s + p := by unfold wrap64; omega
          rw [if_pos h1, e1, e2, ih k (s + p) (i + 1) (by omega) (by omega) (by omega) (by omega) (by omega), show (i + 1).toNat = i.toNat + 1 from by omega]
          unfold cnt
          congr 1; omega
        · rw [if_neg h1, e1, ih k s (i + 1) (by omega) (by omega) (by omega) (by omega) (by omega), show (i + 1).toNat = i.toNat + 1 from by omega]
          unfold cnt
          congr 1; omega
theorem ref_until_f (k : Nat) (a : Int) (l : List Int) (hl : l.length ≤ 40) (hk : 90 ≤ k) : peneloperef17_Until.f k a l = some (min (cnt a + csum l) 1099511627776) := by
  obtain ⟨k, rfl⟩ : ∃ m, k = m + 1 := ⟨k - 1, by omega⟩
  have hc := csum_nonneg l
  unfold peneloperef17_Until.f
  by_cases ha : a > 0
  · rw [if_pos ha]
    simp only [peneloperef17_Until.j0]
    rw [ref_until_l0 l (by omega) l.length k a 0 (by omega) (by omega) (by omega) (by omega) (by omega)]
    unfold cnt
    rw [show (0 : Int).toNat = 0 from rfl, List.drop_zero]
    congr 1; omega
  · rw [if_neg ha]
    simp only [peneloperef17_Until.j0]
    rw [ref_until_l0 l (by omega) l.length k 0 0 (by omega) (by omega) (by omega) (by omega) (by omega)]
    unfold cnt
    rw [show (0 : Int).toNat = 0 from rfl, List.drop_zero]
    congr 1; omega
theorem WaitUntil : penelopelaw17_WaitUntil.Pure := by
  intro a0 l1 h0 h1 h2 h3
  refine ⟨100, ?_⟩
  have hm : (mn (l1.length : Int) 40).toNat ≤ 40 := by rw [mn_min]; omega
  unfold penelopelaw17_WaitUntil.f
  rw [if_pos (by rw [mn_min]; omega), if_pos (by rw [mn_min]; omega), alive_f 100 (by omega)]
  simp only [Option.bind_some, if_true]
  have hl : (l1.take (mn (l1.length : Int) 40).toNat).length ≤ 40 := by rw [List.length_take]; omega
  rw [until_f 100 a0 _ hl (by omega)]
  simp only [Option.bind_some]
  rw [ref_until_f 100 a0 _ hl (by omega)]
  simp
end Go.Proofs.Ytijabpabmipdbaa.Pure
