/- TaskEnds: what a beat, a success and a failure make of any state, or why not, is as the document says. -/
import Derived.Test.YtmbpnggldpgcdaaSayTaskEnds
import Derived.OpenShut
import Derived.Lib.Strings
namespace Go.Proofs.Ytmbpnggldpgcdaa.Pure
open Go.RowKit Go.Proofs.Ytmbpnggldpgcdaa.X Go.Proofs.YtmbpnggldpgcdaaW.PrintWords Go.Proofs.YtmbpnggldpgcdaaW.PrintLast

/-- What After comes to: the wait, doubled, at most 2^20. -/
def aft (w n : Int) : Int := if w < 1 ∨ n < 1 then 0 else min (w * 2 ^ (n - 1).toNat) 1048576
theorem pow_pos' (n : Nat) : (1 : Int) ≤ 2 ^ n := by
  induction n with
  | zero => simp
  | succ n ih => rw [Int.pow_succ]; omega
theorem mul_ge {x : Int} {n : Nat} (h : 0 ≤ x) : x ≤ x * 2 ^ n := by
  have h1 := pow_pos' n
  have h2 := Int.mul_le_mul_of_nonneg_left h1 h
  omega
theorem mul_step (x : Int) (n : Nat) : x * 2 ^ (n + 1) = 2 * x * 2 ^ n := by
  rw [Int.pow_succ, Int.mul_comm 2 x, Int.mul_assoc, Int.mul_comm (2 ^ n) 2]
theorem min_step {x : Int} {n : Nat} (h : 0 ≤ x) : min (min x 1048576 * 2 ^ n) 1048576 = min (x * 2 ^ n) 1048576 := by
  by_cases hx : x ≤ 1048576
  · rw [Int.min_eq_left (a := x) (b := 1048576) hx]
  · rw [Int.min_eq_right (a := x) (b := 1048576) (by omega)]
    have h1 := mul_ge (x := 1048576) (n := n) (by omega)
    have h2 := mul_ge (x := x) (n := n) h
    omega
theorem after_l0 (e : Nat) : ∀ (k : Nat) (x0 x1 : Int), 1 ≤ x0 → x0 ≤ 1048576 → -9223372036854775808 ≤ x1 - 1 → x1 ≤ 9223372036854775807 → 1048576 ≤ x0 * 2 ^ e → e < k →
    wait_After.l0 k x0 x1 = some (min (x0 * 2 ^ (x1 - 1).toNat) 1048576) := by
  induction e with
  | zero =>
    intro k x0 x1 h0 h1 h2 h3 he hk
    obtain ⟨k, rfl⟩ : ∃ m, k = m + 1 := ⟨k - 1, by omega⟩
    have hx : x0 = 1048576 := by simp at he; omega
    have hg := mul_ge (x := x0) (n := (x1 - 1).toNat) (by omega)
    simp only [wait_After.l0]
    have hm : mn x0 1048576 = min (x0 * 2 ^ (x1 - 1).toNat) 1048576 := by unfold mn; split <;> omega
    by_cases hc : x1 > 1
    · rw [if_pos hc, if_neg (by omega), hm]
    · rw [if_neg hc, hm]
  | succ e ih =>
    intro k x0 x1 h0 h1 h2 h3 he hk
    obtain ⟨k, rfl⟩ : ∃ m, k = m + 1 := ⟨k - 1, by omega⟩
    simp only [wait_After.l0]
    by_cases hc : x1 > 1
    · rw [if_pos hc]
      by_cases hd : x0 < 1048576
      · rw [if_pos hd]
        have e1 : wrap64 (x0 * 2) = 2 * x0 := by unfold wrap64; omega
        have e2 : wrap64 (x1 - 1) = x1 - 1 := by unfold wrap64; omega
        have e3 : (x1 - 1).toNat = (x1 - 1 - 1).toNat + 1 := by omega
        rw [e1, e2, e3, mul_step]
        by_cases hs : 2 * x0 ≤ 1048576
        · exact ih k (2 * x0) (x1 - 1) (by omega) hs (by omega) (by omega) (by rw [← mul_step]; exact he) (by omega)
        · have hg := mul_ge (x := 2 * x0) (n := (x1 - 1 - 1).toNat) (by omega)
          obtain ⟨k, rfl⟩ : ∃ m, k = m + 1 := ⟨k - 1, by omega⟩
          simp only [wait_After.l0]
          have hm : mn (2 * x0) 1048576 = min (2 * x0 * 2 ^ (x1 - 1 - 1).toNat) 1048576 := by unfold mn; split <;> omega
          by_cases hc' : x1 - 1 > 1
          · rw [if_pos hc', if_neg (by omega), hm]
          · rw [if_neg hc', hm]
      · rw [if_neg hd]
        have hg := mul_ge (x := x0) (n := (x1 - 1).toNat) (by omega)
        congr 1
        unfold mn; split <;> omega
    · rw [if_neg hc]
      have e3 : (x1 - 1).toNat = 0 := by omega
      rw [e3]
      congr 1
      simp
      unfold mn; split <;> omega
theorem after_f (k : Nat) (w n : Int) (hn : -9223372036854775808 ≤ n) (hn2 : n ≤ 9223372036854775807) (hk : 24 ≤ k) : wait_After.f k w n = some (aft w n) := by
  obtain ⟨k, rfl⟩ : ∃ m, k = m + 1 := ⟨k - 1, by omega⟩
  unfold wait_After.f aft
  by_cases hw : w < 1
  · rw [if_pos hw, if_pos (.inl hw)]; simp [wait_After.j0]
  · rw [if_neg hw]
    by_cases hn1 : n < 1
    · rw [if_pos (.inr hn1), decide_eq_true hn1]; simp [wait_After.j0]
    · rw [if_neg (by omega), decide_eq_false hn1]
      simp only [wait_After.j0]
      rw [if_neg (by simp)]
      have hm : mn w 1048576 = min w 1048576 := by unfold mn; split <;> omega
      rw [hm, ← min_step (by omega)]
      exact after_l0 20 k _ n (by omega) (by omega) (by omega) hn2 (by have : 1 ≤ min w 1048576 := by omega
                                                                       omega) (by omega)
theorem aft_bd (w n : Int) : 0 ≤ aft w n ∧ aft w n ≤ 1048576 := by
  unfold aft
  split
  · omega
  · have := mul_ge (x := w) (n := (n - 1).toNat) (by omega)
    omega
theorem aft_double {w n : Int} (hn : 1 ≤ n) : aft w (n + 1) = min (2 * aft w n) 1048576 := by
  unfold aft
  by_cases hw : w < 1
  · rw [if_pos (.inl hw), if_pos (.inl hw)]; rfl
  · rw [if_neg (by omega), if_neg (by omega)]
    have e3 : (n + 1 - 1).toNat = (n - 1).toNat + 1 := by omega
    rw [e3, Int.pow_succ, ← Int.mul_assoc]
    have := mul_ge (x := w) (n := (n - 1).toNat) (by omega)
    omega
theorem aft_one {w : Int} (h : 0 ≤ w) : aft w 1 = min w 1048576 := by
  unfold aft
  by_cases hw : w < 1
  · rw [if_pos (.inl hw)]; omega
  · rw [if_neg (by omega)]; simp
theorem aft_zero (w : Int) : aft w 0 = 0 := by unfold aft; rw [if_pos (.inr (by omega))]
theorem aft_neg {w n : Int} (h : w < 1) : aft w n = 0 := by unfold aft; rw [if_pos (.inl h)]
theorem aft_mono {w v n : Int} (h : w ≤ v) : aft w n ≤ aft v n := by
  unfold aft
  by_cases hw : w < 1 ∨ n < 1
  · rw [if_pos hw]
    split
    · omega
    · have := mul_ge (x := v) (n := (n - 1).toNat) (by omega)
      omega
  · rw [if_neg hw, if_neg (by omega)]
    have := Int.mul_le_mul_of_nonneg_right h (show (0 : Int) ≤ 2 ^ (n - 1).toNat by have := pow_pos' (n - 1).toNat; omega)
    omega
theorem wf64 {a : Int} (h : (Lit.int .i64 a).wf = true) : -9223372036854775808 ≤ a ∧ a ≤ 9223372036854775807 := by
  simp only [Lit.wf, Bool.and_eq_true, decide_eq_true_eq] at h
  have h1 : IntKind.i64.min = -9223372036854775808 := by decide
  have h2 : IntKind.i64.max = 9223372036854775807 := by decide
  rw [h1, h2] at h
  exact h
theorem pow_le {a b : Nat} (h : a ≤ b) : (2 : Int) ^ a ≤ 2 ^ b := by
  obtain ⟨c, rfl⟩ : ∃ c, b = a + c := ⟨b - a, by omega⟩
  rw [Int.pow_add]
  exact mul_ge (by have := pow_pos' a; omega)
theorem ref_l0 (d : Nat) : ∀ (k : Nat) (x0 x1 x5 : Int), 1 ≤ x0 → 1 ≤ x5 → x1 ≤ 40 → x5 ≤ 40 → x0 ≤ 1048576 * 2 ^ (x5 - 1).toNat → (x1 - x5).toNat = d → d < k →
    peneloperef17_After.l0 k x0 x1 x5 = some (min (x0 * 2 ^ d) 1048576) := by
  have hp : ∀ m : Nat, m ≤ 39 → (2 : Int) ^ m ≤ 549755813888 := by
    intro m hm
    have := pow_le hm
    simpa using this
  induction d with
  | zero =>
    intro k x0 x1 x5 h0 h1 h2 h3 h4 hd hk
    obtain ⟨k, rfl⟩ : ∃ m, k = m + 1 := ⟨k - 1, by omega⟩
    simp only [peneloperef17_After.l0]
    rw [if_neg (by omega)]
    simp only [Int.pow_zero, Int.mul_one]
    split
    · congr 1; omega
    · congr 1; omega
  | succ d ih =>
    intro k x0 x1 x5 h0 h1 h2 h3 h4 hd hk
    obtain ⟨k, rfl⟩ : ∃ m, k = m + 1 := ⟨k - 1, by omega⟩
    simp only [peneloperef17_After.l0]
    have := hp (x5 - 1).toNat (by omega)
    have e1 : wrap64 (2 * x0) = 2 * x0 := by unfold wrap64; omega
    have e2 : wrap64 (x5 + 1) = x5 + 1 := by unfold wrap64; omega
    have e3 : (x5 + 1 - 1).toNat = (x5 - 1).toNat + 1 := by omega
    rw [if_pos (by omega), e1, e2, mul_step]
    exact ih k (2 * x0) x1 (x5 + 1) (by omega) (by omega) h2 (by omega) (by rw [e3, Int.pow_succ]; omega) (by omega) (by omega)
theorem ref_after_f (k : Nat) (w n : Int) (hk : 60 ≤ k) : peneloperef17_After.f k w n = some (aft w n) := by
  obtain ⟨k, rfl⟩ : ∃ m, k = m + 2 := ⟨k - 2, by omega⟩
  unfold peneloperef17_After.f aft
  by_cases hw : w < 1
  · rw [if_pos hw, if_pos (.inl hw)]; simp [peneloperef17_After.j0]
  · rw [if_neg hw]
    by_cases hn : n < 1
    · rw [if_pos (.inr hn), decide_eq_true hn]; simp [peneloperef17_After.j0]
    · rw [if_neg (by omega), decide_eq_false hn]
      simp only [peneloperef17_After.j0]
      rw [if_neg (by simp)]
      have hg := mul_ge (x := w) (n := (n - 1).toNat) (by omega)
      by_cases hw2 : w ≥ 1048576
      · rw [if_pos hw2]
        simp only [peneloperef17_After.j1, if_true]
        congr 1; omega
      · rw [if_neg hw2]
        by_cases hn2 : n > 40
        · rw [decide_eq_true hn2]
          simp only [peneloperef17_After.j1, if_true]
          have h1 : (2 : Int) ^ 40 ≤ 2 ^ (n - 1).toNat := pow_le (by omega)
          have h2 := Int.mul_le_mul_of_nonneg_right (show (1 : Int) ≤ w by omega) (show (0 : Int) ≤ 2 ^ (n - 1).toNat by omega)
          congr 1; omega
        · rw [decide_eq_false hn2]
          simp only [peneloperef17_After.j1]
          rw [if_neg (by simp)]
          exact ref_l0 (n - 1).toNat k w n 1 (by omega) (by omega) (by omega) (by omega) (by simp; omega) rfl (by omega)
/-- What a part counts. -/
def cnt (p : Int) : Int := min (max p 0) 1099511627776
def csum (l : List Int) : Int := (l.map cnt).sum
theorem cnt_bd (p : Int) : 0 ≤ cnt p ∧ cnt p ≤ 1099511627776 := by unfold cnt; omega
theorem csum_cons (p : Int) (l : List Int) : csum (p :: l) = cnt p + csum l := by simp [csum]
theorem csum_append (a b : List Int) : csum (a ++ b) = csum a + csum b := by simp [csum]
theorem csum_nonneg (l : List Int) : 0 ≤ csum l := by
  induction l with
  | nil => simp [csum]
  | cons p l ih => rw [csum_cons]; have := cnt_bd p; omega
theorem csum_ge {p : Int} {l : List Int} (h : p ∈ l) : cnt p ≤ csum l := by
  induction l with
  | nil => cases h
  | cons q l ih =>
    rw [csum_cons]
    have h1 := cnt_bd q
    have h2 := csum_nonneg l
    rcases List.mem_cons.1 h with rfl | h
    · omega
    · have := ih h; omega
theorem csum_turned (l : List Int) (n : Nat) : csum (l.drop n ++ l.take n) = csum l := by
  conv => rhs; rw [← List.take_append_drop n l]
  rw [csum_append, csum_append, Int.add_comm]
theorem cnt_mn (p : Int) : mn (mx p 0) 1099511627776 = cnt p := by unfold mn mx cnt; split <;> split <;> omega
theorem mn_min (a b : Int) : mn a b = min a b := by unfold mn; split <;> omega
theorem rd_at {l : List Int} {i : Int} (h0 : 0 ≤ i) (h : i < l.length) : rd l i = l[i.toNat]'(by omega) := by
  unfold rd
  have : i.toNat < l.length := by omega
  simp [List.getD, this]
theorem until_l0 (xs : List Int) (hn : xs.length ≤ 17592186044416) (d : Nat) : ∀ (k : Nat) (s i : Int), 0 ≤ s → s ≤ 1099511627776 → 0 ≤ i → i ≤ xs.length → (xs.length : Int) - i = d → d < k →
    wait_Until.l0 k s xs (xs.length : Int) i = some (min (s + csum (xs.drop i.toNat)) 1099511627776) := by
  induction d with
  | zero =>
    intro k s i h0 h1 h2 h3 hd hk
    obtain ⟨k, rfl⟩ : ∃ m, k = m + 1 := ⟨k - 1, by omega⟩
    simp only [wait_Until.l0]
    rw [if_neg (by omega), List.drop_of_length_le (by omega)]
    simp [csum]
    omega
  | succ d ih =>
    intro k s i h0 h1 h2 h3 hd hk
    obtain ⟨k, rfl⟩ : ∃ m, k = m + 1 := ⟨k - 1, by omega⟩
    simp only [wait_Until.l0]
    have hj : i.toNat < xs.length := by omega
    have hb := cnt_bd (xs[i.toNat])
    have e1 : wrap64 (i + 1) = i + 1 := by unfold wrap64; omega
    have e2 : wrap64 (s + cnt (xs[i.toNat])) = s + cnt (xs[i.toNat]) := by unfold wrap64; omega
    have hc := csum_nonneg (xs.drop (i.toNat + 1))
    rw [if_pos (by omega), if_pos h2, if_pos (by omega), cnt_mn, rd_at h2 (by omega), e1, e2, mn_min, ih k _ (i + 1) (by omega) (by omega) (by omega) (by omega) (by omega) (by omega)]
    rw [List.drop_eq_getElem_cons hj, csum_cons, show (i + 1).toNat = i.toNat + 1 from by omega]
    congr 1
    omega
theorem until_f (k : Nat) (a : Int) (l : List Int) (hl : l.length ≤ 40) (hk : 50 ≤ k) : wait_Until.f k a l = some (min (cnt a + csum l) 1099511627776) := by
  unfold wait_Until.f
  simp only [Option.bind_some]
  rw [if_pos (by simp; omega)]
  have := until_l0 ([a] ++ l) (by simp; omega) ([a] ++ l).length k 0 0 (by omega) (by omega) (by omega) (by omega) (by omega) (by simp; omega)
  rw [this]
  simp [csum_cons]
theorem ref_until_l0 (xs : List Int) (hn : xs.length ≤ 17592186044416) (d : Nat) : ∀ (k : Nat) (s i : Int), 0 ≤ s → 0 ≤ i → i ≤ xs.length → (xs.length : Int) - i = d → 2 * d + 1 < k →
    peneloperef17_Until.l0 k s xs (xs.length : Int) i = some (min (s + csum (xs.drop i.toNat)) 1099511627776) := by
  induction d with
  | zero =>
    intro k s i h0 h2 h3 hd hk
    obtain ⟨k, rfl⟩ : ∃ m, k = m + 1 := ⟨k - 1, by omega⟩
    simp only [peneloperef17_Until.l0]
    rw [if_neg (by omega), List.drop_of_length_le (by omega)]
    simp only [csum, List.map_nil, List.sum_nil, Int.add_zero]
    split
    · congr 1; omega
    · congr 1; omega
  | succ d ih =>
    intro k s i h0 h2 h3 hd hk
    obtain ⟨k, rfl⟩ : ∃ m, k = m + 2 := ⟨k - 2, by omega⟩
    have hj : i.toNat < xs.length := by omega
    have e1 : wrap64 (i + 1) = i + 1 := by unfold wrap64; omega
    have hc := csum_nonneg (xs.drop (i.toNat + 1))
    rw [List.drop_eq_getElem_cons hj, csum_cons]
    simp only [peneloperef17_Until.l0]
    rw [if_pos (by omega), if_pos h2, if_pos (by omega), rd_at h2 (by omega)]
    obtain ⟨p, hp⟩ : ∃ p, xs[i.toNat] = p := ⟨_, rfl⟩
    rw [hp]
    by_cases hs : s ≥ 1099511627776
    · rw [if_pos hs]
      simp only [peneloperef17_Until.j2, if_true]
      have := cnt_bd p
      congr 1; omega
    · rw [if_neg hs]
      by_cases hq : p ≥ 1099511627776
      · rw [decide_eq_true hq]
        simp only [peneloperef17_Until.j2, if_true]
        unfold cnt
        congr 1; omega
      · rw [decide_eq_false hq]
        simp only [peneloperef17_Until.j2]
        rw [if_neg (by simp)]
        by_cases h1 : p > 0
        · have e2 : wrap64 (s + p) = s + p := by unfold wrap64; omega
          rw [if_pos h1, e1, e2, ih k (s + p) (i + 1) (by omega) (by omega) (by omega) (by omega) (by omega), show (i + 1).toNat = i.toNat + 1 from by omega]
          unfold cnt
          congr 1; omega
        · rw [if_neg h1, e1, ih k s (i + 1) (by omega) (by omega) (by omega) (by omega) (by omega), show (i + 1).toNat = i.toNat + 1 from by omega]
          unfold cnt
          congr 1; omega
theorem ref_until_f (k : Nat) (a : Int) (l : List Int) (hl : l.length ≤ 40) (hk : 90 ≤ k) : peneloperef17_Until.f k a l = some (min (cnt a + csum l) 1099511627776) := by
  obtain ⟨k, rfl⟩ : ∃ m, k = m + 1 := ⟨k - 1, by omega⟩
  have hc := csum_nonneg l
  unfold peneloperef17_Until.f
  by_cases ha : a > 0
  · rw [if_pos ha]
    simp only [peneloperef17_Until.j0]
    rw [ref_until_l0 l (by omega) l.length k a 0 (by omega) (by omega) (by omega) (by omega) (by omega)]
    unfold cnt
    rw [show (0 : Int).toNat = 0 from rfl, List.drop_zero]
    congr 1; omega
  · rw [if_neg ha]
    simp only [peneloperef17_Until.j0]
    rw [ref_until_l0 l (by omega) l.length k 0 0 (by omega) (by omega) (by omega) (by omega) (by omega)]
    unfold cnt
    rw [show (0 : Int).toNat = 0 from rfl, List.drop_zero]
    congr 1; omega
/-! What the calls on one task come to, as plain functions. -/
def unt (a : Int) (l : List Int) : Int := min (cnt a + csum l) 1099511627776
theorem unt_f (k : Nat) (a : Int) (l : List Int) (hl : l.length ≤ 40) (hk : 50 ≤ k) : wait_Until.f k a l = some (unt a l) := until_f k a l hl hk
theorem unt_bd (a : Int) (l : List Int) : 0 ≤ unt a l ∧ unt a l ≤ 1099511627776 := by
  have h1 := cnt_bd a
  have h2 := csum_nonneg l
  unfold unt
  omega
theorem unt_nil (a : Int) : unt a [] = cnt a := by
  have := cnt_bd a
  simp [unt, csum]
  omega
theorem unt_one (a b : Int) : unt a [b] = min (cnt a + cnt b) 1099511627776 := by simp [unt, csum]
abbrev St := Int × Int × Int × Int × ByteArray
def noText : ByteArray := ⟨#[]⟩
theorem ref_unt_f (k : Nat) (a : Int) (l : List Int) (hl : l.length ≤ 40) (hk : 90 ≤ k) : peneloperef17_Until.f k a l = some (unt a l) := ref_until_f k a l hl hk
/-- A beat: what it makes of a state. -/
def beatV (lease is tried tok : Int) (res : ByteArray) (now : Int) : Int × Int × Int × Int × ByteArray × Int :=
  if is = 2 then (is, tried, unt now [lease], tok, res, 0) else (0, 0, 0, 0, noText, 191)
theorem beat_f (k : Nat) (hk : 60 ≤ k) (l0 : List Int) (tries wait lease is tried due tok : Int) (res : ByteArray) (now : Int) :
    task_Beat.f k l0 tries wait lease is tried due tok res now = some (beatV lease is tried tok res now) := by
  unfold task_Beat.f beatV
  by_cases i2 : is = 2
  · rw [if_pos i2, unt_f k now _ (by simp) (by omega), if_pos i2]
    rfl
  · rw [if_neg i2, if_neg i2]
    rfl
/-- A success: what it makes of a state. -/
def doneV (is tried : Int) (result : ByteArray) : Int × Int × Int × Int × ByteArray × Int :=
  if is = 2 then (if result.size ≤ 16 then (3, tried, 0, 0, result, 0) else (0, 0, 0, 0, noText, 1)) else (0, 0, 0, 0, noText, 191)
theorem done_f (l0 : List Int) (tries wait lease is tried due tok : Int) (res result : ByteArray) :
    task_Done.f l0 tries wait lease is tried due tok res result = some (doneV is tried result) := by
  unfold task_Done.f doneV
  by_cases i2 : is = 2
  · rw [if_pos i2, if_pos i2]
    by_cases h : (result.size : Int) > 16
    · rw [if_pos h, if_neg (by omega)]
      rfl
    · rw [if_neg h, if_pos (by omega)]
  · rw [if_neg i2, if_neg i2]
    rfl
theorem ref_beat_f (k : Nat) (hk : 100 ≤ k) (l0 : List Int) (tries wait lease is tried due tok : Int) (res : ByteArray) (now : Int) :
    peneloperef18_Beat.f k l0 tries wait lease is tried due tok res now = some (beatV lease is tried tok res now) := by
  unfold peneloperef18_Beat.f beatV
  by_cases i2 : is = 2
  · rw [if_pos i2, ref_unt_f k now _ (by simp) (by omega), if_pos i2]
    rfl
  · rw [if_neg i2, if_neg i2]
    rfl
theorem ref_done_f (is tried due tok : Int) (res result : ByteArray) :
    peneloperef18_Done.f is tried due tok res result = some (doneV is tried result) := by
  unfold peneloperef18_Done.f doneV
  by_cases i2 : is = 2
  · rw [if_pos i2, if_pos i2]
    by_cases h : (result.size : Int) > 16
    · rw [if_pos h, if_neg (by omega)]
      rfl
    · rw [if_neg h, if_pos (by omega)]
  · rw [if_neg i2, if_neg i2]
    rfl
/-- A failure: what it makes of a state. -/
def failV (tries wait is tried : Int) (res : ByteArray) (now : Int) : Int × Int × Int × Int × ByteArray × Int :=
  if is = 2 then (if tried ≥ tries then (4, tried, 0, 0, res, 0) else (1, tried, unt now [aft wait tried], 0, res, 0)) else (0, 0, 0, 0, noText, 191)
theorem fail_f (k : Nat) (hk : 60 ≤ k) (l0 : List Int) (tries wait lease is tried due tok : Int) (res : ByteArray) (now : Int) (h1 : -9223372036854775808 ≤ tried) (h2 : tried ≤ 9223372036854775807) :
    task_Fail.f k l0 tries wait lease is tried due tok res now = some (failV tries wait is tried res now) := by
  unfold task_Fail.f failV
  by_cases i2 : is = 2
  · rw [if_pos i2, if_pos i2]
    by_cases h : tried ≥ tries
    · rw [if_pos h, if_pos h]
    · rw [if_neg h, if_neg h, after_f k wait tried h1 h2 (by omega)]
      simp only [Option.bind_some]
      rw [unt_f k now _ (by simp) (by omega)]
      rfl
  · rw [if_neg i2, if_neg i2]
    rfl
theorem ref_fail_f (k : Nat) (hk : 100 ≤ k) (l0 : List Int) (tries wait lease is tried due tok : Int) (res : ByteArray) (now : Int) :
    peneloperef18_Fail.f k l0 tries wait lease is tried due tok res now = some (failV tries wait is tried res now) := by
  unfold peneloperef18_Fail.f failV
  by_cases i2 : is = 2
  · rw [if_pos i2, if_pos i2]
    by_cases h : tried ≥ tries
    · rw [if_pos h, if_pos h]
    · rw [if_neg h, if_neg h, ref_after_f k wait tried (by omega)]
      simp only [Option.bind_some]
      rw [ref_unt_f k now _ (by simp) (by omega)]
      rfl
  · rw [if_neg i2, if_neg i2]
    rfl
theorem alive_f : penelopelaw18_alive.f = some true := by
  unfold penelopelaw18_alive.f task_Ready.f
  simp [Go.Lib.toList_data]
theorem TaskEnds : penelopelaw18_TaskEnds.Pure := by
  intro x0 x1 a2 a3 _ w1 _ _
  have b := bounds_i64 w1.2.1
  refine ⟨100, ?_⟩
  unfold penelopelaw18_TaskEnds.f
  rw [beat_f 100 (by omega)]
  simp only [Option.bind_some]
  rw [ref_beat_f 100 (by omega)]
  simp only [Option.bind_some]
  rw [done_f]
  simp only [Option.bind_some]
  rw [ref_done_f]
  simp only [Option.bind_some]
  rw [fail_f 100 (by omega) _ _ _ _ _ _ _ _ _ _ (by omega) (by omega)]
  simp only [Option.bind_some]
  rw [ref_fail_f 100 (by omega)]
  simp only [Option.bind_some]
  rw [alive_f]
  simp
end Go.Proofs.Ytmbpnggldpgcdaa.Pure
