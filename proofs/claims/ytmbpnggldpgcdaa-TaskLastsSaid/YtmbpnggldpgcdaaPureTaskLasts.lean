/- TaskLasts: whatever is done with a task that was waiting, it may be, is leased at most as often as it may be tried, and once it is done, lost or gone it stays so; for every task and every list of calls, of which sixty count. -/
import Derived.Test.YtmbpnggldpgcdaaSayTaskLasts
import Derived.OpenShut
import Derived.Lib.Strings
namespace Go.Proofs.Ytmbpnggldpgcdaa.Pure
open Go.RowKit Go.Proofs.Ytmbpnggldpgcdaa.X Go.Proofs.YtmbpnggldpgcdaaW.PrintWords Go.Proofs.YtmbpnggldpgcdaaW.PrintLast

/-- What After comes to: the wait, doubled, at most 2^20. -/
def aft (w n : Int) : Int := if w < 1 ∨ n < 1 then 0 else min (w * 2 ^ (n - 1).toNat) 1048576
theorem pow_pos' (n : Nat) : (1 : Int) ≤ 2 ^ n := by
  induction n with
  | zero => simp
  | succ n ih => rw [Int.pow_succ]; omega
theorem mul_ge {x : Int} {n : Nat} (h : 0 ≤ x) : x ≤ x * 2 ^ n := by
  have h1 := pow_pos' n
  have h2 := Int.mul_le_mul_of_nonneg_left h1 h
  omega
theorem mul_step (x : Int) (n : Nat) : x * 2 ^ (n + 1) = 2 * x * 2 ^ n := by
  rw [Int.pow_succ, Int.mul_comm 2 x, Int.mul_assoc, Int.mul_comm (2 ^ n) 2]
theorem min_step {x : Int} {n : Nat} (h : 0 ≤ x) : min (min x 1048576 * 2 ^ n) 1048576 = min (x * 2 ^ n) 1048576 := by
  by_cases hx : x ≤ 1048576
  · rw [Int.min_eq_left (a := x) (b := 1048576) hx]
  · rw [Int.min_eq_right (a := x) (b := 1048576) (by omega)]
    have h1 := mul_ge (x := 1048576) (n := n) (by omega)
    have h2 := mul_ge (x := x) (n := n) h
    omega
theorem after_l0 (e : Nat) : ∀ (k : Nat) (x0 x1 : Int), 1 ≤ x0 → x0 ≤ 1048576 → -9223372036854775808 ≤ x1 - 1 → x1 ≤ 9223372036854775807 → 1048576 ≤ x0 * 2 ^ e → e < k →
    wait_After.l0 k x0 x1 = some (min (x0 * 2 ^ (x1 - 1).toNat) 1048576) := by
  induction e with
  | zero =>
    intro k x0 x1 h0 h1 h2 h3 he hk
    obtain ⟨k, rfl⟩ : ∃ m, k = m + 1 := ⟨k - 1, by omega⟩
    have hx : x0 = 1048576 := by simp at he; omega
    have hg := mul_ge (x := x0) (n := (x1 - 1).toNat) (by omega)
    simp only [wait_After.l0]
    have hm : mn x0 1048576 = min (x0 * 2 ^ (x1 - 1).toNat) 1048576 := by unfold mn; split <;> omega
    by_cases hc : x1 > 1
    · rw [if_pos hc, if_neg (by omega), hm]
    · rw [if_neg hc, hm]
  | succ e ih =>
    intro k x0 x1 h0 h1 h2 h3 he hk
    obtain ⟨k, rfl⟩ : ∃ m, k = m + 1 := ⟨k - 1, by omega⟩
    simp only [wait_After.l0]
    by_cases hc : x1 > 1
    · rw [if_pos hc]
      by_cases hd : x0 < 1048576
      · rw [if_pos hd]
        have e1 : wrap64 (x0 * 2) = 2 * x0 := by unfold wrap64; omega
        have e2 : wrap64 (x1 - 1) = x1 - 1 := by unfold wrap64; omega
        have e3 : (x1 - 1).toNat = (x1 - 1 - 1).toNat + 1 := by omega
        rw [e1, e2, e3, mul_step]
        by_cases hs : 2 * x0 ≤ 1048576
        · exact ih k (2 * x0) (x1 - 1) (by omega) hs (by omega) (by omega) (by rw [← mul_step]; exact he) (by omega)
        · have hg := mul_ge (x := 2 * x0) (n := (x1 - 1 - 1).toNat) (by omega)
          obtain ⟨k, rfl⟩ : ∃ m, k = m + 1 := ⟨k - 1, by omega⟩
          simp only [wait_After.l0]
          have hm : mn (2 * x0) 1048576 = min (2 * x0 * 2 ^ (x1 - 1 - 1).toNat) 1048576 := by unfold mn; split <;> omega
          by_cases hc' : x1 - 1 > 1
          · rw [if_pos hc', if_neg (by omega), hm]
          · rw [if_neg hc', hm]
      · rw [if_neg hd]
        have hg := mul_ge (x := x0) (n := (x1 - 1).toNat) (by omega)
        congr 1
        unfold mn; split <;> omega
    · rw [if_neg hc]
      have e3 : (x1 - 1).toNat = 0 := by omega
      rw [e3]
      congr 1
      simp
      unfold mn; split <;> omega
theorem after_f (k : Nat) (w n : Int) (hn : -9223372036854775808 ≤ n) (hn2 : n ≤ 9223372036854775807) (hk : 24 ≤ k) : wait_After.f k w n = some (aft w n) := by
  obtain ⟨k, rfl⟩ : ∃ m, k = m + 1 := ⟨k - 1, by omega⟩
  unfold wait_After.f aft
  by_cases hw : w < 1
  · rw [if_pos hw, if_pos (.inl hw)]; simp [wait_After.j0]
  · rw [if_neg hw]
    by_cases hn1 : n < 1
    · rw [if_pos (.inr hn1), decide_eq_true hn1]; simp [wait_After.j0]
    · rw [if_neg (by omega), decide_eq_false hn1]
      simp only [wait_After.j0]
      rw [if_neg (by simp)]
      have hm : mn w 1048576 = min w 1048576 := by unfold mn; split <;> omega
      rw [hm, ← min_step (by omega)]
      exact after_l0 20 k _ n (by omega) (by omega) (by omega) hn2 (by have : 1 ≤ min w 1048576 := by omega
                                                                       omega) (by omega)
theorem aft_bd (w n : Int) : 0 ≤ aft w n ∧ aft w n ≤ 1048576 := by
  unfold aft
  split
  · omega
  · have := mul_ge (x := w) (n := (n - 1).toNat) (by omega)
    omega
theorem aft_double {w n : Int} (hn : 1 ≤ n) : aft w (n + 1) = min (2 * aft w n) 1048576 := by
  unfold aft
  by_cases hw : w < 1
  · rw [if_pos (.inl hw), if_pos (.inl hw)]; rfl
  · rw [if_neg (by omega), if_neg (by omega)]
    have e3 : (n + 1 - 1).toNat = (n - 1).toNat + 1 := by omega
    rw [e3, Int.pow_succ, ← Int.mul_assoc]
    have := mul_ge (x := w) (n := (n - 1).toNat) (by omega)
    omega
theorem aft_one {w : Int} (h : 0 ≤ w) : aft w 1 = min w 1048576 := by
  unfold aft
  by_cases hw : w < 1
  · rw [if_pos (.inl hw)]; omega
  · rw [if_neg (by omega)]; simp
theorem aft_zero (w : Int) : aft w 0 = 0 := by unfold aft; rw [if_pos (.inr (by omega))]
theorem aft_neg {w n : Int} (h : w < 1) : aft w n = 0 := by unfold aft; rw [if_pos (.inl h)]
theorem aft_mono {w v n : Int} (h : w ≤ v) : aft w n ≤ aft v n := by
  unfold aft
  by_cases hw : w < 1 ∨ n < 1
  · rw [if_pos hw]
    split
    · omega
    · have := mul_ge (x := v) (n := (n - 1).toNat) (by omega)
      omega
  · rw [if_neg hw, if_neg (by omega)]
    have := Int.mul_le_mul_of_nonneg_right h (show (0 : Int) ≤ 2 ^ (n - 1).toNat by have := pow_pos' (n - 1).toNat; omega)
    omega
theorem wf64 {a : Int} (h : (Lit.int .i64 a).wf = true) : -9223372036854775808 ≤ a ∧ a ≤ 9223372036854775807 := by
  simp only [Lit.wf, Bool.and_eq_true, decide_eq_true_eq] at h
  have h1 : IntKind.i64.min = -9223372036854775808 := by decide
  have h2 : IntKind.i64.max = 9223372036854775807 := by decide
  rw [h1, h2] at h
  exact h
/-- What a part counts. -/
def cnt (p : Int) : Int := min (max p 0) 1099511627776
def csum (l : List Int) : Int := (l.map cnt).sum
theorem cnt_bd (p : Int) : 0 ≤ cnt p ∧ cnt p ≤ 1099511627776 := by unfold cnt; omega
theorem csum_cons (p : Int) (l : List Int) : csum (p :: l) = cnt p + csum l := by simp [csum]
theorem csum_append (a b : List Int) : csum (a ++ b) = csum a + csum b := by simp [csum]
theorem csum_nonneg (l : List Int) : 0 ≤ csum l := by
  induction l with
  | nil => simp [csum]
  | cons p l ih => rw [csum_cons]; have := cnt_bd p; omega
theorem csum_ge {p : Int} {l : List Int} (h : p ∈ l) : cnt p ≤ csum l := by
  induction l with
  | nil => cases h
  | cons q l ih =>
    rw [csum_cons]
    have h1 := cnt_bd q
    have h2 := csum_nonneg l
    rcases List.mem_cons.1 h with rfl | h
    · omega
    · have := ih h; omega
theorem csum_turned (l : List Int) (n : Nat) : csum (l.drop n ++ l.take n) = csum l := by
  conv => rhs; rw [← List.take_append_drop n l]
  rw [csum_append, csum_append, Int.add_comm]
theorem cnt_mn (p : Int) : mn (mx p 0) 1099511627776 = cnt p := by unfold mn mx cnt; split <;> split <;> omega
theorem mn_min (a b : Int) : mn a b = min a b := by unfold mn; split <;> omega
theorem rd_at {l : List Int} {i : Int} (h0 : 0 ≤ i) (h : i < l.length) : rd l i = l[i.toNat]'(by omega) := by
  unfold rd
  have : i.toNat < l.length := by omega
  simp [List.getD, this]
theorem until_l0 (xs : List Int) (hn : xs.length ≤ 17592186044416) (d : Nat) : ∀ (k : Nat) (s i : Int), 0 ≤ s → s ≤ 1099511627776 → 0 ≤ i → i ≤ xs.length → (xs.length : Int) - i = d → d < k →
    wait_Until.l0 k s xs (xs.length : Int) i = some (min (s + csum (xs.drop i.toNat)) 1099511627776) := by
  induction d with
  | zero =>
    intro k s i h0 h1 h2 h3 hd hk
    obtain ⟨k, rfl⟩ : ∃ m, k = m + 1 := ⟨k - 1, by omega⟩
    simp only [wait_Until.l0]
    rw [if_neg (by omega), List.drop_of_length_le (by omega)]
    simp [csum]
    omega
  | succ d ih =>
    intro k s i h0 h1 h2 h3 hd hk
    obtain ⟨k, rfl⟩ : ∃ m, k = m + 1 := ⟨k - 1, by omega⟩
    simp only [wait_Until.l0]
    have hj : i.toNat < xs.length := by omega
    have hb := cnt_bd (xs[i.toNat])
    have e1 : wrap64 (i + 1) = i + 1 := by unfold wrap64; omega
    have e2 : wrap64 (s + cnt (xs[i.toNat])) = s + cnt (xs[i.toNat]) := by unfold wrap64; omega
    have hc := csum_nonneg (xs.drop (i.toNat + 1))
    rw [if_pos (by omega), if_pos h2, if_pos (by omega), cnt_mn, rd_at h2 (by omega), e1, e2, mn_min, ih k _ (i + 1) (by omega) (by omega) (by omega) (by omega) (by omega) (by omega)]
    rw [List.drop_eq_getElem_cons hj, csum_cons, show (i + 1).toNat = i.toNat + 1 from by omega]
    congr 1
    omega
theorem until_f (k : Nat) (a : Int) (l : List Int) (hl : l.length ≤ 40) (hk : 50 ≤ k) : wait_Until.f k a l = some (min (cnt a + csum l) 1099511627776) := by
  unfold wait_Until.f
  simp only [Option.bind_some]
  rw [if_pos (by simp; omega)]
  have := until_l0 ([a] ++ l) (by simp; omega) ([a] ++ l).length k 0 0 (by omega) (by omega) (by omega) (by omega) (by omega) (by simp; omega)
  rw [this]
  simp [csum_cons]
/-! What the calls on one task come to, as plain functions. -/
def unt (a : Int) (l : List Int) : Int := min (cnt a + csum l) 1099511627776
theorem unt_f (k : Nat) (a : Int) (l : List Int) (hl : l.length ≤ 40) (hk : 50 ≤ k) : wait_Until.f k a l = some (unt a l) := until_f k a l hl hk
theorem unt_bd (a : Int) (l : List Int) : 0 ≤ unt a l ∧ unt a l ≤ 1099511627776 := by
  have h1 := cnt_bd a
  have h2 := csum_nonneg l
  unfold unt
  omega
theorem unt_nil (a : Int) : unt a [] = cnt a := by
  have := cnt_bd a
  simp [unt, csum]
  omega
theorem unt_one (a b : Int) : unt a [b] = min (cnt a + cnt b) 1099511627776 := by simp [unt, csum]
abbrev St := Int × Int × Int × Int × ByteArray
def noText : ByteArray := ⟨#[]⟩
/-- A lease: what it makes of a state; why not. -/
def leaseV (lease is tried due : Int) (res : ByteArray) (now token : Int) : Int × Int × Int × Int × ByteArray × Int :=
  if token < 1 ∨ token > 1099511627776 then (0, 0, 0, 0, noText, 1)
  else if is = 1 ∧ due ≤ unt now [] then (2, wrap64 (tried + 1), unt now [lease], token, res, 0) else (0, 0, 0, 0, noText, 192)
theorem lease_f (k : Nat) (hk : 60 ≤ k) (l0 : List Int) (tries wait lease is tried due tok : Int) (res : ByteArray) (now token : Int) :
    task_Lease.f k l0 tries wait lease is tried due tok res now token = some (leaseV lease is tried due res now token) := by
  obtain ⟨k, rfl⟩ : ∃ m, k = m + 1 := ⟨k - 1, by omega⟩
  unfold task_Lease.f leaseV
  by_cases h1 : token < 1
  · rw [if_pos h1, if_pos (.inl h1)]
    simp only [task_Lease.j0, if_true]
    rfl
  · rw [if_neg h1]
    by_cases h2 : token > 1099511627776
    · rw [decide_eq_true h2, if_pos (.inr h2)]
      simp only [task_Lease.j0, if_true]
      rfl
    · rw [decide_eq_false h2, if_neg (by omega)]
      simp only [task_Lease.j0]
      rw [if_neg (by simp)]
      by_cases h3 : is = 1
      · rw [if_pos h3, unt_f k now [] (by simp) (by omega)]
        simp only [Option.bind_some]
        by_cases h4 : due > unt now []
        · rw [if_pos h4, if_neg (by omega)]
          rfl
        · rw [if_neg h4, unt_f k now [lease] (by simp) (by omega), if_pos (by omega)]
          rfl
      · rw [if_neg h3, if_neg (by omega)]
        rfl
/-- What may stand. -/
def StandsP (is tried due tok : Int) (res : ByteArray) : Prop :=
  0 ≤ is ∧ is ≤ 5 ∧ 0 ≤ tried ∧ tried ≤ 8 ∧ 0 ≤ due ∧ due ≤ 1099511627776 ∧ 0 ≤ tok ∧ tok ≤ 1099511627776 ∧ (tok > 0 ↔ is = 2) ∧ res.size ≤ 16 ∧ (res.data.toList = [] ∨ is = 3)
instance (is tried due tok : Int) (res : ByteArray) : Decidable (StandsP is tried due tok res) := by unfold StandsP; infer_instance
/-- What may be with a task. -/
def RightP (tries is tried due tok : Int) (res : ByteArray) : Prop :=
  StandsP is tried due tok res ∧ tried ≤ tries ∧ (is = 0 → tried = 0 ∧ due = 0) ∧ (is = 1 → tried < tries) ∧ (is = 2 ∨ is = 3 → 1 ≤ tried) ∧ (is = 4 → tried = tries) ∧ (due = 0 ∨ is = 1 ∨ is = 2)
instance (tries is tried due tok : Int) (res : ByteArray) : Decidable (RightP tries is tried due tok res) := by unfold RightP; infer_instance
theorem ofNot {p : Prop} [Decidable p] (h : ¬ p) : some false = some (decide p) := by rw [decide_eq_false h]
theorem ofYes {p : Prop} [Decidable p] (h : p) : some true = some (decide p) := by rw [decide_eq_true h]
theorem ofIff {b : Bool} {p : Prop} [Decidable p] (h : b = true ↔ p) : some b = some (decide p) := by
  congr 1
  by_cases hp : p
  · rw [decide_eq_true hp, h.2 hp]
  · rw [decide_eq_false hp]
    exact Bool.eq_false_iff.2 (fun e => hp (h.1 e))
theorem stands_f (k : Nat) (hk : 1 ≤ k) (is tried due tok : Int) (res : ByteArray) : task_stands.f k is tried due tok res = some (decide (StandsP is tried due tok res)) := by
  obtain ⟨k, rfl⟩ : ∃ m, k = m + 1 := ⟨k - 1, by omega⟩
  unfold task_stands.f
  by_cases h1 : is < 0
  · rw [if_pos h1]; simp only [task_stands.j0, if_true]; exact ofNot (by unfold StandsP; omega)
  rw [if_neg h1]
  by_cases h2 : is > 5
  · rw [if_pos h2]; simp only [task_stands.j0, if_true]; exact ofNot (by unfold StandsP; omega)
  rw [if_neg h2]
  by_cases h3 : tried < 0
  · rw [if_pos h3]; simp only [task_stands.j0, if_true]; exact ofNot (by unfold StandsP; omega)
  rw [if_neg h3]
  by_cases h4 : tried > 8
  · rw [if_pos h4]; simp only [task_stands.j0, if_true]; exact ofNot (by unfold StandsP; omega)
  rw [if_neg h4]
  by_cases h5 : due < 0
  · rw [if_pos h5]; simp only [task_stands.j0, if_true]; exact ofNot (by unfold StandsP; omega)
  rw [if_neg h5]
  simp only [task_stands.j0]
  by_cases h6 : due > 1099511627776
  · rw [if_pos (decide_eq_true h6)]; exact ofNot (by unfold StandsP; omega)
  rw [if_neg (by simpa using h6)]
  by_cases h7 : tok < 0
  · rw [if_pos h7]; exact ofNot (by unfold StandsP; omega)
  rw [if_neg h7]
  by_cases h8 : tok > 1099511627776
  · rw [if_pos h8]; exact ofNot (by unfold StandsP; omega)
  rw [if_neg h8]
  by_cases h9 : tok > 0 ↔ is = 2
  · have e9 : ¬ ((decide (tok > 0) != (is == 2)) = true) := by
      by_cases a : tok > 0 <;> by_cases b : is = 2 <;> simp [a, b] <;> omega
    rw [if_neg e9]
    by_cases h10 : (res.size : Int) ≤ 16
    · rw [if_pos h10]
      by_cases h11 : res.data.toList = []
      · rw [if_pos (by rw [Go.Lib.toList_data]; exact h11)]
        exact ofYes ⟨by omega, by omega, by omega, by omega, by omega, by omega, by omega, by omega, h9, by omega, .inl h11⟩
      · rw [if_neg (by rw [Go.Lib.toList_data]; exact h11)]
        exact ofIff ⟨fun e => ⟨by omega, by omega, by omega, by omega, by omega, by omega, by omega, by omega, h9, by omega, .inr (by simpa using e)⟩, fun e => by
          obtain ⟨_, _, _, _, _, _, _, _, _, _, e⟩ := e
          rcases e with e | e
          · exact absurd e h11
          · simpa using e⟩
    · rw [if_neg h10]; exact ofNot (by unfold StandsP; omega)
  · have e9 : ((decide (tok > 0) != (is == 2)) = true) := by
      by_cases a : tok > 0 <;> by_cases b : is = 2 <;> simp [a, b] <;> omega
    rw [if_pos e9]; exact ofNot (by unfold StandsP; omega)
theorem right_f (k : Nat) (hk : 2 ≤ k) (l0 : List Int) (tries wait lease is tried due tok : Int) (res : ByteArray) :
    task_Right.f k l0 tries wait lease is tried due tok res = some (decide (RightP tries is tried due tok res)) := by
  obtain ⟨k, rfl⟩ : ∃ m, k = m + 1 := ⟨k - 1, by omega⟩
  unfold task_Right.f
  rw [stands_f (k + 1) (by omega)]
  simp only [Option.bind_some]
  by_cases hs : StandsP is tried due tok res
  · rw [if_pos (decide_eq_true hs)]
    simp only [task_Right.j0]
    by_cases h1 : tried > tries
    · rw [if_pos (decide_eq_true h1)]; exact ofNot (by unfold RightP; omega)
    rw [if_neg (by simpa using h1)]
    have hs' := hs
    unfold StandsP at hs'
    by_cases i0 : is = 0
    · rw [if_pos i0]
      refine ofIff ?_
      have hr : res.data.toList = [] := by
        rcases hs'.2.2.2.2.2.2.2.2.2.2 with h | h
        · exact h
        · omega
      simp only [Go.Lib.toList_data, hr, Bool.and_eq_true, beq_iff_eq]
      unfold RightP
      constructor
      · intro h; exact ⟨hs, by omega, by omega, by omega, by omega, by omega, by omega⟩
      · intro h; exact ⟨i0, by omega, by omega, by omega, trivial⟩
    rw [if_neg i0]
    by_cases i1 : is = 1
    · rw [if_pos i1]; exact ofIff (by unfold RightP; simp only [decide_eq_true_eq]; exact ⟨fun h => ⟨hs, by omega, by omega, by omega, by omega, by omega, by omega⟩, fun h => by omega⟩)
    rw [if_neg i1]
    by_cases i2 : is = 2
    · rw [if_pos i2]; exact ofIff (by unfold RightP; simp only [decide_eq_true_eq]; exact ⟨fun h => ⟨hs, by omega, by omega, by omega, by omega, by omega, by omega⟩, fun h => by omega⟩)
    rw [if_neg i2]
    by_cases i4 : is = 4
    · rw [if_pos i4]
      by_cases e : tried = tries
      · rw [if_pos e]; exact ofIff (by unfold RightP; simp only [beq_iff_eq]; exact ⟨fun h => ⟨hs, by omega, by omega, by omega, by omega, by omega, by omega⟩, fun h => by omega⟩)
      · rw [if_neg e]; exact ofNot (by unfold RightP; omega)
    rw [if_neg i4]
    by_cases i5 : is = 5
    · rw [if_pos i5]; exact ofIff (by unfold RightP; simp only [beq_iff_eq]; exact ⟨fun h => ⟨hs, by omega, by omega, by omega, by omega, by omega, by omega⟩, fun h => by omega⟩)
    rw [if_neg i5]
    by_cases e : tried ≥ 1
    · rw [if_pos e]; exact ofIff (by unfold RightP; simp only [beq_iff_eq]; exact ⟨fun h => ⟨hs, by omega, by omega, by omega, by omega, by omega, by omega⟩, fun h => by omega⟩)
    · rw [if_neg e]; exact ofNot (by unfold RightP; omega)
  · rw [if_neg (by simpa using hs)]
    simp only [task_Right.j0, if_true]
    exact ofNot (fun h => hs h.1)
theorem ref_stands_f (k : Nat) (hk : 1 ≤ k) (is tried due tok : Int) (res : ByteArray) : peneloperef18_Stands.f k is tried due tok res = some (decide (StandsP is tried due tok res)) := by
  obtain ⟨k, rfl⟩ : ∃ m, k = m + 1 := ⟨k - 1, by omega⟩
  unfold peneloperef18_Stands.f
  by_cases h1 : is < 0
  · rw [if_pos h1]; simp only [peneloperef18_Stands.j0, if_true]; exact ofNot (by unfold StandsP; omega)
  rw [if_neg h1]
  by_cases h2 : is > 5
  · rw [if_pos h2]; simp only [peneloperef18_Stands.j0, if_true]; exact ofNot (by unfold StandsP; omega)
  rw [if_neg h2]
  by_cases h3 : tried < 0
  · rw [if_pos h3]; simp only [peneloperef18_Stands.j0, if_true]; exact ofNot (by unfold StandsP; omega)
  rw [if_neg h3]
  by_cases h4 : tried > 8
  · rw [if_pos h4]; simp only [peneloperef18_Stands.j0, if_true]; exact ofNot (by unfold StandsP; omega)
  rw [if_neg h4]
  by_cases h5 : due < 0
  · rw [if_pos h5]; simp only [peneloperef18_Stands.j0, if_true]; exact ofNot (by unfold StandsP; omega)
  rw [if_neg h5]
  by_cases h6 : due > 1099511627776
  · rw [if_pos h6]; simp only [peneloperef18_Stands.j0, if_true]; exact ofNot (by unfold StandsP; omega)
  rw [if_neg h6]
  by_cases h7 : tok > 1099511627776
  · rw [if_pos h7]; simp only [peneloperef18_Stands.j0, if_true]; exact ofNot (by unfold StandsP; omega)
  rw [if_neg h7]
  simp only [peneloperef18_Stands.j0]
  by_cases h8 : (res.size : Int) > 16
  · rw [if_pos (decide_eq_true h8)]; exact ofNot (by unfold StandsP; omega)
  rw [if_neg (by simpa using h8)]
  by_cases i2 : is = 2
  · rw [if_pos i2]
    by_cases h9 : tok < 1
    · rw [if_pos h9]; exact ofNot (by unfold StandsP; omega)
    · rw [if_neg h9, if_neg (by omega)]
      refine ofIff ?_
      simp only [Go.Lib.toList_data, beq_iff_eq]
      constructor
      · intro h; exact ⟨by omega, by omega, by omega, by omega, by omega, by omega, by omega, by omega, by omega, by omega, .inl h⟩
      · rintro ⟨_, _, _, _, _, _, _, _, _, _, h | h⟩
        · exact h
        · omega
  · rw [if_neg i2]
    by_cases h9 : tok = 0
    · rw [if_pos h9]
      by_cases i3 : is = 3
      · rw [if_pos i3]
        exact ofYes ⟨by omega, by omega, by omega, by omega, by omega, by omega, by omega, by omega, by omega, by omega, .inr i3⟩
      · rw [if_neg i3]
        refine ofIff ?_
        simp only [Go.Lib.toList_data, beq_iff_eq]
        constructor
        · intro h; exact ⟨by omega, by omega, by omega, by omega, by omega, by omega, by omega, by omega, by omega, by omega, .inl h⟩
        · rintro ⟨_, _, _, _, _, _, _, _, _, _, h | h⟩
          · exact h
          · omega
    · rw [if_neg h9]; exact ofNot (by unfold StandsP; omega)
theorem ref_right_f (k : Nat) (hk : 5 ≤ k) (l0 : List Int) (tries wait lease is tried due tok : Int) (res : ByteArray) :
    peneloperef18_Right.f k l0 tries wait lease is tried due tok res = some (decide (RightP tries is tried due tok res)) := by
  obtain ⟨k, rfl⟩ : ∃ m, k = m + 4 := ⟨k - 4, by omega⟩
  unfold peneloperef18_Right.f
  rw [ref_stands_f (k + 4) (by omega)]
  simp only [Option.bind_some]
  by_cases hs : StandsP is tried due tok res
  · rw [if_pos (decide_eq_true hs)]
    simp only [peneloperef18_Right.j0]
    by_cases h1 : tried > tries
    · rw [if_pos (decide_eq_true h1)]; exact ofNot (by unfold RightP; omega)
    rw [if_neg (by simpa using h1)]
    have hs' := hs
    unfold StandsP at hs'
    by_cases i0 : is = 0
    · rw [if_pos i0]
      by_cases t0 : tried = 0
      · rw [if_pos t0]
        simp only [peneloperef18_Right.j1]
        by_cases d0 : due = 0
        · rw [if_neg (by simpa using d0), if_neg (by omega)]
          simp only [peneloperef18_Right.j2]
          rw [if_neg (by simp), if_neg (by omega), if_neg (by omega)]
          simp only [peneloperef18_Right.j3]
          rw [if_neg (by simp), if_neg (by omega), if_pos d0]
          exact ofYes (by unfold RightP; exact ⟨hs, by omega, by omega, by omega, by omega, by omega, by omega⟩)
        · rw [if_pos (by simpa using d0)]; exact ofNot (by unfold RightP; omega)
      · rw [if_neg t0]
        simp only [peneloperef18_Right.j1, if_true]
        exact ofNot (by unfold RightP; omega)
    rw [if_neg i0]
    simp only [peneloperef18_Right.j1]
    rw [if_neg (by simp)]
    by_cases i1 : is = 1
    · rw [if_pos i1]
      simp only [peneloperef18_Right.j2]
      by_cases h2 : tried ≥ tries
      · rw [if_pos (decide_eq_true h2)]; exact ofNot (by unfold RightP; omega)
      · rw [if_neg (by simpa using h2), if_neg (by omega), if_neg (by omega)]
        simp only [peneloperef18_Right.j3]
        rw [if_neg (by simp), if_neg (by omega)]
        have yes : RightP tries is tried due tok res := by unfold RightP; exact ⟨hs, by omega, by omega, by omega, by omega, by omega, by omega⟩
        by_cases d0 : due = 0
        · rw [if_pos d0]; exact ofYes yes
        · rw [if_neg d0, if_pos i1]; exact ofYes yes
    rw [if_neg i1]
    simp only [peneloperef18_Right.j2]
    rw [if_neg (by simp)]
    by_cases i2 : is = 2
    · rw [if_pos i2]
      simp only [peneloperef18_Right.j3]
      by_cases h2 : tried < 1
      · rw [if_pos (decide_eq_true h2)]; exact ofNot (by unfold RightP; omega)
      · rw [if_neg (by simpa using h2), if_neg (by omega)]
        have yes : RightP tries is tried due tok res := by unfold RightP; exact ⟨hs, by omega, by omega, by omega, by omega, by omega, by omega⟩
        by_cases d0 : due = 0
        · rw [if_pos d0]; exact ofYes yes
        · rw [if_neg d0, if_neg i1]; exact ofIff ⟨fun _ => yes, fun _ => by simpa using i2⟩
    rw [if_neg i2]
    have last : (if due = 0 then some true else if is = 1 then some true else some (is == 2)) = some (decide (due = 0)) := by
      by_cases d0 : due = 0
      · rw [if_pos d0]; exact ofYes d0
      · rw [if_neg d0, if_neg i1]; exact ofIff ⟨fun h => absurd (by simpa using h) i2, fun h => absurd h d0⟩
    by_cases i3 : is = 3
    · rw [if_pos i3]
      simp only [peneloperef18_Right.j3]
      by_cases h2 : tried < 1
      · rw [if_pos (decide_eq_true h2)]; exact ofNot (by unfold RightP; omega)
      · rw [if_neg (by simpa using h2), if_neg (by omega), last]
        exact ofIff (by simp only [decide_eq_true_eq]; unfold RightP; exact ⟨fun h => ⟨hs, by omega, by omega, by omega, by omega, by omega, by omega⟩, fun h => by omega⟩)
    · rw [if_neg i3]
      simp only [peneloperef18_Right.j3]
      rw [if_neg (by simp)]
      by_cases i4 : is = 4
      · rw [if_pos i4]
        by_cases e : tried = tries
        · rw [if_pos e, last]
          exact ofIff (by simp only [decide_eq_true_eq]; unfold RightP; exact ⟨fun h => ⟨hs, by omega, by omega, by omega, by omega, by omega, by omega⟩, fun h => by omega⟩)
        · rw [if_neg e]; exact ofNot (by unfold RightP; omega)
      · rw [if_neg i4, last]
        exact ofIff (by simp only [decide_eq_true_eq]; unfold RightP; exact ⟨fun h => ⟨hs, by omega, by omega, by omega, by omega, by omega, by omega⟩, fun h => by omega⟩)
  · rw [if_neg (by simpa using hs)]
    simp only [peneloperef18_Right.j0, if_true]
    exact ofNot (fun h => hs h.1)
/-- A failure: what it makes of a state. -/
def failV (tries wait is tried : Int) (res : ByteArray) (now : Int) : Int × Int × Int × Int × ByteArray × Int :=
  if is = 2 then (if tried ≥ tries then (4, tried, 0, 0, res, 0) else (1, tried, unt now [aft wait tried], 0, res, 0)) else (0, 0, 0, 0, noText, 191)
theorem fail_f (k : Nat) (hk : 60 ≤ k) (l0 : List Int) (tries wait lease is tried due tok : Int) (res : ByteArray) (now : Int) (h1 : -9223372036854775808 ≤ tried) (h2 : tried ≤ 9223372036854775807) :
    task_Fail.f k l0 tries wait lease is tried due tok res now = some (failV tries wait is tried res now) := by
  unfold task_Fail.f failV
  by_cases i2 : is = 2
  · rw [if_pos i2, if_pos i2]
    by_cases h : tried ≥ tries
    · rw [if_pos h, if_pos h]
    · rw [if_neg h, if_neg h, after_f k wait tried h1 h2 (by omega)]
      simp only [Option.bind_some]
      rw [unt_f k now _ (by simp) (by omega)]
      rfl
  · rw [if_neg i2, if_neg i2]
    rfl
/-- A lease whose time is over is ended as by a failure. -/
def expireV (tries wait is tried due tok : Int) (res : ByteArray) (now : Int) : St :=
  if is = 2 ∧ due ≤ unt now [] then (if tried ≥ tries then (4, tried, 0, 0, res) else (1, tried, unt due [aft wait tried], 0, res)) else (is, tried, due, tok, res)
theorem expire_f (k : Nat) (hk : 60 ≤ k) (l0 : List Int) (tries wait lease is tried due tok : Int) (res : ByteArray) (now : Int) (h1 : -9223372036854775808 ≤ tried) (h2 : tried ≤ 9223372036854775807) :
    task_Expire.f k l0 tries wait lease is tried due tok res now = some (expireV tries wait is tried due tok res now) := by
  unfold task_Expire.f expireV
  by_cases i2 : is = 2
  · rw [if_pos i2, unt_f k now [] (by simp) (by omega)]
    simp only [Option.bind_some]
    by_cases h : due > unt now []
    · rw [if_pos h, if_neg (by omega)]
    · rw [if_neg h, if_pos ⟨i2, by omega⟩, fail_f k hk l0 tries wait lease is tried due tok res due h1 h2]
      unfold failV
      simp only [Option.bind_some]
      rw [if_pos i2]
      split <;> rfl
  · rw [if_neg i2, if_neg (by omega)]
def readyV (is tried due tok : Int) (res : ByteArray) : St := (if is = 0 then 1 else is, tried, due, tok, res)
theorem ready_f (is tried due tok : Int) (res : ByteArray) : task_Ready.f is tried due tok res = some (readyV is tried due tok res) := by
  unfold task_Ready.f readyV
  split <;> rfl
def cancelV (is tried due tok : Int) (res : ByteArray) : St := if is = 0 ∨ is = 1 ∨ is = 2 then (5, tried, 0, 0, res) else (is, tried, due, tok, res)
theorem cancel_f (is tried due tok : Int) (res : ByteArray) : task_Cancel.f is tried due tok res = some (cancelV is tried due tok res) := by
  unfold task_Cancel.f cancelV
  by_cases i0 : is = 0
  · rw [if_pos i0, if_pos (.inl i0)]
  by_cases i1 : is = 1
  · rw [if_neg i0, if_pos i1, if_pos (.inr (.inl i1))]
  by_cases i2 : is = 2
  · rw [if_neg i0, if_neg i1, if_pos i2, if_pos (.inr (.inr i2))]
  rw [if_neg i0, if_neg i1, if_neg i2, if_neg (by omega)]
/-- A beat: what it makes of a state. -/
def beatV (lease is tried tok : Int) (res : ByteArray) (now : Int) : Int × Int × Int × Int × ByteArray × Int :=
  if is = 2 then (is, tried, unt now [lease], tok, res, 0) else (0, 0, 0, 0, noText, 191)
theorem beat_f (k : Nat) (hk : 60 ≤ k) (l0 : List Int) (tries wait lease is tried due tok : Int) (res : ByteArray) (now : Int) :
    task_Beat.f k l0 tries wait lease is tried due tok res now = some (beatV lease is tried tok res now) := by
  unfold task_Beat.f beatV
  by_cases i2 : is = 2
  · rw [if_pos i2, unt_f k now _ (by simp) (by omega), if_pos i2]
    rfl
  · rw [if_neg i2, if_neg i2]
    rfl
/-- A success: what it makes of a state. -/
def doneV (is tried : Int) (result : ByteArray) : Int × Int × Int × Int × ByteArray × Int :=
  if is = 2 then (if result.size ≤ 16 then (3, tried, 0, 0, result, 0) else (0, 0, 0, 0, noText, 1)) else (0, 0, 0, 0, noText, 191)
theorem done_f (l0 : List Int) (tries wait lease is tried due tok : Int) (res result : ByteArray) :
    task_Done.f l0 tries wait lease is tried due tok res result = some (doneV is tried result) := by
  unfold task_Done.f doneV
  by_cases i2 : is = 2
  · rw [if_pos i2, if_pos i2]
    by_cases h : (result.size : Int) > 16
    · rw [if_pos h, if_neg (by omega)]
      rfl
    · rw [if_neg h, if_pos (by omega)]
  · rw [if_neg i2, if_neg i2]
    rfl
theorem alive_f : penelopelaw18_alive.f = some true := by
  unfold penelopelaw18_alive.f task_Ready.f
  simp [Go.Lib.toList_data]
/-! What each call makes of what may be. -/
def R5 (tries : Int) (s : St) : Prop := RightP tries s.1 s.2.1 s.2.2.1 s.2.2.2.1 s.2.2.2.2
def Over (s : St) : Prop := s.1 = 3 ∨ s.1 = 4 ∨ s.1 = 5
theorem res_nil {tries is tried due tok : Int} {res : ByteArray} (h : RightP tries is tried due tok res) (hi : is ≠ 3) : res.data.toList = [] := by
  unfold RightP StandsP at h
  rcases h.1.2.2.2.2.2.2.2.2.2.2 with e | e
  · exact e
  · exact absurd e hi
theorem right_lease {tries is tried due tok : Int} {res : ByteArray} (h : RightP tries is tried due tok res) (h8 : tries ≤ 8) (i1 : is = 1) (now lease token : Int) (t0 : 1 ≤ token) (t1 : token ≤ 1099511627776) :
    RightP tries 2 (tried + 1) (unt now [lease]) token res := by
  have hn := res_nil h (by omega)
  have hu := unt_bd now [lease]
  unfold RightP StandsP at h ⊢
  exact ⟨⟨by omega, by omega, by omega, by omega, by omega, by omega, by omega, by omega, by omega, by omega, .inl hn⟩, by omega, by omega, by omega, by omega, by omega, by omega⟩
theorem right_beat {tries is tried due tok : Int} {res : ByteArray} (h : RightP tries is tried due tok res) (i2 : is = 2) (now lease : Int) : RightP tries is tried (unt now [lease]) tok res := by
  have hn := res_nil h (by omega)
  have hu := unt_bd now [lease]
  unfold RightP StandsP at h ⊢
  exact ⟨⟨by omega, by omega, by omega, by omega, by omega, by omega, by omega, by omega, by omega, by omega, .inl hn⟩, by omega, by omega, by omega, by omega, by omega, by omega⟩
theorem right_done {tries is tried due tok : Int} {res : ByteArray} (h : RightP tries is tried due tok res) (i2 : is = 2) (result : ByteArray) (hr : result.size ≤ 16) : RightP tries 3 tried 0 0 result := by
  unfold RightP StandsP at h ⊢
  exact ⟨⟨by omega, by omega, by omega, by omega, by omega, by omega, by omega, by omega, by omega, by omega, .inr rfl⟩, by omega, by omega, by omega, by omega, by omega, by omega⟩
theorem right_lost {tries is tried due tok : Int} {res : ByteArray} (h : RightP tries is tried due tok res) (i2 : is = 2) (ht : tried ≥ tries) : RightP tries 4 tried 0 0 res := by
  have hn := res_nil h (by omega)
  unfold RightP StandsP at h ⊢
  exact ⟨⟨by omega, by omega, by omega, by omega, by omega, by omega, by omega, by omega, by omega, by omega, .inl hn⟩, by omega, by omega, by omega, by omega, by omega, by omega⟩
theorem right_again {tries is tried due tok : Int} {res : ByteArray} (h : RightP tries is tried due tok res) (i2 : is = 2) (ht : ¬ tried ≥ tries) (now w : Int) : RightP tries 1 tried (unt now [w]) 0 res := by
  have hn := res_nil h (by omega)
  have hu := unt_bd now [w]
  unfold RightP StandsP at h ⊢
  exact ⟨⟨by omega, by omega, by omega, by omega, by omega, by omega, by omega, by omega, by omega, by omega, .inl hn⟩, by omega, by omega, by omega, by omega, by omega, by omega⟩
theorem right_gone {tries is tried due tok : Int} {res : ByteArray} (h : RightP tries is tried due tok res) (i : is = 0 ∨ is = 1 ∨ is = 2) : RightP tries 5 tried 0 0 res := by
  have hn := res_nil h (by omega)
  unfold RightP StandsP at h ⊢
  exact ⟨⟨by omega, by omega, by omega, by omega, by omega, by omega, by omega, by omega, by omega, by omega, .inl hn⟩, by omega, by omega, by omega, by omega, by omega, by omega⟩

/-- Behind a call: from the state s, with what the call told, to the next act. -/
theorem lasts_j1 (k : Nat) (hk : 100 ≤ k) (acts : List S42) (n i now leases e tries wait lease : Int) (l0 : List Int) (s x y : St) (hi : 0 ≤ i) (hi2 : i ≤ 60)
    (hy : y = if e = 0 then x else s) (hr : R5 tries y) (ht : y.2.1 = leases) (ho : Over s → y = s) :
    penelopelaw18_TaskLasts.j1 (k + 3) now leases e acts n i l0 tries wait lease s.1 s.2.1 s.2.2.1 s.2.2.2.1 s.2.2.2.2 x.1 x.2.1 x.2.2.1 x.2.2.2.1 x.2.2.2.2 =
      penelopelaw18_TaskLasts.l0 k now leases acts n (i + 1) l0 tries wait lease y.1 y.2.1 y.2.2.1 y.2.2.2.1 y.2.2.2.2 := by
  have e1 : wrap64 (i + 1) = i + 1 := by unfold wrap64; omega
  have hle : leases ≤ tries := by rw [← ht]; exact hr.2.1
  have j3 : ∀ b : Bool, (b = true → Over s) → penelopelaw18_TaskLasts.j3 (k + 1) now leases b acts n i l0 tries wait lease s.1 s.2.1 s.2.2.1 s.2.2.2.1 s.2.2.2.2 y.1 y.2.1 y.2.2.1 y.2.2.2.1 y.2.2.2.2 =
      penelopelaw18_TaskLasts.l0 k now leases acts n (i + 1) l0 tries wait lease y.1 y.2.1 y.2.2.1 y.2.2.2.1 y.2.2.2.2 := by
    intro b hb
    simp only [penelopelaw18_TaskLasts.j3]
    have hR : decide (RightP tries y.1 y.2.1 y.2.2.1 y.2.2.2.1 y.2.2.2.2) = true := decide_eq_true hr
    cases b with
    | true =>
      have hs := ho (hb rfl)
      rw [if_pos rfl, if_neg (by rw [hs]; simp), right_f k (by omega), hR]
      simp only [Option.bind_some, if_true]
      rw [ref_right_f k (by omega), hR]
      simp only [Option.bind_some, if_true]
      rw [if_neg (by omega), if_pos ht, e1]
    | false =>
      rw [if_neg (by simp), right_f k (by omega), hR]
      simp only [Option.bind_some, if_true]
      rw [ref_right_f k (by omega), hR]
      simp only [Option.bind_some, if_true]
      rw [if_neg (by omega), if_pos ht, e1]
  have j2 : ∀ b : Bool, (b = true → Over s) → penelopelaw18_TaskLasts.j2 (k + 2) now leases e b acts n i l0 tries wait lease s.1 s.2.1 s.2.2.1 s.2.2.2.1 s.2.2.2.2 x.1 x.2.1 x.2.2.1 x.2.2.2.1 x.2.2.2.2 =
      penelopelaw18_TaskLasts.l0 k now leases acts n (i + 1) l0 tries wait lease y.1 y.2.1 y.2.2.1 y.2.2.2.1 y.2.2.2.2 := by
    intro b hb
    simp only [penelopelaw18_TaskLasts.j2]
    by_cases he : e = 0
    · rw [if_pos he]
      rw [if_pos he] at hy
      rw [← hy]
      exact j3 b hb
    · rw [if_neg he]
      rw [if_neg he] at hy
      have := j3 b hb
      rw [hy] at this ⊢
      exact this
  simp only [penelopelaw18_TaskLasts.j1]
  by_cases i3 : s.1 = 3
  · rw [if_pos i3]; exact j2 true (fun _ => .inl i3)
  rw [if_neg i3]
  by_cases i4 : s.1 = 4
  · rw [if_pos i4]; exact j2 true (fun _ => .inr (.inl i4))
  rw [if_neg i4]
  exact j2 _ (fun h => .inr (.inr (by simpa using h)))

theorem lasts_l0 (acts : List S42) (l0 : List Int) (tries wait lease : Int) (h8 : tries ≤ 8) (d : Nat) : ∀ (k : Nat) (now leases i : Int) (s : St), 0 ≤ i → i ≤ acts.length → i ≤ 60 → (60 - i).toNat = d → 0 ≤ now → now ≤ 1099511627776 → R5 tries s → s.2.1 = leases → 4 * d + 120 ≤ k →
    penelopelaw18_TaskLasts.l0 k now leases acts (acts.length : Int) i l0 tries wait lease s.1 s.2.1 s.2.2.1 s.2.2.2.1 s.2.2.2.2 = some true := by
  induction d with
  | zero =>
    intro k now leases i s hi hl h60 hd hn hn2 hr ht hk
    obtain ⟨k, rfl⟩ : ∃ m, k = m + 1 := ⟨k - 1, by omega⟩
    simp only [penelopelaw18_TaskLasts.l0]
    by_cases hlt : i < (acts.length : Int)
    · rw [if_pos hlt, if_pos hi, if_pos hlt, if_pos (by omega), alive_f]
      rfl
    · rw [if_neg hlt, alive_f]
      rfl
  | succ d ih =>
    intro k now leases i s hi hl h60 hd hn hn2 hr ht hk
    obtain ⟨k, rfl⟩ : ∃ m, k = m + 4 := ⟨k - 4, by omega⟩
    simp only [penelopelaw18_TaskLasts.l0]
    by_cases hlt : i < (acts.length : Int)
    · rw [if_pos hlt, if_pos hi, if_pos hlt, if_neg (by omega)]
      obtain ⟨a, ha⟩ : ∃ a, rd_T42 acts i = a := ⟨_, rfl⟩
      rw [ha]
      have en : mn (wrap64 (now + mn (mx a.f1 0) 2097152)) 1099511627776 = min (now + min (max a.f1 0) 2097152) 1099511627776 := by
        have e : mn (mx a.f1 0) 2097152 = min (max a.f1 0) 2097152 := by unfold mn mx; split <;> split <;> omega
        rw [e]
        unfold mn wrap64
        split <;> omega
      rw [en]
      obtain ⟨t, htt⟩ : ∃ t, min (now + min (max a.f1 0) 2097152) 1099511627776 = t := ⟨_, rfl⟩
      rw [htt]
      have et : wrap64 (i + 1) = i + 1 := by unfold wrap64; omega
      have hr' : RightP tries s.1 s.2.1 s.2.2.1 s.2.2.2.1 s.2.2.2.2 := hr
      have hb : 0 ≤ s.2.1 ∧ s.2.1 ≤ 8 := by have := hr'.1; unfold StandsP at this; omega
      have el : wrap64 (leases + 1) = leases + 1 := by unfold wrap64; omega
      have es : wrap64 (s.2.1 + 1) = s.2.1 + 1 := by unfold wrap64; omega
      have next : ∀ (leases' : Int) (y : St), R5 tries y → y.2.1 = leases' → penelopelaw18_TaskLasts.l0 k t leases' acts (acts.length : Int) (i + 1) l0 tries wait lease y.1 y.2.1 y.2.2.1 y.2.2.2.1 y.2.2.2.2 = some true := fun leases' y hy hyl => ih k t leases' (i + 1) y (by omega) (by omega) (by omega) (by omega) (by omega) (by omega) hy hyl (by omega)
      have stay : ∀ (e : Int) (x : St), e ≠ 0 → penelopelaw18_TaskLasts.j1 (k + 3) t leases e acts (acts.length : Int) i l0 tries wait lease s.1 s.2.1 s.2.2.1 s.2.2.2.1 s.2.2.2.2 x.1 x.2.1 x.2.2.1 x.2.2.2.1 x.2.2.2.2 = some true := by
        intro e x he
        rw [lasts_j1 k (by omega) acts _ i t leases e tries wait lease l0 s x s hi (by omega) (by rw [if_neg he]) hr ht (fun _ => rfl)]
        exact next leases s hr ht
      have go : ∀ (leases' : Int) (x : St), R5 tries x → x.2.1 = leases' → (Over s → x = s) → penelopelaw18_TaskLasts.j1 (k + 3) t leases' 0 acts (acts.length : Int) i l0 tries wait lease s.1 s.2.1 s.2.2.1 s.2.2.2.1 s.2.2.2.2 x.1 x.2.1 x.2.2.1 x.2.2.2.1 x.2.2.2.2 = some true := by
        intro leases' x hx hxl ho
        rw [lasts_j1 k (by omega) acts _ i t leases' 0 tries wait lease l0 s x x hi (by omega) (by rw [if_pos rfl]) hx hxl ho]
        exact next leases' x hx hxl
      by_cases a0 : a.f0 = 0
      · rw [if_pos a0, et, lease_f (k + 3) (by omega)]
        simp only [Option.bind_some]
        by_cases hc : s.1 = 1 ∧ s.2.2.1 ≤ unt t []
        · have hv : leaseV lease s.1 s.2.1 s.2.2.1 s.2.2.2.2 t (i + 1) = (2, s.2.1 + 1, unt t [lease], i + 1, s.2.2.2.2, 0) := by
            unfold leaseV
            rw [if_neg (by omega), if_pos hc, es]
          rw [hv]
          dsimp only
          rw [if_pos (rfl : (0 : Int) = 0), el]
          exact go (leases + 1) (2, s.2.1 + 1, unt t [lease], i + 1, s.2.2.2.2) (right_lease hr' h8 hc.1 t lease (i + 1) (by omega) (by omega)) (by show s.2.1 + 1 = leases + 1; omega) (fun ho => by unfold Over at ho; omega)
        · have hv : leaseV lease s.1 s.2.1 s.2.2.1 s.2.2.2.2 t (i + 1) = (0, 0, 0, 0, noText, 192) := by
            unfold leaseV
            rw [if_neg (by omega), if_neg hc]
          rw [hv]
          dsimp only
          rw [if_neg (by decide)]
          exact stay 192 (0, 0, 0, 0, noText) (by decide)
      rw [if_neg a0]
      by_cases a1 : a.f0 = 1
      · rw [if_pos a1, beat_f (k + 3) (by omega)]
        simp only [Option.bind_some]
        unfold beatV
        by_cases hc : s.1 = 2
        · rw [if_pos hc]
          exact go leases (s.1, s.2.1, unt t [lease], s.2.2.2.1, s.2.2.2.2) (right_beat hr' hc t lease) ht (fun ho => by unfold Over at ho; omega)
        · rw [if_neg hc]
          exact stay 191 (0, 0, 0, 0, noText) (by decide)
      rw [if_neg a1]
      by_cases a2 : a.f0 = 2
      · rw [if_pos a2, done_f]
        simp only [Option.bind_some]
        unfold doneV
        by_cases hc : s.1 = 2
        · rw [if_pos hc, if_pos (by decide)]
          exact go leases (3, s.2.1, 0, 0, ⟨#[114]⟩) (right_done hr' hc ⟨#[114]⟩ (by decide)) ht (fun ho => by unfold Over at ho; omega)
        · rw [if_neg hc]
          exact stay 191 (0, 0, 0, 0, noText) (by decide)
      rw [if_neg a2]
      by_cases a3 : a.f0 = 3
      · rw [if_pos a3, fail_f (k + 3) (by omega) _ _ _ _ _ _ _ _ _ _ (by omega) (by omega)]
        simp only [Option.bind_some]
        unfold failV
        by_cases hc : s.1 = 2
        · rw [if_pos hc]
          by_cases hq : s.2.1 ≥ tries
          · rw [if_pos hq]
            exact go leases (4, s.2.1, 0, 0, s.2.2.2.2) (right_lost hr' hc hq) ht (fun ho => by unfold Over at ho; omega)
          · rw [if_neg hq]
            exact go leases (1, s.2.1, unt t [aft wait s.2.1], 0, s.2.2.2.2) (right_again hr' hc hq t _) ht (fun ho => by unfold Over at ho; omega)
        · rw [if_neg hc]
          exact stay 191 (0, 0, 0, 0, noText) (by decide)
      rw [if_neg a3]
      by_cases a4 : a.f0 = 4
      · rw [if_pos a4, expire_f (k + 3) (by omega) _ _ _ _ _ _ _ _ _ _ (by omega) (by omega)]
        simp only [Option.bind_some]
        unfold expireV
        by_cases hc : s.1 = 2 ∧ s.2.2.1 ≤ unt t []
        · rw [if_pos hc]
          by_cases hq : s.2.1 ≥ tries
          · rw [if_pos hq]
            exact go leases (4, s.2.1, 0, 0, s.2.2.2.2) (right_lost hr' hc.1 hq) ht (fun ho => by unfold Over at ho; omega)
          · rw [if_neg hq]
            exact go leases (1, s.2.1, unt s.2.2.1 [aft wait s.2.1], 0, s.2.2.2.2) (right_again hr' hc.1 hq _ _) ht (fun ho => by unfold Over at ho; omega)
        · rw [if_neg hc]
          exact go leases s hr ht (fun _ => rfl)
      rw [if_neg a4, cancel_f]
      simp only [Option.bind_some]
      unfold cancelV
      by_cases hc : s.1 = 0 ∨ s.1 = 1 ∨ s.1 = 2
      · rw [if_pos hc]
        exact go leases (5, s.2.1, 0, 0, s.2.2.2.2) (right_gone hr' hc) ht (fun ho => by unfold Over at ho; omega)
      · rw [if_neg hc]
        exact go leases s hr ht (fun _ => rfl)
    · rw [if_neg hlt, alive_f]
      rfl
theorem TaskLasts : penelopelaw18_TaskLasts.Pure := by
  intro x0 x1 _ _
  refine ⟨500, ?_⟩
  unfold penelopelaw18_TaskLasts.f
  rw [ready_f]
  simp only [Option.bind_some]
  have et : mn (mx x0.f1 1) 8 = min (max x0.f1 1) 8 := by unfold mn mx; split <;> split <;> omega
  rw [et]
  exact lasts_l0 x1 x0.f0 _ x0.f2 x0.f3 (by omega) 60 500 0 0 0 (readyV 0 0 0 0 noText) (by omega) (by omega) (by omega) (by decide) (by omega) (by omega)
    (by unfold R5 readyV RightP StandsP noText
        exact ⟨⟨by decide, by decide, by decide, by decide, by decide, by decide, by decide, by decide, by decide, by decide, .inl rfl⟩, by show (0 : Int) ≤ _; omega, by simp, by intro _; show (0 : Int) < _; omega, by simp, by simp, by simp⟩) rfl (by omega)
end Go.Proofs.Ytmbpnggldpgcdaa.Pure
