/- TaskBeats: a lease that goes on is over later, not earlier, and stays the same lease; until it is over nothing expires it. -/
import Derived.Test.YtmbpnggldpgcdaaSayTaskBeats
import Derived.OpenShut
import Derived.Lib.Strings
namespace Go.Proofs.Ytmbpnggldpgcdaa.Pure
open Go.RowKit Go.Proofs.Ytmbpnggldpgcdaa.X Go.Proofs.YtmbpnggldpgcdaaW.PrintWords Go.Proofs.YtmbpnggldpgcdaaW.PrintLast

/-- What After comes to: the wait, doubled, at most 2^20. -/
def aft (w n : Int) : Int := if w < 1 ∨ n < 1 then 0 else min (w * 2 ^ (n - 1).toNat) 1048576
theorem pow_pos' (n : Nat) : (1 : Int) ≤ 2 ^ n := by
  induction n with
  | zero => simp
  | succ n ih => rw [Int.pow_succ]; omega
theorem mul_ge {x : Int} {n : Nat} (h : 0 ≤ x) : x ≤ x * 2 ^ n := by
  have h1 := pow_pos' n
  have h2 := Int.mul_le_mul_of_nonneg_left h1 h
  omega
theorem mul_step (x : Int) (n : Nat) : x * 2 ^ (n + 1) = 2 * x * 2 ^ n := by
  rw [Int.pow_succ, Int.mul_comm 2 x, Int.mul_assoc, Int.mul_comm (2 ^ n) 2]
theorem min_step {x : Int} {n : Nat} (h : 0 ≤ x) : min (min x 1048576 * 2 ^ n) 1048576 = min (x * 2 ^ n) 1048576 := by
  by_cases hx : x ≤ 1048576
  · rw [Int.min_eq_left (a := x) (b := 1048576) hx]
  · rw [Int.min_eq_right (a := x) (b := 1048576) (by omega)]
    have h1 := mul_ge (x := 1048576) (n := n) (by omega)
    have h2 := mul_ge (x := x) (n := n) h
    omega
theorem after_l0 (e : Nat) : ∀ (k : Nat) (x0 x1 : Int), 1 ≤ x0 → x0 ≤ 1048576 → -9223372036854775808 ≤ x1 - 1 → x1 ≤ 9223372036854775807 → 1048576 ≤ x0 * 2 ^ e → e < k →
    wait_After.l0 k x0 x1 = some (min (x0 * 2 ^ (x1 - 1).toNat) 1048576) := by
  induction e with
  | zero =>
    intro k x0 x1 h0 h1 h2 h3 he hk
    obtain ⟨k, rfl⟩ : ∃ m, k = m + 1 := ⟨k - 1, by omega⟩
    have hx : x0 = 1048576 := by simp at he; omega
    have hg := mul_ge (x := x0) (n := (x1 - 1).toNat) (by omega)
    simp only [wait_After.l0]
    have hm : mn x0 1048576 = min (x0 * 2 ^ (x1 - 1).toNat) 1048576 := by unfold mn; split <;> omega
    by_cases hc : x1 > 1
    · rw [if_pos hc, if_neg (by omega), hm]
    · rw [if_neg hc, hm]
  | succ e ih =>
    intro k x0 x1 h0 h1 h2 h3 he hk
    obtain ⟨k, rfl⟩ : ∃ m, k = m + 1 := ⟨k - 1, by omega⟩
    simp only [wait_After.l0]
    by_cases hc : x1 > 1
    · rw [if_pos hc]
      by_cases hd : x0 < 1048576
      · rw [if_pos hd]
        have e1 : wrap64 (x0 * 2) = 2 * x0 := by unfold wrap64; omega
        have e2 : wrap64 (x1 - 1) = x1 - 1 := by unfold wrap64; omega
        have e3 : (x1 - 1).toNat = (x1 - 1 - 1).toNat + 1 := by omega
        rw [e1, e2, e3, mul_step]
        by_cases hs : 2 * x0 ≤ 1048576
        · exact ih k (2 * x0) (x1 - 1) (by omega) hs (by omega) (by omega) (by rw [← mul_step]; exact he) (by omega)
        · have hg := mul_ge (x := 2 * x0) (n := (x1 - 1 - 1).toNat) (by omega)
          obtain ⟨k, rfl⟩ : ∃ m, k = m + 1 := ⟨k - 1, by omega⟩
          simp only [wait_After.l0]
          have hm : mn (2 * x0) 1048576 = min (2 * x0 * 2 ^ (x1 - 1 - 1).toNat) 1048576 := by unfold mn; split <;> omega
          by_cases hc' : x1 - 1 > 1
          · rw [if_pos hc', if_neg (by omega), hm]
          · rw [if_neg hc', hm]
      · rw [if_neg hd]
        have hg := mul_ge (x := x0) (n := (x1 - 1).toNat) (by omega)
        congr 1
        unfold mn; split <;> omega
    · rw [if_neg hc]
      have e3 : (x1 - 1).toNat = 0 := by omega
      rw [e3]
      congr 1
      simp
      unfold mn; split <;> omega
theorem after_f (k : Nat) (w n : Int) (hn : -9223372036854775808 ≤ n) (hn2 : n ≤ 9223372036854775807) (hk : 24 ≤ k) : wait_After.f k w n = some (aft w n) := by
  obtain ⟨k, rfl⟩ : ∃ m, k = m + 1 := ⟨k - 1, by omega⟩
  unfold wait_After.f aft
  by_cases hw : w < 1
  · rw [if_pos hw, if_pos (.inl hw)]; simp [wait_After.j0]
  · rw [if_neg hw]
    by_cases hn1 : n < 1
    · rw [if_pos (.inr hn1), decide_eq_true hn1]; simp [wait_After.j0]
    · rw [if_neg (by omega), decide_eq_false hn1]
      simp only [wait_After.j0]
      rw [if_neg (by simp)]
      have hm : mn w 1048576 = min w 1048576 := by unfold mn; split <;> omega
      rw [hm, ← min_step (by omega)]
      exact after_l0 20 k _ n (by omega) (by omega) (by omega) hn2 (by have : 1 ≤ min w 1048576 := by omega
                                                                       omega) (by omega)
theorem aft_bd (w n : Int) : 0 ≤ aft w n ∧ aft w n ≤ 1048576 := by
  unfold aft
  split
  · omega
  · have := mul_ge (x := w) (n := (n - 1).toNat) (by omega)
    omega
theorem aft_double {w n : Int} (hn : 1 ≤ n) : aft w (n + 1) = min (2 * aft w n) 1048576 := by
  unfold aft
  by_cases hw : w < 1
  · rw [if_pos (.inl hw), if_pos (.inl hw)]; rfl
  · rw [if_neg (by omega), if_neg (by omega)]
    have e3 : (n + 1 - 1).toNat = (n - 1).toNat + 1 := by omega
    rw [e3, Int.pow_succ, ← Int.mul_assoc]
    have := mul_ge (x := w) (n := (n - 1).toNat) (by omega)
    omega
theorem aft_one {w : Int} (h : 0 ≤ w) : aft w 1 = min w 1048576 := by
  unfold aft
  by_cases hw : w < 1
  · rw [if_pos (.inl hw)]; omega
  · rw [if_neg (by omega)]; simp
theorem aft_zero (w : Int) : aft w 0 = 0 := by unfold aft; rw [if_pos (.inr (by omega))]
theorem aft_neg {w n : Int} (h : w < 1) : aft w n = 0 := by unfold aft; rw [if_pos (.inl h)]
theorem aft_mono {w v n : Int} (h : w ≤ v) : aft w n ≤ aft v n := by
  unfold aft
  by_cases hw : w < 1 ∨ n < 1
  · rw [if_pos hw]
    split
    · omega
    · have := mul_ge (x := v) (n := (n - 1).toNat) (by omega)
      omega
  · rw [if_neg hw, if_neg (by omega)]
    have := Int.mul_le_mul_of_nonneg_right h (show (0 : Int) ≤ 2 ^ (n - 1).toNat by have := pow_pos' (n - 1).toNat; omega)
    omega
theorem wf64 {a : Int} (h : (Lit.int .i64 a).wf = true) : -9223372036854775808 ≤ a ∧ a ≤ 9223372036854775807 := by
  simp only [Lit.wf, Bool.and_eq_true, decide_eq_true_eq] at h
  have h1 : IntKind.i64.min = -9223372036854775808 := by decide
  have h2 : IntKind.i64.max = 9223372036854775807 := by decide
  rw [h1, h2] at h
  exact h
/-- What a part counts. -/
def cnt (p : Int) : Int := min (max p 0) 1099511627776
def csum (l : List Int) : Int := (l.map cnt).sum
theorem cnt_bd (p : Int) : 0 ≤ cnt p ∧ cnt p ≤ 1099511627776 := by unfold cnt; omega
theorem csum_cons (p : Int) (l : List Int) : csum (p :: l) = cnt p + csum l := by simp [csum]
theorem csum_append (a b : List Int) : csum (a ++ b) = csum a + csum b := by simp [csum]
theorem csum_nonneg (l : List Int) : 0 ≤ csum l := by
  induction l with
  | nil => simp [csum]
  | cons p l ih => rw [csum_cons]; have := cnt_bd p; omega
theorem csum_ge {p : Int} {l : List Int} (h : p ∈ l) : cnt p ≤ csum l := by
  induction l with
  | nil => cases h
  | cons q l ih =>
    rw [csum_cons]
    have h1 := cnt_bd q
    have h2 := csum_nonneg l
    rcases List.mem_cons.1 h with rfl | h
    · omega
    · have := ih h; omega
theorem csum_turned (l : List Int) (n : Nat) : csum (l.drop n ++ l.take n) = csum l := by
  conv => rhs; rw [← List.take_append_drop n l]
  rw [csum_append, csum_append, Int.add_comm]
theorem cnt_mn (p : Int) : mn (mx p 0) 1099511627776 = cnt p := by unfold mn mx cnt; split <;> split <;> omega
theorem mn_min (a b : Int) : mn a b = min a b := by unfold mn; split <;> omega
theorem rd_at {l : List Int} {i : Int} (h0 : 0 ≤ i) (h : i < l.length) : rd l i = l[i.toNat]'(by omega) := by
  unfold rd
  have : i.toNat < l.length := by omega
  simp [List.getD, this]
theorem until_l0 (xs : List Int) (hn : xs.length ≤ 17592186044416) (d : Nat) : ∀ (k : Nat) (s i : Int), 0 ≤ s → s ≤ 1099511627776 → 0 ≤ i → i ≤ xs.length → (xs.length : Int) - i = d → d < k →
    wait_Until.l0 k s xs (xs.length : Int) i = some (min (s + csum (xs.drop i.toNat)) 1099511627776) := by
  induction d with
  | zero =>
    intro k s i h0 h1 h2 h3 hd hk
    obtain ⟨k, rfl⟩ : ∃ m, k = m + 1 := ⟨k - 1, by omega⟩
    simp only [wait_Until.l0]
    rw [if_neg (by omega), List.drop_of_length_le (by omega)]
    simp [csum]
    omega
  | succ d ih =>
    intro k s i h0 h1 h2 h3 hd hk
    obtain ⟨k, rfl⟩ : ∃ m, k = m + 1 := ⟨k - 1, by omega⟩
    simp only [wait_Until.l0]
    have hj : i.toNat < xs.length := by omega
    have hb := cnt_bd (xs[i.toNat])
    have e1 : wrap64 (i + 1) = i + 1 := by unfold wrap64; omega
    have e2 : wrap64 (s + cnt (xs[i.toNat])) = s + cnt (xs[i.toNat]) := by unfold wrap64; omega
    have hc := csum_nonneg (xs.drop (i.toNat + 1))
    rw [if_pos (by omega), if_pos h2, if_pos (by omega), cnt_mn, rd_at h2 (by omega), e1, e2, mn_min, ih k _ (i + 1) (by omega) (by omega) (by omega) (by omega) (by omega) (by omega)]
    rw [List.drop_eq_getElem_cons hj, csum_cons, show (i + 1).toNat = i.toNat + 1 from by omega]
    congr 1
    omega
theorem until_f (k : Nat) (a : Int) (l : List Int) (hl : l.length ≤ 40) (hk : 50 ≤ k) : wait_Until.f k a l = some (min (cnt a + csum l) 1099511627776) := by
  unfold wait_Until.f
  simp only [Option.bind_some]
  rw [if_pos (by simp; omega)]
  have := until_l0 ([a] ++ l) (by simp; omega) ([a] ++ l).length k 0 0 (by omega) (by omega) (by omega) (by omega) (by omega) (by simp; omega)
  rw [this]
  simp [csum_cons]
/-! What the calls on one task come to, as plain functions. -/
def unt (a : Int) (l : List Int) : Int := min (cnt a + csum l) 1099511627776
theorem unt_f (k : Nat) (a : Int) (l : List Int) (hl : l.length ≤ 40) (hk : 50 ≤ k) : wait_Until.f k a l = some (unt a l) := until_f k a l hl hk
theorem unt_bd (a : Int) (l : List Int) : 0 ≤ unt a l ∧ unt a l ≤ 1099511627776 := by
  have h1 := cnt_bd a
  have h2 := csum_nonneg l
  unfold unt
  omega
theorem unt_nil (a : Int) : unt a [] = cnt a := by
  have := cnt_bd a
  simp [unt, csum]
  omega
theorem unt_one (a b : Int) : unt a [b] = min (cnt a + cnt b) 1099511627776 := by simp [unt, csum]
abbrev St := Int × Int × Int × Int × ByteArray
def noText : ByteArray := ⟨#[]⟩
/-- What may stand. -/
def StandsP (is tried due tok : Int) (res : ByteArray) : Prop :=
  0 ≤ is ∧ is ≤ 5 ∧ 0 ≤ tried ∧ tried ≤ 8 ∧ 0 ≤ due ∧ due ≤ 1099511627776 ∧ 0 ≤ tok ∧ tok ≤ 1099511627776 ∧ (tok > 0 ↔ is = 2) ∧ res.size ≤ 16 ∧ (res.data.toList = [] ∨ is = 3)
instance (is tried due tok : Int) (res : ByteArray) : Decidable (StandsP is tried due tok res) := by unfold StandsP; infer_instance
/-- What may be with a task. -/
def RightP (tries is tried due tok : Int) (res : ByteArray) : Prop :=
  StandsP is tried due tok res ∧ tried ≤ tries ∧ (is = 0 → tried = 0 ∧ due = 0) ∧ (is = 1 → tried < tries) ∧ (is = 2 ∨ is = 3 → 1 ≤ tried) ∧ (is = 4 → tried = tries) ∧ (due = 0 ∨ is = 1 ∨ is = 2)
instance (tries is tried due tok : Int) (res : ByteArray) : Decidable (RightP tries is tried due tok res) := by unfold RightP; infer_instance
theorem ofNot {p : Prop} [Decidable p] (h : ¬ p) : some false = some (decide p) := by rw [decide_eq_false h]
theorem ofYes {p : Prop} [Decidable p] (h : p) : some true = some (decide p) := by rw [decide_eq_true h]
theorem ofIff {b : Bool} {p : Prop} [Decidable p] (h : b = true ↔ p) : some b = some (decide p) := by
  congr 1
  by_cases hp : p
  · rw [decide_eq_true hp, h.2 hp]
  · rw [decide_eq_false hp]
    exact Bool.eq_false_iff.2 (fun e => hp (h.1 e))
theorem ref_stands_f (k : Nat) (hk : 1 ≤ k) (is tried due tok : Int) (res : ByteArray) : peneloperef18_Stands.f k is tried due tok res = some (decide (StandsP is tried due tok res)) := by
  obtain ⟨k, rfl⟩ : ∃ m, k = m + 1 := ⟨k - 1, by omega⟩
  unfold peneloperef18_Stands.f
  by_cases h1 : is < 0
  · rw [if_pos h1]; simp only [peneloperef18_Stands.j0, if_true]; exact ofNot (by unfold StandsP; omega)
  rw [if_neg h1]
  by_cases h2 : is > 5
  · rw [if_pos h2]; simp only [peneloperef18_Stands.j0, if_true]; exact ofNot (by unfold StandsP; omega)
  rw [if_neg h2]
  by_cases h3 : tried < 0
  · rw [if_pos h3]; simp only [peneloperef18_Stands.j0, if_true]; exact ofNot (by unfold StandsP; omega)
  rw [if_neg h3]
  by_cases h4 : tried > 8
  · rw [if_pos h4]; simp only [peneloperef18_Stands.j0, if_true]; exact ofNot (by unfold StandsP; omega)
  rw [if_neg h4]
  by_cases h5 : due < 0
  · rw [if_pos h5]; simp only [peneloperef18_Stands.j0, if_true]; exact ofNot (by unfold StandsP; omega)
  rw [if_neg h5]
  by_cases h6 : due > 1099511627776
  · rw [if_pos h6]; simp only [peneloperef18_Stands.j0, if_true]; exact ofNot (by unfold StandsP; omega)
  rw [if_neg h6]
  by_cases h7 : tok > 1099511627776
  · rw [if_pos h7]; simp only [peneloperef18_Stands.j0, if_true]; exact ofNot (by unfold StandsP; omega)
  rw [if_neg h7]
  simp only [peneloperef18_Stands.j0]
  by_cases h8 : (res.size : Int) > 16
  · rw [if_pos (decide_eq_true h8)]; exact ofNot (by unfold StandsP; omega)
  rw [if_neg (by simpa using h8)]
  by_cases i2 : is = 2
  · rw [if_pos i2]
    by_cases h9 : tok < 1
    · rw [if_pos h9]; exact ofNot (by unfold StandsP; omega)
    · rw [if_neg h9, if_neg (by omega)]
      refine ofIff ?_
      simp only [Go.Lib.toList_data, beq_iff_eq]
      constructor
      · intro h; exact ⟨by omega, by omega, by omega, by omega, by omega, by omega, by omega, by omega, by omega, by omega, .inl h⟩
      · rintro ⟨_, _, _, _, _, _, _, _, _, _, h | h⟩
        · exact h
        · omega
  · rw [if_neg i2]
    by_cases h9 : tok = 0
    · rw [if_pos h9]
      by_cases i3 : is = 3
      · rw [if_pos i3]
        exact ofYes ⟨by omega, by omega, by omega, by omega, by omega, by omega, by omega, by omega, by omega, by omega, .inr i3⟩
      · rw [if_neg i3]
        refine ofIff ?_
        simp only [Go.Lib.toList_data, beq_iff_eq]
        constructor
        · intro h; exact ⟨by omega, by omega, by omega, by omega, by omega, by omega, by omega, by omega, by omega, by omega, .inl h⟩
        · rintro ⟨_, _, _, _, _, _, _, _, _, _, h | h⟩
          · exact h
          · omega
    · rw [if_neg h9]; exact ofNot (by unfold StandsP; omega)
theorem ref_right_f (k : Nat) (hk : 5 ≤ k) (l0 : List Int) (tries wait lease is tried due tok : Int) (res : ByteArray) :
    peneloperef18_Right.f k l0 tries wait lease is tried due tok res = some (decide (RightP tries is tried due tok res)) := by
  obtain ⟨k, rfl⟩ : ∃ m, k = m + 4 := ⟨k - 4, by omega⟩
  unfold peneloperef18_Right.f
  rw [ref_stands_f (k + 4) (by omega)]
  simp only [Option.bind_some]
  by_cases hs : StandsP is tried due tok res
  · rw [if_pos (decide_eq_true hs)]
    simp only [peneloperef18_Right.j0]
    by_cases h1 : tried > tries
    · rw [if_pos (decide_eq_true h1)]; exact ofNot (by unfold RightP; omega)
    rw [if_neg (by simpa using h1)]
    have hs' := hs
    unfold StandsP at hs'
    by_cases i0 : is = 0
    · rw [if_pos i0]
      by_cases t0 : tried = 0
      · rw [if_pos t0]
        simp only [peneloperef18_Right.j1]
        by_cases d0 : due = 0
        · rw [if_neg (by simpa using d0), if_neg (by omega)]
          simp only [peneloperef18_Right.j2]
          rw [if_neg (by simp), if_neg (by omega), if_neg (by omega)]
          simp only [peneloperef18_Right.j3]
          rw [if_neg (by simp), if_neg (by omega), if_pos d0]
          exact ofYes (by unfold RightP; exact ⟨hs, by omega, by omega, by omega, by omega, by omega, by omega⟩)
        · rw [if_pos (by simpa using d0)]; exact ofNot (by unfold RightP; omega)
      · rw [if_neg t0]
        simp only [peneloperef18_Right.j1, if_true]
        exact ofNot (by unfold RightP; omega)
    rw [if_neg i0]
    simp only [peneloperef18_Right.j1]
    rw [if_neg (by simp)]
    by_cases i1 : is = 1
    · rw [if_pos i1]
      simp only [peneloperef18_Right.j2]
      by_cases h2 : tried ≥ tries
      · rw [if_pos (decide_eq_true h2)]; exact ofNot (by unfold RightP; omega)
      · rw [if_neg (by simpa using h2), if_neg (by omega), if_neg (by omega)]
        simp only [peneloperef18_Right.j3]
        rw [if_neg (by simp), if_neg (by omega)]
        have yes : RightP tries is tried due tok res := by unfold RightP; exact ⟨hs, by omega, by omega, by omega, by omega, by omega, by omega⟩
        by_cases d0 : due = 0
        · rw [if_pos d0]; exact ofYes yes
        · rw [if_neg d0, if_pos i1]; exact ofYes yes
    rw [if_neg i1]
    simp only [peneloperef18_Right.j2]
    rw [if_neg (by simp)]
    by_cases i2 : is = 2
    · rw [if_pos i2]
      simp only [peneloperef18_Right.j3]
      by_cases h2 : tried < 1
      · rw [if_pos (decide_eq_true h2)]; exact ofNot (by unfold RightP; omega)
      · rw [if_neg (by simpa using h2), if_neg (by omega)]
        have yes : RightP tries is tried due tok res := by unfold RightP; exact ⟨hs, by omega, by omega, by omega, by omega, by omega, by omega⟩
        by_cases d0 : due = 0
        · rw [if_pos d0]; exact ofYes yes
        · rw [if_neg d0, if_neg i1]; exact ofIff ⟨fun _ => yes, fun _ => by simpa using i2⟩
    rw [if_neg i2]
    have last : (if due = 0 then some true else if is = 1 then some true else some (is == 2)) = some (decide (due = 0)) := by
      by_cases d0 : due = 0
      · rw [if_pos d0]; exact ofYes d0
      · rw [if_neg d0, if_neg i1]; exact ofIff ⟨fun h => absurd (by simpa using h) i2, fun h => absurd h d0⟩
    by_cases i3 : is = 3
    · rw [if_pos i3]
      simp only [peneloperef18_Right.j3]
      by_cases h2 : tried < 1
      · rw [if_pos (decide_eq_true h2)]; exact ofNot (by unfold RightP; omega)
      · rw [if_neg (by simpa using h2), if_neg (by omega), last]
        exact ofIff (by simp only [decide_eq_true_eq]; unfold RightP; exact ⟨fun h => ⟨hs, by omega, by omega, by omega, by omega, by omega, by omega⟩, fun h => by omega⟩)
    · rw [if_neg i3]
      simp only [peneloperef18_Right.j3]
      rw [if_neg (by simp)]
      by_cases i4 : is = 4
      · rw [if_pos i4]
        by_cases e : tried = tries
        · rw [if_pos e, last]
          exact ofIff (by simp only [decide_eq_true_eq]; unfold RightP; exact ⟨fun h => ⟨hs, by omega, by omega, by omega, by omega, by omega, by omega⟩, fun h => by omega⟩)
        · rw [if_neg e]; exact ofNot (by unfold RightP; omega)
      · rw [if_neg i4, last]
        exact ofIff (by simp only [decide_eq_true_eq]; unfold RightP; exact ⟨fun h => ⟨hs, by omega, by omega, by omega, by omega, by omega, by omega⟩, fun h => by omega⟩)
  · rw [if_neg (by simpa using hs)]
    simp only [peneloperef18_Right.j0, if_true]
    exact ofNot (fun h => hs h.1)
/-- A failure: what it makes of a state. -/
def failV (tries wait is tried : Int) (res : ByteArray) (now : Int) : Int × Int × Int × Int × ByteArray × Int :=
  if is = 2 then (if tried ≥ tries then (4, tried, 0, 0, res, 0) else (1, tried, unt now [aft wait tried], 0, res, 0)) else (0, 0, 0, 0, noText, 191)
theorem fail_f (k : Nat) (hk : 60 ≤ k) (l0 : List Int) (tries wait lease is tried due tok : Int) (res : ByteArray) (now : Int) (h1 : -9223372036854775808 ≤ tried) (h2 : tried ≤ 9223372036854775807) :
    task_Fail.f k l0 tries wait lease is tried due tok res now = some (failV tries wait is tried res now) := by
  unfold task_Fail.f failV
  by_cases i2 : is = 2
  · rw [if_pos i2, if_pos i2]
    by_cases h : tried ≥ tries
    · rw [if_pos h, if_pos h]
    · rw [if_neg h, if_neg h, after_f k wait tried h1 h2 (by omega)]
      simp only [Option.bind_some]
      rw [unt_f k now _ (by simp) (by omega)]
      rfl
  · rw [if_neg i2, if_neg i2]
    rfl
/-- A lease whose time is over is ended as by a failure. -/
def expireV (tries wait is tried due tok : Int) (res : ByteArray) (now : Int) : St :=
  if is = 2 ∧ due ≤ unt now [] then (if tried ≥ tries then (4, tried, 0, 0, res) else (1, tried, unt due [aft wait tried], 0, res)) else (is, tried, due, tok, res)
theorem expire_f (k : Nat) (hk : 60 ≤ k) (l0 : List Int) (tries wait lease is tried due tok : Int) (res : ByteArray) (now : Int) (h1 : -9223372036854775808 ≤ tried) (h2 : tried ≤ 9223372036854775807) :
    task_Expire.f k l0 tries wait lease is tried due tok res now = some (expireV tries wait is tried due tok res now) := by
  unfold task_Expire.f expireV
  by_cases i2 : is = 2
  · rw [if_pos i2, unt_f k now [] (by simp) (by omega)]
    simp only [Option.bind_some]
    by_cases h : due > unt now []
    · rw [if_pos h, if_neg (by omega)]
    · rw [if_neg h, if_pos ⟨i2, by omega⟩, fail_f k hk l0 tries wait lease is tried due tok res due h1 h2]
      unfold failV
      simp only [Option.bind_some]
      rw [if_pos i2]
      split <;> rfl
  · rw [if_neg i2, if_neg (by omega)]
/-- A beat: what it makes of a state. -/
def beatV (lease is tried tok : Int) (res : ByteArray) (now : Int) : Int × Int × Int × Int × ByteArray × Int :=
  if is = 2 then (is, tried, unt now [lease], tok, res, 0) else (0, 0, 0, 0, noText, 191)
theorem beat_f (k : Nat) (hk : 60 ≤ k) (l0 : List Int) (tries wait lease is tried due tok : Int) (res : ByteArray) (now : Int) :
    task_Beat.f k l0 tries wait lease is tried due tok res now = some (beatV lease is tried tok res now) := by
  unfold task_Beat.f beatV
  by_cases i2 : is = 2
  · rw [if_pos i2, unt_f k now _ (by simp) (by omega), if_pos i2]
    rfl
  · rw [if_neg i2, if_neg i2]
    rfl
theorem alive_f : penelopelaw18_alive.f = some true := by
  unfold penelopelaw18_alive.f task_Ready.f
  simp [Go.Lib.toList_data]
theorem cnt_mono {a b : Int} (h : a ≤ b) : cnt a ≤ cnt b := by unfold cnt; omega
theorem cnt_id {a : Int} (h0 : 0 ≤ a) (h1 : a ≤ 1099511627776) : cnt a = a := by unfold cnt; omega
theorem TaskBeats : penelopelaw18_TaskBeats.Pure := by
  intro x0 x1 a2 a3 _ w1 _ _
  obtain ⟨l0, tries, wait, lease⟩ := x0
  obtain ⟨is, tried, due, tok, res⟩ := x1
  have b := bounds_i64 w1.2.1
  simp only at b ⊢
  refine ⟨101, ?_⟩
  unfold penelopelaw18_TaskBeats.f
  rw [ref_right_f 101 (by omega)]
  simp only [Option.bind_some]
  have en : mn (mx a2 0) 1099511627776 = min (max a2 0) 1099511627776 := by unfold mn mx; split <;> split <;> omega
  have el : mn (mx a3 (min (max a2 0) 1099511627776)) 1099511627776 = min (max a3 (min (max a2 0) 1099511627776)) 1099511627776 := by unfold mn mx; split <;> split <;> omega
  rw [en, el]
  obtain ⟨now, hn⟩ : ∃ n, min (max a2 0) 1099511627776 = n := ⟨_, rfl⟩
  rw [hn]
  obtain ⟨later, hl⟩ : ∃ n, min (max a3 now) 1099511627776 = n := ⟨_, rfl⟩
  rw [hl]
  by_cases hr : RightP tries is tried due tok res
  · rw [if_pos (decide_eq_true hr), beat_f 101 (by omega)]
    simp only [Option.bind_some]
    rw [beat_f 101 (by omega)]
    simp only [Option.bind_some]
    by_cases i2 : is = 2
    · have hu : unt now [lease] ≤ unt later [lease] := by
        rw [unt_one, unt_one]
        have := cnt_mono (a := now) (b := later) (by omega)
        omega
      have e1 : unt now [] = now := by rw [unt_nil, cnt_id (by omega) (by omega)]
      have hv : ∀ n, beatV lease is tried tok res n = (is, tried, unt n [lease], tok, res, 0) := fun n => by unfold beatV; rw [if_pos i2]
      rw [hv, hv]
      dsimp only
      rw [if_pos i2, if_pos (rfl : (0 : Int) = 0), if_pos (rfl : (0 : Int) = 0), if_neg (by omega), if_pos (rfl : tried = tried), if_pos (rfl : tok = tok)]
      have ej : (is != 2) = false := by simpa using i2
      rw [ej]
      simp only [penelopelaw18_TaskBeats.j0]
      rw [if_neg (by simp), alive_f]
      simp only [Option.bind_some, if_true]
      have hx := expire_f 100 (by omega) l0 tries wait lease is tried due tok res now (by omega) (by omega)
      by_cases hd : due ≤ now
      · rw [if_pos hd, if_neg (by omega), hx]
        simp only [Option.bind_some]
        unfold expireV
        rw [if_pos ⟨i2, by omega⟩]
        split <;> rfl
      · rw [if_neg hd, hx]
        simp only [Option.bind_some]
        have hw : expireV tries wait is tried due tok res now = (is, tried, due, tok, res) := by unfold expireV; rw [if_neg (by omega)]
        rw [hw]
        simp only [beq_self_eq_true, Bool.and_self, if_true]
        rw [if_pos (by omega)]
    · have hv : ∀ n, beatV lease is tried tok res n = (0, 0, 0, 0, noText, 191) := fun n => by unfold beatV; rw [if_neg i2]
      rw [hv, hv]
      dsimp only
      rw [if_neg i2, alive_f]
      simp
  · rw [if_neg (by simpa using hr), alive_f]
    rfl
end Go.Proofs.Ytmbpnggldpgcdaa.Pure
