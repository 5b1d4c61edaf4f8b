/- TaskLeases: what a lease makes of any state, at any time and with any token, or why there is none, is as the document says. -/
import Derived.Test.YtmbpnggldpgcdaaSayTaskLeases
import Derived.OpenShut
import Derived.Lib.Strings
namespace Go.Proofs.Ytmbpnggldpgcdaa.Pure
open Go.RowKit Go.Proofs.Ytmbpnggldpgcdaa.X Go.Proofs.YtmbpnggldpgcdaaW.PrintWords Go.Proofs.YtmbpnggldpgcdaaW.PrintLast

/-- What a part counts. -/
def cnt (p : Int) : Int := min (max p 0) 1099511627776
def csum (l : List Int) : Int := (l.map cnt).sum
theorem cnt_bd (p : Int) : 0 ≤ cnt p ∧ cnt p ≤ 1099511627776 := by unfold cnt; omega
theorem csum_cons (p : Int) (l : List Int) : csum (p :: l) = cnt p + csum l := by simp [csum]
theorem csum_append (a b : List Int) : csum (a ++ b) = csum a + csum b := by simp [csum]
theorem csum_nonneg (l : List Int) : 0 ≤ csum l := by
  induction l with
  | nil => simp [csum]
  | cons p l ih => rw [csum_cons]; have := cnt_bd p; omega
theorem csum_ge {p : Int} {l : List Int} (h : p ∈ l) : cnt p ≤ csum l := by
  induction l with
  | nil => cases h
  | cons q l ih =>
    rw [csum_cons]
    have h1 := cnt_bd q
    have h2 := csum_nonneg l
    rcases List.mem_cons.1 h with rfl | h
    · omega
    · have := ih h; omega
theorem csum_turned (l : List Int) (n : Nat) : csum (l.drop n ++ l.take n) = csum l := by
  conv => rhs; rw [← List.take_append_drop n l]
  rw [csum_append, csum_append, Int.add_comm]
theorem cnt_mn (p : Int) : mn (mx p 0) 1099511627776 = cnt p := by unfold mn mx cnt; split <;> split <;> omega
theorem mn_min (a b : Int) : mn a b = min a b := by unfold mn; split <;> omega
theorem rd_at {l : List Int} {i : Int} (h0 : 0 ≤ i) (h : i < l.length) : rd l i = l[i.toNat]'(by omega) := by
  unfold rd
  have : i.toNat < l.length := by omega
  simp [List.getD, this]
theorem until_l0 (xs : List Int) (hn : xs.length ≤ 17592186044416) (d : Nat) : ∀ (k : Nat) (s i : Int), 0 ≤ s → s ≤ 1099511627776 → 0 ≤ i → i ≤ xs.length → (xs.length : Int) - i = d → d < k →
    wait_Until.l0 k s xs (xs.length : Int) i = some (min (s + csum (xs.drop i.toNat)) 1099511627776) := by
  induction d with
  | zero =>
    intro k s i h0 h1 h2 h3 hd hk
    obtain ⟨k, rfl⟩ : ∃ m, k = m + 1 := ⟨k - 1, by omega⟩
    simp only [wait_Until.l0]
    rw [if_neg (by omega), List.drop_of_length_le (by omega)]
    simp [csum]
    omega
  | succ d ih =>
    intro k s i h0 h1 h2 h3 hd hk
    obtain ⟨k, rfl⟩ : ∃ m, k = m + 1 := ⟨k - 1, by omega⟩
    simp only [wait_Until.l0]
    have hj : i.toNat < xs.length := by omega
    have hb := cnt_bd (xs[i.toNat])
    have e1 : wrap64 (i + 1) = i + 1 := by unfold wrap64; omega
    have e2 : wrap64 (s + cnt (xs[i.toNat])) = s + cnt (xs[i.toNat]) := by unfold wrap64; omega
    have hc := csum_nonneg (xs.drop (i.toNat + 1))
    rw [if_pos (by omega), if_pos h2, if_pos (by omega), cnt_mn, rd_at h2 (by omega), e1, e2, mn_min, ih k _ (i + 1) (by omega) (by omega) (by omega) (by omega) (by omega) (by omega)]
    rw [List.drop_eq_getElem_cons hj, csum_cons, show (i + 1).toNat = i.toNat + 1 from by omega]
    congr 1
    omega
theorem until_f (k : Nat) (a : Int) (l : List Int) (hl : l.length ≤ 40) (hk : 50 ≤ k) : wait_Until.f k a l = some (min (cnt a + csum l) 1099511627776) := by
  unfold wait_Until.f
  simp only [Option.bind_some]
  rw [if_pos (by simp; omega)]
  have := until_l0 ([a] ++ l) (by simp; omega) ([a] ++ l).length k 0 0 (by omega) (by omega) (by omega) (by omega) (by omega) (by simp; omega)
  rw [this]
  simp [csum_cons]
theorem ref_until_l0 (xs : List Int) (hn : xs.length ≤ 17592186044416) (d : Nat) : ∀ (k : Nat) (s i : Int), 0 ≤ s → 0 ≤ i → i ≤ xs.length → (xs.length : Int) - i = d → 2 * d + 1 < k →
    peneloperef17_Until.l0 k s xs (xs.length : Int) i = some (min (s + csum (xs.drop i.toNat)) 1099511627776) := by
  induction d with
  | zero =>
    intro k s i h0 h2 h3 hd hk
    obtain ⟨k, rfl⟩ : ∃ m, k = m + 1 := ⟨k - 1, by omega⟩
    simp only [peneloperef17_Until.l0]
    rw [if_neg (by omega), List.drop_of_length_le (by omega)]
    simp only [csum, List.map_nil, List.sum_nil, Int.add_zero]
    split
    · congr 1; omega
    · congr 1; omega
  | succ d ih =>
    intro k s i h0 h2 h3 hd hk
    obtain ⟨k, rfl⟩ : ∃ m, k = m + 2 := ⟨k - 2, by omega⟩
    have hj : i.toNat < xs.length := by omega
    have e1 : wrap64 (i + 1) = i + 1 := by unfold wrap64; omega
    have hc := csum_nonneg (xs.drop (i.toNat + 1))
    rw [List.drop_eq_getElem_cons hj, csum_cons]
    simp only [peneloperef17_Until.l0]
    rw [if_pos (by omega), if_pos h2, if_pos (by omega), rd_at h2 (by omega)]
    obtain ⟨p, hp⟩ : ∃ p, xs[i.toNat] = p := ⟨_, rfl⟩
    rw [hp]
    by_cases hs : s ≥ 1099511627776
    · rw [if_pos hs]
      simp only [peneloperef17_Until.j2, if_true]
      have := cnt_bd p
      congr 1; omega
    · rw [if_neg hs]
      by_cases hq : p ≥ 1099511627776
      · rw [decide_eq_true hq]
        simp only [peneloperef17_Until.j2, if_true]
        unfold cnt
        congr 1; omega
      · rw [decide_eq_false hq]
        simp only [peneloperef17_Until.j2]
        rw [if_neg (by simp)]
        by_cases h1 : p > 0
        · have e2 : wrap64 (s + p) = s + p := by unfold wrap64; omega
          rw [if_pos h1, e1, e2, ih k (s + p) (i + 1) (by omega) (by omega) (by omega) (by omega) (by omega), show (i + 1).toNat = i.toNat + 1 from by omega]
          unfold cnt
          congr 1; omega
        · rw [if_neg h1, e1, ih k s (i + 1) (by omega) (by omega) (by omega) (by omega) (by omega), show (i + 1).toNat = i.toNat + 1 from by omega]
          unfold cnt
          congr 1; omega
theorem ref_until_f (k : Nat) (a : Int) (l : List Int) (hl : l.length ≤ 40) (hk : 90 ≤ k) : peneloperef17_Until.f k a l = some (min (cnt a + csum l) 1099511627776) := by
  obtain ⟨k, rfl⟩ : ∃ m, k = m + 1 := ⟨k - 1, by omega⟩
  have hc := csum_nonneg l
  unfold peneloperef17_Until.f
  by_cases ha : a > 0
  · rw [if_pos ha]
    simp only [peneloperef17_Until.j0]
    rw [ref_until_l0 l (by omega) l.length k a 0 (by omega) (by omega) (by omega) (by omega) (by omega)]
    unfold cnt
    rw [show (0 : Int).toNat = 0 from rfl, List.drop_zero]
    congr 1; omega
  · rw [if_neg ha]
    simp only [peneloperef17_Until.j0]
    rw [ref_until_l0 l (by omega) l.length k 0 0 (by omega) (by omega) (by omega) (by omega) (by omega)]
    unfold cnt
    rw [show (0 : Int).toNat = 0 from rfl, List.drop_zero]
    congr 1; omega
/-! What the calls on one task come to, as plain functions. -/
def unt (a : Int) (l : List Int) : Int := min (cnt a + csum l) 1099511627776
theorem unt_f (k : Nat) (a : Int) (l : List Int) (hl : l.length ≤ 40) (hk : 50 ≤ k) : wait_Until.f k a l = some (unt a l) := until_f k a l hl hk
theorem unt_bd (a : Int) (l : List Int) : 0 ≤ unt a l ∧ unt a l ≤ 1099511627776 := by
  have h1 := cnt_bd a
  have h2 := csum_nonneg l
  unfold unt
  omega
theorem unt_nil (a : Int) : unt a [] = cnt a := by
  have := cnt_bd a
  simp [unt, csum]
  omega
theorem unt_one (a b : Int) : unt a [b] = min (cnt a + cnt b) 1099511627776 := by simp [unt, csum]
abbrev St := Int × Int × Int × Int × ByteArray
def noText : ByteArray := ⟨#[]⟩
/-- A lease: what it makes of a state; why not. -/
def leaseV (lease is tried due : Int) (res : ByteArray) (now token : Int) : Int × Int × Int × Int × ByteArray × Int :=
  if token < 1 ∨ token > 1099511627776 then (0, 0, 0, 0, noText, 1)
  else if is = 1 ∧ due ≤ unt now [] then (2, wrap64 (tried + 1), unt now [lease], token, res, 0) else (0, 0, 0, 0, noText, 192)
theorem lease_f (k : Nat) (hk : 60 ≤ k) (l0 : List Int) (tries wait lease is tried due tok : Int) (res : ByteArray) (now token : Int) :
    task_Lease.f k l0 tries wait lease is tried due tok res now token = some (leaseV lease is tried due res now token) := by
  obtain ⟨k, rfl⟩ : ∃ m, k = m + 1 := ⟨k - 1, by omega⟩
  unfold task_Lease.f leaseV
  by_cases h1 : token < 1
  · rw [if_pos h1, if_pos (.inl h1)]
    simp only [task_Lease.j0, if_true]
    rfl
  · rw [if_neg h1]
    by_cases h2 : token > 1099511627776
    · rw [decide_eq_true h2, if_pos (.inr h2)]
      simp only [task_Lease.j0, if_true]
      rfl
    · rw [decide_eq_false h2, if_neg (by omega)]
      simp only [task_Lease.j0]
      rw [if_neg (by simp)]
      by_cases h3 : is = 1
      · rw [if_pos h3, unt_f k now [] (by simp) (by omega)]
        simp only [Option.bind_some]
        by_cases h4 : due > unt now []
        · rw [if_pos h4, if_neg (by omega)]
          rfl
        · rw [if_neg h4, unt_f k now [lease] (by simp) (by omega), if_pos (by omega)]
          rfl
      · rw [if_neg h3, if_neg (by omega)]
        rfl
theorem ref_unt_f (k : Nat) (a : Int) (l : List Int) (hl : l.length ≤ 40) (hk : 90 ≤ k) : peneloperef17_Until.f k a l = some (unt a l) := ref_until_f k a l hl hk
theorem ref_time_f (k : Nat) (a : Int) (hk : 90 ≤ k) : peneloperef18_Time.f k a = some (unt a []) := by
  unfold peneloperef18_Time.f
  rw [ref_unt_f k a [] (by simp) hk]
  rfl
theorem ref_lease_f (k : Nat) (hk : 100 ≤ k) (l0 : List Int) (tries wait lease is tried due tok : Int) (res : ByteArray) (now token : Int) :
    peneloperef18_Lease.f k l0 tries wait lease is tried due tok res now token = some (leaseV lease is tried due res now token) := by
  obtain ⟨k, rfl⟩ : ∃ m, k = m + 1 := ⟨k - 1, by omega⟩
  unfold peneloperef18_Lease.f leaseV
  by_cases h1 : token < 1
  · rw [if_pos h1, if_pos (.inl h1)]
    simp only [peneloperef18_Lease.j0, if_true]
    rfl
  · rw [if_neg h1]
    by_cases h2 : token > 1099511627776
    · rw [decide_eq_true h2, if_pos (.inr h2)]
      simp only [peneloperef18_Lease.j0, if_true]
      rfl
    · rw [decide_eq_false h2, if_neg (by omega)]
      simp only [peneloperef18_Lease.j0]
      rw [if_neg (by simp)]
      by_cases h3 : is = 1
      · rw [if_pos h3, ref_time_f k now (by omega)]
        simp only [Option.bind_some]
        by_cases h4 : due > unt now []
        · rw [if_pos h4, if_neg (by omega)]
          rfl
        · rw [if_neg h4, ref_unt_f k now [lease] (by simp) (by omega), if_pos (by omega)]
          rfl
      · rw [if_neg h3, if_neg (by omega)]
        rfl
theorem alive_f : penelopelaw18_alive.f = some true := by
  unfold penelopelaw18_alive.f task_Ready.f
  simp [Go.Lib.toList_data]
theorem TaskLeases : penelopelaw18_TaskLeases.Pure := by
  intro x0 x1 a2 a3 _ _ _ _
  refine ⟨100, ?_⟩
  unfold penelopelaw18_TaskLeases.f
  rw [lease_f 100 (by omega)]
  simp only [Option.bind_some]
  rw [ref_lease_f 100 (by omega)]
  simp only [Option.bind_some]
  rw [alive_f]
  simp
end Go.Proofs.Ytmbpnggldpgcdaa.Pure
