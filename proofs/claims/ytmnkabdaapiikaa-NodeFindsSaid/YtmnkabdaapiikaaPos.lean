/- Where a key stands in ascending keys: the plain value of what the code and the reference compute. -/
import Derived.Test.YtmnkabdaapiikaaPutB
import Derived.Test.YtmnkabdaapiikaaXx10
import Derived.Test.YtmnkabdaapiikaaXx11
import Derived.Test.YtmnkabdaapiikaaXx12
import Derived.Test.YtmnkabdaapiikaaXx13
namespace Go.Proofs.Ytmnkabdaapiikaa.Pure
open Go.RowKit Go.Proofs.Ytmnkabdaapiikaa.X Go.Proofs.YtmnkabdaapiikaaW.PrintWords Go.Proofs.YtmnkabdaapiikaaW.PrintLast
set_option linter.unusedVariables false

theorem less_iff (a b : List UInt8) : Op.bytesLess a b = decide (a < b) := by
  rw [Proofs.bytesLess_eq]
theorem less_of {a b : List UInt8} (h : Op.bytesLess a b = true) : a < b := by rw [less_iff] at h; exact of_decide_eq_true h
theorem asc {K : List ByteArray} (h : ∀ i, i < K.length → okAt K i = true) : ∀ j i, i < j → j < K.length → (key K i).toList < (key K j).toList := by
  intro j
  induction j with
  | zero => intro i hi; omega
  | succ j ih =>
    intro i hi hj
    have ho := h (j + 1) hj
    unfold okAt at ho
    simp only [Bool.and_eq_true, decide_eq_true_eq, Bool.or_eq_true, Nat.add_sub_cancel] at ho
    have h1 : (key K j).toList < (key K (j + 1)).toList := by
      rcases ho.2.2 with h0 | h0
      · omega
      · exact less_of h0
    rcases Nat.lt_or_eq_of_le (Nat.le_of_lt_succ hi) with h2 | h2
    · exact List.lt_trans (ih i h2 (by omega)) h1
    · subst h2; exact h1
/-- A key's place. -/
theorem pos_ex {K : List ByteArray} (h : ∀ i, i < K.length → okAt K i = true) (x : ByteArray) : ∃ r, r ≤ K.length ∧ ∀ i, i < K.length → Op.bytesLess (key K i).toList x.toList = decide (i < r) := by
  refine ⟨K.findIdx (fun y => !(Op.bytesLess y.toList x.toList)), List.findIdx_le_length, fun i hi => ?_⟩
  by_cases hlt : i < K.findIdx (fun y => !(Op.bytesLess y.toList x.toList))
  · have := List.not_of_lt_findIdx hlt
    rw [decide_eq_true hlt, key_eq hi]
    simpa using this
  · rw [decide_eq_false hlt]
    have hr : K.findIdx (fun y => !(Op.bytesLess y.toList x.toList)) < K.length := by omega
    have h1 := List.findIdx_getElem (w := hr)
    generalize K.findIdx (fun y => !(Op.bytesLess y.toList x.toList)) = r at *
    rw [← key_eq hr] at h1
    have h2 : ¬ (key K r).toList < x.toList := by
      intro hc
      rw [less_iff, decide_eq_true hc] at h1
      cases h1
    rw [less_iff, decide_eq_false]
    intro hc
    rcases Nat.lt_or_eq_of_le (Nat.le_of_not_lt hlt) with h3 | h3
    · exact h2 (List.lt_trans (asc h i r h3 hi) hc)
    · subst h3; exact h2 hc
theorem bs_f (K : List ByteArray) (x : ByteArray) (r : Nat) (hp : ∀ i, i < K.length → Op.bytesLess (key K i).toList x.toList = decide (i < r)) : ∀ k i j, i ≤ r → r ≤ j → j ≤ K.length → j - i < k → bs K x k i j = some r := by
  intro k
  induction k with
  | zero => intro i j _ _ _ h; omega
  | succ k ih =>
    intro i j h1 h2 h3 h4
    rw [bs]
    by_cases hlt : i < j
    · rw [if_pos hlt, rdOf_nat, hp _ (by omega)]
      by_cases hm : (i + j) / 2 < r
      · rw [if_pos (by simpa using hm)]; exact ih _ _ (by omega) h2 h3 (by omega)
      · rw [if_neg (by simpa using hm)]; exact ih _ _ h1 (by omega) (by omega) (by omega)
    · rw [if_neg hlt]; congr 1; omega
/-- Whether the key stands at the place. -/
def isB (K : List ByteArray) (x : ByteArray) (r : Nat) : Bool := decide (r < K.length) && ((key K r).toList == x.toList)
theorem find_f (leaf : Bool) (K V : List ByteArray) (C : List Int) (x : ByteArray) (hs : standsB leaf K V C = true) (hv : V.length ≤ 1000) (hc : C.length ≤ 1000) (r : Nat) (hr : r ≤ K.length) (hp : ∀ i, i < K.length → Op.bytesLess (key K i).toList x.toList = decide (i < r)) (k : Nat) (hk : 12 ≤ k) :
    node_Find.f k leaf K V C x = some ((r : Int), isB K x r) := by
  have h9 := (stands_of hs).1
  unfold node_Find.f sort_SearchStrings.f isB
  rw [node_stands_f leaf K V C hv hc k hk, Option.bind_some, hs, if_pos rfl, if_pos (by omega), bs_f K x r hp k 0 K.length (by omega) hr (Nat.le_refl _) (by omega), Option.map_some, Option.bind_some]
  by_cases h : r < K.length
  · rw [if_pos (by simpa using h), if_pos (by simp), show Int.ofNat r = (r : Int) from rfl, rdOf_nat, decide_eq_true h, Bool.true_and]
  · rw [if_neg (by simpa using h), decide_eq_false h, Bool.false_and]; rfl
theorem find_no (leaf : Bool) (K V : List ByteArray) (C : List Int) (x : ByteArray) (hs : standsB leaf K V C = false) (hv : V.length ≤ 1000) (hc : C.length ≤ 1000) (k : Nat) (hk : 12 ≤ k) :
    node_Find.f k leaf K V C x = some (0, false) := by
  unfold node_Find.f
  rw [node_stands_f leaf K V C hv hc k hk, Option.bind_some, hs]
  simp
theorem ref_find_l (leaf : Bool) (K V : List ByteArray) (C : List Int) (x : ByteArray) (h9 : K.length ≤ 9) (r : Nat) (hr : r ≤ K.length) (hp : ∀ i, i < K.length → Op.bytesLess (key K i).toList x.toList = decide (i < r)) : ∀ m i k, i + m = r → m + 1 ≤ k →
    peneloperef07_Find.l0 k x K (K.length : Int) ((i : Nat) : Int) leaf K V C = some ((r : Int), isB K x r) := by
  intro m
  induction m with
  | zero =>
    intro i k hi hk
    obtain ⟨k, rfl⟩ : ∃ q, k = q + 1 := ⟨k - 1, by omega⟩
    obtain rfl : i = r := by omega
    unfold isB
    rw [peneloperef07_Find.l0]
    by_cases h : i < K.length
    · rw [if_pos (by omega), if_pos (by omega), if_pos (by omega), rdOf_nat, hp i h, if_neg (by simp), decide_eq_true h, Bool.true_and]
    · rw [if_neg (by omega), decide_eq_false h, Bool.false_and, show K.length = i by omega]
  | succ m ih =>
    intro i k hi hk
    obtain ⟨k, rfl⟩ : ∃ q, k = q + 1 := ⟨k - 1, by omega⟩
    rw [peneloperef07_Find.l0, if_pos (by omega), if_pos (by omega), if_pos (by omega), rdOf_nat, hp i (by omega), if_pos (by simp; omega), show wrap64 ((i : Int) + 1) = ((i + 1 : Nat) : Int) by rw [w64_in _ (by omega)]; omega, ih (i + 1) k (by omega) (by omega)]
theorem ref_find_f (leaf : Bool) (K V : List ByteArray) (C : List Int) (x : ByteArray) (hs : standsB leaf K V C = true) (hv : V.length ≤ 40) (hc : C.length ≤ 40) (r : Nat) (hr : r ≤ K.length) (hp : ∀ i, i < K.length → Op.bytesLess (key K i).toList x.toList = decide (i < r)) (k : Nat) (hk : 100 ≤ k) :
    peneloperef07_Find.f k leaf K V C x = some ((r : Int), isB K x r) := by
  have h9 := (stands_of hs).1
  unfold peneloperef07_Find.f
  rw [ref_stands_f leaf K V C hv hc k hk, Option.bind_some, hs, if_pos rfl, show (0 : Int) = ((0 : Nat) : Int) from rfl, ref_find_l leaf K V C x h9 r hr hp r 0 k (by omega) (by omega)]
theorem ref_find_no (leaf : Bool) (K V : List ByteArray) (C : List Int) (x : ByteArray) (hs : standsB leaf K V C = false) (hv : V.length ≤ 40) (hc : C.length ≤ 40) (k : Nat) (hk : 100 ≤ k) :
    peneloperef07_Find.f k leaf K V C x = some (0, false) := by
  unfold peneloperef07_Find.f
  rw [ref_stands_f leaf K V C hv hc k hk, Option.bind_some, hs]
  simp
/-- How many keys are not above. -/
def cnt (K : List ByteArray) (x : ByteArray) (r : Nat) : Nat := if isB K x r = true then r + 1 else r
theorem cnt_le {K : List ByteArray} {x : ByteArray} {r : Nat} (hr : r ≤ K.length) : cnt K x r ≤ K.length := by
  unfold cnt isB
  split
  · rename_i h; simp only [Bool.and_eq_true, decide_eq_true_eq] at h; omega
  · exact hr
theorem above {K : List ByteArray} (h : ∀ i, i < K.length → okAt K i = true) {x : ByteArray} {r : Nat} (hr : r ≤ K.length) (hp : ∀ i, i < K.length → Op.bytesLess (key K i).toList x.toList = decide (i < r)) (i : Nat) (hi : i < K.length) :
    Op.bytesLess x.toList (key K i).toList = decide (cnt K x r ≤ i) := by
  have hA := hp i hi
  rw [less_iff] at hA ⊢
  have hB : i < r ↔ (key K i).toList < x.toList := by
    constructor
    · intro h1; rw [decide_eq_true h1] at hA; exact of_decide_eq_true hA
    · intro h1; rw [decide_eq_true h1] at hA; exact of_decide_eq_true hA.symm
  clear hA
  unfold cnt isB
  by_cases h1 : i < r
  · have h2 := hB.1 h1
    rw [decide_eq_false (fun h3 => List.lt_irrefl _ (List.lt_trans h2 h3)), decide_eq_false]
    split <;> omega
  · have h2 : ¬ (key K i).toList < x.toList := fun h3 => h1 (hB.2 h3)
    by_cases he : (key K r).toList = x.toList
    · rw [if_pos (by simp [he]; omega)]
      rcases Nat.lt_or_eq_of_le (Nat.le_of_not_lt h1) with h3 | h3
      · have h4 := asc h i r h3 hi
        rw [he] at h4
        rw [decide_eq_true h4, decide_eq_true (by omega)]
      · subst h3
        rw [he, decide_eq_false (List.lt_irrefl _), decide_eq_false (by omega)]
    · rw [if_neg (by simp [he])]
      rw [decide_eq_true (show r ≤ i by omega)]
      apply decide_eq_true
      rcases List.le_iff_lt_or_eq.1 (List.not_lt.1 h2) with h3 | h3
      · exact h3
      · exfalso
        rcases Nat.lt_or_eq_of_le (Nat.le_of_not_lt h1) with h4 | h4
        · have h5 := asc h i r h4 hi
          rw [← h3] at h5
          have h6 : ¬ r < r := by omega
          have h7 := hp r (by omega)
          rw [less_iff, decide_eq_true h5, decide_eq_false h6] at h7
          cases h7
        · subst h4; exact he h3.symm
theorem ref_cnt_l (K : List ByteArray) (x : ByteArray) (h9 : K.length ≤ 9) (c : Nat) (hc : c ≤ K.length) (hp : ∀ i, i < K.length → Op.bytesLess x.toList (key K i).toList = decide (c ≤ i)) : ∀ m i k, i + m = K.length → m + 1 ≤ k →
    peneloperef07_Kid.l0 k x ((min i c : Nat) : Int) K (K.length : Int) (i : Int) = some (c : Int) := by
  intro m
  induction m with
  | zero =>
    intro i k hi hk
    obtain ⟨k, rfl⟩ : ∃ q, k = q + 1 := ⟨k - 1, by omega⟩
    rw [peneloperef07_Kid.l0, if_neg (by omega), show min i c = c by omega]
  | succ m ih =>
    intro i k hi hk
    obtain ⟨k, rfl⟩ : ∃ q, k = q + 1 := ⟨k - 1, by omega⟩
    rw [peneloperef07_Kid.l0, if_pos (by omega), if_pos (by omega), if_pos (by omega), rdOf_nat, hp i (by omega), show wrap64 ((i : Int) + 1) = ((i + 1 : Nat) : Int) by rw [w64_in _ (by omega)]; omega]
    by_cases h : c ≤ i
    · rw [if_pos (by simpa using h)]
      have := ih (i + 1) k (by omega) (by omega)
      rw [show min (i + 1) c = min i c by omega] at this
      exact this
    · rw [if_neg (by simpa using h), show wrap64 (((min i c : Nat) : Int) + 1) = ((min (i + 1) c : Nat) : Int) by rw [w64_in _ (by omega)]; omega]
      exact ih (i + 1) k (by omega) (by omega)
theorem kid_f (leaf : Bool) (K V : List ByteArray) (C : List Int) (x : ByteArray) (hs : standsB leaf K V C = true) (hv : V.length ≤ 1000) (hc : C.length ≤ 1000) (r : Nat) (hr : r ≤ K.length) (hp : ∀ i, i < K.length → Op.bytesLess (key K i).toList x.toList = decide (i < r)) (k : Nat) (hk : 12 ≤ k) :
    node_Kid.f k leaf K V C x = some (if leaf = true then 0 else ((cnt K x r : Nat) : Int)) := by
  unfold node_Kid.f
  cases leaf
  · have h9 := (stands_of hs).1
    rw [if_neg (by simp), if_neg (by simp), find_f false K V C x hs hv hc r hr hp k hk, Option.bind_some]
    unfold cnt
    cases isB K x r
    · rfl
    · simp only [if_true]
      rw [w64_in _ (by omega)]; rfl
  · rfl
theorem kid_no (leaf : Bool) (K V : List ByteArray) (C : List Int) (x : ByteArray) (hs : standsB leaf K V C = false) (hv : V.length ≤ 1000) (hc : C.length ≤ 1000) (k : Nat) (hk : 12 ≤ k) :
    node_Kid.f k leaf K V C x = some 0 := by
  unfold node_Kid.f
  cases leaf
  · rw [if_neg (by simp), find_no false K V C x hs hv hc k hk]; rfl
  · rfl
theorem ref_kid_f (leaf : Bool) (K V : List ByteArray) (C : List Int) (x : ByteArray) (hs : standsB leaf K V C = true) (hv : V.length ≤ 40) (hc : C.length ≤ 40) (r : Nat) (hr : r ≤ K.length) (hp : ∀ i, i < K.length → Op.bytesLess (key K i).toList x.toList = decide (i < r)) (k : Nat) (hk : 100 ≤ k) :
    peneloperef07_Kid.f k leaf K V C x = some (if leaf = true then 0 else ((cnt K x r : Nat) : Int)) := by
  obtain ⟨k, rfl⟩ : ∃ q, k = q + 1 := ⟨k - 1, by omega⟩
  unfold peneloperef07_Kid.f
  have hso := stands_of hs
  cases leaf
  · rw [if_neg (by simp), if_neg (by simp), ref_stands_f false K V C hv hc (k + 1) (by omega), Option.bind_some, hs, peneloperef07_Kid.j0, if_neg (by simp)]
    exact ref_cnt_l K x hso.1 _ (cnt_le hr) (above hso.2.1 hr hp) K.length 0 k (by omega) (by omega)
  · rw [if_pos rfl, if_pos rfl, peneloperef07_Kid.j0, if_pos rfl]
theorem ref_kid_no (leaf : Bool) (K V : List ByteArray) (C : List Int) (x : ByteArray) (hs : standsB leaf K V C = false) (hv : V.length ≤ 40) (hc : C.length ≤ 40) (k : Nat) (hk : 100 ≤ k) :
    peneloperef07_Kid.f k leaf K V C x = some 0 := by
  unfold peneloperef07_Kid.f
  cases leaf
  · rw [if_neg (by simp), ref_stands_f false K V C hv hc k hk, Option.bind_some, hs]
    obtain ⟨k, rfl⟩ : ∃ q, k = q + 1 := ⟨k - 1, by omega⟩
    rw [peneloperef07_Kid.j0, if_pos (by rfl)]
  · obtain ⟨k, rfl⟩ : ∃ q, k = q + 1 := ⟨k - 1, by omega⟩
    rw [if_pos rfl, peneloperef07_Kid.j0, if_pos rfl]
end Go.Proofs.Ytmnkabdaapiikaa.Pure
