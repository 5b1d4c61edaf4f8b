/- Words and walks for the law RunSettles, joined and made small by a program of mine. -/
import Derived.Test.YtabmkighhmchmaaG2
import Derived.Test.YtabmkighhmchmaaG10
import Derived.Test.YtabmkighhmchmaaG8
import Derived.Test.YtabmkighhmchmaaG3
import Derived.Test.YtabmkighhmchmaaG4
import Derived.OpenShut
import Derived.Lib.Strings
import Derived.Test.YtabmkighhmchmaaG9
import Derived.Test.YtabmkighhmchmaaG6
namespace Go.Proofs.Ytabmkighhmchmaa.X
open Go.RowKit Go.YW.PrintWords Go.YW.PrintLast Go.YW.PrintMore Go.YW.Sq
attribute [local go_sem] q0y q0w q1g q1f q0t q0s q0x q0v
set_option linter.unusedVariables false
set_option linter.unusedSimpArgs false
set_option linter.unusedSimpArgs false
set_option linter.unusedSimpArgs false
set_option linter.unusedSimpArgs false
set_option linter.unusedSimpArgs false
set_option linter.unusedSimpArgs false
end Go.Proofs.Ytabmkighhmchmaa.X
namespace Go.Proofs.Ytabmkighhmchmaa.Pure
open Go.RowKit Go.Proofs.Ytabmkighhmchmaa.X Go.YW.PrintWords Go.YW.PrintLast
def aft (w n : Int) : Int := if w < 1 ∨ n < 1 then 0 else min (w * 2 ^ (n - 1).toNat) 1048576
theorem pow_pos' (n : Nat) : (1 : Int) ≤ 2 ^ n := by
 induction n with
 | zero => simp
 | succ n ih => rw [Int.pow_succ]; omega
theorem mul_ge {x : Int} {n : Nat} (h : 0 ≤ x) : x ≤ x * 2 ^ n := by
 have h1 := pow_pos' n
 have h2 := Int.mul_le_mul_of_nonneg_left h1 h
 omega
theorem mul_step (x : Int) (n : Nat) : x * 2 ^ (n + 1) = 2 * x * 2 ^ n := by
 rw [Int.pow_succ, Int.mul_comm 2 x, Int.mul_assoc, Int.mul_comm (2 ^ n) 2]
theorem min_step {x : Int} {n : Nat} (h : 0 ≤ x) : min (min x 1048576 * 2 ^ n) 1048576 = min (x * 2 ^ n) 1048576 := by
 by_cases hx : x ≤ 1048576
 ·
  rw [Int.min_eq_left (a := x) (b := 1048576) hx]
 rw [Int.min_eq_right (a := x) (b := 1048576) (by omega)]
 have h1 := mul_ge (x := 1048576) (n := n) (by omega)
 have h2 := mul_ge (x := x) (n := n) h
 omega
theorem after_l0 (e : Nat) : ∀ (k : Nat) (x0 x1 : Int), 1 ≤ x0 → x0 ≤ 1048576 → -9223372036854775808 ≤ x1 - 1 → x1 ≤ 9223372036854775807 → 1048576 ≤ x0 * 2 ^ e → e < k →
  Ft.l0 k x0 x1 = some (min (x0 * 2 ^ (x1 - 1).toNat) 1048576) := by
 induction e with
 | zero =>
  intro k x0 x1 h0 h1 h2 h3 he hk
  obtain ⟨k, rfl⟩ : ∃ m, k = m + 1 := ⟨k - 1, by omega⟩
  have hx : x0 = 1048576 := by simp at he; omega
  have hg := mul_ge (x := x0) (n := (x1 - 1).toNat) (by omega)
  simp only [Ft.l0]
  have hm : mn x0 1048576 = min (x0 * 2 ^ (x1 - 1).toNat) 1048576 := by unfold mn; split <;> omega
  by_cases hc : x1 > 1
  ·
   rw [if_pos hc, if_neg (by omega), hm]
  rw [if_neg hc, hm]
 | succ e ih =>
  intro k x0 x1 h0 h1 h2 h3 he hk
  obtain ⟨k, rfl⟩ : ∃ m, k = m + 1 := ⟨k - 1, by omega⟩
  simp only [Ft.l0]
  by_cases hc : x1 > 1
  ·
   rw [if_pos hc]
   by_cases hd : x0 < 1048576
   ·
    rw [if_pos hd]
    have e1 : wrap64 (x0 * 2) = 2 * x0 := by unfold wrap64; omega
    have e2 : wrap64 (x1 - 1) = x1 - 1 := by unfold wrap64; omega
    have e3 : (x1 - 1).toNat = (x1 - 1 - 1).toNat + 1 := by omega
    rw [e1, e2, e3, mul_step]
    by_cases hs : 2 * x0 ≤ 1048576
    ·
     exact ih k (2 * x0) (x1 - 1) (by omega) hs (by omega) (by omega) (by rw [← mul_step]; exact he) (by omega)
    have hg := mul_ge (x := 2 * x0) (n := (x1 - 1 - 1).toNat) (by omega)
    obtain ⟨k, rfl⟩ : ∃ m, k = m + 1 := ⟨k - 1, by omega⟩
    simp only [Ft.l0]
    have hm : mn (2 * x0) 1048576 = min (2 * x0 * 2 ^ (x1 - 1 - 1).toNat) 1048576 := by unfold mn; split <;> omega
    by_cases a0 : x1 - 1 > 1
    ·
     rw [if_pos a0, if_neg (by omega), hm]
    rw [if_neg a0, hm]
   rw [if_neg hd]
   have hg := mul_ge (x := x0) (n := (x1 - 1).toNat) (by omega)
   congr 1
   unfold mn; split <;> omega
  rw [if_neg hc]
  have e3 : (x1 - 1).toNat = 0 := by omega
  rw [e3]
  congr 1
  simp
  unfold mn; split <;> omega
theorem after_f (k : Nat) (w n : Int) (hn : -9223372036854775808 ≤ n) (a1 : n ≤ 9223372036854775807) (hk : 24 ≤ k) : Ft.f k w n = some (aft w n) := by
 obtain ⟨k, rfl⟩ : ∃ m, k = m + 1 := ⟨k - 1, by omega⟩
 unfold Ft.f aft
 by_cases hw : w < 1
 ·
  rw [if_pos hw, if_pos (.inl hw)]; simp [Ft.j0]
 rw [if_neg hw]
 by_cases a0 : n < 1
 ·
  rw [if_pos (.inr a0), decide_eq_true a0]; simp [Ft.j0]
 rw [if_neg (by omega), decide_eq_false a0]
 simp only [Ft.j0]
 rw [if_neg (by simp)]
 have hm : mn w 1048576 = min w 1048576 := by unfold mn; split <;> omega
 rw [hm, ← min_step (by omega)]
 exact after_l0 20 k _ n (by omega) (by omega) (by omega) a1 (have : 1 ≤ min w 1048576 := (by omega); by omega) (by omega)
theorem wf64 {a : Int} (h : (Lit.int .i64 a).wf = true) : -9223372036854775808 ≤ a ∧ a ≤ 9223372036854775807 := by
 simp only [Lit.wf, Bool.and_eq_true, decide_eq_true_eq] at h
 have h1 : IntKind.i64.min = -9223372036854775808 := by decide
 have h2 : IntKind.i64.max = 9223372036854775807 := by decide
 rw [h1, h2] at h
 exact h
def cnt (p : Int) : Int := min (max p 0) 1099511627776
def csum (l : List Int) : Int := (l.map cnt).sum
theorem cnt_bd (p : Int) : 0 ≤ cnt p ∧ cnt p ≤ 1099511627776 := by unfold cnt; omega
theorem csum_cons (p : Int) (l : List Int) : csum (p :: l) = cnt p + csum l := by simp [csum]
theorem csum_nonneg (l : List Int) : 0 ≤ csum l := by
 induction l with
 | nil => simp [csum]
 | cons p l ih => rw [csum_cons]; have := cnt_bd p; omega
theorem cnt_mn (p : Int) : mn (mx p 0) 1099511627776 = cnt p := by unfold mn mx cnt; split <;> split <;> omega
theorem mn_min (a b : Int) : mn a b = min a b := by unfold mn; split <;> omega
theorem rd_at {l : List Int} {i : Int} (h0 : 0 ≤ i) (h : i < l.length) : rd l i = l[i.toNat]'(by omega) := by
 unfold rd
 have : i.toNat < l.length := by omega
 simp [List.getD, this]
theorem until_l0 (xs : List Int) (hn : xs.length ≤ 17592186044416) (d : Nat) : ∀ (k : Nat) (s i : Int), 0 ≤ s → s ≤ 1099511627776 → 0 ≤ i → i ≤ xs.length → (xs.length : Int) - i = d → d < k →
  Fo.l0 k s xs (xs.length : Int) i = some (min (s + csum (xs.drop i.toNat)) 1099511627776) := by
 induction d with
 | zero =>
  intro k s i h0 h1 h2 h3 hd hk
  obtain ⟨k, rfl⟩ : ∃ m, k = m + 1 := ⟨k - 1, by omega⟩
  simp only [Fo.l0]
  rw [if_neg (by omega), List.drop_of_length_le (by omega)]
  simp [csum]
  omega
 | succ d ih =>
  intro k s i h0 h1 h2 h3 hd hk
  obtain ⟨k, rfl⟩ : ∃ m, k = m + 1 := ⟨k - 1, by omega⟩
  simp only [Fo.l0]
  have hj : i.toNat < xs.length := by omega
  have hb := cnt_bd (xs[i.toNat])
  have e1 : wrap64 (i + 1) = i + 1 := by unfold wrap64; omega
  have e2 : wrap64 (s + cnt (xs[i.toNat])) = s + cnt (xs[i.toNat]) := by unfold wrap64; omega
  have hc := csum_nonneg (xs.drop (i.toNat + 1))
  rw [if_pos (by omega), if_pos h2, if_pos (by omega), cnt_mn, rd_at h2 (by omega), e1, e2, mn_min, ih k _ (i + 1) (by omega) (by omega) (by omega) (by omega) (by omega) (by omega)]
  rw [List.drop_eq_getElem_cons hj, csum_cons, show (i + 1).toNat = i.toNat + 1 from by omega]
  congr 1
  omega
theorem until_f (k : Nat) (a : Int) (l : List Int) (hl : l.length ≤ 40) (hk : 50 ≤ k) : Fo.f k a l = some (min (cnt a + csum l) 1099511627776) := by
 unfold Fo.f
 simp only [Option.bind_some]
 rw [if_pos (by simp; omega)]
 have := until_l0 ([a] ++ l) (by simp; omega) ([a] ++ l).length k 0 0 (by omega) (by omega) (by omega) (by omega) (by omega) (by simp; omega)
 rw [this]
 simp [csum_cons]
def unt (a : Int) (l : List Int) : Int := min (cnt a + csum l) 1099511627776
theorem unt_f (k : Nat) (a : Int) (l : List Int) (hl : l.length ≤ 40) (hk : 50 ≤ k) : Fo.f k a l = some (unt a l) := until_f k a l hl hk
theorem unt_bd (a : Int) (l : List Int) : 0 ≤ unt a l ∧ unt a l ≤ 1099511627776 := by
 have h1 := cnt_bd a
 have h2 := csum_nonneg l
 unfold unt
 omega
theorem unt_nil (a : Int) : unt a [] = cnt a := by
 have := cnt_bd a
 simp [unt, csum]
 omega
abbrev St := Int × Int × Int × Int × ByteArray
def noText : ByteArray := ⟨#[]⟩
def leaseV (a1 is a2 a3 : Int) (a4 : ByteArray) (now a0 : Int) : Int × Int × Int × Int × ByteArray × Int :=
 if a0 < 1 ∨ a0 > 1099511627776 then (0, 0, 0, 0, noText, 1)
 else if is = 1 ∧ a3 ≤ unt now [] then (2, wrap64 (a2 + 1), unt now [a1], a0, a4, 0) else (0, 0, 0, 0, noText, 192)
theorem lease_f (k : Nat) (hk : 60 ≤ k) (l0 : List Int) (a3 a5 a1 is a2 a4 a7 : Int) (a6 : ByteArray) (now a0 : Int) :
  Fq.f k l0 a3 a5 a1 is a2 a4 a7 a6 now a0 = some (leaseV a1 is a2 a4 a6 now a0) := by
 obtain ⟨k, rfl⟩ : ∃ m, k = m + 1 := ⟨k - 1, by omega⟩
 unfold Fq.f leaseV
 by_cases h1 : a0 < 1
 ·
  rw [if_pos h1, if_pos (.inl h1)]
  simp only [Fq.j0, if_true]
  rfl
 rw [if_neg h1]
 by_cases h2 : a0 > 1099511627776
 ·
  rw [decide_eq_true h2, if_pos (.inr h2)]
  simp only [Fq.j0, if_true]
  rfl
 rw [decide_eq_false h2, if_neg (by omega)]
 simp only [Fq.j0]
 rw [if_neg (by simp)]
 by_cases h3 : is = 1
 ·
  rw [if_pos h3, unt_f k now [] (by simp) (by omega)]
  simp only [Option.bind_some]
  by_cases h4 : a4 > unt now []
  ·
   rw [if_pos h4, if_neg (by omega)]
   rfl
  rw [if_neg h4, unt_f k now [a1] (by simp) (by omega), if_pos (by omega)]
  rfl
 rw [if_neg h3, if_neg (by omega)]
 rfl
def q1i (is a0 a2 a1 : Int) (a3 : ByteArray) : Prop :=
 0 ≤ is ∧ is ≤ 5 ∧ 0 ≤ a0 ∧ a0 ≤ 8 ∧ 0 ≤ a2 ∧ a2 ≤ 1099511627776 ∧ 0 ≤ a1 ∧ a1 ≤ 1099511627776 ∧ (a1 > 0 ↔ is = 2) ∧ a3.size ≤ 16 ∧ (a3.data.toList = [] ∨ is = 3)
instance (is a0 a2 a1 : Int) (a3 : ByteArray) : Decidable (q1i is a0 a2 a1 a3) := by unfold q1i; infer_instance
def q1r (a1 is a0 a2 a4 : Int) (a3 : ByteArray) : Prop :=
 q1i is a0 a2 a4 a3 ∧ a0 ≤ a1 ∧ (is = 0 → a0 = 0 ∧ a2 = 0) ∧ (is = 1 → a0 < a1) ∧ (is = 2 ∨ is = 3 → 1 ≤ a0) ∧ (is = 4 → a0 = a1) ∧ (a2 = 0 ∨ is = 1 ∨ is = 2)
instance (a1 is a0 a2 a4 : Int) (a3 : ByteArray) : Decidable (q1r a1 is a0 a2 a4 a3) := by unfold q1r; infer_instance
theorem q2x {p : Prop} [Decidable p] (h : ¬ p) : some false = some (decide p) := by rw [decide_eq_false h]
theorem ofYes {p : Prop} [Decidable p] (h : p) : some true = some (decide p) := by rw [decide_eq_true h]
theorem ofIff {b : Bool} {p : Prop} [Decidable p] (h : b = true ↔ p) : some b = some (decide p) := by
 congr 1
 by_cases hp : p
 ·
  rw [decide_eq_true hp, h.2 hp]
 rw [decide_eq_false hp]
 exact Bool.eq_false_iff.2 (fun e => hp (h.1 e))
theorem stands_f (k : Nat) (hk : 1 ≤ k) (is a0 a2 a1 : Int) (a4 : ByteArray) : Fu.f k is a0 a2 a1 a4 = some (decide (q1i is a0 a2 a1 a4)) := by
 obtain ⟨k, rfl⟩ : ∃ m, k = m + 1 := ⟨k - 1, by omega⟩
 unfold Fu.f
 by_cases h1 : is < 0
 ·
  rw [if_pos h1]; simp only [Fu.j0, if_true]; exact q2x (by unfold q1i; omega)
 rw [if_neg h1]
 by_cases h2 : is > 5
 ·
  rw [if_pos h2]; simp only [Fu.j0, if_true]; exact q2x (by unfold q1i; omega)
 rw [if_neg h2]
 by_cases h3 : a0 < 0
 ·
  rw [if_pos h3]; simp only [Fu.j0, if_true]; exact q2x (by unfold q1i; omega)
 rw [if_neg h3]
 by_cases h4 : a0 > 8
 ·
  rw [if_pos h4]; simp only [Fu.j0, if_true]; exact q2x (by unfold q1i; omega)
 rw [if_neg h4]
 by_cases h5 : a2 < 0
 ·
  rw [if_pos h5]; simp only [Fu.j0, if_true]; exact q2x (by unfold q1i; omega)
 rw [if_neg h5]
 simp only [Fu.j0]
 by_cases h6 : a2 > 1099511627776
 ·
  rw [if_pos (decide_eq_true h6)]; exact q2x (by unfold q1i; omega)
 rw [if_neg (by simpa using h6)]
 by_cases h7 : a1 < 0
 ·
  rw [if_pos h7]; exact q2x (by unfold q1i; omega)
 rw [if_neg h7]
 by_cases h8 : a1 > 1099511627776
 ·
  rw [if_pos h8]; exact q2x (by unfold q1i; omega)
 rw [if_neg h8]
 by_cases h9 : a1 > 0 ↔ is = 2
 ·
  have e9 : ¬ ((decide (a1 > 0) != (is == 2)) = true) := by
   by_cases a : a1 > 0 <;> by_cases b : is = 2 <;> simp [a, b] <;> omega
  rw [if_neg e9]
  by_cases a5 : (a4.size : Int) ≤ 16
  ·
   rw [if_pos a5]
   by_cases a3 : a4.data.toList = []
   ·
    rw [if_pos (by rw [Go.Lib.toList_data]; exact a3)]
    exact ofYes ⟨by omega, by omega, by omega, by omega, by omega, by omega, by omega, by omega, h9, by omega, .inl a3⟩
   rw [if_neg (by rw [Go.Lib.toList_data]; exact a3)]
   exact ofIff ⟨fun e => ⟨by omega, by omega, by omega, by omega, by omega, by omega, by omega, by omega, h9, by omega, .inr (by simpa using e)⟩, fun e => by
    obtain ⟨_, _, _, _, _, _, _, _, _, _, e⟩ := e
    rcases e with e | e
    ·
     exact absurd e a3
    simpa using e⟩
  rw [if_neg a5]; exact q2x (by unfold q1i; omega)
 have e9 : ((decide (a1 > 0) != (is == 2)) = true) := by
  by_cases a : a1 > 0 <;> by_cases b : is = 2 <;> simp [a, b] <;> omega
 rw [if_pos e9]; exact q2x (by unfold q1i; omega)
theorem right_f (k : Nat) (hk : 2 ≤ k) (l0 : List Int) (a1 a6 a2 is a0 a4 a5 : Int) (a3 : ByteArray) :
  Fz.f k l0 a1 a6 a2 is a0 a4 a5 a3 = some (decide (q1r a1 is a0 a4 a5 a3)) := by
 obtain ⟨k, rfl⟩ : ∃ m, k = m + 1 := ⟨k - 1, by omega⟩
 unfold Fz.f
 rw [stands_f (k + 1) (by omega)]
 simp only [Option.bind_some]
 by_cases hs : q1i is a0 a4 a5 a3
 ·
  rw [if_pos (decide_eq_true hs)]
  simp only [Fz.j0]
  by_cases h1 : a0 > a1
  ·
   rw [if_pos (decide_eq_true h1)]; exact q2x (by unfold q1r; omega)
  rw [if_neg (by simpa using h1)]
  have a7 := hs
  unfold q1i at a7
  by_cases i0 : is = 0
  ·
   rw [if_pos i0]
   refine ofIff ?_
   have hr : a3.data.toList = [] := by
    rcases a7.2.2.2.2.2.2.2.2.2.2 with h | h
    ·
     exact h
    omega
   simp only [Go.Lib.toList_data, hr, Bool.and_eq_true, beq_iff_eq]
   unfold q1r
   constructor
   ·
    intro h; exact ⟨hs, by omega, by omega, by omega, by omega, by omega, by omega⟩
   intro h; exact ⟨i0, by omega, by omega, by omega, trivial⟩
  rw [if_neg i0]
  by_cases i1 : is = 1
  ·
   rw [if_pos i1]; exact ofIff (by unfold q1r; simp only [decide_eq_true_eq]; exact ⟨fun h => ⟨hs, by omega, by omega, by omega, by omega, by omega, by omega⟩, fun h => by omega⟩)
  rw [if_neg i1]
  by_cases i2 : is = 2
  ·
   rw [if_pos i2]; exact ofIff (by unfold q1r; simp only [decide_eq_true_eq]; exact ⟨fun h => ⟨hs, by omega, by omega, by omega, by omega, by omega, by omega⟩, fun h => by omega⟩)
  rw [if_neg i2]
  by_cases i4 : is = 4
  ·
   rw [if_pos i4]
   by_cases e : a0 = a1
   ·
    rw [if_pos e]; exact ofIff (by unfold q1r; simp only [beq_iff_eq]; exact ⟨fun h => ⟨hs, by omega, by omega, by omega, by omega, by omega, by omega⟩, fun h => by omega⟩)
   rw [if_neg e]; exact q2x (by unfold q1r; omega)
  rw [if_neg i4]
  by_cases i5 : is = 5
  ·
   rw [if_pos i5]; exact ofIff (by unfold q1r; simp only [beq_iff_eq]; exact ⟨fun h => ⟨hs, by omega, by omega, by omega, by omega, by omega, by omega⟩, fun h => by omega⟩)
  rw [if_neg i5]
  by_cases e : a0 ≥ 1
  ·
   rw [if_pos e]; exact ofIff (by unfold q1r; simp only [beq_iff_eq]; exact ⟨fun h => ⟨hs, by omega, by omega, by omega, by omega, by omega, by omega⟩, fun h => by omega⟩)
  rw [if_neg e]; exact q2x (by unfold q1r; omega)
 rw [if_neg (by simpa using hs)]
 simp only [Fz.j0, if_true]
 exact q2x (fun h => hs h.1)
theorem ref_stands_f (k : Nat) (hk : 1 ≤ k) (is a0 a2 a1 : Int) (a3 : ByteArray) : Fg.f k is a0 a2 a1 a3 = some (decide (q1i is a0 a2 a1 a3)) := by
 obtain ⟨k, rfl⟩ : ∃ m, k = m + 1 := ⟨k - 1, by omega⟩
 unfold Fg.f
 by_cases h1 : is < 0
 ·
  rw [if_pos h1]; simp only [Fg.j0, if_true]; exact q2x (by unfold q1i; omega)
 rw [if_neg h1]
 by_cases h2 : is > 5
 ·
  rw [if_pos h2]; simp only [Fg.j0, if_true]; exact q2x (by unfold q1i; omega)
 rw [if_neg h2]
 by_cases h3 : a0 < 0
 ·
  rw [if_pos h3]; simp only [Fg.j0, if_true]; exact q2x (by unfold q1i; omega)
 rw [if_neg h3]
 by_cases h4 : a0 > 8
 ·
  rw [if_pos h4]; simp only [Fg.j0, if_true]; exact q2x (by unfold q1i; omega)
 rw [if_neg h4]
 by_cases h5 : a2 < 0
 ·
  rw [if_pos h5]; simp only [Fg.j0, if_true]; exact q2x (by unfold q1i; omega)
 rw [if_neg h5]
 by_cases h6 : a2 > 1099511627776
 ·
  rw [if_pos h6]; simp only [Fg.j0, if_true]; exact q2x (by unfold q1i; omega)
 rw [if_neg h6]
 by_cases h7 : a1 > 1099511627776
 ·
  rw [if_pos h7]; simp only [Fg.j0, if_true]; exact q2x (by unfold q1i; omega)
 rw [if_neg h7]
 simp only [Fg.j0]
 by_cases h8 : (a3.size : Int) > 16
 ·
  rw [if_pos (decide_eq_true h8)]; exact q2x (by unfold q1i; omega)
 rw [if_neg (by simpa using h8)]
 by_cases i2 : is = 2
 ·
  rw [if_pos i2]
  by_cases h9 : a1 < 1
  ·
   rw [if_pos h9]; exact q2x (by unfold q1i; omega)
  rw [if_neg h9, if_neg (by omega)]
  refine ofIff ?_
  simp only [Go.Lib.toList_data, beq_iff_eq]
  constructor
  ·
   intro h; exact ⟨by omega, by omega, by omega, by omega, by omega, by omega, by omega, by omega, by omega, by omega, .inl h⟩
  rintro ⟨_, _, _, _, _, _, _, _, _, _, h | h⟩
  ·
   exact h
  omega
 rw [if_neg i2]
 by_cases h9 : a1 = 0
 ·
  rw [if_pos h9]
  by_cases i3 : is = 3
  ·
   rw [if_pos i3]
   exact ofYes ⟨by omega, by omega, by omega, by omega, by omega, by omega, by omega, by omega, by omega, by omega, .inr i3⟩
  rw [if_neg i3]
  refine ofIff ?_
  simp only [Go.Lib.toList_data, beq_iff_eq]
  constructor
  ·
   intro h; exact ⟨by omega, by omega, by omega, by omega, by omega, by omega, by omega, by omega, by omega, by omega, .inl h⟩
  rintro ⟨_, _, _, _, _, _, _, _, _, _, h | h⟩
  ·
   exact h
  omega
 rw [if_neg h9]; exact q2x (by unfold q1i; omega)
theorem ref_right_f (k : Nat) (hk : 5 ≤ k) (l0 : List Int) (a1 a8 a4 is a0 a2 a6 : Int) (a5 : ByteArray) :
  Fd.f k l0 a1 a8 a4 is a0 a2 a6 a5 = some (decide (q1r a1 is a0 a2 a6 a5)) := by
 obtain ⟨k, rfl⟩ : ∃ m, k = m + 4 := ⟨k - 4, by omega⟩
 unfold Fd.f
 rw [ref_stands_f (k + 4) (by omega)]
 simp only [Option.bind_some]
 by_cases hs : q1i is a0 a2 a6 a5
 ·
  rw [if_pos (decide_eq_true hs)]
  simp only [Fd.j0]
  by_cases h1 : a0 > a1
  ·
   rw [if_pos (decide_eq_true h1)]; exact q2x (by unfold q1r; omega)
  rw [if_neg (by simpa using h1)]
  have a9 := hs
  unfold q1i at a9
  by_cases i0 : is = 0
  ·
   rw [if_pos i0]
   by_cases t0 : a0 = 0
   ·
    rw [if_pos t0]
    simp only [Fd.j1]
    by_cases d0 : a2 = 0
    ·
     rw [if_neg (by simpa using d0), if_neg (by omega)]
     simp only [Fd.j2]
     rw [if_neg (by simp), if_neg (by omega), if_neg (by omega)]
     simp only [Fd.j3]
     rw [if_neg (by simp), if_neg (by omega), if_pos d0]
     exact ofYes (by unfold q1r; exact ⟨hs, by omega, by omega, by omega, by omega, by omega, by omega⟩)
    rw [if_pos (by simpa using d0)]; exact q2x (by unfold q1r; omega)
   rw [if_neg t0]
   simp only [Fd.j1, if_true]
   exact q2x (by unfold q1r; omega)
  rw [if_neg i0]
  simp only [Fd.j1]
  rw [if_neg (by simp)]
  by_cases i1 : is = 1
  ·
   rw [if_pos i1]
   simp only [Fd.j2]
   by_cases h2 : a0 ≥ a1
   ·
    rw [if_pos (decide_eq_true h2)]; exact q2x (by unfold q1r; omega)
   rw [if_neg (by simpa using h2), if_neg (by omega), if_neg (by omega)]
   simp only [Fd.j3]
   rw [if_neg (by simp), if_neg (by omega)]
   have a7 : q1r a1 is a0 a2 a6 a5 := by unfold q1r; exact ⟨hs, by omega, by omega, by omega, by omega, by omega, by omega⟩
   by_cases d0 : a2 = 0
   ·
    rw [if_pos d0]; exact ofYes a7
   rw [if_neg d0, if_pos i1]; exact ofYes a7
  rw [if_neg i1]
  simp only [Fd.j2]
  rw [if_neg (by simp)]
  by_cases i2 : is = 2
  ·
   rw [if_pos i2]
   simp only [Fd.j3]
   by_cases h2 : a0 < 1
   ·
    rw [if_pos (decide_eq_true h2)]; exact q2x (by unfold q1r; omega)
   rw [if_neg (by simpa using h2), if_neg (by omega)]
   have a7 : q1r a1 is a0 a2 a6 a5 := by unfold q1r; exact ⟨hs, by omega, by omega, by omega, by omega, by omega, by omega⟩
   by_cases d0 : a2 = 0
   ·
    rw [if_pos d0]; exact ofYes a7
   rw [if_neg d0, if_neg i1]; exact ofIff ⟨fun _ => a7, fun _ => by simpa using i2⟩
  rw [if_neg i2]
  have a3 : (if a2 = 0 then some true else if is = 1 then some true else some (is == 2)) = some (decide (a2 = 0)) := by
   by_cases d0 : a2 = 0
   ·
    rw [if_pos d0]; exact ofYes d0
   rw [if_neg d0, if_neg i1]; exact ofIff ⟨fun h => absurd (by simpa using h) i2, fun h => absurd h d0⟩
  by_cases i3 : is = 3
  ·
   rw [if_pos i3]
   simp only [Fd.j3]
   by_cases h2 : a0 < 1
   ·
    rw [if_pos (decide_eq_true h2)]; exact q2x (by unfold q1r; omega)
   rw [if_neg (by simpa using h2), if_neg (by omega), a3]
   exact ofIff (by simp only [decide_eq_true_eq]; unfold q1r; exact ⟨fun h => ⟨hs, by omega, by omega, by omega, by omega, by omega, by omega⟩, fun h => by omega⟩)
  rw [if_neg i3]
  simp only [Fd.j3]
  rw [if_neg (by simp)]
  by_cases i4 : is = 4
  ·
   rw [if_pos i4]
   by_cases e : a0 = a1
   ·
    rw [if_pos e, a3]
    exact ofIff (by simp only [decide_eq_true_eq]; unfold q1r; exact ⟨fun h => ⟨hs, by omega, by omega, by omega, by omega, by omega, by omega⟩, fun h => by omega⟩)
   rw [if_neg e]; exact q2x (by unfold q1r; omega)
  rw [if_neg i4, a3]
  exact ofIff (by simp only [decide_eq_true_eq]; unfold q1r; exact ⟨fun h => ⟨hs, by omega, by omega, by omega, by omega, by omega, by omega⟩, fun h => by omega⟩)
 rw [if_neg (by simpa using hs)]
 simp only [Fd.j0, if_true]
 exact q2x (fun h => hs h.1)
def failV (a1 a2 is a0 : Int) (a3 : ByteArray) (now : Int) : Int × Int × Int × Int × ByteArray × Int :=
 if is = 2 then (if a0 ≥ a1 then (4, a0, 0, 0, a3, 0) else (1, a0, unt now [aft a2 a0], 0, a3, 0)) else (0, 0, 0, 0, noText, 191)
theorem fail_f (k : Nat) (hk : 60 ≤ k) (l0 : List Int) (a1 a2 a3 is a0 a5 a6 : Int) (a4 : ByteArray) (now : Int) (h1 : -9223372036854775808 ≤ a0) (h2 : a0 ≤ 9223372036854775807) :
  F1.f k l0 a1 a2 a3 is a0 a5 a6 a4 now = some (failV a1 a2 is a0 a4 now) := by
 unfold F1.f failV
 by_cases i2 : is = 2
 ·
  rw [if_pos i2, if_pos i2]
  by_cases h : a0 ≥ a1
  ·
   rw [if_pos h, if_pos h]
  rw [if_neg h, if_neg h, after_f k a2 a0 h1 h2 (by omega)]
  simp only [Option.bind_some]
  rw [unt_f k now _ (by simp) (by omega)]
  rfl
 rw [if_neg i2, if_neg i2]
 rfl
def expireV (a1 a4 is a0 a2 a5 : Int) (a3 : ByteArray) (now : Int) : St :=
 if is = 2 ∧ a2 ≤ unt now [] then (if a0 ≥ a1 then (4, a0, 0, 0, a3) else (1, a0, unt a2 [aft a4 a0], 0, a3)) else (is, a0, a2, a5, a3)
theorem expire_f (k : Nat) (hk : 60 ≤ k) (l0 : List Int) (a1 a3 a2 is a0 a4 a6 : Int) (a5 : ByteArray) (now : Int) (h1 : -9223372036854775808 ≤ a0) (h2 : a0 ≤ 9223372036854775807) :
  Fv.f k l0 a1 a3 a2 is a0 a4 a6 a5 now = some (expireV a1 a3 is a0 a4 a6 a5 now) := by
 unfold Fv.f expireV
 by_cases i2 : is = 2
 ·
  rw [if_pos i2, unt_f k now [] (by simp) (by omega)]
  simp only [Option.bind_some]
  by_cases h : a4 > unt now []
  ·
   rw [if_pos h, if_neg (by omega)]
  rw [if_neg h, if_pos ⟨i2, by omega⟩, fail_f k hk l0 a1 a3 a2 is a0 a4 a6 a5 a4 h1 h2]
  unfold failV
  simp only [Option.bind_some]
  rw [if_pos i2]
  split <;> rfl
 rw [if_neg i2, if_neg (by omega)]
def beatV (a0 is a1 a3 : Int) (a2 : ByteArray) (now : Int) : Int × Int × Int × Int × ByteArray × Int :=
 if is = 2 then (is, a1, unt now [a0], a3, a2, 0) else (0, 0, 0, 0, noText, 191)
theorem beat_f (k : Nat) (hk : 60 ≤ k) (l0 : List Int) (a2 a3 a0 is a1 a6 a5 : Int) (a4 : ByteArray) (now : Int) :
  Gb.f k l0 a2 a3 a0 is a1 a6 a5 a4 now = some (beatV a0 is a1 a5 a4 now) := by
 unfold Gb.f beatV
 by_cases i2 : is = 2
 ·
  rw [if_pos i2, unt_f k now _ (by simp) (by omega), if_pos i2]
  rfl
 rw [if_neg i2, if_neg i2]
 rfl
def doneV (is a1 : Int) (a0 : ByteArray) : Int × Int × Int × Int × ByteArray × Int :=
 if is = 2 then (if a0.size ≤ 16 then (3, a1, 0, 0, a0, 0) else (0, 0, 0, 0, noText, 1)) else (0, 0, 0, 0, noText, 191)
theorem done_f (l0 : List Int) (a3 a4 a2 is a1 a5 a7 : Int) (a6 a0 : ByteArray) :
  Gc.f l0 a3 a4 a2 is a1 a5 a7 a6 a0 = some (doneV is a1 a0) := by
 unfold Gc.f doneV
 by_cases i2 : is = 2
 ·
  rw [if_pos i2, if_pos i2]
  by_cases h : (a0.size : Int) > 16
  ·
   rw [if_pos h, if_neg (by omega)]
   rfl
  rw [if_neg h, if_pos (by omega)]
 rw [if_neg i2, if_neg i2]
 rfl
end Go.Proofs.Ytabmkighhmchmaa.Pure
namespace Go.Proofs.Ytabmkighhmchmaa.X
open Go.RowKit Go.YW.PrintWords Go.YW.PrintLast Go.YW.PrintMore Go.YW.Sq
attribute [local go_sem] q0y q0w q1g q1f q0t q0s q0x q0v
set_option linter.unusedVariables false
set_option linter.unusedSimpArgs false
end Go.Proofs.Ytabmkighhmchmaa.X
namespace Go.Proofs.Ytabmkighhmchmaa.Pure
open Go.RowKit Go.Proofs.Ytabmkighhmchmaa.X Go.YW.PrintWords Go.YW.PrintLast
end Go.Proofs.Ytabmkighhmchmaa.Pure
namespace Go.Proofs.Ytabmkighhmchmaa.X
open Go.RowKit Go.YW.PrintWords Go.YW.PrintLast Go.YW.PrintMore Go.YW.Sq
attribute [local go_sem] q0y q0w q1g q1f q0t q0s q0x q0v
set_option linter.unusedVariables false
set_option linter.unusedSimpArgs false
end Go.Proofs.Ytabmkighhmchmaa.X
namespace Go.Proofs.Ytabmkighhmchmaa.Pure
open Go.RowKit Go.Proofs.Ytabmkighhmchmaa.X Go.YW.PrintWords Go.YW.PrintLast
def ofV (p : Int × Int × Int × Int × ByteArray) : S51 := ⟨p.1, p.2.1, p.2.2.1, p.2.2.2.1, p.2.2.2.2⟩
def expS (t : S49) (s : S51) (now : Int) : S51 := ofV (expireV t.f1 t.f2 s.f0 s.f1 s.f2 s.f3 s.f4 now)
def Tr (xs : List S51) : Prop := ∀ s ∈ xs, -9223372036854775808 ≤ s.f1 ∧ s.f1 ≤ 9223372036854775807
theorem q3q {xs : List S51} {i : Int} (h0 : 0 ≤ i) (h1 : i < (xs.length : Int)) : q0c xs i ∈ xs := by
 obtain ⟨n, rfl⟩ := Int.eq_ofNat_of_zero_le h0
 rw [q2k xs n (by omega)]
 exact List.getElem_mem _
theorem exp_o (k : Nat) (hk : 60 ≤ k) (t : S49) (s : S51) (now : Int) (h : -9223372036854775808 ≤ s.f1 ∧ s.f1 ≤ 9223372036854775807) : expireO k t s now = some (expS t s now) := by
 unfold expireO
 rw [expire_f k hk _ _ _ _ _ _ _ _ _ _ h.1 h.2, Option.bind_some]
 rfl
def stepS (ts : List S49) (now : Int) (p : Int × List S51) : Int × List S51 :=
 if 0 ≤ q2o (unt now []) p.2 (List.finRange p.2.length) then
  mendP ts p.1 (p.2.set (q2o (unt now []) p.2 (List.finRange p.2.length)).toNat (expS (q0e ts (q2o (unt now []) p.2 (List.finRange p.2.length))) (q0c p.2 (q2o (unt now []) p.2 (List.finRange p.2.length))) now))
 else p
def iterS (ts : List S49) (now : Int) : Nat → Int × List S51 → Int × List S51
 | 0, p => p
 | n + 1, p => iterS ts now n (stepS ts now p)
theorem mendP_len (ts : List S49) (is : Int) (xs : List S51) : (mendP ts is xs).2.length = xs.length := by
 unfold mendP
 split
 ·
  simp
 simp [q3d]
theorem stepS_len (ts : List S49) (now : Int) (p : Int × List S51) : (stepS ts now p).2.length = p.2.length := by
 unfold stepS
 split
 ·
  rw [mendP_len, List.length_set]
 rfl
theorem cancelS_tr (s : S51) : (q0u s).f1 = s.f1 := by unfold q0u; split <;> rfl
theorem readyS_tr (s : S51) : (q2e s).f1 = s.f1 := by unfold q2e; split <;> rfl
theorem expS_tr (t : S49) (s : S51) (now : Int) : (expS t s now).f1 = s.f1 := by unfold expS ofV expireV; split <;> (try split) <;> rfl
theorem tr_set {xs : List S51} (h : Tr xs) (i : Nat) (s : S51) (hs : -9223372036854775808 ≤ s.f1 ∧ s.f1 ≤ 9223372036854775807) : Tr (xs.set i s) := by
 intro y hy
 rcases List.mem_or_eq_of_mem_set hy with hy | rfl
 ·
  exact h y hy
 exact hs
theorem tr_ready (ts : List S49) (xs : List S51) (h : Tr xs) : ∀ q, q ≤ xs.length → Tr (q1m ts xs q)
 | 0, _ => h
 | q + 1, hq => by
  rw [q1m]
  split
  ·
   exact tr_set (tr_ready ts xs h q (by omega)) _ _ (by rw [readyS_tr]; exact h _ (q3q (by omega) (by omega)))
  exact tr_ready ts xs h q (by omega)
theorem tr_mend (ts : List S49) (is : Int) (xs : List S51) (h : Tr xs) : Tr (mendP ts is xs).2 := by
 unfold mendP
 split
 ·
  intro y hy
  obtain ⟨s, hs, rfl⟩ := List.mem_map.1 hy
  rw [cancelS_tr]
  exact h s hs
 exact tr_ready ts xs h _ (Nat.le_refl _)
theorem tr_step (ts : List S49) (now : Int) (p : Int × List S51) (h : Tr p.2) : Tr (stepS ts now p).2 := by
 unfold stepS
 split
 ·
  rename_i h0
  have h1 := (firstF_lt (unt now []) p.2 (List.finRange p.2.length)).2
  exact tr_mend _ _ _ (tr_set h _ _ (by rw [expS_tr]; exact h _ (q3q h0 h1)))
 exact h
end Go.Proofs.Ytabmkighhmchmaa.Pure
namespace Go.Proofs.Ytabmkighhmchmaa.Pure
open Go.RowKit Go.Proofs.Ytabmkighhmchmaa.X Go.YW.PrintWords Go.YW.PrintLast
set_option linter.unusedVariables false
theorem w64_in (n : Int) (h : -9223372036854775808 ≤ n ∧ n ≤ 9223372036854775807) : wrap64 n = n := by unfold wrap64; omega
theorem rd_nat (l : List Int) (i : Nat) (h : i < l.length) : rd l (i : Int) = l[i] := by simp [rd, List.getD_eq_getElem?_getD, List.getElem?_eq_getElem h]
def ascB (n a0 : Int) : List Int → Bool
 | [] => true
 | x :: xs => decide (a0 < x) && (decide (x < n) && ascB n x xs)
def numsB (t : S49) : Bool := decide (1 ≤ t.f1) && (decide (t.f1 ≤ 8) && (decide (0 ≤ t.f2) && (decide (t.f2 ≤ 1048576) && (decide (1 ≤ t.f3) && decide (t.f3 ≤ 1048576)))))
def taskB (n : Int) (t : S49) : Bool := ascB n (-1) t.f0 && numsB t
theorem task_l (n : Int) (t : S49) (hl : t.f0.length ≤ 1000) : ∀ m i k a0, i + m = t.f0.length → m + 1 ≤ k →
  F4.l0 k n a0 t.f0 (t.f0.length : Int) (i : Int) t.f0 t.f1 t.f2 t.f3 = some (ascB n a0 (t.f0.drop i) && numsB t) := by
 intro m
 induction m with
 | zero =>
  intro i k a0 hi hk
  obtain ⟨k, rfl⟩ : ∃ q, k = q + 1 := ⟨k - 1, by omega⟩
  rw [F4.l0, if_neg (by omega), List.drop_eq_nil_of_le (by omega), ascB, Bool.true_and]
  unfold numsB
  by_cases h1 : 1 ≤ t.f1
  case neg => rw [if_neg (by omega)]; simp [h1]
  rw [if_pos (by omega)]
  by_cases h2 : t.f1 ≤ 8
  case neg => rw [if_neg (by omega)]; simp [h2]
  rw [if_pos (by omega)]
  by_cases h3 : 0 ≤ t.f2
  case neg => rw [if_neg (by omega)]; simp [h3]
  rw [if_pos (by omega)]
  by_cases h4 : t.f2 ≤ 1048576
  case neg => rw [if_neg (by omega)]; simp [h4]
  rw [if_pos (by omega)]
  by_cases h5 : 1 ≤ t.f3
  case neg => rw [if_neg (by omega)]; simp [h5]
  rw [if_pos (by omega)]
  simp [h1, h2, h3, h4, h5]
 | succ m ih =>
  intro i k a0 hi hk
  obtain ⟨k, rfl⟩ : ∃ q, k = q + 1 := ⟨k - 1, by omega⟩
  rw [F4.l0, if_pos (by omega), if_pos (by omega), if_pos (by omega), rd_nat _ _ (by omega), show wrap64 ((i : Int) + 1) = ((i + 1 : Nat) : Int) by rw [w64_in _ (by omega)]; omega, ih (i + 1) k _ (by omega) (by omega), List.drop_eq_getElem_cons (show i < t.f0.length by omega), ascB]
  generalize t.f0[i]'(by omega) = x
  by_cases h1 : a0 < x
  case neg => rw [if_pos (by omega)]; simp [h1]
  rw [if_neg (by omega)]
  by_cases h2 : x < n
  case neg => rw [if_pos (by omega)]; simp [h2]
  rw [if_neg (by omega)]
  simp [h1, h2]
theorem task_f (n : Int) (t : S49) (hl : t.f0.length ≤ 20) (k : Nat) (hk : 22 ≤ k) : F4.f k t.f0 t.f1 t.f2 t.f3 n = some (taskB n t) := by
 unfold F4.f taskB
 rw [show (0 : Int) = ((0 : Nat) : Int) from rfl, task_l n t (by omega) t.f0.length 0 k (-1) (by omega) (by omega), List.drop_zero]
theorem anyT_f (n : Int) (k : Nat) (hk : 22 ≤ k) : ∀ l : List S49, (∀ t ∈ l, t.f0.length ≤ 20) → anyT k n l = some (!(l.all (taskB n)))
 | [], _ => rfl
 | t :: ts, h => by
  rw [anyT, task_f n t (h t (by simp)) k hk, Option.bind_some, anyT_f n k hk ts (fun y hy => h y (by simp [hy])), List.all_cons]
  cases taskB n t <;> simp
theorem asc_mem {n : Int} : ∀ {l : List Int} {last : Int}, ascB n last l = true → ∀ x ∈ l, last < x ∧ x < n
 | [], last, _, x, hx => by simp at hx
 | y :: l, last, h, x, hx => by
  rw [ascB] at h
  simp only [Bool.and_eq_true, decide_eq_true_eq] at h
  rcases List.mem_cons.1 hx with rfl | hx
  ·
   exact ⟨h.1, h.2.1⟩
  have := asc_mem h.2.2 x hx
  omega
def inB (n : Nat) (T : List S49) : Prop := ∀ t ∈ T, t.f0.length ≤ 20 ∧ ∀ x ∈ t.f0, 0 ≤ x ∧ x < (n : Int)
def doneB (D : List Bool) (x : Int) : Bool := rdOf false D x
def canB (D : List Bool) (t : S49) (i : Nat) : Bool := !(doneB D (i : Int)) && t.f0.all (doneB D)
def freeV (D : List Bool) : List S49 → Nat → List Int
 | [], _ => []
 | t :: ts, i => if canB D t i = true then (i : Int) :: freeV D ts (i + 1) else freeV D ts (i + 1)
theorem any_ok (D : List Bool) : ∀ l : List Int, (∀ x ∈ l, 0 ≤ x ∧ x < (D.length : Int)) → anyO (openF D) l = some (!(l.all (doneB D)))
 | [], _ => rfl
 | x :: l, h => by
  rw [anyO, openF, if_pos (h x (by simp)), Option.bind_some, any_ok D l (fun y hy => h y (by simp [hy])), List.all_cons]
  unfold doneB
  cases rdOf false D x <;> simp
theorem free_ok (D : List Bool) : ∀ (T : List S49) (i : Nat), inB D.length T → i + T.length ≤ D.length → freeL D T i = some (freeV D T i)
 | [], i, _, _ => rfl
 | t :: ts, i, h, hi => by
  simp only [List.length_cons] at hi
  have ht := h t (by simp)
  have ho : openF D (i : Int) = some (!(rdOf false D (i : Int))) := by unfold openF; rw [if_pos ⟨by omega, by omega⟩]
  have ha : anyF (openF D) t.f0 = some (!(t.f0.all (doneB D))) := by
   have := ht.1
   unfold anyF
   rw [if_pos (by omega), any_ok D t.f0 ht.2]
  rw [freeL, ho, Option.bind_some, ha, Option.bind_some, free_ok D ts (i + 1) (fun y hy => h y (by simp [hy])) (by omega), freeV]
  unfold canB
  rw [show doneB D (i : Int) = rdOf false D (i : Int) from rfl]
  cases rdOf false D (i : Int) <;> cases t.f0.all (doneB D) <;> simp
theorem free_mem (D : List Bool) : ∀ (T : List S49) (i : Nat) (x : Int), x ∈ freeV D T i → ∃ j : Nat, x = ((i + j : Nat) : Int) ∧ ∃ h : j < T.length, canB D T[j] (i + j) = true
 | [], i, x, h => by simp [freeV] at h
 | t :: ts, i, x, h => by
  have a0 : x ∈ freeV D ts (i + 1) → ∃ j : Nat, x = ((i + j : Nat) : Int) ∧ ∃ h : j < (t :: ts).length, canB D (t :: ts)[j] (i + j) = true := by
   intro hx
   obtain ⟨j, e, hj, hc⟩ := free_mem D ts (i + 1) x hx
   exact ⟨j + 1, by rw [e]; omega, by simp; omega, by rw [show i + (j + 1) = i + 1 + j by omega]; exact hc⟩
  rw [freeV] at h
  by_cases hc : canB D t i = true
  ·
   rw [if_pos hc] at h
   rcases List.mem_cons.1 h with rfl | h
   ·
    exact ⟨0, rfl, by simp, hc⟩
   exact a0 h
  rw [if_neg hc] at h
  exact a0 h
theorem free_f (k : Nat) (T : List S49) (D : List Bool) (hT : inB T.length T) (hD : D.length = T.length) (hl : T.length ≤ 20) : Ge.f k T D = some (freeV D T 0) := by
 unfold Ge.f
 rw [if_pos (by omega), free_ok D T 0 (by rw [hD]; exact hT) (by omega)]
def OrdOf (T : List S49) : List Bool → List Int → Prop
 | D, [] => freeV D T 0 = []
 | D, x :: xs => (∃ l, freeV D T 0 = x :: l) ∧ OrdOf T (D.set x.toNat true) xs
theorem rdOf_nat (D : List Bool) (j : Nat) (h : j < D.length) : rdOf false D (j : Int) = D[j] := by simp [rdOf, List.getD_eq_getElem?_getD, List.getElem?_eq_getElem h]
theorem count_set_lt {D : List Bool} {j : Nat} (h : j < D.length) (hf : D[j] = false) : (D.set j true).count false + 1 = D.count false := by
 have h1 := List.count_set (a := true) (b := false) h
 rw [hf] at h1
 have h2 : 0 < D.count false := List.count_pos_iff.2 (by rw [← hf]; exact List.getElem_mem h)
 simp at h1
 omega
theorem order_ex (T : List S49) (hT : inB T.length T) (hl : T.length ≤ 20) : ∀ (c : Nat) (D : List Bool), D.length = T.length → D.count false = c → ∃ a1, a1.length ≤ c ∧ OrdOf T D a1 ∧ ∀ k a2, c < k → a2.length + c ≤ 1000 → Fx.l0 k T D a2 = some (a2 ++ a1) := by
 intro c
 induction c with
 | zero =>
  intro D hD hc
  have a3 : freeV D T 0 = [] := by
   cases h : freeV D T 0 with
   | nil => rfl
   | cons x l =>
    exfalso
    obtain ⟨j, e, hj, a0⟩ := free_mem D T 0 x (by rw [h]; simp)
    unfold canB doneB at a0
    simp only [Nat.zero_add, Bool.and_eq_true, Bool.not_eq_true'] at a0
    have h1 := a0.1
    rw [rdOf_nat D j (by omega)] at h1
    have h2 : 0 < D.count false := List.count_pos_iff.2 (by rw [← h1]; exact List.getElem_mem _)
    omega
  refine ⟨[], by simp, a3, fun k a2 hk _ => ?_⟩
  obtain ⟨k, rfl⟩ : ∃ q, k = q + 1 := ⟨k - 1, by omega⟩
  rw [Fx.l0, free_f k T D hT hD hl, Option.bind_some, a3]
  simp
 | succ c ih =>
  intro D hD hc
  cases h : freeV D T 0 with
  | nil =>
   refine ⟨[], by simp, h, fun k a2 hk _ => ?_⟩
   obtain ⟨k, rfl⟩ : ∃ q, k = q + 1 := ⟨k - 1, by omega⟩
   rw [Fx.l0, free_f k T D hT hD hl, Option.bind_some, h]
   simp
  | cons x l =>
   obtain ⟨j, e, hj, a0⟩ := free_mem D T 0 x (by rw [h]; simp)
   unfold canB doneB at a0
   simp only [Nat.zero_add, Bool.and_eq_true, Bool.not_eq_true'] at a0
   have h1 := a0.1
   rw [rdOf_nat D j (by omega)] at h1
   have h2 := count_set_lt (by omega) h1
   have ex : x.toNat = j := by omega
   obtain ⟨a1, r1, r2, r3⟩ := ih (D.set j true) (by rw [List.length_set]; exact hD) (by omega)
   refine ⟨x :: a1, by simp; omega, ⟨⟨l, h⟩, by rw [ex]; exact r2⟩, fun k a2 hk ho => ?_⟩
   obtain ⟨k, rfl⟩ : ∃ q, k = q + 1 := ⟨k - 1, by omega⟩
   have a4 : rd (x :: l) 0 = x := rfl
   rw [Fx.l0, free_f k T D hT hD hl, Option.bind_some, h, if_neg (by simp; omega), if_pos (by simp), a4, if_pos (by omega), if_pos (by omega), if_pos (by omega), ex, r3 k (a2 ++ [x]) (by omega) (by rw [List.length_append]; simp; omega)]
   simp
theorem right_ex (nm : ByteArray) (T : List S49) (hn : ∀ t ∈ T, t.f0.length ≤ 20) (hl : T.length ≤ 20) : ∃ R a0, (∀ k, 100 ≤ k → Fy.f k nm T = some R) ∧
  (R = 0 → inB T.length T ∧ 1 ≤ T.length ∧ T.length ≤ 10 ∧ a0.length = T.length ∧ OrdOf T (List.replicate T.length false) a0 ∧ ∀ k, 100 ≤ k → Fx.f k T = some a0) := by
 unfold Fy.f
 by_cases h1 : 10 < T.length
 ·
  exact ⟨2, [], fun k hk => by rw [if_pos h1], fun h => by simp at h⟩
 by_cases h2 : T.length < 1
 ·
  exact ⟨1, [], fun k hk => by rw [if_neg h1, if_pos h2], fun h => by simp at h⟩
 by_cases h3 : nm.size < 1
 ·
  exact ⟨1, [], fun k hk => by rw [if_neg h1, if_neg h2, if_pos h3], fun h => by simp at h⟩
 by_cases h4 : 16 < nm.size
 ·
  exact ⟨1, [], fun k hk => by rw [if_neg h1, if_neg h2, if_neg h3, if_pos h4], fun h => by simp at h⟩
 cases h5 : T.all (taskB (T.length : Int)) with
 | false => exact ⟨1, [], fun k hk => by rw [if_neg h1, if_neg h2, if_neg h3, if_neg h4, anyT_f _ k (by omega) T hn, h5]; rfl, fun h => by simp at h⟩
 | true =>
  have hT : inB T.length T := by
   intro t ht
   refine ⟨hn t ht, fun x hx => ?_⟩
   have h6 := List.all_eq_true.1 h5 t ht
   unfold taskB at h6
   simp only [Bool.and_eq_true] at h6
   have := asc_mem h6.1 x hx
   omega
  obtain ⟨a0, o1, o2, o3⟩ := order_ex T hT hl T.length (List.replicate T.length false) (by simp) (by simp)
  have a1 : ∀ k, 100 ≤ k → Fx.f k T = some a0 := by
   intro k hk
   unfold Fx.f
   rw [if_pos (by omega), if_pos (by omega), Int.toNat_natCast, o3 k [] (by omega) (by simp; omega), List.nil_append]
  by_cases h6 : a0.length < T.length
  ·
   exact ⟨160, a0, fun k hk => by rw [if_neg h1, if_neg h2, if_neg h3, if_neg h4, anyT_f _ k (by omega) T hn, h5, Option.bind_some, if_neg (by simp), a1 k hk, Option.bind_some, if_pos h6], fun h => by simp at h⟩
  exact ⟨0, a0, fun k hk => by rw [if_neg h1, if_neg h2, if_neg h3, if_neg h4, anyT_f _ k (by omega) T hn, h5, Option.bind_some, if_neg (by simp), a1 k hk, Option.bind_some, if_neg h6], fun _ => ⟨hT, by omega, by omega, by omega, o2, a1⟩⟩
def g (M : List Bool) (x : Nat) : Bool := M.getD x false
theorem rdOf_g (M : List Bool) (x : Nat) : rdOf false M (x : Int) = g M x := by simp [rdOf, g]
theorem g_set (M : List Bool) (j x : Nat) (h : j < M.length) : g (M.set j true) x = (decide (j = x) || g M x) := by
 unfold g
 rw [List.getD_eq_getElem?_getD, List.getD_eq_getElem?_getD, List.getElem?_set]
 by_cases e : j = x
 ·
  subst e
  rw [if_pos rfl, if_pos h]
  simp
 rw [if_neg e]
 simp [e]
def markL (M : List Bool) : List Int → List Bool
 | [] => M
 | x :: xs => markL (M.set x.toNat true) xs
def q3w : List S49 → Nat → List Bool → List Bool
 | [], _, M => M
 | t :: ts, i, M => q3w ts (i + 1) (if g M i = true then markL M t.f0 else M)
def q2m (T : List S49) : Nat → List Bool → List Bool
 | 0, M => M
 | r + 1, M => q2m T r (q3w T 0 M)
def needs (T : List S49) (i : Nat) : List Int := (T.getD i z49).f0
def q4a (T : List S49) (i : Nat) : List Bool := q2m T T.length (markL (List.replicate T.length false) (needs T i))
theorem q3g : ∀ (L : List Int) (M : List Bool), (markL M L).length = M.length
 | [], M => rfl
 | x :: L, M => by rw [markL, q3g L, List.length_set]
theorem q5b : ∀ (L : List Int) (M : List Bool), (∀ x ∈ L, 0 ≤ x ∧ x < (M.length : Int)) → ∀ x, g (markL M L) x = true ↔ (g M x = true ∨ ((x : Nat) : Int) ∈ L)
 | [], M, _, x => by simp [markL]
 | y :: L, M, h, x => by
  have hy := h y (by simp)
  rw [markL, q5b L (M.set y.toNat true) (fun z hz => by rw [List.length_set]; exact h z (by simp [hz])) x, g_set M y.toNat x (by omega)]
  simp only [Bool.or_eq_true, decide_eq_true_eq, List.mem_cons]
  constructor
  ·
   rintro ((e | e) | e)
   ·
    exact .inr (.inl (by omega))
   ·
    exact .inl e
   exact .inr (.inr e)
  rintro (e | e | e)
  ·
   exact .inl (.inr e)
  ·
   exact .inl (.inl (by omega))
  exact .inr e
theorem q4o : ∀ (T : List S49) (i : Nat) (M : List Bool), (q3w T i M).length = M.length
 | [], i, M => rfl
 | t :: T, i, M => by
  rw [q3w, q4o T]
  split
  ·
   exact q3g _ _
  rfl
theorem rounds_len (T : List S49) : ∀ (r : Nat) (M : List Bool), (q2m T r M).length = M.length
 | 0, M => rfl
 | r + 1, M => by rw [q2m, rounds_len T r, q4o]
theorem round_keep (n : Nat) : ∀ (T : List S49) (i : Nat) (M : List Bool), M.length = n → (∀ t ∈ T, ∀ x ∈ t.f0, 0 ≤ x ∧ x < (n : Int)) → ∀ x, g M x = true → g (q3w T i M) x = true
 | [], i, M, _, _, x, h => h
 | t :: T, i, M, hM, hT, x, h => by
  rw [q3w]
  have ht := hT t (by simp)
  refine round_keep n T (i + 1) _ ?_ (fun u hu => hT u (by simp [hu])) x ?_
  ·
   split
   ·
    rw [q3g]; exact hM
   exact hM
  split
  ·
   exact (q5b t.f0 M (by rw [hM]; exact ht) x).2 (.inl h)
  exact h
theorem round_need (n : Nat) : ∀ (T : List S49) (i : Nat) (M : List Bool), M.length = n → (∀ t ∈ T, ∀ x ∈ t.f0, 0 ≤ x ∧ x < (n : Int)) → ∀ (j : Nat) (hj : j < T.length), g M (i + j) = true → ∀ x : Nat, (x : Int) ∈ T[j].f0 → g (q3w T i M) x = true
 | [], i, M, _, _, j, hj, _, _, _ => by simp at hj
 | t :: T, i, M, hM, hT, j, hj, h, x, hx => by
  rw [q3w]
  have ht := hT t (by simp)
  cases j with
  | zero =>
   rw [Nat.add_zero] at h
   rw [if_pos h]
   exact round_keep n T (i + 1) _ (by rw [q3g]; exact hM) (fun u hu => hT u (by simp [hu])) x ((q5b t.f0 M (by rw [hM]; exact ht) x).2 (.inr hx))
  | succ j =>
   refine round_need n T (i + 1) _ ?_ (fun u hu => hT u (by simp [hu])) j (by simpa using hj) ?_ x hx
   ·
    split
    ·
     rw [q3g]; exact hM
    exact hM
   rw [show i + 1 + j = i + (j + 1) by omega]
   split
   ·
    exact (q5b t.f0 M (by rw [hM]; exact ht) _).2 (.inl h)
   exact h
theorem round_inv (n : Nat) (P : Nat → Prop) : ∀ (T : List S49) (i : Nat) (M : List Bool), M.length = n → (∀ t ∈ T, ∀ x ∈ t.f0, 0 ≤ x ∧ x < (n : Int)) →
  (∀ (j : Nat) (hj : j < T.length), P (i + j) → ∀ x : Nat, (x : Int) ∈ T[j].f0 → P x) → (∀ x, g M x = true → P x) → ∀ x, g (q3w T i M) x = true → P x
 | [], i, M, _, _, _, h, x, hx => h x hx
 | t :: T, i, M, hM, hT, hP, h, x, hx => by
  rw [q3w] at hx
  have ht := hT t (by simp)
  refine round_inv n P T (i + 1) _ ?_ (fun u hu => hT u (by simp [hu])) (fun j hj hp y hy => hP (j + 1) (by simp; omega) (by rw [show i + (j + 1) = i + 1 + j by omega]; exact hp) y hy) ?_ x hx
  ·
   split
   ·
    rw [q3g]; exact hM
   exact hM
  intro y hy
  split at hy
  ·
   rename_i hi
   rcases (q5b t.f0 M (by rw [hM]; exact ht) y).1 hy with e | e
   ·
    exact h y e
   exact hP 0 (by simp) (h i hi) y e
  exact h y hy
theorem q4i {T : List S49} {j : Nat} (hj : j < T.length) : needs T j = T[j].f0 := by simp [needs, List.getD_eq_getElem?_getD, List.getElem?_eq_getElem hj]
theorem reach_no (T : List S49) (hT : inB T.length T) (p : Nat → Nat) (hp : ∀ i, i < T.length → ∀ x : Nat, (x : Int) ∈ needs T i → p x < p i) (i : Nat) (hi : i < T.length) : g (q4a T i) i = false := by
 have a0 : ∀ t ∈ T, ∀ x ∈ t.f0, 0 ≤ x ∧ x < (T.length : Int) := fun t ht => (hT t ht).2
 have a1 : ∀ x ∈ needs T i, 0 ≤ x ∧ x < (T.length : Int) := by rw [q4i hi]; exact a0 _ (List.getElem_mem hi)
 have a3 : ∀ (r : Nat) (M : List Bool), M.length = T.length → (∀ x, g M x = true → p x < p i) → ∀ x, g (q2m T r M) x = true → p x < p i := by
  intro r
  induction r with
  | zero => intro M _ h x hx; exact h x hx
  | succ r ih =>
   intro M hM h x hx
   rw [q2m] at hx
   refine ih (q3w T 0 M) (by rw [q4o]; exact hM) ?_ x hx
   refine round_inv T.length (fun x => p x < p i) T 0 M hM a0 (fun j hj a2 y hy => ?_) h
   have := hp j hj y (by rw [q4i hj]; exact hy)
   simp only [Nat.zero_add] at a2
   omega
 cases h : g (q4a T i) i with
 | false => rfl
 | true =>
  exfalso
  have := a3 T.length _ (by rw [q3g]; simp) (fun x hx => by
   rcases (q5b _ _ (by simpa using a1) x).1 hx with e | e
   ·
    simp [g, List.getD_eq_getElem?_getD, List.getElem?_replicate] at e
    split at e <;> simp at e
   exact hp i hi x e) i h
  omega
def Way (T : List S49) : Nat → Nat → Nat → Prop
 | 0, a, b => a = b
 | l + 1, a, b => ∃ c : Nat, (c : Int) ∈ needs T a ∧ Way T l c b
theorem way_snoc (T : List S49) : ∀ l a b c, Way T l a b → ((c : Nat) : Int) ∈ needs T b → Way T (l + 1) a c
 | 0, a, b, c, h, hc => by
  have h' : a = b := h
  subst h'
  exact ⟨c, hc, rfl⟩
 | l + 1, a, b, c, ⟨d, hd, h⟩, hc => ⟨d, hd, way_snoc T l d b c h hc⟩
theorem way_last (T : List S49) : ∀ l a c, Way T (l + 1) a c → ∃ b, Way T l a b ∧ ((c : Nat) : Int) ∈ needs T b
 | 0, a, c, ⟨d, hd, h⟩ => by
  have h' : d = c := h
  subst h'
  exact ⟨a, rfl, hd⟩
 | l + 1, a, c, ⟨d, hd, h⟩ => by
  obtain ⟨b, hb, hc⟩ := way_last T l d c h
  exact ⟨b, ⟨d, hd, hb⟩, hc⟩
theorem needs_lt {T : List S49} (hT : inB T.length T) {a : Nat} {c : Nat} (h : (c : Int) ∈ needs T a) : a < T.length ∧ c < T.length := by
 by_cases ha : a < T.length
 ·
  rw [q4i ha] at h
  have := (hT _ (List.getElem_mem ha)).2 _ h
  exact ⟨ha, by omega⟩
 simp [needs, List.getD_eq_getElem?_getD, List.getElem?_eq_none (Nat.le_of_not_lt ha), z49] at h
theorem reach_yes (T : List S49) (hT : inB T.length T) (v : Nat) (hv : v < T.length) (l : Nat) (hl : l ≤ T.length) (hw : Way T (l + 1) v v) : g (q4a T v) v = true := by
 have a2 : ∀ t ∈ T, ∀ x ∈ t.f0, 0 ≤ x ∧ x < (T.length : Int) := fun t ht => (hT t ht).2
 have a7 : ∀ x ∈ needs T v, 0 ≤ x ∧ x < (T.length : Int) := by rw [q4i hv]; exact a2 _ (List.getElem_mem hv)
 have a0 : ∀ (r : Nat) (M : List Bool), M.length = T.length → ∀ x, g M x = true → g (q2m T r M) x = true := by
  intro r
  induction r with
  | zero => intro M _ x h; exact h
  | succ r ih => intro M hM x h; exact ih _ (by rw [q4o]; exact hM) x (round_keep T.length T 0 M hM a2 x h)
 have a1 : ∀ (r : Nat) (M : List Bool), M.length = T.length → ∀ b c : Nat, g (q2m T r M) b = true → (c : Int) ∈ needs T b → g (q2m T (r + 1) M) c = true := by
  intro r
  induction r with
  | zero =>
   intro M hM b c hb hc
   have a4 := (needs_lt hT hc).1
   exact round_need T.length T 0 M hM a2 b a4 (by rw [Nat.zero_add]; exact hb) c (by rw [← q4i a4]; exact hc)
  | succ r ih => intro M hM b c hb hc; exact ih (q3w T 0 M) (by rw [q4o]; exact hM) b c hb hc
 have a3 : (markL (List.replicate T.length false) (needs T v)).length = T.length := by rw [q3g]; simp
 have a8 : ∀ (l : Nat) (x : Nat), Way T (l + 1) v x → g (q2m T l (markL (List.replicate T.length false) (needs T v))) x = true := by
  intro l
  induction l with
  | zero =>
   intro x hx
   obtain ⟨d, hd, he⟩ := hx
   have a6 : d = x := he
   subst a6
   exact (q5b _ _ (by simpa using a7) _).2 (.inr hd)
  | succ l ih =>
   intro x hx
   obtain ⟨b, hb, hc⟩ := way_last T (l + 1) v x hx
   exact a1 l _ a3 b x (ih b hb) hc
 have a5 : ∀ (a r : Nat) (M : List Bool), q2m T (a + r) M = q2m T r (q2m T a M) := by
  intro a
  induction a with
  | zero => intro r M; rw [Nat.zero_add]; rfl
  | succ a ih => intro r M; rw [show a + 1 + r = (a + r) + 1 by omega, q2m, ih, q2m]
 unfold q4a
 obtain ⟨d, hd⟩ : ∃ d, T.length = l + d := ⟨T.length - l, by omega⟩
 have h1 := a8 l v hw
 have h2 := a0 d _ (by rw [rounds_len]; exact a3) v h1
 rw [← a5] at h2
 rw [← hd] at h2
 exact h2
theorem pigeon : ∀ (n : Nat) (s : Nat → Nat), (∀ k, k ≤ n → s k < n) → ∃ a b, a < b ∧ b ≤ n ∧ s a = s b := by
 intro n
 induction n with
 | zero => intro s h; have := h 0 (Nat.le_refl _); omega
 | succ n ih =>
  intro s h
  by_cases a0 : ∃ a, a ≤ n ∧ s a = s (n + 1)
  ·
   obtain ⟨a, ha, e⟩ := a0
   exact ⟨a, n + 1, by omega, Nat.le_refl _, e⟩
  have hv := h (n + 1) (Nat.le_refl _)
  obtain ⟨a, b, h1, h2, h3⟩ := ih (fun k => if s k = n then s (n + 1) else s k) (fun k hk => by
   have a1 := h k (by omega)
   have a2 : s k ≠ s (n + 1) := fun e => a0 ⟨k, hk, e⟩
   split
   ·
    rename_i e; omega
   omega)
  refine ⟨a, b, h1, by omega, ?_⟩
  have ha : s a ≠ s (n + 1) := fun e => a0 ⟨a, by omega, e⟩
  have hb : s b ≠ s (n + 1) := fun e => a0 ⟨b, by omega, e⟩
  split at h3 <;> split at h3 <;> omega
theorem free_none (D : List Bool) : ∀ (T : List S49) (i : Nat), freeV D T i = [] → ∀ (j : Nat) (hj : j < T.length), canB D T[j] (i + j) = false
 | [], i, _, j, hj => by simp at hj
 | t :: T, i, h, j, hj => by
  rw [freeV] at h
  by_cases hc : canB D t i = true
  ·
   rw [if_pos hc] at h; cases h
  rw [if_neg hc] at h
  cases j with
  | zero => simpa using hc
  | succ j =>
   have := free_none D T (i + 1) h j (by simpa using hj)
   rw [show i + (j + 1) = i + 1 + j by omega]
   exact this
theorem tr_stuck (T : List S49) (hT : inB T.length T) : ∀ (a1 : List Int) (D : List Bool), D.length = T.length → OrdOf T D a1 → a1.length < D.count false → ∃ D' : List Bool, D'.length = T.length ∧ 0 < D'.count false ∧ freeV D' T 0 = []
 | [], D, hD, h, hlt => ⟨D, hD, by simpa using hlt, h⟩
 | x :: xs, D, hD, h, hlt => by
  rw [OrdOf] at h
  obtain ⟨⟨l, hf⟩, h2⟩ := h
  obtain ⟨j, e, hj, a0⟩ := free_mem D T 0 x (by rw [hf]; simp)
  unfold canB doneB at a0
  simp only [Nat.zero_add, Bool.and_eq_true, Bool.not_eq_true'] at a0 e
  have h1 := a0.1
  rw [rdOf_nat D j (by omega)] at h1
  have h3 := count_set_lt (by omega) h1
  have ex : x.toNat = j := by omega
  rw [ex] at h2
  simp only [List.length_cons] at hlt
  exact tr_stuck T hT xs (D.set j true) (by rw [List.length_set]; exact hD) h2 (by omega)
theorem stuck_cycle (T : List S49) (hT : inB T.length T) (D : List Bool) (hD : D.length = T.length) (hc : 0 < D.count false) (hf : freeV D T 0 = []) : ∃ v, v < T.length ∧ g (q4a T v) v = true := by
 have a0 : ∀ i, i < T.length → g D i = false → ∃ x : Nat, (x : Int) ∈ needs T i ∧ g D x = false := by
  intro i hi hu
  have h1 := free_none D T 0 hf i hi
  unfold canB doneB at h1
  rw [Nat.zero_add, rdOf_g, hu] at h1
  simp only [Bool.not_false, Bool.true_and] at h1
  rw [List.all_eq_false] at h1
  obtain ⟨x, hx, hn⟩ := h1
  have hr := (hT _ (List.getElem_mem hi)).2 x hx
  refine ⟨x.toNat, by rw [q4i hi, Int.toNat_of_nonneg hr.1]; exact hx, ?_⟩
  rw [← rdOf_g, Int.toNat_of_nonneg hr.1]
  simpa using hn
 obtain ⟨i0, hi0, hu0⟩ : ∃ i, i < T.length ∧ g D i = false := by
  obtain ⟨i, hi, e⟩ := List.mem_iff_getElem.1 (List.count_pos_iff.1 hc)
  exact ⟨i, by omega, by simp [g, List.getD_eq_getElem?_getD, List.getElem?_eq_getElem hi, e]⟩
 have a2 : ∀ i : Nat, ∃ x : Nat, (i < T.length ∧ g D i = false) → ((x : Int) ∈ needs T i ∧ g D x = false) := by
  intro i
  by_cases h : i < T.length ∧ g D i = false
  ·
   obtain ⟨x, h1, h2⟩ := a0 i h.1 h.2
   exact ⟨x, fun _ => ⟨h1, h2⟩⟩
  exact ⟨0, fun hh => absurd hh h⟩
 obtain ⟨f, a4⟩ := Classical.axiomOfChoice a2
 let s : Nat → Nat := fun k => Nat.rec i0 (fun _ r => f r) k
 have hs : ∀ k, s k < T.length ∧ g D (s k) = false := by
  intro k
  induction k with
  | zero => exact ⟨hi0, hu0⟩
  | succ k ih =>
   have := a4 (s k) ih
   exact ⟨(needs_lt hT this.1).2, this.2⟩
 have a1 : ∀ k, ((s (k + 1) : Nat) : Int) ∈ needs T (s k) := fun k => (a4 (s k) (hs k)).1
 have a3 : ∀ d a, Way T d (s a) (s (a + d)) := by
  intro d
  induction d with
  | zero => intro a; rfl
  | succ d ih => intro a; exact way_snoc T d _ _ _ (ih a) (by have := a1 (a + d); exact this)
 obtain ⟨a, b, h1, h2, h3⟩ := pigeon T.length s (fun k _ => (hs k).1)
 refine ⟨s a, (hs a).1, reach_yes T hT (s a) (hs a).1 (b - a - 1) (by omega) ?_⟩
 have := a3 (b - a) a
 rw [show a + (b - a) = b by omega, ← h3, show b - a = b - a - 1 + 1 by omega] at this
 exact this
theorem tr_rank (T : List S49) (hT : inB T.length T) : ∀ (a1 : List Int) (D : List Bool), D.length = T.length → OrdOf T D a1 → a1.length = D.count false → ∃ p : Nat → Nat, ∀ i, i < T.length → g D i = false → ∀ x : Nat, (x : Int) ∈ needs T i → g D x = true ∨ p x < p i
 | [], D, hD, _, hl => by
  refine ⟨fun _ => 0, fun i hi hu => ?_⟩
  exfalso
  have hm : (false : Bool) ∈ D := by
   have e : D[i]'(by omega) = false := by simpa [g, List.getD_eq_getElem?_getD, List.getElem?_eq_getElem (show i < D.length by omega)] using hu
   rw [← e]; exact List.getElem_mem _
  have := List.count_pos_iff.2 hm
  simp at hl
  omega
 | x0 :: xs, D, hD, h, hl => by
  rw [OrdOf] at h
  obtain ⟨⟨l, hf⟩, h2⟩ := h
  obtain ⟨j, e, hj, a0⟩ := free_mem D T 0 x0 (by rw [hf]; simp)
  unfold canB doneB at a0
  simp only [Nat.zero_add, Bool.and_eq_true, Bool.not_eq_true'] at a0 e
  have h1 := a0.1
  rw [rdOf_nat D j (by omega)] at h1
  have h3 := count_set_lt (by omega) h1
  have ex : x0.toNat = j := by omega
  rw [ex] at h2
  simp only [List.length_cons] at hl
  obtain ⟨p, hp⟩ := tr_rank T hT xs (D.set j true) (by rw [List.length_set]; exact hD) h2 (by omega)
  refine ⟨fun i => if i = j then 0 else p i + 1, fun i hi hu x hx => ?_⟩
  by_cases a2 : i = j
  ·
   subst a2
   left
   rw [← rdOf_g]
   rw [q4i hi] at hx
   exact List.all_eq_true.1 a0.2 _ hx
  have a3 : g (D.set j true) i = false := by rw [g_set D j i (by omega), hu]; simp; omega
  rcases hp i hi a3 x hx with e1 | e1
  ·
   rw [g_set D j x (by omega)] at e1
   simp only [Bool.or_eq_true, decide_eq_true_eq] at e1
   rcases e1 with rfl | e1
   ·
    right; simp [a2]
   exact .inl e1
  right
  simp only [a2, if_false]
  split <;> omega
theorem order_cyc (T : List S49) (hT : inB T.length T) (a1 : List Int) (a2 : a1.length ≤ T.length) (a3 : OrdOf T (List.replicate T.length false) a1) : a1.length < T.length ↔ ∃ v, v < T.length ∧ g (q4a T v) v = true := by
 have a0 : (List.replicate T.length false).count false = T.length := by simp
 constructor
 ·
  intro h
  obtain ⟨D, d1, d2, d3⟩ := tr_stuck T hT a1 _ (by simp) a3 (by rw [a0]; exact h)
  exact stuck_cycle T hT D d1 d2 d3
 rintro ⟨v, hv, hr⟩
 rcases Nat.lt_or_eq_of_le a2 with h | h
 ·
  exact h
 exfalso
 obtain ⟨p, hp⟩ := tr_rank T hT a1 _ (by simp) a3 (by rw [a0]; exact h)
 have a4 := reach_no T hT p (fun i hi x hx => by
  have hu : g (List.replicate T.length false) i = false := by simp [g, List.getD_eq_getElem?_getD, List.getElem?_replicate]; split <;> rfl
  rcases hp i hi hu x hx with e | e
  ·
   simp [g, List.getD_eq_getElem?_getD, List.getElem?_replicate] at e
   split at e <;> simp at e
  exact e) v hv
 rw [a4] at hr
 cases hr
theorem rdT {T : List S49} {i : Nat} (h : i < T.length) : q0e T (i : Int) = T[i] := by simp [q0e, List.getD_eq_getElem?_getD, List.getElem?_eq_getElem h]
theorem wi (i : Nat) (h : i < 100000) : wrap64 ((i : Int) + 1) = ((i + 1 : Nat) : Int) := by rw [w64_in _ (by omega)]; omega
theorem shaped_l1 (n : Int) (T : List S49) (a1 a2 : Int) (t : S49) (hl : t.f0.length ≤ 1000) : ∀ m a k a0, a + m = t.f0.length → (a = 0 ∧ a0 = -1 ∨ 0 < a ∧ 0 ≤ a0 ∧ ∃ h : a - 1 < t.f0.length, t.f0[a - 1] = a0) →
  Fe.l1 (k + m + 1) n T a1 a2 t.f0 (t.f0.length : Int) (a : Int) t.f0 t.f1 t.f2 t.f3 = if (ascB n a0 (t.f0.drop a) && numsB t) = true then Fe.l0 k n T a1 (wrap64 (a2 + 1)) else some false := by
 intro m
 induction m with
 | zero =>
  intro a k a0 ha hp
  rw [Nat.add_zero, Fe.l1, if_neg (by omega), List.drop_eq_nil_of_le (by omega), ascB, Bool.true_and]
  unfold numsB
  by_cases h1 : 1 ≤ t.f1
  case neg => rw [if_pos (by omega), if_neg (by simp [h1])]
  rw [if_neg (by omega)]
  by_cases h2 : t.f1 ≤ 8
  case neg => rw [if_pos (by omega), if_neg (by simp [h2])]
  rw [if_neg (by omega)]
  by_cases h3 : 0 ≤ t.f2
  case neg => rw [if_pos (by omega), if_neg (by simp [h3])]
  rw [if_neg (by omega)]
  by_cases h4 : t.f2 ≤ 1048576
  case neg => rw [if_pos (by omega), if_neg (by simp [h4])]
  rw [if_neg (by omega)]
  by_cases h5 : 1 ≤ t.f3
  case neg => rw [if_pos (by omega), if_neg (by simp [h5])]
  rw [if_neg (by omega)]
  by_cases h6 : t.f3 ≤ 1048576
  case neg => rw [if_pos (by omega), if_neg (by simp [h6])]
  rw [if_neg (by omega), if_pos (by simp [h1, h2, h3, h4, h5, h6])]
 | succ m ih =>
  intro a k a0 ha hp
  have hd : t.f0.drop a = t.f0[a]'(by omega) :: t.f0.drop (a + 1) := List.drop_eq_getElem_cons (by omega)
  rw [show k + (m + 1) + 1 = (k + m + 1) + 1 by omega, Fe.l1, if_pos (by omega), if_pos (by omega), if_pos (by omega), rd_nat _ _ (by omega), hd, ascB]
  have hI := fun (hx : 0 ≤ t.f0[a]'(by omega)) => ih (a + 1) k (t.f0[a]'(by omega)) (by omega) (.inr ⟨by omega, hx, by simp; omega, by simp⟩)
  rw [wi a (by omega)]
  by_cases h1 : t.f0[a]'(by omega) < 0
  ·
   rw [if_pos h1, if_neg]
   have : ¬ a0 < t.f0[a]'(by omega) := by rcases hp with ⟨_, e⟩ | ⟨_, e, _⟩ <;> omega
   simp [this]
  rw [if_neg h1]
  by_cases h2 : t.f0[a]'(by omega) ≥ n
  ·
   rw [if_pos h2, if_neg]
   have : ¬ t.f0[a]'(by omega) < n := by omega
   simp [this]
  rw [if_neg h2, hI (by omega)]
  rcases hp with ⟨e1, e2⟩ | ⟨e1, e2, e3, e4⟩
  ·
   rw [if_neg (by omega)]
   have g1 : a0 < t.f0[a]'(by omega) := by omega
   have g2 : t.f0[a]'(by omega) < n := by omega
   simp only [g1, g2, decide_true, Bool.true_and]
  have ew : wrap64 ((a : Int) - 1) = ((a - 1 : Nat) : Int) := by rw [w64_in _ (by omega)]; omega
  rw [if_pos (by omega), ew, if_pos (by omega), if_pos (by omega), rd_nat _ _ e3, e4]
  have g2 : t.f0[a]'(by omega) < n := by omega
  by_cases g1 : a0 < t.f0[a]'(by omega)
  ·
   rw [if_neg (by omega)]
   simp only [g1, g2, decide_true, Bool.true_and]
  rw [if_pos (by omega), if_neg (by simp [g1])]
theorem shaped_l0 (n : Int) (T : List S49) (hT : ∀ t ∈ T, t.f0.length ≤ 20) (hl : T.length ≤ 20) : ∀ m i k, i + m = T.length → 23 * m + 1 ≤ k → Fe.l0 k n T (T.length : Int) (i : Int) = some ((T.drop i).all (taskB n)) := by
 intro m
 induction m with
 | zero =>
  intro i k hi hk
  obtain ⟨k, rfl⟩ : ∃ q, k = q + 1 := ⟨k - 1, by omega⟩
  rw [Fe.l0, if_neg (by omega), List.drop_eq_nil_of_le (by omega)]
  rfl
 | succ m ih =>
  intro i k hi hk
  have a0 : i < T.length := by omega
  have ht := hT T[i] (List.getElem_mem a0)
  obtain ⟨k, rfl⟩ : ∃ q, k = (q + T[i].f0.length + 1) + 1 := ⟨k - T[i].f0.length - 2, by omega⟩
  rw [Fe.l0, if_pos (by omega), if_pos (by omega), if_pos (by omega), rdT (by omega), show (0 : Int) = ((0 : Nat) : Int) from rfl, shaped_l1 n T _ _ T[i] (by omega) T[i].f0.length 0 k (-1) (by omega) (.inl ⟨rfl, rfl⟩), List.drop_zero, wi i (by omega), ih (i + 1) k (by omega) (by omega), List.drop_eq_getElem_cons (show i < T.length by omega), List.all_cons]
  unfold taskB
  cases ascB n (-1) T[i].f0 && numsB T[i] <;> simp
theorem reach_l3 (nm : ByteArray) (T : List S49) (x8 a1 a2 : Int) (a0 : List S49) (L : List Int) (hL : L.length ≤ 1000) : ∀ m a k (M : List Bool), (∀ x ∈ L, 0 ≤ x ∧ x < (M.length : Int)) → a + m = L.length →
  Fc.l3 (k + m + 1) M x8 a0 a1 a2 L (L.length : Int) (a : Int) nm T = Fc.l2 k (markL M (L.drop a)) x8 a0 a1 (wrap64 (a2 + 1)) nm T := by
 intro m
 induction m with
 | zero =>
  intro a k M h ha
  rw [Nat.add_zero, Fc.l3, if_neg (by omega), List.drop_eq_nil_of_le (by omega), markL]
 | succ m ih =>
  intro a k M h ha
  have hx := h L[a] (List.getElem_mem (by omega))
  rw [show k + (m + 1) + 1 = (k + m + 1) + 1 by omega, Fc.l3, if_pos (by omega), if_pos (by omega), if_pos (by omega), rd_nat _ _ (by omega), if_pos hx.1, if_pos hx.2, wi a (by omega), ih (a + 1) k _ (by rw [List.length_set]; exact h) (by omega), List.drop_eq_getElem_cons (show a < L.length by omega), markL]
theorem reach_l2 (nm : ByteArray) (T : List S49) (hT : inB T.length T) (hl : T.length ≤ 20) (x8 : Int) : ∀ m i (M : List Bool), M.length = T.length → i + m = T.length → ∀ k, 23 * m + 1 ≤ k → ∃ k', k - (23 * m + 1) ≤ k' ∧
  Fc.l2 k M x8 T (T.length : Int) (i : Int) nm T = Fc.l1 k' (q3w (T.drop i) i M) (wrap64 (x8 + 1)) nm T := by
 intro m
 induction m with
 | zero =>
  intro i M hM hi k hk
  obtain ⟨k, rfl⟩ : ∃ q, k = q + 1 := ⟨k - 1, by omega⟩
  refine ⟨k, by omega, ?_⟩
  rw [Fc.l2, if_neg (by omega), List.drop_eq_nil_of_le (by omega), q3w]
 | succ m ih =>
  intro i M hM hi k hk
  have a0 : i < T.length := by omega
  have ht := hT T[i] (List.getElem_mem a0)
  obtain ⟨k, rfl⟩ : ∃ q, k = q + 1 := ⟨k - 1, by omega⟩
  rw [Fc.l2, if_pos (by omega), if_pos (by omega), if_pos (by omega), if_pos (by omega), rdOf_g, List.drop_eq_getElem_cons (show i < T.length by omega), q3w]
  cases hg : g M i with
  | false =>
   rw [if_neg (by simp), if_neg (by simp), wi i (by omega)]
   obtain ⟨k', h1, h2⟩ := ih (i + 1) M hM (by omega) k (by omega)
   exact ⟨k', by omega, h2⟩
  | true =>
   rw [if_pos rfl, if_pos rfl, rdT (by omega)]
   obtain ⟨q, rfl⟩ : ∃ q, k = q + T[i].f0.length + 1 := ⟨k - T[i].f0.length - 1, by omega⟩
   rw [show (0 : Int) = ((0 : Nat) : Int) from rfl, reach_l3 nm T x8 _ _ T T[i].f0 (by omega) T[i].f0.length 0 q M (by rw [hM]; exact ht.2) (by omega), List.drop_zero, wi i (by omega)]
   obtain ⟨k', h1, h2⟩ := ih (i + 1) (markL M T[i].f0) (by rw [q3g]; exact hM) (by omega) q (by omega)
   exact ⟨k', by omega, h2⟩
theorem reach_l1 (nm : ByteArray) (T : List S49) (hT : inB T.length T) (hl : T.length ≤ 10) : ∀ r x8 (M : List Bool), M.length = T.length → x8 + r = T.length → ∀ k, 240 * r + 1 ≤ k → Fc.l1 k M (x8 : Int) nm T = some (q2m T r M) := by
 intro r
 induction r with
 | zero =>
  intro x8 M hM hi k hk
  obtain ⟨k, rfl⟩ : ∃ q, k = q + 1 := ⟨k - 1, by omega⟩
  rw [Fc.l1, if_neg (by omega), q2m]
 | succ r ih =>
  intro x8 M hM hi k hk
  obtain ⟨k, rfl⟩ : ∃ q, k = q + 1 := ⟨k - 1, by omega⟩
  obtain ⟨k', h1, h2⟩ := reach_l2 nm T hT (by omega) (x8 : Int) T.length 0 M hM (by omega) k (by omega)
  rw [Fc.l1, if_pos (by omega), show (0 : Int) = ((0 : Nat) : Int) from rfl, h2, List.drop_zero, wi x8 (by omega), ih (x8 + 1) _ (by rw [q4o]; exact hM) (by omega) k' (by omega), q2m]
theorem reach_l0 (nm : ByteArray) (T : List S49) (L : List Int) (hL : L.length ≤ 1000) : ∀ m a k (M : List Bool), (∀ x ∈ L, 0 ≤ x ∧ x < (M.length : Int)) → a + m = L.length →
  Fc.l0 (k + m + 1) M L (L.length : Int) (a : Int) nm T = Fc.l1 k (markL M (L.drop a)) 0 nm T := by
 intro m
 induction m with
 | zero =>
  intro a k M h ha
  rw [Nat.add_zero, Fc.l0, if_neg (by omega), List.drop_eq_nil_of_le (by omega), markL]
 | succ m ih =>
  intro a k M h ha
  have hx := h L[a] (List.getElem_mem (by omega))
  rw [show k + (m + 1) + 1 = (k + m + 1) + 1 by omega, Fc.l0, if_pos (by omega), if_pos (by omega), if_pos (by omega), rd_nat _ _ (by omega), if_pos hx.1, if_pos hx.2, wi a (by omega), ih (a + 1) k _ (by rw [List.length_set]; exact h) (by omega), List.drop_eq_getElem_cons (show a < L.length by omega), markL]
theorem reach_f (nm : ByteArray) (T : List S49) (hT : inB T.length T) (hl : T.length ≤ 10) (i : Nat) (hi : i < T.length) (k : Nat) (hk : 3000 ≤ k) : Fc.f k nm T (i : Int) = some (q4a T i) := by
 unfold Fc.f q4a
 have ht := hT T[i] (List.getElem_mem hi)
 obtain ⟨q, rfl⟩ : ∃ q, k = q + T[i].f0.length + 1 := ⟨k - T[i].f0.length - 1, by omega⟩
 rw [if_pos (by omega), if_pos (by omega), if_pos (by omega), if_pos (by omega), Int.toNat_natCast, rdT hi, q4i hi]
 have h0 := reach_l0 nm T T[i].f0 (by omega) T[i].f0.length 0 q (List.replicate T.length false) (by simpa using ht.2) (by omega)
 rw [List.drop_zero] at h0
 rw [show ((0 : Nat) : Int) = 0 from rfl] at h0
 rw [h0]
 exact reach_l1 nm T hT hl T.length 0 _ (by rw [q3g]; simp) (by omega) q (by omega)
theorem right_l0 (nm : ByteArray) (T : List S49) (hT : inB T.length T) (hl : T.length ≤ 10) : ∀ m i k, i + m = T.length → m + 3001 ≤ k →
  Fi.l0 k (T.length : Int) (i : Int) nm T = some (if (List.range' i m).any (fun j => g (q4a T j) j) = true then 160 else 0) := by
 intro m
 induction m with
 | zero =>
  intro i k hi hk
  obtain ⟨k, rfl⟩ : ∃ q, k = q + 1 := ⟨k - 1, by omega⟩
  rw [Fi.l0, if_neg (by omega)]
  rfl
 | succ m ih =>
  intro i k hi hk
  obtain ⟨k, rfl⟩ : ∃ q, k = q + 1 := ⟨k - 1, by omega⟩
  have a0 : (q4a T i).length = T.length := by unfold q4a; rw [rounds_len, q3g]; simp
  rw [Fi.l0, if_pos (by omega), reach_f nm T hT hl i (by omega) k (by omega), Option.bind_some, if_pos (by omega), if_pos (by omega), rdOf_g, wi i (by omega), ih (i + 1) k (by omega) (by omega), List.range'_succ, List.any_cons]
  cases g (q4a T i) i
  ·
   rw [if_neg (by simp), Bool.false_or]
  simp
theorem right_both (nm : ByteArray) (T : List S49) (hn : ∀ t ∈ T, t.f0.length ≤ 20) (hl : T.length ≤ 20) : ∃ R, (∀ k, 100 ≤ k → Fy.f k nm T = some R) ∧ (∀ k, 4000 ≤ k → Fi.f k nm T = some R) := by
 unfold Fy.f Fi.f Fe.f
 by_cases h1 : 10 < T.length
 ·
  exact ⟨2, fun k hk => by rw [if_pos h1], fun k hk => by rw [if_pos (by omega)]⟩
 by_cases h2 : T.length < 1
 ·
  refine ⟨1, fun k hk => by rw [if_neg h1, if_pos h2], fun k hk => ?_⟩
  obtain ⟨k, rfl⟩ : ∃ q, k = q + 1 := ⟨k - 1, by omega⟩
  rw [if_neg (by omega), if_pos (by omega), Fe.j0, if_pos rfl]; rfl
 by_cases h3 : nm.size < 1
 ·
  refine ⟨1, fun k hk => by rw [if_neg h1, if_neg h2, if_pos h3], fun k hk => ?_⟩
  obtain ⟨k, rfl⟩ : ∃ q, k = q + 1 := ⟨k - 1, by omega⟩
  rw [if_neg (by omega), if_neg (by omega), if_pos (by omega), Fe.j0, if_pos rfl]; rfl
 by_cases h4 : 16 < nm.size
 ·
  refine ⟨1, fun k hk => by rw [if_neg h1, if_neg h2, if_neg h3, if_pos h4], fun k hk => ?_⟩
  obtain ⟨k, rfl⟩ : ∃ q, k = q + 1 := ⟨k - 1, by omega⟩
  rw [if_neg (by omega), if_neg (by omega), if_neg (by omega), Fe.j0, if_pos (by simp; omega)]; rfl
 have a5 : ∀ k, 4000 ≤ k → Fe.j0 k (T.length : Int) (decide ((nm.size : Int) > 16)) nm T = some (T.all (taskB (T.length : Int))) := by
  intro k hk
  obtain ⟨k, rfl⟩ : ∃ q, k = q + 1 := ⟨k - 1, by omega⟩
  rw [Fe.j0, if_neg (by simp; omega)]
  have := shaped_l0 (T.length : Int) T hn hl T.length 0 k (by omega) (by omega)
  rw [List.drop_zero] at this
  exact this
 cases h5 : T.all (taskB (T.length : Int)) with
 | false =>
  exact ⟨1, fun k hk => by rw [if_neg h1, if_neg h2, if_neg h3, if_neg h4, anyT_f _ k (by omega) T hn, h5]; rfl, fun k hk => by rw [if_neg (by omega), if_neg (by omega), if_neg (by omega), a5 k hk, h5]; rfl⟩
 | true =>
  have hT : inB T.length T := by
   intro t ht
   refine ⟨hn t ht, fun x hx => ?_⟩
   have h6 := List.all_eq_true.1 h5 t ht
   unfold taskB at h6
   simp only [Bool.and_eq_true] at h6
   have := asc_mem h6.1 x hx
   omega
  obtain ⟨a2, o1, o2, o3⟩ := order_ex T hT hl T.length (List.replicate T.length false) (by simp) (by simp)
  have a3 : ∀ k, 100 ≤ k → Fx.f k T = some a2 := by
   intro k hk
   unfold Fx.f
   rw [if_pos (by omega), if_pos (by omega), Int.toNat_natCast, o3 k [] (by omega) (by simp; omega), List.nil_append]
  have a1 := order_cyc T hT a2 o1 o2
  have a4 : ∀ k, 4000 ≤ k → Fi.l0 k (T.length : Int) 0 nm T = some (if (List.range' 0 T.length).any (fun j => g (q4a T j) j) = true then 160 else 0) := by
   intro k hk
   have := right_l0 nm T hT (by omega) T.length 0 k (by omega) (by omega)
   exact this
  have a0 : (List.range' 0 T.length).any (fun j => g (q4a T j) j) = true ↔ ∃ v, v < T.length ∧ g (q4a T v) v = true := by
   rw [List.any_eq_true]
   constructor
   ·
    rintro ⟨v, hv, e⟩
    rw [List.mem_range'_1] at hv
    exact ⟨v, by omega, e⟩
   rintro ⟨v, hv, e⟩
   exact ⟨v, by rw [List.mem_range'_1]; omega, e⟩
  refine ⟨if a2.length < T.length then 160 else 0, fun k hk => ?_, fun k hk => ?_⟩
  ·
   rw [if_neg h1, if_neg h2, if_neg h3, if_neg h4, anyT_f _ k (by omega) T hn, h5, Option.bind_some, if_neg (by simp), a3 k hk, Option.bind_some]
   split <;> rfl
  rw [if_neg (by omega), if_neg (by omega), if_neg (by omega), a5 k hk, h5, Option.bind_some, if_pos rfl, a4 k hk]
  by_cases h6 : a2.length < T.length
  ·
   rw [if_pos h6, if_pos (a0.2 (a1.1 h6))]
  rw [if_neg h6, if_neg (fun e => h6 (a1.2 (a0.1 e)))]
def q3h (xs : List S51) : Bool := hasB 0 xs || (hasB 1 xs || hasB 2 xs)
def stB (ts : List S49) (xs : List S51) (j : Nat) : Bool := decide (q1r (q0e ts (j : Int)).f1 (q0c xs (j : Int)).f0 (q0c xs (j : Int)).f1 (q0c xs (j : Int)).f2 (q0c xs (j : Int)).f3 (q0c xs (j : Int)).f4)
def tokAt (xs : List S51) (j a : Nat) : Bool := decide (0 < (q0c xs (j : Int)).f3) && ((xs.take j).drop a).any fun y => decide (y.f3 = (q0c xs (j : Int)).f3)
def waitB (ts : List S49) (xs : List S51) (j : Nat) : Bool := decide ((q0c xs (j : Int)).f0 = 5) || (decide ((q0c xs (j : Int)).f0 = 0) != q1p ts xs j)
def okB (ts : List S49) (xs : List S51) (j : Nat) : Bool := stB ts xs j && (!(tokAt xs j 0) && waitB ts xs j)
def allOk (ts : List S49) (xs : List S51) (i m : Nat) : Bool := (List.range' i m).all (okB ts xs)
def fitsB (is : Int) (xs : List S51) : Bool :=
 if (!(q3h xs) && (!(hasB 4 xs) && !(hasB 5 xs))) = true then is == 1
 else if hasB 4 xs = true then (if is = 2 then !(q3h xs) else false)
 else if q3h xs = true then (if is = 0 then !(hasB 5 xs) else false) else is == 3
def runB (ky : ByteArray) (ts : List S49) (is : Int) (xs : List S51) : Bool :=
 decide (1 ≤ ky.size) && (decide (ky.size ≤ 16) && (decide (xs.length = ts.length) && (fitsB is xs && allOk ts xs 0 xs.length)))
theorem allOk_succ (ts : List S49) (xs : List S51) (i m : Nat) : allOk ts xs i (m + 1) = (okB ts xs i && allOk ts xs (i + 1) m) := by
 unfold allOk
 rw [List.range'_succ, List.all_cons]
theorem open_f (k : Nat) (ky nm : ByteArray) (ts : List S49) (is : Int) (xs : List S51) (hl : xs.length ≤ 1000) (hk : xs.length < k) : Fs.f k ky nm ts is xs = some (q3h xs) := by
 unfold Fs.f q3h
 rw [has_f k ky nm ts is xs 0 hl hk, has_f k ky nm ts is xs 1 hl hk, has_f k ky nm ts is xs 2 hl hk]
 cases hasB 0 xs <;> cases hasB 1 xs <;> cases hasB 2 xs <;> rfl
theorem fits_f (k : Nat) (ky nm : ByteArray) (ts : List S49) (is : Int) (xs : List S51) (hl : xs.length ≤ 1000) (hk : xs.length + 1 < k) : Fr.f k ky nm ts is xs = some (fitsB is xs) := by
 have hj : ∀ b, Fr.j0 k b ky nm ts is xs = some (if b = true then is == 1
 else if hasB 4 xs = true then (if is = 2 then !(q3h xs) else false)
 else if q3h xs = true then (if is = 0 then !(hasB 5 xs) else false) else is == 3) := by
  obtain ⟨k, rfl⟩ : ∃ q, k = q + 1 := ⟨k - 1, by omega⟩
  intro b
  rw [Fr.j0, has_f k ky nm ts is xs 4 hl (by omega), has_f k ky nm ts is xs 5 hl (by omega), open_f k ky nm ts is xs hl (by omega)]
  simp only [Option.bind_some]
  repeat' split
  all_goals first | rfl | contradiction
 unfold Fr.f fitsB
 rw [open_f k ky nm ts is xs hl (by omega), has_f k ky nm ts is xs 4 hl (by omega), has_f k ky nm ts is xs 5 hl (by omega)]
 simp only [Option.bind_some, hj]
 cases q3h xs <;> cases hasB 4 xs <;> cases hasB 5 xs <;> rfl
theorem ref_right_j3 (ky nm : ByteArray) (ts : List S49) (is : Int) (xs : List S51) (h : Wf ts xs.length) (i k K : Nat) (V : Bool) (b : Bool) (hi : i < xs.length) (hk : K + 1 ≤ k) (a0 : 30 ≤ k)
  (hn : ∀ q, K ≤ q → Fa.l0 q xs (xs.length : Int) ((i + 1 : Nat) : Int) ky nm ts is xs = some V) :
  Fa.j3 k (i : Int) xs (xs.length : Int) (i : Int) b ky nm ts is xs (q0c xs (i : Int)).f0 (q0c xs (i : Int)).f1 (q0c xs (i : Int)).f2 (q0c xs (i : Int)).f3 (q0c xs (i : Int)).f4
   = some (if b = true then false else if (q0c xs (i : Int)).f0 = 0 then V else if (q0c xs (i : Int)).f0 = 5 then V else if q1p ts xs i = true then V else false) := by
 have h2 := h.2.1
 obtain ⟨k, rfl⟩ : ∃ q, k = q + 1 := ⟨k - 1, by omega⟩
 rw [Fa.j3, q4e i (by omega), hn k (by omega), isready_f k ky nm ts is xs h i hi (by omega), Option.bind_some]
 repeat' split
 all_goals first | rfl | contradiction
theorem ref_right_l1 (ky nm : ByteArray) (ts : List S49) (is : Int) (xs : List S51) (h : Wf ts xs.length) (i K : Nat) (V : Bool) (hi : i < xs.length)
  (hn : ∀ q, K ≤ q → Fa.l0 q xs (xs.length : Int) ((i + 1 : Nat) : Int) ky nm ts is xs = some V) : ∀ m a k, a + m = i → K + m + 40 ≤ k →
  Fa.l1 k (i : Int) (a : Int) xs (xs.length : Int) (i : Int) ky nm ts is xs (q0c xs (i : Int)).f0 (q0c xs (i : Int)).f1 (q0c xs (i : Int)).f2 (q0c xs (i : Int)).f3 (q0c xs (i : Int)).f4
   = some (!(tokAt xs i a) && (waitB ts xs i && V)) := by
 have h2 := h.2.1
 intro m
 induction m with
 | zero =>
  intro a k ha hk
  obtain ⟨k, rfl⟩ : ∃ q, k = q + 1 := ⟨k - 1, by omega⟩
  have ht : tokAt xs i a = false := by unfold tokAt; rw [List.drop_eq_nil_of_le (by rw [List.length_take]; omega)]; simp
  rw [Fa.l1, if_neg (by omega), ref_right_j3 ky nm ts is xs h i k K V _ hi (by omega) (by omega) hn, isready_f k ky nm ts is xs h i hi (by omega), Option.bind_some, ref_right_j3 ky nm ts is xs h i k K V _ hi (by omega) (by omega) hn, ht]
  unfold waitB
  by_cases h0 : (q0c xs (i : Int)).f0 = 0
  ·
   rw [if_pos h0, if_pos h0, h0]
   cases q1p ts xs i <;> cases V <;> rfl
  rw [if_neg h0, if_neg h0, decide_eq_false h0]
  by_cases h5 : (q0c xs (i : Int)).f0 = 5
  ·
   rw [if_pos h5, decide_eq_true h5]
   cases V <;> rfl
  rw [if_neg h5, decide_eq_false h5]
  cases q1p ts xs i <;> cases V <;> rfl
 | succ m ih =>
  intro a k ha hk
  obtain ⟨k, rfl⟩ : ∃ q, k = q + 1 := ⟨k - 1, by omega⟩
  have hd : (xs.take i).drop a = xs[a] :: (xs.take i).drop (a + 1) := by
   rw [List.drop_eq_getElem_cons (show a < (xs.take i).length by rw [List.length_take]; omega), List.getElem_take]
  have ht : tokAt xs i a = (decide (0 < (q0c xs (i : Int)).f3) && (decide (xs[a].f3 = (q0c xs (i : Int)).f3)) || tokAt xs i (a + 1)) := by
   unfold tokAt
   rw [hd, List.any_cons]
   cases decide (0 < (q0c xs (i : Int)).f3) <;> rfl
  rw [Fa.l1, if_pos (by omega), q4e a (by omega), ih (a + 1) k (by omega) (by omega), ht]
  by_cases h3 : (q0c xs (i : Int)).f3 > 0
  ·
   rw [if_pos h3, if_pos (by omega), if_pos (by omega), q2k xs a (by omega), decide_eq_true (show 0 < (q0c xs (i : Int)).f3 from h3)]
   by_cases h4 : xs[a].f3 = (q0c xs (i : Int)).f3
   ·
    rw [if_pos h4, decide_eq_true h4]
    rfl
   rw [if_neg h4, decide_eq_false h4]
   rfl
  rw [if_neg h3, decide_eq_false (show ¬ 0 < (q0c xs (i : Int)).f3 from h3)]
  rfl
theorem ref_right_l0 (ky nm : ByteArray) (ts : List S49) (is : Int) (xs : List S51) (h : Wf ts xs.length) : ∀ m i k, i + m = xs.length → 60 * m + 60 ≤ k →
  Fa.l0 k xs (xs.length : Int) (i : Int) ky nm ts is xs = some (allOk ts xs i m) := by
 have h1 := h.1
 have h2 := h.2.1
 intro m
 induction m with
 | zero =>
  intro i k hi hk
  obtain ⟨k, rfl⟩ : ∃ q, k = q + 1 := ⟨k - 1, by omega⟩
  rw [Fa.l0, if_neg (by omega)]
  rfl
 | succ m ih =>
  intro i k hi hk
  obtain ⟨k, rfl⟩ : ∃ q, k = q + 1 := ⟨k - 1, by omega⟩
  have hn : ∀ q, 60 * m + 60 ≤ q → Fa.l0 q xs (xs.length : Int) ((i + 1 : Nat) : Int) ky nm ts is xs = some (allOk ts xs (i + 1) m) := fun q hq => ih (i + 1) q (by omega) hq
  have a0 := ref_right_l1 ky nm ts is xs h i (60 * m + 60) (allOk ts xs (i + 1) m) (by omega) hn i 0 k (by omega) (by omega)
  rw [Fa.l0, if_pos (by omega), if_pos (by omega), if_pos (by omega), if_pos (by omega), ref_right_f k (by omega), Option.bind_some, show (0 : Int) = ((0 : Nat) : Int) from rfl, a0, allOk_succ]
  unfold okB
  show (if stB ts xs i = true then _ else _) = _
  cases stB ts xs i
  ·
   rfl
  rw [if_pos rfl, Bool.true_and, Bool.and_assoc]
theorem cnt_any (ks : List Int) (xs : List S51) : 0 < cntI ks (upto xs xs.length) ↔ (xs.any fun s => ks.contains s.f0) = true := by
 rw [cnt_eq, List.any_eq_true]
 constructor
 ·
  intro h
  obtain ⟨s, hs⟩ := List.exists_mem_of_length_pos (l := xs.filter fun s => ks.contains s.f0) (by omega)
  rw [List.mem_filter] at hs
  exact ⟨s, hs.1, hs.2⟩
 rintro ⟨s, hs, h⟩
 have := List.length_pos_of_mem (List.mem_filter (p := fun s : S51 => ks.contains s.f0).2 ⟨hs, h⟩)
 omega
theorem cnt_ge (ks : List Int) (xs : List S51) : 0 ≤ cntI ks (upto xs xs.length) := by unfold cntI; omega
theorem open_any (xs : List S51) : (xs.any fun s => [0, 1, 2].contains s.f0) = q3h xs := by
 unfold q3h hasB
 induction xs with
 | nil => rfl
 | cons x xs ih =>
  simp only [List.any_cons] at ih ⊢
  rw [ih]
  have : [0, 1, 2].contains x.f0 = (decide (x.f0 = 0) || (decide (x.f0 = 1) || decide (x.f0 = 2))) := by
   simp only [List.contains_cons, List.contains_nil, Bool.or_false]
   rfl
  rw [this]
  cases decide (x.f0 = 0) <;> cases decide (x.f0 = 1) <;> cases decide (x.f0 = 2) <;> simp
theorem cnt_open (xs : List S51) : cntA [0, 1, 2] xs = 0 ↔ q3h xs = false := by
 have h1 := cnt_any [0, 1, 2] xs
 have h2 := cnt_ge [0, 1, 2] xs
 rw [open_any] at h1
 unfold cntA
 cases hb : q3h xs
 ·
  exact ⟨fun _ => rfl, fun _ => have h3 : ¬ 0 < cntI [0, 1, 2] (upto xs xs.length) := (fun e => by rw [h1.1 e] at hb; cases hb); by omega⟩
 exact ⟨fun e => by have := h1.2 hb; omega, fun e => by cases e⟩
theorem cnt_none (c : Int) (xs : List S51) : cntA [c] xs = 0 ↔ hasB c xs = false := by
 have h1 := cnt_pos c xs
 have h2 := cnt_ge [c] xs
 unfold cntA
 cases hb : hasB c xs
 ·
  exact ⟨fun _ => rfl, fun _ => have h3 : ¬ 0 < cntI [c] (upto xs xs.length) := (fun e => by rw [h1.1 e] at hb; cases hb); by omega⟩
 exact ⟨fun e => by have := h1.2 hb; omega, fun e => by cases e⟩
def In5 (xs : List S51) : Prop := ∀ s ∈ xs, 0 ≤ s.f0 ∧ s.f0 ≤ 5
theorem all3 (xs : List S51) (h : In5 xs) : allB 3 xs = (!(q3h xs) && (!(hasB 4 xs) && !(hasB 5 xs))) := by
 unfold q3h hasB allB
 induction xs with
 | nil => rfl
 | cons x xs ih =>
  have hx := h x (List.mem_cons_self ..)
  rw [List.all_cons, ih (fun s hs => h s (List.mem_cons_of_mem _ hs))]
  simp only [List.any_cons]
  rcases (by omega : x.f0 = 0 ∨ x.f0 = 1 ∨ x.f0 = 2 ∨ x.f0 = 3 ∨ x.f0 = 4 ∨ x.f0 = 5) with e | e | e | e | e | e <;> rw [e] <;> simp
theorem kind_fits (is : Int) (xs : List S51) (h : In5 xs) : (decide (is = q1n xs) && endF is xs) = fitsB is xs := by
 unfold q1n fitsB
 rw [← all3 xs h]
 by_cases h3 : allB 3 xs = true
 ·
  have a0 : cntA [3] xs = (xs.length : Int) := (cnt_all 3 xs).2 h3
  rw [if_pos a0, if_pos h3]
  unfold endF
  by_cases e : is = 1
  ·
   subst e; rfl
  rw [decide_eq_false e]; simp [e]
 have a0 : ¬ cntA [3] xs = (xs.length : Int) := fun e => h3 ((cnt_all 3 xs).1 e)
 rw [if_neg a0, if_neg h3]
 by_cases h4 : hasB 4 xs = true
 ·
  have a1 : 0 < cntA [4] xs := (cnt_pos 4 xs).2 h4
  rw [if_pos a1, if_pos h4]
  by_cases e : is = 2
  ·
   rw [decide_eq_true e, if_pos e]
   unfold endF
   rw [if_pos e, Bool.true_and]
   have := cnt_open xs
   cases ho : q3h xs
   ·
    rw [decide_eq_true (this.2 ho)]; rfl
   rw [decide_eq_false (fun e => by rw [this.1 e] at ho; cases ho)]; rfl
  rw [decide_eq_false e, if_neg e]; rfl
 have a1 : ¬ 0 < cntA [4] xs := fun e => h4 ((cnt_pos 4 xs).1 e)
 rw [if_neg a1, if_neg h4]
 have ho := cnt_open xs
 cases hb : q3h xs
 ·
  rw [if_pos (ho.2 hb), if_neg (by decide)]
  unfold endF
  by_cases e : is = 3
  ·
   subst e; rfl
  rw [decide_eq_false e]; simp [e]
 rw [if_neg (fun e => by rw [ho.1 e] at hb; cases hb), if_pos rfl]
 unfold endF
 by_cases e : is = 0
 ·
  rw [decide_eq_true e, if_pos e, if_neg (by omega), if_pos e, Bool.true_and]
  have h5 := cnt_none 5 xs
  cases h5b : hasB 5 xs
  ·
   rw [decide_eq_true (h5.2 h5b)]; rfl
  rw [decide_eq_false (fun e => by rw [h5.1 e] at h5b; cases h5b)]; rfl
 rw [decide_eq_false e, Bool.false_and, if_neg e]
theorem taskRight_o (k : Nat) (hk : 2 ≤ k) (ts : List S49) (xs : List S51) (j : Nat) : q4n k (q0e ts (j : Int)) (q0c xs (j : Int)) = some (stB ts xs j) := by
 unfold q4n stB
 rw [right_f k hk]
theorem rightL_ok (k : Nat) (hk : 2 ≤ k) (ts : List S49) (xs : List S51) (h : Wf ts xs.length) : ∀ m i (a0 : List Int), i + m = xs.length → (∀ y, y ∈ a0 ↔ ∃ s ∈ xs.take i, s.f3 = y) →
  q3x k ts xs ((List.finRange xs.length).drop i) a0 = some (allOk ts xs i m) := by
 intro m
 induction m with
 | zero =>
  intro i a0 hi ht
  rw [List.drop_eq_nil_of_le (by simp; omega)]
  rfl
 | succ m ih =>
  intro i a0 hi ht
  have hd : (List.finRange xs.length).drop i = ⟨i, by omega⟩ :: (List.finRange xs.length).drop (i + 1) := by
   rw [List.drop_eq_getElem_cons (show i < (List.finRange xs.length).length by simp; omega)]
   simp
  have hn : ∀ y, y ∈ (q0c xs (i : Int)).f3 :: a0 ↔ ∃ s ∈ xs.take (i + 1), s.f3 = y := by
   intro y
   rw [List.mem_cons, ht, List.take_succ_eq_append_getElem (show i < xs.length by omega), q2k xs i (by omega)]
   constructor
   ·
    rintro (rfl | ⟨s, hs, e⟩)
    ·
     exact ⟨_, List.mem_append_right _ (List.mem_singleton.2 rfl), rfl⟩
    exact ⟨s, List.mem_append_left _ hs, e⟩
   rintro ⟨s, hs, e⟩
   rcases List.mem_append.1 hs with hs | hs
   ·
    exact .inr ⟨s, hs, e⟩
   rw [List.mem_singleton] at hs; subst hs; exact .inl e.symm
  have a2 := ih (i + 1) ((q0c xs (i : Int)).f3 :: a0) (by omega) hn
  rw [hd, q3x]
  dsimp only
  rw [taskRight_o k hk, Option.bind_some, allOk_succ, a2, ready_o ts xs h i (by omega), Option.bind_some]
  unfold okB
  cases stB ts xs i
  ·
   rfl
  rw [if_neg (by decide), Bool.true_and]
  have a1 : tokAt xs i 0 = true ↔ 0 < (q0c xs (i : Int)).f3 ∧ (q0c xs (i : Int)).f3 ∈ a0 := by
   unfold tokAt
   rw [Bool.and_eq_true, decide_eq_true_eq, List.any_eq_true, ht, List.drop_zero]
   simp only [decide_eq_true_eq]
  by_cases h1 : 0 < (q0c xs (i : Int)).f3 ∧ (q0c xs (i : Int)).f3 ∈ a0
  ·
   rw [if_pos h1, a1.2 h1]; rfl
  rw [if_neg h1, Bool.eq_false_iff.2 (fun e => h1 (a1.1 e))]
  unfold waitB
  by_cases h5 : (q0c xs (i : Int)).f0 = 5
  ·
   rw [if_pos h5, decide_eq_true h5]; rfl
  rw [if_neg h5, decide_eq_false h5]
  cases decide ((q0c xs (i : Int)).f0 = 0) <;> cases q1p ts xs i <;> rfl
theorem allOk_at {ts : List S49} {xs : List S51} (h : allOk ts xs 0 xs.length = true) (j : Nat) (hj : j < xs.length) : okB ts xs j = true :=
 List.all_eq_true.1 h j (by rw [List.mem_range'_1]; omega)
theorem stB_of {ts : List S49} {xs : List S51} (h : allOk ts xs 0 xs.length = true) (j : Nat) (hj : j < xs.length) : q1r (q0e ts (j : Int)).f1 (q0c xs (j : Int)).f0 (q0c xs (j : Int)).f1 (q0c xs (j : Int)).f2 (q0c xs (j : Int)).f3 (q0c xs (j : Int)).f4 := by
 have h1 := allOk_at h j hj
 unfold okB stB at h1
 rw [Bool.and_eq_true] at h1
 exact of_decide_eq_true h1.1
theorem in5_of {ts : List S49} {xs : List S51} (h : allOk ts xs 0 xs.length = true) : In5 xs := by
 intro s hs
 obtain ⟨j, hj, rfl⟩ := List.mem_iff_getElem.1 hs
 have h1 := stB_of h j hj
 rw [q2k xs j hj] at h1
 exact ⟨h1.1.1, h1.1.2.1⟩
def Tk (xs : List S51) : Prop := ∀ s ∈ xs, -9223372036854775808 ≤ s.f3 ∧ s.f3 ≤ 9223372036854775807
theorem goodRight_ok (k : Nat) (hk : 2 ≤ k) (ts : List S49) (xs : List S51) (h : Wf ts xs.length) (ht : Tk xs) : goodRight k ts xs = true := by
 refine List.all_eq_true.2 fun x _ => ?_
 have hx := x.isLt
 have := ht _ (q3q (i := (x.val : Int)) (by omega) (by omega))
 rw [taskRight_o k hk, ready_o ts xs h x.val hx, decide_eq_true ⟨this.1, by omega⟩]
 rfl
theorem asc_len {n : Int} : ∀ {l : List Int} {last : Int}, ascB n last l = true → (l.length : Int) ≤ max 0 (n - last - 1)
 | [], _, _ => by simp; omega
 | x :: l, last, h => by
  have hx := asc_mem h x (List.mem_cons_self ..)
  have h2 : ascB n x l = true := by
   unfold ascB at h
   simp only [Bool.and_eq_true] at h
   exact h.2.2
  have := asc_len h2
  rw [List.length_cons]
  omega
structure q2w (nm : ByteArray) (ts : List S49) : Prop where
 code : ∀ k, 100 ≤ k → Fy.f k nm ts = some 0
 ref : ∀ k, 4000 ≤ k → Fi.f k nm ts = some 0
 one : 1 ≤ ts.length
 ten : ts.length ≤ 10
 nums : ∀ t ∈ ts, taskB (ts.length : Int) t = true
 rank : ∃ p : Nat → Nat, ∀ i, i < ts.length → ∀ x : Nat, (x : Int) ∈ needs ts i → p x < p i
theorem dag_zero (nm : ByteArray) (ts : List S49) (hn : ∀ t ∈ ts, t.f0.length ≤ 20) (k : Nat) (hk : 100 ≤ k) (h : Fy.f k nm ts = some 0) : ∀ t ∈ ts, taskB (ts.length : Int) t = true := by
 unfold Fy.f at h
 split at h
 ·
  cases h
 split at h
 ·
  cases h
 split at h
 ·
  cases h
 split at h
 ·
  cases h
 rw [anyT_f _ k (by omega) ts hn, Option.bind_some] at h
 cases h5 : ts.all (taskB (ts.length : Int)) with
 | false => rw [h5, if_pos (by decide)] at h; cases h
 | true => exact fun t ht => List.all_eq_true.1 h5 t ht
theorem dag_cases (nm : ByteArray) (ts : List S49) (hn : ∀ t ∈ ts, t.f0.length ≤ 20) (hl : ts.length ≤ 20) :
  (∃ R, R ≠ 0 ∧ (∀ k, 100 ≤ k → Fy.f k nm ts = some R) ∧ ∀ k, 4000 ≤ k → Fi.f k nm ts = some R) ∨ q2w nm ts := by
 obtain ⟨R, hR, a0⟩ := right_both nm ts hn hl
 by_cases h0 : R = 0
 ·
  subst h0
  obtain ⟨R', a4, a2, hz⟩ := right_ex nm ts hn hl
  have e : R' = 0 := by
   have h1 := hR 100 (by omega)
   rw [a2 100 (by omega)] at h1
   exact Option.some.inj h1
  obtain ⟨hT, h1, a1, ho, a3, _⟩ := hz e
  refine .inr ⟨hR, a0, h1, a1, dag_zero nm ts hn 100 (by omega) (hR 100 (by omega)), ?_⟩
  obtain ⟨p, hp⟩ := tr_rank ts hT a4 (List.replicate ts.length false) (by simp) a3 (by simp [ho])
  exact ⟨p, fun i hi x hx => (hp i hi (by simp [g, hi]) x hx).resolve_left (by rw [g, List.getD_eq_getElem?_getD, List.getElem?_replicate]; split <;> simp)⟩
 exact .inl ⟨R, h0, hR, a0⟩
theorem rd49_mem {ts : List S49} {i : Nat} (h : i < ts.length) : q0e ts (i : Int) ∈ ts := by
 rw [rd49_nat ts i h]
 exact List.getElem_mem h
theorem q2w.task {nm : ByteArray} {ts : List S49} (h : q2w nm ts) {i : Nat} (hi : i < ts.length) : (∀ x ∈ (q0e ts (i : Int)).f0, 0 ≤ x ∧ x < (ts.length : Int)) ∧ (q0e ts (i : Int)).f0.length ≤ 10 ∧
  1 ≤ (q0e ts (i : Int)).f1 ∧ (q0e ts (i : Int)).f1 ≤ 8 ∧ 0 ≤ (q0e ts (i : Int)).f2 ∧ (q0e ts (i : Int)).f2 ≤ 1048576 ∧ 1 ≤ (q0e ts (i : Int)).f3 ∧ (q0e ts (i : Int)).f3 ≤ 1048576 := by
 have h1 := h.nums _ (rd49_mem hi)
 have a0 := h.ten
 unfold taskB numsB at h1
 simp only [Bool.and_eq_true, decide_eq_true_eq] at h1
 have h2 := asc_len h1.1
 refine ⟨fun x hx => ?_, by omega, h1.2⟩
 have := asc_mem h1.1 x hx
 omega
theorem q2w.wf {nm : ByteArray} {ts : List S49} (h : q2w nm ts) {n : Nat} (hn : n = ts.length) : Wf ts n := by
 subst hn
 exact ⟨rfl, h.ten, fun i hi => ⟨(h.task hi).2.1, (h.task hi).1⟩⟩
theorem code_right (ky nm : ByteArray) (ts : List S49) (is : Int) (xs : List S51) (h : q2w nm ts) (ht : Tk xs) (k : Nat) (hk : 100 ≤ k) : q3y k ky nm ts is xs = some (runB ky ts is xs) := by
 unfold q3y runB
 by_cases h1 : ky.size < 1
 ·
  rw [if_pos h1, decide_eq_false (by omega)]; rfl
 rw [if_neg h1, decide_eq_true (show 1 ≤ ky.size by omega), Bool.true_and]
 by_cases h2 : 16 < ky.size
 ·
  rw [if_pos h2, decide_eq_false (by omega)]; rfl
 rw [if_neg h2, decide_eq_true (show ky.size ≤ 16 by omega), Bool.true_and, h.code k hk, Option.bind_some, if_neg (by simp)]
 by_cases h3 : xs.length = ts.length
 ·
  have hw := h.wf h3
  have a0 := hw.2.1
  rw [if_neg (by simpa using h3), decide_eq_true h3, Bool.true_and, if_neg (by omega)]
  have hg := goodRight_ok k (by omega) ts xs hw ht
  have hr := rightL_ok k (by omega) ts xs hw xs.length 0 [] (by omega) (by simp)
  rw [List.drop_zero] at hr
  rw [hr]
  by_cases h4 : is = q1n xs
  ·
   rw [if_neg (by simpa using h4), if_neg (by rw [hg]; decide), Option.bind_some]
   cases ha : allOk ts xs 0 xs.length
   ·
    rw [if_pos rfl, Bool.and_false]
   have hk := kind_fits is xs (in5_of ha)
   rw [decide_eq_true h4, Bool.true_and] at hk
   rw [if_neg (by decide), hk, Bool.and_true]
  rw [if_pos h4]
  cases ha : allOk ts xs 0 xs.length
  ·
   rw [Bool.and_false]
  have hk := kind_fits is xs (in5_of ha)
  rw [decide_eq_false h4, Bool.false_and] at hk
  rw [← hk]; rfl
 rw [if_pos (by simpa using h3), decide_eq_false h3]; rfl
theorem q4p (ky nm : ByteArray) (ts : List S49) (is : Int) (xs : List S51) (h : q2w nm ts) (k : Nat) (hk : 4001 ≤ k) : Fa.f k ky nm ts is xs = some (runB ky ts is xs) := by
 have hj : Fa.j0 k true ky nm ts is xs = some false := by
  obtain ⟨k, rfl⟩ : ∃ q, k = q + 1 := ⟨k - 1, by omega⟩
  rw [Fa.j0, if_pos rfl]
 unfold Fa.f runB
 rw [hj]
 by_cases h1 : ky.size < 1
 ·
  rw [if_pos (by omega), decide_eq_false (by omega)]; rfl
 rw [if_neg (by omega), decide_eq_true (show 1 ≤ ky.size by omega), Bool.true_and]
 by_cases h2 : 16 < ky.size
 ·
  rw [if_pos (by omega), decide_eq_false (by omega)]; rfl
 rw [if_neg (by omega), decide_eq_true (show ky.size ≤ 16 by omega), Bool.true_and, h.ref k (by omega), Option.bind_some, if_pos rfl]
 by_cases h3 : xs.length = ts.length
 ·
  have hw := h.wf h3
  have a0 := hw.2.1
  rw [if_pos (by omega), decide_eq_true h3, Bool.true_and, fits_f k ky nm ts is xs (by omega) (by omega), Option.bind_some]
  cases hf : fitsB is xs
  ·
   show Fa.j0 k true ky nm ts is xs = _
   rw [hj]; rfl
  obtain ⟨k, rfl⟩ : ∃ q, k = q + 1 := ⟨k - 1, by omega⟩
  rw [Fa.j0, if_neg (by decide), Bool.true_and]
  exact ref_right_l0 ky nm ts is xs hw xs.length 0 k (by omega) (by omega)
 rw [if_neg (by omega), decide_eq_false h3]; rfl
theorem code_right_no (ky nm : ByteArray) (ts : List S49) (is : Int) (xs : List S51) (k : Nat) (R : Int) (hR : R ≠ 0) (h : Fy.f k nm ts = some R) : q3y k ky nm ts is xs = some false := by
 unfold q3y
 by_cases h1 : ky.size < 1
 ·
  rw [if_pos h1]
 rw [if_neg h1]
 by_cases h2 : 16 < ky.size
 ·
  rw [if_pos h2]
 rw [if_neg h2, h, Option.bind_some, if_pos hR]
theorem ref_right_no (ky nm : ByteArray) (ts : List S49) (is : Int) (xs : List S51) (k : Nat) (hk : 1 ≤ k) (R : Int) (hR : R ≠ 0) (h : Fi.f k nm ts = some R) : Fa.f k ky nm ts is xs = some false := by
 have hj : Fa.j0 k true ky nm ts is xs = some false := by
  obtain ⟨k, rfl⟩ : ∃ q, k = q + 1 := ⟨k - 1, by omega⟩
  rw [Fa.j0, if_pos rfl]
 unfold Fa.f
 rw [hj, h, Option.bind_some, if_neg hR]
 split
 ·
  rfl
 split <;> rfl
theorem right_cases (ky nm : ByteArray) (ts : List S49) (is : Int) (xs : List S51) (hn : ∀ t ∈ ts, t.f0.length ≤ 20) (hl : ts.length ≤ 20) (ht : Tk xs) :
  ((∀ k, 100 ≤ k → q3y k ky nm ts is xs = some false) ∧ ∀ k, 4001 ≤ k → Fa.f k ky nm ts is xs = some false) ∨
  (q2w nm ts ∧ runB ky ts is xs = true) := by
 rcases dag_cases nm ts hn hl with ⟨R, h0, h1, h2⟩ | h
 ·
  exact .inl ⟨fun k hk => code_right_no ky nm ts is xs k R h0 (h1 k hk), fun k hk => ref_right_no ky nm ts is xs k (by omega) R h0 (h2 k (by omega))⟩
 cases hr : runB ky ts is xs
 ·
  exact .inl ⟨fun k hk => by rw [code_right ky nm ts is xs h ht k hk, hr], fun k hk => by rw [q4p ky nm ts is xs h k hk, hr]⟩
 exact .inr ⟨h, rfl⟩
def fst_ (u : Int) (xs : List S51) : Int := q2o u xs (List.finRange xs.length)
def Cand (u : Int) (xs : List S51) (j : Nat) : Prop := j < xs.length ∧ (q0c xs (j : Int)).f0 = 2 ∧ (q0c xs (j : Int)).f2 ≤ u
def IsFst (u : Int) (xs : List S51) (n : Nat) (a : Int) : Prop :=
 (a = -1 ∧ ∀ j, j < n → ¬ Cand u xs j) ∨ ∃ i : Nat, a = (i : Int) ∧ i < n ∧ Cand u xs i ∧ ∀ j, j < n → Cand u xs j → (q0c xs (i : Int)).f2 < (q0c xs (j : Int)).f2 ∨ (q0c xs (i : Int)).f2 = (q0c xs (j : Int)).f2 ∧ i ≤ j
theorem isFst_to (u : Int) (xs : List S51) : ∀ n, n ≤ xs.length → IsFst u xs n (q2o u xs ((List.finRange xs.length).take n))
 | 0, _ => .inl ⟨rfl, fun j h => absurd h (by omega)⟩
 | n + 1, h => by
  have ih := isFst_to u xs n (by omega)
  have ht : (List.finRange xs.length).take (n + 1) = (List.finRange xs.length).take n ++ [⟨n, by omega⟩] := by
   rw [List.take_succ_eq_append_getElem (show n < (List.finRange xs.length).length by simp; omega)]
   simp
  rw [ht, firstF_snoc]
  generalize q2o u xs ((List.finRange xs.length).take n) = a at ih
  unfold firstS
  dsimp only
  by_cases hc : Cand u xs n
  ·
   rcases ih with ⟨rfl, h1⟩ | ⟨i, rfl, hi, ci, h1⟩
   ·
    rw [if_pos ⟨hc.2.1, hc.2.2, .inl (by omega)⟩]
    refine .inr ⟨n, rfl, by omega, hc, fun j hj cj => ?_⟩
    rcases Nat.lt_or_ge j n with a0 | a0
    ·
     exact absurd cj (h1 j a0)
    obtain rfl : j = n := by omega
    exact .inr ⟨rfl, Nat.le_refl _⟩
   by_cases hd : (q0c xs (n : Int)).f2 < (q0c xs (i : Int)).f2
   ·
    rw [if_pos ⟨hc.2.1, hc.2.2, .inr hd⟩]
    refine .inr ⟨n, rfl, by omega, hc, fun j hj cj => ?_⟩
    rcases Nat.lt_or_ge j n with a0 | a0
    ·
     rcases h1 j a0 cj with h2 | h2
     ·
      exact .inl (by omega)
     exact .inl (by omega)
    obtain rfl : j = n := by omega
    exact .inr ⟨rfl, Nat.le_refl _⟩
   rw [if_neg (fun h => h.2.2.elim (by omega) hd)]
   refine .inr ⟨i, rfl, by omega, ci, fun j hj cj => ?_⟩
   rcases Nat.lt_or_ge j n with a0 | a0
   ·
    exact h1 j a0 cj
   obtain rfl : j = n := by omega
   omega
  rw [if_neg (fun h => hc ⟨by omega, h.1, h.2.1⟩)]
  rcases ih with ⟨rfl, h1⟩ | ⟨i, rfl, hi, ci, h1⟩
  ·
   refine .inl ⟨rfl, fun j hj cj => ?_⟩
   rcases Nat.lt_or_ge j n with a0 | a0
   ·
    exact h1 j a0 cj
   obtain rfl : j = n := by omega
   exact hc cj
  refine .inr ⟨i, rfl, by omega, ci, fun j hj cj => ?_⟩
  rcases Nat.lt_or_ge j n with a0 | a0
  ·
   exact h1 j a0 cj
  obtain rfl : j = n := by omega
  exact absurd cj hc
theorem isFst (u : Int) (xs : List S51) : IsFst u xs xs.length (fst_ u xs) := by
 have h := isFst_to u xs xs.length (Nat.le_refl _)
 rw [List.take_of_length_le (by simp)] at h
 exact h
theorem isFst_eq {u : Int} {xs : List S51} {a b : Int} (h1 : IsFst u xs xs.length a) (h2 : IsFst u xs xs.length b) : a = b := by
 rcases h1 with ⟨rfl, h1⟩ | ⟨i, rfl, hi, ci, h1⟩
 ·
  rcases h2 with ⟨rfl, _⟩ | ⟨j, rfl, hj, cj, _⟩
  ·
   rfl
  exact absurd cj (h1 j hj)
 rcases h2 with ⟨rfl, h2⟩ | ⟨j, rfl, hj, cj, h2⟩
 ·
  exact absurd ci (h2 i hi)
 have a1 := h1 j hj cj
 have a2 := h2 i hi ci
 omega
theorem fst_later {u v : Int} (h : u ≤ v) (xs : List S51) (h0 : 0 ≤ fst_ u xs) : fst_ v xs = fst_ u xs := by
 refine isFst_eq (isFst v xs) ?_
 rcases isFst u xs with ⟨e, _⟩ | ⟨i, e, hi, ci, h1⟩
 ·
  omega
 refine .inr ⟨i, e, hi, ⟨hi, ci.2.1, by have := ci.2.2; omega⟩, fun j hj cj => ?_⟩
 by_cases h2 : (q0c xs (j : Int)).f2 ≤ u
 ·
  exact h1 j hj ⟨hj, cj.2.1, h2⟩
 have := ci.2.2
 exact .inl (by omega)
theorem fst_cand {u : Int} {xs : List S51} (h0 : 0 ≤ fst_ u xs) : ∃ i : Nat, fst_ u xs = (i : Int) ∧ Cand u xs i := by
 rcases isFst u xs with ⟨e, _⟩ | ⟨i, e, hi, ci, h1⟩
 ·
  omega
 exact ⟨i, e, ci⟩
theorem fst_held {u : Int} {xs : List S51} (h : hasB 2 xs = false) : ¬ 0 ≤ fst_ u xs := by
 intro h0
 obtain ⟨i, _, c⟩ := fst_cand h0
 have : hasB 2 xs = true := List.any_eq_true.2 ⟨q0c xs (i : Int), q3q (by omega) (by have := c.1; omega), by simpa using c.2.1⟩
 rw [h] at this
 cases this
def q3n (xs : List S51) : Nat := xs.countP fun s => decide (s.f0 = 2)
theorem held_set {xs : List S51} {i : Nat} (hi : i < xs.length) (s : S51) (h : (q0c xs (i : Int)).f0 = 2) (hs : s.f0 ≠ 2) : q3n (xs.set i s) + 1 = q3n xs := by
 unfold q3n
 rw [q2k xs i hi] at h
 have h2 := List.countP_set (p := fun s : S51 => decide (s.f0 = 2)) (a := s) hi
 rw [h2, h, decide_eq_false hs]
 have : 0 < xs.countP fun s => decide (s.f0 = 2) := List.countP_pos_iff.2 ⟨_, List.getElem_mem hi, by simpa using h⟩
 simp
 omega
theorem held_same {xs : List S51} {i : Nat} (hi : i < xs.length) (s : S51) (h : s.f0 = 2 ↔ (q0c xs (i : Int)).f0 = 2) : q3n (xs.set i s) = q3n xs := by
 unfold q3n
 rw [q2k xs i hi] at h
 have h2 := List.countP_set (p := fun s : S51 => decide (s.f0 = 2)) (a := s) hi
 rw [h2]
 by_cases e : xs[i].f0 = 2
 ·
  have : 0 < xs.countP fun s => decide (s.f0 = 2) := List.countP_pos_iff.2 ⟨_, List.getElem_mem hi, by simpa using e⟩
  simp [e, h.2 e]
  omega
 simp [e, show s.f0 ≠ 2 from fun e2 => e (h.1 e2)]
theorem q4q (s : S51) : (q2e s).f0 = if s.f0 = 0 then 1 else s.f0 := by unfold q2e; split <;> rfl
theorem held_ready (ts : List S49) (xs : List S51) : ∀ q, q ≤ xs.length → q3n (q1m ts xs q) = q3n xs
 | 0, _ => rfl
 | q + 1, hq => by
  have ih := held_ready ts xs q (by omega)
  rw [q1m]
  split
  ·
   rw [held_same (by rw [q3d]; omega) _ ?_, ih]
   rw [readyTo_at ts xs q q (Nat.le_refl _), q4q]
   split <;> omega
  exact ih
theorem q2s (s : S51) : (q0u s).f0 = if s.f0 = 0 ∨ s.f0 = 1 ∨ s.f0 = 2 then 5 else s.f0 := by unfold q0u; split <;> rfl
theorem held_cancel (xs : List S51) : q3n (xs.map q0u) = 0 := by
 unfold q3n
 rw [List.countP_eq_zero]
 intro s hs
 obtain ⟨x, _, rfl⟩ := List.mem_map.1 hs
 rw [q2s]
 simp only [decide_eq_true_eq]
 split <;> omega
theorem held_mend (ts : List S49) (is : Int) (xs : List S51) : q3n (mendP ts is xs).2 ≤ q3n xs := by
 unfold mendP
 split
 ·
  rw [held_cancel]; omega
 rw [held_ready ts xs _ (Nat.le_refl _)]; omega
theorem expS_f0 {t : S49} {s : S51} {now : Int} (h : s.f0 = 2) (hd : s.f2 ≤ unt now []) : (expS t s now).f0 ≠ 2 := by
 unfold expS ofV expireV
 rw [if_pos ⟨h, hd⟩]
 split <;> simp
theorem stepS_no {ts : List S49} {now : Int} {p : Int × List S51} (h : ¬ 0 ≤ fst_ (unt now []) p.2) : stepS ts now p = p := if_neg h
theorem stepS_yes {ts : List S49} {now : Int} {p : Int × List S51} {i : Nat} (h : fst_ (unt now []) p.2 = (i : Int)) : stepS ts now p = mendP ts p.1 (p.2.set i (expS (q0e ts (i : Int)) (q0c p.2 (i : Int)) now)) := by
 unfold stepS
 unfold fst_ at h
 rw [h, if_pos (by omega), Int.toNat_natCast]
theorem step_held {ts : List S49} {now : Int} {p : Int × List S51} (h : 0 ≤ fst_ (unt now []) p.2) : q3n (stepS ts now p).2 < q3n p.2 := by
 obtain ⟨i, e, c⟩ := fst_cand h
 rw [stepS_yes e]
 have h1 := held_mend ts p.1 (p.2.set i (expS (q0e ts (i : Int)) (q0c p.2 (i : Int)) now))
 have h2 := held_set c.1 (expS (q0e ts (i : Int)) (q0c p.2 (i : Int)) now) c.2.1 (expS_f0 c.2.1 c.2.2)
 omega
theorem q4l {ts : List S49} {now : Int} {p : Int × List S51} (h : ¬ 0 ≤ fst_ (unt now []) p.2) : ∀ n, iterS ts now n p = p
 | 0 => rfl
 | n + 1 => by rw [iterS, stepS_no h, q4l h n]
theorem iter_more {ts : List S49} {now : Int} : ∀ (m n : Nat) (p : Int × List S51), q3n p.2 ≤ m → q3n p.2 ≤ n → iterS ts now m p = iterS ts now n p ∧ ¬ 0 ≤ fst_ (unt now []) (iterS ts now n p).2
 | 0, n, p, hm, hn => by
  have h : ¬ 0 ≤ fst_ (unt now []) p.2 := fun h => by have := step_held (ts := ts) h; omega
  rw [q4l h, q4l h]
  exact ⟨rfl, h⟩
 | m + 1, 0, p, hm, hn => by
  have h : ¬ 0 ≤ fst_ (unt now []) p.2 := fun h => by have := step_held (ts := ts) h; omega
  rw [q4l h, q4l h]
  exact ⟨rfl, h⟩
 | m + 1, n + 1, p, hm, hn => by
  by_cases h : 0 ≤ fst_ (unt now []) p.2
  ·
   have := step_held (ts := ts) h
   exact iter_more m n (stepS ts now p) (by omega) (by omega)
  rw [q4l h, q4l h]
  exact ⟨rfl, h⟩
theorem iter_len (ts : List S49) (now : Int) : ∀ n (p : Int × List S51), (iterS ts now n p).2.length = p.2.length
 | 0, p => rfl
 | n + 1, p => by rw [iterS, iter_len ts now n, stepS_len]
theorem held_le (xs : List S51) : q3n xs ≤ xs.length := List.countP_le_length
theorem settleL_ok (k : Nat) (hk : 60 ≤ k) (ts : List S49) (now : Int) : ∀ (q : Nat) (is : Int) (zs : List S51), Wf ts zs.length → Tr zs → q3n zs < q →
  q4k k ts now (unt now []) q is zs = some (iterS ts now (q3n zs) (is, zs)) := by
 intro q
 induction q with
 | zero => intro is zs hw ht hq; omega
 | succ q ih =>
  intro is zs hw ht hq
  rw [q4k]
  show (if 0 ≤ fst_ (unt now []) zs then _ else _) = _
  by_cases h : 0 ≤ fst_ (unt now []) zs
  ·
   obtain ⟨i, e, c⟩ := fst_cand h
   have hs := stepS_yes (ts := ts) (p := (is, zs)) e
   have hh := step_held (ts := ts) (p := (is, zs)) h
   dsimp only at hs hh
   rw [if_pos h]
   unfold fst_ at e
   rw [e, exp_o k hk _ _ now (ht _ (q3q (by omega) (by have := c.1; omega))), Option.bind_some, Int.toNat_natCast, mend_f _ _ _ (by rw [List.length_set]; exact hw), Option.bind_some, ← hs,
    ih _ _ (by rw [stepS_len]; exact hw) (tr_step ts now (is, zs) ht) (by omega)]
   have h2 := (iter_more (ts := ts) (now := now) (q3n (stepS ts now (is, zs)).2) (q3n zs - 1) (stepS ts now (is, zs)) (Nat.le_refl _) (by omega)).1
   rw [show q3n zs = (q3n zs - 1) + 1 by omega, iterS]
   exact congrArg some h2
  rw [if_neg h, q4l h]
def setP (ts : List S49) (now : Int) (p : Int × List S51) : Int × List S51 := iterS ts now p.2.length p
theorem setP_len (ts : List S49) (now : Int) (p : Int × List S51) : (setP ts now p).2.length = p.2.length := iter_len _ _ _ _
theorem run_parts {ky : ByteArray} {ts : List S49} {is : Int} {xs : List S51} (h : runB ky ts is xs = true) : 1 ≤ ky.size ∧ ky.size ≤ 16 ∧ xs.length = ts.length ∧ fitsB is xs = true ∧ allOk ts xs 0 xs.length = true := by
 unfold runB at h
 simp only [Bool.and_eq_true, decide_eq_true_eq] at h
 exact h
theorem tr_of {ts : List S49} {xs : List S51} (h : allOk ts xs 0 xs.length = true) : Tr xs := by
 intro s hs
 obtain ⟨j, hj, rfl⟩ := List.mem_iff_getElem.1 hs
 have h1 := stB_of h j hj
 rw [q2k xs j hj] at h1
 have := h1.1.2.2
 omega
theorem tk_of {ts : List S49} {xs : List S51} (h : allOk ts xs 0 xs.length = true) : Tk xs := by
 intro s hs
 obtain ⟨j, hj, rfl⟩ := List.mem_iff_getElem.1 hs
 have h1 := stB_of h j hj
 rw [q2k xs j hj] at h1
 have := h1.1.2.2
 omega
theorem fits_over {is : Int} {xs : List S51} (h : fitsB is xs = true) (hi : is ≠ 0) : q3h xs = false := by
 unfold fitsB at h
 split at h
 ·
  rename_i h1
  simp only [Bool.and_eq_true, Bool.not_eq_true'] at h1
  exact h1.1
 split at h
 ·
  split at h
  ·
   simpa using h
  cases h
 split at h
 ·
  cases h
 rename_i h1
 simpa using h1
theorem held_of {xs : List S51} (h : q3h xs = false) : hasB 2 xs = false := by
 unfold q3h at h
 simp only [Bool.or_eq_false_iff] at h
 exact h.2.2
theorem q5f (ky nm : ByteArray) (ts : List S49) (is : Int) (xs : List S51) (now : Int) (hd : q2w nm ts) (h : runB ky ts is xs = true) (k : Nat) (hk : 100 ≤ k) :
  q3u k ky nm ts is xs now = some (some (setP ts now (is, xs))) := by
 obtain ⟨h1, h2, h3, h4, h5⟩ := run_parts h
 have hw := hd.wf h3
 have a0 := hw.2.1
 unfold q3u
 rw [code_right ky nm ts is xs hd (tk_of h5) k hk, h, Option.bind_some, if_neg (by decide)]
 by_cases hi : is = 0
 ·
  rw [if_neg (by simpa using hi), unt_f k now [] (by simp) (by omega), Option.bind_some, settleL_ok k (by omega) ts now k is xs hw (tr_of h5) (by have := held_le xs; omega), Option.bind_some]
  unfold setP
  rw [(iter_more (ts := ts) (now := now) (q3n xs) xs.length (is, xs) (Nat.le_refl _) (held_le xs)).1]
 rw [if_pos hi]
 unfold setP
 rw [q4l (fst_held (held_of (fits_over h4 hi)))]
theorem same_ints_l (l : List Int) (hl : l.length ≤ 1000) : ∀ m i k, i + m = l.length → m + 1 ≤ k → Fh.l0 k l l (l.length : Int) (i : Int) = some true := by
 intro m
 induction m with
 | zero =>
  intro i k hi hk
  obtain ⟨k, rfl⟩ : ∃ q, k = q + 1 := ⟨k - 1, by omega⟩
  rw [Fh.l0, if_neg (by omega)]
 | succ m ih =>
  intro i k hi hk
  obtain ⟨k, rfl⟩ : ∃ q, k = q + 1 := ⟨k - 1, by omega⟩
  rw [Fh.l0, if_pos (by omega), if_pos (by omega), if_pos (by omega), if_pos (by omega), if_pos rfl, q4e i (by omega), ih (i + 1) k (by omega) (by omega)]
theorem same_ints (k : Nat) (hk : 1002 ≤ k) (l : List Int) (hl : l.length ≤ 1000) : Fh.f k l l = some true := by
 unfold Fh.f
 rw [if_pos rfl, show (0 : Int) = ((0 : Nat) : Int) from rfl, same_ints_l l hl l.length 0 k (by omega) (by omega)]
theorem same_states_l (l : List S51) (hl : l.length ≤ 1000) : ∀ m i k, i + m = l.length → m + 1 ≤ k → Fm.l0 k l l (l.length : Int) (i : Int) = some true := by
 intro m
 induction m with
 | zero =>
  intro i k hi hk
  obtain ⟨k, rfl⟩ : ∃ q, k = q + 1 := ⟨k - 1, by omega⟩
  rw [Fm.l0, if_neg (by omega)]
 | succ m ih =>
  intro i k hi hk
  obtain ⟨k, rfl⟩ : ∃ q, k = q + 1 := ⟨k - 1, by omega⟩
  rw [Fm.l0, if_pos (by omega), if_pos (by omega), if_pos (by omega), if_pos (by omega), if_neg (by simp), q4e i (by omega), ih (i + 1) k (by omega) (by omega)]
theorem same_states (k : Nat) (hk : 1002 ≤ k) (l : List S51) (hl : l.length ≤ 1000) : Fm.f k l l = some true := by
 unfold Fm.f
 rw [if_pos rfl, show (0 : Int) = ((0 : Nat) : Int) from rfl, same_states_l l hl l.length 0 k (by omega) (by omega)]
theorem like_dag_l (nm : ByteArray) (ts : List S49) (hl : ts.length ≤ 1000) (hn : ∀ t ∈ ts, t.f0.length ≤ 1000) : ∀ m i k, i + m = ts.length → m + 1100 ≤ k → Fj.l0 k ts (ts.length : Int) (i : Int) nm ts = some true := by
 intro m
 induction m with
 | zero =>
  intro i k hi hk
  obtain ⟨k, rfl⟩ : ∃ q, k = q + 1 := ⟨k - 1, by omega⟩
  rw [Fj.l0, if_neg (by omega)]
 | succ m ih =>
  intro i k hi hk
  obtain ⟨k, rfl⟩ : ∃ q, k = q + 1 := ⟨k - 1, by omega⟩
  rw [Fj.l0, if_pos (by omega), if_pos (by omega), if_pos (by omega), if_pos (by omega), same_ints k (by omega) _ (hn _ (rd49_mem (by omega))), Option.bind_some, if_pos rfl, if_pos rfl, if_pos rfl, if_pos rfl, q4e i (by omega), ih (i + 1) k (by omega) (by omega)]
theorem like_f (k : Nat) (hk : 2200 ≤ k) (ky nm : ByteArray) (ts : List S49) (is : Int) (xs : List S51) (hl : ts.length ≤ 1000) (hn : ∀ t ∈ ts, t.f0.length ≤ 1000) (hx : xs.length ≤ 1000) : Fl.f k ky nm ts is xs ky nm ts is xs = some true := by
 unfold Fl.f Fj.f
 obtain ⟨k, rfl⟩ : ∃ q, k = q + 1 := ⟨k - 1, by omega⟩
 rw [if_pos rfl, if_pos rfl, if_pos rfl, show ((ts.length : Int) != (ts.length : Int)) = false by simp, Fj.j0, if_neg (by decide), show (0 : Int) = ((0 : Nat) : Int) from rfl, like_dag_l nm ts hl hn ts.length 0 k (by omega) (by omega), Option.bind_some, if_pos rfl, same_states (k + 1) (by omega) xs hx]
 rfl
theorem q2w.lens {nm : ByteArray} {ts : List S49} (h : q2w nm ts) : ∀ t ∈ ts, t.f0.length ≤ 1000 := by
 intro t ht
 obtain ⟨i, hi, rfl⟩ := List.mem_iff_getElem.1 ht
 have := (h.task hi).2.1
 rw [rd49_nat ts i hi] at this
 omega
theorem like_ok (k : Nat) (hk : 2200 ≤ k) (ky nm : ByteArray) (ts : List S49) (is : Int) (xs : List S51) (h : q2w nm ts) (hx : xs.length = ts.length) : Fl.f k ky nm ts is xs ky nm ts is xs = some true :=
 like_f k hk ky nm ts is xs (by have := h.ten; omega) h.lens (by have := h.ten; omega)
def newP (ts : List S49) : Int × List S51 := mendP ts 0 (List.replicate ts.length z51)
theorem code_new (ky nm : ByteArray) (ts : List S49) (h : q2w nm ts) (h1 : 1 ≤ ky.size) (h2 : ky.size ≤ 16) (k : Nat) (hk : 100 ≤ k) : newO k ky nm ts = some (0, (newP ts).1, (newP ts).2) := by
 unfold newO
 rw [if_neg (by omega), if_neg (by omega), h.code k hk, Option.bind_some, if_neg (by simp), mend_f ts 0 _ (h.wf (by rw [List.length_replicate]))]
 rfl
theorem one_dag : q2w ⟨#[97]⟩ [(⟨[], 1, 0, 1⟩ : S49)] := by
 rcases dag_cases ⟨#[97]⟩ [(⟨[], 1, 0, 1⟩ : S49)] (by simp) (by simp) with ⟨R, h0, h1, _⟩ | h
 ·
  have h2 := h1 100 (by omega)
  have h3 : Fy.f 100 ⟨#[97]⟩ [(⟨[], 1, 0, 1⟩ : S49)] = some 0 := by decide +kernel
  rw [h3] at h2
  exact absurd (Option.some.inj h2).symm h0
 exact h
theorem alive_f (k : Nat) (hk : 100 ≤ k) : F0.f k = some true := by
 have hp : newP [(⟨[], 1, 0, 1⟩ : S49)] = (0, [(⟨1, 0, 0, 0, ⟨#[]⟩⟩ : S51)]) := by kernel_rfl
 have hr : runB ⟨#[107]⟩ [(⟨[], 1, 0, 1⟩ : S49)] 0 [(⟨1, 0, 0, 0, ⟨#[]⟩⟩ : S51)] = true := by decide +kernel
 have hc := code_right ⟨#[107]⟩ ⟨#[97]⟩ [(⟨[], 1, 0, 1⟩ : S49)] 0 [(⟨1, 0, 0, 0, ⟨#[]⟩⟩ : S51)] one_dag (by simp [Tk]) k hk
 unfold F0.f Gg.f Gj.f
 rw [code_new ⟨#[107]⟩ ⟨#[97]⟩ _ one_dag (by decide) (by decide) k hk, Option.bind_some, Option.bind_some, hp]
 unfold q3v
 rw [if_pos rfl]
 dsimp only
 rw [hc, hr]
 rfl
theorem few_lens (T : List S49) : ((T.take 20).map cutT).length ≤ 20 ∧ ∀ t ∈ (T.take 20).map cutT, t.f0.length ≤ 20 := by
 refine ⟨by rw [List.length_map, List.length_take]; omega, fun t ht => ?_⟩
 obtain ⟨u, _, rfl⟩ := List.mem_map.1 ht
 simp only [cutT, List.length_take]
 omega
theorem few_tk {L : List S51} (h : ∀ s ∈ L, (Lit.int .i64 s.f3).wf = true) : Tk (L.take 20) := fun s hs => wf64 (h s (List.mem_of_mem_take hs))
def heldI (a0 : Int) (ys : List S51) : Nat → Nat → Int
 | _, 0 => -1
 | i, m + 1 => if (q0c ys (i : Int)).f0 = 2 ∧ (q0c ys (i : Int)).f3 = a0 then (i : Int) else heldI a0 ys (i + 1) m
theorem heldI_lt (a0 : Int) (ys : List S51) : ∀ m i, heldI a0 ys i m < 0 ∨ (∃ j : Nat, heldI a0 ys i m = (j : Int) ∧ i ≤ j ∧ j < i + m ∧ (q0c ys (j : Int)).f0 = 2 ∧ (q0c ys (j : Int)).f3 = a0)
 | 0, i => .inl (by rw [heldI]; omega)
 | m + 1, i => by
  rw [heldI]
  split
  ·
   rename_i h
   exact .inr ⟨i, rfl, Nat.le_refl _, by omega, h.1, h.2⟩
  rcases heldI_lt a0 ys m (i + 1) with h | ⟨j, h1, h2, h3, h4⟩
  ·
   exact .inl h
  exact .inr ⟨j, h1, by omega, by omega, h4⟩
def toldAt (ts : List S49) (is : Int) (ys : List S51) (a0 : S49 → S51 → S51 × Int) (f : Int) : Int × Int × List S51 :=
 if f < 0 then (191, 0, []) else if (a0 (q0e ts f) (q0c ys f)).2 ≠ 0 then ((a0 (q0e ts f) (q0c ys f)).2, 0, [])
 else (0, (mendP ts is (ys.set f.toNat (a0 (q0e ts f) (q0c ys f)).1)).1, (mendP ts is (ys.set f.toNat (a0 (q0e ts f) (q0c ys f)).1)).2)
def toldP (ts : List S49) (now a0 : Int) (a1 : S49 → S51 → S51 × Int) (p : Int × List S51) : Int × Int × List S51 :=
 toldAt ts (setP ts now p).1 (setP ts now p).2 a1 (heldI a0 (setP ts now p).2 0 (setP ts now p).2.length)
theorem heldL_ok (ts : List S49) (is : Int) (ys : List S51) (a0 : Int) (a2 : S49 → S51 → Option (S51 × Int)) (a1 : S49 → S51 → S51 × Int) (hw : Wf ts ys.length) (ha : ∀ t, ∀ s ∈ ys, a2 t s = some (a1 t s)) : ∀ m i, i + m = ys.length →
  heldL ts is ys a0 a2 ((List.finRange ys.length).drop i) = some (toldAt ts is ys a1 (heldI a0 ys i m)) := by
 intro m
 induction m with
 | zero =>
  intro i hi
  rw [List.drop_eq_nil_of_le (by simp; omega)]
  rfl
 | succ m ih =>
  intro i hi
  have hd : (List.finRange ys.length).drop i = ⟨i, by omega⟩ :: (List.finRange ys.length).drop (i + 1) := by
   rw [List.drop_eq_getElem_cons (show i < (List.finRange ys.length).length by simp; omega)]
   simp
  rw [hd, heldL]
  dsimp only
  rw [ih (i + 1) (by omega), ha _ _ (q3q (by omega) (by omega)), Option.bind_some]
  by_cases h1 : (q0c ys (i : Int)).f0 = 2
  ·
   by_cases h2 : (q0c ys (i : Int)).f3 = a0
   ·
    rw [show heldI a0 ys i (m + 1) = (i : Int) by rw [heldI, if_pos ⟨h1, h2⟩], if_neg (by simpa using h1), if_neg (by simpa using h2)]
    unfold toldAt
    rw [if_neg (show ¬ ((i : Int) < 0) by omega), Int.toNat_natCast, mend_f _ _ _ (by rw [List.length_set]; exact hw), Option.bind_some]
    split <;> rfl
   rw [show heldI a0 ys i (m + 1) = heldI a0 ys (i + 1) m by rw [heldI, if_neg (fun h => h2 h.2)], if_neg (by simpa using h1), if_pos h2]
  rw [show heldI a0 ys i (m + 1) = heldI a0 ys (i + 1) m by rw [heldI, if_neg (fun h => h1 h.1)], if_pos h1]
theorem goodHeld_ok (ts : List S49) (is : Int) (ys : List S51) (a0 : Int) (a2 : S49 → S51 → Option (S51 × Int)) (a1 : S49 → S51 → S51 × Int) (hw : Wf ts ys.length) (ha : ∀ t, ∀ s ∈ ys, a2 t s = some (a1 t s)) : goodHeld ts is ys a0 a2 = true := by
 refine List.all_eq_true.2 fun x _ => ?_
 have hx := x.isLt
 rw [ha _ _ (q3q (by omega) (by omega))]
 dsimp only
 rw [mend_f _ _ _ (by rw [List.length_set]; exact hw)]
 simp
theorem tr_set_p {ts : List S49} {now : Int} {p : Int × List S51} (h : Tr p.2) : Tr (setP ts now p).2 := by
 have a0 : ∀ n (p : Int × List S51), Tr p.2 → Tr (iterS ts now n p).2 := by
  intro n
  induction n with
  | zero => intro p h; exact h
  | succ n ih => intro p h; exact ih _ (tr_step ts now p h)
 exact a0 _ p h
theorem code_held (ky nm : ByteArray) (ts : List S49) (is : Int) (xs : List S51) (now a0 : Int) (a2 : S49 → S51 → Option (S51 × Int)) (a1 : S49 → S51 → S51 × Int) (hd : q2w nm ts) (h : runB ky ts is xs = true) (k : Nat) (hk : 100 ≤ k)
  (ha : ∀ t s, -9223372036854775808 ≤ s.f1 ∧ s.f1 ≤ 9223372036854775807 → a2 t s = some (a1 t s)) : heldO k ky nm ts is xs now a0 a2 = some (toldP ts now a0 a1 (is, xs)) := by
 obtain ⟨h1, h2, h3, h4, h5⟩ := run_parts h
 have a4 := tr_set_p (ts := ts) (now := now) (p := (is, xs)) (tr_of h5)
 have hw : Wf ts (setP ts now (is, xs)).2.length := hd.wf (by rw [setP_len]; exact h3)
 have a3 : ∀ t, ∀ s ∈ (setP ts now (is, xs)).2, a2 t s = some (a1 t s) := fun t s hs => ha t s (a4 s hs)
 unfold heldO toldP
 rw [q5f ky nm ts is xs now hd h k hk, Option.bind_some]
 dsimp only
 rw [if_neg (by rw [goodHeld_ok ts _ _ a0 a2 a1 hw a3]; decide)]
 have := heldL_ok ts (setP ts now (is, xs)).1 (setP ts now (is, xs)).2 a0 a2 a1 hw a3 (setP ts now (is, xs)).2.length 0 (by omega)
 rw [List.drop_zero] at this
 exact this
def ofA (p : Int × Int × Int × Int × ByteArray × Int) : S51 × Int := (⟨p.1, p.2.1, p.2.2.1, p.2.2.2.1, p.2.2.2.2.1⟩, p.2.2.2.2.2)
def beatP (now : Int) (t : S49) (s : S51) : S51 × Int := ofA (beatV t.f3 s.f0 s.f1 s.f3 s.f4 now)
def doneP (a0 : ByteArray) (t : S49) (s : S51) : S51 × Int := ofA (doneV s.f0 s.f1 a0)
def failP (now : Int) (t : S49) (s : S51) : S51 × Int := ofA (failV t.f1 t.f2 s.f0 s.f1 s.f4 now)
theorem code_beat (ky nm : ByteArray) (ts : List S49) (is : Int) (xs : List S51) (now a0 : Int) (hd : q2w nm ts) (h : runB ky ts is xs = true) (k : Nat) (hk : 100 ≤ k) : F9.f k ky nm ts is xs now a0 = some (q3v ky nm ts (toldP ts now a0 (beatP now) (is, xs))) := by
 unfold F9.f
 rw [code_held ky nm ts is xs now a0 (beatA k now) (beatP now) hd h k hk fun t s hs => by unfold beatA; rw [beat_f k (by omega)]; rfl]
 rfl
theorem code_done (ky nm : ByteArray) (ts : List S49) (is : Int) (xs : List S51) (now a1 : Int) (a0 : ByteArray) (hd : q2w nm ts) (h : runB ky ts is xs = true) (k : Nat) (hk : 100 ≤ k) : Gh.f k ky nm ts is xs now a1 a0 = some (q3v ky nm ts (toldP ts now a1 (doneP a0) (is, xs))) := by
 unfold Gh.f
 rw [code_held ky nm ts is xs now a1 (doneA a0) (doneP a0) hd h k hk fun t s hs => by unfold doneA; rw [done_f]; rfl]
 rfl
theorem code_fail (ky nm : ByteArray) (ts : List S49) (is : Int) (xs : List S51) (now a0 : Int) (hd : q2w nm ts) (h : runB ky ts is xs = true) (k : Nat) (hk : 100 ≤ k) : Gi.f k ky nm ts is xs now a0 = some (q3v ky nm ts (toldP ts now a0 (failP now) (is, xs))) := by
 unfold Gi.f
 rw [code_held ky nm ts is xs now a0 (failA k now) (failP now) hd h k hk fun t s hs => by unfold failA; rw [fail_f k (by omega) _ _ _ _ _ _ _ _ _ _ hs.1 hs.2]; rfl]
 rfl
def leaseP (now a0 : Int) (t : S49) (s : S51) : S51 × Int := ofA (leaseV t.f3 s.f0 s.f1 s.f2 s.f4 now a0)
def dueI (now : Int) (is : Int) (ys : List S51) : Nat → Nat → Int
 | _, 0 => -1
 | i, m + 1 => if is = 0 ∧ (q0c ys (i : Int)).f0 = 1 ∧ (q0c ys (i : Int)).f2 ≤ unt now [] then (i : Int) else dueI now is ys (i + 1) m
theorem dueI_lt (now is : Int) (ys : List S51) : ∀ m i, dueI now is ys i m = -1 ∨ (∃ j : Nat, dueI now is ys i m = (j : Int) ∧ i ≤ j ∧ j < i + m ∧ is = 0 ∧ (q0c ys (j : Int)).f0 = 1 ∧ (q0c ys (j : Int)).f2 ≤ unt now [])
 | 0, i => .inl rfl
 | m + 1, i => by
  rw [dueI]
  split
  ·
   rename_i h
   exact .inr ⟨i, rfl, Nat.le_refl _, by omega, h⟩
  rcases dueI_lt now is ys m (i + 1) with h | ⟨j, h1, h2, h3, h4⟩
  ·
   exact .inl h
  exact .inr ⟨j, h1, by omega, by omega, h4⟩
theorem dueI_no (now : Int) {is : Int} (h : is ≠ 0) (ys : List S51) : ∀ m i, dueI now is ys i m = -1
 | 0, i => rfl
 | m + 1, i => by rw [dueI, if_neg (fun e => h e.1), dueI_no now h ys m]
def leaseR (ts : List S49) (now a0 : Int) (p : Int × List S51) : Int × Int × List S51 × Int :=
 if a0 < 1 ∨ 1099511627776 < a0 then (1, 0, [], 0) else if (p.2.any fun s => s.f3 == a0) = true then (1, 0, [], 0)
 else if dueI now p.1 p.2 0 p.2.length < 0 then (192, 0, [], 0)
 else (0, p.1, p.2.set (dueI now p.1 p.2 0 p.2.length).toNat (leaseP now a0 (q0e ts (dueI now p.1 p.2 0 p.2.length)) (q0c p.2 (dueI now p.1 p.2 0 p.2.length))).1, dueI now p.1 p.2 0 p.2.length)
theorem lease_ok {now token : Int} (ht : ¬ (token < 1 ∨ 1099511627776 < token)) (t : S49) (s : S51) : (leaseP now token t s).2 = 0 ↔ s.f0 = 1 ∧ s.f2 ≤ unt now [] := by
 unfold leaseP leaseV ofA
 rw [if_neg (by omega)]
 by_cases h : s.f0 = 1 ∧ s.f2 ≤ unt now []
 ·
  rw [if_pos h]; simp [h]
 rw [if_neg h]; simp [h]
theorem leaseO_eq (k : Nat) (hk : 60 ≤ k) (t : S49) (s : S51) (now a0 : Int) : leaseO k t s now a0 = some (leaseP now a0 t s) := by
 unfold leaseO
 rw [lease_f k hk]
 rfl
theorem leaseL_ok (k : Nat) (hk : 60 ≤ k) (ts : List S49) (ys : List S51) (now a0 : Int) (ht : ¬ (a0 < 1 ∨ 1099511627776 < a0)) : ∀ m i, i + m = ys.length →
  (dueI now 0 ys i m < 0 ∧ leaseL k ts ys now a0 ((List.finRange ys.length).drop i) = some none) ∨
  ∃ j : Fin ys.length, dueI now 0 ys i m = (j.val : Int) ∧ leaseL k ts ys now a0 ((List.finRange ys.length).drop i) = some (some (j, (leaseP now a0 (q0e ts (j.val : Int)) (q0c ys (j.val : Int))).1)) := by
 intro m
 induction m with
 | zero =>
  intro i hi
  rw [List.drop_eq_nil_of_le (by simp; omega)]
  exact .inl ⟨by rw [dueI]; omega, rfl⟩
 | succ m ih =>
  intro i hi
  have hd : (List.finRange ys.length).drop i = ⟨i, by omega⟩ :: (List.finRange ys.length).drop (i + 1) := by
   rw [List.drop_eq_getElem_cons (show i < (List.finRange ys.length).length by simp; omega)]
   simp
  rw [hd, leaseL, dueI]
  dsimp only
  rw [leaseO_eq k hk, Option.bind_some]
  have hl := lease_ok (now := now) ht (q0e ts (i : Int)) (q0c ys (i : Int))
  by_cases h : (leaseP now a0 (q0e ts (i : Int)) (q0c ys (i : Int))).2 = 0
  ·
   rw [if_pos h, if_pos ⟨rfl, hl.1 h⟩]
   exact .inr ⟨⟨i, by omega⟩, rfl, rfl⟩
  rw [if_neg h, if_neg (fun e => h (hl.2 e.2))]
  exact ih (i + 1) (by omega)
theorem code_lease (ky nm : ByteArray) (ts : List S49) (is : Int) (xs : List S51) (now a0 : Int) (hd : q2w nm ts) (h : runB ky ts is xs = true) (k : Nat) (hk : 100 ≤ k) : runLeaseO k ky nm ts is xs now a0 = some (leaseR ts now a0 (setP ts now (is, xs))) := by
 unfold runLeaseO leaseR
 rw [q5f ky nm ts is xs now hd h k hk, Option.bind_some]
 dsimp only
 generalize setP ts now (is, xs) = p
 by_cases h1 : a0 < 1
 ·
  rw [if_pos h1, if_pos (.inl h1)]
 by_cases h2 : 1099511627776 < a0
 ·
  rw [if_neg h1, if_pos h2, if_pos (.inr h2)]
 have ht : ¬ (a0 < 1 ∨ 1099511627776 < a0) := fun h => h.elim h1 h2
 rw [if_neg h1, if_neg h2, if_neg ht]
 unfold noTok
 by_cases h3 : (p.2.any fun s => s.f3 == a0) = true
 ·
  rw [h3, if_pos rfl, if_pos (by decide)]
 rw [if_neg h3, if_neg (by simpa using h3)]
 by_cases h4 : p.1 = 0
 ·
  have hg : q4r k ts p.2 now a0 = true := List.all_eq_true.2 fun x _ => by rw [leaseO_eq k (by omega)]; rfl
  rw [if_neg (by simpa using h4), if_neg (by rw [hg]; decide), h4]
  rcases leaseL_ok k (by omega) ts p.2 now a0 ht p.2.length 0 (by omega) with ⟨h5, h6⟩ | ⟨j, h5, h6⟩
  ·
   rw [List.drop_zero] at h6
   rw [if_pos h5, h6, Option.bind_some]
  rw [List.drop_zero] at h6
  rw [h5, if_neg (by omega), h6, Option.bind_some]
  dsimp only
  rw [Int.toNat_natCast]
 rw [if_pos h4, dueI_no now h4, if_pos (by omega)]
def leaseOf (ky nm : ByteArray) (ts : List S49) (r : Int × Int × List S51 × Int) : ByteArray × ByteArray × List S49 × Int × List S51 × Int × Int :=
 if r.1 = 0 then (ky, nm, ts, r.2.1, r.2.2.1, r.2.2.2, 0) else (⟨#[]⟩, ⟨#[]⟩, [], 0, [], 0, r.1)
theorem code_lease_f (ky nm : ByteArray) (ts : List S49) (is : Int) (xs : List S51) (now a0 : Int) (hd : q2w nm ts) (h : runB ky ts is xs = true) (k : Nat) (hk : 100 ≤ k) : Gk.f k ky nm ts is xs now a0 = some (leaseOf ky nm ts (leaseR ts now a0 (setP ts now (is, xs)))) := by
 unfold Gk.f
 rw [code_lease ky nm ts is xs now a0 hd h k hk]
 rfl
def cancelR (p : Int × List S51) : Int × Int × List S51 := if p.1 ≠ 0 then (193, 0, []) else (0, 3, p.2.map q0u)
theorem code_cancel (ky nm : ByteArray) (ts : List S49) (is : Int) (xs : List S51) (now : Int) (hd : q2w nm ts) (h : runB ky ts is xs = true) (k : Nat) (hk : 100 ≤ k) : cancelO k ky nm ts is xs now = some (cancelR (setP ts now (is, xs))) := by
 unfold cancelO cancelR
 rw [q5f ky nm ts is xs now hd h k hk, Option.bind_some]
 dsimp only
 split <;> rfl
theorem code_cancel_f (ky nm : ByteArray) (ts : List S49) (is : Int) (xs : List S51) (now : Int) (hd : q2w nm ts) (h : runB ky ts is xs = true) (k : Nat) (hk : 100 ≤ k) : Gd.f k ky nm ts is xs now = some (q3v ky nm ts (cancelR (setP ts now (is, xs)))) := by
 unfold Gd.f
 rw [code_cancel ky nm ts is xs now hd h k hk]
 rfl
theorem q5e (ky nm : ByteArray) (ts : List S49) (is : Int) (xs : List S51) (now : Int) (hd : q2w nm ts) (h : runB ky ts is xs = true) (k : Nat) (hk : 100 ≤ k) : Fw.f k ky nm ts is xs now = some (ky, nm, ts, (setP ts now (is, xs)).1, (setP ts now (is, xs)).2, 0) := by
 unfold Fw.f
 rw [q5f ky nm ts is xs now hd h k hk]
 rfl
end Go.Proofs.Ytabmkighhmchmaa.Pure
