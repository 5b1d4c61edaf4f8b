/- A graph out of bytes: the plain value of what the code reads. -/
import Derived.Test.YtbgmhcefjggpgaaByP
import Derived.Test.YtbgmhcefjggpgaaXDGet
namespace Go.Proofs.Ytbgmhcefjggpgaa.Pure
open Go.RowKit Go.Proofs.Ytbgmhcefjggpgaa.X Go.Proofs.YtbgmhcefjggpgaaW.PrintWords Go.Proofs.YtbgmhcefjggpgaaW.PrintLast
set_option linter.unusedVariables false

/-- A number and a text at a place. -/
def fld (a : ByteArray) (m n : Nat) : Int := numOf ((a.data.toList.drop m).take n)
def gv (a : ByteArray) (m n : Nat) : Int × Int × Int := if a.size < m + n then (0, 0, 3) else (fld a m n, ((m + n : Nat) : Int), 0)
def cutOf (a : ByteArray) (m : Nat) : ByteArray × Int × Int :=
  if a.size < m + 2 then (⟨#[]⟩, 0, 3) else
  if (a.size : Int) - ((m + 2 : Nat) : Int) < fld a m 2 then (⟨#[]⟩, 0, 3) else
  (a.extract (m + 2) (m + 2 + (fld a m 2).toNat), ((m + 2 + (fld a m 2).toNat : Nat) : Int), 0)
theorem fld_bd (a : ByteArray) (m n : Nat) (h : m + n ≤ a.size) : 0 ≤ fld a m n ∧ fld a m n < 256 ^ n := by
  have := numOf_bd (a.data.toList.drop m) n (by rw [List.length_drop, ← Go.Lib.size_eq]; omega)
  exact this
theorem get_in (a : ByteArray) (hs : a.size ≤ 5000) (m n : Nat) (hm : m ≤ a.size) (h1 : 1 ≤ n) (h6 : n ≤ 6) : code_Get.f a (m : Int) (n : Int) = some (gv a m n) := by
  unfold code_Get.f gv fld
  rw [if_pos (by omega), if_neg (by omega)]
  by_cases h : a.size < m + n
  · rw [if_pos h, if_pos (by omega)]
  · rw [if_neg h, if_neg (by omega)]
    simp
theorem cut_in (a : ByteArray) (hs : a.size ≤ 5000) (m : Nat) (hm : m ≤ a.size) : P.code_Cut.f a (m : Int) = some (cutOf a m) := by
  unfold P.code_Cut.f cutOf
  rw [show code_Get.f a (m : Int) 2 = some (gv a m 2) from get_in a hs m 2 hm (by omega) (by omega), Option.bind_some]
  unfold gv
  by_cases h : a.size < m + 2
  · rw [if_pos h, if_pos h]; rfl
  · rw [if_neg h, if_neg h]
    have hb := fld_bd a m 2 (by omega)
    generalize fld a m 2 = q at *
    obtain ⟨q, rfl⟩ : ∃ n : Nat, q = n := ⟨q.toNat, by omega⟩
    simp only [if_true]
    rw [w64_in _ (by omega), w64_in _ (by omega)]
    by_cases h2 : (a.size : Int) - ((m + 2 : Nat) : Int) < (q : Int)
    · rw [if_pos h2, if_pos h2]
    · rw [if_neg h2, if_neg h2, if_pos (by omega), if_pos (by omega), if_pos (by omega), Int.toNat_natCast]
      rfl
/-- A text that is cut off: its place behind lies in the bytes. -/
theorem cut_cases (a : ByteArray) (m : Nat) (hm : m ≤ a.size) : (cutOf a m = (⟨#[]⟩, 0, 3)) ∨ ∃ (t : ByteArray), t.size ≤ 65535 ∧ m + 2 + t.size ≤ a.size ∧ cutOf a m = (t, ((m + 2 + t.size : Nat) : Int), 0) ∧ a.data.toList.drop m = txt t ++ a.data.toList.drop (m + 2 + t.size) := by
  by_cases h : a.size < m + 2
  · left; unfold cutOf; rw [if_pos h]
  have hb := fld_bd a m 2 (by omega)
  by_cases h2 : (a.size : Int) - ((m + 2 : Nat) : Int) < fld a m 2
  · left; unfold cutOf; rw [if_neg h, if_pos h2]
  right
  obtain ⟨q, hq⟩ : ∃ n : Nat, fld a m 2 = n := ⟨(fld a m 2).toNat, by omega⟩
  rw [hq] at hb h2
  have hsz : (a.extract (m + 2) (m + 2 + q)).size = q := by rw [ByteArray.size_extract]; omega
  refine ⟨a.extract (m + 2) (m + 2 + q), by omega, by omega, ?_, ?_⟩
  · unfold cutOf
    rw [if_neg h, hq, if_neg h2, Int.toNat_natCast, hsz]
  · rw [hsz]
    have hl : m + 1 < a.data.toList.length := by rw [← Go.Lib.size_eq]; omega
    have e1 : a.data.toList.drop m = a.data.toList[m] :: a.data.toList[m + 1] :: a.data.toList.drop (m + 2) := by
      rw [List.drop_eq_getElem_cons (by omega), List.drop_eq_getElem_cons hl]
    have e2 : (q : Int) = (a.data.toList[m]).toNat * 256 + (a.data.toList[m + 1]).toNat := by
      rw [← hq]
      unfold fld
      rw [e1]
      simp [numOf]
    have c1 := (a.data.toList[m]).toNat_lt
    have c2 := (a.data.toList[m + 1]).toNat_lt
    have e3 : (a.extract (m + 2) (m + 2 + q)).data.toList = (a.data.toList.drop (m + 2)).take q := by
      rw [ByteArray.data_extract, Array.toList_extract, List.extract_eq_take_drop]
      congr 1; omega
    unfold txt two
    rw [hsz, e3, e1]
    rw [ub_of a.data.toList[m] (by omega), ub_of a.data.toList[m + 1] (by omega)]
    simp only [List.cons_append, List.nil_append]
    rw [show a.data.toList.drop (m + 2 + q) = (a.data.toList.drop (m + 2)).drop q from by rw [List.drop_drop], List.take_append_drop]
/-- What is written as a number is read as it. -/
theorem num_back (a : ByteArray) (m : Nat) (n : Int) (rest : List UInt8) (h0 : 0 ≤ n) (h1 : n < 65536) (h : a.data.toList.drop m = two n ++ rest) : m + 2 ≤ a.size ∧ fld a m 2 = n := by
  have hl : (a.data.toList.drop m).length = 2 + rest.length := by rw [h]; simp [two]; omega
  rw [List.length_drop, ← Go.Lib.size_eq] at hl
  refine ⟨by omega, ?_⟩
  unfold fld
  rw [h]
  have e1 := ub_nat (n := n / 256 % 256) (by omega) (by omega)
  have e2 := ub_nat (n := n % 256) (by omega) (by omega)
  simp [two, numOf]
  omega
theorem cut_back (a t : ByteArray) (m : Nat) (rest : List UInt8) (ht : t.size ≤ 65535) (h : a.data.toList.drop m = txt t ++ rest) : m + 2 + t.size ≤ a.size ∧ cutOf a m = (t, ((m + 2 + t.size : Nat) : Int), 0) ∧ a.data.toList.drop (m + 2 + t.size) = rest := by
  have hl : (a.data.toList.drop m).length = t.size + 2 + rest.length := by rw [h, List.length_append, txt_len]
  rw [List.length_drop, ← Go.Lib.size_eq] at hl
  have h2 := num_back a m (t.size : Int) (t.data.toList ++ rest) (by omega) (by omega) (by rw [h]; unfold txt; rw [List.append_assoc])
  have e3 : a.data.toList.drop (m + 2) = t.data.toList ++ rest := by
    rw [← List.drop_drop, h]
    unfold txt two
    simp
  refine ⟨by omega, ?_, ?_⟩
  · unfold cutOf
    rw [if_neg (by omega), h2.2, if_neg (by omega), Int.toNat_natCast]
    congr 1
    have : (a.extract (m + 2) (m + 2 + t.size)).data.toList = t.data.toList := by
      rw [ByteArray.data_extract, Array.toList_extract, List.extract_eq_take_drop, e3, show m + 2 + t.size - (m + 2) = t.data.toList.length by rw [← Go.Lib.size_eq]; omega, List.take_left]
    have := congrArg mkB this
    rwa [mkB_of, mkB_of] at this
  · rw [← List.drop_drop, e3, Go.Lib.size_eq, List.drop_left]
/-! Reading off a row of bytes. -/
def pNum (n : Nat) (l : List UInt8) : Option (Int × List UInt8) := if l.length < n then none else some (numOf (l.take n), l.drop n)
def pNeeds : Nat → List UInt8 → Option (List Int × List UInt8)
  | 0, l => some ([], l)
  | c + 1, l => (pNum 1 l).bind fun x => (pNeeds c x.2).map fun y => (x.1 :: y.1, y.2)
def pTask (l : List UInt8) : Option (S39 × List UInt8) :=
  (pNum 1 l).bind fun c => (pNeeds c.1.toNat c.2).bind fun L => (pNum 1 L.2).bind fun d => (pNum 3 d.2).bind fun e => (pNum 3 e.2).map fun g => (⟨L.1, d.1, e.1, g.1⟩, g.2)
def pTasks : Nat → List UInt8 → Option (List S39 × List UInt8)
  | 0, l => some ([], l)
  | c + 1, l => (pTask l).bind fun t => (pTasks c t.2).map fun y => (t.1 :: y.1, y.2)
theorem num1_inv {l r : List UInt8} {x : Int} (h : pNum 1 l = some (x, r)) : l = ub x :: r ∧ 0 ≤ x ∧ x < 256 := by
  unfold pNum at h
  match l with
  | [] => simp at h
  | c :: l =>
    have hc := c.toNat_lt
    simp [numOf] at h
    obtain ⟨h1, rfl⟩ := h
    refine ⟨by rw [ub_of c h1.symm], by omega, by omega⟩
theorem num1_of {x : Int} (r : List UInt8) (h0 : 0 ≤ x) (h1 : x < 256) : pNum 1 (ub x :: r) = some (x, r) := by
  unfold pNum
  simp [numOf, ub_nat h0 h1]
theorem num3_inv {l r : List UInt8} {x : Int} (h : pNum 3 l = some (x, r)) : l = three x ++ r ∧ 0 ≤ x ∧ x < 16777216 := by
  unfold pNum at h
  match l with
  | [] => simp at h
  | [_] => simp at h
  | [_, _] => simp at h
  | a :: b :: c :: l =>
    have ha := a.toNat_lt
    have hb := b.toNat_lt
    have hc := c.toNat_lt
    simp [numOf] at h
    obtain ⟨h1, rfl⟩ := h
    refine ⟨?_, by omega, by omega⟩
    unfold three
    rw [ub_of a (n := x / 65536 % 256) (by omega), ub_of b (n := x / 256 % 256) (by omega), ub_of c (n := x % 256) (by omega)]
    rfl
theorem num3_of {x : Int} (r : List UInt8) (h0 : 0 ≤ x) (h1 : x < 16777216) : pNum 3 (three x ++ r) = some (x, r) := by
  unfold pNum three
  have e1 := ub_nat (n := x / 65536 % 256) (by omega) (by omega)
  have e2 := ub_nat (n := x / 256 % 256) (by omega) (by omega)
  have e3 := ub_nat (n := x % 256) (by omega) (by omega)
  simp [numOf]
  omega
theorem needs_inv : ∀ (c : Nat) (l : List UInt8) (L : List Int) (r : List UInt8), pNeeds c l = some (L, r) → l = L.map ub ++ r ∧ L.length = c ∧ ∀ x ∈ L, 0 ≤ x ∧ x < 256
  | 0, l, L, r, h => by
    simp only [pNeeds, Option.some.injEq, Prod.mk.injEq] at h
    obtain ⟨rfl, rfl⟩ := h
    simp
  | c + 1, l, L, r, h => by
    obtain ⟨⟨x, l1⟩, h1, h2⟩ := Option.bind_eq_some_iff.1 h
    obtain ⟨⟨L1, r1⟩, h3, h4⟩ := Option.map_eq_some_iff.1 h2
    simp only [Prod.mk.injEq] at h4
    obtain ⟨rfl, rfl⟩ := h4
    obtain ⟨rfl, hx⟩ := num1_inv h1
    obtain ⟨h5, h6, h7⟩ := needs_inv c _ _ _ h3
    simp only at h5
    subst h5
    refine ⟨by simp, by simp [h6], fun y hy => ?_⟩
    rcases List.mem_cons.1 hy with rfl | hy
    · exact hx
    · exact h7 y hy
theorem needs_of : ∀ (L : List Int) (r : List UInt8), (∀ x ∈ L, 0 ≤ x ∧ x < 256) → pNeeds L.length (L.map ub ++ r) = some (L, r)
  | [], r, _ => rfl
  | x :: L, r, h => by
    rw [List.length_cons, pNeeds, List.map_cons, List.cons_append, num1_of _ (h x (by simp)).1 (h x (by simp)).2, Option.bind_some, needs_of L r (fun y hy => h y (by simp [hy]))]
    rfl
theorem task_inv {l r : List UInt8} {t : S39} (h : pTask l = some (t, r)) : l = taskBy t ++ r ∧ t.f0.length ≤ 255 := by
  obtain ⟨⟨c, l1⟩, h1, h⟩ := Option.bind_eq_some_iff.1 h
  obtain ⟨⟨L, l2⟩, h2, h⟩ := Option.bind_eq_some_iff.1 h
  obtain ⟨⟨d, l3⟩, h3, h⟩ := Option.bind_eq_some_iff.1 h
  obtain ⟨⟨e, l4⟩, h4, h⟩ := Option.bind_eq_some_iff.1 h
  obtain ⟨⟨g, l5⟩, h5, h⟩ := Option.map_eq_some_iff.1 h
  simp only [Prod.mk.injEq] at h
  obtain ⟨rfl, rfl⟩ := h
  simp only at h2 h3 h4 h5
  obtain ⟨rfl, b1⟩ := num1_inv h1
  obtain ⟨rfl, b2, _⟩ := needs_inv _ _ _ _ h2
  obtain ⟨rfl, b3⟩ := num1_inv h3
  obtain ⟨rfl, b4⟩ := num3_inv h4
  obtain ⟨rfl, b5⟩ := num3_inv h5
  refine ⟨?_, by simp only; omega⟩
  unfold taskBy
  simp only
  rw [b2, Int.toNat_of_nonneg b1.1]
  simp
theorem task_of {t : S39} (r : List UInt8) (h : byT t) : pTask (taskBy t ++ r) = some (t, r) := by
  obtain ⟨h1, h2, h3, h4, h5, h6, h7, h8⟩ := h
  unfold pTask taskBy
  rw [List.cons_append, num1_of _ (by omega) (by omega), Option.bind_some]
  simp only [Int.toNat_natCast, List.append_assoc, List.cons_append]
  rw [needs_of _ _ h2, Option.bind_some]
  simp only
  rw [num1_of _ h3 h4, Option.bind_some]
  simp only
  rw [num3_of _ h5 h6, Option.bind_some]
  simp only
  rw [num3_of _ h7 h8]
  rfl
theorem tasks_inv : ∀ (c : Nat) (l : List UInt8) (T : List S39) (r : List UInt8), pTasks c l = some (T, r) → l = T.flatMap taskBy ++ r ∧ T.length = c ∧ ∀ t ∈ T, t.f0.length ≤ 255
  | 0, l, T, r, h => by
    simp only [pTasks, Option.some.injEq, Prod.mk.injEq] at h
    obtain ⟨rfl, rfl⟩ := h
    simp
  | c + 1, l, T, r, h => by
    obtain ⟨⟨t, l1⟩, h1, h2⟩ := Option.bind_eq_some_iff.1 h
    obtain ⟨⟨T1, r1⟩, h3, h4⟩ := Option.map_eq_some_iff.1 h2
    simp only [Prod.mk.injEq] at h4
    obtain ⟨rfl, rfl⟩ := h4
    obtain ⟨rfl, hx⟩ := task_inv h1
    obtain ⟨h5, h6, h7⟩ := tasks_inv c _ _ _ h3
    simp only at h5
    subst h5
    refine ⟨by simp [List.flatMap_cons], by simp [h6], fun y hy => ?_⟩
    rcases List.mem_cons.1 hy with rfl | hy
    · exact hx
    · exact h7 y hy
theorem tasks_of : ∀ (T : List S39) (r : List UInt8), (∀ t ∈ T, byT t) → pTasks T.length (T.flatMap taskBy ++ r) = some (T, r)
  | [], r, _ => rfl
  | t :: T, r, h => by
    rw [List.length_cons, pTasks, List.flatMap_cons, List.append_assoc, task_of _ (h t (by simp)), Option.bind_some, tasks_of T r (fun y hy => h y (by simp [hy]))]
    rfl
end Go.Proofs.Ytbgmhcefjggpgaa.Pure
