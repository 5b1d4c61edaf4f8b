/- A node out of bytes: the plain value of what the code and the reference read. -/
import Derived.Test.YtmnkabdaapiikaaBaseR
import Derived.Test.YtmnkabdaapiikaaXNGet
import Derived.Test.YtmnkabdaapiikaaRx3
namespace Go.Proofs.Ytmnkabdaapiikaa.Pure
open Go.RowKit Go.Proofs.Ytmnkabdaapiikaa.R Go.Proofs.YtmnkabdaapiikaaW.PrintWords Go.Proofs.YtmnkabdaapiikaaW.PrintLast
set_option linter.unusedVariables false

/-- A number and a text at a place. -/
def fld (a : ByteArray) (m n : Nat) : Int := numOf ((a.data.toList.drop m).take n)
def gv (a : ByteArray) (m n : Nat) : Int × Int × Int := if a.size < m + n then (0, 0, 3) else (fld a m n, ((m + n : Nat) : Int), 0)
def cutOf (a : ByteArray) (m : Nat) : ByteArray × Int × Int :=
  if a.size < m + 2 then (⟨#[]⟩, 0, 3) else
  if (a.size : Int) - ((m + 2 : Nat) : Int) < fld a m 2 then (⟨#[]⟩, 0, 3) else
  (a.extract (m + 2) (m + 2 + (fld a m 2).toNat), ((m + 2 + (fld a m 2).toNat : Nat) : Int), 0)
theorem fld_bd (a : ByteArray) (m n : Nat) (h : m + n ≤ a.size) : 0 ≤ fld a m n ∧ fld a m n < 256 ^ n := by
  have := numOf_bd (a.data.toList.drop m) n (by rw [List.length_drop, ← Go.Lib.size_eq]; omega)
  exact this
theorem get_in (a : ByteArray) (hs : a.size ≤ 5000) (m n : Nat) (hm : m ≤ a.size) (h1 : 1 ≤ n) (h6 : n ≤ 6) : code_Get.f a (m : Int) (n : Int) = some (gv a m n) := by
  unfold code_Get.f gv fld
  rw [if_pos (by omega), if_neg (by omega)]
  by_cases h : a.size < m + n
  · rw [if_pos h, if_pos (by omega)]
  · rw [if_neg h, if_neg (by omega)]
    simp
theorem cut_in (a : ByteArray) (hs : a.size ≤ 5000) (m : Nat) (hm : m ≤ a.size) : G.code_Cut.f a (m : Int) = some (cutOf a m) := by
  unfold G.code_Cut.f cutOf
  rw [show code_Get.f a (m : Int) 2 = some (gv a m 2) from get_in a hs m 2 hm (by omega) (by omega), Option.bind_some]
  unfold gv
  by_cases h : a.size < m + 2
  · rw [if_pos h, if_pos h]; rfl
  · rw [if_neg h, if_neg h]
    have hb := fld_bd a m 2 (by omega)
    generalize fld a m 2 = q at *
    obtain ⟨q, rfl⟩ : ∃ n : Nat, q = n := ⟨q.toNat, by omega⟩
    simp only [if_true]
    rw [w64_in _ (by omega), w64_in _ (by omega)]
    by_cases h2 : (a.size : Int) - ((m + 2 : Nat) : Int) < (q : Int)
    · rw [if_pos h2, if_pos h2]
    · rw [if_neg h2, if_neg h2, if_pos (by omega), if_pos (by omega), if_pos (by omega), Int.toNat_natCast]
      rfl
theorem bt_nat (a : ByteArray) (j : Nat) (h : j < a.data.toList.length) : bt a ((j : Nat) : Int) = (a.data.toList[j]).toNat := by
  unfold bt
  rw [dif_pos (by rw [Int.toNat_natCast, Go.Lib.size_eq]; exact h)]
  simp only [Int.toNat_natCast]
  rfl
theorem pow6 {k : Nat} (h : k ≤ 5) : (256 : Int) ^ k ≤ 1099511627776 := by
  match k, h with
  | 0, _ => decide
  | 1, _ => decide
  | 2, _ => decide
  | 3, _ => decide
  | 4, _ => decide
  | 5, _ => decide
theorem rget_l (a : ByteArray) (hs : a.size ≤ 5000) (m n : Nat) (hn : n ≤ 6) (hm : m + n ≤ a.size) : ∀ k i : Nat, i ≤ n → n - i < k →
    peneloperef01_Get.l0 k a m n (numOf ((a.data.toList.drop m).take i)) i = some (fld a m n, ((m + n : Nat) : Int), 0) := by
  intro k
  induction k with
  | zero => intro i _ h; omega
  | succ k ih =>
    intro i hi hk
    rw [peneloperef01_Get.l0]
    by_cases hlt : i < n
    · have hl : i < (a.data.toList.drop m).length := by rw [List.length_drop, ← Go.Lib.size_eq]; omega
      have hb := numOf_bd (a.data.toList.drop m) i (by omega)
      have hp := pow6 (k := i) (by omega)
      have e1 : wrap64 ((m : Int) + (i : Int)) = ((m + i : Nat) : Int) := by rw [w64_in _ (by omega)]; omega
      have hj : m + i < a.data.toList.length := by rw [← Go.Lib.size_eq]; omega
      have hc := (a.data.toList[m + i]).toNat_lt
      have e2 : numOf ((a.data.toList.drop m).take (i + 1)) = numOf ((a.data.toList.drop m).take i) * 256 + (a.data.toList[m + i]).toNat := by
        rw [List.take_succ_eq_append_getElem hl, numOf_snoc, List.getElem_drop]
      rw [if_pos (by omega), e1, if_pos (by omega), if_pos (by omega), bt_nat a (m + i) hj, w64_in (numOf ((a.data.toList.drop m).take i) * 256) (by omega), w64_in ((a.data.toList[m + i]).toNat : Int) (by omega), w64_in (numOf ((a.data.toList.drop m).take i) * 256 + ((a.data.toList[m + i]).toNat : Int)) (by omega), ← e2, w64_in ((i : Int) + 1) (by omega)]
      exact ih (i + 1) (by omega) (by omega)
    · obtain rfl : i = n := by omega
      rw [if_neg (by omega), w64_in _ (by omega)]
      unfold fld
      congr 3
theorem rget (k : Nat) (hk : 9 ≤ k) (a : ByteArray) (hs : a.size ≤ 5000) (m n : Nat) (h1 : 1 ≤ n) (hn : n ≤ 6) (hm : m ≤ a.size) :
    peneloperef01_Get.f k a m n = some (gv a m n) := by
  obtain ⟨k, rfl⟩ : ∃ q, k = q + 1 := ⟨k - 1, by omega⟩
  unfold peneloperef01_Get.f gv
  rw [if_neg (by omega), if_neg (by omega), if_neg (by omega), peneloperef01_Get.j0, if_neg (by simp; omega), w64_in _ (by omega)]
  by_cases h : a.size < m + n
  · rw [if_pos h, if_pos (by omega)]
  · rw [if_neg h, if_neg (by omega)]
    exact rget_l a hs m n hn (by omega) k 0 (by omega) (by omega)
theorem rcut (k : Nat) (hk : 9 ≤ k) (a : ByteArray) (hs : a.size ≤ 5000) (m : Nat) (hm : m ≤ a.size) : peneloperef01_Cut.f k a (m : Int) = some (cutOf a m) := by
  unfold peneloperef01_Cut.f cutOf
  rw [show peneloperef01_Get.f k a (m : Int) 2 = some (gv a m 2) from rget k hk a hs m 2 (by omega) (by omega) hm, Option.bind_some]
  unfold gv
  by_cases h : a.size < m + 2
  · rw [if_pos h, if_pos h]; rfl
  · rw [if_neg h, if_neg h]
    have hb := fld_bd a m 2 (by omega)
    generalize fld a m 2 = q at *
    obtain ⟨q, rfl⟩ : ∃ n : Nat, q = n := ⟨q.toNat, by omega⟩
    simp only [if_true]
    rw [w64_in _ (by omega), w64_in _ (by omega)]
    by_cases h2 : (a.size : Int) - ((m + 2 : Nat) : Int) < (q : Int)
    · rw [if_pos h2, if_pos h2]
    · rw [if_neg h2, if_neg h2, if_pos (by omega), if_pos (by omega), if_pos (by omega), Int.toNat_natCast]
      rfl
/-- A text that is cut off: its place behind lies in the bytes. -/
theorem cut_cases (a : ByteArray) (m : Nat) (hm : m ≤ a.size) : (cutOf a m = (⟨#[]⟩, 0, 3)) ∨ ∃ (t : ByteArray), t.size ≤ 65535 ∧ m + 2 + t.size ≤ a.size ∧ cutOf a m = (t, ((m + 2 + t.size : Nat) : Int), 0) ∧ a.data.toList.drop m = txt t ++ a.data.toList.drop (m + 2 + t.size) := by
  by_cases h : a.size < m + 2
  · left; unfold cutOf; rw [if_pos h]
  have hb := fld_bd a m 2 (by omega)
  by_cases h2 : (a.size : Int) - ((m + 2 : Nat) : Int) < fld a m 2
  · left; unfold cutOf; rw [if_neg h, if_pos h2]
  right
  obtain ⟨q, hq⟩ : ∃ n : Nat, fld a m 2 = n := ⟨(fld a m 2).toNat, by omega⟩
  rw [hq] at hb h2
  have hsz : (a.extract (m + 2) (m + 2 + q)).size = q := by rw [ByteArray.size_extract]; omega
  refine ⟨a.extract (m + 2) (m + 2 + q), by omega, by omega, ?_, ?_⟩
  · unfold cutOf
    rw [if_neg h, hq, if_neg h2, Int.toNat_natCast, hsz]
  · rw [hsz]
    have hl : m + 1 < a.data.toList.length := by rw [← Go.Lib.size_eq]; omega
    have e1 : a.data.toList.drop m = a.data.toList[m] :: a.data.toList[m + 1] :: a.data.toList.drop (m + 2) := by
      rw [List.drop_eq_getElem_cons (by omega), List.drop_eq_getElem_cons hl]
    have e2 : (q : Int) = (a.data.toList[m]).toNat * 256 + (a.data.toList[m + 1]).toNat := by
      rw [← hq]
      unfold fld
      rw [e1]
      simp [numOf]
    have c1 := (a.data.toList[m]).toNat_lt
    have c2 := (a.data.toList[m + 1]).toNat_lt
    have e3 : (a.extract (m + 2) (m + 2 + q)).data.toList = (a.data.toList.drop (m + 2)).take q := by
      rw [ByteArray.data_extract, Array.toList_extract, List.extract_eq_take_drop]
      congr 1; omega
    unfold txt two
    rw [hsz, e3, e1]
    have ub_of : ∀ (c : UInt8) (n : Int), n = c.toNat → ub n = c := by
      rintro c n rfl
      unfold ub
      rw [Int.toNat_natCast]
      exact UInt8.ofNat_toNat
    rw [ub_of a.data.toList[m] _ (by omega), ub_of a.data.toList[m + 1] _ (by omega)]
    simp only [List.cons_append, List.nil_append]
    rw [show a.data.toList.drop (m + 2 + q) = (a.data.toList.drop (m + 2)).drop q from by rw [List.drop_drop], List.take_append_drop]
theorem ub_nat {n : Int} (h0 : 0 ≤ n) (h1 : n < 256) : ((ub n).toNat : Int) = n := by
  unfold ub
  rw [UInt8.toNat_ofNat']
  omega
/-- What is written as a number is read as it. -/
theorem num_back (a : ByteArray) (m : Nat) (n : Int) (rest : List UInt8) (h0 : 0 ≤ n) (h1 : n < 65536) (h : a.data.toList.drop m = two n ++ rest) : m + 2 ≤ a.size ∧ fld a m 2 = n := by
  have hl : (a.data.toList.drop m).length = 2 + rest.length := by rw [h]; simp [two]; omega
  rw [List.length_drop, ← Go.Lib.size_eq] at hl
  refine ⟨by omega, ?_⟩
  unfold fld
  rw [h]
  have e1 := ub_nat (n := n / 256 % 256) (by omega) (by omega)
  have e2 := ub_nat (n := n % 256) (by omega) (by omega)
  simp [two, numOf]
  omega
theorem cut_back (a t : ByteArray) (m : Nat) (rest : List UInt8) (ht : t.size ≤ 65535) (h : a.data.toList.drop m = txt t ++ rest) : m + 2 + t.size ≤ a.size ∧ cutOf a m = (t, ((m + 2 + t.size : Nat) : Int), 0) ∧ a.data.toList.drop (m + 2 + t.size) = rest := by
  have hl : (a.data.toList.drop m).length = t.size + 2 + rest.length := by rw [h, List.length_append, txt_len]
  rw [List.length_drop, ← Go.Lib.size_eq] at hl
  have h2 := num_back a m (t.size : Int) (t.data.toList ++ rest) (by omega) (by omega) (by rw [h]; unfold txt; rw [List.append_assoc])
  have e3 : a.data.toList.drop (m + 2) = t.data.toList ++ rest := by
    rw [← List.drop_drop, h]
    unfold txt two
    simp
  refine ⟨by omega, ?_, ?_⟩
  · unfold cutOf
    rw [if_neg (by omega), h2.2, if_neg (by omega), Int.toNat_natCast]
    congr 1
    have : (a.extract (m + 2) (m + 2 + t.size)).data.toList = t.data.toList := by
      rw [ByteArray.data_extract, Array.toList_extract, List.extract_eq_take_drop, e3, show m + 2 + t.size - (m + 2) = t.data.toList.length by rw [← Go.Lib.size_eq]; omega, List.take_left]
    have := congrArg mkB this
    rwa [mkB_of, mkB_of] at this
  · rw [← List.drop_drop, e3, Go.Lib.size_eq, List.drop_left]
/-- So many keys and values, or the error. -/
def leafS (a : ByteArray) : Nat → Nat → Except Int (Nat × List ByteArray × List ByteArray)
  | 0, m => .ok (m, [], [])
  | c + 1, m => if (cutOf a m).2.2 = 0 then (if (cutOf a (cutOf a m).2.1.toNat).2.2 = 0 then (match leafS a c (cutOf a (cutOf a m).2.1.toNat).2.1.toNat with
      | .ok r => .ok (r.1, (cutOf a m).1 :: r.2.1, (cutOf a (cutOf a m).2.1.toNat).1 :: r.2.2)
      | .error e => .error e) else .error (cutOf a (cutOf a m).2.1.toNat).2.2) else .error (cutOf a m).2.2
/-- So many children and keys. -/
def kidS (a : ByteArray) : Nat → Nat → Except Int (Nat × List ByteArray × List Int)
  | 0, m => .ok (m, [], [])
  | c + 1, m => if (gv a m 2).2.2 = 0 then (if (cutOf a (m + 2)).2.2 = 0 then (match kidS a c (cutOf a (m + 2)).2.1.toNat with
      | .ok r => .ok (r.1, (cutOf a (m + 2)).1 :: r.2.1, fld a m 2 :: r.2.2)
      | .error e => .error e) else .error (cutOf a (m + 2)).2.2) else .error (gv a m 2).2.2
abbrev NodeV := Bool × List ByteArray × List ByteArray × List Int × Int
/-- What is made of what was read to its end. -/
def endV (leaf : Bool) (a : ByteArray) (p : Nat) (K V : List ByteArray) (C : List Int) : NodeV :=
  if p = a.size then (if rightB leaf K V C true = true then (leaf, K, V, C, 0) else (false, [], [], [], 4)) else (false, [], [], [], 4)
theorem end_ok (k : Nat) (hk : 12 ≤ k) (leaf : Bool) (a : ByteArray) (p : Nat) (K V : List ByteArray) (C : List Int) (hv : V.length ≤ 1000) (hc : C.length ≤ 1000) : endG k leaf a (p : Int) 0 K V C = some (endV leaf a p K V C) := by
  unfold endG endV
  rw [if_pos rfl]
  by_cases h : p = a.size
  · rw [if_pos h, if_pos (by omega), node_right_p leaf K V C true hv hc k hk, Option.bind_some]
    cases rightB leaf K V C true <;> simp
  · rw [if_neg h, if_neg (by omega)]
theorem end_bad (k : Nat) (leaf : Bool) (a : ByteArray) (p e : Int) (he : e ≠ 0) (K V : List ByteArray) (C : List Int) : endG k leaf a p e K V C = some (false, [], [], [], e) := by
  unfold endG
  rw [if_neg he]
theorem rend_ok (k : Nat) (hk : 3001 ≤ k) (leaf : Bool) (a : ByteArray) (p : Nat) (K V : List ByteArray) (C : List Int) (hv : V.length ≤ 1000) (hc : C.length ≤ 1000) : peneloperef07_Get.j5 k a (p : Int) 0 leaf K V C = some (endV leaf a p K V C) := by
  obtain ⟨k, rfl⟩ : ∃ q, k = q + 1 := ⟨k - 1, by omega⟩
  unfold endV
  rw [peneloperef07_Get.j5, if_pos rfl]
  by_cases h : p = a.size
  · rw [if_pos h, if_pos (by omega), ref_right_f leaf K V C true hv hc k (by omega), Option.bind_some]
    cases rightB leaf K V C true <;> simp
  · rw [if_neg h, if_neg (by omega)]
theorem rend_bad (k : Nat) (hk : 1 ≤ k) (leaf : Bool) (a : ByteArray) (p e : Int) (he : e ≠ 0) (K V : List ByteArray) (C : List Int) : peneloperef07_Get.j5 k a p e leaf K V C = some (false, [], [], [], e) := by
  obtain ⟨k, rfl⟩ : ∃ q, k = q + 1 := ⟨k - 1, by omega⟩
  rw [peneloperef07_Get.j5, if_neg he]
theorem cut_err (a : ByteArray) (m : Nat) (hm : m ≤ a.size) (h : (cutOf a m).2.2 ≠ 0) : (cutOf a m).2.2 = 3 := by
  rcases cut_cases a m hm with h1 | ⟨t, _, _, h1, _⟩
  · rw [h1]
  · rw [h1] at h; exact absurd rfl h
theorem textR_ok (a : ByteArray) (hs : a.size ≤ 5000) (m : Nat) (hm : m ≤ a.size) : textR a (m : Int) 0 = some (cutOf a m) := by
  unfold textR; rw [if_pos rfl, cut_in a hs m hm]
theorem textR_bad (a : ByteArray) (p e : Int) (he : e ≠ 0) : textR a p e = some (⟨#[]⟩, p, e) := by
  unfold textR; rw [if_neg he]
theorem numberF_ok (a : ByteArray) (hs : a.size ≤ 5000) (m n : Nat) (hm : m ≤ a.size) (h1 : 1 ≤ n) (h6 : n ≤ 6) : numberF a (m : Int) 0 (n : Int) = some (gv a m n) := by
  unfold numberF; rw [if_pos rfl, get_in a hs m n hm h1 h6]
theorem numberF_bad (a : ByteArray) (p e n : Int) (he : e ≠ 0) : numberF a p e n = some (0, p, e) := by
  unfold numberF; rw [if_neg he]
theorem getL_stop (leaf : Bool) (m : Int) (a : ByteArray) (k : Nat) (i p e : Int) (he : e ≠ 0) (K V : List ByteArray) (C : List Int) : getL leaf m a (k + 1) i p e K V C = some (p, e, K, V, C) := by
  rw [getL]
  by_cases h : i < m
  · rw [if_pos h, if_neg he]
  · rw [if_neg h]
/-- The rounds of a leaf, by the code. -/
theorem code_leaf (a : ByteArray) (hs : a.size ≤ 5000) (cnt k0 : Nat) (hcnt : cnt ≤ 255) (hk0 : 12 ≤ k0) : ∀ c i m k, i + c = cnt → m ≤ a.size → c + 2 ≤ k → ∀ K V : List ByteArray, K.length = i → V.length = i →
    ((getL true (cnt : Int) a k (i : Int) (m : Int) 0 K V []).bind fun g => endG k0 true a g.1 g.2.1 g.2.2.1 g.2.2.2.1 g.2.2.2.2) = some (match leafS a c m with | .ok r => endV true a r.1 (K ++ r.2.1) (V ++ r.2.2) [] | .error e => (false, [], [], [], e)) := by
  intro c
  induction c with
  | zero =>
    intro i m k hi hm hk K V hK hV
    obtain ⟨k, rfl⟩ : ∃ q, k = q + 1 := ⟨k - 1, by omega⟩
    rw [getL, if_neg (by omega), Option.bind_some, leafS]
    simp only [List.append_nil]
    exact end_ok k0 hk0 true a m K V [] (by omega) (by simp)
  | succ c ih =>
    intro i m k hi hm hk K V hK hV
    obtain ⟨k, rfl⟩ : ∃ q, k = q + 2 := ⟨k - 2, by omega⟩
    rw [getL, if_pos (by omega), if_pos rfl, if_pos ⟨by omega, by omega, by simp⟩, if_pos rfl, textR_ok a hs m hm, Option.bind_some, leafS]
    rcases cut_cases a m hm with h1 | ⟨t, ht, hp, h1, _⟩
    · rw [h1, if_neg (by simp), textR_bad a _ _ (by simp), Option.bind_some, getL_stop _ _ _ _ _ _ _ (by simp), Option.bind_some]
      exact end_bad k0 true a 0 3 (by simp) _ _ _
    · rw [h1, if_pos rfl]
      simp only
      rw [textR_ok a hs _ hp, Option.bind_some, Int.toNat_natCast]
      rcases cut_cases a _ hp with h2 | ⟨u, hu, hq, h2, _⟩
      · rw [h2, if_neg (by simp), getL_stop _ _ _ _ _ _ _ (by simp), Option.bind_some]
        exact end_bad k0 true a 0 3 (by simp) _ _ _
      · rw [h2, if_pos rfl]
        simp only
        rw [show wrap64 ((i : Int) + 1) = ((i + 1 : Nat) : Int) by rw [w64_in _ (by omega)]; omega, ih (i + 1) _ (k + 1) (by omega) hq (by omega) (K ++ [t]) (V ++ [u]) (by rw [List.length_append, hK]; rfl) (by rw [List.length_append, hV]; rfl), Int.toNat_natCast]
        cases leafS a c (m + 2 + t.size + 2 + u.size) with
        | ok r => simp [List.append_assoc]
        | error e => rfl
/-- The rounds of a leaf, by the reference. -/
theorem ref_leaf (a : ByteArray) (hs : a.size ≤ 5000) (cnt : Nat) (hcnt : cnt ≤ 255) : ∀ c i m k, i + c = cnt → m ≤ a.size → 3 * c + 3100 ≤ k → ∀ K V : List ByteArray, K.length = i → V.length = i →
    peneloperef07_Get.l0 k 1 a (cnt : Int) (m : Int) 0 (i : Int) true K V [] = some (match leafS a c m with | .ok r => endV true a r.1 (K ++ r.2.1) (V ++ r.2.2) [] | .error e => (false, [], [], [], e)) := by
  intro c
  induction c with
  | zero =>
    intro i m k hi hm hk K V hK hV
    obtain ⟨k, rfl⟩ : ∃ q, k = q + 3 := ⟨k - 3, by omega⟩
    rw [peneloperef07_Get.l0, if_neg (by omega), peneloperef07_Get.j2, if_neg (by simp), if_neg (by omega), peneloperef07_Get.j4, if_neg (by simp), leafS]
    simp only [List.append_nil]
    exact rend_ok k (by omega) true a m K V [] (by omega) (by simp)
  | succ c ih =>
    intro i m k hi hm hk K V hK hV
    obtain ⟨k, rfl⟩ : ∃ q, k = q + 3 := ⟨k - 3, by omega⟩
    rw [peneloperef07_Get.l0, if_pos (by omega), peneloperef07_Get.j2, if_pos (by simp), if_neg (by omega), peneloperef07_Get.j3, rcut k (by omega) a hs m hm, Option.bind_some, leafS]
    rcases cut_cases a m hm with h1 | ⟨t, ht, hp, h1, _⟩
    · rw [h1, if_neg (by simp), if_neg (by simp)]
    · rw [h1, if_pos rfl, if_pos rfl, if_pos (by omega), Option.bind_some, if_pos rfl]
      simp only
      rw [rcut k (by omega) a hs _ hp, Option.bind_some, Int.toNat_natCast]
      rcases cut_cases a _ hp with h2 | ⟨u, hu, hq, h2, _⟩
      · rw [h2, if_neg (by simp), if_neg (by simp)]
      · rw [h2, if_pos rfl, if_pos rfl, if_pos (by omega)]
        simp only
        rw [show wrap64 ((i : Int) + 1) = ((i + 1 : Nat) : Int) by rw [w64_in _ (by omega)]; omega, ih (i + 1) _ k (by omega) hq (by omega) (K ++ [t]) (V ++ [u]) (by rw [List.length_append, hK]; rfl) (by rw [List.length_append, hV]; rfl), Int.toNat_natCast]
        cases leafS a c (m + 2 + t.size + 2 + u.size) with
        | ok r => simp [List.append_assoc]
        | error e => rfl
/-- An inner node's end: one child more. -/
def kidV (a : ByteArray) (p : Nat) (K : List ByteArray) (C : List Int) : NodeV :=
  if (gv a p 2).2.2 = 0 then endV false a (p + 2) K [] (C ++ [fld a p 2]) else (false, [], [], [], (gv a p 2).2.2)
theorem gv_cases (a : ByteArray) (m n : Nat) : gv a m n = (0, 0, 3) ∨ (m + n ≤ a.size ∧ gv a m n = (fld a m n, ((m + n : Nat) : Int), 0)) := by
  unfold gv
  by_cases h : a.size < m + n
  · left; rw [if_pos h]
  · right; rw [if_neg h]; exact ⟨by omega, rfl⟩
theorem code_kid (a : ByteArray) (hs : a.size ≤ 5000) (cnt k0 : Nat) (hcnt : cnt ≤ 255) (hk0 : 12 ≤ k0) : ∀ c i m k, i + c = cnt → m ≤ a.size → c + 2 ≤ k → ∀ (K : List ByteArray) (C : List Int), K.length = i → C.length = i →
    ((getL false (cnt : Int) a k (i : Int) (m : Int) 0 K [] C).bind fun g => if g.2.2.2.2.length < 1000000 then (numberF a g.1 g.2.1 2).bind fun d => endG k0 false a d.2.1 d.2.2 g.2.2.1 g.2.2.2.1 (g.2.2.2.2 ++ [d.1]) else none) = some (match kidS a c m with | .ok r => kidV a r.1 (K ++ r.2.1) (C ++ r.2.2) | .error e => (false, [], [], [], e)) := by
  intro c
  induction c with
  | zero =>
    intro i m k hi hm hk K C hK hC
    obtain ⟨k, rfl⟩ : ∃ q, k = q + 1 := ⟨k - 1, by omega⟩
    rw [getL, if_neg (by omega), Option.bind_some, kidS]
    simp only [List.append_nil]
    rw [if_pos (by omega), show numberF a (m : Int) 0 2 = some (gv a m 2) from numberF_ok a hs m 2 hm (by omega) (by omega), Option.bind_some]
    unfold kidV
    rcases gv_cases a m 2 with h1 | ⟨hp, h1⟩
    · rw [h1, if_neg (by simp)]
      exact end_bad k0 false a 0 3 (by simp) _ _ _
    · rw [h1, if_pos rfl]
      exact end_ok k0 hk0 false a (m + 2) K [] _ (by simp) (by rw [List.length_append]; simp; omega)
  | succ c ih =>
    intro i m k hi hm hk K C hK hC
    obtain ⟨k, rfl⟩ : ∃ q, k = q + 2 := ⟨k - 2, by omega⟩
    rw [getL, if_pos (by omega), if_pos rfl, if_pos ⟨by omega, by simp, by omega⟩, if_neg (by simp), show numberF a (m : Int) 0 2 = some (gv a m 2) from numberF_ok a hs m 2 hm (by omega) (by omega), Option.bind_some, kidS]
    rcases gv_cases a m 2 with h1 | ⟨hp, h1⟩
    · rw [h1, if_neg (by simp), textR_bad a _ _ (by simp), Option.bind_some, getL_stop _ _ _ _ _ _ _ (by simp), Option.bind_some]
      simp only
      rw [if_pos (by rw [List.length_append]; simp; omega), numberF_bad a _ _ _ (by simp), Option.bind_some]
      exact end_bad k0 false a 0 3 (by simp) _ _ _
    · rw [h1, if_pos rfl]
      simp only
      rw [textR_ok a hs _ hp, Option.bind_some]
      rcases cut_cases a _ hp with h2 | ⟨u, hu, hq, h2, _⟩
      · rw [h2, if_neg (by simp), getL_stop _ _ _ _ _ _ _ (by simp), Option.bind_some]
        simp only
        rw [if_pos (by rw [List.length_append]; simp; omega), numberF_bad a _ _ _ (by simp), Option.bind_some]
        exact end_bad k0 false a 0 3 (by simp) _ _ _
      · rw [h2, if_pos rfl]
        simp only
        rw [show wrap64 ((i : Int) + 1) = ((i + 1 : Nat) : Int) by rw [w64_in _ (by omega)]; omega, ih (i + 1) _ (k + 1) (by omega) hq (by omega) (K ++ [u]) (C ++ [fld a m 2]) (by rw [List.length_append, hK]; rfl) (by rw [List.length_append, hC]; rfl), Int.toNat_natCast]
        cases kidS a c (m + 2 + 2 + u.size) with
        | ok r => simp [List.append_assoc]
        | error e => rfl
theorem ref_kid (a : ByteArray) (hs : a.size ≤ 5000) (cnt : Nat) (hcnt : cnt ≤ 255) : ∀ c i m k, i + c = cnt → m ≤ a.size → 3 * c + 3100 ≤ k → ∀ (K : List ByteArray) (C : List Int), K.length = i → C.length = i →
    peneloperef07_Get.l0 k 2 a (cnt : Int) (m : Int) 0 (i : Int) false K [] C = some (match kidS a c m with | .ok r => kidV a r.1 (K ++ r.2.1) (C ++ r.2.2) | .error e => (false, [], [], [], e)) := by
  intro c
  induction c with
  | zero =>
    intro i m k hi hm hk K C hK hC
    obtain ⟨k, rfl⟩ : ∃ q, k = q + 3 := ⟨k - 3, by omega⟩
    rw [peneloperef07_Get.l0, if_neg (by omega), peneloperef07_Get.j2, if_neg (by simp), if_pos rfl, peneloperef07_Get.j4, if_pos (by simp), show peneloperef01_Get.f k a (m : Int) 2 = some (gv a m 2) from rget k (by omega) a hs m 2 (by omega) (by omega) hm, Option.bind_some, if_pos (by omega), kidS]
    simp only [List.append_nil]
    unfold kidV
    rcases gv_cases a m 2 with h1 | ⟨hp, h1⟩
    · rw [h1, if_neg (by simp)]
      exact rend_bad k (by omega) false a 0 3 (by simp) _ _ _
    · rw [h1, if_pos rfl]
      exact rend_ok k (by omega) false a (m + 2) K [] _ (by simp) (by rw [List.length_append]; simp; omega)
  | succ c ih =>
    intro i m k hi hm hk K C hK hC
    obtain ⟨k, rfl⟩ : ∃ q, k = q + 3 := ⟨k - 3, by omega⟩
    rw [peneloperef07_Get.l0, if_pos (by omega), peneloperef07_Get.j2, if_pos (by simp), if_pos rfl, show peneloperef01_Get.f (k + 1) a (m : Int) 2 = some (gv a m 2) from rget (k + 1) (by omega) a hs m 2 (by omega) (by omega) hm, Option.bind_some, kidS]
    rcases gv_cases a m 2 with h1 | ⟨hp, h1⟩
    · rw [h1, if_neg (by simp), if_neg (by simp)]
    · rw [h1, if_pos rfl, if_pos rfl, if_pos (by omega), peneloperef07_Get.j3]
      simp only
      rw [rcut k (by omega) a hs _ hp, Option.bind_some]
      rcases cut_cases a _ hp with h2 | ⟨u, hu, hq, h2, _⟩
      · rw [h2, if_neg (by simp), if_neg (by simp)]
      · rw [h2, if_pos rfl, if_pos rfl, if_pos (by omega), Option.bind_some, if_neg (by omega)]
        simp only
        rw [show wrap64 ((i : Int) + 1) = ((i + 1 : Nat) : Int) by rw [w64_in _ (by omega)]; omega, ih (i + 1) _ k (by omega) hq (by omega) (K ++ [u]) (C ++ [fld a m 2]) (by rw [List.length_append, hK]; rfl) (by rw [List.length_append, hC]; rfl), Int.toNat_natCast]
        cases kidS a c (m + 2 + 2 + u.size) with
        | ok r => simp [List.append_assoc]
        | error e => rfl
/-- What bytes are read as. -/
def readV (kind : Int) (a : ByteArray) : NodeV :=
  if kind = 1 then (if (gv a 0 1).2.2 = 0 then (match leafS a (fld a 0 1).toNat 1 with | .ok r => endV true a r.1 r.2.1 r.2.2 [] | .error e => (false, [], [], [], e)) else (false, [], [], [], 3))
  else if kind = 2 then (if (gv a 0 1).2.2 = 0 then (match kidS a (fld a 0 1).toNat 1 with | .ok r => kidV a r.1 r.2.1 r.2.2 | .error e => (false, [], [], [], e)) else (false, [], [], [], 3))
  else (false, [], [], [], 81)
theorem first_bd (a : ByteArray) (h : 0 + 1 ≤ a.size) : ∃ n : Nat, fld a 0 1 = n ∧ n ≤ 255 := by
  have := fld_bd a 0 1 h
  exact ⟨(fld a 0 1).toNat, by omega, by omega⟩
theorem node_get_f (k : Nat) (hk : 400 ≤ k) (kind : Int) (a : ByteArray) (hs : a.size ≤ 5000) : node_Get.f k kind a = some (readV kind a) := by
  unfold node_Get.f readV
  obtain ⟨k1, rfl⟩ : ∃ q, k = q + 1 := ⟨k - 1, by omega⟩
  have hn : numberF a 0 0 1 = some (gv a 0 1) := numberF_ok a hs 0 1 (by omega) (by omega) (by omega)
  by_cases h1 : kind = 1
  · rw [if_pos h1, if_pos h1, hn, Option.bind_some]
    rcases gv_cases a 0 1 with h2 | ⟨hp, h2⟩
    · rw [h2, if_neg (by simp), getL_stop _ _ _ _ _ _ _ (by simp), Option.bind_some]
      exact end_bad _ true a 0 3 (by simp) _ _ _
    · obtain ⟨n, hf, hn2⟩ := first_bd a hp
      rw [h2, if_pos rfl, hf, Int.toNat_natCast]
      have := code_leaf a hs n (k1 + 1) hn2 (by omega) n 0 1 (k1 + 1) (by omega) hp (by omega) [] [] rfl rfl
      simpa using this
  rw [if_neg h1, if_neg h1]
  by_cases h3 : kind = 2
  · rw [if_pos h3, if_pos h3, hn, Option.bind_some]
    rcases gv_cases a 0 1 with h2 | ⟨hp, h2⟩
    · rw [h2, if_neg (by simp), getL_stop _ _ _ _ _ _ _ (by simp), Option.bind_some]
      simp only
      rw [if_pos (by simp), numberF_bad a _ _ _ (by simp), Option.bind_some]
      exact end_bad _ false a 0 3 (by simp) _ _ _
    · obtain ⟨n, hf, hn2⟩ := first_bd a hp
      rw [h2, if_pos rfl, hf, Int.toNat_natCast]
      have := code_kid a hs n (k1 + 1) hn2 (by omega) n 0 1 (k1 + 1) (by omega) hp (by omega) [] [] rfl rfl
      simpa using this
  · rw [if_neg h3, if_neg h3]
theorem ref_get_f (k : Nat) (hk : 4000 ≤ k) (kind : Int) (a : ByteArray) (hs : a.size ≤ 5000) : peneloperef07_Get.f k kind a = some (readV kind a) := by
  unfold peneloperef07_Get.f readV
  obtain ⟨k, rfl⟩ : ∃ q, k = q + 4 := ⟨k - 4, by omega⟩
  have hn : peneloperef01_Get.f (k + 3) a 0 1 = some (gv a 0 1) := rget (k + 3) (by omega) a hs 0 1 (by omega) (by omega) (by omega)
  by_cases h1 : kind = 1
  · subst h1
    rw [if_pos rfl, if_pos rfl, peneloperef07_Get.j0, if_neg (by simp), hn, Option.bind_some]
    rcases gv_cases a 0 1 with h2 | ⟨hp, h2⟩
    · rw [h2, if_neg (by simp), peneloperef07_Get.l0, if_neg (by simp), peneloperef07_Get.j2, if_neg (by simp), if_neg (by omega), peneloperef07_Get.j4, if_neg (by simp)]
      exact rend_bad _ (by omega) _ a 0 3 (by simp) _ _ _
    · obtain ⟨n, hf, hn2⟩ := first_bd a hp
      rw [h2, if_pos rfl, hf, Int.toNat_natCast]
      have := ref_leaf a hs n hn2 n 0 1 (k + 3) (by omega) hp (by omega) [] [] rfl rfl
      simpa using this
  rw [if_neg h1, if_neg h1]
  by_cases h3 : kind = 2
  · subst h3
    rw [if_pos rfl, peneloperef07_Get.j0, if_neg (by simp), hn, Option.bind_some]
    rcases gv_cases a 0 1 with h2 | ⟨hp, h2⟩
    · rw [h2, if_neg (by simp), peneloperef07_Get.l0, if_neg (by simp), peneloperef07_Get.j2, if_neg (by simp), if_pos rfl, peneloperef07_Get.j4, if_neg (by simp)]
      exact rend_bad _ (by omega) _ a 0 3 (by simp) _ _ _
    · obtain ⟨n, hf, hn2⟩ := first_bd a hp
      rw [h2, if_pos rfl, hf, Int.toNat_natCast]
      have := ref_kid a hs n hn2 n 0 1 (k + 3) (by omega) hp (by omega) [] [] rfl rfl
      simpa using this
  · rw [if_neg h3, peneloperef07_Get.j0, if_pos (by simpa using h3)]
/-- A node is like itself. -/
theorem same_l (x : List ByteArray) (hx : x.length ≤ 1000) : ∀ m i k, i + m = x.length → m + 1 ≤ k → peneloperef07_same.l0 k x x (x.length : Int) (i : Int) = some true := by
  intro m
  induction m with
  | zero =>
    intro i k hi hk
    obtain ⟨k, rfl⟩ : ∃ q, k = q + 1 := ⟨k - 1, by omega⟩
    rw [peneloperef07_same.l0, if_neg (by omega)]
  | succ m ih =>
    intro i k hi hk
    obtain ⟨k, rfl⟩ : ∃ q, k = q + 1 := ⟨k - 1, by omega⟩
    rw [peneloperef07_same.l0, if_pos (by omega), if_pos (by omega), if_pos (by omega), if_pos (by omega), if_pos rfl, show wrap64 ((i : Int) + 1) = ((i + 1 : Nat) : Int) by rw [w64_in _ (by omega)]; omega, ih (i + 1) k (by omega) (by omega)]
theorem same_self (k : Nat) (hk : 1002 ≤ k) (x : List ByteArray) (hx : x.length ≤ 1000) : peneloperef07_same.f k x x = some true := by
  unfold peneloperef07_same.f
  rw [if_pos rfl, show (0 : Int) = ((0 : Nat) : Int) from rfl, same_l x hx x.length 0 k (by omega) (by omega)]
theorem like_l (l : Bool) (K V : List ByteArray) (C : List Int) (hx : C.length ≤ 1000) : ∀ m i k, i + m = C.length → m + 1 ≤ k → peneloperef07_Like.l0 k (C.length : Int) (i : Int) l K V C l K V C = some true := by
  intro m
  induction m with
  | zero =>
    intro i k hi hk
    obtain ⟨k, rfl⟩ : ∃ q, k = q + 1 := ⟨k - 1, by omega⟩
    rw [peneloperef07_Like.l0, if_neg (by omega)]
  | succ m ih =>
    intro i k hi hk
    obtain ⟨k, rfl⟩ : ∃ q, k = q + 1 := ⟨k - 1, by omega⟩
    rw [peneloperef07_Like.l0, if_pos (by omega), if_pos (by omega), if_pos (by omega), if_pos (by omega), if_pos rfl, show wrap64 ((i : Int) + 1) = ((i + 1 : Nat) : Int) by rw [w64_in _ (by omega)]; omega, ih (i + 1) k (by omega) (by omega)]
theorem like_self (k : Nat) (hk : 2000 ≤ k) (l : Bool) (K V : List ByteArray) (C : List Int) (h1 : K.length ≤ 1000) (h2 : V.length ≤ 1000) (h3 : C.length ≤ 1000) : peneloperef07_Like.f k l K V C l K V C = some true := by
  obtain ⟨k, rfl⟩ : ∃ q, k = q + 1 := ⟨k - 1, by omega⟩
  unfold peneloperef07_Like.f
  rw [if_neg (by simp), same_self (k + 1) (by omega) K h1, Option.bind_some, if_pos rfl, same_self (k + 1) (by omega) V h2, Option.bind_some, if_pos rfl, peneloperef07_Like.j0, if_neg (by simp), show (0 : Int) = ((0 : Nat) : Int) from rfl]
  exact like_l l K V C h3 C.length 0 k (by omega) (by omega)
/-- How much is read at most. -/
theorem leaf_len (a : ByteArray) : ∀ c m r, leafS a c m = .ok r → r.2.1.length = c ∧ r.2.2.length = c
  | 0, m, r, h => by simp only [leafS, Except.ok.injEq] at h; subst h; simp
  | c + 1, m, r, h => by
    rw [leafS] at h
    split at h
    · split at h
      · split at h
        · rename_i r' hr
          simp only [Except.ok.injEq] at h
          obtain ⟨q1, q2⟩ := leaf_len a c _ r' hr
          subst h
          simp [q1, q2]
        · cases h
      · cases h
    · cases h
theorem kid_len (a : ByteArray) : ∀ c m r, kidS a c m = .ok r → r.2.1.length = c ∧ r.2.2.length = c
  | 0, m, r, h => by simp only [kidS, Except.ok.injEq] at h; subst h; simp
  | c + 1, m, r, h => by
    rw [kidS] at h
    split at h
    · split at h
      · split at h
        · rename_i r' hr
          simp only [Except.ok.injEq] at h
          obtain ⟨q1, q2⟩ := kid_len a c _ r' hr
          subst h
          simp [q1, q2]
        · cases h
      · cases h
    · cases h
/-- What is read is nothing, or a node that may be. -/
theorem read_cases (kind : Int) (a : ByteArray) : (∃ e, e ≠ 0 ∧ readV kind a = (false, [], [], [], e)) ∨ ∃ leaf K V C, readV kind a = (leaf, K, V, C, 0) ∧ rightB leaf K V C true = true ∧ K.length ≤ 255 ∧ V.length ≤ 255 ∧ C.length ≤ 256 := by
  have hend : ∀ leaf p K V C, K.length ≤ 255 → V.length ≤ 255 → C.length ≤ 256 → (∃ e, e ≠ 0 ∧ endV leaf a p K V C = (false, [], [], [], e)) ∨ ∃ leaf' K' V' C', endV leaf a p K V C = (leaf', K', V', C', 0) ∧ rightB leaf' K' V' C' true = true ∧ K'.length ≤ 255 ∧ V'.length ≤ 255 ∧ C'.length ≤ 256 := by
    intro leaf p K V C h1 h2 h3
    unfold endV
    split
    · split
      · rename_i hr; exact .inr ⟨leaf, K, V, C, rfl, hr, h1, h2, h3⟩
      · exact .inl ⟨4, by simp, rfl⟩
    · exact .inl ⟨4, by simp, rfl⟩
  unfold readV
  by_cases h1 : kind = 1
  · rw [if_pos h1]
    rcases gv_cases a 0 1 with h2 | ⟨hp, h2⟩
    · rw [h2, if_neg (by simp)]; exact .inl ⟨3, by simp, rfl⟩
    · obtain ⟨n, hf, hn2⟩ := first_bd a hp
      rw [h2, if_pos rfl, hf, Int.toNat_natCast]
      have he := leaf_len a n 1
      have herr : ∀ c m e, m ≤ a.size → leafS a c m = .error e → e ≠ 0 := by
        intro c
        induction c with
        | zero => intro m e _ h; simp [leafS] at h
        | succ c ih =>
          intro m e hm h
          rw [leafS] at h
          rcases cut_cases a m hm with g1 | ⟨t, ht, gp, g1, _⟩
          · rw [g1, if_neg (by simp)] at h; simp only [Except.error.injEq] at h; omega
          · rw [g1, if_pos rfl] at h
            simp only [Int.toNat_natCast] at h
            rcases cut_cases a _ gp with g2 | ⟨u, hu, gq, g2, _⟩
            · rw [g2, if_neg (by simp)] at h; simp only [Except.error.injEq] at h; omega
            · rw [g2, if_pos rfl] at h
              simp only [Int.toNat_natCast] at h
              split at h
              · cases h
              · rename_i e' he'; simp only [Except.error.injEq] at h; subst h; exact ih _ _ gq he'
      cases hl : leafS a n 1 with
      | ok r => have := he r hl; exact hend true r.1 r.2.1 r.2.2 [] (by omega) (by omega) (by simp)
      | error e => exact .inl ⟨e, herr n 1 e (by omega) hl, rfl⟩
  rw [if_neg h1]
  by_cases h3 : kind = 2
  · rw [if_pos h3]
    rcases gv_cases a 0 1 with h2 | ⟨hp, h2⟩
    · rw [h2, if_neg (by simp)]; exact .inl ⟨3, by simp, rfl⟩
    · obtain ⟨n, hf, hn2⟩ := first_bd a hp
      rw [h2, if_pos rfl, hf, Int.toNat_natCast]
      have he := kid_len a n 1
      have herr : ∀ c m e, m ≤ a.size → kidS a c m = .error e → e ≠ 0 := by
        intro c
        induction c with
        | zero => intro m e _ h; simp [kidS] at h
        | succ c ih =>
          intro m e hm h
          rw [kidS] at h
          rcases gv_cases a m 2 with g1 | ⟨gp, g1⟩
          · rw [g1, if_neg (by simp)] at h; simp only [Except.error.injEq] at h; omega
          · rw [g1, if_pos rfl] at h
            rcases cut_cases a _ gp with g2 | ⟨u, hu, gq, g2, _⟩
            · rw [g2, if_neg (by simp)] at h; simp only [Except.error.injEq] at h; omega
            · rw [g2, if_pos rfl] at h
              simp only [Int.toNat_natCast] at h
              split at h
              · cases h
              · rename_i e' he'; simp only [Except.error.injEq] at h; subst h; exact ih _ _ gq he'
      cases hl : kidS a n 1 with
      | ok r =>
        have := he r hl
        simp only
        unfold kidV
        rcases gv_cases a r.1 2 with g1 | ⟨gp, g1⟩
        · rw [g1, if_neg (by simp)]; exact .inl ⟨3, by simp, rfl⟩
        · rw [g1, if_pos rfl]
          exact hend false (r.1 + 2) r.2.1 [] _ (by omega) (by simp) (by rw [List.length_append]; simp; omega)
      | error e => exact .inl ⟨e, herr n 1 e (by omega) hl, rfl⟩
  · rw [if_neg h3]; exact .inl ⟨81, by simp, rfl⟩
theorem cut5000 (a : ByteArray) : 0 ≤ mn (a.size : Int) 5000 ∧ mn (a.size : Int) 5000 ≤ a.size ∧ (a.extract 0 (mn (a.size : Int) 5000).toNat).size ≤ 5000 := by
  have : 0 ≤ mn (a.size : Int) 5000 ∧ mn (a.size : Int) 5000 ≤ a.size ∧ mn (a.size : Int) 5000 ≤ 5000 := by unfold mn; split <;> omega
  refine ⟨this.1, this.2.1, ?_⟩
  rw [ByteArray.size_extract]
  omega
end Go.Proofs.Ytmnkabdaapiikaa.Pure
