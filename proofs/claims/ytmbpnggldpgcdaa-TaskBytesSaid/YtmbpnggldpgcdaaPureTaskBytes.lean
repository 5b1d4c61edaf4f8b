/- TaskBytes: any state is written as just those bytes, any bytes are read as just that state, or refused, as the document says. -/
import Derived.Test.YtmbpnggldpgcdaaSayTaskBytes
import Derived.OpenShut
import Derived.Lib.Strings
import Derived.Laws.BytesArg
namespace Go.Proofs.Ytmbpnggldpgcdaa.Pure
open Go.RowKit Go.Proofs.Ytmbpnggldpgcdaa.B Go.Proofs.YtmbpnggldpgcdaaW.PrintWords Go.Proofs.YtmbpnggldpgcdaaW.PrintLast Go.Proofs.YtmbpnggldpgcdaaW.PrintMore

/-- What may stand. -/
def StandsP (is tried due tok : Int) (res : ByteArray) : Prop :=
  0 ≤ is ∧ is ≤ 5 ∧ 0 ≤ tried ∧ tried ≤ 8 ∧ 0 ≤ due ∧ due ≤ 1099511627776 ∧ 0 ≤ tok ∧ tok ≤ 1099511627776 ∧ (tok > 0 ↔ is = 2) ∧ res.size ≤ 16 ∧ (res.data.toList = [] ∨ is = 3)
instance (is tried due tok : Int) (res : ByteArray) : Decidable (StandsP is tried due tok res) := by unfold StandsP; infer_instance

theorem ofNot {p : Prop} [Decidable p] (h : ¬ p) : some false = some (decide p) := by rw [decide_eq_false h]
theorem ofYes {p : Prop} [Decidable p] (h : p) : some true = some (decide p) := by rw [decide_eq_true h]
theorem ofIff {b : Bool} {p : Prop} [Decidable p] (h : b = true ↔ p) : some b = some (decide p) := by
  congr 1
  by_cases hp : p
  · rw [decide_eq_true hp, h.2 hp]
  · rw [decide_eq_false hp]
    exact Bool.eq_false_iff.2 (fun e => hp (h.1 e))
theorem stands_f (k : Nat) (hk : 1 ≤ k) (is tried due tok : Int) (res : ByteArray) : task_stands.f k is tried due tok res = some (decide (StandsP is tried due tok res)) := by
  obtain ⟨k, rfl⟩ : ∃ m, k = m + 1 := ⟨k - 1, by omega⟩
  unfold task_stands.f
  by_cases h1 : is < 0
  · rw [if_pos h1]; simp only [task_stands.j0, if_true]; exact ofNot (by unfold StandsP; omega)
  rw [if_neg h1]
  by_cases h2 : is > 5
  · rw [if_pos h2]; simp only [task_stands.j0, if_true]; exact ofNot (by unfold StandsP; omega)
  rw [if_neg h2]
  by_cases h3 : tried < 0
  · rw [if_pos h3]; simp only [task_stands.j0, if_true]; exact ofNot (by unfold StandsP; omega)
  rw [if_neg h3]
  by_cases h4 : tried > 8
  · rw [if_pos h4]; simp only [task_stands.j0, if_true]; exact ofNot (by unfold StandsP; omega)
  rw [if_neg h4]
  by_cases h5 : due < 0
  · rw [if_pos h5]; simp only [task_stands.j0, if_true]; exact ofNot (by unfold StandsP; omega)
  rw [if_neg h5]
  simp only [task_stands.j0]
  by_cases h6 : due > 1099511627776
  · rw [if_pos (decide_eq_true h6)]; exact ofNot (by unfold StandsP; omega)
  rw [if_neg (by simpa using h6)]
  by_cases h7 : tok < 0
  · rw [if_pos h7]; exact ofNot (by unfold StandsP; omega)
  rw [if_neg h7]
  by_cases h8 : tok > 1099511627776
  · rw [if_pos h8]; exact ofNot (by unfold StandsP; omega)
  rw [if_neg h8]
  by_cases h9 : tok > 0 ↔ is = 2
  · have e9 : ¬ ((decide (tok > 0) != (is == 2)) = true) := by
      by_cases a : tok > 0 <;> by_cases b : is = 2 <;> simp [a, b] <;> omega
    rw [if_neg e9]
    by_cases h10 : (res.size : Int) ≤ 16
    · rw [if_pos h10]
      by_cases h11 : res.data.toList = []
      · rw [if_pos (by rw [Go.Lib.toList_data]; exact h11)]
        exact ofYes ⟨by omega, by omega, by omega, by omega, by omega, by omega, by omega, by omega, h9, by omega, .inl h11⟩
      · rw [if_neg (by rw [Go.Lib.toList_data]; exact h11)]
        exact ofIff ⟨fun e => ⟨by omega, by omega, by omega, by omega, by omega, by omega, by omega, by omega, h9, by omega, .inr (by simpa using e)⟩, fun e => by
          obtain ⟨_, _, _, _, _, _, _, _, _, _, e⟩ := e
          rcases e with e | e
          · exact absurd e h11
          · simpa using e⟩
    · rw [if_neg h10]; exact ofNot (by unfold StandsP; omega)
  · have e9 : ((decide (tok > 0) != (is == 2)) = true) := by
      by_cases a : tok > 0 <;> by_cases b : is = 2 <;> simp [a, b] <;> omega
    rw [if_pos e9]; exact ofNot (by unfold StandsP; omega)
theorem ref_stands_f (k : Nat) (hk : 1 ≤ k) (is tried due tok : Int) (res : ByteArray) : peneloperef18_Stands.f k is tried due tok res = some (decide (StandsP is tried due tok res)) := by
  obtain ⟨k, rfl⟩ : ∃ m, k = m + 1 := ⟨k - 1, by omega⟩
  unfold peneloperef18_Stands.f
  by_cases h1 : is < 0
  · rw [if_pos h1]; simp only [peneloperef18_Stands.j0, if_true]; exact ofNot (by unfold StandsP; omega)
  rw [if_neg h1]
  by_cases h2 : is > 5
  · rw [if_pos h2]; simp only [peneloperef18_Stands.j0, if_true]; exact ofNot (by unfold StandsP; omega)
  rw [if_neg h2]
  by_cases h3 : tried < 0
  · rw [if_pos h3]; simp only [peneloperef18_Stands.j0, if_true]; exact ofNot (by unfold StandsP; omega)
  rw [if_neg h3]
  by_cases h4 : tried > 8
  · rw [if_pos h4]; simp only [peneloperef18_Stands.j0, if_true]; exact ofNot (by unfold StandsP; omega)
  rw [if_neg h4]
  by_cases h5 : due < 0
  · rw [if_pos h5]; simp only [peneloperef18_Stands.j0, if_true]; exact ofNot (by unfold StandsP; omega)
  rw [if_neg h5]
  by_cases h6 : due > 1099511627776
  · rw [if_pos h6]; simp only [peneloperef18_Stands.j0, if_true]; exact ofNot (by unfold StandsP; omega)
  rw [if_neg h6]
  by_cases h7 : tok > 1099511627776
  · rw [if_pos h7]; simp only [peneloperef18_Stands.j0, if_true]; exact ofNot (by unfold StandsP; omega)
  rw [if_neg h7]
  simp only [peneloperef18_Stands.j0]
  by_cases h8 : (res.size : Int) > 16
  · rw [if_pos (decide_eq_true h8)]; exact ofNot (by unfold StandsP; omega)
  rw [if_neg (by simpa using h8)]
  by_cases i2 : is = 2
  · rw [if_pos i2]
    by_cases h9 : tok < 1
    · rw [if_pos h9]; exact ofNot (by unfold StandsP; omega)
    · rw [if_neg h9, if_neg (by omega)]
      refine ofIff ?_
      simp only [Go.Lib.toList_data, beq_iff_eq]
      constructor
      · intro h; exact ⟨by omega, by omega, by omega, by omega, by omega, by omega, by omega, by omega, by omega, by omega, .inl h⟩
      · rintro ⟨_, _, _, _, _, _, _, _, _, _, h | h⟩
        · exact h
        · omega
  · rw [if_neg i2]
    by_cases h9 : tok = 0
    · rw [if_pos h9]
      by_cases i3 : is = 3
      · rw [if_pos i3]
        exact ofYes ⟨by omega, by omega, by omega, by omega, by omega, by omega, by omega, by omega, by omega, by omega, .inr i3⟩
      · rw [if_neg i3]
        refine ofIff ?_
        simp only [Go.Lib.toList_data, beq_iff_eq]
        constructor
        · intro h; exact ⟨by omega, by omega, by omega, by omega, by omega, by omega, by omega, by omega, by omega, by omega, .inl h⟩
        · rintro ⟨_, _, _, _, _, _, _, _, _, _, h | h⟩
          · exact h
          · omega
    · rw [if_neg h9]; exact ofNot (by unfold StandsP; omega)
/-- Numbers as bytes: what code.Put comes to. -/
theorem put1 (k : Nat) (hk : 4 ≤ k) {n : Int} (h0 : 0 ≤ n) (h1 : n < 256) : code_Put.f k n 1 = some (strOfNums [n % 256], 0) := by
  obtain ⟨k, rfl⟩ : ∃ m, k = m + 4 := ⟨k - 4, by omega⟩
  have e : n / 256 = 0 := by omega
  unfold code_Put.f
  rw [if_neg (by omega), if_neg (by omega), if_neg (by omega)]
  simp [code_Put.j0, code_Put.l0, wrap64, shr, e, IntKind.bits]
theorem put2 (k : Nat) (hk : 5 ≤ k) {n : Int} (h0 : 0 ≤ n) (h1 : n < 65536) : code_Put.f k n 2 = some (strOfNums [n / 256 % 256, n % 256], 0) := by
  obtain ⟨k, rfl⟩ : ∃ m, k = m + 5 := ⟨k - 5, by omega⟩
  have e : n / 65536 = 0 := by omega
  unfold code_Put.f
  rw [if_neg (by omega), if_neg (by omega), if_neg (by omega)]
  simp [code_Put.j0, code_Put.l0, wrap64, shr, e, IntKind.bits, List.replicate]
theorem put6 (k : Nat) (hk : 9 ≤ k) {n : Int} (h0 : 0 ≤ n) (h1 : n < 281474976710656) : code_Put.f k n 6 = some (strOfNums [n / 1099511627776 % 256, n / 4294967296 % 256, n / 16777216 % 256, n / 65536 % 256, n / 256 % 256, n % 256], 0) := by
  obtain ⟨k, rfl⟩ : ∃ m, k = m + 9 := ⟨k - 9, by omega⟩
  have e : n / 281474976710656 = 0 := by omega
  unfold code_Put.f
  rw [if_neg (by omega), if_neg (by omega), if_neg (by omega)]
  simp [code_Put.j0, code_Put.l0, wrap64, shr, e, IntKind.bits, List.replicate]
theorem alive_f : penelopelaw18_alive.f = some true := by
  unfold penelopelaw18_alive.f task_Ready.f
  simp [Go.Lib.toList_data]
/-- A byte of a number. -/
def ub (n : Int) : UInt8 := UInt8.ofNat n.toNat
theorem ub_nat {n : Int} (h0 : 0 ≤ n) (h1 : n < 256) : ((ub n).toNat : Int) = n := by
  unfold ub
  rw [UInt8.toNat_ofNat']
  omega
theorem ub_of (c : UInt8) {n : Int} (h : n = c.toNat) : ub n = c := by
  subst h
  unfold ub
  rw [Int.toNat_natCast]
  exact UInt8.ofNat_toNat
theorem strOf_list (l : List Int) : (strOfNums l).data.toList = l.map ub := rfl
theorem all_f (l : List ByteArray) (h : (catL l).length ≤ 1000) (h2 : l.length ≤ 10) : code_All.f l = some ⟨(catL l).toArray⟩ := by
  unfold code_All.f
  rw [if_pos ⟨by omega, by omega⟩]
theorem text_f (k : Nat) (hk : 5 ≤ k) (res : ByteArray) (h : res.size ≤ 16) :
    code_Text.f k res = some (⟨(ub ((res.size : Int) / 256 % 256) :: ub ((res.size : Int) % 256) :: res.data.toList).toArray⟩, 0) := by
  unfold code_Text.f
  rw [if_neg (by omega), put2 k hk (by omega) (by omega)]
  simp only [Option.bind_some]
  have e : catL [strOfNums [(res.size : Int) / 256 % 256, (res.size : Int) % 256], res] = ub ((res.size : Int) / 256 % 256) :: ub ((res.size : Int) % 256) :: res.data.toList := by
    simp [catL, strOf_list]
  rw [all_f _ (by rw [e]; simp only [List.length_cons]; rw [← Go.Lib.size_eq]; omega) (by simp), e]
  rfl
/-- The bytes of what may stand. -/
def putL (is tried due tok : Int) (res : ByteArray) : List UInt8 :=
  [ub (is % 256), ub (tried % 256), ub (due / 1099511627776 % 256), ub (due / 4294967296 % 256), ub (due / 16777216 % 256), ub (due / 65536 % 256), ub (due / 256 % 256), ub (due % 256), ub (tok / 1099511627776 % 256), ub (tok / 4294967296 % 256), ub (tok / 16777216 % 256), ub (tok / 65536 % 256), ub (tok / 256 % 256), ub (tok % 256), ub ((res.size : Int) / 256 % 256), ub ((res.size : Int) % 256)] ++ res.data.toList
theorem put_f (k : Nat) (hk : 10 ≤ k) (is tried due tok : Int) (res : ByteArray) :
    task_Put.f k is tried due tok res = some (if StandsP is tried due tok res then (⟨(putL is tried due tok res).toArray⟩, 0) else (⟨#[]⟩, 1)) := by
  unfold task_Put.f
  rw [stands_f k (by omega)]
  simp only [Option.bind_some]
  by_cases h : StandsP is tried due tok res
  · rw [if_pos h, if_pos (decide_eq_true h)]
    unfold StandsP at h
    rw [put1 k (by omega) (by omega) (by omega), Option.bind_some, put1 k (by omega) (by omega) (by omega), Option.bind_some, put6 k (by omega) (by omega) (by omega), Option.bind_some, put6 k (by omega) (by omega) (by omega), Option.bind_some, text_f k (by omega) res (by omega), Option.bind_some]
    have e : catL [strOfNums [is % 256], strOfNums [tried % 256], strOfNums [due / 1099511627776 % 256, due / 4294967296 % 256, due / 16777216 % 256, due / 65536 % 256, due / 256 % 256, due % 256], strOfNums [tok / 1099511627776 % 256, tok / 4294967296 % 256, tok / 16777216 % 256, tok / 65536 % 256, tok / 256 % 256, tok % 256], ⟨(ub ((res.size : Int) / 256 % 256) :: ub ((res.size : Int) % 256) :: res.data.toList).toArray⟩] = putL is tried due tok res := by
      simp [catL, strOf_list, putL]
    have hl : (putL is tried due tok res).length ≤ 1000 := by
      unfold putL
      rw [List.length_append, ← Go.Lib.size_eq]
      simp only [List.length_cons, List.length_nil]
      omega
    rw [all_f _ (by rw [e]; exact hl) (by simp), e]
    rfl
  · rw [if_neg h, if_neg (by simpa using h)]
theorem w64_in (n : Int) (h : -9223372036854775808 ≤ n ∧ n ≤ 9223372036854775807) : wrap64 n = n := by unfold wrap64; omega
/-- What is read of bytes. -/
def getV (a : ByteArray) : Int × Int × Int × Int × ByteArray × Int :=
  if a.size < 14 then (0, 0, 0, 0, ⟨#[]⟩, 3) else if (cutOf a 14).2.2 ≠ 0 then (0, 0, 0, 0, ⟨#[]⟩, (cutOf a 14).2.2) else if (cutOf a 14).2.1 ≠ a.size then (0, 0, 0, 0, ⟨#[]⟩, 4) else
  if StandsP (fld a 0 1) (fld a 1 1) (fld a 2 6) (fld a 8 6) (cutOf a 14).1 then (fld a 0 1, fld a 1 1, fld a 2 6, fld a 8 6, (cutOf a 14).1, 0) else (0, 0, 0, 0, ⟨#[]⟩, 4)
theorem z_stands (k : Nat) (a b c d : Int) (e : ByteArray) : Z.task_stands.f k a b c d e = task_stands.f k a b c d e := by
  cases k <;> rfl
theorem n_stands (k : Nat) (a b c d : Int) (e : ByteArray) : N.peneloperef18_Stands.f k a b c d e = peneloperef18_Stands.f k a b c d e := by
  cases k <;> rfl
theorem get_v (k : Nat) (hk : 1 ≤ k) (a : ByteArray) (hs : a.size ≤ 140737488351232) : task_Get.f k a = some (getV a) := by
  unfold task_Get.f getV
  rw [if_pos hs, z_stands, stands_f k hk, Option.bind_some]
  by_cases h1 : a.size < 14
  · rw [if_pos h1, if_pos h1]
  rw [if_neg h1, if_neg h1]
  by_cases h2 : (cutOf a 14).2.2 ≠ 0
  · rw [if_pos h2, if_pos h2]
  rw [if_neg h2, if_neg h2]
  by_cases h3 : (cutOf a 14).2.1 ≠ a.size
  · rw [if_pos h3, if_pos h3]
  rw [if_neg h3, if_neg h3]
  by_cases hp : StandsP (fld a 0 1) (fld a 1 1) (fld a 2 6) (fld a 8 6) (cutOf a 14).1
  · rw [if_pos hp, if_pos (decide_eq_true hp)]
  · rw [if_neg hp, if_neg (by simpa using hp)]
theorem bt_nat (a : ByteArray) (j : Nat) (h : j < a.data.toList.length) : bt a ((j : Nat) : Int) = (a.data.toList[j]).toNat := by
  unfold bt
  rw [dif_pos (by rw [Int.toNat_natCast, Go.Lib.size_eq]; exact h)]
  simp only [Int.toNat_natCast]
  rfl
theorem rget_l (a : ByteArray) (hs : a.size ≤ 140737488351232) (m n : Nat) (hn : n ≤ 6) (hm : m + n ≤ a.size) : ∀ k i : Nat, i ≤ n → n - i < k →
    N.peneloperef01_Get.l0 k a m n (numOf ((a.data.toList.drop m).take i)) i = some (fld a m n, ((m + n : Nat) : Int), 0) := by
  intro k
  induction k with
  | zero => intro i _ h; omega
  | succ k ih =>
    intro i hi hk
    rw [N.peneloperef01_Get.l0]
    by_cases hlt : i < n
    · have hl : i < (a.data.toList.drop m).length := by rw [List.length_drop, ← Go.Lib.size_eq]; omega
      have hb := numOf_bd (a.data.toList.drop m) i (by omega)
      have hp := pow6 (k := i) (by omega)
      have e1 : wrap64 ((m : Int) + (i : Int)) = ((m + i : Nat) : Int) := by rw [w64_in _ (by omega)]; omega
      have hj : m + i < a.data.toList.length := by rw [← Go.Lib.size_eq]; omega
      have hc := (a.data.toList[m + i]).toNat_lt
      have e2 : numOf ((a.data.toList.drop m).take (i + 1)) = numOf ((a.data.toList.drop m).take i) * 256 + (a.data.toList[m + i]).toNat := by
        rw [List.take_succ_eq_append_getElem hl, numOf_snoc, List.getElem_drop]
      rw [if_pos (by omega), e1, if_pos (by omega), if_pos (by omega), bt_nat a (m + i) hj, w64_in (numOf ((a.data.toList.drop m).take i) * 256) (by omega), w64_in ((a.data.toList[m + i]).toNat : Int) (by omega), w64_in (numOf ((a.data.toList.drop m).take i) * 256 + ((a.data.toList[m + i]).toNat : Int)) (by omega), ← e2, w64_in ((i : Int) + 1) (by omega)]
      exact ih (i + 1) (by omega) (by omega)
    · obtain rfl : i = n := by omega
      rw [if_neg (by omega), w64_in _ (by omega)]
      unfold fld
      congr 3
theorem rget (k : Nat) (hk : 9 ≤ k) (a : ByteArray) (hs : a.size ≤ 140737488351232) (m n : Nat) (h1 : 1 ≤ n) (hn : n ≤ 6) (hm : m ≤ a.size) :
    N.peneloperef01_Get.f k a m n = some (if a.size < m + n then (0, 0, 3) else (fld a m n, ((m + n : Nat) : Int), 0)) := by
  obtain ⟨k, rfl⟩ : ∃ q, k = q + 1 := ⟨k - 1, by omega⟩
  unfold N.peneloperef01_Get.f
  rw [if_neg (by omega), if_neg (by omega), if_neg (by omega), N.peneloperef01_Get.j0, if_neg (by simp; omega), w64_in _ (by omega)]
  by_cases h : a.size < m + n
  · rw [if_pos h, if_pos (by omega)]
  · rw [if_neg h, if_neg (by omega)]
    exact rget_l a hs m n hn (by omega) k 0 (by omega) (by omega)
theorem next_ok (k : Nat) (hk : 9 ≤ k) (a : ByteArray) (hs : a.size ≤ 140737488351232) (m n : Nat) (h1 : 1 ≤ n) (hn : n ≤ 6) (hm : m ≤ a.size) :
    N.peneloperef16_R_Next.f k a m 0 n = some (if a.size < m + n then (0, a, 0, 3) else (fld a m n, a, ((m + n : Nat) : Int), 0)) := by
  unfold N.peneloperef16_R_Next.f
  rw [if_pos rfl, rget k hk a hs m n h1 hn hm, Option.bind_some]
  by_cases h : a.size < m + n
  · rw [if_pos h, if_pos h]
  · rw [if_neg h, if_neg h]
theorem next_bad (k : Nat) (a : ByteArray) (n : Int) : N.peneloperef16_R_Next.f k a 0 3 n = some (0, a, 0, 3) := by
  unfold N.peneloperef16_R_Next.f
  rw [if_neg (by omega)]
theorem text_bad (k : Nat) (a : ByteArray) : N.peneloperef16_R_Text.f k a 0 3 = some (⟨#[]⟩, a, 0, 3) := by
  unfold N.peneloperef16_R_Text.f
  rw [if_neg (by omega)]
theorem fld2_bd (a : ByteArray) (m : Nat) (h : m + 2 ≤ a.size) : 0 ≤ fld a m 2 ∧ fld a m 2 < 281474976710656 :=
  numOf2_bd (k := 2) (by omega) (by rw [List.length_take, List.length_drop, ← Go.Lib.size_eq]; omega)
theorem text_ok (k : Nat) (hk : 9 ≤ k) (a : ByteArray) (hs : a.size ≤ 140737488351232) (m : Nat) (hm : m ≤ a.size) :
    N.peneloperef16_R_Text.f k a m 0 = some ((cutOf a m).1, a, (cutOf a m).2.1, (cutOf a m).2.2) := by
  unfold N.peneloperef16_R_Text.f N.peneloperef01_Cut.f
  have hg := rget k hk a hs m 2 (by omega) (by omega) hm
  rw [show ((2 : Nat) : Int) = 2 from rfl] at hg
  rw [if_pos rfl, hg, Option.bind_some]
  by_cases h : a.size < m + 2
  · have hc : cutOf a m = (⟨#[]⟩, 0, 3) := by
      unfold cutOf
      rw [if_pos h]
    rw [if_pos h, hc]
    rfl
  · rw [if_neg h]
    have hb := fld2_bd a m (by omega)
    obtain ⟨q, hq⟩ : ∃ q : Nat, fld a m 2 = q := ⟨(fld a m 2).toNat, by omega⟩
    have hq' : numOf ((a.data.toList.drop m).take 2) = (q : Int) := hq
    rw [hq] at hb
    rw [hq]
    simp only [if_true]
    rw [w64_in _ (by omega), w64_in _ (by omega)]
    by_cases h2 : (a.size : Int) - ((m + 2 : Nat) : Int) < (q : Int)
    · have hc : cutOf a m = (⟨#[]⟩, 0, 3) := by
        unfold cutOf
        rw [if_neg h, hq', if_pos h2]
      rw [if_pos h2, hc]
      rfl
    · have hc : cutOf a m = (a.extract (m + 2) (m + 2 + q), ((m + 2 + q : Nat) : Int), 0) := by
        unfold cutOf
        rw [if_neg h, hq', if_neg h2, Int.toNat_natCast]
      rw [if_neg h2, if_pos (by omega), if_pos (by omega), if_pos (by omega), hc, Option.bind_some]
      rfl
theorem ref_get_v (k : Nat) (hk : 10 ≤ k) (a : ByteArray) (hs : a.size ≤ 140737488351232) : peneloperef18_Get.f k a = some (getV a) := by
  have b1 := next_bad k a 1
  have b6 := next_bad k a 6
  have bt_ := text_bad k a
  have n1 := next_ok k (by omega) a hs 0 1 (by omega) (by omega) (by omega)
  unfold peneloperef18_Get.f getV
  rw [show N.peneloperef16_R_Next.f k a 0 0 1 = _ from n1, Option.bind_some]
  by_cases h1 : a.size < 0 + 1
  · rw [if_pos h1, if_pos (by omega)]
    simp only
    rw [b1, Option.bind_some]
    simp only
    rw [b6, Option.bind_some]
    simp only
    rw [b6, Option.bind_some]
    simp only
    rw [bt_, Option.bind_some]
    rfl
  rw [if_neg h1]
  simp only
  rw [show N.peneloperef16_R_Next.f k a ((0 + 1 : Nat) : Int) 0 1 = _ from next_ok k (by omega) a hs 1 1 (by omega) (by omega) (by omega), Option.bind_some]
  by_cases h2 : a.size < 1 + 1
  · rw [if_pos h2, if_pos (by omega)]
    simp only
    rw [b6, Option.bind_some]
    simp only
    rw [b6, Option.bind_some]
    simp only
    rw [bt_, Option.bind_some]
    rfl
  rw [if_neg h2]
  simp only
  rw [show N.peneloperef16_R_Next.f k a ((1 + 1 : Nat) : Int) 0 6 = _ from next_ok k (by omega) a hs 2 6 (by omega) (by omega) (by omega), Option.bind_some]
  by_cases h3 : a.size < 2 + 6
  · rw [if_pos h3, if_pos (by omega)]
    simp only
    rw [b6, Option.bind_some]
    simp only
    rw [bt_, Option.bind_some]
    rfl
  rw [if_neg h3]
  simp only
  rw [show N.peneloperef16_R_Next.f k a ((2 + 6 : Nat) : Int) 0 6 = _ from next_ok k (by omega) a hs 8 6 (by omega) (by omega) (by omega), Option.bind_some]
  by_cases h4 : a.size < 8 + 6
  · rw [if_pos h4, if_pos (by omega)]
    simp only
    rw [bt_, Option.bind_some]
    rfl
  rw [if_neg h4, if_neg (by omega)]
  simp only
  rw [show N.peneloperef16_R_Text.f k a ((8 + 6 : Nat) : Int) 0 = _ from text_ok k (by omega) a hs 14 (by omega), Option.bind_some]
  simp only
  by_cases h5 : (cutOf a 14).2.2 ≠ 0
  · rw [if_pos h5, if_pos h5]
  rw [if_neg h5, if_neg h5]
  by_cases h6 : (cutOf a 14).2.1 ≠ a.size
  · rw [if_pos h6, if_pos h6]
  rw [if_neg h6, if_neg h6, n_stands, ref_stands_f k (by omega), Option.bind_some]
  by_cases hp : StandsP (fld a 0 1) (fld a 1 1) (fld a 2 6) (fld a 8 6) (cutOf a 14).1
  · rw [if_pos hp, if_pos (decide_eq_true hp)]
  · rw [if_neg hp, if_neg (by simpa using hp)]
/-! What the reference writes. -/
theorem tq {n d : Int} (h0 : 0 ≤ n) (h1 : n < 281474976710656) (hd : 0 < d) : Int.tmod (wrap64 (Int.tdiv n d)) 256 % 256 = n / d % 256 := by
  have e := Int.ediv_nonneg h0 (Int.le_of_lt hd)
  have e2 := Int.ediv_le_self d h0
  rw [Int.tdiv_eq_ediv_of_nonneg h0, w64_in _ (by omega), Int.tmod_eq_emod_of_nonneg e]
  omega
theorem tq1 {n : Int} (h0 : 0 ≤ n) (h1 : n < 281474976710656) : Int.tmod (wrap64 n) 256 % 256 = n % 256 := by
  rw [w64_in _ (by omega), Int.tmod_eq_emod_of_nonneg h0]
  omega
theorem rput1 (k : Nat) (hk : 12 ≤ k) {n : Int} (h0 : 0 ≤ n) (h1 : n < 256) : peneloperef01_Put.f k n 1 = some (strOfNums [n % 256], 0) := by
  obtain ⟨k, rfl⟩ : ∃ m, k = m + 12 := ⟨k - 12, by omega⟩
  unfold peneloperef01_Put.f
  rw [if_neg (by omega), if_neg (by omega), if_neg (by omega)]
  simp [peneloperef01_Put.j0, peneloperef01_Put.l0, peneloperef01_power.f, peneloperef01_power.l0, w64_in, show ¬ 256 ≤ n by omega, tq1 h0 (show n < 281474976710656 by omega)]
theorem rput6 (k : Nat) (hk : 20 ≤ k) {n : Int} (h0 : 0 ≤ n) (h1 : n < 281474976710656) : peneloperef01_Put.f k n 6 = some (strOfNums [n / 1099511627776 % 256, n / 4294967296 % 256, n / 16777216 % 256, n / 65536 % 256, n / 256 % 256, n % 256], 0) := by
  obtain ⟨k, rfl⟩ : ∃ m, k = m + 20 := ⟨k - 20, by omega⟩
  unfold peneloperef01_Put.f
  rw [if_neg (by omega), if_neg (by omega), if_neg (by omega)]
  simp [peneloperef01_Put.j0, peneloperef01_Put.l0, peneloperef01_power.f, peneloperef01_power.l0, w64_in, show ¬ 281474976710656 ≤ n by omega, tq1 h0 h1, tq h0 h1]
theorem ref_put_f (k : Nat) (hk : 20 ≤ k) {is tried due tok : Int} {res : ByteArray} (h : StandsP is tried due tok res) :
    peneloperef18_Put.f k is tried due tok res = some ⟨(putL is tried due tok res).toArray⟩ := by
  unfold StandsP at h
  unfold peneloperef18_Put.f peneloperef01_Text.f peneloperef18_number.f
  rw [if_neg (by omega), Option.bind_some, if_pos (by rw [strOfNums_size]; simp; omega), Option.bind_some]
  rw [rput1 k (by omega) (by omega) (by omega), Option.bind_some, Option.bind_some, rput1 k (by omega) (by omega) (by omega), Option.bind_some, Option.bind_some, if_pos (by simp only [strOfNums_size, List.length_cons, List.length_nil]; omega)]
  rw [rput6 k (by omega) (by omega) (by omega), Option.bind_some, Option.bind_some, if_pos (by simp only [ByteArray.size_append, strOfNums_size, List.length_cons, List.length_nil]; omega)]
  rw [rput6 k (by omega) (by omega) (by omega), Option.bind_some, Option.bind_some, if_pos (by simp only [ByteArray.size_append, strOfNums_size, List.length_cons, List.length_nil]; omega), if_pos (by simp only [ByteArray.size_append, strOfNums_size, List.length_cons, List.length_nil]; omega)]
  congr 1
theorem TaskBytes : penelopelaw18_TaskBytes.Pure := by
  intro x0 a1 _ hs
  refine ⟨31, ?_⟩
  obtain ⟨is, tried, due, tok, res⟩ := x0
  unfold penelopelaw18_TaskBytes.f
  simp only
  rw [put_f 31 (by omega), Option.bind_some, get_v 31 (by omega) a1 hs, Option.bind_some, ref_get_v 31 (by omega) a1 hs, Option.bind_some, if_neg (by simp), if_pos rfl, alive_f, Option.bind_some]
  rw [penelopelaw18_TaskBytes.j0, if_neg (by simp), ref_stands_f 30 (by omega), Option.bind_some]
  by_cases h : StandsP is tried due tok res
  · rw [if_pos h, if_pos (decide_eq_true h)]
    simp only [if_true]
    rw [ref_put_f 30 (by omega) h, Option.bind_some]
    simp
  · rw [if_neg h, if_neg (by simpa using h)]
    simp [Go.Lib.toList_data]
end Go.Proofs.Ytmbpnggldpgcdaa.Pure
