/- TaskBack: what is put is got again; what is got of any bytes, put, is the bytes. -/
import Derived.Test.YtmbpnggldpgcdaaSayTaskBack
import Derived.OpenShut
import Derived.Lib.Strings
import Derived.Laws.BytesArg
namespace Go.Proofs.Ytmbpnggldpgcdaa.Pure
open Go.RowKit Go.Proofs.Ytmbpnggldpgcdaa.Z Go.Proofs.YtmbpnggldpgcdaaW.PrintWords Go.Proofs.YtmbpnggldpgcdaaW.PrintLast Go.Proofs.YtmbpnggldpgcdaaW.PrintMore

/-- What may stand. -/
def StandsP (is tried due tok : Int) (res : ByteArray) : Prop :=
  0 ≤ is ∧ is ≤ 5 ∧ 0 ≤ tried ∧ tried ≤ 8 ∧ 0 ≤ due ∧ due ≤ 1099511627776 ∧ 0 ≤ tok ∧ tok ≤ 1099511627776 ∧ (tok > 0 ↔ is = 2) ∧ res.size ≤ 16 ∧ (res.data.toList = [] ∨ is = 3)
instance (is tried due tok : Int) (res : ByteArray) : Decidable (StandsP is tried due tok res) := by unfold StandsP; infer_instance

theorem ofNot {p : Prop} [Decidable p] (h : ¬ p) : some false = some (decide p) := by rw [decide_eq_false h]
theorem ofYes {p : Prop} [Decidable p] (h : p) : some true = some (decide p) := by rw [decide_eq_true h]
theorem ofIff {b : Bool} {p : Prop} [Decidable p] (h : b = true ↔ p) : some b = some (decide p) := by
  congr 1
  by_cases hp : p
  · rw [decide_eq_true hp, h.2 hp]
  · rw [decide_eq_false hp]
    exact Bool.eq_false_iff.2 (fun e => hp (h.1 e))
theorem stands_f (k : Nat) (hk : 1 ≤ k) (is tried due tok : Int) (res : ByteArray) : task_stands.f k is tried due tok res = some (decide (StandsP is tried due tok res)) := by
  obtain ⟨k, rfl⟩ : ∃ m, k = m + 1 := ⟨k - 1, by omega⟩
  unfold task_stands.f
  by_cases h1 : is < 0
  · rw [if_pos h1]; simp only [task_stands.j0, if_true]; exact ofNot (by unfold StandsP; omega)
  rw [if_neg h1]
  by_cases h2 : is > 5
  · rw [if_pos h2]; simp only [task_stands.j0, if_true]; exact ofNot (by unfold StandsP; omega)
  rw [if_neg h2]
  by_cases h3 : tried < 0
  · rw [if_pos h3]; simp only [task_stands.j0, if_true]; exact ofNot (by unfold StandsP; omega)
  rw [if_neg h3]
  by_cases h4 : tried > 8
  · rw [if_pos h4]; simp only [task_stands.j0, if_true]; exact ofNot (by unfold StandsP; omega)
  rw [if_neg h4]
  by_cases h5 : due < 0
  · rw [if_pos h5]; simp only [task_stands.j0, if_true]; exact ofNot (by unfold StandsP; omega)
  rw [if_neg h5]
  simp only [task_stands.j0]
  by_cases h6 : due > 1099511627776
  · rw [if_pos (decide_eq_true h6)]; exact ofNot (by unfold StandsP; omega)
  rw [if_neg (by simpa using h6)]
  by_cases h7 : tok < 0
  · rw [if_pos h7]; exact ofNot (by unfold StandsP; omega)
  rw [if_neg h7]
  by_cases h8 : tok > 1099511627776
  · rw [if_pos h8]; exact ofNot (by unfold StandsP; omega)
  rw [if_neg h8]
  by_cases h9 : tok > 0 ↔ is = 2
  · have e9 : ¬ ((decide (tok > 0) != (is == 2)) = true) := by
      by_cases a : tok > 0 <;> by_cases b : is = 2 <;> simp [a, b] <;> omega
    rw [if_neg e9]
    by_cases h10 : (res.size : Int) ≤ 16
    · rw [if_pos h10]
      by_cases h11 : res.data.toList = []
      · rw [if_pos (by rw [Go.Lib.toList_data]; exact h11)]
        exact ofYes ⟨by omega, by omega, by omega, by omega, by omega, by omega, by omega, by omega, h9, by omega, .inl h11⟩
      · rw [if_neg (by rw [Go.Lib.toList_data]; exact h11)]
        exact ofIff ⟨fun e => ⟨by omega, by omega, by omega, by omega, by omega, by omega, by omega, by omega, h9, by omega, .inr (by simpa using e)⟩, fun e => by
          obtain ⟨_, _, _, _, _, _, _, _, _, _, e⟩ := e
          rcases e with e | e
          · exact absurd e h11
          · simpa using e⟩
    · rw [if_neg h10]; exact ofNot (by unfold StandsP; omega)
  · have e9 : ((decide (tok > 0) != (is == 2)) = true) := by
      by_cases a : tok > 0 <;> by_cases b : is = 2 <;> simp [a, b] <;> omega
    rw [if_pos e9]; exact ofNot (by unfold StandsP; omega)
/-- Numbers as bytes: what code.Put comes to. -/
theorem put1 (k : Nat) (hk : 4 ≤ k) {n : Int} (h0 : 0 ≤ n) (h1 : n < 256) : code_Put.f k n 1 = some (strOfNums [n % 256], 0) := by
  obtain ⟨k, rfl⟩ : ∃ m, k = m + 4 := ⟨k - 4, by omega⟩
  have e : n / 256 = 0 := by omega
  unfold code_Put.f
  rw [if_neg (by omega), if_neg (by omega), if_neg (by omega)]
  simp [code_Put.j0, code_Put.l0, wrap64, shr, e, IntKind.bits]
theorem put2 (k : Nat) (hk : 5 ≤ k) {n : Int} (h0 : 0 ≤ n) (h1 : n < 65536) : code_Put.f k n 2 = some (strOfNums [n / 256 % 256, n % 256], 0) := by
  obtain ⟨k, rfl⟩ : ∃ m, k = m + 5 := ⟨k - 5, by omega⟩
  have e : n / 65536 = 0 := by omega
  unfold code_Put.f
  rw [if_neg (by omega), if_neg (by omega), if_neg (by omega)]
  simp [code_Put.j0, code_Put.l0, wrap64, shr, e, IntKind.bits, List.replicate]
theorem put6 (k : Nat) (hk : 9 ≤ k) {n : Int} (h0 : 0 ≤ n) (h1 : n < 281474976710656) : code_Put.f k n 6 = some (strOfNums [n / 1099511627776 % 256, n / 4294967296 % 256, n / 16777216 % 256, n / 65536 % 256, n / 256 % 256, n % 256], 0) := by
  obtain ⟨k, rfl⟩ : ∃ m, k = m + 9 := ⟨k - 9, by omega⟩
  have e : n / 281474976710656 = 0 := by omega
  unfold code_Put.f
  rw [if_neg (by omega), if_neg (by omega), if_neg (by omega)]
  simp [code_Put.j0, code_Put.l0, wrap64, shr, e, IntKind.bits, List.replicate]
theorem alive_f : penelopelaw18_alive.f = some true := by
  unfold penelopelaw18_alive.f task_Ready.f
  simp [Go.Lib.toList_data]
/-- A byte of a number. -/
def ub (n : Int) : UInt8 := UInt8.ofNat n.toNat
theorem ub_nat {n : Int} (h0 : 0 ≤ n) (h1 : n < 256) : ((ub n).toNat : Int) = n := by
  unfold ub
  rw [UInt8.toNat_ofNat']
  omega
theorem ub_of (c : UInt8) {n : Int} (h : n = c.toNat) : ub n = c := by
  subst h
  unfold ub
  rw [Int.toNat_natCast]
  exact UInt8.ofNat_toNat
theorem strOf_list (l : List Int) : (strOfNums l).data.toList = l.map ub := rfl
theorem all_f (l : List ByteArray) (h : (catL l).length ≤ 1000) (h2 : l.length ≤ 10) : code_All.f l = some ⟨(catL l).toArray⟩ := by
  unfold code_All.f
  rw [if_pos ⟨by omega, by omega⟩]
theorem text_f (k : Nat) (hk : 5 ≤ k) (res : ByteArray) (h : res.size ≤ 16) :
    code_Text.f k res = some (⟨(ub ((res.size : Int) / 256 % 256) :: ub ((res.size : Int) % 256) :: res.data.toList).toArray⟩, 0) := by
  unfold code_Text.f
  rw [if_neg (by omega), put2 k hk (by omega) (by omega)]
  simp only [Option.bind_some]
  have e : catL [strOfNums [(res.size : Int) / 256 % 256, (res.size : Int) % 256], res] = ub ((res.size : Int) / 256 % 256) :: ub ((res.size : Int) % 256) :: res.data.toList := by
    simp [catL, strOf_list]
  rw [all_f _ (by rw [e]; simp only [List.length_cons]; rw [← Go.Lib.size_eq]; omega) (by simp), e]
  rfl
/-- The bytes of what may stand. -/
def putL (is tried due tok : Int) (res : ByteArray) : List UInt8 :=
  [ub (is % 256), ub (tried % 256), ub (due / 1099511627776 % 256), ub (due / 4294967296 % 256), ub (due / 16777216 % 256), ub (due / 65536 % 256), ub (due / 256 % 256), ub (due % 256), ub (tok / 1099511627776 % 256), ub (tok / 4294967296 % 256), ub (tok / 16777216 % 256), ub (tok / 65536 % 256), ub (tok / 256 % 256), ub (tok % 256), ub ((res.size : Int) / 256 % 256), ub ((res.size : Int) % 256)] ++ res.data.toList
theorem put_f (k : Nat) (hk : 10 ≤ k) (is tried due tok : Int) (res : ByteArray) :
    task_Put.f k is tried due tok res = some (if StandsP is tried due tok res then (⟨(putL is tried due tok res).toArray⟩, 0) else (⟨#[]⟩, 1)) := by
  unfold task_Put.f
  rw [stands_f k (by omega)]
  simp only [Option.bind_some]
  by_cases h : StandsP is tried due tok res
  · rw [if_pos h, if_pos (decide_eq_true h)]
    unfold StandsP at h
    rw [put1 k (by omega) (by omega) (by omega), Option.bind_some, put1 k (by omega) (by omega) (by omega), Option.bind_some, put6 k (by omega) (by omega) (by omega), Option.bind_some, put6 k (by omega) (by omega) (by omega), Option.bind_some, text_f k (by omega) res (by omega), Option.bind_some]
    have e : catL [strOfNums [is % 256], strOfNums [tried % 256], strOfNums [due / 1099511627776 % 256, due / 4294967296 % 256, due / 16777216 % 256, due / 65536 % 256, due / 256 % 256, due % 256], strOfNums [tok / 1099511627776 % 256, tok / 4294967296 % 256, tok / 16777216 % 256, tok / 65536 % 256, tok / 256 % 256, tok % 256], ⟨(ub ((res.size : Int) / 256 % 256) :: ub ((res.size : Int) % 256) :: res.data.toList).toArray⟩] = putL is tried due tok res := by
      simp [catL, strOf_list, putL]
    have hl : (putL is tried due tok res).length ≤ 1000 := by
      unfold putL
      rw [List.length_append, ← Go.Lib.size_eq]
      simp only [List.length_cons, List.length_nil]
      omega
    rw [all_f _ (by rw [e]; exact hl) (by simp), e]
    rfl
  · rw [if_neg h, if_neg (by simpa using h)]
/-- What is got of sixteen bytes and more. -/
def num6 (a b c d e f : UInt8) : Int := (((((a.toNat : Int) * 256 + b.toNat) * 256 + c.toNat) * 256 + d.toNat) * 256 + e.toNat) * 256 + f.toNat
theorem get_of (k : Nat) (hk : 1 ≤ k) (a : ByteArray) (hs : a.size ≤ 140737488351232) (c0 c1 c2 c3 c4 c5 c6 c7 c8 c9 c10 c11 c12 c13 c14 c15 : UInt8) (rest : List UInt8)
    (h : a.data.toList = [c0, c1, c2, c3, c4, c5, c6, c7, c8, c9, c10, c11, c12, c13, c14, c15] ++ rest) :
    (((c14.toNat : Int) * 256 + c15.toNat = rest.length) → task_Get.f k a = some (if StandsP c0.toNat c1.toNat (num6 c2 c3 c4 c5 c6 c7) (num6 c8 c9 c10 c11 c12 c13) ⟨rest.toArray⟩ then ((c0.toNat : Int), (c1.toNat : Int), num6 c2 c3 c4 c5 c6 c7, num6 c8 c9 c10 c11 c12 c13, ⟨rest.toArray⟩, 0) else (0, 0, 0, 0, ⟨#[]⟩, 4))) ∧
    (¬ ((c14.toNat : Int) * 256 + c15.toNat = rest.length) → ∃ e : Int, e ≠ 0 ∧ task_Get.f k a = some (0, 0, 0, 0, ⟨#[]⟩, e)) := by
  have hz : a.size = 16 + rest.length := by rw [Go.Lib.size_eq, h]; simp; omega
  have f0 : fld a 0 1 = c0.toNat := by unfold fld; rw [h]; simp [numOf]
  have f1 : fld a 1 1 = c1.toNat := by unfold fld; rw [h]; simp [numOf]
  have f2 : fld a 2 6 = num6 c2 c3 c4 c5 c6 c7 := by unfold fld; rw [h]; simp [numOf, num6]
  have f3 : fld a 8 6 = num6 c8 c9 c10 c11 c12 c13 := by unfold fld; rw [h]; simp [numOf, num6]
  have f4 : numOf ((a.data.toList.drop 14).take 2) = (c14.toNat : Int) * 256 + c15.toNat := by rw [h]; simp [numOf]
  have hx : (a.extract 16 (16 + rest.length)) = ⟨rest.toArray⟩ := by
    have e : (a.extract 16 (16 + rest.length)).data.toList = rest := by
      rw [Go.Lib.extract_data, h]
      simp
    rcases he : a.extract 16 (16 + rest.length) with ⟨d⟩
    rw [he] at e
    rw [← e]
  refine ⟨fun e => ?_, fun e => ?_⟩
  · have hc : cutOf a 14 = (⟨rest.toArray⟩, (a.size : Int), 0) := by
      unfold cutOf
      rw [f4, e, if_neg (by omega), if_neg (by omega), Int.toNat_natCast, show 14 + 2 + rest.length = 16 + rest.length by omega, hx, hz]
    unfold task_Get.f
    rw [if_pos hs, if_neg (by omega), f0, f1, f2, f3, hc]
    simp only [ne_eq, not_true_eq_false, if_false]
    rw [stands_f k hk, Option.bind_some]
    by_cases hp : StandsP c0.toNat c1.toNat (num6 c2 c3 c4 c5 c6 c7) (num6 c8 c9 c10 c11 c12 c13) ⟨rest.toArray⟩
    · rw [if_pos hp, if_pos (decide_eq_true hp)]
    · rw [if_neg hp, if_neg (by simpa using hp)]
  · by_cases h2 : (a.size : Int) - ((14 + 2 : Nat) : Int) < (c14.toNat : Int) * 256 + c15.toNat
    · have hc : cutOf a 14 = (⟨#[]⟩, 0, 3) := by
        unfold cutOf
        rw [f4, if_neg (by omega), if_pos h2]
      refine ⟨3, by omega, ?_⟩
      unfold task_Get.f
      rw [if_pos hs, if_neg (by omega), hc]
      rfl
    · obtain ⟨t, n, hc, hn⟩ : ∃ t n, cutOf a 14 = (t, n, 0) ∧ n ≠ (a.size : Int) := by
        unfold cutOf
        rw [f4, if_neg (by omega), if_neg h2]
        exact ⟨_, _, rfl, by omega⟩
      refine ⟨4, by omega, ?_⟩
      unfold task_Get.f
      rw [if_pos hs, if_neg (by omega), hc]
      simp only [ne_eq, not_true_eq_false, if_false]
      rw [if_pos hn]
theorem get_short (k : Nat) (a : ByteArray) (h : a.size < 16) : task_Get.f k a = some (0, 0, 0, 0, ⟨#[]⟩, 3) := by
  by_cases h1 : a.size < 14
  · unfold task_Get.f
    rw [if_pos (by omega), if_pos h1]
  · have hc : cutOf a 14 = (⟨#[]⟩, 0, 3) := by
      unfold cutOf
      rw [if_pos (by omega)]
    unfold task_Get.f
    rw [if_pos (by omega), if_neg h1, hc]
    rfl
theorem split16 (l : List UInt8) (h : 16 ≤ l.length) : ∃ c0 c1 c2 c3 c4 c5 c6 c7 c8 c9 c10 c11 c12 c13 c14 c15 rest, l = [c0, c1, c2, c3, c4, c5, c6, c7, c8, c9, c10, c11, c12, c13, c14, c15] ++ rest := by
  match l, h with
  | c0 :: c1 :: c2 :: c3 :: c4 :: c5 :: c6 :: c7 :: c8 :: c9 :: c10 :: c11 :: c12 :: c13 :: c14 :: c15 :: rest, _ => exact ⟨_, _, _, _, _, _, _, _, _, _, _, _, _, _, _, _, _, rfl⟩
theorem num6_parts (a b c d e f : UInt8) : num6 a b c d e f / 1099511627776 % 256 = a.toNat ∧ num6 a b c d e f / 4294967296 % 256 = b.toNat ∧ num6 a b c d e f / 16777216 % 256 = c.toNat ∧ num6 a b c d e f / 65536 % 256 = d.toNat ∧ num6 a b c d e f / 256 % 256 = e.toNat ∧ num6 a b c d e f % 256 = f.toNat := by
  have h1 := a.toNat_lt
  have h2 := b.toNat_lt
  have h3 := c.toNat_lt
  have h4 := d.toNat_lt
  have h5 := e.toNat_lt
  have h6 := f.toNat_lt
  unfold num6
  refine ⟨?_, ?_, ?_, ?_, ?_, ?_⟩ <;> omega
theorem num6_of {n : Int} (h0 : 0 ≤ n) (h1 : n < 281474976710656) : num6 (ub (n / 1099511627776 % 256)) (ub (n / 4294967296 % 256)) (ub (n / 16777216 % 256)) (ub (n / 65536 % 256)) (ub (n / 256 % 256)) (ub (n % 256)) = n := by
  unfold num6
  rw [ub_nat (by omega) (by omega), ub_nat (by omega) (by omega), ub_nat (by omega) (by omega), ub_nat (by omega) (by omega), ub_nat (by omega) (by omega), ub_nat (by omega) (by omega)]
  omega
theorem mk_list (b : ByteArray) : (⟨b.data.toList.toArray⟩ : ByteArray) = b := by cases b; simp
/-- What is put is got again. -/
theorem get_put (k : Nat) (hk : 1 ≤ k) {is tried due tok : Int} {res : ByteArray} (h : StandsP is tried due tok res) :
    task_Get.f k ⟨(putL is tried due tok res).toArray⟩ = some (is, tried, due, tok, res, 0) := by
  have h' := h
  unfold StandsP at h'
  have hl : (putL is tried due tok res).length = 16 + res.size := by
    unfold putL
    rw [List.length_append, ← Go.Lib.size_eq]
    simp only [List.length_cons, List.length_nil]
  have := (get_of k hk ⟨(putL is tried due tok res).toArray⟩ (by rw [Go.Lib.size_eq]; simp only; omega) _ _ _ _ _ _ _ _ _ _ _ _ _ _ _ _ res.data.toList rfl).1 (by
    rw [ub_nat (by omega) (by omega), ub_nat (by omega) (by omega), ← Go.Lib.size_eq]
    omega)
  rw [this, num6_of (by omega) (by omega), num6_of (by omega) (by omega), ub_nat (by omega) (by omega), ub_nat (by omega) (by omega), mk_list, show is % 256 = is by omega, show tried % 256 = tried by omega, if_pos h]
/-- What is got, put, is the bytes. -/
theorem j0_f (k : Nat) (hk : 11 ≤ k) (a : ByteArray) (hs : a.size ≤ 140737488351232) : penelopelaw18_TaskBack.j0 k a = some true := by
  obtain ⟨k, rfl⟩ : ∃ m, k = m + 1 := ⟨k - 1, by omega⟩
  rw [penelopelaw18_TaskBack.j0]
  have bad : ∀ e : Int, e ≠ 0 → task_Get.f k a = some (0, 0, 0, 0, ⟨#[]⟩, e) → ((task_Get.f k a).bind fun bt145 => (if bt145.2.2.2.2.2 = 0 then ((task_Put.f k bt145.1 bt145.2.1 bt145.2.2.1 bt145.2.2.2.1 bt145.2.2.2.2.1).bind fun bt152 => ((penelopelaw18_alive.f).bind fun t154 => (if t154 = true then (if bt152.2 = 0 then (some (bt152.1.toList == a.toList)) else (none)) else (none)))) else ((penelopelaw18_alive.f).bind fun t155 => (if t155 = true then (some (bt145.1 == 0 && (bt145.2.1 == 0 && (bt145.2.2.1 == 0 && (bt145.2.2.2.1 == 0 && (bt145.2.2.2.2.1.toList == ([] : List UInt8))))))) else (none))))) = some true := by
    intro e he hg
    rw [hg, Option.bind_some, if_neg he, alive_f]
    simp [Go.Lib.toList_data]
  by_cases h16 : a.size < 16
  · exact bad 3 (by omega) (get_short k a h16)
  obtain ⟨c0, c1, c2, c3, c4, c5, c6, c7, c8, c9, c10, c11, c12, c13, c14, c15, rest, hl⟩ := split16 a.data.toList (by rw [← Go.Lib.size_eq]; omega)
  obtain ⟨g1, g2⟩ := get_of k (by omega) a hs _ _ _ _ _ _ _ _ _ _ _ _ _ _ _ _ _ hl
  by_cases hn : (c14.toNat : Int) * 256 + c15.toNat = rest.length
  · have g := g1 hn
    by_cases hp : StandsP c0.toNat c1.toNat (num6 c2 c3 c4 c5 c6 c7) (num6 c8 c9 c10 c11 c12 c13) ⟨rest.toArray⟩
    · rw [if_pos hp] at g
      rw [g, Option.bind_some]
      simp only [if_true]
      rw [put_f k (by omega), if_pos hp, Option.bind_some, alive_f, Option.bind_some]
      have e : putL c0.toNat c1.toNat (num6 c2 c3 c4 c5 c6 c7) (num6 c8 c9 c10 c11 c12 c13) ⟨rest.toArray⟩ = a.data.toList := by
        obtain ⟨p1, p2, p3, p4, p5, p6⟩ := num6_parts c2 c3 c4 c5 c6 c7
        obtain ⟨q1, q2, q3, q4, q5, q6⟩ := num6_parts c8 c9 c10 c11 c12 c13
        have b0 := c0.toNat_lt
        have b1 := c1.toNat_lt
        have b14 := c14.toNat_lt
        have b15 := c15.toNat_lt
        have hz : ((⟨rest.toArray⟩ : ByteArray).size : Int) = (c14.toNat : Int) * 256 + c15.toNat := by rw [Go.Lib.size_eq, hn]
        rw [hl]
        unfold putL
        rw [hz, p1, p2, p3, p4, p5, p6, q1, q2, q3, q4, q5, q6, ub_of c0 (by omega), ub_of c1 (by omega), ub_of c2 rfl, ub_of c3 rfl, ub_of c4 rfl, ub_of c5 rfl, ub_of c6 rfl, ub_of c7 rfl, ub_of c8 rfl, ub_of c9 rfl, ub_of c10 rfl, ub_of c11 rfl, ub_of c12 rfl, ub_of c13 rfl, ub_of c14 (by omega), ub_of c15 (by omega)]
      simp only [if_true, Go.Lib.toList_data]
      rw [e]
      simp
    · rw [if_neg hp] at g
      exact bad 4 (by omega) g
  · obtain ⟨e, he, g⟩ := g2 hn
    exact bad e he g
theorem TaskBack : penelopelaw18_TaskBack.Pure := by
  intro x0 a1 _ hs
  refine ⟨20, ?_⟩
  obtain ⟨is, tried, due, tok, res⟩ := x0
  unfold penelopelaw18_TaskBack.f
  simp only
  rw [put_f 20 (by omega), Option.bind_some]
  by_cases h : StandsP is tried due tok res
  · rw [if_pos h]
    simp only [if_true]
    rw [get_put 20 (by omega) h, Option.bind_some]
    have h' := h
    unfold StandsP at h'
    have hl : (⟨(putL is tried due tok res).toArray⟩ : ByteArray).size = 16 + res.size := by
      rw [Go.Lib.size_eq]
      show (putL is tried due tok res).length = _
      unfold putL
      rw [List.length_append, ← Go.Lib.size_eq]
      simp only [List.length_cons, List.length_nil]
    rw [if_pos rfl, if_neg (by simp), if_neg (by rw [hl]; omega)]
    exact j0_f 20 (by omega) a1 hs
  · rw [if_neg h]
    simp only
    rw [if_neg (by omega)]
    exact j0_f 20 (by omega) a1 hs
end Go.Proofs.Ytmbpnggldpgcdaa.Pure
