/- SumTurned: a sealed text of which bits within 32, of it and of its sum, are turned is refused, for every text, place and pattern. -/
import Derived.Test.YtnadpefbimbggaaXx11
import Derived.Test.YtnadpefbimbggaaTurn
import Derived.Test.YtnadpefbimbggaaXAll
import Derived.OpenShut
namespace Go.Proofs.Ytnadpefbimbggaa.Pure
open Go.RowKit Go.Proofs.Ytnadpefbimbggaa.X Go.Proofs.YtnadpefbimbggaaW.PrintWords Go.Proofs.YtnadpefbimbggaaW.PrintLast

theorem short_some (s : ByteArray) (h : s.size ≤ 140737488351232) : ∃ t, penelopelaw02_short.f s = some t ∧ t.size ≤ 5000 := by
  have e : mn (s.size : Int) 5000 = min (s.size : Int) 5000 := by unfold mn; split <;> omega
  unfold penelopelaw02_short.f
  rw [e, if_pos (by omega), if_pos (by omega)]
  refine ⟨_, rfl, ?_⟩
  rw [ByteArray.size_extract]
  omega
/-- The sum of parts: the register goes through all of them. -/
theorem of_l0 (l : List ByteArray) (hs : ∀ x ∈ l, x.size ≤ 140737488351232) (hn : l.length ≤ 1000000000000) (d : Nat) : ∀ (k : Nat) (v : BitVec 32) (i : Int), 0 ≤ i → i ≤ l.length → (l.length : Int) - i = d → d < k →
    sum_Of.l0 k (val (~~~ v)) l (l.length : Int) i = some (val (~~~ crc v (catL (l.drop i.toNat)))) := by
  induction d with
  | zero =>
    intro k v i h0 h1 hd hk
    obtain ⟨k, rfl⟩ : ∃ m, k = m + 1 := ⟨k - 1, by omega⟩
    simp only [sum_Of.l0]
    rw [if_neg (by omega), List.drop_of_length_le (by omega)]
    rfl
  | succ d ih =>
    intro k v i h0 h1 hd hk
    obtain ⟨k, rfl⟩ : ∃ m, k = m + 1 := ⟨k - 1, by omega⟩
    simp only [sum_Of.l0]
    rw [if_pos (by omega), if_pos h0, if_pos (by omega)]
    have hj : i.toNat < l.length := by omega
    have hx : rdOf ByteArray.empty l i = l[i.toNat] := by
      unfold rdOf
      simp [List.getD, hj]
    rw [hx, on_val _ _ (hs _ (List.getElem_mem hj))]
    simp only [Option.bind_some]
    have e1 : wrap64 (i + 1) = i + 1 := by unfold wrap64; omega
    rw [B_val, BitVec.not_not, e1, ih k _ (i + 1) (by omega) (by omega) (by omega) (by omega)]
    have e2 : (i + 1).toNat = i.toNat + 1 := by omega
    rw [e2, List.drop_eq_getElem_cons hj]
    congr 3
    show _ = crc v (l[i.toNat].data.toList ++ catL (l.drop (i.toNat + 1)))
    rw [crc_append]
theorem ones : (~~~ (0#32) : BitVec 32) = BitVec.allOnes 32 := by decide
theorem of_f (k : Nat) (l : List ByteArray) (hs : ∀ x ∈ l, x.size ≤ 140737488351232) (hn : l.length ≤ 1000000000000) (hk : l.length < k) : sum_Of.f k l = some (val (~~~ crc (BitVec.allOnes 32) (catL l))) := by
  unfold sum_Of.f
  have h := of_l0 l hs hn l.length k (BitVec.allOnes 32) 0 (by omega) (by omega) (by omega) hk
  have e : val (~~~ BitVec.allOnes 32) = 0 := by decide
  rw [e] at h
  rw [h]
  rfl
theorem of_one (k : Nat) (s : ByteArray) (hs : s.size ≤ 140737488351232) (hk : 1 < k) : sum_Of.f k [s] = some (val (~~~ crc (BitVec.allOnes 32) s.data.toList)) := by
  rw [of_f k [s] (by simpa using hs) (by simp) (by simpa using hk)]
  simp [catL]
theorem alive_f (k : Nat) (hk : 1 < k) : penelopelaw02_alive.f k = some true := by
  unfold penelopelaw02_alive.f
  rw [of_one k _ (by decide) hk]
  have e : val (~~~ crc (BitVec.allOnes 32) [49, 50, 51, 52, 53, 54, 55, 56, 57]) = 3808858755 := by decide +kernel
  simp only [Option.bind_some]
  rw [e]
  rfl
theorem app_list (a b : ByteArray) : (a ++ b).data.toList = a.data.toList ++ b.data.toList := by simp
theorem tmod_in {x n : Int} (h0 : 0 ≤ x) (h : 0 < n) : 0 ≤ Int.tmod x n ∧ Int.tmod x n < n := by
  rw [Int.tmod_eq_emod_of_nonneg h0]
  exact ⟨Int.emod_nonneg _ (by omega), Int.emod_lt_of_pos _ h⟩
/-- A place in a text of n bits, out of any number. -/
theorem place_in {a n : Int} (h0 : 0 < n) (h1 : n ≤ 8000000000000) : 0 ≤ Int.tmod (wrap64 (Int.tmod a n + n)) n ∧ Int.tmod (wrap64 (Int.tmod a n + n)) n < n := by
  have l := Int.lt_tmod_of_pos a h0
  have u := Int.tmod_lt_of_pos a h0
  have e : wrap64 (Int.tmod a n + n) = Int.tmod a n + n := by unfold wrap64; omega
  rw [e]
  exact tmod_in (by omega) h0
theorem list_ne {s t : ByteArray} (h : s ≠ t) : s.data.toList ≠ t.data.toList := fun e => h (ByteArray.ext (Array.toList_inj.1 e))
/-- A number's four bytes, the lowest first. -/
def le4 (n : Int) : List Int := [n % 256, (n / 256) % 256, (n / 65536) % 256, (n / 16777216) % 256]
def sealB (s : ByteArray) : ByteArray := ⟨(s.data.toList ++ asB (le4 (val (~~~ crc (BitVec.allOnes 32) s.data.toList)))).toArray⟩
theorem sealB_list (s : ByteArray) : (sealB s).data.toList = s.data.toList ++ asB (le4 (val (~~~ crc (BitVec.allOnes 32) s.data.toList))) := by simp [sealB]
theorem sealB_size (s : ByteArray) : (sealB s).size = s.size + 4 := by
  rw [Go.Lib.size_eq, sealB_list, List.length_append, ← Go.Lib.size_eq]
  rfl
theorem seal_f (k : Nat) (s : ByteArray) (h : s.size ≤ 140737488351232) (hk : 1 < k) : sum_Seal.f k s = some (sealB s) := by
  unfold sum_Seal.f
  rw [of_one k s h hk]
  simp only [Option.bind_some]
  unfold code_All.f
  have e : catL [s, strOfNums [val (~~~ crc (BitVec.allOnes 32) s.data.toList) % 256, (val (~~~ crc (BitVec.allOnes 32) s.data.toList) / 256) % 256, (val (~~~ crc (BitVec.allOnes 32) s.data.toList) / 65536) % 256, (val (~~~ crc (BitVec.allOnes 32) s.data.toList) / 16777216) % 256]] = (sealB s).data.toList := by
    rw [sealB_list]
    simp only [catL, List.flatMap_cons, List.flatMap_nil, List.append_nil, strOfNums_list]
    rfl
  rw [e, if_pos]
  · rfl
  · rw [← Go.Lib.size_eq, sealB_size]
    simp
    omega
theorem take_size (s : ByteArray) (h : 4 ≤ s.size) : (s.extract 0 (s.size - 4)).size = s.size - 4 := by
  rw [ByteArray.size_extract]
  omega
/-- What Open comes to. -/
def openB (s : ByteArray) : ByteArray × Int := if s.size < 4 then (⟨#[]⟩, 3) else if (sealB (s.extract 0 (s.size - 4))).toList = s.toList then (s.extract 0 (s.size - 4), 0) else (⟨#[]⟩, 41)
theorem open_f (k : Nat) (s : ByteArray) (h : s.size ≤ 140737488351232) (hk : 1 < k) : sum_Open.f k s = some (openB s) := by
  have e : wrap64 ((s.size : Int) - 4) = (s.size : Int) - 4 := by unfold wrap64; omega
  unfold sum_Open.f openB
  rw [e]
  by_cases h4 : s.size < 4
  · rw [if_pos (by omega), if_pos h4]
  · have en : ((s.size : Int) - 4).toNat = s.size - 4 := by omega
    rw [if_neg (by omega), if_neg h4, if_pos (by omega), if_pos (by omega), en, seal_f k _ (by rw [take_size s (by omega)]; omega) hk]
    simp only [Option.bind_some]
    split <;> rfl
theorem list_inj {s t : ByteArray} (e : s.data.toList = t.data.toList) : s = t := ByteArray.ext (Array.toList_inj.1 e)
/-- A sealed text's first part is the text. -/
theorem seal_take (s : ByteArray) : (sealB s).extract 0 ((sealB s).size - 4) = s := by
  apply list_inj
  rw [Go.Lib.extract_data, sealB_list, sealB_size]
  have h1 : s.size = s.data.toList.length := Go.Lib.size_eq s
  rw [List.drop_zero, show s.size + 4 - 4 - 0 = s.data.toList.length from by omega]
  exact List.take_left
theorem open_seal (s : ByteArray) : openB (sealB s) = (s, 0) := by
  have := sealB_size s
  unfold openB
  rw [if_neg (by omega), seal_take, if_pos rfl]
theorem T8_at : ∀ b : Fin 256, T 8 (BitVec.ofNat 32 b.val <<< 8) = BitVec.ofNat 32 b.val := by decide +kernel
theorem T16_at : ∀ b : Fin 256, T 16 (BitVec.ofNat 32 b.val <<< 16) = BitVec.ofNat 32 b.val := by decide +kernel
theorem T24_at : ∀ b : Fin 256, T 24 (BitVec.ofNat 32 b.val <<< 24) = BitVec.ofNat 32 b.val := by decide +kernel
/-- A number out of its four bytes. -/
theorem four (v : BitVec 32) : v = BitVec.ofNat 32 (v.toNat % 256) ^^^ BitVec.ofNat 32 (v.toNat / 256 % 256) <<< 8 ^^^ BitVec.ofNat 32 (v.toNat / 65536 % 256) <<< 16 ^^^ BitVec.ofNat 32 (v.toNat / 16777216 % 256) <<< 24 := by
  apply BitVec.eq_of_getLsbD_eq
  intro i hi
  have e0 : v.getLsbD i = v.toNat.testBit i := (BitVec.testBit_toNat v).symm
  have q (n j : Nat) : (BitVec.ofNat 32 (n % 256)).getLsbD j = (decide (j < 32) && (decide (j < 8) && n.testBit j)) := by
    rw [BitVec.getLsbD_ofNat, show (256 : Nat) = 2 ^ 8 from rfl, Nat.testBit_mod_two_pow]
  have d (m j : Nat) : (v.toNat / 2 ^ m).testBit j = v.toNat.testBit (m + j) := by rw [Nat.testBit_div_two_pow, Nat.add_comm]
  rw [BitVec.getLsbD_xor, BitVec.getLsbD_xor, BitVec.getLsbD_xor, BitVec.getLsbD_shiftLeft, BitVec.getLsbD_shiftLeft, BitVec.getLsbD_shiftLeft, q, q, q, q, show (256 : Nat) = 2 ^ 8 from rfl, show (65536 : Nat) = 2 ^ 16 from rfl, show (16777216 : Nat) = 2 ^ 24 from rfl, d, d, d, e0]
  by_cases h1 : i < 8
  · simp [h1, hi, show i < 16 from by omega, show i < 24 from by omega]
  · by_cases h2 : i < 16
    · simp [h1, h2, hi, show i < 24 from by omega, show i - 8 < 8 from by omega, show i - 8 < 32 from by omega, show 8 + (i - 8) = i from by omega]
    · by_cases h3 : i < 24
      · simp [h1, h2, h3, hi, show ¬ (i - 8 < 8) from by omega, show i - 16 < 8 from by omega, show i - 16 < 32 from by omega, show 16 + (i - 16) = i from by omega]
      · simp [h1, h2, h3, hi, show ¬ (i - 8 < 8) from by omega, show ¬ (i - 16 < 8) from by omega, show i - 24 < 8 from by omega, show i - 24 < 32 from by omega, show 24 + (i - 24) = i from by omega]
/-- Four bytes of a number, behind a register. -/
theorem crc_le4 (c v : BitVec 32) : crc c (asB (le4 (val v))) = T 32 (c ^^^ v) := by
  have hv := v.isLt
  have b (n : Nat) : (UInt8.ofNat (n % 256)).toNat = n % 256 := UInt8.toNat_ofNat_of_lt' (by show n % 256 < 256; omega)
  have el : asB (le4 (val v)) = [UInt8.ofNat (v.toNat % 256), UInt8.ofNat (v.toNat / 256 % 256), UInt8.ofNat (v.toNat / 65536 % 256), UInt8.ofNat (v.toNat / 16777216 % 256)] := by
    unfold asB le4 val
    simp only [List.map_cons, List.map_nil]
    have h1 : ((v.toNat : Int) % 256).toNat = v.toNat % 256 := by omega
    have h2 : ((v.toNat : Int) / 256 % 256).toNat = v.toNat / 256 % 256 := by omega
    have h3 : ((v.toNat : Int) / 65536 % 256).toNat = v.toNat / 65536 % 256 := by omega
    have h4 : ((v.toNat : Int) / 16777216 % 256).toNat = v.toNat / 16777216 % 256 := by omega
    rw [h1, h2, h3, h4]
  have g8 := T8_at ⟨v.toNat / 256 % 256, by omega⟩
  have g16 := T16_at ⟨v.toNat / 65536 % 256, by omega⟩
  have g24 := T24_at ⟨v.toNat / 16777216 % 256, by omega⟩
  simp only at g8 g16 g24
  rw [el, crc_cons, crc_cons, crc_cons, crc_cons, b, b, b, b]
  conv => rhs; rw [four v]
  generalize BitVec.ofNat 32 (v.toNat % 256) = b0
  generalize BitVec.ofNat 32 (v.toNat / 256 % 256) = b1 at g8 ⊢
  generalize BitVec.ofNat 32 (v.toNat / 65536 % 256) = b2 at g16 ⊢
  generalize BitVec.ofNat 32 (v.toNat / 16777216 % 256) = b3 at g24 ⊢
  show T 8 (T 8 (T 8 (T 8 (c ^^^ b0) ^^^ b1) ^^^ b2) ^^^ b3) = _
  rw [← BitVec.xor_assoc, ← BitVec.xor_assoc, ← BitVec.xor_assoc]
  simp only [T_xor]
  have k1 : T 32 (b1 <<< 8) = T 24 b1 := (T_add 24 8 _).trans (congrArg (T 24) g8)
  have k2 : T 32 (b2 <<< 16) = T 16 b2 := (T_add 16 16 _).trans (congrArg (T 16) g16)
  have k3 : T 32 (b3 <<< 24) = T 8 b3 := (T_add 8 24 _).trans (congrArg (T 8) g24)
  rw [k1, k2, k3]
  simp only [← T_add, Nat.reduceAdd]
/-- A sealed text's register is always the same. -/
theorem crc_seal (s : ByteArray) : crc (BitVec.allOnes 32) (sealB s).data.toList = T 32 (BitVec.allOnes 32) := by
  have xn (x : BitVec 32) : x ^^^ ~~~x = BitVec.allOnes 32 := by
    apply BitVec.eq_of_getLsbD_eq
    intro i hi
    rw [BitVec.getLsbD_xor, BitVec.getLsbD_not, BitVec.getLsbD_allOnes]
    cases x.getLsbD i <;> simp [hi]
  rw [sealB_list, crc_append, crc_le4, xn]
theorem SumTurned : penelopelaw02_SumTurned.Pure := by
  intro a0 a1 a2 h0 h1 h2
  have b2 := bounds_u32 h2
  obtain ⟨s, hs, ls⟩ := short_some a0 h0
  have hz := sealB_size s
  refine ⟨2, ?_⟩
  unfold penelopelaw02_SumTurned.f
  rw [hs]
  simp only [Option.bind_some]
  rw [seal_f 2 s (by omega) (by omega)]
  simp only [Option.bind_some]
  obtain ⟨a, ha⟩ : ∃ a, sealB s = a := ⟨_, rfl⟩
  have hr := crc_seal s
  have ho := open_seal s
  rw [ha] at hz hr ho ⊢
  have e1 : wrap64 (8 * (a.size : Int)) = 8 * a.size := by unfold wrap64; omega
  rw [if_neg (by omega), e1, if_neg (by omega)]
  obtain ⟨p0, p1⟩ := place_in (a := a1) (n := 8 * a.size) (by omega) (by omega)
  generalize Int.tmod (wrap64 (Int.tmod a1 (8 * a.size) + 8 * a.size)) (8 * a.size) = p at p0 p1
  obtain ⟨t, v, ht, lt, hc, hv⟩ := turned_law a p a2 p0 p1 (by omega) (by omega)
  rw [ht]
  simp only [Option.bind_some]
  rw [open_f 2 t (by omega) (by omega)]
  simp only [Option.bind_some]
  rw [alive_f 2 (by omega)]
  simp only [Option.bind_some, if_true]
  by_cases hv0 : v = 0#32
  · rw [hv hv0, ho]
    simp
  · have hne : t ≠ a := by
      intro e
      have h3 := hc (BitVec.allOnes 32)
      rw [e] at h3
      have e2 : crc (BitVec.allOnes 32) a.data.toList ^^^ crc (BitVec.allOnes 32) a.data.toList = crc (BitVec.allOnes 32) a.data.toList ^^^ (crc (BitVec.allOnes 32) a.data.toList ^^^ T (8 * a.size - p.toNat) v) := by rw [← h3]
      rw [← BitVec.xor_assoc, BitVec.xor_self, BitVec.zero_xor] at e2
      exact hv0 (T_kills _ e2.symm)
    have hop : openB t = (⟨#[]⟩, 41) := by
      unfold openB
      rw [if_neg (by omega), if_neg]
      intro e
      rw [Go.Lib.toList_data, Go.Lib.toList_data] at e
      have h3 := crc_seal (t.extract 0 (t.size - 4))
      rw [e, hc, hr] at h3
      have e2 : T 32 (BitVec.allOnes 32) ^^^ (T 32 (BitVec.allOnes 32) ^^^ T (8 * a.size - p.toNat) v) = T 32 (BitVec.allOnes 32) ^^^ T 32 (BitVec.allOnes 32) := by rw [h3]
      rw [← BitVec.xor_assoc, BitVec.xor_self, BitVec.zero_xor] at e2
      exact hv0 (T_kills _ e2)
    have hl : (t.toList == a.toList) = false := by
      rw [Go.Lib.toList_data, Go.Lib.toList_data]
      simpa using fun e => hne (list_inj e)
    rw [hop, hl]
    rfl
end Go.Proofs.Ytnadpefbimbggaa.Pure
