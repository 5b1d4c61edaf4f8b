/- What turning bits within 32 does to a text's register. Plain laws, no program. -/
import Derived.Test.YtnadpefbimbggaaCrc
namespace Go.Proofs.Ytnadpefbimbggaa
open Go.RowKit Go.Proofs.YtnadpefbimbggaaW.PrintWords

/-- Numbers as bytes. -/
def asB (xs : List Int) : List UInt8 := xs.map fun x => UInt8.ofNat x.toNat
def AreBytes (xs : List Int) : Prop := ∀ x ∈ xs, 0 ≤ x ∧ x ≤ 255

theorem flip_byte {x : Int} (h : 0 ≤ x ∧ x ≤ 255) (m : Nat) (hm : m < 8) :
    let y := Go.bits .xor .u8 x (2 ^ m % 256)
    (0 ≤ y ∧ y ≤ 255) ∧ BitVec.ofNat 32 (UInt8.ofNat y.toNat).toNat = BitVec.ofNat 32 (UInt8.ofNat x.toNat).toNat ^^^ 1#32 <<< m := by
  have e : Go.bits .xor .u8 x (2 ^ m % 256) = ((x.toNat ^^^ 2 ^ m : Nat) : Int) := by
    unfold Go.bits
    rw [IntKind.wrap_u8]
    have h1 : (BitVec.ofInt 8 x).toNat = x.toNat := by simp; omega
    have h2 : (BitVec.ofInt 8 (2 ^ m % 256)).toNat = 2 ^ m := by
      have : ∀ m : Fin 8, (BitVec.ofInt 8 (2 ^ m.val % 256)).toNat = 2 ^ m.val := by decide
      exact this ⟨m, hm⟩
    show ((BitVec.ofInt 8 x ^^^ BitVec.ofInt 8 (2 ^ m % 256)).toNat : Int) % 256 = _
    have h3 := (BitVec.ofInt 8 x ^^^ BitVec.ofInt 8 (2 ^ m % 256)).isLt
    rw [Int.emod_eq_of_lt (by omega) (by omega), BitVec.toNat_xor, h1, h2]
  have hlt : x.toNat ^^^ 2 ^ m < 2 ^ 8 := Nat.xor_lt_two_pow (by omega) (Nat.pow_lt_pow_right (by omega) hm)
  have hq : (0 : Int) ≤ ((x.toNat ^^^ 2 ^ m : Nat) : Int) ∧ ((x.toNat ^^^ 2 ^ m : Nat) : Int) ≤ 255 := by
    generalize x.toNat ^^^ 2 ^ m = q at hlt
    constructor
    · exact Int.natCast_nonneg _
    · have : q ≤ 255 := by omega
      exact Int.ofNat_le.2 this
  intro y
  have hy : y = ((x.toNat ^^^ 2 ^ m : Nat) : Int) := e
  rw [hy]
  refine ⟨hq, ?_⟩
  have e1 : (UInt8.ofNat ((x.toNat ^^^ 2 ^ m : Nat) : Int).toNat).toNat = x.toNat ^^^ 2 ^ m := by
    rw [Int.toNat_natCast]
    exact UInt8.toNat_ofNat_of_lt' hlt
  have e2 : (UInt8.ofNat x.toNat).toNat = x.toNat := UInt8.toNat_ofNat_of_lt' (by show x.toNat < 256; omega)
  rw [e1, e2]
  apply BitVec.eq_of_getLsbD_eq
  intro i hi
  rw [BitVec.getLsbD_xor, BitVec.getLsbD_ofNat, BitVec.getLsbD_ofNat, Nat.testBit_xor, Nat.testBit_two_pow]
  have : (1#32 <<< m).getLsbD i = decide (m = i) := by
    rw [BitVec.getLsbD_shiftLeft]
    by_cases h1 : m = i
    · subst h1; simp; omega
    · by_cases h2 : i < m
      · simp [h1, h2]
      · have : i - m ≠ 0 := by omega
        simp [h1, h2, BitVec.getLsbD_one, this]
  rw [this]
  simp [hi]

theorem crc_turnAt (c : BitVec 32) (xs : List Int) (hx : AreBytes xs) (k : Int) (h0 : 0 ≤ k) (h1 : k < 8 * xs.length) :
    AreBytes (turnAt xs k) ∧ crc c (asB (turnAt xs k)) = crc c (asB xs) ^^^ T (8 * xs.length - k.toNat) 1#32 := by
  have hj : (k / 8).toNat < xs.length := by omega
  have hg : xs.getD (k / 8).toNat 0 = xs[(k / 8).toNat] := by simp [List.getD, hj]
  obtain ⟨hr, hb⟩ := flip_byte (hx _ (List.getElem_mem hj)) (k % 8).toNat (by omega)
  unfold turnAt
  rw [hg]
  constructor
  · intro x hm
    rcases List.mem_or_eq_of_mem_set hm with hm | hm
    · exact hx x hm
    · rw [hm]; exact hr
  · have e1 : asB xs = asB (xs.take (k / 8).toNat) ++ UInt8.ofNat (xs[(k / 8).toNat]).toNat :: asB (xs.drop ((k / 8).toNat + 1)) := by
      have : xs = xs.take (k / 8).toNat ++ xs[(k / 8).toNat] :: xs.drop ((k / 8).toNat + 1) := by rw [← List.drop_eq_getElem_cons hj, List.take_append_drop]
      conv => lhs; rw [this]
      simp only [asB, List.map_append, List.map_cons]
    have e2 : asB (xs.set (k / 8).toNat (Go.bits .xor .u8 xs[(k / 8).toNat] (2 ^ (k % 8).toNat % 256))) = asB (xs.take (k / 8).toNat) ++ UInt8.ofNat (Go.bits .xor .u8 xs[(k / 8).toNat] (2 ^ (k % 8).toNat % 256)).toNat :: asB (xs.drop ((k / 8).toNat + 1)) := by
      rw [List.set_eq_take_append_cons_drop, if_pos hj]
      simp only [asB, List.map_append, List.map_cons]
    rw [e2, e1, crc_flip c _ _ _ _ (k % 8).toNat (by omega) hb]
    congr 2
    simp [asB]
    omega

/-- Is the i-th bit turned? -/
def turns (n : Nat) (fr pat : Int) (i : Nat) : Prop := 0 ≤ wrap64 (fr + i) ∧ wrap64 (fr + i) < 8 * n ∧ (pat / 2 ^ i).tmod 2 = 1
instance (n : Nat) (fr pat : Int) (i : Nat) : Decidable (turns n fr pat i) := by unfold turns; infer_instance
/-- The bits that are turned. -/
def turnedBits (n : Nat) (fr pat : Int) : Nat → BitVec 32
  | 0 => 0#32
  | i + 1 => if turns n fr pat i then turnedBits n fr pat i ^^^ 1#32 <<< i else turnedBits n fr pat i

theorem turnedBits_at (n : Nat) (fr pat : Int) : ∀ i, i ≤ 32 → ∀ j, (turnedBits n fr pat i).getLsbD j = (decide (j < i) && decide (turns n fr pat j)) := by
  intro i
  induction i with
  | zero => intro _ j; simp [turnedBits]
  | succ i ih =>
    intro hi j
    have hs : (1#32 <<< i).getLsbD j = decide (j = i) := by
      rw [BitVec.getLsbD_shiftLeft]
      by_cases h1 : j = i
      · subst h1; simp; omega
      · by_cases h2 : j < i
        · simp [h1, h2]
        · have : j - i ≠ 0 := by omega
          simp [h1, h2, BitVec.getLsbD_one, this]
    unfold turnedBits
    by_cases ht : turns n fr pat i
    · rw [if_pos ht, BitVec.getLsbD_xor, ih (by omega), hs]
      by_cases h1 : j = i
      · subst h1; simp [ht]
      · by_cases h2 : j < i
        · simp [h1, h2, show j < i + 1 from by omega]
        · simp [h1, h2, show ¬ j < i + 1 from by omega]
    · rw [if_neg ht, ih (by omega)]
      by_cases h1 : j = i
      · subst h1; simp [ht]
      · by_cases h2 : j < i
        · simp [h2, show j < i + 1 from by omega]
        · simp [h2, show ¬ j < i + 1 from by omega]

theorem crc_turnIter (c : BitVec 32) (xs : List Int) (hx : AreBytes xs) (fr pat : Int) (h0 : 0 ≤ fr) (h1 : fr < 8 * xs.length) (h2 : xs.length ≤ 1000000000000) : ∀ i, i ≤ 32 →
    AreBytes (turnIter fr pat xs i) ∧ crc c (asB (turnIter fr pat xs i)) = crc c (asB xs) ^^^ T (8 * xs.length - fr.toNat) (turnedBits xs.length fr pat i) := by
  intro i
  induction i with
  | zero => intro _; exact ⟨hx, by simp [turnIter, turnedBits, T_zero]⟩
  | succ i ih =>
    intro hi
    obtain ⟨ha, hc⟩ := ih (by omega)
    have hl := turnIter_length fr pat xs i
    have hw : wrap64 (fr + i) = fr + i := by unfold wrap64; omega
    unfold turnIter turnStep turnedBits
    by_cases ht : turns xs.length fr pat i
    · rw [if_pos (by rw [hl]; exact ht), if_pos ht]
      obtain ⟨t1, t2, _⟩ := ht
      rw [hw] at t1 t2 ⊢
      obtain ⟨hb, he⟩ := crc_turnAt c _ ha (fr + i) t1 (by rw [hl]; exact t2)
      refine ⟨hb, ?_⟩
      rw [he, hc, hl, T_xor, BitVec.xor_assoc]
      congr 2
      obtain ⟨q, hq⟩ : ∃ q, 8 * xs.length - fr.toNat = q + i := ⟨8 * xs.length - fr.toNat - i, by omega⟩
      rw [hq, T_add, T_shift (by omega)]
      congr 1
      omega
    · rw [if_neg (by rw [hl]; exact ht), if_neg ht]
      exact ⟨ha, hc⟩

theorem turnIter_same (xs : List Int) (fr pat : Int) : ∀ i, (∀ j, j < i → ¬ turns xs.length fr pat j) → turnIter fr pat xs i = xs := by
  intro i
  induction i with
  | zero => intro _; rfl
  | succ i ih =>
    intro h
    unfold turnIter turnStep
    rw [ih (fun j hj => h j (by omega))]
    exact if_neg (h i (by omega))

theorem asB_bytesOf (s : ByteArray) : asB (bytesOf s) = s.data.toList := by
  unfold asB bytesOf
  rw [List.map_map]
  conv => rhs; rw [← List.map_id s.data.toList]
  apply List.map_congr_left
  intro b _
  simp
theorem areBytes_bytesOf (s : ByteArray) : AreBytes (bytesOf s) := by
  intro x hx
  unfold bytesOf at hx
  obtain ⟨b, _, rfl⟩ := List.mem_map.1 hx
  have := b.toNat_lt
  omega
theorem strOfNums_list (xs : List Int) : (strOfNums xs).data.toList = asB xs := by
  simp [strOfNums, asB]

/-- A text of which bits within 32 are turned: its register, from wherever; it is the text itself if none is turned. -/
theorem turned_law (s : ByteArray) (fr pat : Int) (h0 : 0 ≤ fr) (h1 : fr < 8 * s.size) (h2 : s.size ≤ 1000000000000) (hp : 0 ≤ pat) :
    ∃ t v, peneloperef02_Turned.f s fr pat = some t ∧ t.size = s.size ∧ (∀ c, crc c t.data.toList = crc c s.data.toList ^^^ T (8 * s.size - fr.toNat) v) ∧ (v = 0#32 → t = s) := by
  have hl := bytesOf_length s
  refine ⟨_, turnedBits s.size fr pat 32, by unfold peneloperef02_Turned.f; rw [if_pos ⟨by omega, hp⟩], ?_, fun c => ?_, fun hv => ?_⟩
  · rw [strOfNums_size, turnIter_length, hl]
  · rw [strOfNums_list, ← asB_bytesOf s, (crc_turnIter c (bytesOf s) (areBytes_bytesOf s) fr pat h0 (by rw [hl]; exact h1) (by omega) 32 (Nat.le_refl _)).2, hl]
  · rw [turnIter_same]
    · apply ByteArray.ext
      apply Array.toList_inj.1
      rw [strOfNums_list, asB_bytesOf]
    · intro j hj ht
      have := turnedBits_at s.size fr pat 32 (Nat.le_refl _) j
      rw [hv] at this
      rw [hl] at ht
      simp [hj, ht] at this
end Go.Proofs.Ytnadpefbimbggaa
