/- The sum's register as a linear map: what one bit and one byte do to it. Plain laws, no program. -/
import Derived.Test.YtnadpefbimbggaaXOn
import Derived.Test.YtnadpefbimbggaaXRefOn
import Derived.Test.YtnadpefbimbggaaXTurned
namespace Go.Proofs.Ytnadpefbimbggaa
open Go.RowKit Go.Proofs.YtnadpefbimbggaaW.PrintWords

abbrev B (x : Int) : BitVec 32 := BitVec.ofInt 32 x
def val (v : BitVec 32) : Int := v.toNat
def poly : BitVec 32 := 0x82f63b78#32
/-- One bit's step of the register. -/
def M (v : BitVec 32) : BitVec 32 := (v >>> 1) ^^^ (if v.getLsbD 0 then poly else 0#32)
def T : Nat → BitVec 32 → BitVec 32
  | 0, v => v
  | n + 1, v => M (T n v)

theorem B_val (v : BitVec 32) : B (val v) = v := by
  apply BitVec.eq_of_toNat_eq
  simp [B, val]
theorem val_range (v : BitVec 32) : 0 ≤ val v ∧ val v ≤ 4294967295 := by
  have := v.isLt
  unfold val
  omega
theorem val_B {x : Int} (h : 0 ≤ x ∧ x ≤ 4294967295) : val (B x) = x := by
  simp [B, val]
  omega
theorem val_inj {a b : BitVec 32} (h : val a = val b) : a = b := by
  apply BitVec.eq_of_toNat_eq
  unfold val at h
  omega
theorem xor_val (x y : Int) : Go.bits .xor .u32 x y = val (B x ^^^ B y) := by
  unfold Go.bits
  rw [IntKind.wrap_u32]
  have := (B x ^^^ B y).isLt
  show (((B x ^^^ B y).toNat : Int)) % 4294967296 = _
  unfold val
  omega
theorem and_val (x y : Int) : Go.bits .and .u32 x y = val (B x &&& B y) := by
  unfold Go.bits
  rw [IntKind.wrap_u32]
  have := (B x &&& B y).isLt
  show (((B x &&& B y).toNat : Int)) % 4294967296 = _
  unfold val
  omega
theorem B_half {c : Int} (h : 0 ≤ c ∧ c ≤ 4294967295) : B (c / 2) = B c >>> 1 := by
  apply BitVec.eq_of_toNat_eq
  simp [B, BitVec.toNat_ushiftRight, Nat.shiftRight_eq_div_pow]
  omega
theorem and_one (v : BitVec 32) : v &&& 1#32 = if v.getLsbD 0 then 1#32 else 0#32 := by
  apply BitVec.eq_of_getLsbD_eq
  intro i hi
  cases i with
  | zero =>
    rw [BitVec.getLsbD_and]
    cases v.getLsbD 0 <;> rfl
  | succ i => cases h : v.getLsbD 0 <;> simp
theorem step_val {c : Int} (h : 0 ≤ c ∧ c ≤ 4294967295) : stepI c = val (M (B c)) := by
  unfold stepI
  rw [and_val c 1, xor_val, and_val, B_half h, B_val]
  have e : B (-(val (B c &&& B 1)) % 4294967296) = -(B c &&& 1#32) := by
    have := (B c &&& 1#32).isLt
    apply BitVec.eq_of_toNat_eq
    show (BitVec.ofInt 32 (-(val (B c &&& 1#32)) % 4294967296)).toNat = _
    rw [BitVec.toNat_neg]
    unfold val
    simp
    omega
  rw [e, and_one]
  congr 1
  unfold M
  congr 1
  cases (B c).getLsbD 0 with
  | true => decide
  | false => decide
theorem M_xor (a b : BitVec 32) : M (a ^^^ b) = M a ^^^ M b := by
  unfold M
  rw [BitVec.getLsbD_xor, BitVec.ushiftRight_xor_distrib]
  generalize a >>> 1 = a'
  generalize b >>> 1 = b'
  cases a.getLsbD 0 <;> cases b.getLsbD 0
  all_goals
    apply BitVec.eq_of_getLsbD_eq
    intro i hi
    simp only [Bool.xor_false, Bool.xor_true, Bool.not_true, Bool.not_false, if_true, BitVec.getLsbD_xor, Bool.false_eq_true, if_false, BitVec.getLsbD_zero]
    try (generalize a'.getLsbD i = p; generalize b'.getLsbD i = q; generalize poly.getLsbD i = r; cases p <;> cases q <;> cases r <;> rfl)
theorem T_xor (n : Nat) (a b : BitVec 32) : T n (a ^^^ b) = T n a ^^^ T n b := by
  induction n with
  | zero => rfl
  | succ n ih => rw [T, ih, M_xor]; rfl
theorem M_zero : M 0#32 = 0#32 := by decide
theorem T_zero (n : Nat) : T n 0#32 = 0#32 := by
  induction n with
  | zero => rfl
  | succ n ih => rw [T, ih, M_zero]
theorem M_kills {v : BitVec 32} (h : M v = 0#32) : v = 0#32 := by
  have h31 : (M v).getLsbD 31 = false := by rw [h]; rfl
  unfold M at h h31
  rw [BitVec.getLsbD_xor] at h31
  cases h0 : v.getLsbD 0 with
  | true => rw [h0] at h31; simp [poly] at h31
  | false =>
    rw [h0] at h
    simp at h
    apply BitVec.eq_of_getLsbD_eq
    intro i hi
    cases i with
    | zero => simpa using h0
    | succ i =>
      have := congrArg (fun x => x.getLsbD i) h
      simpa [Nat.add_comm] using this
theorem T_kills (n : Nat) {v : BitVec 32} (h : T n v = 0#32) : v = 0#32 := by
  induction n with
  | zero => exact h
  | succ n ih => exact ih (M_kills h)
theorem xor_zero_eq {a b : BitVec 32} (h : a ^^^ b = 0#32) : a = b := by
  have : a ^^^ b ^^^ b = 0#32 ^^^ b := by rw [h]
  simpa [BitVec.xor_assoc] using this
theorem T_inj (n : Nat) {a b : BitVec 32} (h : T n a = T n b) : a = b := by
  apply xor_zero_eq
  apply T_kills n
  rw [T_xor, h]
  simp
theorem T_add (m n : Nat) (v : BitVec 32) : T (m + n) v = T m (T n v) := by
  induction m with
  | zero => simp [T]
  | succ m ih => rw [Nat.succ_add, T, ih, T]
theorem T_one : ∀ m : Fin 33, T m.val (1#32 <<< m.val) = if m.val < 32 then 1#32 else 0#32 := by decide +kernel
theorem T_shift {m : Nat} (h : m < 32) : T m (1#32 <<< m) = 1#32 := by
  have := T_one ⟨m, by omega⟩
  simp only at this
  rw [this, if_pos h]

/-- The register behind a text. -/
def crc (c : BitVec 32) (bs : List UInt8) : BitVec 32 := bs.foldl (fun c b => T 8 (c ^^^ BitVec.ofNat 32 b.toNat)) c
theorem crc_append (c : BitVec 32) (a b : List UInt8) : crc c (a ++ b) = crc (crc c a) b := by simp [crc]
theorem crc_cons (c : BitVec 32) (b : UInt8) (bs : List UInt8) : crc c (b :: bs) = crc (T 8 (c ^^^ BitVec.ofNat 32 b.toNat)) bs := rfl
theorem crc_xor (bs : List UInt8) : ∀ (c d : BitVec 32), crc (c ^^^ d) bs = crc c bs ^^^ T (8 * bs.length) d := by
  induction bs with
  | nil => intro c d; rfl
  | cons b bs ih =>
    intro c d
    rw [crc_cons, crc_cons]
    have e : c ^^^ d ^^^ BitVec.ofNat 32 b.toNat = c ^^^ BitVec.ofNat 32 b.toNat ^^^ d := by
      rw [BitVec.xor_assoc, BitVec.xor_comm d, ← BitVec.xor_assoc]
    rw [e, T_xor, ih, List.length_cons]
    congr 1
    rw [show 8 * (bs.length + 1) = 8 * bs.length + 8 from by omega, T_add]
theorem iter_val {c : Int} (h : 0 ≤ c ∧ c ≤ 4294967295) (n : Nat) : iterI n c = val (T n (B c)) := by
  induction n with
  | zero => exact (val_B h).symm
  | succ n ih =>
    rw [iterI, step_val (iterI_range n c h), ih, B_val, T]
theorem byte_val (c : Int) (b : UInt8) : byteI c b = val (T 8 (B c ^^^ BitVec.ofNat 32 b.toNat)) := by
  unfold byteI
  rw [xor_val, iter_val (val_range _), B_val]
  have hb := b.toNat_lt
  congr 3
  apply BitVec.eq_of_toNat_eq
  simp [B]
  omega
theorem fold_val (bs : List UInt8) : ∀ (c : Int), 0 ≤ c ∧ c ≤ 4294967295 → foldI c bs = val (crc (B c) bs) := by
  induction bs with
  | nil => intro c h; exact (val_B h).symm
  | cons b bs ih =>
    intro c h
    show foldI (byteI c b) bs = _
    rw [byte_val, ih _ (val_range _), B_val, crc_cons]
theorem max32 : IntKind.u32.max = 4294967295 := by decide
theorem not_val (x : Int) : Go.bits .xor .u32 IntKind.u32.max x = val (~~~ B x) := by
  rw [max32, xor_val]
  congr 1
/-- What On comes to. -/
theorem on_val (a0 : Int) (a1 : ByteArray) (h : a1.size ≤ 140737488351232) : sum_On.f a0 a1 = some (val (~~~ crc (~~~ B a0) a1.data.toList)) := by
  unfold sum_On.f
  rw [if_pos h, not_val, not_val, fold_val _ _ (val_range _), B_val, B_val]

/-! The document's own steps are the same. -/
theorem low_bit {c : Int} (h : 0 ≤ c ∧ c ≤ 4294967295) : (c % 2 = 1) ↔ ((B c).getLsbD 0 = true) := by
  have e : (B c).toNat = c.toNat := by simp [B]; omega
  rw [← BitVec.testBit_toNat, e, Nat.testBit_zero, decide_eq_true_eq]
  omega
theorem bit_at (b : UInt8) (m : Nat) : ((b.toNat : Int) / 2 ^ m % 2 = 1) ↔ (b.toNat.testBit m = true) := by
  have e : ((b.toNat / 2 ^ m % 2 : Nat) : Int) = (b.toNat : Int) / 2 ^ m % 2 := by simp
  rw [Nat.testBit_eq_decide_div_mod_eq, decide_eq_true_eq]
  omega
theorem ref_step {c : Int} (h : 0 ≤ c ∧ c ≤ 4294967295) (b : UInt8) (m : Nat) : refStep c b m = val (M (B c ^^^ (if b.toNat.testBit m then 1#32 else 0#32))) := by
  have hb := bit_at b m
  have hc := low_bit h
  have hx : Go.bits .xor .u32 (c / 2) 2197175160 = val (B c >>> 1 ^^^ poly) := by rw [xor_val, B_half h]; rfl
  have hh : val (B c >>> 1) = c / 2 := by rw [← B_half h, val_B (by omega)]
  unfold refStep
  rw [hx, ← hh]
  unfold M
  rw [BitVec.getLsbD_xor, BitVec.ushiftRight_xor_distrib]
  clear hx hh
  by_cases h0 : (B c).getLsbD 0 = true <;> by_cases h1 : b.toNat.testBit m = true
  · have a1 := hc.2 h0
    have a2 := hb.2 h1
    rw [if_pos (by omega), h0, h1]
    simp
  · have a1 := hc.2 h0
    have a2 : ¬ ((b.toNat : Int) / 2 ^ m % 2 = 1) := fun z => h1 (hb.1 z)
    rw [if_neg (by omega), h0, Bool.eq_false_iff.2 h1]
    simp
  · have a1 : ¬ (c % 2 = 1) := fun z => h0 (hc.1 z)
    have a2 := hb.2 h1
    rw [if_neg (by omega), Bool.eq_false_iff.2 h0, h1]
    simp
  · have a1 : ¬ (c % 2 = 1) := fun z => h0 (hc.1 z)
    have a2 : ¬ ((b.toNat : Int) / 2 ^ m % 2 = 1) := fun z => h1 (hb.1 z)
    rw [if_pos (by omega), Bool.eq_false_iff.2 h0, Bool.eq_false_iff.2 h1]
    simp

/-- The lowest m bits of a byte. -/
def low (b : UInt8) (m : Nat) : BitVec 32 := BitVec.ofNat 32 (b.toNat % 2 ^ m)
theorem low_succ (b : UInt8) {m : Nat} (h : m < 8) : low b (m + 1) = low b m ^^^ (if b.toNat.testBit m then 1#32 <<< m else 0#32) := by
  apply BitVec.eq_of_getLsbD_eq
  intro i hi
  unfold low
  rw [BitVec.getLsbD_xor, BitVec.getLsbD_ofNat, BitVec.getLsbD_ofNat, Nat.testBit_mod_two_pow, Nat.testBit_mod_two_pow]
  have e : (if b.toNat.testBit m then 1#32 <<< m else 0#32).getLsbD i = (b.toNat.testBit m && decide (i = m)) := by
    cases b.toNat.testBit m with
    | false => simp
    | true =>
      simp only [if_true, Bool.true_and]
      rw [BitVec.getLsbD_shiftLeft]
      by_cases h1 : i = m
      · subst h1; simp [hi]
      · by_cases h2 : i < m
        · simp [h1, h2]
        · have : i - m ≠ 0 := by omega
          simp [h1, h2, BitVec.getLsbD_one, this]
  rw [e]
  by_cases h1 : i = m
  · subst h1; simp [hi]
  · by_cases h2 : i < m
    · simp [h1, h2, hi, show i < m + 1 from by omega]
    · simp [h1, h2, show ¬ i < m + 1 from by omega]
theorem ref_iter {c : Int} (h : 0 ≤ c ∧ c ≤ 4294967295) (b : UInt8) : ∀ m, m ≤ 8 → refIter c b m = val (T m (B c ^^^ low b m)) := by
  intro m
  induction m with
  | zero =>
    intro _
    show c = _
    have : low b 0 = 0#32 := by unfold low; rw [Nat.pow_zero, Nat.mod_one]
    rw [this]
    simp [T, val_B h]
  | succ m ih =>
    intro hm
    show refStep (refIter c b m) b m = _
    rw [ref_step (refIter_range c b h m), ih (by omega), B_val, low_succ b (by omega), T]
    congr 2
    rw [← BitVec.xor_assoc, T_xor m (B c ^^^ low b m)]
    congr 1
    cases b.toNat.testBit m with
    | true => simp only [if_true]; rw [T_shift (by omega)]
    | false => simp [T_zero]
theorem ref_fold (bs : List UInt8) : ∀ (c : Int), 0 ≤ c ∧ c ≤ 4294967295 → refFold c bs = val (crc (B c) bs) := by
  induction bs with
  | nil => intro c h; exact (val_B h).symm
  | cons b bs ih =>
    intro c h
    show refFold (refIter c b 8) bs = _
    have hl : low b 8 = BitVec.ofNat 32 b.toNat := by
      unfold low
      rw [Nat.mod_eq_of_lt b.toNat_lt]
    rw [ref_iter h b 8 (Nat.le_refl _), ih _ (val_range _), B_val, hl, crc_cons]
theorem neg_val {x : Int} (h : 0 ≤ x ∧ x ≤ 4294967295) : (4294967295 - x) % 4294967296 = val (~~~ B x) := by
  unfold val
  rw [BitVec.toNat_not]
  have e : (B x).toNat = x.toNat := by simp [B]; omega
  rw [e]
  omega
/-- What the document's On comes to: the same. -/
theorem refOn_val {a0 : Int} (h0 : 0 ≤ a0 ∧ a0 ≤ 4294967295) (a1 : ByteArray) (h : a1.size ≤ 140737488351232) : peneloperef02_On.f a0 a1 = some (val (~~~ crc (~~~ B a0) a1.data.toList)) := by
  unfold peneloperef02_On.f
  rw [if_pos h, neg_val h0, ref_fold _ _ (val_range _), neg_val (val_range _), B_val, B_val]
/-! One bit of a text turned. -/
/-- A bit turned in a text: the register is another one, by what the bit makes on its way to the end. -/
theorem crc_flip (c : BitVec 32) (pre post : List UInt8) (b b' : UInt8) (m : Nat) (hm : m < 8) (hb : BitVec.ofNat 32 b'.toNat = BitVec.ofNat 32 b.toNat ^^^ 1#32 <<< m) :
    crc c (pre ++ b' :: post) = crc c (pre ++ b :: post) ^^^ T (8 * post.length + 8 - m) 1#32 := by
  rw [crc_append, crc_append, crc_cons, crc_cons, hb, ← BitVec.xor_assoc, T_xor, crc_xor]
  congr 1
  rw [← T_add]
  obtain ⟨q, hq⟩ : ∃ q, 8 * post.length + 8 = q + m := ⟨8 * post.length + 8 - m, by omega⟩
  rw [hq, T_add, T_shift (by omega), Nat.add_sub_cancel]
end Go.Proofs.Ytnadpefbimbggaa
