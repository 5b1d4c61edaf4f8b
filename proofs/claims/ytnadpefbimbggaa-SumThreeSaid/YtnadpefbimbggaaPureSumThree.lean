/- The pure statement of SumThree: the sums of three texts of one length make that of the bits that are 1 in just one or all three of them. -/
import Derived.Test.YtnadpefbimbggaaYx3
import Derived.Test.YtnadpefbimbggaaCrc
import Derived.Test.YtnadpefbimbggaaXAll
import Derived.OpenShut
namespace Go.Proofs.Ytnadpefbimbggaa.Pure
open Go.RowKit Go.Proofs.Ytnadpefbimbggaa.Y Go.Proofs.YtnadpefbimbggaaW.PrintWords Go.Proofs.YtnadpefbimbggaaW.PrintLast
set_option linter.unusedVariables false

/-- The sum of parts: the register goes through all of them. -/
theorem of_l0 (l : List ByteArray) (hs : ∀ x ∈ l, x.size ≤ 140737488351232) (hn : l.length ≤ 1000000000000) (d : Nat) : ∀ (k : Nat) (v : BitVec 32) (i : Int), 0 ≤ i → i ≤ l.length → (l.length : Int) - i = d → d < k →
    sum_Of.l0 k (val (~~~ v)) l (l.length : Int) i = some (val (~~~ crc v (catL (l.drop i.toNat)))) := by
  induction d with
  | zero =>
    intro k v i h0 h1 hd hk
    obtain ⟨k, rfl⟩ : ∃ m, k = m + 1 := ⟨k - 1, by omega⟩
    simp only [sum_Of.l0]
    rw [if_neg (by omega), List.drop_of_length_le (by omega)]
    rfl
  | succ d ih =>
    intro k v i h0 h1 hd hk
    obtain ⟨k, rfl⟩ : ∃ m, k = m + 1 := ⟨k - 1, by omega⟩
    simp only [sum_Of.l0]
    rw [if_pos (by omega), if_pos h0, if_pos (by omega)]
    have hj : i.toNat < l.length := by omega
    have hx : rdOf ByteArray.empty l i = l[i.toNat] := by
      unfold rdOf
      simp [List.getD, hj]
    rw [hx, on_val _ _ (hs _ (List.getElem_mem hj))]
    simp only [Option.bind_some]
    have e1 : wrap64 (i + 1) = i + 1 := by unfold wrap64; omega
    rw [B_val, BitVec.not_not, e1, ih k _ (i + 1) (by omega) (by omega) (by omega) (by omega)]
    have e2 : (i + 1).toNat = i.toNat + 1 := by omega
    rw [e2, List.drop_eq_getElem_cons hj]
    congr 3
    show _ = crc v (l[i.toNat].data.toList ++ catL (l.drop (i.toNat + 1)))
    rw [crc_append]
theorem ones : (~~~ (0#32) : BitVec 32) = BitVec.allOnes 32 := by decide
theorem of_f (k : Nat) (l : List ByteArray) (hs : ∀ x ∈ l, x.size ≤ 140737488351232) (hn : l.length ≤ 1000000000000) (hk : l.length < k) : sum_Of.f k l = some (val (~~~ crc (BitVec.allOnes 32) (catL l))) := by
  unfold sum_Of.f
  have h := of_l0 l hs hn l.length k (BitVec.allOnes 32) 0 (by omega) (by omega) (by omega) hk
  have e : val (~~~ BitVec.allOnes 32) = 0 := by decide
  rw [e] at h
  rw [h]
  rfl
theorem of_one (k : Nat) (s : ByteArray) (hs : s.size ≤ 140737488351232) (hk : 1 < k) : sum_Of.f k [s] = some (val (~~~ crc (BitVec.allOnes 32) s.data.toList)) := by
  rw [of_f k [s] (by simpa using hs) (by simp) (by simpa using hk)]
  simp [catL]
theorem alive_f (k : Nat) (hk : 1 < k) : penelopelaw02_alive.f k = some true := by
  unfold penelopelaw02_alive.f
  rw [of_one k _ (by decide) hk]
  have e : val (~~~ crc (BitVec.allOnes 32) [49, 50, 51, 52, 53, 54, 55, 56, 57]) = 3808858755 := by decide +kernel
  simp only [Option.bind_some]
  rw [e]
  rfl
/-- Three bytes' exclusive or. -/
def X3 (a b c : ByteArray) (j : Nat) : Int := Go.bits .xor .u8 (Go.bits .xor .u8 (bt a (j : Int)) (bt b (j : Int))) (bt c (j : Int))
theorem x8 {x y : Int} (hx : 0 ≤ x ∧ x ≤ 255) (hy : 0 ≤ y ∧ y ≤ 255) : Go.bits .xor .u8 x y = ((x.toNat ^^^ y.toNat : Nat) : Int) ∧ x.toNat ^^^ y.toNat < 256 := by
  have hlt : x.toNat ^^^ y.toNat < 2 ^ 8 := Nat.xor_lt_two_pow (by omega) (by omega)
  refine ⟨?_, hlt⟩
  unfold Go.bits
  rw [IntKind.wrap_u8]
  have h1 : (BitVec.ofInt 8 x).toNat = x.toNat := by simp; omega
  have h2 : (BitVec.ofInt 8 y).toNat = y.toNat := by simp; omega
  show ((BitVec.ofInt 8 x ^^^ BitVec.ofInt 8 y).toNat : Int) % 256 = _
  have h3 := (BitVec.ofInt 8 x ^^^ BitVec.ofInt 8 y).isLt
  rw [Int.emod_eq_of_lt (by omega) (by omega), BitVec.toNat_xor, h1, h2]
theorem x3_val (a b c : ByteArray) (j : Nat) : (X3 a b c j).toNat = (bt a (j : Int)).toNat ^^^ (bt b (j : Int)).toNat ^^^ (bt c (j : Int)).toNat ∧ (X3 a b c j).toNat < 256 := by
  have h1 := x8 (bt_range a (j : Int)) (bt_range b (j : Int))
  have h2 := x8 (x := Go.bits .xor .u8 (bt a (j : Int)) (bt b (j : Int))) (y := bt c (j : Int)) (by rw [h1.1]; omega) (bt_range c (j : Int))
  unfold X3
  rw [h2.1, h1.1]
  rw [h1.1] at h2
  simp only [Int.toNat_natCast] at h2 ⊢
  exact ⟨by first | rfl | trivial, h2.2⟩
/-- The register is linear: three texts of one length. -/
theorem crc_three : ∀ (n : Nat) (X A B C : Nat → UInt8) (s : Nat) (p q r : BitVec 32), (∀ j, BitVec.ofNat 32 (X j).toNat = BitVec.ofNat 32 (A j).toNat ^^^ BitVec.ofNat 32 (B j).toNat ^^^ BitVec.ofNat 32 (C j).toNat) →
    crc (p ^^^ q ^^^ r) ((List.range' s n).map X) = crc p ((List.range' s n).map A) ^^^ crc q ((List.range' s n).map B) ^^^ crc r ((List.range' s n).map C)
  | 0, _, _, _, _, _, _, _, _, _ => rfl
  | n + 1, X, A, B, C, s, p, q, r, h => by
    rw [List.range'_succ, List.map_cons, List.map_cons, List.map_cons, List.map_cons, crc_cons, crc_cons, crc_cons, crc_cons, ← crc_three n X A B C (s + 1) _ _ _ h]
    congr 1
    rw [h s, ← T_xor, ← T_xor]
    congr 1
    ac_rfl
theorem take_map (s : ByteArray) (n : Nat) (hn : n ≤ s.size) : (s.extract 0 n).data.toList = (List.range' 0 n).map (fun j : Nat => UInt8.ofNat (bt s (j : Int)).toNat) := by
  apply List.ext_getElem
  · rw [← Go.Lib.size_eq, ByteArray.size_extract, List.length_map, List.length_range']
    omega
  · intro i h1 h2
    rw [List.length_map, List.length_range'] at h2
    have e1 : (s.extract 0 n).data.toList = s.data.toList.take n := by
      rw [ByteArray.data_extract, Array.toList_extract, List.extract_eq_take_drop]
      simp
    have hi : i < s.size := by omega
    simp only [e1, List.getElem_take, List.getElem_map, List.getElem_range', Nat.zero_add, Nat.one_mul]
    unfold bt
    rw [dif_pos (by rw [Int.toNat_natCast]; exact hi)]
    simp only [Int.toNat_natCast]
    exact UInt8.ofNat_toNat.symm
theorem three_l0 (a b c : ByteArray) (n : Nat) (h1 : n ≤ a.size) (h2 : n ≤ b.size) (h3 : n ≤ c.size) (hn : n ≤ 5000) : ∀ m i q (xs : List Int), i + m = n → xs.length = n → (∀ (j : Nat) (hj : j < xs.length), j < i → xs[j] = X3 a b c j) →
    penelopelaw02_SumThree.l0 (q + m + 1) a b c xs (n : Int) (i : Int) = penelopelaw02_SumThree.l0 (q + 1) a b c ((List.range' 0 n).map (X3 a b c)) (n : Int) (n : Int) := by
  intro m
  induction m with
  | zero =>
    intro i q xs hi hl hx
    obtain rfl : i = n := by omega
    have e : xs = (List.range' 0 i).map (X3 a b c) := by
      apply List.ext_getElem
      · rw [List.length_map, List.length_range', hl]
      · intro j g1 g2
        rw [hx j g1 (by omega)]
        simp
    rw [e]
  | succ m ih =>
    intro i q xs hi hl hx
    rw [show q + (m + 1) + 1 = (q + m + 1) + 1 by omega, penelopelaw02_SumThree.l0, if_pos (by omega), if_pos (by omega), if_pos (by omega), if_pos (by omega), if_pos (by omega), if_pos (by omega), Int.toNat_natCast, show wrap64 ((i : Int) + 1) = ((i + 1 : Nat) : Int) by unfold wrap64; omega]
    refine ih (i + 1) q _ (by omega) (by rw [List.length_set]; exact hl) (fun j hj hji => ?_)
    rw [List.getElem_set]
    by_cases e : i = j
    · subst e
      rw [if_pos rfl]
      rfl
    · rw [if_neg e]
      rw [List.length_set] at hj
      exact hx j hj (by omega)
theorem SumThree : penelopelaw02_SumThree.Pure := by
  intro a b c ha hb hc
  refine ⟨6000, ?_⟩
  unfold penelopelaw02_SumThree.f
  have h : 0 ≤ mn (mn (mn (a.size : Int) (b.size : Int)) (c.size : Int)) 5000 ∧ mn (mn (mn (a.size : Int) (b.size : Int)) (c.size : Int)) 5000 ≤ a.size ∧ mn (mn (mn (a.size : Int) (b.size : Int)) (c.size : Int)) 5000 ≤ b.size ∧ mn (mn (mn (a.size : Int) (b.size : Int)) (c.size : Int)) 5000 ≤ c.size ∧ mn (mn (mn (a.size : Int) (b.size : Int)) (c.size : Int)) 5000 ≤ 5000 := by
    unfold mn
    refine ⟨?_, ?_, ?_, ?_, ?_⟩ <;> (repeat' split) <;> omega
  generalize mn (mn (mn (a.size : Int) (b.size : Int)) (c.size : Int)) 5000 = n at *
  obtain ⟨n, rfl⟩ : ∃ m : Nat, n = m := ⟨n.toNat, by omega⟩
  obtain ⟨h0, h1, h2, h3, h4⟩ := h
  rw [if_pos h0, Int.toNat_natCast, if_pos (by omega), Option.bind_some, List.length_replicate]
  have e := three_l0 a b c n (by omega) (by omega) (by omega) (by omega) n 0 (5999 - n) (List.replicate n 0) (by omega) (by simp) (fun j _ hj => by omega)
  rw [show 5999 - n + n + 1 = 6000 by omega, show ((0 : Nat) : Int) = 0 from rfl] at e
  rw [e, penelopelaw02_SumThree.l0, if_neg (by omega), alive_f _ (by omega), Option.bind_some, if_pos rfl, Int.toNat_natCast]
  have sz : ∀ s : ByteArray, (n : Int) ≤ s.size → (s.extract 0 n).size ≤ 140737488351232 := by
    intro s hs
    rw [ByteArray.size_extract]
    omega
  have ex : (strOfNums ((List.range' 0 n).map (X3 a b c))).data.toList = (List.range' 0 n).map (fun j => UInt8.ofNat (X3 a b c j).toNat) := by
    show ((List.range' 0 n).map (X3 a b c)).map (fun x => UInt8.ofNat x.toNat) = _
    rw [List.map_map]
    rfl
  have sx : (strOfNums ((List.range' 0 n).map (X3 a b c))).size ≤ 140737488351232 := by
    rw [Go.Lib.size_eq, ex, List.length_map, List.length_range']
    omega
  rw [of_one _ _ sx (by omega), of_one _ _ (sz a h1) (by omega), of_one _ _ (sz b h2) (by omega), of_one _ _ (sz c h3) (by omega), Option.bind_some, Option.bind_some, Option.bind_some, Option.bind_some, ex, take_map a n (by omega), take_map b n (by omega), take_map c n (by omega)]
  have hl := crc_three n (fun j => UInt8.ofNat (X3 a b c j).toNat) (fun j => UInt8.ofNat (bt a (j : Int)).toNat) (fun j => UInt8.ofNat (bt b (j : Int)).toNat) (fun j => UInt8.ofNat (bt c (j : Int)).toNat) 0 (BitVec.allOnes 32) (BitVec.allOnes 32) (BitVec.allOnes 32) (fun j => by
    obtain ⟨v1, v2⟩ := x3_val a b c j
    have r1 := bt_range a (j : Int)
    have r2 := bt_range b (j : Int)
    have r3 := bt_range c (j : Int)
    have t : ∀ q : Nat, q < 256 → (UInt8.ofNat q).toNat = q := fun q hq => UInt8.toNat_ofNat_of_lt' hq
    rw [t _ v2, t _ (by omega), t _ (by omega), t _ (by omega), v1]
    apply BitVec.eq_of_getLsbD_eq
    intro i hi
    simp only [BitVec.getLsbD_xor, BitVec.getLsbD_ofNat, Nat.testBit_xor, hi, decide_true, Bool.true_and])
  rw [show (BitVec.allOnes 32 ^^^ BitVec.allOnes 32 ^^^ BitVec.allOnes 32 : BitVec 32) = BitVec.allOnes 32 by decide] at hl
  rw [hl, xor_val, xor_val, B_val, B_val, B_val, B_val]
  generalize crc (BitVec.allOnes 32) _ = p
  generalize crc (BitVec.allOnes 32) _ = q
  generalize crc (BitVec.allOnes 32) _ = r
  have e2 : (~~~(p ^^^ q ^^^ r) : BitVec 32) = ~~~p ^^^ ~~~q ^^^ ~~~r := by
    apply BitVec.eq_of_getLsbD_eq
    intro i hi
    simp only [BitVec.getLsbD_xor, BitVec.getLsbD_not, hi, decide_true, Bool.true_and]
    cases p.getLsbD i <;> cases q.getLsbD i <;> cases r.getLsbD i <;> rfl
  rw [e2]
  simp
end Go.Proofs.Ytnadpefbimbggaa.Pure
