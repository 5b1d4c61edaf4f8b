/- SumBursts: a text of which bits within 32 are turned has another sum, for every text, place and pattern. -/
import Derived.Test.YtnadpefbimbggaaXx6
import Derived.Test.YtnadpefbimbggaaTurn
import Derived.Test.YtnadpefbimbggaaXAll
import Derived.OpenShut
namespace Go.Proofs.Ytnadpefbimbggaa.Pure
open Go.RowKit Go.Proofs.Ytnadpefbimbggaa.X Go.Proofs.YtnadpefbimbggaaW.PrintWords Go.Proofs.YtnadpefbimbggaaW.PrintLast

theorem short_some (s : ByteArray) (h : s.size ≤ 140737488351232) : ∃ t, penelopelaw02_short.f s = some t ∧ t.size ≤ 5000 := by
  have e : mn (s.size : Int) 5000 = min (s.size : Int) 5000 := by unfold mn; split <;> omega
  unfold penelopelaw02_short.f
  rw [e, if_pos (by omega), if_pos (by omega)]
  refine ⟨_, rfl, ?_⟩
  rw [ByteArray.size_extract]
  omega
/-- The sum of parts: the register goes through all of them. -/
theorem of_l0 (l : List ByteArray) (hs : ∀ x ∈ l, x.size ≤ 140737488351232) (hn : l.length ≤ 1000000000000) (d : Nat) : ∀ (k : Nat) (v : BitVec 32) (i : Int), 0 ≤ i → i ≤ l.length → (l.length : Int) - i = d → d < k →
    sum_Of.l0 k (val (~~~ v)) l (l.length : Int) i = some (val (~~~ crc v (catL (l.drop i.toNat)))) := by
  induction d with
  | zero =>
    intro k v i h0 h1 hd hk
    obtain ⟨k, rfl⟩ : ∃ m, k = m + 1 := ⟨k - 1, by omega⟩
    simp only [sum_Of.l0]
    rw [if_neg (by omega), List.drop_of_length_le (by omega)]
    rfl
  | succ d ih =>
    intro k v i h0 h1 hd hk
    obtain ⟨k, rfl⟩ : ∃ m, k = m + 1 := ⟨k - 1, by omega⟩
    simp only [sum_Of.l0]
    rw [if_pos (by omega), if_pos h0, if_pos (by omega)]
    have hj : i.toNat < l.length := by omega
    have hx : rdOf ByteArray.empty l i = l[i.toNat] := by
      unfold rdOf
      simp [List.getD, hj]
    rw [hx, on_val _ _ (hs _ (List.getElem_mem hj))]
    simp only [Option.bind_some]
    have e1 : wrap64 (i + 1) = i + 1 := by unfold wrap64; omega
    rw [B_val, BitVec.not_not, e1, ih k _ (i + 1) (by omega) (by omega) (by omega) (by omega)]
    have e2 : (i + 1).toNat = i.toNat + 1 := by omega
    rw [e2, List.drop_eq_getElem_cons hj]
    congr 3
    show _ = crc v (l[i.toNat].data.toList ++ catL (l.drop (i.toNat + 1)))
    rw [crc_append]
theorem ones : (~~~ (0#32) : BitVec 32) = BitVec.allOnes 32 := by decide
theorem of_f (k : Nat) (l : List ByteArray) (hs : ∀ x ∈ l, x.size ≤ 140737488351232) (hn : l.length ≤ 1000000000000) (hk : l.length < k) : sum_Of.f k l = some (val (~~~ crc (BitVec.allOnes 32) (catL l))) := by
  unfold sum_Of.f
  have h := of_l0 l hs hn l.length k (BitVec.allOnes 32) 0 (by omega) (by omega) (by omega) hk
  have e : val (~~~ BitVec.allOnes 32) = 0 := by decide
  rw [e] at h
  rw [h]
  rfl
theorem of_one (k : Nat) (s : ByteArray) (hs : s.size ≤ 140737488351232) (hk : 1 < k) : sum_Of.f k [s] = some (val (~~~ crc (BitVec.allOnes 32) s.data.toList)) := by
  rw [of_f k [s] (by simpa using hs) (by simp) (by simpa using hk)]
  simp [catL]
theorem alive_f (k : Nat) (hk : 1 < k) : penelopelaw02_alive.f k = some true := by
  unfold penelopelaw02_alive.f
  rw [of_one k _ (by decide) hk]
  have e : val (~~~ crc (BitVec.allOnes 32) [49, 50, 51, 52, 53, 54, 55, 56, 57]) = 3808858755 := by decide +kernel
  simp only [Option.bind_some]
  rw [e]
  rfl
theorem app_list (a b : ByteArray) : (a ++ b).data.toList = a.data.toList ++ b.data.toList := by simp
theorem tmod_in {x n : Int} (h0 : 0 ≤ x) (h : 0 < n) : 0 ≤ Int.tmod x n ∧ Int.tmod x n < n := by
  rw [Int.tmod_eq_emod_of_nonneg h0]
  exact ⟨Int.emod_nonneg _ (by omega), Int.emod_lt_of_pos _ h⟩
/-- A place in a text of n bits, out of any number. -/
theorem place_in {a n : Int} (h0 : 0 < n) (h1 : n ≤ 8000000000000) : 0 ≤ Int.tmod (wrap64 (Int.tmod a n + n)) n ∧ Int.tmod (wrap64 (Int.tmod a n + n)) n < n := by
  have l := Int.lt_tmod_of_pos a h0
  have u := Int.tmod_lt_of_pos a h0
  have e : wrap64 (Int.tmod a n + n) = Int.tmod a n + n := by unfold wrap64; omega
  rw [e]
  exact tmod_in (by omega) h0
theorem list_ne {s t : ByteArray} (h : s ≠ t) : s.data.toList ≠ t.data.toList := fun e => h (ByteArray.ext (Array.toList_inj.1 e))
theorem SumBursts : penelopelaw02_SumBursts.Pure := by
  intro a0 a1 a2 h0 h1 h2
  have b2 := bounds_u32 h2
  obtain ⟨s, hs, ls⟩ := short_some a0 h0
  refine ⟨2, ?_⟩
  unfold penelopelaw02_SumBursts.f
  rw [hs]
  simp only [Option.bind_some]
  by_cases hz : (s.size : Int) = 0
  · rw [if_pos hz, alive_f 2 (by omega)]
    rfl
  · have e1 : wrap64 (8 * (s.size : Int)) = 8 * s.size := by unfold wrap64; omega
    rw [if_neg hz, e1, if_neg (by omega)]
    obtain ⟨p0, p1⟩ := place_in (a := a1) (n := 8 * s.size) (by omega) (by omega)
    generalize Int.tmod (wrap64 (Int.tmod a1 (8 * s.size) + 8 * s.size)) (8 * s.size) = p at p0 p1
    obtain ⟨t, v, ht, lt, hc, hv⟩ := turned_law s p a2 p0 p1 (by omega) (by omega)
    rw [ht]
    simp only [Option.bind_some]
    rw [alive_f 2 (by omega)]
    simp only [Option.bind_some, if_true]
    rw [of_one 2 s (by omega) (by omega)]
    simp only [Option.bind_some]
    rw [of_one 2 t (by omega) (by omega)]
    simp only [Option.bind_some]
    by_cases hz : v = 0#32
    · rw [hv hz]; simp
    · have hne : crc (BitVec.allOnes 32) t.data.toList ≠ crc (BitVec.allOnes 32) s.data.toList := by
        rw [hc]
        intro e
        have e2 : crc (BitVec.allOnes 32) s.data.toList ^^^ (crc (BitVec.allOnes 32) s.data.toList ^^^ T (8 * s.size - p.toNat) v) = crc (BitVec.allOnes 32) s.data.toList ^^^ crc (BitVec.allOnes 32) s.data.toList := by rw [e]
        rw [← BitVec.xor_assoc, BitVec.xor_self, BitVec.zero_xor] at e2
        exact hz (T_kills _ e2)
      have h3 : val (~~~ crc (BitVec.allOnes 32) s.data.toList) ≠ val (~~~ crc (BitVec.allOnes 32) t.data.toList) := by
        intro e
        have := congrArg (fun x => ~~~ x) (val_inj e)
        simp only [BitVec.not_not] at this
        exact hne this.symm
      have h4 : s.toList ≠ t.toList := by
        rw [Go.Lib.toList_data, Go.Lib.toList_data]
        intro e
        rw [e] at hne
        exact hne rfl
      have f1 : (val (~~~ crc (BitVec.allOnes 32) s.data.toList) == val (~~~ crc (BitVec.allOnes 32) t.data.toList)) = false := by simpa using h3
      have f2 : (s.toList == t.toList) = false := by simpa using h4
      rw [f1, f2]
      rfl
end Go.Proofs.Ytnadpefbimbggaa.Pure
