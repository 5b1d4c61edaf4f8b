/- SumJoins: the sum of parts is that of them all, one behind the other, and goes on from the first one's, for all texts. -/
import Derived.Test.YtnadpefbimbggaaXx5
import Derived.Test.YtnadpefbimbggaaTurn
import Derived.Test.YtnadpefbimbggaaXAll
import Derived.OpenShut
namespace Go.Proofs.Ytnadpefbimbggaa.Pure
open Go.RowKit Go.Proofs.Ytnadpefbimbggaa.X Go.Proofs.YtnadpefbimbggaaW.PrintWords Go.Proofs.YtnadpefbimbggaaW.PrintLast

theorem short_some (s : ByteArray) (h : s.size ≤ 140737488351232) : ∃ t, penelopelaw02_short.f s = some t ∧ t.size ≤ 5000 := by
  have e : mn (s.size : Int) 5000 = min (s.size : Int) 5000 := by unfold mn; split <;> omega
  unfold penelopelaw02_short.f
  rw [e, if_pos (by omega), if_pos (by omega)]
  refine ⟨_, rfl, ?_⟩
  rw [ByteArray.size_extract]
  omega
/-- The sum of parts: the register goes through all of them. -/
theorem of_l0 (l : List ByteArray) (hs : ∀ x ∈ l, x.size ≤ 140737488351232) (hn : l.length ≤ 1000000000000) (d : Nat) : ∀ (k : Nat) (v : BitVec 32) (i : Int), 0 ≤ i → i ≤ l.length → (l.length : Int) - i = d → d < k →
    sum_Of.l0 k (val (~~~ v)) l (l.length : Int) i = some (val (~~~ crc v (catL (l.drop i.toNat)))) := by
  induction d with
  | zero =>
    intro k v i h0 h1 hd hk
    obtain ⟨k, rfl⟩ : ∃ m, k = m + 1 := ⟨k - 1, by omega⟩
    simp only [sum_Of.l0]
    rw [if_neg (by omega), List.drop_of_length_le (by omega)]
    rfl
  | succ d ih =>
    intro k v i h0 h1 hd hk
    obtain ⟨k, rfl⟩ : ∃ m, k = m + 1 := ⟨k - 1, by omega⟩
    simp only [sum_Of.l0]
    rw [if_pos (by omega), if_pos h0, if_pos (by omega)]
    have hj : i.toNat < l.length := by omega
    have hx : rdOf ByteArray.empty l i = l[i.toNat] := by
      unfold rdOf
      simp [List.getD, hj]
    rw [hx, on_val _ _ (hs _ (List.getElem_mem hj))]
    simp only [Option.bind_some]
    have e1 : wrap64 (i + 1) = i + 1 := by unfold wrap64; omega
    rw [B_val, BitVec.not_not, e1, ih k _ (i + 1) (by omega) (by omega) (by omega) (by omega)]
    have e2 : (i + 1).toNat = i.toNat + 1 := by omega
    rw [e2, List.drop_eq_getElem_cons hj]
    congr 3
    show _ = crc v (l[i.toNat].data.toList ++ catL (l.drop (i.toNat + 1)))
    rw [crc_append]
theorem ones : (~~~ (0#32) : BitVec 32) = BitVec.allOnes 32 := by decide
theorem of_f (k : Nat) (l : List ByteArray) (hs : ∀ x ∈ l, x.size ≤ 140737488351232) (hn : l.length ≤ 1000000000000) (hk : l.length < k) : sum_Of.f k l = some (val (~~~ crc (BitVec.allOnes 32) (catL l))) := by
  unfold sum_Of.f
  have h := of_l0 l hs hn l.length k (BitVec.allOnes 32) 0 (by omega) (by omega) (by omega) hk
  have e : val (~~~ BitVec.allOnes 32) = 0 := by decide
  rw [e] at h
  rw [h]
  rfl
theorem of_one (k : Nat) (s : ByteArray) (hs : s.size ≤ 140737488351232) (hk : 1 < k) : sum_Of.f k [s] = some (val (~~~ crc (BitVec.allOnes 32) s.data.toList)) := by
  rw [of_f k [s] (by simpa using hs) (by simp) (by simpa using hk)]
  simp [catL]
theorem alive_f (k : Nat) (hk : 1 < k) : penelopelaw02_alive.f k = some true := by
  unfold penelopelaw02_alive.f
  rw [of_one k _ (by decide) hk]
  have e : val (~~~ crc (BitVec.allOnes 32) [49, 50, 51, 52, 53, 54, 55, 56, 57]) = 3808858755 := by decide +kernel
  simp only [Option.bind_some]
  rw [e]
  rfl
theorem app_list (a b : ByteArray) : (a ++ b).data.toList = a.data.toList ++ b.data.toList := by simp
theorem SumJoins : penelopelaw02_SumJoins.Pure := by
  intro a0 a1 a2 h0 h1 h2
  obtain ⟨a, ha, la⟩ := short_some a0 h0
  obtain ⟨b, hb, lb⟩ := short_some a1 h1
  obtain ⟨c, hc, lc⟩ := short_some a2 h2
  refine ⟨9, ?_⟩
  unfold penelopelaw02_SumJoins.f
  rw [ha]
  simp only [Option.bind_some]
  rw [hb]
  simp only [Option.bind_some]
  rw [hc]
  simp only [Option.bind_some]
  rw [alive_f 9 (by omega)]
  simp only [Option.bind_some, if_true]
  have sab : (a ++ b).size = a.size + b.size := ByteArray.size_append
  have sabc : (a ++ b ++ c).size = a.size + b.size + c.size := by rw [ByteArray.size_append, ByteArray.size_append]
  rw [of_f 9 [a, b, c] (by simp; omega) (by simp) (by simp)]
  simp only [Option.bind_some]
  rw [if_pos (by omega), if_pos (by omega), of_one 9 (a ++ b ++ c) (by omega) (by omega)]
  simp only [Option.bind_some]
  have e1 : catL [a, b, c] = (a ++ b ++ c).data.toList := by simp [catL]
  rw [e1, if_pos rfl, of_one 9 a (by omega) (by omega)]
  simp only [Option.bind_some]
  rw [on_val _ b (by omega), B_val, BitVec.not_not]
  simp only [Option.bind_some]
  rw [of_one 9 (a ++ b) (by omega) (by omega)]
  simp only [Option.bind_some]
  rw [app_list, crc_append, if_pos rfl, of_f 9 [] (by simp) (by simp) (by simp)]
  simp only [Option.bind_some]
  have e2 : val (~~~ crc (BitVec.allOnes 32) (catL [])) = 0 := by decide
  rw [if_pos e2, on_val 7 a (by omega)]
  simp only [Option.bind_some]
  rw [on_val _ b (by omega), B_val, BitVec.not_not]
  simp only [Option.bind_some]
  rw [on_val 7 (a ++ b) (by omega), app_list, crc_append]
  simp
end Go.Proofs.Ytnadpefbimbggaa.Pure
