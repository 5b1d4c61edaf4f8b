/- SumSeals: any text is sealed, and any bytes are opened, or refused, as the document says. -/
import Derived.Test.YtnadpefbimbggaaXx10
import Derived.Test.YtnadpefbimbggaaTurn
import Derived.Test.YtnadpefbimbggaaXAll
import Derived.OpenShut
namespace Go.Proofs.Ytnadpefbimbggaa.Pure
open Go.RowKit Go.Proofs.Ytnadpefbimbggaa.X Go.Proofs.YtnadpefbimbggaaW.PrintWords Go.Proofs.YtnadpefbimbggaaW.PrintLast

theorem short_some (s : ByteArray) (h : s.size ≤ 140737488351232) : ∃ t, penelopelaw02_short.f s = some t ∧ t.size ≤ 5000 := by
  have e : mn (s.size : Int) 5000 = min (s.size : Int) 5000 := by unfold mn; split <;> omega
  unfold penelopelaw02_short.f
  rw [e, if_pos (by omega), if_pos (by omega)]
  refine ⟨_, rfl, ?_⟩
  rw [ByteArray.size_extract]
  omega
/-- The sum of parts: the register goes through all of them. -/
theorem of_l0 (l : List ByteArray) (hs : ∀ x ∈ l, x.size ≤ 140737488351232) (hn : l.length ≤ 1000000000000) (d : Nat) : ∀ (k : Nat) (v : BitVec 32) (i : Int), 0 ≤ i → i ≤ l.length → (l.length : Int) - i = d → d < k →
    sum_Of.l0 k (val (~~~ v)) l (l.length : Int) i = some (val (~~~ crc v (catL (l.drop i.toNat)))) := by
  induction d with
  | zero =>
    intro k v i h0 h1 hd hk
    obtain ⟨k, rfl⟩ : ∃ m, k = m + 1 := ⟨k - 1, by omega⟩
    simp only [sum_Of.l0]
    rw [if_neg (by omega), List.drop_of_length_le (by omega)]
    rfl
  | succ d ih =>
    intro k v i h0 h1 hd hk
    obtain ⟨k, rfl⟩ : ∃ m, k = m + 1 := ⟨k - 1, by omega⟩
    simp only [sum_Of.l0]
    rw [if_pos (by omega), if_pos h0, if_pos (by omega)]
    have hj : i.toNat < l.length := by omega
    have hx : rdOf ByteArray.empty l i = l[i.toNat] := by
      unfold rdOf
      simp [List.getD, hj]
    rw [hx, on_val _ _ (hs _ (List.getElem_mem hj))]
    simp only [Option.bind_some]
    have e1 : wrap64 (i + 1) = i + 1 := by unfold wrap64; omega
    rw [B_val, BitVec.not_not, e1, ih k _ (i + 1) (by omega) (by omega) (by omega) (by omega)]
    have e2 : (i + 1).toNat = i.toNat + 1 := by omega
    rw [e2, List.drop_eq_getElem_cons hj]
    congr 3
    show _ = crc v (l[i.toNat].data.toList ++ catL (l.drop (i.toNat + 1)))
    rw [crc_append]
theorem ones : (~~~ (0#32) : BitVec 32) = BitVec.allOnes 32 := by decide
theorem of_f (k : Nat) (l : List ByteArray) (hs : ∀ x ∈ l, x.size ≤ 140737488351232) (hn : l.length ≤ 1000000000000) (hk : l.length < k) : sum_Of.f k l = some (val (~~~ crc (BitVec.allOnes 32) (catL l))) := by
  unfold sum_Of.f
  have h := of_l0 l hs hn l.length k (BitVec.allOnes 32) 0 (by omega) (by omega) (by omega) hk
  have e : val (~~~ BitVec.allOnes 32) = 0 := by decide
  rw [e] at h
  rw [h]
  rfl
theorem of_one (k : Nat) (s : ByteArray) (hs : s.size ≤ 140737488351232) (hk : 1 < k) : sum_Of.f k [s] = some (val (~~~ crc (BitVec.allOnes 32) s.data.toList)) := by
  rw [of_f k [s] (by simpa using hs) (by simp) (by simpa using hk)]
  simp [catL]
theorem alive_f (k : Nat) (hk : 1 < k) : penelopelaw02_alive.f k = some true := by
  unfold penelopelaw02_alive.f
  rw [of_one k _ (by decide) hk]
  have e : val (~~~ crc (BitVec.allOnes 32) [49, 50, 51, 52, 53, 54, 55, 56, 57]) = 3808858755 := by decide +kernel
  simp only [Option.bind_some]
  rw [e]
  rfl
theorem app_list (a b : ByteArray) : (a ++ b).data.toList = a.data.toList ++ b.data.toList := by simp
/-- A number's four bytes, the lowest first. -/
def le4 (n : Int) : List Int := [n % 256, (n / 256) % 256, (n / 65536) % 256, (n / 16777216) % 256]
def sealB (s : ByteArray) : ByteArray := ⟨(s.data.toList ++ asB (le4 (val (~~~ crc (BitVec.allOnes 32) s.data.toList)))).toArray⟩
theorem sealB_list (s : ByteArray) : (sealB s).data.toList = s.data.toList ++ asB (le4 (val (~~~ crc (BitVec.allOnes 32) s.data.toList))) := by simp [sealB]
theorem sealB_size (s : ByteArray) : (sealB s).size = s.size + 4 := by
  rw [Go.Lib.size_eq, sealB_list, List.length_append, ← Go.Lib.size_eq]
  rfl
theorem seal_f (k : Nat) (s : ByteArray) (h : s.size ≤ 140737488351232) (hk : 1 < k) : sum_Seal.f k s = some (sealB s) := by
  unfold sum_Seal.f
  rw [of_one k s h hk]
  simp only [Option.bind_some]
  unfold code_All.f
  have e : catL [s, strOfNums [val (~~~ crc (BitVec.allOnes 32) s.data.toList) % 256, (val (~~~ crc (BitVec.allOnes 32) s.data.toList) / 256) % 256, (val (~~~ crc (BitVec.allOnes 32) s.data.toList) / 65536) % 256, (val (~~~ crc (BitVec.allOnes 32) s.data.toList) / 16777216) % 256]] = (sealB s).data.toList := by
    rw [sealB_list]
    simp only [catL, List.flatMap_cons, List.flatMap_nil, List.append_nil, strOfNums_list]
    rfl
  rw [e, if_pos]
  · rfl
  · rw [← Go.Lib.size_eq, sealB_size]
    simp
    omega
theorem take_size (s : ByteArray) (h : 4 ≤ s.size) : (s.extract 0 (s.size - 4)).size = s.size - 4 := by
  rw [ByteArray.size_extract]
  omega
/-- What Open comes to. -/
def openB (s : ByteArray) : ByteArray × Int := if s.size < 4 then (⟨#[]⟩, 3) else if (sealB (s.extract 0 (s.size - 4))).toList = s.toList then (s.extract 0 (s.size - 4), 0) else (⟨#[]⟩, 41)
theorem open_f (k : Nat) (s : ByteArray) (h : s.size ≤ 140737488351232) (hk : 1 < k) : sum_Open.f k s = some (openB s) := by
  have e : wrap64 ((s.size : Int) - 4) = (s.size : Int) - 4 := by unfold wrap64; omega
  unfold sum_Open.f openB
  rw [e]
  by_cases h4 : s.size < 4
  · rw [if_pos (by omega), if_pos h4]
  · have en : ((s.size : Int) - 4).toNat = s.size - 4 := by omega
    rw [if_neg (by omega), if_neg h4, if_pos (by omega), if_pos (by omega), en, seal_f k _ (by rw [take_size s (by omega)]; omega) hk]
    simp only [Option.bind_some]
    split <;> rfl
theorem list_inj {s t : ByteArray} (e : s.data.toList = t.data.toList) : s = t := ByteArray.ext (Array.toList_inj.1 e)
/-- A sealed text's first part is the text. -/
theorem seal_take (s : ByteArray) : (sealB s).extract 0 ((sealB s).size - 4) = s := by
  apply list_inj
  rw [Go.Lib.extract_data, sealB_list, sealB_size]
  have h1 : s.size = s.data.toList.length := Go.Lib.size_eq s
  rw [List.drop_zero, show s.size + 4 - 4 - 0 = s.data.toList.length from by omega]
  exact List.take_left
theorem open_seal (s : ByteArray) : openB (sealB s) = (s, 0) := by
  have := sealB_size s
  unfold openB
  rw [if_neg (by omega), seal_take, if_pos rfl]
theorem refSeal_f (s : ByteArray) (h : s.size ≤ 140737488351232) : peneloperef02_Seal.f s = some (sealB s) := by
  have e0 : (~~~ B 0 : BitVec 32) = BitVec.allOnes 32 := by decide
  unfold peneloperef02_Seal.f peneloperef02_Of.f
  rw [refOn_val (by omega) s h, e0]
  simp only [Option.bind_some]
  have hr := val_range (~~~ crc (BitVec.allOnes 32) s.data.toList)
  obtain ⟨n, hn⟩ : ∃ n, val (~~~ crc (BitVec.allOnes 32) s.data.toList) = n := ⟨_, rfl⟩
  rw [hn] at hr ⊢
  have el : ([Int.tmod n 256 % 256, Int.tdiv n 256 % 4294967296 % 256, Int.tdiv n 65536 % 4294967296 % 256, Int.tdiv n 16777216 % 4294967296 % 256] : List Int) = le4 n := by
    unfold le4
    rw [Int.tmod_eq_emod_of_nonneg hr.1, Int.tdiv_eq_ediv_of_nonneg hr.1, Int.tdiv_eq_ediv_of_nonneg hr.1, Int.tdiv_eq_ediv_of_nonneg hr.1]
    have h1 : n % 256 % 256 = n % 256 := by omega
    have h2 : n / 256 % 4294967296 % 256 = n / 256 % 256 := by omega
    have h3 : n / 65536 % 4294967296 % 256 = n / 65536 % 256 := by omega
    have h4 : n / 16777216 % 4294967296 % 256 = n / 16777216 % 256 := by omega
    rw [h1, h2, h3, h4]
  rw [el, if_pos (by rw [strOfNums_size]; simp [le4]; omega)]
  congr 1
  apply list_inj
  rw [app_list, sealB_list, hn, strOfNums_list]
theorem refOpen_f (s : ByteArray) (h : s.size ≤ 140737488351232) : peneloperef02_Open.f s = some (openB s) := by
  have e : wrap64 ((s.size : Int) - 4) = (s.size : Int) - 4 := by unfold wrap64; omega
  unfold peneloperef02_Open.f openB
  rw [e]
  by_cases h4 : s.size < 4
  · rw [if_pos (by omega), if_pos h4]
  · have en : ((s.size : Int) - 4).toNat = s.size - 4 := by omega
    rw [if_neg (by omega), if_neg h4, if_pos (by omega), if_pos (by omega), en, refSeal_f _ (by rw [take_size s (by omega)]; omega)]
    simp only [Option.bind_some]
    split <;> rfl
theorem SumSeals : penelopelaw02_SumSeals.Pure := by
  intro a0 h0
  obtain ⟨s, hs, ls⟩ := short_some a0 h0
  refine ⟨2, ?_⟩
  unfold penelopelaw02_SumSeals.f
  rw [hs]
  simp only [Option.bind_some]
  rw [open_f 2 s (by omega) (by omega)]
  simp only [Option.bind_some]
  rw [refOpen_f s (by omega)]
  simp only [Option.bind_some]
  rw [alive_f 2 (by omega)]
  simp only [Option.bind_some, if_true]
  rw [seal_f 2 s (by omega) (by omega)]
  simp only [Option.bind_some]
  rw [refSeal_f s (by omega)]
  simp
end Go.Proofs.Ytnadpefbimbggaa.Pure
