/- The document's sum, bit by bit (peneloperef02.On): what the machine's call comes to, as a plain function. -/
import Derived.Test.YtnadpefbimbggaaXOn
namespace Go.Proofs.Ytnadpefbimbggaa
open Go.RowKit Go.Proofs.YtnadpefbimbggaaW.PrintWords

def refStep (c : Int) (b : UInt8) (m : Nat) : Int := if c % 2 = (b.toNat : Int) / 2 ^ m % 2 then c / 2 else Go.bits .xor .u32 (c / 2) 2197175160
def refIter (c : Int) (b : UInt8) : Nat → Int
  | 0 => c
  | m + 1 => refStep (refIter c b m) b m
def refFold (c : Int) (bs : List UInt8) : Int := bs.foldl (fun c b => refIter c b 8) c
def peneloperef02_On.f (a0 : Int) (a1 : ByteArray) : Option Int := if a1.size ≤ 140737488351232 then some ((4294967295 - refFold ((4294967295 - a0) % 4294967296) a1.data.toList) % 4294967296) else none

theorem refStep_range (c : Int) (b : UInt8) (m : Nat) (h : 0 ≤ c ∧ c ≤ 4294967295) : 0 ≤ refStep c b m ∧ refStep c b m ≤ 4294967295 := by
  unfold refStep
  split
  · omega
  · exact bits_range _ _ _
theorem refIter_range (c : Int) (b : UInt8) (h : 0 ≤ c ∧ c ≤ 4294967295) (m : Nat) : 0 ≤ refIter c b m ∧ refIter c b m ≤ 4294967295 := by
  induction m with
  | zero => exact h
  | succ m ih => exact refStep_range _ _ _ ih
theorem refFold_range (c : Int) (bs : List UInt8) (h : 0 ≤ c ∧ c ≤ 4294967295) : 0 ≤ refFold c bs ∧ refFold c bs ≤ 4294967295 := by
  induction bs generalizing c with
  | nil => exact h
  | cons b bs ih => exact ih _ (refIter_range c b h 8)
theorem refFold_snoc (c : Int) (s : ByteArray) (k : Nat) (h : k < s.size) : refFold c (s.data.toList.take (k + 1)) = refIter (refFold c (s.data.toList.take k)) (s[k]'h) 8 := by
  have e : s.data.toList.take (k + 1) = s.data.toList.take k ++ [s[k]'h] := by
    rw [List.take_succ_eq_append_getElem (by simpa using h)]
    rfl
  rw [e]
  simp [refFold]

theorem bit_mod (b : UInt8) (m : Nat) : ((b.toNat : Int) % 4294967296 / 2 ^ m).tmod 2 = (b.toNat : Int) / 2 ^ m % 2 := by
  have h := b.toNat_lt
  rw [Int.emod_eq_of_lt (by omega) (by omega), Int.tmod_eq_emod_of_nonneg]
  exact Int.ediv_nonneg (by omega) (by have : (0 : Int) < 2 ^ m := Int.pow_pos (by omega)
                                       omega)
theorem step_ne {c : Int} {b : UInt8} {m : Nat} (h : (c % 2 != ((b.toNat : Int) % 4294967296 / 2 ^ m).tmod 2) = true) : Go.bits .xor .u32 (c / 2) 2197175160 = refStep c b m := by
  rw [bit_mod] at h
  unfold refStep
  rw [if_neg (by simpa using h)]
theorem step_eq {c : Int} {b : UInt8} {m : Nat} (h : (c % 2 != ((b.toNat : Int) % 4294967296 / 2 ^ m).tmod 2) = false) : c / 2 = refStep c b m := by
  rw [bit_mod] at h
  unfold refStep
  rw [if_pos (by simpa using h)]

set_option maxHeartbeats 1000000 in
set_option maxRecDepth 100000 in
theorem peneloperef02_On.calls (a0 : Int) (a1 : ByteArray) (r : Int) (w : World) (h : peneloperef02_On.f a0 a1 = some r) :
    Calls Try.prog 15 #[.int .u32 a0, .string a1] w fun e w' => e = .returned (.int .u32 r) ∧ Below w.heap.size w w' := by
  unfold peneloperef02_On.f at h
  by_cases hsz : a1.size ≤ 140737488351232
  case neg => rw [if_neg hsz] at h; cases h
  rw [if_pos hsz] at h
  obtain rfl := Option.some.inj h
  clear h
  go_enter Try.func15, Try.ntmps15
  go_wp2
  go_loop [5, 6] (fun c i => ∃ k : Nat, k ≤ a1.size ∧ i = .int .i64 k ∧ c = .int .u32 (refFold ((4294967295 - a0) % 4294967296) (a1.data.toList.take k))) (fun _ i => a1.size - (intOf i).toNat)
  case atStart => exact ⟨0, Nat.zero_le _, rfl, rfl⟩
  case round =>
    obtain ⟨k, hk, rfl, rfl⟩ := hrel
    by_cases hlt : k < a1.size
    · obtain ⟨hc1, hc2⟩ := refFold_range ((4294967295 - a0) % 4294967296) (a1.data.toList.take k) (by omega)
      have HS := Aside0.mk (refFold_snoc ((4294967295 - a0) % 4294967296) a1 k hlt)
      generalize refFold ((4294967295 - a0) % 4294967296) (a1.data.toList.take k) = c0 at hc1 hc2 HS ⊢
      go_wp2
      go_loop [5, 7] (fun c j => ∃ m : Nat, m ≤ 8 ∧ j = .int .i64 m ∧ c = .int .u32 (refIter c0 (a1[k]'hlt) m)) (fun _ j => 8 - (intOf j).toNat)
      case atStart => exact ⟨0, Nat.zero_le _, rfl, rfl⟩
      case round =>
        obtain ⟨m, hm, rfl, rfl⟩ := hrel
        by_cases hlm : m < 8
        · obtain ⟨hr1, hr2⟩ := refIter_range c0 (a1[k]'hlt) ⟨hc1, hc2⟩ m
          have HT : Aside0 (refIter c0 (a1[k]'hlt) (m + 1) = refStep (refIter c0 (a1[k]'hlt) m) (a1[k]'hlt) m) := ⟨rfl⟩
          generalize refIter c0 (a1[k]'hlt) m = c1 at hr1 hr2 HT ⊢
          go_wp2
          · have ht : (c1 % 2 != (((a1[k]'hlt).toNat : Int) % 4294967296 / 2 ^ m).tmod 2) = true := by assumption
            go_round
            case rel => exact ⟨m + 1, by omega, by go_num, by rw [HT.out, step_ne ht]⟩
            case measure => simp [intOf]; omega
          · have ht : (c1 % 2 != (((a1[k]'hlt).toNat : Int) % 4294967296 / 2 ^ m).tmod 2) = false := by assumption
            go_round
            case rel => exact ⟨m + 1, by omega, by go_num, by rw [HT.out, ← step_eq ht]⟩
            case measure => simp [intOf]; omega
        · obtain rfl : m = 8 := by omega
          go_wp2
          go_round
          case rel => exact ⟨k + 1, by omega, by go_num, by rw [HS.out]⟩
          case measure => simp [intOf]; omega
    · obtain rfl : k = a1.size := by omega
      go_wp2
      go_ret
      refine ⟨?_, Below.refl _ _⟩
      rw [List.take_of_length_le (by simp)]
      rfl
end Go.Proofs.Ytnadpefbimbggaa
