/- A number out of a text's bytes (code.Get): what the machine's call comes to, as a plain function. -/
import Derived.Test.YtbgmhcefjggpgaaProg
import Derived.WalkKit
import Derived.LoopTactic
import Derived.Below
import Derived.Lib.ConvBytes
import Derived.Lib.Strings
import Derived.WalkLawsBesides
import Derived.WalkSpells
import Derived.Laws.BitsLemmas
import Derived.Outline
import Derived.Test.YtbgmhcefjggpgaaWWords
namespace Go.Proofs.Ytbgmhcefjggpgaa
open Go.RowKit Go.Proofs.YtbgmhcefjggpgaaW.PrintWords

/-- A number of so many bytes, the highest first. -/
def numOf (bs : List UInt8) : Int := bs.foldl (fun n c => n * 256 + c.toNat) 0
theorem numOf_snoc (bs : List UInt8) (c : UInt8) : numOf (bs ++ [c]) = numOf bs * 256 + c.toNat := by simp [numOf]
theorem numOf_bd : ∀ (bs : List UInt8) (k : Nat), k ≤ bs.length → 0 ≤ numOf (bs.take k) ∧ numOf (bs.take k) < 256 ^ k := by
  intro bs k
  induction k with
  | zero => intro _; simp [numOf]
  | succ k ih =>
    intro hk
    have hc := (bs[k]).toNat_lt
    have := ih (by omega)
    rw [List.take_succ_eq_append_getElem (by omega), numOf_snoc, Int.pow_succ]
    omega
def code_Get.f (a0 : ByteArray) (a1 a2 : Int) : Option (Int × Int × Int) :=
  if a0.size ≤ 9223372036854775807 then
    some (if a2 < 1 ∨ a2 > 6 ∨ a1 < 0 ∨ a1 > a0.size then (0, 0, 1) else if (a0.size : Int) - a1 < a2 then (0, 0, 3) else (numOf ((a0.data.toList.drop a1.toNat).take a2.toNat), a1 + a2, 0))
  else none
theorem or_byte {n : Int} (h0 : 0 ≤ n) (h1 : n < 1099511627776) (c : UInt8) : Go.bits .or .i64 (n * 256) (c.toNat : Int) = n * 256 + c.toNat := by
  have hc := c.toNat_lt
  exact bits_join .i64 48 (by decide) (fun n h₀ h₁ => by rw [IntKind.wrap_i64]; have : (2 : Int) ^ 48 = 281474976710656 := by decide
                                                         omega) 8 (n * 256) c.toNat (by omega) (by have : (2 : Int) ^ 8 = 256 := by decide
                                                                                                   omega) (by have : (2 : Int) ^ 48 = 281474976710656 := by decide
                                                                                                              omega) (by omega) (by have : (2 : Int) ^ 8 = 256 := by decide
                                                                                                                                    omega) (by have : (2 : Int) ^ 48 = 281474976710656 := by decide
                                                                                                                                               omega)
theorem pow6 {k : Nat} (h : k ≤ 5) : (256 : Int) ^ k ≤ 1099511627776 := by
  have : ∀ k : Fin 6, (256 : Int) ^ k.val ≤ 1099511627776 := by decide
  exact this ⟨k, by omega⟩

set_option maxHeartbeats 1000000 in
set_option maxRecDepth 100000 in
theorem code_Get.calls (a0 : ByteArray) (a1 a2 : Int) (r1 r2 r3 : Int) (w : World) (h : code_Get.f a0 a1 a2 = some (r1, r2, r3)) :
    Calls Try.prog 37 #[.string a0, .int .i64 a1, .int .i64 a2] w fun e w' => e = .returned (.tuple #[.int .i64 r1, .int .i64 r2, .int .i64 r3]) ∧ Below w.heap.size w w' := by
  unfold code_Get.f at h
  by_cases hsz : a0.size ≤ 9223372036854775807
  case neg => rw [if_neg hsz] at h; cases h
  rw [if_pos hsz] at h
  have h' := Option.some.inj h
  clear h
  by_cases h1 : a2 < 1
  · rw [if_pos (.inl h1)] at h'
    obtain ⟨rfl, rfl, rfl⟩ : r1 = 0 ∧ r2 = 0 ∧ r3 = 1 := by simp only [Prod.mk.injEq] at h'; omega
    clear h'
    go_enter Try.func37, Try.ntmps37
    go_wp2
    go_ret3
    exact ⟨rfl, Below.refl _ _⟩
  by_cases h2 : a2 > 6
  · rw [if_pos (.inr (.inl h2))] at h'
    obtain ⟨rfl, rfl, rfl⟩ : r1 = 0 ∧ r2 = 0 ∧ r3 = 1 := by simp only [Prod.mk.injEq] at h'; omega
    clear h'
    go_enter Try.func37, Try.ntmps37
    go_wp2
    go_ret3
    exact ⟨rfl, Below.refl _ _⟩
  by_cases h3 : a1 < 0
  · rw [if_pos (.inr (.inr (.inl h3)))] at h'
    obtain ⟨rfl, rfl, rfl⟩ : r1 = 0 ∧ r2 = 0 ∧ r3 = 1 := by simp only [Prod.mk.injEq] at h'; omega
    clear h'
    go_enter Try.func37, Try.ntmps37
    go_wp2
    go_ret3
    exact ⟨rfl, Below.refl _ _⟩
  by_cases h4 : a1 > (a0.size : Int)
  · rw [if_pos (.inr (.inr (.inr h4)))] at h'
    obtain ⟨rfl, rfl, rfl⟩ : r1 = 0 ∧ r2 = 0 ∧ r3 = 1 := by simp only [Prod.mk.injEq] at h'; omega
    clear h'
    go_enter Try.func37, Try.ntmps37
    go_wp2
    go_ret3
    exact ⟨rfl, Below.refl _ _⟩
  rw [if_neg (by omega)] at h'
  by_cases h5 : (a0.size : Int) - a1 < a2
  · rw [if_pos h5] at h'
    obtain ⟨rfl, rfl, rfl⟩ : r1 = 0 ∧ r2 = 0 ∧ r3 = 3 := by simp only [Prod.mk.injEq] at h'; omega
    clear h'
    go_enter Try.func37, Try.ntmps37
    go_wp2
    go_ret3
    exact ⟨rfl, Below.refl _ _⟩
  rw [if_neg h5] at h'
  obtain ⟨m, rfl⟩ : ∃ m : Nat, a1 = m := ⟨a1.toNat, by omega⟩
  obtain ⟨n, rfl⟩ : ∃ n : Nat, a2 = n := ⟨a2.toNat, by omega⟩
  simp only [Prod.mk.injEq, Int.toNat_natCast] at h'
  obtain ⟨e1, e2, e3⟩ := h'
  subst e1 e2 e3
  obtain ⟨s, hse⟩ : ∃ s, a0.extract m (m + n) = s := ⟨_, rfl⟩
  have hlist : s.data.toList = (a0.data.toList.drop m).take n := by rw [← hse, Lib.extract_data, show m + n - m = n from by omega]
  have hsn : s.size = n := by rw [← hse, ByteArray.size_extract]; omega
  rw [← hlist]
  have HL := Aside0.mk hlist
  have HS := Aside0.mk hse
  have kc := fun W => Lib.run_convert_string_bytes (P := Try.prog) W 9 73 5 s Try.underlying9 Try.underlying73 Try.underlying5
  clear hlist
  go_enter Try.func37, Try.ntmps37
  go_wp2
  clear hse
  go_loop [9, 44] (fun c i => ∃ k : Nat, k ≤ n ∧ i = .int .i64 k ∧ c = .int .i64 (numOf (s.data.toList.take k))) (fun _ i => n - (intOf i).toNat)
  case atStart => exact ⟨0, Nat.zero_le _, rfl, rfl⟩
  case round =>
    obtain ⟨k, hk, rfl, rfl⟩ := hrel
    by_cases hlt : k < n
    · have hcell := Lib.bytesWorld_cell w 5 s k (by omega)
      have hb := numOf_bd s.data.toList k (by rw [← Lib.size_eq]; omega)
      have hp := pow6 (k := k) (by omega)
      have hks : k < s.data.toList.length := by rw [← Lib.size_eq]; omega
      have hor := or_byte hb.1 (by omega) (s.data.toList[k])
      have hsn2 : Aside0 (numOf (s.data.toList.take (k + 1)) = numOf (s.data.toList.take k) * 256 + (s.data.toList[k]).toNat) := ⟨by rw [List.take_succ_eq_append_getElem hks, numOf_snoc]⟩
      have hgd : s.data.toList.getD k 0 = s.data.toList[k] := by rw [List.getD_eq_getElem?_getD, List.getElem?_eq_getElem hks]; rfl
      rw [hgd] at hcell
      obtain ⟨c, hc⟩ : ∃ c, s.data.toList[k] = c := ⟨_, rfl⟩
      rw [hc] at hcell hor hsn2
      obtain ⟨b1, b2⟩ := hb
      have b3 : numOf (s.data.toList.take k) < 1099511627776 := by omega
      generalize numOf (s.data.toList.take k) = q at b1 b3 hor hsn2 ⊢
      have hc1 := c.toNat_lt
      have hc2 : (0 : Int) ≤ (c.toNat : Int) := by omega
      have hc3 : (c.toNat : Int) ≤ 255 := by omega
      clear b2 hp hgd hc hks hc1
      go_wp2
      go_round
      case rel => exact ⟨k + 1, by omega, by go_num, by rw [hsn2.out]⟩
      case measure => simp [intOf]; omega
    · obtain rfl : k = n := by omega
      have ht : s.data.toList.take k = s.data.toList := List.take_of_length_le (by rw [← Lib.size_eq]; omega)
      rw [ht]
      clear ht
      go_wp2
      go_ret3
      exact ⟨rfl, bytes_below (Below.refl _ _) (Nat.le_refl _) 5 s⟩
end Go.Proofs.Ytbgmhcefjggpgaa
