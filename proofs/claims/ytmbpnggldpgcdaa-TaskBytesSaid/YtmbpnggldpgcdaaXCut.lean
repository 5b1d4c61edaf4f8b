/- A text out of a text's bytes (code.Cut): what the machine's call comes to, as a plain function. -/
import Derived.Test.YtmbpnggldpgcdaaXGet
namespace Go.Proofs.Ytmbpnggldpgcdaa
open Go.RowKit Go.Proofs.YtmbpnggldpgcdaaW.PrintWords

theorem numOf2_bd {bs : List UInt8} {k : Nat} (hk : k ≤ 6) (h : bs.length = k) : 0 ≤ numOf bs ∧ numOf bs < 281474976710656 := by
  have := numOf_bd bs k (by omega)
  rw [List.take_of_length_le (by omega)] at this
  have h6 : (256 : Int) ^ k ≤ 281474976710656 := by
    have : ∀ k : Fin 7, (256 : Int) ^ k.val ≤ 281474976710656 := by decide
    exact this ⟨k, by omega⟩
  omega
/-- What code.Cut comes to at a place inside the text. -/
def cutOf (a0 : ByteArray) (m : Nat) : ByteArray × Int × Int :=
  if a0.size < m + 2 then (⟨#[]⟩, 0, 3) else
  if (a0.size : Int) - ((m + 2 : Nat) : Int) < numOf ((a0.data.toList.drop m).take 2) then (⟨#[]⟩, 0, 3) else
  (a0.extract (m + 2) (m + 2 + (numOf ((a0.data.toList.drop m).take 2)).toNat), ((m + 2 + (numOf ((a0.data.toList.drop m).take 2)).toNat : Nat) : Int), 0)
theorem code_Get_in {a0 : ByteArray} {m n : Nat} (hs : a0.size ≤ 140737488351232) (hm : m ≤ a0.size) (h1 : 1 ≤ n) (h6 : n ≤ 6) :
    code_Get.f a0 (m : Int) (n : Int) = some (if a0.size < m + n then (0, 0, 3) else (numOf ((a0.data.toList.drop m).take n), ((m + n : Nat) : Int), 0)) := by
  unfold code_Get.f
  rw [if_pos (by omega), if_neg (by omega)]
  by_cases h : a0.size < m + n
  · rw [if_pos h, if_pos (by omega)]
  · rw [if_neg h, if_neg (by omega)]; simp
set_option maxHeartbeats 1000000 in
set_option maxRecDepth 100000 in
theorem code_Cut_calls (a0 : ByteArray) (m : Nat) (hs : a0.size ≤ 140737488351232) (hm : m ≤ a0.size) (w : World) :
    Calls Try.prog 42 #[.string a0, .int .i64 (m : Int)] w fun e w' => e = .returned (.tuple #[.string (cutOf a0 m).1, .int .i64 (cutOf a0 m).2.1, .int .i64 (cutOf a0 m).2.2]) ∧ Below w.heap.size w w' := by
  have K := fun (r1 r2 r3 : Int) w => code_Get.calls a0 (m : Int) 2 r1 r2 r3 w
  rw [show (2 : Int) = ((2 : Nat) : Int) from rfl, code_Get_in hs hm (by omega) (by omega)] at K
  unfold cutOf
  by_cases h : a0.size < m + 2
  · rw [if_pos h] at K ⊢
    have K' := Aside0.mk (fun w => K _ _ _ w rfl)
    clear K
    go_enter Try.func42, Try.ntmps42
    go_wp2_with (go_at_call 41; refine (K'.out _).mono ?_; rintro e w1 ⟨rfl, hb⟩; have HB1 := Aside0.mk hb; clear hb)
    go_ret3
    exact ⟨rfl, HB1.out⟩
  · rw [if_neg h] at K ⊢
    have hb := numOf2_bd (bs := (a0.data.toList.drop m).take 2) (k := 2) (by omega) (by rw [List.length_take, List.length_drop, ← Lib.size_eq]; omega)
    obtain ⟨n, hn⟩ : ∃ n : Nat, numOf ((a0.data.toList.drop m).take 2) = n := ⟨(numOf ((a0.data.toList.drop m).take 2)).toNat, by omega⟩
    rw [hn] at K hb ⊢
    clear hn
    have K' := Aside0.mk (fun w => K _ _ _ w rfl)
    clear K
    by_cases h2 : (a0.size : Int) - ((m + 2 : Nat) : Int) < n
    · rw [if_pos h2]
      go_enter Try.func42, Try.ntmps42
      go_wp2_with (go_at_call 41; refine (K'.out _).mono ?_; rintro e w1 ⟨rfl, hb⟩; have HB1 := Aside0.mk hb; clear hb)
      go_ret3
      exact ⟨rfl, HB1.out⟩
    · rw [if_neg h2]
      go_enter Try.func42, Try.ntmps42
      go_wp2_with (go_at_call 41; refine (K'.out _).mono ?_; rintro e w1 ⟨rfl, hb⟩; have HB1 := Aside0.mk hb; clear hb)
      go_ret3
      exact ⟨rfl, HB1.out⟩
end Go.Proofs.Ytmbpnggldpgcdaa
