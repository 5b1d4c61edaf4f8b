/- sum.On goes on from a sum bit by bit: what the machine's call comes to, as a plain function. -/
import Derived.Test.YtnadpefbimbggaaProg
import Derived.WalkKit
import Derived.LoopTactic
import Derived.Below
import Derived.Lib.ConvBytes
import Derived.Outline
import Derived.Test.YtnadpefbimbggaaWWords
import Derived.WalkLawsBesides
namespace Go.Proofs.Ytnadpefbimbggaa
open Go.RowKit Go.Proofs.YtnadpefbimbggaaW.PrintWords

def stepI (c : Int) : Int := Go.bits .xor .u32 (c / 2) (Go.bits .and .u32 2197175160 ((-(Go.bits .and .u32 c 1)) % 4294967296))
def iterI : Nat → Int → Int
  | 0, c => c
  | n + 1, c => stepI (iterI n c)
def byteI (c : Int) (b : UInt8) : Int := iterI 8 (Go.bits .xor .u32 c ((b.toNat : Int) % 4294967296))
def foldI (c : Int) (bs : List UInt8) : Int := bs.foldl byteI c
def sum_On.f (a0 : Int) (a1 : ByteArray) : Option Int := if a1.size ≤ 140737488351232 then some (Go.bits .xor .u32 IntKind.u32.max (foldI (Go.bits .xor .u32 IntKind.u32.max a0) a1.data.toList)) else none

theorem bits_range (o : BinOp) (x y : Int) : 0 ≤ Go.bits o .u32 x y ∧ Go.bits o .u32 x y ≤ 4294967295 := by
  unfold Go.bits
  rw [IntKind.wrap_u32]
  omega
theorem iterI_range (n : Nat) (c : Int) (h : 0 ≤ c ∧ c ≤ 4294967295) : 0 ≤ iterI n c ∧ iterI n c ≤ 4294967295 := by
  cases n with
  | zero => exact h
  | succ n => unfold iterI stepI; exact bits_range _ _ _
theorem foldI_range (c : Int) (bs : List UInt8) (h : 0 ≤ c ∧ c ≤ 4294967295) : 0 ≤ foldI c bs ∧ foldI c bs ≤ 4294967295 := by
  induction bs generalizing c with
  | nil => exact h
  | cons b bs ih => exact ih _ (iterI_range _ _ (bits_range _ _ _))
theorem foldI_snoc (c : Int) (s : ByteArray) (k : Nat) (h : k < s.size) : foldI c (s.data.toList.take (k + 1)) = byteI (foldI c (s.data.toList.take k)) (s.data.toList.getD k 0) := by
  have e : s.data.toList.take (k + 1) = s.data.toList.take k ++ [s.data.toList.getD k 0] := by
    rw [List.take_succ_eq_append_getElem (by simpa using h)]
    simp [List.getD, h]
  rw [e]
  simp [foldI]

theorem bytes_below (w : World) (e : TypeId) (s : ByteArray) : Below w.heap.size w (Lib.bytesWorld w e s) :=
  ⟨rfl, rfl, rfl, by rw [Lib.bytesWorld_size]; omega, fun i hi => Lib.bytesWorld_at_old w e s i hi⟩

set_option maxHeartbeats 1000000 in
set_option maxRecDepth 100000 in
theorem sum_On.calls (a0 : Int) (a1 : ByteArray) (r : Int) (w : World) (h : sum_On.f a0 a1 = some r) :
    Calls Try.prog 14 #[.int .u32 a0, .string a1] w fun e w' => e = .returned (.int .u32 r) ∧ Below w.heap.size w w' := by
  unfold sum_On.f at h
  by_cases hsz : a1.size ≤ 140737488351232
  case neg => rw [if_neg hsz] at h; cases h
  rw [if_pos hsz] at h
  obtain rfl := Option.some.inj h
  clear h
  have kc := Lib.run_convert_string_bytes (P := Try.prog) w 9 32 5 a1 Try.underlying9 Try.underlying32 Try.underlying5
  go_enter Try.func14, Try.ntmps14
  go_wp2
  go_loop [5, 13] (fun c i => ∃ k : Nat, k ≤ a1.size ∧ i = .int .i64 k ∧ c = .int .u32 (foldI (Go.bits .xor .u32 IntKind.u32.max a0) (a1.data.toList.take k))) (fun _ i => a1.size - (intOf i).toNat)
  case atStart => exact ⟨0, Nat.zero_le _, rfl, rfl⟩
  case round =>
    obtain ⟨k, hk, rfl, rfl⟩ := hrel
    by_cases hlt : k < a1.size
    · have hcell := Lib.bytesWorld_cell w 5 a1 k hlt
      have hsn := foldI_snoc (Go.bits .xor .u32 IntKind.u32.max a0) a1 k hlt
      have HS := Aside0.mk hsn
      clear hsn
      go_wp2
      go_loop [5, 21] (fun c j => ∃ m : Nat, m ≤ 8 ∧ j = .int .i64 m ∧ c = .int .u32 (iterI m (Go.bits .xor .u32 (foldI (Go.bits .xor .u32 IntKind.u32.max a0) (a1.data.toList.take k)) ((a1.data[k].toNat : Int) % 4294967296)))) (fun _ j => 8 - (intOf j).toNat)
      case atStart => exact ⟨0, Nat.zero_le _, rfl, rfl⟩
      case round =>
        obtain ⟨m, hm, rfl, rfl⟩ := hrel
        by_cases hlm : m < 8
        · have hr := iterI_range m _ (bits_range .xor (foldI (Go.bits .xor .u32 IntKind.u32.max a0) (a1.data.toList.take k)) ((a1.data[k].toNat : Int) % 4294967296))
          obtain ⟨hr1, hr2⟩ := hr
          go_wp2
          go_round
          case rel => exact ⟨m + 1, by omega, by go_num, rfl⟩
          case measure => simp [intOf]; omega
        · have h8 : m = 8 := by omega
          subst h8
          go_wp2
          go_round
          case rel =>
            refine ⟨k + 1, by omega, by go_num, ?_⟩
            rw [HS.out]
            unfold byteI
            simp [List.getD, hlt]
          case measure => simp [intOf]; omega
    · obtain rfl : k = a1.size := by omega
      go_wp2
      go_ret
      refine ⟨?_, bytes_below w 5 a1⟩
      rw [List.take_of_length_le (by simp)]
      rfl
end Go.Proofs.Ytnadpefbimbggaa
