/- A text of which bits within 32 are turned (peneloperef02.Turned): what the machine's call comes to, as a plain function. -/
import Derived.Test.YtnadpefbimbggaaXOn
namespace Go.Proofs.Ytnadpefbimbggaa
open Go.RowKit Go.Proofs.YtnadpefbimbggaaW.PrintWords

def turnAt (xs : List Int) (k : Int) : List Int := xs.set (k / 8).toNat (Go.bits .xor .u8 (xs.getD (k / 8).toNat 0) (2 ^ (k % 8).toNat % 256))
def turnStep (fr pat : Int) (i : Nat) (xs : List Int) : List Int :=
  if 0 ≤ wrap64 (fr + i) ∧ wrap64 (fr + i) < 8 * xs.length ∧ (pat / 2 ^ i).tmod 2 = 1 then turnAt xs (wrap64 (fr + i)) else xs
def turnIter (fr pat : Int) (xs : List Int) : Nat → List Int
  | 0 => xs
  | i + 1 => turnStep fr pat i (turnIter fr pat xs i)
def peneloperef02_Turned.f (a0 : ByteArray) (a1 a2 : Int) : Option ByteArray := if a0.size ≤ 140737488351232 ∧ 0 ≤ a2 then some (strOfNums (turnIter a1 a2 (bytesOf a0) 32)) else none

theorem turnStep_length (fr pat : Int) (i : Nat) (xs : List Int) : (turnStep fr pat i xs).length = xs.length := by
  unfold turnStep turnAt
  split <;> simp
theorem turnIter_length (fr pat : Int) (xs : List Int) (i : Nat) : (turnIter fr pat xs i).length = xs.length := by
  induction i with
  | zero => rfl
  | succ i ih => rw [turnIter, turnStep_length, ih]

/-- The row that the call works on: cells, none frozen. -/
structure TurnRow (w : World) (g : Nat) (xs : List Int) : Prop where
  cell : ∀ j, j < xs.length → w.cell? ⟨g, j, none⟩ = some (.int .u8 (xs.getD j 0))
  free : ∀ j, j < xs.length → w.frozen? ⟨g, j, none⟩ = false
theorem TurnRow.start (w : World) (s : ByteArray) : TurnRow (Lib.bytesWorld w 5 s) w.heap.size (bytesOf s) := by
  constructor
  · intro j hj
    rw [bytesOf_length] at hj
    rw [Lib.bytesWorld_cell w 5 s j hj]
    simp [bytesOf, List.getD, hj]
  · intro j hj
    rw [bytesOf_length] at hj
    unfold World.frozen?
    simp only [Lib.bytesWorld_at_new]
    simp [Lib.bytesCells]
    omega
theorem TurnRow.put {w : World} {g : Nat} {xs : List Int} (h : TurnRow w g xs) (j : Nat) (n : Int) (hj : j < xs.length) : TurnRow (w.setCell ⟨g, j, none⟩ (.int .u8 n)) g (xs.set j n) := by
  constructor
  · intro i hi
    rw [List.length_set] at hi
    by_cases hij : i = j
    · subst hij
      rw [World.cell?_setCell_same w _ _ (h.cell i hi)]
      simp [List.getD, hi]
    · rw [World.cell?_setCell_other w _ _ _ (fun e => hij (by injection e with _ e; exact e.symm)), h.cell i hi]
      simp [List.getD, Ne.symm hij]
  · intro i hi
    rw [List.length_set] at hi
    rw [World.frozen?_setCell]
    exact h.free i hi
theorem TurnRow.reads {w : World} {g : Nat} {xs : List Int} {n : Nat} (h : TurnRow w g xs) (hn : xs.length = n) (hm : n ≤ 9223372036854775807) : ReadsInt w .u8 (some ⟨g, 0, none⟩) n xs :=
  ⟨hn, hm, fun _ => ⟨_, rfl, fun j hj => by rw [add_plain]; exact h.cell j (by omega)⟩⟩

set_option maxHeartbeats 1000000 in
set_option maxRecDepth 100000 in
theorem peneloperef02_Turned.calls (a0 : ByteArray) (a1 a2 : Int) (r : ByteArray) (w : World) (h : peneloperef02_Turned.f a0 a1 a2 = some r) :
    Calls Try.prog 16 #[.string a0, .int .i64 a1, .int .u32 a2] w fun e w' => e = .returned (.string r) ∧ Below w.heap.size w w' := by
  unfold peneloperef02_Turned.f at h
  by_cases hsz : a0.size ≤ 140737488351232 ∧ 0 ≤ a2
  case neg => rw [if_neg hsz] at h; cases h
  rw [if_pos hsz] at h
  obtain rfl := Option.some.inj h
  clear h
  obtain ⟨hsz, hp⟩ := hsz
  have hst := Aside0.mk (TurnRow.start w a0)
  have kc := Lib.run_convert_string_bytes (P := Try.prog) w 9 32 5 a0 Try.underlying9 Try.underlying32 Try.underlying5
  go_enter Try.func16, Try.ntmps16
  go_wp2
  go_loopw [8] (fun i wr => ∃ k : Nat, k ≤ 32 ∧ i = .int .i64 k ∧ TurnRow wr w.heap.size (turnIter a1 a2 (bytesOf a0) k) ∧ Below w.heap.size w wr) (fun i _ => 32 - (intOf i).toNat)
  case atStart => exact ⟨0, Nat.zero_le _, rfl, hst.out, YtnadpefbimbggaaW.PrintWords.bytes_below (Below.refl _ _) (Nat.le_refl _) 5 a0⟩
  case round =>
    obtain ⟨k, hk, rfl, hrow, hB⟩ := hrel
    have hlen := turnIter_length a1 a2 (bytesOf a0) k
    rw [bytesOf_length] at hlen
    by_cases hlt : k < 32
    · by_cases h0 : 0 ≤ wrap64 (a1 + k)
      · by_cases h1 : wrap64 (a1 + k) < 8 * (a0.size : Int)
        · by_cases h2 : ((a2 / 2 ^ k).tmod 2 == 1) = true
          · have hcell := hrow.cell (wrap64 (a1 + k) / 8).toNat (by omega)
            have hfree := hrow.free (wrap64 (a1 + k) / 8).toNat (by omega)
            have HN : Aside0 (turnIter a1 a2 (bytesOf a0) (k + 1) = (turnIter a1 a2 (bytesOf a0) k).set (wrap64 (a1 + k) / 8).toNat (Go.bits .xor .u8 ((turnIter a1 a2 (bytesOf a0) k).getD (wrap64 (a1 + k) / 8).toNat 0) (2 ^ (wrap64 (a1 + k) % 8).toNat % 256))) := by
              constructor
              rw [turnIter, turnStep, if_pos ⟨h0, by omega, by simpa using h2⟩]
              rfl
            have HR := Aside0.mk hrow
            have HL := Aside0.mk hlen
            clear hrow hlen
            go_wp2
            go_round
            case rel => exact ⟨k + 1, by omega, by go_num, by rw [HN.out]; exact HR.out.put _ _ (by have := HL.out; omega), hB.setCell (Nat.le_refl _) _⟩
            case measure => simp [intOf]; omega
          · have HN : Aside0 (turnIter a1 a2 (bytesOf a0) (k + 1) = turnIter a1 a2 (bytesOf a0) k) := by
              constructor
              rw [turnIter, turnStep, if_neg (fun h => h2 (by simpa using h.2.2))]
            have h2' : ((a2 / 2 ^ k).tmod 2 == 1) = false := by simpa using h2
            clear h2
            have HR := Aside0.mk hrow
            clear hrow hlen
            go_wp2
            go_round
            case rel => exact ⟨k + 1, by omega, by go_num, by rw [HN.out]; exact HR.out, hB⟩
            case measure => simp [intOf]; omega
        · have HN : Aside0 (turnIter a1 a2 (bytesOf a0) (k + 1) = turnIter a1 a2 (bytesOf a0) k) := by
            constructor
            rw [turnIter, turnStep, if_neg (fun h => h1 (by have := h.2.1; omega))]
          have HR := Aside0.mk hrow
          clear hrow hlen
          go_wp2
          go_round
          case rel => exact ⟨k + 1, by omega, by go_num, by rw [HN.out]; exact HR.out, hB⟩
          case measure => simp [intOf]; omega
      · have HN : Aside0 (turnIter a1 a2 (bytesOf a0) (k + 1) = turnIter a1 a2 (bytesOf a0) k) := by
          constructor
          rw [turnIter, turnStep, if_neg (fun h => h0 h.1)]
        have HR := Aside0.mk hrow
        clear hrow hlen
        go_wp2
        go_round
        case rel => exact ⟨k + 1, by omega, by go_num, by rw [HN.out]; exact HR.out, hB⟩
        case measure => simp [intOf]; omega
    · obtain rfl : k = 32 := by omega
      have hst2 := string_of_reads (P := Try.prog) (src := 32) (dst := 9) (e := 5) (c := grownCap w a0.size 0 5) Try.underlying32 Try.underlying5 Try.underlying9 (hrow.reads hlen (by omega))
      clear hrow hlen
      go_wp2
      go_ret
      exact ⟨rfl, hB⟩
end Go.Proofs.Ytnadpefbimbggaa
