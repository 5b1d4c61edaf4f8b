/- Texts one behind the other (code.All): what the machine's call comes to, as a plain function. -/
import Derived.Test.YtmnkabdaapiikaaProg
import Derived.WalkKit
import Derived.Below
import Derived.WalkLawsBesides
import Derived.Test.YtmnkabdaapiikaaWWords
import Derived.Test.YtmnkabdaapiikaaShelf
namespace Go.Proofs.Ytmnkabdaapiikaa
open Go.RowKit Go.Proofs.YtmnkabdaapiikaaW.PrintWords

/-- Texts one behind the other. -/
def catL (l : List ByteArray) : List UInt8 := l.flatMap (·.data.toList)
def code_All.f (l0 : List ByteArray) : Option ByteArray := if (catL l0).length ≤ 140737488355328 ∧ l0.length ≤ 140737488355328 then some ⟨(catL l0).toArray⟩ else none

theorem join_catL (l : List ByteArray) : Lib.join (l.map (·.data.toList)) [] = catL l := by
  cases l with
  | nil => rfl
  | cons a l =>
    rw [List.map_cons, Lib.join_cons]
    simp [Lib.joinTail, catL, List.flatMap, Function.comp_def]

/-- A row of texts that is read: its cells, by a block and an offset. -/
theorem strs_at {w : World} {A : Option Addr} {l : List ByteArray} (h : Kd.C Kd.string w A l.length l) (hl : 0 < l.length) :
    ∃ b o, A = some ⟨b, o, none⟩ ∧ b < w.heap.size ∧ ∀ (j : Nat) x, l[j]? = some x → w.cell? ⟨b, o + j, none⟩ = some (.string x) := by
  obtain ⟨ad, c, rfl, hc, hk, hcell⟩ := Kd.C_get h ByteArray.empty 0 (by omega) (by omega)
  have hz : w.cell? (ad.add 0) = some (.string (l.getD 0 ByteArray.empty)) := by
    have := hcell 0 (.string (l.getD 0 ByteArray.empty)) (by rw [show c = [Value.string (l.getD (Int.toNat 0) ByteArray.empty)] from hk]; rfl)
    simpa [Kd.string, Kd.scalar] using this
  have hsp : ad.spot = none := by
    cases hs : ad.spot with
    | none => rfl
    | some s =>
      exfalso
      have : (ad.add 0).spot.isSome = true := by simp [Addr.add, hs]
      unfold World.cell? at hz
      split at hz
      · simp [this] at hz
      · cases hz
  obtain ⟨b, o, sp⟩ := ad
  simp only at hsp
  subst hsp
  refine ⟨b, o, rfl, ?_, fun j x hj => ?_⟩
  · exact World.block_lt_of_cell? w _ hz
  · obtain ⟨hjl, hjx⟩ := List.getElem?_eq_some_iff.1 hj
    obtain ⟨ad', c', he, hc', hk', hcell'⟩ := Kd.C_get h ByteArray.empty j (by omega) (by omega)
    injection he with he
    subst he
    have hg : l.getD (Int.toNat (j : Int)) ByteArray.empty = x := by
      rw [Int.toNat_natCast, List.getD_eq_getElem?_getD, hj]; rfl
    have := hcell' 0 (.string x) (by rw [show c' = [Value.string (l.getD (Int.toNat (j : Int)) ByteArray.empty)] from hk', hg]; rfl)
    rw [show (⟨b, o + j, none⟩ : Addr) = (⟨b, o, none⟩ : Addr).add ((j : Int).toNat * Kd.string.sz + 0) from by
      rw [Int.toNat_natCast]
      show _ = (⟨b, o, none⟩ : Addr).add (j * 1 + 0)
      unfold Addr.add
      split
      · rename_i hz0; simp_all
      · simp]
    exact this

set_option maxHeartbeats 1000000 in
theorem code_All.calls (A0 : Option Addr) (c0 : Nat) (l0 : List ByteArray) (r : ByteArray) (w : World) (hr0 : Kd.C Kd.string w A0 l0.length l0) (hc0 : l0.length ≤ c0) (h : code_All.f l0 = some r) :
    Calls Try.prog 31 #[.slice A0 l0.length c0] w fun e w' => e = .returned (.string r) ∧ Below w.heap.size w w' := by
  unfold code_All.f at h
  by_cases hsz : (catL l0).length ≤ 140737488355328 ∧ l0.length ≤ 140737488355328
  case neg => rw [if_neg hsz] at h; cases h
  rw [if_pos hsz] at h
  obtain rfl := Option.some.inj h
  clear h
  obtain ⟨h1, h2⟩ := hsz
  have hj := join_catL l0
  have key : Calls Try.prog 43 #[.slice A0 l0.length c0, .string ⟨#[]⟩] w fun e w' => e = .returned (.string ⟨(catL l0).toArray⟩) ∧ Below w.heap.size w w' := by
    rcases Nat.eq_zero_or_pos l0.length with h0 | h0
    · obtain rfl : l0 = [] := List.eq_nil_of_length_eq_zero h0
      refine (Try.strings_Join_none A0 c0 ⟨#[]⟩ w).mono ?_
      rintro e w' ⟨rfl, rfl⟩
      exact ⟨rfl, Below.refl _ _⟩
    · obtain ⟨b, o, rfl, hb, hcells⟩ := strs_at hr0 h0
      refine (Try.strings_Join b o c0 l0 ⟨#[]⟩ w hcells hb h2 hc0 (by rw [hj]; exact h1)).mono ?_
      rintro e w' ⟨rfl, hbel⟩
      exact ⟨by rw [hj], hbel⟩
  have K := Aside0.mk key
  clear key hr0 hj h1 h2 hc0
  go_enter Try.func31, Try.ntmps31
  go_wp2_with (go_at_call 43; refine K.out.mono ?_; rintro e w' ⟨rfl, hb⟩)
  go_ret
  exact ⟨rfl, ‹_›⟩
end Go.Proofs.Ytmnkabdaapiikaa
