/- Whether one of a row passes a test (slices.ContainsFunc with the functions that node.stands hands it): what the machine's calls come to. -/
import Derived.Test.YtmnkabdaapiikaaProg
import Derived.WalkKit
import Derived.LoopTactic
import Derived.Below
import Derived.WalkLawsBesides
import Derived.WalkSpells
import Derived.Outline
import Derived.Test.YtmnkabdaapiikaaWWords
namespace Go.Proofs.Ytmnkabdaapiikaa
open Go.RowKit Go.Proofs.YtmnkabdaapiikaaW.PrintWords

def slices_ContainsFunc_string_string.p (v : ByteArray) : Bool := decide (v.size > 200)
theorem slices_ContainsFunc_string_string.test (v : ByteArray) (w : World) : Calls Try.prog 45 #[.string v] w fun e w' => e = .returned (.bool (slices_ContainsFunc_string_string.p v)) ∧ Below w.heap.size w w' := by
  go_enter Try.func45, Try.ntmps45
  go_wp2
  go_ret
  exact ⟨by simp [slices_ContainsFunc_string_string.p]; omega, Below.refl _ _⟩
set_option linter.unusedVariables false
set_option maxHeartbeats 1000000 in
/-- Whether one of a row passes the test (slices.ContainsFunc at string, with the function 45). -/
theorem slices_ContainsFunc_string_string.idx (A0 : Option Addr) (c0 : Nat) (l0 : List ByteArray) (w : World) (hr0 : Kd.C Kd.string w A0 l0.length l0) (hl : l0.length ≤ 9223372036854775807) :
    Calls Try.prog 59 #[.slice A0 l0.length c0, .func (.func 45) #[] #[]] w fun e w' => (∃ i : Int, e = .returned (.int .i64 i) ∧ decide (i ≥ 0) = l0.any slices_ContainsFunc_string_string.p) ∧ Below w.heap.size w w' := by
  have KC := Aside0.mk slices_ContainsFunc_string_string.test
  have HR := Aside0.mk hr0
  have HL := Aside0.mk hl
  clear hl
  obtain ⟨n, hn⟩ : ∃ n : Nat, l0.length = n := ⟨_, rfl⟩
  rw [hn] at hr0 HR HL ⊢
  have HN := Aside0.mk hn
  clear hn
  go_enter Try.func59, Try.ntmps59
  go_wp2
  go_loopw [8] (fun i wr => ∃ k : Nat, k ≤ n ∧ i = .int .i64 k ∧ Aside0 ((l0.take k).any slices_ContainsFunc_string_string.p = false) ∧ Aside0 (Below w.heap.size w wr)) (fun i _ => n - (intOf i).toNat)
  case atStart => exact ⟨0, Nat.zero_le _, rfl, ⟨by simp⟩, ⟨Below.refl _ _⟩⟩
  case round =>
    clear hr0
    obtain ⟨k, hk, rfl, HA, HB⟩ := hrel
    by_cases hlt : k < n
    · have hn := HN.out
      obtain ⟨ad, rfl, hcell⟩ := Kd.at_string (Kd.C_below HR.out HB.out) (k : Int) (by omega) (by omega)
      rw [Int.toNat_natCast] at hcell
      have hbig := HL.out
      have hx : Aside0 ((l0.take (k + 1)).any slices_ContainsFunc_string_string.p = slices_ContainsFunc_string_string.p (rdOf ByteArray.empty l0 (k : Int))) := ⟨by
        have hkl : k < l0.length := by omega
        rw [List.take_succ_eq_append_getElem hkl, List.any_append, HA.out]
        simp [rdOf, List.getD_eq_getElem?_getD, List.getElem?_eq_getElem hkl]⟩
      generalize rdOf ByteArray.empty l0 (k : Int) = x at hcell hx
      clear hn
      cases hp : slices_ContainsFunc_string_string.p x
      · have KP := Aside0.mk (fun W => hp ▸ KC.out x W)
        have HX := Aside0.mk (hx.out.trans hp)
        clear hp hx
        go_wp2_with (go_at_call 45; refine (KP.out _).mono ?_; rintro e w1 ⟨rfl, hb⟩; have HB1 := Aside0.mk (below_step (by repeat (first | (with_reducible first | exact HB.out | apply below_alloc | apply pw_below_drewN | apply below_drew1) | exact HB.out)) hb); clear hb)
        go_roundw
        case rel => exact ⟨k + 1, by omega, by go_num, HX, HB1⟩
        case measure => simp [intOf]; omega
      · have KP := Aside0.mk (fun W => hp ▸ KC.out x W)
        have HX := Aside0.mk (hx.out.trans hp)
        clear hp hx
        go_wp2_with (go_at_call 45; refine (KP.out _).mono ?_; rintro e w1 ⟨rfl, hb⟩; have HB1 := Aside0.mk (below_step (by repeat (first | (with_reducible first | exact HB.out | apply below_alloc | apply pw_below_drewN | apply below_drew1) | exact HB.out)) hb); clear hb)
        go_ret
        refine ⟨⟨_, rfl, ?_⟩, HB1.out⟩
        have h1 : l0.any slices_ContainsFunc_string_string.p = true := by
          rw [← List.take_append_drop (k + 1) l0, List.any_append, HX.out]; rfl
        rw [h1]
        simp
    · obtain rfl : k = n := by omega
      go_wp2
      go_ret
      refine ⟨⟨_, rfl, ?_⟩, HB.out⟩
      have h1 := HA.out
      rw [List.take_of_length_le (by rw [HN.out]; omega)] at h1
      rw [h1]
      simp
def slices_ContainsFunc_string_string.f (l0 : List ByteArray) : Option Bool := if l0.length ≤ 9223372036854775807 then some (l0.any slices_ContainsFunc_string_string.p) else none
theorem slices_ContainsFunc_string_string.calls (A0 : Option Addr) (c0 : Nat) (l0 : List ByteArray) (r : Bool) (w : World) (hr0 : Kd.C Kd.string w A0 l0.length l0) (hc0 : l0.length ≤ c0) (h : slices_ContainsFunc_string_string.f l0 = some r) :
    Calls Try.prog 44 #[.slice A0 l0.length c0, .func (.func 45) #[] #[]] w fun e w' => e = .returned (.bool r) ∧ Below w.heap.size w w' := by
  unfold slices_ContainsFunc_string_string.f at h
  by_cases hl : l0.length ≤ 9223372036854775807
  · rw [if_pos hl] at h
    have K := Aside0.mk (slices_ContainsFunc_string_string.idx A0 c0 l0 w hr0 hl)
    obtain ⟨b, hb⟩ : ∃ b, l0.any slices_ContainsFunc_string_string.p = b := ⟨_, rfl⟩
    rw [hb] at K h
    obtain rfl := Option.some.inj h
    clear hb h hc0 hr0
    go_enter Try.func44, Try.ntmps44
    go_wp2_with (go_at_call 59; refine K.out.mono ?_; rintro e w1 ⟨⟨i, rfl, hi⟩, hb⟩; have HI := Aside0.mk hi; have HB1 := Aside0.mk hb; clear hb hi)
    go_ret
    exact ⟨by rw [← HI.out]; rfl, HB1.out⟩
  · rw [if_neg hl] at h; cases h
def slices_ContainsFunc_int_int.p (v : Int) : Bool := decide (v < 10 ∨ v ≥ 2048)
theorem slices_ContainsFunc_int_int.test (v : Int) (w : World) : Calls Try.prog 47 #[.int .i64 v] w fun e w' => e = .returned (.bool (slices_ContainsFunc_int_int.p v)) ∧ Below w.heap.size w w' := by
  by_cases h : v < 10
  · go_enter Try.func47, Try.ntmps47
    go_wp2
    all_goals (go_ret; exact ⟨by simp [slices_ContainsFunc_int_int.p]; omega, Below.refl _ _⟩)
  · go_enter Try.func47, Try.ntmps47
    go_wp2
    all_goals (go_ret; exact ⟨by simp [slices_ContainsFunc_int_int.p]; omega, Below.refl _ _⟩)
set_option linter.unusedVariables false
set_option maxHeartbeats 1000000 in
/-- Whether one of a row passes the test (slices.ContainsFunc at int, with the function 47). -/
theorem slices_ContainsFunc_int_int.idx (A0 : Option Addr) (c0 : Nat) (l0 : List Int) (w : World) (hr0 : Kd.C (Kd.int .i64) w A0 l0.length l0) (hl : l0.length ≤ 9223372036854775807) :
    Calls Try.prog 60 #[.slice A0 l0.length c0, .func (.func 47) #[] #[]] w fun e w' => (∃ i : Int, e = .returned (.int .i64 i) ∧ decide (i ≥ 0) = l0.any slices_ContainsFunc_int_int.p) ∧ Below w.heap.size w w' := by
  have KC := Aside0.mk slices_ContainsFunc_int_int.test
  have HR := Aside0.mk hr0
  have HL := Aside0.mk hl
  clear hl
  obtain ⟨n, hn⟩ : ∃ n : Nat, l0.length = n := ⟨_, rfl⟩
  rw [hn] at hr0 HR HL ⊢
  have HN := Aside0.mk hn
  clear hn
  go_enter Try.func60, Try.ntmps60
  go_wp2
  go_loopw [8] (fun i wr => ∃ k : Nat, k ≤ n ∧ i = .int .i64 k ∧ Aside0 ((l0.take k).any slices_ContainsFunc_int_int.p = false) ∧ Aside0 (Below w.heap.size w wr)) (fun i _ => n - (intOf i).toNat)
  case atStart => exact ⟨0, Nat.zero_le _, rfl, ⟨by simp⟩, ⟨Below.refl _ _⟩⟩
  case round =>
    clear hr0
    obtain ⟨k, hk, rfl, HA, HB⟩ := hrel
    by_cases hlt : k < n
    · have hn := HN.out
      obtain ⟨ad, rfl, hcell⟩ := Kd.at_int (Kd.C_below HR.out HB.out) (k : Int) (by omega) (by omega)
      rw [Int.toNat_natCast] at hcell
      have hbig := HL.out
      have hx : Aside0 ((l0.take (k + 1)).any slices_ContainsFunc_int_int.p = slices_ContainsFunc_int_int.p (rd l0 (k : Int))) := ⟨by
        have hkl : k < l0.length := by omega
        rw [List.take_succ_eq_append_getElem hkl, List.any_append, HA.out]
        simp [rd, List.getD_eq_getElem?_getD, List.getElem?_eq_getElem hkl]⟩
      generalize rd l0 (k : Int) = x at hcell hx
      clear hn
      cases hp : slices_ContainsFunc_int_int.p x
      · have KP := Aside0.mk (fun W => hp ▸ KC.out x W)
        have HX := Aside0.mk (hx.out.trans hp)
        clear hp hx
        go_wp2_with (go_at_call 47; refine (KP.out _).mono ?_; rintro e w1 ⟨rfl, hb⟩; have HB1 := Aside0.mk (below_step (by repeat (first | (with_reducible first | exact HB.out | apply below_alloc | apply pw_below_drewN | apply below_drew1) | exact HB.out)) hb); clear hb)
        go_roundw
        case rel => exact ⟨k + 1, by omega, by go_num, HX, HB1⟩
        case measure => simp [intOf]; omega
      · have KP := Aside0.mk (fun W => hp ▸ KC.out x W)
        have HX := Aside0.mk (hx.out.trans hp)
        clear hp hx
        go_wp2_with (go_at_call 47; refine (KP.out _).mono ?_; rintro e w1 ⟨rfl, hb⟩; have HB1 := Aside0.mk (below_step (by repeat (first | (with_reducible first | exact HB.out | apply below_alloc | apply pw_below_drewN | apply below_drew1) | exact HB.out)) hb); clear hb)
        go_ret
        refine ⟨⟨_, rfl, ?_⟩, HB1.out⟩
        have h1 : l0.any slices_ContainsFunc_int_int.p = true := by
          rw [← List.take_append_drop (k + 1) l0, List.any_append, HX.out]; rfl
        rw [h1]
        simp
    · obtain rfl : k = n := by omega
      go_wp2
      go_ret
      refine ⟨⟨_, rfl, ?_⟩, HB.out⟩
      have h1 := HA.out
      rw [List.take_of_length_le (by rw [HN.out]; omega)] at h1
      rw [h1]
      simp
def slices_ContainsFunc_int_int.f (l0 : List Int) : Option Bool := if l0.length ≤ 9223372036854775807 then some (l0.any slices_ContainsFunc_int_int.p) else none
theorem slices_ContainsFunc_int_int.calls (A0 : Option Addr) (c0 : Nat) (l0 : List Int) (r : Bool) (w : World) (hr0 : Kd.C (Kd.int .i64) w A0 l0.length l0) (hc0 : l0.length ≤ c0) (h : slices_ContainsFunc_int_int.f l0 = some r) :
    Calls Try.prog 46 #[.slice A0 l0.length c0, .func (.func 47) #[] #[]] w fun e w' => e = .returned (.bool r) ∧ Below w.heap.size w w' := by
  unfold slices_ContainsFunc_int_int.f at h
  by_cases hl : l0.length ≤ 9223372036854775807
  · rw [if_pos hl] at h
    have K := Aside0.mk (slices_ContainsFunc_int_int.idx A0 c0 l0 w hr0 hl)
    obtain ⟨b, hb⟩ : ∃ b, l0.any slices_ContainsFunc_int_int.p = b := ⟨_, rfl⟩
    rw [hb] at K h
    obtain rfl := Option.some.inj h
    clear hb h hc0 hr0
    go_enter Try.func46, Try.ntmps46
    go_wp2_with (go_at_call 60; refine K.out.mono ?_; rintro e w1 ⟨⟨i, rfl, hi⟩, hb⟩; have HI := Aside0.mk hi; have HB1 := Aside0.mk hb; clear hb hi)
    go_ret
    exact ⟨by rw [← HI.out]; rfl, HB1.out⟩
  · rw [if_neg hl] at h; cases h
end Go.Proofs.Ytmnkabdaapiikaa
