-- laid by a program of this session (wip/tools/xprint.py), function by function; Lean checks it
import Derived.Test.YtmbpnggldpgcdaaXx0
namespace Go.Proofs.Ytmbpnggldpgcdaa.X
open Go.RowKit Go.Proofs.YtmbpnggldpgcdaaW.PrintWords Go.Proofs.YtmbpnggldpgcdaaW.PrintLast Go.Proofs.YtmbpnggldpgcdaaW.PrintMore
attribute [local go_sem] max2_int min2_int max_two min_two max_three min_three max_four min_four   -- for this text's walks alone
set_option linter.unusedVariables false
set_option linter.unusedSimpArgs false

/-! ### peneloperef17_Until: function 34 -/
mutual
def peneloperef17_Until.j0 : Nat → List Int → Int → Option (Int)
  | 0, _, _ => none
  | k + 1, x1, x5 => peneloperef17_Until.l0 k x5 x1 (x1.length : Int) 0
def peneloperef17_Until.l0 : Nat → Int → List Int → Int → Int → Option (Int)
  | 0, _, _, _, _ => none
  | k + 1, x5, x11, x12, x13 => if x13 < x12 then (if 0 ≤ x13 then (if x13 < (x11.length : Int) then (if x5 ≥ 1099511627776 then (peneloperef17_Until.j2 k x5 (rd x11 x13) x11 x12 x13 true) else (peneloperef17_Until.j2 k x5 (rd x11 x13) x11 x12 x13 (decide ((rd x11 x13) ≥ 1099511627776)))) else (none)) else (none)) else (if x5 > 1099511627776 then (some 1099511627776) else (some x5))
def peneloperef17_Until.j2 : Nat → Int → Int → List Int → Int → Int → Bool → Option (Int)
  | 0, _, _, _, _, _, _ => none
  | k + 1, x5, x7, x11, x12, x13, x22 => if x22 = true then (some 1099511627776) else (if x7 > 0 then (peneloperef17_Until.l0 k (wrap64 (x5 + x7)) x11 x12 (wrap64 (x13 + 1))) else (peneloperef17_Until.l0 k x5 x11 x12 (wrap64 (x13 + 1))))
end
def peneloperef17_Until.f (k : Nat) (a0 : Int) (l1 : List Int) : Option (Int) := if a0 > 0 then (peneloperef17_Until.j0 k l1 a0) else (peneloperef17_Until.j0 k l1 0)
theorem peneloperef17_Until.mono_l : ∀ k, (∀ y0 y1, LeO (peneloperef17_Until.j0 k y0 y1) (peneloperef17_Until.j0 (k + 1) y0 y1)) ∧ (∀ y0 y1 y2 y3, LeO (peneloperef17_Until.l0 k y0 y1 y2 y3) (peneloperef17_Until.l0 (k + 1) y0 y1 y2 y3)) ∧ (∀ y0 y1 y2 y3 y4 y5, LeO (peneloperef17_Until.j2 k y0 y1 y2 y3 y4 y5) (peneloperef17_Until.j2 (k + 1) y0 y1 y2 y3 y4 y5))
  | 0 => ⟨fun _ _ r h => by simp [peneloperef17_Until.j0] at h, fun _ _ _ _ r h => by simp [peneloperef17_Until.l0] at h, fun _ _ _ _ _ _ r h => by simp [peneloperef17_Until.j2] at h⟩
  | k + 1 => by
    obtain ⟨ih0, ih1, ih2⟩ := peneloperef17_Until.mono_l k
    refine ⟨?_, ?_, ?_⟩
    · intro y0 y1
      unfold peneloperef17_Until.j0
      repeat' first
      | (with_reducible exact ih0 _ _)
      | (with_reducible exact ih1 _ _ _ _)
      | (with_reducible exact ih2 _ _ _ _ _ _)
      | (with_reducible exact LeO.refl _)
      | (with_reducible exact LeO.none _)
      | (with_reducible refine LeO.ite ?_ ?_)
      | (with_reducible refine LeO.bind ?_ (fun _ => ?_))
      | exact ih0 _ _
      | exact ih1 _ _ _ _
      | exact ih2 _ _ _ _ _ _
      | exact LeO.none _
      | refine LeO.ite ?_ ?_
      | refine LeO.bind ?_ (fun _ => ?_)
    · intro y0 y1 y2 y3
      unfold peneloperef17_Until.l0
      repeat' first
      | (with_reducible exact ih0 _ _)
      | (with_reducible exact ih1 _ _ _ _)
      | (with_reducible exact ih2 _ _ _ _ _ _)
      | (with_reducible exact LeO.refl _)
      | (with_reducible exact LeO.none _)
      | (with_reducible refine LeO.ite ?_ ?_)
      | (with_reducible refine LeO.bind ?_ (fun _ => ?_))
      | exact ih0 _ _
      | exact ih1 _ _ _ _
      | exact ih2 _ _ _ _ _ _
      | exact LeO.none _
      | refine LeO.ite ?_ ?_
      | refine LeO.bind ?_ (fun _ => ?_)
    · intro y0 y1 y2 y3 y4 y5
      unfold peneloperef17_Until.j2
      repeat' first
      | (with_reducible exact ih0 _ _)
      | (with_reducible exact ih1 _ _ _ _)
      | (with_reducible exact ih2 _ _ _ _ _ _)
      | (with_reducible exact LeO.refl _)
      | (with_reducible exact LeO.none _)
      | (with_reducible refine LeO.ite ?_ ?_)
      | (with_reducible refine LeO.bind ?_ (fun _ => ?_))
      | exact ih0 _ _
      | exact ih1 _ _ _ _
      | exact ih2 _ _ _ _ _ _
      | exact LeO.none _
      | refine LeO.ite ?_ ?_
      | refine LeO.bind ?_ (fun _ => ?_)
theorem peneloperef17_Until.mono : ∀ a0 a1 k, LeO (peneloperef17_Until.f k a0 a1) (peneloperef17_Until.f (k + 1) a0 a1) := by
  intro a0 a1 k
  obtain ⟨ih0, ih1, ih2⟩ := peneloperef17_Until.mono_l k
  unfold peneloperef17_Until.f
  repeat' first
      | (with_reducible exact ih0 _ _)
      | (with_reducible exact ih1 _ _ _ _)
      | (with_reducible exact ih2 _ _ _ _ _ _)
      | (with_reducible exact LeO.refl _)
      | (with_reducible exact LeO.none _)
      | (with_reducible refine LeO.ite ?_ ?_)
      | (with_reducible refine LeO.bind ?_ (fun _ => ?_))
      | exact ih0 _ _
      | exact ih1 _ _ _ _
      | exact ih2 _ _ _ _ _ _
      | exact LeO.none _
      | refine LeO.ite ?_ ?_
      | refine LeO.bind ?_ (fun _ => ?_)
set_option maxHeartbeats 8000000 in
set_option maxRecDepth 100000 in
theorem peneloperef17_Until.calls (k : Nat) (a0 : Int) (A1 : Option Addr) (c1 : Nat) (l1 : List Int) (r : Int) (w : World) (hr1 : Kd.C (Kd.int .i64) w A1 l1.length l1) (hc1 : l1.length ≤ c1) (h : peneloperef17_Until.f k a0 l1 = some r) :
    Calls Try.prog 34 #[.int .i64 a0, .slice A1 l1.length c1] w fun e w' => e = .returned (.int .i64 r) ∧ Drawn0 w w' := by
  have HR1 := Aside0.mk hr1
  have HC1 := Aside0.mk hc1
  clear hr1 hc1
  have H : (if a0 > 0 then (peneloperef17_Until.j0 k l1 a0) else (peneloperef17_Until.j0 k l1 0)) = some r := h
  clear h
  have HC3 := Aside0.mk H
  clear H
  go_enter Try.func34, Try.ntmps34
  go_upto_if 9 with (fail)
  go_cut [5] (fun v5 wc => ∃ (kq : Nat) (x5_2 : Int), v5 = .int .i64 x5_2 ∧ Aside0 (peneloperef17_Until.j0 kq l1 x5_2 = some r) ∧ Aside0 (kq ≤ k) ∧ Drawn0 w wc)
  case first =>
    have H := HC3.out
    clear HC3
    by_cases c4 : a0 > 0
    · rw [if_pos c4] at H
      have c4b0 : decide (0 < a0) = true := decide_eq_true c4
      clear c4
      (first | rw [c4b0] | (simp only [i64_w, i32_w]; rw [c4b0]) | skip)
      have H' := Aside0.mk H
      clear H
      go_wp2
      go_meet
      case rel => exact ⟨_, (a0), (by first | rfl | (simp; done) | (simp [*]; done)), H', ⟨by first | omega | exact Nat.le_refl _⟩, by repeat (first | exact Drawn0.refl _ | apply Drawn0.step)⟩
    · rw [if_neg c4] at H
      have c4b0 : decide (0 < a0) = false := decide_eq_false c4
      clear c4
      (first | rw [c4b0] | (simp only [i64_w, i32_w]; rw [c4b0]) | skip)
      have H' := Aside0.mk H
      clear H
      go_wp2
      go_meet
      case rel => exact ⟨_, (0), (by first | rfl | (simp; done) | (simp [*]; done)), H', ⟨by first | omega | exact Nat.le_refl _⟩, by repeat (first | exact Drawn0.refl _ | apply Drawn0.step)⟩
  case rest =>
    clear HC3
    try clear c1
    try clear p2
    try clear c3
    try clear c4
    try clear c4b0
    obtain ⟨kq, x5_2, rfl, HA, HJ2, ⟨mc2, rfl⟩⟩ := hcut
    cases kq with
    | zero => exact absurd HA.out (by simp [peneloperef17_Until.j0])
    | succ kj2 =>
      have H := HA.out
      clear HA
      simp only [peneloperef17_Until.j0] at H
      have H' := Aside0.mk H
      clear H
      go_wp2
      go_loopg [5, 13] kj2 (fun kq v5 v13 w' => ∃ (x5_2 : Int) (x13_2 : Int), v5 = .int .i64 x5_2 ∧ v13 = .int .i64 x13_2 ∧ Aside0 (peneloperef17_Until.l0 kq x5_2 l1 (l1.length : Int) x13_2 = some r) ∧ Aside0 (kq ≤ kj2) ∧ Drawn0 w w')
      case atStart => exact ⟨(x5_2), (0), (by first | rfl | (simp; done) | (simp [*]; done)), (by first | rfl | (simp; done) | (simp [*]; done)), H', ⟨Nat.le_refl _⟩, by repeat (first | exact Drawn0.refl _ | apply Drawn0.step)⟩
      case round =>
        clear H'
        try clear c1
        try clear c2
        try clear p2
        try clear c3
        try clear c4
        try clear c4b0
        try clear p2
        obtain ⟨x5_2, x13_2, rfl, rfl, HA, HK2, ⟨m2, rfl⟩⟩ := hrel
        cases gk with
        | zero => exact absurd HA.out (by simp [peneloperef17_Until.l0])
        | succ k2 =>
          have H := HA.out
          clear HA
          simp only [peneloperef17_Until.l0] at H
          by_cases c5 : x13_2 < (l1.length : Int)
          · rw [if_pos c5] at H
            have c5b0 : decide (x13_2 < (l1.length : Int)) = true := decide_eq_true c5
            clear c5
            by_cases c6 : 0 ≤ x13_2
            · rw [if_pos c6] at H
              have c6b0 : decide (0 ≤ x13_2) = true := decide_eq_true c6
              clear c6
              by_cases c7 : x13_2 < (l1.length : Int)
              · rw [if_pos c7] at H
                have c7b0 : decide (x13_2 < (l1.length : Int)) = true := decide_eq_true c7
                clear c7
                have HC8 := Aside0.mk H
                clear H
                have p116 : 0 ≤ (x13_2 : Int) := of_decide_eq_true (by first | (with_reducible assumption) | assumption)
                have q116 : x13_2 < (l1.length : Int) := of_decide_eq_true (by first | (with_reducible assumption) | assumption)
                obtain ⟨ad116, e116, hx116_0⟩ := Kd.at_int HR1.out x13_2 p116 q116
                cases e116
                replace p116 := eq_true p116
                replace q116 := eq_true q116
                go_upto_region 7 with (fail)
                go_cut [22] (fun v22 wc => ∃ (kq : Nat) (x22_7 : Bool), v22 = .bool x22_7 ∧ Aside0 (peneloperef17_Until.j2 kq x5_2 (rd l1 x13_2) l1 (l1.length : Int) x13_2 x22_7 = some r) ∧ Aside0 (kq ≤ k2) ∧ Drawn0 w wc)
                case first =>
                  have H := HC8.out
                  clear HC8
                  by_cases c9 : x5_2 ≥ 1099511627776
                  · rw [if_pos c9] at H
                    have c9b0 : decide (1099511627776 ≤ x5_2) = true := decide_eq_true c9
                    clear c9
                    (first | rw [c9b0] | (simp only [i64_w, i32_w]; rw [c9b0]) | skip)
                    have H' := Aside0.mk H
                    clear H
                    go_wp2
                    go_meet
                    case rel => exact ⟨_, (true), (by first | rfl | (simp; done) | (simp [*]; done)), H', ⟨by have := HJ2.out; have := HK2.out; first | omega | exact Nat.le_refl _⟩, by repeat (first | exact Drawn0.refl _ | apply Drawn0.step)⟩
                  · rw [if_neg c9] at H
                    have c9b0 : decide (1099511627776 ≤ x5_2) = false := decide_eq_false c9
                    clear c9
                    (first | rw [c9b0] | (simp only [i64_w, i32_w]; rw [c9b0]) | skip)
                    have H' := Aside0.mk H
                    clear H
                    go_wp2
                    go_meet
                    case rel => exact ⟨_, (decide ((rd l1 x13_2) ≥ 1099511627776)), (by first | rfl | (simp; done) | (simp [*]; done)), H', ⟨by have := HJ2.out; have := HK2.out; first | omega | exact Nat.le_refl _⟩, by repeat (first | exact Drawn0.refl _ | apply Drawn0.step)⟩
                case rest =>
                  clear HC8
                  try clear c1
                  try clear p1
                  try clear q1
                  try clear hx1
                  try clear c2
                  try clear p2
                  try clear c3
                  try clear c4
                  try clear c4b0
                  try clear c5
                  try clear c5b0
                  try clear c6
                  try clear c6b0
                  try clear c7
                  try clear c7b0
                  try clear c9
                  try clear c9b0
                  try clear hx116_0
                  try clear p116
                  try clear p2
                  try clear q116
                  obtain ⟨kq, x22_7, rfl, HA, HJ7, ⟨mc7, rfl⟩⟩ := hcut
                  cases kq with
                  | zero => exact absurd HA.out (by simp [peneloperef17_Until.j2])
                  | succ kj7 =>
                    have H := HA.out
                    clear HA
                    simp only [peneloperef17_Until.j2] at H
                    by_cases c10 : x22_7 = true
                    · subst c10
                      have H1 : (some 1099511627776) = some r := by rw [if_pos rfl] at H; exact H
                      clear H
                      have H := H1
                      clear H1
                      obtain rfl := Option.some.inj H
                      go_wp2
                      go_ret
                      exact ⟨by first | rfl | (simp; done) | (simp [*]; done), by repeat (first | exact Drawn0.refl _ | apply Drawn0.step)⟩
                    · replace c10 := Bool.eq_false_iff.mpr c10
                      subst c10
                      have H1 : (if (rd l1 x13_2) > 0 then (peneloperef17_Until.l0 kj7 (wrap64 (x5_2 + (rd l1 x13_2))) l1 (l1.length : Int) (wrap64 (x13_2 + 1))) else (peneloperef17_Until.l0 kj7 x5_2 l1 (l1.length : Int) (wrap64 (x13_2 + 1)))) = some r := by rw [if_neg (show ¬ (false = true) by decide)] at H; exact H
                      clear H
                      have H := H1
                      clear H1
                      by_cases c11 : (rd l1 x13_2) > 0
                      · rw [if_pos c11] at H
                        have c11b0 : decide (0 < (rd l1 x13_2)) = true := decide_eq_true c11
                        clear c11
                        have H' := Aside0.mk H
                        clear H
                        go_wp2
                        go_roundg kj7
                        case measure => have := HJ2.out; have := HK2.out; have := HJ7.out; omega
                        case rel => exact ⟨(wrap64 (x5_2 + (rd l1 x13_2))), (wrap64 (x13_2 + 1)), (by first | rfl | (simp; done) | (simp [*]; done)), (by first | rfl | (simp; done) | (simp [*]; done)), H', ⟨by have := HJ2.out; have := HK2.out; have := HJ7.out; omega⟩, by repeat (first | exact Drawn0.refl _ | apply Drawn0.step)⟩
                      · rw [if_neg c11] at H
                        have c11b0 : decide (0 < (rd l1 x13_2)) = false := decide_eq_false c11
                        clear c11
                        have H' := Aside0.mk H
                        clear H
                        go_wp2
                        go_roundg kj7
                        case measure => have := HJ2.out; have := HK2.out; have := HJ7.out; omega
                        case rel => exact ⟨(x5_2), (wrap64 (x13_2 + 1)), (by first | rfl | (simp; done) | (simp [*]; done)), (by first | rfl | (simp; done) | (simp [*]; done)), H', ⟨by have := HJ2.out; have := HK2.out; have := HJ7.out; omega⟩, by repeat (first | exact Drawn0.refl _ | apply Drawn0.step)⟩
              · rw [if_neg c7] at H
                exact absurd H (by simp)
            · rw [if_neg c6] at H
              exact absurd H (by simp)
          · rw [if_neg c5] at H
            have c5b0 : decide (x13_2 < (l1.length : Int)) = false := decide_eq_false c5
            clear c5
            by_cases c12 : x5_2 > 1099511627776
            · rw [if_pos c12] at H
              have c12b0 : decide (1099511627776 < x5_2) = true := decide_eq_true c12
              clear c12
              obtain rfl := Option.some.inj H
              go_wp2
              go_ret
              exact ⟨by first | rfl | (simp; done) | (simp [*]; done), by repeat (first | exact Drawn0.refl _ | apply Drawn0.step)⟩
            · rw [if_neg c12] at H
              have c12b0 : decide (1099511627776 < x5_2) = false := decide_eq_false c12
              clear c12
              obtain rfl := Option.some.inj H
              go_wp2
              go_ret
              exact ⟨by first | rfl | (simp; done) | (simp [*]; done), by repeat (first | exact Drawn0.refl _ | apply Drawn0.step)⟩

end Go.Proofs.Ytmbpnggldpgcdaa.X
