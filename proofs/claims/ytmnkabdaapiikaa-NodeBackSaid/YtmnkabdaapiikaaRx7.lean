-- laid by a program of this session (wip/tools/xprint.py), function by function; Lean checks it
import Derived.Test.YtmnkabdaapiikaaRx0
import Derived.Test.YtmnkabdaapiikaaRx6
namespace Go.Proofs.Ytmnkabdaapiikaa.R
open Go.RowKit Go.Proofs.YtmnkabdaapiikaaW.PrintWords Go.Proofs.YtmnkabdaapiikaaW.PrintLast Go.Proofs.YtmnkabdaapiikaaW.PrintMore
attribute [local go_sem] max2_int min2_int max_two min_two max_three min_three max_four min_four   -- for this text's walks alone
set_option linter.unusedVariables false
set_option linter.unusedSimpArgs false

/-! ### peneloperef01_Cut: function 42 -/
def peneloperef01_Cut.f (k : Nat) (a0 : ByteArray) (a1 : Int) : Option (ByteArray × Int × Int) := (peneloperef01_Get.f k a0 a1 2).bind fun bt118 => (if bt118.2.2 = 0 then (if (wrap64 ((a0.size : Int) - bt118.2.1)) < bt118.1 then (some ((⟨#[]⟩ : ByteArray), 0, 3)) else (if 0 ≤ bt118.2.1 then (if bt118.2.1 ≤ (wrap64 (bt118.2.1 + bt118.1)) then (if (wrap64 (bt118.2.1 + bt118.1)) ≤ (a0.size : Int) then (some (a0.extract (bt118.2.1 : Int).toNat ((wrap64 (bt118.2.1 + bt118.1)) : Int).toNat, wrap64 (bt118.2.1 + bt118.1), 0)) else (none)) else (none)) else (none))) else (some ((⟨#[]⟩ : ByteArray), 0, bt118.2.2)))
theorem peneloperef01_Cut.mono : ∀ a0 a1 k, LeO (peneloperef01_Cut.f k a0 a1) (peneloperef01_Cut.f (k + 1) a0 a1) := by
  intro a0 a1 k
  unfold peneloperef01_Cut.f
  repeat' first
      | (with_reducible exact peneloperef01_Get.mono _ _ _ _)
      | (with_reducible exact LeO.refl _)
      | (with_reducible exact LeO.none _)
      | (with_reducible refine LeO.ite ?_ ?_)
      | (with_reducible refine LeO.bind ?_ (fun _ => ?_))
      | exact peneloperef01_Get.mono _ _ _ _
      | exact LeO.none _
      | refine LeO.ite ?_ ?_
      | refine LeO.bind ?_ (fun _ => ?_)
set_option maxHeartbeats 8000000 in
set_option maxRecDepth 100000 in
theorem peneloperef01_Cut.calls (k : Nat) (a0 : ByteArray) (a1 : Int) (r1 : ByteArray) (r2 : Int) (r3 : Int) (w : World) (h : peneloperef01_Cut.f k a0 a1 = some (r1, r2, r3)) :
    Calls Try.prog 42 #[.string a0, .int .i64 a1] w fun e w' => e = .returned (.tuple #[.string r1, .int .i64 r2, .int .i64 r3]) ∧ Drawn0 w w' := by
  have H : ((peneloperef01_Get.f k a0 a1 2).bind fun bt118 => (if bt118.2.2 = 0 then (if (wrap64 ((a0.size : Int) - bt118.2.1)) < bt118.1 then (some ((⟨#[]⟩ : ByteArray), 0, 3)) else (if 0 ≤ bt118.2.1 then (if bt118.2.1 ≤ (wrap64 (bt118.2.1 + bt118.1)) then (if (wrap64 (bt118.2.1 + bt118.1)) ≤ (a0.size : Int) then (some (a0.extract (bt118.2.1 : Int).toNat ((wrap64 (bt118.2.1 + bt118.1)) : Int).toNat, wrap64 (bt118.2.1 + bt118.1), 0)) else (none)) else (none)) else (none))) else (some ((⟨#[]⟩ : ByteArray), 0, bt118.2.2)))) = some (r1, r2, r3) := h
  clear h
  replace H := Option.bind_eq_some_iff.mp H
  obtain ⟨⟨t118, t119, t120⟩, A30, H⟩ := H
  replace H : (if t120 = 0 then (if (wrap64 ((a0.size : Int) - t119)) < t118 then (some ((⟨#[]⟩ : ByteArray), 0, 3)) else (if 0 ≤ t119 then (if t119 ≤ (wrap64 (t119 + t118)) then (if (wrap64 (t119 + t118)) ≤ (a0.size : Int) then (some (a0.extract (t119 : Int).toNat ((wrap64 (t119 + t118)) : Int).toNat, wrap64 (t119 + t118), 0)) else (none)) else (none)) else (none))) else (some ((⟨#[]⟩ : ByteArray), 0, t120))) = some (r1, r2, r3) := H
  have A3 := Aside0.mk A30
  clear A30
  by_cases c4 : t120 = 0
  · rw [if_pos c4] at H
    have c4b0 : (t120 == 0) = true := beq_iff_eq.mpr c4
    have c4b1 : (t120 != 0) = false := bne_eq_false_iff_eq.mpr c4
    clear c4
    by_cases c5 : (wrap64 ((a0.size : Int) - t119)) < t118
    · rw [if_pos c5] at H
      have c5b0 : decide ((wrap64 ((a0.size : Int) - t119)) < t118) = true := decide_eq_true c5
      clear c5
      simp only [Option.some.injEq, Prod.mk.injEq] at H
      obtain ⟨rfl, rfl, rfl⟩ := H
      go_enter Try.func42, Try.ntmps42
      go_wp2_with (first | ((with_reducible refine gate_callee (f := 41) rfl ?_); refine goesL_ (some 13) rfl rfl Try.func41 (by kernel_rfl) rfl #[.string a0, .int .i64 a1, .int .i64 2] rfl (by (try simp only [List.map_toArray, List.map_cons, List.map_nil]); first | done | rfl | (simp only [List.length_drop, List.length_take]; rfl)) ?_; (with_reducible refine (peneloperef01_Get.calls k a0 a1 2 t118 t119 t120 _ A3.out).mono ?_); rintro e w' ⟨rfl, ⟨nd, rfl⟩⟩; refine ⟨_, rfl, ?_⟩))
      go_ret3
      exact ⟨by first | rfl | (simp; done) | (simp [*]; done), by repeat (first | exact Drawn0.refl _ | apply Drawn0.step)⟩
    · rw [if_neg c5] at H
      have c5b0 : decide ((wrap64 ((a0.size : Int) - t119)) < t118) = false := decide_eq_false c5
      clear c5
      by_cases c6 : 0 ≤ t119
      · rw [if_pos c6] at H
        have c6b0 := eq_true c6
        have c6b1 : decide (0 ≤ t119) = true := decide_eq_true c6
        clear c6
        by_cases c7 : t119 ≤ (wrap64 (t119 + t118))
        · rw [if_pos c7] at H
          have c7b0 := eq_true c7
          have c7b1 : decide (t119 ≤ (wrap64 (t119 + t118))) = true := decide_eq_true c7
          by_cases c8 : (wrap64 (t119 + t118)) ≤ (a0.size : Int)
          · rw [if_pos c8] at H
            have c8b0 := eq_true c8
            have c8b1 : decide ((wrap64 (t119 + t118)) ≤ (a0.size : Int)) = true := decide_eq_true c8
            simp only [Option.some.injEq, Prod.mk.injEq] at H
            obtain ⟨rfl, rfl, rfl⟩ := H
            go_enter Try.func42, Try.ntmps42
            go_wp2_with (first | ((with_reducible refine gate_callee (f := 41) rfl ?_); refine goesL_ (some 13) rfl rfl Try.func41 (by kernel_rfl) rfl #[.string a0, .int .i64 a1, .int .i64 2] rfl (by (try simp only [List.map_toArray, List.map_cons, List.map_nil]); first | done | rfl | (simp only [List.length_drop, List.length_take]; rfl)) ?_; (with_reducible refine (peneloperef01_Get.calls k a0 a1 2 t118 t119 t120 _ A3.out).mono ?_); rintro e w' ⟨rfl, ⟨nd, rfl⟩⟩; refine ⟨_, rfl, ?_⟩))
            go_ret3
            exact ⟨by first | rfl | (simp; done) | (simp [*]; done), by repeat (first | exact Drawn0.refl _ | apply Drawn0.step)⟩
          · rw [if_neg c8] at H
            exact absurd H (by simp)
        · rw [if_neg c7] at H
          exact absurd H (by simp)
      · rw [if_neg c6] at H
        exact absurd H (by simp)
  · rw [if_neg c4] at H
    have c4b0 : (t120 == 0) = false := beq_eq_false_iff_ne.mpr c4
    have c4b1 : (t120 != 0) = true := bne_iff_ne.mpr c4
    simp only [Option.some.injEq, Prod.mk.injEq] at H
    obtain ⟨rfl, rfl, rfl⟩ := H
    go_enter Try.func42, Try.ntmps42
    go_wp2_with (first | ((with_reducible refine gate_callee (f := 41) rfl ?_); refine goesL_ (some 13) rfl rfl Try.func41 (by kernel_rfl) rfl #[.string a0, .int .i64 a1, .int .i64 2] rfl (by (try simp only [List.map_toArray, List.map_cons, List.map_nil]); first | done | rfl | (simp only [List.length_drop, List.length_take]; rfl)) ?_; (with_reducible refine (peneloperef01_Get.calls k a0 a1 2 t118 t119 t120 _ A3.out).mono ?_); rintro e w' ⟨rfl, ⟨nd, rfl⟩⟩; refine ⟨_, rfl, ?_⟩))
    go_ret3
    exact ⟨by first | rfl | (simp; done) | (simp [*]; done), by repeat (first | exact Drawn0.refl _ | apply Drawn0.step)⟩

end Go.Proofs.Ytmnkabdaapiikaa.R
