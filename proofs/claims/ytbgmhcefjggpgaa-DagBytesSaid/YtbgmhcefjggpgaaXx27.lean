/- Texts joined. -/
import Derived.Test.YtbgmhcefjggpgaaXx0
namespace Go.Proofs.Ytbgmhcefjggpgaa.X
open Go.RowKit Go.Proofs.YtbgmhcefjggpgaaW.PrintWords Go.Proofs.YtbgmhcefjggpgaaW.PrintLast Go.Proofs.YtbgmhcefjggpgaaW.PrintMore
attribute [local go_sem] max2_int min2_int max_two min_two max_three min_three max_four min_four   -- for this text's walks alone
set_option linter.unusedVariables false
set_option linter.unusedSimpArgs false

/-! ### peneloperef01_Get: function 53 -/
mutual
def peneloperef01_Get.j0 : Nat → ByteArray → Int → Int → Bool → Option (Int × Int × Int)
  | 0, _, _, _, _ => none
  | k + 1, x0, x1, x2, x26 => if x26 = true then (some (0, 0, 1)) else (if (wrap64 ((x0.size : Int) - x1)) < x2 then (some (0, 0, 3)) else (peneloperef01_Get.l0 k x0 x1 x2 0 0))
def peneloperef01_Get.l0 : Nat → ByteArray → Int → Int → Int → Int → Option (Int × Int × Int)
  | 0, _, _, _, _, _ => none
  | k + 1, x0, x1, x2, x9, x10 => if x10 < x2 then (if 0 ≤ (wrap64 (x1 + x10)) then (if (wrap64 (x1 + x10)) < (x0.size : Int) then (peneloperef01_Get.l0 k x0 x1 x2 (wrap64 ((wrap64 (x9 * 256)) + (wrap64 (bt x0 (wrap64 (x1 + x10)))))) (wrap64 (x10 + 1))) else (none)) else (none)) else (some (x9, wrap64 (x1 + x2), 0))
end
def peneloperef01_Get.f (k : Nat) (a0 : ByteArray) (a1 : Int) (a2 : Int) : Option (Int × Int × Int) := if a2 < 1 then (peneloperef01_Get.j0 k a0 a1 a2 true) else (if a2 > 6 then (peneloperef01_Get.j0 k a0 a1 a2 true) else (if a1 < 0 then (peneloperef01_Get.j0 k a0 a1 a2 true) else (peneloperef01_Get.j0 k a0 a1 a2 (decide (a1 > (a0.size : Int))))))
theorem peneloperef01_Get.mono_l : ∀ k, (∀ y0 y1 y2 y3, LeO (peneloperef01_Get.j0 k y0 y1 y2 y3) (peneloperef01_Get.j0 (k + 1) y0 y1 y2 y3)) ∧ (∀ y0 y1 y2 y3 y4, LeO (peneloperef01_Get.l0 k y0 y1 y2 y3 y4) (peneloperef01_Get.l0 (k + 1) y0 y1 y2 y3 y4))
  | 0 => ⟨fun _ _ _ _ r h => by simp [peneloperef01_Get.j0] at h, fun _ _ _ _ _ r h => by simp [peneloperef01_Get.l0] at h⟩
  | k + 1 => by
    obtain ⟨ih0, ih1⟩ := peneloperef01_Get.mono_l k
    refine ⟨?_, ?_⟩
    · intro y0 y1 y2 y3
      unfold peneloperef01_Get.j0
      repeat' first
      | (with_reducible exact ih0 _ _ _ _)
      | (with_reducible exact ih1 _ _ _ _ _)
      | (with_reducible exact LeO.refl _)
      | (with_reducible exact LeO.none _)
      | (with_reducible refine LeO.ite ?_ ?_)
      | (with_reducible refine LeO.bind ?_ (fun _ => ?_))
      | exact ih0 _ _ _ _
      | exact ih1 _ _ _ _ _
      | exact LeO.none _
      | refine LeO.ite ?_ ?_
      | refine LeO.bind ?_ (fun _ => ?_)
    · intro y0 y1 y2 y3 y4
      unfold peneloperef01_Get.l0
      repeat' first
      | (with_reducible exact ih0 _ _ _ _)
      | (with_reducible exact ih1 _ _ _ _ _)
      | (with_reducible exact LeO.refl _)
      | (with_reducible exact LeO.none _)
      | (with_reducible refine LeO.ite ?_ ?_)
      | (with_reducible refine LeO.bind ?_ (fun _ => ?_))
      | exact ih0 _ _ _ _
      | exact ih1 _ _ _ _ _
      | exact LeO.none _
      | refine LeO.ite ?_ ?_
      | refine LeO.bind ?_ (fun _ => ?_)
theorem peneloperef01_Get.mono : ∀ a0 a1 a2 k, LeO (peneloperef01_Get.f k a0 a1 a2) (peneloperef01_Get.f (k + 1) a0 a1 a2) := by
  intro a0 a1 a2 k
  obtain ⟨ih0, ih1⟩ := peneloperef01_Get.mono_l k
  unfold peneloperef01_Get.f
  repeat' first
      | (with_reducible exact ih0 _ _ _ _)
      | (with_reducible exact ih1 _ _ _ _ _)
      | (with_reducible exact LeO.refl _)
      | (with_reducible exact LeO.none _)
      | (with_reducible refine LeO.ite ?_ ?_)
      | (with_reducible refine LeO.bind ?_ (fun _ => ?_))
      | exact ih0 _ _ _ _
      | exact ih1 _ _ _ _ _
      | exact LeO.none _
      | refine LeO.ite ?_ ?_
      | refine LeO.bind ?_ (fun _ => ?_)
set_option maxHeartbeats 8000000 in
set_option maxRecDepth 100000 in
theorem peneloperef01_Get.calls (k : Nat) (a0 : ByteArray) (a1 : Int) (a2 : Int) (r1 : Int) (r2 : Int) (r3 : Int) (w : World) (h : peneloperef01_Get.f k a0 a1 a2 = some (r1, r2, r3)) :
    Calls Try.prog 53 #[.string a0, .int .i64 a1, .int .i64 a2] w fun e w' => e = .returned (.tuple #[.int .i64 r1, .int .i64 r2, .int .i64 r3]) ∧ Drawn0 w w' := by
  have H : (if a2 < 1 then (peneloperef01_Get.j0 k a0 a1 a2 true) else (if a2 > 6 then (peneloperef01_Get.j0 k a0 a1 a2 true) else (if a1 < 0 then (peneloperef01_Get.j0 k a0 a1 a2 true) else (peneloperef01_Get.j0 k a0 a1 a2 (decide (a1 > (a0.size : Int))))))) = some (r1, r2, r3) := h
  clear h
  have HC4 := Aside0.mk H
  clear H
  go_enter Try.func53, Try.ntmps53
  go_upto_region 1 with (fail)
  go_cut [26] (fun v26 wc => ∃ (kq : Nat) (x26_3 : Bool), v26 = .bool x26_3 ∧ Aside0 (peneloperef01_Get.j0 kq a0 a1 a2 x26_3 = some (r1, r2, r3)) ∧ Aside0 (kq ≤ k) ∧ Drawn0 w wc)
  case first =>
    have H := HC4.out
    clear HC4
    by_cases c5 : a2 < 1
    · rw [if_pos c5] at H
      have c5b0 : decide (a2 < 1) = true := decide_eq_true c5
      clear c5
      (first | rw [c5b0] | (simp only [i64_w, i32_w]; rw [c5b0]) | skip)
      have H' := Aside0.mk H
      clear H
      go_wp2
      go_meet
      case rel => exact ⟨_, (true), (by first | rfl | (simp; done) | (simp [*]; done)), H', ⟨by first | omega | exact Nat.le_refl _⟩, by repeat (first | exact Drawn0.refl _ | apply Drawn0.step)⟩
    · rw [if_neg c5] at H
      have c5b0 : decide (a2 < 1) = false := decide_eq_false c5
      clear c5
      (first | rw [c5b0] | (simp only [i64_w, i32_w]; rw [c5b0]) | skip)
      by_cases c6 : a2 > 6
      · rw [if_pos c6] at H
        have c6b0 : decide (6 < a2) = true := decide_eq_true c6
        clear c6
        have H' := Aside0.mk H
        clear H
        go_wp2
        go_meet
        case rel => exact ⟨_, (true), (by first | rfl | (simp; done) | (simp [*]; done)), H', ⟨by first | omega | exact Nat.le_refl _⟩, by repeat (first | exact Drawn0.refl _ | apply Drawn0.step)⟩
      · rw [if_neg c6] at H
        have c6b0 : decide (6 < a2) = false := decide_eq_false c6
        clear c6
        by_cases c7 : a1 < 0
        · rw [if_pos c7] at H
          have c7b0 : decide (a1 < 0) = true := decide_eq_true c7
          clear c7
          have H' := Aside0.mk H
          clear H
          go_wp2
          go_meet
          case rel => exact ⟨_, (true), (by first | rfl | (simp; done) | (simp [*]; done)), H', ⟨by first | omega | exact Nat.le_refl _⟩, by repeat (first | exact Drawn0.refl _ | apply Drawn0.step)⟩
        · rw [if_neg c7] at H
          have c7b0 : decide (a1 < 0) = false := decide_eq_false c7
          clear c7
          have H' := Aside0.mk H
          clear H
          go_wp2
          go_meet
          case rel => exact ⟨_, (decide (a1 > (a0.size : Int))), (by first | rfl | (simp; done) | (simp [*]; done)), H', ⟨by first | omega | exact Nat.le_refl _⟩, by repeat (first | exact Drawn0.refl _ | apply Drawn0.step)⟩
  case rest =>
    clear HC4
    try clear p2
    try clear c5
    try clear c5b0
    try clear c6
    try clear c6b0
    try clear c7
    try clear c7b0
    obtain ⟨kq, x26_3, rfl, HA, HJ3, ⟨mc3, rfl⟩⟩ := hcut
    cases kq with
    | zero => exact absurd HA.out (by simp [peneloperef01_Get.j0])
    | succ kj3 =>
      have H := HA.out
      clear HA
      simp only [peneloperef01_Get.j0] at H
      by_cases c8 : x26_3 = true
      · subst c8
        have H1 : (some (0, 0, 1)) = some (r1, r2, r3) := by rw [if_pos rfl] at H; exact H
        clear H
        have H := H1
        clear H1
        simp only [Option.some.injEq, Prod.mk.injEq] at H
        obtain ⟨rfl, rfl, rfl⟩ := H
        go_wp2
        go_ret3
        exact ⟨by first | rfl | (simp; done) | (simp [*]; done), by repeat (first | exact Drawn0.refl _ | apply Drawn0.step)⟩
      · replace c8 := Bool.eq_false_iff.mpr c8
        subst c8
        have H1 : (if (wrap64 ((a0.size : Int) - a1)) < a2 then (some (0, 0, 3)) else (peneloperef01_Get.l0 kj3 a0 a1 a2 0 0)) = some (r1, r2, r3) := by rw [if_neg (show ¬ (false = true) by decide)] at H; exact H
        clear H
        have H := H1
        clear H1
        by_cases c9 : (wrap64 ((a0.size : Int) - a1)) < a2
        · rw [if_pos c9] at H
          have c9b0 : decide ((wrap64 ((a0.size : Int) - a1)) < a2) = true := decide_eq_true c9
          clear c9
          simp only [Option.some.injEq, Prod.mk.injEq] at H
          obtain ⟨rfl, rfl, rfl⟩ := H
          go_wp2
          go_ret3
          exact ⟨by first | rfl | (simp; done) | (simp [*]; done), by repeat (first | exact Drawn0.refl _ | apply Drawn0.step)⟩
        · rw [if_neg c9] at H
          have c9b0 : decide ((wrap64 ((a0.size : Int) - a1)) < a2) = false := decide_eq_false c9
          clear c9
          have H' := Aside0.mk H
          clear H
          go_wp2
          go_loopg [9, 10] kj3 (fun kq v9 v10 w' => ∃ (x9_2 : Int) (x10_2 : Int), v9 = .int .i64 x9_2 ∧ v10 = .int .i64 x10_2 ∧ Aside0 (peneloperef01_Get.l0 kq a0 a1 a2 x9_2 x10_2 = some (r1, r2, r3)) ∧ Aside0 (kq ≤ kj3) ∧ Drawn0 w w')
          case atStart => exact ⟨(0), (0), (by first | rfl | (simp; done) | (simp [*]; done)), (by first | rfl | (simp; done) | (simp [*]; done)), H', ⟨Nat.le_refl _⟩, by repeat (first | exact Drawn0.refl _ | apply Drawn0.step)⟩
          case round =>
            clear H'
            try clear p2
            try clear c3
            try clear c5
            try clear c5b0
            try clear c6
            try clear c6b0
            try clear p6
            try clear c7
            try clear c7b0
            try clear c8
            try clear c9
            try clear c9b0
            try clear p2
            obtain ⟨x9_2, x10_2, rfl, rfl, HA, HK2, ⟨m2, rfl⟩⟩ := hrel
            cases gk with
            | zero => exact absurd HA.out (by simp [peneloperef01_Get.l0])
            | succ k2 =>
              have H := HA.out
              clear HA
              simp only [peneloperef01_Get.l0] at H
              by_cases c10 : x10_2 < a2
              · rw [if_pos c10] at H
                have c10b0 : decide (x10_2 < a2) = true := decide_eq_true c10
                clear c10
                obtain ⟨ji11, hji11⟩ : ∃ j_ : Int, (wrap64 (a1 + x10_2)) = j_ := ⟨_, rfl⟩
                replace H : (if 0 ≤ (ji11) then (if (ji11) < (a0.size : Int) then (peneloperef01_Get.l0 k2 a0 a1 a2 (wrap64 ((wrap64 (x9_2 * 256)) + (wrap64 (bt a0 (ji11))))) (wrap64 (x10_2 + 1))) else (none)) else (none)) = some (r1, r2, r3) := by first | (rw [hji11] at H; exact H) | (simp only [hji11] at H ⊢; exact H)
                have hji11w : (IntKind.i64.wrap (a1 + x10_2)) = ji11 := (i64_w _).trans hji11
                by_cases c12 : 0 ≤ (ji11)
                · rw [if_pos c12] at H
                  have c12b0 : decide (0 ≤ (ji11)) = true := decide_eq_true c12
                  clear c12
                  by_cases c13 : (ji11) < (a0.size : Int)
                  · rw [if_pos c13] at H
                    have c13b0 : decide ((ji11) < (a0.size : Int)) = true := decide_eq_true c13
                    clear c13
                    have H' := Aside0.mk H
                    clear H
                    have p14 : 0 ≤ ((ji11) : Int) := of_decide_eq_true (by first | (with_reducible assumption) | assumption)
                    have q14 : (ji11) < (a0.size : Int) := of_decide_eq_true (by first | (with_reducible assumption) | assumption)
                    have hx14 := bt_at a0 (ji11)
                    replace p14 := eq_true p14
                    replace q14 := eq_true q14
                    go_wp2
                    go_roundg k2
                    case measure => have := HJ3.out; have := HK2.out; omega
                    case rel => exact ⟨(wrap64 ((wrap64 (x9_2 * 256)) + (wrap64 (bt a0 (ji11))))), (wrap64 (x10_2 + 1)), (by first | rfl | (simp; done) | (simp only [← hji11] <;> (first | rfl | simp)) | (simp [*]; done)), (by first | rfl | (simp; done) | (simp [*]; done)), H', ⟨by have := HJ3.out; have := HK2.out; omega⟩, by repeat (first | exact Drawn0.refl _ | apply Drawn0.step)⟩
                  · rw [if_neg c13] at H
                    exact absurd H (by simp)
                · rw [if_neg c12] at H
                  exact absurd H (by simp)
              · rw [if_neg c10] at H
                have c10b0 : decide (x10_2 < a2) = false := decide_eq_false c10
                clear c10
                simp only [Option.some.injEq, Prod.mk.injEq] at H
                obtain ⟨rfl, rfl, rfl⟩ := H
                go_wp2
                go_ret3
                exact ⟨by first | rfl | (simp; done) | (simp [*]; done), by repeat (first | exact Drawn0.refl _ | apply Drawn0.step)⟩

end Go.Proofs.Ytbgmhcefjggpgaa.X
namespace Go.Proofs.Ytbgmhcefjggpgaa.X
open Go.RowKit Go.Proofs.YtbgmhcefjggpgaaW.PrintWords Go.Proofs.YtbgmhcefjggpgaaW.PrintLast Go.Proofs.YtbgmhcefjggpgaaW.PrintMore
attribute [local go_sem] max2_int min2_int max_two min_two max_three min_three max_four min_four   -- for this text's walks alone
set_option linter.unusedVariables false
set_option linter.unusedSimpArgs false

/-! ### peneloperef01_Cut: function 52 -/
def peneloperef01_Cut.f (k : Nat) (a0 : ByteArray) (a1 : Int) : Option (ByteArray × Int × Int) := (peneloperef01_Get.f k a0 a1 2).bind fun bt326 => (if bt326.2.2 = 0 then (if (wrap64 ((a0.size : Int) - bt326.2.1)) < bt326.1 then (some ((⟨#[]⟩ : ByteArray), 0, 3)) else (if 0 ≤ bt326.2.1 then (if bt326.2.1 ≤ (wrap64 (bt326.2.1 + bt326.1)) then (if (wrap64 (bt326.2.1 + bt326.1)) ≤ (a0.size : Int) then (some (a0.extract (bt326.2.1 : Int).toNat ((wrap64 (bt326.2.1 + bt326.1)) : Int).toNat, wrap64 (bt326.2.1 + bt326.1), 0)) else (none)) else (none)) else (none))) else (some ((⟨#[]⟩ : ByteArray), 0, bt326.2.2)))
theorem peneloperef01_Cut.mono : ∀ a0 a1 k, LeO (peneloperef01_Cut.f k a0 a1) (peneloperef01_Cut.f (k + 1) a0 a1) := by
  intro a0 a1 k
  unfold peneloperef01_Cut.f
  repeat' first
      | (with_reducible exact peneloperef01_Get.mono _ _ _ _)
      | (with_reducible exact LeO.refl _)
      | (with_reducible exact LeO.none _)
      | (with_reducible refine LeO.ite ?_ ?_)
      | (with_reducible refine LeO.bind ?_ (fun _ => ?_))
      | exact peneloperef01_Get.mono _ _ _ _
      | exact LeO.none _
      | refine LeO.ite ?_ ?_
      | refine LeO.bind ?_ (fun _ => ?_)
set_option maxHeartbeats 8000000 in
set_option maxRecDepth 100000 in
theorem peneloperef01_Cut.calls (k : Nat) (a0 : ByteArray) (a1 : Int) (r1 : ByteArray) (r2 : Int) (r3 : Int) (w : World) (h : peneloperef01_Cut.f k a0 a1 = some (r1, r2, r3)) :
    Calls Try.prog 52 #[.string a0, .int .i64 a1] w fun e w' => e = .returned (.tuple #[.string r1, .int .i64 r2, .int .i64 r3]) ∧ Drawn0 w w' := by
  have H : ((peneloperef01_Get.f k a0 a1 2).bind fun bt326 => (if bt326.2.2 = 0 then (if (wrap64 ((a0.size : Int) - bt326.2.1)) < bt326.1 then (some ((⟨#[]⟩ : ByteArray), 0, 3)) else (if 0 ≤ bt326.2.1 then (if bt326.2.1 ≤ (wrap64 (bt326.2.1 + bt326.1)) then (if (wrap64 (bt326.2.1 + bt326.1)) ≤ (a0.size : Int) then (some (a0.extract (bt326.2.1 : Int).toNat ((wrap64 (bt326.2.1 + bt326.1)) : Int).toNat, wrap64 (bt326.2.1 + bt326.1), 0)) else (none)) else (none)) else (none))) else (some ((⟨#[]⟩ : ByteArray), 0, bt326.2.2)))) = some (r1, r2, r3) := h
  clear h
  replace H := Option.bind_eq_some_iff.mp H
  obtain ⟨⟨t326, t327, t328⟩, A30, H⟩ := H
  replace H : (if t328 = 0 then (if (wrap64 ((a0.size : Int) - t327)) < t326 then (some ((⟨#[]⟩ : ByteArray), 0, 3)) else (if 0 ≤ t327 then (if t327 ≤ (wrap64 (t327 + t326)) then (if (wrap64 (t327 + t326)) ≤ (a0.size : Int) then (some (a0.extract (t327 : Int).toNat ((wrap64 (t327 + t326)) : Int).toNat, wrap64 (t327 + t326), 0)) else (none)) else (none)) else (none))) else (some ((⟨#[]⟩ : ByteArray), 0, t328))) = some (r1, r2, r3) := H
  have A3 := Aside0.mk A30
  clear A30
  by_cases c4 : t328 = 0
  · rw [if_pos c4] at H
    have c4b0 : (t328 == 0) = true := beq_iff_eq.mpr c4
    have c4b1 : (t328 != 0) = false := bne_eq_false_iff_eq.mpr c4
    clear c4
    by_cases c5 : (wrap64 ((a0.size : Int) - t327)) < t326
    · rw [if_pos c5] at H
      have c5b0 : decide ((wrap64 ((a0.size : Int) - t327)) < t326) = true := decide_eq_true c5
      clear c5
      simp only [Option.some.injEq, Prod.mk.injEq] at H
      obtain ⟨rfl, rfl, rfl⟩ := H
      go_enter Try.func52, Try.ntmps52
      go_wp2_with (first | ((with_reducible refine gate_callee (f := 53) rfl ?_); refine goesL_ (some 13) rfl rfl Try.func53 (by kernel_rfl) rfl #[.string a0, .int .i64 a1, .int .i64 2] rfl (by (try simp only [List.map_toArray, List.map_cons, List.map_nil]); first | done | rfl | (simp only [List.length_drop, List.length_take]; rfl)) ?_; (with_reducible refine (peneloperef01_Get.calls k a0 a1 2 t326 t327 t328 _ A3.out).mono ?_); rintro e w' ⟨rfl, ⟨nd, rfl⟩⟩; refine ⟨_, rfl, ?_⟩))
      go_ret3
      exact ⟨by first | rfl | (simp; done) | (simp [*]; done), by repeat (first | exact Drawn0.refl _ | apply Drawn0.step)⟩
    · rw [if_neg c5] at H
      have c5b0 : decide ((wrap64 ((a0.size : Int) - t327)) < t326) = false := decide_eq_false c5
      clear c5
      by_cases c6 : 0 ≤ t327
      · rw [if_pos c6] at H
        have c6b0 := eq_true c6
        have c6b1 : decide (0 ≤ t327) = true := decide_eq_true c6
        clear c6
        by_cases c7 : t327 ≤ (wrap64 (t327 + t326))
        · rw [if_pos c7] at H
          have c7b0 := eq_true c7
          have c7b1 : decide (t327 ≤ (wrap64 (t327 + t326))) = true := decide_eq_true c7
          by_cases c8 : (wrap64 (t327 + t326)) ≤ (a0.size : Int)
          · rw [if_pos c8] at H
            have c8b0 := eq_true c8
            have c8b1 : decide ((wrap64 (t327 + t326)) ≤ (a0.size : Int)) = true := decide_eq_true c8
            simp only [Option.some.injEq, Prod.mk.injEq] at H
            obtain ⟨rfl, rfl, rfl⟩ := H
            go_enter Try.func52, Try.ntmps52
            go_wp2_with (first | ((with_reducible refine gate_callee (f := 53) rfl ?_); refine goesL_ (some 13) rfl rfl Try.func53 (by kernel_rfl) rfl #[.string a0, .int .i64 a1, .int .i64 2] rfl (by (try simp only [List.map_toArray, List.map_cons, List.map_nil]); first | done | rfl | (simp only [List.length_drop, List.length_take]; rfl)) ?_; (with_reducible refine (peneloperef01_Get.calls k a0 a1 2 t326 t327 t328 _ A3.out).mono ?_); rintro e w' ⟨rfl, ⟨nd, rfl⟩⟩; refine ⟨_, rfl, ?_⟩))
            go_ret3
            exact ⟨by first | rfl | (simp; done) | (simp [*]; done), by repeat (first | exact Drawn0.refl _ | apply Drawn0.step)⟩
          · rw [if_neg c8] at H
            exact absurd H (by simp)
        · rw [if_neg c7] at H
          exact absurd H (by simp)
      · rw [if_neg c6] at H
        exact absurd H (by simp)
  · rw [if_neg c4] at H
    have c4b0 : (t328 == 0) = false := beq_eq_false_iff_ne.mpr c4
    have c4b1 : (t328 != 0) = true := bne_iff_ne.mpr c4
    simp only [Option.some.injEq, Prod.mk.injEq] at H
    obtain ⟨rfl, rfl, rfl⟩ := H
    go_enter Try.func52, Try.ntmps52
    go_wp2_with (first | ((with_reducible refine gate_callee (f := 53) rfl ?_); refine goesL_ (some 13) rfl rfl Try.func53 (by kernel_rfl) rfl #[.string a0, .int .i64 a1, .int .i64 2] rfl (by (try simp only [List.map_toArray, List.map_cons, List.map_nil]); first | done | rfl | (simp only [List.length_drop, List.length_take]; rfl)) ?_; (with_reducible refine (peneloperef01_Get.calls k a0 a1 2 t326 t327 t328 _ A3.out).mono ?_); rintro e w' ⟨rfl, ⟨nd, rfl⟩⟩; refine ⟨_, rfl, ?_⟩))
    go_ret3
    exact ⟨by first | rfl | (simp; done) | (simp [*]; done), by repeat (first | exact Drawn0.refl _ | apply Drawn0.step)⟩

end Go.Proofs.Ytbgmhcefjggpgaa.X
namespace Go.Proofs.Ytbgmhcefjggpgaa.X
open Go.RowKit Go.Proofs.YtbgmhcefjggpgaaW.PrintWords Go.Proofs.YtbgmhcefjggpgaaW.PrintLast Go.Proofs.YtbgmhcefjggpgaaW.PrintMore
attribute [local go_sem] max2_int min2_int max_two min_two max_three min_three max_four min_four   -- for this text's walks alone
set_option linter.unusedVariables false
set_option linter.unusedSimpArgs false

/-- A state of type 68 at block g of W; what its slices lead to came in by w0. -/
def IsS68 (w0 W : World) (g : Nat) (f0 : ByteArray) (f1 : Int) (f2 : Int) : Prop := W.heap[g]? = some (.cells #[.string f0, .int .i64 f1, .int .i64 f2] 68 (0, 0)) ∧ w0.heap.size ≤ g
theorem IsS68.grown {w0 W : World} {g : Nat} {f0 : ByteArray} {f1 : Int} {f2 : Int} {W1 : World} {row : Option Nat} (h : IsS68 w0 W g f0 f1 f2) (hw : W.grownBy W1 row) (hne : some g ≠ row) : IsS68 w0 W1 g f0 f1 f2 := by
  obtain ⟨hb, hg⟩ := h
  exact ⟨blk_grown hb hw hne, hg⟩
theorem IsS68.own_neN {w0 W : World} {g : Nat} {f0 : ByteArray} {f1 : Int} {f2 : Int} {α : Type} {d : Kd α} {e : Nat} {base : Nat} {ok : Nat → Prop} {v : Value} {xs : List α} (h : IsS68 w0 W g f0 f1 f2) (ho : Kd.N d e W base ok v xs) (ht : e ≠ 68) : some g ≠ v.ownBlock := by
  obtain ⟨hb, hg⟩ := h
  exact Kd.N_ne ho hb ht
theorem IsS68.fresh {w0 W : World} {g : Nat} {f0 : ByteArray} {f1 : Int} {f2 : Int} (h : IsS68 w0 W g f0 f1 f2) : ∀ k, W.heap.size ≤ k → k ≠ g := by
  obtain ⟨hb, hg⟩ := h
  exact Kd.freshB hb
theorem IsS68.kept {w0 W : World} {g : Nat} {f0 : ByteArray} {f1 : Int} {f2 : Int} {W1 : World} {S : Nat → Prop} (h : IsS68 w0 W g f0 f1 f2) (hk : Kept W W1 S) (hne : ¬ S g) : IsS68 w0 W1 g f0 f1 f2 := by
  obtain ⟨hb, hg⟩ := h
  exact ⟨blk_kept hb hk hne, hg⟩
theorem IsS68.below {w0 W : World} {g : Nat} {f0 : ByteArray} {f1 : Int} {f2 : Int} {W1 : World} (h : IsS68 w0 W g f0 f1 f2) (hw : Below W.heap.size W W1) : IsS68 w0 W1 g f0 f1 f2 := h.grown (grown_of_below hw none) (by simp)
theorem IsS68.alloc {w0 W : World} {g : Nat} {f0 : ByteArray} {f1 : Int} {f2 : Int} (h : IsS68 w0 W g f0 f1 f2) (o : Obj) : IsS68 w0 (W.alloc o) g f0 f1 f2 := h.below (below_alloc (Below.refl _ _) o)
theorem IsS68.drewN {w0 W : World} {g : Nat} {f0 : ByteArray} {f1 : Int} {f2 : Int} (h : IsS68 w0 W g f0 f1 f2) (m : Nat) : IsS68 w0 (W.drewN m) g f0 f1 f2 := h
theorem IsS68.drew {w0 W : World} {g : Nat} {f0 : ByteArray} {f1 : Int} {f2 : Int} (h : IsS68 w0 W g f0 f1 f2) : IsS68 w0 W.drew g f0 f1 f2 := h
theorem IsS68.at_ {w0 W : World} {g : Nat} {f0 : ByteArray} {f1 : Int} {f2 : Int} {w' : World} {m : Nat} (hq : W.drewN m = w') (h : IsS68 w0 W g f0 f1 f2) : IsS68 w0 w' g f0 f1 f2 := by subst hq; exact IsS68.drewN h m
theorem IsS68.apart {w0 W : World} {g : Nat} {f0 : ByteArray} {f1 : Int} {f2 : Int} {α : Type} {d : Kd α} {e : Nat} {base : Nat} {ok : Nat → Prop} {v : Value} {xs : List α} (h : IsS68 w0 W g f0 f1 f2) (ho : d.R e W base ok v xs) (ht : ∀ q, q ∈ e :: d.E → q ≠ 68) : d.R e W base (fun k => ok k ∧ k ≠ g) v xs := by
  obtain ⟨hb, hg⟩ := h
  exact Kd.R_types ho hb ht
theorem IsS68.own_ne {w0 W : World} {g : Nat} {f0 : ByteArray} {f1 : Int} {f2 : Int} {α : Type} {d : Kd α} {e : Nat} {base : Nat} {ok : Nat → Prop} {v : Value} {xs : List α} (h : IsS68 w0 W g f0 f1 f2) (ho : d.R e W base ok v xs) (ht : e ≠ 68) : some g ≠ v.ownBlock := by
  obtain ⟨hb, hg⟩ := h
  exact Kd.R_ne ho hb ht
theorem IsS68.apartQ {w0 W : World} {g : Nat} {f0 : ByteArray} {f1 : Int} {f2 : Int} {α : Type} {d : Kd α} {e : Nat} {base : Nat} {ok : Nat → Prop} {v : Value} {xs : List α} (h : IsS68 w0 W g f0 f1 f2) (ho : d.Q e W base ok v xs) (ht : ∀ q, q ∈ e :: d.E → q ≠ 68) : d.Q e W base (fun k => ok k ∧ k ≠ g) v xs := by
  obtain ⟨hb, hg⟩ := h
  exact Kd.Q_types ho hb ht
theorem IsS68.own_neQ {w0 W : World} {g : Nat} {f0 : ByteArray} {f1 : Int} {f2 : Int} {α : Type} {d : Kd α} {e : Nat} {base : Nat} {ok : Nat → Prop} {v : Value} {xs : List α} (h : IsS68 w0 W g f0 f1 f2) (ho : d.Q e W base ok v xs) (ht : e ≠ 68) : some g ≠ v.ownBlock := by
  obtain ⟨hb, hg⟩ := h
  exact Kd.Q_ne ho hb ht
theorem IsS68.apartS {w0 W : World} {g : Nat} {f0 : ByteArray} {f1 : Int} {f2 : Int} {α : Type} {d : Kd α} {e : Nat} {base : Nat} {ok : Nat → Prop} {v : Value} {xs : List α} (h : IsS68 w0 W g f0 f1 f2) (ho : d.S e W base ok v xs) (ht : ∀ q, q ∈ e :: d.E → q ≠ 68) : d.S e W base (fun k => ok k ∧ k ≠ g) v xs := by
  obtain ⟨hb, hg⟩ := h
  exact Kd.S_types ho hb ht
theorem IsS68.own_neS {w0 W : World} {g : Nat} {f0 : ByteArray} {f1 : Int} {f2 : Int} {α : Type} {d : Kd α} {e : Nat} {base : Nat} {ok : Nat → Prop} {v : Value} {xs : List α} (h : IsS68 w0 W g f0 f1 f2) (ho : d.S e W base ok v xs) (ht : e ≠ 68) : some g ≠ v.ownBlock := by
  obtain ⟨hb, hg⟩ := h
  exact Kd.S_ne ho hb ht
theorem IsS68.lt {w0 W : World} {g : Nat} {f0 : ByteArray} {f1 : Int} {f2 : Int} (h : IsS68 w0 W g f0 f1 f2) : g < W.heap.size := by
  obtain ⟨hb, hg⟩ := h
  exact blk_lt hb
theorem IsS68.ge {w0 W : World} {g : Nat} {f0 : ByteArray} {f1 : Int} {f2 : Int} (h : IsS68 w0 W g f0 f1 f2) : w0.heap.size ≤ g := by
  obtain ⟨hb, hg⟩ := h
  exact hg
theorem IsS68.ne_blk {w0 W : World} {g : Nat} {f0 : ByteArray} {f1 : Int} {f2 : Int} {a : Nat} {cs : Array Value} {t : TypeId} {fr : Nat × Nat} (h : IsS68 w0 W g f0 f1 f2) (hb2 : W.heap[a]? = some (.cells cs t fr)) (ht : t ≠ 68) : g ≠ a := by
  obtain ⟨hb, hg⟩ := h
  rintro rfl
  rw [hb] at hb2
  injection hb2 with hb2
  injection hb2 with _ ht2
  exact ht ht2.symm
theorem IsS68.far {w0 W : World} {g : Nat} {f0 : ByteArray} {f1 : Int} {f2 : Int} {p : Addr} (h : IsS68 w0 W g f0 f1 f2) (hne : g ≠ p.block) (u : Value) : IsS68 w0 (W.setCell p u) g f0 f1 f2 := by
  obtain ⟨hb, hg⟩ := h
  exact ⟨blk_far hb hne u, hg⟩
theorem cellS68_0 {W : World} {g : Nat} {f0 : ByteArray} {f1 : Int} {f2 : Int} (h : W.heap[g]? = some (.cells #[.string f0, .int .i64 f1, .int .i64 f2] 68 (0, 0))) : W.cell? ⟨g, 0, none⟩ = some (.string f0) := (blk_cell h 0).trans rfl
theorem IsS68.set_0 {w0 W : World} {g : Nat} {f0 : ByteArray} {f1 : Int} {f2 : Int} (h : IsS68 w0 W g f0 f1 f2) (x : ByteArray) : IsS68 w0 (W.setCell ⟨g, 0, none⟩ (.string x)) g x f1 f2 := by
  obtain ⟨hb, hg⟩ := h
  exact ⟨by simpa using blk_set hb 0 (.string x), hg⟩
theorem cellS68_1 {W : World} {g : Nat} {f0 : ByteArray} {f1 : Int} {f2 : Int} (h : W.heap[g]? = some (.cells #[.string f0, .int .i64 f1, .int .i64 f2] 68 (0, 0))) : W.cell? ⟨g, 1, none⟩ = some (.int .i64 f1) := (blk_cell h 1).trans rfl
theorem IsS68.set_1 {w0 W : World} {g : Nat} {f0 : ByteArray} {f1 : Int} {f2 : Int} (h : IsS68 w0 W g f0 f1 f2) (x : Int) : IsS68 w0 (W.setCell ⟨g, 1, none⟩ (.int .i64 x)) g f0 x f2 := by
  obtain ⟨hb, hg⟩ := h
  exact ⟨by simpa using blk_set hb 1 (.int .i64 x), hg⟩
theorem cellS68_2 {W : World} {g : Nat} {f0 : ByteArray} {f1 : Int} {f2 : Int} (h : W.heap[g]? = some (.cells #[.string f0, .int .i64 f1, .int .i64 f2] 68 (0, 0))) : W.cell? ⟨g, 2, none⟩ = some (.int .i64 f2) := (blk_cell h 2).trans rfl
theorem IsS68.set_2 {w0 W : World} {g : Nat} {f0 : ByteArray} {f1 : Int} {f2 : Int} (h : IsS68 w0 W g f0 f1 f2) (x : Int) : IsS68 w0 (W.setCell ⟨g, 2, none⟩ (.int .i64 x)) g f0 f1 x := by
  obtain ⟨hb, hg⟩ := h
  exact ⟨by simpa using blk_set hb 2 (.int .i64 x), hg⟩
theorem IsS68.new (w0 W : World) (f0 : ByteArray) (f1 : Int) (f2 : Int) (hB : Below w0.heap.size w0 W) : IsS68 w0 (W.alloc (.cells #[.string f0, .int .i64 f1, .int .i64 f2] 68)) W.heap.size f0 f1 f2 := ⟨by simpa using heap_alloc_new W _, hB.size⟩

/-! ### peneloperef16_R_Text: function 45 -/
def peneloperef16_R_Text.f (k : Nat) (s0_0 : ByteArray) (s0_1 : Int) (s0_2 : Int) : Option (ByteArray × ByteArray × Int × Int) := if s0_2 = 0 then ((peneloperef01_Cut.f k s0_0 s0_1).bind fun bt329 => (some (bt329.1, s0_0, bt329.2.1, bt329.2.2))) else (some ((⟨#[]⟩ : ByteArray), s0_0, s0_1, s0_2))
theorem peneloperef16_R_Text.mono : ∀ a0 a1 a2 k, LeO (peneloperef16_R_Text.f k a0 a1 a2) (peneloperef16_R_Text.f (k + 1) a0 a1 a2) := by
  intro a0 a1 a2 k
  unfold peneloperef16_R_Text.f
  repeat' first
      | (with_reducible exact peneloperef01_Cut.mono _ _ _)
      | (with_reducible exact LeO.refl _)
      | (with_reducible exact LeO.none _)
      | (with_reducible refine LeO.ite ?_ ?_)
      | (with_reducible refine LeO.bind ?_ (fun _ => ?_))
      | exact peneloperef01_Cut.mono _ _ _
      | exact LeO.none _
      | refine LeO.ite ?_ ?_
      | refine LeO.bind ?_ (fun _ => ?_)
set_option maxHeartbeats 8000000 in
set_option maxRecDepth 100000 in
theorem peneloperef16_R_Text.calls (k : Nat) (g : Nat) (s0_0 : ByteArray) (s0_1 : Int) (s0_2 : Int) (r1 : ByteArray) (r2 : ByteArray) (r3 : Int) (r4 : Int) (w0 w : World) (hI : IsS68 w0 w g s0_0 s0_1 s0_2) (hB : Below w0.heap.size w0 w) (h : peneloperef16_R_Text.f k s0_0 s0_1 s0_2 = some (r1, r2, r3, r4)) :
    Calls Try.prog 45 #[.pointer (some ⟨g, 0, none⟩)] w fun e w' => e = .returned (.string r1) ∧ IsS68 w0 w' g r2 r3 r4 ∧ Below w0.heap.size w0 w' ∧ KeepBut w w' g none := by
  have HI0 := Aside0.mk hI
  have HK := Aside0.mk (KeepBut.refl w g none)
  have HL := Aside0.mk hB.size
  clear hI
  have HW0 := Aside0.mk hB.size
  have HB := Aside0.mk hB
  clear hB
  have H : (if s0_2 = 0 then ((peneloperef01_Cut.f k s0_0 s0_1).bind fun bt329 => (some (bt329.1, s0_0, bt329.2.1, bt329.2.2))) else (some ((⟨#[]⟩ : ByteArray), s0_0, s0_1, s0_2))) = some (r1, r2, r3, r4) := h
  clear h
  by_cases c2 : s0_2 = 0
  · rw [if_pos c2] at H
    have c2b0 : (s0_2 == 0) = true := beq_iff_eq.mpr c2
    have c2b1 : (s0_2 != 0) = false := bne_eq_false_iff_eq.mpr c2
    clear c2
    replace H := Option.bind_eq_some_iff.mp H
    obtain ⟨⟨t329, t330, t331⟩, A30, H⟩ := H
    replace H : (some (t329, s0_0, t330, t331)) = some (r1, r2, r3, r4) := H
    have A3 := Aside0.mk A30
    clear A30
    simp only [Option.some.injEq, Prod.mk.injEq] at H
    obtain ⟨rfl, rfl, rfl, rfl⟩ := H
    obtain ⟨HGz4, hgz4⟩ := HI0.out
    have hcz4_0 := cellS68_0 HGz4
    have hcz4_1 := cellS68_1 HGz4
    have hcz4_2 := cellS68_2 HGz4
    have hfz4_0 := blk_frozen HGz4 0
    have hfz4_1 := blk_frozen HGz4 1
    have hfz4_2 := blk_frozen HGz4 2
    clear HGz4 hgz4
    go_enter Try.func45, Try.ntmps45
    go_wp2_with (first | (go_at_call 52; (with_reducible refine (peneloperef01_Cut.calls k s0_0 s0_1 t329 t330 t331 _ A3.out).mono ?_); rintro e w' ⟨rfl, ⟨nd, rfl⟩⟩; (try first | exact ⟨rfl, _, World.drewN_drewN _ _ _⟩ | exact ⟨rfl, _, Eq.trans (World.drewN_drewN _ _ _) (congrArg (World.drewN _) (Nat.add_assoc _ _ _))⟩)))
    repeat (go_quiet (first | (go_at_call 52; (with_reducible refine (peneloperef01_Cut.calls k s0_0 s0_1 t329 t330 t331 _ A3.out).mono ?_); rintro e w' ⟨rfl, ⟨nd, rfl⟩⟩; (try first | exact ⟨rfl, _, World.drewN_drewN _ _ _⟩ | exact ⟨rfl, _, Eq.trans (World.drewN_drewN _ _ _) (congrArg (World.drewN _) (Nat.add_assoc _ _ _))⟩))); try go_wp2_with (first | (go_at_call 52; (with_reducible refine (peneloperef01_Cut.calls k s0_0 s0_1 t329 t330 t331 _ A3.out).mono ?_); rintro e w' ⟨rfl, ⟨nd, rfl⟩⟩; (try first | exact ⟨rfl, _, World.drewN_drewN _ _ _⟩ | exact ⟨rfl, _, Eq.trans (World.drewN_drewN _ _ _) (congrArg (World.drewN _) (Nat.add_assoc _ _ _))⟩))))
    go_ret
    exact ⟨by first | rfl | (simp [errW_none, errW_some] <;> rfl) | (simp [*, errW_none, errW_some] <;> rfl), by repeat (first | (with_reducible first | exact HI0.out | apply IsS68.alloc | apply IsS68.drewN | apply IsS68.drew | apply IsS68.set_0 | apply IsS68.set_1 | apply IsS68.set_2) | exact HI0.out), by repeat (first | (with_reducible first | exact HB.out | apply below_alloc | apply pw_below_drewN | apply below_drew1 | refine below_set ?_ (IsS68.ge HI0.out)) | exact HB.out), by repeat (first | (with_reducible first | exact HK.out | apply KeepBut.set_ | apply keep_drewN | apply keep_drew | apply keep_alloc) | exact HK.out)⟩
  · rw [if_neg c2] at H
    have c2b0 : (s0_2 == 0) = false := beq_eq_false_iff_ne.mpr c2
    have c2b1 : (s0_2 != 0) = true := bne_iff_ne.mpr c2
    simp only [Option.some.injEq, Prod.mk.injEq] at H
    obtain ⟨rfl, rfl, rfl, rfl⟩ := H
    obtain ⟨HGz5, hgz5⟩ := HI0.out
    have hcz5_0 := cellS68_0 HGz5
    have hcz5_1 := cellS68_1 HGz5
    have hcz5_2 := cellS68_2 HGz5
    have hfz5_0 := blk_frozen HGz5 0
    have hfz5_1 := blk_frozen HGz5 1
    have hfz5_2 := blk_frozen HGz5 2
    clear HGz5 hgz5
    go_enter Try.func45, Try.ntmps45
    go_wp2
    repeat (go_quiet (fail); try go_wp2)
    go_ret
    exact ⟨by first | rfl | (simp [errW_none, errW_some] <;> rfl) | (simp [*, errW_none, errW_some] <;> rfl), by repeat (first | (with_reducible first | exact HI0.out | apply IsS68.alloc | apply IsS68.drewN | apply IsS68.drew | apply IsS68.set_0 | apply IsS68.set_1 | apply IsS68.set_2) | exact HI0.out), by repeat (first | (with_reducible first | exact HB.out | apply below_alloc | apply pw_below_drewN | apply below_drew1 | refine below_set ?_ (IsS68.ge HI0.out)) | exact HB.out), by repeat (first | (with_reducible first | exact HK.out | apply KeepBut.set_ | apply keep_drewN | apply keep_drew | apply keep_alloc) | exact HK.out)⟩

end Go.Proofs.Ytbgmhcefjggpgaa.X
namespace Go.Proofs.Ytbgmhcefjggpgaa.X
open Go.RowKit Go.Proofs.YtbgmhcefjggpgaaW.PrintWords Go.Proofs.YtbgmhcefjggpgaaW.PrintLast Go.Proofs.YtbgmhcefjggpgaaW.PrintMore
attribute [local go_sem] max2_int min2_int max_two min_two max_three min_three max_four min_four   -- for this text's walks alone
set_option linter.unusedVariables false
set_option linter.unusedSimpArgs false

/-! ### peneloperef16_R_Next: function 46 -/
def peneloperef16_R_Next.f (k : Nat) (s0_0 : ByteArray) (s0_1 : Int) (s0_2 : Int) (a1 : Int) : Option (Int × ByteArray × Int × Int) := if s0_2 = 0 then ((peneloperef01_Get.f k s0_0 s0_1 a1).bind fun bt332 => (some (bt332.1, s0_0, bt332.2.1, bt332.2.2))) else (some (0, s0_0, s0_1, s0_2))
theorem peneloperef16_R_Next.mono : ∀ a0 a1 a2 a3 k, LeO (peneloperef16_R_Next.f k a0 a1 a2 a3) (peneloperef16_R_Next.f (k + 1) a0 a1 a2 a3) := by
  intro a0 a1 a2 a3 k
  unfold peneloperef16_R_Next.f
  repeat' first
      | (with_reducible exact peneloperef01_Get.mono _ _ _ _)
      | (with_reducible exact LeO.refl _)
      | (with_reducible exact LeO.none _)
      | (with_reducible refine LeO.ite ?_ ?_)
      | (with_reducible refine LeO.bind ?_ (fun _ => ?_))
      | exact peneloperef01_Get.mono _ _ _ _
      | exact LeO.none _
      | refine LeO.ite ?_ ?_
      | refine LeO.bind ?_ (fun _ => ?_)
set_option maxHeartbeats 8000000 in
set_option maxRecDepth 100000 in
theorem peneloperef16_R_Next.calls (k : Nat) (g : Nat) (s0_0 : ByteArray) (s0_1 : Int) (s0_2 : Int) (a1 : Int) (r1 : Int) (r2 : ByteArray) (r3 : Int) (r4 : Int) (w0 w : World) (hI : IsS68 w0 w g s0_0 s0_1 s0_2) (hB : Below w0.heap.size w0 w) (h : peneloperef16_R_Next.f k s0_0 s0_1 s0_2 a1 = some (r1, r2, r3, r4)) :
    Calls Try.prog 46 #[.pointer (some ⟨g, 0, none⟩), .int .i64 a1] w fun e w' => e = .returned (.int .i64 r1) ∧ IsS68 w0 w' g r2 r3 r4 ∧ Below w0.heap.size w0 w' ∧ KeepBut w w' g none := by
  have HI0 := Aside0.mk hI
  have HK := Aside0.mk (KeepBut.refl w g none)
  have HL := Aside0.mk hB.size
  clear hI
  have HW0 := Aside0.mk hB.size
  have HB := Aside0.mk hB
  clear hB
  have H : (if s0_2 = 0 then ((peneloperef01_Get.f k s0_0 s0_1 a1).bind fun bt332 => (some (bt332.1, s0_0, bt332.2.1, bt332.2.2))) else (some (0, s0_0, s0_1, s0_2))) = some (r1, r2, r3, r4) := h
  clear h
  by_cases c3 : s0_2 = 0
  · rw [if_pos c3] at H
    have c3b0 : (s0_2 == 0) = true := beq_iff_eq.mpr c3
    have c3b1 : (s0_2 != 0) = false := bne_eq_false_iff_eq.mpr c3
    clear c3
    replace H := Option.bind_eq_some_iff.mp H
    obtain ⟨⟨t332, t333, t334⟩, A40, H⟩ := H
    replace H : (some (t332, s0_0, t333, t334)) = some (r1, r2, r3, r4) := H
    have A4 := Aside0.mk A40
    clear A40
    simp only [Option.some.injEq, Prod.mk.injEq] at H
    obtain ⟨rfl, rfl, rfl, rfl⟩ := H
    obtain ⟨HGz5, hgz5⟩ := HI0.out
    have hcz5_0 := cellS68_0 HGz5
    have hcz5_1 := cellS68_1 HGz5
    have hcz5_2 := cellS68_2 HGz5
    have hfz5_0 := blk_frozen HGz5 0
    have hfz5_1 := blk_frozen HGz5 1
    have hfz5_2 := blk_frozen HGz5 2
    clear HGz5 hgz5
    go_enter Try.func46, Try.ntmps46
    go_wp2_with (first | (go_at_call 53; (with_reducible refine (peneloperef01_Get.calls k s0_0 s0_1 a1 t332 t333 t334 _ A4.out).mono ?_); rintro e w' ⟨rfl, ⟨nd, rfl⟩⟩; (try first | exact ⟨rfl, _, World.drewN_drewN _ _ _⟩ | exact ⟨rfl, _, Eq.trans (World.drewN_drewN _ _ _) (congrArg (World.drewN _) (Nat.add_assoc _ _ _))⟩)))
    repeat (go_quiet (first | (go_at_call 53; (with_reducible refine (peneloperef01_Get.calls k s0_0 s0_1 a1 t332 t333 t334 _ A4.out).mono ?_); rintro e w' ⟨rfl, ⟨nd, rfl⟩⟩; (try first | exact ⟨rfl, _, World.drewN_drewN _ _ _⟩ | exact ⟨rfl, _, Eq.trans (World.drewN_drewN _ _ _) (congrArg (World.drewN _) (Nat.add_assoc _ _ _))⟩))); try go_wp2_with (first | (go_at_call 53; (with_reducible refine (peneloperef01_Get.calls k s0_0 s0_1 a1 t332 t333 t334 _ A4.out).mono ?_); rintro e w' ⟨rfl, ⟨nd, rfl⟩⟩; (try first | exact ⟨rfl, _, World.drewN_drewN _ _ _⟩ | exact ⟨rfl, _, Eq.trans (World.drewN_drewN _ _ _) (congrArg (World.drewN _) (Nat.add_assoc _ _ _))⟩))))
    go_ret
    exact ⟨by first | rfl | (simp [errW_none, errW_some] <;> rfl) | (simp [*, errW_none, errW_some] <;> rfl), by repeat (first | (with_reducible first | exact HI0.out | apply IsS68.alloc | apply IsS68.drewN | apply IsS68.drew | apply IsS68.set_0 | apply IsS68.set_1 | apply IsS68.set_2) | exact HI0.out), by repeat (first | (with_reducible first | exact HB.out | apply below_alloc | apply pw_below_drewN | apply below_drew1 | refine below_set ?_ (IsS68.ge HI0.out)) | exact HB.out), by repeat (first | (with_reducible first | exact HK.out | apply KeepBut.set_ | apply keep_drewN | apply keep_drew | apply keep_alloc) | exact HK.out)⟩
  · rw [if_neg c3] at H
    have c3b0 : (s0_2 == 0) = false := beq_eq_false_iff_ne.mpr c3
    have c3b1 : (s0_2 != 0) = true := bne_iff_ne.mpr c3
    simp only [Option.some.injEq, Prod.mk.injEq] at H
    obtain ⟨rfl, rfl, rfl, rfl⟩ := H
    obtain ⟨HGz6, hgz6⟩ := HI0.out
    have hcz6_0 := cellS68_0 HGz6
    have hcz6_1 := cellS68_1 HGz6
    have hcz6_2 := cellS68_2 HGz6
    have hfz6_0 := blk_frozen HGz6 0
    have hfz6_1 := blk_frozen HGz6 1
    have hfz6_2 := blk_frozen HGz6 2
    clear HGz6 hgz6
    go_enter Try.func46, Try.ntmps46
    go_wp2
    repeat (go_quiet (fail); try go_wp2)
    go_ret
    exact ⟨by first | rfl | (simp [errW_none, errW_some] <;> rfl) | (simp [*, errW_none, errW_some] <;> rfl), by repeat (first | (with_reducible first | exact HI0.out | apply IsS68.alloc | apply IsS68.drewN | apply IsS68.drew | apply IsS68.set_0 | apply IsS68.set_1 | apply IsS68.set_2) | exact HI0.out), by repeat (first | (with_reducible first | exact HB.out | apply below_alloc | apply pw_below_drewN | apply below_drew1 | refine below_set ?_ (IsS68.ge HI0.out)) | exact HB.out), by repeat (first | (with_reducible first | exact HK.out | apply KeepBut.set_ | apply keep_drewN | apply keep_drew | apply keep_alloc) | exact HK.out)⟩

end Go.Proofs.Ytbgmhcefjggpgaa.X
namespace Go.Proofs.Ytbgmhcefjggpgaa.X
open Go.RowKit Go.Proofs.YtbgmhcefjggpgaaW.PrintWords Go.Proofs.YtbgmhcefjggpgaaW.PrintLast Go.Proofs.YtbgmhcefjggpgaaW.PrintMore
attribute [local go_sem] max2_int min2_int max_two min_two max_three min_three max_four min_four   -- for this text's walks alone
set_option linter.unusedVariables false
set_option linter.unusedSimpArgs false

/-! ### peneloperef16_R_Read: function 38 -/
mutual
def peneloperef16_R_Read.l0 : Nat → Int → Int → ByteArray → Int → Int → ByteArray → List (S39) → Option (ByteArray × (List (S39)) × ByteArray × Int × Int)
  | 0, _, _, _, _, _, _, _ => none
  | k + 1, x4, x5, x1000, x1001, x1002, x341000, x341001 => if x5 < x4 then (peneloperef16_R_Read.j1 k x4 x5 (x1002 == 0) x1000 x1001 x1002 x341000 x341001) else (peneloperef16_R_Read.j1 k x4 x5 false x1000 x1001 x1002 x341000 x341001)
def peneloperef16_R_Read.j1 : Nat → Int → Int → Bool → ByteArray → Int → Int → ByteArray → List (S39) → Option (ByteArray × (List (S39)) × ByteArray × Int × Int)
  | 0, _, _, _, _, _, _, _, _ => none
  | k + 1, x4, x5, x23, x1000, x1001, x1002, x341000, x341001 => if x23 = true then ((peneloperef16_R_Next.f k x1000 x1001 x1002 1).bind fun bt346 => (peneloperef16_R_Read.l1 k x4 x5 bt346.1 0 bt346.2.1 bt346.2.2.1 bt346.2.2.2 x341000 x341001 ([] : List Int) 0 0 0)) else (some (x341000, x341001, x1000, x1001, x1002))
def peneloperef16_R_Read.l1 : Nat → Int → Int → Int → Int → ByteArray → Int → Int → ByteArray → List (S39) → List Int → Int → Int → Int → Option (ByteArray × (List (S39)) × ByteArray × Int × Int)
  | 0, _, _, _, _, _, _, _, _, _, _, _, _, _ => none
  | k + 1, x4, x5, x7, x8, x1000, x1001, x1002, x341000, x341001, x346000, x346001, x346002, x346003 => if x8 < x7 then (if x1002 = 0 then ((peneloperef16_R_Next.f k x1000 x1001 x1002 1).bind fun bt350 => (if x346000.length < 17592186044416 then (peneloperef16_R_Read.l1 k x4 x5 x7 (wrap64 (x8 + 1)) bt350.2.1 bt350.2.2.1 bt350.2.2.2 x341000 x341001 (x346000 ++ [bt350.1]) x346001 x346002 x346003) else (none))) else ((peneloperef16_R_Next.f k x1000 x1001 x1002 1).bind fun bt357 => ((peneloperef16_R_Next.f k bt357.2.1 bt357.2.2.1 bt357.2.2.2 3).bind fun bt361 => ((peneloperef16_R_Next.f k bt361.2.1 bt361.2.2.1 bt361.2.2.2 3).bind fun bt365 => (if x341001.length < 2932031007402 then (peneloperef16_R_Read.l0 k x4 (wrap64 (x5 + 1)) bt365.2.1 bt365.2.2.1 bt365.2.2.2 x341000 (x341001 ++ [(⟨x346000, bt357.1, bt361.1, bt365.1⟩ : S39)])) else (none)))))) else ((peneloperef16_R_Next.f k x1000 x1001 x1002 1).bind fun bt372 => ((peneloperef16_R_Next.f k bt372.2.1 bt372.2.2.1 bt372.2.2.2 3).bind fun bt376 => ((peneloperef16_R_Next.f k bt376.2.1 bt376.2.2.1 bt376.2.2.2 3).bind fun bt380 => (if x341001.length < 2932031007402 then (peneloperef16_R_Read.l0 k x4 (wrap64 (x5 + 1)) bt380.2.1 bt380.2.2.1 bt380.2.2.2 x341000 (x341001 ++ [(⟨x346000, bt372.1, bt376.1, bt380.1⟩ : S39)])) else (none)))))
end
def peneloperef16_R_Read.f (k : Nat) (s0_0 : ByteArray) (s0_1 : Int) (s0_2 : Int) : Option (ByteArray × (List (S39)) × ByteArray × Int × Int) := (peneloperef16_R_Text.f k s0_0 s0_1 s0_2).bind fun bt336 => ((peneloperef16_R_Next.f k bt336.2.1 bt336.2.2.1 bt336.2.2.2 1).bind fun bt341 => (peneloperef16_R_Read.l0 k bt341.1 0 bt341.2.1 bt341.2.2.1 bt341.2.2.2 bt336.1 ([] : List (S39))))
theorem peneloperef16_R_Read.mono_l : ∀ k, (∀ y0 y1 y2 y3 y4 y5 y6, LeO (peneloperef16_R_Read.l0 k y0 y1 y2 y3 y4 y5 y6) (peneloperef16_R_Read.l0 (k + 1) y0 y1 y2 y3 y4 y5 y6)) ∧ (∀ y0 y1 y2 y3 y4 y5 y6 y7, LeO (peneloperef16_R_Read.j1 k y0 y1 y2 y3 y4 y5 y6 y7) (peneloperef16_R_Read.j1 (k + 1) y0 y1 y2 y3 y4 y5 y6 y7)) ∧ (∀ y0 y1 y2 y3 y4 y5 y6 y7 y8 y9 y10 y11 y12, LeO (peneloperef16_R_Read.l1 k y0 y1 y2 y3 y4 y5 y6 y7 y8 y9 y10 y11 y12) (peneloperef16_R_Read.l1 (k + 1) y0 y1 y2 y3 y4 y5 y6 y7 y8 y9 y10 y11 y12))
  | 0 => ⟨fun _ _ _ _ _ _ _ r h => by simp [peneloperef16_R_Read.l0] at h, fun _ _ _ _ _ _ _ _ r h => by simp [peneloperef16_R_Read.j1] at h, fun _ _ _ _ _ _ _ _ _ _ _ _ _ r h => by simp [peneloperef16_R_Read.l1] at h⟩
  | k + 1 => by
    obtain ⟨ih0, ih1, ih2⟩ := peneloperef16_R_Read.mono_l k
    refine ⟨?_, ?_, ?_⟩
    · intro y0 y1 y2 y3 y4 y5 y6
      unfold peneloperef16_R_Read.l0
      repeat' first
      | (with_reducible exact ih0 _ _ _ _ _ _ _)
      | (with_reducible exact ih1 _ _ _ _ _ _ _ _)
      | (with_reducible exact ih2 _ _ _ _ _ _ _ _ _ _ _ _ _)
      | (with_reducible exact peneloperef16_R_Next.mono _ _ _ _ _)
      | (with_reducible exact peneloperef16_R_Text.mono _ _ _ _)
      | (with_reducible exact LeO.refl _)
      | (with_reducible exact LeO.none _)
      | (with_reducible refine LeO.ite ?_ ?_)
      | (with_reducible refine LeO.bind ?_ (fun _ => ?_))
      | exact ih0 _ _ _ _ _ _ _
      | exact ih1 _ _ _ _ _ _ _ _
      | exact ih2 _ _ _ _ _ _ _ _ _ _ _ _ _
      | exact peneloperef16_R_Next.mono _ _ _ _ _
      | exact peneloperef16_R_Text.mono _ _ _ _
      | exact LeO.none _
      | refine LeO.ite ?_ ?_
      | refine LeO.bind ?_ (fun _ => ?_)
    · intro y0 y1 y2 y3 y4 y5 y6 y7
      unfold peneloperef16_R_Read.j1
      repeat' first
      | (with_reducible exact ih0 _ _ _ _ _ _ _)
      | (with_reducible exact ih1 _ _ _ _ _ _ _ _)
      | (with_reducible exact ih2 _ _ _ _ _ _ _ _ _ _ _ _ _)
      | (with_reducible exact peneloperef16_R_Next.mono _ _ _ _ _)
      | (with_reducible exact peneloperef16_R_Text.mono _ _ _ _)
      | (with_reducible exact LeO.refl _)
      | (with_reducible exact LeO.none _)
      | (with_reducible refine LeO.ite ?_ ?_)
      | (with_reducible refine LeO.bind ?_ (fun _ => ?_))
      | exact ih0 _ _ _ _ _ _ _
      | exact ih1 _ _ _ _ _ _ _ _
      | exact ih2 _ _ _ _ _ _ _ _ _ _ _ _ _
      | exact peneloperef16_R_Next.mono _ _ _ _ _
      | exact peneloperef16_R_Text.mono _ _ _ _
      | exact LeO.none _
      | refine LeO.ite ?_ ?_
      | refine LeO.bind ?_ (fun _ => ?_)
    · intro y0 y1 y2 y3 y4 y5 y6 y7 y8 y9 y10 y11 y12
      unfold peneloperef16_R_Read.l1
      repeat' first
      | (with_reducible exact ih0 _ _ _ _ _ _ _)
      | (with_reducible exact ih1 _ _ _ _ _ _ _ _)
      | (with_reducible exact ih2 _ _ _ _ _ _ _ _ _ _ _ _ _)
      | (with_reducible exact peneloperef16_R_Next.mono _ _ _ _ _)
      | (with_reducible exact peneloperef16_R_Text.mono _ _ _ _)
      | (with_reducible exact LeO.refl _)
      | (with_reducible exact LeO.none _)
      | (with_reducible refine LeO.ite ?_ ?_)
      | (with_reducible refine LeO.bind ?_ (fun _ => ?_))
      | exact ih0 _ _ _ _ _ _ _
      | exact ih1 _ _ _ _ _ _ _ _
      | exact ih2 _ _ _ _ _ _ _ _ _ _ _ _ _
      | exact peneloperef16_R_Next.mono _ _ _ _ _
      | exact peneloperef16_R_Text.mono _ _ _ _
      | exact LeO.none _
      | refine LeO.ite ?_ ?_
      | refine LeO.bind ?_ (fun _ => ?_)
theorem peneloperef16_R_Read.mono : ∀ a0 a1 a2 k, LeO (peneloperef16_R_Read.f k a0 a1 a2) (peneloperef16_R_Read.f (k + 1) a0 a1 a2) := by
  intro a0 a1 a2 k
  obtain ⟨ih0, ih1, ih2⟩ := peneloperef16_R_Read.mono_l k
  unfold peneloperef16_R_Read.f
  repeat' first
      | (with_reducible exact ih0 _ _ _ _ _ _ _)
      | (with_reducible exact ih1 _ _ _ _ _ _ _ _)
      | (with_reducible exact ih2 _ _ _ _ _ _ _ _ _ _ _ _ _)
      | (with_reducible exact peneloperef16_R_Next.mono _ _ _ _ _)
      | (with_reducible exact peneloperef16_R_Text.mono _ _ _ _)
      | (with_reducible exact LeO.refl _)
      | (with_reducible exact LeO.none _)
      | (with_reducible refine LeO.ite ?_ ?_)
      | (with_reducible refine LeO.bind ?_ (fun _ => ?_))
      | exact ih0 _ _ _ _ _ _ _
      | exact ih1 _ _ _ _ _ _ _ _
      | exact ih2 _ _ _ _ _ _ _ _ _ _ _ _ _
      | exact peneloperef16_R_Next.mono _ _ _ _ _
      | exact peneloperef16_R_Text.mono _ _ _ _
      | exact LeO.none _
      | refine LeO.ite ?_ ?_
      | refine LeO.bind ?_ (fun _ => ?_)
def peneloperef16_R_Read.T11 : Bool × List (List Nat × List Nat) := (true, [([], []), ([0], [0]), ([], []), ([2], [2]), ([3], [3]), ([1, 4, 3], [1, 4]), ([0, 1, 2, 3, 4, 5], []), ([6, 5, 5, 0, 1, 2, 3, 4, 5], [5, 6])])
def peneloperef16_R_Read.B11 : List Nat := [0, 1, 0, 4, 12, 31, 63, 127]
theorem peneloperef16_R_Read.tab11 : rtab .any (opsOf Try.f38 11) = peneloperef16_R_Read.T11 := by kernel_rfl
theorem peneloperef16_R_Read.bits11 : waitsOk peneloperef16_R_Read.T11.2 peneloperef16_R_Read.B11 = true := by kernel_rfl
set_option maxHeartbeats 8000000 in
set_option maxRecDepth 100000 in
theorem peneloperef16_R_Read.calls (k : Nat) (g : Nat) (s0_0 : ByteArray) (s0_1 : Int) (s0_2 : Int) (r1 : ByteArray) (r2 : List (S39)) (r3 : ByteArray) (r4 : Int) (r5 : Int) (w0 w : World) (hI : IsS68 w0 w g s0_0 s0_1 s0_2) (hB : Below w0.heap.size w0 w) (h : peneloperef16_R_Read.f k s0_0 s0_1 s0_2 = some (r1, r2, r3, r4, r5)) :
    Calls Try.prog 38 #[.pointer (some ⟨g, 0, none⟩)] w fun e w' => ∃ v1_ : Value, e = .returned (.agg #[.string r1, v1_]) ∧ Kd.S k39 39 w' w.heap.size (fun _ => True) v1_ r2 ∧ IsS68 w0 w' g r3 r4 r5 ∧ Below w0.heap.size w0 w' ∧ KeepBut w w' g none := by
  have hu24 := Try.underlying24
  have hu39 := Try.underlying39
  have HI0 := Aside0.mk hI
  have HK := Aside0.mk (KeepBut.refl w g none)
  have HL := Aside0.mk hB.size
  clear hI
  have HW0 := Aside0.mk hB.size
  have HB := Aside0.mk hB
  clear hB
  have H : ((peneloperef16_R_Text.f k s0_0 s0_1 s0_2).bind fun bt336 => ((peneloperef16_R_Next.f k bt336.2.1 bt336.2.2.1 bt336.2.2.2 1).bind fun bt341 => (peneloperef16_R_Read.l0 k bt341.1 0 bt341.2.1 bt341.2.2.1 bt341.2.2.2 bt336.1 ([] : List (S39))))) = some (r1, r2, r3, r4, r5) := h
  clear h
  replace H := Option.bind_eq_some_iff.mp H
  obtain ⟨⟨t336, t337, t338, t339⟩, A20, H⟩ := H
  replace H : ((peneloperef16_R_Next.f k t337 t338 t339 1).bind fun bt341 => (peneloperef16_R_Read.l0 k bt341.1 0 bt341.2.1 bt341.2.2.1 bt341.2.2.2 t336 ([] : List (S39)))) = some (r1, r2, r3, r4, r5) := H
  have A2 := Aside0.mk A20
  clear A20
  replace H := Option.bind_eq_some_iff.mp H
  obtain ⟨⟨t341, t342, t343, t344⟩, A30, H⟩ := H
  replace H : (peneloperef16_R_Read.l0 k t341 0 t342 t343 t344 t336 ([] : List (S39))) = some (r1, r2, r3, r4, r5) := H
  have A3 := Aside0.mk A30
  clear A30
  have H' := Aside0.mk H
  clear H
  go_enter Try.func38, Try.ntmps38
  go_wp2_with (first | ((with_reducible refine gate_dst (N := 2) rfl ?_); refine box_event ?hg (N := 2) ?hd (cs := #[.string (⟨#[]⟩ : ByteArray), .slice none 0 0]) (t := 24) ?hr ?_; (case hd => rfl); (case hg => rfl); (case hr => first | (go_simp; done) | (go_simp; rfl)); intro gb335 hg w4 hbox hb; have n0_ := Aside0.mk (IsS68.below (by repeat (first | (with_reducible first | exact HI0.out | apply IsS68.alloc | apply IsS68.drewN | apply IsS68.drew | apply IsS68.set_0 | apply IsS68.set_1 | apply IsS68.set_2) | exact HI0.out)) hb); have n1_ := Aside0.mk (KeepBut.trans (by repeat (first | (with_reducible first | exact HK.out | apply KeepBut.set_ | apply keep_drewN | apply keep_drew | apply keep_alloc) | exact HK.out)) (KeepBut.of_below hb g none) (.inl rfl)); have n2_ := Aside0.mk (below_step (by repeat (first | (with_reducible first | exact HB.out | apply below_alloc | apply pw_below_drewN | apply below_drew1 | refine below_set ?_ (IsS68.ge HI0.out)) | exact HB.out)) hb); have n3_ := Aside0.mk (hbox); have n4_ := Aside0.mk ((by rw [hg]; exact (keep_size (w := w) (g := g) (row := none) (by repeat (first | (with_reducible first | exact HK.out | apply KeepBut.set_ | apply keep_drewN | apply keep_drew | apply keep_alloc) | exact HK.out))) : w.heap.size ≤ gb335)); have n5_ := Aside0.mk ((Nat.le_trans HW0.out (by rw [hg]; exact (keep_size (w := w) (g := g) (row := none) (by repeat (first | (with_reducible first | exact HK.out | apply KeepBut.set_ | apply keep_drewN | apply keep_drew | apply keep_alloc) | exact HK.out))) : w.heap.size ≤ gb335) : w0.heap.size ≤ gb335)); have n6_ := Aside0.mk ((by rw [hg]; exact Nat.ne_of_lt (IsS68.lt (show IsS68 w0 _ g s0_0 s0_1 s0_2 from by repeat (first | (with_reducible first | exact HI0.out | apply IsS68.alloc | apply IsS68.drewN | apply IsS68.drew | apply IsS68.set_0 | apply IsS68.set_1 | apply IsS68.set_2) | exact HI0.out))) : g ≠ gb335)); have n7_ := Aside0.mk ((by rw [hg]; exact Nat.ne_of_gt (IsS68.lt (show IsS68 w0 _ g s0_0 s0_1 s0_2 from by repeat (first | (with_reducible first | exact HI0.out | apply IsS68.alloc | apply IsS68.drewN | apply IsS68.drew | apply IsS68.set_0 | apply IsS68.set_1 | apply IsS68.set_2) | exact HI0.out))) : gb335 ≠ g)); clear HI0; clear HK; clear HB; have HI0 := n0_; have HK := n1_; have HB := n2_; have BK335 := n3_; have GW335 := n4_; have GE335 := n5_; have NB0_335 := n6_; have NB335_0 := n7_; clear n0_ n1_ n2_ n3_ n4_ n5_ n6_ n7_; clear hb hbox hg) | ((with_reducible refine gate_callee (f := 45) rfl ?_); refine goesL_ (some 10) rfl rfl Try.func45 (by kernel_rfl) rfl #[.pointer (some ⟨g, 0, none⟩)] rfl (by (try simp only [List.map_toArray, List.map_cons, List.map_nil]); first | done | rfl | (simp only [List.length_drop, List.length_take]; rfl)) ?_; (with_reducible refine (peneloperef16_R_Text.calls k g s0_0 s0_1 s0_2 t336 t337 t338 t339 w0 _ ?side1 ?side2 A2.out).mono ?_); (case side1 => repeat (first | (with_reducible first | exact HI0.out | apply IsS68.alloc | apply IsS68.drewN | apply IsS68.drew | apply IsS68.set_0 | apply IsS68.set_1 | apply IsS68.set_2 | refine IsS68.far ?_ NB0_335.out _) | exact HI0.out)); (case side2 => repeat (first | (with_reducible first | exact HB.out | apply below_alloc | apply pw_below_drewN | apply below_drew1 | refine below_set ?_ (IsS68.ge HI0.out) | refine below_set ?_ GE335.out) | exact HB.out)); rintro e w5 ⟨rfl, hi, hb, hk⟩; refine ⟨_, rfl, ?_⟩; have n0_ := Aside0.mk (KeepBut.blk hk (g' := gb335) (o := .cells #[.string (⟨#[]⟩ : ByteArray), .slice none 0 0] 24 (0, 0)) (by (with_reducible repeat (first | refine blk_drewN ?_ _ | refine blk_drew ?_ | refine blk_alloc ?_ _)); exact BK335.out) NB335_0.out (by simp)); have n1_ := Aside0.mk (KeepBut.trans (by repeat (first | (with_reducible first | exact HK.out | apply KeepBut.set_ | apply keep_drewN | apply keep_drew | apply keep_alloc | refine keep_far ?_ GW335.out _) | exact HK.out)) hk (.inl rfl)); have n2_ := Aside0.mk (hb); have n3_ := Aside0.mk (hi); clear BK335; clear HK; clear HB; clear HI0; have BK335 := n0_; have HK := n1_; have HB := n2_; have HI0 := n3_; clear n0_ n1_ n2_ n3_; (try clear hb); (try clear hb2); (try clear hk); (try clear hi)) | ((with_reducible refine gate_dst (N := 3) rfl ?_); refine box_event ?hg (N := 3) ?hd (cs := #[.string (⟨#[]⟩ : ByteArray), .slice none 0 0]) (t := 24) ?hr ?_; (case hd => rfl); (case hg => rfl); (case hr => first | (go_simp; done) | (go_simp; rfl)); intro gb340 hg w6 hbox hb; have n0_ := Aside0.mk (IsS68.below (by repeat (first | (with_reducible first | exact HI0.out | apply IsS68.alloc | apply IsS68.drewN | apply IsS68.drew | apply IsS68.set_0 | apply IsS68.set_1 | apply IsS68.set_2 | refine IsS68.far ?_ NB0_335.out _) | exact HI0.out)) hb); have n1_ := Aside0.mk (blk_below (g := gb335) (o := .cells #[.string (⟨#[]⟩ : ByteArray), .slice none 0 0] 24 (0, 0)) (by (with_reducible repeat (first | refine blk_drewN ?_ _ | refine blk_drew ?_ | refine blk_alloc ?_ _)); exact BK335.out) hb); have n2_ := Aside0.mk (KeepBut.trans (by repeat (first | (with_reducible first | exact HK.out | apply KeepBut.set_ | apply keep_drewN | apply keep_drew | apply keep_alloc | refine keep_far ?_ GW335.out _) | exact HK.out)) (KeepBut.of_below hb g none) (.inl rfl)); have n3_ := Aside0.mk (below_step (by repeat (first | (with_reducible first | exact HB.out | apply below_alloc | apply pw_below_drewN | apply below_drew1 | refine below_set ?_ (IsS68.ge HI0.out) | refine below_set ?_ GE335.out) | exact HB.out)) hb); have n4_ := Aside0.mk (hbox); have n5_ := Aside0.mk ((by rw [hg]; exact (keep_size (w := w) (g := g) (row := none) (by repeat (first | (with_reducible first | exact HK.out | apply KeepBut.set_ | apply keep_drewN | apply keep_drew | apply keep_alloc | refine keep_far ?_ GW335.out _) | exact HK.out))) : w.heap.size ≤ gb340)); have n6_ := Aside0.mk ((Nat.le_trans HW0.out (by rw [hg]; exact (keep_size (w := w) (g := g) (row := none) (by repeat (first | (with_reducible first | exact HK.out | apply KeepBut.set_ | apply keep_drewN | apply keep_drew | apply keep_alloc | refine keep_far ?_ GW335.out _) | exact HK.out))) : w.heap.size ≤ gb340) : w0.heap.size ≤ gb340)); have n7_ := Aside0.mk ((by rw [hg]; exact Nat.ne_of_lt (blk_lt (g := gb335) (o := .cells #[.string (⟨#[]⟩ : ByteArray), .slice none 0 0] 24 (0, 0)) (by (with_reducible repeat (first | refine blk_drewN ?_ _ | refine blk_drew ?_ | refine blk_alloc ?_ _)); exact BK335.out)) : gb335 ≠ gb340)); have n8_ := Aside0.mk ((by rw [hg]; exact Nat.ne_of_gt (blk_lt (g := gb335) (o := .cells #[.string (⟨#[]⟩ : ByteArray), .slice none 0 0] 24 (0, 0)) (by (with_reducible repeat (first | refine blk_drewN ?_ _ | refine blk_drew ?_ | refine blk_alloc ?_ _)); exact BK335.out)) : gb340 ≠ gb335)); have n9_ := Aside0.mk ((by rw [hg]; exact Nat.ne_of_lt (IsS68.lt (show IsS68 w0 _ g t337 t338 t339 from by repeat (first | (with_reducible first | exact HI0.out | apply IsS68.alloc | apply IsS68.drewN | apply IsS68.drew | apply IsS68.set_0 | apply IsS68.set_1 | apply IsS68.set_2 | refine IsS68.far ?_ NB0_335.out _) | exact HI0.out))) : g ≠ gb340)); have n10_ := Aside0.mk ((by rw [hg]; exact Nat.ne_of_gt (IsS68.lt (show IsS68 w0 _ g t337 t338 t339 from by repeat (first | (with_reducible first | exact HI0.out | apply IsS68.alloc | apply IsS68.drewN | apply IsS68.drew | apply IsS68.set_0 | apply IsS68.set_1 | apply IsS68.set_2 | refine IsS68.far ?_ NB0_335.out _) | exact HI0.out))) : gb340 ≠ g)); clear HI0; clear BK335; clear HK; clear HB; have HI0 := n0_; have BK335 := n1_; have HK := n2_; have HB := n3_; have BK340 := n4_; have GW340 := n5_; have GE340 := n6_; have NB335_340 := n7_; have NB340_335 := n8_; have NB0_340 := n9_; have NB340_0 := n10_; clear n0_ n1_ n2_ n3_ n4_ n5_ n6_ n7_ n8_ n9_ n10_; clear hb hbox hg; have hnb7 := NB340_335.out; have hnc7 := NB335_340.out; have hnb8 := NB340_0.out; have hnc8 := NB0_340.out; have hcz9_0 : w6.cell? ⟨gb340, 0, none⟩ = some (.string (⟨#[]⟩ : ByteArray)) := (blk_cell BK340.out 0).trans rfl; have hcz9_1 : w6.cell? ⟨gb340, 1, none⟩ = some (.slice none 0 0) := (blk_cell BK340.out 1).trans rfl; have hfz9_0 := blk_frozen BK340.out 0; have hfz9_1 := blk_frozen BK340.out 1) | ((with_reducible refine gate_callee (f := 46) rfl ?_); refine goesL_ (some 13) rfl rfl Try.func46 (by kernel_rfl) rfl #[.pointer (some ⟨g, 0, none⟩), .int .i64 1] rfl (by (try simp only [List.map_toArray, List.map_cons, List.map_nil]); first | done | rfl | (simp only [List.length_drop, List.length_take]; rfl)) ?_; (with_reducible refine (peneloperef16_R_Next.calls k g t337 t338 t339 1 t341 t342 t343 t344 w0 _ ?side1 ?side2 A3.out).mono ?_); (case side1 => repeat (first | (with_reducible first | exact HI0.out | apply IsS68.alloc | apply IsS68.drewN | apply IsS68.drew | apply IsS68.set_0 | apply IsS68.set_1 | apply IsS68.set_2 | refine IsS68.far ?_ NB0_335.out _ | refine IsS68.far ?_ NB0_340.out _) | exact HI0.out)); (case side2 => repeat (first | (with_reducible first | exact HB.out | apply below_alloc | apply pw_below_drewN | apply below_drew1 | refine below_set ?_ (IsS68.ge HI0.out) | refine below_set ?_ GE335.out | refine below_set ?_ GE340.out) | exact HB.out)); rintro e w10 ⟨rfl, hi, hb, hk⟩; refine ⟨_, rfl, ?_⟩; have n0_ := Aside0.mk (KeepBut.blk hk (g' := gb335) (o := .cells #[.string (⟨#[]⟩ : ByteArray), .slice none 0 0] 24 (0, 0)) (by (with_reducible repeat (first | refine blk_drewN ?_ _ | refine blk_drew ?_ | refine blk_alloc ?_ _)); refine blk_far ?_ NB335_340.out _; (with_reducible repeat (first | refine blk_drewN ?_ _ | refine blk_drew ?_ | refine blk_alloc ?_ _)); refine blk_far ?_ NB335_340.out _; (with_reducible repeat (first | refine blk_drewN ?_ _ | refine blk_drew ?_ | refine blk_alloc ?_ _)); exact BK335.out) NB335_0.out (by simp)); have n1_ := Aside0.mk (KeepBut.blk hk (g' := gb340) (o := .cells #[.string t336, .slice none 0 0] 24 (0, 0)) (by (with_reducible repeat (first | refine blk_drewN ?_ _ | refine blk_drew ?_ | refine blk_alloc ?_ _)); refine blk_put (cs := #[.string t336, .slice none 0 0]) ?_ 1 _ rfl; (with_reducible repeat (first | refine blk_drewN ?_ _ | refine blk_drew ?_ | refine blk_alloc ?_ _)); refine blk_put (cs := #[.string (⟨#[]⟩ : ByteArray), .slice none 0 0]) ?_ 0 _ rfl; (with_reducible repeat (first | refine blk_drewN ?_ _ | refine blk_drew ?_ | refine blk_alloc ?_ _)); exact BK340.out) NB340_0.out (by simp)); have n2_ := Aside0.mk (KeepBut.trans (by repeat (first | (with_reducible first | exact HK.out | apply KeepBut.set_ | apply keep_drewN | apply keep_drew | apply keep_alloc | refine keep_far ?_ GW335.out _ | refine keep_far ?_ GW340.out _) | exact HK.out)) hk (.inl rfl)); have n3_ := Aside0.mk (hb); have n4_ := Aside0.mk (hi); clear BK335; clear BK340; clear HK; clear HB; clear HI0; have BK335 := n0_; have BK340 := n1_; have HK := n2_; have HB := n3_; have HI0 := n4_; clear n0_ n1_ n2_ n3_ n4_; (try clear hb); (try clear hb2); (try clear hk); (try clear hi)))
  go_loopg [5] k (fun kq v5 w' => ∃ (x5_1 : Int) (x1000_1 : ByteArray) (x1001_1 : Int) (x1002_1 : Int) (x341001_1 : List (S39)) (u341001 : Value), v5 = .int .i64 x5_1 ∧ Aside0 (peneloperef16_R_Read.l0 kq t341 x5_1 x1000_1 x1001_1 x1002_1 t336 x341001_1 = some (r1, r2, r3, r4, r5)) ∧ Aside0 (kq ≤ k) ∧ Aside0 (Kd.S k39 39 w' w.heap.size (fun _ => True) u341001 x341001_1) ∧ Aside0 (w'.heap[gb335]? = some (.cells #[.string (⟨#[]⟩ : ByteArray), (.slice none 0 0)] 24 (0, 0))) ∧ Aside0 (w'.heap[gb340]? = some (.cells #[.string t336, u341001] 24 (0, 0))) ∧ Aside0 (IsS68 w0 w' g x1000_1 x1001_1 x1002_1) ∧ Aside0 (KeepBut w w' g none) ∧ Aside0 (Below w0.heap.size w0 w'))
  case atStart => exact ⟨(0), (t342), (t343), (t344), (([] : List (S39))), (.slice none 0 0), (by first | rfl | (simp; done) | (simp [*]; done)), H', ⟨Nat.le_refl _⟩, ⟨by first | exact Kd.S_nil _ _ _ _ _ | exact Kd.N_nil _ _ _ _ _ | exact Kd.V_nil _ _ _ _ _ | exact Kd.Q_nil _ _ _ _ _ | exact Kd.R_nil _ _ _ _ _⟩, ⟨by (with_reducible repeat (first | refine blk_drewN ?_ _ | refine blk_drew ?_ | refine blk_alloc ?_ _)); exact BK335.out⟩, ⟨by (with_reducible repeat (first | refine blk_drewN ?_ _ | refine blk_drew ?_ | refine blk_alloc ?_ _)); exact BK340.out⟩, ⟨by repeat (first | (with_reducible first | exact HI0.out | apply IsS68.alloc | apply IsS68.drewN | apply IsS68.drew | apply IsS68.set_0 | apply IsS68.set_1 | apply IsS68.set_2 | refine IsS68.far ?_ NB0_335.out _ | refine IsS68.far ?_ NB0_340.out _) | exact HI0.out)⟩, ⟨by repeat (first | (with_reducible first | exact HK.out | apply KeepBut.set_ | apply keep_drewN | apply keep_drew | apply keep_alloc | refine keep_far ?_ GW335.out _ | refine keep_far ?_ GW340.out _) | exact HK.out)⟩, ⟨by repeat (first | (with_reducible first | exact HB.out | apply below_alloc | apply pw_below_drewN | apply below_drew1 | refine below_set ?_ (IsS68.ge HI0.out) | refine below_set ?_ GE335.out | refine below_set ?_ GE340.out) | exact HB.out)⟩⟩
  case round =>
    clear H'
    try clear p2
    try clear c3
    try clear c4
    try clear c7
    try clear c8
    try clear hcz9_0
    try clear hcz9_1
    try clear hfz9_0
    try clear hfz9_1
    obtain ⟨x5_1, x1000_1, x1001_1, x1002_1, x341001_1, u341001, rfl, HA, HK1, HO_341001, BK335, BK340, HI0, HK, HB⟩ := hrel
    cases gk with
    | zero => exact absurd HA.out (by simp [peneloperef16_R_Read.l0])
    | succ k1 =>
      have H := HA.out
      clear HA
      simp only [peneloperef16_R_Read.l0] at H
      have HC11 := Aside0.mk H
      clear H
      go_upto_region 4 with (fail)
      go_cut [23] (fun v23 wc => ∃ (kq : Nat) (x23_10 : Bool), v23 = .bool x23_10 ∧ Aside0 (peneloperef16_R_Read.j1 kq t341 x5_1 x23_10 x1000_1 x1001_1 x1002_1 t336 x341001_1 = some (r1, r2, r3, r4, r5)) ∧ Aside0 (kq ≤ k1) ∧ Aside0 (Kd.S k39 39 wc w.heap.size (fun _ => True) u341001 x341001_1) ∧ Aside0 (wc.heap[gb335]? = some (.cells #[.string (⟨#[]⟩ : ByteArray), (.slice none 0 0)] 24 (0, 0))) ∧ Aside0 (wc.heap[gb340]? = some (.cells #[.string t336, u341001] 24 (0, 0))) ∧ Aside0 (IsS68 w0 wc g x1000_1 x1001_1 x1002_1) ∧ Aside0 (KeepBut w wc g none) ∧ Aside0 (Below w0.heap.size w0 wc))
      case first =>
        have H := HC11.out
        clear HC11
        by_cases c12 : x5_1 < t341
        · rw [if_pos c12] at H
          have c12b0 : decide (x5_1 < t341) = true := decide_eq_true c12
          clear c12
          (first | rw [c12b0] | (simp only [i64_w, i32_w]; rw [c12b0]) | skip)
          have H' := Aside0.mk H
          clear H
          obtain ⟨HGz13, hgz13⟩ := HI0.out
          have hcz13_0 := cellS68_0 HGz13
          have hcz13_1 := cellS68_1 HGz13
          have hcz13_2 := cellS68_2 HGz13
          have hfz13_0 := blk_frozen HGz13 0
          have hfz13_1 := blk_frozen HGz13 1
          have hfz13_2 := blk_frozen HGz13 2
          clear HGz13 hgz13
          go_wp2
          go_meet
          case rel => exact ⟨_, ((x1002_1 == 0)), (by first | rfl | (simp; done) | (simp [*]; done)), H', ⟨by have := HK1.out; first | omega | exact Nat.le_refl _⟩, ⟨by (with_reducible repeat (first | apply Kd.S_alloc | apply Kd.S_drewN | apply Kd.S_drew)); exact HO_341001.out⟩, ⟨by (with_reducible repeat (first | refine blk_drewN ?_ _ | refine blk_drew ?_ | refine blk_alloc ?_ _)); exact BK335.out⟩, ⟨by (with_reducible repeat (first | refine blk_drewN ?_ _ | refine blk_drew ?_ | refine blk_alloc ?_ _)); exact BK340.out⟩, ⟨by repeat (first | (with_reducible first | exact HI0.out | apply IsS68.alloc | apply IsS68.drewN | apply IsS68.drew | apply IsS68.set_0 | apply IsS68.set_1 | apply IsS68.set_2 | refine IsS68.far ?_ NB0_335.out _ | refine IsS68.far ?_ NB0_340.out _) | exact HI0.out)⟩, ⟨by repeat (first | (with_reducible first | exact HK.out | apply KeepBut.set_ | apply keep_drewN | apply keep_drew | apply keep_alloc | refine keep_far ?_ GW335.out _ | refine keep_far ?_ GW340.out _) | exact HK.out)⟩, ⟨by repeat (first | (with_reducible first | exact HB.out | apply below_alloc | apply pw_below_drewN | apply below_drew1 | refine below_set ?_ (IsS68.ge HI0.out) | refine below_set ?_ GE335.out | refine below_set ?_ GE340.out) | exact HB.out)⟩⟩
        · rw [if_neg c12] at H
          have c12b0 : decide (x5_1 < t341) = false := decide_eq_false c12
          clear c12
          (first | rw [c12b0] | (simp only [i64_w, i32_w]; rw [c12b0]) | skip)
          have H' := Aside0.mk H
          clear H
          go_wp2
          go_meet
          case rel => exact ⟨_, (false), (by first | rfl | (simp; done) | (simp [*]; done)), H', ⟨by have := HK1.out; first | omega | exact Nat.le_refl _⟩, ⟨by (with_reducible repeat (first | apply Kd.S_alloc | apply Kd.S_drewN | apply Kd.S_drew)); exact HO_341001.out⟩, ⟨by (with_reducible repeat (first | refine blk_drewN ?_ _ | refine blk_drew ?_ | refine blk_alloc ?_ _)); exact BK335.out⟩, ⟨by (with_reducible repeat (first | refine blk_drewN ?_ _ | refine blk_drew ?_ | refine blk_alloc ?_ _)); exact BK340.out⟩, ⟨by repeat (first | (with_reducible first | exact HI0.out | apply IsS68.alloc | apply IsS68.drewN | apply IsS68.drew | apply IsS68.set_0 | apply IsS68.set_1 | apply IsS68.set_2 | refine IsS68.far ?_ NB0_335.out _ | refine IsS68.far ?_ NB0_340.out _) | exact HI0.out)⟩, ⟨by repeat (first | (with_reducible first | exact HK.out | apply KeepBut.set_ | apply keep_drewN | apply keep_drew | apply keep_alloc | refine keep_far ?_ GW335.out _ | refine keep_far ?_ GW340.out _) | exact HK.out)⟩, ⟨by repeat (first | (with_reducible first | exact HB.out | apply below_alloc | apply pw_below_drewN | apply below_drew1 | refine below_set ?_ (IsS68.ge HI0.out) | refine below_set ?_ GE335.out | refine below_set ?_ GE340.out) | exact HB.out)⟩⟩
      case rest =>
        clear HC11
        try clear c1
        try clear p2
        try clear c3
        try clear c4
        try clear c7
        try clear c8
        try clear c12
        try clear c12b0
        try clear hcz13_0
        try clear hcz13_1
        try clear hcz13_2
        try clear hcz9_0
        try clear hcz9_1
        try clear hfz13_0
        try clear hfz13_1
        try clear hfz13_2
        try clear hfz9_0
        try clear hfz9_1
        try clear p2
        obtain ⟨kq, x23_10, rfl, HA, HJ10, HO_341001, BK335, BK340, HI0, HK, HB⟩ := hcut
        cases kq with
        | zero => exact absurd HA.out (by simp [peneloperef16_R_Read.j1])
        | succ kj10 =>
          have H := HA.out
          clear HA
          simp only [peneloperef16_R_Read.j1] at H
          by_cases c14 : x23_10 = true
          · subst c14
            have H1 : ((peneloperef16_R_Next.f kj10 x1000_1 x1001_1 x1002_1 1).bind fun bt346 => (peneloperef16_R_Read.l1 kj10 t341 x5_1 bt346.1 0 bt346.2.1 bt346.2.2.1 bt346.2.2.2 t336 x341001_1 ([] : List Int) 0 0 0)) = some (r1, r2, r3, r4, r5) := by rw [if_pos rfl] at H; exact H
            clear H
            have H := H1
            clear H1
            replace H := Option.bind_eq_some_iff.mp H
            obtain ⟨⟨t346, t347, t348, t349⟩, A150, H⟩ := H
            replace H : (peneloperef16_R_Read.l1 kj10 t341 x5_1 t346 0 t347 t348 t349 t336 x341001_1 ([] : List Int) 0 0 0) = some (r1, r2, r3, r4, r5) := H
            have A15 := Aside0.mk A150
            clear A150
            have H' := Aside0.mk H
            clear H
            go_wp2_with (first | ((with_reducible refine gate_dst (N := 6) rfl ?_); refine box_event ?hg (N := 6) ?hd (cs := #[.slice none 0 0, .int .i64 0, .int .i64 0, .int .i64 0]) (t := 39) ?hr ?_; (case hd => rfl); (case hg => rfl); (case hr => first | (go_simp; done) | (go_simp; rfl)); intro gb345 hg w16 hbox hb; have n0_ := Aside0.mk (Kd.S_below (Kd.S_elderB (by (with_reducible repeat (first | apply Kd.S_alloc | apply Kd.S_drewN | apply Kd.S_drew)); exact HO_341001.out) gb345 (Nat.le_of_eq hg.symm)) hb); have n1_ := Aside0.mk (blk_below (g := gb335) (o := .cells #[.string (⟨#[]⟩ : ByteArray), .slice none 0 0] 24 (0, 0)) (by (with_reducible repeat (first | refine blk_drewN ?_ _ | refine blk_drew ?_ | refine blk_alloc ?_ _)); exact BK335.out) hb); have n2_ := Aside0.mk (blk_below (g := gb340) (o := .cells #[.string t336, u341001] 24 (0, 0)) (by (with_reducible repeat (first | refine blk_drewN ?_ _ | refine blk_drew ?_ | refine blk_alloc ?_ _)); exact BK340.out) hb); have n3_ := Aside0.mk (IsS68.below (by repeat (first | (with_reducible first | exact HI0.out | apply IsS68.alloc | apply IsS68.drewN | apply IsS68.drew | apply IsS68.set_0 | apply IsS68.set_1 | apply IsS68.set_2 | refine IsS68.far ?_ NB0_335.out _ | refine IsS68.far ?_ NB0_340.out _) | exact HI0.out)) hb); have n4_ := Aside0.mk (KeepBut.trans (by repeat (first | (with_reducible first | exact HK.out | apply KeepBut.set_ | apply keep_drewN | apply keep_drew | apply keep_alloc | refine keep_far ?_ GW335.out _ | refine keep_far ?_ GW340.out _) | exact HK.out)) (KeepBut.of_below hb g none) (.inl rfl)); have n5_ := Aside0.mk (below_step (by repeat (first | (with_reducible first | exact HB.out | apply below_alloc | apply pw_below_drewN | apply below_drew1 | refine below_set ?_ (IsS68.ge HI0.out) | refine below_set ?_ GE335.out | refine below_set ?_ GE340.out) | exact HB.out)) hb); have n6_ := Aside0.mk (hbox); have n7_ := Aside0.mk ((by rw [hg]; exact (keep_size (w := w) (g := g) (row := none) (by repeat (first | (with_reducible first | exact HK.out | apply KeepBut.set_ | apply keep_drewN | apply keep_drew | apply keep_alloc | refine keep_far ?_ GW335.out _ | refine keep_far ?_ GW340.out _) | exact HK.out))) : w.heap.size ≤ gb345)); have n8_ := Aside0.mk ((Nat.le_trans HW0.out (by rw [hg]; exact (keep_size (w := w) (g := g) (row := none) (by repeat (first | (with_reducible first | exact HK.out | apply KeepBut.set_ | apply keep_drewN | apply keep_drew | apply keep_alloc | refine keep_far ?_ GW335.out _ | refine keep_far ?_ GW340.out _) | exact HK.out))) : w.heap.size ≤ gb345) : w0.heap.size ≤ gb345)); have n9_ := Aside0.mk ((by rw [hg]; exact Nat.ne_of_lt (blk_lt (g := gb335) (o := .cells #[.string (⟨#[]⟩ : ByteArray), .slice none 0 0] 24 (0, 0)) (by (with_reducible repeat (first | refine blk_drewN ?_ _ | refine blk_drew ?_ | refine blk_alloc ?_ _)); exact BK335.out)) : gb335 ≠ gb345)); have n10_ := Aside0.mk ((by rw [hg]; exact Nat.ne_of_gt (blk_lt (g := gb335) (o := .cells #[.string (⟨#[]⟩ : ByteArray), .slice none 0 0] 24 (0, 0)) (by (with_reducible repeat (first | refine blk_drewN ?_ _ | refine blk_drew ?_ | refine blk_alloc ?_ _)); exact BK335.out)) : gb345 ≠ gb335)); have n11_ := Aside0.mk ((by rw [hg]; exact Nat.ne_of_lt (blk_lt (g := gb340) (o := .cells #[.string t336, u341001] 24 (0, 0)) (by (with_reducible repeat (first | refine blk_drewN ?_ _ | refine blk_drew ?_ | refine blk_alloc ?_ _)); exact BK340.out)) : gb340 ≠ gb345)); have n12_ := Aside0.mk ((by rw [hg]; exact Nat.ne_of_gt (blk_lt (g := gb340) (o := .cells #[.string t336, u341001] 24 (0, 0)) (by (with_reducible repeat (first | refine blk_drewN ?_ _ | refine blk_drew ?_ | refine blk_alloc ?_ _)); exact BK340.out)) : gb345 ≠ gb340)); have n13_ := Aside0.mk ((by rw [hg]; exact Nat.ne_of_lt (IsS68.lt (show IsS68 w0 _ g x1000_1 x1001_1 x1002_1 from by repeat (first | (with_reducible first | exact HI0.out | apply IsS68.alloc | apply IsS68.drewN | apply IsS68.drew | apply IsS68.set_0 | apply IsS68.set_1 | apply IsS68.set_2 | refine IsS68.far ?_ NB0_335.out _ | refine IsS68.far ?_ NB0_340.out _) | exact HI0.out))) : g ≠ gb345)); have n14_ := Aside0.mk ((by rw [hg]; exact Nat.ne_of_gt (IsS68.lt (show IsS68 w0 _ g x1000_1 x1001_1 x1002_1 from by repeat (first | (with_reducible first | exact HI0.out | apply IsS68.alloc | apply IsS68.drewN | apply IsS68.drew | apply IsS68.set_0 | apply IsS68.set_1 | apply IsS68.set_2 | refine IsS68.far ?_ NB0_335.out _ | refine IsS68.far ?_ NB0_340.out _) | exact HI0.out))) : gb345 ≠ g)); clear HO_341001; clear BK335; clear BK340; clear HI0; clear HK; clear HB; have HO_341001 := n0_; have BK335 := n1_; have BK340 := n2_; have HI0 := n3_; have HK := n4_; have HB := n5_; have BK345 := n6_; have GW345 := n7_; have GE345 := n8_; have NB335_345 := n9_; have NB345_335 := n10_; have NB340_345 := n11_; have NB345_340 := n12_; have NB0_345 := n13_; have NB345_0 := n14_; clear n0_ n1_ n2_ n3_ n4_ n5_ n6_ n7_ n8_ n9_ n10_ n11_ n12_ n13_ n14_; clear hb hbox hg; have hnb17 := NB345_335.out; have hnc17 := NB335_345.out; have hnb18 := NB345_340.out; have hnc18 := NB340_345.out; have hnb19 := NB345_0.out; have hnc19 := NB0_345.out; have hcz20_0 : w16.cell? ⟨gb345, 0, none⟩ = some (.slice none 0 0) := (blk_cell BK345.out 0).trans rfl; have hcz20_1 : w16.cell? ⟨gb345, 1, none⟩ = some (.int .i64 0) := (blk_cell BK345.out 1).trans rfl; have hcz20_2 : w16.cell? ⟨gb345, 2, none⟩ = some (.int .i64 0) := (blk_cell BK345.out 2).trans rfl; have hcz20_3 : w16.cell? ⟨gb345, 3, none⟩ = some (.int .i64 0) := (blk_cell BK345.out 3).trans rfl; have hfz20_0 := blk_frozen BK345.out 0; have hfz20_1 := blk_frozen BK345.out 1; have hfz20_2 := blk_frozen BK345.out 2; have hfz20_3 := blk_frozen BK345.out 3) | ((with_reducible refine gate_callee (f := 46) rfl ?_); refine goesL_ (some 28) rfl rfl Try.func46 (by kernel_rfl) rfl #[.pointer (some ⟨g, 0, none⟩), .int .i64 1] rfl (by (try simp only [List.map_toArray, List.map_cons, List.map_nil]); first | done | rfl | (simp only [List.length_drop, List.length_take]; rfl)) ?_; (with_reducible refine (peneloperef16_R_Next.calls kj10 g x1000_1 x1001_1 x1002_1 1 t346 t347 t348 t349 w0 _ ?side1 ?side2 A15.out).mono ?_); (case side1 => repeat (first | (with_reducible first | exact HI0.out | apply IsS68.alloc | apply IsS68.drewN | apply IsS68.drew | apply IsS68.set_0 | apply IsS68.set_1 | apply IsS68.set_2 | refine IsS68.far ?_ NB0_335.out _ | refine IsS68.far ?_ NB0_340.out _ | refine IsS68.far ?_ NB0_345.out _) | exact HI0.out)); (case side2 => repeat (first | (with_reducible first | exact HB.out | apply below_alloc | apply pw_below_drewN | apply below_drew1 | refine below_set ?_ (IsS68.ge HI0.out) | refine below_set ?_ GE335.out | refine below_set ?_ GE340.out | refine below_set ?_ GE345.out) | exact HB.out)); rintro e w21 ⟨rfl, hi, hb, hk⟩; refine ⟨_, rfl, ?_⟩; have n0_ := Aside0.mk (Kd.S_mono (Kd.S_keep (IsS68.apartS (show IsS68 w0 _ g x1000_1 x1001_1 x1002_1 from by repeat (first | (with_reducible first | exact HI0.out | apply IsS68.alloc | apply IsS68.drewN | apply IsS68.drew | apply IsS68.set_0 | apply IsS68.set_1 | apply IsS68.set_2 | refine IsS68.far ?_ NB0_335.out _ | refine IsS68.far ?_ NB0_340.out _ | refine IsS68.far ?_ NB0_345.out _) | exact HI0.out)) (by (with_reducible repeat (first | apply Kd.S_alloc | apply Kd.S_drewN | apply Kd.S_drew)); exact (Kd.S_mono (Kd.S_far (p := ⟨gb345, 3, none⟩) (Kd.S_far (p := ⟨gb345, 2, none⟩) (Kd.S_far (p := ⟨gb345, 1, none⟩) (Kd.S_far (p := ⟨gb345, 0, none⟩) (Kd.S_mono HO_341001.out (fun k_ hk => (⟨hk, hk.2⟩ : _ ∧ k_ ≠ gb345))) (fun _ hk => hk.2) (.slice none 0 0)) (fun _ hk => hk.2) (.int .i64 0)) (fun _ hk => hk.2) (.int .i64 0)) (fun _ hk => hk.2) (.int .i64 0)) (fun _ h_ => h_.1))) (by decide)) hk (fun _ h => h.2)) (fun _ h => h.1)); have n1_ := Aside0.mk (KeepBut.blk hk (g' := gb335) (o := .cells #[.string (⟨#[]⟩ : ByteArray), .slice none 0 0] 24 (0, 0)) (by (with_reducible repeat (first | refine blk_drewN ?_ _ | refine blk_drew ?_ | refine blk_alloc ?_ _)); refine blk_far ?_ NB335_345.out _; (with_reducible repeat (first | refine blk_drewN ?_ _ | refine blk_drew ?_ | refine blk_alloc ?_ _)); refine blk_far ?_ NB335_345.out _; (with_reducible repeat (first | refine blk_drewN ?_ _ | refine blk_drew ?_ | refine blk_alloc ?_ _)); refine blk_far ?_ NB335_345.out _; (with_reducible repeat (first | refine blk_drewN ?_ _ | refine blk_drew ?_ | refine blk_alloc ?_ _)); refine blk_far ?_ NB335_345.out _; (with_reducible repeat (first | refine blk_drewN ?_ _ | refine blk_drew ?_ | refine blk_alloc ?_ _)); exact BK335.out) NB335_0.out (by simp)); have n2_ := Aside0.mk (KeepBut.blk hk (g' := gb340) (o := .cells #[.string t336, u341001] 24 (0, 0)) (by (with_reducible repeat (first | refine blk_drewN ?_ _ | refine blk_drew ?_ | refine blk_alloc ?_ _)); refine blk_far ?_ NB340_345.out _; (with_reducible repeat (first | refine blk_drewN ?_ _ | refine blk_drew ?_ | refine blk_alloc ?_ _)); refine blk_far ?_ NB340_345.out _; (with_reducible repeat (first | refine blk_drewN ?_ _ | refine blk_drew ?_ | refine blk_alloc ?_ _)); refine blk_far ?_ NB340_345.out _; (with_reducible repeat (first | refine blk_drewN ?_ _ | refine blk_drew ?_ | refine blk_alloc ?_ _)); refine blk_far ?_ NB340_345.out _; (with_reducible repeat (first | refine blk_drewN ?_ _ | refine blk_drew ?_ | refine blk_alloc ?_ _)); exact BK340.out) NB340_0.out (by simp)); have n3_ := Aside0.mk (KeepBut.blk hk (g' := gb345) (o := .cells #[.slice none 0 0, .int .i64 0, .int .i64 0, .int .i64 0] 39 (0, 0)) (by (with_reducible repeat (first | refine blk_drewN ?_ _ | refine blk_drew ?_ | refine blk_alloc ?_ _)); refine blk_put (cs := #[.slice none 0 0, .int .i64 0, .int .i64 0, .int .i64 0]) ?_ 3 _ rfl; (with_reducible repeat (first | refine blk_drewN ?_ _ | refine blk_drew ?_ | refine blk_alloc ?_ _)); refine blk_put (cs := #[.slice none 0 0, .int .i64 0, .int .i64 0, .int .i64 0]) ?_ 2 _ rfl; (with_reducible repeat (first | refine blk_drewN ?_ _ | refine blk_drew ?_ | refine blk_alloc ?_ _)); refine blk_put (cs := #[.slice none 0 0, .int .i64 0, .int .i64 0, .int .i64 0]) ?_ 1 _ rfl; (with_reducible repeat (first | refine blk_drewN ?_ _ | refine blk_drew ?_ | refine blk_alloc ?_ _)); refine blk_put (cs := #[.slice none 0 0, .int .i64 0, .int .i64 0, .int .i64 0]) ?_ 0 _ rfl; (with_reducible repeat (first | refine blk_drewN ?_ _ | refine blk_drew ?_ | refine blk_alloc ?_ _)); exact BK345.out) NB345_0.out (by simp)); have n4_ := Aside0.mk (KeepBut.trans (by repeat (first | (with_reducible first | exact HK.out | apply KeepBut.set_ | apply keep_drewN | apply keep_drew | apply keep_alloc | refine keep_far ?_ GW335.out _ | refine keep_far ?_ GW340.out _ | refine keep_far ?_ GW345.out _) | exact HK.out)) hk (.inl rfl)); have n5_ := Aside0.mk (hb); have n6_ := Aside0.mk (hi); clear HO_341001; clear BK335; clear BK340; clear BK345; clear HK; clear HB; clear HI0; have HO_341001 := n0_; have BK335 := n1_; have BK340 := n2_; have BK345 := n3_; have HK := n4_; have HB := n5_; have HI0 := n6_; clear n0_ n1_ n2_ n3_ n4_ n5_ n6_; (try clear hb); (try clear hb2); (try clear hk); (try clear hi)))
            go_loopg [8] kj10 (fun kq v8 w' => ∃ (x8_3 : Int) (x1000_3 : ByteArray) (x1001_3 : Int) (x1002_3 : Int) (x346000_3 : List Int) (u346000 : Value), v8 = .int .i64 x8_3 ∧ Aside0 (peneloperef16_R_Read.l1 kq t341 x5_1 t346 x8_3 x1000_3 x1001_3 x1002_3 t336 x341001_1 x346000_3 0 0 0 = some (r1, r2, r3, r4, r5)) ∧ Aside0 (kq ≤ kj10) ∧ Aside0 (Kd.S k39 39 w' w.heap.size (fun k_ => some k_ ≠ (u346000 : Value).ownBlock ∧ k_ ≠ gb345) u341001 x341001_1) ∧ Aside0 (Kd.R (Kd.int .i64) 3 w' w.heap.size (fun _ => True) u346000 x346000_3) ∧ Aside0 (w'.heap[gb335]? = some (.cells #[.string (⟨#[]⟩ : ByteArray), (.slice none 0 0)] 24 (0, 0))) ∧ Aside0 (w'.heap[gb340]? = some (.cells #[.string t336, u341001] 24 (0, 0))) ∧ Aside0 (w'.heap[gb345]? = some (.cells #[u346000, .int .i64 0, .int .i64 0, .int .i64 0] 39 (0, 0))) ∧ Aside0 (IsS68 w0 w' g x1000_3 x1001_3 x1002_3) ∧ Aside0 (KeepBut w w' g none) ∧ Aside0 (Below w0.heap.size w0 w'))
            case atStart => exact ⟨(0), (t347), (t348), (t349), (([] : List Int)), (.slice none 0 0), (by first | rfl | (simp; done) | (simp [*]; done)), H', ⟨Nat.le_refl _⟩, ⟨by (with_reducible repeat (first | apply Kd.S_alloc | apply Kd.S_drewN | apply Kd.S_drew)); exact Kd.S_mono HO_341001.out (fun _ hk => ⟨(by simp [Value.ownBlock]), hk.2⟩)⟩, ⟨by first | exact Kd.R_nil _ _ _ _ _ | exact Kd.N_nil _ _ _ _ _ | exact Kd.V_nil _ _ _ _ _ | exact Kd.Q_nil _ _ _ _ _ | exact Kd.S_nil _ _ _ _ _⟩, ⟨by (with_reducible repeat (first | refine blk_drewN ?_ _ | refine blk_drew ?_ | refine blk_alloc ?_ _)); exact BK335.out⟩, ⟨by (with_reducible repeat (first | refine blk_drewN ?_ _ | refine blk_drew ?_ | refine blk_alloc ?_ _)); exact BK340.out⟩, ⟨by (with_reducible repeat (first | refine blk_drewN ?_ _ | refine blk_drew ?_ | refine blk_alloc ?_ _)); exact BK345.out⟩, ⟨by repeat (first | (with_reducible first | exact HI0.out | apply IsS68.alloc | apply IsS68.drewN | apply IsS68.drew | apply IsS68.set_0 | apply IsS68.set_1 | apply IsS68.set_2 | refine IsS68.far ?_ NB0_335.out _ | refine IsS68.far ?_ NB0_340.out _ | refine IsS68.far ?_ NB0_345.out _) | exact HI0.out)⟩, ⟨by repeat (first | (with_reducible first | exact HK.out | apply KeepBut.set_ | apply keep_drewN | apply keep_drew | apply keep_alloc | refine keep_far ?_ GW335.out _ | refine keep_far ?_ GW340.out _ | refine keep_far ?_ GW345.out _) | exact HK.out)⟩, ⟨by repeat (first | (with_reducible first | exact HB.out | apply below_alloc | apply pw_below_drewN | apply below_drew1 | refine below_set ?_ (IsS68.ge HI0.out) | refine below_set ?_ GE335.out | refine below_set ?_ GE340.out | refine below_set ?_ GE345.out) | exact HB.out)⟩⟩
            case round =>
              clear H'
              try clear c1
              try clear p2
              try clear c3
              try clear c4
              try clear c7
              try clear c8
              try clear c12
              try clear c12b0
              try clear c14
              try clear c17
              try clear c18
              try clear c19
              try clear hcz13_0
              try clear hcz13_1
              try clear hcz13_2
              try clear hcz20_0
              try clear hcz20_1
              try clear hcz20_2
              try clear hcz20_3
              try clear hcz9_0
              try clear hcz9_1
              try clear hfz13_0
              try clear hfz13_1
              try clear hfz13_2
              try clear hfz20_0
              try clear hfz20_1
              try clear hfz20_2
              try clear hfz20_3
              try clear hfz9_0
              try clear hfz9_1
              try clear p2
              obtain ⟨x8_3, x1000_3, x1001_3, x1002_3, x346000_3, u346000, rfl, HA, HK3, HO_341001, HO_346000, BK335, BK340, BK345, HI0, HK, HB⟩ := hrel
              cases gk with
              | zero => exact absurd HA.out (by simp [peneloperef16_R_Read.l1])
              | succ k3 =>
                have H := HA.out
                clear HA
                simp only [peneloperef16_R_Read.l1] at H
                by_cases c22 : x8_3 < t346
                · rw [if_pos c22] at H
                  have c22b0 : decide (x8_3 < t346) = true := decide_eq_true c22
                  clear c22
                  by_cases c23 : x1002_3 = 0
                  · rw [if_pos c23] at H
                    have c23b0 : (x1002_3 == 0) = true := beq_iff_eq.mpr c23
                    have c23b1 : (x1002_3 != 0) = false := bne_eq_false_iff_eq.mpr c23
                    clear c23
                    replace H := Option.bind_eq_some_iff.mp H
                    obtain ⟨⟨t350, t351, t352, t353⟩, A240, H⟩ := H
                    replace H : (if x346000_3.length < 17592186044416 then (peneloperef16_R_Read.l1 k3 t341 x5_1 t346 (wrap64 (x8_3 + 1)) t351 t352 t353 t336 x341001_1 (x346000_3 ++ [t350]) 0 0 0) else (none)) = some (r1, r2, r3, r4, r5) := H
                    have A24 := Aside0.mk A240
                    clear A240
                    by_cases c25 : x346000_3.length < 17592186044416
                    · rw [if_pos c25] at H
                      have LMc25 := Aside0.mk c25
                      clear c25
                      obtain ⟨y354, hy354⟩ : ∃ y_ : List Int, y_ = (x346000_3 ++ [t350]) := ⟨_, rfl⟩
                      replace H : (peneloperef16_R_Read.l1 k3 t341 x5_1 t346 (wrap64 (x8_3 + 1)) t351 t352 t353 t336 x341001_1 y354 0 0 0) = some (r1, r2, r3, r4, r5) := by first | (rw [hy354]; with_reducible exact H) | (have H2_ := (Option.bind_some _ _).symm.trans H; rw [hy354]; with_reducible exact H2_) | (have H2_ := (Option.bind_some _ _).symm.trans H; with_reducible exact H2_) | with_reducible exact H | (rw [hy354]; exact H) | exact H
                      have Ny354 := Aside0.mk hy354
                      clear hy354
                      have H' := Aside0.mk H
                      clear H
                      obtain ⟨HGz26, hgz26⟩ := HI0.out
                      have hcz26_0 := cellS68_0 HGz26
                      have hcz26_1 := cellS68_1 HGz26
                      have hcz26_2 := cellS68_2 HGz26
                      have hfz26_0 := blk_frozen HGz26 0
                      have hfz26_1 := blk_frozen HGz26 1
                      have hfz26_2 := blk_frozen HGz26 2
                      clear HGz26 hgz26
                      try go_wp2
                      have n0_ := Aside0.mk (Kd.S_drew HO_341001.out)
                      have n1_ := Aside0.mk (Kd.R_drew HO_346000.out)
                      have n2_ := Aside0.mk (blk_drew BK335.out)
                      have n3_ := Aside0.mk (blk_drew BK340.out)
                      have n4_ := Aside0.mk (blk_drew BK345.out)
                      have n5_ := Aside0.mk (IsS68.drew HI0.out)
                      have n6_ := Aside0.mk (keep_drew HK.out)
                      have n7_ := Aside0.mk (below_drew1 HB.out)
                      clear HO_341001
                      clear HO_346000
                      clear BK335
                      clear BK340
                      clear BK345
                      clear HI0
                      clear HK
                      clear HB
                      have HO_341001 := n0_
                      have HO_346000 := n1_
                      have BK335 := n2_
                      have BK340 := n3_
                      have BK345 := n4_
                      have HI0 := n5_
                      have HK := n6_
                      have HB := n7_
                      clear n0_ n1_ n2_ n3_ n4_ n5_ n6_ n7_
                      refine start_ (n := 8) (S := fun w' => w'.cell? ⟨gb345, 0, none⟩ = some (u346000) ∧ w'.cell? ⟨gb345, 1, none⟩ = some (.int .i64 0) ∧ w'.cell? ⟨gb345, 2, none⟩ = some (.int .i64 0) ∧ w'.cell? ⟨gb345, 3, none⟩ = some (.int .i64 0)) (ds := [7]) #[false, false, false, false, false, false, false, false] (by kernel_rfl) rfl rfl ⟨(blk_cell BK345.out 0).trans rfl, (blk_cell BK345.out 1).trans rfl, (blk_cell BK345.out 2).trans rfl, (blk_cell BK345.out 3).trans rfl⟩ (fun hHeld => ?_); refine with_tabW peneloperef16_R_Read.tab11 peneloperef16_R_Read.bits11 (fun HT_ HW_ => ?_)
                      generalize wr.drew = w27 at HO_341001 HO_346000 BK335 BK340 BK345 HI0 HK HB hHeld ⊢
                      refine pure_ (i := 0) (N := some 41) (v := ?_) (a' := ?_) #[true, false, false, false, false, false, false, false] rfl rfl (any_of HT_.out (by kernel_rfl)) (fun _ _ _ h => h) (Or.inl ⟨by rfl, ?_⟩) ?_ ?_
                      rotate_left
                      · intro w'
                        go_simp
                        with_reducible rfl
                      rotate_left
                      · simp only [Act.put, List.setIfInBounds_toArray, List.set_cons_zero, List.set_cons_succ, i64_w, i32_w]
                        rfl
                      refine pure_ (i := 2) (N := some 43) (v := ?_) (a' := ?_) #[true, false, true, false, false, false, false, false] rfl rfl (any_of HT_.out (by kernel_rfl)) (fun _ _ _ h => h) (Or.inl ⟨by rfl, ?_⟩) ?_ ?_
                      rotate_left
                      · intro w'
                        go_simp
                        with_reducible rfl
                      rotate_left
                      · simp only [Act.put, List.setIfInBounds_toArray, List.set_cons_zero, List.set_cons_succ, i64_w, i32_w]
                        rfl
                      refine take_ (i := 1) (N := some 42) (v := ?_) (a' := ?_) #[true, true, true, false, false, false, false, false] rfl rfl (take_ofW HT_.out HW_.out (by kernel_rfl)) (fun _ _ _ h => h) (Or.inl ⟨by rfl, ?_⟩) hHeld ?_ ?_
                      rotate_left
                      · rintro w' ⟨s0, s1, s2, s3⟩
                        go_simp
                        with_reducible rfl
                      rotate_left
                      · simp only [Act.put, List.setIfInBounds_toArray, List.set_cons_zero, List.set_cons_succ, i64_w, i32_w]
                        rfl
                      refine one_ (i := 3) (N := some 44) #[true, true, true, true, false, false, false, false] rfl rfl (one_of HT_.out (by kernel_rfl)) (by decide) (fun K hK => ?_)
                      refine goes_ Try.func46 (by kernel_rfl) rfl #[.pointer (some ⟨g, 0, none⟩), .int .i64 1] (by rfl) rfl rfl (by (try simp only [List.map_toArray, List.map_cons, List.map_nil]); first | done | rfl | (simp only [List.length_drop, List.length_take]; rfl)) ?_
                      with_reducible refine (peneloperef16_R_Next.calls k3 g x1000_3 x1001_3 x1002_3 1 t350 t351 t352 t353 w0 _ ?side1 ?side2 A24.out).mono ?_
                      (case side1 => repeat (first | (with_reducible first | exact HI0.out | apply IsS68.alloc | apply IsS68.drewN | apply IsS68.drew | apply IsS68.set_0 | apply IsS68.set_1 | apply IsS68.set_2 | refine IsS68.far ?_ NB0_335.out _ | refine IsS68.far ?_ NB0_340.out _ | refine IsS68.far ?_ NB0_345.out _) | exact HI0.out))
                      (case side2 => repeat (first | (with_reducible first | exact HB.out | apply below_alloc | apply pw_below_drewN | apply below_drew1 | refine below_set ?_ (IsS68.ge HI0.out) | refine below_set ?_ GE335.out | refine below_set ?_ GE340.out | refine below_set ?_ GE345.out) | exact HB.out))
                      rintro e w28 ⟨rfl, hi, hb, hk⟩
                      refine ⟨_, rfl, ?_⟩
                      have n0_ := Aside0.mk (Kd.S_mono (Kd.S_keep (IsS68.apartS (show IsS68 w0 _ g x1000_3 x1001_3 x1002_3 from by repeat (first | (with_reducible first | exact HI0.out | apply IsS68.alloc | apply IsS68.drewN | apply IsS68.drew | apply IsS68.set_0 | apply IsS68.set_1 | apply IsS68.set_2 | refine IsS68.far ?_ NB0_335.out _ | refine IsS68.far ?_ NB0_340.out _ | refine IsS68.far ?_ NB0_345.out _) | exact HI0.out)) (by (with_reducible repeat (first | apply Kd.S_alloc | apply Kd.S_drewN | apply Kd.S_drew)); exact HO_341001.out) (by decide)) hk (fun _ h => h.2)) (fun _ h => h.1))
                      have n1_ := Aside0.mk (Kd.R_mono (Kd.R_keep (IsS68.apart (show IsS68 w0 _ g x1000_3 x1001_3 x1002_3 from by repeat (first | (with_reducible first | exact HI0.out | apply IsS68.alloc | apply IsS68.drewN | apply IsS68.drew | apply IsS68.set_0 | apply IsS68.set_1 | apply IsS68.set_2 | refine IsS68.far ?_ NB0_335.out _ | refine IsS68.far ?_ NB0_340.out _ | refine IsS68.far ?_ NB0_345.out _) | exact HI0.out)) (by (with_reducible repeat (first | apply Kd.R_alloc | apply Kd.R_drewN | apply Kd.R_drew)); exact HO_346000.out) (by decide)) hk (fun _ h => h.2)) (fun _ h => h.1))
                      have n2_ := Aside0.mk (KeepBut.blk hk (g' := gb335) (o := .cells #[.string (⟨#[]⟩ : ByteArray), .slice none 0 0] 24 (0, 0)) (by (with_reducible repeat (first | refine blk_drewN ?_ _ | refine blk_drew ?_ | refine blk_alloc ?_ _)); exact BK335.out) NB335_0.out (by simp))
                      have n3_ := Aside0.mk (KeepBut.blk hk (g' := gb340) (o := .cells #[.string t336, u341001] 24 (0, 0)) (by (with_reducible repeat (first | refine blk_drewN ?_ _ | refine blk_drew ?_ | refine blk_alloc ?_ _)); exact BK340.out) NB340_0.out (by simp))
                      have n4_ := Aside0.mk (KeepBut.blk hk (g' := gb345) (o := .cells #[u346000, .int .i64 0, .int .i64 0, .int .i64 0] 39 (0, 0)) (by (with_reducible repeat (first | refine blk_drewN ?_ _ | refine blk_drew ?_ | refine blk_alloc ?_ _)); exact BK345.out) NB345_0.out (by simp))
                      have n5_ := Aside0.mk (KeepBut.trans (by repeat (first | (with_reducible first | exact HK.out | apply KeepBut.set_ | apply keep_drewN | apply keep_drew | apply keep_alloc | refine keep_far ?_ GW335.out _ | refine keep_far ?_ GW340.out _ | refine keep_far ?_ GW345.out _) | exact HK.out)) hk (.inl rfl))
                      have n6_ := Aside0.mk (hb)
                      have n7_ := Aside0.mk (hi)
                      clear HO_341001
                      clear HO_346000
                      clear BK335
                      clear BK340
                      clear BK345
                      clear HK
                      clear HB
                      clear HI0
                      have HO_341001 := n0_
                      have HO_346000 := n1_
                      have BK335 := n2_
                      have BK340 := n3_
                      have BK345 := n4_
                      have HK := n5_
                      have HB := n6_
                      have HI0 := n7_
                      clear n0_ n1_ n2_ n3_ n4_ n5_ n6_ n7_
                      (try clear hb)
                      (try clear hb2)
                      (try clear hk)
                      (try clear hi)
                      refine hK.out _ _ ⟨(blk_cell BK345.out 0).trans rfl, (blk_cell BK345.out 1).trans rfl, (blk_cell BK345.out 2).trans rfl, (blk_cell BK345.out 3).trans rfl⟩ (fun hHeld => ?_)
                      clear hK K
                      refine norm_ (a' := ?_) ?_ ?_
                      rotate_left
                      · show Act.put _ (some 44) _ = _
                        simp only [Act.put, List.setIfInBounds_toArray, List.set_cons_zero, List.set_cons_succ, i64_w, i32_w]
                        rfl
                      refine one_ (i := 4) (N := some 45) #[true, true, true, true, true, false, false, false] rfl rfl (one_of HT_.out (by kernel_rfl)) (by decide) (fun K hK => ?_)
                      refine value_ (w1 := ?_) (v := ?_) (by rfl) rfl ?_ ?_
                      rotate_left 2
                      · go_simp
                        constructor
                        · rfl
                        · rfl
                      refine hK.out _ _ ⟨(blk_cell (blk_alloc BK345.out _) 0).trans rfl, (blk_cell (blk_alloc BK345.out _) 1).trans rfl, (blk_cell (blk_alloc BK345.out _) 2).trans rfl, (blk_cell (blk_alloc BK345.out _) 3).trans rfl⟩ (fun hHeld => ?_)
                      clear hK K
                      refine norm_ (a' := ?_) ?_ ?_
                      rotate_left
                      · show Act.put _ (some 45) _ = _
                        simp only [Act.put, List.setIfInBounds_toArray, List.set_cons_zero, List.set_cons_succ, i64_w, i32_w]
                        rfl
                      refine one_ (i := 5) (N := some 46) #[true, true, true, true, true, true, false, false] rfl rfl (one_of HT_.out (by kernel_rfl)) (by decide) (fun K hK => ?_)
                      refine Kd.R_append_step (Kd.int .i64) w.heap.size (by rfl) (.tmp 42) (.tmp 45) 29 3 (.int .i64 0) 8 rfl Try.underlying29 info3 rfl (by decide) (by omega) u346000 x346000_3 t350 [.int .i64 t350] (fun _ => True) (fun _ => False) rfl rfl ?aP (fun _ hk => hk.elim) ?aF ?aO (Below.refl _ _) ?aS ?aL ?_
                      (case aP => exact rfl)
                      (case aF => exact (fun _ _ => trivial))
                      (case aO => exact (by (with_reducible repeat (first | apply Kd.R_alloc | apply Kd.R_drewN | apply Kd.R_drew)); exact HO_346000.out))
                      (case aS => exact (keep_size (w := w) (g := g) (row := none) (by repeat (first | (with_reducible first | exact HK.out | apply KeepBut.set_ | apply keep_drewN | apply keep_drew | apply keep_alloc | refine keep_far ?_ GW335.out _ | refine keep_far ?_ GW340.out _ | refine keep_far ?_ GW345.out _) | exact HK.out))))
                      (case aL => have := LMc25.out; omega)
                      intro v355 w29 ho hb hg hat
                      rw [← Ny354.out] at ho
                      have n0_ := Aside0.mk (Kd.S_after (ok := (fun k_ => k_ ≠ gb345)) (by (with_reducible repeat (first | apply Kd.S_alloc | apply Kd.S_drewN | apply Kd.S_drew)); exact Kd.S_mono HO_341001.out (fun _ hk => ⟨hk.2, hk.1⟩)) hg hat)
                      have n1_ := Aside0.mk (blk_grown (g := gb335) (o := .cells #[.string (⟨#[]⟩ : ByteArray), .slice none 0 0] 24 (0, 0)) (by (with_reducible repeat (first | refine blk_drewN ?_ _ | refine blk_drew ?_ | refine blk_alloc ?_ _)); exact BK335.out) hg (Kd.R_ne HO_346000.out BK335.out (by decide)))
                      have n2_ := Aside0.mk (blk_grown (g := gb340) (o := .cells #[.string t336, u341001] 24 (0, 0)) (by (with_reducible repeat (first | refine blk_drewN ?_ _ | refine blk_drew ?_ | refine blk_alloc ?_ _)); exact BK340.out) hg (Kd.R_ne HO_346000.out BK340.out (by decide)))
                      have n3_ := Aside0.mk (blk_grown (g := gb345) (o := .cells #[u346000, .int .i64 0, .int .i64 0, .int .i64 0] 39 (0, 0)) (by (with_reducible repeat (first | refine blk_drewN ?_ _ | refine blk_drew ?_ | refine blk_alloc ?_ _)); exact BK345.out) hg (Kd.R_ne HO_346000.out BK345.out (by decide)))
                      have n4_ := Aside0.mk (IsS68.grown (by repeat (first | (with_reducible first | exact HI0.out | apply IsS68.alloc | apply IsS68.drewN | apply IsS68.drew | apply IsS68.set_0 | apply IsS68.set_1 | apply IsS68.set_2 | refine IsS68.far ?_ NB0_335.out _ | refine IsS68.far ?_ NB0_340.out _ | refine IsS68.far ?_ NB0_345.out _) | exact HI0.out)) hg (IsS68.own_ne HI0.out HO_346000.out (by decide)))
                      have n5_ := Aside0.mk (below_weaken (by repeat (first | (with_reducible first | exact HB.out | apply below_alloc | apply pw_below_drewN | apply below_drew1 | refine below_set ?_ (IsS68.ge HI0.out) | refine below_set ?_ GE335.out | refine below_set ?_ GE340.out | refine below_set ?_ GE345.out) | exact HB.out)) HL.out hb)
                      have n6_ := Aside0.mk (KeepBut.trans (by repeat (first | (with_reducible first | exact HK.out | apply KeepBut.set_ | apply keep_drewN | apply keep_drew | apply keep_alloc | refine keep_far ?_ GW335.out _ | refine keep_far ?_ GW340.out _ | refine keep_far ?_ GW345.out _) | exact HK.out)) (KeepBut.of_grown hg g) (Kd.R_base2 HO_346000.out))
                      have n7_ := Aside0.mk (ho)
                      clear HO_341001
                      clear BK335
                      clear BK340
                      clear BK345
                      clear HI0
                      clear HB
                      clear HK
                      clear HO_346000
                      have HO_341001 := n0_
                      have BK335 := n1_
                      have BK340 := n2_
                      have BK345 := n3_
                      have HI0 := n4_
                      have HB := n5_
                      have HK := n6_
                      have HO356 := n7_
                      clear n0_ n1_ n2_ n3_ n4_ n5_ n6_ n7_
                      clear ho hb hg hat
                      obtain ⟨Ao30, co30, eo30⟩ := Kd.R_slice HO356.out
                      (first | subst eo30 | (injection eo30 with f1_ f2_ f3_; have f4_ := f1_.symm; have f5_ := f3_.symm; clear f1_ f2_ f3_; subst f4_; subst f5_))
                      refine hK.out _ _ ⟨(blk_cell BK345.out 0).trans rfl, (blk_cell BK345.out 1).trans rfl, (blk_cell BK345.out 2).trans rfl, (blk_cell BK345.out 3).trans rfl⟩ (fun hHeld => ?_)
                      clear hK K
                      refine norm_ (a' := ?_) ?_ ?_
                      rotate_left
                      · show Act.put _ (some 46) _ = _
                        simp only [Act.put, List.setIfInBounds_toArray, List.set_cons_zero, List.set_cons_succ, i64_w, i32_w]
                        rfl
                      refine pure_ (i := 6) (N := some 47) (v := ?_) (a' := ?_) #[true, true, true, true, true, true, true, false] rfl rfl (any_of HT_.out (by kernel_rfl)) (fun _ _ _ h => h) (Or.inl ⟨by rfl, ?_⟩) ?_ ?_
                      rotate_left
                      · intro w'
                        go_simp
                        with_reducible rfl
                      rotate_left
                      · simp only [Act.put, List.setIfInBounds_toArray, List.set_cons_zero, List.set_cons_succ, i64_w, i32_w]
                        rfl
                      refine last_ (i := 7) (N := none) #[true, true, true, true, true, true, true, true] rfl rfl (one_of HT_.out (by kernel_rfl)) (by decide) (fun K hK => ?_)
                      have hs31 : w29.cell? ⟨gb345, 0, none⟩ = some (u346000) := (blk_cell BK345.out 0).trans rfl
                      have hfs31 := blk_frozen BK345.out 0
                      have hns31_0 := NB335_345.out
                      have hns31_1 := NB340_345.out
                      have hms31_0 := NB345_335.out
                      have hms31_1 := NB345_340.out
                      refine skip_ (w1 := ?_) (by rfl) rfl ?_ ?_
                      rotate_left
                      · go_simp
                        rfl
                      refine hK.out _ _ ?_
                      clear hK K
                      refine done_ (done_of HT_.out (by kernel_rfl)) ?_
                      try go_wp2
                      go_roundg k3
                      case measure => have := HK1.out; have := HJ10.out; have := HK3.out; omega
                      case rel => exact ⟨(wrap64 (x8_3 + 1)), (t351), (t352), (t353), (y354), (.slice Ao30 y354.length co30), (by first | rfl | (simp; done) | (simp [*]; done)), H', ⟨by have := HK1.out; have := HJ10.out; have := HK3.out; omega⟩, ⟨by (with_reducible repeat (first | apply Kd.S_alloc | apply Kd.S_drewN | apply Kd.S_drew)); exact Kd.S_mono (Kd.S_far (p := ⟨gb345, 0, none⟩) (Kd.S_mono HO_341001.out (fun k_ hk => (⟨hk, hk.1⟩ : _ ∧ k_ ≠ gb345))) (fun _ hk => hk.2) (.slice Ao30 y354.length co30)) (fun _ hk => ⟨hk.1.2, hk.1.1⟩)⟩, ⟨by (with_reducible repeat (first | apply Kd.R_alloc | apply Kd.R_drewN | apply Kd.R_drew)); exact Kd.R_mono (Kd.R_far (p := ⟨gb345, 0, none⟩) (Kd.R_types HO356.out BK345.out (by decide)) (fun _ hk => hk.2) (.slice Ao30 y354.length co30)) (fun _ hk => trivial)⟩, ⟨by (with_reducible repeat (first | refine blk_drewN ?_ _ | refine blk_drew ?_ | refine blk_alloc ?_ _)); refine blk_far ?_ NB335_345.out _; (with_reducible repeat (first | refine blk_drewN ?_ _ | refine blk_drew ?_ | refine blk_alloc ?_ _)); exact BK335.out⟩, ⟨by (with_reducible repeat (first | refine blk_drewN ?_ _ | refine blk_drew ?_ | refine blk_alloc ?_ _)); refine blk_far ?_ NB340_345.out _; (with_reducible repeat (first | refine blk_drewN ?_ _ | refine blk_drew ?_ | refine blk_alloc ?_ _)); exact BK340.out⟩, ⟨by (with_reducible repeat (first | refine blk_drewN ?_ _ | refine blk_drew ?_ | refine blk_alloc ?_ _)); refine blk_put (cs := #[u346000, .int .i64 0, .int .i64 0, .int .i64 0]) ?_ 0 _ rfl; (with_reducible repeat (first | refine blk_drewN ?_ _ | refine blk_drew ?_ | refine blk_alloc ?_ _)); exact BK345.out⟩, ⟨by repeat (first | (with_reducible first | exact HI0.out | apply IsS68.alloc | apply IsS68.drewN | apply IsS68.drew | apply IsS68.set_0 | apply IsS68.set_1 | apply IsS68.set_2 | refine IsS68.far ?_ NB0_335.out _ | refine IsS68.far ?_ NB0_340.out _ | refine IsS68.far ?_ NB0_345.out _) | exact HI0.out)⟩, ⟨by repeat (first | (with_reducible first | exact HK.out | apply KeepBut.set_ | apply keep_drewN | apply keep_drew | apply keep_alloc | refine keep_far ?_ GW335.out _ | refine keep_far ?_ GW340.out _ | refine keep_far ?_ GW345.out _) | exact HK.out)⟩, ⟨by repeat (first | (with_reducible first | exact HB.out | apply below_alloc | apply pw_below_drewN | apply below_drew1 | refine below_set ?_ (IsS68.ge HI0.out) | refine below_set ?_ GE335.out | refine below_set ?_ GE340.out | refine below_set ?_ GE345.out) | exact HB.out)⟩⟩
                    · rw [if_neg c25] at H
                      exact absurd H (by simp)
                  · rw [if_neg c23] at H
                    have c23b0 : (x1002_3 == 0) = false := beq_eq_false_iff_ne.mpr c23
                    have c23b1 : (x1002_3 != 0) = true := bne_iff_ne.mpr c23
                    replace H := Option.bind_eq_some_iff.mp H
                    obtain ⟨⟨t357, t358, t359, t360⟩, A320, H⟩ := H
                    replace H : ((peneloperef16_R_Next.f k3 t358 t359 t360 3).bind fun bt361 => ((peneloperef16_R_Next.f k3 bt361.2.1 bt361.2.2.1 bt361.2.2.2 3).bind fun bt365 => (if x341001_1.length < 2932031007402 then (peneloperef16_R_Read.l0 k3 t341 (wrap64 (x5_1 + 1)) bt365.2.1 bt365.2.2.1 bt365.2.2.2 t336 (x341001_1 ++ [(⟨x346000_3, t357, bt361.1, bt365.1⟩ : S39)])) else (none)))) = some (r1, r2, r3, r4, r5) := H
                    have A32 := Aside0.mk A320
                    clear A320
                    replace H := Option.bind_eq_some_iff.mp H
                    obtain ⟨⟨t361, t362, t363, t364⟩, A330, H⟩ := H
                    replace H : ((peneloperef16_R_Next.f k3 t362 t363 t364 3).bind fun bt365 => (if x341001_1.length < 2932031007402 then (peneloperef16_R_Read.l0 k3 t341 (wrap64 (x5_1 + 1)) bt365.2.1 bt365.2.2.1 bt365.2.2.2 t336 (x341001_1 ++ [(⟨x346000_3, t357, t361, bt365.1⟩ : S39)])) else (none))) = some (r1, r2, r3, r4, r5) := H
                    have A33 := Aside0.mk A330
                    clear A330
                    replace H := Option.bind_eq_some_iff.mp H
                    obtain ⟨⟨t365, t366, t367, t368⟩, A340, H⟩ := H
                    replace H : (if x341001_1.length < 2932031007402 then (peneloperef16_R_Read.l0 k3 t341 (wrap64 (x5_1 + 1)) t366 t367 t368 t336 (x341001_1 ++ [(⟨x346000_3, t357, t361, t365⟩ : S39)])) else (none)) = some (r1, r2, r3, r4, r5) := H
                    have A34 := Aside0.mk A340
                    clear A340
                    by_cases c35 : x341001_1.length < 2932031007402
                    · rw [if_pos c35] at H
                      have LMc35 := Aside0.mk c35
                      clear c35
                      obtain ⟨y369, hy369⟩ : ∃ y_ : List (S39), y_ = (x341001_1 ++ [(⟨x346000_3, t357, t361, t365⟩ : S39)]) := ⟨_, rfl⟩
                      replace H : (peneloperef16_R_Read.l0 k3 t341 (wrap64 (x5_1 + 1)) t366 t367 t368 t336 y369) = some (r1, r2, r3, r4, r5) := by first | (rw [hy369]; with_reducible exact H) | (have H2_ := (Option.bind_some _ _).symm.trans H; rw [hy369]; with_reducible exact H2_) | (have H2_ := (Option.bind_some _ _).symm.trans H; with_reducible exact H2_) | with_reducible exact H | (rw [hy369]; exact H) | exact H
                      have Ny369 := Aside0.mk hy369
                      clear hy369
                      have H' := Aside0.mk H
                      clear H
                      obtain ⟨HGz36, hgz36⟩ := HI0.out
                      have hcz36_0 := cellS68_0 HGz36
                      have hcz36_1 := cellS68_1 HGz36
                      have hcz36_2 := cellS68_2 HGz36
                      have hfz36_0 := blk_frozen HGz36 0
                      have hfz36_1 := blk_frozen HGz36 1
                      have hfz36_2 := blk_frozen HGz36 2
                      clear HGz36 hgz36
                      go_wp2_with (first | ((with_reducible refine gate_callee (f := 46) rfl ?_); refine goesL_ (some 49) rfl rfl Try.func46 (by kernel_rfl) rfl #[.pointer (some ⟨g, 0, none⟩), .int .i64 1] rfl (by (try simp only [List.map_toArray, List.map_cons, List.map_nil]); first | done | rfl | (simp only [List.length_drop, List.length_take]; rfl)) ?_; (with_reducible refine (peneloperef16_R_Next.calls k3 g x1000_3 x1001_3 x1002_3 1 t357 t358 t359 t360 w0 _ ?side1 ?side2 A32.out).mono ?_); (case side1 => repeat (first | (with_reducible first | exact HI0.out | apply IsS68.alloc | apply IsS68.drewN | apply IsS68.drew | apply IsS68.set_0 | apply IsS68.set_1 | apply IsS68.set_2 | refine IsS68.far ?_ NB0_335.out _ | refine IsS68.far ?_ NB0_340.out _ | refine IsS68.far ?_ NB0_345.out _) | exact HI0.out)); (case side2 => repeat (first | (with_reducible first | exact HB.out | apply below_alloc | apply pw_below_drewN | apply below_drew1 | refine below_set ?_ (IsS68.ge HI0.out) | refine below_set ?_ GE335.out | refine below_set ?_ GE340.out | refine below_set ?_ GE345.out) | exact HB.out)); rintro e w37 ⟨rfl, hi, hb, hk⟩; refine ⟨_, rfl, ?_⟩; have n0_ := Aside0.mk (Kd.S_mono (Kd.S_keep (IsS68.apartS (show IsS68 w0 _ g x1000_3 x1001_3 x1002_3 from by repeat (first | (with_reducible first | exact HI0.out | apply IsS68.alloc | apply IsS68.drewN | apply IsS68.drew | apply IsS68.set_0 | apply IsS68.set_1 | apply IsS68.set_2 | refine IsS68.far ?_ NB0_335.out _ | refine IsS68.far ?_ NB0_340.out _ | refine IsS68.far ?_ NB0_345.out _) | exact HI0.out)) (by (with_reducible repeat (first | apply Kd.S_alloc | apply Kd.S_drewN | apply Kd.S_drew)); exact HO_341001.out) (by decide)) hk (fun _ h => h.2)) (fun _ h => h.1)); have n1_ := Aside0.mk (Kd.R_mono (Kd.R_keep (IsS68.apart (show IsS68 w0 _ g x1000_3 x1001_3 x1002_3 from by repeat (first | (with_reducible first | exact HI0.out | apply IsS68.alloc | apply IsS68.drewN | apply IsS68.drew | apply IsS68.set_0 | apply IsS68.set_1 | apply IsS68.set_2 | refine IsS68.far ?_ NB0_335.out _ | refine IsS68.far ?_ NB0_340.out _ | refine IsS68.far ?_ NB0_345.out _) | exact HI0.out)) (by (with_reducible repeat (first | apply Kd.R_alloc | apply Kd.R_drewN | apply Kd.R_drew)); exact HO_346000.out) (by decide)) hk (fun _ h => h.2)) (fun _ h => h.1)); have n2_ := Aside0.mk (KeepBut.blk hk (g' := gb335) (o := .cells #[.string (⟨#[]⟩ : ByteArray), .slice none 0 0] 24 (0, 0)) (by (with_reducible repeat (first | refine blk_drewN ?_ _ | refine blk_drew ?_ | refine blk_alloc ?_ _)); exact BK335.out) NB335_0.out (by simp)); have n3_ := Aside0.mk (KeepBut.blk hk (g' := gb340) (o := .cells #[.string t336, u341001] 24 (0, 0)) (by (with_reducible repeat (first | refine blk_drewN ?_ _ | refine blk_drew ?_ | refine blk_alloc ?_ _)); exact BK340.out) NB340_0.out (by simp)); have n4_ := Aside0.mk (KeepBut.blk hk (g' := gb345) (o := .cells #[u346000, .int .i64 0, .int .i64 0, .int .i64 0] 39 (0, 0)) (by (with_reducible repeat (first | refine blk_drewN ?_ _ | refine blk_drew ?_ | refine blk_alloc ?_ _)); exact BK345.out) NB345_0.out (by simp)); have n5_ := Aside0.mk (KeepBut.trans (by repeat (first | (with_reducible first | exact HK.out | apply KeepBut.set_ | apply keep_drewN | apply keep_drew | apply keep_alloc | refine keep_far ?_ GW335.out _ | refine keep_far ?_ GW340.out _ | refine keep_far ?_ GW345.out _) | exact HK.out)) hk (.inl rfl)); have n6_ := Aside0.mk (hb); have n7_ := Aside0.mk (hi); clear HO_341001; clear HO_346000; clear BK335; clear BK340; clear BK345; clear HK; clear HB; clear HI0; have HO_341001 := n0_; have HO_346000 := n1_; have BK335 := n2_; have BK340 := n3_; have BK345 := n4_; have HK := n5_; have HB := n6_; have HI0 := n7_; clear n0_ n1_ n2_ n3_ n4_ n5_ n6_ n7_; (try clear hb); (try clear hb2); (try clear hk); (try clear hi); have hnb38 := NB345_335.out; have hnc38 := NB335_345.out; have hnb39 := NB345_340.out; have hnc39 := NB340_345.out; have hnb40 := NB345_0.out; have hnc40 := NB0_345.out; have hcz41_0 : w37.cell? ⟨gb345, 0, none⟩ = some (u346000) := (blk_cell BK345.out 0).trans rfl; have hcz41_1 : w37.cell? ⟨gb345, 1, none⟩ = some (.int .i64 0) := (blk_cell BK345.out 1).trans rfl; have hcz41_2 : w37.cell? ⟨gb345, 2, none⟩ = some (.int .i64 0) := (blk_cell BK345.out 2).trans rfl; have hcz41_3 : w37.cell? ⟨gb345, 3, none⟩ = some (.int .i64 0) := (blk_cell BK345.out 3).trans rfl; have hfz41_0 := blk_frozen BK345.out 0; have hfz41_1 := blk_frozen BK345.out 1; have hfz41_2 := blk_frozen BK345.out 2; have hfz41_3 := blk_frozen BK345.out 3) | ((with_reducible refine gate_callee (f := 46) rfl ?_); refine goesL_ (some 52) rfl rfl Try.func46 (by kernel_rfl) rfl #[.pointer (some ⟨g, 0, none⟩), .int .i64 3] rfl (by (try simp only [List.map_toArray, List.map_cons, List.map_nil]); first | done | rfl | (simp only [List.length_drop, List.length_take]; rfl)) ?_; (with_reducible refine (peneloperef16_R_Next.calls k3 g t358 t359 t360 3 t361 t362 t363 t364 w0 _ ?side1 ?side2 A33.out).mono ?_); (case side1 => repeat (first | (with_reducible first | exact HI0.out | apply IsS68.alloc | apply IsS68.drewN | apply IsS68.drew | apply IsS68.set_0 | apply IsS68.set_1 | apply IsS68.set_2 | refine IsS68.far ?_ NB0_335.out _ | refine IsS68.far ?_ NB0_340.out _ | refine IsS68.far ?_ NB0_345.out _) | exact HI0.out)); (case side2 => repeat (first | (with_reducible first | exact HB.out | apply below_alloc | apply pw_below_drewN | apply below_drew1 | refine below_set ?_ (IsS68.ge HI0.out) | refine below_set ?_ GE335.out | refine below_set ?_ GE340.out | refine below_set ?_ GE345.out) | exact HB.out)); rintro e w42 ⟨rfl, hi, hb, hk⟩; refine ⟨_, rfl, ?_⟩; have n0_ := Aside0.mk (Kd.S_mono (Kd.S_keep (IsS68.apartS (show IsS68 w0 _ g t358 t359 t360 from by repeat (first | (with_reducible first | exact HI0.out | apply IsS68.alloc | apply IsS68.drewN | apply IsS68.drew | apply IsS68.set_0 | apply IsS68.set_1 | apply IsS68.set_2 | refine IsS68.far ?_ NB0_335.out _ | refine IsS68.far ?_ NB0_340.out _ | refine IsS68.far ?_ NB0_345.out _) | exact HI0.out)) (by (with_reducible repeat (first | apply Kd.S_alloc | apply Kd.S_drewN | apply Kd.S_drew)); exact (Kd.S_mono (Kd.S_far (p := ⟨gb345, 1, none⟩) (Kd.S_mono HO_341001.out (fun k_ hk => (⟨hk, hk.2⟩ : _ ∧ k_ ≠ gb345))) (fun _ hk => hk.2) (.int .i64 t357)) (fun _ h_ => h_.1))) (by decide)) hk (fun _ h => h.2)) (fun _ h => h.1)); have n1_ := Aside0.mk (Kd.R_mono (Kd.R_keep (IsS68.apart (show IsS68 w0 _ g t358 t359 t360 from by repeat (first | (with_reducible first | exact HI0.out | apply IsS68.alloc | apply IsS68.drewN | apply IsS68.drew | apply IsS68.set_0 | apply IsS68.set_1 | apply IsS68.set_2 | refine IsS68.far ?_ NB0_335.out _ | refine IsS68.far ?_ NB0_340.out _ | refine IsS68.far ?_ NB0_345.out _) | exact HI0.out)) (by (with_reducible repeat (first | apply Kd.R_alloc | apply Kd.R_drewN | apply Kd.R_drew)); exact (Kd.R_mono (Kd.R_far (p := ⟨gb345, 1, none⟩) (Kd.R_types HO_346000.out BK345.out (by decide)) (fun _ hk => hk.2) (.int .i64 t357)) (fun _ h_ => h_.1))) (by decide)) hk (fun _ h => h.2)) (fun _ h => h.1)); have n2_ := Aside0.mk (KeepBut.blk hk (g' := gb335) (o := .cells #[.string (⟨#[]⟩ : ByteArray), .slice none 0 0] 24 (0, 0)) (by (with_reducible repeat (first | refine blk_drewN ?_ _ | refine blk_drew ?_ | refine blk_alloc ?_ _)); refine blk_far ?_ NB335_345.out _; (with_reducible repeat (first | refine blk_drewN ?_ _ | refine blk_drew ?_ | refine blk_alloc ?_ _)); exact BK335.out) NB335_0.out (by simp)); have n3_ := Aside0.mk (KeepBut.blk hk (g' := gb340) (o := .cells #[.string t336, u341001] 24 (0, 0)) (by (with_reducible repeat (first | refine blk_drewN ?_ _ | refine blk_drew ?_ | refine blk_alloc ?_ _)); refine blk_far ?_ NB340_345.out _; (with_reducible repeat (first | refine blk_drewN ?_ _ | refine blk_drew ?_ | refine blk_alloc ?_ _)); exact BK340.out) NB340_0.out (by simp)); have n4_ := Aside0.mk (KeepBut.blk hk (g' := gb345) (o := .cells #[u346000, .int .i64 t357, .int .i64 0, .int .i64 0] 39 (0, 0)) (by (with_reducible repeat (first | refine blk_drewN ?_ _ | refine blk_drew ?_ | refine blk_alloc ?_ _)); refine blk_put (cs := #[u346000, .int .i64 0, .int .i64 0, .int .i64 0]) ?_ 1 _ rfl; (with_reducible repeat (first | refine blk_drewN ?_ _ | refine blk_drew ?_ | refine blk_alloc ?_ _)); exact BK345.out) NB345_0.out (by simp)); have n5_ := Aside0.mk (KeepBut.trans (by repeat (first | (with_reducible first | exact HK.out | apply KeepBut.set_ | apply keep_drewN | apply keep_drew | apply keep_alloc | refine keep_far ?_ GW335.out _ | refine keep_far ?_ GW340.out _ | refine keep_far ?_ GW345.out _) | exact HK.out)) hk (.inl rfl)); have n6_ := Aside0.mk (hb); have n7_ := Aside0.mk (hi); clear HO_341001; clear HO_346000; clear BK335; clear BK340; clear BK345; clear HK; clear HB; clear HI0; have HO_341001 := n0_; have HO_346000 := n1_; have BK335 := n2_; have BK340 := n3_; have BK345 := n4_; have HK := n5_; have HB := n6_; have HI0 := n7_; clear n0_ n1_ n2_ n3_ n4_ n5_ n6_ n7_; (try clear hb); (try clear hb2); (try clear hk); (try clear hi); have hcz43_0 : w42.cell? ⟨gb345, 0, none⟩ = some (u346000) := (blk_cell BK345.out 0).trans rfl; have hcz43_1 : w42.cell? ⟨gb345, 1, none⟩ = some (.int .i64 t357) := (blk_cell BK345.out 1).trans rfl; have hcz43_2 : w42.cell? ⟨gb345, 2, none⟩ = some (.int .i64 0) := (blk_cell BK345.out 2).trans rfl; have hcz43_3 : w42.cell? ⟨gb345, 3, none⟩ = some (.int .i64 0) := (blk_cell BK345.out 3).trans rfl; have hfz43_0 := blk_frozen BK345.out 0; have hfz43_1 := blk_frozen BK345.out 1; have hfz43_2 := blk_frozen BK345.out 2; have hfz43_3 := blk_frozen BK345.out 3) | ((with_reducible refine gate_callee (f := 46) rfl ?_); refine goesL_ (some 55) rfl rfl Try.func46 (by kernel_rfl) rfl #[.pointer (some ⟨g, 0, none⟩), .int .i64 3] rfl (by (try simp only [List.map_toArray, List.map_cons, List.map_nil]); first | done | rfl | (simp only [List.length_drop, List.length_take]; rfl)) ?_; (with_reducible refine (peneloperef16_R_Next.calls k3 g t362 t363 t364 3 t365 t366 t367 t368 w0 _ ?side1 ?side2 A34.out).mono ?_); (case side1 => repeat (first | (with_reducible first | exact HI0.out | apply IsS68.alloc | apply IsS68.drewN | apply IsS68.drew | apply IsS68.set_0 | apply IsS68.set_1 | apply IsS68.set_2 | refine IsS68.far ?_ NB0_335.out _ | refine IsS68.far ?_ NB0_340.out _ | refine IsS68.far ?_ NB0_345.out _) | exact HI0.out)); (case side2 => repeat (first | (with_reducible first | exact HB.out | apply below_alloc | apply pw_below_drewN | apply below_drew1 | refine below_set ?_ (IsS68.ge HI0.out) | refine below_set ?_ GE335.out | refine below_set ?_ GE340.out | refine below_set ?_ GE345.out) | exact HB.out)); rintro e w44 ⟨rfl, hi, hb, hk⟩; refine ⟨_, rfl, ?_⟩; have n0_ := Aside0.mk (Kd.S_mono (Kd.S_keep (IsS68.apartS (show IsS68 w0 _ g t362 t363 t364 from by repeat (first | (with_reducible first | exact HI0.out | apply IsS68.alloc | apply IsS68.drewN | apply IsS68.drew | apply IsS68.set_0 | apply IsS68.set_1 | apply IsS68.set_2 | refine IsS68.far ?_ NB0_335.out _ | refine IsS68.far ?_ NB0_340.out _ | refine IsS68.far ?_ NB0_345.out _) | exact HI0.out)) (by (with_reducible repeat (first | apply Kd.S_alloc | apply Kd.S_drewN | apply Kd.S_drew)); exact (Kd.S_mono (Kd.S_far (p := ⟨gb345, 2, none⟩) (Kd.S_mono HO_341001.out (fun k_ hk => (⟨hk, hk.2⟩ : _ ∧ k_ ≠ gb345))) (fun _ hk => hk.2) (.int .i64 t361)) (fun _ h_ => h_.1))) (by decide)) hk (fun _ h => h.2)) (fun _ h => h.1)); have n1_ := Aside0.mk (Kd.R_mono (Kd.R_keep (IsS68.apart (show IsS68 w0 _ g t362 t363 t364 from by repeat (first | (with_reducible first | exact HI0.out | apply IsS68.alloc | apply IsS68.drewN | apply IsS68.drew | apply IsS68.set_0 | apply IsS68.set_1 | apply IsS68.set_2 | refine IsS68.far ?_ NB0_335.out _ | refine IsS68.far ?_ NB0_340.out _ | refine IsS68.far ?_ NB0_345.out _) | exact HI0.out)) (by (with_reducible repeat (first | apply Kd.R_alloc | apply Kd.R_drewN | apply Kd.R_drew)); exact (Kd.R_mono (Kd.R_far (p := ⟨gb345, 2, none⟩) (Kd.R_types HO_346000.out BK345.out (by decide)) (fun _ hk => hk.2) (.int .i64 t361)) (fun _ h_ => h_.1))) (by decide)) hk (fun _ h => h.2)) (fun _ h => h.1)); have n2_ := Aside0.mk (KeepBut.blk hk (g' := gb335) (o := .cells #[.string (⟨#[]⟩ : ByteArray), .slice none 0 0] 24 (0, 0)) (by (with_reducible repeat (first | refine blk_drewN ?_ _ | refine blk_drew ?_ | refine blk_alloc ?_ _)); refine blk_far ?_ NB335_345.out _; (with_reducible repeat (first | refine blk_drewN ?_ _ | refine blk_drew ?_ | refine blk_alloc ?_ _)); exact BK335.out) NB335_0.out (by simp)); have n3_ := Aside0.mk (KeepBut.blk hk (g' := gb340) (o := .cells #[.string t336, u341001] 24 (0, 0)) (by (with_reducible repeat (first | refine blk_drewN ?_ _ | refine blk_drew ?_ | refine blk_alloc ?_ _)); refine blk_far ?_ NB340_345.out _; (with_reducible repeat (first | refine blk_drewN ?_ _ | refine blk_drew ?_ | refine blk_alloc ?_ _)); exact BK340.out) NB340_0.out (by simp)); have n4_ := Aside0.mk (KeepBut.blk hk (g' := gb345) (o := .cells #[u346000, .int .i64 t357, .int .i64 t361, .int .i64 0] 39 (0, 0)) (by (with_reducible repeat (first | refine blk_drewN ?_ _ | refine blk_drew ?_ | refine blk_alloc ?_ _)); refine blk_put (cs := #[u346000, .int .i64 t357, .int .i64 0, .int .i64 0]) ?_ 2 _ rfl; (with_reducible repeat (first | refine blk_drewN ?_ _ | refine blk_drew ?_ | refine blk_alloc ?_ _)); exact BK345.out) NB345_0.out (by simp)); have n5_ := Aside0.mk (KeepBut.trans (by repeat (first | (with_reducible first | exact HK.out | apply KeepBut.set_ | apply keep_drewN | apply keep_drew | apply keep_alloc | refine keep_far ?_ GW335.out _ | refine keep_far ?_ GW340.out _ | refine keep_far ?_ GW345.out _) | exact HK.out)) hk (.inl rfl)); have n6_ := Aside0.mk (hb); have n7_ := Aside0.mk (hi); clear HO_341001; clear HO_346000; clear BK335; clear BK340; clear BK345; clear HK; clear HB; clear HI0; have HO_341001 := n0_; have HO_346000 := n1_; have BK335 := n2_; have BK340 := n3_; have BK345 := n4_; have HK := n5_; have HB := n6_; have HI0 := n7_; clear n0_ n1_ n2_ n3_ n4_ n5_ n6_ n7_; (try clear hb); (try clear hb2); (try clear hk); (try clear hi); have hcz45_0 : w44.cell? ⟨gb345, 0, none⟩ = some (u346000) := (blk_cell BK345.out 0).trans rfl; have hcz45_1 : w44.cell? ⟨gb345, 1, none⟩ = some (.int .i64 t357) := (blk_cell BK345.out 1).trans rfl; have hcz45_2 : w44.cell? ⟨gb345, 2, none⟩ = some (.int .i64 t361) := (blk_cell BK345.out 2).trans rfl; have hcz45_3 : w44.cell? ⟨gb345, 3, none⟩ = some (.int .i64 0) := (blk_cell BK345.out 3).trans rfl; have hfz45_0 := blk_frozen BK345.out 0; have hfz45_1 := blk_frozen BK345.out 1; have hfz45_2 := blk_frozen BK345.out 2; have hfz45_3 := blk_frozen BK345.out 3) | ((with_reducible refine gate_store (t := 3) (p := 56) rfl ?_); refine store_event (t := 3) (p := 56) (v := ?vo_w46) (w1 := (w44.setCell ⟨gb345, 3, none⟩ (.int .i64 t365))) ?hg ?ho ?hn ?hr ?_; (case ho => rfl); (case hg => rfl); (case hn => rfl); (case hr => first | (go_simp; done) | (go_simp; rfl)); intro w46 hw; have n0_ : Aside0 (Kd.S k39 39 w46 w.heap.size (fun k_ => some k_ ≠ (u346000 : Value).ownBlock ∧ k_ ≠ gb345) u341001 x341001_1) := ⟨(by rw [hw]; exact (by (with_reducible repeat (first | apply Kd.S_alloc | apply Kd.S_drewN | apply Kd.S_drew)); exact Kd.S_mono (Kd.S_far (p := ⟨gb345, 3, none⟩) (Kd.S_mono HO_341001.out (fun k_ hk => (⟨hk, hk.2⟩ : _ ∧ k_ ≠ gb345))) (fun _ hk => hk.2) (.int .i64 t365)) (fun _ hk => ⟨hk.1.1, hk.1.2⟩)))⟩; have n1_ : Aside0 (Kd.R (Kd.int .i64) 3 w46 w.heap.size (fun _ => True) u346000 x346000_3) := ⟨(by rw [hw]; exact (by (with_reducible repeat (first | apply Kd.R_alloc | apply Kd.R_drewN | apply Kd.R_drew)); exact Kd.R_mono (Kd.R_far (p := ⟨gb345, 3, none⟩) (Kd.R_types HO_346000.out BK345.out (by decide)) (fun _ hk => hk.2) (.int .i64 t365)) (fun _ hk => trivial)))⟩; have n2_ : Aside0 (w46.heap[gb335]? = some (.cells #[.string (⟨#[]⟩ : ByteArray), .slice none 0 0] 24 (0, 0))) := ⟨(by rw [hw]; exact (by (with_reducible repeat (first | refine blk_drewN ?_ _ | refine blk_drew ?_ | refine blk_alloc ?_ _)); refine blk_far ?_ NB335_345.out _; (with_reducible repeat (first | refine blk_drewN ?_ _ | refine blk_drew ?_ | refine blk_alloc ?_ _)); exact BK335.out))⟩; have n3_ : Aside0 (w46.heap[gb340]? = some (.cells #[.string t336, u341001] 24 (0, 0))) := ⟨(by rw [hw]; exact (by (with_reducible repeat (first | refine blk_drewN ?_ _ | refine blk_drew ?_ | refine blk_alloc ?_ _)); refine blk_far ?_ NB340_345.out _; (with_reducible repeat (first | refine blk_drewN ?_ _ | refine blk_drew ?_ | refine blk_alloc ?_ _)); exact BK340.out))⟩; have n4_ : Aside0 (w46.heap[gb345]? = some (.cells #[u346000, .int .i64 t357, .int .i64 t361, .int .i64 t365] 39 (0, 0))) := ⟨(by rw [hw]; exact (by (with_reducible repeat (first | refine blk_drewN ?_ _ | refine blk_drew ?_ | refine blk_alloc ?_ _)); refine blk_put (cs := #[u346000, .int .i64 t357, .int .i64 t361, .int .i64 0]) ?_ 3 _ rfl; (with_reducible repeat (first | refine blk_drewN ?_ _ | refine blk_drew ?_ | refine blk_alloc ?_ _)); exact BK345.out))⟩; have n5_ : Aside0 (IsS68 w0 w46 g t366 t367 t368) := ⟨(by rw [hw]; exact (by repeat (first | (with_reducible first | exact HI0.out | apply IsS68.alloc | apply IsS68.drewN | apply IsS68.drew | apply IsS68.set_0 | apply IsS68.set_1 | apply IsS68.set_2 | refine IsS68.far ?_ NB0_335.out _ | refine IsS68.far ?_ NB0_340.out _ | refine IsS68.far ?_ NB0_345.out _) | exact HI0.out)))⟩; have n6_ : Aside0 (KeepBut w w46 g none) := ⟨(by rw [hw]; exact (by repeat (first | (with_reducible first | exact HK.out | apply KeepBut.set_ | apply keep_drewN | apply keep_drew | apply keep_alloc | refine keep_far ?_ GW335.out _ | refine keep_far ?_ GW340.out _ | refine keep_far ?_ GW345.out _) | exact HK.out)))⟩; have n7_ : Aside0 (Below w0.heap.size w0 w46) := ⟨(by rw [hw]; exact (by repeat (first | (with_reducible first | exact HB.out | apply below_alloc | apply pw_below_drewN | apply below_drew1 | refine below_set ?_ (IsS68.ge HI0.out) | refine below_set ?_ GE335.out | refine below_set ?_ GE340.out | refine below_set ?_ GE345.out) | exact HB.out)))⟩; clear hw; clear HO_341001; clear HO_346000; clear BK335; clear BK340; clear BK345; clear HI0; clear HK; clear HB; have HO_341001 := n0_; have HO_346000 := n1_; have BK335 := n2_; have BK340 := n3_; have BK345 := n4_; have HI0 := n5_; have HK := n6_; have HB := n7_; clear n0_ n1_ n2_ n3_ n4_ n5_ n6_ n7_; have hnb47 := NB340_335.out; have hnc47 := NB335_340.out; have hnb48 := NB340_0.out; have hnc48 := NB0_340.out; have hcz49_0 : w46.cell? ⟨gb340, 0, none⟩ = some (.string t336) := (blk_cell BK340.out 0).trans rfl; have hcz49_1 : w46.cell? ⟨gb340, 1, none⟩ = some (u341001) := (blk_cell BK340.out 1).trans rfl; have hfz49_0 := blk_frozen BK340.out 0; have hfz49_1 := blk_frozen BK340.out 1; have hcz50_0 : w46.cell? ⟨gb345, 0, none⟩ = some (u346000) := (blk_cell BK345.out 0).trans rfl; have hcz50_1 : w46.cell? ⟨gb345, 1, none⟩ = some (.int .i64 t357) := (blk_cell BK345.out 1).trans rfl; have hcz50_2 : w46.cell? ⟨gb345, 2, none⟩ = some (.int .i64 t361) := (blk_cell BK345.out 2).trans rfl; have hcz50_3 : w46.cell? ⟨gb345, 3, none⟩ = some (.int .i64 t365) := (blk_cell BK345.out 3).trans rfl; have hfz50_0 := blk_frozen BK345.out 0; have hfz50_1 := blk_frozen BK345.out 1; have hfz50_2 := blk_frozen BK345.out 2; have hfz50_3 := blk_frozen BK345.out 3; obtain ⟨Ao52, co52, eo52⟩ := Kd.R_slice HO_346000.out; subst eo52) | ((with_reducible refine gate_builtin (b := .append) (xs := #[.tmp 58, .tmp 60]) rfl ?_); at_builtin; refine Kd.S_append k39 w.heap.size rfl (.tmp 58) (.tmp 60) 22 39 (.agg #[(.slice none 0 0), (.int .i64 0), (.int .i64 0), (.int .i64 0)]) 48 rfl Try.underlying22 info39 rfl (by decide) (by omega) u341001 x341001_1 (⟨x346000_3, t357, t361, t365⟩ : S39) [.slice Ao52 x346000_3.length co52, .int .i64 t357, .int .i64 t361, .int .i64 t365] (fun k_ => k_ ≠ gb345) (fun k_ => some k_ = (.slice Ao52 x346000_3.length co52 : Value).ownBlock) rfl rfl ?aP (fun k_ hk_ => ((Kd.R_mono (ok' := fun k_ => ((fun k_ => k_ ≠ gb345)) k_ ∧ some k_ ≠ (u341001 : Value).ownBlock) (Kd.R_types (Kd.R_apart' (HO_346000.out) (Kd.S_typed HO_341001.out) (by decide)) BK345.out (by decide)) (fun k_ hk => ⟨hk.2, hk.1.2⟩))).1 k_ hk_.symm) ?aF ?aO (Below.refl _ _) ?aS ?aL ?_; (case aP => exact k39_mkM _ _ _ (⟨x346000_3, t357, t361, t365⟩ : S39) (Kd.R_mono (Kd.R_tight rfl (Kd.R_mono (ok' := fun k_ => ((fun k_ => k_ ≠ gb345)) k_ ∧ some k_ ≠ (u341001 : Value).ownBlock) (Kd.R_types (Kd.R_apart' (HO_346000.out) (Kd.S_typed HO_341001.out) (by decide)) BK345.out (by decide)) (fun k_ hk => ⟨hk.2, hk.1.2⟩))) (fun _ h_ => h_))); (case aF => exact (fun k_ hk => Kd.freshB (g := gb345) (o := .cells #[.slice Ao52 x346000_3.length co52, .int .i64 t357, .int .i64 t361, .int .i64 t365] 39 (0, 0)) (by (with_reducible repeat (first | refine blk_drewN ?_ _ | refine blk_drew ?_ | refine blk_alloc ?_ _)); exact BK345.out) k_ hk)); (case aO => exact (by (with_reducible repeat (first | apply Kd.S_alloc | apply Kd.S_drewN | apply Kd.S_drew)); exact Kd.S_mono HO_341001.out (fun k_ hk => ⟨hk.2, fun e_ => hk.1 e_⟩))); (case aS => exact (keep_size (w := w) (g := g) (row := none) (by repeat (first | (with_reducible first | exact HK.out | apply KeepBut.set_ | apply keep_drewN | apply keep_drew | apply keep_alloc | refine keep_far ?_ GW335.out _ | refine keep_far ?_ GW340.out _ | refine keep_far ?_ GW345.out _) | exact HK.out)))); (case aL => have := LMc35.out; omega); intro v370 w51 ho hb hg hat; rw [← Ny369.out] at ho; have n0_ := Aside0.mk (blk_grown (g := gb335) (o := .cells #[.string (⟨#[]⟩ : ByteArray), .slice none 0 0] 24 (0, 0)) (by (with_reducible repeat (first | refine blk_drewN ?_ _ | refine blk_drew ?_ | refine blk_alloc ?_ _)); exact BK335.out) hg (Kd.S_ne HO_341001.out BK335.out (by decide))); have n1_ := Aside0.mk (blk_grown (g := gb340) (o := .cells #[.string t336, u341001] 24 (0, 0)) (by (with_reducible repeat (first | refine blk_drewN ?_ _ | refine blk_drew ?_ | refine blk_alloc ?_ _)); exact BK340.out) hg (Kd.S_ne HO_341001.out BK340.out (by decide))); have n2_ := Aside0.mk (blk_grown (g := gb345) (o := .cells #[.slice Ao52 x346000_3.length co52, .int .i64 t357, .int .i64 t361, .int .i64 t365] 39 (0, 0)) (by (with_reducible repeat (first | refine blk_drewN ?_ _ | refine blk_drew ?_ | refine blk_alloc ?_ _)); exact BK345.out) hg (Kd.S_away HO_341001.out (fun _ hk => hk.2))); have n3_ := Aside0.mk (IsS68.grown (by repeat (first | (with_reducible first | exact HI0.out | apply IsS68.alloc | apply IsS68.drewN | apply IsS68.drew | apply IsS68.set_0 | apply IsS68.set_1 | apply IsS68.set_2 | refine IsS68.far ?_ NB0_335.out _ | refine IsS68.far ?_ NB0_340.out _ | refine IsS68.far ?_ NB0_345.out _) | exact HI0.out)) hg (IsS68.own_neS HI0.out HO_341001.out (by decide))); have n4_ := Aside0.mk (below_weaken (by repeat (first | (with_reducible first | exact HB.out | apply below_alloc | apply pw_below_drewN | apply below_drew1 | refine below_set ?_ (IsS68.ge HI0.out) | refine below_set ?_ GE335.out | refine below_set ?_ GE340.out | refine below_set ?_ GE345.out) | exact HB.out)) HL.out hb); have n5_ := Aside0.mk (KeepBut.trans (by repeat (first | (with_reducible first | exact HK.out | apply KeepBut.set_ | apply keep_drewN | apply keep_drew | apply keep_alloc | refine keep_far ?_ GW335.out _ | refine keep_far ?_ GW340.out _ | refine keep_far ?_ GW345.out _) | exact HK.out)) (KeepBut.of_grown hg g) (Kd.S_base2 HO_341001.out)); have n6_ := Aside0.mk (ho); clear BK335; clear BK340; clear BK345; clear HI0; clear HB; clear HK; clear HO_341001; clear HO_346000; have BK335 := n0_; have BK340 := n1_; have BK345 := n2_; have HI0 := n3_; have HB := n4_; have HK := n5_; have HO371 := n6_; clear n0_ n1_ n2_ n3_ n4_ n5_ n6_; clear ho hb hg hat; obtain ⟨Ao53, co53, eo53⟩ := Kd.S_slice HO371.out; subst eo53; have hcz54_0 : w51.cell? ⟨gb340, 0, none⟩ = some (.string t336) := (blk_cell BK340.out 0).trans rfl; have hcz54_1 : w51.cell? ⟨gb340, 1, none⟩ = some (u341001) := (blk_cell BK340.out 1).trans rfl; have hfz54_0 := blk_frozen BK340.out 0; have hfz54_1 := blk_frozen BK340.out 1))
                      go_roundg k3
                      case measure => have := HK1.out; have := HJ10.out; have := HK3.out; omega
                      case rel => exact ⟨(wrap64 (x5_1 + 1)), (t366), (t367), (t368), (y369), (.slice Ao53 y369.length co53), (by first | rfl | (simp; done) | (simp [*]; done)), H', ⟨by have := HK1.out; have := HJ10.out; have := HK3.out; omega⟩, ⟨by (with_reducible repeat (first | apply Kd.S_alloc | apply Kd.S_drewN | apply Kd.S_drew)); exact Kd.S_mono (Kd.S_far (p := ⟨gb340, 1, none⟩) (Kd.S_types HO371.out BK340.out (by decide)) (fun _ hk => hk.2) (.slice Ao53 y369.length co53)) (fun _ hk => trivial)⟩, ⟨by (with_reducible repeat (first | refine blk_drewN ?_ _ | refine blk_drew ?_ | refine blk_alloc ?_ _)); refine blk_far ?_ NB335_340.out _; (with_reducible repeat (first | refine blk_drewN ?_ _ | refine blk_drew ?_ | refine blk_alloc ?_ _)); exact BK335.out⟩, ⟨by (with_reducible repeat (first | refine blk_drewN ?_ _ | refine blk_drew ?_ | refine blk_alloc ?_ _)); refine blk_put (cs := #[.string t336, u341001]) ?_ 1 _ rfl; (with_reducible repeat (first | refine blk_drewN ?_ _ | refine blk_drew ?_ | refine blk_alloc ?_ _)); exact BK340.out⟩, ⟨by repeat (first | (with_reducible first | exact HI0.out | apply IsS68.alloc | apply IsS68.drewN | apply IsS68.drew | apply IsS68.set_0 | apply IsS68.set_1 | apply IsS68.set_2 | refine IsS68.far ?_ NB0_335.out _ | refine IsS68.far ?_ NB0_340.out _ | refine IsS68.far ?_ NB0_345.out _) | exact HI0.out)⟩, ⟨by repeat (first | (with_reducible first | exact HK.out | apply KeepBut.set_ | apply keep_drewN | apply keep_drew | apply keep_alloc | refine keep_far ?_ GW335.out _ | refine keep_far ?_ GW340.out _ | refine keep_far ?_ GW345.out _) | exact HK.out)⟩, ⟨by repeat (first | (with_reducible first | exact HB.out | apply below_alloc | apply pw_below_drewN | apply below_drew1 | refine below_set ?_ (IsS68.ge HI0.out) | refine below_set ?_ GE335.out | refine below_set ?_ GE340.out | refine below_set ?_ GE345.out) | exact HB.out)⟩⟩
                    · rw [if_neg c35] at H
                      exact absurd H (by simp)
                · rw [if_neg c22] at H
                  have c22b0 : decide (x8_3 < t346) = false := decide_eq_false c22
                  clear c22
                  replace H := Option.bind_eq_some_iff.mp H
                  obtain ⟨⟨t372, t373, t374, t375⟩, A550, H⟩ := H
                  replace H : ((peneloperef16_R_Next.f k3 t373 t374 t375 3).bind fun bt376 => ((peneloperef16_R_Next.f k3 bt376.2.1 bt376.2.2.1 bt376.2.2.2 3).bind fun bt380 => (if x341001_1.length < 2932031007402 then (peneloperef16_R_Read.l0 k3 t341 (wrap64 (x5_1 + 1)) bt380.2.1 bt380.2.2.1 bt380.2.2.2 t336 (x341001_1 ++ [(⟨x346000_3, t372, bt376.1, bt380.1⟩ : S39)])) else (none)))) = some (r1, r2, r3, r4, r5) := H
                  have A55 := Aside0.mk A550
                  clear A550
                  replace H := Option.bind_eq_some_iff.mp H
                  obtain ⟨⟨t376, t377, t378, t379⟩, A560, H⟩ := H
                  replace H : ((peneloperef16_R_Next.f k3 t377 t378 t379 3).bind fun bt380 => (if x341001_1.length < 2932031007402 then (peneloperef16_R_Read.l0 k3 t341 (wrap64 (x5_1 + 1)) bt380.2.1 bt380.2.2.1 bt380.2.2.2 t336 (x341001_1 ++ [(⟨x346000_3, t372, t376, bt380.1⟩ : S39)])) else (none))) = some (r1, r2, r3, r4, r5) := H
                  have A56 := Aside0.mk A560
                  clear A560
                  replace H := Option.bind_eq_some_iff.mp H
                  obtain ⟨⟨t380, t381, t382, t383⟩, A570, H⟩ := H
                  replace H : (if x341001_1.length < 2932031007402 then (peneloperef16_R_Read.l0 k3 t341 (wrap64 (x5_1 + 1)) t381 t382 t383 t336 (x341001_1 ++ [(⟨x346000_3, t372, t376, t380⟩ : S39)])) else (none)) = some (r1, r2, r3, r4, r5) := H
                  have A57 := Aside0.mk A570
                  clear A570
                  by_cases c58 : x341001_1.length < 2932031007402
                  · rw [if_pos c58] at H
                    have LMc58 := Aside0.mk c58
                    clear c58
                    obtain ⟨y384, hy384⟩ : ∃ y_ : List (S39), y_ = (x341001_1 ++ [(⟨x346000_3, t372, t376, t380⟩ : S39)]) := ⟨_, rfl⟩
                    replace H : (peneloperef16_R_Read.l0 k3 t341 (wrap64 (x5_1 + 1)) t381 t382 t383 t336 y384) = some (r1, r2, r3, r4, r5) := by first | (rw [hy384]; with_reducible exact H) | (have H2_ := (Option.bind_some _ _).symm.trans H; rw [hy384]; with_reducible exact H2_) | (have H2_ := (Option.bind_some _ _).symm.trans H; with_reducible exact H2_) | with_reducible exact H | (rw [hy384]; exact H) | exact H
                    have Ny384 := Aside0.mk hy384
                    clear hy384
                    have H' := Aside0.mk H
                    clear H
                    go_wp2_with (first | ((with_reducible refine gate_callee (f := 46) rfl ?_); refine goesL_ (some 49) rfl rfl Try.func46 (by kernel_rfl) rfl #[.pointer (some ⟨g, 0, none⟩), .int .i64 1] rfl (by (try simp only [List.map_toArray, List.map_cons, List.map_nil]); first | done | rfl | (simp only [List.length_drop, List.length_take]; rfl)) ?_; (with_reducible refine (peneloperef16_R_Next.calls k3 g x1000_3 x1001_3 x1002_3 1 t372 t373 t374 t375 w0 _ ?side1 ?side2 A55.out).mono ?_); (case side1 => repeat (first | (with_reducible first | exact HI0.out | apply IsS68.alloc | apply IsS68.drewN | apply IsS68.drew | apply IsS68.set_0 | apply IsS68.set_1 | apply IsS68.set_2 | refine IsS68.far ?_ NB0_335.out _ | refine IsS68.far ?_ NB0_340.out _ | refine IsS68.far ?_ NB0_345.out _) | exact HI0.out)); (case side2 => repeat (first | (with_reducible first | exact HB.out | apply below_alloc | apply pw_below_drewN | apply below_drew1 | refine below_set ?_ (IsS68.ge HI0.out) | refine below_set ?_ GE335.out | refine below_set ?_ GE340.out | refine below_set ?_ GE345.out) | exact HB.out)); rintro e w59 ⟨rfl, hi, hb, hk⟩; refine ⟨_, rfl, ?_⟩; have n0_ := Aside0.mk (Kd.S_mono (Kd.S_keep (IsS68.apartS (show IsS68 w0 _ g x1000_3 x1001_3 x1002_3 from by repeat (first | (with_reducible first | exact HI0.out | apply IsS68.alloc | apply IsS68.drewN | apply IsS68.drew | apply IsS68.set_0 | apply IsS68.set_1 | apply IsS68.set_2 | refine IsS68.far ?_ NB0_335.out _ | refine IsS68.far ?_ NB0_340.out _ | refine IsS68.far ?_ NB0_345.out _) | exact HI0.out)) (by (with_reducible repeat (first | apply Kd.S_alloc | apply Kd.S_drewN | apply Kd.S_drew)); exact HO_341001.out) (by decide)) hk (fun _ h => h.2)) (fun _ h => h.1)); have n1_ := Aside0.mk (Kd.R_mono (Kd.R_keep (IsS68.apart (show IsS68 w0 _ g x1000_3 x1001_3 x1002_3 from by repeat (first | (with_reducible first | exact HI0.out | apply IsS68.alloc | apply IsS68.drewN | apply IsS68.drew | apply IsS68.set_0 | apply IsS68.set_1 | apply IsS68.set_2 | refine IsS68.far ?_ NB0_335.out _ | refine IsS68.far ?_ NB0_340.out _ | refine IsS68.far ?_ NB0_345.out _) | exact HI0.out)) (by (with_reducible repeat (first | apply Kd.R_alloc | apply Kd.R_drewN | apply Kd.R_drew)); exact HO_346000.out) (by decide)) hk (fun _ h => h.2)) (fun _ h => h.1)); have n2_ := Aside0.mk (KeepBut.blk hk (g' := gb335) (o := .cells #[.string (⟨#[]⟩ : ByteArray), .slice none 0 0] 24 (0, 0)) (by (with_reducible repeat (first | refine blk_drewN ?_ _ | refine blk_drew ?_ | refine blk_alloc ?_ _)); exact BK335.out) NB335_0.out (by simp)); have n3_ := Aside0.mk (KeepBut.blk hk (g' := gb340) (o := .cells #[.string t336, u341001] 24 (0, 0)) (by (with_reducible repeat (first | refine blk_drewN ?_ _ | refine blk_drew ?_ | refine blk_alloc ?_ _)); exact BK340.out) NB340_0.out (by simp)); have n4_ := Aside0.mk (KeepBut.blk hk (g' := gb345) (o := .cells #[u346000, .int .i64 0, .int .i64 0, .int .i64 0] 39 (0, 0)) (by (with_reducible repeat (first | refine blk_drewN ?_ _ | refine blk_drew ?_ | refine blk_alloc ?_ _)); exact BK345.out) NB345_0.out (by simp)); have n5_ := Aside0.mk (KeepBut.trans (by repeat (first | (with_reducible first | exact HK.out | apply KeepBut.set_ | apply keep_drewN | apply keep_drew | apply keep_alloc | refine keep_far ?_ GW335.out _ | refine keep_far ?_ GW340.out _ | refine keep_far ?_ GW345.out _) | exact HK.out)) hk (.inl rfl)); have n6_ := Aside0.mk (hb); have n7_ := Aside0.mk (hi); clear HO_341001; clear HO_346000; clear BK335; clear BK340; clear BK345; clear HK; clear HB; clear HI0; have HO_341001 := n0_; have HO_346000 := n1_; have BK335 := n2_; have BK340 := n3_; have BK345 := n4_; have HK := n5_; have HB := n6_; have HI0 := n7_; clear n0_ n1_ n2_ n3_ n4_ n5_ n6_ n7_; (try clear hb); (try clear hb2); (try clear hk); (try clear hi); have hnb60 := NB345_335.out; have hnc60 := NB335_345.out; have hnb61 := NB345_340.out; have hnc61 := NB340_345.out; have hnb62 := NB345_0.out; have hnc62 := NB0_345.out; have hcz63_0 : w59.cell? ⟨gb345, 0, none⟩ = some (u346000) := (blk_cell BK345.out 0).trans rfl; have hcz63_1 : w59.cell? ⟨gb345, 1, none⟩ = some (.int .i64 0) := (blk_cell BK345.out 1).trans rfl; have hcz63_2 : w59.cell? ⟨gb345, 2, none⟩ = some (.int .i64 0) := (blk_cell BK345.out 2).trans rfl; have hcz63_3 : w59.cell? ⟨gb345, 3, none⟩ = some (.int .i64 0) := (blk_cell BK345.out 3).trans rfl; have hfz63_0 := blk_frozen BK345.out 0; have hfz63_1 := blk_frozen BK345.out 1; have hfz63_2 := blk_frozen BK345.out 2; have hfz63_3 := blk_frozen BK345.out 3) | ((with_reducible refine gate_callee (f := 46) rfl ?_); refine goesL_ (some 52) rfl rfl Try.func46 (by kernel_rfl) rfl #[.pointer (some ⟨g, 0, none⟩), .int .i64 3] rfl (by (try simp only [List.map_toArray, List.map_cons, List.map_nil]); first | done | rfl | (simp only [List.length_drop, List.length_take]; rfl)) ?_; (with_reducible refine (peneloperef16_R_Next.calls k3 g t373 t374 t375 3 t376 t377 t378 t379 w0 _ ?side1 ?side2 A56.out).mono ?_); (case side1 => repeat (first | (with_reducible first | exact HI0.out | apply IsS68.alloc | apply IsS68.drewN | apply IsS68.drew | apply IsS68.set_0 | apply IsS68.set_1 | apply IsS68.set_2 | refine IsS68.far ?_ NB0_335.out _ | refine IsS68.far ?_ NB0_340.out _ | refine IsS68.far ?_ NB0_345.out _) | exact HI0.out)); (case side2 => repeat (first | (with_reducible first | exact HB.out | apply below_alloc | apply pw_below_drewN | apply below_drew1 | refine below_set ?_ (IsS68.ge HI0.out) | refine below_set ?_ GE335.out | refine below_set ?_ GE340.out | refine below_set ?_ GE345.out) | exact HB.out)); rintro e w64 ⟨rfl, hi, hb, hk⟩; refine ⟨_, rfl, ?_⟩; have n0_ := Aside0.mk (Kd.S_mono (Kd.S_keep (IsS68.apartS (show IsS68 w0 _ g t373 t374 t375 from by repeat (first | (with_reducible first | exact HI0.out | apply IsS68.alloc | apply IsS68.drewN | apply IsS68.drew | apply IsS68.set_0 | apply IsS68.set_1 | apply IsS68.set_2 | refine IsS68.far ?_ NB0_335.out _ | refine IsS68.far ?_ NB0_340.out _ | refine IsS68.far ?_ NB0_345.out _) | exact HI0.out)) (by (with_reducible repeat (first | apply Kd.S_alloc | apply Kd.S_drewN | apply Kd.S_drew)); exact (Kd.S_mono (Kd.S_far (p := ⟨gb345, 1, none⟩) (Kd.S_mono HO_341001.out (fun k_ hk => (⟨hk, hk.2⟩ : _ ∧ k_ ≠ gb345))) (fun _ hk => hk.2) (.int .i64 t372)) (fun _ h_ => h_.1))) (by decide)) hk (fun _ h => h.2)) (fun _ h => h.1)); have n1_ := Aside0.mk (Kd.R_mono (Kd.R_keep (IsS68.apart (show IsS68 w0 _ g t373 t374 t375 from by repeat (first | (with_reducible first | exact HI0.out | apply IsS68.alloc | apply IsS68.drewN | apply IsS68.drew | apply IsS68.set_0 | apply IsS68.set_1 | apply IsS68.set_2 | refine IsS68.far ?_ NB0_335.out _ | refine IsS68.far ?_ NB0_340.out _ | refine IsS68.far ?_ NB0_345.out _) | exact HI0.out)) (by (with_reducible repeat (first | apply Kd.R_alloc | apply Kd.R_drewN | apply Kd.R_drew)); exact (Kd.R_mono (Kd.R_far (p := ⟨gb345, 1, none⟩) (Kd.R_types HO_346000.out BK345.out (by decide)) (fun _ hk => hk.2) (.int .i64 t372)) (fun _ h_ => h_.1))) (by decide)) hk (fun _ h => h.2)) (fun _ h => h.1)); have n2_ := Aside0.mk (KeepBut.blk hk (g' := gb335) (o := .cells #[.string (⟨#[]⟩ : ByteArray), .slice none 0 0] 24 (0, 0)) (by (with_reducible repeat (first | refine blk_drewN ?_ _ | refine blk_drew ?_ | refine blk_alloc ?_ _)); refine blk_far ?_ NB335_345.out _; (with_reducible repeat (first | refine blk_drewN ?_ _ | refine blk_drew ?_ | refine blk_alloc ?_ _)); exact BK335.out) NB335_0.out (by simp)); have n3_ := Aside0.mk (KeepBut.blk hk (g' := gb340) (o := .cells #[.string t336, u341001] 24 (0, 0)) (by (with_reducible repeat (first | refine blk_drewN ?_ _ | refine blk_drew ?_ | refine blk_alloc ?_ _)); refine blk_far ?_ NB340_345.out _; (with_reducible repeat (first | refine blk_drewN ?_ _ | refine blk_drew ?_ | refine blk_alloc ?_ _)); exact BK340.out) NB340_0.out (by simp)); have n4_ := Aside0.mk (KeepBut.blk hk (g' := gb345) (o := .cells #[u346000, .int .i64 t372, .int .i64 0, .int .i64 0] 39 (0, 0)) (by (with_reducible repeat (first | refine blk_drewN ?_ _ | refine blk_drew ?_ | refine blk_alloc ?_ _)); refine blk_put (cs := #[u346000, .int .i64 0, .int .i64 0, .int .i64 0]) ?_ 1 _ rfl; (with_reducible repeat (first | refine blk_drewN ?_ _ | refine blk_drew ?_ | refine blk_alloc ?_ _)); exact BK345.out) NB345_0.out (by simp)); have n5_ := Aside0.mk (KeepBut.trans (by repeat (first | (with_reducible first | exact HK.out | apply KeepBut.set_ | apply keep_drewN | apply keep_drew | apply keep_alloc | refine keep_far ?_ GW335.out _ | refine keep_far ?_ GW340.out _ | refine keep_far ?_ GW345.out _) | exact HK.out)) hk (.inl rfl)); have n6_ := Aside0.mk (hb); have n7_ := Aside0.mk (hi); clear HO_341001; clear HO_346000; clear BK335; clear BK340; clear BK345; clear HK; clear HB; clear HI0; have HO_341001 := n0_; have HO_346000 := n1_; have BK335 := n2_; have BK340 := n3_; have BK345 := n4_; have HK := n5_; have HB := n6_; have HI0 := n7_; clear n0_ n1_ n2_ n3_ n4_ n5_ n6_ n7_; (try clear hb); (try clear hb2); (try clear hk); (try clear hi); have hcz65_0 : w64.cell? ⟨gb345, 0, none⟩ = some (u346000) := (blk_cell BK345.out 0).trans rfl; have hcz65_1 : w64.cell? ⟨gb345, 1, none⟩ = some (.int .i64 t372) := (blk_cell BK345.out 1).trans rfl; have hcz65_2 : w64.cell? ⟨gb345, 2, none⟩ = some (.int .i64 0) := (blk_cell BK345.out 2).trans rfl; have hcz65_3 : w64.cell? ⟨gb345, 3, none⟩ = some (.int .i64 0) := (blk_cell BK345.out 3).trans rfl; have hfz65_0 := blk_frozen BK345.out 0; have hfz65_1 := blk_frozen BK345.out 1; have hfz65_2 := blk_frozen BK345.out 2; have hfz65_3 := blk_frozen BK345.out 3) | ((with_reducible refine gate_callee (f := 46) rfl ?_); refine goesL_ (some 55) rfl rfl Try.func46 (by kernel_rfl) rfl #[.pointer (some ⟨g, 0, none⟩), .int .i64 3] rfl (by (try simp only [List.map_toArray, List.map_cons, List.map_nil]); first | done | rfl | (simp only [List.length_drop, List.length_take]; rfl)) ?_; (with_reducible refine (peneloperef16_R_Next.calls k3 g t377 t378 t379 3 t380 t381 t382 t383 w0 _ ?side1 ?side2 A57.out).mono ?_); (case side1 => repeat (first | (with_reducible first | exact HI0.out | apply IsS68.alloc | apply IsS68.drewN | apply IsS68.drew | apply IsS68.set_0 | apply IsS68.set_1 | apply IsS68.set_2 | refine IsS68.far ?_ NB0_335.out _ | refine IsS68.far ?_ NB0_340.out _ | refine IsS68.far ?_ NB0_345.out _) | exact HI0.out)); (case side2 => repeat (first | (with_reducible first | exact HB.out | apply below_alloc | apply pw_below_drewN | apply below_drew1 | refine below_set ?_ (IsS68.ge HI0.out) | refine below_set ?_ GE335.out | refine below_set ?_ GE340.out | refine below_set ?_ GE345.out) | exact HB.out)); rintro e w66 ⟨rfl, hi, hb, hk⟩; refine ⟨_, rfl, ?_⟩; have n0_ := Aside0.mk (Kd.S_mono (Kd.S_keep (IsS68.apartS (show IsS68 w0 _ g t377 t378 t379 from by repeat (first | (with_reducible first | exact HI0.out | apply IsS68.alloc | apply IsS68.drewN | apply IsS68.drew | apply IsS68.set_0 | apply IsS68.set_1 | apply IsS68.set_2 | refine IsS68.far ?_ NB0_335.out _ | refine IsS68.far ?_ NB0_340.out _ | refine IsS68.far ?_ NB0_345.out _) | exact HI0.out)) (by (with_reducible repeat (first | apply Kd.S_alloc | apply Kd.S_drewN | apply Kd.S_drew)); exact (Kd.S_mono (Kd.S_far (p := ⟨gb345, 2, none⟩) (Kd.S_mono HO_341001.out (fun k_ hk => (⟨hk, hk.2⟩ : _ ∧ k_ ≠ gb345))) (fun _ hk => hk.2) (.int .i64 t376)) (fun _ h_ => h_.1))) (by decide)) hk (fun _ h => h.2)) (fun _ h => h.1)); have n1_ := Aside0.mk (Kd.R_mono (Kd.R_keep (IsS68.apart (show IsS68 w0 _ g t377 t378 t379 from by repeat (first | (with_reducible first | exact HI0.out | apply IsS68.alloc | apply IsS68.drewN | apply IsS68.drew | apply IsS68.set_0 | apply IsS68.set_1 | apply IsS68.set_2 | refine IsS68.far ?_ NB0_335.out _ | refine IsS68.far ?_ NB0_340.out _ | refine IsS68.far ?_ NB0_345.out _) | exact HI0.out)) (by (with_reducible repeat (first | apply Kd.R_alloc | apply Kd.R_drewN | apply Kd.R_drew)); exact (Kd.R_mono (Kd.R_far (p := ⟨gb345, 2, none⟩) (Kd.R_types HO_346000.out BK345.out (by decide)) (fun _ hk => hk.2) (.int .i64 t376)) (fun _ h_ => h_.1))) (by decide)) hk (fun _ h => h.2)) (fun _ h => h.1)); have n2_ := Aside0.mk (KeepBut.blk hk (g' := gb335) (o := .cells #[.string (⟨#[]⟩ : ByteArray), .slice none 0 0] 24 (0, 0)) (by (with_reducible repeat (first | refine blk_drewN ?_ _ | refine blk_drew ?_ | refine blk_alloc ?_ _)); refine blk_far ?_ NB335_345.out _; (with_reducible repeat (first | refine blk_drewN ?_ _ | refine blk_drew ?_ | refine blk_alloc ?_ _)); exact BK335.out) NB335_0.out (by simp)); have n3_ := Aside0.mk (KeepBut.blk hk (g' := gb340) (o := .cells #[.string t336, u341001] 24 (0, 0)) (by (with_reducible repeat (first | refine blk_drewN ?_ _ | refine blk_drew ?_ | refine blk_alloc ?_ _)); refine blk_far ?_ NB340_345.out _; (with_reducible repeat (first | refine blk_drewN ?_ _ | refine blk_drew ?_ | refine blk_alloc ?_ _)); exact BK340.out) NB340_0.out (by simp)); have n4_ := Aside0.mk (KeepBut.blk hk (g' := gb345) (o := .cells #[u346000, .int .i64 t372, .int .i64 t376, .int .i64 0] 39 (0, 0)) (by (with_reducible repeat (first | refine blk_drewN ?_ _ | refine blk_drew ?_ | refine blk_alloc ?_ _)); refine blk_put (cs := #[u346000, .int .i64 t372, .int .i64 0, .int .i64 0]) ?_ 2 _ rfl; (with_reducible repeat (first | refine blk_drewN ?_ _ | refine blk_drew ?_ | refine blk_alloc ?_ _)); exact BK345.out) NB345_0.out (by simp)); have n5_ := Aside0.mk (KeepBut.trans (by repeat (first | (with_reducible first | exact HK.out | apply KeepBut.set_ | apply keep_drewN | apply keep_drew | apply keep_alloc | refine keep_far ?_ GW335.out _ | refine keep_far ?_ GW340.out _ | refine keep_far ?_ GW345.out _) | exact HK.out)) hk (.inl rfl)); have n6_ := Aside0.mk (hb); have n7_ := Aside0.mk (hi); clear HO_341001; clear HO_346000; clear BK335; clear BK340; clear BK345; clear HK; clear HB; clear HI0; have HO_341001 := n0_; have HO_346000 := n1_; have BK335 := n2_; have BK340 := n3_; have BK345 := n4_; have HK := n5_; have HB := n6_; have HI0 := n7_; clear n0_ n1_ n2_ n3_ n4_ n5_ n6_ n7_; (try clear hb); (try clear hb2); (try clear hk); (try clear hi); have hcz67_0 : w66.cell? ⟨gb345, 0, none⟩ = some (u346000) := (blk_cell BK345.out 0).trans rfl; have hcz67_1 : w66.cell? ⟨gb345, 1, none⟩ = some (.int .i64 t372) := (blk_cell BK345.out 1).trans rfl; have hcz67_2 : w66.cell? ⟨gb345, 2, none⟩ = some (.int .i64 t376) := (blk_cell BK345.out 2).trans rfl; have hcz67_3 : w66.cell? ⟨gb345, 3, none⟩ = some (.int .i64 0) := (blk_cell BK345.out 3).trans rfl; have hfz67_0 := blk_frozen BK345.out 0; have hfz67_1 := blk_frozen BK345.out 1; have hfz67_2 := blk_frozen BK345.out 2; have hfz67_3 := blk_frozen BK345.out 3) | ((with_reducible refine gate_store (t := 3) (p := 56) rfl ?_); refine store_event (t := 3) (p := 56) (v := ?vo_w68) (w1 := (w66.setCell ⟨gb345, 3, none⟩ (.int .i64 t380))) ?hg ?ho ?hn ?hr ?_; (case ho => rfl); (case hg => rfl); (case hn => rfl); (case hr => first | (go_simp; done) | (go_simp; rfl)); intro w68 hw; have n0_ : Aside0 (Kd.S k39 39 w68 w.heap.size (fun k_ => some k_ ≠ (u346000 : Value).ownBlock ∧ k_ ≠ gb345) u341001 x341001_1) := ⟨(by rw [hw]; exact (by (with_reducible repeat (first | apply Kd.S_alloc | apply Kd.S_drewN | apply Kd.S_drew)); exact Kd.S_mono (Kd.S_far (p := ⟨gb345, 3, none⟩) (Kd.S_mono HO_341001.out (fun k_ hk => (⟨hk, hk.2⟩ : _ ∧ k_ ≠ gb345))) (fun _ hk => hk.2) (.int .i64 t380)) (fun _ hk => ⟨hk.1.1, hk.1.2⟩)))⟩; have n1_ : Aside0 (Kd.R (Kd.int .i64) 3 w68 w.heap.size (fun _ => True) u346000 x346000_3) := ⟨(by rw [hw]; exact (by (with_reducible repeat (first | apply Kd.R_alloc | apply Kd.R_drewN | apply Kd.R_drew)); exact Kd.R_mono (Kd.R_far (p := ⟨gb345, 3, none⟩) (Kd.R_types HO_346000.out BK345.out (by decide)) (fun _ hk => hk.2) (.int .i64 t380)) (fun _ hk => trivial)))⟩; have n2_ : Aside0 (w68.heap[gb335]? = some (.cells #[.string (⟨#[]⟩ : ByteArray), .slice none 0 0] 24 (0, 0))) := ⟨(by rw [hw]; exact (by (with_reducible repeat (first | refine blk_drewN ?_ _ | refine blk_drew ?_ | refine blk_alloc ?_ _)); refine blk_far ?_ NB335_345.out _; (with_reducible repeat (first | refine blk_drewN ?_ _ | refine blk_drew ?_ | refine blk_alloc ?_ _)); exact BK335.out))⟩; have n3_ : Aside0 (w68.heap[gb340]? = some (.cells #[.string t336, u341001] 24 (0, 0))) := ⟨(by rw [hw]; exact (by (with_reducible repeat (first | refine blk_drewN ?_ _ | refine blk_drew ?_ | refine blk_alloc ?_ _)); refine blk_far ?_ NB340_345.out _; (with_reducible repeat (first | refine blk_drewN ?_ _ | refine blk_drew ?_ | refine blk_alloc ?_ _)); exact BK340.out))⟩; have n4_ : Aside0 (w68.heap[gb345]? = some (.cells #[u346000, .int .i64 t372, .int .i64 t376, .int .i64 t380] 39 (0, 0))) := ⟨(by rw [hw]; exact (by (with_reducible repeat (first | refine blk_drewN ?_ _ | refine blk_drew ?_ | refine blk_alloc ?_ _)); refine blk_put (cs := #[u346000, .int .i64 t372, .int .i64 t376, .int .i64 0]) ?_ 3 _ rfl; (with_reducible repeat (first | refine blk_drewN ?_ _ | refine blk_drew ?_ | refine blk_alloc ?_ _)); exact BK345.out))⟩; have n5_ : Aside0 (IsS68 w0 w68 g t381 t382 t383) := ⟨(by rw [hw]; exact (by repeat (first | (with_reducible first | exact HI0.out | apply IsS68.alloc | apply IsS68.drewN | apply IsS68.drew | apply IsS68.set_0 | apply IsS68.set_1 | apply IsS68.set_2 | refine IsS68.far ?_ NB0_335.out _ | refine IsS68.far ?_ NB0_340.out _ | refine IsS68.far ?_ NB0_345.out _) | exact HI0.out)))⟩; have n6_ : Aside0 (KeepBut w w68 g none) := ⟨(by rw [hw]; exact (by repeat (first | (with_reducible first | exact HK.out | apply KeepBut.set_ | apply keep_drewN | apply keep_drew | apply keep_alloc | refine keep_far ?_ GW335.out _ | refine keep_far ?_ GW340.out _ | refine keep_far ?_ GW345.out _) | exact HK.out)))⟩; have n7_ : Aside0 (Below w0.heap.size w0 w68) := ⟨(by rw [hw]; exact (by repeat (first | (with_reducible first | exact HB.out | apply below_alloc | apply pw_below_drewN | apply below_drew1 | refine below_set ?_ (IsS68.ge HI0.out) | refine below_set ?_ GE335.out | refine below_set ?_ GE340.out | refine below_set ?_ GE345.out) | exact HB.out)))⟩; clear hw; clear HO_341001; clear HO_346000; clear BK335; clear BK340; clear BK345; clear HI0; clear HK; clear HB; have HO_341001 := n0_; have HO_346000 := n1_; have BK335 := n2_; have BK340 := n3_; have BK345 := n4_; have HI0 := n5_; have HK := n6_; have HB := n7_; clear n0_ n1_ n2_ n3_ n4_ n5_ n6_ n7_; have hnb69 := NB340_335.out; have hnc69 := NB335_340.out; have hnb70 := NB340_0.out; have hnc70 := NB0_340.out; have hcz71_0 : w68.cell? ⟨gb340, 0, none⟩ = some (.string t336) := (blk_cell BK340.out 0).trans rfl; have hcz71_1 : w68.cell? ⟨gb340, 1, none⟩ = some (u341001) := (blk_cell BK340.out 1).trans rfl; have hfz71_0 := blk_frozen BK340.out 0; have hfz71_1 := blk_frozen BK340.out 1; have hcz72_0 : w68.cell? ⟨gb345, 0, none⟩ = some (u346000) := (blk_cell BK345.out 0).trans rfl; have hcz72_1 : w68.cell? ⟨gb345, 1, none⟩ = some (.int .i64 t372) := (blk_cell BK345.out 1).trans rfl; have hcz72_2 : w68.cell? ⟨gb345, 2, none⟩ = some (.int .i64 t376) := (blk_cell BK345.out 2).trans rfl; have hcz72_3 : w68.cell? ⟨gb345, 3, none⟩ = some (.int .i64 t380) := (blk_cell BK345.out 3).trans rfl; have hfz72_0 := blk_frozen BK345.out 0; have hfz72_1 := blk_frozen BK345.out 1; have hfz72_2 := blk_frozen BK345.out 2; have hfz72_3 := blk_frozen BK345.out 3; obtain ⟨Ao74, co74, eo74⟩ := Kd.R_slice HO_346000.out; subst eo74) | ((with_reducible refine gate_builtin (b := .append) (xs := #[.tmp 58, .tmp 60]) rfl ?_); at_builtin; refine Kd.S_append k39 w.heap.size rfl (.tmp 58) (.tmp 60) 22 39 (.agg #[(.slice none 0 0), (.int .i64 0), (.int .i64 0), (.int .i64 0)]) 48 rfl Try.underlying22 info39 rfl (by decide) (by omega) u341001 x341001_1 (⟨x346000_3, t372, t376, t380⟩ : S39) [.slice Ao74 x346000_3.length co74, .int .i64 t372, .int .i64 t376, .int .i64 t380] (fun k_ => k_ ≠ gb345) (fun k_ => some k_ = (.slice Ao74 x346000_3.length co74 : Value).ownBlock) rfl rfl ?aP (fun k_ hk_ => ((Kd.R_mono (ok' := fun k_ => ((fun k_ => k_ ≠ gb345)) k_ ∧ some k_ ≠ (u341001 : Value).ownBlock) (Kd.R_types (Kd.R_apart' (HO_346000.out) (Kd.S_typed HO_341001.out) (by decide)) BK345.out (by decide)) (fun k_ hk => ⟨hk.2, hk.1.2⟩))).1 k_ hk_.symm) ?aF ?aO (Below.refl _ _) ?aS ?aL ?_; (case aP => exact k39_mkM _ _ _ (⟨x346000_3, t372, t376, t380⟩ : S39) (Kd.R_mono (Kd.R_tight rfl (Kd.R_mono (ok' := fun k_ => ((fun k_ => k_ ≠ gb345)) k_ ∧ some k_ ≠ (u341001 : Value).ownBlock) (Kd.R_types (Kd.R_apart' (HO_346000.out) (Kd.S_typed HO_341001.out) (by decide)) BK345.out (by decide)) (fun k_ hk => ⟨hk.2, hk.1.2⟩))) (fun _ h_ => h_))); (case aF => exact (fun k_ hk => Kd.freshB (g := gb345) (o := .cells #[.slice Ao74 x346000_3.length co74, .int .i64 t372, .int .i64 t376, .int .i64 t380] 39 (0, 0)) (by (with_reducible repeat (first | refine blk_drewN ?_ _ | refine blk_drew ?_ | refine blk_alloc ?_ _)); exact BK345.out) k_ hk)); (case aO => exact (by (with_reducible repeat (first | apply Kd.S_alloc | apply Kd.S_drewN | apply Kd.S_drew)); exact Kd.S_mono HO_341001.out (fun k_ hk => ⟨hk.2, fun e_ => hk.1 e_⟩))); (case aS => exact (keep_size (w := w) (g := g) (row := none) (by repeat (first | (with_reducible first | exact HK.out | apply KeepBut.set_ | apply keep_drewN | apply keep_drew | apply keep_alloc | refine keep_far ?_ GW335.out _ | refine keep_far ?_ GW340.out _ | refine keep_far ?_ GW345.out _) | exact HK.out)))); (case aL => have := LMc58.out; omega); intro v385 w73 ho hb hg hat; rw [← Ny384.out] at ho; have n0_ := Aside0.mk (blk_grown (g := gb335) (o := .cells #[.string (⟨#[]⟩ : ByteArray), .slice none 0 0] 24 (0, 0)) (by (with_reducible repeat (first | refine blk_drewN ?_ _ | refine blk_drew ?_ | refine blk_alloc ?_ _)); exact BK335.out) hg (Kd.S_ne HO_341001.out BK335.out (by decide))); have n1_ := Aside0.mk (blk_grown (g := gb340) (o := .cells #[.string t336, u341001] 24 (0, 0)) (by (with_reducible repeat (first | refine blk_drewN ?_ _ | refine blk_drew ?_ | refine blk_alloc ?_ _)); exact BK340.out) hg (Kd.S_ne HO_341001.out BK340.out (by decide))); have n2_ := Aside0.mk (blk_grown (g := gb345) (o := .cells #[.slice Ao74 x346000_3.length co74, .int .i64 t372, .int .i64 t376, .int .i64 t380] 39 (0, 0)) (by (with_reducible repeat (first | refine blk_drewN ?_ _ | refine blk_drew ?_ | refine blk_alloc ?_ _)); exact BK345.out) hg (Kd.S_away HO_341001.out (fun _ hk => hk.2))); have n3_ := Aside0.mk (IsS68.grown (by repeat (first | (with_reducible first | exact HI0.out | apply IsS68.alloc | apply IsS68.drewN | apply IsS68.drew | apply IsS68.set_0 | apply IsS68.set_1 | apply IsS68.set_2 | refine IsS68.far ?_ NB0_335.out _ | refine IsS68.far ?_ NB0_340.out _ | refine IsS68.far ?_ NB0_345.out _) | exact HI0.out)) hg (IsS68.own_neS HI0.out HO_341001.out (by decide))); have n4_ := Aside0.mk (below_weaken (by repeat (first | (with_reducible first | exact HB.out | apply below_alloc | apply pw_below_drewN | apply below_drew1 | refine below_set ?_ (IsS68.ge HI0.out) | refine below_set ?_ GE335.out | refine below_set ?_ GE340.out | refine below_set ?_ GE345.out) | exact HB.out)) HL.out hb); have n5_ := Aside0.mk (KeepBut.trans (by repeat (first | (with_reducible first | exact HK.out | apply KeepBut.set_ | apply keep_drewN | apply keep_drew | apply keep_alloc | refine keep_far ?_ GW335.out _ | refine keep_far ?_ GW340.out _ | refine keep_far ?_ GW345.out _) | exact HK.out)) (KeepBut.of_grown hg g) (Kd.S_base2 HO_341001.out)); have n6_ := Aside0.mk (ho); clear BK335; clear BK340; clear BK345; clear HI0; clear HB; clear HK; clear HO_341001; clear HO_346000; have BK335 := n0_; have BK340 := n1_; have BK345 := n2_; have HI0 := n3_; have HB := n4_; have HK := n5_; have HO386 := n6_; clear n0_ n1_ n2_ n3_ n4_ n5_ n6_; clear ho hb hg hat; obtain ⟨Ao75, co75, eo75⟩ := Kd.S_slice HO386.out; subst eo75; have hcz76_0 : w73.cell? ⟨gb340, 0, none⟩ = some (.string t336) := (blk_cell BK340.out 0).trans rfl; have hcz76_1 : w73.cell? ⟨gb340, 1, none⟩ = some (u341001) := (blk_cell BK340.out 1).trans rfl; have hfz76_0 := blk_frozen BK340.out 0; have hfz76_1 := blk_frozen BK340.out 1))
                    go_roundg k3
                    case measure => have := HK1.out; have := HJ10.out; have := HK3.out; omega
                    case rel => exact ⟨(wrap64 (x5_1 + 1)), (t381), (t382), (t383), (y384), (.slice Ao75 y384.length co75), (by first | rfl | (simp; done) | (simp [*]; done)), H', ⟨by have := HK1.out; have := HJ10.out; have := HK3.out; omega⟩, ⟨by (with_reducible repeat (first | apply Kd.S_alloc | apply Kd.S_drewN | apply Kd.S_drew)); exact Kd.S_mono (Kd.S_far (p := ⟨gb340, 1, none⟩) (Kd.S_types HO386.out BK340.out (by decide)) (fun _ hk => hk.2) (.slice Ao75 y384.length co75)) (fun _ hk => trivial)⟩, ⟨by (with_reducible repeat (first | refine blk_drewN ?_ _ | refine blk_drew ?_ | refine blk_alloc ?_ _)); refine blk_far ?_ NB335_340.out _; (with_reducible repeat (first | refine blk_drewN ?_ _ | refine blk_drew ?_ | refine blk_alloc ?_ _)); exact BK335.out⟩, ⟨by (with_reducible repeat (first | refine blk_drewN ?_ _ | refine blk_drew ?_ | refine blk_alloc ?_ _)); refine blk_put (cs := #[.string t336, u341001]) ?_ 1 _ rfl; (with_reducible repeat (first | refine blk_drewN ?_ _ | refine blk_drew ?_ | refine blk_alloc ?_ _)); exact BK340.out⟩, ⟨by repeat (first | (with_reducible first | exact HI0.out | apply IsS68.alloc | apply IsS68.drewN | apply IsS68.drew | apply IsS68.set_0 | apply IsS68.set_1 | apply IsS68.set_2 | refine IsS68.far ?_ NB0_335.out _ | refine IsS68.far ?_ NB0_340.out _ | refine IsS68.far ?_ NB0_345.out _) | exact HI0.out)⟩, ⟨by repeat (first | (with_reducible first | exact HK.out | apply KeepBut.set_ | apply keep_drewN | apply keep_drew | apply keep_alloc | refine keep_far ?_ GW335.out _ | refine keep_far ?_ GW340.out _ | refine keep_far ?_ GW345.out _) | exact HK.out)⟩, ⟨by repeat (first | (with_reducible first | exact HB.out | apply below_alloc | apply pw_below_drewN | apply below_drew1 | refine below_set ?_ (IsS68.ge HI0.out) | refine below_set ?_ GE335.out | refine below_set ?_ GE340.out | refine below_set ?_ GE345.out) | exact HB.out)⟩⟩
                  · rw [if_neg c58] at H
                    exact absurd H (by simp)
          · replace c14 := Bool.eq_false_iff.mpr c14
            subst c14
            have H1 : (some (t336, x341001_1, x1000_1, x1001_1, x1002_1)) = some (r1, r2, r3, r4, r5) := by rw [if_neg (show ¬ (false = true) by decide)] at H; exact H
            clear H
            have H := H1
            clear H1
            simp only [Option.some.injEq, Prod.mk.injEq] at H
            obtain ⟨rfl, rfl, rfl, rfl, rfl⟩ := H
            have hnb77 := NB340_335.out
            have hnc77 := NB335_340.out
            have hnb78 := NB340_0.out
            have hnc78 := NB0_340.out
            have hcz79_0 : wc.cell? ⟨gb340, 0, none⟩ = some (.string t336) := (blk_cell BK340.out 0).trans rfl
            have hcz79_1 : wc.cell? ⟨gb340, 1, none⟩ = some (u341001) := (blk_cell BK340.out 1).trans rfl
            have hfz79_0 := blk_frozen BK340.out 0
            have hfz79_1 := blk_frozen BK340.out 1
            have hnb80 := NB335_0.out
            have hnc80 := NB0_335.out
            have hcz81_0 : wc.cell? ⟨gb335, 0, none⟩ = some (.string (⟨#[]⟩ : ByteArray)) := (blk_cell BK335.out 0).trans rfl
            have hcz81_1 : wc.cell? ⟨gb335, 1, none⟩ = some (.slice none 0 0) := (blk_cell BK335.out 1).trans rfl
            have hfz81_0 := blk_frozen BK335.out 0
            have hfz81_1 := blk_frozen BK335.out 1
            obtain ⟨Ao82, co82, eo82⟩ := Kd.S_slice HO_341001.out
            subst eo82
            go_wp2
            refine bodyPost_ret (results_cell_row rfl _ _ gb335 24 #[.string t336, .slice Ao82 x341001_1.length co82] (0, 0) _ rfl (by (with_reducible repeat (first | refine blk_drewN ?_ _ | refine blk_drew ?_ | refine blk_alloc ?_ _)); refine blk_put (cs := #[.string t336, .slice none 0 0]) ?_ 1 _ rfl; (with_reducible repeat (first | refine blk_drewN ?_ _ | refine blk_drew ?_ | refine blk_alloc ?_ _)); refine blk_put (cs := #[.string (⟨#[]⟩ : ByteArray), .slice none 0 0]) ?_ 0 _ rfl; (with_reducible repeat (first | refine blk_drewN ?_ _ | refine blk_drew ?_ | refine blk_alloc ?_ _)); exact BK335.out) Try.underlying24 rfl (by kernel_rfl)) rfl ?_
            exact ⟨_, by first | rfl | (simp [errW_none, errW_some] <;> rfl) | (simp [*, errW_none, errW_some] <;> rfl), by (with_reducible repeat (first | apply Kd.S_alloc | apply Kd.S_drewN | apply Kd.S_drew)); exact Kd.S_mono (Kd.S_far (p := ⟨gb335, 1, none⟩) (Kd.S_far (p := ⟨gb335, 0, none⟩) (Kd.S_types HO_341001.out BK335.out (by decide)) (fun _ hk => hk.2) (.string t336)) (fun _ hk => hk.2) (.slice Ao82 x341001_1.length co82)) (fun _ hk => trivial), by repeat (first | (with_reducible first | exact HI0.out | apply IsS68.alloc | apply IsS68.drewN | apply IsS68.drew | apply IsS68.set_0 | apply IsS68.set_1 | apply IsS68.set_2 | refine IsS68.far ?_ NB0_335.out _ | refine IsS68.far ?_ NB0_340.out _) | exact HI0.out), by repeat (first | (with_reducible first | exact HB.out | apply below_alloc | apply pw_below_drewN | apply below_drew1 | refine below_set ?_ (IsS68.ge HI0.out) | refine below_set ?_ GE335.out | refine below_set ?_ GE340.out) | exact HB.out), by repeat (first | (with_reducible first | exact HK.out | apply KeepBut.set_ | apply keep_drewN | apply keep_drew | apply keep_alloc | refine keep_far ?_ GW335.out _ | refine keep_far ?_ GW340.out _) | exact HK.out)⟩

end Go.Proofs.Ytbgmhcefjggpgaa.X
