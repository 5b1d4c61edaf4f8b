-- laid by a program of this session (wip/tools/xprint.py), function by function; Lean checks it
import Derived.Test.YtnadpefbimbggaaYx0
import Derived.Test.YtnadpefbimbggaaYx2
namespace Go.Proofs.Ytnadpefbimbggaa.Y
open Go.RowKit Go.Proofs.YtnadpefbimbggaaW.PrintWords Go.Proofs.YtnadpefbimbggaaW.PrintLast Go.Proofs.YtnadpefbimbggaaW.PrintMore
theorem min2_mn (k k' : IntKind) (x y : Int) : Builtin.min2 (.int k x) (.int k' y) = pure (.int k (mn x y)) := by simp only [Builtin.min2, mn]
attribute [local go_sem] min2_mn min_two min_three min_four
set_option linter.unusedVariables false
set_option linter.unusedSimpArgs false

theorem C_one {w : World} {g : Nat} {s : ByteArray} (h : w.heap[g]? = some (.cells #[.string s] 9 (0, 0))) : Kd.C Kd.string w (some ⟨g, 0, none⟩) 1 [s] :=
  ⟨rfl, by decide, fun _ => ⟨⟨g, 0, none⟩, rfl, fun j p hj => by
    match j, hj with
    | 0, hj =>
      injection hj with hj
      subst hj
      refine ⟨[.string s], rfl, rfl, fun i u hu => ?_⟩
      match i, hu with
      | 0, hu =>
        injection hu with hu
        subst hu
        exact (blk_cell h 0).trans rfl⟩⟩
theorem C_new (w : World) (s : ByteArray) : Kd.C Kd.string (w.alloc (.cells #[.string s] 9 (0, 0))) (some ⟨w.heap.size, 0, none⟩) 1 [s] := C_one (blk_new w _)
/-! ### penelopelaw02_SumThree: function 6 -/
def penelopelaw02_SumThree.l0 : Nat → ByteArray → ByteArray → ByteArray → List Int → Int → Int → Option (Bool)
  | 0, _, _, _, _, _, _ => none
  | k + 1, x0, x1, x2, x8, x20, x21 => if x21 < x20 then (if 0 ≤ x21 then (if x21 < (x0.size : Int) then (if x21 < (x1.size : Int) then (if x21 < (x2.size : Int) then (if x21 < (x8.length : Int) then (penelopelaw02_SumThree.l0 k x0 x1 x2 (x8.set (x21 : Int).toNat (Go.bits .xor .u8 (Go.bits .xor .u8 (bt x0 x21) (bt x1 x21)) (bt x2 x21))) x20 (wrap64 (x21 + 1))) else (none)) else (none)) else (none)) else (none)) else (none)) else ((penelopelaw02_alive.f k).bind fun t111 => (if t111 = true then ((sum_Of.f k [strOfNums x8]).bind fun r0_ => ((sum_Of.f k [x0.extract 0 (x20 : Int).toNat]).bind fun r1_ => ((sum_Of.f k [x1.extract 0 (x20 : Int).toNat]).bind fun r2_ => ((sum_Of.f k [x2.extract 0 (x20 : Int).toNat]).bind fun r3_ => (some (r0_ == Go.bits .xor .u32 (Go.bits .xor .u32 r1_ r2_) r3_)))))) else (none)))
def penelopelaw02_SumThree.f (k : Nat) (a0 : ByteArray) (a1 : ByteArray) (a2 : ByteArray) : Option (Bool) := if 0 ≤ (mn (mn (mn (a0.size : Int) (a1.size : Int)) (a2.size : Int)) 5000) then (if (mn (mn (mn (a0.size : Int) (a1.size : Int)) (a2.size : Int)) 5000 : Int).toNat ≤ 281474976710656 then ((some (List.replicate (mn (mn (mn (a0.size : Int) (a1.size : Int)) (a2.size : Int)) 5000 : Int).toNat 0 : List Int)).bind fun y107 => (penelopelaw02_SumThree.l0 k a0 a1 a2 y107 (y107.length : Int) 0)) else (none)) else (none)
theorem penelopelaw02_SumThree.mono_l : ∀ k, (∀ y0 y1 y2 y3 y4 y5, LeO (penelopelaw02_SumThree.l0 k y0 y1 y2 y3 y4 y5) (penelopelaw02_SumThree.l0 (k + 1) y0 y1 y2 y3 y4 y5))
  | 0 => fun _ _ _ _ _ _ r h => by simp [penelopelaw02_SumThree.l0] at h
  | k + 1 => by
    have ih0 := penelopelaw02_SumThree.mono_l k
    · intro y0 y1 y2 y3 y4 y5
      unfold penelopelaw02_SumThree.l0
      repeat' first
      | (with_reducible exact ih0 _ _ _ _ _ _)
      | (with_reducible exact penelopelaw02_alive.mono _)
      | (with_reducible exact sum_Of.mono _ _)
      | (with_reducible exact LeO.refl _)
      | (with_reducible exact LeO.none _)
      | (with_reducible refine LeO.ite ?_ ?_)
      | (with_reducible refine LeO.bind ?_ (fun _ => ?_))
      | exact ih0 _ _ _ _ _ _
      | exact penelopelaw02_alive.mono _
      | exact LeO.none _
      | refine LeO.ite ?_ ?_
      | refine LeO.bind ?_ (fun _ => ?_)
theorem penelopelaw02_SumThree.mono : ∀ a0 a1 a2 k, LeO (penelopelaw02_SumThree.f k a0 a1 a2) (penelopelaw02_SumThree.f (k + 1) a0 a1 a2) := by
  intro a0 a1 a2 k
  have ih0 := penelopelaw02_SumThree.mono_l k
  unfold penelopelaw02_SumThree.f
  repeat' first
      | (with_reducible exact ih0 _ _ _ _ _ _)
      | (with_reducible exact penelopelaw02_alive.mono _)
      | (with_reducible exact sum_Of.mono _ _)
      | (with_reducible exact LeO.refl _)
      | (with_reducible exact LeO.none _)
      | (with_reducible refine LeO.ite ?_ ?_)
      | (with_reducible refine LeO.bind ?_ (fun _ => ?_))
      | exact ih0 _ _ _ _ _ _
      | exact penelopelaw02_alive.mono _
      | exact LeO.none _
      | refine LeO.ite ?_ ?_
      | refine LeO.bind ?_ (fun _ => ?_)
def penelopelaw02_SumThree.T6 : Bool × List (List Nat × List Nat) := (true, [([], []), ([], []), ([], []), ([], []), ([2, 3], [2, 3]), ([], []), ([], []), ([5, 6], [5, 6]), ([4, 7], [4, 7]), ([], []), ([], []), ([9, 10], [9, 10]), ([8, 11], [8, 11]), ([0, 1, 0, 1, 2, 3, 4, 5, 6, 7, 8, 9, 10, 11, 12], [0, 1]), ([13, 12, 0, 1, 2, 3, 4, 5, 6, 7, 8, 9, 10, 11, 12], [12, 13])])
def penelopelaw02_SumThree.B6 : List Nat := [0, 0, 0, 0, 12, 0, 0, 96, 252, 0, 0, 1536, 4092, 8191, 16383]
theorem penelopelaw02_SumThree.tab6 : rtab .any (opsOf Try.f6 6) = penelopelaw02_SumThree.T6 := by kernel_rfl
theorem penelopelaw02_SumThree.bits6 : waitsOk penelopelaw02_SumThree.T6.2 penelopelaw02_SumThree.B6 = true := by kernel_rfl
set_option maxHeartbeats 8000000 in
set_option maxRecDepth 100000 in
theorem penelopelaw02_SumThree.calls (k : Nat) (a0 : ByteArray) (a1 : ByteArray) (a2 : ByteArray) (r : Bool) (w : World) (h : penelopelaw02_SumThree.f k a0 a1 a2 = some r) :
    Calls Try.prog 6 #[.string a0, .string a1, .string a2] w fun e w' => e = .returned (.bool r) ∧ Below w.heap.size w w' := by
  have HB := Aside0.mk (Below.refl w.heap.size w)
  have H : (if 0 ≤ (mn (mn (mn (a0.size : Int) (a1.size : Int)) (a2.size : Int)) 5000) then (if (mn (mn (mn (a0.size : Int) (a1.size : Int)) (a2.size : Int)) 5000 : Int).toNat ≤ 281474976710656 then ((some (List.replicate (mn (mn (mn (a0.size : Int) (a1.size : Int)) (a2.size : Int)) 5000 : Int).toNat 0 : List Int)).bind fun y107 => (penelopelaw02_SumThree.l0 k a0 a1 a2 y107 (y107.length : Int) 0)) else (none)) else (none)) = some r := h
  clear h
  obtain ⟨ji4, hji4⟩ : ∃ j_ : Int, (mn (a0.size : Int) (a1.size : Int)) = j_ := ⟨_, rfl⟩
  replace H : (if 0 ≤ (mn (mn (ji4) (a2.size : Int)) 5000) then (if (mn (mn (ji4) (a2.size : Int)) 5000 : Int).toNat ≤ 281474976710656 then ((some (List.replicate (mn (mn (ji4) (a2.size : Int)) 5000 : Int).toNat 0 : List Int)).bind fun y107 => (penelopelaw02_SumThree.l0 k a0 a1 a2 y107 (y107.length : Int) 0)) else (none)) else (none)) = some r := by first | (rw [hji4] at H; exact H) | (simp only [hji4] at H ⊢; exact H)
  (try (have hji4l : 0 ≤ ji4 := by (rw [← hji4]; unfold mn; (repeat' split) <;> omega)))
  (try (have hji4m : 0 ≤ ji4 := by omega))
  have hji4_ : (if (a1.size : Int) < (a0.size : Int) then (a1.size : Int) else (a0.size : Int)) = ji4 := hji4
  obtain ⟨ji5, hji5⟩ : ∃ j_ : Int, (mn (ji4) (a2.size : Int)) = j_ := ⟨_, rfl⟩
  replace H : (if 0 ≤ (mn (ji5) 5000) then (if (mn (ji5) 5000 : Int).toNat ≤ 281474976710656 then ((some (List.replicate (mn (ji5) 5000 : Int).toNat 0 : List Int)).bind fun y107 => (penelopelaw02_SumThree.l0 k a0 a1 a2 y107 (y107.length : Int) 0)) else (none)) else (none)) = some r := by first | (rw [hji5] at H; exact H) | (simp only [hji5] at H ⊢; exact H)
  have hji5_ : (if (a2.size : Int) < (ji4) then (a2.size : Int) else (ji4)) = ji5 := hji5
  obtain ⟨ji6, hji6⟩ : ∃ j_ : Int, (mn (ji5) 5000) = j_ := ⟨_, rfl⟩
  replace H : (if 0 ≤ (ji6) then (if (ji6 : Int).toNat ≤ 281474976710656 then ((some (List.replicate (ji6 : Int).toNat 0 : List Int)).bind fun y107 => (penelopelaw02_SumThree.l0 k a0 a1 a2 y107 (y107.length : Int) 0)) else (none)) else (none)) = some r := by first | (rw [hji6] at H; exact H) | (simp only [hji6] at H ⊢; exact H)
  have hji6_ : (if 5000 < (ji5) then 5000 else (ji5)) = ji6 := hji6
  by_cases c7 : 0 ≤ (ji6)
  · rw [if_pos c7] at H
    have c7b0 := eq_true c7
    have c7b1 : decide (0 ≤ (ji6)) = true := decide_eq_true c7
    clear c7
    by_cases c8 : (ji6 : Int).toNat ≤ 281474976710656
    · rw [if_pos c8] at H
      have c8b0 := eq_true c8
      have c8b1 : decide ((ji6 : Int).toNat ≤ 281474976710656) = true := decide_eq_true c8
      clear c8
      obtain ⟨y107, hy107⟩ : ∃ y_ : List Int, y_ = (List.replicate (ji6 : Int).toNat 0) := ⟨_, rfl⟩
      replace H : (penelopelaw02_SumThree.l0 k a0 a1 a2 y107 (y107.length : Int) 0) = some r := by first | (rw [hy107]; with_reducible exact H) | (have H2_ := (Option.bind_some _ _).symm.trans H; rw [hy107]; with_reducible exact H2_) | (have H2_ := (Option.bind_some _ _).symm.trans H; with_reducible exact H2_) | with_reducible exact H | (rw [hy107]; exact H) | exact H
      have Ny107 := Aside0.mk hy107
      clear hy107
      have H' := Aside0.mk H
      clear H
      go_enter Try.func6, Try.ntmps6
      go_wp2_with (first | ((with_reducible refine gate_dst (N := 18) rfl ?_); refine Kd.R_make (Kd.int .u8) _ 5 rfl (N := 18) rfl 32 _ _ rfl ji6 rfl rfl Try.underlying32 (.int .u8 0) 1 info5 rfl (by decide) (by omega) 0 (ok := fun _ => True) (okp := fun _ => True) rfl (fun _ hk => hk) trivial (of_decide_eq_true (by first | (with_reducible assumption) | assumption)) (Nat.le_trans (Nat.mul_le_mul_right _ (of_decide_eq_true (by first | (with_reducible assumption) | assumption) : ji6.toNat ≤ 281474976710656)) (by omega)) (Below.refl _ _) (Nat.le_refl _) ?_; intro v108 w9 ho10 hb hg_ hnew_; clear hg_ hnew_; (first | rw [← Ny107.out] at ho10 | (simp only [Int.reduceToNat] at ho10; rw [← Ny107.out] at ho10)); have n0_ := Aside0.mk (Kd.R_lower ho10 (below_size (by repeat (first | (with_reducible first | exact HB.out | apply below_alloc | apply pw_below_drewN | apply below_drew1) | exact HB.out)))); have n1_ := Aside0.mk (below_step (by repeat (first | (with_reducible first | exact HB.out | apply below_alloc | apply pw_below_drewN | apply below_drew1) | exact HB.out)) hb); clear HB; have HO109 := n0_; have HB := n1_; clear n0_ n1_; clear hb ho10; obtain ⟨Ao11, co11, eo11⟩ := Kd.R_slice HO109.out; subst eo11))
      go_loopg [21] k (fun kq v21 w' => ∃ (x8_1 : List Int) (x21_1 : Int), v21 = .int .i64 x21_1 ∧ Aside0 (penelopelaw02_SumThree.l0 kq a0 a1 a2 x8_1 (y107.length : Int) x21_1 = some r) ∧ Aside0 (kq ≤ k) ∧ Aside0 (Kd.R (Kd.int .u8) 5 w' w.heap.size (fun _ => True) (.slice Ao11 y107.length co11) x8_1) ∧ Aside0 (Below w.heap.size w w'))
      case atStart => exact ⟨(y107), (0), (by first | rfl | (simp; done) | (simp [*]; done)), H', ⟨Nat.le_refl _⟩, ⟨by (with_reducible repeat (first | apply Kd.R_alloc | apply Kd.R_drewN | apply Kd.R_drew)); exact HO109.out⟩, ⟨by repeat (first | (with_reducible first | exact HB.out | apply below_alloc | apply pw_below_drewN | apply below_drew1) | exact HB.out)⟩⟩
      case round =>
        clear H'
        try clear p2
        try clear c6
        try clear c7
        try clear c7b0
        try clear c7b1
        try clear c8
        try clear c8b0
        try clear c8b1
        obtain ⟨x8_1, x21_1, rfl, HA, HK1, HO_8, HB⟩ := hrel
        have hl8_1 := (Kd.R_reads' HO_8.out).1
        rw [hl8_1] at HO_8
        (try simp only [hl8_1])
        cases gk with
        | zero => exact absurd HA.out (by simp [penelopelaw02_SumThree.l0])
        | succ k1 =>
          have H := HA.out
          clear HA
          simp only [penelopelaw02_SumThree.l0] at H
          by_cases c12 : x21_1 < (y107.length : Int)
          · rw [if_pos c12] at H
            have c12b0 : decide (x21_1 < (y107.length : Int)) = true := decide_eq_true c12
            clear c12
            by_cases c13 : 0 ≤ x21_1
            · rw [if_pos c13] at H
              have c13b0 : decide (0 ≤ x21_1) = true := decide_eq_true c13
              clear c13
              by_cases c14 : x21_1 < (a0.size : Int)
              · rw [if_pos c14] at H
                have c14b0 : decide (x21_1 < (a0.size : Int)) = true := decide_eq_true c14
                clear c14
                by_cases c16 : x21_1 < (a1.size : Int)
                · rw [if_pos c16] at H
                  have c16b0 : decide (x21_1 < (a1.size : Int)) = true := decide_eq_true c16
                  clear c16
                  by_cases c18 : x21_1 < (a2.size : Int)
                  · rw [if_pos c18] at H
                    have c18b0 : decide (x21_1 < (a2.size : Int)) = true := decide_eq_true c18
                    clear c18
                    by_cases c20 : x21_1 < (x8_1.length : Int)
                    · rw [if_pos c20] at H
                      have c20b0 : decide (x21_1 < (x8_1.length : Int)) = true := decide_eq_true c20
                      clear c20
                      obtain ⟨y110, hy110⟩ : ∃ y_ : List Int, y_ = (x8_1.set (x21_1 : Int).toNat (Go.bits .xor .u8 (Go.bits .xor .u8 (bt a0 x21_1) (bt a1 x21_1)) (bt a2 x21_1))) := ⟨_, rfl⟩
                      replace H : (penelopelaw02_SumThree.l0 k1 a0 a1 a2 y110 (y107.length : Int) (wrap64 (x21_1 + 1))) = some r := by first | (rw [hy110]; with_reducible exact H) | (have H2_ := (Option.bind_some _ _).symm.trans H; rw [hy110]; with_reducible exact H2_) | (have H2_ := (Option.bind_some _ _).symm.trans H; with_reducible exact H2_) | with_reducible exact H | (rw [hy110]; exact H) | exact H
                      have Ny110 := Aside0.mk hy110
                      clear hy110
                      have H' := Aside0.mk H
                      clear H
                      try go_wp2
                      have n0_ := Aside0.mk (Kd.R_drew HO_8.out)
                      have n1_ := Aside0.mk (below_drew1 HB.out)
                      clear HO_8
                      clear HB
                      have HO_8 := n0_
                      have HB := n1_
                      clear n0_ n1_
                      have p15 : 0 ≤ (x21_1 : Int) := of_decide_eq_true (by first | (with_reducible assumption) | assumption)
                      have q15 : x21_1 < (a0.size : Int) := of_decide_eq_true (by first | (with_reducible assumption) | assumption)
                      have hx15 := bt_at a0 x21_1
                      replace p15 := eq_true p15
                      replace q15 := eq_true q15
                      have p17 : 0 ≤ (x21_1 : Int) := of_decide_eq_true (by first | (with_reducible assumption) | assumption)
                      have q17 : x21_1 < (a1.size : Int) := of_decide_eq_true (by first | (with_reducible assumption) | assumption)
                      have hx17 := bt_at a1 x21_1
                      replace p17 := eq_true p17
                      replace q17 := eq_true q17
                      have p19 : 0 ≤ (x21_1 : Int) := of_decide_eq_true (by first | (with_reducible assumption) | assumption)
                      have q19 : x21_1 < (a2.size : Int) := of_decide_eq_true (by first | (with_reducible assumption) | assumption)
                      have hx19 := bt_at a2 x21_1
                      replace p19 := eq_true p19
                      replace q19 := eq_true q19
                      have p21 : 0 ≤ (x21_1 : Int) := of_decide_eq_true (by first | (with_reducible assumption) | assumption)
                      have q21 : (x21_1 : Int) < ((x8_1.length : Int) : Int) := of_decide_eq_true (by first | (with_reducible assumption) | assumption)
                      obtain ⟨go21, co21, eo21, gb21, gl21, cl21, HG21⟩ := Kd.R_form HO_8.out (by omega)
                      (first | cases eo21 | (injection eo21 with ea_ en_ ec_; (first | subst ea_ | (injection ea_ with ea_; subst ea_)); subst ec_; clear en_))
                      have GB21 := Aside0.mk gb21
                      have GG21 := Aside0.mk HG21
                      clear gb21 gl21 HG21
                      obtain ⟨hx21_0, hf21_0⟩ := Kd.R_celln 0 HO_8.out (x21_1 : Int) p21 q21
                      replace p21 := eq_true p21
                      replace q21 := eq_true q21
                      have HP23 := Kd.R_putn HO_8.out (x21_1 : Int) (Go.bits .xor .u8 (Go.bits .xor .u8 (bt a0 x21_1) (bt a1 x21_1)) (bt a2 x21_1))
                      rw [← Ny110.out] at HP23
                      have HQ23 := Aside0.mk HP23
                      clear HP23
                      refine start_ (n := 15) (S := fun w' => True) (ds := [14]) #[false, false, false, false, false, false, false, false, false, false, false, false, false, false, false] (by kernel_rfl) rfl rfl trivial (fun hHeld => ?_); refine with_tabW penelopelaw02_SumThree.tab6 penelopelaw02_SumThree.bits6 (fun HT_ HW_ => ?_)
                      generalize wr.drew = w22 at HO_8 HB GG21 HQ23 hf21_0 hx21_0 hHeld ⊢
                      refine pure_ (i := 0) (N := some 24) (v := ?_) (a' := ?_) #[true, false, false, false, false, false, false, false, false, false, false, false, false, false, false] rfl rfl (any_of HT_.out (by kernel_rfl)) (fun _ _ _ h => h) (Or.inl ⟨by rfl, ?_⟩) ?_ ?_
                      rotate_left
                      · intro w'
                        go_simp
                        with_reducible rfl
                      rotate_left
                      · simp only [Act.put, List.setIfInBounds_toArray, List.set_cons_zero, List.set_cons_succ, i64_w, i32_w]
                        rfl
                      refine pure_ (i := 1) (N := some 25) (v := ?_) (a' := ?_) #[true, true, false, false, false, false, false, false, false, false, false, false, false, false, false] rfl rfl (any_of HT_.out (by kernel_rfl)) (fun _ _ _ h => h) (Or.inl ⟨by rfl, ?_⟩) ?_ ?_
                      rotate_left
                      · intro w'
                        go_simp
                        with_reducible rfl
                      rotate_left
                      · simp only [Act.put, List.setIfInBounds_toArray, List.set_cons_zero, List.set_cons_succ, i64_w, i32_w]
                        rfl
                      refine pure_ (i := 2) (N := some 26) (v := ?_) (a' := ?_) #[true, true, true, false, false, false, false, false, false, false, false, false, false, false, false] rfl rfl (any_of HT_.out (by kernel_rfl)) (fun _ _ _ h => h) (Or.inl ⟨by rfl, ?_⟩) ?_ ?_
                      rotate_left
                      · intro w'
                        go_simp
                        with_reducible rfl
                      rotate_left
                      · simp only [Act.put, List.setIfInBounds_toArray, List.set_cons_zero, List.set_cons_succ, i64_w, i32_w]
                        rfl
                      refine pure_ (i := 3) (N := some 27) (v := ?_) (a' := ?_) #[true, true, true, true, false, false, false, false, false, false, false, false, false, false, false] rfl rfl (any_of HT_.out (by kernel_rfl)) (fun _ _ _ h => h) (Or.inl ⟨by rfl, ?_⟩) ?_ ?_
                      rotate_left
                      · intro w'
                        go_simp
                        with_reducible rfl
                      rotate_left
                      · simp only [Act.put, List.setIfInBounds_toArray, List.set_cons_zero, List.set_cons_succ, i64_w, i32_w]
                        rfl
                      refine pure_ (i := 5) (N := some 29) (v := ?_) (a' := ?_) #[true, true, true, true, false, true, false, false, false, false, false, false, false, false, false] rfl rfl (any_of HT_.out (by kernel_rfl)) (fun _ _ _ h => h) (Or.inl ⟨by rfl, ?_⟩) ?_ ?_
                      rotate_left
                      · intro w'
                        go_simp
                        with_reducible rfl
                      rotate_left
                      · simp only [Act.put, List.setIfInBounds_toArray, List.set_cons_zero, List.set_cons_succ, i64_w, i32_w]
                        rfl
                      refine pure_ (i := 6) (N := some 30) (v := ?_) (a' := ?_) #[true, true, true, true, false, true, true, false, false, false, false, false, false, false, false] rfl rfl (any_of HT_.out (by kernel_rfl)) (fun _ _ _ h => h) (Or.inl ⟨by rfl, ?_⟩) ?_ ?_
                      rotate_left
                      · intro w'
                        go_simp
                        with_reducible rfl
                      rotate_left
                      · simp only [Act.put, List.setIfInBounds_toArray, List.set_cons_zero, List.set_cons_succ, i64_w, i32_w]
                        rfl
                      refine pure_ (i := 9) (N := some 33) (v := ?_) (a' := ?_) #[true, true, true, true, false, true, true, false, false, true, false, false, false, false, false] rfl rfl (any_of HT_.out (by kernel_rfl)) (fun _ _ _ h => h) (Or.inl ⟨by rfl, ?_⟩) ?_ ?_
                      rotate_left
                      · intro w'
                        go_simp
                        with_reducible rfl
                      rotate_left
                      · simp only [Act.put, List.setIfInBounds_toArray, List.set_cons_zero, List.set_cons_succ, i64_w, i32_w]
                        rfl
                      refine pure_ (i := 10) (N := some 34) (v := ?_) (a' := ?_) #[true, true, true, true, false, true, true, false, false, true, true, false, false, false, false] rfl rfl (any_of HT_.out (by kernel_rfl)) (fun _ _ _ h => h) (Or.inl ⟨by rfl, ?_⟩) ?_ ?_
                      rotate_left
                      · intro w'
                        go_simp
                        with_reducible rfl
                      rotate_left
                      · simp only [Act.put, List.setIfInBounds_toArray, List.set_cons_zero, List.set_cons_succ, i64_w, i32_w]
                        rfl
                      refine take_ (i := 4) (N := some 28) (v := ?_) (a' := ?_) #[true, true, true, true, true, true, true, false, false, true, true, false, false, false, false] rfl rfl (take_ofW HT_.out HW_.out (by kernel_rfl)) (fun _ _ _ h => h) (Or.inl ⟨by rfl, ?_⟩) hHeld ?_ ?_
                      rotate_left
                      · intro w' _
                        go_simp
                        with_reducible rfl
                      rotate_left
                      · simp only [Act.put, List.setIfInBounds_toArray, List.set_cons_zero, List.set_cons_succ, i64_w, i32_w]
                        rfl
                      refine take_ (i := 7) (N := some 31) (v := ?_) (a' := ?_) #[true, true, true, true, true, true, true, true, false, true, true, false, false, false, false] rfl rfl (take_ofW HT_.out HW_.out (by kernel_rfl)) (fun _ _ _ h => h) (Or.inl ⟨by rfl, ?_⟩) hHeld ?_ ?_
                      rotate_left
                      · intro w' _
                        go_simp
                        with_reducible rfl
                      rotate_left
                      · simp only [Act.put, List.setIfInBounds_toArray, List.set_cons_zero, List.set_cons_succ, i64_w, i32_w]
                        rfl
                      refine pure_ (i := 8) (N := some 32) (v := ?_) (a' := ?_) #[true, true, true, true, true, true, true, true, true, true, true, false, false, false, false] rfl rfl (any_of HT_.out (by kernel_rfl)) (fun _ _ _ h => h) (Or.inl ⟨by rfl, ?_⟩) ?_ ?_
                      rotate_left
                      · intro w'
                        go_simp
                        with_reducible rfl
                      rotate_left
                      · simp only [Act.put, List.setIfInBounds_toArray, List.set_cons_zero, List.set_cons_succ, i64_w, i32_w]
                        rfl
                      refine take_ (i := 11) (N := some 35) (v := ?_) (a' := ?_) #[true, true, true, true, true, true, true, true, true, true, true, true, false, false, false] rfl rfl (take_ofW HT_.out HW_.out (by kernel_rfl)) (fun _ _ _ h => h) (Or.inl ⟨by rfl, ?_⟩) hHeld ?_ ?_
                      rotate_left
                      · intro w' _
                        go_simp
                        with_reducible rfl
                      rotate_left
                      · simp only [Act.put, List.setIfInBounds_toArray, List.set_cons_zero, List.set_cons_succ, i64_w, i32_w]
                        rfl
                      refine pure_ (i := 12) (N := some 36) (v := ?_) (a' := ?_) #[true, true, true, true, true, true, true, true, true, true, true, true, true, false, false] rfl rfl (any_of HT_.out (by kernel_rfl)) (fun _ _ _ h => h) (Or.inl ⟨by rfl, ?_⟩) ?_ ?_
                      rotate_left
                      · intro w'
                        go_simp
                        with_reducible rfl
                      rotate_left
                      · simp only [Act.put, List.setIfInBounds_toArray, List.set_cons_zero, List.set_cons_succ, i64_w, i32_w]
                        rfl
                      refine pure_ (i := 13) (N := some 37) (v := ?_) (a' := ?_) #[true, true, true, true, true, true, true, true, true, true, true, true, true, true, false] rfl rfl (any_of HT_.out (by kernel_rfl)) (fun _ _ _ h => h) (Or.inl ⟨by rfl, ?_⟩) ?_ ?_
                      rotate_left
                      · intro w'
                        go_simp
                        with_reducible rfl
                      rotate_left
                      · simp only [Act.put, List.setIfInBounds_toArray, List.set_cons_zero, List.set_cons_succ, i64_w, i32_w]
                        rfl
                      refine last_ (i := 14) (N := none) #[true, true, true, true, true, true, true, true, true, true, true, true, true, true, true] rfl rfl (one_of HT_.out (by kernel_rfl)) (by decide) (fun K hK => ?_)
                      refine skip_ (w1 := ?_) (by rfl) rfl ?_ ?_
                      rotate_left
                      · go_simp
                        rfl
                      refine hK.out _ _ ?_
                      clear hK K
                      refine done_ (done_of HT_.out (by kernel_rfl)) ?_
                      try go_wp2
                      (try simp only [← hl8_1])
                      go_roundg k1
                      case measure => have := HK1.out; omega
                      case rel => exact ⟨(y110), (wrap64 (x21_1 + 1)), (by first | rfl | (simp; done) | (simp [*]; done)), H', ⟨by have := HK1.out; omega⟩, ⟨by (try simp only [hl8_1]); (with_reducible repeat (first | apply Kd.R_alloc | apply Kd.R_drewN | apply Kd.R_drew)); exact HQ23.out⟩, ⟨by repeat (first | (with_reducible first | exact HB.out | apply below_alloc | apply pw_below_drewN | apply below_drew1 | refine below_set ?_ GB21.out) | exact HB.out)⟩⟩
                    · rw [if_neg c20] at H
                      exact absurd H (by simp)
                  · rw [if_neg c18] at H
                    exact absurd H (by simp)
                · rw [if_neg c16] at H
                  exact absurd H (by simp)
              · rw [if_neg c14] at H
                exact absurd H (by simp)
            · rw [if_neg c13] at H
              exact absurd H (by simp)
          · rw [if_neg c12] at H
            have c12b0 : decide (x21_1 < (y107.length : Int)) = false := decide_eq_false c12
            clear c12
            replace H := Option.bind_eq_some_iff.mp H
            obtain ⟨t111, A240, H⟩ := H
            have c12d0 : decide (x21_1 < (x8_1.length : Int)) = false := by rw [← hl8_1]; exact c12b0
            have A24 := Aside0.mk A240
            clear A240
            by_cases cT : t111 = true
            case neg =>
              rw [if_neg cT] at H
              exact absurd H (by simp)
            rw [if_pos cT] at H
            subst cT
            have EL : (y107.length : Int) = ji6 := by (have hy_ := Ny107.out; rw [hy_, List.length_replicate]; have hz_ : 0 ≤ ji6 := (by rw [← hji6, ← hji5, ← hji4]; unfold mn; (repeat' split) <;> omega); omega)
            rw [EL] at H
            obtain ⟨r0_, A500, H⟩ := Option.bind_eq_some_iff.mp H
            have A50 := Aside0.mk A500
            clear A500
            obtain ⟨r1_, A510, H⟩ := Option.bind_eq_some_iff.mp H
            have A51 := Aside0.mk A510
            clear A510
            obtain ⟨r2_, A520, H⟩ := Option.bind_eq_some_iff.mp H
            have A52 := Aside0.mk A520
            clear A520
            obtain ⟨r3_, A530, H⟩ := Option.bind_eq_some_iff.mp H
            have A53 := Aside0.mk A530
            clear A530
            obtain rfl := Option.some.inj H
            clear H
            have s0_ : 0 ≤ ji6 := by (rw [← hji6, ← hji5, ← hji4]; unfold mn; (repeat' split) <;> omega)
            have s1_ : ji6 ≤ (a0.size : Int) := by (rw [← hji6, ← hji5, ← hji4]; unfold mn; (repeat' split) <;> omega)
            have s2_ : ji6 ≤ (a1.size : Int) := by (rw [← hji6, ← hji5, ← hji4]; unfold mn; (repeat' split) <;> omega)
            have s3_ : ji6 ≤ (a2.size : Int) := by (rw [← hji6, ← hji5, ← hji4]; unfold mn; (repeat' split) <;> omega)
            have s0b := decide_eq_true s0_
            have s1b := decide_eq_true s1_
            have s2b := decide_eq_true s2_
            have s3b := decide_eq_true s3_
            have s0c := eq_true s0_
            have s1c := eq_true s1_
            have s2c := eq_true s2_
            have s3c := eq_true s3_
            clear s0_ s1_ s2_ s3_
            try go_wp2
            have n0_ := Aside0.mk (Kd.R_drew HO_8.out)
            have n1_ := Aside0.mk (below_drew1 HB.out)
            clear HO_8
            clear HB
            have HO_8 := n0_
            have HB := n1_
            clear n0_ n1_
            refine start_ (n := 26) (S := fun w' => (convert 32 9 (.slice Ao11 x8_1.length co11)).run Try.prog w' = .ok (.string (strOfNums x8_1)) w') (ds := []) #[false, false, false, false, false, false, false, false, false, false, false, false, false, false, false, false, false, false, false, false, false, false, false, false, false, false] (by kernel_rfl) rfl rfl ((own_string (P := Try.prog) Try.underlying32 Try.underlying5 Try.underlying9 (Kd.own_of_R HO_8.out))) (fun hHeld => ?_)
            refine one_ (i := 0) (N := some 39) #[true, false, false, false, false, false, false, false, false, false, false, false, false, false, false, false, false, false, false, false, false, false, false, false, false, false] rfl rfl (by kernel_rfl) (by decide) (fun K hK => ?_)
            refine goes_ Try.func11 (by kernel_rfl) rfl #[] (by rfl) rfl rfl (by (try simp only [List.map_toArray, List.map_cons, List.map_nil]); first | done | rfl) ?_
            with_reducible refine (penelopelaw02_alive.calls k1 true _ A24.out).mono ?_
            rintro e w26 ⟨rfl, hb⟩
            refine ⟨_, rfl, ?_⟩
            have HO_8 := Aside0.mk (Kd.R_below HO_8.out hb)
            have HB := Aside0.mk (below_step HB.out hb)
            clear hb
            refine hK.out _ _ ((own_string (P := Try.prog) Try.underlying32 Try.underlying5 Try.underlying9 (Kd.own_of_R HO_8.out))) (fun hHeld => ?_)
            clear hK K
            refine norm_ (a' := ?_) ?_ ?_
            rotate_left
            · show Act.put _ (some 39) _ = _
              simp only [Act.put, List.setIfInBounds_toArray, List.set_cons_zero, List.set_cons_succ, i64_w, i32_w]
              rfl
            refine pure_ (i := 1) (N := some 40) (v := ?_) (a' := ?_) #[true, true, false, false, false, false, false, false, false, false, false, false, false, false, false, false, false, false, false, false, false, false, false, false, false, false] rfl rfl (by kernel_rfl) (fun _ _ _ h => h) (Or.inl ⟨by rfl, ?_⟩) ?_ ?_
            rotate_left
            · intro w'
              go_simp
              with_reducible rfl
            rotate_left
            · simp only [Act.put, List.setIfInBounds_toArray, List.set_cons_zero, List.set_cons_succ, i64_w, i32_w]
              rfl
            refine pure_ (i := 2) (N := some 41) (v := ?_) (a' := ?_) #[true, true, true, false, false, false, false, false, false, false, false, false, false, false, false, false, false, false, false, false, false, false, false, false, false, false] rfl rfl (by kernel_rfl) (fun _ _ _ h => h) (Or.inl ⟨by rfl, ?_⟩) ?_ ?_
            rotate_left
            · intro w'
              go_simp
              with_reducible rfl
            rotate_left
            · simp only [Act.put, List.setIfInBounds_toArray, List.set_cons_zero, List.set_cons_succ, i64_w, i32_w]
              rfl
            refine pure_ (i := 6) (N := some 45) (v := ?_) (a' := ?_) #[true, true, true, false, false, false, true, false, false, false, false, false, false, false, false, false, false, false, false, false, false, false, false, false, false, false] rfl rfl (by kernel_rfl) (fun _ _ _ h => h) (Or.inl ⟨by rfl, ?_⟩) ?_ ?_
            rotate_left
            · intro w'
              go_simp
              with_reducible rfl
            rotate_left
            · simp only [Act.put, List.setIfInBounds_toArray, List.set_cons_zero, List.set_cons_succ, i64_w, i32_w]
              rfl
            refine pure_ (i := 7) (N := some 46) (v := ?_) (a' := ?_) #[true, true, true, false, false, false, true, true, false, false, false, false, false, false, false, false, false, false, false, false, false, false, false, false, false, false] rfl rfl (by kernel_rfl) (fun _ _ _ h => h) (Or.inl ⟨by rfl, ?_⟩) ?_ ?_
            rotate_left
            · intro w'
              go_simp
              with_reducible rfl
            rotate_left
            · simp only [Act.put, List.setIfInBounds_toArray, List.set_cons_zero, List.set_cons_succ, i64_w, i32_w]
              rfl
            refine pure_ (i := 8) (N := some 47) (v := ?_) (a' := ?_) #[true, true, true, false, false, false, true, true, true, false, false, false, false, false, false, false, false, false, false, false, false, false, false, false, false, false] rfl rfl (by kernel_rfl) (fun _ _ _ h => h) (Or.inl ⟨by rfl, ?_⟩) ?_ ?_
            rotate_left
            · intro w'
              go_simp
              with_reducible rfl
            rotate_left
            · simp only [Act.put, List.setIfInBounds_toArray, List.set_cons_zero, List.set_cons_succ, i64_w, i32_w]
              rfl
            refine pure_ (i := 11) (N := some 50) (v := ?_) (a' := ?_) #[true, true, true, false, false, false, true, true, true, false, false, true, false, false, false, false, false, false, false, false, false, false, false, false, false, false] rfl rfl (by kernel_rfl) (fun _ _ _ h => h) (Or.inl ⟨by rfl, ?_⟩) ?_ ?_
            rotate_left
            · intro w'
              go_simp
              with_reducible rfl
            rotate_left
            · simp only [Act.put, List.setIfInBounds_toArray, List.set_cons_zero, List.set_cons_succ, i64_w, i32_w]
              rfl
            refine pure_ (i := 12) (N := some 51) (v := ?_) (a' := ?_) #[true, true, true, false, false, false, true, true, true, false, false, true, true, false, false, false, false, false, false, false, false, false, false, false, false, false] rfl rfl (by kernel_rfl) (fun _ _ _ h => h) (Or.inl ⟨by rfl, ?_⟩) ?_ ?_
            rotate_left
            · intro w'
              go_simp
              with_reducible rfl
            rotate_left
            · simp only [Act.put, List.setIfInBounds_toArray, List.set_cons_zero, List.set_cons_succ, i64_w, i32_w]
              rfl
            refine pure_ (i := 13) (N := some 52) (v := ?_) (a' := ?_) #[true, true, true, false, false, false, true, true, true, false, false, true, true, true, false, false, false, false, false, false, false, false, false, false, false, false] rfl rfl (by kernel_rfl) (fun _ _ _ h => h) (Or.inl ⟨by rfl, ?_⟩) ?_ ?_
            rotate_left
            · intro w'
              go_simp
              with_reducible rfl
            rotate_left
            · simp only [Act.put, List.setIfInBounds_toArray, List.set_cons_zero, List.set_cons_succ, i64_w, i32_w]
              rfl
            refine pure_ (i := 17) (N := some 56) (v := ?_) (a' := ?_) #[true, true, true, false, false, false, true, true, true, false, false, true, true, true, false, false, false, true, false, false, false, false, false, false, false, false] rfl rfl (by kernel_rfl) (fun _ _ _ h => h) (Or.inl ⟨by rfl, ?_⟩) ?_ ?_
            rotate_left
            · intro w'
              go_simp
              with_reducible rfl
            rotate_left
            · simp only [Act.put, List.setIfInBounds_toArray, List.set_cons_zero, List.set_cons_succ, i64_w, i32_w]
              rfl
            refine pure_ (i := 18) (N := some 57) (v := ?_) (a' := ?_) #[true, true, true, false, false, false, true, true, true, false, false, true, true, true, false, false, false, true, true, false, false, false, false, false, false, false] rfl rfl (by kernel_rfl) (fun _ _ _ h => h) (Or.inl ⟨by rfl, ?_⟩) ?_ ?_
            rotate_left
            · intro w'
              go_simp
              with_reducible rfl
            rotate_left
            · simp only [Act.put, List.setIfInBounds_toArray, List.set_cons_zero, List.set_cons_succ, i64_w, i32_w]
              rfl
            refine pure_ (i := 19) (N := some 58) (v := ?_) (a' := ?_) #[true, true, true, false, false, false, true, true, true, false, false, true, true, true, false, false, false, true, true, true, false, false, false, false, false, false] rfl rfl (by kernel_rfl) (fun _ _ _ h => h) (Or.inl ⟨by rfl, ?_⟩) ?_ ?_
            rotate_left
            · intro w'
              go_simp
              with_reducible rfl
            rotate_left
            · simp only [Act.put, List.setIfInBounds_toArray, List.set_cons_zero, List.set_cons_succ, i64_w, i32_w]
              rfl
            refine take_ (i := 3) (N := some 42) (v := ?_) (a' := ?_) #[true, true, true, true, false, false, true, true, true, false, false, true, true, true, false, false, false, true, true, true, false, false, false, false, false, false] rfl rfl (by kernel_rfl) (fun _ _ _ h => h) (Or.inl ⟨by rfl, ?_⟩) hHeld ?_ ?_
            rotate_left
            · intro w' s0
              go_simp
              with_reducible rfl
            rotate_left
            · simp only [Act.put, List.setIfInBounds_toArray, List.set_cons_zero, List.set_cons_succ, i64_w, i32_w]
              rfl
            refine join_ (σ := Nat × Nat × Nat × Nat) 5 #[true, true, true, true, true, true, true, true, true, true, true, true, true, true, true, true, true, true, true, true, true, false, false, false, false, false] (fun s_ => [(43, .slice (some ⟨s_.1, 0, none⟩) 1 1), (44, .int .u32 r0_), (48, .slice (some ⟨s_.2.1, 0, none⟩) 1 1), (49, .int .u32 r1_), (53, .slice (some ⟨s_.2.2.1, 0, none⟩) 1 1), (54, .int .u32 r2_), (59, .slice (some ⟨s_.2.2.2, 0, none⟩) 1 1), (55, .int .u32 (Go.bits .xor .u32 r1_ r2_))]) (fun s_ w' => ((convert 32 9 (.slice Ao11 x8_1.length co11)).run Try.prog w' = .ok (.string (strOfNums x8_1)) w') ∧ (Kd.R (Kd.int .u8) 5 w' w.heap.size (fun _ => True) (.slice Ao11 x8_1.length co11) x8_1) ∧ (Below w.heap.size w w') ∧ (Kd.C Kd.string w' (some ⟨s_.2.2.2, 0, none⟩) 1 [(a2.extract 0 (ji6 : Int).toNat)])) ?_ ?_
            rotate_left
            · intro hJ4_5_9_10_14_15_20
              refine join_ (σ := Nat × Nat × Nat) 6 #[true, true, true, true, true, true, true, true, true, true, true, true, true, true, true, true, true, true, true, true, false, false, false, false, false, false] (fun s_ => [(43, .slice (some ⟨s_.1, 0, none⟩) 1 1), (44, .int .u32 r0_), (48, .slice (some ⟨s_.2.1, 0, none⟩) 1 1), (49, .int .u32 r1_), (53, .slice (some ⟨s_.2.2, 0, none⟩) 1 1), (54, .int .u32 r2_), (55, .int .u32 (Go.bits .xor .u32 r1_ r2_))]) (fun s_ w' => ((convert 32 9 (.slice Ao11 x8_1.length co11)).run Try.prog w' = .ok (.string (strOfNums x8_1)) w') ∧ (Kd.R (Kd.int .u8) 5 w' w.heap.size (fun _ => True) (.slice Ao11 x8_1.length co11) x8_1) ∧ (Below w.heap.size w w')) ?_ ?_
              rotate_left
              · intro hJ4_5_9_10_14_15
                refine join_ (σ := Nat × Nat × Nat × Nat) 7 #[true, true, true, true, true, true, true, true, true, true, true, true, true, true, true, false, false, true, true, true, true, false, false, false, false, false] (fun s_ => [(43, .slice (some ⟨s_.1, 0, none⟩) 1 1), (44, .int .u32 r0_), (48, .slice (some ⟨s_.2.1, 0, none⟩) 1 1), (49, .int .u32 r1_), (53, .slice (some ⟨s_.2.2.1, 0, none⟩) 1 1), (59, .slice (some ⟨s_.2.2.2, 0, none⟩) 1 1)]) (fun s_ w' => ((convert 32 9 (.slice Ao11 x8_1.length co11)).run Try.prog w' = .ok (.string (strOfNums x8_1)) w') ∧ (Kd.R (Kd.int .u8) 5 w' w.heap.size (fun _ => True) (.slice Ao11 x8_1.length co11) x8_1) ∧ (Below w.heap.size w w') ∧ (Kd.C Kd.string w' (some ⟨s_.2.2.1, 0, none⟩) 1 [(a1.extract 0 (ji6 : Int).toNat)]) ∧ (Kd.C Kd.string w' (some ⟨s_.2.2.2, 0, none⟩) 1 [(a2.extract 0 (ji6 : Int).toNat)])) ?_ ?_
                rotate_left
                · intro hJ4_5_9_10_14_20
                  refine join_ (σ := Nat × Nat × Nat) 8 #[true, true, true, true, true, true, true, true, true, true, true, true, true, true, true, false, false, true, true, true, false, false, false, false, false, false] (fun s_ => [(43, .slice (some ⟨s_.1, 0, none⟩) 1 1), (44, .int .u32 r0_), (48, .slice (some ⟨s_.2.1, 0, none⟩) 1 1), (49, .int .u32 r1_), (53, .slice (some ⟨s_.2.2, 0, none⟩) 1 1)]) (fun s_ w' => ((convert 32 9 (.slice Ao11 x8_1.length co11)).run Try.prog w' = .ok (.string (strOfNums x8_1)) w') ∧ (Kd.R (Kd.int .u8) 5 w' w.heap.size (fun _ => True) (.slice Ao11 x8_1.length co11) x8_1) ∧ (Below w.heap.size w w') ∧ (Kd.C Kd.string w' (some ⟨s_.2.2, 0, none⟩) 1 [(a1.extract 0 (ji6 : Int).toNat)])) ?_ ?_
                  rotate_left
                  · intro hJ4_5_9_10_14
                    refine join_ (σ := Nat × Nat × Nat) 8 #[true, true, true, true, true, true, true, true, true, true, true, true, true, true, false, false, false, true, true, true, true, false, false, false, false, false] (fun s_ => [(43, .slice (some ⟨s_.1, 0, none⟩) 1 1), (44, .int .u32 r0_), (48, .slice (some ⟨s_.2.1, 0, none⟩) 1 1), (49, .int .u32 r1_), (59, .slice (some ⟨s_.2.2, 0, none⟩) 1 1)]) (fun s_ w' => ((convert 32 9 (.slice Ao11 x8_1.length co11)).run Try.prog w' = .ok (.string (strOfNums x8_1)) w') ∧ (Kd.R (Kd.int .u8) 5 w' w.heap.size (fun _ => True) (.slice Ao11 x8_1.length co11) x8_1) ∧ (Below w.heap.size w w') ∧ (Kd.C Kd.string w' (some ⟨s_.2.2, 0, none⟩) 1 [(a2.extract 0 (ji6 : Int).toNat)])) ?_ ?_
                    rotate_left
                    · intro hJ4_5_9_10_20
                      refine join_ (σ := Nat × Nat × Nat × Nat) 8 #[true, true, true, true, true, true, true, true, true, true, false, true, true, true, true, false, false, true, true, true, true, false, false, false, false, false] (fun s_ => [(43, .slice (some ⟨s_.1, 0, none⟩) 1 1), (44, .int .u32 r0_), (48, .slice (some ⟨s_.2.1, 0, none⟩) 1 1), (53, .slice (some ⟨s_.2.2.1, 0, none⟩) 1 1), (59, .slice (some ⟨s_.2.2.2, 0, none⟩) 1 1)]) (fun s_ w' => ((convert 32 9 (.slice Ao11 x8_1.length co11)).run Try.prog w' = .ok (.string (strOfNums x8_1)) w') ∧ (Kd.R (Kd.int .u8) 5 w' w.heap.size (fun _ => True) (.slice Ao11 x8_1.length co11) x8_1) ∧ (Below w.heap.size w w') ∧ (Kd.C Kd.string w' (some ⟨s_.2.1, 0, none⟩) 1 [(a0.extract 0 (ji6 : Int).toNat)]) ∧ (Kd.C Kd.string w' (some ⟨s_.2.2.1, 0, none⟩) 1 [(a1.extract 0 (ji6 : Int).toNat)]) ∧ (Kd.C Kd.string w' (some ⟨s_.2.2.2, 0, none⟩) 1 [(a2.extract 0 (ji6 : Int).toNat)])) ?_ ?_
                      rotate_left
                      · intro hJ4_5_9_14_20
                        refine join_ (σ := Nat × Nat) 9 #[true, true, true, true, true, true, true, true, true, true, true, true, true, true, false, false, false, true, true, true, false, false, false, false, false, false] (fun s_ => [(43, .slice (some ⟨s_.1, 0, none⟩) 1 1), (44, .int .u32 r0_), (48, .slice (some ⟨s_.2, 0, none⟩) 1 1), (49, .int .u32 r1_)]) (fun s_ w' => ((convert 32 9 (.slice Ao11 x8_1.length co11)).run Try.prog w' = .ok (.string (strOfNums x8_1)) w') ∧ (Kd.R (Kd.int .u8) 5 w' w.heap.size (fun _ => True) (.slice Ao11 x8_1.length co11) x8_1) ∧ (Below w.heap.size w w')) ?_ ?_
                        rotate_left
                        · intro hJ4_5_9_10
                          refine join_ (σ := Nat × Nat × Nat) 9 #[true, true, true, true, true, true, true, true, true, true, false, true, true, true, true, false, false, true, true, true, false, false, false, false, false, false] (fun s_ => [(43, .slice (some ⟨s_.1, 0, none⟩) 1 1), (44, .int .u32 r0_), (48, .slice (some ⟨s_.2.1, 0, none⟩) 1 1), (53, .slice (some ⟨s_.2.2, 0, none⟩) 1 1)]) (fun s_ w' => ((convert 32 9 (.slice Ao11 x8_1.length co11)).run Try.prog w' = .ok (.string (strOfNums x8_1)) w') ∧ (Kd.R (Kd.int .u8) 5 w' w.heap.size (fun _ => True) (.slice Ao11 x8_1.length co11) x8_1) ∧ (Below w.heap.size w w') ∧ (Kd.C Kd.string w' (some ⟨s_.2.1, 0, none⟩) 1 [(a0.extract 0 (ji6 : Int).toNat)]) ∧ (Kd.C Kd.string w' (some ⟨s_.2.2, 0, none⟩) 1 [(a1.extract 0 (ji6 : Int).toNat)])) ?_ ?_
                          rotate_left
                          · intro hJ4_5_9_14
                            refine join_ (σ := Nat × Nat × Nat) 9 #[true, true, true, true, true, true, true, true, true, true, false, true, true, true, false, false, false, true, true, true, true, false, false, false, false, false] (fun s_ => [(43, .slice (some ⟨s_.1, 0, none⟩) 1 1), (44, .int .u32 r0_), (48, .slice (some ⟨s_.2.1, 0, none⟩) 1 1), (59, .slice (some ⟨s_.2.2, 0, none⟩) 1 1)]) (fun s_ w' => ((convert 32 9 (.slice Ao11 x8_1.length co11)).run Try.prog w' = .ok (.string (strOfNums x8_1)) w') ∧ (Kd.R (Kd.int .u8) 5 w' w.heap.size (fun _ => True) (.slice Ao11 x8_1.length co11) x8_1) ∧ (Below w.heap.size w w') ∧ (Kd.C Kd.string w' (some ⟨s_.2.1, 0, none⟩) 1 [(a0.extract 0 (ji6 : Int).toNat)]) ∧ (Kd.C Kd.string w' (some ⟨s_.2.2, 0, none⟩) 1 [(a2.extract 0 (ji6 : Int).toNat)])) ?_ ?_
                            rotate_left
                            · intro hJ4_5_9_20
                              refine join_ (σ := Nat × Nat × Nat) 9 #[true, true, true, true, true, true, true, true, true, false, false, true, true, true, true, false, false, true, true, true, true, false, false, false, false, false] (fun s_ => [(43, .slice (some ⟨s_.1, 0, none⟩) 1 1), (44, .int .u32 r0_), (53, .slice (some ⟨s_.2.1, 0, none⟩) 1 1), (59, .slice (some ⟨s_.2.2, 0, none⟩) 1 1)]) (fun s_ w' => ((convert 32 9 (.slice Ao11 x8_1.length co11)).run Try.prog w' = .ok (.string (strOfNums x8_1)) w') ∧ (Kd.R (Kd.int .u8) 5 w' w.heap.size (fun _ => True) (.slice Ao11 x8_1.length co11) x8_1) ∧ (Below w.heap.size w w') ∧ (Kd.C Kd.string w' (some ⟨s_.2.1, 0, none⟩) 1 [(a1.extract 0 (ji6 : Int).toNat)]) ∧ (Kd.C Kd.string w' (some ⟨s_.2.2, 0, none⟩) 1 [(a2.extract 0 (ji6 : Int).toNat)])) ?_ ?_
                              rotate_left
                              · intro hJ4_5_14_20
                                refine join_ (σ := Nat × Nat × Nat × Nat) 9 #[true, true, true, true, true, false, true, true, true, true, false, true, true, true, true, false, false, true, true, true, true, false, false, false, false, false] (fun s_ => [(43, .slice (some ⟨s_.1, 0, none⟩) 1 1), (48, .slice (some ⟨s_.2.1, 0, none⟩) 1 1), (53, .slice (some ⟨s_.2.2.1, 0, none⟩) 1 1), (59, .slice (some ⟨s_.2.2.2, 0, none⟩) 1 1)]) (fun s_ w' => ((convert 32 9 (.slice Ao11 x8_1.length co11)).run Try.prog w' = .ok (.string (strOfNums x8_1)) w') ∧ (Kd.R (Kd.int .u8) 5 w' w.heap.size (fun _ => True) (.slice Ao11 x8_1.length co11) x8_1) ∧ (Below w.heap.size w w') ∧ (Kd.C Kd.string w' (some ⟨s_.1, 0, none⟩) 1 [(strOfNums x8_1)]) ∧ (Kd.C Kd.string w' (some ⟨s_.2.1, 0, none⟩) 1 [(a0.extract 0 (ji6 : Int).toNat)]) ∧ (Kd.C Kd.string w' (some ⟨s_.2.2.1, 0, none⟩) 1 [(a1.extract 0 (ji6 : Int).toNat)]) ∧ (Kd.C Kd.string w' (some ⟨s_.2.2.2, 0, none⟩) 1 [(a2.extract 0 (ji6 : Int).toNat)])) ?_ ?_
                                rotate_left
                                · intro hJ4_9_14_20
                                  refine join_ (σ := Nat × Nat) 10 #[true, true, true, true, true, true, true, true, true, true, false, true, true, true, false, false, false, true, true, true, false, false, false, false, false, false] (fun s_ => [(43, .slice (some ⟨s_.1, 0, none⟩) 1 1), (44, .int .u32 r0_), (48, .slice (some ⟨s_.2, 0, none⟩) 1 1)]) (fun s_ w' => ((convert 32 9 (.slice Ao11 x8_1.length co11)).run Try.prog w' = .ok (.string (strOfNums x8_1)) w') ∧ (Kd.R (Kd.int .u8) 5 w' w.heap.size (fun _ => True) (.slice Ao11 x8_1.length co11) x8_1) ∧ (Below w.heap.size w w') ∧ (Kd.C Kd.string w' (some ⟨s_.2, 0, none⟩) 1 [(a0.extract 0 (ji6 : Int).toNat)])) ?_ ?_
                                  rotate_left
                                  · intro hJ4_5_9
                                    refine join_ (σ := Nat × Nat) 10 #[true, true, true, true, true, true, true, true, true, false, false, true, true, true, true, false, false, true, true, true, false, false, false, false, false, false] (fun s_ => [(43, .slice (some ⟨s_.1, 0, none⟩) 1 1), (44, .int .u32 r0_), (53, .slice (some ⟨s_.2, 0, none⟩) 1 1)]) (fun s_ w' => ((convert 32 9 (.slice Ao11 x8_1.length co11)).run Try.prog w' = .ok (.string (strOfNums x8_1)) w') ∧ (Kd.R (Kd.int .u8) 5 w' w.heap.size (fun _ => True) (.slice Ao11 x8_1.length co11) x8_1) ∧ (Below w.heap.size w w') ∧ (Kd.C Kd.string w' (some ⟨s_.2, 0, none⟩) 1 [(a1.extract 0 (ji6 : Int).toNat)])) ?_ ?_
                                    rotate_left
                                    · intro hJ4_5_14
                                      refine join_ (σ := Nat × Nat) 10 #[true, true, true, true, true, true, true, true, true, false, false, true, true, true, false, false, false, true, true, true, true, false, false, false, false, false] (fun s_ => [(43, .slice (some ⟨s_.1, 0, none⟩) 1 1), (44, .int .u32 r0_), (59, .slice (some ⟨s_.2, 0, none⟩) 1 1)]) (fun s_ w' => ((convert 32 9 (.slice Ao11 x8_1.length co11)).run Try.prog w' = .ok (.string (strOfNums x8_1)) w') ∧ (Kd.R (Kd.int .u8) 5 w' w.heap.size (fun _ => True) (.slice Ao11 x8_1.length co11) x8_1) ∧ (Below w.heap.size w w') ∧ (Kd.C Kd.string w' (some ⟨s_.2, 0, none⟩) 1 [(a2.extract 0 (ji6 : Int).toNat)])) ?_ ?_
                                      rotate_left
                                      · intro hJ4_5_20
                                        refine join_ (σ := Nat × Nat × Nat) 10 #[true, true, true, true, true, false, true, true, true, true, false, true, true, true, true, false, false, true, true, true, false, false, false, false, false, false] (fun s_ => [(43, .slice (some ⟨s_.1, 0, none⟩) 1 1), (48, .slice (some ⟨s_.2.1, 0, none⟩) 1 1), (53, .slice (some ⟨s_.2.2, 0, none⟩) 1 1)]) (fun s_ w' => ((convert 32 9 (.slice Ao11 x8_1.length co11)).run Try.prog w' = .ok (.string (strOfNums x8_1)) w') ∧ (Kd.R (Kd.int .u8) 5 w' w.heap.size (fun _ => True) (.slice Ao11 x8_1.length co11) x8_1) ∧ (Below w.heap.size w w') ∧ (Kd.C Kd.string w' (some ⟨s_.1, 0, none⟩) 1 [(strOfNums x8_1)]) ∧ (Kd.C Kd.string w' (some ⟨s_.2.1, 0, none⟩) 1 [(a0.extract 0 (ji6 : Int).toNat)]) ∧ (Kd.C Kd.string w' (some ⟨s_.2.2, 0, none⟩) 1 [(a1.extract 0 (ji6 : Int).toNat)])) ?_ ?_
                                        rotate_left
                                        · intro hJ4_9_14
                                          refine join_ (σ := Nat × Nat × Nat) 10 #[true, true, true, true, true, false, true, true, true, true, false, true, true, true, false, false, false, true, true, true, true, false, false, false, false, false] (fun s_ => [(43, .slice (some ⟨s_.1, 0, none⟩) 1 1), (48, .slice (some ⟨s_.2.1, 0, none⟩) 1 1), (59, .slice (some ⟨s_.2.2, 0, none⟩) 1 1)]) (fun s_ w' => ((convert 32 9 (.slice Ao11 x8_1.length co11)).run Try.prog w' = .ok (.string (strOfNums x8_1)) w') ∧ (Kd.R (Kd.int .u8) 5 w' w.heap.size (fun _ => True) (.slice Ao11 x8_1.length co11) x8_1) ∧ (Below w.heap.size w w') ∧ (Kd.C Kd.string w' (some ⟨s_.1, 0, none⟩) 1 [(strOfNums x8_1)]) ∧ (Kd.C Kd.string w' (some ⟨s_.2.1, 0, none⟩) 1 [(a0.extract 0 (ji6 : Int).toNat)]) ∧ (Kd.C Kd.string w' (some ⟨s_.2.2, 0, none⟩) 1 [(a2.extract 0 (ji6 : Int).toNat)])) ?_ ?_
                                          rotate_left
                                          · intro hJ4_9_20
                                            refine join_ (σ := Nat × Nat × Nat) 10 #[true, true, true, true, true, false, true, true, true, false, false, true, true, true, true, false, false, true, true, true, true, false, false, false, false, false] (fun s_ => [(43, .slice (some ⟨s_.1, 0, none⟩) 1 1), (53, .slice (some ⟨s_.2.1, 0, none⟩) 1 1), (59, .slice (some ⟨s_.2.2, 0, none⟩) 1 1)]) (fun s_ w' => ((convert 32 9 (.slice Ao11 x8_1.length co11)).run Try.prog w' = .ok (.string (strOfNums x8_1)) w') ∧ (Kd.R (Kd.int .u8) 5 w' w.heap.size (fun _ => True) (.slice Ao11 x8_1.length co11) x8_1) ∧ (Below w.heap.size w w') ∧ (Kd.C Kd.string w' (some ⟨s_.1, 0, none⟩) 1 [(strOfNums x8_1)]) ∧ (Kd.C Kd.string w' (some ⟨s_.2.1, 0, none⟩) 1 [(a1.extract 0 (ji6 : Int).toNat)]) ∧ (Kd.C Kd.string w' (some ⟨s_.2.2, 0, none⟩) 1 [(a2.extract 0 (ji6 : Int).toNat)])) ?_ ?_
                                            rotate_left
                                            · intro hJ4_14_20
                                              refine join_ (σ := Nat × Nat × Nat) 10 #[true, true, true, true, false, false, true, true, true, true, false, true, true, true, true, false, false, true, true, true, true, false, false, false, false, false] (fun s_ => [(48, .slice (some ⟨s_.1, 0, none⟩) 1 1), (53, .slice (some ⟨s_.2.1, 0, none⟩) 1 1), (59, .slice (some ⟨s_.2.2, 0, none⟩) 1 1)]) (fun s_ w' => ((convert 32 9 (.slice Ao11 x8_1.length co11)).run Try.prog w' = .ok (.string (strOfNums x8_1)) w') ∧ (Kd.R (Kd.int .u8) 5 w' w.heap.size (fun _ => True) (.slice Ao11 x8_1.length co11) x8_1) ∧ (Below w.heap.size w w') ∧ (Kd.C Kd.string w' (some ⟨s_.1, 0, none⟩) 1 [(a0.extract 0 (ji6 : Int).toNat)]) ∧ (Kd.C Kd.string w' (some ⟨s_.2.1, 0, none⟩) 1 [(a1.extract 0 (ji6 : Int).toNat)]) ∧ (Kd.C Kd.string w' (some ⟨s_.2.2, 0, none⟩) 1 [(a2.extract 0 (ji6 : Int).toNat)])) ?_ ?_
                                              rotate_left
                                              · intro hJ9_14_20
                                                refine join_ (σ := Nat) 11 #[true, true, true, true, true, true, true, true, true, false, false, true, true, true, false, false, false, true, true, true, false, false, false, false, false, false] (fun s_ => [(43, .slice (some ⟨s_, 0, none⟩) 1 1), (44, .int .u32 r0_)]) (fun s_ w' => ((convert 32 9 (.slice Ao11 x8_1.length co11)).run Try.prog w' = .ok (.string (strOfNums x8_1)) w') ∧ (Kd.R (Kd.int .u8) 5 w' w.heap.size (fun _ => True) (.slice Ao11 x8_1.length co11) x8_1) ∧ (Below w.heap.size w w')) ?_ ?_
                                                rotate_left
                                                · intro hJ4_5
                                                  refine join_ (σ := Nat × Nat) 11 #[true, true, true, true, true, false, true, true, true, true, false, true, true, true, false, false, false, true, true, true, false, false, false, false, false, false] (fun s_ => [(43, .slice (some ⟨s_.1, 0, none⟩) 1 1), (48, .slice (some ⟨s_.2, 0, none⟩) 1 1)]) (fun s_ w' => ((convert 32 9 (.slice Ao11 x8_1.length co11)).run Try.prog w' = .ok (.string (strOfNums x8_1)) w') ∧ (Kd.R (Kd.int .u8) 5 w' w.heap.size (fun _ => True) (.slice Ao11 x8_1.length co11) x8_1) ∧ (Below w.heap.size w w') ∧ (Kd.C Kd.string w' (some ⟨s_.1, 0, none⟩) 1 [(strOfNums x8_1)]) ∧ (Kd.C Kd.string w' (some ⟨s_.2, 0, none⟩) 1 [(a0.extract 0 (ji6 : Int).toNat)])) ?_ ?_
                                                  rotate_left
                                                  · intro hJ4_9
                                                    refine join_ (σ := Nat × Nat) 11 #[true, true, true, true, true, false, true, true, true, false, false, true, true, true, true, false, false, true, true, true, false, false, false, false, false, false] (fun s_ => [(43, .slice (some ⟨s_.1, 0, none⟩) 1 1), (53, .slice (some ⟨s_.2, 0, none⟩) 1 1)]) (fun s_ w' => ((convert 32 9 (.slice Ao11 x8_1.length co11)).run Try.prog w' = .ok (.string (strOfNums x8_1)) w') ∧ (Kd.R (Kd.int .u8) 5 w' w.heap.size (fun _ => True) (.slice Ao11 x8_1.length co11) x8_1) ∧ (Below w.heap.size w w') ∧ (Kd.C Kd.string w' (some ⟨s_.1, 0, none⟩) 1 [(strOfNums x8_1)]) ∧ (Kd.C Kd.string w' (some ⟨s_.2, 0, none⟩) 1 [(a1.extract 0 (ji6 : Int).toNat)])) ?_ ?_
                                                    rotate_left
                                                    · intro hJ4_14
                                                      refine join_ (σ := Nat × Nat) 11 #[true, true, true, true, true, false, true, true, true, false, false, true, true, true, false, false, false, true, true, true, true, false, false, false, false, false] (fun s_ => [(43, .slice (some ⟨s_.1, 0, none⟩) 1 1), (59, .slice (some ⟨s_.2, 0, none⟩) 1 1)]) (fun s_ w' => ((convert 32 9 (.slice Ao11 x8_1.length co11)).run Try.prog w' = .ok (.string (strOfNums x8_1)) w') ∧ (Kd.R (Kd.int .u8) 5 w' w.heap.size (fun _ => True) (.slice Ao11 x8_1.length co11) x8_1) ∧ (Below w.heap.size w w') ∧ (Kd.C Kd.string w' (some ⟨s_.1, 0, none⟩) 1 [(strOfNums x8_1)]) ∧ (Kd.C Kd.string w' (some ⟨s_.2, 0, none⟩) 1 [(a2.extract 0 (ji6 : Int).toNat)])) ?_ ?_
                                                      rotate_left
                                                      · intro hJ4_20
                                                        refine join_ (σ := Nat × Nat) 11 #[true, true, true, true, false, false, true, true, true, true, false, true, true, true, true, false, false, true, true, true, false, false, false, false, false, false] (fun s_ => [(48, .slice (some ⟨s_.1, 0, none⟩) 1 1), (53, .slice (some ⟨s_.2, 0, none⟩) 1 1)]) (fun s_ w' => ((convert 32 9 (.slice Ao11 x8_1.length co11)).run Try.prog w' = .ok (.string (strOfNums x8_1)) w') ∧ (Kd.R (Kd.int .u8) 5 w' w.heap.size (fun _ => True) (.slice Ao11 x8_1.length co11) x8_1) ∧ (Below w.heap.size w w') ∧ (Kd.C Kd.string w' (some ⟨s_.1, 0, none⟩) 1 [(a0.extract 0 (ji6 : Int).toNat)]) ∧ (Kd.C Kd.string w' (some ⟨s_.2, 0, none⟩) 1 [(a1.extract 0 (ji6 : Int).toNat)])) ?_ ?_
                                                        rotate_left
                                                        · intro hJ9_14
                                                          refine join_ (σ := Nat × Nat) 11 #[true, true, true, true, false, false, true, true, true, true, false, true, true, true, false, false, false, true, true, true, true, false, false, false, false, false] (fun s_ => [(48, .slice (some ⟨s_.1, 0, none⟩) 1 1), (59, .slice (some ⟨s_.2, 0, none⟩) 1 1)]) (fun s_ w' => ((convert 32 9 (.slice Ao11 x8_1.length co11)).run Try.prog w' = .ok (.string (strOfNums x8_1)) w') ∧ (Kd.R (Kd.int .u8) 5 w' w.heap.size (fun _ => True) (.slice Ao11 x8_1.length co11) x8_1) ∧ (Below w.heap.size w w') ∧ (Kd.C Kd.string w' (some ⟨s_.1, 0, none⟩) 1 [(a0.extract 0 (ji6 : Int).toNat)]) ∧ (Kd.C Kd.string w' (some ⟨s_.2, 0, none⟩) 1 [(a2.extract 0 (ji6 : Int).toNat)])) ?_ ?_
                                                          rotate_left
                                                          · intro hJ9_20
                                                            refine join_ (σ := Nat × Nat) 11 #[true, true, true, true, false, false, true, true, true, false, false, true, true, true, true, false, false, true, true, true, true, false, false, false, false, false] (fun s_ => [(53, .slice (some ⟨s_.1, 0, none⟩) 1 1), (59, .slice (some ⟨s_.2, 0, none⟩) 1 1)]) (fun s_ w' => ((convert 32 9 (.slice Ao11 x8_1.length co11)).run Try.prog w' = .ok (.string (strOfNums x8_1)) w') ∧ (Kd.R (Kd.int .u8) 5 w' w.heap.size (fun _ => True) (.slice Ao11 x8_1.length co11) x8_1) ∧ (Below w.heap.size w w') ∧ (Kd.C Kd.string w' (some ⟨s_.1, 0, none⟩) 1 [(a1.extract 0 (ji6 : Int).toNat)]) ∧ (Kd.C Kd.string w' (some ⟨s_.2, 0, none⟩) 1 [(a2.extract 0 (ji6 : Int).toNat)])) ?_ ?_
                                                            rotate_left
                                                            · intro hJ14_20
                                                              refine join_ (σ := Nat) 12 #[true, true, true, true, true, false, true, true, true, false, false, true, true, true, false, false, false, true, true, true, false, false, false, false, false, false] (fun s_ => [(43, .slice (some ⟨s_, 0, none⟩) 1 1)]) (fun s_ w' => ((convert 32 9 (.slice Ao11 x8_1.length co11)).run Try.prog w' = .ok (.string (strOfNums x8_1)) w') ∧ (Kd.R (Kd.int .u8) 5 w' w.heap.size (fun _ => True) (.slice Ao11 x8_1.length co11) x8_1) ∧ (Below w.heap.size w w') ∧ (Kd.C Kd.string w' (some ⟨s_, 0, none⟩) 1 [(strOfNums x8_1)])) ?_ ?_
                                                              rotate_left
                                                              · intro hJ4
                                                                refine join_ (σ := Nat) 12 #[true, true, true, true, false, false, true, true, true, true, false, true, true, true, false, false, false, true, true, true, false, false, false, false, false, false] (fun s_ => [(48, .slice (some ⟨s_, 0, none⟩) 1 1)]) (fun s_ w' => ((convert 32 9 (.slice Ao11 x8_1.length co11)).run Try.prog w' = .ok (.string (strOfNums x8_1)) w') ∧ (Kd.R (Kd.int .u8) 5 w' w.heap.size (fun _ => True) (.slice Ao11 x8_1.length co11) x8_1) ∧ (Below w.heap.size w w') ∧ (Kd.C Kd.string w' (some ⟨s_, 0, none⟩) 1 [(a0.extract 0 (ji6 : Int).toNat)])) ?_ ?_
                                                                rotate_left
                                                                · intro hJ9
                                                                  refine join_ (σ := Nat) 12 #[true, true, true, true, false, false, true, true, true, false, false, true, true, true, true, false, false, true, true, true, false, false, false, false, false, false] (fun s_ => [(53, .slice (some ⟨s_, 0, none⟩) 1 1)]) (fun s_ w' => ((convert 32 9 (.slice Ao11 x8_1.length co11)).run Try.prog w' = .ok (.string (strOfNums x8_1)) w') ∧ (Kd.R (Kd.int .u8) 5 w' w.heap.size (fun _ => True) (.slice Ao11 x8_1.length co11) x8_1) ∧ (Below w.heap.size w w') ∧ (Kd.C Kd.string w' (some ⟨s_, 0, none⟩) 1 [(a1.extract 0 (ji6 : Int).toNat)])) ?_ ?_
                                                                  rotate_left
                                                                  · intro hJ14
                                                                    refine join_ (σ := Nat) 12 #[true, true, true, true, false, false, true, true, true, false, false, true, true, true, false, false, false, true, true, true, true, false, false, false, false, false] (fun s_ => [(59, .slice (some ⟨s_, 0, none⟩) 1 1)]) (fun s_ w' => ((convert 32 9 (.slice Ao11 x8_1.length co11)).run Try.prog w' = .ok (.string (strOfNums x8_1)) w') ∧ (Kd.R (Kd.int .u8) 5 w' w.heap.size (fun _ => True) (.slice Ao11 x8_1.length co11) x8_1) ∧ (Below w.heap.size w w') ∧ (Kd.C Kd.string w' (some ⟨s_, 0, none⟩) 1 [(a2.extract 0 (ji6 : Int).toNat)])) ?_ ?_
                                                                    rotate_left
                                                                    · intro hJ20
                                                                      refine four_ (i := 4) (j := 9) (k := 14) (m := 20) (Ni := some 43) (Nj := some 48) (Nk := some 53) (Nm := some 59) #[true, true, true, true, true, false, true, true, true, false, false, true, true, true, false, false, false, true, true, true, false, false, false, false, false, false] #[true, true, true, true, false, false, true, true, true, true, false, true, true, true, false, false, false, true, true, true, false, false, false, false, false, false] #[true, true, true, true, false, false, true, true, true, false, false, true, true, true, true, false, false, true, true, true, false, false, false, false, false, false] #[true, true, true, true, false, false, true, true, true, false, false, true, true, true, false, false, false, true, true, true, true, false, false, false, false, false] rfl rfl rfl rfl rfl rfl rfl rfl (by kernel_rfl) (by decide) (by decide) (by decide) (by decide) (fun K hK => ?_) (fun K hK => ?_) (fun K hK => ?_) (fun K hK => ?_)
                                                                      · skip
                                                                        refine value_ (w1 := ?_) (v := ?_) (by rfl) rfl ?_ ?_
                                                                        rotate_left 2
                                                                        · go_simp
                                                                          constructor
                                                                          · rfl
                                                                          · rfl
                                                                        refine hK.out _ _ ((own_string (P := Try.prog) Try.underlying32 Try.underlying5 Try.underlying9 (Kd.own_of_R (Kd.R_alloc HO_8.out _)))) (fun hHeld => ?_)
                                                                        clear hK K
                                                                        refine norm_ (a' := ?_) ?_ ?_
                                                                        rotate_left
                                                                        · show Act.put _ (some 43) _ = _
                                                                          simp only [Act.put, List.setIfInBounds_toArray, List.set_cons_zero, List.set_cons_succ, i64_w, i32_w]
                                                                          rfl
                                                                        exact norm_ (by first | (simp only [putAll, Act.put, List.setIfInBounds_toArray, List.set_cons_zero, List.set_cons_succ]; done) | (simp only [putAll, Act.put, List.setIfInBounds_toArray, List.set_cons_zero, List.set_cons_succ]; rfl)) (hJ4 (w26.heap.size) _ ⟨hHeld, Kd.R_alloc HO_8.out _, below_alloc HB.out _, C_new w26 (strOfNums x8_1)⟩)
                                                                      · skip
                                                                        refine value_ (w1 := ?_) (v := ?_) (by rfl) rfl ?_ ?_
                                                                        rotate_left 2
                                                                        · go_simp
                                                                          constructor
                                                                          · rfl
                                                                          · rfl
                                                                        refine hK.out _ _ ((own_string (P := Try.prog) Try.underlying32 Try.underlying5 Try.underlying9 (Kd.own_of_R (Kd.R_alloc HO_8.out _)))) (fun hHeld => ?_)
                                                                        clear hK K
                                                                        refine norm_ (a' := ?_) ?_ ?_
                                                                        rotate_left
                                                                        · show Act.put _ (some 48) _ = _
                                                                          simp only [Act.put, List.setIfInBounds_toArray, List.set_cons_zero, List.set_cons_succ, i64_w, i32_w]
                                                                          rfl
                                                                        exact norm_ (by first | (simp only [putAll, Act.put, List.setIfInBounds_toArray, List.set_cons_zero, List.set_cons_succ]; done) | (simp only [putAll, Act.put, List.setIfInBounds_toArray, List.set_cons_zero, List.set_cons_succ]; rfl)) (hJ9 (w26.heap.size) _ ⟨hHeld, Kd.R_alloc HO_8.out _, below_alloc HB.out _, C_new w26 (a0.extract 0 (ji6 : Int).toNat)⟩)
                                                                      · skip
                                                                        refine value_ (w1 := ?_) (v := ?_) (by rfl) rfl ?_ ?_
                                                                        rotate_left 2
                                                                        · go_simp
                                                                          constructor
                                                                          · rfl
                                                                          · rfl
                                                                        refine hK.out _ _ ((own_string (P := Try.prog) Try.underlying32 Try.underlying5 Try.underlying9 (Kd.own_of_R (Kd.R_alloc HO_8.out _)))) (fun hHeld => ?_)
                                                                        clear hK K
                                                                        refine norm_ (a' := ?_) ?_ ?_
                                                                        rotate_left
                                                                        · show Act.put _ (some 53) _ = _
                                                                          simp only [Act.put, List.setIfInBounds_toArray, List.set_cons_zero, List.set_cons_succ, i64_w, i32_w]
                                                                          rfl
                                                                        exact norm_ (by first | (simp only [putAll, Act.put, List.setIfInBounds_toArray, List.set_cons_zero, List.set_cons_succ]; done) | (simp only [putAll, Act.put, List.setIfInBounds_toArray, List.set_cons_zero, List.set_cons_succ]; rfl)) (hJ14 (w26.heap.size) _ ⟨hHeld, Kd.R_alloc HO_8.out _, below_alloc HB.out _, C_new w26 (a1.extract 0 (ji6 : Int).toNat)⟩)
                                                                      · skip
                                                                        refine value_ (w1 := ?_) (v := ?_) (by rfl) rfl ?_ ?_
                                                                        rotate_left 2
                                                                        · go_simp
                                                                          constructor
                                                                          · rfl
                                                                          · rfl
                                                                        refine hK.out _ _ ((own_string (P := Try.prog) Try.underlying32 Try.underlying5 Try.underlying9 (Kd.own_of_R (Kd.R_alloc HO_8.out _)))) (fun hHeld => ?_)
                                                                        clear hK K
                                                                        refine norm_ (a' := ?_) ?_ ?_
                                                                        rotate_left
                                                                        · show Act.put _ (some 59) _ = _
                                                                          simp only [Act.put, List.setIfInBounds_toArray, List.set_cons_zero, List.set_cons_succ, i64_w, i32_w]
                                                                          rfl
                                                                        exact norm_ (by first | (simp only [putAll, Act.put, List.setIfInBounds_toArray, List.set_cons_zero, List.set_cons_succ]; done) | (simp only [putAll, Act.put, List.setIfInBounds_toArray, List.set_cons_zero, List.set_cons_succ]; rfl)) (hJ20 (w26.heap.size) _ ⟨hHeld, Kd.R_alloc HO_8.out _, below_alloc HB.out _, C_new w26 (a2.extract 0 (ji6 : Int).toNat)⟩)
                                                                    · skip
                                                                      rintro g20 v20 ⟨hS_, h0_, h1_, b20_⟩
                                                                      have HO_8 : Aside0 (Kd.R (Kd.int .u8) 5 v20 w.heap.size (fun _ => True) (.slice Ao11 x8_1.length co11) x8_1) := ⟨h0_⟩
                                                                      have HB : Aside0 (Below w.heap.size w v20) := ⟨h1_⟩
                                                                      have B20 : Aside0 (Kd.C Kd.string v20 (some ⟨g20, 0, none⟩) 1 [(a2.extract 0 (ji6 : Int).toNat)]) := ⟨b20_⟩
                                                                      have hHeld : (convert 32 9 (.slice Ao11 x8_1.length co11)).run Try.prog v20 = .ok (.string (strOfNums x8_1)) v20 := hS_
                                                                      clear hS_ h0_ h1_ b20_
                                                                      refine norm_ (a' := ?_) ?_ ?_
                                                                      rotate_left
                                                                      · simp only [putAll, Act.put, List.setIfInBounds_toArray, List.set_cons_zero, List.set_cons_succ]
                                                                        rfl
                                                                      refine three_ (i := 4) (j := 9) (k := 14) (Ni := some 43) (Nj := some 48) (Nk := some 53) #[true, true, true, true, true, false, true, true, true, false, false, true, true, true, false, false, false, true, true, true, true, false, false, false, false, false] #[true, true, true, true, false, false, true, true, true, true, false, true, true, true, false, false, false, true, true, true, true, false, false, false, false, false] #[true, true, true, true, false, false, true, true, true, false, false, true, true, true, true, false, false, true, true, true, true, false, false, false, false, false] rfl rfl rfl rfl rfl rfl (by kernel_rfl) (by decide) (by decide) (by decide) (fun K hK => ?_) (fun K hK => ?_) (fun K hK => ?_)
                                                                      · skip
                                                                        refine value_ (w1 := ?_) (v := ?_) (by rfl) rfl ?_ ?_
                                                                        rotate_left 2
                                                                        · go_simp
                                                                          constructor
                                                                          · rfl
                                                                          · rfl
                                                                        refine hK.out _ _ ((own_string (P := Try.prog) Try.underlying32 Try.underlying5 Try.underlying9 (Kd.own_of_R (Kd.R_alloc HO_8.out _)))) (fun hHeld => ?_)
                                                                        clear hK K
                                                                        refine norm_ (a' := ?_) ?_ ?_
                                                                        rotate_left
                                                                        · show Act.put _ (some 43) _ = _
                                                                          simp only [Act.put, List.setIfInBounds_toArray, List.set_cons_zero, List.set_cons_succ, i64_w, i32_w]
                                                                          rfl
                                                                        exact norm_ (by first | (simp only [putAll, Act.put, List.setIfInBounds_toArray, List.set_cons_zero, List.set_cons_succ]; done) | (simp only [putAll, Act.put, List.setIfInBounds_toArray, List.set_cons_zero, List.set_cons_succ]; rfl)) (hJ4_20 (v20.heap.size, g20) _ ⟨hHeld, Kd.R_alloc HO_8.out _, below_alloc HB.out _, C_new v20 (strOfNums x8_1), Kd.C_alloc B20.out _⟩)
                                                                      · skip
                                                                        refine value_ (w1 := ?_) (v := ?_) (by rfl) rfl ?_ ?_
                                                                        rotate_left 2
                                                                        · go_simp
                                                                          constructor
                                                                          · rfl
                                                                          · rfl
                                                                        refine hK.out _ _ ((own_string (P := Try.prog) Try.underlying32 Try.underlying5 Try.underlying9 (Kd.own_of_R (Kd.R_alloc HO_8.out _)))) (fun hHeld => ?_)
                                                                        clear hK K
                                                                        refine norm_ (a' := ?_) ?_ ?_
                                                                        rotate_left
                                                                        · show Act.put _ (some 48) _ = _
                                                                          simp only [Act.put, List.setIfInBounds_toArray, List.set_cons_zero, List.set_cons_succ, i64_w, i32_w]
                                                                          rfl
                                                                        exact norm_ (by first | (simp only [putAll, Act.put, List.setIfInBounds_toArray, List.set_cons_zero, List.set_cons_succ]; done) | (simp only [putAll, Act.put, List.setIfInBounds_toArray, List.set_cons_zero, List.set_cons_succ]; rfl)) (hJ9_20 (v20.heap.size, g20) _ ⟨hHeld, Kd.R_alloc HO_8.out _, below_alloc HB.out _, C_new v20 (a0.extract 0 (ji6 : Int).toNat), Kd.C_alloc B20.out _⟩)
                                                                      · skip
                                                                        refine value_ (w1 := ?_) (v := ?_) (by rfl) rfl ?_ ?_
                                                                        rotate_left 2
                                                                        · go_simp
                                                                          constructor
                                                                          · rfl
                                                                          · rfl
                                                                        refine hK.out _ _ ((own_string (P := Try.prog) Try.underlying32 Try.underlying5 Try.underlying9 (Kd.own_of_R (Kd.R_alloc HO_8.out _)))) (fun hHeld => ?_)
                                                                        clear hK K
                                                                        refine norm_ (a' := ?_) ?_ ?_
                                                                        rotate_left
                                                                        · show Act.put _ (some 53) _ = _
                                                                          simp only [Act.put, List.setIfInBounds_toArray, List.set_cons_zero, List.set_cons_succ, i64_w, i32_w]
                                                                          rfl
                                                                        exact norm_ (by first | (simp only [putAll, Act.put, List.setIfInBounds_toArray, List.set_cons_zero, List.set_cons_succ]; done) | (simp only [putAll, Act.put, List.setIfInBounds_toArray, List.set_cons_zero, List.set_cons_succ]; rfl)) (hJ14_20 (v20.heap.size, g20) _ ⟨hHeld, Kd.R_alloc HO_8.out _, below_alloc HB.out _, C_new v20 (a1.extract 0 (ji6 : Int).toNat), Kd.C_alloc B20.out _⟩)
                                                                  · skip
                                                                    rintro g14 v14 ⟨hS_, h0_, h1_, b14_⟩
                                                                    have HO_8 : Aside0 (Kd.R (Kd.int .u8) 5 v14 w.heap.size (fun _ => True) (.slice Ao11 x8_1.length co11) x8_1) := ⟨h0_⟩
                                                                    have HB : Aside0 (Below w.heap.size w v14) := ⟨h1_⟩
                                                                    have B14 : Aside0 (Kd.C Kd.string v14 (some ⟨g14, 0, none⟩) 1 [(a1.extract 0 (ji6 : Int).toNat)]) := ⟨b14_⟩
                                                                    have hHeld : (convert 32 9 (.slice Ao11 x8_1.length co11)).run Try.prog v14 = .ok (.string (strOfNums x8_1)) v14 := hS_
                                                                    clear hS_ h0_ h1_ b14_
                                                                    refine norm_ (a' := ?_) ?_ ?_
                                                                    rotate_left
                                                                    · simp only [putAll, Act.put, List.setIfInBounds_toArray, List.set_cons_zero, List.set_cons_succ]
                                                                      rfl
                                                                    refine three_ (i := 4) (j := 9) (k := 20) (Ni := some 43) (Nj := some 48) (Nk := some 59) #[true, true, true, true, true, false, true, true, true, false, false, true, true, true, true, false, false, true, true, true, false, false, false, false, false, false] #[true, true, true, true, false, false, true, true, true, true, false, true, true, true, true, false, false, true, true, true, false, false, false, false, false, false] #[true, true, true, true, false, false, true, true, true, false, false, true, true, true, true, false, false, true, true, true, true, false, false, false, false, false] rfl rfl rfl rfl rfl rfl (by kernel_rfl) (by decide) (by decide) (by decide) (fun K hK => ?_) (fun K hK => ?_) (fun K hK => ?_)
                                                                    · skip
                                                                      refine value_ (w1 := ?_) (v := ?_) (by rfl) rfl ?_ ?_
                                                                      rotate_left 2
                                                                      · go_simp
                                                                        constructor
                                                                        · rfl
                                                                        · rfl
                                                                      refine hK.out _ _ ((own_string (P := Try.prog) Try.underlying32 Try.underlying5 Try.underlying9 (Kd.own_of_R (Kd.R_alloc HO_8.out _)))) (fun hHeld => ?_)
                                                                      clear hK K
                                                                      refine norm_ (a' := ?_) ?_ ?_
                                                                      rotate_left
                                                                      · show Act.put _ (some 43) _ = _
                                                                        simp only [Act.put, List.setIfInBounds_toArray, List.set_cons_zero, List.set_cons_succ, i64_w, i32_w]
                                                                        rfl
                                                                      exact norm_ (by first | (simp only [putAll, Act.put, List.setIfInBounds_toArray, List.set_cons_zero, List.set_cons_succ]; done) | (simp only [putAll, Act.put, List.setIfInBounds_toArray, List.set_cons_zero, List.set_cons_succ]; rfl)) (hJ4_14 (v14.heap.size, g14) _ ⟨hHeld, Kd.R_alloc HO_8.out _, below_alloc HB.out _, C_new v14 (strOfNums x8_1), Kd.C_alloc B14.out _⟩)
                                                                    · skip
                                                                      refine value_ (w1 := ?_) (v := ?_) (by rfl) rfl ?_ ?_
                                                                      rotate_left 2
                                                                      · go_simp
                                                                        constructor
                                                                        · rfl
                                                                        · rfl
                                                                      refine hK.out _ _ ((own_string (P := Try.prog) Try.underlying32 Try.underlying5 Try.underlying9 (Kd.own_of_R (Kd.R_alloc HO_8.out _)))) (fun hHeld => ?_)
                                                                      clear hK K
                                                                      refine norm_ (a' := ?_) ?_ ?_
                                                                      rotate_left
                                                                      · show Act.put _ (some 48) _ = _
                                                                        simp only [Act.put, List.setIfInBounds_toArray, List.set_cons_zero, List.set_cons_succ, i64_w, i32_w]
                                                                        rfl
                                                                      exact norm_ (by first | (simp only [putAll, Act.put, List.setIfInBounds_toArray, List.set_cons_zero, List.set_cons_succ]; done) | (simp only [putAll, Act.put, List.setIfInBounds_toArray, List.set_cons_zero, List.set_cons_succ]; rfl)) (hJ9_14 (v14.heap.size, g14) _ ⟨hHeld, Kd.R_alloc HO_8.out _, below_alloc HB.out _, C_new v14 (a0.extract 0 (ji6 : Int).toNat), Kd.C_alloc B14.out _⟩)
                                                                    · skip
                                                                      refine value_ (w1 := ?_) (v := ?_) (by rfl) rfl ?_ ?_
                                                                      rotate_left 2
                                                                      · go_simp
                                                                        constructor
                                                                        · rfl
                                                                        · rfl
                                                                      refine hK.out _ _ ((own_string (P := Try.prog) Try.underlying32 Try.underlying5 Try.underlying9 (Kd.own_of_R (Kd.R_alloc HO_8.out _)))) (fun hHeld => ?_)
                                                                      clear hK K
                                                                      refine norm_ (a' := ?_) ?_ ?_
                                                                      rotate_left
                                                                      · show Act.put _ (some 59) _ = _
                                                                        simp only [Act.put, List.setIfInBounds_toArray, List.set_cons_zero, List.set_cons_succ, i64_w, i32_w]
                                                                        rfl
                                                                      exact norm_ (by first | (simp only [putAll, Act.put, List.setIfInBounds_toArray, List.set_cons_zero, List.set_cons_succ]; done) | (simp only [putAll, Act.put, List.setIfInBounds_toArray, List.set_cons_zero, List.set_cons_succ]; rfl)) (hJ14_20 (g14, v14.heap.size) _ ⟨hHeld, Kd.R_alloc HO_8.out _, below_alloc HB.out _, Kd.C_alloc B14.out _, C_new v14 (a2.extract 0 (ji6 : Int).toNat)⟩)
                                                                · skip
                                                                  rintro g9 v9 ⟨hS_, h0_, h1_, b9_⟩
                                                                  have HO_8 : Aside0 (Kd.R (Kd.int .u8) 5 v9 w.heap.size (fun _ => True) (.slice Ao11 x8_1.length co11) x8_1) := ⟨h0_⟩
                                                                  have HB : Aside0 (Below w.heap.size w v9) := ⟨h1_⟩
                                                                  have B9 : Aside0 (Kd.C Kd.string v9 (some ⟨g9, 0, none⟩) 1 [(a0.extract 0 (ji6 : Int).toNat)]) := ⟨b9_⟩
                                                                  have hHeld : (convert 32 9 (.slice Ao11 x8_1.length co11)).run Try.prog v9 = .ok (.string (strOfNums x8_1)) v9 := hS_
                                                                  clear hS_ h0_ h1_ b9_
                                                                  refine norm_ (a' := ?_) ?_ ?_
                                                                  rotate_left
                                                                  · simp only [putAll, Act.put, List.setIfInBounds_toArray, List.set_cons_zero, List.set_cons_succ]
                                                                    rfl
                                                                  refine three_ (i := 4) (j := 14) (k := 20) (Ni := some 43) (Nj := some 53) (Nk := some 59) #[true, true, true, true, true, false, true, true, true, true, false, true, true, true, false, false, false, true, true, true, false, false, false, false, false, false] #[true, true, true, true, false, false, true, true, true, true, false, true, true, true, true, false, false, true, true, true, false, false, false, false, false, false] #[true, true, true, true, false, false, true, true, true, true, false, true, true, true, false, false, false, true, true, true, true, false, false, false, false, false] rfl rfl rfl rfl rfl rfl (by kernel_rfl) (by decide) (by decide) (by decide) (fun K hK => ?_) (fun K hK => ?_) (fun K hK => ?_)
                                                                  · skip
                                                                    refine value_ (w1 := ?_) (v := ?_) (by rfl) rfl ?_ ?_
                                                                    rotate_left 2
                                                                    · go_simp
                                                                      constructor
                                                                      · rfl
                                                                      · rfl
                                                                    refine hK.out _ _ ((own_string (P := Try.prog) Try.underlying32 Try.underlying5 Try.underlying9 (Kd.own_of_R (Kd.R_alloc HO_8.out _)))) (fun hHeld => ?_)
                                                                    clear hK K
                                                                    refine norm_ (a' := ?_) ?_ ?_
                                                                    rotate_left
                                                                    · show Act.put _ (some 43) _ = _
                                                                      simp only [Act.put, List.setIfInBounds_toArray, List.set_cons_zero, List.set_cons_succ, i64_w, i32_w]
                                                                      rfl
                                                                    exact norm_ (by first | (simp only [putAll, Act.put, List.setIfInBounds_toArray, List.set_cons_zero, List.set_cons_succ]; done) | (simp only [putAll, Act.put, List.setIfInBounds_toArray, List.set_cons_zero, List.set_cons_succ]; rfl)) (hJ4_9 (v9.heap.size, g9) _ ⟨hHeld, Kd.R_alloc HO_8.out _, below_alloc HB.out _, C_new v9 (strOfNums x8_1), Kd.C_alloc B9.out _⟩)
                                                                  · skip
                                                                    refine value_ (w1 := ?_) (v := ?_) (by rfl) rfl ?_ ?_
                                                                    rotate_left 2
                                                                    · go_simp
                                                                      constructor
                                                                      · rfl
                                                                      · rfl
                                                                    refine hK.out _ _ ((own_string (P := Try.prog) Try.underlying32 Try.underlying5 Try.underlying9 (Kd.own_of_R (Kd.R_alloc HO_8.out _)))) (fun hHeld => ?_)
                                                                    clear hK K
                                                                    refine norm_ (a' := ?_) ?_ ?_
                                                                    rotate_left
                                                                    · show Act.put _ (some 53) _ = _
                                                                      simp only [Act.put, List.setIfInBounds_toArray, List.set_cons_zero, List.set_cons_succ, i64_w, i32_w]
                                                                      rfl
                                                                    exact norm_ (by first | (simp only [putAll, Act.put, List.setIfInBounds_toArray, List.set_cons_zero, List.set_cons_succ]; done) | (simp only [putAll, Act.put, List.setIfInBounds_toArray, List.set_cons_zero, List.set_cons_succ]; rfl)) (hJ9_14 (g9, v9.heap.size) _ ⟨hHeld, Kd.R_alloc HO_8.out _, below_alloc HB.out _, Kd.C_alloc B9.out _, C_new v9 (a1.extract 0 (ji6 : Int).toNat)⟩)
                                                                  · skip
                                                                    refine value_ (w1 := ?_) (v := ?_) (by rfl) rfl ?_ ?_
                                                                    rotate_left 2
                                                                    · go_simp
                                                                      constructor
                                                                      · rfl
                                                                      · rfl
                                                                    refine hK.out _ _ ((own_string (P := Try.prog) Try.underlying32 Try.underlying5 Try.underlying9 (Kd.own_of_R (Kd.R_alloc HO_8.out _)))) (fun hHeld => ?_)
                                                                    clear hK K
                                                                    refine norm_ (a' := ?_) ?_ ?_
                                                                    rotate_left
                                                                    · show Act.put _ (some 59) _ = _
                                                                      simp only [Act.put, List.setIfInBounds_toArray, List.set_cons_zero, List.set_cons_succ, i64_w, i32_w]
                                                                      rfl
                                                                    exact norm_ (by first | (simp only [putAll, Act.put, List.setIfInBounds_toArray, List.set_cons_zero, List.set_cons_succ]; done) | (simp only [putAll, Act.put, List.setIfInBounds_toArray, List.set_cons_zero, List.set_cons_succ]; rfl)) (hJ9_20 (g9, v9.heap.size) _ ⟨hHeld, Kd.R_alloc HO_8.out _, below_alloc HB.out _, Kd.C_alloc B9.out _, C_new v9 (a2.extract 0 (ji6 : Int).toNat)⟩)
                                                              · skip
                                                                rintro g4 v4 ⟨hS_, h0_, h1_, b4_⟩
                                                                have HO_8 : Aside0 (Kd.R (Kd.int .u8) 5 v4 w.heap.size (fun _ => True) (.slice Ao11 x8_1.length co11) x8_1) := ⟨h0_⟩
                                                                have HB : Aside0 (Below w.heap.size w v4) := ⟨h1_⟩
                                                                have B4 : Aside0 (Kd.C Kd.string v4 (some ⟨g4, 0, none⟩) 1 [(strOfNums x8_1)]) := ⟨b4_⟩
                                                                have hHeld : (convert 32 9 (.slice Ao11 x8_1.length co11)).run Try.prog v4 = .ok (.string (strOfNums x8_1)) v4 := hS_
                                                                clear hS_ h0_ h1_ b4_
                                                                refine norm_ (a' := ?_) ?_ ?_
                                                                rotate_left
                                                                · simp only [putAll, Act.put, List.setIfInBounds_toArray, List.set_cons_zero, List.set_cons_succ]
                                                                  rfl
                                                                refine four_ (i := 5) (j := 9) (k := 14) (m := 20) (Ni := some 44) (Nj := some 48) (Nk := some 53) (Nm := some 59) #[true, true, true, true, true, true, true, true, true, false, false, true, true, true, false, false, false, true, true, true, false, false, false, false, false, false] #[true, true, true, true, true, false, true, true, true, true, false, true, true, true, false, false, false, true, true, true, false, false, false, false, false, false] #[true, true, true, true, true, false, true, true, true, false, false, true, true, true, true, false, false, true, true, true, false, false, false, false, false, false] #[true, true, true, true, true, false, true, true, true, false, false, true, true, true, false, false, false, true, true, true, true, false, false, false, false, false] rfl rfl rfl rfl rfl rfl rfl rfl (by kernel_rfl) (by decide) (by decide) (by decide) (by decide) (fun K hK => ?_) (fun K hK => ?_) (fun K hK => ?_) (fun K hK => ?_)
                                                                · skip
                                                                  refine goes_ Try.func12 (by kernel_rfl) rfl #[.slice (some ⟨g4, 0, none⟩) ([(strOfNums x8_1)] : List ByteArray).length 1] (by rfl) rfl rfl (by simp only [List.map_toArray, List.map_cons, List.map_nil]; rfl) ?_
                                                                  with_reducible refine (sum_Of.calls k1 (some ⟨g4, 0, none⟩) 1 [(strOfNums x8_1)] r0_ _ B4.out (Nat.le_refl _) A50.out).mono ?_
                                                                  rintro e wc_ ⟨rfl, hb⟩
                                                                  refine ⟨_, rfl, ?_⟩
                                                                  have HO_8 := Aside0.mk (Kd.R_below HO_8.out hb)
                                                                  have HB := Aside0.mk (below_step HB.out hb)
                                                                  refine hK.out _ _ ((own_string (P := Try.prog) Try.underlying32 Try.underlying5 Try.underlying9 (Kd.own_of_R HO_8.out))) (fun hHeld => ?_)
                                                                  clear hK K
                                                                  refine norm_ (a' := ?_) ?_ ?_
                                                                  rotate_left
                                                                  · show Act.put _ (some 44) _ = _
                                                                    simp only [Act.put, List.setIfInBounds_toArray, List.set_cons_zero, List.set_cons_succ, i64_w, i32_w]
                                                                    rfl
                                                                  exact norm_ (by first | (simp only [putAll, Act.put, List.setIfInBounds_toArray, List.set_cons_zero, List.set_cons_succ]; done) | (simp only [putAll, Act.put, List.setIfInBounds_toArray, List.set_cons_zero, List.set_cons_succ]; rfl)) (hJ4_5 (g4) _ ⟨hHeld, HO_8.out, HB.out⟩)
                                                                · skip
                                                                  refine value_ (w1 := ?_) (v := ?_) (by rfl) rfl ?_ ?_
                                                                  rotate_left 2
                                                                  · go_simp
                                                                    constructor
                                                                    · rfl
                                                                    · rfl
                                                                  refine hK.out _ _ ((own_string (P := Try.prog) Try.underlying32 Try.underlying5 Try.underlying9 (Kd.own_of_R (Kd.R_alloc HO_8.out _)))) (fun hHeld => ?_)
                                                                  clear hK K
                                                                  refine norm_ (a' := ?_) ?_ ?_
                                                                  rotate_left
                                                                  · show Act.put _ (some 48) _ = _
                                                                    simp only [Act.put, List.setIfInBounds_toArray, List.set_cons_zero, List.set_cons_succ, i64_w, i32_w]
                                                                    rfl
                                                                  exact norm_ (by first | (simp only [putAll, Act.put, List.setIfInBounds_toArray, List.set_cons_zero, List.set_cons_succ]; done) | (simp only [putAll, Act.put, List.setIfInBounds_toArray, List.set_cons_zero, List.set_cons_succ]; rfl)) (hJ4_9 (g4, v4.heap.size) _ ⟨hHeld, Kd.R_alloc HO_8.out _, below_alloc HB.out _, Kd.C_alloc B4.out _, C_new v4 (a0.extract 0 (ji6 : Int).toNat)⟩)
                                                                · skip
                                                                  refine value_ (w1 := ?_) (v := ?_) (by rfl) rfl ?_ ?_
                                                                  rotate_left 2
                                                                  · go_simp
                                                                    constructor
                                                                    · rfl
                                                                    · rfl
                                                                  refine hK.out _ _ ((own_string (P := Try.prog) Try.underlying32 Try.underlying5 Try.underlying9 (Kd.own_of_R (Kd.R_alloc HO_8.out _)))) (fun hHeld => ?_)
                                                                  clear hK K
                                                                  refine norm_ (a' := ?_) ?_ ?_
                                                                  rotate_left
                                                                  · show Act.put _ (some 53) _ = _
                                                                    simp only [Act.put, List.setIfInBounds_toArray, List.set_cons_zero, List.set_cons_succ, i64_w, i32_w]
                                                                    rfl
                                                                  exact norm_ (by first | (simp only [putAll, Act.put, List.setIfInBounds_toArray, List.set_cons_zero, List.set_cons_succ]; done) | (simp only [putAll, Act.put, List.setIfInBounds_toArray, List.set_cons_zero, List.set_cons_succ]; rfl)) (hJ4_14 (g4, v4.heap.size) _ ⟨hHeld, Kd.R_alloc HO_8.out _, below_alloc HB.out _, Kd.C_alloc B4.out _, C_new v4 (a1.extract 0 (ji6 : Int).toNat)⟩)
                                                                · skip
                                                                  refine value_ (w1 := ?_) (v := ?_) (by rfl) rfl ?_ ?_
                                                                  rotate_left 2
                                                                  · go_simp
                                                                    constructor
                                                                    · rfl
                                                                    · rfl
                                                                  refine hK.out _ _ ((own_string (P := Try.prog) Try.underlying32 Try.underlying5 Try.underlying9 (Kd.own_of_R (Kd.R_alloc HO_8.out _)))) (fun hHeld => ?_)
                                                                  clear hK K
                                                                  refine norm_ (a' := ?_) ?_ ?_
                                                                  rotate_left
                                                                  · show Act.put _ (some 59) _ = _
                                                                    simp only [Act.put, List.setIfInBounds_toArray, List.set_cons_zero, List.set_cons_succ, i64_w, i32_w]
                                                                    rfl
                                                                  exact norm_ (by first | (simp only [putAll, Act.put, List.setIfInBounds_toArray, List.set_cons_zero, List.set_cons_succ]; done) | (simp only [putAll, Act.put, List.setIfInBounds_toArray, List.set_cons_zero, List.set_cons_succ]; rfl)) (hJ4_20 (g4, v4.heap.size) _ ⟨hHeld, Kd.R_alloc HO_8.out _, below_alloc HB.out _, Kd.C_alloc B4.out _, C_new v4 (a2.extract 0 (ji6 : Int).toNat)⟩)
                                                            · skip
                                                              rintro ⟨g14, g20⟩ v14_20 ⟨hS_, h0_, h1_, b14_, b20_⟩
                                                              have HO_8 : Aside0 (Kd.R (Kd.int .u8) 5 v14_20 w.heap.size (fun _ => True) (.slice Ao11 x8_1.length co11) x8_1) := ⟨h0_⟩
                                                              have HB : Aside0 (Below w.heap.size w v14_20) := ⟨h1_⟩
                                                              have B14 : Aside0 (Kd.C Kd.string v14_20 (some ⟨g14, 0, none⟩) 1 [(a1.extract 0 (ji6 : Int).toNat)]) := ⟨b14_⟩
                                                              have B20 : Aside0 (Kd.C Kd.string v14_20 (some ⟨g20, 0, none⟩) 1 [(a2.extract 0 (ji6 : Int).toNat)]) := ⟨b20_⟩
                                                              have hHeld : (convert 32 9 (.slice Ao11 x8_1.length co11)).run Try.prog v14_20 = .ok (.string (strOfNums x8_1)) v14_20 := hS_
                                                              clear hS_ h0_ h1_ b14_ b20_
                                                              refine norm_ (a' := ?_) ?_ ?_
                                                              rotate_left
                                                              · simp only [putAll, Act.put, List.setIfInBounds_toArray, List.set_cons_zero, List.set_cons_succ]
                                                                rfl
                                                              refine two_ (i := 4) (j := 9) (Ni := some 43) (Nj := some 48) #[true, true, true, true, true, false, true, true, true, false, false, true, true, true, true, false, false, true, true, true, true, false, false, false, false, false] #[true, true, true, true, false, false, true, true, true, true, false, true, true, true, true, false, false, true, true, true, true, false, false, false, false, false] rfl rfl rfl rfl (by kernel_rfl) (by decide) (by decide) (fun K hK => ?_) (fun K hK => ?_)
                                                              · skip
                                                                refine value_ (w1 := ?_) (v := ?_) (by rfl) rfl ?_ ?_
                                                                rotate_left 2
                                                                · go_simp
                                                                  constructor
                                                                  · rfl
                                                                  · rfl
                                                                refine hK.out _ _ ((own_string (P := Try.prog) Try.underlying32 Try.underlying5 Try.underlying9 (Kd.own_of_R (Kd.R_alloc HO_8.out _)))) (fun hHeld => ?_)
                                                                clear hK K
                                                                refine norm_ (a' := ?_) ?_ ?_
                                                                rotate_left
                                                                · show Act.put _ (some 43) _ = _
                                                                  simp only [Act.put, List.setIfInBounds_toArray, List.set_cons_zero, List.set_cons_succ, i64_w, i32_w]
                                                                  rfl
                                                                exact norm_ (by first | (simp only [putAll, Act.put, List.setIfInBounds_toArray, List.set_cons_zero, List.set_cons_succ]; done) | (simp only [putAll, Act.put, List.setIfInBounds_toArray, List.set_cons_zero, List.set_cons_succ]; rfl)) (hJ4_14_20 (v14_20.heap.size, g14, g20) _ ⟨hHeld, Kd.R_alloc HO_8.out _, below_alloc HB.out _, C_new v14_20 (strOfNums x8_1), Kd.C_alloc B14.out _, Kd.C_alloc B20.out _⟩)
                                                              · skip
                                                                refine value_ (w1 := ?_) (v := ?_) (by rfl) rfl ?_ ?_
                                                                rotate_left 2
                                                                · go_simp
                                                                  constructor
                                                                  · rfl
                                                                  · rfl
                                                                refine hK.out _ _ ((own_string (P := Try.prog) Try.underlying32 Try.underlying5 Try.underlying9 (Kd.own_of_R (Kd.R_alloc HO_8.out _)))) (fun hHeld => ?_)
                                                                clear hK K
                                                                refine norm_ (a' := ?_) ?_ ?_
                                                                rotate_left
                                                                · show Act.put _ (some 48) _ = _
                                                                  simp only [Act.put, List.setIfInBounds_toArray, List.set_cons_zero, List.set_cons_succ, i64_w, i32_w]
                                                                  rfl
                                                                exact norm_ (by first | (simp only [putAll, Act.put, List.setIfInBounds_toArray, List.set_cons_zero, List.set_cons_succ]; done) | (simp only [putAll, Act.put, List.setIfInBounds_toArray, List.set_cons_zero, List.set_cons_succ]; rfl)) (hJ9_14_20 (v14_20.heap.size, g14, g20) _ ⟨hHeld, Kd.R_alloc HO_8.out _, below_alloc HB.out _, C_new v14_20 (a0.extract 0 (ji6 : Int).toNat), Kd.C_alloc B14.out _, Kd.C_alloc B20.out _⟩)
                                                          · skip
                                                            rintro ⟨g9, g20⟩ v9_20 ⟨hS_, h0_, h1_, b9_, b20_⟩
                                                            have HO_8 : Aside0 (Kd.R (Kd.int .u8) 5 v9_20 w.heap.size (fun _ => True) (.slice Ao11 x8_1.length co11) x8_1) := ⟨h0_⟩
                                                            have HB : Aside0 (Below w.heap.size w v9_20) := ⟨h1_⟩
                                                            have B9 : Aside0 (Kd.C Kd.string v9_20 (some ⟨g9, 0, none⟩) 1 [(a0.extract 0 (ji6 : Int).toNat)]) := ⟨b9_⟩
                                                            have B20 : Aside0 (Kd.C Kd.string v9_20 (some ⟨g20, 0, none⟩) 1 [(a2.extract 0 (ji6 : Int).toNat)]) := ⟨b20_⟩
                                                            have hHeld : (convert 32 9 (.slice Ao11 x8_1.length co11)).run Try.prog v9_20 = .ok (.string (strOfNums x8_1)) v9_20 := hS_
                                                            clear hS_ h0_ h1_ b9_ b20_
                                                            refine norm_ (a' := ?_) ?_ ?_
                                                            rotate_left
                                                            · simp only [putAll, Act.put, List.setIfInBounds_toArray, List.set_cons_zero, List.set_cons_succ]
                                                              rfl
                                                            refine two_ (i := 4) (j := 14) (Ni := some 43) (Nj := some 53) #[true, true, true, true, true, false, true, true, true, true, false, true, true, true, false, false, false, true, true, true, true, false, false, false, false, false] #[true, true, true, true, false, false, true, true, true, true, false, true, true, true, true, false, false, true, true, true, true, false, false, false, false, false] rfl rfl rfl rfl (by kernel_rfl) (by decide) (by decide) (fun K hK => ?_) (fun K hK => ?_)
                                                            · skip
                                                              refine value_ (w1 := ?_) (v := ?_) (by rfl) rfl ?_ ?_
                                                              rotate_left 2
                                                              · go_simp
                                                                constructor
                                                                · rfl
                                                                · rfl
                                                              refine hK.out _ _ ((own_string (P := Try.prog) Try.underlying32 Try.underlying5 Try.underlying9 (Kd.own_of_R (Kd.R_alloc HO_8.out _)))) (fun hHeld => ?_)
                                                              clear hK K
                                                              refine norm_ (a' := ?_) ?_ ?_
                                                              rotate_left
                                                              · show Act.put _ (some 43) _ = _
                                                                simp only [Act.put, List.setIfInBounds_toArray, List.set_cons_zero, List.set_cons_succ, i64_w, i32_w]
                                                                rfl
                                                              exact norm_ (by first | (simp only [putAll, Act.put, List.setIfInBounds_toArray, List.set_cons_zero, List.set_cons_succ]; done) | (simp only [putAll, Act.put, List.setIfInBounds_toArray, List.set_cons_zero, List.set_cons_succ]; rfl)) (hJ4_9_20 (v9_20.heap.size, g9, g20) _ ⟨hHeld, Kd.R_alloc HO_8.out _, below_alloc HB.out _, C_new v9_20 (strOfNums x8_1), Kd.C_alloc B9.out _, Kd.C_alloc B20.out _⟩)
                                                            · skip
                                                              refine value_ (w1 := ?_) (v := ?_) (by rfl) rfl ?_ ?_
                                                              rotate_left 2
                                                              · go_simp
                                                                constructor
                                                                · rfl
                                                                · rfl
                                                              refine hK.out _ _ ((own_string (P := Try.prog) Try.underlying32 Try.underlying5 Try.underlying9 (Kd.own_of_R (Kd.R_alloc HO_8.out _)))) (fun hHeld => ?_)
                                                              clear hK K
                                                              refine norm_ (a' := ?_) ?_ ?_
                                                              rotate_left
                                                              · show Act.put _ (some 53) _ = _
                                                                simp only [Act.put, List.setIfInBounds_toArray, List.set_cons_zero, List.set_cons_succ, i64_w, i32_w]
                                                                rfl
                                                              exact norm_ (by first | (simp only [putAll, Act.put, List.setIfInBounds_toArray, List.set_cons_zero, List.set_cons_succ]; done) | (simp only [putAll, Act.put, List.setIfInBounds_toArray, List.set_cons_zero, List.set_cons_succ]; rfl)) (hJ9_14_20 (g9, v9_20.heap.size, g20) _ ⟨hHeld, Kd.R_alloc HO_8.out _, below_alloc HB.out _, Kd.C_alloc B9.out _, C_new v9_20 (a1.extract 0 (ji6 : Int).toNat), Kd.C_alloc B20.out _⟩)
                                                        · skip
                                                          rintro ⟨g9, g14⟩ v9_14 ⟨hS_, h0_, h1_, b9_, b14_⟩
                                                          have HO_8 : Aside0 (Kd.R (Kd.int .u8) 5 v9_14 w.heap.size (fun _ => True) (.slice Ao11 x8_1.length co11) x8_1) := ⟨h0_⟩
                                                          have HB : Aside0 (Below w.heap.size w v9_14) := ⟨h1_⟩
                                                          have B9 : Aside0 (Kd.C Kd.string v9_14 (some ⟨g9, 0, none⟩) 1 [(a0.extract 0 (ji6 : Int).toNat)]) := ⟨b9_⟩
                                                          have B14 : Aside0 (Kd.C Kd.string v9_14 (some ⟨g14, 0, none⟩) 1 [(a1.extract 0 (ji6 : Int).toNat)]) := ⟨b14_⟩
                                                          have hHeld : (convert 32 9 (.slice Ao11 x8_1.length co11)).run Try.prog v9_14 = .ok (.string (strOfNums x8_1)) v9_14 := hS_
                                                          clear hS_ h0_ h1_ b9_ b14_
                                                          refine norm_ (a' := ?_) ?_ ?_
                                                          rotate_left
                                                          · simp only [putAll, Act.put, List.setIfInBounds_toArray, List.set_cons_zero, List.set_cons_succ]
                                                            rfl
                                                          refine two_ (i := 4) (j := 20) (Ni := some 43) (Nj := some 59) #[true, true, true, true, true, false, true, true, true, true, false, true, true, true, true, false, false, true, true, true, false, false, false, false, false, false] #[true, true, true, true, false, false, true, true, true, true, false, true, true, true, true, false, false, true, true, true, true, false, false, false, false, false] rfl rfl rfl rfl (by kernel_rfl) (by decide) (by decide) (fun K hK => ?_) (fun K hK => ?_)
                                                          · skip
                                                            refine value_ (w1 := ?_) (v := ?_) (by rfl) rfl ?_ ?_
                                                            rotate_left 2
                                                            · go_simp
                                                              constructor
                                                              · rfl
                                                              · rfl
                                                            refine hK.out _ _ ((own_string (P := Try.prog) Try.underlying32 Try.underlying5 Try.underlying9 (Kd.own_of_R (Kd.R_alloc HO_8.out _)))) (fun hHeld => ?_)
                                                            clear hK K
                                                            refine norm_ (a' := ?_) ?_ ?_
                                                            rotate_left
                                                            · show Act.put _ (some 43) _ = _
                                                              simp only [Act.put, List.setIfInBounds_toArray, List.set_cons_zero, List.set_cons_succ, i64_w, i32_w]
                                                              rfl
                                                            exact norm_ (by first | (simp only [putAll, Act.put, List.setIfInBounds_toArray, List.set_cons_zero, List.set_cons_succ]; done) | (simp only [putAll, Act.put, List.setIfInBounds_toArray, List.set_cons_zero, List.set_cons_succ]; rfl)) (hJ4_9_14 (v9_14.heap.size, g9, g14) _ ⟨hHeld, Kd.R_alloc HO_8.out _, below_alloc HB.out _, C_new v9_14 (strOfNums x8_1), Kd.C_alloc B9.out _, Kd.C_alloc B14.out _⟩)
                                                          · skip
                                                            refine value_ (w1 := ?_) (v := ?_) (by rfl) rfl ?_ ?_
                                                            rotate_left 2
                                                            · go_simp
                                                              constructor
                                                              · rfl
                                                              · rfl
                                                            refine hK.out _ _ ((own_string (P := Try.prog) Try.underlying32 Try.underlying5 Try.underlying9 (Kd.own_of_R (Kd.R_alloc HO_8.out _)))) (fun hHeld => ?_)
                                                            clear hK K
                                                            refine norm_ (a' := ?_) ?_ ?_
                                                            rotate_left
                                                            · show Act.put _ (some 59) _ = _
                                                              simp only [Act.put, List.setIfInBounds_toArray, List.set_cons_zero, List.set_cons_succ, i64_w, i32_w]
                                                              rfl
                                                            exact norm_ (by first | (simp only [putAll, Act.put, List.setIfInBounds_toArray, List.set_cons_zero, List.set_cons_succ]; done) | (simp only [putAll, Act.put, List.setIfInBounds_toArray, List.set_cons_zero, List.set_cons_succ]; rfl)) (hJ9_14_20 (g9, g14, v9_14.heap.size) _ ⟨hHeld, Kd.R_alloc HO_8.out _, below_alloc HB.out _, Kd.C_alloc B9.out _, Kd.C_alloc B14.out _, C_new v9_14 (a2.extract 0 (ji6 : Int).toNat)⟩)
                                                      · skip
                                                        rintro ⟨g4, g20⟩ v4_20 ⟨hS_, h0_, h1_, b4_, b20_⟩
                                                        have HO_8 : Aside0 (Kd.R (Kd.int .u8) 5 v4_20 w.heap.size (fun _ => True) (.slice Ao11 x8_1.length co11) x8_1) := ⟨h0_⟩
                                                        have HB : Aside0 (Below w.heap.size w v4_20) := ⟨h1_⟩
                                                        have B4 : Aside0 (Kd.C Kd.string v4_20 (some ⟨g4, 0, none⟩) 1 [(strOfNums x8_1)]) := ⟨b4_⟩
                                                        have B20 : Aside0 (Kd.C Kd.string v4_20 (some ⟨g20, 0, none⟩) 1 [(a2.extract 0 (ji6 : Int).toNat)]) := ⟨b20_⟩
                                                        have hHeld : (convert 32 9 (.slice Ao11 x8_1.length co11)).run Try.prog v4_20 = .ok (.string (strOfNums x8_1)) v4_20 := hS_
                                                        clear hS_ h0_ h1_ b4_ b20_
                                                        refine norm_ (a' := ?_) ?_ ?_
                                                        rotate_left
                                                        · simp only [putAll, Act.put, List.setIfInBounds_toArray, List.set_cons_zero, List.set_cons_succ]
                                                          rfl
                                                        refine three_ (i := 5) (j := 9) (k := 14) (Ni := some 44) (Nj := some 48) (Nk := some 53) #[true, true, true, true, true, true, true, true, true, false, false, true, true, true, false, false, false, true, true, true, true, false, false, false, false, false] #[true, true, true, true, true, false, true, true, true, true, false, true, true, true, false, false, false, true, true, true, true, false, false, false, false, false] #[true, true, true, true, true, false, true, true, true, false, false, true, true, true, true, false, false, true, true, true, true, false, false, false, false, false] rfl rfl rfl rfl rfl rfl (by kernel_rfl) (by decide) (by decide) (by decide) (fun K hK => ?_) (fun K hK => ?_) (fun K hK => ?_)
                                                        · skip
                                                          refine goes_ Try.func12 (by kernel_rfl) rfl #[.slice (some ⟨g4, 0, none⟩) ([(strOfNums x8_1)] : List ByteArray).length 1] (by rfl) rfl rfl (by simp only [List.map_toArray, List.map_cons, List.map_nil]; rfl) ?_
                                                          with_reducible refine (sum_Of.calls k1 (some ⟨g4, 0, none⟩) 1 [(strOfNums x8_1)] r0_ _ B4.out (Nat.le_refl _) A50.out).mono ?_
                                                          rintro e wc_ ⟨rfl, hb⟩
                                                          refine ⟨_, rfl, ?_⟩
                                                          have HO_8 := Aside0.mk (Kd.R_below HO_8.out hb)
                                                          have HB := Aside0.mk (below_step HB.out hb)
                                                          have B20 := Aside0.mk (Kd.C_below B20.out hb)
                                                          refine hK.out _ _ ((own_string (P := Try.prog) Try.underlying32 Try.underlying5 Try.underlying9 (Kd.own_of_R HO_8.out))) (fun hHeld => ?_)
                                                          clear hK K
                                                          refine norm_ (a' := ?_) ?_ ?_
                                                          rotate_left
                                                          · show Act.put _ (some 44) _ = _
                                                            simp only [Act.put, List.setIfInBounds_toArray, List.set_cons_zero, List.set_cons_succ, i64_w, i32_w]
                                                            rfl
                                                          exact norm_ (by first | (simp only [putAll, Act.put, List.setIfInBounds_toArray, List.set_cons_zero, List.set_cons_succ]; done) | (simp only [putAll, Act.put, List.setIfInBounds_toArray, List.set_cons_zero, List.set_cons_succ]; rfl)) (hJ4_5_20 (g4, g20) _ ⟨hHeld, HO_8.out, HB.out, B20.out⟩)
                                                        · skip
                                                          refine value_ (w1 := ?_) (v := ?_) (by rfl) rfl ?_ ?_
                                                          rotate_left 2
                                                          · go_simp
                                                            constructor
                                                            · rfl
                                                            · rfl
                                                          refine hK.out _ _ ((own_string (P := Try.prog) Try.underlying32 Try.underlying5 Try.underlying9 (Kd.own_of_R (Kd.R_alloc HO_8.out _)))) (fun hHeld => ?_)
                                                          clear hK K
                                                          refine norm_ (a' := ?_) ?_ ?_
                                                          rotate_left
                                                          · show Act.put _ (some 48) _ = _
                                                            simp only [Act.put, List.setIfInBounds_toArray, List.set_cons_zero, List.set_cons_succ, i64_w, i32_w]
                                                            rfl
                                                          exact norm_ (by first | (simp only [putAll, Act.put, List.setIfInBounds_toArray, List.set_cons_zero, List.set_cons_succ]; done) | (simp only [putAll, Act.put, List.setIfInBounds_toArray, List.set_cons_zero, List.set_cons_succ]; rfl)) (hJ4_9_20 (g4, v4_20.heap.size, g20) _ ⟨hHeld, Kd.R_alloc HO_8.out _, below_alloc HB.out _, Kd.C_alloc B4.out _, C_new v4_20 (a0.extract 0 (ji6 : Int).toNat), Kd.C_alloc B20.out _⟩)
                                                        · skip
                                                          refine value_ (w1 := ?_) (v := ?_) (by rfl) rfl ?_ ?_
                                                          rotate_left 2
                                                          · go_simp
                                                            constructor
                                                            · rfl
                                                            · rfl
                                                          refine hK.out _ _ ((own_string (P := Try.prog) Try.underlying32 Try.underlying5 Try.underlying9 (Kd.own_of_R (Kd.R_alloc HO_8.out _)))) (fun hHeld => ?_)
                                                          clear hK K
                                                          refine norm_ (a' := ?_) ?_ ?_
                                                          rotate_left
                                                          · show Act.put _ (some 53) _ = _
                                                            simp only [Act.put, List.setIfInBounds_toArray, List.set_cons_zero, List.set_cons_succ, i64_w, i32_w]
                                                            rfl
                                                          exact norm_ (by first | (simp only [putAll, Act.put, List.setIfInBounds_toArray, List.set_cons_zero, List.set_cons_succ]; done) | (simp only [putAll, Act.put, List.setIfInBounds_toArray, List.set_cons_zero, List.set_cons_succ]; rfl)) (hJ4_14_20 (g4, v4_20.heap.size, g20) _ ⟨hHeld, Kd.R_alloc HO_8.out _, below_alloc HB.out _, Kd.C_alloc B4.out _, C_new v4_20 (a1.extract 0 (ji6 : Int).toNat), Kd.C_alloc B20.out _⟩)
                                                    · skip
                                                      rintro ⟨g4, g14⟩ v4_14 ⟨hS_, h0_, h1_, b4_, b14_⟩
                                                      have HO_8 : Aside0 (Kd.R (Kd.int .u8) 5 v4_14 w.heap.size (fun _ => True) (.slice Ao11 x8_1.length co11) x8_1) := ⟨h0_⟩
                                                      have HB : Aside0 (Below w.heap.size w v4_14) := ⟨h1_⟩
                                                      have B4 : Aside0 (Kd.C Kd.string v4_14 (some ⟨g4, 0, none⟩) 1 [(strOfNums x8_1)]) := ⟨b4_⟩
                                                      have B14 : Aside0 (Kd.C Kd.string v4_14 (some ⟨g14, 0, none⟩) 1 [(a1.extract 0 (ji6 : Int).toNat)]) := ⟨b14_⟩
                                                      have hHeld : (convert 32 9 (.slice Ao11 x8_1.length co11)).run Try.prog v4_14 = .ok (.string (strOfNums x8_1)) v4_14 := hS_
                                                      clear hS_ h0_ h1_ b4_ b14_
                                                      refine norm_ (a' := ?_) ?_ ?_
                                                      rotate_left
                                                      · simp only [putAll, Act.put, List.setIfInBounds_toArray, List.set_cons_zero, List.set_cons_succ]
                                                        rfl
                                                      refine three_ (i := 5) (j := 9) (k := 20) (Ni := some 44) (Nj := some 48) (Nk := some 59) #[true, true, true, true, true, true, true, true, true, false, false, true, true, true, true, false, false, true, true, true, false, false, false, false, false, false] #[true, true, true, true, true, false, true, true, true, true, false, true, true, true, true, false, false, true, true, true, false, false, false, false, false, false] #[true, true, true, true, true, false, true, true, true, false, false, true, true, true, true, false, false, true, true, true, true, false, false, false, false, false] rfl rfl rfl rfl rfl rfl (by kernel_rfl) (by decide) (by decide) (by decide) (fun K hK => ?_) (fun K hK => ?_) (fun K hK => ?_)
                                                      · skip
                                                        refine goes_ Try.func12 (by kernel_rfl) rfl #[.slice (some ⟨g4, 0, none⟩) ([(strOfNums x8_1)] : List ByteArray).length 1] (by rfl) rfl rfl (by simp only [List.map_toArray, List.map_cons, List.map_nil]; rfl) ?_
                                                        with_reducible refine (sum_Of.calls k1 (some ⟨g4, 0, none⟩) 1 [(strOfNums x8_1)] r0_ _ B4.out (Nat.le_refl _) A50.out).mono ?_
                                                        rintro e wc_ ⟨rfl, hb⟩
                                                        refine ⟨_, rfl, ?_⟩
                                                        have HO_8 := Aside0.mk (Kd.R_below HO_8.out hb)
                                                        have HB := Aside0.mk (below_step HB.out hb)
                                                        have B14 := Aside0.mk (Kd.C_below B14.out hb)
                                                        refine hK.out _ _ ((own_string (P := Try.prog) Try.underlying32 Try.underlying5 Try.underlying9 (Kd.own_of_R HO_8.out))) (fun hHeld => ?_)
                                                        clear hK K
                                                        refine norm_ (a' := ?_) ?_ ?_
                                                        rotate_left
                                                        · show Act.put _ (some 44) _ = _
                                                          simp only [Act.put, List.setIfInBounds_toArray, List.set_cons_zero, List.set_cons_succ, i64_w, i32_w]
                                                          rfl
                                                        exact norm_ (by first | (simp only [putAll, Act.put, List.setIfInBounds_toArray, List.set_cons_zero, List.set_cons_succ]; done) | (simp only [putAll, Act.put, List.setIfInBounds_toArray, List.set_cons_zero, List.set_cons_succ]; rfl)) (hJ4_5_14 (g4, g14) _ ⟨hHeld, HO_8.out, HB.out, B14.out⟩)
                                                      · skip
                                                        refine value_ (w1 := ?_) (v := ?_) (by rfl) rfl ?_ ?_
                                                        rotate_left 2
                                                        · go_simp
                                                          constructor
                                                          · rfl
                                                          · rfl
                                                        refine hK.out _ _ ((own_string (P := Try.prog) Try.underlying32 Try.underlying5 Try.underlying9 (Kd.own_of_R (Kd.R_alloc HO_8.out _)))) (fun hHeld => ?_)
                                                        clear hK K
                                                        refine norm_ (a' := ?_) ?_ ?_
                                                        rotate_left
                                                        · show Act.put _ (some 48) _ = _
                                                          simp only [Act.put, List.setIfInBounds_toArray, List.set_cons_zero, List.set_cons_succ, i64_w, i32_w]
                                                          rfl
                                                        exact norm_ (by first | (simp only [putAll, Act.put, List.setIfInBounds_toArray, List.set_cons_zero, List.set_cons_succ]; done) | (simp only [putAll, Act.put, List.setIfInBounds_toArray, List.set_cons_zero, List.set_cons_succ]; rfl)) (hJ4_9_14 (g4, v4_14.heap.size, g14) _ ⟨hHeld, Kd.R_alloc HO_8.out _, below_alloc HB.out _, Kd.C_alloc B4.out _, C_new v4_14 (a0.extract 0 (ji6 : Int).toNat), Kd.C_alloc B14.out _⟩)
                                                      · skip
                                                        refine value_ (w1 := ?_) (v := ?_) (by rfl) rfl ?_ ?_
                                                        rotate_left 2
                                                        · go_simp
                                                          constructor
                                                          · rfl
                                                          · rfl
                                                        refine hK.out _ _ ((own_string (P := Try.prog) Try.underlying32 Try.underlying5 Try.underlying9 (Kd.own_of_R (Kd.R_alloc HO_8.out _)))) (fun hHeld => ?_)
                                                        clear hK K
                                                        refine norm_ (a' := ?_) ?_ ?_
                                                        rotate_left
                                                        · show Act.put _ (some 59) _ = _
                                                          simp only [Act.put, List.setIfInBounds_toArray, List.set_cons_zero, List.set_cons_succ, i64_w, i32_w]
                                                          rfl
                                                        exact norm_ (by first | (simp only [putAll, Act.put, List.setIfInBounds_toArray, List.set_cons_zero, List.set_cons_succ]; done) | (simp only [putAll, Act.put, List.setIfInBounds_toArray, List.set_cons_zero, List.set_cons_succ]; rfl)) (hJ4_14_20 (g4, g14, v4_14.heap.size) _ ⟨hHeld, Kd.R_alloc HO_8.out _, below_alloc HB.out _, Kd.C_alloc B4.out _, Kd.C_alloc B14.out _, C_new v4_14 (a2.extract 0 (ji6 : Int).toNat)⟩)
                                                  · skip
                                                    rintro ⟨g4, g9⟩ v4_9 ⟨hS_, h0_, h1_, b4_, b9_⟩
                                                    have HO_8 : Aside0 (Kd.R (Kd.int .u8) 5 v4_9 w.heap.size (fun _ => True) (.slice Ao11 x8_1.length co11) x8_1) := ⟨h0_⟩
                                                    have HB : Aside0 (Below w.heap.size w v4_9) := ⟨h1_⟩
                                                    have B4 : Aside0 (Kd.C Kd.string v4_9 (some ⟨g4, 0, none⟩) 1 [(strOfNums x8_1)]) := ⟨b4_⟩
                                                    have B9 : Aside0 (Kd.C Kd.string v4_9 (some ⟨g9, 0, none⟩) 1 [(a0.extract 0 (ji6 : Int).toNat)]) := ⟨b9_⟩
                                                    have hHeld : (convert 32 9 (.slice Ao11 x8_1.length co11)).run Try.prog v4_9 = .ok (.string (strOfNums x8_1)) v4_9 := hS_
                                                    clear hS_ h0_ h1_ b4_ b9_
                                                    refine norm_ (a' := ?_) ?_ ?_
                                                    rotate_left
                                                    · simp only [putAll, Act.put, List.setIfInBounds_toArray, List.set_cons_zero, List.set_cons_succ]
                                                      rfl
                                                    refine three_ (i := 5) (j := 14) (k := 20) (Ni := some 44) (Nj := some 53) (Nk := some 59) #[true, true, true, true, true, true, true, true, true, true, false, true, true, true, false, false, false, true, true, true, false, false, false, false, false, false] #[true, true, true, true, true, false, true, true, true, true, false, true, true, true, true, false, false, true, true, true, false, false, false, false, false, false] #[true, true, true, true, true, false, true, true, true, true, false, true, true, true, false, false, false, true, true, true, true, false, false, false, false, false] rfl rfl rfl rfl rfl rfl (by kernel_rfl) (by decide) (by decide) (by decide) (fun K hK => ?_) (fun K hK => ?_) (fun K hK => ?_)
                                                    · skip
                                                      refine goes_ Try.func12 (by kernel_rfl) rfl #[.slice (some ⟨g4, 0, none⟩) ([(strOfNums x8_1)] : List ByteArray).length 1] (by rfl) rfl rfl (by simp only [List.map_toArray, List.map_cons, List.map_nil]; rfl) ?_
                                                      with_reducible refine (sum_Of.calls k1 (some ⟨g4, 0, none⟩) 1 [(strOfNums x8_1)] r0_ _ B4.out (Nat.le_refl _) A50.out).mono ?_
                                                      rintro e wc_ ⟨rfl, hb⟩
                                                      refine ⟨_, rfl, ?_⟩
                                                      have HO_8 := Aside0.mk (Kd.R_below HO_8.out hb)
                                                      have HB := Aside0.mk (below_step HB.out hb)
                                                      have B9 := Aside0.mk (Kd.C_below B9.out hb)
                                                      refine hK.out _ _ ((own_string (P := Try.prog) Try.underlying32 Try.underlying5 Try.underlying9 (Kd.own_of_R HO_8.out))) (fun hHeld => ?_)
                                                      clear hK K
                                                      refine norm_ (a' := ?_) ?_ ?_
                                                      rotate_left
                                                      · show Act.put _ (some 44) _ = _
                                                        simp only [Act.put, List.setIfInBounds_toArray, List.set_cons_zero, List.set_cons_succ, i64_w, i32_w]
                                                        rfl
                                                      exact norm_ (by first | (simp only [putAll, Act.put, List.setIfInBounds_toArray, List.set_cons_zero, List.set_cons_succ]; done) | (simp only [putAll, Act.put, List.setIfInBounds_toArray, List.set_cons_zero, List.set_cons_succ]; rfl)) (hJ4_5_9 (g4, g9) _ ⟨hHeld, HO_8.out, HB.out, B9.out⟩)
                                                    · skip
                                                      refine value_ (w1 := ?_) (v := ?_) (by rfl) rfl ?_ ?_
                                                      rotate_left 2
                                                      · go_simp
                                                        constructor
                                                        · rfl
                                                        · rfl
                                                      refine hK.out _ _ ((own_string (P := Try.prog) Try.underlying32 Try.underlying5 Try.underlying9 (Kd.own_of_R (Kd.R_alloc HO_8.out _)))) (fun hHeld => ?_)
                                                      clear hK K
                                                      refine norm_ (a' := ?_) ?_ ?_
                                                      rotate_left
                                                      · show Act.put _ (some 53) _ = _
                                                        simp only [Act.put, List.setIfInBounds_toArray, List.set_cons_zero, List.set_cons_succ, i64_w, i32_w]
                                                        rfl
                                                      exact norm_ (by first | (simp only [putAll, Act.put, List.setIfInBounds_toArray, List.set_cons_zero, List.set_cons_succ]; done) | (simp only [putAll, Act.put, List.setIfInBounds_toArray, List.set_cons_zero, List.set_cons_succ]; rfl)) (hJ4_9_14 (g4, g9, v4_9.heap.size) _ ⟨hHeld, Kd.R_alloc HO_8.out _, below_alloc HB.out _, Kd.C_alloc B4.out _, Kd.C_alloc B9.out _, C_new v4_9 (a1.extract 0 (ji6 : Int).toNat)⟩)
                                                    · skip
                                                      refine value_ (w1 := ?_) (v := ?_) (by rfl) rfl ?_ ?_
                                                      rotate_left 2
                                                      · go_simp
                                                        constructor
                                                        · rfl
                                                        · rfl
                                                      refine hK.out _ _ ((own_string (P := Try.prog) Try.underlying32 Try.underlying5 Try.underlying9 (Kd.own_of_R (Kd.R_alloc HO_8.out _)))) (fun hHeld => ?_)
                                                      clear hK K
                                                      refine norm_ (a' := ?_) ?_ ?_
                                                      rotate_left
                                                      · show Act.put _ (some 59) _ = _
                                                        simp only [Act.put, List.setIfInBounds_toArray, List.set_cons_zero, List.set_cons_succ, i64_w, i32_w]
                                                        rfl
                                                      exact norm_ (by first | (simp only [putAll, Act.put, List.setIfInBounds_toArray, List.set_cons_zero, List.set_cons_succ]; done) | (simp only [putAll, Act.put, List.setIfInBounds_toArray, List.set_cons_zero, List.set_cons_succ]; rfl)) (hJ4_9_20 (g4, g9, v4_9.heap.size) _ ⟨hHeld, Kd.R_alloc HO_8.out _, below_alloc HB.out _, Kd.C_alloc B4.out _, Kd.C_alloc B9.out _, C_new v4_9 (a2.extract 0 (ji6 : Int).toNat)⟩)
                                                · skip
                                                  rintro g4 v4_5 ⟨hS_, h0_, h1_⟩
                                                  have HO_8 : Aside0 (Kd.R (Kd.int .u8) 5 v4_5 w.heap.size (fun _ => True) (.slice Ao11 x8_1.length co11) x8_1) := ⟨h0_⟩
                                                  have HB : Aside0 (Below w.heap.size w v4_5) := ⟨h1_⟩
                                                  have hHeld : (convert 32 9 (.slice Ao11 x8_1.length co11)).run Try.prog v4_5 = .ok (.string (strOfNums x8_1)) v4_5 := hS_
                                                  clear hS_ h0_ h1_
                                                  refine norm_ (a' := ?_) ?_ ?_
                                                  rotate_left
                                                  · simp only [putAll, Act.put, List.setIfInBounds_toArray, List.set_cons_zero, List.set_cons_succ]
                                                    rfl
                                                  refine three_ (i := 9) (j := 14) (k := 20) (Ni := some 48) (Nj := some 53) (Nk := some 59) #[true, true, true, true, true, true, true, true, true, true, false, true, true, true, false, false, false, true, true, true, false, false, false, false, false, false] #[true, true, true, true, true, true, true, true, true, false, false, true, true, true, true, false, false, true, true, true, false, false, false, false, false, false] #[true, true, true, true, true, true, true, true, true, false, false, true, true, true, false, false, false, true, true, true, true, false, false, false, false, false] rfl rfl rfl rfl rfl rfl (by kernel_rfl) (by decide) (by decide) (by decide) (fun K hK => ?_) (fun K hK => ?_) (fun K hK => ?_)
                                                  · skip
                                                    refine value_ (w1 := ?_) (v := ?_) (by rfl) rfl ?_ ?_
                                                    rotate_left 2
                                                    · go_simp
                                                      constructor
                                                      · rfl
                                                      · rfl
                                                    refine hK.out _ _ ((own_string (P := Try.prog) Try.underlying32 Try.underlying5 Try.underlying9 (Kd.own_of_R (Kd.R_alloc HO_8.out _)))) (fun hHeld => ?_)
                                                    clear hK K
                                                    refine norm_ (a' := ?_) ?_ ?_
                                                    rotate_left
                                                    · show Act.put _ (some 48) _ = _
                                                      simp only [Act.put, List.setIfInBounds_toArray, List.set_cons_zero, List.set_cons_succ, i64_w, i32_w]
                                                      rfl
                                                    exact norm_ (by first | (simp only [putAll, Act.put, List.setIfInBounds_toArray, List.set_cons_zero, List.set_cons_succ]; done) | (simp only [putAll, Act.put, List.setIfInBounds_toArray, List.set_cons_zero, List.set_cons_succ]; rfl)) (hJ4_5_9 (g4, v4_5.heap.size) _ ⟨hHeld, Kd.R_alloc HO_8.out _, below_alloc HB.out _, C_new v4_5 (a0.extract 0 (ji6 : Int).toNat)⟩)
                                                  · skip
                                                    refine value_ (w1 := ?_) (v := ?_) (by rfl) rfl ?_ ?_
                                                    rotate_left 2
                                                    · go_simp
                                                      constructor
                                                      · rfl
                                                      · rfl
                                                    refine hK.out _ _ ((own_string (P := Try.prog) Try.underlying32 Try.underlying5 Try.underlying9 (Kd.own_of_R (Kd.R_alloc HO_8.out _)))) (fun hHeld => ?_)
                                                    clear hK K
                                                    refine norm_ (a' := ?_) ?_ ?_
                                                    rotate_left
                                                    · show Act.put _ (some 53) _ = _
                                                      simp only [Act.put, List.setIfInBounds_toArray, List.set_cons_zero, List.set_cons_succ, i64_w, i32_w]
                                                      rfl
                                                    exact norm_ (by first | (simp only [putAll, Act.put, List.setIfInBounds_toArray, List.set_cons_zero, List.set_cons_succ]; done) | (simp only [putAll, Act.put, List.setIfInBounds_toArray, List.set_cons_zero, List.set_cons_succ]; rfl)) (hJ4_5_14 (g4, v4_5.heap.size) _ ⟨hHeld, Kd.R_alloc HO_8.out _, below_alloc HB.out _, C_new v4_5 (a1.extract 0 (ji6 : Int).toNat)⟩)
                                                  · skip
                                                    refine value_ (w1 := ?_) (v := ?_) (by rfl) rfl ?_ ?_
                                                    rotate_left 2
                                                    · go_simp
                                                      constructor
                                                      · rfl
                                                      · rfl
                                                    refine hK.out _ _ ((own_string (P := Try.prog) Try.underlying32 Try.underlying5 Try.underlying9 (Kd.own_of_R (Kd.R_alloc HO_8.out _)))) (fun hHeld => ?_)
                                                    clear hK K
                                                    refine norm_ (a' := ?_) ?_ ?_
                                                    rotate_left
                                                    · show Act.put _ (some 59) _ = _
                                                      simp only [Act.put, List.setIfInBounds_toArray, List.set_cons_zero, List.set_cons_succ, i64_w, i32_w]
                                                      rfl
                                                    exact norm_ (by first | (simp only [putAll, Act.put, List.setIfInBounds_toArray, List.set_cons_zero, List.set_cons_succ]; done) | (simp only [putAll, Act.put, List.setIfInBounds_toArray, List.set_cons_zero, List.set_cons_succ]; rfl)) (hJ4_5_20 (g4, v4_5.heap.size) _ ⟨hHeld, Kd.R_alloc HO_8.out _, below_alloc HB.out _, C_new v4_5 (a2.extract 0 (ji6 : Int).toNat)⟩)
                                              · skip
                                                rintro ⟨g9, g14, g20⟩ v9_14_20 ⟨hS_, h0_, h1_, b9_, b14_, b20_⟩
                                                have HO_8 : Aside0 (Kd.R (Kd.int .u8) 5 v9_14_20 w.heap.size (fun _ => True) (.slice Ao11 x8_1.length co11) x8_1) := ⟨h0_⟩
                                                have HB : Aside0 (Below w.heap.size w v9_14_20) := ⟨h1_⟩
                                                have B9 : Aside0 (Kd.C Kd.string v9_14_20 (some ⟨g9, 0, none⟩) 1 [(a0.extract 0 (ji6 : Int).toNat)]) := ⟨b9_⟩
                                                have B14 : Aside0 (Kd.C Kd.string v9_14_20 (some ⟨g14, 0, none⟩) 1 [(a1.extract 0 (ji6 : Int).toNat)]) := ⟨b14_⟩
                                                have B20 : Aside0 (Kd.C Kd.string v9_14_20 (some ⟨g20, 0, none⟩) 1 [(a2.extract 0 (ji6 : Int).toNat)]) := ⟨b20_⟩
                                                have hHeld : (convert 32 9 (.slice Ao11 x8_1.length co11)).run Try.prog v9_14_20 = .ok (.string (strOfNums x8_1)) v9_14_20 := hS_
                                                clear hS_ h0_ h1_ b9_ b14_ b20_
                                                refine norm_ (a' := ?_) ?_ ?_
                                                rotate_left
                                                · simp only [putAll, Act.put, List.setIfInBounds_toArray, List.set_cons_zero, List.set_cons_succ]
                                                  rfl
                                                refine one_ (i := 4) (N := some 43) #[true, true, true, true, true, false, true, true, true, true, false, true, true, true, true, false, false, true, true, true, true, false, false, false, false, false] rfl rfl (by kernel_rfl) (by decide) (fun K hK => ?_)
                                                refine value_ (w1 := ?_) (v := ?_) (by rfl) rfl ?_ ?_
                                                rotate_left 2
                                                · go_simp
                                                  constructor
                                                  · rfl
                                                  · rfl
                                                refine hK.out _ _ ((own_string (P := Try.prog) Try.underlying32 Try.underlying5 Try.underlying9 (Kd.own_of_R (Kd.R_alloc HO_8.out _)))) (fun hHeld => ?_)
                                                clear hK K
                                                refine norm_ (a' := ?_) ?_ ?_
                                                rotate_left
                                                · show Act.put _ (some 43) _ = _
                                                  simp only [Act.put, List.setIfInBounds_toArray, List.set_cons_zero, List.set_cons_succ, i64_w, i32_w]
                                                  rfl
                                                exact norm_ (by first | (simp only [putAll, Act.put, List.setIfInBounds_toArray, List.set_cons_zero, List.set_cons_succ]; done) | (simp only [putAll, Act.put, List.setIfInBounds_toArray, List.set_cons_zero, List.set_cons_succ]; rfl)) (hJ4_9_14_20 (v9_14_20.heap.size, g9, g14, g20) _ ⟨hHeld, Kd.R_alloc HO_8.out _, below_alloc HB.out _, C_new v9_14_20 (strOfNums x8_1), Kd.C_alloc B9.out _, Kd.C_alloc B14.out _, Kd.C_alloc B20.out _⟩)
                                            · skip
                                              rintro ⟨g4, g14, g20⟩ v4_14_20 ⟨hS_, h0_, h1_, b4_, b14_, b20_⟩
                                              have HO_8 : Aside0 (Kd.R (Kd.int .u8) 5 v4_14_20 w.heap.size (fun _ => True) (.slice Ao11 x8_1.length co11) x8_1) := ⟨h0_⟩
                                              have HB : Aside0 (Below w.heap.size w v4_14_20) := ⟨h1_⟩
                                              have B4 : Aside0 (Kd.C Kd.string v4_14_20 (some ⟨g4, 0, none⟩) 1 [(strOfNums x8_1)]) := ⟨b4_⟩
                                              have B14 : Aside0 (Kd.C Kd.string v4_14_20 (some ⟨g14, 0, none⟩) 1 [(a1.extract 0 (ji6 : Int).toNat)]) := ⟨b14_⟩
                                              have B20 : Aside0 (Kd.C Kd.string v4_14_20 (some ⟨g20, 0, none⟩) 1 [(a2.extract 0 (ji6 : Int).toNat)]) := ⟨b20_⟩
                                              have hHeld : (convert 32 9 (.slice Ao11 x8_1.length co11)).run Try.prog v4_14_20 = .ok (.string (strOfNums x8_1)) v4_14_20 := hS_
                                              clear hS_ h0_ h1_ b4_ b14_ b20_
                                              refine norm_ (a' := ?_) ?_ ?_
                                              rotate_left
                                              · simp only [putAll, Act.put, List.setIfInBounds_toArray, List.set_cons_zero, List.set_cons_succ]
                                                rfl
                                              refine two_ (i := 5) (j := 9) (Ni := some 44) (Nj := some 48) #[true, true, true, true, true, true, true, true, true, false, false, true, true, true, true, false, false, true, true, true, true, false, false, false, false, false] #[true, true, true, true, true, false, true, true, true, true, false, true, true, true, true, false, false, true, true, true, true, false, false, false, false, false] rfl rfl rfl rfl (by kernel_rfl) (by decide) (by decide) (fun K hK => ?_) (fun K hK => ?_)
                                              · skip
                                                refine goes_ Try.func12 (by kernel_rfl) rfl #[.slice (some ⟨g4, 0, none⟩) ([(strOfNums x8_1)] : List ByteArray).length 1] (by rfl) rfl rfl (by simp only [List.map_toArray, List.map_cons, List.map_nil]; rfl) ?_
                                                with_reducible refine (sum_Of.calls k1 (some ⟨g4, 0, none⟩) 1 [(strOfNums x8_1)] r0_ _ B4.out (Nat.le_refl _) A50.out).mono ?_
                                                rintro e wc_ ⟨rfl, hb⟩
                                                refine ⟨_, rfl, ?_⟩
                                                have HO_8 := Aside0.mk (Kd.R_below HO_8.out hb)
                                                have HB := Aside0.mk (below_step HB.out hb)
                                                have B14 := Aside0.mk (Kd.C_below B14.out hb)
                                                have B20 := Aside0.mk (Kd.C_below B20.out hb)
                                                refine hK.out _ _ ((own_string (P := Try.prog) Try.underlying32 Try.underlying5 Try.underlying9 (Kd.own_of_R HO_8.out))) (fun hHeld => ?_)
                                                clear hK K
                                                refine norm_ (a' := ?_) ?_ ?_
                                                rotate_left
                                                · show Act.put _ (some 44) _ = _
                                                  simp only [Act.put, List.setIfInBounds_toArray, List.set_cons_zero, List.set_cons_succ, i64_w, i32_w]
                                                  rfl
                                                exact norm_ (by first | (simp only [putAll, Act.put, List.setIfInBounds_toArray, List.set_cons_zero, List.set_cons_succ]; done) | (simp only [putAll, Act.put, List.setIfInBounds_toArray, List.set_cons_zero, List.set_cons_succ]; rfl)) (hJ4_5_14_20 (g4, g14, g20) _ ⟨hHeld, HO_8.out, HB.out, B14.out, B20.out⟩)
                                              · skip
                                                refine value_ (w1 := ?_) (v := ?_) (by rfl) rfl ?_ ?_
                                                rotate_left 2
                                                · go_simp
                                                  constructor
                                                  · rfl
                                                  · rfl
                                                refine hK.out _ _ ((own_string (P := Try.prog) Try.underlying32 Try.underlying5 Try.underlying9 (Kd.own_of_R (Kd.R_alloc HO_8.out _)))) (fun hHeld => ?_)
                                                clear hK K
                                                refine norm_ (a' := ?_) ?_ ?_
                                                rotate_left
                                                · show Act.put _ (some 48) _ = _
                                                  simp only [Act.put, List.setIfInBounds_toArray, List.set_cons_zero, List.set_cons_succ, i64_w, i32_w]
                                                  rfl
                                                exact norm_ (by first | (simp only [putAll, Act.put, List.setIfInBounds_toArray, List.set_cons_zero, List.set_cons_succ]; done) | (simp only [putAll, Act.put, List.setIfInBounds_toArray, List.set_cons_zero, List.set_cons_succ]; rfl)) (hJ4_9_14_20 (g4, v4_14_20.heap.size, g14, g20) _ ⟨hHeld, Kd.R_alloc HO_8.out _, below_alloc HB.out _, Kd.C_alloc B4.out _, C_new v4_14_20 (a0.extract 0 (ji6 : Int).toNat), Kd.C_alloc B14.out _, Kd.C_alloc B20.out _⟩)
                                          · skip
                                            rintro ⟨g4, g9, g20⟩ v4_9_20 ⟨hS_, h0_, h1_, b4_, b9_, b20_⟩
                                            have HO_8 : Aside0 (Kd.R (Kd.int .u8) 5 v4_9_20 w.heap.size (fun _ => True) (.slice Ao11 x8_1.length co11) x8_1) := ⟨h0_⟩
                                            have HB : Aside0 (Below w.heap.size w v4_9_20) := ⟨h1_⟩
                                            have B4 : Aside0 (Kd.C Kd.string v4_9_20 (some ⟨g4, 0, none⟩) 1 [(strOfNums x8_1)]) := ⟨b4_⟩
                                            have B9 : Aside0 (Kd.C Kd.string v4_9_20 (some ⟨g9, 0, none⟩) 1 [(a0.extract 0 (ji6 : Int).toNat)]) := ⟨b9_⟩
                                            have B20 : Aside0 (Kd.C Kd.string v4_9_20 (some ⟨g20, 0, none⟩) 1 [(a2.extract 0 (ji6 : Int).toNat)]) := ⟨b20_⟩
                                            have hHeld : (convert 32 9 (.slice Ao11 x8_1.length co11)).run Try.prog v4_9_20 = .ok (.string (strOfNums x8_1)) v4_9_20 := hS_
                                            clear hS_ h0_ h1_ b4_ b9_ b20_
                                            refine norm_ (a' := ?_) ?_ ?_
                                            rotate_left
                                            · simp only [putAll, Act.put, List.setIfInBounds_toArray, List.set_cons_zero, List.set_cons_succ]
                                              rfl
                                            refine two_ (i := 5) (j := 14) (Ni := some 44) (Nj := some 53) #[true, true, true, true, true, true, true, true, true, true, false, true, true, true, false, false, false, true, true, true, true, false, false, false, false, false] #[true, true, true, true, true, false, true, true, true, true, false, true, true, true, true, false, false, true, true, true, true, false, false, false, false, false] rfl rfl rfl rfl (by kernel_rfl) (by decide) (by decide) (fun K hK => ?_) (fun K hK => ?_)
                                            · skip
                                              refine goes_ Try.func12 (by kernel_rfl) rfl #[.slice (some ⟨g4, 0, none⟩) ([(strOfNums x8_1)] : List ByteArray).length 1] (by rfl) rfl rfl (by simp only [List.map_toArray, List.map_cons, List.map_nil]; rfl) ?_
                                              with_reducible refine (sum_Of.calls k1 (some ⟨g4, 0, none⟩) 1 [(strOfNums x8_1)] r0_ _ B4.out (Nat.le_refl _) A50.out).mono ?_
                                              rintro e wc_ ⟨rfl, hb⟩
                                              refine ⟨_, rfl, ?_⟩
                                              have HO_8 := Aside0.mk (Kd.R_below HO_8.out hb)
                                              have HB := Aside0.mk (below_step HB.out hb)
                                              have B9 := Aside0.mk (Kd.C_below B9.out hb)
                                              have B20 := Aside0.mk (Kd.C_below B20.out hb)
                                              refine hK.out _ _ ((own_string (P := Try.prog) Try.underlying32 Try.underlying5 Try.underlying9 (Kd.own_of_R HO_8.out))) (fun hHeld => ?_)
                                              clear hK K
                                              refine norm_ (a' := ?_) ?_ ?_
                                              rotate_left
                                              · show Act.put _ (some 44) _ = _
                                                simp only [Act.put, List.setIfInBounds_toArray, List.set_cons_zero, List.set_cons_succ, i64_w, i32_w]
                                                rfl
                                              exact norm_ (by first | (simp only [putAll, Act.put, List.setIfInBounds_toArray, List.set_cons_zero, List.set_cons_succ]; done) | (simp only [putAll, Act.put, List.setIfInBounds_toArray, List.set_cons_zero, List.set_cons_succ]; rfl)) (hJ4_5_9_20 (g4, g9, g20) _ ⟨hHeld, HO_8.out, HB.out, B9.out, B20.out⟩)
                                            · skip
                                              refine value_ (w1 := ?_) (v := ?_) (by rfl) rfl ?_ ?_
                                              rotate_left 2
                                              · go_simp
                                                constructor
                                                · rfl
                                                · rfl
                                              refine hK.out _ _ ((own_string (P := Try.prog) Try.underlying32 Try.underlying5 Try.underlying9 (Kd.own_of_R (Kd.R_alloc HO_8.out _)))) (fun hHeld => ?_)
                                              clear hK K
                                              refine norm_ (a' := ?_) ?_ ?_
                                              rotate_left
                                              · show Act.put _ (some 53) _ = _
                                                simp only [Act.put, List.setIfInBounds_toArray, List.set_cons_zero, List.set_cons_succ, i64_w, i32_w]
                                                rfl
                                              exact norm_ (by first | (simp only [putAll, Act.put, List.setIfInBounds_toArray, List.set_cons_zero, List.set_cons_succ]; done) | (simp only [putAll, Act.put, List.setIfInBounds_toArray, List.set_cons_zero, List.set_cons_succ]; rfl)) (hJ4_9_14_20 (g4, g9, v4_9_20.heap.size, g20) _ ⟨hHeld, Kd.R_alloc HO_8.out _, below_alloc HB.out _, Kd.C_alloc B4.out _, Kd.C_alloc B9.out _, C_new v4_9_20 (a1.extract 0 (ji6 : Int).toNat), Kd.C_alloc B20.out _⟩)
                                        · skip
                                          rintro ⟨g4, g9, g14⟩ v4_9_14 ⟨hS_, h0_, h1_, b4_, b9_, b14_⟩
                                          have HO_8 : Aside0 (Kd.R (Kd.int .u8) 5 v4_9_14 w.heap.size (fun _ => True) (.slice Ao11 x8_1.length co11) x8_1) := ⟨h0_⟩
                                          have HB : Aside0 (Below w.heap.size w v4_9_14) := ⟨h1_⟩
                                          have B4 : Aside0 (Kd.C Kd.string v4_9_14 (some ⟨g4, 0, none⟩) 1 [(strOfNums x8_1)]) := ⟨b4_⟩
                                          have B9 : Aside0 (Kd.C Kd.string v4_9_14 (some ⟨g9, 0, none⟩) 1 [(a0.extract 0 (ji6 : Int).toNat)]) := ⟨b9_⟩
                                          have B14 : Aside0 (Kd.C Kd.string v4_9_14 (some ⟨g14, 0, none⟩) 1 [(a1.extract 0 (ji6 : Int).toNat)]) := ⟨b14_⟩
                                          have hHeld : (convert 32 9 (.slice Ao11 x8_1.length co11)).run Try.prog v4_9_14 = .ok (.string (strOfNums x8_1)) v4_9_14 := hS_
                                          clear hS_ h0_ h1_ b4_ b9_ b14_
                                          refine norm_ (a' := ?_) ?_ ?_
                                          rotate_left
                                          · simp only [putAll, Act.put, List.setIfInBounds_toArray, List.set_cons_zero, List.set_cons_succ]
                                            rfl
                                          refine two_ (i := 5) (j := 20) (Ni := some 44) (Nj := some 59) #[true, true, true, true, true, true, true, true, true, true, false, true, true, true, true, false, false, true, true, true, false, false, false, false, false, false] #[true, true, true, true, true, false, true, true, true, true, false, true, true, true, true, false, false, true, true, true, true, false, false, false, false, false] rfl rfl rfl rfl (by kernel_rfl) (by decide) (by decide) (fun K hK => ?_) (fun K hK => ?_)
                                          · skip
                                            refine goes_ Try.func12 (by kernel_rfl) rfl #[.slice (some ⟨g4, 0, none⟩) ([(strOfNums x8_1)] : List ByteArray).length 1] (by rfl) rfl rfl (by simp only [List.map_toArray, List.map_cons, List.map_nil]; rfl) ?_
                                            with_reducible refine (sum_Of.calls k1 (some ⟨g4, 0, none⟩) 1 [(strOfNums x8_1)] r0_ _ B4.out (Nat.le_refl _) A50.out).mono ?_
                                            rintro e wc_ ⟨rfl, hb⟩
                                            refine ⟨_, rfl, ?_⟩
                                            have HO_8 := Aside0.mk (Kd.R_below HO_8.out hb)
                                            have HB := Aside0.mk (below_step HB.out hb)
                                            have B9 := Aside0.mk (Kd.C_below B9.out hb)
                                            have B14 := Aside0.mk (Kd.C_below B14.out hb)
                                            refine hK.out _ _ ((own_string (P := Try.prog) Try.underlying32 Try.underlying5 Try.underlying9 (Kd.own_of_R HO_8.out))) (fun hHeld => ?_)
                                            clear hK K
                                            refine norm_ (a' := ?_) ?_ ?_
                                            rotate_left
                                            · show Act.put _ (some 44) _ = _
                                              simp only [Act.put, List.setIfInBounds_toArray, List.set_cons_zero, List.set_cons_succ, i64_w, i32_w]
                                              rfl
                                            exact norm_ (by first | (simp only [putAll, Act.put, List.setIfInBounds_toArray, List.set_cons_zero, List.set_cons_succ]; done) | (simp only [putAll, Act.put, List.setIfInBounds_toArray, List.set_cons_zero, List.set_cons_succ]; rfl)) (hJ4_5_9_14 (g4, g9, g14) _ ⟨hHeld, HO_8.out, HB.out, B9.out, B14.out⟩)
                                          · skip
                                            refine value_ (w1 := ?_) (v := ?_) (by rfl) rfl ?_ ?_
                                            rotate_left 2
                                            · go_simp
                                              constructor
                                              · rfl
                                              · rfl
                                            refine hK.out _ _ ((own_string (P := Try.prog) Try.underlying32 Try.underlying5 Try.underlying9 (Kd.own_of_R (Kd.R_alloc HO_8.out _)))) (fun hHeld => ?_)
                                            clear hK K
                                            refine norm_ (a' := ?_) ?_ ?_
                                            rotate_left
                                            · show Act.put _ (some 59) _ = _
                                              simp only [Act.put, List.setIfInBounds_toArray, List.set_cons_zero, List.set_cons_succ, i64_w, i32_w]
                                              rfl
                                            exact norm_ (by first | (simp only [putAll, Act.put, List.setIfInBounds_toArray, List.set_cons_zero, List.set_cons_succ]; done) | (simp only [putAll, Act.put, List.setIfInBounds_toArray, List.set_cons_zero, List.set_cons_succ]; rfl)) (hJ4_9_14_20 (g4, g9, g14, v4_9_14.heap.size) _ ⟨hHeld, Kd.R_alloc HO_8.out _, below_alloc HB.out _, Kd.C_alloc B4.out _, Kd.C_alloc B9.out _, Kd.C_alloc B14.out _, C_new v4_9_14 (a2.extract 0 (ji6 : Int).toNat)⟩)
                                      · skip
                                        rintro ⟨g4, g20⟩ v4_5_20 ⟨hS_, h0_, h1_, b20_⟩
                                        have HO_8 : Aside0 (Kd.R (Kd.int .u8) 5 v4_5_20 w.heap.size (fun _ => True) (.slice Ao11 x8_1.length co11) x8_1) := ⟨h0_⟩
                                        have HB : Aside0 (Below w.heap.size w v4_5_20) := ⟨h1_⟩
                                        have B20 : Aside0 (Kd.C Kd.string v4_5_20 (some ⟨g20, 0, none⟩) 1 [(a2.extract 0 (ji6 : Int).toNat)]) := ⟨b20_⟩
                                        have hHeld : (convert 32 9 (.slice Ao11 x8_1.length co11)).run Try.prog v4_5_20 = .ok (.string (strOfNums x8_1)) v4_5_20 := hS_
                                        clear hS_ h0_ h1_ b20_
                                        refine norm_ (a' := ?_) ?_ ?_
                                        rotate_left
                                        · simp only [putAll, Act.put, List.setIfInBounds_toArray, List.set_cons_zero, List.set_cons_succ]
                                          rfl
                                        refine two_ (i := 9) (j := 14) (Ni := some 48) (Nj := some 53) #[true, true, true, true, true, true, true, true, true, true, false, true, true, true, false, false, false, true, true, true, true, false, false, false, false, false] #[true, true, true, true, true, true, true, true, true, false, false, true, true, true, true, false, false, true, true, true, true, false, false, false, false, false] rfl rfl rfl rfl (by kernel_rfl) (by decide) (by decide) (fun K hK => ?_) (fun K hK => ?_)
                                        · skip
                                          refine value_ (w1 := ?_) (v := ?_) (by rfl) rfl ?_ ?_
                                          rotate_left 2
                                          · go_simp
                                            constructor
                                            · rfl
                                            · rfl
                                          refine hK.out _ _ ((own_string (P := Try.prog) Try.underlying32 Try.underlying5 Try.underlying9 (Kd.own_of_R (Kd.R_alloc HO_8.out _)))) (fun hHeld => ?_)
                                          clear hK K
                                          refine norm_ (a' := ?_) ?_ ?_
                                          rotate_left
                                          · show Act.put _ (some 48) _ = _
                                            simp only [Act.put, List.setIfInBounds_toArray, List.set_cons_zero, List.set_cons_succ, i64_w, i32_w]
                                            rfl
                                          exact norm_ (by first | (simp only [putAll, Act.put, List.setIfInBounds_toArray, List.set_cons_zero, List.set_cons_succ]; done) | (simp only [putAll, Act.put, List.setIfInBounds_toArray, List.set_cons_zero, List.set_cons_succ]; rfl)) (hJ4_5_9_20 (g4, v4_5_20.heap.size, g20) _ ⟨hHeld, Kd.R_alloc HO_8.out _, below_alloc HB.out _, C_new v4_5_20 (a0.extract 0 (ji6 : Int).toNat), Kd.C_alloc B20.out _⟩)
                                        · skip
                                          refine value_ (w1 := ?_) (v := ?_) (by rfl) rfl ?_ ?_
                                          rotate_left 2
                                          · go_simp
                                            constructor
                                            · rfl
                                            · rfl
                                          refine hK.out _ _ ((own_string (P := Try.prog) Try.underlying32 Try.underlying5 Try.underlying9 (Kd.own_of_R (Kd.R_alloc HO_8.out _)))) (fun hHeld => ?_)
                                          clear hK K
                                          refine norm_ (a' := ?_) ?_ ?_
                                          rotate_left
                                          · show Act.put _ (some 53) _ = _
                                            simp only [Act.put, List.setIfInBounds_toArray, List.set_cons_zero, List.set_cons_succ, i64_w, i32_w]
                                            rfl
                                          exact norm_ (by first | (simp only [putAll, Act.put, List.setIfInBounds_toArray, List.set_cons_zero, List.set_cons_succ]; done) | (simp only [putAll, Act.put, List.setIfInBounds_toArray, List.set_cons_zero, List.set_cons_succ]; rfl)) (hJ4_5_14_20 (g4, v4_5_20.heap.size, g20) _ ⟨hHeld, Kd.R_alloc HO_8.out _, below_alloc HB.out _, C_new v4_5_20 (a1.extract 0 (ji6 : Int).toNat), Kd.C_alloc B20.out _⟩)
                                    · skip
                                      rintro ⟨g4, g14⟩ v4_5_14 ⟨hS_, h0_, h1_, b14_⟩
                                      have HO_8 : Aside0 (Kd.R (Kd.int .u8) 5 v4_5_14 w.heap.size (fun _ => True) (.slice Ao11 x8_1.length co11) x8_1) := ⟨h0_⟩
                                      have HB : Aside0 (Below w.heap.size w v4_5_14) := ⟨h1_⟩
                                      have B14 : Aside0 (Kd.C Kd.string v4_5_14 (some ⟨g14, 0, none⟩) 1 [(a1.extract 0 (ji6 : Int).toNat)]) := ⟨b14_⟩
                                      have hHeld : (convert 32 9 (.slice Ao11 x8_1.length co11)).run Try.prog v4_5_14 = .ok (.string (strOfNums x8_1)) v4_5_14 := hS_
                                      clear hS_ h0_ h1_ b14_
                                      refine norm_ (a' := ?_) ?_ ?_
                                      rotate_left
                                      · simp only [putAll, Act.put, List.setIfInBounds_toArray, List.set_cons_zero, List.set_cons_succ]
                                        rfl
                                      refine two_ (i := 9) (j := 20) (Ni := some 48) (Nj := some 59) #[true, true, true, true, true, true, true, true, true, true, false, true, true, true, true, false, false, true, true, true, false, false, false, false, false, false] #[true, true, true, true, true, true, true, true, true, false, false, true, true, true, true, false, false, true, true, true, true, false, false, false, false, false] rfl rfl rfl rfl (by kernel_rfl) (by decide) (by decide) (fun K hK => ?_) (fun K hK => ?_)
                                      · skip
                                        refine value_ (w1 := ?_) (v := ?_) (by rfl) rfl ?_ ?_
                                        rotate_left 2
                                        · go_simp
                                          constructor
                                          · rfl
                                          · rfl
                                        refine hK.out _ _ ((own_string (P := Try.prog) Try.underlying32 Try.underlying5 Try.underlying9 (Kd.own_of_R (Kd.R_alloc HO_8.out _)))) (fun hHeld => ?_)
                                        clear hK K
                                        refine norm_ (a' := ?_) ?_ ?_
                                        rotate_left
                                        · show Act.put _ (some 48) _ = _
                                          simp only [Act.put, List.setIfInBounds_toArray, List.set_cons_zero, List.set_cons_succ, i64_w, i32_w]
                                          rfl
                                        exact norm_ (by first | (simp only [putAll, Act.put, List.setIfInBounds_toArray, List.set_cons_zero, List.set_cons_succ]; done) | (simp only [putAll, Act.put, List.setIfInBounds_toArray, List.set_cons_zero, List.set_cons_succ]; rfl)) (hJ4_5_9_14 (g4, v4_5_14.heap.size, g14) _ ⟨hHeld, Kd.R_alloc HO_8.out _, below_alloc HB.out _, C_new v4_5_14 (a0.extract 0 (ji6 : Int).toNat), Kd.C_alloc B14.out _⟩)
                                      · skip
                                        refine value_ (w1 := ?_) (v := ?_) (by rfl) rfl ?_ ?_
                                        rotate_left 2
                                        · go_simp
                                          constructor
                                          · rfl
                                          · rfl
                                        refine hK.out _ _ ((own_string (P := Try.prog) Try.underlying32 Try.underlying5 Try.underlying9 (Kd.own_of_R (Kd.R_alloc HO_8.out _)))) (fun hHeld => ?_)
                                        clear hK K
                                        refine norm_ (a' := ?_) ?_ ?_
                                        rotate_left
                                        · show Act.put _ (some 59) _ = _
                                          simp only [Act.put, List.setIfInBounds_toArray, List.set_cons_zero, List.set_cons_succ, i64_w, i32_w]
                                          rfl
                                        exact norm_ (by first | (simp only [putAll, Act.put, List.setIfInBounds_toArray, List.set_cons_zero, List.set_cons_succ]; done) | (simp only [putAll, Act.put, List.setIfInBounds_toArray, List.set_cons_zero, List.set_cons_succ]; rfl)) (hJ4_5_14_20 (g4, g14, v4_5_14.heap.size) _ ⟨hHeld, Kd.R_alloc HO_8.out _, below_alloc HB.out _, Kd.C_alloc B14.out _, C_new v4_5_14 (a2.extract 0 (ji6 : Int).toNat)⟩)
                                  · skip
                                    rintro ⟨g4, g9⟩ v4_5_9 ⟨hS_, h0_, h1_, b9_⟩
                                    have HO_8 : Aside0 (Kd.R (Kd.int .u8) 5 v4_5_9 w.heap.size (fun _ => True) (.slice Ao11 x8_1.length co11) x8_1) := ⟨h0_⟩
                                    have HB : Aside0 (Below w.heap.size w v4_5_9) := ⟨h1_⟩
                                    have B9 : Aside0 (Kd.C Kd.string v4_5_9 (some ⟨g9, 0, none⟩) 1 [(a0.extract 0 (ji6 : Int).toNat)]) := ⟨b9_⟩
                                    have hHeld : (convert 32 9 (.slice Ao11 x8_1.length co11)).run Try.prog v4_5_9 = .ok (.string (strOfNums x8_1)) v4_5_9 := hS_
                                    clear hS_ h0_ h1_ b9_
                                    refine norm_ (a' := ?_) ?_ ?_
                                    rotate_left
                                    · simp only [putAll, Act.put, List.setIfInBounds_toArray, List.set_cons_zero, List.set_cons_succ]
                                      rfl
                                    refine three_ (i := 10) (j := 14) (k := 20) (Ni := some 49) (Nj := some 53) (Nk := some 59) #[true, true, true, true, true, true, true, true, true, true, true, true, true, true, false, false, false, true, true, true, false, false, false, false, false, false] #[true, true, true, true, true, true, true, true, true, true, false, true, true, true, true, false, false, true, true, true, false, false, false, false, false, false] #[true, true, true, true, true, true, true, true, true, true, false, true, true, true, false, false, false, true, true, true, true, false, false, false, false, false] rfl rfl rfl rfl rfl rfl (by kernel_rfl) (by decide) (by decide) (by decide) (fun K hK => ?_) (fun K hK => ?_) (fun K hK => ?_)
                                    · skip
                                      refine goes_ Try.func12 (by kernel_rfl) rfl #[.slice (some ⟨g9, 0, none⟩) ([(a0.extract 0 (ji6 : Int).toNat)] : List ByteArray).length 1] (by rfl) rfl rfl (by simp only [List.map_toArray, List.map_cons, List.map_nil]; rfl) ?_
                                      with_reducible refine (sum_Of.calls k1 (some ⟨g9, 0, none⟩) 1 [(a0.extract 0 (ji6 : Int).toNat)] r1_ _ B9.out (Nat.le_refl _) A51.out).mono ?_
                                      rintro e wc_ ⟨rfl, hb⟩
                                      refine ⟨_, rfl, ?_⟩
                                      have HO_8 := Aside0.mk (Kd.R_below HO_8.out hb)
                                      have HB := Aside0.mk (below_step HB.out hb)
                                      refine hK.out _ _ ((own_string (P := Try.prog) Try.underlying32 Try.underlying5 Try.underlying9 (Kd.own_of_R HO_8.out))) (fun hHeld => ?_)
                                      clear hK K
                                      refine norm_ (a' := ?_) ?_ ?_
                                      rotate_left
                                      · show Act.put _ (some 49) _ = _
                                        simp only [Act.put, List.setIfInBounds_toArray, List.set_cons_zero, List.set_cons_succ, i64_w, i32_w]
                                        rfl
                                      exact norm_ (by first | (simp only [putAll, Act.put, List.setIfInBounds_toArray, List.set_cons_zero, List.set_cons_succ]; done) | (simp only [putAll, Act.put, List.setIfInBounds_toArray, List.set_cons_zero, List.set_cons_succ]; rfl)) (hJ4_5_9_10 (g4, g9) _ ⟨hHeld, HO_8.out, HB.out⟩)
                                    · skip
                                      refine value_ (w1 := ?_) (v := ?_) (by rfl) rfl ?_ ?_
                                      rotate_left 2
                                      · go_simp
                                        constructor
                                        · rfl
                                        · rfl
                                      refine hK.out _ _ ((own_string (P := Try.prog) Try.underlying32 Try.underlying5 Try.underlying9 (Kd.own_of_R (Kd.R_alloc HO_8.out _)))) (fun hHeld => ?_)
                                      clear hK K
                                      refine norm_ (a' := ?_) ?_ ?_
                                      rotate_left
                                      · show Act.put _ (some 53) _ = _
                                        simp only [Act.put, List.setIfInBounds_toArray, List.set_cons_zero, List.set_cons_succ, i64_w, i32_w]
                                        rfl
                                      exact norm_ (by first | (simp only [putAll, Act.put, List.setIfInBounds_toArray, List.set_cons_zero, List.set_cons_succ]; done) | (simp only [putAll, Act.put, List.setIfInBounds_toArray, List.set_cons_zero, List.set_cons_succ]; rfl)) (hJ4_5_9_14 (g4, g9, v4_5_9.heap.size) _ ⟨hHeld, Kd.R_alloc HO_8.out _, below_alloc HB.out _, Kd.C_alloc B9.out _, C_new v4_5_9 (a1.extract 0 (ji6 : Int).toNat)⟩)
                                    · skip
                                      refine value_ (w1 := ?_) (v := ?_) (by rfl) rfl ?_ ?_
                                      rotate_left 2
                                      · go_simp
                                        constructor
                                        · rfl
                                        · rfl
                                      refine hK.out _ _ ((own_string (P := Try.prog) Try.underlying32 Try.underlying5 Try.underlying9 (Kd.own_of_R (Kd.R_alloc HO_8.out _)))) (fun hHeld => ?_)
                                      clear hK K
                                      refine norm_ (a' := ?_) ?_ ?_
                                      rotate_left
                                      · show Act.put _ (some 59) _ = _
                                        simp only [Act.put, List.setIfInBounds_toArray, List.set_cons_zero, List.set_cons_succ, i64_w, i32_w]
                                        rfl
                                      exact norm_ (by first | (simp only [putAll, Act.put, List.setIfInBounds_toArray, List.set_cons_zero, List.set_cons_succ]; done) | (simp only [putAll, Act.put, List.setIfInBounds_toArray, List.set_cons_zero, List.set_cons_succ]; rfl)) (hJ4_5_9_20 (g4, g9, v4_5_9.heap.size) _ ⟨hHeld, Kd.R_alloc HO_8.out _, below_alloc HB.out _, Kd.C_alloc B9.out _, C_new v4_5_9 (a2.extract 0 (ji6 : Int).toNat)⟩)
                                · skip
                                  rintro ⟨g4, g9, g14, g20⟩ v4_9_14_20 ⟨hS_, h0_, h1_, b4_, b9_, b14_, b20_⟩
                                  have HO_8 : Aside0 (Kd.R (Kd.int .u8) 5 v4_9_14_20 w.heap.size (fun _ => True) (.slice Ao11 x8_1.length co11) x8_1) := ⟨h0_⟩
                                  have HB : Aside0 (Below w.heap.size w v4_9_14_20) := ⟨h1_⟩
                                  have B4 : Aside0 (Kd.C Kd.string v4_9_14_20 (some ⟨g4, 0, none⟩) 1 [(strOfNums x8_1)]) := ⟨b4_⟩
                                  have B9 : Aside0 (Kd.C Kd.string v4_9_14_20 (some ⟨g9, 0, none⟩) 1 [(a0.extract 0 (ji6 : Int).toNat)]) := ⟨b9_⟩
                                  have B14 : Aside0 (Kd.C Kd.string v4_9_14_20 (some ⟨g14, 0, none⟩) 1 [(a1.extract 0 (ji6 : Int).toNat)]) := ⟨b14_⟩
                                  have B20 : Aside0 (Kd.C Kd.string v4_9_14_20 (some ⟨g20, 0, none⟩) 1 [(a2.extract 0 (ji6 : Int).toNat)]) := ⟨b20_⟩
                                  have hHeld : (convert 32 9 (.slice Ao11 x8_1.length co11)).run Try.prog v4_9_14_20 = .ok (.string (strOfNums x8_1)) v4_9_14_20 := hS_
                                  clear hS_ h0_ h1_ b4_ b9_ b14_ b20_
                                  refine norm_ (a' := ?_) ?_ ?_
                                  rotate_left
                                  · simp only [putAll, Act.put, List.setIfInBounds_toArray, List.set_cons_zero, List.set_cons_succ]
                                    rfl
                                  refine one_ (i := 5) (N := some 44) #[true, true, true, true, true, true, true, true, true, true, false, true, true, true, true, false, false, true, true, true, true, false, false, false, false, false] rfl rfl (by kernel_rfl) (by decide) (fun K hK => ?_)
                                  refine goes_ Try.func12 (by kernel_rfl) rfl #[.slice (some ⟨g4, 0, none⟩) ([(strOfNums x8_1)] : List ByteArray).length 1] (by rfl) rfl rfl (by simp only [List.map_toArray, List.map_cons, List.map_nil]; rfl) ?_
                                  with_reducible refine (sum_Of.calls k1 (some ⟨g4, 0, none⟩) 1 [(strOfNums x8_1)] r0_ _ B4.out (Nat.le_refl _) A50.out).mono ?_
                                  rintro e wc_ ⟨rfl, hb⟩
                                  refine ⟨_, rfl, ?_⟩
                                  have HO_8 := Aside0.mk (Kd.R_below HO_8.out hb)
                                  have HB := Aside0.mk (below_step HB.out hb)
                                  have B9 := Aside0.mk (Kd.C_below B9.out hb)
                                  have B14 := Aside0.mk (Kd.C_below B14.out hb)
                                  have B20 := Aside0.mk (Kd.C_below B20.out hb)
                                  refine hK.out _ _ ((own_string (P := Try.prog) Try.underlying32 Try.underlying5 Try.underlying9 (Kd.own_of_R HO_8.out))) (fun hHeld => ?_)
                                  clear hK K
                                  refine norm_ (a' := ?_) ?_ ?_
                                  rotate_left
                                  · show Act.put _ (some 44) _ = _
                                    simp only [Act.put, List.setIfInBounds_toArray, List.set_cons_zero, List.set_cons_succ, i64_w, i32_w]
                                    rfl
                                  exact norm_ (by first | (simp only [putAll, Act.put, List.setIfInBounds_toArray, List.set_cons_zero, List.set_cons_succ]; done) | (simp only [putAll, Act.put, List.setIfInBounds_toArray, List.set_cons_zero, List.set_cons_succ]; rfl)) (hJ4_5_9_14_20 (g4, g9, g14, g20) _ ⟨hHeld, HO_8.out, HB.out, B9.out, B14.out, B20.out⟩)
                              · skip
                                rintro ⟨g4, g14, g20⟩ v4_5_14_20 ⟨hS_, h0_, h1_, b14_, b20_⟩
                                have HO_8 : Aside0 (Kd.R (Kd.int .u8) 5 v4_5_14_20 w.heap.size (fun _ => True) (.slice Ao11 x8_1.length co11) x8_1) := ⟨h0_⟩
                                have HB : Aside0 (Below w.heap.size w v4_5_14_20) := ⟨h1_⟩
                                have B14 : Aside0 (Kd.C Kd.string v4_5_14_20 (some ⟨g14, 0, none⟩) 1 [(a1.extract 0 (ji6 : Int).toNat)]) := ⟨b14_⟩
                                have B20 : Aside0 (Kd.C Kd.string v4_5_14_20 (some ⟨g20, 0, none⟩) 1 [(a2.extract 0 (ji6 : Int).toNat)]) := ⟨b20_⟩
                                have hHeld : (convert 32 9 (.slice Ao11 x8_1.length co11)).run Try.prog v4_5_14_20 = .ok (.string (strOfNums x8_1)) v4_5_14_20 := hS_
                                clear hS_ h0_ h1_ b14_ b20_
                                refine norm_ (a' := ?_) ?_ ?_
                                rotate_left
                                · simp only [putAll, Act.put, List.setIfInBounds_toArray, List.set_cons_zero, List.set_cons_succ]
                                  rfl
                                refine one_ (i := 9) (N := some 48) #[true, true, true, true, true, true, true, true, true, true, false, true, true, true, true, false, false, true, true, true, true, false, false, false, false, false] rfl rfl (by kernel_rfl) (by decide) (fun K hK => ?_)
                                refine value_ (w1 := ?_) (v := ?_) (by rfl) rfl ?_ ?_
                                rotate_left 2
                                · go_simp
                                  constructor
                                  · rfl
                                  · rfl
                                refine hK.out _ _ ((own_string (P := Try.prog) Try.underlying32 Try.underlying5 Try.underlying9 (Kd.own_of_R (Kd.R_alloc HO_8.out _)))) (fun hHeld => ?_)
                                clear hK K
                                refine norm_ (a' := ?_) ?_ ?_
                                rotate_left
                                · show Act.put _ (some 48) _ = _
                                  simp only [Act.put, List.setIfInBounds_toArray, List.set_cons_zero, List.set_cons_succ, i64_w, i32_w]
                                  rfl
                                exact norm_ (by first | (simp only [putAll, Act.put, List.setIfInBounds_toArray, List.set_cons_zero, List.set_cons_succ]; done) | (simp only [putAll, Act.put, List.setIfInBounds_toArray, List.set_cons_zero, List.set_cons_succ]; rfl)) (hJ4_5_9_14_20 (g4, v4_5_14_20.heap.size, g14, g20) _ ⟨hHeld, Kd.R_alloc HO_8.out _, below_alloc HB.out _, C_new v4_5_14_20 (a0.extract 0 (ji6 : Int).toNat), Kd.C_alloc B14.out _, Kd.C_alloc B20.out _⟩)
                            · skip
                              rintro ⟨g4, g9, g20⟩ v4_5_9_20 ⟨hS_, h0_, h1_, b9_, b20_⟩
                              have HO_8 : Aside0 (Kd.R (Kd.int .u8) 5 v4_5_9_20 w.heap.size (fun _ => True) (.slice Ao11 x8_1.length co11) x8_1) := ⟨h0_⟩
                              have HB : Aside0 (Below w.heap.size w v4_5_9_20) := ⟨h1_⟩
                              have B9 : Aside0 (Kd.C Kd.string v4_5_9_20 (some ⟨g9, 0, none⟩) 1 [(a0.extract 0 (ji6 : Int).toNat)]) := ⟨b9_⟩
                              have B20 : Aside0 (Kd.C Kd.string v4_5_9_20 (some ⟨g20, 0, none⟩) 1 [(a2.extract 0 (ji6 : Int).toNat)]) := ⟨b20_⟩
                              have hHeld : (convert 32 9 (.slice Ao11 x8_1.length co11)).run Try.prog v4_5_9_20 = .ok (.string (strOfNums x8_1)) v4_5_9_20 := hS_
                              clear hS_ h0_ h1_ b9_ b20_
                              refine norm_ (a' := ?_) ?_ ?_
                              rotate_left
                              · simp only [putAll, Act.put, List.setIfInBounds_toArray, List.set_cons_zero, List.set_cons_succ]
                                rfl
                              refine two_ (i := 10) (j := 14) (Ni := some 49) (Nj := some 53) #[true, true, true, true, true, true, true, true, true, true, true, true, true, true, false, false, false, true, true, true, true, false, false, false, false, false] #[true, true, true, true, true, true, true, true, true, true, false, true, true, true, true, false, false, true, true, true, true, false, false, false, false, false] rfl rfl rfl rfl (by kernel_rfl) (by decide) (by decide) (fun K hK => ?_) (fun K hK => ?_)
                              · skip
                                refine goes_ Try.func12 (by kernel_rfl) rfl #[.slice (some ⟨g9, 0, none⟩) ([(a0.extract 0 (ji6 : Int).toNat)] : List ByteArray).length 1] (by rfl) rfl rfl (by simp only [List.map_toArray, List.map_cons, List.map_nil]; rfl) ?_
                                with_reducible refine (sum_Of.calls k1 (some ⟨g9, 0, none⟩) 1 [(a0.extract 0 (ji6 : Int).toNat)] r1_ _ B9.out (Nat.le_refl _) A51.out).mono ?_
                                rintro e wc_ ⟨rfl, hb⟩
                                refine ⟨_, rfl, ?_⟩
                                have HO_8 := Aside0.mk (Kd.R_below HO_8.out hb)
                                have HB := Aside0.mk (below_step HB.out hb)
                                have B20 := Aside0.mk (Kd.C_below B20.out hb)
                                refine hK.out _ _ ((own_string (P := Try.prog) Try.underlying32 Try.underlying5 Try.underlying9 (Kd.own_of_R HO_8.out))) (fun hHeld => ?_)
                                clear hK K
                                refine norm_ (a' := ?_) ?_ ?_
                                rotate_left
                                · show Act.put _ (some 49) _ = _
                                  simp only [Act.put, List.setIfInBounds_toArray, List.set_cons_zero, List.set_cons_succ, i64_w, i32_w]
                                  rfl
                                exact norm_ (by first | (simp only [putAll, Act.put, List.setIfInBounds_toArray, List.set_cons_zero, List.set_cons_succ]; done) | (simp only [putAll, Act.put, List.setIfInBounds_toArray, List.set_cons_zero, List.set_cons_succ]; rfl)) (hJ4_5_9_10_20 (g4, g9, g20) _ ⟨hHeld, HO_8.out, HB.out, B20.out⟩)
                              · skip
                                refine value_ (w1 := ?_) (v := ?_) (by rfl) rfl ?_ ?_
                                rotate_left 2
                                · go_simp
                                  constructor
                                  · rfl
                                  · rfl
                                refine hK.out _ _ ((own_string (P := Try.prog) Try.underlying32 Try.underlying5 Try.underlying9 (Kd.own_of_R (Kd.R_alloc HO_8.out _)))) (fun hHeld => ?_)
                                clear hK K
                                refine norm_ (a' := ?_) ?_ ?_
                                rotate_left
                                · show Act.put _ (some 53) _ = _
                                  simp only [Act.put, List.setIfInBounds_toArray, List.set_cons_zero, List.set_cons_succ, i64_w, i32_w]
                                  rfl
                                exact norm_ (by first | (simp only [putAll, Act.put, List.setIfInBounds_toArray, List.set_cons_zero, List.set_cons_succ]; done) | (simp only [putAll, Act.put, List.setIfInBounds_toArray, List.set_cons_zero, List.set_cons_succ]; rfl)) (hJ4_5_9_14_20 (g4, g9, v4_5_9_20.heap.size, g20) _ ⟨hHeld, Kd.R_alloc HO_8.out _, below_alloc HB.out _, Kd.C_alloc B9.out _, C_new v4_5_9_20 (a1.extract 0 (ji6 : Int).toNat), Kd.C_alloc B20.out _⟩)
                          · skip
                            rintro ⟨g4, g9, g14⟩ v4_5_9_14 ⟨hS_, h0_, h1_, b9_, b14_⟩
                            have HO_8 : Aside0 (Kd.R (Kd.int .u8) 5 v4_5_9_14 w.heap.size (fun _ => True) (.slice Ao11 x8_1.length co11) x8_1) := ⟨h0_⟩
                            have HB : Aside0 (Below w.heap.size w v4_5_9_14) := ⟨h1_⟩
                            have B9 : Aside0 (Kd.C Kd.string v4_5_9_14 (some ⟨g9, 0, none⟩) 1 [(a0.extract 0 (ji6 : Int).toNat)]) := ⟨b9_⟩
                            have B14 : Aside0 (Kd.C Kd.string v4_5_9_14 (some ⟨g14, 0, none⟩) 1 [(a1.extract 0 (ji6 : Int).toNat)]) := ⟨b14_⟩
                            have hHeld : (convert 32 9 (.slice Ao11 x8_1.length co11)).run Try.prog v4_5_9_14 = .ok (.string (strOfNums x8_1)) v4_5_9_14 := hS_
                            clear hS_ h0_ h1_ b9_ b14_
                            refine norm_ (a' := ?_) ?_ ?_
                            rotate_left
                            · simp only [putAll, Act.put, List.setIfInBounds_toArray, List.set_cons_zero, List.set_cons_succ]
                              rfl
                            refine two_ (i := 10) (j := 20) (Ni := some 49) (Nj := some 59) #[true, true, true, true, true, true, true, true, true, true, true, true, true, true, true, false, false, true, true, true, false, false, false, false, false, false] #[true, true, true, true, true, true, true, true, true, true, false, true, true, true, true, false, false, true, true, true, true, false, false, false, false, false] rfl rfl rfl rfl (by kernel_rfl) (by decide) (by decide) (fun K hK => ?_) (fun K hK => ?_)
                            · skip
                              refine goes_ Try.func12 (by kernel_rfl) rfl #[.slice (some ⟨g9, 0, none⟩) ([(a0.extract 0 (ji6 : Int).toNat)] : List ByteArray).length 1] (by rfl) rfl rfl (by simp only [List.map_toArray, List.map_cons, List.map_nil]; rfl) ?_
                              with_reducible refine (sum_Of.calls k1 (some ⟨g9, 0, none⟩) 1 [(a0.extract 0 (ji6 : Int).toNat)] r1_ _ B9.out (Nat.le_refl _) A51.out).mono ?_
                              rintro e wc_ ⟨rfl, hb⟩
                              refine ⟨_, rfl, ?_⟩
                              have HO_8 := Aside0.mk (Kd.R_below HO_8.out hb)
                              have HB := Aside0.mk (below_step HB.out hb)
                              have B14 := Aside0.mk (Kd.C_below B14.out hb)
                              refine hK.out _ _ ((own_string (P := Try.prog) Try.underlying32 Try.underlying5 Try.underlying9 (Kd.own_of_R HO_8.out))) (fun hHeld => ?_)
                              clear hK K
                              refine norm_ (a' := ?_) ?_ ?_
                              rotate_left
                              · show Act.put _ (some 49) _ = _
                                simp only [Act.put, List.setIfInBounds_toArray, List.set_cons_zero, List.set_cons_succ, i64_w, i32_w]
                                rfl
                              exact norm_ (by first | (simp only [putAll, Act.put, List.setIfInBounds_toArray, List.set_cons_zero, List.set_cons_succ]; done) | (simp only [putAll, Act.put, List.setIfInBounds_toArray, List.set_cons_zero, List.set_cons_succ]; rfl)) (hJ4_5_9_10_14 (g4, g9, g14) _ ⟨hHeld, HO_8.out, HB.out, B14.out⟩)
                            · skip
                              refine value_ (w1 := ?_) (v := ?_) (by rfl) rfl ?_ ?_
                              rotate_left 2
                              · go_simp
                                constructor
                                · rfl
                                · rfl
                              refine hK.out _ _ ((own_string (P := Try.prog) Try.underlying32 Try.underlying5 Try.underlying9 (Kd.own_of_R (Kd.R_alloc HO_8.out _)))) (fun hHeld => ?_)
                              clear hK K
                              refine norm_ (a' := ?_) ?_ ?_
                              rotate_left
                              · show Act.put _ (some 59) _ = _
                                simp only [Act.put, List.setIfInBounds_toArray, List.set_cons_zero, List.set_cons_succ, i64_w, i32_w]
                                rfl
                              exact norm_ (by first | (simp only [putAll, Act.put, List.setIfInBounds_toArray, List.set_cons_zero, List.set_cons_succ]; done) | (simp only [putAll, Act.put, List.setIfInBounds_toArray, List.set_cons_zero, List.set_cons_succ]; rfl)) (hJ4_5_9_14_20 (g4, g9, g14, v4_5_9_14.heap.size) _ ⟨hHeld, Kd.R_alloc HO_8.out _, below_alloc HB.out _, Kd.C_alloc B9.out _, Kd.C_alloc B14.out _, C_new v4_5_9_14 (a2.extract 0 (ji6 : Int).toNat)⟩)
                        · skip
                          rintro ⟨g4, g9⟩ v4_5_9_10 ⟨hS_, h0_, h1_⟩
                          have HO_8 : Aside0 (Kd.R (Kd.int .u8) 5 v4_5_9_10 w.heap.size (fun _ => True) (.slice Ao11 x8_1.length co11) x8_1) := ⟨h0_⟩
                          have HB : Aside0 (Below w.heap.size w v4_5_9_10) := ⟨h1_⟩
                          have hHeld : (convert 32 9 (.slice Ao11 x8_1.length co11)).run Try.prog v4_5_9_10 = .ok (.string (strOfNums x8_1)) v4_5_9_10 := hS_
                          clear hS_ h0_ h1_
                          refine norm_ (a' := ?_) ?_ ?_
                          rotate_left
                          · simp only [putAll, Act.put, List.setIfInBounds_toArray, List.set_cons_zero, List.set_cons_succ]
                            rfl
                          refine two_ (i := 14) (j := 20) (Ni := some 53) (Nj := some 59) #[true, true, true, true, true, true, true, true, true, true, true, true, true, true, true, false, false, true, true, true, false, false, false, false, false, false] #[true, true, true, true, true, true, true, true, true, true, true, true, true, true, false, false, false, true, true, true, true, false, false, false, false, false] rfl rfl rfl rfl (by kernel_rfl) (by decide) (by decide) (fun K hK => ?_) (fun K hK => ?_)
                          · skip
                            refine value_ (w1 := ?_) (v := ?_) (by rfl) rfl ?_ ?_
                            rotate_left 2
                            · go_simp
                              constructor
                              · rfl
                              · rfl
                            refine hK.out _ _ ((own_string (P := Try.prog) Try.underlying32 Try.underlying5 Try.underlying9 (Kd.own_of_R (Kd.R_alloc HO_8.out _)))) (fun hHeld => ?_)
                            clear hK K
                            refine norm_ (a' := ?_) ?_ ?_
                            rotate_left
                            · show Act.put _ (some 53) _ = _
                              simp only [Act.put, List.setIfInBounds_toArray, List.set_cons_zero, List.set_cons_succ, i64_w, i32_w]
                              rfl
                            exact norm_ (by first | (simp only [putAll, Act.put, List.setIfInBounds_toArray, List.set_cons_zero, List.set_cons_succ]; done) | (simp only [putAll, Act.put, List.setIfInBounds_toArray, List.set_cons_zero, List.set_cons_succ]; rfl)) (hJ4_5_9_10_14 (g4, g9, v4_5_9_10.heap.size) _ ⟨hHeld, Kd.R_alloc HO_8.out _, below_alloc HB.out _, C_new v4_5_9_10 (a1.extract 0 (ji6 : Int).toNat)⟩)
                          · skip
                            refine value_ (w1 := ?_) (v := ?_) (by rfl) rfl ?_ ?_
                            rotate_left 2
                            · go_simp
                              constructor
                              · rfl
                              · rfl
                            refine hK.out _ _ ((own_string (P := Try.prog) Try.underlying32 Try.underlying5 Try.underlying9 (Kd.own_of_R (Kd.R_alloc HO_8.out _)))) (fun hHeld => ?_)
                            clear hK K
                            refine norm_ (a' := ?_) ?_ ?_
                            rotate_left
                            · show Act.put _ (some 59) _ = _
                              simp only [Act.put, List.setIfInBounds_toArray, List.set_cons_zero, List.set_cons_succ, i64_w, i32_w]
                              rfl
                            exact norm_ (by first | (simp only [putAll, Act.put, List.setIfInBounds_toArray, List.set_cons_zero, List.set_cons_succ]; done) | (simp only [putAll, Act.put, List.setIfInBounds_toArray, List.set_cons_zero, List.set_cons_succ]; rfl)) (hJ4_5_9_10_20 (g4, g9, v4_5_9_10.heap.size) _ ⟨hHeld, Kd.R_alloc HO_8.out _, below_alloc HB.out _, C_new v4_5_9_10 (a2.extract 0 (ji6 : Int).toNat)⟩)
                      · skip
                        rintro ⟨g4, g9, g14, g20⟩ v4_5_9_14_20 ⟨hS_, h0_, h1_, b9_, b14_, b20_⟩
                        have HO_8 : Aside0 (Kd.R (Kd.int .u8) 5 v4_5_9_14_20 w.heap.size (fun _ => True) (.slice Ao11 x8_1.length co11) x8_1) := ⟨h0_⟩
                        have HB : Aside0 (Below w.heap.size w v4_5_9_14_20) := ⟨h1_⟩
                        have B9 : Aside0 (Kd.C Kd.string v4_5_9_14_20 (some ⟨g9, 0, none⟩) 1 [(a0.extract 0 (ji6 : Int).toNat)]) := ⟨b9_⟩
                        have B14 : Aside0 (Kd.C Kd.string v4_5_9_14_20 (some ⟨g14, 0, none⟩) 1 [(a1.extract 0 (ji6 : Int).toNat)]) := ⟨b14_⟩
                        have B20 : Aside0 (Kd.C Kd.string v4_5_9_14_20 (some ⟨g20, 0, none⟩) 1 [(a2.extract 0 (ji6 : Int).toNat)]) := ⟨b20_⟩
                        have hHeld : (convert 32 9 (.slice Ao11 x8_1.length co11)).run Try.prog v4_5_9_14_20 = .ok (.string (strOfNums x8_1)) v4_5_9_14_20 := hS_
                        clear hS_ h0_ h1_ b9_ b14_ b20_
                        refine norm_ (a' := ?_) ?_ ?_
                        rotate_left
                        · simp only [putAll, Act.put, List.setIfInBounds_toArray, List.set_cons_zero, List.set_cons_succ]
                          rfl
                        refine one_ (i := 10) (N := some 49) #[true, true, true, true, true, true, true, true, true, true, true, true, true, true, true, false, false, true, true, true, true, false, false, false, false, false] rfl rfl (by kernel_rfl) (by decide) (fun K hK => ?_)
                        refine goes_ Try.func12 (by kernel_rfl) rfl #[.slice (some ⟨g9, 0, none⟩) ([(a0.extract 0 (ji6 : Int).toNat)] : List ByteArray).length 1] (by rfl) rfl rfl (by simp only [List.map_toArray, List.map_cons, List.map_nil]; rfl) ?_
                        with_reducible refine (sum_Of.calls k1 (some ⟨g9, 0, none⟩) 1 [(a0.extract 0 (ji6 : Int).toNat)] r1_ _ B9.out (Nat.le_refl _) A51.out).mono ?_
                        rintro e wc_ ⟨rfl, hb⟩
                        refine ⟨_, rfl, ?_⟩
                        have HO_8 := Aside0.mk (Kd.R_below HO_8.out hb)
                        have HB := Aside0.mk (below_step HB.out hb)
                        have B14 := Aside0.mk (Kd.C_below B14.out hb)
                        have B20 := Aside0.mk (Kd.C_below B20.out hb)
                        refine hK.out _ _ ((own_string (P := Try.prog) Try.underlying32 Try.underlying5 Try.underlying9 (Kd.own_of_R HO_8.out))) (fun hHeld => ?_)
                        clear hK K
                        refine norm_ (a' := ?_) ?_ ?_
                        rotate_left
                        · show Act.put _ (some 49) _ = _
                          simp only [Act.put, List.setIfInBounds_toArray, List.set_cons_zero, List.set_cons_succ, i64_w, i32_w]
                          rfl
                        exact norm_ (by first | (simp only [putAll, Act.put, List.setIfInBounds_toArray, List.set_cons_zero, List.set_cons_succ]; done) | (simp only [putAll, Act.put, List.setIfInBounds_toArray, List.set_cons_zero, List.set_cons_succ]; rfl)) (hJ4_5_9_10_14_20 (g4, g9, g14, g20) _ ⟨hHeld, HO_8.out, HB.out, B14.out, B20.out⟩)
                    · skip
                      rintro ⟨g4, g9, g20⟩ v4_5_9_10_20 ⟨hS_, h0_, h1_, b20_⟩
                      have HO_8 : Aside0 (Kd.R (Kd.int .u8) 5 v4_5_9_10_20 w.heap.size (fun _ => True) (.slice Ao11 x8_1.length co11) x8_1) := ⟨h0_⟩
                      have HB : Aside0 (Below w.heap.size w v4_5_9_10_20) := ⟨h1_⟩
                      have B20 : Aside0 (Kd.C Kd.string v4_5_9_10_20 (some ⟨g20, 0, none⟩) 1 [(a2.extract 0 (ji6 : Int).toNat)]) := ⟨b20_⟩
                      have hHeld : (convert 32 9 (.slice Ao11 x8_1.length co11)).run Try.prog v4_5_9_10_20 = .ok (.string (strOfNums x8_1)) v4_5_9_10_20 := hS_
                      clear hS_ h0_ h1_ b20_
                      refine norm_ (a' := ?_) ?_ ?_
                      rotate_left
                      · simp only [putAll, Act.put, List.setIfInBounds_toArray, List.set_cons_zero, List.set_cons_succ]
                        rfl
                      refine one_ (i := 14) (N := some 53) #[true, true, true, true, true, true, true, true, true, true, true, true, true, true, true, false, false, true, true, true, true, false, false, false, false, false] rfl rfl (by kernel_rfl) (by decide) (fun K hK => ?_)
                      refine value_ (w1 := ?_) (v := ?_) (by rfl) rfl ?_ ?_
                      rotate_left 2
                      · go_simp
                        constructor
                        · rfl
                        · rfl
                      refine hK.out _ _ ((own_string (P := Try.prog) Try.underlying32 Try.underlying5 Try.underlying9 (Kd.own_of_R (Kd.R_alloc HO_8.out _)))) (fun hHeld => ?_)
                      clear hK K
                      refine norm_ (a' := ?_) ?_ ?_
                      rotate_left
                      · show Act.put _ (some 53) _ = _
                        simp only [Act.put, List.setIfInBounds_toArray, List.set_cons_zero, List.set_cons_succ, i64_w, i32_w]
                        rfl
                      exact norm_ (by first | (simp only [putAll, Act.put, List.setIfInBounds_toArray, List.set_cons_zero, List.set_cons_succ]; done) | (simp only [putAll, Act.put, List.setIfInBounds_toArray, List.set_cons_zero, List.set_cons_succ]; rfl)) (hJ4_5_9_10_14_20 (g4, g9, v4_5_9_10_20.heap.size, g20) _ ⟨hHeld, Kd.R_alloc HO_8.out _, below_alloc HB.out _, C_new v4_5_9_10_20 (a1.extract 0 (ji6 : Int).toNat), Kd.C_alloc B20.out _⟩)
                  · skip
                    rintro ⟨g4, g9, g14⟩ v4_5_9_10_14 ⟨hS_, h0_, h1_, b14_⟩
                    have HO_8 : Aside0 (Kd.R (Kd.int .u8) 5 v4_5_9_10_14 w.heap.size (fun _ => True) (.slice Ao11 x8_1.length co11) x8_1) := ⟨h0_⟩
                    have HB : Aside0 (Below w.heap.size w v4_5_9_10_14) := ⟨h1_⟩
                    have B14 : Aside0 (Kd.C Kd.string v4_5_9_10_14 (some ⟨g14, 0, none⟩) 1 [(a1.extract 0 (ji6 : Int).toNat)]) := ⟨b14_⟩
                    have hHeld : (convert 32 9 (.slice Ao11 x8_1.length co11)).run Try.prog v4_5_9_10_14 = .ok (.string (strOfNums x8_1)) v4_5_9_10_14 := hS_
                    clear hS_ h0_ h1_ b14_
                    refine norm_ (a' := ?_) ?_ ?_
                    rotate_left
                    · simp only [putAll, Act.put, List.setIfInBounds_toArray, List.set_cons_zero, List.set_cons_succ]
                      rfl
                    refine two_ (i := 15) (j := 20) (Ni := some 54) (Nj := some 59) #[true, true, true, true, true, true, true, true, true, true, true, true, true, true, true, true, false, true, true, true, false, false, false, false, false, false] #[true, true, true, true, true, true, true, true, true, true, true, true, true, true, true, false, false, true, true, true, true, false, false, false, false, false] rfl rfl rfl rfl (by kernel_rfl) (by decide) (by decide) (fun K hK => ?_) (fun K hK => ?_)
                    · skip
                      refine goes_ Try.func12 (by kernel_rfl) rfl #[.slice (some ⟨g14, 0, none⟩) ([(a1.extract 0 (ji6 : Int).toNat)] : List ByteArray).length 1] (by rfl) rfl rfl (by simp only [List.map_toArray, List.map_cons, List.map_nil]; rfl) ?_
                      with_reducible refine (sum_Of.calls k1 (some ⟨g14, 0, none⟩) 1 [(a1.extract 0 (ji6 : Int).toNat)] r2_ _ B14.out (Nat.le_refl _) A52.out).mono ?_
                      rintro e wc_ ⟨rfl, hb⟩
                      refine ⟨_, rfl, ?_⟩
                      have HO_8 := Aside0.mk (Kd.R_below HO_8.out hb)
                      have HB := Aside0.mk (below_step HB.out hb)
                      refine hK.out _ _ ((own_string (P := Try.prog) Try.underlying32 Try.underlying5 Try.underlying9 (Kd.own_of_R HO_8.out))) (fun hHeld => ?_)
                      clear hK K
                      refine norm_ (a' := ?_) ?_ ?_
                      rotate_left
                      · show Act.put _ (some 54) _ = _
                        simp only [Act.put, List.setIfInBounds_toArray, List.set_cons_zero, List.set_cons_succ, i64_w, i32_w]
                        rfl
                      refine pure_ (i := 16) (N := some 55) (v := ?_) (a' := ?_) #[true, true, true, true, true, true, true, true, true, true, true, true, true, true, true, true, true, true, true, true, false, false, false, false, false, false] rfl rfl (by kernel_rfl) (fun _ _ _ h => h) (Or.inl ⟨by rfl, ?_⟩) ?_ ?_
                      rotate_left
                      · intro w'
                        go_simp
                        with_reducible rfl
                      rotate_left
                      · simp only [Act.put, List.setIfInBounds_toArray, List.set_cons_zero, List.set_cons_succ, i64_w, i32_w]
                        rfl
                      exact norm_ (by first | (simp only [putAll, Act.put, List.setIfInBounds_toArray, List.set_cons_zero, List.set_cons_succ]; done) | (simp only [putAll, Act.put, List.setIfInBounds_toArray, List.set_cons_zero, List.set_cons_succ]; rfl)) (hJ4_5_9_10_14_15 (g4, g9, g14) _ ⟨hHeld, HO_8.out, HB.out⟩)
                    · skip
                      refine value_ (w1 := ?_) (v := ?_) (by rfl) rfl ?_ ?_
                      rotate_left 2
                      · go_simp
                        constructor
                        · rfl
                        · rfl
                      refine hK.out _ _ ((own_string (P := Try.prog) Try.underlying32 Try.underlying5 Try.underlying9 (Kd.own_of_R (Kd.R_alloc HO_8.out _)))) (fun hHeld => ?_)
                      clear hK K
                      refine norm_ (a' := ?_) ?_ ?_
                      rotate_left
                      · show Act.put _ (some 59) _ = _
                        simp only [Act.put, List.setIfInBounds_toArray, List.set_cons_zero, List.set_cons_succ, i64_w, i32_w]
                        rfl
                      exact norm_ (by first | (simp only [putAll, Act.put, List.setIfInBounds_toArray, List.set_cons_zero, List.set_cons_succ]; done) | (simp only [putAll, Act.put, List.setIfInBounds_toArray, List.set_cons_zero, List.set_cons_succ]; rfl)) (hJ4_5_9_10_14_20 (g4, g9, g14, v4_5_9_10_14.heap.size) _ ⟨hHeld, Kd.R_alloc HO_8.out _, below_alloc HB.out _, Kd.C_alloc B14.out _, C_new v4_5_9_10_14 (a2.extract 0 (ji6 : Int).toNat)⟩)
                · skip
                  rintro ⟨g4, g9, g14, g20⟩ v4_5_9_10_14_20 ⟨hS_, h0_, h1_, b14_, b20_⟩
                  have HO_8 : Aside0 (Kd.R (Kd.int .u8) 5 v4_5_9_10_14_20 w.heap.size (fun _ => True) (.slice Ao11 x8_1.length co11) x8_1) := ⟨h0_⟩
                  have HB : Aside0 (Below w.heap.size w v4_5_9_10_14_20) := ⟨h1_⟩
                  have B14 : Aside0 (Kd.C Kd.string v4_5_9_10_14_20 (some ⟨g14, 0, none⟩) 1 [(a1.extract 0 (ji6 : Int).toNat)]) := ⟨b14_⟩
                  have B20 : Aside0 (Kd.C Kd.string v4_5_9_10_14_20 (some ⟨g20, 0, none⟩) 1 [(a2.extract 0 (ji6 : Int).toNat)]) := ⟨b20_⟩
                  have hHeld : (convert 32 9 (.slice Ao11 x8_1.length co11)).run Try.prog v4_5_9_10_14_20 = .ok (.string (strOfNums x8_1)) v4_5_9_10_14_20 := hS_
                  clear hS_ h0_ h1_ b14_ b20_
                  refine norm_ (a' := ?_) ?_ ?_
                  rotate_left
                  · simp only [putAll, Act.put, List.setIfInBounds_toArray, List.set_cons_zero, List.set_cons_succ]
                    rfl
                  refine one_ (i := 15) (N := some 54) #[true, true, true, true, true, true, true, true, true, true, true, true, true, true, true, true, false, true, true, true, true, false, false, false, false, false] rfl rfl (by kernel_rfl) (by decide) (fun K hK => ?_)
                  refine goes_ Try.func12 (by kernel_rfl) rfl #[.slice (some ⟨g14, 0, none⟩) ([(a1.extract 0 (ji6 : Int).toNat)] : List ByteArray).length 1] (by rfl) rfl rfl (by simp only [List.map_toArray, List.map_cons, List.map_nil]; rfl) ?_
                  with_reducible refine (sum_Of.calls k1 (some ⟨g14, 0, none⟩) 1 [(a1.extract 0 (ji6 : Int).toNat)] r2_ _ B14.out (Nat.le_refl _) A52.out).mono ?_
                  rintro e wc_ ⟨rfl, hb⟩
                  refine ⟨_, rfl, ?_⟩
                  have HO_8 := Aside0.mk (Kd.R_below HO_8.out hb)
                  have HB := Aside0.mk (below_step HB.out hb)
                  have B20 := Aside0.mk (Kd.C_below B20.out hb)
                  refine hK.out _ _ ((own_string (P := Try.prog) Try.underlying32 Try.underlying5 Try.underlying9 (Kd.own_of_R HO_8.out))) (fun hHeld => ?_)
                  clear hK K
                  refine norm_ (a' := ?_) ?_ ?_
                  rotate_left
                  · show Act.put _ (some 54) _ = _
                    simp only [Act.put, List.setIfInBounds_toArray, List.set_cons_zero, List.set_cons_succ, i64_w, i32_w]
                    rfl
                  refine pure_ (i := 16) (N := some 55) (v := ?_) (a' := ?_) #[true, true, true, true, true, true, true, true, true, true, true, true, true, true, true, true, true, true, true, true, true, false, false, false, false, false] rfl rfl (by kernel_rfl) (fun _ _ _ h => h) (Or.inl ⟨by rfl, ?_⟩) ?_ ?_
                  rotate_left
                  · intro w'
                    go_simp
                    with_reducible rfl
                  rotate_left
                  · simp only [Act.put, List.setIfInBounds_toArray, List.set_cons_zero, List.set_cons_succ, i64_w, i32_w]
                    rfl
                  exact norm_ (by first | (simp only [putAll, Act.put, List.setIfInBounds_toArray, List.set_cons_zero, List.set_cons_succ]; done) | (simp only [putAll, Act.put, List.setIfInBounds_toArray, List.set_cons_zero, List.set_cons_succ]; rfl)) (hJ4_5_9_10_14_15_20 (g4, g9, g14, g20) _ ⟨hHeld, HO_8.out, HB.out, B20.out⟩)
              · skip
                rintro ⟨g4, g9, g14⟩ v4_5_9_10_14_15 ⟨hS_, h0_, h1_⟩
                have HO_8 : Aside0 (Kd.R (Kd.int .u8) 5 v4_5_9_10_14_15 w.heap.size (fun _ => True) (.slice Ao11 x8_1.length co11) x8_1) := ⟨h0_⟩
                have HB : Aside0 (Below w.heap.size w v4_5_9_10_14_15) := ⟨h1_⟩
                have hHeld : (convert 32 9 (.slice Ao11 x8_1.length co11)).run Try.prog v4_5_9_10_14_15 = .ok (.string (strOfNums x8_1)) v4_5_9_10_14_15 := hS_
                clear hS_ h0_ h1_
                refine norm_ (a' := ?_) ?_ ?_
                rotate_left
                · simp only [putAll, Act.put, List.setIfInBounds_toArray, List.set_cons_zero, List.set_cons_succ]
                  rfl
                refine one_ (i := 20) (N := some 59) #[true, true, true, true, true, true, true, true, true, true, true, true, true, true, true, true, true, true, true, true, true, false, false, false, false, false] rfl rfl (by kernel_rfl) (by decide) (fun K hK => ?_)
                refine value_ (w1 := ?_) (v := ?_) (by rfl) rfl ?_ ?_
                rotate_left 2
                · go_simp
                  constructor
                  · rfl
                  · rfl
                refine hK.out _ _ ((own_string (P := Try.prog) Try.underlying32 Try.underlying5 Try.underlying9 (Kd.own_of_R (Kd.R_alloc HO_8.out _)))) (fun hHeld => ?_)
                clear hK K
                refine norm_ (a' := ?_) ?_ ?_
                rotate_left
                · show Act.put _ (some 59) _ = _
                  simp only [Act.put, List.setIfInBounds_toArray, List.set_cons_zero, List.set_cons_succ, i64_w, i32_w]
                  rfl
                exact norm_ (by first | (simp only [putAll, Act.put, List.setIfInBounds_toArray, List.set_cons_zero, List.set_cons_succ]; done) | (simp only [putAll, Act.put, List.setIfInBounds_toArray, List.set_cons_zero, List.set_cons_succ]; rfl)) (hJ4_5_9_10_14_15_20 (g4, g9, g14, v4_5_9_10_14_15.heap.size) _ ⟨hHeld, Kd.R_alloc HO_8.out _, below_alloc HB.out _, C_new v4_5_9_10_14_15 (a2.extract 0 (ji6 : Int).toNat)⟩)
            rintro ⟨g4, g9, g14, g20⟩ v4_5_9_10_14_15_20 ⟨hS_, h0_, h1_, b20_⟩
            have HO_8 : Aside0 (Kd.R (Kd.int .u8) 5 v4_5_9_10_14_15_20 w.heap.size (fun _ => True) (.slice Ao11 x8_1.length co11) x8_1) := ⟨h0_⟩
            have HB : Aside0 (Below w.heap.size w v4_5_9_10_14_15_20) := ⟨h1_⟩
            have B20 : Aside0 (Kd.C Kd.string v4_5_9_10_14_15_20 (some ⟨g20, 0, none⟩) 1 [(a2.extract 0 (ji6 : Int).toNat)]) := ⟨b20_⟩
            have hHeld : (convert 32 9 (.slice Ao11 x8_1.length co11)).run Try.prog v4_5_9_10_14_15_20 = .ok (.string (strOfNums x8_1)) v4_5_9_10_14_15_20 := hS_
            clear hS_ h0_ h1_ b20_
            refine norm_ (a' := ?_) ?_ ?_
            rotate_left
            · simp only [putAll, Act.put, List.setIfInBounds_toArray, List.set_cons_zero, List.set_cons_succ]
              rfl
            refine one_ (i := 21) (N := some 60) #[true, true, true, true, true, true, true, true, true, true, true, true, true, true, true, true, true, true, true, true, true, true, false, false, false, false] rfl rfl (by kernel_rfl) (by decide) (fun K hK => ?_)
            refine goes_ Try.func12 (by kernel_rfl) rfl #[.slice (some ⟨g20, 0, none⟩) ([(a2.extract 0 (ji6 : Int).toNat)] : List ByteArray).length 1] (by rfl) rfl rfl (by simp only [List.map_toArray, List.map_cons, List.map_nil]; rfl) ?_
            with_reducible refine (sum_Of.calls k1 (some ⟨g20, 0, none⟩) 1 [(a2.extract 0 (ji6 : Int).toNat)] r3_ _ B20.out (Nat.le_refl _) A53.out).mono ?_
            rintro e wc_ ⟨rfl, hb⟩
            refine ⟨_, rfl, ?_⟩
            have HO_8 := Aside0.mk (Kd.R_below HO_8.out hb)
            have HB := Aside0.mk (below_step HB.out hb)
            refine hK.out _ _ ((own_string (P := Try.prog) Try.underlying32 Try.underlying5 Try.underlying9 (Kd.own_of_R HO_8.out))) (fun hHeld => ?_)
            clear hK K
            refine norm_ (a' := ?_) ?_ ?_
            rotate_left
            · show Act.put _ (some 60) _ = _
              simp only [Act.put, List.setIfInBounds_toArray, List.set_cons_zero, List.set_cons_succ, i64_w, i32_w]
              rfl
            refine pure_ (i := 22) (N := some 61) (v := ?_) (a' := ?_) #[true, true, true, true, true, true, true, true, true, true, true, true, true, true, true, true, true, true, true, true, true, true, true, false, false, false] rfl rfl (by kernel_rfl) (fun _ _ _ h => h) (Or.inl ⟨by rfl, ?_⟩) ?_ ?_
            rotate_left
            · intro w'
              go_simp
              with_reducible rfl
            rotate_left
            · simp only [Act.put, List.setIfInBounds_toArray, List.set_cons_zero, List.set_cons_succ, i64_w, i32_w]
              rfl
            refine pure_ (i := 23) (N := some 62) (v := ?_) (a' := ?_) #[true, true, true, true, true, true, true, true, true, true, true, true, true, true, true, true, true, true, true, true, true, true, true, true, false, false] rfl rfl (by kernel_rfl) (fun _ _ _ h => h) (Or.inl ⟨by rfl, ?_⟩) ?_ ?_
            rotate_left
            · intro w'
              go_simp
              with_reducible rfl
            rotate_left
            · simp only [Act.put, List.setIfInBounds_toArray, List.set_cons_zero, List.set_cons_succ, i64_w, i32_w]
              rfl
            refine pure_ (i := 24) (N := some 63) (v := ?_) (a' := ?_) #[true, true, true, true, true, true, true, true, true, true, true, true, true, true, true, true, true, true, true, true, true, true, true, true, true, false] rfl rfl (by kernel_rfl) (fun _ _ _ h => h) (Or.inl ⟨by rfl, ?_⟩) ?_ ?_
            rotate_left
            · intro w'
              go_simp
              with_reducible rfl
            rotate_left
            · simp only [Act.put, List.setIfInBounds_toArray, List.set_cons_zero, List.set_cons_succ, i64_w, i32_w]
              rfl
            refine pure_ (i := 25) (N := some 6) (v := ?_) (a' := ?_) #[true, true, true, true, true, true, true, true, true, true, true, true, true, true, true, true, true, true, true, true, true, true, true, true, true, true] rfl rfl (by kernel_rfl) (fun _ _ _ h => h) (Or.inl ⟨by rfl, ?_⟩) ?_ ?_
            rotate_left
            · intro w'
              go_simp
              with_reducible rfl
            rotate_left
            · simp only [Act.put, List.setIfInBounds_toArray, List.set_cons_zero, List.set_cons_succ, i64_w, i32_w]
              rfl
            refine done_ (by kernel_rfl) ?_
            try go_wp2
            go_ret
            exact ⟨by first | rfl | (simp [*]; done), HB.out⟩
    · rw [if_neg c8] at H
      exact absurd H (by simp)
  · rw [if_neg c7] at H
    exact absurd H (by simp)

/-- THE ONE PURE STATEMENT of penelopelaw02_SumThree: yours. -/
def penelopelaw02_SumThree.Pure : Prop := ∀ (a0 : ByteArray) (a1 : ByteArray) (a2 : ByteArray), a0.size ≤ 140737488351232 → a1.size ≤ 140737488351232 → a2.size ≤ 140737488351232 → ∃ k, penelopelaw02_SumThree.f k a0 a1 a2 = some true
theorem penelopelaw02_SumThree.walk (P : penelopelaw02_SumThree.Pure) (a0 : ByteArray) (a1 : ByteArray) (a2 : ByteArray) (w : World) (w0 : a0.size ≤ 140737488351232) (w1 : a1.size ≤ 140737488351232) (w2 : a2.size ≤ 140737488351232) :
    Calls Try.prog 6 #[.string a0, .string a1, .string a2] w fun e w' => e = .returned (.bool true) ∧ Below w.heap.size w w' := by
  obtain ⟨k, h⟩ := P a0 a1 a2 w0 w1 w2
  refine (penelopelaw02_SumThree.calls k a0 a1 a2 true w h).mono ?_
  rintro e w' ⟨rfl, hd⟩
  exact ⟨rfl, hd⟩

end Go.Proofs.Ytnadpefbimbggaa.Y
