-- PRINTED BY print.sh 35421559b90ae4d0a3588c463048766b98c2df88dd9212a6774a882060cdf62d: not written by this session
import Derived.Test.YtijabpabmipdbaaPWaitDoublesx0
namespace Go.Proofs.Ytijabpabmipdbaa.PWaitDoubles
open Go.RowKit Go.Proofs.YtijabpabmipdbaaW.PrintWords Go.Proofs.YtijabpabmipdbaaW.PrintLast Go.Proofs.YtijabpabmipdbaaW.PrintMore
attribute [local go_sem] max2_int min2_int max_two min_two max_three min_three max_four min_four   -- for this text's walks alone
set_option linter.unusedVariables false
set_option linter.unusedSimpArgs false

/-! ### wait_After: function 9 -/
mutual
def wait_After.j0 : Nat → Int → Int → Bool → Option (Int)
  | 0, _, _, _ => none
  | k + 1, x0, x1, x10 => if x10 = true then (some 0) else (wait_After.l0 k (mn x0 1048576) x1)
def wait_After.l0 : Nat → Int → Int → Option (Int)
  | 0, _, _ => none
  | k + 1, x0, x1 => if x1 > 1 then (if x0 < 1048576 then (wait_After.l0 k (wrap64 (x0 * 2)) (wrap64 (x1 - 1))) else (some (mn x0 1048576))) else (some (mn x0 1048576))
end
def wait_After.f (k : Nat) (a0 : Int) (a1 : Int) : Option (Int) := if a0 < 1 then (wait_After.j0 k a0 a1 true) else (wait_After.j0 k a0 a1 (decide (a1 < 1)))
theorem wait_After.mono_l : ∀ k, (∀ y0 y1 y2, LeO (wait_After.j0 k y0 y1 y2) (wait_After.j0 (k + 1) y0 y1 y2)) ∧ (∀ y0 y1, LeO (wait_After.l0 k y0 y1) (wait_After.l0 (k + 1) y0 y1))
  | 0 => ⟨fun _ _ _ r h => by simp [wait_After.j0] at h, fun _ _ r h => by simp [wait_After.l0] at h⟩
  | k + 1 => by
    obtain ⟨ih0, ih1⟩ := wait_After.mono_l k
    refine ⟨?_, ?_⟩
    · intro y0 y1 y2
      unfold wait_After.j0
      repeat' first
      | (with_reducible exact ih0 _ _ _)
      | (with_reducible exact ih1 _ _)
      | (with_reducible exact LeO.refl _)
      | (with_reducible exact LeO.none _)
      | (with_reducible refine LeO.ite ?_ ?_)
      | (with_reducible refine LeO.bind ?_ (fun _ => ?_))
      | exact ih0 _ _ _
      | exact ih1 _ _
      | exact LeO.none _
      | refine LeO.ite ?_ ?_
      | refine LeO.bind ?_ (fun _ => ?_)
    · intro y0 y1
      unfold wait_After.l0
      repeat' first
      | (with_reducible exact ih0 _ _ _)
      | (with_reducible exact ih1 _ _)
      | (with_reducible exact LeO.refl _)
      | (with_reducible exact LeO.none _)
      | (with_reducible refine LeO.ite ?_ ?_)
      | (with_reducible refine LeO.bind ?_ (fun _ => ?_))
      | exact ih0 _ _ _
      | exact ih1 _ _
      | exact LeO.none _
      | refine LeO.ite ?_ ?_
      | refine LeO.bind ?_ (fun _ => ?_)
theorem wait_After.mono : ∀ a0 a1 k, LeO (wait_After.f k a0 a1) (wait_After.f (k + 1) a0 a1) := by
  intro a0 a1 k
  obtain ⟨ih0, ih1⟩ := wait_After.mono_l k
  unfold wait_After.f
  repeat' first
      | (with_reducible exact ih0 _ _ _)
      | (with_reducible exact ih1 _ _)
      | (with_reducible exact LeO.refl _)
      | (with_reducible exact LeO.none _)
      | (with_reducible refine LeO.ite ?_ ?_)
      | (with_reducible refine LeO.bind ?_ (fun _ => ?_))
      | exact ih0 _ _ _
      | exact ih1 _ _
      | exact LeO.none _
      | refine LeO.ite ?_ ?_
      | refine LeO.bind ?_ (fun _ => ?_)
set_option maxHeartbeats 8000000 in
set_option maxRecDepth 100000 in
theorem wait_After.calls (k : Nat) (a0 : Int) (a1 : Int) (r : Int) (w : World) (h : wait_After.f k a0 a1 = some r) :
    Calls Try.prog 9 #[.int .i64 a0, .int .i64 a1] w fun e w' => e = .returned (.int .i64 r) ∧ Below w.heap.size w w' := by
  have HB := Aside0.mk (Below.refl w.heap.size w)
  have H : (if a0 < 1 then (wait_After.j0 k a0 a1 true) else (wait_After.j0 k a0 a1 (decide (a1 < 1)))) = some r := h
  clear h
  have HC3 := Aside0.mk H
  clear H
  go_enter Try.func9, Try.ntmps9
  go_upto_region 1 with (fail)
  go_cut [10] (fun v10 wc => ∃ (kq : Nat) (x10_2 : Bool), v10 = .bool x10_2 ∧ Aside0 (wait_After.j0 kq a0 a1 x10_2 = some r) ∧ Aside0 (kq ≤ k) ∧ Aside0 (Below w.heap.size w wc))
  case first =>
    have H := HC3.out
    clear HC3
    by_cases c4 : a0 < 1
    · rw [if_pos c4] at H
      have c4b0 : decide (a0 < 1) = true := decide_eq_true c4
      clear c4
      (first | rw [c4b0] | (simp only [i64_w, i32_w]; rw [c4b0]) | skip)
      have H' := Aside0.mk H
      clear H
      go_wp2
      go_meet
      case rel => exact ⟨_, (true), (by first | rfl | (simp; done) | (simp [*]; done)), H', ⟨by first | omega | exact Nat.le_refl _⟩, ⟨by repeat (first | (with_reducible first | exact HB.out | apply below_alloc | apply pw_below_drewN | apply below_drew1) | exact HB.out)⟩⟩
    · rw [if_neg c4] at H
      have c4b0 : decide (a0 < 1) = false := decide_eq_false c4
      clear c4
      (first | rw [c4b0] | (simp only [i64_w, i32_w]; rw [c4b0]) | skip)
      have H' := Aside0.mk H
      clear H
      go_wp2
      go_meet
      case rel => exact ⟨_, (decide (a1 < 1)), (by first | rfl | (simp; done) | (simp [*]; done)), H', ⟨by first | omega | exact Nat.le_refl _⟩, ⟨by repeat (first | (with_reducible first | exact HB.out | apply below_alloc | apply pw_below_drewN | apply below_drew1) | exact HB.out)⟩⟩
  case rest =>
    clear HC3
    try clear p2
    try clear c4
    try clear c4b0
    obtain ⟨kq, x10_2, rfl, HA, HJ2, HB⟩ := hcut
    cases kq with
    | zero => exact absurd HA.out (by simp [wait_After.j0])
    | succ kj2 =>
      have H := HA.out
      clear HA
      simp only [wait_After.j0] at H
      by_cases c5 : x10_2 = true
      · subst c5
        have H1 : (some 0) = some r := by rw [if_pos rfl] at H; exact H
        clear H
        have H := H1
        clear H1
        obtain rfl := Option.some.inj H
        go_wp2
        go_ret
        exact ⟨by first | rfl | (simp [errW_none, errW_some] <;> rfl) | (simp [*, errW_none, errW_some] <;> rfl), by repeat (first | (with_reducible first | exact HB.out | apply below_alloc | apply pw_below_drewN | apply below_drew1) | exact HB.out)⟩
      · replace c5 := Bool.eq_false_iff.mpr c5
        subst c5
        have H1 : (wait_After.l0 kj2 (mn a0 1048576) a1) = some r := by rw [if_neg (show ¬ (false = true) by decide)] at H; exact H
        clear H
        have H := H1
        clear H1
        obtain ⟨ji6, hji6⟩ : ∃ j_ : Int, (mn a0 1048576) = j_ := ⟨_, rfl⟩
        replace H : (wait_After.l0 kj2 ji6 a1) = some r := by first | (rw [hji6] at H; exact H) | (simp only [hji6] at H ⊢; exact H)
        have hji6_ : (if 1048576 < a0 then 1048576 else a0) = ji6 := hji6
        have H' := Aside0.mk H
        clear H
        go_wp2
        go_loopg [0, 1] kj2 (fun kq v0 v1 w' => ∃ (x0_2 : Int) (x1_2 : Int), v0 = .int .i64 x0_2 ∧ v1 = .int .i64 x1_2 ∧ Aside0 (wait_After.l0 kq x0_2 x1_2 = some r) ∧ Aside0 (kq ≤ kj2) ∧ Aside0 (Below w.heap.size w w'))
        case atStart => exact ⟨(ji6), (a1), (by first | rfl | (simp; done) | (simp only [← hji6] <;> (first | rfl | simp)) | (simp [*]; done)), (by first | rfl | (simp; done) | (simp [*]; done)), H', ⟨Nat.le_refl _⟩, ⟨by repeat (first | (with_reducible first | exact HB.out | apply below_alloc | apply pw_below_drewN | apply below_drew1) | exact HB.out)⟩⟩
        case round =>
          clear H'
          try clear p2
          try clear c4
          try clear c4b0
          try clear c5
          try clear p2
          obtain ⟨x0_2, x1_2, rfl, rfl, HA, HK2, HB⟩ := hrel
          cases gk with
          | zero => exact absurd HA.out (by simp [wait_After.l0])
          | succ k2 =>
            have H := HA.out
            clear HA
            simp only [wait_After.l0] at H
            by_cases c7 : x1_2 > 1
            · rw [if_pos c7] at H
              have c7b0 : decide (1 < x1_2) = true := decide_eq_true c7
              clear c7
              by_cases c8 : x0_2 < 1048576
              · rw [if_pos c8] at H
                have c8b0 : decide (x0_2 < 1048576) = true := decide_eq_true c8
                clear c8
                have H' := Aside0.mk H
                clear H
                go_wp2
                go_roundg k2
                case measure => have := HJ2.out; have := HK2.out; omega
                case rel => exact ⟨(wrap64 (x0_2 * 2)), (wrap64 (x1_2 - 1)), (by first | rfl | (simp; done) | (simp [*]; done)), (by first | rfl | (simp; done) | (simp [*]; done)), H', ⟨by have := HJ2.out; have := HK2.out; omega⟩, ⟨by repeat (first | (with_reducible first | exact HB.out | apply below_alloc | apply pw_below_drewN | apply below_drew1) | exact HB.out)⟩⟩
              · rw [if_neg c8] at H
                have c8b0 : decide (x0_2 < 1048576) = false := decide_eq_false c8
                clear c8
                obtain ⟨ji9, hji9⟩ : ∃ j_ : Int, (mn x0_2 1048576) = j_ := ⟨_, rfl⟩
                replace H : (some ji9) = some r := by first | (rw [hji9] at H; exact H) | (simp only [hji9] at H ⊢; exact H)
                have hji9_ : (if 1048576 < x0_2 then 1048576 else x0_2) = ji9 := hji9
                obtain rfl := Option.some.inj H
                go_wp2
                go_ret
                exact ⟨by first | rfl | (simp [errW_none, errW_some] <;> rfl) | (simp only [← hji6, ← hji9]; first | rfl | (simp [errW_none, errW_some] <;> rfl)) | (simp [*, errW_none, errW_some] <;> rfl), by repeat (first | (with_reducible first | exact HB.out | apply below_alloc | apply pw_below_drewN | apply below_drew1) | exact HB.out)⟩
            · rw [if_neg c7] at H
              have c7b0 : decide (1 < x1_2) = false := decide_eq_false c7
              clear c7
              obtain ⟨ji10, hji10⟩ : ∃ j_ : Int, (mn x0_2 1048576) = j_ := ⟨_, rfl⟩
              replace H : (some ji10) = some r := by first | (rw [hji10] at H; exact H) | (simp only [hji10] at H ⊢; exact H)
              have hji10_ : (if 1048576 < x0_2 then 1048576 else x0_2) = ji10 := hji10
              obtain rfl := Option.some.inj H
              go_wp2
              go_ret
              exact ⟨by first | rfl | (simp [errW_none, errW_some] <;> rfl) | (simp only [← hji6, ← hji10]; first | rfl | (simp [errW_none, errW_some] <;> rfl)) | (simp [*, errW_none, errW_some] <;> rfl), by repeat (first | (with_reducible first | exact HB.out | apply below_alloc | apply pw_below_drewN | apply below_drew1) | exact HB.out)⟩

/-! ### penelopelaw17_alive: function 8 -/
def penelopelaw17_alive.f (k : Nat)  : Option (Bool) := (wait_After.f k 3 3).bind fun t101 => (some (t101 == 12))
theorem penelopelaw17_alive.mono : ∀ k, LeO (penelopelaw17_alive.f k ) (penelopelaw17_alive.f (k + 1) ) := by
  intro  k
  unfold penelopelaw17_alive.f
  repeat' first
      | (with_reducible exact wait_After.mono _ _ _)
      | (with_reducible exact LeO.refl _)
      | (with_reducible exact LeO.none _)
      | (with_reducible refine LeO.ite ?_ ?_)
      | (with_reducible refine LeO.bind ?_ (fun _ => ?_))
      | exact wait_After.mono _ _ _
      | exact LeO.none _
      | refine LeO.ite ?_ ?_
      | refine LeO.bind ?_ (fun _ => ?_)
set_option maxHeartbeats 8000000 in
set_option maxRecDepth 100000 in
theorem penelopelaw17_alive.calls (k : Nat)  (r : Bool) (w : World) (h : penelopelaw17_alive.f k  = some r) :
    Calls Try.prog 8 #[] w fun e w' => e = .returned (.bool r) ∧ Below w.heap.size w w' := by
  have HB := Aside0.mk (Below.refl w.heap.size w)
  have H : ((wait_After.f k 3 3).bind fun t101 => (some (t101 == 12))) = some r := h
  clear h
  replace H := Option.bind_eq_some_iff.mp H
  obtain ⟨t101, A10, H⟩ := H
  replace H : (some (t101 == 12)) = some r := H
  have A1 := Aside0.mk A10
  clear A10
  obtain rfl := Option.some.inj H
  go_enter Try.func8, Try.ntmps8
  go_wp2_with (first | ((with_reducible refine gate_callee (f := 9) rfl ?_); refine goesL_ (some 1) rfl rfl Try.func9 (by kernel_rfl) rfl #[.int .i64 3, .int .i64 3] rfl (by (try simp only [List.map_toArray, List.map_cons, List.map_nil]); first | done | rfl | (simp only [List.length_drop, List.length_take]; rfl)) ?_; (with_reducible refine (wait_After.calls k 3 3 t101 _ A1.out).mono ?_); rintro e w2 ⟨rfl, hb⟩; refine ⟨_, rfl, ?_⟩; have n0_ := Aside0.mk (below_step (by repeat (first | (with_reducible first | exact HB.out | apply below_alloc | apply pw_below_drewN | apply below_drew1) | exact HB.out)) hb); clear HB; have HB := n0_; clear n0_; (try clear hb); (try clear hb2); (try clear hk); (try clear hi)))
  go_ret
  exact ⟨by first | rfl | (simp [errW_none, errW_some] <;> rfl) | (simp [*, errW_none, errW_some] <;> rfl), by repeat (first | (with_reducible first | exact HB.out | apply below_alloc | apply pw_below_drewN | apply below_drew1) | exact HB.out)⟩

/-! ### penelopelaw17_WaitDoubles: function 3 -/
def penelopelaw17_WaitDoubles.f (k : Nat) (a0 : Int) (a1 : Int) : Option (Bool) := (penelopelaw17_alive.f k).bind fun t102 => (if t102 = true then ((wait_After.f k (mn (mx a0 0) 1048576) 1).bind fun t103 => (if t103 = (mn (mx a0 0) 1048576) then ((wait_After.f k (mn (mx a0 0) 1048576) ((mn (mx a1 1) 1048576) + 1)).bind fun t104 => ((wait_After.f k (mn (mx a0 0) 1048576) (mn (mx a1 1) 1048576)).bind fun t105 => (if t104 = (mn (wrap64 (2 * t105)) 1048576) then ((wait_After.f k (mn (mx a0 0) 1048576) 0).bind fun t106 => (if t106 = 0 then ((wait_After.f k (-(mn (mx a0 0) 1048576)) (mn (mx a1 1) 1048576)).bind fun t107 => (some (t107 == 0))) else (some false))) else (some false)))) else (some false))) else (some false))
theorem penelopelaw17_WaitDoubles.mono : ∀ a0 a1 k, LeO (penelopelaw17_WaitDoubles.f k a0 a1) (penelopelaw17_WaitDoubles.f (k + 1) a0 a1) := by
  intro a0 a1 k
  unfold penelopelaw17_WaitDoubles.f
  repeat' first
      | (with_reducible exact penelopelaw17_alive.mono _)
      | (with_reducible exact wait_After.mono _ _ _)
      | (with_reducible exact LeO.refl _)
      | (with_reducible exact LeO.none _)
      | (with_reducible refine LeO.ite ?_ ?_)
      | (with_reducible refine LeO.bind ?_ (fun _ => ?_))
      | exact penelopelaw17_alive.mono _
      | exact wait_After.mono _ _ _
      | exact LeO.none _
      | refine LeO.ite ?_ ?_
      | refine LeO.bind ?_ (fun _ => ?_)
set_option maxHeartbeats 8000000 in
set_option maxRecDepth 100000 in
theorem penelopelaw17_WaitDoubles.calls (k : Nat) (a0 : Int) (a1 : Int) (r : Bool) (w : World) (h : penelopelaw17_WaitDoubles.f k a0 a1 = some r) :
    Calls Try.prog 3 #[.int .i64 a0, .int .i64 a1] w fun e w' => e = .returned (.bool r) ∧ Below w.heap.size w w' := by
  have HB := Aside0.mk (Below.refl w.heap.size w)
  have H : ((penelopelaw17_alive.f k).bind fun t102 => (if t102 = true then ((wait_After.f k (mn (mx a0 0) 1048576) 1).bind fun t103 => (if t103 = (mn (mx a0 0) 1048576) then ((wait_After.f k (mn (mx a0 0) 1048576) ((mn (mx a1 1) 1048576) + 1)).bind fun t104 => ((wait_After.f k (mn (mx a0 0) 1048576) (mn (mx a1 1) 1048576)).bind fun t105 => (if t104 = (mn (wrap64 (2 * t105)) 1048576) then ((wait_After.f k (mn (mx a0 0) 1048576) 0).bind fun t106 => (if t106 = 0 then ((wait_After.f k (-(mn (mx a0 0) 1048576)) (mn (mx a1 1) 1048576)).bind fun t107 => (some (t107 == 0))) else (some false))) else (some false)))) else (some false))) else (some false))) = some r := h
  clear h
  obtain ⟨ji3, hji3⟩ : ∃ j_ : Int, (mx a0 0) = j_ := ⟨_, rfl⟩
  replace H : ((penelopelaw17_alive.f k).bind fun t102 => (if t102 = true then ((wait_After.f k (mn (ji3) 1048576) 1).bind fun t103 => (if t103 = (mn (ji3) 1048576) then ((wait_After.f k (mn (ji3) 1048576) ((mn (mx a1 1) 1048576) + 1)).bind fun t104 => ((wait_After.f k (mn (ji3) 1048576) (mn (mx a1 1) 1048576)).bind fun t105 => (if t104 = (mn (wrap64 (2 * t105)) 1048576) then ((wait_After.f k (mn (ji3) 1048576) 0).bind fun t106 => (if t106 = 0 then ((wait_After.f k (-(mn (ji3) 1048576)) (mn (mx a1 1) 1048576)).bind fun t107 => (some (t107 == 0))) else (some false))) else (some false)))) else (some false))) else (some false))) = some r := by first | (rw [hji3] at H; exact H) | (simp only [hji3] at H ⊢; exact H)
  (try (have hji3l : 0 ≤ ji3 := by (rw [← hji3]; unfold mx; (repeat' split) <;> omega)))
  (try (have hji3m : 0 ≤ ji3 := by omega))
  have hji3_ : (if a0 < 0 then 0 else a0) = ji3 := hji3
  obtain ⟨ji4, hji4⟩ : ∃ j_ : Int, (mn (ji3) 1048576) = j_ := ⟨_, rfl⟩
  replace H : ((penelopelaw17_alive.f k).bind fun t102 => (if t102 = true then ((wait_After.f k (ji4) 1).bind fun t103 => (if t103 = (ji4) then ((wait_After.f k (ji4) ((mn (mx a1 1) 1048576) + 1)).bind fun t104 => ((wait_After.f k (ji4) (mn (mx a1 1) 1048576)).bind fun t105 => (if t104 = (mn (wrap64 (2 * t105)) 1048576) then ((wait_After.f k (ji4) 0).bind fun t106 => (if t106 = 0 then ((wait_After.f k (-(ji4)) (mn (mx a1 1) 1048576)).bind fun t107 => (some (t107 == 0))) else (some false))) else (some false)))) else (some false))) else (some false))) = some r := by first | (rw [hji4] at H; exact H) | (simp only [hji4] at H ⊢; exact H)
  have hji4_ : (if 1048576 < (ji3) then 1048576 else (ji3)) = ji4 := hji4
  obtain ⟨ji5, hji5⟩ : ∃ j_ : Int, (mx a1 1) = j_ := ⟨_, rfl⟩
  replace H : ((penelopelaw17_alive.f k).bind fun t102 => (if t102 = true then ((wait_After.f k (ji4) 1).bind fun t103 => (if t103 = (ji4) then ((wait_After.f k (ji4) ((mn (ji5) 1048576) + 1)).bind fun t104 => ((wait_After.f k (ji4) (mn (ji5) 1048576)).bind fun t105 => (if t104 = (mn (wrap64 (2 * t105)) 1048576) then ((wait_After.f k (ji4) 0).bind fun t106 => (if t106 = 0 then ((wait_After.f k (-(ji4)) (mn (ji5) 1048576)).bind fun t107 => (some (t107 == 0))) else (some false))) else (some false)))) else (some false))) else (some false))) = some r := by first | (rw [hji5] at H; exact H) | (simp only [hji5] at H ⊢; exact H)
  (try (have hji5l : 1 ≤ ji5 := by (rw [← hji5]; unfold mx; (repeat' split) <;> omega)))
  (try (have hji5m : 0 ≤ ji5 := by omega))
  have hji5_ : (if a1 < 1 then 1 else a1) = ji5 := hji5
  obtain ⟨ji6, hji6⟩ : ∃ j_ : Int, (mn (ji5) 1048576) = j_ := ⟨_, rfl⟩
  replace H : ((penelopelaw17_alive.f k).bind fun t102 => (if t102 = true then ((wait_After.f k (ji4) 1).bind fun t103 => (if t103 = (ji4) then ((wait_After.f k (ji4) ((ji6) + 1)).bind fun t104 => ((wait_After.f k (ji4) (ji6)).bind fun t105 => (if t104 = (mn (wrap64 (2 * t105)) 1048576) then ((wait_After.f k (ji4) 0).bind fun t106 => (if t106 = 0 then ((wait_After.f k (-(ji4)) (ji6)).bind fun t107 => (some (t107 == 0))) else (some false))) else (some false)))) else (some false))) else (some false))) = some r := by first | (rw [hji6] at H; exact H) | (simp only [hji6] at H ⊢; exact H)
  have hji6_ : (if 1048576 < (ji5) then 1048576 else (ji5)) = ji6 := hji6
  replace H := Option.bind_eq_some_iff.mp H
  obtain ⟨t102, A70, H⟩ := H
  replace H : (if t102 = true then ((wait_After.f k (ji4) 1).bind fun t103 => (if t103 = (ji4) then ((wait_After.f k (ji4) ((ji6) + 1)).bind fun t104 => ((wait_After.f k (ji4) (ji6)).bind fun t105 => (if t104 = (mn (wrap64 (2 * t105)) 1048576) then ((wait_After.f k (ji4) 0).bind fun t106 => (if t106 = 0 then ((wait_After.f k (-(ji4)) (ji6)).bind fun t107 => (some (t107 == 0))) else (some false))) else (some false)))) else (some false))) else (some false)) = some r := H
  have A7 := Aside0.mk A70
  clear A70
  by_cases c8 : t102 = true
  · subst c8
    have H1 : ((wait_After.f k (ji4) 1).bind fun t103 => (if t103 = (ji4) then ((wait_After.f k (ji4) ((ji6) + 1)).bind fun t104 => ((wait_After.f k (ji4) (ji6)).bind fun t105 => (if t104 = (mn (wrap64 (2 * t105)) 1048576) then ((wait_After.f k (ji4) 0).bind fun t106 => (if t106 = 0 then ((wait_After.f k (-(ji4)) (ji6)).bind fun t107 => (some (t107 == 0))) else (some false))) else (some false)))) else (some false))) = some r := by rw [if_pos rfl] at H; exact H
    clear H
    have H := H1
    clear H1
    replace H := Option.bind_eq_some_iff.mp H
    obtain ⟨t103, A90, H⟩ := H
    replace H : (if t103 = (ji4) then ((wait_After.f k (ji4) ((ji6) + 1)).bind fun t104 => ((wait_After.f k (ji4) (ji6)).bind fun t105 => (if t104 = (mn (wrap64 (2 * t105)) 1048576) then ((wait_After.f k (ji4) 0).bind fun t106 => (if t106 = 0 then ((wait_After.f k (-(ji4)) (ji6)).bind fun t107 => (some (t107 == 0))) else (some false))) else (some false)))) else (some false)) = some r := H
    have A9 := Aside0.mk A90
    clear A90
    by_cases c10 : t103 = (ji4)
    · rw [if_pos c10] at H
      have c10b0 : (t103 == (ji4)) = true := beq_iff_eq.mpr c10
      have c10b1 : (t103 != (ji4)) = false := bne_eq_false_iff_eq.mpr c10
      clear c10
      replace H := Option.bind_eq_some_iff.mp H
      obtain ⟨t104, A110, H⟩ := H
      replace H : ((wait_After.f k (ji4) (ji6)).bind fun t105 => (if t104 = (mn (wrap64 (2 * t105)) 1048576) then ((wait_After.f k (ji4) 0).bind fun t106 => (if t106 = 0 then ((wait_After.f k (-(ji4)) (ji6)).bind fun t107 => (some (t107 == 0))) else (some false))) else (some false))) = some r := H
      have A11 := Aside0.mk A110
      clear A110
      replace H := Option.bind_eq_some_iff.mp H
      obtain ⟨t105, A120, H⟩ := H
      replace H : (if t104 = (mn (wrap64 (2 * t105)) 1048576) then ((wait_After.f k (ji4) 0).bind fun t106 => (if t106 = 0 then ((wait_After.f k (-(ji4)) (ji6)).bind fun t107 => (some (t107 == 0))) else (some false))) else (some false)) = some r := H
      have A12 := Aside0.mk A120
      clear A120
      obtain ⟨ji13, hji13⟩ : ∃ j_ : Int, (mn (wrap64 (2 * t105)) 1048576) = j_ := ⟨_, rfl⟩
      replace H : (if t104 = (ji13) then ((wait_After.f k (ji4) 0).bind fun t106 => (if t106 = 0 then ((wait_After.f k (-(ji4)) (ji6)).bind fun t107 => (some (t107 == 0))) else (some false))) else (some false)) = some r := by first | (rw [hji13] at H; exact H) | (simp only [hji13] at H ⊢; exact H)
      (try rw [hji13] at A7)
      (try rw [hji13] at A9)
      (try rw [hji13] at A11)
      (try rw [hji13] at A12)
      (try (have hji13h : ji13 ≤ 1048576 := by (rw [← hji13]; unfold mn; (repeat' split) <;> omega)))
      (try (have hji13g : ji13 ≤ 64 := by omega))
      have hji13_ : (if 1048576 < (wrap64 (2 * t105)) then 1048576 else (wrap64 (2 * t105))) = ji13 := hji13
      by_cases c14 : t104 = (ji13)
      · rw [if_pos c14] at H
        have c14b0 : (t104 == (ji13)) = true := beq_iff_eq.mpr c14
        have c14b1 : (t104 != (ji13)) = false := bne_eq_false_iff_eq.mpr c14
        clear c14
        replace H := Option.bind_eq_some_iff.mp H
        obtain ⟨t106, A150, H⟩ := H
        replace H : (if t106 = 0 then ((wait_After.f k (-(ji4)) (ji6)).bind fun t107 => (some (t107 == 0))) else (some false)) = some r := H
        have A15 := Aside0.mk A150
        clear A150
        by_cases c16 : t106 = 0
        · rw [if_pos c16] at H
          have c16b0 : (t106 == 0) = true := beq_iff_eq.mpr c16
          have c16b1 : (t106 != 0) = false := bne_eq_false_iff_eq.mpr c16
          clear c16
          replace H := Option.bind_eq_some_iff.mp H
          obtain ⟨t107, A170, H⟩ := H
          replace H : (some (t107 == 0)) = some r := H
          have A17 := Aside0.mk A170
          clear A170
          obtain rfl := Option.some.inj H
          go_enter Try.func3, Try.ntmps3
          go_wp2_with (first | ((with_reducible refine gate_callee (f := 8) rfl ?_); refine goesL_ (some 11) rfl rfl Try.func8 (by kernel_rfl) rfl #[] rfl (by (try simp only [List.map_toArray, List.map_cons, List.map_nil]); first | done | rfl | (simp only [List.length_drop, List.length_take]; rfl)) ?_; (with_reducible refine (penelopelaw17_alive.calls k  true _ A7.out).mono ?_); rintro e w18 ⟨rfl, hb⟩; refine ⟨_, rfl, ?_⟩; have n0_ := Aside0.mk (below_step (by repeat (first | (with_reducible first | exact HB.out | apply below_alloc | apply pw_below_drewN | apply below_drew1) | exact HB.out)) hb); clear HB; have HB := n0_; clear n0_; (try clear hb); (try clear hb2); (try clear hk); (try clear hi)) | (go_at_call 9; (with_reducible refine (wait_After.calls k ji4 1 t103 _ A9.out).mono ?_); rintro e w19 ⟨rfl, hb⟩; have n0_ := Aside0.mk (below_step (by repeat (first | (with_reducible first | exact HB.out | apply below_alloc | apply pw_below_drewN | apply below_drew1) | exact HB.out)) hb); clear HB; have HB := n0_; clear n0_; (try clear hb); (try clear hb2); (try clear hk); (try clear hi)) | (go_at_call 9; (with_reducible refine (wait_After.calls k ji4 ((ji6) + 1) t104 _ A11.out).mono ?_); rintro e w20 ⟨rfl, hb⟩; have n0_ := Aside0.mk (below_step (by repeat (first | (with_reducible first | exact HB.out | apply below_alloc | apply pw_below_drewN | apply below_drew1) | exact HB.out)) hb); clear HB; have HB := n0_; clear n0_; (try clear hb); (try clear hb2); (try clear hk); (try clear hi)) | (go_at_call 9; (with_reducible refine (wait_After.calls k ji4 ji6 t105 _ A12.out).mono ?_); rintro e w21 ⟨rfl, hb⟩; have n0_ := Aside0.mk (below_step (by repeat (first | (with_reducible first | exact HB.out | apply below_alloc | apply pw_below_drewN | apply below_drew1) | exact HB.out)) hb); clear HB; have HB := n0_; clear n0_; (try clear hb); (try clear hb2); (try clear hk); (try clear hi)) | (go_at_call 9; (with_reducible refine (wait_After.calls k ji4 0 t106 _ A15.out).mono ?_); rintro e w22 ⟨rfl, hb⟩; have n0_ := Aside0.mk (below_step (by repeat (first | (with_reducible first | exact HB.out | apply below_alloc | apply pw_below_drewN | apply below_drew1) | exact HB.out)) hb); clear HB; have HB := n0_; clear n0_; (try clear hb); (try clear hb2); (try clear hk); (try clear hi)) | (go_at_call 9; (with_reducible refine (wait_After.calls k (-(ji4)) ji6 t107 _ A17.out).mono ?_); rintro e w23 ⟨rfl, hb⟩; have n0_ := Aside0.mk (below_step (by repeat (first | (with_reducible first | exact HB.out | apply below_alloc | apply pw_below_drewN | apply below_drew1) | exact HB.out)) hb); clear HB; have HB := n0_; clear n0_; (try clear hb); (try clear hb2); (try clear hk); (try clear hi)))
          go_ret
          exact ⟨by first | rfl | (simp [errW_none, errW_some] <;> rfl) | (simp only [← hji3, ← hji4, ← hji5, ← hji6, ← hji13]; first | rfl | (simp [errW_none, errW_some] <;> rfl)) | (simp [*, errW_none, errW_some] <;> rfl), by repeat (first | (with_reducible first | exact HB.out | apply below_alloc | apply pw_below_drewN | apply below_drew1) | exact HB.out)⟩
        · rw [if_neg c16] at H
          have c16b0 : (t106 == 0) = false := beq_eq_false_iff_ne.mpr c16
          have c16b1 : (t106 != 0) = true := bne_iff_ne.mpr c16
          obtain rfl := Option.some.inj H
          go_enter Try.func3, Try.ntmps3
          go_wp2_with (first | ((with_reducible refine gate_callee (f := 8) rfl ?_); refine goesL_ (some 11) rfl rfl Try.func8 (by kernel_rfl) rfl #[] rfl (by (try simp only [List.map_toArray, List.map_cons, List.map_nil]); first | done | rfl | (simp only [List.length_drop, List.length_take]; rfl)) ?_; (with_reducible refine (penelopelaw17_alive.calls k  true _ A7.out).mono ?_); rintro e w24 ⟨rfl, hb⟩; refine ⟨_, rfl, ?_⟩; have n0_ := Aside0.mk (below_step (by repeat (first | (with_reducible first | exact HB.out | apply below_alloc | apply pw_below_drewN | apply below_drew1) | exact HB.out)) hb); clear HB; have HB := n0_; clear n0_; (try clear hb); (try clear hb2); (try clear hk); (try clear hi)) | (go_at_call 9; (with_reducible refine (wait_After.calls k ji4 1 t103 _ A9.out).mono ?_); rintro e w25 ⟨rfl, hb⟩; have n0_ := Aside0.mk (below_step (by repeat (first | (with_reducible first | exact HB.out | apply below_alloc | apply pw_below_drewN | apply below_drew1) | exact HB.out)) hb); clear HB; have HB := n0_; clear n0_; (try clear hb); (try clear hb2); (try clear hk); (try clear hi)) | (go_at_call 9; (with_reducible refine (wait_After.calls k ji4 ((ji6) + 1) t104 _ A11.out).mono ?_); rintro e w26 ⟨rfl, hb⟩; have n0_ := Aside0.mk (below_step (by repeat (first | (with_reducible first | exact HB.out | apply below_alloc | apply pw_below_drewN | apply below_drew1) | exact HB.out)) hb); clear HB; have HB := n0_; clear n0_; (try clear hb); (try clear hb2); (try clear hk); (try clear hi)) | (go_at_call 9; (with_reducible refine (wait_After.calls k ji4 ji6 t105 _ A12.out).mono ?_); rintro e w27 ⟨rfl, hb⟩; have n0_ := Aside0.mk (below_step (by repeat (first | (with_reducible first | exact HB.out | apply below_alloc | apply pw_below_drewN | apply below_drew1) | exact HB.out)) hb); clear HB; have HB := n0_; clear n0_; (try clear hb); (try clear hb2); (try clear hk); (try clear hi)) | (go_at_call 9; (with_reducible refine (wait_After.calls k ji4 0 t106 _ A15.out).mono ?_); rintro e w28 ⟨rfl, hb⟩; have n0_ := Aside0.mk (below_step (by repeat (first | (with_reducible first | exact HB.out | apply below_alloc | apply pw_below_drewN | apply below_drew1) | exact HB.out)) hb); clear HB; have HB := n0_; clear n0_; (try clear hb); (try clear hb2); (try clear hk); (try clear hi)))
          go_ret
          exact ⟨by first | rfl | (simp [errW_none, errW_some] <;> rfl) | (simp only [← hji3, ← hji4, ← hji5, ← hji6, ← hji13]; first | rfl | (simp [errW_none, errW_some] <;> rfl)) | (simp [*, errW_none, errW_some] <;> rfl), by repeat (first | (with_reducible first | exact HB.out | apply below_alloc | apply pw_below_drewN | apply below_drew1) | exact HB.out)⟩
      · rw [if_neg c14] at H
        have c14b0 : (t104 == (ji13)) = false := beq_eq_false_iff_ne.mpr c14
        have c14b1 : (t104 != (ji13)) = true := bne_iff_ne.mpr c14
        obtain rfl := Option.some.inj H
        go_enter Try.func3, Try.ntmps3
        go_wp2_with (first | ((with_reducible refine gate_callee (f := 8) rfl ?_); refine goesL_ (some 11) rfl rfl Try.func8 (by kernel_rfl) rfl #[] rfl (by (try simp only [List.map_toArray, List.map_cons, List.map_nil]); first | done | rfl | (simp only [List.length_drop, List.length_take]; rfl)) ?_; (with_reducible refine (penelopelaw17_alive.calls k  true _ A7.out).mono ?_); rintro e w29 ⟨rfl, hb⟩; refine ⟨_, rfl, ?_⟩; have n0_ := Aside0.mk (below_step (by repeat (first | (with_reducible first | exact HB.out | apply below_alloc | apply pw_below_drewN | apply below_drew1) | exact HB.out)) hb); clear HB; have HB := n0_; clear n0_; (try clear hb); (try clear hb2); (try clear hk); (try clear hi)) | (go_at_call 9; (with_reducible refine (wait_After.calls k ji4 1 t103 _ A9.out).mono ?_); rintro e w30 ⟨rfl, hb⟩; have n0_ := Aside0.mk (below_step (by repeat (first | (with_reducible first | exact HB.out | apply below_alloc | apply pw_below_drewN | apply below_drew1) | exact HB.out)) hb); clear HB; have HB := n0_; clear n0_; (try clear hb); (try clear hb2); (try clear hk); (try clear hi)) | (go_at_call 9; (with_reducible refine (wait_After.calls k ji4 ((ji6) + 1) t104 _ A11.out).mono ?_); rintro e w31 ⟨rfl, hb⟩; have n0_ := Aside0.mk (below_step (by repeat (first | (with_reducible first | exact HB.out | apply below_alloc | apply pw_below_drewN | apply below_drew1) | exact HB.out)) hb); clear HB; have HB := n0_; clear n0_; (try clear hb); (try clear hb2); (try clear hk); (try clear hi)) | (go_at_call 9; (with_reducible refine (wait_After.calls k ji4 ji6 t105 _ A12.out).mono ?_); rintro e w32 ⟨rfl, hb⟩; have n0_ := Aside0.mk (below_step (by repeat (first | (with_reducible first | exact HB.out | apply below_alloc | apply pw_below_drewN | apply below_drew1) | exact HB.out)) hb); clear HB; have HB := n0_; clear n0_; (try clear hb); (try clear hb2); (try clear hk); (try clear hi)))
        go_ret
        exact ⟨by first | rfl | (simp [errW_none, errW_some] <;> rfl) | (simp only [← hji3, ← hji4, ← hji5, ← hji6, ← hji13]; first | rfl | (simp [errW_none, errW_some] <;> rfl)) | (simp [*, errW_none, errW_some] <;> rfl), by repeat (first | (with_reducible first | exact HB.out | apply below_alloc | apply pw_below_drewN | apply below_drew1) | exact HB.out)⟩
    · rw [if_neg c10] at H
      have c10b0 : (t103 == (ji4)) = false := beq_eq_false_iff_ne.mpr c10
      have c10b1 : (t103 != (ji4)) = true := bne_iff_ne.mpr c10
      obtain rfl := Option.some.inj H
      go_enter Try.func3, Try.ntmps3
      go_wp2_with (first | ((with_reducible refine gate_callee (f := 8) rfl ?_); refine goesL_ (some 11) rfl rfl Try.func8 (by kernel_rfl) rfl #[] rfl (by (try simp only [List.map_toArray, List.map_cons, List.map_nil]); first | done | rfl | (simp only [List.length_drop, List.length_take]; rfl)) ?_; (with_reducible refine (penelopelaw17_alive.calls k  true _ A7.out).mono ?_); rintro e w33 ⟨rfl, hb⟩; refine ⟨_, rfl, ?_⟩; have n0_ := Aside0.mk (below_step (by repeat (first | (with_reducible first | exact HB.out | apply below_alloc | apply pw_below_drewN | apply below_drew1) | exact HB.out)) hb); clear HB; have HB := n0_; clear n0_; (try clear hb); (try clear hb2); (try clear hk); (try clear hi)) | (go_at_call 9; (with_reducible refine (wait_After.calls k ji4 1 t103 _ A9.out).mono ?_); rintro e w34 ⟨rfl, hb⟩; have n0_ := Aside0.mk (below_step (by repeat (first | (with_reducible first | exact HB.out | apply below_alloc | apply pw_below_drewN | apply below_drew1) | exact HB.out)) hb); clear HB; have HB := n0_; clear n0_; (try clear hb); (try clear hb2); (try clear hk); (try clear hi)))
      go_ret
      exact ⟨by first | rfl | (simp [errW_none, errW_some] <;> rfl) | (simp only [← hji3, ← hji4, ← hji5, ← hji6]; first | rfl | (simp [errW_none, errW_some] <;> rfl)) | (simp [*, errW_none, errW_some] <;> rfl), by repeat (first | (with_reducible first | exact HB.out | apply below_alloc | apply pw_below_drewN | apply below_drew1) | exact HB.out)⟩
  · replace c8 := Bool.eq_false_iff.mpr c8
    subst c8
    have H1 : (some false) = some r := by rw [if_neg (show ¬ (false = true) by decide)] at H; exact H
    clear H
    have H := H1
    clear H1
    obtain rfl := Option.some.inj H
    go_enter Try.func3, Try.ntmps3
    go_wp2_with (first | ((with_reducible refine gate_callee (f := 8) rfl ?_); refine goesL_ (some 11) rfl rfl Try.func8 (by kernel_rfl) rfl #[] rfl (by (try simp only [List.map_toArray, List.map_cons, List.map_nil]); first | done | rfl | (simp only [List.length_drop, List.length_take]; rfl)) ?_; (with_reducible refine (penelopelaw17_alive.calls k  false _ A7.out).mono ?_); rintro e w35 ⟨rfl, hb⟩; refine ⟨_, rfl, ?_⟩; have n0_ := Aside0.mk (below_step (by repeat (first | (with_reducible first | exact HB.out | apply below_alloc | apply pw_below_drewN | apply below_drew1) | exact HB.out)) hb); clear HB; have HB := n0_; clear n0_; (try clear hb); (try clear hb2); (try clear hk); (try clear hi)))
    go_ret
    exact ⟨by first | rfl | (simp [errW_none, errW_some] <;> rfl) | (simp only [← hji3, ← hji4, ← hji5, ← hji6]; first | rfl | (simp [errW_none, errW_some] <;> rfl)) | (simp [*, errW_none, errW_some] <;> rfl), by repeat (first | (with_reducible first | exact HB.out | apply below_alloc | apply pw_below_drewN | apply below_drew1) | exact HB.out)⟩

/-- THE ONE PURE STATEMENT of penelopelaw17_WaitDoubles: yours. -/
def penelopelaw17_WaitDoubles.Pure : Prop := ∀ (a0 : Int) (a1 : Int), (Lit.int .i64 a0).wf = true → (Lit.int .i64 a1).wf = true → ∃ k, penelopelaw17_WaitDoubles.f k a0 a1 = some true
theorem penelopelaw17_WaitDoubles.walk (P : penelopelaw17_WaitDoubles.Pure) (a0 : Int) (a1 : Int) (w : World) (w0 : (Lit.int .i64 a0).wf = true) (w1 : (Lit.int .i64 a1).wf = true) :
    Calls Try.prog 3 #[.int .i64 a0, .int .i64 a1] w fun e w' => e = .returned (.bool true) ∧ Below w.heap.size w w' := by
  obtain ⟨k, h⟩ := P a0 a1 w0 w1
  refine (penelopelaw17_WaitDoubles.calls k a0 a1 true w h).mono ?_
  rintro e w' ⟨rfl, hd⟩
  exact ⟨rfl, hd⟩

end Go.Proofs.Ytijabpabmipdbaa.PWaitDoubles
