-- laid by a program of this session (wip/tools/xprint.py), function by function; Lean checks it
import Derived.Test.YtbgmhcefjggpgaaXx0
namespace Go.Proofs.Ytbgmhcefjggpgaa.X
open Go.RowKit Go.Proofs.YtbgmhcefjggpgaaW.PrintWords Go.Proofs.YtbgmhcefjggpgaaW.PrintLast Go.Proofs.YtbgmhcefjggpgaaW.PrintMore
attribute [local go_sem] max2_int min2_int max_two min_two max_three min_three max_four min_four   -- for this text's walks alone
set_option linter.unusedVariables false
set_option linter.unusedSimpArgs false

/-! ### dag_task: function 28 -/
def dag_task.l0 : Nat → Int → Int → List Int → Int → Int → List Int → Int → Int → Int → Option (Bool)
  | 0, _, _, _, _, _, _, _, _, _ => none
  | k + 1, x1, x5, x9, x10, x11, x244000, x244001, x244002, x244003 => if x11 < x10 then (if 0 ≤ x11 then (if x11 < (x9.length : Int) then (if (rd x9 x11) ≤ x5 then (some false) else (if (rd x9 x11) ≥ x1 then (some false) else (dag_task.l0 k x1 (rd x9 x11) x9 x10 (wrap64 (x11 + 1)) x244000 x244001 x244002 x244003))) else (none)) else (none)) else (if x244001 ≥ 1 then (if x244001 ≤ 8 then (if x244002 ≥ 0 then (if x244002 ≤ 1048576 then (if x244003 ≥ 1 then (some (decide (x244003 ≤ 1048576))) else (some false)) else (some false)) else (some false)) else (some false)) else (some false))
def dag_task.f (k : Nat) (l0_0 : List Int) (a0_1 : Int) (a0_2 : Int) (a0_3 : Int) (a1 : Int) : Option (Bool) := dag_task.l0 k a1 (-1) l0_0 (l0_0.length : Int) 0 l0_0 a0_1 a0_2 a0_3
theorem dag_task.mono_l : ∀ k, (∀ y0 y1 y2 y3 y4 y5 y6 y7 y8, LeO (dag_task.l0 k y0 y1 y2 y3 y4 y5 y6 y7 y8) (dag_task.l0 (k + 1) y0 y1 y2 y3 y4 y5 y6 y7 y8))
  | 0 => fun _ _ _ _ _ _ _ _ _ r h => by simp [dag_task.l0] at h
  | k + 1 => by
    have ih0 := dag_task.mono_l k
    · intro y0 y1 y2 y3 y4 y5 y6 y7 y8
      unfold dag_task.l0
      repeat' first
      | (with_reducible exact ih0 _ _ _ _ _ _ _ _ _)
      | (with_reducible exact LeO.refl _)
      | (with_reducible exact LeO.none _)
      | (with_reducible refine LeO.ite ?_ ?_)
      | (with_reducible refine LeO.bind ?_ (fun _ => ?_))
      | exact ih0 _ _ _ _ _ _ _ _ _
      | exact LeO.none _
      | refine LeO.ite ?_ ?_
      | refine LeO.bind ?_ (fun _ => ?_)
theorem dag_task.mono : ∀ a0 a1 a2 a3 a4 k, LeO (dag_task.f k a0 a1 a2 a3 a4) (dag_task.f (k + 1) a0 a1 a2 a3 a4) := by
  intro a0 a1 a2 a3 a4 k
  have ih0 := dag_task.mono_l k
  unfold dag_task.f
  repeat' first
      | (with_reducible exact ih0 _ _ _ _ _ _ _ _ _)
      | (with_reducible exact LeO.refl _)
      | (with_reducible exact LeO.none _)
      | (with_reducible refine LeO.ite ?_ ?_)
      | (with_reducible refine LeO.bind ?_ (fun _ => ?_))
      | exact ih0 _ _ _ _ _ _ _ _ _
      | exact LeO.none _
      | refine LeO.ite ?_ ?_
      | refine LeO.bind ?_ (fun _ => ?_)
set_option maxHeartbeats 8000000 in
set_option maxRecDepth 100000 in
theorem dag_task.calls (k : Nat) (A0_0 : Option Addr) (c0_0 : Nat) (l0_0 : List Int) (a0_1 : Int) (a0_2 : Int) (a0_3 : Int) (a1 : Int) (r : Bool) (w : World) (hr0_0 : Kd.C (Kd.int .i64) w A0_0 l0_0.length l0_0) (hc0_0 : l0_0.length ≤ c0_0) (h : dag_task.f k l0_0 a0_1 a0_2 a0_3 a1 = some r) :
    Calls Try.prog 28 #[.agg #[.slice A0_0 l0_0.length c0_0, .int .i64 a0_1, .int .i64 a0_2, .int .i64 a0_3], .int .i64 a1] w fun e w' => e = .returned (.bool r) ∧ Below w.heap.size w w' := by
  have hu39 := Try.underlying39
  have HR0_0 := Aside0.mk hr0_0
  have HC0_0 := Aside0.mk hc0_0
  clear hr0_0 hc0_0
  have HB := Aside0.mk (Below.refl w.heap.size w)
  have H : (dag_task.l0 k a1 (-1) l0_0 (l0_0.length : Int) 0 l0_0 a0_1 a0_2 a0_3) = some r := h
  clear h
  have H' := Aside0.mk H
  clear H
  go_enter Try.func28, Try.ntmps28
  go_wp2_with (first | ((with_reducible refine gate_dst (N := 2) rfl ?_); refine box_event ?hg (N := 2) ?hd (cs := #[.slice A0_0 l0_0.length c0_0, .int .i64 a0_1, .int .i64 a0_2, .int .i64 a0_3]) (t := 39) ?hr ?_; (case hd => rfl); (case hg => rfl); (case hr => first | (go_simp; done) | (go_simp; rfl)); intro gb243 hg w3 hbox hb; have n0_ := Aside0.mk (below_step (by repeat (first | (with_reducible first | exact HB.out | apply below_alloc | apply pw_below_drewN | apply below_drew1) | exact HB.out)) hb); have n1_ := Aside0.mk (hbox); have n2_ := Aside0.mk ((by rw [hg]; exact (below_size (by repeat (first | (with_reducible first | exact HB.out | apply below_alloc | apply pw_below_drewN | apply below_drew1) | exact HB.out))) : w.heap.size ≤ gb243)); have n3_ := Aside0.mk ((by rw [hg]; exact (below_size (by repeat (first | (with_reducible first | exact HB.out | apply below_alloc | apply pw_below_drewN | apply below_drew1) | exact HB.out))) : w.heap.size ≤ gb243)); clear HB; have HB := n0_; have BK243 := n1_; have GW243 := n2_; have GE243 := n3_; clear n0_ n1_ n2_ n3_; clear hb hbox hg; have hcz4_0 : w3.cell? ⟨gb243, 0, none⟩ = some (.slice A0_0 l0_0.length c0_0) := (blk_cell BK243.out 0).trans rfl; have hcz4_1 : w3.cell? ⟨gb243, 1, none⟩ = some (.int .i64 a0_1) := (blk_cell BK243.out 1).trans rfl; have hcz4_2 : w3.cell? ⟨gb243, 2, none⟩ = some (.int .i64 a0_2) := (blk_cell BK243.out 2).trans rfl; have hcz4_3 : w3.cell? ⟨gb243, 3, none⟩ = some (.int .i64 a0_3) := (blk_cell BK243.out 3).trans rfl; have hfz4_0 := blk_frozen BK243.out 0; have hfz4_1 := blk_frozen BK243.out 1; have hfz4_2 := blk_frozen BK243.out 2; have hfz4_3 := blk_frozen BK243.out 3))
  go_loopg [5, 11] k (fun kq v5 v11 w' => ∃ (x5_1 : Int) (x11_1 : Int), v5 = .int .i64 x5_1 ∧ v11 = .int .i64 x11_1 ∧ Aside0 (dag_task.l0 kq a1 x5_1 l0_0 (l0_0.length : Int) x11_1 l0_0 a0_1 a0_2 a0_3 = some r) ∧ Aside0 (kq ≤ k) ∧ Aside0 (w'.heap[gb243]? = some (.cells #[(.slice A0_0 l0_0.length c0_0), .int .i64 a0_1, .int .i64 a0_2, .int .i64 a0_3] 39 (0, 0))) ∧ Aside0 (Below w.heap.size w w'))
  case atStart => exact ⟨((-1)), (0), (by first | rfl | (simp; done) | (simp [*]; done)), (by first | rfl | (simp; done) | (simp [*]; done)), H', ⟨Nat.le_refl _⟩, ⟨by (with_reducible repeat (first | refine blk_drewN ?_ _ | refine blk_drew ?_ | refine blk_alloc ?_ _)); exact BK243.out⟩, ⟨by repeat (first | (with_reducible first | exact HB.out | apply below_alloc | apply pw_below_drewN | apply below_drew1 | refine below_set ?_ GE243.out) | exact HB.out)⟩⟩
  case round =>
    clear H'
    try clear c2
    try clear p2
    try clear hcz4_0
    try clear hcz4_1
    try clear hcz4_2
    try clear hcz4_3
    try clear hfz4_0
    try clear hfz4_1
    try clear hfz4_2
    try clear hfz4_3
    obtain ⟨x5_1, x11_1, rfl, rfl, HA, HK1, BK243, HB⟩ := hrel
    cases gk with
    | zero => exact absurd HA.out (by simp [dag_task.l0])
    | succ k1 =>
      have H := HA.out
      clear HA
      simp only [dag_task.l0] at H
      by_cases c5 : x11_1 < (l0_0.length : Int)
      · rw [if_pos c5] at H
        have c5b0 : decide (x11_1 < (l0_0.length : Int)) = true := decide_eq_true c5
        clear c5
        by_cases c6 : 0 ≤ x11_1
        · rw [if_pos c6] at H
          have c6b0 : decide (0 ≤ x11_1) = true := decide_eq_true c6
          clear c6
          by_cases c7 : x11_1 < (l0_0.length : Int)
          · rw [if_pos c7] at H
            have c7b0 : decide (x11_1 < (l0_0.length : Int)) = true := decide_eq_true c7
            clear c7
            by_cases c8 : (rd l0_0 x11_1) ≤ x5_1
            · rw [if_pos c8] at H
              have c8b0 : decide ((rd l0_0 x11_1) ≤ x5_1) = true := decide_eq_true c8
              clear c8
              obtain rfl := Option.some.inj H
              have p244 : 0 ≤ (x11_1 : Int) := of_decide_eq_true (by first | (with_reducible assumption) | assumption)
              have q244 : x11_1 < (l0_0.length : Int) := of_decide_eq_true (by first | (with_reducible assumption) | assumption)
              obtain ⟨ad244, e244, hx244_0⟩ := Kd.at_int HR0_0.out x11_1 p244 q244
              cases e244
              replace hx244_0 := (HB.out.cell (World.block_lt_of_cell? w _ hx244_0)).trans hx244_0
              replace p244 := eq_true p244
              replace q244 := eq_true q244
              go_wp2
              go_ret
              exact ⟨by first | rfl | (simp [errW_none, errW_some] <;> rfl) | (simp [*, errW_none, errW_some] <;> rfl), by repeat (first | (with_reducible first | exact HB.out | apply below_alloc | apply pw_below_drewN | apply below_drew1 | refine below_set ?_ GE243.out) | exact HB.out)⟩
            · rw [if_neg c8] at H
              have c8b0 : decide ((rd l0_0 x11_1) ≤ x5_1) = false := decide_eq_false c8
              clear c8
              by_cases c9 : (rd l0_0 x11_1) ≥ a1
              · rw [if_pos c9] at H
                have c9b0 : decide (a1 ≤ (rd l0_0 x11_1)) = true := decide_eq_true c9
                clear c9
                obtain rfl := Option.some.inj H
                have p244 : 0 ≤ (x11_1 : Int) := of_decide_eq_true (by first | (with_reducible assumption) | assumption)
                have q244 : x11_1 < (l0_0.length : Int) := of_decide_eq_true (by first | (with_reducible assumption) | assumption)
                obtain ⟨ad244, e244, hx244_0⟩ := Kd.at_int HR0_0.out x11_1 p244 q244
                cases e244
                replace hx244_0 := (HB.out.cell (World.block_lt_of_cell? w _ hx244_0)).trans hx244_0
                replace p244 := eq_true p244
                replace q244 := eq_true q244
                go_wp2
                go_ret
                exact ⟨by first | rfl | (simp [errW_none, errW_some] <;> rfl) | (simp [*, errW_none, errW_some] <;> rfl), by repeat (first | (with_reducible first | exact HB.out | apply below_alloc | apply pw_below_drewN | apply below_drew1 | refine below_set ?_ GE243.out) | exact HB.out)⟩
              · rw [if_neg c9] at H
                have c9b0 : decide (a1 ≤ (rd l0_0 x11_1)) = false := decide_eq_false c9
                clear c9
                have H' := Aside0.mk H
                clear H
                have p244 : 0 ≤ (x11_1 : Int) := of_decide_eq_true (by first | (with_reducible assumption) | assumption)
                have q244 : x11_1 < (l0_0.length : Int) := of_decide_eq_true (by first | (with_reducible assumption) | assumption)
                obtain ⟨ad244, e244, hx244_0⟩ := Kd.at_int HR0_0.out x11_1 p244 q244
                cases e244
                replace hx244_0 := (HB.out.cell (World.block_lt_of_cell? w _ hx244_0)).trans hx244_0
                replace p244 := eq_true p244
                replace q244 := eq_true q244
                go_wp2
                go_roundg k1
                case measure => have := HK1.out; omega
                case rel => exact ⟨(rd l0_0 x11_1), (wrap64 (x11_1 + 1)), (by first | rfl | (simp; done) | (simp [*]; done)), (by first | rfl | (simp; done) | (simp [*]; done)), H', ⟨by have := HK1.out; omega⟩, ⟨by (with_reducible repeat (first | refine blk_drewN ?_ _ | refine blk_drew ?_ | refine blk_alloc ?_ _)); exact BK243.out⟩, ⟨by repeat (first | (with_reducible first | exact HB.out | apply below_alloc | apply pw_below_drewN | apply below_drew1 | refine below_set ?_ GE243.out) | exact HB.out)⟩⟩
          · rw [if_neg c7] at H
            exact absurd H (by simp)
        · rw [if_neg c6] at H
          exact absurd H (by simp)
      · rw [if_neg c5] at H
        have c5b0 : decide (x11_1 < (l0_0.length : Int)) = false := decide_eq_false c5
        clear c5
        by_cases c10 : a0_1 ≥ 1
        · rw [if_pos c10] at H
          have c10b0 : decide (1 ≤ a0_1) = true := decide_eq_true c10
          clear c10
          by_cases c11 : a0_1 ≤ 8
          · rw [if_pos c11] at H
            have c11b0 : decide (a0_1 ≤ 8) = true := decide_eq_true c11
            clear c11
            by_cases c12 : a0_2 ≥ 0
            · rw [if_pos c12] at H
              have c12b0 : decide (0 ≤ a0_2) = true := decide_eq_true c12
              clear c12
              by_cases c13 : a0_2 ≤ 1048576
              · rw [if_pos c13] at H
                have c13b0 : decide (a0_2 ≤ 1048576) = true := decide_eq_true c13
                clear c13
                by_cases c14 : a0_3 ≥ 1
                · rw [if_pos c14] at H
                  have c14b0 : decide (1 ≤ a0_3) = true := decide_eq_true c14
                  clear c14
                  obtain rfl := Option.some.inj H
                  have hcz15_0 : wr.cell? ⟨gb243, 0, none⟩ = some (.slice A0_0 l0_0.length c0_0) := (blk_cell BK243.out 0).trans rfl
                  have hcz15_1 : wr.cell? ⟨gb243, 1, none⟩ = some (.int .i64 a0_1) := (blk_cell BK243.out 1).trans rfl
                  have hcz15_2 : wr.cell? ⟨gb243, 2, none⟩ = some (.int .i64 a0_2) := (blk_cell BK243.out 2).trans rfl
                  have hcz15_3 : wr.cell? ⟨gb243, 3, none⟩ = some (.int .i64 a0_3) := (blk_cell BK243.out 3).trans rfl
                  have hfz15_0 := blk_frozen BK243.out 0
                  have hfz15_1 := blk_frozen BK243.out 1
                  have hfz15_2 := blk_frozen BK243.out 2
                  have hfz15_3 := blk_frozen BK243.out 3
                  go_wp2
                  go_ret
                  exact ⟨by first | rfl | (simp [errW_none, errW_some] <;> rfl) | (simp [*, errW_none, errW_some] <;> rfl), by repeat (first | (with_reducible first | exact HB.out | apply below_alloc | apply pw_below_drewN | apply below_drew1 | refine below_set ?_ GE243.out) | exact HB.out)⟩
                · rw [if_neg c14] at H
                  have c14b0 : decide (1 ≤ a0_3) = false := decide_eq_false c14
                  clear c14
                  obtain rfl := Option.some.inj H
                  have hcz16_0 : wr.cell? ⟨gb243, 0, none⟩ = some (.slice A0_0 l0_0.length c0_0) := (blk_cell BK243.out 0).trans rfl
                  have hcz16_1 : wr.cell? ⟨gb243, 1, none⟩ = some (.int .i64 a0_1) := (blk_cell BK243.out 1).trans rfl
                  have hcz16_2 : wr.cell? ⟨gb243, 2, none⟩ = some (.int .i64 a0_2) := (blk_cell BK243.out 2).trans rfl
                  have hcz16_3 : wr.cell? ⟨gb243, 3, none⟩ = some (.int .i64 a0_3) := (blk_cell BK243.out 3).trans rfl
                  have hfz16_0 := blk_frozen BK243.out 0
                  have hfz16_1 := blk_frozen BK243.out 1
                  have hfz16_2 := blk_frozen BK243.out 2
                  have hfz16_3 := blk_frozen BK243.out 3
                  go_wp2
                  go_ret
                  exact ⟨by first | rfl | (simp [errW_none, errW_some] <;> rfl) | (simp [*, errW_none, errW_some] <;> rfl), by repeat (first | (with_reducible first | exact HB.out | apply below_alloc | apply pw_below_drewN | apply below_drew1 | refine below_set ?_ GE243.out) | exact HB.out)⟩
              · rw [if_neg c13] at H
                have c13b0 : decide (a0_2 ≤ 1048576) = false := decide_eq_false c13
                clear c13
                obtain rfl := Option.some.inj H
                have hcz17_0 : wr.cell? ⟨gb243, 0, none⟩ = some (.slice A0_0 l0_0.length c0_0) := (blk_cell BK243.out 0).trans rfl
                have hcz17_1 : wr.cell? ⟨gb243, 1, none⟩ = some (.int .i64 a0_1) := (blk_cell BK243.out 1).trans rfl
                have hcz17_2 : wr.cell? ⟨gb243, 2, none⟩ = some (.int .i64 a0_2) := (blk_cell BK243.out 2).trans rfl
                have hcz17_3 : wr.cell? ⟨gb243, 3, none⟩ = some (.int .i64 a0_3) := (blk_cell BK243.out 3).trans rfl
                have hfz17_0 := blk_frozen BK243.out 0
                have hfz17_1 := blk_frozen BK243.out 1
                have hfz17_2 := blk_frozen BK243.out 2
                have hfz17_3 := blk_frozen BK243.out 3
                go_wp2
                go_ret
                exact ⟨by first | rfl | (simp [errW_none, errW_some] <;> rfl) | (simp [*, errW_none, errW_some] <;> rfl), by repeat (first | (with_reducible first | exact HB.out | apply below_alloc | apply pw_below_drewN | apply below_drew1 | refine below_set ?_ GE243.out) | exact HB.out)⟩
            · rw [if_neg c12] at H
              have c12b0 : decide (0 ≤ a0_2) = false := decide_eq_false c12
              clear c12
              obtain rfl := Option.some.inj H
              have hcz18_0 : wr.cell? ⟨gb243, 0, none⟩ = some (.slice A0_0 l0_0.length c0_0) := (blk_cell BK243.out 0).trans rfl
              have hcz18_1 : wr.cell? ⟨gb243, 1, none⟩ = some (.int .i64 a0_1) := (blk_cell BK243.out 1).trans rfl
              have hcz18_2 : wr.cell? ⟨gb243, 2, none⟩ = some (.int .i64 a0_2) := (blk_cell BK243.out 2).trans rfl
              have hcz18_3 : wr.cell? ⟨gb243, 3, none⟩ = some (.int .i64 a0_3) := (blk_cell BK243.out 3).trans rfl
              have hfz18_0 := blk_frozen BK243.out 0
              have hfz18_1 := blk_frozen BK243.out 1
              have hfz18_2 := blk_frozen BK243.out 2
              have hfz18_3 := blk_frozen BK243.out 3
              go_wp2
              go_ret
              exact ⟨by first | rfl | (simp [errW_none, errW_some] <;> rfl) | (simp [*, errW_none, errW_some] <;> rfl), by repeat (first | (with_reducible first | exact HB.out | apply below_alloc | apply pw_below_drewN | apply below_drew1 | refine below_set ?_ GE243.out) | exact HB.out)⟩
          · rw [if_neg c11] at H
            have c11b0 : decide (a0_1 ≤ 8) = false := decide_eq_false c11
            clear c11
            obtain rfl := Option.some.inj H
            have hcz19_0 : wr.cell? ⟨gb243, 0, none⟩ = some (.slice A0_0 l0_0.length c0_0) := (blk_cell BK243.out 0).trans rfl
            have hcz19_1 : wr.cell? ⟨gb243, 1, none⟩ = some (.int .i64 a0_1) := (blk_cell BK243.out 1).trans rfl
            have hcz19_2 : wr.cell? ⟨gb243, 2, none⟩ = some (.int .i64 a0_2) := (blk_cell BK243.out 2).trans rfl
            have hcz19_3 : wr.cell? ⟨gb243, 3, none⟩ = some (.int .i64 a0_3) := (blk_cell BK243.out 3).trans rfl
            have hfz19_0 := blk_frozen BK243.out 0
            have hfz19_1 := blk_frozen BK243.out 1
            have hfz19_2 := blk_frozen BK243.out 2
            have hfz19_3 := blk_frozen BK243.out 3
            go_wp2
            go_ret
            exact ⟨by first | rfl | (simp [errW_none, errW_some] <;> rfl) | (simp [*, errW_none, errW_some] <;> rfl), by repeat (first | (with_reducible first | exact HB.out | apply below_alloc | apply pw_below_drewN | apply below_drew1 | refine below_set ?_ GE243.out) | exact HB.out)⟩
        · rw [if_neg c10] at H
          have c10b0 : decide (1 ≤ a0_1) = false := decide_eq_false c10
          clear c10
          obtain rfl := Option.some.inj H
          have hcz20_0 : wr.cell? ⟨gb243, 0, none⟩ = some (.slice A0_0 l0_0.length c0_0) := (blk_cell BK243.out 0).trans rfl
          have hcz20_1 : wr.cell? ⟨gb243, 1, none⟩ = some (.int .i64 a0_1) := (blk_cell BK243.out 1).trans rfl
          have hcz20_2 : wr.cell? ⟨gb243, 2, none⟩ = some (.int .i64 a0_2) := (blk_cell BK243.out 2).trans rfl
          have hcz20_3 : wr.cell? ⟨gb243, 3, none⟩ = some (.int .i64 a0_3) := (blk_cell BK243.out 3).trans rfl
          have hfz20_0 := blk_frozen BK243.out 0
          have hfz20_1 := blk_frozen BK243.out 1
          have hfz20_2 := blk_frozen BK243.out 2
          have hfz20_3 := blk_frozen BK243.out 3
          go_wp2
          go_ret
          exact ⟨by first | rfl | (simp [errW_none, errW_some] <;> rfl) | (simp [*, errW_none, errW_some] <;> rfl), by repeat (first | (with_reducible first | exact HB.out | apply below_alloc | apply pw_below_drewN | apply below_drew1 | refine below_set ?_ GE243.out) | exact HB.out)⟩

end Go.Proofs.Ytbgmhcefjggpgaa.X
