-- laid by a program of this session (wip/tools/xprint.py), function by function; Lean checks it
import Derived.Test.YtmbpnggldpgcdaaBx0
namespace Go.Proofs.Ytmbpnggldpgcdaa.B
open Go.RowKit Go.Proofs.YtmbpnggldpgcdaaW.PrintWords Go.Proofs.YtmbpnggldpgcdaaW.PrintLast Go.Proofs.YtmbpnggldpgcdaaW.PrintMore
attribute [local go_sem] max2_int min2_int max_two min_two max_three min_three max_four min_four   -- for this text's walks alone
set_option linter.unusedVariables false
set_option linter.unusedSimpArgs false

/-! ### task_stands: function 37 -/
def task_stands.j0 : Nat → Bool → Int → Int → Int → Int → ByteArray → Option (Bool)
  | 0, _, _, _, _, _, _ => none
  | k + 1, x30, x109000, x109001, x109002, x109003, x109004 => if x30 = true then (some false) else (if x109003 < 0 then (some false) else (if x109003 > 1099511627776 then (some false) else (if ((decide (x109003 > 0)) != (x109000 == 2)) = true then (some false) else (if (x109004.size : Int) ≤ 16 then (if x109004.toList = ([] : List UInt8) then (some true) else (some (x109000 == 3))) else (some false)))))
def task_stands.f (k : Nat) (a0_0 : Int) (a0_1 : Int) (a0_2 : Int) (a0_3 : Int) (a0_4 : ByteArray) : Option (Bool) := if a0_0 < 0 then (task_stands.j0 k true a0_0 a0_1 a0_2 a0_3 a0_4) else (if a0_0 > 5 then (task_stands.j0 k true a0_0 a0_1 a0_2 a0_3 a0_4) else (if a0_1 < 0 then (task_stands.j0 k true a0_0 a0_1 a0_2 a0_3 a0_4) else (if a0_1 > 8 then (task_stands.j0 k true a0_0 a0_1 a0_2 a0_3 a0_4) else (if a0_2 < 0 then (task_stands.j0 k true a0_0 a0_1 a0_2 a0_3 a0_4) else (task_stands.j0 k (decide (a0_2 > 1099511627776)) a0_0 a0_1 a0_2 a0_3 a0_4)))))
theorem task_stands.mono_l : ∀ k, (∀ y0 y1 y2 y3 y4 y5, LeO (task_stands.j0 k y0 y1 y2 y3 y4 y5) (task_stands.j0 (k + 1) y0 y1 y2 y3 y4 y5))
  | 0 => fun _ _ _ _ _ _ r h => by simp [task_stands.j0] at h
  | k + 1 => by
    have ih0 := task_stands.mono_l k
    · intro y0 y1 y2 y3 y4 y5
      unfold task_stands.j0
      repeat' first
      | (with_reducible exact ih0 _ _ _ _ _ _)
      | (with_reducible exact LeO.refl _)
      | (with_reducible exact LeO.none _)
      | (with_reducible refine LeO.ite ?_ ?_)
      | (with_reducible refine LeO.bind ?_ (fun _ => ?_))
      | exact ih0 _ _ _ _ _ _
      | exact LeO.none _
      | refine LeO.ite ?_ ?_
      | refine LeO.bind ?_ (fun _ => ?_)
theorem task_stands.mono : ∀ a0 a1 a2 a3 a4 k, LeO (task_stands.f k a0 a1 a2 a3 a4) (task_stands.f (k + 1) a0 a1 a2 a3 a4) := by
  intro a0 a1 a2 a3 a4 k
  have ih0 := task_stands.mono_l k
  unfold task_stands.f
  repeat' first
      | (with_reducible exact ih0 _ _ _ _ _ _)
      | (with_reducible exact LeO.refl _)
      | (with_reducible exact LeO.none _)
      | (with_reducible refine LeO.ite ?_ ?_)
      | (with_reducible refine LeO.bind ?_ (fun _ => ?_))
      | exact ih0 _ _ _ _ _ _
      | exact LeO.none _
      | refine LeO.ite ?_ ?_
      | refine LeO.bind ?_ (fun _ => ?_)
set_option maxHeartbeats 8000000 in
set_option maxRecDepth 100000 in
theorem task_stands.calls (k : Nat) (a0_0 : Int) (a0_1 : Int) (a0_2 : Int) (a0_3 : Int) (a0_4 : ByteArray) (r : Bool) (w : World) (h : task_stands.f k a0_0 a0_1 a0_2 a0_3 a0_4 = some r) :
    Calls Try.prog 37 #[.agg #[.int .i64 a0_0, .int .i64 a0_1, .int .i64 a0_2, .int .i64 a0_3, .string a0_4]] w fun e w' => e = .returned (.bool r) ∧ Below w.heap.size w w' := by
  have hu26 := Try.underlying26
  have HB := Aside0.mk (Below.refl w.heap.size w)
  have H : (if a0_0 < 0 then (task_stands.j0 k true a0_0 a0_1 a0_2 a0_3 a0_4) else (if a0_0 > 5 then (task_stands.j0 k true a0_0 a0_1 a0_2 a0_3 a0_4) else (if a0_1 < 0 then (task_stands.j0 k true a0_0 a0_1 a0_2 a0_3 a0_4) else (if a0_1 > 8 then (task_stands.j0 k true a0_0 a0_1 a0_2 a0_3 a0_4) else (if a0_2 < 0 then (task_stands.j0 k true a0_0 a0_1 a0_2 a0_3 a0_4) else (task_stands.j0 k (decide (a0_2 > 1099511627776)) a0_0 a0_1 a0_2 a0_3 a0_4)))))) = some r := h
  clear h
  have HC2 := Aside0.mk H
  clear H
  go_enter Try.func37, Try.ntmps37
  go_upto_region 1 with (first | ((with_reducible refine gate_dst (N := 1) rfl ?_); refine box_event ?hg (N := 1) ?hd (cs := #[.int .i64 a0_0, .int .i64 a0_1, .int .i64 a0_2, .int .i64 a0_3, .string a0_4]) (t := 26) ?hr ?_; (case hd => rfl); (case hg => rfl); (case hr => first | (go_simp; done) | (go_simp; rfl)); intro gb108 hg w3 hbox hb; have n0_ := Aside0.mk (below_step (by repeat (first | (with_reducible first | exact HB.out | apply below_alloc | apply pw_below_drewN | apply below_drew1) | exact HB.out)) hb); have n1_ := Aside0.mk (hbox); have n2_ := Aside0.mk ((by rw [hg]; exact (below_size (by repeat (first | (with_reducible first | exact HB.out | apply below_alloc | apply pw_below_drewN | apply below_drew1) | exact HB.out))) : w.heap.size ≤ gb108)); have n3_ := Aside0.mk ((by rw [hg]; exact (below_size (by repeat (first | (with_reducible first | exact HB.out | apply below_alloc | apply pw_below_drewN | apply below_drew1) | exact HB.out))) : w.heap.size ≤ gb108)); clear HB; have HB := n0_; have BK108 := n1_; have GW108 := n2_; have GE108 := n3_; clear n0_ n1_ n2_ n3_; clear hb hbox hg))
  (try simp only [Act.put, List.setIfInBounds_toArray, List.set_cons_zero, List.set_cons_succ])
  go_cut [30] (fun v30 wc => ∃ (kq : Nat) (x30_1 : Bool), v30 = .bool x30_1 ∧ Aside0 (task_stands.j0 kq x30_1 a0_0 a0_1 a0_2 a0_3 a0_4 = some r) ∧ Aside0 (kq ≤ k) ∧ Aside0 (wc.heap[gb108]? = some (.cells #[.int .i64 a0_0, .int .i64 a0_1, .int .i64 a0_2, .int .i64 a0_3, .string a0_4] 26 (0, 0))) ∧ Aside0 (Below w.heap.size w wc))
  case first =>
    have H := HC2.out
    clear HC2
    by_cases c4 : a0_0 < 0
    · rw [if_pos c4] at H
      have c4b0 : decide (a0_0 < 0) = true := decide_eq_true c4
      clear c4
      (first | rw [c4b0] | (simp only [i64_w, i32_w]; rw [c4b0]) | skip)
      have H' := Aside0.mk H
      clear H
      have hcz5_0 : w3.cell? ⟨gb108, 0, none⟩ = some (.int .i64 a0_0) := (blk_cell BK108.out 0).trans rfl
      have hcz5_1 : w3.cell? ⟨gb108, 1, none⟩ = some (.int .i64 a0_1) := (blk_cell BK108.out 1).trans rfl
      have hcz5_2 : w3.cell? ⟨gb108, 2, none⟩ = some (.int .i64 a0_2) := (blk_cell BK108.out 2).trans rfl
      have hcz5_3 : w3.cell? ⟨gb108, 3, none⟩ = some (.int .i64 a0_3) := (blk_cell BK108.out 3).trans rfl
      have hcz5_4 : w3.cell? ⟨gb108, 4, none⟩ = some (.string a0_4) := (blk_cell BK108.out 4).trans rfl
      have hfz5_0 := blk_frozen BK108.out 0
      have hfz5_1 := blk_frozen BK108.out 1
      have hfz5_2 := blk_frozen BK108.out 2
      have hfz5_3 := blk_frozen BK108.out 3
      have hfz5_4 := blk_frozen BK108.out 4
      go_wp2
      go_meet
      case rel => exact ⟨_, (true), (by first | rfl | (simp; done) | (simp [*]; done)), H', ⟨by first | omega | exact Nat.le_refl _⟩, ⟨by (with_reducible repeat (first | refine blk_drewN ?_ _ | refine blk_drew ?_ | refine blk_alloc ?_ _)); exact BK108.out⟩, ⟨by repeat (first | (with_reducible first | exact HB.out | apply below_alloc | apply pw_below_drewN | apply below_drew1 | refine below_set ?_ GE108.out) | exact HB.out)⟩⟩
    · rw [if_neg c4] at H
      have c4b0 : decide (a0_0 < 0) = false := decide_eq_false c4
      clear c4
      (first | rw [c4b0] | (simp only [i64_w, i32_w]; rw [c4b0]) | skip)
      by_cases c6 : a0_0 > 5
      · rw [if_pos c6] at H
        have c6b0 : decide (5 < a0_0) = true := decide_eq_true c6
        clear c6
        have H' := Aside0.mk H
        clear H
        have hcz7_0 : w3.cell? ⟨gb108, 0, none⟩ = some (.int .i64 a0_0) := (blk_cell BK108.out 0).trans rfl
        have hcz7_1 : w3.cell? ⟨gb108, 1, none⟩ = some (.int .i64 a0_1) := (blk_cell BK108.out 1).trans rfl
        have hcz7_2 : w3.cell? ⟨gb108, 2, none⟩ = some (.int .i64 a0_2) := (blk_cell BK108.out 2).trans rfl
        have hcz7_3 : w3.cell? ⟨gb108, 3, none⟩ = some (.int .i64 a0_3) := (blk_cell BK108.out 3).trans rfl
        have hcz7_4 : w3.cell? ⟨gb108, 4, none⟩ = some (.string a0_4) := (blk_cell BK108.out 4).trans rfl
        have hfz7_0 := blk_frozen BK108.out 0
        have hfz7_1 := blk_frozen BK108.out 1
        have hfz7_2 := blk_frozen BK108.out 2
        have hfz7_3 := blk_frozen BK108.out 3
        have hfz7_4 := blk_frozen BK108.out 4
        go_wp2
        go_meet
        case rel => exact ⟨_, (true), (by first | rfl | (simp; done) | (simp [*]; done)), H', ⟨by first | omega | exact Nat.le_refl _⟩, ⟨by (with_reducible repeat (first | refine blk_drewN ?_ _ | refine blk_drew ?_ | refine blk_alloc ?_ _)); exact BK108.out⟩, ⟨by repeat (first | (with_reducible first | exact HB.out | apply below_alloc | apply pw_below_drewN | apply below_drew1 | refine below_set ?_ GE108.out) | exact HB.out)⟩⟩
      · rw [if_neg c6] at H
        have c6b0 : decide (5 < a0_0) = false := decide_eq_false c6
        clear c6
        by_cases c8 : a0_1 < 0
        · rw [if_pos c8] at H
          have c8b0 : decide (a0_1 < 0) = true := decide_eq_true c8
          clear c8
          have H' := Aside0.mk H
          clear H
          have hcz9_0 : w3.cell? ⟨gb108, 0, none⟩ = some (.int .i64 a0_0) := (blk_cell BK108.out 0).trans rfl
          have hcz9_1 : w3.cell? ⟨gb108, 1, none⟩ = some (.int .i64 a0_1) := (blk_cell BK108.out 1).trans rfl
          have hcz9_2 : w3.cell? ⟨gb108, 2, none⟩ = some (.int .i64 a0_2) := (blk_cell BK108.out 2).trans rfl
          have hcz9_3 : w3.cell? ⟨gb108, 3, none⟩ = some (.int .i64 a0_3) := (blk_cell BK108.out 3).trans rfl
          have hcz9_4 : w3.cell? ⟨gb108, 4, none⟩ = some (.string a0_4) := (blk_cell BK108.out 4).trans rfl
          have hfz9_0 := blk_frozen BK108.out 0
          have hfz9_1 := blk_frozen BK108.out 1
          have hfz9_2 := blk_frozen BK108.out 2
          have hfz9_3 := blk_frozen BK108.out 3
          have hfz9_4 := blk_frozen BK108.out 4
          go_wp2
          go_meet
          case rel => exact ⟨_, (true), (by first | rfl | (simp; done) | (simp [*]; done)), H', ⟨by first | omega | exact Nat.le_refl _⟩, ⟨by (with_reducible repeat (first | refine blk_drewN ?_ _ | refine blk_drew ?_ | refine blk_alloc ?_ _)); exact BK108.out⟩, ⟨by repeat (first | (with_reducible first | exact HB.out | apply below_alloc | apply pw_below_drewN | apply below_drew1 | refine below_set ?_ GE108.out) | exact HB.out)⟩⟩
        · rw [if_neg c8] at H
          have c8b0 : decide (a0_1 < 0) = false := decide_eq_false c8
          clear c8
          by_cases c10 : a0_1 > 8
          · rw [if_pos c10] at H
            have c10b0 : decide (8 < a0_1) = true := decide_eq_true c10
            clear c10
            have H' := Aside0.mk H
            clear H
            have hcz11_0 : w3.cell? ⟨gb108, 0, none⟩ = some (.int .i64 a0_0) := (blk_cell BK108.out 0).trans rfl
            have hcz11_1 : w3.cell? ⟨gb108, 1, none⟩ = some (.int .i64 a0_1) := (blk_cell BK108.out 1).trans rfl
            have hcz11_2 : w3.cell? ⟨gb108, 2, none⟩ = some (.int .i64 a0_2) := (blk_cell BK108.out 2).trans rfl
            have hcz11_3 : w3.cell? ⟨gb108, 3, none⟩ = some (.int .i64 a0_3) := (blk_cell BK108.out 3).trans rfl
            have hcz11_4 : w3.cell? ⟨gb108, 4, none⟩ = some (.string a0_4) := (blk_cell BK108.out 4).trans rfl
            have hfz11_0 := blk_frozen BK108.out 0
            have hfz11_1 := blk_frozen BK108.out 1
            have hfz11_2 := blk_frozen BK108.out 2
            have hfz11_3 := blk_frozen BK108.out 3
            have hfz11_4 := blk_frozen BK108.out 4
            go_wp2
            go_meet
            case rel => exact ⟨_, (true), (by first | rfl | (simp; done) | (simp [*]; done)), H', ⟨by first | omega | exact Nat.le_refl _⟩, ⟨by (with_reducible repeat (first | refine blk_drewN ?_ _ | refine blk_drew ?_ | refine blk_alloc ?_ _)); exact BK108.out⟩, ⟨by repeat (first | (with_reducible first | exact HB.out | apply below_alloc | apply pw_below_drewN | apply below_drew1 | refine below_set ?_ GE108.out) | exact HB.out)⟩⟩
          · rw [if_neg c10] at H
            have c10b0 : decide (8 < a0_1) = false := decide_eq_false c10
            clear c10
            by_cases c12 : a0_2 < 0
            · rw [if_pos c12] at H
              have c12b0 : decide (a0_2 < 0) = true := decide_eq_true c12
              clear c12
              have H' := Aside0.mk H
              clear H
              have hcz13_0 : w3.cell? ⟨gb108, 0, none⟩ = some (.int .i64 a0_0) := (blk_cell BK108.out 0).trans rfl
              have hcz13_1 : w3.cell? ⟨gb108, 1, none⟩ = some (.int .i64 a0_1) := (blk_cell BK108.out 1).trans rfl
              have hcz13_2 : w3.cell? ⟨gb108, 2, none⟩ = some (.int .i64 a0_2) := (blk_cell BK108.out 2).trans rfl
              have hcz13_3 : w3.cell? ⟨gb108, 3, none⟩ = some (.int .i64 a0_3) := (blk_cell BK108.out 3).trans rfl
              have hcz13_4 : w3.cell? ⟨gb108, 4, none⟩ = some (.string a0_4) := (blk_cell BK108.out 4).trans rfl
              have hfz13_0 := blk_frozen BK108.out 0
              have hfz13_1 := blk_frozen BK108.out 1
              have hfz13_2 := blk_frozen BK108.out 2
              have hfz13_3 := blk_frozen BK108.out 3
              have hfz13_4 := blk_frozen BK108.out 4
              go_wp2
              go_meet
              case rel => exact ⟨_, (true), (by first | rfl | (simp; done) | (simp [*]; done)), H', ⟨by first | omega | exact Nat.le_refl _⟩, ⟨by (with_reducible repeat (first | refine blk_drewN ?_ _ | refine blk_drew ?_ | refine blk_alloc ?_ _)); exact BK108.out⟩, ⟨by repeat (first | (with_reducible first | exact HB.out | apply below_alloc | apply pw_below_drewN | apply below_drew1 | refine below_set ?_ GE108.out) | exact HB.out)⟩⟩
            · rw [if_neg c12] at H
              have c12b0 : decide (a0_2 < 0) = false := decide_eq_false c12
              clear c12
              have H' := Aside0.mk H
              clear H
              have hcz14_0 : w3.cell? ⟨gb108, 0, none⟩ = some (.int .i64 a0_0) := (blk_cell BK108.out 0).trans rfl
              have hcz14_1 : w3.cell? ⟨gb108, 1, none⟩ = some (.int .i64 a0_1) := (blk_cell BK108.out 1).trans rfl
              have hcz14_2 : w3.cell? ⟨gb108, 2, none⟩ = some (.int .i64 a0_2) := (blk_cell BK108.out 2).trans rfl
              have hcz14_3 : w3.cell? ⟨gb108, 3, none⟩ = some (.int .i64 a0_3) := (blk_cell BK108.out 3).trans rfl
              have hcz14_4 : w3.cell? ⟨gb108, 4, none⟩ = some (.string a0_4) := (blk_cell BK108.out 4).trans rfl
              have hfz14_0 := blk_frozen BK108.out 0
              have hfz14_1 := blk_frozen BK108.out 1
              have hfz14_2 := blk_frozen BK108.out 2
              have hfz14_3 := blk_frozen BK108.out 3
              have hfz14_4 := blk_frozen BK108.out 4
              go_wp2
              go_meet
              case rel => exact ⟨_, (decide (a0_2 > 1099511627776)), (by first | rfl | (simp; done) | (simp [*]; done)), H', ⟨by first | omega | exact Nat.le_refl _⟩, ⟨by (with_reducible repeat (first | refine blk_drewN ?_ _ | refine blk_drew ?_ | refine blk_alloc ?_ _)); exact BK108.out⟩, ⟨by repeat (first | (with_reducible first | exact HB.out | apply below_alloc | apply pw_below_drewN | apply below_drew1 | refine below_set ?_ GE108.out) | exact HB.out)⟩⟩
  case rest =>
    clear HC2
    try clear c1
    try clear p2
    try clear c3
    try clear c4
    try clear c4b0
    try clear c6
    try clear c6b0
    try clear c8
    try clear c8b0
    try clear c10
    try clear c10b0
    try clear c12
    try clear c12b0
    try clear hcz11_0
    try clear hcz11_1
    try clear hcz11_2
    try clear hcz11_3
    try clear hcz11_4
    try clear hcz13_0
    try clear hcz13_1
    try clear hcz13_2
    try clear hcz13_3
    try clear hcz13_4
    try clear hcz14_0
    try clear hcz14_1
    try clear hcz14_2
    try clear hcz14_3
    try clear hcz14_4
    try clear hcz5_0
    try clear hcz5_1
    try clear hcz5_2
    try clear hcz5_3
    try clear hcz5_4
    try clear hcz7_0
    try clear hcz7_1
    try clear hcz7_2
    try clear hcz7_3
    try clear hcz7_4
    try clear hcz9_0
    try clear hcz9_1
    try clear hcz9_2
    try clear hcz9_3
    try clear hcz9_4
    try clear hfz11_0
    try clear hfz11_1
    try clear hfz11_2
    try clear hfz11_3
    try clear hfz11_4
    try clear hfz13_0
    try clear hfz13_1
    try clear hfz13_2
    try clear hfz13_3
    try clear hfz13_4
    try clear hfz14_0
    try clear hfz14_1
    try clear hfz14_2
    try clear hfz14_3
    try clear hfz14_4
    try clear hfz5_0
    try clear hfz5_1
    try clear hfz5_2
    try clear hfz5_3
    try clear hfz5_4
    try clear hfz7_0
    try clear hfz7_1
    try clear hfz7_2
    try clear hfz7_3
    try clear hfz7_4
    try clear hfz9_0
    try clear hfz9_1
    try clear hfz9_2
    try clear hfz9_3
    try clear hfz9_4
    obtain ⟨kq, x30_1, rfl, HA, HJ1, BK108, HB⟩ := hcut
    cases kq with
    | zero => exact absurd HA.out (by simp [task_stands.j0])
    | succ kj1 =>
      have H := HA.out
      clear HA
      simp only [task_stands.j0] at H
      by_cases c15 : x30_1 = true
      · subst c15
        have H1 : (some false) = some r := by rw [if_pos rfl] at H; exact H
        clear H
        have H := H1
        clear H1
        obtain rfl := Option.some.inj H
        go_wp2
        go_ret
        exact ⟨by first | rfl | (simp [errW_none, errW_some] <;> rfl) | (simp [*, errW_none, errW_some] <;> rfl), by repeat (first | (with_reducible first | exact HB.out | apply below_alloc | apply pw_below_drewN | apply below_drew1 | refine below_set ?_ GE108.out) | exact HB.out)⟩
      · replace c15 := Bool.eq_false_iff.mpr c15
        subst c15
        have H1 : (if a0_3 < 0 then (some false) else (if a0_3 > 1099511627776 then (some false) else (if ((decide (a0_3 > 0)) != (a0_0 == 2)) = true then (some false) else (if (a0_4.size : Int) ≤ 16 then (if a0_4.toList = ([] : List UInt8) then (some true) else (some (a0_0 == 3))) else (some false))))) = some r := by rw [if_neg (show ¬ (false = true) by decide)] at H; exact H
        clear H
        have H := H1
        clear H1
        by_cases c16 : a0_3 < 0
        · rw [if_pos c16] at H
          have c16b0 : decide (a0_3 < 0) = true := decide_eq_true c16
          clear c16
          obtain rfl := Option.some.inj H
          have hcz17_0 : wc.cell? ⟨gb108, 0, none⟩ = some (.int .i64 a0_0) := (blk_cell BK108.out 0).trans rfl
          have hcz17_1 : wc.cell? ⟨gb108, 1, none⟩ = some (.int .i64 a0_1) := (blk_cell BK108.out 1).trans rfl
          have hcz17_2 : wc.cell? ⟨gb108, 2, none⟩ = some (.int .i64 a0_2) := (blk_cell BK108.out 2).trans rfl
          have hcz17_3 : wc.cell? ⟨gb108, 3, none⟩ = some (.int .i64 a0_3) := (blk_cell BK108.out 3).trans rfl
          have hcz17_4 : wc.cell? ⟨gb108, 4, none⟩ = some (.string a0_4) := (blk_cell BK108.out 4).trans rfl
          have hfz17_0 := blk_frozen BK108.out 0
          have hfz17_1 := blk_frozen BK108.out 1
          have hfz17_2 := blk_frozen BK108.out 2
          have hfz17_3 := blk_frozen BK108.out 3
          have hfz17_4 := blk_frozen BK108.out 4
          go_wp2
          go_ret
          exact ⟨by first | rfl | (simp [errW_none, errW_some] <;> rfl) | (simp [*, errW_none, errW_some] <;> rfl), by repeat (first | (with_reducible first | exact HB.out | apply below_alloc | apply pw_below_drewN | apply below_drew1 | refine below_set ?_ GE108.out) | exact HB.out)⟩
        · rw [if_neg c16] at H
          have c16b0 : decide (a0_3 < 0) = false := decide_eq_false c16
          clear c16
          by_cases c18 : a0_3 > 1099511627776
          · rw [if_pos c18] at H
            have c18b0 : decide (1099511627776 < a0_3) = true := decide_eq_true c18
            clear c18
            obtain rfl := Option.some.inj H
            have hcz19_0 : wc.cell? ⟨gb108, 0, none⟩ = some (.int .i64 a0_0) := (blk_cell BK108.out 0).trans rfl
            have hcz19_1 : wc.cell? ⟨gb108, 1, none⟩ = some (.int .i64 a0_1) := (blk_cell BK108.out 1).trans rfl
            have hcz19_2 : wc.cell? ⟨gb108, 2, none⟩ = some (.int .i64 a0_2) := (blk_cell BK108.out 2).trans rfl
            have hcz19_3 : wc.cell? ⟨gb108, 3, none⟩ = some (.int .i64 a0_3) := (blk_cell BK108.out 3).trans rfl
            have hcz19_4 : wc.cell? ⟨gb108, 4, none⟩ = some (.string a0_4) := (blk_cell BK108.out 4).trans rfl
            have hfz19_0 := blk_frozen BK108.out 0
            have hfz19_1 := blk_frozen BK108.out 1
            have hfz19_2 := blk_frozen BK108.out 2
            have hfz19_3 := blk_frozen BK108.out 3
            have hfz19_4 := blk_frozen BK108.out 4
            go_wp2
            go_ret
            exact ⟨by first | rfl | (simp [errW_none, errW_some] <;> rfl) | (simp [*, errW_none, errW_some] <;> rfl), by repeat (first | (with_reducible first | exact HB.out | apply below_alloc | apply pw_below_drewN | apply below_drew1 | refine below_set ?_ GE108.out) | exact HB.out)⟩
          · rw [if_neg c18] at H
            have c18b0 : decide (1099511627776 < a0_3) = false := decide_eq_false c18
            clear c18
            by_cases c20 : ((decide (a0_3 > 0)) != (a0_0 == 2)) = true
            · rw [if_pos c20] at H
              have c20b0 : ((decide (a0_3 > 0)) != (a0_0 == 2)) = true := c20
              (try (have c20b1 : decide ((decide (a0_3 > 0)) = (a0_0 == 2)) = false := by simpa using c20))
              (try (have c20b2 : ((decide (a0_3 > 0)) == (a0_0 == 2)) = false := by simpa using c20))
              (try (have c20b3 : ¬ ((decide (a0_3 > 0)) = (a0_0 == 2)) := by simpa using c20))
              clear c20
              obtain rfl := Option.some.inj H
              have hcz21_0 : wc.cell? ⟨gb108, 0, none⟩ = some (.int .i64 a0_0) := (blk_cell BK108.out 0).trans rfl
              have hcz21_1 : wc.cell? ⟨gb108, 1, none⟩ = some (.int .i64 a0_1) := (blk_cell BK108.out 1).trans rfl
              have hcz21_2 : wc.cell? ⟨gb108, 2, none⟩ = some (.int .i64 a0_2) := (blk_cell BK108.out 2).trans rfl
              have hcz21_3 : wc.cell? ⟨gb108, 3, none⟩ = some (.int .i64 a0_3) := (blk_cell BK108.out 3).trans rfl
              have hcz21_4 : wc.cell? ⟨gb108, 4, none⟩ = some (.string a0_4) := (blk_cell BK108.out 4).trans rfl
              have hfz21_0 := blk_frozen BK108.out 0
              have hfz21_1 := blk_frozen BK108.out 1
              have hfz21_2 := blk_frozen BK108.out 2
              have hfz21_3 := blk_frozen BK108.out 3
              have hfz21_4 := blk_frozen BK108.out 4
              go_wp2
              go_ret
              exact ⟨by first | rfl | (simp [errW_none, errW_some] <;> rfl) | (simp [*, errW_none, errW_some] <;> rfl), by repeat (first | (with_reducible first | exact HB.out | apply below_alloc | apply pw_below_drewN | apply below_drew1 | refine below_set ?_ GE108.out) | exact HB.out)⟩
            · rw [if_neg c20] at H
              have c20b0 : ((decide (a0_3 > 0)) != (a0_0 == 2)) = false := by simpa using c20
              (try (have c20b1 : decide ((decide (a0_3 > 0)) = (a0_0 == 2)) = true := by simpa using c20))
              (try (have c20b2 : ((decide (a0_3 > 0)) == (a0_0 == 2)) = true := by simpa using c20))
              clear c20
              by_cases c22 : (a0_4.size : Int) ≤ 16
              · rw [if_pos c22] at H
                have c22b0 : decide ((a0_4.size : Int) ≤ 16) = true := decide_eq_true c22
                have c22b1 : decide (a0_4.size ≤ 16) = true := decide_eq_true (by omega)
                clear c22
                by_cases c23 : a0_4.toList = ([] : List UInt8)
                · rw [if_pos c23] at H
                  have c23b0 : (a0_4.toList == ([] : List UInt8)) = true := beq_iff_eq.mpr c23
                  have c23b1 : (a0_4.toList != ([] : List UInt8)) = false := bne_eq_false_iff_eq.mpr c23
                  clear c23
                  obtain rfl := Option.some.inj H
                  have hcz24_0 : wc.cell? ⟨gb108, 0, none⟩ = some (.int .i64 a0_0) := (blk_cell BK108.out 0).trans rfl
                  have hcz24_1 : wc.cell? ⟨gb108, 1, none⟩ = some (.int .i64 a0_1) := (blk_cell BK108.out 1).trans rfl
                  have hcz24_2 : wc.cell? ⟨gb108, 2, none⟩ = some (.int .i64 a0_2) := (blk_cell BK108.out 2).trans rfl
                  have hcz24_3 : wc.cell? ⟨gb108, 3, none⟩ = some (.int .i64 a0_3) := (blk_cell BK108.out 3).trans rfl
                  have hcz24_4 : wc.cell? ⟨gb108, 4, none⟩ = some (.string a0_4) := (blk_cell BK108.out 4).trans rfl
                  have hfz24_0 := blk_frozen BK108.out 0
                  have hfz24_1 := blk_frozen BK108.out 1
                  have hfz24_2 := blk_frozen BK108.out 2
                  have hfz24_3 := blk_frozen BK108.out 3
                  have hfz24_4 := blk_frozen BK108.out 4
                  go_wp2
                  go_ret
                  exact ⟨by first | rfl | (simp [errW_none, errW_some] <;> rfl) | (simp [*, errW_none, errW_some] <;> rfl), by repeat (first | (with_reducible first | exact HB.out | apply below_alloc | apply pw_below_drewN | apply below_drew1 | refine below_set ?_ GE108.out) | exact HB.out)⟩
                · rw [if_neg c23] at H
                  have c23b0 : (a0_4.toList == ([] : List UInt8)) = false := beq_eq_false_iff_ne.mpr c23
                  have c23b1 : (a0_4.toList != ([] : List UInt8)) = true := bne_iff_ne.mpr c23
                  obtain rfl := Option.some.inj H
                  have hcz25_0 : wc.cell? ⟨gb108, 0, none⟩ = some (.int .i64 a0_0) := (blk_cell BK108.out 0).trans rfl
                  have hcz25_1 : wc.cell? ⟨gb108, 1, none⟩ = some (.int .i64 a0_1) := (blk_cell BK108.out 1).trans rfl
                  have hcz25_2 : wc.cell? ⟨gb108, 2, none⟩ = some (.int .i64 a0_2) := (blk_cell BK108.out 2).trans rfl
                  have hcz25_3 : wc.cell? ⟨gb108, 3, none⟩ = some (.int .i64 a0_3) := (blk_cell BK108.out 3).trans rfl
                  have hcz25_4 : wc.cell? ⟨gb108, 4, none⟩ = some (.string a0_4) := (blk_cell BK108.out 4).trans rfl
                  have hfz25_0 := blk_frozen BK108.out 0
                  have hfz25_1 := blk_frozen BK108.out 1
                  have hfz25_2 := blk_frozen BK108.out 2
                  have hfz25_3 := blk_frozen BK108.out 3
                  have hfz25_4 := blk_frozen BK108.out 4
                  go_wp2
                  go_ret
                  exact ⟨by first | rfl | (simp [errW_none, errW_some] <;> rfl) | (simp [*, errW_none, errW_some] <;> rfl), by repeat (first | (with_reducible first | exact HB.out | apply below_alloc | apply pw_below_drewN | apply below_drew1 | refine below_set ?_ GE108.out) | exact HB.out)⟩
              · rw [if_neg c22] at H
                have c22b0 : decide ((a0_4.size : Int) ≤ 16) = false := decide_eq_false c22
                have c22b1 : decide (a0_4.size ≤ 16) = false := decide_eq_false (by omega)
                clear c22
                obtain rfl := Option.some.inj H
                have hcz26_0 : wc.cell? ⟨gb108, 0, none⟩ = some (.int .i64 a0_0) := (blk_cell BK108.out 0).trans rfl
                have hcz26_1 : wc.cell? ⟨gb108, 1, none⟩ = some (.int .i64 a0_1) := (blk_cell BK108.out 1).trans rfl
                have hcz26_2 : wc.cell? ⟨gb108, 2, none⟩ = some (.int .i64 a0_2) := (blk_cell BK108.out 2).trans rfl
                have hcz26_3 : wc.cell? ⟨gb108, 3, none⟩ = some (.int .i64 a0_3) := (blk_cell BK108.out 3).trans rfl
                have hcz26_4 : wc.cell? ⟨gb108, 4, none⟩ = some (.string a0_4) := (blk_cell BK108.out 4).trans rfl
                have hfz26_0 := blk_frozen BK108.out 0
                have hfz26_1 := blk_frozen BK108.out 1
                have hfz26_2 := blk_frozen BK108.out 2
                have hfz26_3 := blk_frozen BK108.out 3
                have hfz26_4 := blk_frozen BK108.out 4
                go_wp2
                go_ret
                exact ⟨by first | rfl | (simp [errW_none, errW_some] <;> rfl) | (simp [*, errW_none, errW_some] <;> rfl), by repeat (first | (with_reducible first | exact HB.out | apply below_alloc | apply pw_below_drewN | apply below_drew1 | refine below_set ?_ GE108.out) | exact HB.out)⟩

end Go.Proofs.Ytmbpnggldpgcdaa.B
