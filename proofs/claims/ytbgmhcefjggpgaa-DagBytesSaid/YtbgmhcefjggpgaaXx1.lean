-- laid by a program of this session (wip/tools/xprint.py), function by function; Lean checks it
import Derived.Test.YtbgmhcefjggpgaaXx0
namespace Go.Proofs.Ytbgmhcefjggpgaa.X
open Go.RowKit Go.Proofs.YtbgmhcefjggpgaaW.PrintWords Go.Proofs.YtbgmhcefjggpgaaW.PrintLast Go.Proofs.YtbgmhcefjggpgaaW.PrintMore
attribute [local go_sem] max2_int min2_int max_two min_two max_three min_three max_four min_four   -- for this text's walks alone
set_option linter.unusedVariables false
set_option linter.unusedSimpArgs false

/-! ### peneloperef16_shaped: function 22 -/
mutual
def peneloperef16_shaped.j0 : Nat → Int → Bool → ByteArray → List (S39) → Option (Bool)
  | 0, _, _, _, _ => none
  | k + 1, x3, x24, x102000, x102001 => if x24 = true then (some false) else (peneloperef16_shaped.l0 k x3 x102001 (x102001.length : Int) 0)
def peneloperef16_shaped.l0 : Nat → Int → List (S39) → Int → Int → Option (Bool)
  | 0, _, _, _, _ => none
  | k + 1, x3, x26, x27, x28 => if x28 < x27 then (if 0 ≤ x28 then (if x28 < (x26.length : Int) then (peneloperef16_shaped.l1 k x3 x26 x27 x28 ((rd_T39 x26 x28).f0) (((rd_T39 x26 x28).f0).length : Int) 0 ((rd_T39 x26 x28).f0) ((rd_T39 x26 x28).f1) ((rd_T39 x26 x28).f2) ((rd_T39 x26 x28).f3)) else (none)) else (none)) else (some true)
def peneloperef16_shaped.l1 : Nat → Int → List (S39) → Int → Int → List Int → Int → Int → List Int → Int → Int → Int → Option (Bool)
  | 0, _, _, _, _, _, _, _, _, _, _, _ => none
  | k + 1, x3, x26, x27, x28, x33, x34, x35, x104000, x104001, x104002, x104003 => if x35 < x34 then (if 0 ≤ x35 then (if x35 < (x33.length : Int) then (if (rd x33 x35) < 0 then (some false) else (if (rd x33 x35) ≥ x3 then (some false) else (if x35 > 0 then (if 0 ≤ (wrap64 (x35 - 1)) then (if (wrap64 (x35 - 1)) < (x104000.length : Int) then (if (rd x33 x35) ≤ (rd x104000 (wrap64 (x35 - 1))) then (some false) else (peneloperef16_shaped.l1 k x3 x26 x27 x28 x33 x34 (wrap64 (x35 + 1)) x104000 x104001 x104002 x104003)) else (none)) else (none)) else (peneloperef16_shaped.l1 k x3 x26 x27 x28 x33 x34 (wrap64 (x35 + 1)) x104000 x104001 x104002 x104003)))) else (none)) else (none)) else (if x104001 < 1 then (some false) else (if x104001 > 8 then (some false) else (if x104002 < 0 then (some false) else (if x104002 > 1048576 then (some false) else (if x104003 < 1 then (some false) else (if x104003 > 1048576 then (some false) else (peneloperef16_shaped.l0 k x3 x26 x27 (wrap64 (x28 + 1)))))))))
end
def peneloperef16_shaped.f (k : Nat) (a0_0 : ByteArray) (l0_1 : List (S39)) : Option (Bool) := if (l0_1.length : Int) < 1 then (peneloperef16_shaped.j0 k (l0_1.length : Int) true a0_0 l0_1) else (if (a0_0.size : Int) < 1 then (peneloperef16_shaped.j0 k (l0_1.length : Int) true a0_0 l0_1) else (peneloperef16_shaped.j0 k (l0_1.length : Int) (decide ((a0_0.size : Int) > 16)) a0_0 l0_1))
theorem peneloperef16_shaped.mono_l : ∀ k, (∀ y0 y1 y2 y3, LeO (peneloperef16_shaped.j0 k y0 y1 y2 y3) (peneloperef16_shaped.j0 (k + 1) y0 y1 y2 y3)) ∧ (∀ y0 y1 y2 y3, LeO (peneloperef16_shaped.l0 k y0 y1 y2 y3) (peneloperef16_shaped.l0 (k + 1) y0 y1 y2 y3)) ∧ (∀ y0 y1 y2 y3 y4 y5 y6 y7 y8 y9 y10, LeO (peneloperef16_shaped.l1 k y0 y1 y2 y3 y4 y5 y6 y7 y8 y9 y10) (peneloperef16_shaped.l1 (k + 1) y0 y1 y2 y3 y4 y5 y6 y7 y8 y9 y10))
  | 0 => ⟨fun _ _ _ _ r h => by simp [peneloperef16_shaped.j0] at h, fun _ _ _ _ r h => by simp [peneloperef16_shaped.l0] at h, fun _ _ _ _ _ _ _ _ _ _ _ r h => by simp [peneloperef16_shaped.l1] at h⟩
  | k + 1 => by
    obtain ⟨ih0, ih1, ih2⟩ := peneloperef16_shaped.mono_l k
    refine ⟨?_, ?_, ?_⟩
    · intro y0 y1 y2 y3
      unfold peneloperef16_shaped.j0
      repeat' first
      | (with_reducible exact ih0 _ _ _ _)
      | (with_reducible exact ih1 _ _ _ _)
      | (with_reducible exact ih2 _ _ _ _ _ _ _ _ _ _ _)
      | (with_reducible exact LeO.refl _)
      | (with_reducible exact LeO.none _)
      | (with_reducible refine LeO.ite ?_ ?_)
      | (with_reducible refine LeO.bind ?_ (fun _ => ?_))
      | exact ih0 _ _ _ _
      | exact ih1 _ _ _ _
      | exact ih2 _ _ _ _ _ _ _ _ _ _ _
      | exact LeO.none _
      | refine LeO.ite ?_ ?_
      | refine LeO.bind ?_ (fun _ => ?_)
    · intro y0 y1 y2 y3
      unfold peneloperef16_shaped.l0
      repeat' first
      | (with_reducible exact ih0 _ _ _ _)
      | (with_reducible exact ih1 _ _ _ _)
      | (with_reducible exact ih2 _ _ _ _ _ _ _ _ _ _ _)
      | (with_reducible exact LeO.refl _)
      | (with_reducible exact LeO.none _)
      | (with_reducible refine LeO.ite ?_ ?_)
      | (with_reducible refine LeO.bind ?_ (fun _ => ?_))
      | exact ih0 _ _ _ _
      | exact ih1 _ _ _ _
      | exact ih2 _ _ _ _ _ _ _ _ _ _ _
      | exact LeO.none _
      | refine LeO.ite ?_ ?_
      | refine LeO.bind ?_ (fun _ => ?_)
    · intro y0 y1 y2 y3 y4 y5 y6 y7 y8 y9 y10
      unfold peneloperef16_shaped.l1
      repeat' first
      | (with_reducible exact ih0 _ _ _ _)
      | (with_reducible exact ih1 _ _ _ _)
      | (with_reducible exact ih2 _ _ _ _ _ _ _ _ _ _ _)
      | (with_reducible exact LeO.refl _)
      | (with_reducible exact LeO.none _)
      | (with_reducible refine LeO.ite ?_ ?_)
      | (with_reducible refine LeO.bind ?_ (fun _ => ?_))
      | exact ih0 _ _ _ _
      | exact ih1 _ _ _ _
      | exact ih2 _ _ _ _ _ _ _ _ _ _ _
      | exact LeO.none _
      | refine LeO.ite ?_ ?_
      | refine LeO.bind ?_ (fun _ => ?_)
theorem peneloperef16_shaped.mono : ∀ a0 a1 k, LeO (peneloperef16_shaped.f k a0 a1) (peneloperef16_shaped.f (k + 1) a0 a1) := by
  intro a0 a1 k
  obtain ⟨ih0, ih1, ih2⟩ := peneloperef16_shaped.mono_l k
  unfold peneloperef16_shaped.f
  repeat' first
      | (with_reducible exact ih0 _ _ _ _)
      | (with_reducible exact ih1 _ _ _ _)
      | (with_reducible exact ih2 _ _ _ _ _ _ _ _ _ _ _)
      | (with_reducible exact LeO.refl _)
      | (with_reducible exact LeO.none _)
      | (with_reducible refine LeO.ite ?_ ?_)
      | (with_reducible refine LeO.bind ?_ (fun _ => ?_))
      | exact ih0 _ _ _ _
      | exact ih1 _ _ _ _
      | exact ih2 _ _ _ _ _ _ _ _ _ _ _
      | exact LeO.none _
      | refine LeO.ite ?_ ?_
      | refine LeO.bind ?_ (fun _ => ?_)
set_option maxHeartbeats 8000000 in
set_option maxRecDepth 100000 in
theorem peneloperef16_shaped.calls (k : Nat) (a0_0 : ByteArray) (A0_1 : Option Addr) (c0_1 : Nat) (l0_1 : List (S39)) (r : Bool) (w : World) (hr0_1 : Kd.C k39 w A0_1 l0_1.length l0_1) (hc0_1 : l0_1.length ≤ c0_1) (h : peneloperef16_shaped.f k a0_0 l0_1 = some r) :
    Calls Try.prog 22 #[.agg #[.string a0_0, .slice A0_1 l0_1.length c0_1]] w fun e w' => e = .returned (.bool r) ∧ Below w.heap.size w w' := by
  have hu24 := Try.underlying24
  have hu39 := Try.underlying39
  have HR0_1 := Aside0.mk hr0_1
  have HC0_1 := Aside0.mk hc0_1
  clear hr0_1 hc0_1
  have HB := Aside0.mk (Below.refl w.heap.size w)
  have H : (if (l0_1.length : Int) < 1 then (peneloperef16_shaped.j0 k (l0_1.length : Int) true a0_0 l0_1) else (if (a0_0.size : Int) < 1 then (peneloperef16_shaped.j0 k (l0_1.length : Int) true a0_0 l0_1) else (peneloperef16_shaped.j0 k (l0_1.length : Int) (decide ((a0_0.size : Int) > 16)) a0_0 l0_1))) = some r := h
  clear h
  have HC2 := Aside0.mk H
  clear H
  go_enter Try.func22, Try.ntmps22
  go_upto_region 2 with (first | ((with_reducible refine gate_dst (N := 1) rfl ?_); (try (refine gate_guard (by rfl) ?_; dsimp only)); refine box_event ?hg (N := 1) ?hd (cs := #[.string a0_0, .slice A0_1 l0_1.length c0_1]) (t := 24) ?hr ?_; (case hd => rfl); (case hg => rfl); (case hr => first | (go_simp; done) | (go_simp; rfl)); intro gb101 hg w3 hbox hb; have n0_ := Aside0.mk (below_step (by repeat (first | (with_reducible first | exact HB.out | apply below_alloc | apply pw_below_drewN | apply below_drew1) | exact HB.out)) hb); have n1_ := Aside0.mk (hbox); have n2_ := Aside0.mk ((by rw [hg]; exact (below_size (by repeat (first | (with_reducible first | exact HB.out | apply below_alloc | apply pw_below_drewN | apply below_drew1) | exact HB.out))) : w.heap.size ≤ gb101)); have n3_ := Aside0.mk ((by rw [hg]; exact (below_size (by repeat (first | (with_reducible first | exact HB.out | apply below_alloc | apply pw_below_drewN | apply below_drew1) | exact HB.out))) : w.heap.size ≤ gb101)); clear HB; have HB := n0_; have BK101 := n1_; have GW101 := n2_; have GE101 := n3_; clear n0_ n1_ n2_ n3_; clear hb hbox hg; have hcz4_0 : w3.cell? ⟨gb101, 0, none⟩ = some (.string a0_0) := (blk_cell BK101.out 0).trans rfl; have hcz4_1 : w3.cell? ⟨gb101, 1, none⟩ = some (.slice A0_1 l0_1.length c0_1) := (blk_cell BK101.out 1).trans rfl; have hfz4_0 := blk_frozen BK101.out 0; have hfz4_1 := blk_frozen BK101.out 1))
  (try simp only [Act.put, List.setIfInBounds_toArray, List.set_cons_zero, List.set_cons_succ])
  go_cut [24] (fun v24 wc => ∃ (kq : Nat) (x24_1 : Bool), v24 = .bool x24_1 ∧ Aside0 (peneloperef16_shaped.j0 kq (l0_1.length : Int) x24_1 a0_0 l0_1 = some r) ∧ Aside0 (kq ≤ k) ∧ Aside0 (wc.heap[gb101]? = some (.cells #[.string a0_0, (.slice A0_1 l0_1.length c0_1)] 24 (0, 0))) ∧ Aside0 (Below w.heap.size w wc))
  case first =>
    have H := HC2.out
    clear HC2
    by_cases c5 : (l0_1.length : Int) < 1
    · rw [if_pos c5] at H
      have c5b0 : decide ((l0_1.length : Int) < 1) = true := decide_eq_true c5
      have c5b1 : decide (l0_1.length < 1) = true := decide_eq_true (by omega)
      clear c5
      (first | rw [c5b0] | (simp only [i64_w, i32_w]; rw [c5b0]) | skip)
      have H' := Aside0.mk H
      clear H
      go_wp2
      go_meet
      case rel => exact ⟨_, (true), (by first | rfl | (simp; done) | (simp [*]; done)), H', ⟨by first | omega | exact Nat.le_refl _⟩, ⟨by (with_reducible repeat (first | refine blk_drewN ?_ _ | refine blk_drew ?_ | refine blk_alloc ?_ _)); exact BK101.out⟩, ⟨by repeat (first | (with_reducible first | exact HB.out | apply below_alloc | apply pw_below_drewN | apply below_drew1 | refine below_set ?_ GE101.out) | exact HB.out)⟩⟩
    · rw [if_neg c5] at H
      have c5b0 : decide ((l0_1.length : Int) < 1) = false := decide_eq_false c5
      have c5b1 : decide (l0_1.length < 1) = false := decide_eq_false (by omega)
      clear c5
      (first | rw [c5b0] | (simp only [i64_w, i32_w]; rw [c5b0]) | skip)
      by_cases c6 : (a0_0.size : Int) < 1
      · rw [if_pos c6] at H
        have c6b0 : decide ((a0_0.size : Int) < 1) = true := decide_eq_true c6
        have c6b1 : decide (a0_0.size < 1) = true := decide_eq_true (by omega)
        clear c6
        have H' := Aside0.mk H
        clear H
        have hcz7_0 : w3.cell? ⟨gb101, 0, none⟩ = some (.string a0_0) := (blk_cell BK101.out 0).trans rfl
        have hcz7_1 : w3.cell? ⟨gb101, 1, none⟩ = some (.slice A0_1 l0_1.length c0_1) := (blk_cell BK101.out 1).trans rfl
        have hfz7_0 := blk_frozen BK101.out 0
        have hfz7_1 := blk_frozen BK101.out 1
        go_wp2
        go_meet
        case rel => exact ⟨_, (true), (by first | rfl | (simp; done) | (simp [*]; done)), H', ⟨by first | omega | exact Nat.le_refl _⟩, ⟨by (with_reducible repeat (first | refine blk_drewN ?_ _ | refine blk_drew ?_ | refine blk_alloc ?_ _)); exact BK101.out⟩, ⟨by repeat (first | (with_reducible first | exact HB.out | apply below_alloc | apply pw_below_drewN | apply below_drew1 | refine below_set ?_ GE101.out) | exact HB.out)⟩⟩
      · rw [if_neg c6] at H
        have c6b0 : decide ((a0_0.size : Int) < 1) = false := decide_eq_false c6
        have c6b1 : decide (a0_0.size < 1) = false := decide_eq_false (by omega)
        clear c6
        have H' := Aside0.mk H
        clear H
        have hcz8_0 : w3.cell? ⟨gb101, 0, none⟩ = some (.string a0_0) := (blk_cell BK101.out 0).trans rfl
        have hcz8_1 : w3.cell? ⟨gb101, 1, none⟩ = some (.slice A0_1 l0_1.length c0_1) := (blk_cell BK101.out 1).trans rfl
        have hfz8_0 := blk_frozen BK101.out 0
        have hfz8_1 := blk_frozen BK101.out 1
        go_wp2
        go_meet
        case rel => exact ⟨_, (decide ((a0_0.size : Int) > 16)), (by first | rfl | (simp; done) | (simp [*]; done)), H', ⟨by first | omega | exact Nat.le_refl _⟩, ⟨by (with_reducible repeat (first | refine blk_drewN ?_ _ | refine blk_drew ?_ | refine blk_alloc ?_ _)); exact BK101.out⟩, ⟨by repeat (first | (with_reducible first | exact HB.out | apply below_alloc | apply pw_below_drewN | apply below_drew1 | refine below_set ?_ GE101.out) | exact HB.out)⟩⟩
  case rest =>
    clear HC2
    try clear c2
    try clear p2
    try clear c5
    try clear c5b0
    try clear c5b1
    try clear c6
    try clear c6b0
    try clear c6b1
    try clear hcz4_0
    try clear hcz4_1
    try clear hcz7_0
    try clear hcz7_1
    try clear hcz8_0
    try clear hcz8_1
    try clear hfz4_0
    try clear hfz4_1
    try clear hfz7_0
    try clear hfz7_1
    try clear hfz8_0
    try clear hfz8_1
    obtain ⟨kq, x24_1, rfl, HA, HJ1, BK101, HB⟩ := hcut
    cases kq with
    | zero => exact absurd HA.out (by simp [peneloperef16_shaped.j0])
    | succ kj1 =>
      have H := HA.out
      clear HA
      simp only [peneloperef16_shaped.j0] at H
      by_cases c9 : x24_1 = true
      · subst c9
        have H1 : (some false) = some r := by rw [if_pos rfl] at H; exact H
        clear H
        have H := H1
        clear H1
        obtain rfl := Option.some.inj H
        go_wp2
        go_ret
        exact ⟨by first | rfl | (simp [errW_none, errW_some] <;> rfl) | (simp [*, errW_none, errW_some] <;> rfl), by repeat (first | (with_reducible first | exact HB.out | apply below_alloc | apply pw_below_drewN | apply below_drew1 | refine below_set ?_ GE101.out) | exact HB.out)⟩
      · replace c9 := Bool.eq_false_iff.mpr c9
        subst c9
        have H1 : (peneloperef16_shaped.l0 kj1 (l0_1.length : Int) l0_1 (l0_1.length : Int) 0) = some r := by rw [if_neg (show ¬ (false = true) by decide)] at H; exact H
        clear H
        have H := H1
        clear H1
        have H' := Aside0.mk H
        clear H
        have hcz10_0 : wc.cell? ⟨gb101, 0, none⟩ = some (.string a0_0) := (blk_cell BK101.out 0).trans rfl
        have hcz10_1 : wc.cell? ⟨gb101, 1, none⟩ = some (.slice A0_1 l0_1.length c0_1) := (blk_cell BK101.out 1).trans rfl
        have hfz10_0 := blk_frozen BK101.out 0
        have hfz10_1 := blk_frozen BK101.out 1
        go_wp2
        go_loopg [28] kj1 (fun kq v28 w' => ∃ (x28_2 : Int), v28 = .int .i64 x28_2 ∧ Aside0 (peneloperef16_shaped.l0 kq (l0_1.length : Int) l0_1 (l0_1.length : Int) x28_2 = some r) ∧ Aside0 (kq ≤ kj1) ∧ Aside0 (w'.heap[gb101]? = some (.cells #[.string a0_0, (.slice A0_1 l0_1.length c0_1)] 24 (0, 0))) ∧ Aside0 (Below w.heap.size w w'))
        case atStart => exact ⟨(0), (by first | rfl | (simp; done) | (simp [*]; done)), H', ⟨Nat.le_refl _⟩, ⟨by (with_reducible repeat (first | refine blk_drewN ?_ _ | refine blk_drew ?_ | refine blk_alloc ?_ _)); exact BK101.out⟩, ⟨by repeat (first | (with_reducible first | exact HB.out | apply below_alloc | apply pw_below_drewN | apply below_drew1 | refine below_set ?_ GE101.out) | exact HB.out)⟩⟩
        case round =>
          clear H'
          try clear c2
          try clear p2
          try clear c5
          try clear c5b0
          try clear c5b1
          try clear c6
          try clear c6b0
          try clear c6b1
          try clear c9
          try clear hcz10_0
          try clear hcz10_1
          try clear hcz4_0
          try clear hcz4_1
          try clear hcz7_0
          try clear hcz7_1
          try clear hcz8_0
          try clear hcz8_1
          try clear hfz10_0
          try clear hfz10_1
          try clear hfz4_0
          try clear hfz4_1
          try clear hfz7_0
          try clear hfz7_1
          try clear hfz8_0
          try clear hfz8_1
          try clear p2
          obtain ⟨x28_2, rfl, HA, HK2, BK101, HB⟩ := hrel
          cases gk with
          | zero => exact absurd HA.out (by simp [peneloperef16_shaped.l0])
          | succ k2 =>
            have H := HA.out
            clear HA
            simp only [peneloperef16_shaped.l0] at H
            by_cases c11 : x28_2 < (l0_1.length : Int)
            · rw [if_pos c11] at H
              have c11b0 : decide (x28_2 < (l0_1.length : Int)) = true := decide_eq_true c11
              clear c11
              by_cases c12 : 0 ≤ x28_2
              · rw [if_pos c12] at H
                have c12b0 : decide (0 ≤ x28_2) = true := decide_eq_true c12
                clear c12
                by_cases c13 : x28_2 < (l0_1.length : Int)
                · rw [if_pos c13] at H
                  have c13b0 : decide (x28_2 < (l0_1.length : Int)) = true := decide_eq_true c13
                  clear c13
                  have H' := Aside0.mk H
                  clear H
                  have p102 : 0 ≤ (x28_2 : Int) := of_decide_eq_true (by first | (with_reducible assumption) | assumption)
                  have q102 : x28_2 < (l0_1.length : Int) := of_decide_eq_true (by first | (with_reducible assumption) | assumption)
                  obtain ⟨ad102, A102_0, c102_0, e102, hx102_0, hx102_1, hx102_2, hx102_3, hl102_0, hi102_0⟩ := at_T39 HR0_1.out x28_2 p102 q102
                  cases e102
                  replace hx102_0 := (HB.out.cell (World.block_lt_of_cell? w _ hx102_0)).trans hx102_0
                  replace hx102_1 := (HB.out.cell (World.block_lt_of_cell? w _ hx102_1)).trans hx102_1
                  replace hx102_2 := (HB.out.cell (World.block_lt_of_cell? w _ hx102_2)).trans hx102_2
                  replace hx102_3 := (HB.out.cell (World.block_lt_of_cell? w _ hx102_3)).trans hx102_3
                  have HR102_0 := Aside0.mk hi102_0
                  have HC102_0 := Aside0.mk hl102_0
                  clear hi102_0 hl102_0
                  replace p102 := eq_true p102
                  replace q102 := eq_true q102
                  go_wp2_with (first | ((with_reducible refine gate_dst (N := 5) rfl ?_); (try (refine gate_guard (by rfl) ?_; dsimp only)); refine box_event ?hg (N := 5) ?hd (cs := #[.slice none 0 0, .int .i64 0, .int .i64 0, .int .i64 0]) (t := 39) ?hr ?_; (case hd => rfl); (case hg => rfl); (case hr => first | (go_simp; done) | (go_simp; rfl)); intro gb103 hg w14 hbox hb; have n0_ := Aside0.mk (blk_below (g := gb101) (o := .cells #[.string a0_0, .slice (some ad102) l0_1.length c0_1] 24 (0, 0)) (by (with_reducible repeat (first | refine blk_drewN ?_ _ | refine blk_drew ?_ | refine blk_alloc ?_ _)); exact BK101.out) hb); have n1_ := Aside0.mk (below_step (by repeat (first | (with_reducible first | exact HB.out | apply below_alloc | apply pw_below_drewN | apply below_drew1 | refine below_set ?_ GE101.out) | exact HB.out)) hb); have n2_ := Aside0.mk (hbox); have n3_ := Aside0.mk ((by rw [hg]; exact (below_size (by repeat (first | (with_reducible first | exact HB.out | apply below_alloc | apply pw_below_drewN | apply below_drew1 | refine below_set ?_ GE101.out) | exact HB.out))) : w.heap.size ≤ gb103)); have n4_ := Aside0.mk ((by rw [hg]; exact (below_size (by repeat (first | (with_reducible first | exact HB.out | apply below_alloc | apply pw_below_drewN | apply below_drew1 | refine below_set ?_ GE101.out) | exact HB.out))) : w.heap.size ≤ gb103)); have n5_ := Aside0.mk ((by rw [hg]; exact Nat.ne_of_lt (blk_lt (g := gb101) (o := .cells #[.string a0_0, .slice (some ad102) l0_1.length c0_1] 24 (0, 0)) (by (with_reducible repeat (first | refine blk_drewN ?_ _ | refine blk_drew ?_ | refine blk_alloc ?_ _)); exact BK101.out)) : gb101 ≠ gb103)); have n6_ := Aside0.mk ((by rw [hg]; exact Nat.ne_of_gt (blk_lt (g := gb101) (o := .cells #[.string a0_0, .slice (some ad102) l0_1.length c0_1] 24 (0, 0)) (by (with_reducible repeat (first | refine blk_drewN ?_ _ | refine blk_drew ?_ | refine blk_alloc ?_ _)); exact BK101.out)) : gb103 ≠ gb101)); clear BK101; clear HB; have BK101 := n0_; have HB := n1_; have BK103 := n2_; have GW103 := n3_; have GE103 := n4_; have NB101_103 := n5_; have NB103_101 := n6_; clear n0_ n1_ n2_ n3_ n4_ n5_ n6_; clear hb hbox hg; have hnb15 := NB103_101.out; have hnc15 := NB101_103.out; have hcz16_0 : w14.cell? ⟨gb103, 0, none⟩ = some (.slice none 0 0) := (blk_cell BK103.out 0).trans rfl; have hcz16_1 : w14.cell? ⟨gb103, 1, none⟩ = some (.int .i64 0) := (blk_cell BK103.out 1).trans rfl; have hcz16_2 : w14.cell? ⟨gb103, 2, none⟩ = some (.int .i64 0) := (blk_cell BK103.out 2).trans rfl; have hcz16_3 : w14.cell? ⟨gb103, 3, none⟩ = some (.int .i64 0) := (blk_cell BK103.out 3).trans rfl; have hfz16_0 := blk_frozen BK103.out 0; have hfz16_1 := blk_frozen BK103.out 1; have hfz16_2 := blk_frozen BK103.out 2; have hfz16_3 := blk_frozen BK103.out 3))
                  go_loopg [35] k2 (fun kq v35 w' => ∃ (x35_3 : Int), v35 = .int .i64 x35_3 ∧ Aside0 (peneloperef16_shaped.l1 kq (l0_1.length : Int) l0_1 (l0_1.length : Int) x28_2 ((rd_T39 l0_1 x28_2).f0) (((rd_T39 l0_1 x28_2).f0).length : Int) x35_3 ((rd_T39 l0_1 x28_2).f0) ((rd_T39 l0_1 x28_2).f1) ((rd_T39 l0_1 x28_2).f2) ((rd_T39 l0_1 x28_2).f3) = some r) ∧ Aside0 (kq ≤ k2) ∧ Aside0 (w'.heap[gb101]? = some (.cells #[.string a0_0, (.slice (some ad102) l0_1.length c0_1)] 24 (0, 0))) ∧ Aside0 (w'.heap[gb103]? = some (.cells #[(.slice A102_0 ((rd_T39 l0_1 x28_2).f0).length c102_0), .int .i64 ((rd_T39 l0_1 x28_2).f1), .int .i64 ((rd_T39 l0_1 x28_2).f2), .int .i64 ((rd_T39 l0_1 x28_2).f3)] 39 (0, 0))) ∧ Aside0 (Below w.heap.size w w'))
                  case atStart => exact ⟨(0), (by first | rfl | (simp; done) | (simp [*]; done)), H', ⟨Nat.le_refl _⟩, ⟨by (with_reducible repeat (first | refine blk_drewN ?_ _ | refine blk_drew ?_ | refine blk_alloc ?_ _)); refine blk_far ?_ NB101_103.out _; (with_reducible repeat (first | refine blk_drewN ?_ _ | refine blk_drew ?_ | refine blk_alloc ?_ _)); refine blk_far ?_ NB101_103.out _; (with_reducible repeat (first | refine blk_drewN ?_ _ | refine blk_drew ?_ | refine blk_alloc ?_ _)); refine blk_far ?_ NB101_103.out _; (with_reducible repeat (first | refine blk_drewN ?_ _ | refine blk_drew ?_ | refine blk_alloc ?_ _)); refine blk_far ?_ NB101_103.out _; (with_reducible repeat (first | refine blk_drewN ?_ _ | refine blk_drew ?_ | refine blk_alloc ?_ _)); exact BK101.out⟩, ⟨by (with_reducible repeat (first | refine blk_drewN ?_ _ | refine blk_drew ?_ | refine blk_alloc ?_ _)); refine blk_put (cs := #[.slice A102_0 ((rd_T39 l0_1 x28_2).f0).length c102_0, .int .i64 ((rd_T39 l0_1 x28_2).f1), .int .i64 ((rd_T39 l0_1 x28_2).f2), .int .i64 0]) ?_ 3 _ rfl; (with_reducible repeat (first | refine blk_drewN ?_ _ | refine blk_drew ?_ | refine blk_alloc ?_ _)); refine blk_put (cs := #[.slice A102_0 ((rd_T39 l0_1 x28_2).f0).length c102_0, .int .i64 ((rd_T39 l0_1 x28_2).f1), .int .i64 0, .int .i64 0]) ?_ 2 _ rfl; (with_reducible repeat (first | refine blk_drewN ?_ _ | refine blk_drew ?_ | refine blk_alloc ?_ _)); refine blk_put (cs := #[.slice A102_0 ((rd_T39 l0_1 x28_2).f0).length c102_0, .int .i64 0, .int .i64 0, .int .i64 0]) ?_ 1 _ rfl; (with_reducible repeat (first | refine blk_drewN ?_ _ | refine blk_drew ?_ | refine blk_alloc ?_ _)); refine blk_put (cs := #[.slice none 0 0, .int .i64 0, .int .i64 0, .int .i64 0]) ?_ 0 _ rfl; (with_reducible repeat (first | refine blk_drewN ?_ _ | refine blk_drew ?_ | refine blk_alloc ?_ _)); exact BK103.out⟩, ⟨by repeat (first | (with_reducible first | exact HB.out | apply below_alloc | apply pw_below_drewN | apply below_drew1 | refine below_set ?_ GE101.out | refine below_set ?_ GE103.out) | exact HB.out)⟩⟩
                  case round =>
                    clear H'
                    try clear c1
                    try clear p1
                    try clear q1
                    try clear hx1
                    try clear c2
                    try clear p2
                    try clear c5
                    try clear c5b0
                    try clear c5b1
                    try clear c6
                    try clear c6b0
                    try clear c6b1
                    try clear c9
                    try clear c10
                    try clear p10
                    try clear q10
                    try clear hx10
                    try clear c11
                    try clear c11b0
                    try clear c12
                    try clear c12b0
                    try clear c13
                    try clear c13b0
                    try clear c15
                    try clear hcz10_0
                    try clear hcz10_1
                    try clear hcz16_0
                    try clear hcz16_1
                    try clear hcz16_2
                    try clear hcz16_3
                    try clear hcz4_0
                    try clear hcz4_1
                    try clear hcz7_0
                    try clear hcz7_1
                    try clear hcz8_0
                    try clear hcz8_1
                    try clear hfz10_0
                    try clear hfz10_1
                    try clear hfz16_0
                    try clear hfz16_1
                    try clear hfz16_2
                    try clear hfz16_3
                    try clear hfz4_0
                    try clear hfz4_1
                    try clear hfz7_0
                    try clear hfz7_1
                    try clear hfz8_0
                    try clear hfz8_1
                    try clear hx102_0
                    try clear hx102_1
                    try clear hx102_2
                    try clear hx102_3
                    try clear p102
                    try clear p2
                    try clear q102
                    obtain ⟨x35_3, rfl, HA, HK3, BK101, BK103, HB⟩ := hrel
                    cases gk with
                    | zero => exact absurd HA.out (by simp [peneloperef16_shaped.l1])
                    | succ k3 =>
                      have H := HA.out
                      clear HA
                      simp only [peneloperef16_shaped.l1] at H
                      by_cases c17 : x35_3 < (((rd_T39 l0_1 x28_2).f0).length : Int)
                      · rw [if_pos c17] at H
                        have c17b0 : decide (x35_3 < (((rd_T39 l0_1 x28_2).f0).length : Int)) = true := decide_eq_true c17
                        clear c17
                        by_cases c18 : 0 ≤ x35_3
                        · rw [if_pos c18] at H
                          have c18b0 : decide (0 ≤ x35_3) = true := decide_eq_true c18
                          clear c18
                          by_cases c19 : x35_3 < (((rd_T39 l0_1 x28_2).f0).length : Int)
                          · rw [if_pos c19] at H
                            have c19b0 : decide (x35_3 < (((rd_T39 l0_1 x28_2).f0).length : Int)) = true := decide_eq_true c19
                            clear c19
                            by_cases c20 : (rd ((rd_T39 l0_1 x28_2).f0) x35_3) < 0
                            · rw [if_pos c20] at H
                              have c20b0 : decide ((rd ((rd_T39 l0_1 x28_2).f0) x35_3) < 0) = true := decide_eq_true c20
                              clear c20
                              obtain rfl := Option.some.inj H
                              have p104 : 0 ≤ (x35_3 : Int) := of_decide_eq_true (by first | (with_reducible assumption) | assumption)
                              have q104 : x35_3 < (((rd_T39 l0_1 x28_2).f0).length : Int) := of_decide_eq_true (by first | (with_reducible assumption) | assumption)
                              obtain ⟨ad104, e104, hx104_0⟩ := Kd.at_int HR102_0.out x35_3 p104 q104
                              cases e104
                              replace hx104_0 := (HB.out.cell (World.block_lt_of_cell? w _ hx104_0)).trans hx104_0
                              replace p104 := eq_true p104
                              replace q104 := eq_true q104
                              go_wp2
                              go_ret
                              exact ⟨by first | rfl | (simp [errW_none, errW_some] <;> rfl) | (simp [*, errW_none, errW_some] <;> rfl), by repeat (first | (with_reducible first | exact HB.out | apply below_alloc | apply pw_below_drewN | apply below_drew1 | refine below_set ?_ GE101.out | refine below_set ?_ GE103.out) | exact HB.out)⟩
                            · rw [if_neg c20] at H
                              have c20b0 : decide ((rd ((rd_T39 l0_1 x28_2).f0) x35_3) < 0) = false := decide_eq_false c20
                              clear c20
                              by_cases c21 : (rd ((rd_T39 l0_1 x28_2).f0) x35_3) ≥ (l0_1.length : Int)
                              · rw [if_pos c21] at H
                                have c21b0 : decide ((l0_1.length : Int) ≤ (rd ((rd_T39 l0_1 x28_2).f0) x35_3)) = true := decide_eq_true c21
                                clear c21
                                obtain rfl := Option.some.inj H
                                have p104 : 0 ≤ (x35_3 : Int) := of_decide_eq_true (by first | (with_reducible assumption) | assumption)
                                have q104 : x35_3 < (((rd_T39 l0_1 x28_2).f0).length : Int) := of_decide_eq_true (by first | (with_reducible assumption) | assumption)
                                obtain ⟨ad104, e104, hx104_0⟩ := Kd.at_int HR102_0.out x35_3 p104 q104
                                cases e104
                                replace hx104_0 := (HB.out.cell (World.block_lt_of_cell? w _ hx104_0)).trans hx104_0
                                replace p104 := eq_true p104
                                replace q104 := eq_true q104
                                go_wp2
                                go_ret
                                exact ⟨by first | rfl | (simp [errW_none, errW_some] <;> rfl) | (simp [*, errW_none, errW_some] <;> rfl), by repeat (first | (with_reducible first | exact HB.out | apply below_alloc | apply pw_below_drewN | apply below_drew1 | refine below_set ?_ GE101.out | refine below_set ?_ GE103.out) | exact HB.out)⟩
                              · rw [if_neg c21] at H
                                have c21b0 : decide ((l0_1.length : Int) ≤ (rd ((rd_T39 l0_1 x28_2).f0) x35_3)) = false := decide_eq_false c21
                                clear c21
                                by_cases c22 : x35_3 > 0
                                · rw [if_pos c22] at H
                                  have c22b0 : decide (0 < x35_3) = true := decide_eq_true c22
                                  clear c22
                                  obtain ⟨ji23, hji23⟩ : ∃ j_ : Int, (wrap64 (x35_3 - 1)) = j_ := ⟨_, rfl⟩
                                  replace H : (if 0 ≤ (ji23) then (if (ji23) < (((rd_T39 l0_1 x28_2).f0).length : Int) then (if (rd ((rd_T39 l0_1 x28_2).f0) x35_3) ≤ (rd ((rd_T39 l0_1 x28_2).f0) (ji23)) then (some false) else (peneloperef16_shaped.l1 k3 (l0_1.length : Int) l0_1 (l0_1.length : Int) x28_2 ((rd_T39 l0_1 x28_2).f0) (((rd_T39 l0_1 x28_2).f0).length : Int) (wrap64 (x35_3 + 1)) ((rd_T39 l0_1 x28_2).f0) ((rd_T39 l0_1 x28_2).f1) ((rd_T39 l0_1 x28_2).f2) ((rd_T39 l0_1 x28_2).f3))) else (none)) else (none)) = some r := by first | (rw [hji23] at H; exact H) | (simp only [hji23] at H ⊢; exact H)
                                  have hji23w : (IntKind.i64.wrap (x35_3 - 1)) = ji23 := (i64_w _).trans hji23
                                  by_cases c24 : 0 ≤ (ji23)
                                  · rw [if_pos c24] at H
                                    have c24b0 : decide (0 ≤ (ji23)) = true := decide_eq_true c24
                                    clear c24
                                    by_cases c25 : (ji23) < (((rd_T39 l0_1 x28_2).f0).length : Int)
                                    · rw [if_pos c25] at H
                                      have c25b0 : decide ((ji23) < (((rd_T39 l0_1 x28_2).f0).length : Int)) = true := decide_eq_true c25
                                      clear c25
                                      by_cases c26 : (rd ((rd_T39 l0_1 x28_2).f0) x35_3) ≤ (rd ((rd_T39 l0_1 x28_2).f0) (ji23))
                                      · rw [if_pos c26] at H
                                        have c26b0 : decide ((rd ((rd_T39 l0_1 x28_2).f0) x35_3) ≤ (rd ((rd_T39 l0_1 x28_2).f0) (ji23))) = true := decide_eq_true c26
                                        clear c26
                                        obtain rfl := Option.some.inj H
                                        have p104 : 0 ≤ (x35_3 : Int) := of_decide_eq_true (by first | (with_reducible assumption) | assumption)
                                        have q104 : x35_3 < (((rd_T39 l0_1 x28_2).f0).length : Int) := of_decide_eq_true (by first | (with_reducible assumption) | assumption)
                                        obtain ⟨ad104, e104, hx104_0⟩ := Kd.at_int HR102_0.out x35_3 p104 q104
                                        cases e104
                                        replace hx104_0 := (HB.out.cell (World.block_lt_of_cell? w _ hx104_0)).trans hx104_0
                                        replace p104 := eq_true p104
                                        replace q104 := eq_true q104
                                        have hnb27 := NB103_101.out
                                        have hnc27 := NB101_103.out
                                        have hcz28_0 : wr.cell? ⟨gb103, 0, none⟩ = some (.slice (some ad104) ((rd_T39 l0_1 x28_2).f0).length c102_0) := (blk_cell BK103.out 0).trans rfl
                                        have hcz28_1 : wr.cell? ⟨gb103, 1, none⟩ = some (.int .i64 ((rd_T39 l0_1 x28_2).f1)) := (blk_cell BK103.out 1).trans rfl
                                        have hcz28_2 : wr.cell? ⟨gb103, 2, none⟩ = some (.int .i64 ((rd_T39 l0_1 x28_2).f2)) := (blk_cell BK103.out 2).trans rfl
                                        have hcz28_3 : wr.cell? ⟨gb103, 3, none⟩ = some (.int .i64 ((rd_T39 l0_1 x28_2).f3)) := (blk_cell BK103.out 3).trans rfl
                                        have hfz28_0 := blk_frozen BK103.out 0
                                        have hfz28_1 := blk_frozen BK103.out 1
                                        have hfz28_2 := blk_frozen BK103.out 2
                                        have hfz28_3 := blk_frozen BK103.out 3
                                        have p105 : 0 ≤ ((ji23) : Int) := of_decide_eq_true (by first | (with_reducible assumption) | assumption)
                                        have q105 : (ji23) < (((rd_T39 l0_1 x28_2).f0).length : Int) := of_decide_eq_true (by first | (with_reducible assumption) | assumption)
                                        obtain ⟨ad105, e105, hx105_0⟩ := Kd.at_int HR102_0.out (ji23) p105 q105
                                        obtain rfl : ad104 = ad105 := (by injection e105)
                                        replace hx105_0 := (HB.out.cell (World.block_lt_of_cell? w _ hx105_0)).trans hx105_0
                                        replace p105 := eq_true p105
                                        replace q105 := eq_true q105
                                        go_wp2
                                        go_ret
                                        exact ⟨by first | rfl | (simp [errW_none, errW_some] <;> rfl) | (simp only [← hji23]; first | rfl | (simp [errW_none, errW_some] <;> rfl)) | (simp [*, errW_none, errW_some] <;> rfl), by repeat (first | (with_reducible first | exact HB.out | apply below_alloc | apply pw_below_drewN | apply below_drew1 | refine below_set ?_ GE101.out | refine below_set ?_ GE103.out) | exact HB.out)⟩
                                      · rw [if_neg c26] at H
                                        have c26b0 : decide ((rd ((rd_T39 l0_1 x28_2).f0) x35_3) ≤ (rd ((rd_T39 l0_1 x28_2).f0) (ji23))) = false := decide_eq_false c26
                                        clear c26
                                        have H' := Aside0.mk H
                                        clear H
                                        have p104 : 0 ≤ (x35_3 : Int) := of_decide_eq_true (by first | (with_reducible assumption) | assumption)
                                        have q104 : x35_3 < (((rd_T39 l0_1 x28_2).f0).length : Int) := of_decide_eq_true (by first | (with_reducible assumption) | assumption)
                                        obtain ⟨ad104, e104, hx104_0⟩ := Kd.at_int HR102_0.out x35_3 p104 q104
                                        cases e104
                                        replace hx104_0 := (HB.out.cell (World.block_lt_of_cell? w _ hx104_0)).trans hx104_0
                                        replace p104 := eq_true p104
                                        replace q104 := eq_true q104
                                        have hnb29 := NB103_101.out
                                        have hnc29 := NB101_103.out
                                        have hcz30_0 : wr.cell? ⟨gb103, 0, none⟩ = some (.slice (some ad104) ((rd_T39 l0_1 x28_2).f0).length c102_0) := (blk_cell BK103.out 0).trans rfl
                                        have hcz30_1 : wr.cell? ⟨gb103, 1, none⟩ = some (.int .i64 ((rd_T39 l0_1 x28_2).f1)) := (blk_cell BK103.out 1).trans rfl
                                        have hcz30_2 : wr.cell? ⟨gb103, 2, none⟩ = some (.int .i64 ((rd_T39 l0_1 x28_2).f2)) := (blk_cell BK103.out 2).trans rfl
                                        have hcz30_3 : wr.cell? ⟨gb103, 3, none⟩ = some (.int .i64 ((rd_T39 l0_1 x28_2).f3)) := (blk_cell BK103.out 3).trans rfl
                                        have hfz30_0 := blk_frozen BK103.out 0
                                        have hfz30_1 := blk_frozen BK103.out 1
                                        have hfz30_2 := blk_frozen BK103.out 2
                                        have hfz30_3 := blk_frozen BK103.out 3
                                        have p105 : 0 ≤ ((ji23) : Int) := of_decide_eq_true (by first | (with_reducible assumption) | assumption)
                                        have q105 : (ji23) < (((rd_T39 l0_1 x28_2).f0).length : Int) := of_decide_eq_true (by first | (with_reducible assumption) | assumption)
                                        obtain ⟨ad105, e105, hx105_0⟩ := Kd.at_int HR102_0.out (ji23) p105 q105
                                        obtain rfl : ad104 = ad105 := (by injection e105)
                                        replace hx105_0 := (HB.out.cell (World.block_lt_of_cell? w _ hx105_0)).trans hx105_0
                                        replace p105 := eq_true p105
                                        replace q105 := eq_true q105
                                        go_wp2
                                        go_roundg k3
                                        case measure => have := HJ1.out; have := HK2.out; have := HK3.out; omega
                                        case rel => exact ⟨(wrap64 (x35_3 + 1)), (by first | rfl | (simp; done) | (simp [*]; done)), H', ⟨by have := HJ1.out; have := HK2.out; have := HK3.out; omega⟩, ⟨by (with_reducible repeat (first | refine blk_drewN ?_ _ | refine blk_drew ?_ | refine blk_alloc ?_ _)); exact BK101.out⟩, ⟨by (with_reducible repeat (first | refine blk_drewN ?_ _ | refine blk_drew ?_ | refine blk_alloc ?_ _)); exact BK103.out⟩, ⟨by repeat (first | (with_reducible first | exact HB.out | apply below_alloc | apply pw_below_drewN | apply below_drew1 | refine below_set ?_ GE101.out | refine below_set ?_ GE103.out) | exact HB.out)⟩⟩
                                    · rw [if_neg c25] at H
                                      exact absurd H (by simp)
                                  · rw [if_neg c24] at H
                                    exact absurd H (by simp)
                                · rw [if_neg c22] at H
                                  have c22b0 : decide (0 < x35_3) = false := decide_eq_false c22
                                  clear c22
                                  have H' := Aside0.mk H
                                  clear H
                                  have p104 : 0 ≤ (x35_3 : Int) := of_decide_eq_true (by first | (with_reducible assumption) | assumption)
                                  have q104 : x35_3 < (((rd_T39 l0_1 x28_2).f0).length : Int) := of_decide_eq_true (by first | (with_reducible assumption) | assumption)
                                  obtain ⟨ad104, e104, hx104_0⟩ := Kd.at_int HR102_0.out x35_3 p104 q104
                                  cases e104
                                  replace hx104_0 := (HB.out.cell (World.block_lt_of_cell? w _ hx104_0)).trans hx104_0
                                  replace p104 := eq_true p104
                                  replace q104 := eq_true q104
                                  go_wp2
                                  go_roundg k3
                                  case measure => have := HJ1.out; have := HK2.out; have := HK3.out; omega
                                  case rel => exact ⟨(wrap64 (x35_3 + 1)), (by first | rfl | (simp; done) | (simp [*]; done)), H', ⟨by have := HJ1.out; have := HK2.out; have := HK3.out; omega⟩, ⟨by (with_reducible repeat (first | refine blk_drewN ?_ _ | refine blk_drew ?_ | refine blk_alloc ?_ _)); exact BK101.out⟩, ⟨by (with_reducible repeat (first | refine blk_drewN ?_ _ | refine blk_drew ?_ | refine blk_alloc ?_ _)); exact BK103.out⟩, ⟨by repeat (first | (with_reducible first | exact HB.out | apply below_alloc | apply pw_below_drewN | apply below_drew1 | refine below_set ?_ GE101.out | refine below_set ?_ GE103.out) | exact HB.out)⟩⟩
                          · rw [if_neg c19] at H
                            exact absurd H (by simp)
                        · rw [if_neg c18] at H
                          exact absurd H (by simp)
                      · rw [if_neg c17] at H
                        have c17b0 : decide (x35_3 < (((rd_T39 l0_1 x28_2).f0).length : Int)) = false := decide_eq_false c17
                        clear c17
                        by_cases c31 : ((rd_T39 l0_1 x28_2).f1) < 1
                        · rw [if_pos c31] at H
                          have c31b0 : decide (((rd_T39 l0_1 x28_2).f1) < 1) = true := decide_eq_true c31
                          clear c31
                          obtain rfl := Option.some.inj H
                          have hnb32 := NB103_101.out
                          have hnc32 := NB101_103.out
                          have hcz33_0 : wr.cell? ⟨gb103, 0, none⟩ = some (.slice A102_0 ((rd_T39 l0_1 x28_2).f0).length c102_0) := (blk_cell BK103.out 0).trans rfl
                          have hcz33_1 : wr.cell? ⟨gb103, 1, none⟩ = some (.int .i64 ((rd_T39 l0_1 x28_2).f1)) := (blk_cell BK103.out 1).trans rfl
                          have hcz33_2 : wr.cell? ⟨gb103, 2, none⟩ = some (.int .i64 ((rd_T39 l0_1 x28_2).f2)) := (blk_cell BK103.out 2).trans rfl
                          have hcz33_3 : wr.cell? ⟨gb103, 3, none⟩ = some (.int .i64 ((rd_T39 l0_1 x28_2).f3)) := (blk_cell BK103.out 3).trans rfl
                          have hfz33_0 := blk_frozen BK103.out 0
                          have hfz33_1 := blk_frozen BK103.out 1
                          have hfz33_2 := blk_frozen BK103.out 2
                          have hfz33_3 := blk_frozen BK103.out 3
                          go_wp2
                          go_ret
                          exact ⟨by first | rfl | (simp [errW_none, errW_some] <;> rfl) | (simp [*, errW_none, errW_some] <;> rfl), by repeat (first | (with_reducible first | exact HB.out | apply below_alloc | apply pw_below_drewN | apply below_drew1 | refine below_set ?_ GE101.out | refine below_set ?_ GE103.out) | exact HB.out)⟩
                        · rw [if_neg c31] at H
                          have c31b0 : decide (((rd_T39 l0_1 x28_2).f1) < 1) = false := decide_eq_false c31
                          clear c31
                          by_cases c34 : ((rd_T39 l0_1 x28_2).f1) > 8
                          · rw [if_pos c34] at H
                            have c34b0 : decide (8 < ((rd_T39 l0_1 x28_2).f1)) = true := decide_eq_true c34
                            clear c34
                            obtain rfl := Option.some.inj H
                            have hnb35 := NB103_101.out
                            have hnc35 := NB101_103.out
                            have hcz36_0 : wr.cell? ⟨gb103, 0, none⟩ = some (.slice A102_0 ((rd_T39 l0_1 x28_2).f0).length c102_0) := (blk_cell BK103.out 0).trans rfl
                            have hcz36_1 : wr.cell? ⟨gb103, 1, none⟩ = some (.int .i64 ((rd_T39 l0_1 x28_2).f1)) := (blk_cell BK103.out 1).trans rfl
                            have hcz36_2 : wr.cell? ⟨gb103, 2, none⟩ = some (.int .i64 ((rd_T39 l0_1 x28_2).f2)) := (blk_cell BK103.out 2).trans rfl
                            have hcz36_3 : wr.cell? ⟨gb103, 3, none⟩ = some (.int .i64 ((rd_T39 l0_1 x28_2).f3)) := (blk_cell BK103.out 3).trans rfl
                            have hfz36_0 := blk_frozen BK103.out 0
                            have hfz36_1 := blk_frozen BK103.out 1
                            have hfz36_2 := blk_frozen BK103.out 2
                            have hfz36_3 := blk_frozen BK103.out 3
                            go_wp2
                            go_ret
                            exact ⟨by first | rfl | (simp [errW_none, errW_some] <;> rfl) | (simp [*, errW_none, errW_some] <;> rfl), by repeat (first | (with_reducible first | exact HB.out | apply below_alloc | apply pw_below_drewN | apply below_drew1 | refine below_set ?_ GE101.out | refine below_set ?_ GE103.out) | exact HB.out)⟩
                          · rw [if_neg c34] at H
                            have c34b0 : decide (8 < ((rd_T39 l0_1 x28_2).f1)) = false := decide_eq_false c34
                            clear c34
                            by_cases c37 : ((rd_T39 l0_1 x28_2).f2) < 0
                            · rw [if_pos c37] at H
                              have c37b0 : decide (((rd_T39 l0_1 x28_2).f2) < 0) = true := decide_eq_true c37
                              clear c37
                              obtain rfl := Option.some.inj H
                              have hnb38 := NB103_101.out
                              have hnc38 := NB101_103.out
                              have hcz39_0 : wr.cell? ⟨gb103, 0, none⟩ = some (.slice A102_0 ((rd_T39 l0_1 x28_2).f0).length c102_0) := (blk_cell BK103.out 0).trans rfl
                              have hcz39_1 : wr.cell? ⟨gb103, 1, none⟩ = some (.int .i64 ((rd_T39 l0_1 x28_2).f1)) := (blk_cell BK103.out 1).trans rfl
                              have hcz39_2 : wr.cell? ⟨gb103, 2, none⟩ = some (.int .i64 ((rd_T39 l0_1 x28_2).f2)) := (blk_cell BK103.out 2).trans rfl
                              have hcz39_3 : wr.cell? ⟨gb103, 3, none⟩ = some (.int .i64 ((rd_T39 l0_1 x28_2).f3)) := (blk_cell BK103.out 3).trans rfl
                              have hfz39_0 := blk_frozen BK103.out 0
                              have hfz39_1 := blk_frozen BK103.out 1
                              have hfz39_2 := blk_frozen BK103.out 2
                              have hfz39_3 := blk_frozen BK103.out 3
                              go_wp2
                              go_ret
                              exact ⟨by first | rfl | (simp [errW_none, errW_some] <;> rfl) | (simp [*, errW_none, errW_some] <;> rfl), by repeat (first | (with_reducible first | exact HB.out | apply below_alloc | apply pw_below_drewN | apply below_drew1 | refine below_set ?_ GE101.out | refine below_set ?_ GE103.out) | exact HB.out)⟩
                            · rw [if_neg c37] at H
                              have c37b0 : decide (((rd_T39 l0_1 x28_2).f2) < 0) = false := decide_eq_false c37
                              clear c37
                              by_cases c40 : ((rd_T39 l0_1 x28_2).f2) > 1048576
                              · rw [if_pos c40] at H
                                have c40b0 : decide (1048576 < ((rd_T39 l0_1 x28_2).f2)) = true := decide_eq_true c40
                                clear c40
                                obtain rfl := Option.some.inj H
                                have hnb41 := NB103_101.out
                                have hnc41 := NB101_103.out
                                have hcz42_0 : wr.cell? ⟨gb103, 0, none⟩ = some (.slice A102_0 ((rd_T39 l0_1 x28_2).f0).length c102_0) := (blk_cell BK103.out 0).trans rfl
                                have hcz42_1 : wr.cell? ⟨gb103, 1, none⟩ = some (.int .i64 ((rd_T39 l0_1 x28_2).f1)) := (blk_cell BK103.out 1).trans rfl
                                have hcz42_2 : wr.cell? ⟨gb103, 2, none⟩ = some (.int .i64 ((rd_T39 l0_1 x28_2).f2)) := (blk_cell BK103.out 2).trans rfl
                                have hcz42_3 : wr.cell? ⟨gb103, 3, none⟩ = some (.int .i64 ((rd_T39 l0_1 x28_2).f3)) := (blk_cell BK103.out 3).trans rfl
                                have hfz42_0 := blk_frozen BK103.out 0
                                have hfz42_1 := blk_frozen BK103.out 1
                                have hfz42_2 := blk_frozen BK103.out 2
                                have hfz42_3 := blk_frozen BK103.out 3
                                go_wp2
                                go_ret
                                exact ⟨by first | rfl | (simp [errW_none, errW_some] <;> rfl) | (simp [*, errW_none, errW_some] <;> rfl), by repeat (first | (with_reducible first | exact HB.out | apply below_alloc | apply pw_below_drewN | apply below_drew1 | refine below_set ?_ GE101.out | refine below_set ?_ GE103.out) | exact HB.out)⟩
                              · rw [if_neg c40] at H
                                have c40b0 : decide (1048576 < ((rd_T39 l0_1 x28_2).f2)) = false := decide_eq_false c40
                                clear c40
                                by_cases c43 : ((rd_T39 l0_1 x28_2).f3) < 1
                                · rw [if_pos c43] at H
                                  have c43b0 : decide (((rd_T39 l0_1 x28_2).f3) < 1) = true := decide_eq_true c43
                                  clear c43
                                  obtain rfl := Option.some.inj H
                                  have hnb44 := NB103_101.out
                                  have hnc44 := NB101_103.out
                                  have hcz45_0 : wr.cell? ⟨gb103, 0, none⟩ = some (.slice A102_0 ((rd_T39 l0_1 x28_2).f0).length c102_0) := (blk_cell BK103.out 0).trans rfl
                                  have hcz45_1 : wr.cell? ⟨gb103, 1, none⟩ = some (.int .i64 ((rd_T39 l0_1 x28_2).f1)) := (blk_cell BK103.out 1).trans rfl
                                  have hcz45_2 : wr.cell? ⟨gb103, 2, none⟩ = some (.int .i64 ((rd_T39 l0_1 x28_2).f2)) := (blk_cell BK103.out 2).trans rfl
                                  have hcz45_3 : wr.cell? ⟨gb103, 3, none⟩ = some (.int .i64 ((rd_T39 l0_1 x28_2).f3)) := (blk_cell BK103.out 3).trans rfl
                                  have hfz45_0 := blk_frozen BK103.out 0
                                  have hfz45_1 := blk_frozen BK103.out 1
                                  have hfz45_2 := blk_frozen BK103.out 2
                                  have hfz45_3 := blk_frozen BK103.out 3
                                  go_wp2
                                  go_ret
                                  exact ⟨by first | rfl | (simp [errW_none, errW_some] <;> rfl) | (simp [*, errW_none, errW_some] <;> rfl), by repeat (first | (with_reducible first | exact HB.out | apply below_alloc | apply pw_below_drewN | apply below_drew1 | refine below_set ?_ GE101.out | refine below_set ?_ GE103.out) | exact HB.out)⟩
                                · rw [if_neg c43] at H
                                  have c43b0 : decide (((rd_T39 l0_1 x28_2).f3) < 1) = false := decide_eq_false c43
                                  clear c43
                                  by_cases c46 : ((rd_T39 l0_1 x28_2).f3) > 1048576
                                  · rw [if_pos c46] at H
                                    have c46b0 : decide (1048576 < ((rd_T39 l0_1 x28_2).f3)) = true := decide_eq_true c46
                                    clear c46
                                    obtain rfl := Option.some.inj H
                                    have hnb47 := NB103_101.out
                                    have hnc47 := NB101_103.out
                                    have hcz48_0 : wr.cell? ⟨gb103, 0, none⟩ = some (.slice A102_0 ((rd_T39 l0_1 x28_2).f0).length c102_0) := (blk_cell BK103.out 0).trans rfl
                                    have hcz48_1 : wr.cell? ⟨gb103, 1, none⟩ = some (.int .i64 ((rd_T39 l0_1 x28_2).f1)) := (blk_cell BK103.out 1).trans rfl
                                    have hcz48_2 : wr.cell? ⟨gb103, 2, none⟩ = some (.int .i64 ((rd_T39 l0_1 x28_2).f2)) := (blk_cell BK103.out 2).trans rfl
                                    have hcz48_3 : wr.cell? ⟨gb103, 3, none⟩ = some (.int .i64 ((rd_T39 l0_1 x28_2).f3)) := (blk_cell BK103.out 3).trans rfl
                                    have hfz48_0 := blk_frozen BK103.out 0
                                    have hfz48_1 := blk_frozen BK103.out 1
                                    have hfz48_2 := blk_frozen BK103.out 2
                                    have hfz48_3 := blk_frozen BK103.out 3
                                    go_wp2
                                    go_ret
                                    exact ⟨by first | rfl | (simp [errW_none, errW_some] <;> rfl) | (simp [*, errW_none, errW_some] <;> rfl), by repeat (first | (with_reducible first | exact HB.out | apply below_alloc | apply pw_below_drewN | apply below_drew1 | refine below_set ?_ GE101.out | refine below_set ?_ GE103.out) | exact HB.out)⟩
                                  · rw [if_neg c46] at H
                                    have c46b0 : decide (1048576 < ((rd_T39 l0_1 x28_2).f3)) = false := decide_eq_false c46
                                    clear c46
                                    have H' := Aside0.mk H
                                    clear H
                                    have hnb49 := NB103_101.out
                                    have hnc49 := NB101_103.out
                                    have hcz50_0 : wr.cell? ⟨gb103, 0, none⟩ = some (.slice A102_0 ((rd_T39 l0_1 x28_2).f0).length c102_0) := (blk_cell BK103.out 0).trans rfl
                                    have hcz50_1 : wr.cell? ⟨gb103, 1, none⟩ = some (.int .i64 ((rd_T39 l0_1 x28_2).f1)) := (blk_cell BK103.out 1).trans rfl
                                    have hcz50_2 : wr.cell? ⟨gb103, 2, none⟩ = some (.int .i64 ((rd_T39 l0_1 x28_2).f2)) := (blk_cell BK103.out 2).trans rfl
                                    have hcz50_3 : wr.cell? ⟨gb103, 3, none⟩ = some (.int .i64 ((rd_T39 l0_1 x28_2).f3)) := (blk_cell BK103.out 3).trans rfl
                                    have hfz50_0 := blk_frozen BK103.out 0
                                    have hfz50_1 := blk_frozen BK103.out 1
                                    have hfz50_2 := blk_frozen BK103.out 2
                                    have hfz50_3 := blk_frozen BK103.out 3
                                    go_wp2
                                    go_roundg k3
                                    case measure => have := HJ1.out; have := HK2.out; have := HK3.out; omega
                                    case rel => exact ⟨(wrap64 (x28_2 + 1)), (by first | rfl | (simp; done) | (simp [*]; done)), H', ⟨by have := HJ1.out; have := HK2.out; have := HK3.out; omega⟩, ⟨by (with_reducible repeat (first | refine blk_drewN ?_ _ | refine blk_drew ?_ | refine blk_alloc ?_ _)); exact BK101.out⟩, ⟨by repeat (first | (with_reducible first | exact HB.out | apply below_alloc | apply pw_below_drewN | apply below_drew1 | refine below_set ?_ GE101.out | refine below_set ?_ GE103.out) | exact HB.out)⟩⟩
                · rw [if_neg c13] at H
                  exact absurd H (by simp)
              · rw [if_neg c12] at H
                exact absurd H (by simp)
            · rw [if_neg c11] at H
              have c11b0 : decide (x28_2 < (l0_1.length : Int)) = false := decide_eq_false c11
              clear c11
              obtain rfl := Option.some.inj H
              go_wp2
              go_ret
              exact ⟨by first | rfl | (simp [errW_none, errW_some] <;> rfl) | (simp [*, errW_none, errW_some] <;> rfl), by repeat (first | (with_reducible first | exact HB.out | apply below_alloc | apply pw_below_drewN | apply below_drew1 | refine below_set ?_ GE101.out) | exact HB.out)⟩

end Go.Proofs.Ytbgmhcefjggpgaa.X
