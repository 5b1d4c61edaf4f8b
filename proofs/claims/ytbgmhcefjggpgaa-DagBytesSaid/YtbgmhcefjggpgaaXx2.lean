-- laid by a program of this session (wip/tools/xprint.py), function by function; Lean checks it
import Derived.Test.YtbgmhcefjggpgaaXx0
namespace Go.Proofs.Ytbgmhcefjggpgaa.X
open Go.RowKit Go.Proofs.YtbgmhcefjggpgaaW.PrintWords Go.Proofs.YtbgmhcefjggpgaaW.PrintLast Go.Proofs.YtbgmhcefjggpgaaW.PrintMore
attribute [local go_sem] max2_int min2_int max_two min_two max_three min_three max_four min_four   -- for this text's walks alone
set_option linter.unusedVariables false
set_option linter.unusedSimpArgs false

/-! ### peneloperef16_reach: function 23 -/
mutual
def peneloperef16_reach.l0 : Nat → List Bool → List Int → Int → Int → ByteArray → List (S39) → Option (List Bool)
  | 0, _, _, _, _, _, _ => none
  | k + 1, x5, x22, x23, x24, x107000, x107001 => if x24 < x23 then (if 0 ≤ x24 then (if x24 < (x22.length : Int) then (if 0 ≤ (rd x22 x24) then (if (rd x22 x24) < (x5.length : Int) then (peneloperef16_reach.l0 k (x5.set ((rd x22 x24) : Int).toNat true) x22 x23 (wrap64 (x24 + 1)) x107000 x107001) else (none)) else (none)) else (none)) else (none)) else (peneloperef16_reach.l1 k x5 0 x107000 x107001)
def peneloperef16_reach.l1 : Nat → List Bool → Int → ByteArray → List (S39) → Option (List Bool)
  | 0, _, _, _, _ => none
  | k + 1, x5, x8, x107000, x107001 => if x8 < (x107001.length : Int) then (peneloperef16_reach.l2 k x5 x8 x107001 (x107001.length : Int) 0 x107000 x107001) else (some x5)
def peneloperef16_reach.l2 : Nat → List Bool → Int → List (S39) → Int → Int → ByteArray → List (S39) → Option (List Bool)
  | 0, _, _, _, _, _, _, _ => none
  | k + 1, x5, x8, x40, x41, x42, x107000, x107001 => if x42 < x41 then (if 0 ≤ x42 then (if x42 < (x40.length : Int) then (if x42 < (x5.length : Int) then (if rdOf false x5 x42 = true then (peneloperef16_reach.l3 k x5 x8 x40 x41 x42 ((rd_T39 x40 x42).f0) (((rd_T39 x40 x42).f0).length : Int) 0 x107000 x107001) else (peneloperef16_reach.l2 k x5 x8 x40 x41 (wrap64 (x42 + 1)) x107000 x107001)) else (none)) else (none)) else (none)) else (peneloperef16_reach.l1 k x5 (wrap64 (x8 + 1)) x107000 x107001)
def peneloperef16_reach.l3 : Nat → List Bool → Int → List (S39) → Int → Int → List Int → Int → Int → ByteArray → List (S39) → Option (List Bool)
  | 0, _, _, _, _, _, _, _, _, _, _ => none
  | k + 1, x5, x8, x40, x41, x42, x52, x53, x54, x107000, x107001 => if x54 < x53 then (if 0 ≤ x54 then (if x54 < (x52.length : Int) then (if 0 ≤ (rd x52 x54) then (if (rd x52 x54) < (x5.length : Int) then (peneloperef16_reach.l3 k (x5.set ((rd x52 x54) : Int).toNat true) x8 x40 x41 x42 x52 x53 (wrap64 (x54 + 1)) x107000 x107001) else (none)) else (none)) else (none)) else (none)) else (peneloperef16_reach.l2 k x5 x8 x40 x41 (wrap64 (x42 + 1)) x107000 x107001)
end
def peneloperef16_reach.f (k : Nat) (a0_0 : ByteArray) (l0_1 : List (S39)) (a1 : Int) : Option (List Bool) := if 0 ≤ (l0_1.length : Int) then (if ((l0_1.length : Int) : Int).toNat ≤ 281474976710656 then (if 0 ≤ a1 then (if a1 < (l0_1.length : Int) then (peneloperef16_reach.l0 k (List.replicate ((l0_1.length : Int) : Int).toNat false) ((rd_T39 l0_1 a1).f0) (((rd_T39 l0_1 a1).f0).length : Int) 0 a0_0 l0_1) else (none)) else (none)) else (none)) else (none)
theorem peneloperef16_reach.mono_l : ∀ k, (∀ y0 y1 y2 y3 y4 y5, LeO (peneloperef16_reach.l0 k y0 y1 y2 y3 y4 y5) (peneloperef16_reach.l0 (k + 1) y0 y1 y2 y3 y4 y5)) ∧ (∀ y0 y1 y2 y3, LeO (peneloperef16_reach.l1 k y0 y1 y2 y3) (peneloperef16_reach.l1 (k + 1) y0 y1 y2 y3)) ∧ (∀ y0 y1 y2 y3 y4 y5 y6, LeO (peneloperef16_reach.l2 k y0 y1 y2 y3 y4 y5 y6) (peneloperef16_reach.l2 (k + 1) y0 y1 y2 y3 y4 y5 y6)) ∧ (∀ y0 y1 y2 y3 y4 y5 y6 y7 y8 y9, LeO (peneloperef16_reach.l3 k y0 y1 y2 y3 y4 y5 y6 y7 y8 y9) (peneloperef16_reach.l3 (k + 1) y0 y1 y2 y3 y4 y5 y6 y7 y8 y9))
  | 0 => ⟨fun _ _ _ _ _ _ r h => by simp [peneloperef16_reach.l0] at h, fun _ _ _ _ r h => by simp [peneloperef16_reach.l1] at h, fun _ _ _ _ _ _ _ r h => by simp [peneloperef16_reach.l2] at h, fun _ _ _ _ _ _ _ _ _ _ r h => by simp [peneloperef16_reach.l3] at h⟩
  | k + 1 => by
    obtain ⟨ih0, ih1, ih2, ih3⟩ := peneloperef16_reach.mono_l k
    refine ⟨?_, ?_, ?_, ?_⟩
    · intro y0 y1 y2 y3 y4 y5
      unfold peneloperef16_reach.l0
      repeat' first
      | (with_reducible exact ih0 _ _ _ _ _ _)
      | (with_reducible exact ih1 _ _ _ _)
      | (with_reducible exact ih2 _ _ _ _ _ _ _)
      | (with_reducible exact ih3 _ _ _ _ _ _ _ _ _ _)
      | (with_reducible exact LeO.refl _)
      | (with_reducible exact LeO.none _)
      | (with_reducible refine LeO.ite ?_ ?_)
      | (with_reducible refine LeO.bind ?_ (fun _ => ?_))
      | exact ih0 _ _ _ _ _ _
      | exact ih1 _ _ _ _
      | exact ih2 _ _ _ _ _ _ _
      | exact ih3 _ _ _ _ _ _ _ _ _ _
      | exact LeO.none _
      | refine LeO.ite ?_ ?_
      | refine LeO.bind ?_ (fun _ => ?_)
    · intro y0 y1 y2 y3
      unfold peneloperef16_reach.l1
      repeat' first
      | (with_reducible exact ih0 _ _ _ _ _ _)
      | (with_reducible exact ih1 _ _ _ _)
      | (with_reducible exact ih2 _ _ _ _ _ _ _)
      | (with_reducible exact ih3 _ _ _ _ _ _ _ _ _ _)
      | (with_reducible exact LeO.refl _)
      | (with_reducible exact LeO.none _)
      | (with_reducible refine LeO.ite ?_ ?_)
      | (with_reducible refine LeO.bind ?_ (fun _ => ?_))
      | exact ih0 _ _ _ _ _ _
      | exact ih1 _ _ _ _
      | exact ih2 _ _ _ _ _ _ _
      | exact ih3 _ _ _ _ _ _ _ _ _ _
      | exact LeO.none _
      | refine LeO.ite ?_ ?_
      | refine LeO.bind ?_ (fun _ => ?_)
    · intro y0 y1 y2 y3 y4 y5 y6
      unfold peneloperef16_reach.l2
      repeat' first
      | (with_reducible exact ih0 _ _ _ _ _ _)
      | (with_reducible exact ih1 _ _ _ _)
      | (with_reducible exact ih2 _ _ _ _ _ _ _)
      | (with_reducible exact ih3 _ _ _ _ _ _ _ _ _ _)
      | (with_reducible exact LeO.refl _)
      | (with_reducible exact LeO.none _)
      | (with_reducible refine LeO.ite ?_ ?_)
      | (with_reducible refine LeO.bind ?_ (fun _ => ?_))
      | exact ih0 _ _ _ _ _ _
      | exact ih1 _ _ _ _
      | exact ih2 _ _ _ _ _ _ _
      | exact ih3 _ _ _ _ _ _ _ _ _ _
      | exact LeO.none _
      | refine LeO.ite ?_ ?_
      | refine LeO.bind ?_ (fun _ => ?_)
    · intro y0 y1 y2 y3 y4 y5 y6 y7 y8 y9
      unfold peneloperef16_reach.l3
      repeat' first
      | (with_reducible exact ih0 _ _ _ _ _ _)
      | (with_reducible exact ih1 _ _ _ _)
      | (with_reducible exact ih2 _ _ _ _ _ _ _)
      | (with_reducible exact ih3 _ _ _ _ _ _ _ _ _ _)
      | (with_reducible exact LeO.refl _)
      | (with_reducible exact LeO.none _)
      | (with_reducible refine LeO.ite ?_ ?_)
      | (with_reducible refine LeO.bind ?_ (fun _ => ?_))
      | exact ih0 _ _ _ _ _ _
      | exact ih1 _ _ _ _
      | exact ih2 _ _ _ _ _ _ _
      | exact ih3 _ _ _ _ _ _ _ _ _ _
      | exact LeO.none _
      | refine LeO.ite ?_ ?_
      | refine LeO.bind ?_ (fun _ => ?_)
theorem peneloperef16_reach.mono : ∀ a0 a1 a2 k, LeO (peneloperef16_reach.f k a0 a1 a2) (peneloperef16_reach.f (k + 1) a0 a1 a2) := by
  intro a0 a1 a2 k
  obtain ⟨ih0, ih1, ih2, ih3⟩ := peneloperef16_reach.mono_l k
  unfold peneloperef16_reach.f
  repeat' first
      | (with_reducible exact ih0 _ _ _ _ _ _)
      | (with_reducible exact ih1 _ _ _ _)
      | (with_reducible exact ih2 _ _ _ _ _ _ _)
      | (with_reducible exact ih3 _ _ _ _ _ _ _ _ _ _)
      | (with_reducible exact LeO.refl _)
      | (with_reducible exact LeO.none _)
      | (with_reducible refine LeO.ite ?_ ?_)
      | (with_reducible refine LeO.bind ?_ (fun _ => ?_))
      | exact ih0 _ _ _ _ _ _
      | exact ih1 _ _ _ _
      | exact ih2 _ _ _ _ _ _ _
      | exact ih3 _ _ _ _ _ _ _ _ _ _
      | exact LeO.none _
      | refine LeO.ite ?_ ?_
      | refine LeO.bind ?_ (fun _ => ?_)
set_option maxHeartbeats 8000000 in
set_option maxRecDepth 100000 in
theorem peneloperef16_reach.calls (k : Nat) (a0_0 : ByteArray) (A0_1 : Option Addr) (c0_1 : Nat) (l0_1 : List (S39)) (a1 : Int) (r : List Bool) (w : World) (hr0_1 : Kd.C k39 w A0_1 l0_1.length l0_1) (hc0_1 : l0_1.length ≤ c0_1) (h : peneloperef16_reach.f k a0_0 l0_1 a1 = some r) :
    Calls Try.prog 23 #[.agg #[.string a0_0, .slice A0_1 l0_1.length c0_1], .int .i64 a1] w fun e w' => ∃ v0_ : Value, e = .returned (v0_) ∧ Kd.R Kd.bool 4 w' w.heap.size (fun _ => True) v0_ r ∧ Below w.heap.size w w' := by
  have hu24 := Try.underlying24
  have hu39 := Try.underlying39
  have HR0_1 := Aside0.mk hr0_1
  have HC0_1 := Aside0.mk hc0_1
  clear hr0_1 hc0_1
  have HB := Aside0.mk (Below.refl w.heap.size w)
  have H : (if 0 ≤ (l0_1.length : Int) then (if ((l0_1.length : Int) : Int).toNat ≤ 281474976710656 then (if 0 ≤ a1 then (if a1 < (l0_1.length : Int) then (peneloperef16_reach.l0 k (List.replicate ((l0_1.length : Int) : Int).toNat false) ((rd_T39 l0_1 a1).f0) (((rd_T39 l0_1 a1).f0).length : Int) 0 a0_0 l0_1) else (none)) else (none)) else (none)) else (none)) = some r := h
  clear h
  by_cases c3 : 0 ≤ (l0_1.length : Int)
  · rw [if_pos c3] at H
    have c3b0 := eq_true c3
    have c3b1 : decide (0 ≤ (l0_1.length : Int)) = true := decide_eq_true c3
    clear c3
    by_cases c4 : ((l0_1.length : Int) : Int).toNat ≤ 281474976710656
    · rw [if_pos c4] at H
      have c4b0 := eq_true c4
      have c4b1 : decide (((l0_1.length : Int) : Int).toNat ≤ 281474976710656) = true := decide_eq_true c4
      clear c4
      obtain ⟨y107, hy107⟩ : ∃ y_ : List Bool, y_ = (List.replicate ((l0_1.length : Int) : Int).toNat false) := ⟨_, rfl⟩
      replace H : (if 0 ≤ a1 then (if a1 < (l0_1.length : Int) then (peneloperef16_reach.l0 k y107 ((rd_T39 l0_1 a1).f0) (((rd_T39 l0_1 a1).f0).length : Int) 0 a0_0 l0_1) else (none)) else (none)) = some r := by first | (rw [hy107]; with_reducible exact H) | (have H2_ := (Option.bind_some _ _).symm.trans H; rw [hy107]; with_reducible exact H2_) | (have H2_ := (Option.bind_some _ _).symm.trans H; with_reducible exact H2_) | with_reducible exact H | (rw [hy107]; exact H) | exact H
      have Ny107 := Aside0.mk hy107
      clear hy107
      by_cases c5 : 0 ≤ a1
      · rw [if_pos c5] at H
        have c5b0 : decide (0 ≤ a1) = true := decide_eq_true c5
        clear c5
        by_cases c6 : a1 < (l0_1.length : Int)
        · rw [if_pos c6] at H
          have c6b0 : decide (a1 < (l0_1.length : Int)) = true := decide_eq_true c6
          clear c6
          have H' := Aside0.mk H
          clear H
          go_enter Try.func23, Try.ntmps23
          go_wp2_with (first | ((with_reducible refine gate_dst (N := 2) rfl ?_); refine box_event ?hg (N := 2) ?hd (cs := #[.string a0_0, .slice A0_1 l0_1.length c0_1]) (t := 24) ?hr ?_; (case hd => rfl); (case hg => rfl); (case hr => first | (go_simp; done) | (go_simp; rfl)); intro gb106 hg w7 hbox hb; have n0_ := Aside0.mk (below_step (by repeat (first | (with_reducible first | exact HB.out | apply below_alloc | apply pw_below_drewN | apply below_drew1) | exact HB.out)) hb); have n1_ := Aside0.mk (hbox); have n2_ := Aside0.mk ((by rw [hg]; exact (below_size (by repeat (first | (with_reducible first | exact HB.out | apply below_alloc | apply pw_below_drewN | apply below_drew1) | exact HB.out))) : w.heap.size ≤ gb106)); have n3_ := Aside0.mk ((by rw [hg]; exact (below_size (by repeat (first | (with_reducible first | exact HB.out | apply below_alloc | apply pw_below_drewN | apply below_drew1) | exact HB.out))) : w.heap.size ≤ gb106)); clear HB; have HB := n0_; have BK106 := n1_; have GW106 := n2_; have GE106 := n3_; clear n0_ n1_ n2_ n3_; clear hb hbox hg; have hcz8_0 : w7.cell? ⟨gb106, 0, none⟩ = some (.string a0_0) := (blk_cell BK106.out 0).trans rfl; have hcz8_1 : w7.cell? ⟨gb106, 1, none⟩ = some (.slice A0_1 l0_1.length c0_1) := (blk_cell BK106.out 1).trans rfl; have hfz8_0 := blk_frozen BK106.out 0; have hfz8_1 := blk_frozen BK106.out 1) | ((with_reducible refine gate_dst (N := 16) rfl ?_); refine Kd.R_make Kd.bool _ 4 rfl (N := 16) rfl 25 _ _ rfl (l0_1.length : Int) rfl rfl Try.underlying25 (.bool false) 1 info4 rfl (by decide) (by omega) false (ok := fun _ => True) (okp := fun _ => True) rfl (fun _ hk => hk) trivial (of_decide_eq_true (by first | (with_reducible assumption) | assumption)) (Nat.le_trans (Nat.mul_le_mul_right _ (of_decide_eq_true (by first | (with_reducible assumption) | assumption) : (l0_1.length : Int).toNat ≤ 281474976710656)) (by omega)) (Below.refl _ _) (Nat.le_refl _) ?_; intro v108 w9 ho10 hb hg_ hnew_; clear hg_ hnew_; (first | rw [← Ny107.out] at ho10 | (simp only [Int.reduceToNat] at ho10; rw [← Ny107.out] at ho10)); have n0_ := Aside0.mk (Kd.R_lower ho10 (below_size (by repeat (first | (with_reducible first | exact HB.out | apply below_alloc | apply pw_below_drewN | apply below_drew1 | refine below_set ?_ GE106.out) | exact HB.out)))); have n1_ := Aside0.mk (blk_below (g := gb106) (o := .cells #[.string a0_0, .slice A0_1 l0_1.length c0_1] 24 (0, 0)) (by (with_reducible repeat (first | refine blk_drewN ?_ _ | refine blk_drew ?_ | refine blk_alloc ?_ _)); exact BK106.out) hb); have n2_ := Aside0.mk (below_step (by repeat (first | (with_reducible first | exact HB.out | apply below_alloc | apply pw_below_drewN | apply below_drew1 | refine below_set ?_ GE106.out) | exact HB.out)) hb); clear BK106; clear HB; have HO109 := n0_; have BK106 := n1_; have HB := n2_; clear n0_ n1_ n2_; clear hb ho10; have hcz11_0 : w9.cell? ⟨gb106, 0, none⟩ = some (.string a0_0) := (blk_cell BK106.out 0).trans rfl; have hcz11_1 : w9.cell? ⟨gb106, 1, none⟩ = some (.slice A0_1 l0_1.length c0_1) := (blk_cell BK106.out 1).trans rfl; have hfz11_0 := blk_frozen BK106.out 0; have hfz11_1 := blk_frozen BK106.out 1; have p110 : 0 ≤ (a1 : Int) := of_decide_eq_true (by first | (with_reducible assumption) | assumption); have q110 : a1 < (l0_1.length : Int) := of_decide_eq_true (by first | (with_reducible assumption) | assumption); obtain ⟨ad110, A110_0, c110_0, e110, hx110_0, hx110_1, hx110_2, hx110_3, hl110_0, hi110_0⟩ := at_T39 HR0_1.out a1 p110 q110; cases e110; replace hx110_0 := (HB.out.cell (World.block_lt_of_cell? w _ hx110_0)).trans hx110_0; replace hx110_1 := (HB.out.cell (World.block_lt_of_cell? w _ hx110_1)).trans hx110_1; replace hx110_2 := (HB.out.cell (World.block_lt_of_cell? w _ hx110_2)).trans hx110_2; replace hx110_3 := (HB.out.cell (World.block_lt_of_cell? w _ hx110_3)).trans hx110_3; have HR110_0 := Aside0.mk hi110_0; have HC110_0 := Aside0.mk hl110_0; clear hi110_0 hl110_0; replace p110 := eq_true p110; replace q110 := eq_true q110))
          go_loopg [24] k (fun kq v24 w' => ∃ (x5_1 : List Bool) (x24_1 : Int), v24 = .int .i64 x24_1 ∧ Aside0 (peneloperef16_reach.l0 kq x5_1 ((rd_T39 l0_1 a1).f0) (((rd_T39 l0_1 a1).f0).length : Int) x24_1 a0_0 l0_1 = some r) ∧ Aside0 (kq ≤ k) ∧ Aside0 (Kd.R Kd.bool 4 w' w.heap.size (fun _ => True) v108 x5_1) ∧ Aside0 (w'.heap[gb106]? = some (.cells #[.string a0_0, (.slice (some ad110) l0_1.length c0_1)] 24 (0, 0))) ∧ Aside0 (Below w.heap.size w w'))
          case atStart => exact ⟨(y107), (0), (by first | rfl | (simp; done) | (simp [*]; done)), H', ⟨Nat.le_refl _⟩, ⟨by (with_reducible repeat (first | apply Kd.R_alloc | apply Kd.R_drewN | apply Kd.R_drew)); exact HO109.out⟩, ⟨by (with_reducible repeat (first | refine blk_drewN ?_ _ | refine blk_drew ?_ | refine blk_alloc ?_ _)); exact BK106.out⟩, ⟨by repeat (first | (with_reducible first | exact HB.out | apply below_alloc | apply pw_below_drewN | apply below_drew1 | refine below_set ?_ GE106.out) | exact HB.out)⟩⟩
          case round =>
            clear H'
            try clear c1
            try clear p1
            try clear q1
            try clear hx1
            try clear c2
            try clear p2
            try clear c3
            try clear c3b0
            try clear c3b1
            try clear c4
            try clear c4b0
            try clear c4b1
            try clear c5
            try clear c5b0
            try clear c6
            try clear c6b0
            try clear c11
            try clear p11
            try clear q11
            try clear hx11
            try clear hcz11_0
            try clear hcz11_1
            try clear hcz8_0
            try clear hcz8_1
            try clear hfz11_0
            try clear hfz11_1
            try clear hfz8_0
            try clear hfz8_1
            try clear hx110_0
            try clear hx110_1
            try clear hx110_2
            try clear hx110_3
            try clear p110
            try clear q110
            obtain ⟨x5_1, x24_1, rfl, HA, HK1, HO_5, BK106, HB⟩ := hrel
            cases gk with
            | zero => exact absurd HA.out (by simp [peneloperef16_reach.l0])
            | succ k1 =>
              have H := HA.out
              clear HA
              simp only [peneloperef16_reach.l0] at H
              by_cases c12 : x24_1 < (((rd_T39 l0_1 a1).f0).length : Int)
              · rw [if_pos c12] at H
                have c12b0 : decide (x24_1 < (((rd_T39 l0_1 a1).f0).length : Int)) = true := decide_eq_true c12
                clear c12
                by_cases c13 : 0 ≤ x24_1
                · rw [if_pos c13] at H
                  have c13b0 : decide (0 ≤ x24_1) = true := decide_eq_true c13
                  clear c13
                  by_cases c14 : x24_1 < (((rd_T39 l0_1 a1).f0).length : Int)
                  · rw [if_pos c14] at H
                    have c14b0 : decide (x24_1 < (((rd_T39 l0_1 a1).f0).length : Int)) = true := decide_eq_true c14
                    clear c14
                    by_cases c15 : 0 ≤ (rd ((rd_T39 l0_1 a1).f0) x24_1)
                    · rw [if_pos c15] at H
                      have c15b0 : decide (0 ≤ (rd ((rd_T39 l0_1 a1).f0) x24_1)) = true := decide_eq_true c15
                      clear c15
                      by_cases c16 : (rd ((rd_T39 l0_1 a1).f0) x24_1) < (x5_1.length : Int)
                      · rw [if_pos c16] at H
                        have c16b0 : decide ((rd ((rd_T39 l0_1 a1).f0) x24_1) < (x5_1.length : Int)) = true := decide_eq_true c16
                        clear c16
                        obtain ⟨y112, hy112⟩ : ∃ y_ : List Bool, y_ = (x5_1.set ((rd ((rd_T39 l0_1 a1).f0) x24_1) : Int).toNat true) := ⟨_, rfl⟩
                        replace H : (peneloperef16_reach.l0 k1 y112 ((rd_T39 l0_1 a1).f0) (((rd_T39 l0_1 a1).f0).length : Int) (wrap64 (x24_1 + 1)) a0_0 l0_1) = some r := by first | (rw [hy112]; with_reducible exact H) | (have H2_ := (Option.bind_some _ _).symm.trans H; rw [hy112]; with_reducible exact H2_) | (have H2_ := (Option.bind_some _ _).symm.trans H; with_reducible exact H2_) | with_reducible exact H | (rw [hy112]; exact H) | exact H
                        have Ny112 := Aside0.mk hy112
                        clear hy112
                        have H' := Aside0.mk H
                        clear H
                        have p111 : 0 ≤ (x24_1 : Int) := of_decide_eq_true (by first | (with_reducible assumption) | assumption)
                        have q111 : x24_1 < (((rd_T39 l0_1 a1).f0).length : Int) := of_decide_eq_true (by first | (with_reducible assumption) | assumption)
                        obtain ⟨ad111, e111, hx111_0⟩ := Kd.at_int HR110_0.out x24_1 p111 q111
                        cases e111
                        replace hx111_0 := (HB.out.cell (World.block_lt_of_cell? w _ hx111_0)).trans hx111_0
                        replace p111 := eq_true p111
                        replace q111 := eq_true q111
                        have p17 : 0 ≤ ((rd ((rd_T39 l0_1 a1).f0) x24_1) : Int) := of_decide_eq_true (by first | (with_reducible assumption) | assumption)
                        have q17 : ((rd ((rd_T39 l0_1 a1).f0) x24_1) : Int) < ((x5_1.length : Int) : Int) := of_decide_eq_true (by first | (with_reducible assumption) | assumption)
                        obtain ⟨go17, co17, eo17, gb17, gl17, cl17, HG17⟩ := Kd.R_form HO_5.out (by omega)
                        (first | cases eo17 | (injection eo17 with ea_ en_ ec_; (first | subst ea_ | (injection ea_ with ea_; subst ea_)); subst ec_; clear en_))
                        have GB17 := Aside0.mk gb17
                        have GG17 := Aside0.mk HG17
                        clear gb17 gl17 HG17
                        obtain ⟨hx17_0, hf17_0⟩ := Kd.R_celln false HO_5.out ((rd ((rd_T39 l0_1 a1).f0) x24_1) : Int) p17 q17
                        replace p17 := eq_true p17
                        replace q17 := eq_true q17
                        have HP18 := Kd.R_putg HO_5.out ((rd ((rd_T39 l0_1 a1).f0) x24_1) : Int) true
                        go_wp2_with (first | ((with_reducible refine gate_store (t := 4) (p := 30) rfl ?_); refine store_event (t := 4) (p := 30) (v := ?vo_w19) (w1 := (wr.setCell ⟨go17, ((rd ((rd_T39 l0_1 a1).f0) x24_1) : Int).toNat, none⟩ (.bool true))) ?hg ?ho ?hn ?hr ?_; (case ho => rfl); (case hg => rfl); (case hn => rfl); (case hr => first | (go_simp; done) | (go_simp; rfl)); intro w19 hw; have hg : wr.grownBy w19 (some go17) := (by rw [hw]; exact HP18.2); have hp_ : Kd.R Kd.bool 4 w19 w.heap.size (fun _ => True) (.slice (some ⟨go17, 0, none⟩) x5_1.length co17) y112 := (by rw [hw, Ny112.out]; exact HP18.1); clear HP18; have n0_ := Aside0.mk (hp_); have n1_ := Aside0.mk (blk_grown (g := gb106) (o := .cells #[.string a0_0, .slice (some ad110) l0_1.length c0_1] 24 (0, 0)) (by (with_reducible repeat (first | refine blk_drewN ?_ _ | refine blk_drew ?_ | refine blk_alloc ?_ _)); exact BK106.out) hg (Kd.R_ne HO_5.out BK106.out (by decide))); have n2_ := Aside0.mk ((by rw [hw]; exact below_set (HB.out) GB17.out : Below w.heap.size w w19)); clear HO_5; clear BK106; clear HB; have HO_5 := n0_; have BK106 := n1_; have HB := n2_; clear n0_ n1_ n2_; clear hg hw hp_))
                        go_roundg k1
                        case measure => have := HK1.out; omega
                        case rel => exact ⟨(y112), (wrap64 (x24_1 + 1)), (by first | rfl | (simp; done) | (simp [*]; done)), H', ⟨by have := HK1.out; omega⟩, ⟨by (with_reducible repeat (first | apply Kd.R_alloc | apply Kd.R_drewN | apply Kd.R_drew)); exact HO_5.out⟩, ⟨by (with_reducible repeat (first | refine blk_drewN ?_ _ | refine blk_drew ?_ | refine blk_alloc ?_ _)); exact BK106.out⟩, ⟨by repeat (first | (with_reducible first | exact HB.out | apply below_alloc | apply pw_below_drewN | apply below_drew1 | refine below_set ?_ GE106.out) | exact HB.out)⟩⟩
                      · rw [if_neg c16] at H
                        exact absurd H (by simp)
                    · rw [if_neg c15] at H
                      exact absurd H (by simp)
                  · rw [if_neg c14] at H
                    exact absurd H (by simp)
                · rw [if_neg c13] at H
                  exact absurd H (by simp)
              · rw [if_neg c12] at H
                have c12b0 : decide (x24_1 < (((rd_T39 l0_1 a1).f0).length : Int)) = false := decide_eq_false c12
                clear c12
                have H' := Aside0.mk H
                clear H
                go_wp2
                go_loopg [8] k1 (fun kq v8 w' => ∃ (x5_2 : List Bool) (x8_2 : Int), v8 = .int .i64 x8_2 ∧ Aside0 (peneloperef16_reach.l1 kq x5_2 x8_2 a0_0 l0_1 = some r) ∧ Aside0 (kq ≤ k1) ∧ Aside0 (Kd.R Kd.bool 4 w' w.heap.size (fun _ => True) v108 x5_2) ∧ Aside0 (w'.heap[gb106]? = some (.cells #[.string a0_0, (.slice (some ad110) l0_1.length c0_1)] 24 (0, 0))) ∧ Aside0 (Below w.heap.size w w'))
                case atStart => exact ⟨(x5_1), (0), (by first | rfl | (simp; done) | (simp [*]; done)), H', ⟨Nat.le_refl _⟩, ⟨by (with_reducible repeat (first | apply Kd.R_alloc | apply Kd.R_drewN | apply Kd.R_drew)); exact HO_5.out⟩, ⟨by (with_reducible repeat (first | refine blk_drewN ?_ _ | refine blk_drew ?_ | refine blk_alloc ?_ _)); exact BK106.out⟩, ⟨by repeat (first | (with_reducible first | exact HB.out | apply below_alloc | apply pw_below_drewN | apply below_drew1 | refine below_set ?_ GE106.out) | exact HB.out)⟩⟩
                case round =>
                  clear H'
                  try clear c1
                  try clear p1
                  try clear q1
                  try clear hx1
                  try clear c2
                  try clear p2
                  try clear c3
                  try clear c3b0
                  try clear c3b1
                  try clear c4
                  try clear c4b0
                  try clear c4b1
                  try clear c5
                  try clear c5b0
                  try clear c6
                  try clear c6b0
                  try clear p6
                  try clear c11
                  try clear p11
                  try clear q11
                  try clear hx11
                  try clear c12
                  try clear c12b0
                  try clear c13
                  try clear c13b0
                  try clear c14
                  try clear c14b0
                  try clear c15
                  try clear c15b0
                  try clear c16
                  try clear c16b0
                  try clear p17
                  try clear q17
                  try clear hx17
                  try clear hf17
                  try clear hcz11_0
                  try clear hcz11_1
                  try clear hcz8_0
                  try clear hcz8_1
                  try clear hfz11_0
                  try clear hfz11_1
                  try clear hfz8_0
                  try clear hfz8_1
                  try clear hx110_0
                  try clear hx110_1
                  try clear hx110_2
                  try clear hx110_3
                  try clear hx111_0
                  try clear hx17_0
                  try clear p1
                  try clear p11
                  try clear p110
                  try clear p111
                  try clear p17
                  try clear p2
                  try clear q1
                  try clear q11
                  try clear q110
                  try clear q111
                  try clear q17
                  obtain ⟨x5_2, x8_2, rfl, HA, HK2, HO_5, BK106, HB⟩ := hrel
                  cases gk with
                  | zero => exact absurd HA.out (by simp [peneloperef16_reach.l1])
                  | succ k2 =>
                    have H := HA.out
                    clear HA
                    simp only [peneloperef16_reach.l1] at H
                    by_cases c20 : x8_2 < (l0_1.length : Int)
                    · rw [if_pos c20] at H
                      have c20b0 : decide (x8_2 < (l0_1.length : Int)) = true := decide_eq_true c20
                      clear c20
                      have H' := Aside0.mk H
                      clear H
                      have hcz21_0 : wr.cell? ⟨gb106, 0, none⟩ = some (.string a0_0) := (blk_cell BK106.out 0).trans rfl
                      have hcz21_1 : wr.cell? ⟨gb106, 1, none⟩ = some (.slice (some ad110) l0_1.length c0_1) := (blk_cell BK106.out 1).trans rfl
                      have hfz21_0 := blk_frozen BK106.out 0
                      have hfz21_1 := blk_frozen BK106.out 1
                      go_wp2
                      go_loopg [42] k2 (fun kq v42 w' => ∃ (x5_3 : List Bool) (x42_3 : Int), v42 = .int .i64 x42_3 ∧ Aside0 (peneloperef16_reach.l2 kq x5_3 x8_2 l0_1 (l0_1.length : Int) x42_3 a0_0 l0_1 = some r) ∧ Aside0 (kq ≤ k2) ∧ Aside0 (Kd.R Kd.bool 4 w' w.heap.size (fun _ => True) v108 x5_3) ∧ Aside0 (w'.heap[gb106]? = some (.cells #[.string a0_0, (.slice (some ad110) l0_1.length c0_1)] 24 (0, 0))) ∧ Aside0 (Below w.heap.size w w'))
                      case atStart => exact ⟨(x5_2), (0), (by first | rfl | (simp; done) | (simp [*]; done)), H', ⟨Nat.le_refl _⟩, ⟨by (with_reducible repeat (first | apply Kd.R_alloc | apply Kd.R_drewN | apply Kd.R_drew)); exact HO_5.out⟩, ⟨by (with_reducible repeat (first | refine blk_drewN ?_ _ | refine blk_drew ?_ | refine blk_alloc ?_ _)); exact BK106.out⟩, ⟨by repeat (first | (with_reducible first | exact HB.out | apply below_alloc | apply pw_below_drewN | apply below_drew1 | refine below_set ?_ GE106.out) | exact HB.out)⟩⟩
                      case round =>
                        clear H'
                        try clear c1
                        try clear p1
                        try clear q1
                        try clear hx1
                        try clear c2
                        try clear p2
                        try clear c3
                        try clear c3b0
                        try clear c3b1
                        try clear c4
                        try clear c4b0
                        try clear c4b1
                        try clear c5
                        try clear c5b0
                        try clear c6
                        try clear c6b0
                        try clear p6
                        try clear c11
                        try clear p11
                        try clear q11
                        try clear hx11
                        try clear c12
                        try clear c12b0
                        try clear c13
                        try clear c13b0
                        try clear c14
                        try clear c14b0
                        try clear c15
                        try clear c15b0
                        try clear c16
                        try clear c16b0
                        try clear p17
                        try clear q17
                        try clear hx17
                        try clear hf17
                        try clear c20
                        try clear c20b0
                        try clear hcz11_0
                        try clear hcz11_1
                        try clear hcz21_0
                        try clear hcz21_1
                        try clear hcz8_0
                        try clear hcz8_1
                        try clear hfz11_0
                        try clear hfz11_1
                        try clear hfz21_0
                        try clear hfz21_1
                        try clear hfz8_0
                        try clear hfz8_1
                        try clear hx110_0
                        try clear hx110_1
                        try clear hx110_2
                        try clear hx110_3
                        try clear hx111_0
                        try clear hx17_0
                        try clear p1
                        try clear p11
                        try clear p110
                        try clear p111
                        try clear p17
                        try clear p2
                        try clear p6
                        try clear q1
                        try clear q11
                        try clear q110
                        try clear q111
                        try clear q17
                        obtain ⟨x5_3, x42_3, rfl, HA, HK3, HO_5, BK106, HB⟩ := hrel
                        cases gk with
                        | zero => exact absurd HA.out (by simp [peneloperef16_reach.l2])
                        | succ k3 =>
                          have H := HA.out
                          clear HA
                          simp only [peneloperef16_reach.l2] at H
                          by_cases c22 : x42_3 < (l0_1.length : Int)
                          · rw [if_pos c22] at H
                            have c22b0 : decide (x42_3 < (l0_1.length : Int)) = true := decide_eq_true c22
                            clear c22
                            by_cases c23 : 0 ≤ x42_3
                            · rw [if_pos c23] at H
                              have c23b0 : decide (0 ≤ x42_3) = true := decide_eq_true c23
                              clear c23
                              by_cases c24 : x42_3 < (l0_1.length : Int)
                              · rw [if_pos c24] at H
                                have c24b0 : decide (x42_3 < (l0_1.length : Int)) = true := decide_eq_true c24
                                clear c24
                                by_cases c25 : x42_3 < (x5_3.length : Int)
                                · rw [if_pos c25] at H
                                  have c25b0 : decide (x42_3 < (x5_3.length : Int)) = true := decide_eq_true c25
                                  clear c25
                                  obtain ⟨bq26, hbq26⟩ : ∃ b_ : Bool, b_ = (rdOf false x5_3 x42_3) := ⟨_, rfl⟩
                                  replace H : (if bq26 = true then (peneloperef16_reach.l3 k3 x5_3 x8_2 l0_1 (l0_1.length : Int) x42_3 ((rd_T39 l0_1 x42_3).f0) (((rd_T39 l0_1 x42_3).f0).length : Int) 0 a0_0 l0_1) else (peneloperef16_reach.l2 k3 x5_3 x8_2 l0_1 (l0_1.length : Int) (wrap64 (x42_3 + 1)) a0_0 l0_1)) = some r := by rw [← hbq26] at H; exact H
                                  have Nbq26 := Aside0.mk hbq26
                                  clear hbq26
                                  by_cases c27 : bq26 = true
                                  · subst c27
                                    have H1 : (peneloperef16_reach.l3 k3 x5_3 x8_2 l0_1 (l0_1.length : Int) x42_3 ((rd_T39 l0_1 x42_3).f0) (((rd_T39 l0_1 x42_3).f0).length : Int) 0 a0_0 l0_1) = some r := by rw [if_pos rfl] at H; exact H
                                    clear H
                                    have H := H1
                                    clear H1
                                    have H' := Aside0.mk H
                                    clear H
                                    have p113 : 0 ≤ (x42_3 : Int) := of_decide_eq_true (by first | (with_reducible assumption) | assumption)
                                    have q113 : x42_3 < (l0_1.length : Int) := of_decide_eq_true (by first | (with_reducible assumption) | assumption)
                                    obtain ⟨ad113, A113_0, c113_0, e113, hx113_0, hx113_1, hx113_2, hx113_3, hl113_0, hi113_0⟩ := at_T39 HR0_1.out x42_3 p113 q113
                                    obtain rfl : ad110 = ad113 := (by injection e113)
                                    replace hx113_0 := (HB.out.cell (World.block_lt_of_cell? w _ hx113_0)).trans hx113_0
                                    replace hx113_1 := (HB.out.cell (World.block_lt_of_cell? w _ hx113_1)).trans hx113_1
                                    replace hx113_2 := (HB.out.cell (World.block_lt_of_cell? w _ hx113_2)).trans hx113_2
                                    replace hx113_3 := (HB.out.cell (World.block_lt_of_cell? w _ hx113_3)).trans hx113_3
                                    have HR113_0 := Aside0.mk hi113_0
                                    have HC113_0 := Aside0.mk hl113_0
                                    clear hi113_0 hl113_0
                                    replace p113 := eq_true p113
                                    replace q113 := eq_true q113
                                    go_wp2_with (first | ((with_reducible refine gate_dst (N := 10) rfl ?_); refine box_event ?hg (N := 10) ?hd (cs := #[.slice none 0 0, .int .i64 0, .int .i64 0, .int .i64 0]) (t := 39) ?hr ?_; (case hd => rfl); (case hg => rfl); (case hr => first | (go_simp; done) | (go_simp; rfl)); intro gb114 hg w28 hbox hb; have n0_ := Aside0.mk (Kd.R_below (by (with_reducible repeat (first | apply Kd.R_alloc | apply Kd.R_drewN | apply Kd.R_drew)); exact HO_5.out) hb); have n1_ := Aside0.mk (blk_below (g := gb106) (o := .cells #[.string a0_0, .slice (some ad110) l0_1.length c0_1] 24 (0, 0)) (by (with_reducible repeat (first | refine blk_drewN ?_ _ | refine blk_drew ?_ | refine blk_alloc ?_ _)); exact BK106.out) hb); have n2_ := Aside0.mk (below_step (by repeat (first | (with_reducible first | exact HB.out | apply below_alloc | apply pw_below_drewN | apply below_drew1 | refine below_set ?_ GE106.out) | exact HB.out)) hb); have n3_ := Aside0.mk (hbox); have n4_ := Aside0.mk ((by rw [hg]; exact (below_size (by repeat (first | (with_reducible first | exact HB.out | apply below_alloc | apply pw_below_drewN | apply below_drew1 | refine below_set ?_ GE106.out) | exact HB.out))) : w.heap.size ≤ gb114)); have n5_ := Aside0.mk ((by rw [hg]; exact (below_size (by repeat (first | (with_reducible first | exact HB.out | apply below_alloc | apply pw_below_drewN | apply below_drew1 | refine below_set ?_ GE106.out) | exact HB.out))) : w.heap.size ≤ gb114)); have n6_ := Aside0.mk ((by rw [hg]; exact Nat.ne_of_lt (blk_lt (g := gb106) (o := .cells #[.string a0_0, .slice (some ad110) l0_1.length c0_1] 24 (0, 0)) (by (with_reducible repeat (first | refine blk_drewN ?_ _ | refine blk_drew ?_ | refine blk_alloc ?_ _)); exact BK106.out)) : gb106 ≠ gb114)); have n7_ := Aside0.mk ((by rw [hg]; exact Nat.ne_of_gt (blk_lt (g := gb106) (o := .cells #[.string a0_0, .slice (some ad110) l0_1.length c0_1] 24 (0, 0)) (by (with_reducible repeat (first | refine blk_drewN ?_ _ | refine blk_drew ?_ | refine blk_alloc ?_ _)); exact BK106.out)) : gb114 ≠ gb106)); clear HO_5; clear BK106; clear HB; have HO_5 := n0_; have BK106 := n1_; have HB := n2_; have BK114 := n3_; have GW114 := n4_; have GE114 := n5_; have NB106_114 := n6_; have NB114_106 := n7_; clear n0_ n1_ n2_ n3_ n4_ n5_ n6_ n7_; clear hb hbox hg; have hnb29 := NB114_106.out; have hnc29 := NB106_114.out; have hcz30_0 : w28.cell? ⟨gb114, 0, none⟩ = some (.slice none 0 0) := (blk_cell BK114.out 0).trans rfl; have hcz30_1 : w28.cell? ⟨gb114, 1, none⟩ = some (.int .i64 0) := (blk_cell BK114.out 1).trans rfl; have hcz30_2 : w28.cell? ⟨gb114, 2, none⟩ = some (.int .i64 0) := (blk_cell BK114.out 2).trans rfl; have hcz30_3 : w28.cell? ⟨gb114, 3, none⟩ = some (.int .i64 0) := (blk_cell BK114.out 3).trans rfl; have hfz30_0 := blk_frozen BK114.out 0; have hfz30_1 := blk_frozen BK114.out 1; have hfz30_2 := blk_frozen BK114.out 2; have hfz30_3 := blk_frozen BK114.out 3; obtain ⟨Ao31, co31, eo31⟩ := Kd.R_slice HO_5.out; subst eo31; have p115 : 0 ≤ (x42_3 : Int) := of_decide_eq_true (by first | (with_reducible assumption) | assumption); have q115 : x42_3 < (x5_3.length : Int) := of_decide_eq_true (by first | (with_reducible assumption) | assumption); obtain ⟨ad115, e115, hx115_0⟩ := Kd.at_bool (Kd.R_reads' HO_5.out).2.2 x42_3 p115 q115; (try rw [← Nbq26.out] at hx115_0); cases e115; have hn115_0 : ad115.block ≠ gb114 := Kd.own_blk (Kd.R_ne HO_5.out BK114.out (by decide)); have hn115_1 : ad115.block ≠ gb114 := Kd.own_blk (Kd.R_ne HO_5.out BK114.out (by decide)); have hn115_2 : ad115.block ≠ gb114 := Kd.own_blk (Kd.R_ne HO_5.out BK114.out (by decide)); have hn115_3 : ad115.block ≠ gb114 := Kd.own_blk (Kd.R_ne HO_5.out BK114.out (by decide)); replace hx115_0 := (cell_far (p := ⟨gb114, 0, none⟩) (by first | (rw [add_block]; exact hn115_0) | (show (Addr.add _ _).block ≠ _; rw [add_block]; exact hn115_0) | exact hn115_0) (.slice A113_0 ((rd_T39 l0_1 x42_3).f0).length c113_0)).trans hx115_0; replace hx115_0 := (cell_far (p := ⟨gb114, 1, none⟩) (by first | (rw [add_block]; exact hn115_1) | (show (Addr.add _ _).block ≠ _; rw [add_block]; exact hn115_1) | exact hn115_1) (.int .i64 ((rd_T39 l0_1 x42_3).f1))).trans hx115_0; replace hx115_0 := (cell_far (p := ⟨gb114, 2, none⟩) (by first | (rw [add_block]; exact hn115_2) | (show (Addr.add _ _).block ≠ _; rw [add_block]; exact hn115_2) | exact hn115_2) (.int .i64 ((rd_T39 l0_1 x42_3).f2))).trans hx115_0; replace hx115_0 := (cell_far (p := ⟨gb114, 3, none⟩) (by first | (rw [add_block]; exact hn115_3) | (show (Addr.add _ _).block ≠ _; rw [add_block]; exact hn115_3) | exact hn115_3) (.int .i64 ((rd_T39 l0_1 x42_3).f3))).trans hx115_0; clear hn115_0; clear hn115_1; clear hn115_2; clear hn115_3; replace p115 := eq_true p115; replace q115 := eq_true q115))
                                    go_loopg [54] k3 (fun kq v54 w' => ∃ (x5_4 : List Bool) (x54_4 : Int), v54 = .int .i64 x54_4 ∧ Aside0 (peneloperef16_reach.l3 kq x5_4 x8_2 l0_1 (l0_1.length : Int) x42_3 ((rd_T39 l0_1 x42_3).f0) (((rd_T39 l0_1 x42_3).f0).length : Int) x54_4 a0_0 l0_1 = some r) ∧ Aside0 (kq ≤ k3) ∧ Aside0 (Kd.R Kd.bool 4 w' w.heap.size (fun _ => True) (.slice (some ad115) x5_3.length co31) x5_4) ∧ Aside0 (w'.heap[gb106]? = some (.cells #[.string a0_0, (.slice (some ad110) l0_1.length c0_1)] 24 (0, 0))) ∧ Aside0 (w'.heap[gb114]? = some (.cells #[(.slice A113_0 ((rd_T39 l0_1 x42_3).f0).length c113_0), .int .i64 ((rd_T39 l0_1 x42_3).f1), .int .i64 ((rd_T39 l0_1 x42_3).f2), .int .i64 ((rd_T39 l0_1 x42_3).f3)] 39 (0, 0))) ∧ Aside0 (Below w.heap.size w w'))
                                    case atStart => exact ⟨(x5_3), (0), (by first | rfl | (simp; done) | (simp [*]; done)), H', ⟨Nat.le_refl _⟩, ⟨by (with_reducible repeat (first | apply Kd.R_alloc | apply Kd.R_drewN | apply Kd.R_drew)); exact Kd.R_mono (Kd.R_far (p := ⟨gb114, 3, none⟩) (Kd.R_far (p := ⟨gb114, 2, none⟩) (Kd.R_far (p := ⟨gb114, 1, none⟩) (Kd.R_far (p := ⟨gb114, 0, none⟩) (Kd.R_types HO_5.out BK114.out (by decide)) (fun _ hk => hk.2) (.slice A113_0 ((rd_T39 l0_1 x42_3).f0).length c113_0)) (fun _ hk => hk.2) (.int .i64 ((rd_T39 l0_1 x42_3).f1))) (fun _ hk => hk.2) (.int .i64 ((rd_T39 l0_1 x42_3).f2))) (fun _ hk => hk.2) (.int .i64 ((rd_T39 l0_1 x42_3).f3))) (fun _ hk => trivial)⟩, ⟨by (with_reducible repeat (first | refine blk_drewN ?_ _ | refine blk_drew ?_ | refine blk_alloc ?_ _)); refine blk_far ?_ NB106_114.out _; (with_reducible repeat (first | refine blk_drewN ?_ _ | refine blk_drew ?_ | refine blk_alloc ?_ _)); refine blk_far ?_ NB106_114.out _; (with_reducible repeat (first | refine blk_drewN ?_ _ | refine blk_drew ?_ | refine blk_alloc ?_ _)); refine blk_far ?_ NB106_114.out _; (with_reducible repeat (first | refine blk_drewN ?_ _ | refine blk_drew ?_ | refine blk_alloc ?_ _)); refine blk_far ?_ NB106_114.out _; (with_reducible repeat (first | refine blk_drewN ?_ _ | refine blk_drew ?_ | refine blk_alloc ?_ _)); exact BK106.out⟩, ⟨by (with_reducible repeat (first | refine blk_drewN ?_ _ | refine blk_drew ?_ | refine blk_alloc ?_ _)); refine blk_put (cs := #[.slice A113_0 ((rd_T39 l0_1 x42_3).f0).length c113_0, .int .i64 ((rd_T39 l0_1 x42_3).f1), .int .i64 ((rd_T39 l0_1 x42_3).f2), .int .i64 0]) ?_ 3 _ rfl; (with_reducible repeat (first | refine blk_drewN ?_ _ | refine blk_drew ?_ | refine blk_alloc ?_ _)); refine blk_put (cs := #[.slice A113_0 ((rd_T39 l0_1 x42_3).f0).length c113_0, .int .i64 ((rd_T39 l0_1 x42_3).f1), .int .i64 0, .int .i64 0]) ?_ 2 _ rfl; (with_reducible repeat (first | refine blk_drewN ?_ _ | refine blk_drew ?_ | refine blk_alloc ?_ _)); refine blk_put (cs := #[.slice A113_0 ((rd_T39 l0_1 x42_3).f0).length c113_0, .int .i64 0, .int .i64 0, .int .i64 0]) ?_ 1 _ rfl; (with_reducible repeat (first | refine blk_drewN ?_ _ | refine blk_drew ?_ | refine blk_alloc ?_ _)); refine blk_put (cs := #[.slice none 0 0, .int .i64 0, .int .i64 0, .int .i64 0]) ?_ 0 _ rfl; (with_reducible repeat (first | refine blk_drewN ?_ _ | refine blk_drew ?_ | refine blk_alloc ?_ _)); exact BK114.out⟩, ⟨by repeat (first | (with_reducible first | exact HB.out | apply below_alloc | apply pw_below_drewN | apply below_drew1 | refine below_set ?_ GE106.out | refine below_set ?_ GE114.out) | exact HB.out)⟩⟩
                                    case round =>
                                      clear H'
                                      try clear c1
                                      try clear p1
                                      try clear q1
                                      try clear hx1
                                      try clear c2
                                      try clear p2
                                      try clear q2
                                      try clear c3
                                      try clear c3b0
                                      try clear c3b1
                                      try clear c4
                                      try clear c4b0
                                      try clear c4b1
                                      try clear c5
                                      try clear c5b0
                                      try clear c6
                                      try clear c6b0
                                      try clear p6
                                      try clear c11
                                      try clear p11
                                      try clear q11
                                      try clear hx11
                                      try clear c12
                                      try clear c12b0
                                      try clear c13
                                      try clear c13b0
                                      try clear c14
                                      try clear c14b0
                                      try clear c15
                                      try clear c15b0
                                      try clear c16
                                      try clear c16b0
                                      try clear p17
                                      try clear q17
                                      try clear hx17
                                      try clear hf17
                                      try clear c20
                                      try clear c20b0
                                      try clear c22
                                      try clear c22b0
                                      try clear c23
                                      try clear c23b0
                                      try clear c24
                                      try clear c24b0
                                      try clear c25
                                      try clear c25b0
                                      try clear q26
                                      try clear c27
                                      try clear c29
                                      try clear hcz11_0
                                      try clear hcz11_1
                                      try clear hcz21_0
                                      try clear hcz21_1
                                      try clear hcz30_0
                                      try clear hcz30_1
                                      try clear hcz30_2
                                      try clear hcz30_3
                                      try clear hcz8_0
                                      try clear hcz8_1
                                      try clear hfz11_0
                                      try clear hfz11_1
                                      try clear hfz21_0
                                      try clear hfz21_1
                                      try clear hfz30_0
                                      try clear hfz30_1
                                      try clear hfz30_2
                                      try clear hfz30_3
                                      try clear hfz8_0
                                      try clear hfz8_1
                                      try clear hx110_0
                                      try clear hx110_1
                                      try clear hx110_2
                                      try clear hx110_3
                                      try clear hx111_0
                                      try clear hx113_0
                                      try clear hx113_1
                                      try clear hx113_2
                                      try clear hx113_3
                                      try clear hx115_0
                                      try clear hx17_0
                                      try clear p1
                                      try clear p11
                                      try clear p110
                                      try clear p111
                                      try clear p113
                                      try clear p115
                                      try clear p17
                                      try clear p2
                                      try clear p6
                                      try clear q1
                                      try clear q11
                                      try clear q110
                                      try clear q111
                                      try clear q113
                                      try clear q115
                                      try clear q17
                                      obtain ⟨x5_4, x54_4, rfl, HA, HK4, HO_5, BK106, BK114, HB⟩ := hrel
                                      have hl5_4 := (Kd.R_reads' HO_5.out).1
                                      rw [hl5_4] at HO_5
                                      (try simp only [hl5_4])
                                      (try simp only [hl5_4] at BK106)
                                      (try simp only [hl5_4] at BK114)
                                      cases gk with
                                      | zero => exact absurd HA.out (by simp [peneloperef16_reach.l3])
                                      | succ k4 =>
                                        have H := HA.out
                                        clear HA
                                        simp only [peneloperef16_reach.l3] at H
                                        by_cases c32 : x54_4 < (((rd_T39 l0_1 x42_3).f0).length : Int)
                                        · rw [if_pos c32] at H
                                          have c32b0 : decide (x54_4 < (((rd_T39 l0_1 x42_3).f0).length : Int)) = true := decide_eq_true c32
                                          clear c32
                                          by_cases c33 : 0 ≤ x54_4
                                          · rw [if_pos c33] at H
                                            have c33b0 : decide (0 ≤ x54_4) = true := decide_eq_true c33
                                            clear c33
                                            by_cases c34 : x54_4 < (((rd_T39 l0_1 x42_3).f0).length : Int)
                                            · rw [if_pos c34] at H
                                              have c34b0 : decide (x54_4 < (((rd_T39 l0_1 x42_3).f0).length : Int)) = true := decide_eq_true c34
                                              clear c34
                                              by_cases c35 : 0 ≤ (rd ((rd_T39 l0_1 x42_3).f0) x54_4)
                                              · rw [if_pos c35] at H
                                                have c35b0 : decide (0 ≤ (rd ((rd_T39 l0_1 x42_3).f0) x54_4)) = true := decide_eq_true c35
                                                clear c35
                                                by_cases c36 : (rd ((rd_T39 l0_1 x42_3).f0) x54_4) < (x5_4.length : Int)
                                                · rw [if_pos c36] at H
                                                  have c36b0 : decide ((rd ((rd_T39 l0_1 x42_3).f0) x54_4) < (x5_4.length : Int)) = true := decide_eq_true c36
                                                  clear c36
                                                  obtain ⟨y117, hy117⟩ : ∃ y_ : List Bool, y_ = (x5_4.set ((rd ((rd_T39 l0_1 x42_3).f0) x54_4) : Int).toNat true) := ⟨_, rfl⟩
                                                  replace H : (peneloperef16_reach.l3 k4 y117 x8_2 l0_1 (l0_1.length : Int) x42_3 ((rd_T39 l0_1 x42_3).f0) (((rd_T39 l0_1 x42_3).f0).length : Int) (wrap64 (x54_4 + 1)) a0_0 l0_1) = some r := by first | (rw [hy117]; with_reducible exact H) | (have H2_ := (Option.bind_some _ _).symm.trans H; rw [hy117]; with_reducible exact H2_) | (have H2_ := (Option.bind_some _ _).symm.trans H; with_reducible exact H2_) | with_reducible exact H | (rw [hy117]; exact H) | exact H
                                                  have Ny117 := Aside0.mk hy117
                                                  clear hy117
                                                  have H' := Aside0.mk H
                                                  clear H
                                                  have p116 : 0 ≤ (x54_4 : Int) := of_decide_eq_true (by first | (with_reducible assumption) | assumption)
                                                  have q116 : x54_4 < (((rd_T39 l0_1 x42_3).f0).length : Int) := of_decide_eq_true (by first | (with_reducible assumption) | assumption)
                                                  obtain ⟨ad116, e116, hx116_0⟩ := Kd.at_int HR113_0.out x54_4 p116 q116
                                                  cases e116
                                                  replace hx116_0 := (HB.out.cell (World.block_lt_of_cell? w _ hx116_0)).trans hx116_0
                                                  replace p116 := eq_true p116
                                                  replace q116 := eq_true q116
                                                  have p37 : 0 ≤ ((rd ((rd_T39 l0_1 x42_3).f0) x54_4) : Int) := of_decide_eq_true (by first | (with_reducible assumption) | assumption)
                                                  have q37 : ((rd ((rd_T39 l0_1 x42_3).f0) x54_4) : Int) < ((x5_4.length : Int) : Int) := of_decide_eq_true (by first | (with_reducible assumption) | assumption)
                                                  obtain ⟨go37, co37, eo37, gb37, gl37, cl37, HG37⟩ := Kd.R_form HO_5.out (by omega)
                                                  (first | cases eo37 | (injection eo37 with ea_ en_ ec_; (first | subst ea_ | (injection ea_ with ea_; subst ea_)); subst ec_; clear en_))
                                                  have GB37 := Aside0.mk gb37
                                                  have GG37 := Aside0.mk HG37
                                                  clear gb37 gl37 HG37
                                                  (first | simp only [add_plain] at hx115_0 | skip)
                                                  obtain ⟨hx37_0, hf37_0⟩ := Kd.R_celln false HO_5.out ((rd ((rd_T39 l0_1 x42_3).f0) x54_4) : Int) p37 q37
                                                  replace p37 := eq_true p37
                                                  replace q37 := eq_true q37
                                                  have HP38 := Kd.R_putg HO_5.out ((rd ((rd_T39 l0_1 x42_3).f0) x54_4) : Int) true
                                                  go_wp2_with (first | ((with_reducible refine gate_store (t := 4) (p := 60) rfl ?_); refine store_event (t := 4) (p := 60) (v := ?vo_w39) (w1 := (wr.setCell ⟨go37, ((rd ((rd_T39 l0_1 x42_3).f0) x54_4) : Int).toNat, none⟩ (.bool true))) ?hg ?ho ?hn ?hr ?_; (case ho => rfl); (case hg => rfl); (case hn => rfl); (case hr => first | (go_simp; done) | (go_simp; rfl)); intro w39 hw; have hg : wr.grownBy w39 (some go37) := (by rw [hw]; exact HP38.2); have hp_ : Kd.R Kd.bool 4 w39 w.heap.size (fun _ => True) (.slice (some ⟨go37, 0, none⟩) x5_4.length co31) y117 := (by rw [hw, Ny117.out]; exact HP38.1); clear HP38; have n0_ := Aside0.mk (hp_); have n1_ := Aside0.mk (blk_grown (g := gb106) (o := .cells #[.string a0_0, .slice (some ad110) l0_1.length c0_1] 24 (0, 0)) (by (with_reducible repeat (first | refine blk_drewN ?_ _ | refine blk_drew ?_ | refine blk_alloc ?_ _)); exact BK106.out) hg (Kd.R_ne HO_5.out BK106.out (by decide))); have n2_ := Aside0.mk (blk_grown (g := gb114) (o := .cells #[.slice (some ad116) ((rd_T39 l0_1 x42_3).f0).length c113_0, .int .i64 ((rd_T39 l0_1 x42_3).f1), .int .i64 ((rd_T39 l0_1 x42_3).f2), .int .i64 ((rd_T39 l0_1 x42_3).f3)] 39 (0, 0)) (by (with_reducible repeat (first | refine blk_drewN ?_ _ | refine blk_drew ?_ | refine blk_alloc ?_ _)); exact BK114.out) hg (Kd.R_ne HO_5.out BK114.out (by decide))); have n3_ := Aside0.mk ((by rw [hw]; exact below_set (HB.out) GB37.out : Below w.heap.size w w39)); clear HO_5; clear BK106; clear BK114; clear HB; have HO_5 := n0_; have BK106 := n1_; have BK114 := n2_; have HB := n3_; clear n0_ n1_ n2_ n3_; clear hg hw hp_))
                                                  (try simp only [← hl5_4])
                                                  go_roundg k4
                                                  case measure => have := HK1.out; have := HK2.out; have := HK3.out; have := HK4.out; omega
                                                  case rel => exact ⟨(y117), (wrap64 (x54_4 + 1)), (by first | rfl | (simp; done) | (simp [*]; done)), H', ⟨by have := HK1.out; have := HK2.out; have := HK3.out; have := HK4.out; omega⟩, ⟨by (try simp only [hl5_4]); (with_reducible repeat (first | apply Kd.R_alloc | apply Kd.R_drewN | apply Kd.R_drew)); exact HO_5.out⟩, ⟨by (try simp only [hl5_4]); (with_reducible repeat (first | refine blk_drewN ?_ _ | refine blk_drew ?_ | refine blk_alloc ?_ _)); exact BK106.out⟩, ⟨by (try simp only [hl5_4]); (with_reducible repeat (first | refine blk_drewN ?_ _ | refine blk_drew ?_ | refine blk_alloc ?_ _)); exact BK114.out⟩, ⟨by repeat (first | (with_reducible first | exact HB.out | apply below_alloc | apply pw_below_drewN | apply below_drew1 | refine below_set ?_ GE106.out | refine below_set ?_ GE114.out) | exact HB.out)⟩⟩
                                                · rw [if_neg c36] at H
                                                  exact absurd H (by simp)
                                              · rw [if_neg c35] at H
                                                exact absurd H (by simp)
                                            · rw [if_neg c34] at H
                                              exact absurd H (by simp)
                                          · rw [if_neg c33] at H
                                            exact absurd H (by simp)
                                        · rw [if_neg c32] at H
                                          have c32b0 : decide (x54_4 < (((rd_T39 l0_1 x42_3).f0).length : Int)) = false := decide_eq_false c32
                                          clear c32
                                          have H' := Aside0.mk H
                                          clear H
                                          go_wp2
                                          (try simp only [← hl5_4])
                                          go_roundg k4
                                          case measure => have := HK1.out; have := HK2.out; have := HK3.out; have := HK4.out; omega
                                          case rel => exact ⟨(x5_4), (wrap64 (x42_3 + 1)), (by first | rfl | (simp; done) | (simp [*]; done)), H', ⟨by have := HK1.out; have := HK2.out; have := HK3.out; have := HK4.out; omega⟩, ⟨by (try simp only [hl5_4]); (with_reducible repeat (first | apply Kd.R_alloc | apply Kd.R_drewN | apply Kd.R_drew)); exact HO_5.out⟩, ⟨by (try simp only [hl5_4]); (with_reducible repeat (first | refine blk_drewN ?_ _ | refine blk_drew ?_ | refine blk_alloc ?_ _)); exact BK106.out⟩, ⟨by repeat (first | (with_reducible first | exact HB.out | apply below_alloc | apply pw_below_drewN | apply below_drew1 | refine below_set ?_ GE106.out | refine below_set ?_ GE114.out) | exact HB.out)⟩⟩
                                  · replace c27 := Bool.eq_false_iff.mpr c27
                                    subst c27
                                    have H1 : (peneloperef16_reach.l2 k3 x5_3 x8_2 l0_1 (l0_1.length : Int) (wrap64 (x42_3 + 1)) a0_0 l0_1) = some r := by rw [if_neg (show ¬ (false = true) by decide)] at H; exact H
                                    clear H
                                    have H := H1
                                    clear H1
                                    have H' := Aside0.mk H
                                    clear H
                                    have p113 : 0 ≤ (x42_3 : Int) := of_decide_eq_true (by first | (with_reducible assumption) | assumption)
                                    have q113 : x42_3 < (l0_1.length : Int) := of_decide_eq_true (by first | (with_reducible assumption) | assumption)
                                    obtain ⟨ad113, A113_0, c113_0, e113, hx113_0, hx113_1, hx113_2, hx113_3, hl113_0, hi113_0⟩ := at_T39 HR0_1.out x42_3 p113 q113
                                    obtain rfl : ad110 = ad113 := (by injection e113)
                                    replace hx113_0 := (HB.out.cell (World.block_lt_of_cell? w _ hx113_0)).trans hx113_0
                                    replace hx113_1 := (HB.out.cell (World.block_lt_of_cell? w _ hx113_1)).trans hx113_1
                                    replace hx113_2 := (HB.out.cell (World.block_lt_of_cell? w _ hx113_2)).trans hx113_2
                                    replace hx113_3 := (HB.out.cell (World.block_lt_of_cell? w _ hx113_3)).trans hx113_3
                                    have HR113_0 := Aside0.mk hi113_0
                                    have HC113_0 := Aside0.mk hl113_0
                                    clear hi113_0 hl113_0
                                    replace p113 := eq_true p113
                                    replace q113 := eq_true q113
                                    go_wp2_with (first | ((with_reducible refine gate_dst (N := 10) rfl ?_); refine box_event ?hg (N := 10) ?hd (cs := #[.slice none 0 0, .int .i64 0, .int .i64 0, .int .i64 0]) (t := 39) ?hr ?_; (case hd => rfl); (case hg => rfl); (case hr => first | (go_simp; done) | (go_simp; rfl)); intro gb114 hg w40 hbox hb; have n0_ := Aside0.mk (Kd.R_below (by (with_reducible repeat (first | apply Kd.R_alloc | apply Kd.R_drewN | apply Kd.R_drew)); exact HO_5.out) hb); have n1_ := Aside0.mk (blk_below (g := gb106) (o := .cells #[.string a0_0, .slice (some ad110) l0_1.length c0_1] 24 (0, 0)) (by (with_reducible repeat (first | refine blk_drewN ?_ _ | refine blk_drew ?_ | refine blk_alloc ?_ _)); exact BK106.out) hb); have n2_ := Aside0.mk (below_step (by repeat (first | (with_reducible first | exact HB.out | apply below_alloc | apply pw_below_drewN | apply below_drew1 | refine below_set ?_ GE106.out) | exact HB.out)) hb); have n3_ := Aside0.mk (hbox); have n4_ := Aside0.mk ((by rw [hg]; exact (below_size (by repeat (first | (with_reducible first | exact HB.out | apply below_alloc | apply pw_below_drewN | apply below_drew1 | refine below_set ?_ GE106.out) | exact HB.out))) : w.heap.size ≤ gb114)); have n5_ := Aside0.mk ((by rw [hg]; exact (below_size (by repeat (first | (with_reducible first | exact HB.out | apply below_alloc | apply pw_below_drewN | apply below_drew1 | refine below_set ?_ GE106.out) | exact HB.out))) : w.heap.size ≤ gb114)); have n6_ := Aside0.mk ((by rw [hg]; exact Nat.ne_of_lt (blk_lt (g := gb106) (o := .cells #[.string a0_0, .slice (some ad110) l0_1.length c0_1] 24 (0, 0)) (by (with_reducible repeat (first | refine blk_drewN ?_ _ | refine blk_drew ?_ | refine blk_alloc ?_ _)); exact BK106.out)) : gb106 ≠ gb114)); have n7_ := Aside0.mk ((by rw [hg]; exact Nat.ne_of_gt (blk_lt (g := gb106) (o := .cells #[.string a0_0, .slice (some ad110) l0_1.length c0_1] 24 (0, 0)) (by (with_reducible repeat (first | refine blk_drewN ?_ _ | refine blk_drew ?_ | refine blk_alloc ?_ _)); exact BK106.out)) : gb114 ≠ gb106)); clear HO_5; clear BK106; clear HB; have HO_5 := n0_; have BK106 := n1_; have HB := n2_; have BK114 := n3_; have GW114 := n4_; have GE114 := n5_; have NB106_114 := n6_; have NB114_106 := n7_; clear n0_ n1_ n2_ n3_ n4_ n5_ n6_ n7_; clear hb hbox hg; have hnb41 := NB114_106.out; have hnc41 := NB106_114.out; have hcz42_0 : w40.cell? ⟨gb114, 0, none⟩ = some (.slice none 0 0) := (blk_cell BK114.out 0).trans rfl; have hcz42_1 : w40.cell? ⟨gb114, 1, none⟩ = some (.int .i64 0) := (blk_cell BK114.out 1).trans rfl; have hcz42_2 : w40.cell? ⟨gb114, 2, none⟩ = some (.int .i64 0) := (blk_cell BK114.out 2).trans rfl; have hcz42_3 : w40.cell? ⟨gb114, 3, none⟩ = some (.int .i64 0) := (blk_cell BK114.out 3).trans rfl; have hfz42_0 := blk_frozen BK114.out 0; have hfz42_1 := blk_frozen BK114.out 1; have hfz42_2 := blk_frozen BK114.out 2; have hfz42_3 := blk_frozen BK114.out 3; obtain ⟨Ao43, co43, eo43⟩ := Kd.R_slice HO_5.out; subst eo43; have p115 : 0 ≤ (x42_3 : Int) := of_decide_eq_true (by first | (with_reducible assumption) | assumption); have q115 : x42_3 < (x5_3.length : Int) := of_decide_eq_true (by first | (with_reducible assumption) | assumption); obtain ⟨ad115, e115, hx115_0⟩ := Kd.at_bool (Kd.R_reads' HO_5.out).2.2 x42_3 p115 q115; (try rw [← Nbq26.out] at hx115_0); cases e115; have hn115_0 : ad115.block ≠ gb114 := Kd.own_blk (Kd.R_ne HO_5.out BK114.out (by decide)); have hn115_1 : ad115.block ≠ gb114 := Kd.own_blk (Kd.R_ne HO_5.out BK114.out (by decide)); have hn115_2 : ad115.block ≠ gb114 := Kd.own_blk (Kd.R_ne HO_5.out BK114.out (by decide)); have hn115_3 : ad115.block ≠ gb114 := Kd.own_blk (Kd.R_ne HO_5.out BK114.out (by decide)); replace hx115_0 := (cell_far (p := ⟨gb114, 0, none⟩) (by first | (rw [add_block]; exact hn115_0) | (show (Addr.add _ _).block ≠ _; rw [add_block]; exact hn115_0) | exact hn115_0) (.slice A113_0 ((rd_T39 l0_1 x42_3).f0).length c113_0)).trans hx115_0; replace hx115_0 := (cell_far (p := ⟨gb114, 1, none⟩) (by first | (rw [add_block]; exact hn115_1) | (show (Addr.add _ _).block ≠ _; rw [add_block]; exact hn115_1) | exact hn115_1) (.int .i64 ((rd_T39 l0_1 x42_3).f1))).trans hx115_0; replace hx115_0 := (cell_far (p := ⟨gb114, 2, none⟩) (by first | (rw [add_block]; exact hn115_2) | (show (Addr.add _ _).block ≠ _; rw [add_block]; exact hn115_2) | exact hn115_2) (.int .i64 ((rd_T39 l0_1 x42_3).f2))).trans hx115_0; replace hx115_0 := (cell_far (p := ⟨gb114, 3, none⟩) (by first | (rw [add_block]; exact hn115_3) | (show (Addr.add _ _).block ≠ _; rw [add_block]; exact hn115_3) | exact hn115_3) (.int .i64 ((rd_T39 l0_1 x42_3).f3))).trans hx115_0; clear hn115_0; clear hn115_1; clear hn115_2; clear hn115_3; replace p115 := eq_true p115; replace q115 := eq_true q115))
                                    go_roundg k3
                                    case measure => have := HK1.out; have := HK2.out; have := HK3.out; omega
                                    case rel => exact ⟨(x5_3), (wrap64 (x42_3 + 1)), (by first | rfl | (simp; done) | (simp [*]; done)), H', ⟨by have := HK1.out; have := HK2.out; have := HK3.out; omega⟩, ⟨by (with_reducible repeat (first | apply Kd.R_alloc | apply Kd.R_drewN | apply Kd.R_drew)); exact Kd.R_mono (Kd.R_far (p := ⟨gb114, 3, none⟩) (Kd.R_far (p := ⟨gb114, 2, none⟩) (Kd.R_far (p := ⟨gb114, 1, none⟩) (Kd.R_far (p := ⟨gb114, 0, none⟩) (Kd.R_types HO_5.out BK114.out (by decide)) (fun _ hk => hk.2) (.slice A113_0 ((rd_T39 l0_1 x42_3).f0).length c113_0)) (fun _ hk => hk.2) (.int .i64 ((rd_T39 l0_1 x42_3).f1))) (fun _ hk => hk.2) (.int .i64 ((rd_T39 l0_1 x42_3).f2))) (fun _ hk => hk.2) (.int .i64 ((rd_T39 l0_1 x42_3).f3))) (fun _ hk => trivial)⟩, ⟨by (with_reducible repeat (first | refine blk_drewN ?_ _ | refine blk_drew ?_ | refine blk_alloc ?_ _)); refine blk_far ?_ NB106_114.out _; (with_reducible repeat (first | refine blk_drewN ?_ _ | refine blk_drew ?_ | refine blk_alloc ?_ _)); refine blk_far ?_ NB106_114.out _; (with_reducible repeat (first | refine blk_drewN ?_ _ | refine blk_drew ?_ | refine blk_alloc ?_ _)); refine blk_far ?_ NB106_114.out _; (with_reducible repeat (first | refine blk_drewN ?_ _ | refine blk_drew ?_ | refine blk_alloc ?_ _)); refine blk_far ?_ NB106_114.out _; (with_reducible repeat (first | refine blk_drewN ?_ _ | refine blk_drew ?_ | refine blk_alloc ?_ _)); exact BK106.out⟩, ⟨by repeat (first | (with_reducible first | exact HB.out | apply below_alloc | apply pw_below_drewN | apply below_drew1 | refine below_set ?_ GE106.out | refine below_set ?_ GE114.out) | exact HB.out)⟩⟩
                                · rw [if_neg c25] at H
                                  exact absurd H (by simp)
                              · rw [if_neg c24] at H
                                exact absurd H (by simp)
                            · rw [if_neg c23] at H
                              exact absurd H (by simp)
                          · rw [if_neg c22] at H
                            have c22b0 : decide (x42_3 < (l0_1.length : Int)) = false := decide_eq_false c22
                            clear c22
                            have H' := Aside0.mk H
                            clear H
                            go_wp2
                            go_roundg k3
                            case measure => have := HK1.out; have := HK2.out; have := HK3.out; omega
                            case rel => exact ⟨(x5_3), (wrap64 (x8_2 + 1)), (by first | rfl | (simp; done) | (simp [*]; done)), H', ⟨by have := HK1.out; have := HK2.out; have := HK3.out; omega⟩, ⟨by (with_reducible repeat (first | apply Kd.R_alloc | apply Kd.R_drewN | apply Kd.R_drew)); exact HO_5.out⟩, ⟨by (with_reducible repeat (first | refine blk_drewN ?_ _ | refine blk_drew ?_ | refine blk_alloc ?_ _)); exact BK106.out⟩, ⟨by repeat (first | (with_reducible first | exact HB.out | apply below_alloc | apply pw_below_drewN | apply below_drew1 | refine below_set ?_ GE106.out) | exact HB.out)⟩⟩
                    · rw [if_neg c20] at H
                      have c20b0 : decide (x8_2 < (l0_1.length : Int)) = false := decide_eq_false c20
                      clear c20
                      obtain rfl := Option.some.inj H
                      have hcz44_0 : wr.cell? ⟨gb106, 0, none⟩ = some (.string a0_0) := (blk_cell BK106.out 0).trans rfl
                      have hcz44_1 : wr.cell? ⟨gb106, 1, none⟩ = some (.slice (some ad110) l0_1.length c0_1) := (blk_cell BK106.out 1).trans rfl
                      have hfz44_0 := blk_frozen BK106.out 0
                      have hfz44_1 := blk_frozen BK106.out 1
                      go_wp2
                      go_ret
                      exact ⟨_, by first | rfl | (simp [errW_none, errW_some] <;> rfl) | (simp [*, errW_none, errW_some] <;> rfl), by (with_reducible repeat (first | apply Kd.R_alloc | apply Kd.R_drewN | apply Kd.R_drew)); exact HO_5.out, by repeat (first | (with_reducible first | exact HB.out | apply below_alloc | apply pw_below_drewN | apply below_drew1 | refine below_set ?_ GE106.out) | exact HB.out)⟩
        · rw [if_neg c6] at H
          exact absurd H (by simp)
      · rw [if_neg c5] at H
        exact absurd H (by simp)
    · rw [if_neg c4] at H
      exact absurd H (by simp)
  · rw [if_neg c3] at H
    exact absurd H (by simp)

end Go.Proofs.Ytbgmhcefjggpgaa.X
