-- laid by a program of this session (wip/tools/xprint.py), function by function; Lean checks it
import Derived.Test.YtbgmhcefjggpgaaXx0
namespace Go.Proofs.Ytbgmhcefjggpgaa.X
open Go.RowKit Go.Proofs.YtbgmhcefjggpgaaW.PrintWords Go.Proofs.YtbgmhcefjggpgaaW.PrintLast Go.Proofs.YtbgmhcefjggpgaaW.PrintMore
attribute [local go_sem] max2_int min2_int max_two min_two max_three min_three max_four min_four   -- for this text's walks alone
set_option linter.unusedVariables false
set_option linter.unusedSimpArgs false

/-! ### peneloperef16_IsFree: function 30 -/
def peneloperef16_IsFree.l0 : Nat → List Bool → List Int → Int → Int → Option (Bool)
  | 0, _, _, _, _ => none
  | k + 1, x1, x18, x19, x20 => if x20 < x19 then (if 0 ≤ x20 then (if x20 < (x18.length : Int) then (if 0 ≤ (rd x18 x20) then (if (rd x18 x20) < (x1.length : Int) then (if (rdOf false x1 (rd x18 x20) = true) then (peneloperef16_IsFree.l0 k x1 x18 x19 (wrap64 (x20 + 1))) else (some false)) else (none)) else (none)) else (none)) else (none)) else (some true)
def peneloperef16_IsFree.f (k : Nat) (a0_0 : ByteArray) (l0_1 : List (S39)) (l1 : List Bool) (a2 : Int) : Option (Bool) := if 0 ≤ a2 then (if a2 < (l1.length : Int) then (if rdOf false l1 a2 = true then (some false) else (if a2 < (l0_1.length : Int) then (peneloperef16_IsFree.l0 k l1 ((rd_T39 l0_1 a2).f0) (((rd_T39 l0_1 a2).f0).length : Int) 0) else (none))) else (none)) else (none)
theorem peneloperef16_IsFree.mono_l : ∀ k, (∀ y0 y1 y2 y3, LeO (peneloperef16_IsFree.l0 k y0 y1 y2 y3) (peneloperef16_IsFree.l0 (k + 1) y0 y1 y2 y3))
  | 0 => fun _ _ _ _ r h => by simp [peneloperef16_IsFree.l0] at h
  | k + 1 => by
    have ih0 := peneloperef16_IsFree.mono_l k
    · intro y0 y1 y2 y3
      unfold peneloperef16_IsFree.l0
      repeat' first
      | (with_reducible exact ih0 _ _ _ _)
      | (with_reducible exact LeO.refl _)
      | (with_reducible exact LeO.none _)
      | (with_reducible refine LeO.ite ?_ ?_)
      | (with_reducible refine LeO.bind ?_ (fun _ => ?_))
      | exact ih0 _ _ _ _
      | exact LeO.none _
      | refine LeO.ite ?_ ?_
      | refine LeO.bind ?_ (fun _ => ?_)
theorem peneloperef16_IsFree.mono : ∀ a0 a1 a2 a3 k, LeO (peneloperef16_IsFree.f k a0 a1 a2 a3) (peneloperef16_IsFree.f (k + 1) a0 a1 a2 a3) := by
  intro a0 a1 a2 a3 k
  have ih0 := peneloperef16_IsFree.mono_l k
  unfold peneloperef16_IsFree.f
  repeat' first
      | (with_reducible exact ih0 _ _ _ _)
      | (with_reducible exact LeO.refl _)
      | (with_reducible exact LeO.none _)
      | (with_reducible refine LeO.ite ?_ ?_)
      | (with_reducible refine LeO.bind ?_ (fun _ => ?_))
      | exact ih0 _ _ _ _
      | exact LeO.none _
      | refine LeO.ite ?_ ?_
      | refine LeO.bind ?_ (fun _ => ?_)
set_option maxHeartbeats 8000000 in
set_option maxRecDepth 100000 in
theorem peneloperef16_IsFree.calls (k : Nat) (a0_0 : ByteArray) (A0_1 : Option Addr) (c0_1 : Nat) (l0_1 : List (S39)) (A1 : Option Addr) (c1 : Nat) (l1 : List Bool) (a2 : Int) (r : Bool) (w : World) (hr0_1 : Kd.C k39 w A0_1 l0_1.length l0_1) (hc0_1 : l0_1.length ≤ c0_1) (hr1 : Kd.C Kd.bool w A1 l1.length l1) (hc1 : l1.length ≤ c1) (h : peneloperef16_IsFree.f k a0_0 l0_1 l1 a2 = some r) :
    Calls Try.prog 30 #[.agg #[.string a0_0, .slice A0_1 l0_1.length c0_1], .slice A1 l1.length c1, .int .i64 a2] w fun e w' => e = .returned (.bool r) ∧ Below w.heap.size w w' := by
  have hu24 := Try.underlying24
  have HR0_1 := Aside0.mk hr0_1
  have HC0_1 := Aside0.mk hc0_1
  clear hr0_1 hc0_1
  have HR1 := Aside0.mk hr1
  have HC1 := Aside0.mk hc1
  clear hr1 hc1
  have HB := Aside0.mk (Below.refl w.heap.size w)
  have H : (if 0 ≤ a2 then (if a2 < (l1.length : Int) then (if rdOf false l1 a2 = true then (some false) else (if a2 < (l0_1.length : Int) then (peneloperef16_IsFree.l0 k l1 ((rd_T39 l0_1 a2).f0) (((rd_T39 l0_1 a2).f0).length : Int) 0) else (none))) else (none)) else (none)) = some r := h
  clear h
  by_cases c4 : 0 ≤ a2
  · rw [if_pos c4] at H
    have c4b0 : decide (0 ≤ a2) = true := decide_eq_true c4
    clear c4
    by_cases c5 : a2 < (l1.length : Int)
    · rw [if_pos c5] at H
      have c5b0 : decide (a2 < (l1.length : Int)) = true := decide_eq_true c5
      clear c5
      obtain ⟨bq6, hbq6⟩ : ∃ b_ : Bool, b_ = (rdOf false l1 a2) := ⟨_, rfl⟩
      replace H : (if bq6 = true then (some false) else (if a2 < (l0_1.length : Int) then (peneloperef16_IsFree.l0 k l1 ((rd_T39 l0_1 a2).f0) (((rd_T39 l0_1 a2).f0).length : Int) 0) else (none))) = some r := by rw [← hbq6] at H; exact H
      have Nbq6 := Aside0.mk hbq6
      clear hbq6
      by_cases c7 : bq6 = true
      · subst c7
        have H1 : (some false) = some r := by rw [if_pos rfl] at H; exact H
        clear H
        have H := H1
        clear H1
        obtain rfl := Option.some.inj H
        go_enter Try.func30, Try.ntmps30
        go_wp2_with (first | ((with_reducible refine gate_dst (N := 3) rfl ?_); refine box_event ?hg (N := 3) ?hd (cs := #[.string a0_0, .slice A0_1 l0_1.length c0_1]) (t := 24) ?hr ?_; (case hd => rfl); (case hg => rfl); (case hr => first | (go_simp; done) | (go_simp; rfl)); intro gb160 hg w8 hbox hb; have n0_ := Aside0.mk (below_step (by repeat (first | (with_reducible first | exact HB.out | apply below_alloc | apply pw_below_drewN | apply below_drew1) | exact HB.out)) hb); have n1_ := Aside0.mk (hbox); have n2_ := Aside0.mk ((by rw [hg]; exact (below_size (by repeat (first | (with_reducible first | exact HB.out | apply below_alloc | apply pw_below_drewN | apply below_drew1) | exact HB.out))) : w.heap.size ≤ gb160)); have n3_ := Aside0.mk ((by rw [hg]; exact (below_size (by repeat (first | (with_reducible first | exact HB.out | apply below_alloc | apply pw_below_drewN | apply below_drew1) | exact HB.out))) : w.heap.size ≤ gb160)); clear HB; have HB := n0_; have BK160 := n1_; have GW160 := n2_; have GE160 := n3_; clear n0_ n1_ n2_ n3_; clear hb hbox hg; have p161 : 0 ≤ (a2 : Int) := of_decide_eq_true (by first | (with_reducible assumption) | assumption); have q161 : a2 < (l1.length : Int) := of_decide_eq_true (by first | (with_reducible assumption) | assumption); obtain ⟨ad161, e161, hx161_0⟩ := Kd.at_bool HR1.out a2 p161 q161; (try rw [← Nbq6.out] at hx161_0); cases e161; replace hx161_0 := (HB.out.cell (World.block_lt_of_cell? w _ hx161_0)).trans hx161_0; replace p161 := eq_true p161; replace q161 := eq_true q161))
        go_ret
        exact ⟨by first | rfl | (simp [errW_none, errW_some] <;> rfl) | (simp [*, errW_none, errW_some] <;> rfl), by repeat (first | (with_reducible first | exact HB.out | apply below_alloc | apply pw_below_drewN | apply below_drew1 | refine below_set ?_ GE160.out) | exact HB.out)⟩
      · replace c7 := Bool.eq_false_iff.mpr c7
        subst c7
        have H1 : (if a2 < (l0_1.length : Int) then (peneloperef16_IsFree.l0 k l1 ((rd_T39 l0_1 a2).f0) (((rd_T39 l0_1 a2).f0).length : Int) 0) else (none)) = some r := by rw [if_neg (show ¬ (false = true) by decide)] at H; exact H
        clear H
        have H := H1
        clear H1
        by_cases c9 : a2 < (l0_1.length : Int)
        · rw [if_pos c9] at H
          have c9b0 : decide (a2 < (l0_1.length : Int)) = true := decide_eq_true c9
          clear c9
          have H' := Aside0.mk H
          clear H
          go_enter Try.func30, Try.ntmps30
          go_wp2_with (first | ((with_reducible refine gate_dst (N := 3) rfl ?_); refine box_event ?hg (N := 3) ?hd (cs := #[.string a0_0, .slice A0_1 l0_1.length c0_1]) (t := 24) ?hr ?_; (case hd => rfl); (case hg => rfl); (case hr => first | (go_simp; done) | (go_simp; rfl)); intro gb160 hg w10 hbox hb; have n0_ := Aside0.mk (below_step (by repeat (first | (with_reducible first | exact HB.out | apply below_alloc | apply pw_below_drewN | apply below_drew1) | exact HB.out)) hb); have n1_ := Aside0.mk (hbox); have n2_ := Aside0.mk ((by rw [hg]; exact (below_size (by repeat (first | (with_reducible first | exact HB.out | apply below_alloc | apply pw_below_drewN | apply below_drew1) | exact HB.out))) : w.heap.size ≤ gb160)); have n3_ := Aside0.mk ((by rw [hg]; exact (below_size (by repeat (first | (with_reducible first | exact HB.out | apply below_alloc | apply pw_below_drewN | apply below_drew1) | exact HB.out))) : w.heap.size ≤ gb160)); clear HB; have HB := n0_; have BK160 := n1_; have GW160 := n2_; have GE160 := n3_; clear n0_ n1_ n2_ n3_; clear hb hbox hg; have p161 : 0 ≤ (a2 : Int) := of_decide_eq_true (by first | (with_reducible assumption) | assumption); have q161 : a2 < (l1.length : Int) := of_decide_eq_true (by first | (with_reducible assumption) | assumption); obtain ⟨ad161, e161, hx161_0⟩ := Kd.at_bool HR1.out a2 p161 q161; (try rw [← Nbq6.out] at hx161_0); cases e161; replace hx161_0 := (HB.out.cell (World.block_lt_of_cell? w _ hx161_0)).trans hx161_0; replace p161 := eq_true p161; replace q161 := eq_true q161; have hcz11_0 : w10.cell? ⟨gb160, 0, none⟩ = some (.string a0_0) := (blk_cell BK160.out 0).trans rfl; have hcz11_1 : w10.cell? ⟨gb160, 1, none⟩ = some (.slice A0_1 l0_1.length c0_1) := (blk_cell BK160.out 1).trans rfl; have hfz11_0 := blk_frozen BK160.out 0; have hfz11_1 := blk_frozen BK160.out 1; have p162 : 0 ≤ (a2 : Int) := of_decide_eq_true (by first | (with_reducible assumption) | assumption); have q162 : a2 < (l0_1.length : Int) := of_decide_eq_true (by first | (with_reducible assumption) | assumption); obtain ⟨ad162, A162_0, c162_0, e162, hx162_0, hx162_1, hx162_2, hx162_3, hl162_0, hi162_0⟩ := at_T39 HR0_1.out a2 p162 q162; cases e162; replace hx162_0 := (HB.out.cell (World.block_lt_of_cell? w _ hx162_0)).trans hx162_0; replace hx162_1 := (HB.out.cell (World.block_lt_of_cell? w _ hx162_1)).trans hx162_1; replace hx162_2 := (HB.out.cell (World.block_lt_of_cell? w _ hx162_2)).trans hx162_2; replace hx162_3 := (HB.out.cell (World.block_lt_of_cell? w _ hx162_3)).trans hx162_3; have HR162_0 := Aside0.mk hi162_0; have HC162_0 := Aside0.mk hl162_0; clear hi162_0 hl162_0; replace p162 := eq_true p162; replace q162 := eq_true q162))
          go_loopg [20] k (fun kq v20 w' => ∃ (x20_1 : Int), v20 = .int .i64 x20_1 ∧ Aside0 (peneloperef16_IsFree.l0 kq l1 ((rd_T39 l0_1 a2).f0) (((rd_T39 l0_1 a2).f0).length : Int) x20_1 = some r) ∧ Aside0 (kq ≤ k) ∧ Aside0 (w'.heap[gb160]? = some (.cells #[.string a0_0, (.slice (some ad162) l0_1.length c0_1)] 24 (0, 0))) ∧ Aside0 (Below w.heap.size w w'))
          case atStart => exact ⟨(0), (by first | rfl | (simp; done) | (simp [*]; done)), H', ⟨Nat.le_refl _⟩, ⟨by (with_reducible repeat (first | refine blk_drewN ?_ _ | refine blk_drew ?_ | refine blk_alloc ?_ _)); exact BK160.out⟩, ⟨by repeat (first | (with_reducible first | exact HB.out | apply below_alloc | apply pw_below_drewN | apply below_drew1 | refine below_set ?_ GE160.out) | exact HB.out)⟩⟩
          case round =>
            clear H'
            try clear c1
            try clear p1
            try clear q1
            try clear hx1
            try clear p2
            try clear c3
            try clear c4
            try clear c4b0
            try clear c5
            try clear c5b0
            try clear q6
            try clear c7
            try clear c9
            try clear c9b0
            try clear hcz11_0
            try clear hcz11_1
            try clear hfz11_0
            try clear hfz11_1
            try clear hx161_0
            try clear hx162_0
            try clear hx162_1
            try clear hx162_2
            try clear hx162_3
            try clear p161
            try clear p162
            try clear q161
            try clear q162
            obtain ⟨x20_1, rfl, HA, HK1, BK160, HB⟩ := hrel
            cases gk with
            | zero => exact absurd HA.out (by simp [peneloperef16_IsFree.l0])
            | succ k1 =>
              have H := HA.out
              clear HA
              simp only [peneloperef16_IsFree.l0] at H
              by_cases c12 : x20_1 < (((rd_T39 l0_1 a2).f0).length : Int)
              · rw [if_pos c12] at H
                have c12b0 : decide (x20_1 < (((rd_T39 l0_1 a2).f0).length : Int)) = true := decide_eq_true c12
                clear c12
                by_cases c13 : 0 ≤ x20_1
                · rw [if_pos c13] at H
                  have c13b0 : decide (0 ≤ x20_1) = true := decide_eq_true c13
                  clear c13
                  by_cases c14 : x20_1 < (((rd_T39 l0_1 a2).f0).length : Int)
                  · rw [if_pos c14] at H
                    have c14b0 : decide (x20_1 < (((rd_T39 l0_1 a2).f0).length : Int)) = true := decide_eq_true c14
                    clear c14
                    by_cases c15 : 0 ≤ (rd ((rd_T39 l0_1 a2).f0) x20_1)
                    · rw [if_pos c15] at H
                      have c15b0 : decide (0 ≤ (rd ((rd_T39 l0_1 a2).f0) x20_1)) = true := decide_eq_true c15
                      clear c15
                      by_cases c16 : (rd ((rd_T39 l0_1 a2).f0) x20_1) < (l1.length : Int)
                      · rw [if_pos c16] at H
                        have c16b0 : decide ((rd ((rd_T39 l0_1 a2).f0) x20_1) < (l1.length : Int)) = true := decide_eq_true c16
                        clear c16
                        obtain ⟨bq17, hbq17⟩ : ∃ b_ : Bool, b_ = (rdOf false l1 (rd ((rd_T39 l0_1 a2).f0) x20_1)) := ⟨_, rfl⟩
                        replace H : (if (bq17 = true) then (peneloperef16_IsFree.l0 k1 l1 ((rd_T39 l0_1 a2).f0) (((rd_T39 l0_1 a2).f0).length : Int) (wrap64 (x20_1 + 1))) else (some false)) = some r := by rw [← hbq17] at H; exact H
                        have Nbq17 := Aside0.mk hbq17
                        clear hbq17
                        by_cases c18 : (bq17 = true)
                        · subst c18
                          have H1 : (peneloperef16_IsFree.l0 k1 l1 ((rd_T39 l0_1 a2).f0) (((rd_T39 l0_1 a2).f0).length : Int) (wrap64 (x20_1 + 1))) = some r := by rw [if_pos rfl] at H; exact H
                          clear H
                          have H := H1
                          clear H1
                          have H' := Aside0.mk H
                          clear H
                          have p163 : 0 ≤ (x20_1 : Int) := of_decide_eq_true (by first | (with_reducible assumption) | assumption)
                          have q163 : x20_1 < (((rd_T39 l0_1 a2).f0).length : Int) := of_decide_eq_true (by first | (with_reducible assumption) | assumption)
                          obtain ⟨ad163, e163, hx163_0⟩ := Kd.at_int HR162_0.out x20_1 p163 q163
                          cases e163
                          replace hx163_0 := (HB.out.cell (World.block_lt_of_cell? w _ hx163_0)).trans hx163_0
                          replace p163 := eq_true p163
                          replace q163 := eq_true q163
                          have p164 : 0 ≤ ((rd ((rd_T39 l0_1 a2).f0) x20_1) : Int) := of_decide_eq_true (by first | (with_reducible assumption) | assumption)
                          have q164 : (rd ((rd_T39 l0_1 a2).f0) x20_1) < (l1.length : Int) := of_decide_eq_true (by first | (with_reducible assumption) | assumption)
                          obtain ⟨ad164, e164, hx164_0⟩ := Kd.at_bool HR1.out (rd ((rd_T39 l0_1 a2).f0) x20_1) p164 q164
                          (try rw [← Nbq6.out] at hx164_0)
                          (try rw [← Nbq17.out] at hx164_0)
                          obtain rfl : ad161 = ad164 := (by injection e164)
                          replace hx164_0 := (HB.out.cell (World.block_lt_of_cell? w _ hx164_0)).trans hx164_0
                          replace p164 := eq_true p164
                          replace q164 := eq_true q164
                          go_wp2
                          go_roundg k1
                          case measure => have := HK1.out; omega
                          case rel => exact ⟨(wrap64 (x20_1 + 1)), (by first | rfl | (simp; done) | (simp [*]; done)), H', ⟨by have := HK1.out; omega⟩, ⟨by (with_reducible repeat (first | refine blk_drewN ?_ _ | refine blk_drew ?_ | refine blk_alloc ?_ _)); exact BK160.out⟩, ⟨by repeat (first | (with_reducible first | exact HB.out | apply below_alloc | apply pw_below_drewN | apply below_drew1 | refine below_set ?_ GE160.out) | exact HB.out)⟩⟩
                        · replace c18 := Bool.eq_false_iff.mpr c18
                          subst c18
                          have H1 : (some false) = some r := by rw [if_neg (show ¬ (false = true) by decide)] at H; exact H
                          clear H
                          have H := H1
                          clear H1
                          obtain rfl := Option.some.inj H
                          have p163 : 0 ≤ (x20_1 : Int) := of_decide_eq_true (by first | (with_reducible assumption) | assumption)
                          have q163 : x20_1 < (((rd_T39 l0_1 a2).f0).length : Int) := of_decide_eq_true (by first | (with_reducible assumption) | assumption)
                          obtain ⟨ad163, e163, hx163_0⟩ := Kd.at_int HR162_0.out x20_1 p163 q163
                          cases e163
                          replace hx163_0 := (HB.out.cell (World.block_lt_of_cell? w _ hx163_0)).trans hx163_0
                          replace p163 := eq_true p163
                          replace q163 := eq_true q163
                          have p164 : 0 ≤ ((rd ((rd_T39 l0_1 a2).f0) x20_1) : Int) := of_decide_eq_true (by first | (with_reducible assumption) | assumption)
                          have q164 : (rd ((rd_T39 l0_1 a2).f0) x20_1) < (l1.length : Int) := of_decide_eq_true (by first | (with_reducible assumption) | assumption)
                          obtain ⟨ad164, e164, hx164_0⟩ := Kd.at_bool HR1.out (rd ((rd_T39 l0_1 a2).f0) x20_1) p164 q164
                          (try rw [← Nbq6.out] at hx164_0)
                          (try rw [← Nbq17.out] at hx164_0)
                          obtain rfl : ad161 = ad164 := (by injection e164)
                          replace hx164_0 := (HB.out.cell (World.block_lt_of_cell? w _ hx164_0)).trans hx164_0
                          replace p164 := eq_true p164
                          replace q164 := eq_true q164
                          go_wp2
                          go_ret
                          exact ⟨by first | rfl | (simp [errW_none, errW_some] <;> rfl) | (simp [*, errW_none, errW_some] <;> rfl), by repeat (first | (with_reducible first | exact HB.out | apply below_alloc | apply pw_below_drewN | apply below_drew1 | refine below_set ?_ GE160.out) | exact HB.out)⟩
                      · rw [if_neg c16] at H
                        exact absurd H (by simp)
                    · rw [if_neg c15] at H
                      exact absurd H (by simp)
                  · rw [if_neg c14] at H
                    exact absurd H (by simp)
                · rw [if_neg c13] at H
                  exact absurd H (by simp)
              · rw [if_neg c12] at H
                have c12b0 : decide (x20_1 < (((rd_T39 l0_1 a2).f0).length : Int)) = false := decide_eq_false c12
                clear c12
                obtain rfl := Option.some.inj H
                go_wp2
                go_ret
                exact ⟨by first | rfl | (simp [errW_none, errW_some] <;> rfl) | (simp [*, errW_none, errW_some] <;> rfl), by repeat (first | (with_reducible first | exact HB.out | apply below_alloc | apply pw_below_drewN | apply below_drew1 | refine below_set ?_ GE160.out) | exact HB.out)⟩
        · rw [if_neg c9] at H
          exact absurd H (by simp)
    · rw [if_neg c5] at H
      exact absurd H (by simp)
  · rw [if_neg c4] at H
    exact absurd H (by simp)

end Go.Proofs.Ytbgmhcefjggpgaa.X
