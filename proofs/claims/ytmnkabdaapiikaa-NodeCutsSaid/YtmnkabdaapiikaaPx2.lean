-- laid by a program of this session (wip/tools/xprint.py), function by function; Lean checks it
import Derived.Test.YtmnkabdaapiikaaPx0
import Derived.Test.YtmnkabdaapiikaaXHas
namespace Go.Proofs.Ytmnkabdaapiikaa.P
open Go.RowKit Go.Proofs.YtmnkabdaapiikaaW.PrintWords Go.Proofs.YtmnkabdaapiikaaW.PrintLast Go.Proofs.YtmnkabdaapiikaaW.PrintMore
attribute [local go_sem] max2_int min2_int max_two min_two max_three min_three max_four min_four   -- for this text's walks alone
set_option linter.unusedVariables false
set_option linter.unusedSimpArgs false

/-! ### node_stands: function 32 -/
def node_stands.l0 : Nat → Int → List ByteArray → Int → Int → Bool → List ByteArray → List ByteArray → List Int → Option (Bool)
  | 0, _, _, _, _, _, _, _, _ => none
  | k + 1, x3, x12, x13, x14, x119000, x119001, x119002, x119003 => if x14 < x13 then (if 0 ≤ x14 then (if x14 < (x12.length : Int) then (if ((rdOf ByteArray.empty x12 x14).size : Int) < 1 then (some false) else (if ((rdOf ByteArray.empty x12 x14).size : Int) > 32 then (some false) else (if x14 > 0 then (if 0 ≤ (wrap64 (x14 - 1)) then (if (wrap64 (x14 - 1)) < (x119001.length : Int) then (if ((Op.bytesLess ((rdOf ByteArray.empty x119001 (wrap64 (x14 - 1))).toList) ((rdOf ByteArray.empty x12 x14).toList)) = true) then (node_stands.l0 k x3 x12 x13 (wrap64 (x14 + 1)) x119000 x119001 x119002 x119003) else (some false)) else (none)) else (none)) else (node_stands.l0 k x3 x12 x13 (wrap64 (x14 + 1)) x119000 x119001 x119002 x119003)))) else (none)) else (none)) else (if x119000 = true then (if (x119003.length : Int) = 0 then (if (x119002.length : Int) = x3 then ((slices_ContainsFunc_string_string.f x119002).bind fun t121 => (some (!t121))) else (some false)) else (some false)) else (if (x119002.length : Int) = 0 then (if x3 ≥ 1 then (if (x119003.length : Int) = (wrap64 (x3 + 1)) then ((slices_ContainsFunc_int_int.f x119003).bind fun t122 => (some (!t122))) else (some false)) else (some false)) else (some false)))
def node_stands.f (k : Nat) (a0_0 : Bool) (l0_1 : List ByteArray) (l0_2 : List ByteArray) (l0_3 : List Int) : Option (Bool) := if (l0_1.length : Int) > 9 then (some false) else (node_stands.l0 k (l0_1.length : Int) l0_1 (l0_1.length : Int) 0 a0_0 l0_1 l0_2 l0_3)
theorem node_stands.mono_l : ∀ k, (∀ y0 y1 y2 y3 y4 y5 y6 y7, LeO (node_stands.l0 k y0 y1 y2 y3 y4 y5 y6 y7) (node_stands.l0 (k + 1) y0 y1 y2 y3 y4 y5 y6 y7))
  | 0 => fun _ _ _ _ _ _ _ _ r h => by simp [node_stands.l0] at h
  | k + 1 => by
    have ih0 := node_stands.mono_l k
    · intro y0 y1 y2 y3 y4 y5 y6 y7
      unfold node_stands.l0
      repeat' first
      | (with_reducible exact ih0 _ _ _ _ _ _ _ _)
      | (with_reducible exact LeO.refl _)
      | (with_reducible exact LeO.none _)
      | (with_reducible refine LeO.ite ?_ ?_)
      | (with_reducible refine LeO.bind ?_ (fun _ => ?_))
      | exact ih0 _ _ _ _ _ _ _ _
      | exact LeO.none _
      | refine LeO.ite ?_ ?_
      | refine LeO.bind ?_ (fun _ => ?_)
theorem node_stands.mono : ∀ a0 a1 a2 a3 k, LeO (node_stands.f k a0 a1 a2 a3) (node_stands.f (k + 1) a0 a1 a2 a3) := by
  intro a0 a1 a2 a3 k
  have ih0 := node_stands.mono_l k
  unfold node_stands.f
  repeat' first
      | (with_reducible exact ih0 _ _ _ _ _ _ _ _)
      | (with_reducible exact LeO.refl _)
      | (with_reducible exact LeO.none _)
      | (with_reducible refine LeO.ite ?_ ?_)
      | (with_reducible refine LeO.bind ?_ (fun _ => ?_))
      | exact ih0 _ _ _ _ _ _ _ _
      | exact LeO.none _
      | refine LeO.ite ?_ ?_
      | refine LeO.bind ?_ (fun _ => ?_)
set_option maxHeartbeats 8000000 in
set_option maxRecDepth 100000 in
theorem node_stands.calls (k : Nat) (a0_0 : Bool) (A0_1 : Option Addr) (c0_1 : Nat) (l0_1 : List ByteArray) (A0_2 : Option Addr) (c0_2 : Nat) (l0_2 : List ByteArray) (A0_3 : Option Addr) (c0_3 : Nat) (l0_3 : List Int) (r : Bool) (w : World) (hr0_1 : Kd.C Kd.string w A0_1 l0_1.length l0_1) (hc0_1 : l0_1.length ≤ c0_1) (hr0_2 : Kd.C Kd.string w A0_2 l0_2.length l0_2) (hc0_2 : l0_2.length ≤ c0_2) (hr0_3 : Kd.C (Kd.int .i64) w A0_3 l0_3.length l0_3) (hc0_3 : l0_3.length ≤ c0_3) (h : node_stands.f k a0_0 l0_1 l0_2 l0_3 = some r) :
    Calls Try.prog 32 #[.agg #[.bool a0_0, .slice A0_1 l0_1.length c0_1, .slice A0_2 l0_2.length c0_2, .slice A0_3 l0_3.length c0_3]] w fun e w' => e = .returned (.bool r) ∧ Below w.heap.size w w' := by
  have hu25 := Try.underlying25
  have HR0_1 := Aside0.mk hr0_1
  have HC0_1 := Aside0.mk hc0_1
  clear hr0_1 hc0_1
  have HR0_2 := Aside0.mk hr0_2
  have HC0_2 := Aside0.mk hc0_2
  clear hr0_2 hc0_2
  have HR0_3 := Aside0.mk hr0_3
  have HC0_3 := Aside0.mk hc0_3
  clear hr0_3 hc0_3
  have HB := Aside0.mk (Below.refl w.heap.size w)
  have H : (if (l0_1.length : Int) > 9 then (some false) else (node_stands.l0 k (l0_1.length : Int) l0_1 (l0_1.length : Int) 0 a0_0 l0_1 l0_2 l0_3)) = some r := h
  clear h
  by_cases c2 : (l0_1.length : Int) > 9
  · rw [if_pos c2] at H
    have c2b0 : decide (9 < (l0_1.length : Int)) = true := decide_eq_true c2
    have c2b1 : decide (9 < l0_1.length) = true := decide_eq_true (by omega)
    clear c2
    obtain rfl := Option.some.inj H
    go_enter Try.func32, Try.ntmps32
    go_wp2_with (first | ((with_reducible refine gate_dst (N := 1) rfl ?_); (try (refine gate_guard (by rfl) ?_; dsimp only)); refine box_event ?hg (N := 1) ?hd (cs := #[.bool a0_0, .slice A0_1 l0_1.length c0_1, .slice A0_2 l0_2.length c0_2, .slice A0_3 l0_3.length c0_3]) (t := 25) ?hr ?_; (case hd => rfl); (case hg => rfl); (case hr => first | (go_simp; done) | (go_simp; rfl)); intro gb118 hg w3 hbox hb; have n0_ := Aside0.mk (below_step (by repeat (first | (with_reducible first | exact HB.out | apply below_alloc | apply pw_below_drewN | apply below_drew1) | exact HB.out)) hb); have n1_ := Aside0.mk (hbox); have n2_ := Aside0.mk ((by rw [hg]; exact (below_size (by repeat (first | (with_reducible first | exact HB.out | apply below_alloc | apply pw_below_drewN | apply below_drew1) | exact HB.out))) : w.heap.size ≤ gb118)); have n3_ := Aside0.mk ((by rw [hg]; exact (below_size (by repeat (first | (with_reducible first | exact HB.out | apply below_alloc | apply pw_below_drewN | apply below_drew1) | exact HB.out))) : w.heap.size ≤ gb118)); clear HB; have HB := n0_; have BK118 := n1_; have GW118 := n2_; have GE118 := n3_; clear n0_ n1_ n2_ n3_; clear hb hbox hg; have hcz4_0 : w3.cell? ⟨gb118, 0, none⟩ = some (.bool a0_0) := (blk_cell BK118.out 0).trans rfl; have hcz4_1 : w3.cell? ⟨gb118, 1, none⟩ = some (.slice A0_1 l0_1.length c0_1) := (blk_cell BK118.out 1).trans rfl; have hcz4_2 : w3.cell? ⟨gb118, 2, none⟩ = some (.slice A0_2 l0_2.length c0_2) := (blk_cell BK118.out 2).trans rfl; have hcz4_3 : w3.cell? ⟨gb118, 3, none⟩ = some (.slice A0_3 l0_3.length c0_3) := (blk_cell BK118.out 3).trans rfl; have hfz4_0 := blk_frozen BK118.out 0; have hfz4_1 := blk_frozen BK118.out 1; have hfz4_2 := blk_frozen BK118.out 2; have hfz4_3 := blk_frozen BK118.out 3))
    go_ret
    exact ⟨by first | rfl | (simp [errW_none, errW_some] <;> rfl) | (simp [*, errW_none, errW_some] <;> rfl), by repeat (first | (with_reducible first | exact HB.out | apply below_alloc | apply pw_below_drewN | apply below_drew1 | refine below_set ?_ GE118.out) | exact HB.out)⟩
  · rw [if_neg c2] at H
    have c2b0 : decide (9 < (l0_1.length : Int)) = false := decide_eq_false c2
    have c2b1 : decide (9 < l0_1.length) = false := decide_eq_false (by omega)
    clear c2
    have H' := Aside0.mk H
    clear H
    go_enter Try.func32, Try.ntmps32
    go_wp2_with (first | ((with_reducible refine gate_dst (N := 1) rfl ?_); (try (refine gate_guard (by rfl) ?_; dsimp only)); refine box_event ?hg (N := 1) ?hd (cs := #[.bool a0_0, .slice A0_1 l0_1.length c0_1, .slice A0_2 l0_2.length c0_2, .slice A0_3 l0_3.length c0_3]) (t := 25) ?hr ?_; (case hd => rfl); (case hg => rfl); (case hr => first | (go_simp; done) | (go_simp; rfl)); intro gb118 hg w5 hbox hb; have n0_ := Aside0.mk (below_step (by repeat (first | (with_reducible first | exact HB.out | apply below_alloc | apply pw_below_drewN | apply below_drew1) | exact HB.out)) hb); have n1_ := Aside0.mk (hbox); have n2_ := Aside0.mk ((by rw [hg]; exact (below_size (by repeat (first | (with_reducible first | exact HB.out | apply below_alloc | apply pw_below_drewN | apply below_drew1) | exact HB.out))) : w.heap.size ≤ gb118)); have n3_ := Aside0.mk ((by rw [hg]; exact (below_size (by repeat (first | (with_reducible first | exact HB.out | apply below_alloc | apply pw_below_drewN | apply below_drew1) | exact HB.out))) : w.heap.size ≤ gb118)); clear HB; have HB := n0_; have BK118 := n1_; have GW118 := n2_; have GE118 := n3_; clear n0_ n1_ n2_ n3_; clear hb hbox hg; have hcz6_0 : w5.cell? ⟨gb118, 0, none⟩ = some (.bool a0_0) := (blk_cell BK118.out 0).trans rfl; have hcz6_1 : w5.cell? ⟨gb118, 1, none⟩ = some (.slice A0_1 l0_1.length c0_1) := (blk_cell BK118.out 1).trans rfl; have hcz6_2 : w5.cell? ⟨gb118, 2, none⟩ = some (.slice A0_2 l0_2.length c0_2) := (blk_cell BK118.out 2).trans rfl; have hcz6_3 : w5.cell? ⟨gb118, 3, none⟩ = some (.slice A0_3 l0_3.length c0_3) := (blk_cell BK118.out 3).trans rfl; have hfz6_0 := blk_frozen BK118.out 0; have hfz6_1 := blk_frozen BK118.out 1; have hfz6_2 := blk_frozen BK118.out 2; have hfz6_3 := blk_frozen BK118.out 3))
    go_loopg [14] k (fun kq v14 w' => ∃ (x14_1 : Int), v14 = .int .i64 x14_1 ∧ Aside0 (node_stands.l0 kq (l0_1.length : Int) l0_1 (l0_1.length : Int) x14_1 a0_0 l0_1 l0_2 l0_3 = some r) ∧ Aside0 (kq ≤ k) ∧ Aside0 (w'.heap[gb118]? = some (.cells #[.bool a0_0, (.slice A0_1 l0_1.length c0_1), (.slice A0_2 l0_2.length c0_2), (.slice A0_3 l0_3.length c0_3)] 25 (0, 0))) ∧ Aside0 (Below w.heap.size w w'))
    case atStart => exact ⟨(0), (by first | rfl | (simp; done) | (simp [*]; done)), H', ⟨Nat.le_refl _⟩, ⟨by (with_reducible repeat (first | refine blk_drewN ?_ _ | refine blk_drew ?_ | refine blk_alloc ?_ _)); exact BK118.out⟩, ⟨by repeat (first | (with_reducible first | exact HB.out | apply below_alloc | apply pw_below_drewN | apply below_drew1 | refine below_set ?_ GE118.out) | exact HB.out)⟩⟩
    case round =>
      clear H'
      try clear c2
      try clear c2b0
      try clear c2b1
      try clear p2
      try clear c3
      try clear hcz4_0
      try clear hcz4_1
      try clear hcz4_2
      try clear hcz4_3
      try clear hcz6_0
      try clear hcz6_1
      try clear hcz6_2
      try clear hcz6_3
      try clear hfz4_0
      try clear hfz4_1
      try clear hfz4_2
      try clear hfz4_3
      try clear hfz6_0
      try clear hfz6_1
      try clear hfz6_2
      try clear hfz6_3
      obtain ⟨x14_1, rfl, HA, HK1, BK118, HB⟩ := hrel
      cases gk with
      | zero => exact absurd HA.out (by simp [node_stands.l0])
      | succ k1 =>
        have H := HA.out
        clear HA
        simp only [node_stands.l0] at H
        by_cases c7 : x14_1 < (l0_1.length : Int)
        · rw [if_pos c7] at H
          have c7b0 : decide (x14_1 < (l0_1.length : Int)) = true := decide_eq_true c7
          clear c7
          by_cases c8 : 0 ≤ x14_1
          · rw [if_pos c8] at H
            have c8b0 : decide (0 ≤ x14_1) = true := decide_eq_true c8
            clear c8
            by_cases c9 : x14_1 < (l0_1.length : Int)
            · rw [if_pos c9] at H
              have c9b0 : decide (x14_1 < (l0_1.length : Int)) = true := decide_eq_true c9
              clear c9
              by_cases c10 : ((rdOf ByteArray.empty l0_1 x14_1).size : Int) < 1
              · rw [if_pos c10] at H
                have c10b0 : decide (((rdOf ByteArray.empty l0_1 x14_1).size : Int) < 1) = true := decide_eq_true c10
                have c10b1 : decide ((rdOf ByteArray.empty l0_1 x14_1).size < 1) = true := decide_eq_true (by omega)
                clear c10
                obtain rfl := Option.some.inj H
                have p119 : 0 ≤ (x14_1 : Int) := of_decide_eq_true (by first | (with_reducible assumption) | assumption)
                have q119 : x14_1 < (l0_1.length : Int) := of_decide_eq_true (by first | (with_reducible assumption) | assumption)
                obtain ⟨ad119, e119, hx119_0⟩ := Kd.at_string HR0_1.out x14_1 p119 q119
                cases e119
                replace hx119_0 := (HB.out.cell (World.block_lt_of_cell? w _ hx119_0)).trans hx119_0
                replace p119 := eq_true p119
                replace q119 := eq_true q119
                go_wp2
                go_ret
                exact ⟨by first | rfl | (simp [errW_none, errW_some] <;> rfl) | (simp [*, errW_none, errW_some] <;> rfl), by repeat (first | (with_reducible first | exact HB.out | apply below_alloc | apply pw_below_drewN | apply below_drew1 | refine below_set ?_ GE118.out) | exact HB.out)⟩
              · rw [if_neg c10] at H
                have c10b0 : decide (((rdOf ByteArray.empty l0_1 x14_1).size : Int) < 1) = false := decide_eq_false c10
                have c10b1 : decide ((rdOf ByteArray.empty l0_1 x14_1).size < 1) = false := decide_eq_false (by omega)
                clear c10
                by_cases c11 : ((rdOf ByteArray.empty l0_1 x14_1).size : Int) > 32
                · rw [if_pos c11] at H
                  have c11b0 : decide (32 < ((rdOf ByteArray.empty l0_1 x14_1).size : Int)) = true := decide_eq_true c11
                  have c11b1 : decide (32 < (rdOf ByteArray.empty l0_1 x14_1).size) = true := decide_eq_true (by omega)
                  clear c11
                  obtain rfl := Option.some.inj H
                  have p119 : 0 ≤ (x14_1 : Int) := of_decide_eq_true (by first | (with_reducible assumption) | assumption)
                  have q119 : x14_1 < (l0_1.length : Int) := of_decide_eq_true (by first | (with_reducible assumption) | assumption)
                  obtain ⟨ad119, e119, hx119_0⟩ := Kd.at_string HR0_1.out x14_1 p119 q119
                  cases e119
                  replace hx119_0 := (HB.out.cell (World.block_lt_of_cell? w _ hx119_0)).trans hx119_0
                  replace p119 := eq_true p119
                  replace q119 := eq_true q119
                  go_wp2
                  go_ret
                  exact ⟨by first | rfl | (simp [errW_none, errW_some] <;> rfl) | (simp [*, errW_none, errW_some] <;> rfl), by repeat (first | (with_reducible first | exact HB.out | apply below_alloc | apply pw_below_drewN | apply below_drew1 | refine below_set ?_ GE118.out) | exact HB.out)⟩
                · rw [if_neg c11] at H
                  have c11b0 : decide (32 < ((rdOf ByteArray.empty l0_1 x14_1).size : Int)) = false := decide_eq_false c11
                  have c11b1 : decide (32 < (rdOf ByteArray.empty l0_1 x14_1).size) = false := decide_eq_false (by omega)
                  clear c11
                  by_cases c12 : x14_1 > 0
                  · rw [if_pos c12] at H
                    have c12b0 : decide (0 < x14_1) = true := decide_eq_true c12
                    clear c12
                    obtain ⟨ji13, hji13⟩ : ∃ j_ : Int, (wrap64 (x14_1 - 1)) = j_ := ⟨_, rfl⟩
                    replace H : (if 0 ≤ (ji13) then (if (ji13) < (l0_1.length : Int) then (if ((Op.bytesLess ((rdOf ByteArray.empty l0_1 (ji13)).toList) ((rdOf ByteArray.empty l0_1 x14_1).toList)) = true) then (node_stands.l0 k1 (l0_1.length : Int) l0_1 (l0_1.length : Int) (wrap64 (x14_1 + 1)) a0_0 l0_1 l0_2 l0_3) else (some false)) else (none)) else (none)) = some r := by first | (rw [hji13] at H; exact H) | (simp only [hji13] at H ⊢; exact H)
                    have hji13w : (IntKind.i64.wrap (x14_1 - 1)) = ji13 := (i64_w _).trans hji13
                    by_cases c14 : 0 ≤ (ji13)
                    · rw [if_pos c14] at H
                      have c14b0 : decide (0 ≤ (ji13)) = true := decide_eq_true c14
                      clear c14
                      by_cases c15 : (ji13) < (l0_1.length : Int)
                      · rw [if_pos c15] at H
                        have c15b0 : decide ((ji13) < (l0_1.length : Int)) = true := decide_eq_true c15
                        clear c15
                        by_cases c16 : ((Op.bytesLess ((rdOf ByteArray.empty l0_1 (ji13)).toList) ((rdOf ByteArray.empty l0_1 x14_1).toList)) = true)
                        · rw [if_pos c16] at H
                          have c16b0 : (Op.bytesLess ((rdOf ByteArray.empty l0_1 (ji13)).toList) ((rdOf ByteArray.empty l0_1 x14_1).toList)) = true := c16
                          clear c16
                          have H' := Aside0.mk H
                          clear H
                          have p119 : 0 ≤ (x14_1 : Int) := of_decide_eq_true (by first | (with_reducible assumption) | assumption)
                          have q119 : x14_1 < (l0_1.length : Int) := of_decide_eq_true (by first | (with_reducible assumption) | assumption)
                          obtain ⟨ad119, e119, hx119_0⟩ := Kd.at_string HR0_1.out x14_1 p119 q119
                          cases e119
                          replace hx119_0 := (HB.out.cell (World.block_lt_of_cell? w _ hx119_0)).trans hx119_0
                          replace p119 := eq_true p119
                          replace q119 := eq_true q119
                          have hcz17_0 : wr.cell? ⟨gb118, 0, none⟩ = some (.bool a0_0) := (blk_cell BK118.out 0).trans rfl
                          have hcz17_1 : wr.cell? ⟨gb118, 1, none⟩ = some (.slice (some ad119) l0_1.length c0_1) := (blk_cell BK118.out 1).trans rfl
                          have hcz17_2 : wr.cell? ⟨gb118, 2, none⟩ = some (.slice A0_2 l0_2.length c0_2) := (blk_cell BK118.out 2).trans rfl
                          have hcz17_3 : wr.cell? ⟨gb118, 3, none⟩ = some (.slice A0_3 l0_3.length c0_3) := (blk_cell BK118.out 3).trans rfl
                          have hfz17_0 := blk_frozen BK118.out 0
                          have hfz17_1 := blk_frozen BK118.out 1
                          have hfz17_2 := blk_frozen BK118.out 2
                          have hfz17_3 := blk_frozen BK118.out 3
                          have p120 : 0 ≤ ((ji13) : Int) := of_decide_eq_true (by first | (with_reducible assumption) | assumption)
                          have q120 : (ji13) < (l0_1.length : Int) := of_decide_eq_true (by first | (with_reducible assumption) | assumption)
                          obtain ⟨ad120, e120, hx120_0⟩ := Kd.at_string HR0_1.out (ji13) p120 q120
                          obtain rfl : ad119 = ad120 := (by injection e120)
                          replace hx120_0 := (HB.out.cell (World.block_lt_of_cell? w _ hx120_0)).trans hx120_0
                          replace p120 := eq_true p120
                          replace q120 := eq_true q120
                          go_wp2
                          go_roundg k1
                          case measure => have := HK1.out; omega
                          case rel => exact ⟨(wrap64 (x14_1 + 1)), (by first | rfl | (simp; done) | (simp [*]; done)), H', ⟨by have := HK1.out; omega⟩, ⟨by (with_reducible repeat (first | refine blk_drewN ?_ _ | refine blk_drew ?_ | refine blk_alloc ?_ _)); exact BK118.out⟩, ⟨by repeat (first | (with_reducible first | exact HB.out | apply below_alloc | apply pw_below_drewN | apply below_drew1 | refine below_set ?_ GE118.out) | exact HB.out)⟩⟩
                        · rw [if_neg c16] at H
                          have c16b0 : (Op.bytesLess ((rdOf ByteArray.empty l0_1 (ji13)).toList) ((rdOf ByteArray.empty l0_1 x14_1).toList)) = false := by simpa using c16
                          clear c16
                          obtain rfl := Option.some.inj H
                          have p119 : 0 ≤ (x14_1 : Int) := of_decide_eq_true (by first | (with_reducible assumption) | assumption)
                          have q119 : x14_1 < (l0_1.length : Int) := of_decide_eq_true (by first | (with_reducible assumption) | assumption)
                          obtain ⟨ad119, e119, hx119_0⟩ := Kd.at_string HR0_1.out x14_1 p119 q119
                          cases e119
                          replace hx119_0 := (HB.out.cell (World.block_lt_of_cell? w _ hx119_0)).trans hx119_0
                          replace p119 := eq_true p119
                          replace q119 := eq_true q119
                          have hcz18_0 : wr.cell? ⟨gb118, 0, none⟩ = some (.bool a0_0) := (blk_cell BK118.out 0).trans rfl
                          have hcz18_1 : wr.cell? ⟨gb118, 1, none⟩ = some (.slice (some ad119) l0_1.length c0_1) := (blk_cell BK118.out 1).trans rfl
                          have hcz18_2 : wr.cell? ⟨gb118, 2, none⟩ = some (.slice A0_2 l0_2.length c0_2) := (blk_cell BK118.out 2).trans rfl
                          have hcz18_3 : wr.cell? ⟨gb118, 3, none⟩ = some (.slice A0_3 l0_3.length c0_3) := (blk_cell BK118.out 3).trans rfl
                          have hfz18_0 := blk_frozen BK118.out 0
                          have hfz18_1 := blk_frozen BK118.out 1
                          have hfz18_2 := blk_frozen BK118.out 2
                          have hfz18_3 := blk_frozen BK118.out 3
                          have p120 : 0 ≤ ((ji13) : Int) := of_decide_eq_true (by first | (with_reducible assumption) | assumption)
                          have q120 : (ji13) < (l0_1.length : Int) := of_decide_eq_true (by first | (with_reducible assumption) | assumption)
                          obtain ⟨ad120, e120, hx120_0⟩ := Kd.at_string HR0_1.out (ji13) p120 q120
                          obtain rfl : ad119 = ad120 := (by injection e120)
                          replace hx120_0 := (HB.out.cell (World.block_lt_of_cell? w _ hx120_0)).trans hx120_0
                          replace p120 := eq_true p120
                          replace q120 := eq_true q120
                          go_wp2
                          go_ret
                          exact ⟨by first | rfl | (simp [errW_none, errW_some] <;> rfl) | (simp only [← hji13]; first | rfl | (simp [errW_none, errW_some] <;> rfl)) | (simp [*, errW_none, errW_some] <;> rfl), by repeat (first | (with_reducible first | exact HB.out | apply below_alloc | apply pw_below_drewN | apply below_drew1 | refine below_set ?_ GE118.out) | exact HB.out)⟩
                      · rw [if_neg c15] at H
                        exact absurd H (by simp)
                    · rw [if_neg c14] at H
                      exact absurd H (by simp)
                  · rw [if_neg c12] at H
                    have c12b0 : decide (0 < x14_1) = false := decide_eq_false c12
                    clear c12
                    have H' := Aside0.mk H
                    clear H
                    have p119 : 0 ≤ (x14_1 : Int) := of_decide_eq_true (by first | (with_reducible assumption) | assumption)
                    have q119 : x14_1 < (l0_1.length : Int) := of_decide_eq_true (by first | (with_reducible assumption) | assumption)
                    obtain ⟨ad119, e119, hx119_0⟩ := Kd.at_string HR0_1.out x14_1 p119 q119
                    cases e119
                    replace hx119_0 := (HB.out.cell (World.block_lt_of_cell? w _ hx119_0)).trans hx119_0
                    replace p119 := eq_true p119
                    replace q119 := eq_true q119
                    go_wp2
                    go_roundg k1
                    case measure => have := HK1.out; omega
                    case rel => exact ⟨(wrap64 (x14_1 + 1)), (by first | rfl | (simp; done) | (simp [*]; done)), H', ⟨by have := HK1.out; omega⟩, ⟨by (with_reducible repeat (first | refine blk_drewN ?_ _ | refine blk_drew ?_ | refine blk_alloc ?_ _)); exact BK118.out⟩, ⟨by repeat (first | (with_reducible first | exact HB.out | apply below_alloc | apply pw_below_drewN | apply below_drew1 | refine below_set ?_ GE118.out) | exact HB.out)⟩⟩
            · rw [if_neg c9] at H
              exact absurd H (by simp)
          · rw [if_neg c8] at H
            exact absurd H (by simp)
        · rw [if_neg c7] at H
          have c7b0 : decide (x14_1 < (l0_1.length : Int)) = false := decide_eq_false c7
          clear c7
          by_cases c19 : a0_0 = true
          · subst c19
            have H1 : (if (l0_3.length : Int) = 0 then (if (l0_2.length : Int) = (l0_1.length : Int) then ((slices_ContainsFunc_string_string.f l0_2).bind fun t121 => (some (!t121))) else (some false)) else (some false)) = some r := by rw [if_pos rfl] at H; exact H
            clear H
            have H := H1
            clear H1
            by_cases c20 : (l0_3.length : Int) = 0
            · rw [if_pos c20] at H
              have c20b0 : ((l0_3.length : Int) == 0) = true := beq_iff_eq.mpr c20
              have c20b1 : ((l0_3.length : Int) != 0) = false := bne_eq_false_iff_eq.mpr c20
              clear c20
              by_cases c21 : (l0_2.length : Int) = (l0_1.length : Int)
              · rw [if_pos c21] at H
                have c21b0 : ((l0_2.length : Int) == (l0_1.length : Int)) = true := beq_iff_eq.mpr c21
                have c21b1 : ((l0_2.length : Int) != (l0_1.length : Int)) = false := bne_eq_false_iff_eq.mpr c21
                have c21b2 : (l0_2.length == l0_1.length) = true := by first | simpa using c21 | (simp at c21 ⊢; omega)
                clear c21
                replace H := Option.bind_eq_some_iff.mp H
                obtain ⟨t121, A220, H⟩ := H
                replace H : (some (!t121)) = some r := H
                have A22 := Aside0.mk A220
                clear A220
                obtain rfl := Option.some.inj H
                have hcz23_0 : wr.cell? ⟨gb118, 0, none⟩ = some (.bool true) := (blk_cell BK118.out 0).trans rfl
                have hcz23_1 : wr.cell? ⟨gb118, 1, none⟩ = some (.slice A0_1 l0_1.length c0_1) := (blk_cell BK118.out 1).trans rfl
                have hcz23_2 : wr.cell? ⟨gb118, 2, none⟩ = some (.slice A0_2 l0_2.length c0_2) := (blk_cell BK118.out 2).trans rfl
                have hcz23_3 : wr.cell? ⟨gb118, 3, none⟩ = some (.slice A0_3 l0_3.length c0_3) := (blk_cell BK118.out 3).trans rfl
                have hfz23_0 := blk_frozen BK118.out 0
                have hfz23_1 := blk_frozen BK118.out 1
                have hfz23_2 := blk_frozen BK118.out 2
                have hfz23_3 := blk_frozen BK118.out 3
                go_wp2_with (first | (go_at_call 44; (with_reducible refine (slices_ContainsFunc_string_string.calls _ _ l0_2 t121 _ ?side1 ?side2 A22.out).mono ?_); (case side1 => repeat (first | exact (Kd.C_below HR0_2.out HB.out) | (with_reducible refine Kd.C_alloc ?_ _) | (with_reducible refine Kd.C_drewN ?_ _) | (with_reducible refine Kd.C_drew ?_))); (case side2 => exact HC0_2.out); rintro e w24 ⟨rfl, hb⟩; have n0_ := Aside0.mk (blk_below (g := gb118) (o := .cells #[.bool true, .slice A0_1 l0_1.length c0_1, .slice A0_2 l0_2.length c0_2, .slice A0_3 l0_3.length c0_3] 25 (0, 0)) (by (with_reducible repeat (first | refine blk_drewN ?_ _ | refine blk_drew ?_ | refine blk_alloc ?_ _)); exact BK118.out) hb); have n1_ := Aside0.mk (below_step (by repeat (first | (with_reducible first | exact HB.out | apply below_alloc | apply pw_below_drewN | apply below_drew1 | refine below_set ?_ GE118.out) | exact HB.out)) hb); clear BK118; clear HB; have BK118 := n0_; have HB := n1_; clear n0_ n1_; (try clear hb); (try clear hb2); (try clear hk); (try clear hi)))
                go_ret
                exact ⟨by first | rfl | (simp [errW_none, errW_some] <;> rfl) | (simp [*, errW_none, errW_some] <;> rfl), by repeat (first | (with_reducible first | exact HB.out | apply below_alloc | apply pw_below_drewN | apply below_drew1 | refine below_set ?_ GE118.out) | exact HB.out)⟩
              · rw [if_neg c21] at H
                have c21b0 : ((l0_2.length : Int) == (l0_1.length : Int)) = false := beq_eq_false_iff_ne.mpr c21
                have c21b1 : ((l0_2.length : Int) != (l0_1.length : Int)) = true := bne_iff_ne.mpr c21
                have c21b2 : (l0_2.length == l0_1.length) = false := by first | simpa using c21 | (simp at c21 ⊢; omega)
                obtain rfl := Option.some.inj H
                have hcz25_0 : wr.cell? ⟨gb118, 0, none⟩ = some (.bool true) := (blk_cell BK118.out 0).trans rfl
                have hcz25_1 : wr.cell? ⟨gb118, 1, none⟩ = some (.slice A0_1 l0_1.length c0_1) := (blk_cell BK118.out 1).trans rfl
                have hcz25_2 : wr.cell? ⟨gb118, 2, none⟩ = some (.slice A0_2 l0_2.length c0_2) := (blk_cell BK118.out 2).trans rfl
                have hcz25_3 : wr.cell? ⟨gb118, 3, none⟩ = some (.slice A0_3 l0_3.length c0_3) := (blk_cell BK118.out 3).trans rfl
                have hfz25_0 := blk_frozen BK118.out 0
                have hfz25_1 := blk_frozen BK118.out 1
                have hfz25_2 := blk_frozen BK118.out 2
                have hfz25_3 := blk_frozen BK118.out 3
                go_wp2
                go_ret
                exact ⟨by first | rfl | (simp [errW_none, errW_some] <;> rfl) | (simp [*, errW_none, errW_some] <;> rfl), by repeat (first | (with_reducible first | exact HB.out | apply below_alloc | apply pw_below_drewN | apply below_drew1 | refine below_set ?_ GE118.out) | exact HB.out)⟩
            · rw [if_neg c20] at H
              have c20b0 : ((l0_3.length : Int) == 0) = false := beq_eq_false_iff_ne.mpr c20
              have c20b1 : ((l0_3.length : Int) != 0) = true := bne_iff_ne.mpr c20
              have c20b2 : ¬ (l0_3 = []) := fun h_ => c20 (by rw [h_]; rfl)
              obtain rfl := Option.some.inj H
              have hcz26_0 : wr.cell? ⟨gb118, 0, none⟩ = some (.bool true) := (blk_cell BK118.out 0).trans rfl
              have hcz26_1 : wr.cell? ⟨gb118, 1, none⟩ = some (.slice A0_1 l0_1.length c0_1) := (blk_cell BK118.out 1).trans rfl
              have hcz26_2 : wr.cell? ⟨gb118, 2, none⟩ = some (.slice A0_2 l0_2.length c0_2) := (blk_cell BK118.out 2).trans rfl
              have hcz26_3 : wr.cell? ⟨gb118, 3, none⟩ = some (.slice A0_3 l0_3.length c0_3) := (blk_cell BK118.out 3).trans rfl
              have hfz26_0 := blk_frozen BK118.out 0
              have hfz26_1 := blk_frozen BK118.out 1
              have hfz26_2 := blk_frozen BK118.out 2
              have hfz26_3 := blk_frozen BK118.out 3
              go_wp2
              go_ret
              exact ⟨by first | rfl | (simp [errW_none, errW_some] <;> rfl) | (simp [*, errW_none, errW_some] <;> rfl), by repeat (first | (with_reducible first | exact HB.out | apply below_alloc | apply pw_below_drewN | apply below_drew1 | refine below_set ?_ GE118.out) | exact HB.out)⟩
          · replace c19 := Bool.eq_false_iff.mpr c19
            subst c19
            have H1 : (if (l0_2.length : Int) = 0 then (if (l0_1.length : Int) ≥ 1 then (if (l0_3.length : Int) = (wrap64 ((l0_1.length : Int) + 1)) then ((slices_ContainsFunc_int_int.f l0_3).bind fun t122 => (some (!t122))) else (some false)) else (some false)) else (some false)) = some r := by rw [if_neg (show ¬ (false = true) by decide)] at H; exact H
            clear H
            have H := H1
            clear H1
            by_cases c27 : (l0_2.length : Int) = 0
            · rw [if_pos c27] at H
              have c27b0 : ((l0_2.length : Int) == 0) = true := beq_iff_eq.mpr c27
              have c27b1 : ((l0_2.length : Int) != 0) = false := bne_eq_false_iff_eq.mpr c27
              clear c27
              by_cases c28 : (l0_1.length : Int) ≥ 1
              · rw [if_pos c28] at H
                have c28b0 : decide (1 ≤ (l0_1.length : Int)) = true := decide_eq_true c28
                have c28b1 : decide (1 ≤ l0_1.length) = true := decide_eq_true (by omega)
                clear c28
                by_cases c29 : (l0_3.length : Int) = (wrap64 ((l0_1.length : Int) + 1))
                · rw [if_pos c29] at H
                  have c29b0 : ((l0_3.length : Int) == (wrap64 ((l0_1.length : Int) + 1))) = true := beq_iff_eq.mpr c29
                  have c29b1 : ((l0_3.length : Int) != (wrap64 ((l0_1.length : Int) + 1))) = false := bne_eq_false_iff_eq.mpr c29
                  clear c29
                  replace H := Option.bind_eq_some_iff.mp H
                  obtain ⟨t122, A300, H⟩ := H
                  replace H : (some (!t122)) = some r := H
                  have A30 := Aside0.mk A300
                  clear A300
                  obtain rfl := Option.some.inj H
                  have hcz31_0 : wr.cell? ⟨gb118, 0, none⟩ = some (.bool false) := (blk_cell BK118.out 0).trans rfl
                  have hcz31_1 : wr.cell? ⟨gb118, 1, none⟩ = some (.slice A0_1 l0_1.length c0_1) := (blk_cell BK118.out 1).trans rfl
                  have hcz31_2 : wr.cell? ⟨gb118, 2, none⟩ = some (.slice A0_2 l0_2.length c0_2) := (blk_cell BK118.out 2).trans rfl
                  have hcz31_3 : wr.cell? ⟨gb118, 3, none⟩ = some (.slice A0_3 l0_3.length c0_3) := (blk_cell BK118.out 3).trans rfl
                  have hfz31_0 := blk_frozen BK118.out 0
                  have hfz31_1 := blk_frozen BK118.out 1
                  have hfz31_2 := blk_frozen BK118.out 2
                  have hfz31_3 := blk_frozen BK118.out 3
                  go_wp2_with (first | (go_at_call 46; (with_reducible refine (slices_ContainsFunc_int_int.calls _ _ l0_3 t122 _ ?side1 ?side2 A30.out).mono ?_); (case side1 => repeat (first | exact (Kd.C_below HR0_3.out HB.out) | (with_reducible refine Kd.C_alloc ?_ _) | (with_reducible refine Kd.C_drewN ?_ _) | (with_reducible refine Kd.C_drew ?_))); (case side2 => exact HC0_3.out); rintro e w32 ⟨rfl, hb⟩; have n0_ := Aside0.mk (blk_below (g := gb118) (o := .cells #[.bool false, .slice A0_1 l0_1.length c0_1, .slice A0_2 l0_2.length c0_2, .slice A0_3 l0_3.length c0_3] 25 (0, 0)) (by (with_reducible repeat (first | refine blk_drewN ?_ _ | refine blk_drew ?_ | refine blk_alloc ?_ _)); exact BK118.out) hb); have n1_ := Aside0.mk (below_step (by repeat (first | (with_reducible first | exact HB.out | apply below_alloc | apply pw_below_drewN | apply below_drew1 | refine below_set ?_ GE118.out) | exact HB.out)) hb); clear BK118; clear HB; have BK118 := n0_; have HB := n1_; clear n0_ n1_; (try clear hb); (try clear hb2); (try clear hk); (try clear hi)))
                  go_ret
                  exact ⟨by first | rfl | (simp [errW_none, errW_some] <;> rfl) | (simp [*, errW_none, errW_some] <;> rfl), by repeat (first | (with_reducible first | exact HB.out | apply below_alloc | apply pw_below_drewN | apply below_drew1 | refine below_set ?_ GE118.out) | exact HB.out)⟩
                · rw [if_neg c29] at H
                  have c29b0 : ((l0_3.length : Int) == (wrap64 ((l0_1.length : Int) + 1))) = false := beq_eq_false_iff_ne.mpr c29
                  have c29b1 : ((l0_3.length : Int) != (wrap64 ((l0_1.length : Int) + 1))) = true := bne_iff_ne.mpr c29
                  obtain rfl := Option.some.inj H
                  have hcz33_0 : wr.cell? ⟨gb118, 0, none⟩ = some (.bool false) := (blk_cell BK118.out 0).trans rfl
                  have hcz33_1 : wr.cell? ⟨gb118, 1, none⟩ = some (.slice A0_1 l0_1.length c0_1) := (blk_cell BK118.out 1).trans rfl
                  have hcz33_2 : wr.cell? ⟨gb118, 2, none⟩ = some (.slice A0_2 l0_2.length c0_2) := (blk_cell BK118.out 2).trans rfl
                  have hcz33_3 : wr.cell? ⟨gb118, 3, none⟩ = some (.slice A0_3 l0_3.length c0_3) := (blk_cell BK118.out 3).trans rfl
                  have hfz33_0 := blk_frozen BK118.out 0
                  have hfz33_1 := blk_frozen BK118.out 1
                  have hfz33_2 := blk_frozen BK118.out 2
                  have hfz33_3 := blk_frozen BK118.out 3
                  go_wp2
                  go_ret
                  exact ⟨by first | rfl | (simp [errW_none, errW_some] <;> rfl) | (simp [*, errW_none, errW_some] <;> rfl), by repeat (first | (with_reducible first | exact HB.out | apply below_alloc | apply pw_below_drewN | apply below_drew1 | refine below_set ?_ GE118.out) | exact HB.out)⟩
              · rw [if_neg c28] at H
                have c28b0 : decide (1 ≤ (l0_1.length : Int)) = false := decide_eq_false c28
                have c28b1 : decide (1 ≤ l0_1.length) = false := decide_eq_false (by omega)
                clear c28
                obtain rfl := Option.some.inj H
                have hcz34_0 : wr.cell? ⟨gb118, 0, none⟩ = some (.bool false) := (blk_cell BK118.out 0).trans rfl
                have hcz34_1 : wr.cell? ⟨gb118, 1, none⟩ = some (.slice A0_1 l0_1.length c0_1) := (blk_cell BK118.out 1).trans rfl
                have hcz34_2 : wr.cell? ⟨gb118, 2, none⟩ = some (.slice A0_2 l0_2.length c0_2) := (blk_cell BK118.out 2).trans rfl
                have hcz34_3 : wr.cell? ⟨gb118, 3, none⟩ = some (.slice A0_3 l0_3.length c0_3) := (blk_cell BK118.out 3).trans rfl
                have hfz34_0 := blk_frozen BK118.out 0
                have hfz34_1 := blk_frozen BK118.out 1
                have hfz34_2 := blk_frozen BK118.out 2
                have hfz34_3 := blk_frozen BK118.out 3
                go_wp2
                go_ret
                exact ⟨by first | rfl | (simp [errW_none, errW_some] <;> rfl) | (simp [*, errW_none, errW_some] <;> rfl), by repeat (first | (with_reducible first | exact HB.out | apply below_alloc | apply pw_below_drewN | apply below_drew1 | refine below_set ?_ GE118.out) | exact HB.out)⟩
            · rw [if_neg c27] at H
              have c27b0 : ((l0_2.length : Int) == 0) = false := beq_eq_false_iff_ne.mpr c27
              have c27b1 : ((l0_2.length : Int) != 0) = true := bne_iff_ne.mpr c27
              have c27b2 : ¬ (l0_2 = []) := fun h_ => c27 (by rw [h_]; rfl)
              obtain rfl := Option.some.inj H
              have hcz35_0 : wr.cell? ⟨gb118, 0, none⟩ = some (.bool false) := (blk_cell BK118.out 0).trans rfl
              have hcz35_1 : wr.cell? ⟨gb118, 1, none⟩ = some (.slice A0_1 l0_1.length c0_1) := (blk_cell BK118.out 1).trans rfl
              have hcz35_2 : wr.cell? ⟨gb118, 2, none⟩ = some (.slice A0_2 l0_2.length c0_2) := (blk_cell BK118.out 2).trans rfl
              have hcz35_3 : wr.cell? ⟨gb118, 3, none⟩ = some (.slice A0_3 l0_3.length c0_3) := (blk_cell BK118.out 3).trans rfl
              have hfz35_0 := blk_frozen BK118.out 0
              have hfz35_1 := blk_frozen BK118.out 1
              have hfz35_2 := blk_frozen BK118.out 2
              have hfz35_3 := blk_frozen BK118.out 3
              go_wp2
              go_ret
              exact ⟨by first | rfl | (simp [errW_none, errW_some] <;> rfl) | (simp [*, errW_none, errW_some] <;> rfl), by repeat (first | (with_reducible first | exact HB.out | apply below_alloc | apply pw_below_drewN | apply below_drew1 | refine below_set ?_ GE118.out) | exact HB.out)⟩

end Go.Proofs.Ytmnkabdaapiikaa.P
