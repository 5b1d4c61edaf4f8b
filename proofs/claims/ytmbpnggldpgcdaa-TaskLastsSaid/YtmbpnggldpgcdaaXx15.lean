-- laid by a program of this session (wip/tools/xprint.py), function by function; Lean checks it
import Derived.Test.YtmbpnggldpgcdaaXx0
import Derived.Test.YtmbpnggldpgcdaaXx1
import Derived.Test.YtmbpnggldpgcdaaXx14
namespace Go.Proofs.Ytmbpnggldpgcdaa.X
open Go.RowKit Go.Proofs.YtmbpnggldpgcdaaW.PrintWords Go.Proofs.YtmbpnggldpgcdaaW.PrintLast Go.Proofs.YtmbpnggldpgcdaaW.PrintMore
attribute [local go_sem] max2_int min2_int max_two min_two max_three min_three max_four min_four   -- for this text's walks alone
set_option linter.unusedVariables false
set_option linter.unusedSimpArgs false

attribute [local go_sem high] eqA26
/-! ### task_Right: function 21 -/
def task_Right.j0 : Nat → Bool → List Int → Int → Int → Int → Int → Int → Int → Int → ByteArray → Option (Bool)
  | 0, _, _, _, _, _, _, _, _, _, _ => none
  | k + 1, x14, x175000, x175001, x175002, x175003, x176000, x176001, x176002, x176003, x176004 => if x14 = true then (some false) else (if x176000 = 0 then (some (x176000 == 0 && (x176001 == 0 && (x176002 == 0 && (x176003 == 0 && (x176004.toList == ([] : List UInt8))))))) else (if x176000 = 1 then (some (decide (x176001 < x175001))) else (if x176000 = 2 then (some (decide (x176001 ≥ 1))) else (if x176000 = 4 then (if x176001 = x175001 then (some (x176002 == 0)) else (some false)) else (if x176000 = 5 then (some (x176002 == 0)) else (if x176001 ≥ 1 then (some (x176002 == 0)) else (some false)))))))
def task_Right.f (k : Nat) (l0_0 : List Int) (a0_1 : Int) (a0_2 : Int) (a0_3 : Int) (a1_0 : Int) (a1_1 : Int) (a1_2 : Int) (a1_3 : Int) (a1_4 : ByteArray) : Option (Bool) := (task_stands.f k a1_0 a1_1 a1_2 a1_3 a1_4).bind fun t176 => (if t176 = true then (task_Right.j0 k (decide (a1_1 > a0_1)) l0_0 a0_1 a0_2 a0_3 a1_0 a1_1 a1_2 a1_3 a1_4) else (task_Right.j0 k true l0_0 a0_1 a0_2 a0_3 a1_0 a1_1 a1_2 a1_3 a1_4))
theorem task_Right.mono_l : ∀ k, (∀ y0 y1 y2 y3 y4 y5 y6 y7 y8 y9, LeO (task_Right.j0 k y0 y1 y2 y3 y4 y5 y6 y7 y8 y9) (task_Right.j0 (k + 1) y0 y1 y2 y3 y4 y5 y6 y7 y8 y9))
  | 0 => fun _ _ _ _ _ _ _ _ _ _ r h => by simp [task_Right.j0] at h
  | k + 1 => by
    have ih0 := task_Right.mono_l k
    · intro y0 y1 y2 y3 y4 y5 y6 y7 y8 y9
      unfold task_Right.j0
      repeat' first
      | (with_reducible exact ih0 _ _ _ _ _ _ _ _ _ _)
      | (with_reducible exact task_stands.mono _ _ _ _ _ _)
      | (with_reducible exact LeO.refl _)
      | (with_reducible exact LeO.none _)
      | (with_reducible refine LeO.ite ?_ ?_)
      | (with_reducible refine LeO.bind ?_ (fun _ => ?_))
      | exact ih0 _ _ _ _ _ _ _ _ _ _
      | exact task_stands.mono _ _ _ _ _ _
      | exact LeO.none _
      | refine LeO.ite ?_ ?_
      | refine LeO.bind ?_ (fun _ => ?_)
theorem task_Right.mono : ∀ a0 a1 a2 a3 a4 a5 a6 a7 a8 k, LeO (task_Right.f k a0 a1 a2 a3 a4 a5 a6 a7 a8) (task_Right.f (k + 1) a0 a1 a2 a3 a4 a5 a6 a7 a8) := by
  intro a0 a1 a2 a3 a4 a5 a6 a7 a8 k
  have ih0 := task_Right.mono_l k
  unfold task_Right.f
  repeat' first
      | (with_reducible exact ih0 _ _ _ _ _ _ _ _ _ _)
      | (with_reducible exact task_stands.mono _ _ _ _ _ _)
      | (with_reducible exact LeO.refl _)
      | (with_reducible exact LeO.none _)
      | (with_reducible refine LeO.ite ?_ ?_)
      | (with_reducible refine LeO.bind ?_ (fun _ => ?_))
      | exact ih0 _ _ _ _ _ _ _ _ _ _
      | exact task_stands.mono _ _ _ _ _ _
      | exact LeO.none _
      | refine LeO.ite ?_ ?_
      | refine LeO.bind ?_ (fun _ => ?_)
set_option maxHeartbeats 8000000 in
set_option maxRecDepth 100000 in
theorem task_Right.calls (k : Nat) (A0_0 : Option Addr) (c0_0 : Nat) (l0_0 : List Int) (a0_1 : Int) (a0_2 : Int) (a0_3 : Int) (a1_0 : Int) (a1_1 : Int) (a1_2 : Int) (a1_3 : Int) (a1_4 : ByteArray) (r : Bool) (w : World) (hr0_0 : Kd.C (Kd.int .i64) w A0_0 l0_0.length l0_0) (hc0_0 : l0_0.length ≤ c0_0) (h : task_Right.f k l0_0 a0_1 a0_2 a0_3 a1_0 a1_1 a1_2 a1_3 a1_4 = some r) :
    Calls Try.prog 21 #[.agg #[.slice A0_0 l0_0.length c0_0, .int .i64 a0_1, .int .i64 a0_2, .int .i64 a0_3], .agg #[.int .i64 a1_0, .int .i64 a1_1, .int .i64 a1_2, .int .i64 a1_3, .string a1_4]] w fun e w' => e = .returned (.bool r) ∧ Below w.heap.size w w' := by
  have hu24 := Try.underlying24
  have hu26 := Try.underlying26
  have HR0_0 := Aside0.mk hr0_0
  have HC0_0 := Aside0.mk hc0_0
  clear hr0_0 hc0_0
  have HB := Aside0.mk (Below.refl w.heap.size w)
  have H : ((task_stands.f k a1_0 a1_1 a1_2 a1_3 a1_4).bind fun t176 => (if t176 = true then (task_Right.j0 k (decide (a1_1 > a0_1)) l0_0 a0_1 a0_2 a0_3 a1_0 a1_1 a1_2 a1_3 a1_4) else (task_Right.j0 k true l0_0 a0_1 a0_2 a0_3 a1_0 a1_1 a1_2 a1_3 a1_4))) = some r := h
  clear h
  have HC3 := Aside0.mk H
  clear H
  go_enter Try.func21, Try.ntmps21
  go_upto_region 1 with (first | ((with_reducible refine gate_dst (N := 2) rfl ?_); refine box_event ?hg (N := 2) ?hd (cs := #[.slice A0_0 l0_0.length c0_0, .int .i64 a0_1, .int .i64 a0_2, .int .i64 a0_3]) (t := 24) ?hr ?_; (case hd => rfl); (case hg => rfl); (case hr => first | (go_simp; done) | (go_simp; rfl)); intro gb174 hg w4 hbox hb; have n0_ := Aside0.mk (below_step (by repeat (first | (with_reducible first | exact HB.out | apply below_alloc | apply pw_below_drewN | apply below_drew1) | exact HB.out)) hb); have n1_ := Aside0.mk (hbox); have n2_ := Aside0.mk ((by rw [hg]; exact (below_size (by repeat (first | (with_reducible first | exact HB.out | apply below_alloc | apply pw_below_drewN | apply below_drew1) | exact HB.out))) : w.heap.size ≤ gb174)); have n3_ := Aside0.mk ((by rw [hg]; exact (below_size (by repeat (first | (with_reducible first | exact HB.out | apply below_alloc | apply pw_below_drewN | apply below_drew1) | exact HB.out))) : w.heap.size ≤ gb174)); clear HB; have HB := n0_; have BK174 := n1_; have GW174 := n2_; have GE174 := n3_; clear n0_ n1_ n2_ n3_; clear hb hbox hg) | ((with_reducible refine gate_dst (N := 3) rfl ?_); refine box_event ?hg (N := 3) ?hd (cs := #[.int .i64 a1_0, .int .i64 a1_1, .int .i64 a1_2, .int .i64 a1_3, .string a1_4]) (t := 26) ?hr ?_; (case hd => rfl); (case hg => rfl); (case hr => first | (go_simp; done) | (go_simp; rfl)); intro gb175 hg w5 hbox hb; have n0_ := Aside0.mk (blk_below (g := gb174) (o := .cells #[.slice A0_0 l0_0.length c0_0, .int .i64 a0_1, .int .i64 a0_2, .int .i64 a0_3] 24 (0, 0)) (by (with_reducible repeat (first | refine blk_drewN ?_ _ | refine blk_drew ?_ | refine blk_alloc ?_ _)); exact BK174.out) hb); have n1_ := Aside0.mk (below_step (by repeat (first | (with_reducible first | exact HB.out | apply below_alloc | apply pw_below_drewN | apply below_drew1 | refine below_set ?_ GE174.out) | exact HB.out)) hb); have n2_ := Aside0.mk (hbox); have n3_ := Aside0.mk ((by rw [hg]; exact (below_size (by repeat (first | (with_reducible first | exact HB.out | apply below_alloc | apply pw_below_drewN | apply below_drew1 | refine below_set ?_ GE174.out) | exact HB.out))) : w.heap.size ≤ gb175)); have n4_ := Aside0.mk ((by rw [hg]; exact (below_size (by repeat (first | (with_reducible first | exact HB.out | apply below_alloc | apply pw_below_drewN | apply below_drew1 | refine below_set ?_ GE174.out) | exact HB.out))) : w.heap.size ≤ gb175)); have n5_ := Aside0.mk ((by rw [hg]; exact Nat.ne_of_lt (blk_lt (g := gb174) (o := .cells #[.slice A0_0 l0_0.length c0_0, .int .i64 a0_1, .int .i64 a0_2, .int .i64 a0_3] 24 (0, 0)) (by (with_reducible repeat (first | refine blk_drewN ?_ _ | refine blk_drew ?_ | refine blk_alloc ?_ _)); exact BK174.out)) : gb174 ≠ gb175)); have n6_ := Aside0.mk ((by rw [hg]; exact Nat.ne_of_gt (blk_lt (g := gb174) (o := .cells #[.slice A0_0 l0_0.length c0_0, .int .i64 a0_1, .int .i64 a0_2, .int .i64 a0_3] 24 (0, 0)) (by (with_reducible repeat (first | refine blk_drewN ?_ _ | refine blk_drew ?_ | refine blk_alloc ?_ _)); exact BK174.out)) : gb175 ≠ gb174)); clear BK174; clear HB; have BK174 := n0_; have HB := n1_; have BK175 := n2_; have GW175 := n3_; have GE175 := n4_; have NB174_175 := n5_; have NB175_174 := n6_; clear n0_ n1_ n2_ n3_ n4_ n5_ n6_; clear hb hbox hg))
  (try simp only [Act.put, List.setIfInBounds_toArray, List.set_cons_zero, List.set_cons_succ])
  go_cut [14] (fun v14 wc => ∃ (kq : Nat) (x14_2 : Bool), v14 = .bool x14_2 ∧ Aside0 (task_Right.j0 kq x14_2 l0_0 a0_1 a0_2 a0_3 a1_0 a1_1 a1_2 a1_3 a1_4 = some r) ∧ Aside0 (kq ≤ k) ∧ Aside0 (wc.heap[gb174]? = some (.cells #[(.slice A0_0 l0_0.length c0_0), .int .i64 a0_1, .int .i64 a0_2, .int .i64 a0_3] 24 (0, 0))) ∧ Aside0 (wc.heap[gb175]? = some (.cells #[.int .i64 a1_0, .int .i64 a1_1, .int .i64 a1_2, .int .i64 a1_3, .string a1_4] 26 (0, 0))) ∧ Aside0 (Below w.heap.size w wc))
  case first =>
    have H := HC3.out
    clear HC3
    replace H := Option.bind_eq_some_iff.mp H
    obtain ⟨t176, A60, H⟩ := H
    replace H : (if t176 = true then (task_Right.j0 k (decide (a1_1 > a0_1)) l0_0 a0_1 a0_2 a0_3 a1_0 a1_1 a1_2 a1_3 a1_4) else (task_Right.j0 k true l0_0 a0_1 a0_2 a0_3 a1_0 a1_1 a1_2 a1_3 a1_4)) = some r := H
    have A6 := Aside0.mk A60
    clear A60
    by_cases c7 : t176 = true
    · subst c7
      have H1 : (task_Right.j0 k (decide (a1_1 > a0_1)) l0_0 a0_1 a0_2 a0_3 a1_0 a1_1 a1_2 a1_3 a1_4) = some r := by rw [if_pos rfl] at H; exact H
      clear H
      have H := H1
      clear H1
      have H' := Aside0.mk H
      clear H
      have hnb8 := NB175_174.out
      have hnc8 := NB174_175.out
      have hcz9_0 : w5.cell? ⟨gb175, 0, none⟩ = some (.int .i64 a1_0) := (blk_cell BK175.out 0).trans rfl
      have hcz9_1 : w5.cell? ⟨gb175, 1, none⟩ = some (.int .i64 a1_1) := (blk_cell BK175.out 1).trans rfl
      have hcz9_2 : w5.cell? ⟨gb175, 2, none⟩ = some (.int .i64 a1_2) := (blk_cell BK175.out 2).trans rfl
      have hcz9_3 : w5.cell? ⟨gb175, 3, none⟩ = some (.int .i64 a1_3) := (blk_cell BK175.out 3).trans rfl
      have hcz9_4 : w5.cell? ⟨gb175, 4, none⟩ = some (.string a1_4) := (blk_cell BK175.out 4).trans rfl
      have hfz9_0 := blk_frozen BK175.out 0
      have hfz9_1 := blk_frozen BK175.out 1
      have hfz9_2 := blk_frozen BK175.out 2
      have hfz9_3 := blk_frozen BK175.out 3
      have hfz9_4 := blk_frozen BK175.out 4
      go_wp2_with (first | ((with_reducible refine gate_callee (f := 37) rfl ?_); refine goesL_ (some 6) rfl rfl Try.func37 (by kernel_rfl) rfl #[.agg #[.int .i64 a1_0, .int .i64 a1_1, .int .i64 a1_2, .int .i64 a1_3, .string a1_4]] rfl (by (try simp only [List.map_toArray, List.map_cons, List.map_nil]); first | done | rfl | (simp only [List.length_drop, List.length_take]; rfl)) ?_; (with_reducible refine (task_stands.calls k a1_0 a1_1 a1_2 a1_3 a1_4 true _ A6.out).mono ?_); rintro e w10 ⟨rfl, hb⟩; refine ⟨_, rfl, ?_⟩; have n0_ := Aside0.mk (blk_below (g := gb174) (o := .cells #[.slice A0_0 l0_0.length c0_0, .int .i64 a0_1, .int .i64 a0_2, .int .i64 a0_3] 24 (0, 0)) (by (with_reducible repeat (first | refine blk_drewN ?_ _ | refine blk_drew ?_ | refine blk_alloc ?_ _)); exact BK174.out) hb); have n1_ := Aside0.mk (blk_below (g := gb175) (o := .cells #[.int .i64 a1_0, .int .i64 a1_1, .int .i64 a1_2, .int .i64 a1_3, .string a1_4] 26 (0, 0)) (by (with_reducible repeat (first | refine blk_drewN ?_ _ | refine blk_drew ?_ | refine blk_alloc ?_ _)); exact BK175.out) hb); have n2_ := Aside0.mk (below_step (by repeat (first | (with_reducible first | exact HB.out | apply below_alloc | apply pw_below_drewN | apply below_drew1 | refine below_set ?_ GE174.out | refine below_set ?_ GE175.out) | exact HB.out)) hb); clear BK174; clear BK175; clear HB; have BK174 := n0_; have BK175 := n1_; have HB := n2_; clear n0_ n1_ n2_; (try clear hb); (try clear hb2); (try clear hk); (try clear hi); have hcz11_0 : w10.cell? ⟨gb175, 0, none⟩ = some (.int .i64 a1_0) := (blk_cell BK175.out 0).trans rfl; have hcz11_1 : w10.cell? ⟨gb175, 1, none⟩ = some (.int .i64 a1_1) := (blk_cell BK175.out 1).trans rfl; have hcz11_2 : w10.cell? ⟨gb175, 2, none⟩ = some (.int .i64 a1_2) := (blk_cell BK175.out 2).trans rfl; have hcz11_3 : w10.cell? ⟨gb175, 3, none⟩ = some (.int .i64 a1_3) := (blk_cell BK175.out 3).trans rfl; have hcz11_4 : w10.cell? ⟨gb175, 4, none⟩ = some (.string a1_4) := (blk_cell BK175.out 4).trans rfl; have hfz11_0 := blk_frozen BK175.out 0; have hfz11_1 := blk_frozen BK175.out 1; have hfz11_2 := blk_frozen BK175.out 2; have hfz11_3 := blk_frozen BK175.out 3; have hfz11_4 := blk_frozen BK175.out 4; have hcz12_0 : w10.cell? ⟨gb174, 0, none⟩ = some (.slice A0_0 l0_0.length c0_0) := (blk_cell BK174.out 0).trans rfl; have hcz12_1 : w10.cell? ⟨gb174, 1, none⟩ = some (.int .i64 a0_1) := (blk_cell BK174.out 1).trans rfl; have hcz12_2 : w10.cell? ⟨gb174, 2, none⟩ = some (.int .i64 a0_2) := (blk_cell BK174.out 2).trans rfl; have hcz12_3 : w10.cell? ⟨gb174, 3, none⟩ = some (.int .i64 a0_3) := (blk_cell BK174.out 3).trans rfl; have hfz12_0 := blk_frozen BK174.out 0; have hfz12_1 := blk_frozen BK174.out 1; have hfz12_2 := blk_frozen BK174.out 2; have hfz12_3 := blk_frozen BK174.out 3))
      go_meet
      case rel => exact ⟨_, (decide (a1_1 > a0_1)), (by first | rfl | (simp; done) | (simp [*]; done)), H', ⟨by first | omega | exact Nat.le_refl _⟩, ⟨by (with_reducible repeat (first | refine blk_drewN ?_ _ | refine blk_drew ?_ | refine blk_alloc ?_ _)); exact BK174.out⟩, ⟨by (with_reducible repeat (first | refine blk_drewN ?_ _ | refine blk_drew ?_ | refine blk_alloc ?_ _)); exact BK175.out⟩, ⟨by repeat (first | (with_reducible first | exact HB.out | apply below_alloc | apply pw_below_drewN | apply below_drew1 | refine below_set ?_ GE174.out | refine below_set ?_ GE175.out) | exact HB.out)⟩⟩
    · replace c7 := Bool.eq_false_iff.mpr c7
      subst c7
      have H1 : (task_Right.j0 k true l0_0 a0_1 a0_2 a0_3 a1_0 a1_1 a1_2 a1_3 a1_4) = some r := by rw [if_neg (show ¬ (false = true) by decide)] at H; exact H
      clear H
      have H := H1
      clear H1
      have H' := Aside0.mk H
      clear H
      have hnb13 := NB175_174.out
      have hnc13 := NB174_175.out
      have hcz14_0 : w5.cell? ⟨gb175, 0, none⟩ = some (.int .i64 a1_0) := (blk_cell BK175.out 0).trans rfl
      have hcz14_1 : w5.cell? ⟨gb175, 1, none⟩ = some (.int .i64 a1_1) := (blk_cell BK175.out 1).trans rfl
      have hcz14_2 : w5.cell? ⟨gb175, 2, none⟩ = some (.int .i64 a1_2) := (blk_cell BK175.out 2).trans rfl
      have hcz14_3 : w5.cell? ⟨gb175, 3, none⟩ = some (.int .i64 a1_3) := (blk_cell BK175.out 3).trans rfl
      have hcz14_4 : w5.cell? ⟨gb175, 4, none⟩ = some (.string a1_4) := (blk_cell BK175.out 4).trans rfl
      have hfz14_0 := blk_frozen BK175.out 0
      have hfz14_1 := blk_frozen BK175.out 1
      have hfz14_2 := blk_frozen BK175.out 2
      have hfz14_3 := blk_frozen BK175.out 3
      have hfz14_4 := blk_frozen BK175.out 4
      go_wp2_with (first | ((with_reducible refine gate_callee (f := 37) rfl ?_); refine goesL_ (some 6) rfl rfl Try.func37 (by kernel_rfl) rfl #[.agg #[.int .i64 a1_0, .int .i64 a1_1, .int .i64 a1_2, .int .i64 a1_3, .string a1_4]] rfl (by (try simp only [List.map_toArray, List.map_cons, List.map_nil]); first | done | rfl | (simp only [List.length_drop, List.length_take]; rfl)) ?_; (with_reducible refine (task_stands.calls k a1_0 a1_1 a1_2 a1_3 a1_4 false _ A6.out).mono ?_); rintro e w15 ⟨rfl, hb⟩; refine ⟨_, rfl, ?_⟩; have n0_ := Aside0.mk (blk_below (g := gb174) (o := .cells #[.slice A0_0 l0_0.length c0_0, .int .i64 a0_1, .int .i64 a0_2, .int .i64 a0_3] 24 (0, 0)) (by (with_reducible repeat (first | refine blk_drewN ?_ _ | refine blk_drew ?_ | refine blk_alloc ?_ _)); exact BK174.out) hb); have n1_ := Aside0.mk (blk_below (g := gb175) (o := .cells #[.int .i64 a1_0, .int .i64 a1_1, .int .i64 a1_2, .int .i64 a1_3, .string a1_4] 26 (0, 0)) (by (with_reducible repeat (first | refine blk_drewN ?_ _ | refine blk_drew ?_ | refine blk_alloc ?_ _)); exact BK175.out) hb); have n2_ := Aside0.mk (below_step (by repeat (first | (with_reducible first | exact HB.out | apply below_alloc | apply pw_below_drewN | apply below_drew1 | refine below_set ?_ GE174.out | refine below_set ?_ GE175.out) | exact HB.out)) hb); clear BK174; clear BK175; clear HB; have BK174 := n0_; have BK175 := n1_; have HB := n2_; clear n0_ n1_ n2_; (try clear hb); (try clear hb2); (try clear hk); (try clear hi)))
      go_meet
      case rel => exact ⟨_, (true), (by first | rfl | (simp; done) | (simp [*]; done)), H', ⟨by first | omega | exact Nat.le_refl _⟩, ⟨by (with_reducible repeat (first | refine blk_drewN ?_ _ | refine blk_drew ?_ | refine blk_alloc ?_ _)); exact BK174.out⟩, ⟨by (with_reducible repeat (first | refine blk_drewN ?_ _ | refine blk_drew ?_ | refine blk_alloc ?_ _)); exact BK175.out⟩, ⟨by repeat (first | (with_reducible first | exact HB.out | apply below_alloc | apply pw_below_drewN | apply below_drew1 | refine below_set ?_ GE174.out | refine below_set ?_ GE175.out) | exact HB.out)⟩⟩
  case rest =>
    clear HC3
    try clear c1
    try clear c2
    try clear p2
    try clear c3
    try clear c7
    try clear c8
    try clear c13
    try clear hcz11_0
    try clear hcz11_1
    try clear hcz11_2
    try clear hcz11_3
    try clear hcz11_4
    try clear hcz12_0
    try clear hcz12_1
    try clear hcz12_2
    try clear hcz12_3
    try clear hcz14_0
    try clear hcz14_1
    try clear hcz14_2
    try clear hcz14_3
    try clear hcz14_4
    try clear hcz9_0
    try clear hcz9_1
    try clear hcz9_2
    try clear hcz9_3
    try clear hcz9_4
    try clear hfz11_0
    try clear hfz11_1
    try clear hfz11_2
    try clear hfz11_3
    try clear hfz11_4
    try clear hfz12_0
    try clear hfz12_1
    try clear hfz12_2
    try clear hfz12_3
    try clear hfz14_0
    try clear hfz14_1
    try clear hfz14_2
    try clear hfz14_3
    try clear hfz14_4
    try clear hfz9_0
    try clear hfz9_1
    try clear hfz9_2
    try clear hfz9_3
    try clear hfz9_4
    obtain ⟨kq, x14_2, rfl, HA, HJ2, BK174, BK175, HB⟩ := hcut
    cases kq with
    | zero => exact absurd HA.out (by simp [task_Right.j0])
    | succ kj2 =>
      have H := HA.out
      clear HA
      simp only [task_Right.j0] at H
      by_cases c16 : x14_2 = true
      · subst c16
        have H1 : (some false) = some r := by rw [if_pos rfl] at H; exact H
        clear H
        have H := H1
        clear H1
        obtain rfl := Option.some.inj H
        go_wp2
        go_ret
        exact ⟨by first | rfl | (simp [errW_none, errW_some] <;> rfl) | (simp [*, errW_none, errW_some] <;> rfl), by repeat (first | (with_reducible first | exact HB.out | apply below_alloc | apply pw_below_drewN | apply below_drew1 | refine below_set ?_ GE174.out | refine below_set ?_ GE175.out) | exact HB.out)⟩
      · replace c16 := Bool.eq_false_iff.mpr c16
        subst c16
        have H1 : (if a1_0 = 0 then (some (a1_0 == 0 && (a1_1 == 0 && (a1_2 == 0 && (a1_3 == 0 && (a1_4.toList == ([] : List UInt8))))))) else (if a1_0 = 1 then (some (decide (a1_1 < a0_1))) else (if a1_0 = 2 then (some (decide (a1_1 ≥ 1))) else (if a1_0 = 4 then (if a1_1 = a0_1 then (some (a1_2 == 0)) else (some false)) else (if a1_0 = 5 then (some (a1_2 == 0)) else (if a1_1 ≥ 1 then (some (a1_2 == 0)) else (some false))))))) = some r := by rw [if_neg (show ¬ (false = true) by decide)] at H; exact H
        clear H
        have H := H1
        clear H1
        by_cases c17 : a1_0 = 0
        · rw [if_pos c17] at H
          have c17b0 : (a1_0 == 0) = true := beq_iff_eq.mpr c17
          have c17b1 : (a1_0 != 0) = false := bne_eq_false_iff_eq.mpr c17
          clear c17
          obtain rfl := Option.some.inj H
          have hnb18 := NB175_174.out
          have hnc18 := NB174_175.out
          have hcz19_0 : wc.cell? ⟨gb175, 0, none⟩ = some (.int .i64 a1_0) := (blk_cell BK175.out 0).trans rfl
          have hcz19_1 : wc.cell? ⟨gb175, 1, none⟩ = some (.int .i64 a1_1) := (blk_cell BK175.out 1).trans rfl
          have hcz19_2 : wc.cell? ⟨gb175, 2, none⟩ = some (.int .i64 a1_2) := (blk_cell BK175.out 2).trans rfl
          have hcz19_3 : wc.cell? ⟨gb175, 3, none⟩ = some (.int .i64 a1_3) := (blk_cell BK175.out 3).trans rfl
          have hcz19_4 : wc.cell? ⟨gb175, 4, none⟩ = some (.string a1_4) := (blk_cell BK175.out 4).trans rfl
          have hfz19_0 := blk_frozen BK175.out 0
          have hfz19_1 := blk_frozen BK175.out 1
          have hfz19_2 := blk_frozen BK175.out 2
          have hfz19_3 := blk_frozen BK175.out 3
          have hfz19_4 := blk_frozen BK175.out 4
          go_wp2
          go_ret
          exact ⟨by first | rfl | (simp [errW_none, errW_some] <;> rfl) | (simp [*, errW_none, errW_some] <;> rfl), by repeat (first | (with_reducible first | exact HB.out | apply below_alloc | apply pw_below_drewN | apply below_drew1 | refine below_set ?_ GE174.out | refine below_set ?_ GE175.out) | exact HB.out)⟩
        · rw [if_neg c17] at H
          have c17b0 : (a1_0 == 0) = false := beq_eq_false_iff_ne.mpr c17
          have c17b1 : (a1_0 != 0) = true := bne_iff_ne.mpr c17
          by_cases c20 : a1_0 = 1
          · rw [if_pos c20] at H
            have c20b0 : (a1_0 == 1) = true := beq_iff_eq.mpr c20
            have c20b1 : (a1_0 != 1) = false := bne_eq_false_iff_eq.mpr c20
            clear c20
            obtain rfl := Option.some.inj H
            have hnb21 := NB175_174.out
            have hnc21 := NB174_175.out
            have hcz22_0 : wc.cell? ⟨gb175, 0, none⟩ = some (.int .i64 a1_0) := (blk_cell BK175.out 0).trans rfl
            have hcz22_1 : wc.cell? ⟨gb175, 1, none⟩ = some (.int .i64 a1_1) := (blk_cell BK175.out 1).trans rfl
            have hcz22_2 : wc.cell? ⟨gb175, 2, none⟩ = some (.int .i64 a1_2) := (blk_cell BK175.out 2).trans rfl
            have hcz22_3 : wc.cell? ⟨gb175, 3, none⟩ = some (.int .i64 a1_3) := (blk_cell BK175.out 3).trans rfl
            have hcz22_4 : wc.cell? ⟨gb175, 4, none⟩ = some (.string a1_4) := (blk_cell BK175.out 4).trans rfl
            have hfz22_0 := blk_frozen BK175.out 0
            have hfz22_1 := blk_frozen BK175.out 1
            have hfz22_2 := blk_frozen BK175.out 2
            have hfz22_3 := blk_frozen BK175.out 3
            have hfz22_4 := blk_frozen BK175.out 4
            have hcz23_0 : wc.cell? ⟨gb174, 0, none⟩ = some (.slice A0_0 l0_0.length c0_0) := (blk_cell BK174.out 0).trans rfl
            have hcz23_1 : wc.cell? ⟨gb174, 1, none⟩ = some (.int .i64 a0_1) := (blk_cell BK174.out 1).trans rfl
            have hcz23_2 : wc.cell? ⟨gb174, 2, none⟩ = some (.int .i64 a0_2) := (blk_cell BK174.out 2).trans rfl
            have hcz23_3 : wc.cell? ⟨gb174, 3, none⟩ = some (.int .i64 a0_3) := (blk_cell BK174.out 3).trans rfl
            have hfz23_0 := blk_frozen BK174.out 0
            have hfz23_1 := blk_frozen BK174.out 1
            have hfz23_2 := blk_frozen BK174.out 2
            have hfz23_3 := blk_frozen BK174.out 3
            go_wp2
            go_ret
            exact ⟨by first | rfl | (simp [errW_none, errW_some] <;> rfl) | (simp [*, errW_none, errW_some] <;> rfl), by repeat (first | (with_reducible first | exact HB.out | apply below_alloc | apply pw_below_drewN | apply below_drew1 | refine below_set ?_ GE174.out | refine below_set ?_ GE175.out) | exact HB.out)⟩
          · rw [if_neg c20] at H
            have c20b0 : (a1_0 == 1) = false := beq_eq_false_iff_ne.mpr c20
            have c20b1 : (a1_0 != 1) = true := bne_iff_ne.mpr c20
            by_cases c24 : a1_0 = 2
            · rw [if_pos c24] at H
              have c24b0 : (a1_0 == 2) = true := beq_iff_eq.mpr c24
              have c24b1 : (a1_0 != 2) = false := bne_eq_false_iff_eq.mpr c24
              clear c24
              obtain rfl := Option.some.inj H
              have hnb25 := NB175_174.out
              have hnc25 := NB174_175.out
              have hcz26_0 : wc.cell? ⟨gb175, 0, none⟩ = some (.int .i64 a1_0) := (blk_cell BK175.out 0).trans rfl
              have hcz26_1 : wc.cell? ⟨gb175, 1, none⟩ = some (.int .i64 a1_1) := (blk_cell BK175.out 1).trans rfl
              have hcz26_2 : wc.cell? ⟨gb175, 2, none⟩ = some (.int .i64 a1_2) := (blk_cell BK175.out 2).trans rfl
              have hcz26_3 : wc.cell? ⟨gb175, 3, none⟩ = some (.int .i64 a1_3) := (blk_cell BK175.out 3).trans rfl
              have hcz26_4 : wc.cell? ⟨gb175, 4, none⟩ = some (.string a1_4) := (blk_cell BK175.out 4).trans rfl
              have hfz26_0 := blk_frozen BK175.out 0
              have hfz26_1 := blk_frozen BK175.out 1
              have hfz26_2 := blk_frozen BK175.out 2
              have hfz26_3 := blk_frozen BK175.out 3
              have hfz26_4 := blk_frozen BK175.out 4
              go_wp2
              go_ret
              exact ⟨by first | rfl | (simp [errW_none, errW_some] <;> rfl) | (simp [*, errW_none, errW_some] <;> rfl), by repeat (first | (with_reducible first | exact HB.out | apply below_alloc | apply pw_below_drewN | apply below_drew1 | refine below_set ?_ GE174.out | refine below_set ?_ GE175.out) | exact HB.out)⟩
            · rw [if_neg c24] at H
              have c24b0 : (a1_0 == 2) = false := beq_eq_false_iff_ne.mpr c24
              have c24b1 : (a1_0 != 2) = true := bne_iff_ne.mpr c24
              by_cases c27 : a1_0 = 4
              · rw [if_pos c27] at H
                have c27b0 : (a1_0 == 4) = true := beq_iff_eq.mpr c27
                have c27b1 : (a1_0 != 4) = false := bne_eq_false_iff_eq.mpr c27
                clear c27
                by_cases c28 : a1_1 = a0_1
                · rw [if_pos c28] at H
                  have c28b0 : (a1_1 == a0_1) = true := beq_iff_eq.mpr c28
                  have c28b1 : (a1_1 != a0_1) = false := bne_eq_false_iff_eq.mpr c28
                  clear c28
                  obtain rfl := Option.some.inj H
                  have hnb29 := NB175_174.out
                  have hnc29 := NB174_175.out
                  have hcz30_0 : wc.cell? ⟨gb175, 0, none⟩ = some (.int .i64 a1_0) := (blk_cell BK175.out 0).trans rfl
                  have hcz30_1 : wc.cell? ⟨gb175, 1, none⟩ = some (.int .i64 a1_1) := (blk_cell BK175.out 1).trans rfl
                  have hcz30_2 : wc.cell? ⟨gb175, 2, none⟩ = some (.int .i64 a1_2) := (blk_cell BK175.out 2).trans rfl
                  have hcz30_3 : wc.cell? ⟨gb175, 3, none⟩ = some (.int .i64 a1_3) := (blk_cell BK175.out 3).trans rfl
                  have hcz30_4 : wc.cell? ⟨gb175, 4, none⟩ = some (.string a1_4) := (blk_cell BK175.out 4).trans rfl
                  have hfz30_0 := blk_frozen BK175.out 0
                  have hfz30_1 := blk_frozen BK175.out 1
                  have hfz30_2 := blk_frozen BK175.out 2
                  have hfz30_3 := blk_frozen BK175.out 3
                  have hfz30_4 := blk_frozen BK175.out 4
                  have hcz31_0 : wc.cell? ⟨gb174, 0, none⟩ = some (.slice A0_0 l0_0.length c0_0) := (blk_cell BK174.out 0).trans rfl
                  have hcz31_1 : wc.cell? ⟨gb174, 1, none⟩ = some (.int .i64 a0_1) := (blk_cell BK174.out 1).trans rfl
                  have hcz31_2 : wc.cell? ⟨gb174, 2, none⟩ = some (.int .i64 a0_2) := (blk_cell BK174.out 2).trans rfl
                  have hcz31_3 : wc.cell? ⟨gb174, 3, none⟩ = some (.int .i64 a0_3) := (blk_cell BK174.out 3).trans rfl
                  have hfz31_0 := blk_frozen BK174.out 0
                  have hfz31_1 := blk_frozen BK174.out 1
                  have hfz31_2 := blk_frozen BK174.out 2
                  have hfz31_3 := blk_frozen BK174.out 3
                  go_wp2
                  go_ret
                  exact ⟨by first | rfl | (simp [errW_none, errW_some] <;> rfl) | (simp [*, errW_none, errW_some] <;> rfl), by repeat (first | (with_reducible first | exact HB.out | apply below_alloc | apply pw_below_drewN | apply below_drew1 | refine below_set ?_ GE174.out | refine below_set ?_ GE175.out) | exact HB.out)⟩
                · rw [if_neg c28] at H
                  have c28b0 : (a1_1 == a0_1) = false := beq_eq_false_iff_ne.mpr c28
                  have c28b1 : (a1_1 != a0_1) = true := bne_iff_ne.mpr c28
                  obtain rfl := Option.some.inj H
                  have hnb32 := NB175_174.out
                  have hnc32 := NB174_175.out
                  have hcz33_0 : wc.cell? ⟨gb175, 0, none⟩ = some (.int .i64 a1_0) := (blk_cell BK175.out 0).trans rfl
                  have hcz33_1 : wc.cell? ⟨gb175, 1, none⟩ = some (.int .i64 a1_1) := (blk_cell BK175.out 1).trans rfl
                  have hcz33_2 : wc.cell? ⟨gb175, 2, none⟩ = some (.int .i64 a1_2) := (blk_cell BK175.out 2).trans rfl
                  have hcz33_3 : wc.cell? ⟨gb175, 3, none⟩ = some (.int .i64 a1_3) := (blk_cell BK175.out 3).trans rfl
                  have hcz33_4 : wc.cell? ⟨gb175, 4, none⟩ = some (.string a1_4) := (blk_cell BK175.out 4).trans rfl
                  have hfz33_0 := blk_frozen BK175.out 0
                  have hfz33_1 := blk_frozen BK175.out 1
                  have hfz33_2 := blk_frozen BK175.out 2
                  have hfz33_3 := blk_frozen BK175.out 3
                  have hfz33_4 := blk_frozen BK175.out 4
                  have hcz34_0 : wc.cell? ⟨gb174, 0, none⟩ = some (.slice A0_0 l0_0.length c0_0) := (blk_cell BK174.out 0).trans rfl
                  have hcz34_1 : wc.cell? ⟨gb174, 1, none⟩ = some (.int .i64 a0_1) := (blk_cell BK174.out 1).trans rfl
                  have hcz34_2 : wc.cell? ⟨gb174, 2, none⟩ = some (.int .i64 a0_2) := (blk_cell BK174.out 2).trans rfl
                  have hcz34_3 : wc.cell? ⟨gb174, 3, none⟩ = some (.int .i64 a0_3) := (blk_cell BK174.out 3).trans rfl
                  have hfz34_0 := blk_frozen BK174.out 0
                  have hfz34_1 := blk_frozen BK174.out 1
                  have hfz34_2 := blk_frozen BK174.out 2
                  have hfz34_3 := blk_frozen BK174.out 3
                  go_wp2
                  go_ret
                  exact ⟨by first | rfl | (simp [errW_none, errW_some] <;> rfl) | (simp [*, errW_none, errW_some] <;> rfl), by repeat (first | (with_reducible first | exact HB.out | apply below_alloc | apply pw_below_drewN | apply below_drew1 | refine below_set ?_ GE174.out | refine below_set ?_ GE175.out) | exact HB.out)⟩
              · rw [if_neg c27] at H
                have c27b0 : (a1_0 == 4) = false := beq_eq_false_iff_ne.mpr c27
                have c27b1 : (a1_0 != 4) = true := bne_iff_ne.mpr c27
                by_cases c35 : a1_0 = 5
                · rw [if_pos c35] at H
                  have c35b0 : (a1_0 == 5) = true := beq_iff_eq.mpr c35
                  have c35b1 : (a1_0 != 5) = false := bne_eq_false_iff_eq.mpr c35
                  clear c35
                  obtain rfl := Option.some.inj H
                  have hnb36 := NB175_174.out
                  have hnc36 := NB174_175.out
                  have hcz37_0 : wc.cell? ⟨gb175, 0, none⟩ = some (.int .i64 a1_0) := (blk_cell BK175.out 0).trans rfl
                  have hcz37_1 : wc.cell? ⟨gb175, 1, none⟩ = some (.int .i64 a1_1) := (blk_cell BK175.out 1).trans rfl
                  have hcz37_2 : wc.cell? ⟨gb175, 2, none⟩ = some (.int .i64 a1_2) := (blk_cell BK175.out 2).trans rfl
                  have hcz37_3 : wc.cell? ⟨gb175, 3, none⟩ = some (.int .i64 a1_3) := (blk_cell BK175.out 3).trans rfl
                  have hcz37_4 : wc.cell? ⟨gb175, 4, none⟩ = some (.string a1_4) := (blk_cell BK175.out 4).trans rfl
                  have hfz37_0 := blk_frozen BK175.out 0
                  have hfz37_1 := blk_frozen BK175.out 1
                  have hfz37_2 := blk_frozen BK175.out 2
                  have hfz37_3 := blk_frozen BK175.out 3
                  have hfz37_4 := blk_frozen BK175.out 4
                  go_wp2
                  go_ret
                  exact ⟨by first | rfl | (simp [errW_none, errW_some] <;> rfl) | (simp [*, errW_none, errW_some] <;> rfl), by repeat (first | (with_reducible first | exact HB.out | apply below_alloc | apply pw_below_drewN | apply below_drew1 | refine below_set ?_ GE174.out | refine below_set ?_ GE175.out) | exact HB.out)⟩
                · rw [if_neg c35] at H
                  have c35b0 : (a1_0 == 5) = false := beq_eq_false_iff_ne.mpr c35
                  have c35b1 : (a1_0 != 5) = true := bne_iff_ne.mpr c35
                  by_cases c38 : a1_1 ≥ 1
                  · rw [if_pos c38] at H
                    have c38b0 : decide (1 ≤ a1_1) = true := decide_eq_true c38
                    clear c38
                    obtain rfl := Option.some.inj H
                    have hnb39 := NB175_174.out
                    have hnc39 := NB174_175.out
                    have hcz40_0 : wc.cell? ⟨gb175, 0, none⟩ = some (.int .i64 a1_0) := (blk_cell BK175.out 0).trans rfl
                    have hcz40_1 : wc.cell? ⟨gb175, 1, none⟩ = some (.int .i64 a1_1) := (blk_cell BK175.out 1).trans rfl
                    have hcz40_2 : wc.cell? ⟨gb175, 2, none⟩ = some (.int .i64 a1_2) := (blk_cell BK175.out 2).trans rfl
                    have hcz40_3 : wc.cell? ⟨gb175, 3, none⟩ = some (.int .i64 a1_3) := (blk_cell BK175.out 3).trans rfl
                    have hcz40_4 : wc.cell? ⟨gb175, 4, none⟩ = some (.string a1_4) := (blk_cell BK175.out 4).trans rfl
                    have hfz40_0 := blk_frozen BK175.out 0
                    have hfz40_1 := blk_frozen BK175.out 1
                    have hfz40_2 := blk_frozen BK175.out 2
                    have hfz40_3 := blk_frozen BK175.out 3
                    have hfz40_4 := blk_frozen BK175.out 4
                    go_wp2
                    go_ret
                    exact ⟨by first | rfl | (simp [errW_none, errW_some] <;> rfl) | (simp [*, errW_none, errW_some] <;> rfl), by repeat (first | (with_reducible first | exact HB.out | apply below_alloc | apply pw_below_drewN | apply below_drew1 | refine below_set ?_ GE174.out | refine below_set ?_ GE175.out) | exact HB.out)⟩
                  · rw [if_neg c38] at H
                    have c38b0 : decide (1 ≤ a1_1) = false := decide_eq_false c38
                    clear c38
                    obtain rfl := Option.some.inj H
                    have hnb41 := NB175_174.out
                    have hnc41 := NB174_175.out
                    have hcz42_0 : wc.cell? ⟨gb175, 0, none⟩ = some (.int .i64 a1_0) := (blk_cell BK175.out 0).trans rfl
                    have hcz42_1 : wc.cell? ⟨gb175, 1, none⟩ = some (.int .i64 a1_1) := (blk_cell BK175.out 1).trans rfl
                    have hcz42_2 : wc.cell? ⟨gb175, 2, none⟩ = some (.int .i64 a1_2) := (blk_cell BK175.out 2).trans rfl
                    have hcz42_3 : wc.cell? ⟨gb175, 3, none⟩ = some (.int .i64 a1_3) := (blk_cell BK175.out 3).trans rfl
                    have hcz42_4 : wc.cell? ⟨gb175, 4, none⟩ = some (.string a1_4) := (blk_cell BK175.out 4).trans rfl
                    have hfz42_0 := blk_frozen BK175.out 0
                    have hfz42_1 := blk_frozen BK175.out 1
                    have hfz42_2 := blk_frozen BK175.out 2
                    have hfz42_3 := blk_frozen BK175.out 3
                    have hfz42_4 := blk_frozen BK175.out 4
                    go_wp2
                    go_ret
                    exact ⟨by first | rfl | (simp [errW_none, errW_some] <;> rfl) | (simp [*, errW_none, errW_some] <;> rfl), by repeat (first | (with_reducible first | exact HB.out | apply below_alloc | apply pw_below_drewN | apply below_drew1 | refine below_set ?_ GE174.out | refine below_set ?_ GE175.out) | exact HB.out)⟩

end Go.Proofs.Ytmbpnggldpgcdaa.X
