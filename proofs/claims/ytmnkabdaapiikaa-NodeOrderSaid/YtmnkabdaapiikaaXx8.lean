-- laid by a program of this session (wip/tools/xprint.py), function by function; Lean checks it
import Derived.Test.YtmnkabdaapiikaaXx0
import Derived.Test.YtmnkabdaapiikaaXx5
import Derived.Test.YtmnkabdaapiikaaXx7
namespace Go.Proofs.Ytmnkabdaapiikaa.X
open Go.RowKit Go.Proofs.YtmnkabdaapiikaaW.PrintWords Go.Proofs.YtmnkabdaapiikaaW.PrintLast Go.Proofs.YtmnkabdaapiikaaW.PrintMore
attribute [local go_sem] max2_int min2_int max_two min_two max_three min_three max_four min_four   -- for this text's walks alone
set_option linter.unusedVariables false
set_option linter.unusedSimpArgs false

/-! ### peneloperef07_Put: function 15 -/
def peneloperef07_Put.l0 : Nat → ByteArray → List ByteArray → Int → Int → Bool → List ByteArray → List ByteArray → List Int → Option (ByteArray)
  | 0, _, _, _, _, _, _, _, _ => none
  | k + 1, x3, x13, x14, x15, x143000, x143001, x143002, x143003 => if x15 < x14 then (if 0 ≤ x15 then (if x15 < (x13.length : Int) then (if x143000 = true then ((peneloperef07_text.f (rdOf ByteArray.empty x13 x15)).bind fun t149 => (if x3.size + t149.size ≤ 9223372036854775807 then (if x15 < (x143002.length : Int) then ((peneloperef07_text.f (rdOf ByteArray.empty x143002 x15)).bind fun t151 => (if (x3 ++ t149).size + t151.size ≤ 9223372036854775807 then (peneloperef07_Put.l0 k ((x3 ++ t149) ++ t151) x13 x14 (wrap64 (x15 + 1)) x143000 x143001 x143002 x143003) else (none))) else (none)) else (none))) else (if x15 < (x143003.length : Int) then ((peneloperef07_two.f k (rd x143003 x15)).bind fun t153 => (if x3.size + t153.size ≤ 9223372036854775807 then ((peneloperef07_text.f (rdOf ByteArray.empty x13 x15)).bind fun t154 => (if (x3 ++ t153).size + t154.size ≤ 9223372036854775807 then (peneloperef07_Put.l0 k ((x3 ++ t153) ++ t154) x13 x14 (wrap64 (x15 + 1)) x143000 x143001 x143002 x143003) else (none))) else (none))) else (none))) else (none)) else (none)) else (if x143000 = true then (some x3) else (if 0 ≤ (x143001.length : Int) then (if (x143001.length : Int) < (x143003.length : Int) then ((peneloperef07_two.f k (rd x143003 (x143001.length : Int))).bind fun t147 => (if x3.size + t147.size ≤ 9223372036854775807 then (some (x3 ++ t147)) else (none))) else (none)) else (none)))
def peneloperef07_Put.f (k : Nat) (a0_0 : Bool) (l0_1 : List ByteArray) (l0_2 : List ByteArray) (l0_3 : List Int) : Option (ByteArray) := peneloperef07_Put.l0 k (strOfNums (([((l0_1.length : Int)) % 256] : List Int))) l0_1 (l0_1.length : Int) 0 a0_0 l0_1 l0_2 l0_3
theorem peneloperef07_Put.mono_l : ∀ k, (∀ y0 y1 y2 y3 y4 y5 y6 y7, LeO (peneloperef07_Put.l0 k y0 y1 y2 y3 y4 y5 y6 y7) (peneloperef07_Put.l0 (k + 1) y0 y1 y2 y3 y4 y5 y6 y7))
  | 0 => fun _ _ _ _ _ _ _ _ r h => by simp [peneloperef07_Put.l0] at h
  | k + 1 => by
    have ih0 := peneloperef07_Put.mono_l k
    · intro y0 y1 y2 y3 y4 y5 y6 y7
      unfold peneloperef07_Put.l0
      repeat' first
      | (with_reducible exact ih0 _ _ _ _ _ _ _ _)
      | (with_reducible exact peneloperef07_two.mono _ _)
      | (with_reducible exact LeO.refl _)
      | (with_reducible exact LeO.none _)
      | (with_reducible refine LeO.ite ?_ ?_)
      | (with_reducible refine LeO.bind ?_ (fun _ => ?_))
      | exact ih0 _ _ _ _ _ _ _ _
      | exact peneloperef07_two.mono _ _
      | exact LeO.none _
      | refine LeO.ite ?_ ?_
      | refine LeO.bind ?_ (fun _ => ?_)
theorem peneloperef07_Put.mono : ∀ a0 a1 a2 a3 k, LeO (peneloperef07_Put.f k a0 a1 a2 a3) (peneloperef07_Put.f (k + 1) a0 a1 a2 a3) := by
  intro a0 a1 a2 a3 k
  have ih0 := peneloperef07_Put.mono_l k
  unfold peneloperef07_Put.f
  repeat' first
      | (with_reducible exact ih0 _ _ _ _ _ _ _ _)
      | (with_reducible exact peneloperef07_two.mono _ _)
      | (with_reducible exact LeO.refl _)
      | (with_reducible exact LeO.none _)
      | (with_reducible refine LeO.ite ?_ ?_)
      | (with_reducible refine LeO.bind ?_ (fun _ => ?_))
      | exact ih0 _ _ _ _ _ _ _ _
      | exact peneloperef07_two.mono _ _
      | exact LeO.none _
      | refine LeO.ite ?_ ?_
      | refine LeO.bind ?_ (fun _ => ?_)
def peneloperef07_Put.T6 : Bool × List (List Nat × List Nat) := (true, [([], []), ([], []), ([1], [1]), ([0, 2], [0, 2]), ([], []), ([4], [4]), ([], []), ([5, 6], [5, 6]), ([7], [7]), ([8, 2], [8]), ([3, 9], [3, 9]), ([10, 9, 0, 1, 2, 3, 4, 5, 6, 7, 8, 9, 10], [0, 10])])
def peneloperef07_Put.B6 : List Nat := [0, 0, 2, 7, 0, 16, 0, 112, 240, 502, 1023, 2047]
theorem peneloperef07_Put.tab6 : rtab .any (opsOf Try.f15 6) = peneloperef07_Put.T6 := by kernel_rfl
theorem peneloperef07_Put.bits6 : waitsOk peneloperef07_Put.T6.2 peneloperef07_Put.B6 = true := by kernel_rfl
set_option maxHeartbeats 8000000 in
set_option maxRecDepth 100000 in
theorem peneloperef07_Put.calls (k : Nat) (a0_0 : Bool) (A0_1 : Option Addr) (c0_1 : Nat) (l0_1 : List ByteArray) (A0_2 : Option Addr) (c0_2 : Nat) (l0_2 : List ByteArray) (A0_3 : Option Addr) (c0_3 : Nat) (l0_3 : List Int) (r : ByteArray) (w : World) (hr0_1 : Kd.C Kd.string w A0_1 l0_1.length l0_1) (hc0_1 : l0_1.length ≤ c0_1) (hr0_2 : Kd.C Kd.string w A0_2 l0_2.length l0_2) (hc0_2 : l0_2.length ≤ c0_2) (hr0_3 : Kd.C (Kd.int .i64) w A0_3 l0_3.length l0_3) (hc0_3 : l0_3.length ≤ c0_3) (h : peneloperef07_Put.f k a0_0 l0_1 l0_2 l0_3 = some r) :
    Calls Try.prog 15 #[.agg #[.bool a0_0, .slice A0_1 l0_1.length c0_1, .slice A0_2 l0_2.length c0_2, .slice A0_3 l0_3.length c0_3]] w fun e w' => e = .returned (.string r) ∧ Below w.heap.size w w' := by
  have hu25 := Try.underlying25
  have HR0_1 := Aside0.mk hr0_1
  have HC0_1 := Aside0.mk hc0_1
  clear hr0_1 hc0_1
  have HR0_2 := Aside0.mk hr0_2
  have HC0_2 := Aside0.mk hc0_2
  clear hr0_2 hc0_2
  have HR0_3 := Aside0.mk hr0_3
  have HC0_3 := Aside0.mk hc0_3
  clear hr0_3 hc0_3
  have HB := Aside0.mk (Below.refl w.heap.size w)
  have H : (peneloperef07_Put.l0 k (strOfNums (([((l0_1.length : Int)) % 256] : List Int))) l0_1 (l0_1.length : Int) 0 a0_0 l0_1 l0_2 l0_3) = some r := h
  clear h
  obtain ⟨y143, hy143⟩ : ∃ y_ : List Int, y_ = (([((l0_1.length : Int)) % 256] : List Int)) := ⟨_, rfl⟩
  replace H : (peneloperef07_Put.l0 k (strOfNums y143) l0_1 (l0_1.length : Int) 0 a0_0 l0_1 l0_2 l0_3) = some r := by first | (rw [hy143]; with_reducible exact H) | (have H2_ := (Option.bind_some _ _).symm.trans H; rw [hy143]; with_reducible exact H2_) | (have H2_ := (Option.bind_some _ _).symm.trans H; with_reducible exact H2_) | with_reducible exact H | (rw [hy143]; exact H) | exact H
  have Ny143 := Aside0.mk hy143
  clear hy143
  have H' := Aside0.mk H
  clear H
  go_enter Try.func15, Try.ntmps15
  go_wp2_with (first | ((with_reducible refine gate_dst (N := 1) rfl ?_); refine box_event ?hg (N := 1) ?hd (cs := #[.bool a0_0, .slice A0_1 l0_1.length c0_1, .slice A0_2 l0_2.length c0_2, .slice A0_3 l0_3.length c0_3]) (t := 25) ?hr ?_; (case hd => rfl); (case hg => rfl); (case hr => first | (go_simp; done) | (go_simp; rfl)); intro gb142 hg w2 hbox hb; have n0_ := Aside0.mk (below_step (by repeat (first | (with_reducible first | exact HB.out | apply below_alloc | apply pw_below_drewN | apply below_drew1) | exact HB.out)) hb); have n1_ := Aside0.mk (hbox); have n2_ := Aside0.mk ((by rw [hg]; exact (below_size (by repeat (first | (with_reducible first | exact HB.out | apply below_alloc | apply pw_below_drewN | apply below_drew1) | exact HB.out))) : w.heap.size ≤ gb142)); have n3_ := Aside0.mk ((by rw [hg]; exact (below_size (by repeat (first | (with_reducible first | exact HB.out | apply below_alloc | apply pw_below_drewN | apply below_drew1) | exact HB.out))) : w.heap.size ≤ gb142)); clear HB; have HB := n0_; have BK142 := n1_; have GW142 := n2_; have GE142 := n3_; clear n0_ n1_ n2_ n3_; clear hb hbox hg; have hcz3_0 : w2.cell? ⟨gb142, 0, none⟩ = some (.bool a0_0) := (blk_cell BK142.out 0).trans rfl; have hcz3_1 : w2.cell? ⟨gb142, 1, none⟩ = some (.slice A0_1 l0_1.length c0_1) := (blk_cell BK142.out 1).trans rfl; have hcz3_2 : w2.cell? ⟨gb142, 2, none⟩ = some (.slice A0_2 l0_2.length c0_2) := (blk_cell BK142.out 2).trans rfl; have hcz3_3 : w2.cell? ⟨gb142, 3, none⟩ = some (.slice A0_3 l0_3.length c0_3) := (blk_cell BK142.out 3).trans rfl; have hfz3_0 := blk_frozen BK142.out 0; have hfz3_1 := blk_frozen BK142.out 1; have hfz3_2 := blk_frozen BK142.out 2; have hfz3_3 := blk_frozen BK142.out 3) | ((with_reducible refine gate_dst (N := 10) rfl ?_); refine Kd.R_lit (Kd.int .u8) _ 5 ?hg (N := 10) ?hd (xs := ([((l0_1.length : Int)) % 256] : List Int)) (inner := [.int .u8 (((l0_1.length : Int)) % 256)]) (ok := fun _ => True) (okp := fun _ => True) ?hr ?hp (fun _ hk => hk) trivial (Below.refl _ _) (Nat.le_refl _) (by simp) ?_; (case hd => rfl); (case hg => rfl); (case hr => first | (go_simp; done) | (go_simp; rfl)); (case hp => exact (Reps.one (show Kd.M (Kd.int .u8) _ _ _ (((l0_1.length : Int)) % 256) [.int .u8 (((l0_1.length : Int)) % 256)] from rfl) (Reps.none _ _))); intro v144 w4 ho5 hb hg_ hnew_; clear hg_ hnew_; (first | rw [← Ny143.out] at ho5 | (simp only [Int.reduceToNat] at ho5; rw [← Ny143.out] at ho5)); have n0_ := Aside0.mk (Kd.R_lower ho5 (below_size (by repeat (first | (with_reducible first | exact HB.out | apply below_alloc | apply pw_below_drewN | apply below_drew1 | refine below_set ?_ GE142.out) | exact HB.out)))); have n1_ := Aside0.mk (blk_below (g := gb142) (o := .cells #[.bool a0_0, .slice A0_1 l0_1.length c0_1, .slice A0_2 l0_2.length c0_2, .slice A0_3 l0_3.length c0_3] 25 (0, 0)) (by (with_reducible repeat (first | refine blk_drewN ?_ _ | refine blk_drew ?_ | refine blk_alloc ?_ _)); exact BK142.out) hb); have n2_ := Aside0.mk (below_step (by repeat (first | (with_reducible first | exact HB.out | apply below_alloc | apply pw_below_drewN | apply below_drew1 | refine below_set ?_ GE142.out) | exact HB.out)) hb); clear BK142; clear HB; have HO145 := n0_; have BK142 := n1_; have HB := n2_; clear n0_ n1_ n2_; clear hb ho5; have hcv6 := own_string (P := Try.prog) Try.underlying53 Try.underlying5 Try.underlying9 (Kd.own_of_R HO145.out); have hcz7_0 : w4.cell? ⟨gb142, 0, none⟩ = some (.bool a0_0) := (blk_cell BK142.out 0).trans rfl; have hcz7_1 : w4.cell? ⟨gb142, 1, none⟩ = some (.slice A0_1 l0_1.length c0_1) := (blk_cell BK142.out 1).trans rfl; have hcz7_2 : w4.cell? ⟨gb142, 2, none⟩ = some (.slice A0_2 l0_2.length c0_2) := (blk_cell BK142.out 2).trans rfl; have hcz7_3 : w4.cell? ⟨gb142, 3, none⟩ = some (.slice A0_3 l0_3.length c0_3) := (blk_cell BK142.out 3).trans rfl; have hfz7_0 := blk_frozen BK142.out 0; have hfz7_1 := blk_frozen BK142.out 1; have hfz7_2 := blk_frozen BK142.out 2; have hfz7_3 := blk_frozen BK142.out 3))
  go_loopg [3, 15] k (fun kq v3 v15 w' => ∃ (x3_1 : ByteArray) (x15_1 : Int), v3 = .string x3_1 ∧ v15 = .int .i64 x15_1 ∧ Aside0 (peneloperef07_Put.l0 kq x3_1 l0_1 (l0_1.length : Int) x15_1 a0_0 l0_1 l0_2 l0_3 = some r) ∧ Aside0 (kq ≤ k) ∧ Aside0 (w'.heap[gb142]? = some (.cells #[.bool a0_0, (.slice A0_1 l0_1.length c0_1), (.slice A0_2 l0_2.length c0_2), (.slice A0_3 l0_3.length c0_3)] 25 (0, 0))) ∧ Aside0 (Below w.heap.size w w'))
  case atStart => exact ⟨(strOfNums y143), (0), (by first | rfl | (simp; done) | (simp [*]; done)), (by first | rfl | (simp; done) | (simp [*]; done)), H', ⟨Nat.le_refl _⟩, ⟨by (with_reducible repeat (first | refine blk_drewN ?_ _ | refine blk_drew ?_ | refine blk_alloc ?_ _)); exact BK142.out⟩, ⟨by repeat (first | (with_reducible first | exact HB.out | apply below_alloc | apply pw_below_drewN | apply below_drew1 | refine below_set ?_ GE142.out) | exact HB.out)⟩⟩
  case round =>
    clear H'
    try clear c1
    try clear p2
    try clear hcv6
    try clear hcz3_0
    try clear hcz3_1
    try clear hcz3_2
    try clear hcz3_3
    try clear hcz7_0
    try clear hcz7_1
    try clear hcz7_2
    try clear hcz7_3
    try clear hfz3_0
    try clear hfz3_1
    try clear hfz3_2
    try clear hfz3_3
    try clear hfz7_0
    try clear hfz7_1
    try clear hfz7_2
    try clear hfz7_3
    obtain ⟨x3_1, x15_1, rfl, rfl, HA, HK1, BK142, HB⟩ := hrel
    cases gk with
    | zero => exact absurd HA.out (by simp [peneloperef07_Put.l0])
    | succ k1 =>
      have H := HA.out
      clear HA
      simp only [peneloperef07_Put.l0] at H
      by_cases c8 : x15_1 < (l0_1.length : Int)
      · rw [if_pos c8] at H
        have c8b0 : decide (x15_1 < (l0_1.length : Int)) = true := decide_eq_true c8
        clear c8
        by_cases c9 : 0 ≤ x15_1
        · rw [if_pos c9] at H
          have c9b0 : decide (0 ≤ x15_1) = true := decide_eq_true c9
          clear c9
          by_cases c10 : x15_1 < (l0_1.length : Int)
          · rw [if_pos c10] at H
            have c10b0 : decide (x15_1 < (l0_1.length : Int)) = true := decide_eq_true c10
            clear c10
            by_cases c11 : a0_0 = true
            · subst c11
              have H1 : ((peneloperef07_text.f (rdOf ByteArray.empty l0_1 x15_1)).bind fun t149 => (if x3_1.size + t149.size ≤ 9223372036854775807 then (if x15_1 < (l0_2.length : Int) then ((peneloperef07_text.f (rdOf ByteArray.empty l0_2 x15_1)).bind fun t151 => (if (x3_1 ++ t149).size + t151.size ≤ 9223372036854775807 then (peneloperef07_Put.l0 k1 ((x3_1 ++ t149) ++ t151) l0_1 (l0_1.length : Int) (wrap64 (x15_1 + 1)) true l0_1 l0_2 l0_3) else (none))) else (none)) else (none))) = some r := by rw [if_pos rfl] at H; exact H
              clear H
              have H := H1
              clear H1
              replace H := Option.bind_eq_some_iff.mp H
              obtain ⟨t149, A120, H⟩ := H
              replace H : (if x3_1.size + t149.size ≤ 9223372036854775807 then (if x15_1 < (l0_2.length : Int) then ((peneloperef07_text.f (rdOf ByteArray.empty l0_2 x15_1)).bind fun t151 => (if (x3_1 ++ t149).size + t151.size ≤ 9223372036854775807 then (peneloperef07_Put.l0 k1 ((x3_1 ++ t149) ++ t151) l0_1 (l0_1.length : Int) (wrap64 (x15_1 + 1)) true l0_1 l0_2 l0_3) else (none))) else (none)) else (none)) = some r := H
              have A12 := Aside0.mk A120
              clear A120
              by_cases c13 : x3_1.size + t149.size ≤ 9223372036854775807
              · rw [if_pos c13] at H
                have c13b0 := eq_true c13
                have c13b1 : decide (x3_1.size + t149.size ≤ 9223372036854775807) = true := decide_eq_true c13
                try have c13b2 : (9223372036854775807 < x3_1.size + t149.size) = False := eq_false (Nat.not_lt.2 c13)
                have c13b3 := c13b2
                try simp only [ByteArray.size_append] at c13b3
                by_cases c14 : x15_1 < (l0_2.length : Int)
                · rw [if_pos c14] at H
                  have c14b0 : decide (x15_1 < (l0_2.length : Int)) = true := decide_eq_true c14
                  clear c14
                  replace H := Option.bind_eq_some_iff.mp H
                  obtain ⟨t151, A150, H⟩ := H
                  replace H : (if (x3_1 ++ t149).size + t151.size ≤ 9223372036854775807 then (peneloperef07_Put.l0 k1 ((x3_1 ++ t149) ++ t151) l0_1 (l0_1.length : Int) (wrap64 (x15_1 + 1)) true l0_1 l0_2 l0_3) else (none)) = some r := H
                  have A15 := Aside0.mk A150
                  clear A150
                  by_cases c16 : (x3_1 ++ t149).size + t151.size ≤ 9223372036854775807
                  · rw [if_pos c16] at H
                    have c16b0 := eq_true c16
                    have c16b1 : decide ((x3_1 ++ t149).size + t151.size ≤ 9223372036854775807) = true := decide_eq_true c16
                    try have c16b2 : (9223372036854775807 < (x3_1 ++ t149).size + t151.size) = False := eq_false (Nat.not_lt.2 c16)
                    have c16b3 := c16b2
                    try simp only [ByteArray.size_append] at c16b3
                    have H' := Aside0.mk H
                    clear H
                    have p148 : 0 ≤ (x15_1 : Int) := of_decide_eq_true (by first | (with_reducible assumption) | assumption)
                    have q148 : x15_1 < (l0_1.length : Int) := of_decide_eq_true (by first | (with_reducible assumption) | assumption)
                    obtain ⟨ad148, e148, hx148_0⟩ := Kd.at_string HR0_1.out x15_1 p148 q148
                    cases e148
                    replace hx148_0 := (HB.out.cell (World.block_lt_of_cell? w _ hx148_0)).trans hx148_0
                    replace p148 := eq_true p148
                    replace q148 := eq_true q148
                    have hcz17_0 : wr.cell? ⟨gb142, 0, none⟩ = some (.bool true) := (blk_cell BK142.out 0).trans rfl
                    have hcz17_1 : wr.cell? ⟨gb142, 1, none⟩ = some (.slice (some ad148) l0_1.length c0_1) := (blk_cell BK142.out 1).trans rfl
                    have hcz17_2 : wr.cell? ⟨gb142, 2, none⟩ = some (.slice A0_2 l0_2.length c0_2) := (blk_cell BK142.out 2).trans rfl
                    have hcz17_3 : wr.cell? ⟨gb142, 3, none⟩ = some (.slice A0_3 l0_3.length c0_3) := (blk_cell BK142.out 3).trans rfl
                    have hfz17_0 := blk_frozen BK142.out 0
                    have hfz17_1 := blk_frozen BK142.out 1
                    have hfz17_2 := blk_frozen BK142.out 2
                    have hfz17_3 := blk_frozen BK142.out 3
                    try go_wp2
                    have n0_ := Aside0.mk (blk_drew BK142.out)
                    have n1_ := Aside0.mk (below_drew1 HB.out)
                    clear BK142
                    clear HB
                    have BK142 := n0_
                    have HB := n1_
                    clear n0_ n1_
                    have p150 : 0 ≤ (x15_1 : Int) := of_decide_eq_true (by first | (with_reducible assumption) | assumption)
                    have q150 : x15_1 < (l0_2.length : Int) := of_decide_eq_true (by first | (with_reducible assumption) | assumption)
                    obtain ⟨ad150, e150, hx150_0⟩ := Kd.at_string HR0_2.out x15_1 p150 q150
                    have hw150_0 := hx150_0
                    cases e150
                    replace hx150_0 := (HB.out.cell (World.block_lt_of_cell? w _ hx150_0)).trans hx150_0
                    replace p150 := eq_true p150
                    replace q150 := eq_true q150
                    refine start_ (n := 12) (S := fun w' => w'.cell? ⟨gb142, 0, none⟩ = some (.bool true) ∧ w'.cell? ⟨gb142, 1, none⟩ = some (.slice (some ad148) l0_1.length c0_1) ∧ w'.cell? ⟨gb142, 2, none⟩ = some (.slice (some ad150) l0_2.length c0_2) ∧ w'.cell? ⟨gb142, 3, none⟩ = some (.slice A0_3 l0_3.length c0_3) ∧ w'.cell? (ad150.add (x15_1).toNat) = some (.string (rdOf ByteArray.empty l0_2 x15_1))) (ds := []) #[false, false, false, false, false, false, false, false, false, false, false, false] (by kernel_rfl) rfl rfl ⟨(blk_cell BK142.out 0).trans rfl, (blk_cell BK142.out 1).trans rfl, (blk_cell BK142.out 2).trans rfl, (blk_cell BK142.out 3).trans rfl, ((HB.out.cell (World.block_lt_of_cell? w _ hw150_0)).trans hw150_0)⟩ (fun hHeld => ?_); refine with_tabW peneloperef07_Put.tab6 peneloperef07_Put.bits6 (fun HT_ HW_ => ?_)
                    generalize wr.drew = w18 at BK142 HB hx150_0 hHeld ⊢
                    refine pure_ (i := 0) (N := some 22) (v := ?_) (a' := ?_) #[true, false, false, false, false, false, false, false, false, false, false, false] rfl rfl (any_of HT_.out (by kernel_rfl)) (fun _ _ _ h => h) (Or.inl ⟨by rfl, ?_⟩) ?_ ?_
                    rotate_left
                    · intro w'
                      go_simp
                      with_reducible rfl
                    rotate_left
                    · simp only [Act.put, List.setIfInBounds_toArray, List.set_cons_zero, List.set_cons_succ, i64_w, i32_w]
                      rfl
                    refine pure_ (i := 1) (N := some 23) (v := ?_) (a' := ?_) #[true, true, false, false, false, false, false, false, false, false, false, false] rfl rfl (any_of HT_.out (by kernel_rfl)) (fun _ _ _ h => h) (Or.inl ⟨by rfl, ?_⟩) ?_ ?_
                    rotate_left
                    · intro w'
                      go_simp
                      with_reducible rfl
                    rotate_left
                    · simp only [Act.put, List.setIfInBounds_toArray, List.set_cons_zero, List.set_cons_succ, i64_w, i32_w]
                      rfl
                    refine pure_ (i := 4) (N := some 26) (v := ?_) (a' := ?_) #[true, true, false, false, true, false, false, false, false, false, false, false] rfl rfl (any_of HT_.out (by kernel_rfl)) (fun _ _ _ h => h) (Or.inl ⟨by rfl, ?_⟩) ?_ ?_
                    rotate_left
                    · intro w'
                      go_simp
                      with_reducible rfl
                    rotate_left
                    · simp only [Act.put, List.setIfInBounds_toArray, List.set_cons_zero, List.set_cons_succ, i64_w, i32_w]
                      rfl
                    refine pure_ (i := 6) (N := some 28) (v := ?_) (a' := ?_) #[true, true, false, false, true, false, true, false, false, false, false, false] rfl rfl (any_of HT_.out (by kernel_rfl)) (fun _ _ _ h => h) (Or.inl ⟨by rfl, ?_⟩) ?_ ?_
                    rotate_left
                    · intro w'
                      go_simp
                      with_reducible rfl
                    rotate_left
                    · simp only [Act.put, List.setIfInBounds_toArray, List.set_cons_zero, List.set_cons_succ, i64_w, i32_w]
                      rfl
                    refine take_ (i := 5) (N := some 27) (v := ?_) (a' := ?_) #[true, true, false, false, true, true, true, false, false, false, false, false] rfl rfl (take_ofW HT_.out HW_.out (by kernel_rfl)) (fun _ _ _ h => h) (Or.inl ⟨by rfl, ?_⟩) hHeld ?_ ?_
                    rotate_left
                    · rintro w' ⟨s0, s1, s2, s3, s4⟩
                      go_simp
                      with_reducible rfl
                    rotate_left
                    · simp only [Act.put, List.setIfInBounds_toArray, List.set_cons_zero, List.set_cons_succ, i64_w, i32_w]
                      rfl
                    refine pure_ (i := 7) (N := some 29) (v := ?_) (a' := ?_) #[true, true, false, false, true, true, true, true, false, false, false, false] rfl rfl (any_of HT_.out (by kernel_rfl)) (fun _ _ _ h => h) (Or.inl ⟨by rfl, ?_⟩) ?_ ?_
                    rotate_left
                    · intro w'
                      go_simp
                      with_reducible rfl
                    rotate_left
                    · simp only [Act.put, List.setIfInBounds_toArray, List.set_cons_zero, List.set_cons_succ, i64_w, i32_w]
                      rfl
                    refine take_ (i := 8) (N := some 30) (v := ?_) (a' := ?_) #[true, true, false, false, true, true, true, true, true, false, false, false] rfl rfl (take_ofW HT_.out HW_.out (by kernel_rfl)) (fun _ _ _ h => h) (Or.inl ⟨by rfl, ?_⟩) hHeld ?_ ?_
                    rotate_left
                    · rintro w' ⟨s0, s1, s2, s3, s4⟩
                      go_simp
                      with_reducible rfl
                    rotate_left
                    · simp only [Act.put, List.setIfInBounds_toArray, List.set_cons_zero, List.set_cons_succ, i64_w, i32_w]
                      rfl
                    refine one_ (i := 2) (N := some 24) #[true, true, true, false, true, true, true, true, true, false, false, false] rfl rfl (one_of HT_.out (by kernel_rfl)) (by decide) (fun K hK => ?_)
                    refine goes_ Try.func33 (by kernel_rfl) rfl #[.string (rdOf ByteArray.empty l0_1 x15_1)] (by rfl) rfl rfl (by (try simp only [List.map_toArray, List.map_cons, List.map_nil]); first | done | rfl | (simp only [List.length_drop, List.length_take]; rfl)) ?_
                    with_reducible refine (peneloperef07_text.calls (rdOf ByteArray.empty l0_1 x15_1) t149 _ A12.out).mono ?_
                    rintro e w19 ⟨rfl, hb⟩
                    refine ⟨_, rfl, ?_⟩
                    have n0_ := Aside0.mk (blk_below (g := gb142) (o := .cells #[.bool true, .slice (some ad148) l0_1.length c0_1, .slice (some ad150) l0_2.length c0_2, .slice A0_3 l0_3.length c0_3] 25 (0, 0)) (by (with_reducible repeat (first | refine blk_drewN ?_ _ | refine blk_drew ?_ | refine blk_alloc ?_ _)); exact BK142.out) hb)
                    have n1_ := Aside0.mk (below_step (by repeat (first | (with_reducible first | exact HB.out | apply below_alloc | apply pw_below_drewN | apply below_drew1 | refine below_set ?_ GE142.out) | exact HB.out)) hb)
                    clear BK142
                    clear HB
                    have BK142 := n0_
                    have HB := n1_
                    clear n0_ n1_
                    (try clear hb)
                    (try clear hb2)
                    (try clear hk)
                    (try clear hi)
                    refine hK.out _ _ ⟨(blk_cell BK142.out 0).trans rfl, (blk_cell BK142.out 1).trans rfl, (blk_cell BK142.out 2).trans rfl, (blk_cell BK142.out 3).trans rfl, ((HB.out.cell (World.block_lt_of_cell? w _ hw150_0)).trans hw150_0)⟩ (fun hHeld => ?_)
                    clear hK K
                    refine norm_ (a' := ?_) ?_ ?_
                    rotate_left
                    · show Act.put _ (some 24) _ = _
                      simp only [Act.put, List.setIfInBounds_toArray, List.set_cons_zero, List.set_cons_succ, i64_w, i32_w]
                      rfl
                    refine pure_ (i := 3) (N := some 25) (v := ?_) (a' := ?_) #[true, true, true, true, true, true, true, true, true, false, false, false] rfl rfl (any_of HT_.out (by kernel_rfl)) (fun _ _ _ h => h) (Or.inl ⟨by rfl, ?_⟩) ?_ ?_
                    rotate_left
                    · intro w'
                      go_simp
                      with_reducible rfl
                    rotate_left
                    · simp only [Act.put, List.setIfInBounds_toArray, List.set_cons_zero, List.set_cons_succ, i64_w, i32_w]
                      rfl
                    refine one_ (i := 9) (N := some 31) #[true, true, true, true, true, true, true, true, true, true, false, false] rfl rfl (one_of HT_.out (by kernel_rfl)) (by decide) (fun K hK => ?_)
                    refine goes_ Try.func33 (by kernel_rfl) rfl #[.string (rdOf ByteArray.empty l0_2 x15_1)] (by rfl) rfl rfl (by (try simp only [List.map_toArray, List.map_cons, List.map_nil]); first | done | rfl | (simp only [List.length_drop, List.length_take]; rfl)) ?_
                    with_reducible refine (peneloperef07_text.calls (rdOf ByteArray.empty l0_2 x15_1) t151 _ A15.out).mono ?_
                    rintro e w20 ⟨rfl, hb⟩
                    refine ⟨_, rfl, ?_⟩
                    have n0_ := Aside0.mk (blk_below (g := gb142) (o := .cells #[.bool true, .slice (some ad148) l0_1.length c0_1, .slice (some ad150) l0_2.length c0_2, .slice A0_3 l0_3.length c0_3] 25 (0, 0)) (by (with_reducible repeat (first | refine blk_drewN ?_ _ | refine blk_drew ?_ | refine blk_alloc ?_ _)); exact BK142.out) hb)
                    have n1_ := Aside0.mk (below_step (by repeat (first | (with_reducible first | exact HB.out | apply below_alloc | apply pw_below_drewN | apply below_drew1 | refine below_set ?_ GE142.out) | exact HB.out)) hb)
                    clear BK142
                    clear HB
                    have BK142 := n0_
                    have HB := n1_
                    clear n0_ n1_
                    (try clear hb)
                    (try clear hb2)
                    (try clear hk)
                    (try clear hi)
                    refine hK.out _ _ ⟨(blk_cell BK142.out 0).trans rfl, (blk_cell BK142.out 1).trans rfl, (blk_cell BK142.out 2).trans rfl, (blk_cell BK142.out 3).trans rfl, ((HB.out.cell (World.block_lt_of_cell? w _ hw150_0)).trans hw150_0)⟩ (fun hHeld => ?_)
                    clear hK K
                    refine norm_ (a' := ?_) ?_ ?_
                    rotate_left
                    · show Act.put _ (some 31) _ = _
                      simp only [Act.put, List.setIfInBounds_toArray, List.set_cons_zero, List.set_cons_succ, i64_w, i32_w]
                      rfl
                    refine pure_ (i := 10) (N := some 32) (v := ?_) (a' := ?_) #[true, true, true, true, true, true, true, true, true, true, true, false] rfl rfl (any_of HT_.out (by kernel_rfl)) (fun _ _ _ h => h) (Or.inl ⟨by rfl, ?_⟩) ?_ ?_
                    rotate_left
                    · intro w'
                      go_simp
                      with_reducible rfl
                    rotate_left
                    · simp only [Act.put, List.setIfInBounds_toArray, List.set_cons_zero, List.set_cons_succ, i64_w, i32_w]
                      rfl
                    refine pure_ (i := 11) (N := some 3) (v := ?_) (a' := ?_) #[true, true, true, true, true, true, true, true, true, true, true, true] rfl rfl (any_of HT_.out (by kernel_rfl)) (fun _ _ _ h => h) (Or.inl ⟨by rfl, ?_⟩) ?_ ?_
                    rotate_left
                    · intro w'
                      go_simp
                      with_reducible rfl
                    rotate_left
                    · simp only [Act.put, List.setIfInBounds_toArray, List.set_cons_zero, List.set_cons_succ, i64_w, i32_w]
                      rfl
                    refine done_ (done_of HT_.out (by kernel_rfl)) ?_
                    try go_wp2
                    go_roundg k1
                    case measure => have := HK1.out; omega
                    case rel => exact ⟨((x3_1 ++ t149) ++ t151), (wrap64 (x15_1 + 1)), (by first | rfl | (simp; done) | (simp [*]; done)), (by first | rfl | (simp; done) | (simp [*]; done)), H', ⟨by have := HK1.out; omega⟩, ⟨by (with_reducible repeat (first | refine blk_drewN ?_ _ | refine blk_drew ?_ | refine blk_alloc ?_ _)); exact BK142.out⟩, ⟨by repeat (first | (with_reducible first | exact HB.out | apply below_alloc | apply pw_below_drewN | apply below_drew1 | refine below_set ?_ GE142.out) | exact HB.out)⟩⟩
                  · rw [if_neg c16] at H
                    exact absurd H (by simp)
                · rw [if_neg c14] at H
                  exact absurd H (by simp)
              · rw [if_neg c13] at H
                exact absurd H (by simp)
            · replace c11 := Bool.eq_false_iff.mpr c11
              subst c11
              have H1 : (if x15_1 < (l0_3.length : Int) then ((peneloperef07_two.f k1 (rd l0_3 x15_1)).bind fun t153 => (if x3_1.size + t153.size ≤ 9223372036854775807 then ((peneloperef07_text.f (rdOf ByteArray.empty l0_1 x15_1)).bind fun t154 => (if (x3_1 ++ t153).size + t154.size ≤ 9223372036854775807 then (peneloperef07_Put.l0 k1 ((x3_1 ++ t153) ++ t154) l0_1 (l0_1.length : Int) (wrap64 (x15_1 + 1)) false l0_1 l0_2 l0_3) else (none))) else (none))) else (none)) = some r := by rw [if_neg (show ¬ (false = true) by decide)] at H; exact H
              clear H
              have H := H1
              clear H1
              by_cases c21 : x15_1 < (l0_3.length : Int)
              · rw [if_pos c21] at H
                have c21b0 : decide (x15_1 < (l0_3.length : Int)) = true := decide_eq_true c21
                clear c21
                replace H := Option.bind_eq_some_iff.mp H
                obtain ⟨t153, A220, H⟩ := H
                replace H : (if x3_1.size + t153.size ≤ 9223372036854775807 then ((peneloperef07_text.f (rdOf ByteArray.empty l0_1 x15_1)).bind fun t154 => (if (x3_1 ++ t153).size + t154.size ≤ 9223372036854775807 then (peneloperef07_Put.l0 k1 ((x3_1 ++ t153) ++ t154) l0_1 (l0_1.length : Int) (wrap64 (x15_1 + 1)) false l0_1 l0_2 l0_3) else (none))) else (none)) = some r := H
                have A22 := Aside0.mk A220
                clear A220
                by_cases c23 : x3_1.size + t153.size ≤ 9223372036854775807
                · rw [if_pos c23] at H
                  have c23b0 := eq_true c23
                  have c23b1 : decide (x3_1.size + t153.size ≤ 9223372036854775807) = true := decide_eq_true c23
                  try have c23b2 : (9223372036854775807 < x3_1.size + t153.size) = False := eq_false (Nat.not_lt.2 c23)
                  have c23b3 := c23b2
                  try simp only [ByteArray.size_append] at c23b3
                  replace H := Option.bind_eq_some_iff.mp H
                  obtain ⟨t154, A240, H⟩ := H
                  replace H : (if (x3_1 ++ t153).size + t154.size ≤ 9223372036854775807 then (peneloperef07_Put.l0 k1 ((x3_1 ++ t153) ++ t154) l0_1 (l0_1.length : Int) (wrap64 (x15_1 + 1)) false l0_1 l0_2 l0_3) else (none)) = some r := H
                  have A24 := Aside0.mk A240
                  clear A240
                  by_cases c25 : (x3_1 ++ t153).size + t154.size ≤ 9223372036854775807
                  · rw [if_pos c25] at H
                    have c25b0 := eq_true c25
                    have c25b1 : decide ((x3_1 ++ t153).size + t154.size ≤ 9223372036854775807) = true := decide_eq_true c25
                    try have c25b2 : (9223372036854775807 < (x3_1 ++ t153).size + t154.size) = False := eq_false (Nat.not_lt.2 c25)
                    have c25b3 := c25b2
                    try simp only [ByteArray.size_append] at c25b3
                    have H' := Aside0.mk H
                    clear H
                    have p148 : 0 ≤ (x15_1 : Int) := of_decide_eq_true (by first | (with_reducible assumption) | assumption)
                    have q148 : x15_1 < (l0_1.length : Int) := of_decide_eq_true (by first | (with_reducible assumption) | assumption)
                    obtain ⟨ad148, e148, hx148_0⟩ := Kd.at_string HR0_1.out x15_1 p148 q148
                    cases e148
                    replace hx148_0 := (HB.out.cell (World.block_lt_of_cell? w _ hx148_0)).trans hx148_0
                    replace p148 := eq_true p148
                    replace q148 := eq_true q148
                    have hcz26_0 : wr.cell? ⟨gb142, 0, none⟩ = some (.bool false) := (blk_cell BK142.out 0).trans rfl
                    have hcz26_1 : wr.cell? ⟨gb142, 1, none⟩ = some (.slice (some ad148) l0_1.length c0_1) := (blk_cell BK142.out 1).trans rfl
                    have hcz26_2 : wr.cell? ⟨gb142, 2, none⟩ = some (.slice A0_2 l0_2.length c0_2) := (blk_cell BK142.out 2).trans rfl
                    have hcz26_3 : wr.cell? ⟨gb142, 3, none⟩ = some (.slice A0_3 l0_3.length c0_3) := (blk_cell BK142.out 3).trans rfl
                    have hfz26_0 := blk_frozen BK142.out 0
                    have hfz26_1 := blk_frozen BK142.out 1
                    have hfz26_2 := blk_frozen BK142.out 2
                    have hfz26_3 := blk_frozen BK142.out 3
                    have p152 : 0 ≤ (x15_1 : Int) := of_decide_eq_true (by first | (with_reducible assumption) | assumption)
                    have q152 : x15_1 < (l0_3.length : Int) := of_decide_eq_true (by first | (with_reducible assumption) | assumption)
                    obtain ⟨ad152, e152, hx152_0⟩ := Kd.at_int HR0_3.out x15_1 p152 q152
                    cases e152
                    replace hx152_0 := (HB.out.cell (World.block_lt_of_cell? w _ hx152_0)).trans hx152_0
                    replace p152 := eq_true p152
                    replace q152 := eq_true q152
                    go_wp2_with (first | ((with_reducible refine gate_callee (f := 34) rfl ?_); refine goesL_ (some 39) rfl rfl Try.func34 (by kernel_rfl) rfl #[.int .i64 (rd l0_3 x15_1)] rfl (by (try simp only [List.map_toArray, List.map_cons, List.map_nil]); first | done | rfl | (simp only [List.length_drop, List.length_take]; rfl)) ?_; (with_reducible refine (peneloperef07_two.calls k1 (rd l0_3 x15_1) t153 _ A22.out).mono ?_); rintro e w27 ⟨rfl, hb⟩; refine ⟨_, rfl, ?_⟩; have n0_ := Aside0.mk (blk_below (g := gb142) (o := .cells #[.bool false, .slice (some ad148) l0_1.length c0_1, .slice A0_2 l0_2.length c0_2, .slice (some ad152) l0_3.length c0_3] 25 (0, 0)) (by (with_reducible repeat (first | refine blk_drewN ?_ _ | refine blk_drew ?_ | refine blk_alloc ?_ _)); exact BK142.out) hb); have n1_ := Aside0.mk (below_step (by repeat (first | (with_reducible first | exact HB.out | apply below_alloc | apply pw_below_drewN | apply below_drew1 | refine below_set ?_ GE142.out) | exact HB.out)) hb); clear BK142; clear HB; have BK142 := n0_; have HB := n1_; clear n0_ n1_; (try clear hb); (try clear hb2); (try clear hk); (try clear hi)) | ((with_reducible refine gate_callee (f := 33) rfl ?_); refine goesL_ (some 42) rfl rfl Try.func33 (by kernel_rfl) rfl #[.string (rdOf ByteArray.empty l0_1 x15_1)] rfl (by (try simp only [List.map_toArray, List.map_cons, List.map_nil]); first | done | rfl | (simp only [List.length_drop, List.length_take]; rfl)) ?_; (with_reducible refine (peneloperef07_text.calls (rdOf ByteArray.empty l0_1 x15_1) t154 _ A24.out).mono ?_); rintro e w28 ⟨rfl, hb⟩; refine ⟨_, rfl, ?_⟩; have n0_ := Aside0.mk (blk_below (g := gb142) (o := .cells #[.bool false, .slice (some ad148) l0_1.length c0_1, .slice A0_2 l0_2.length c0_2, .slice (some ad152) l0_3.length c0_3] 25 (0, 0)) (by (with_reducible repeat (first | refine blk_drewN ?_ _ | refine blk_drew ?_ | refine blk_alloc ?_ _)); exact BK142.out) hb); have n1_ := Aside0.mk (below_step (by repeat (first | (with_reducible first | exact HB.out | apply below_alloc | apply pw_below_drewN | apply below_drew1 | refine below_set ?_ GE142.out) | exact HB.out)) hb); clear BK142; clear HB; have BK142 := n0_; have HB := n1_; clear n0_ n1_; (try clear hb); (try clear hb2); (try clear hk); (try clear hi)))
                    go_roundg k1
                    case measure => have := HK1.out; omega
                    case rel => exact ⟨((x3_1 ++ t153) ++ t154), (wrap64 (x15_1 + 1)), (by first | rfl | (simp; done) | (simp [*]; done)), (by first | rfl | (simp; done) | (simp [*]; done)), H', ⟨by have := HK1.out; omega⟩, ⟨by (with_reducible repeat (first | refine blk_drewN ?_ _ | refine blk_drew ?_ | refine blk_alloc ?_ _)); exact BK142.out⟩, ⟨by repeat (first | (with_reducible first | exact HB.out | apply below_alloc | apply pw_below_drewN | apply below_drew1 | refine below_set ?_ GE142.out) | exact HB.out)⟩⟩
                  · rw [if_neg c25] at H
                    exact absurd H (by simp)
                · rw [if_neg c23] at H
                  exact absurd H (by simp)
              · rw [if_neg c21] at H
                exact absurd H (by simp)
          · rw [if_neg c10] at H
            exact absurd H (by simp)
        · rw [if_neg c9] at H
          exact absurd H (by simp)
      · rw [if_neg c8] at H
        have c8b0 : decide (x15_1 < (l0_1.length : Int)) = false := decide_eq_false c8
        clear c8
        by_cases c29 : a0_0 = true
        · subst c29
          have H1 : (some x3_1) = some r := by rw [if_pos rfl] at H; exact H
          clear H
          have H := H1
          clear H1
          obtain rfl := Option.some.inj H
          have hcz30_0 : wr.cell? ⟨gb142, 0, none⟩ = some (.bool true) := (blk_cell BK142.out 0).trans rfl
          have hcz30_1 : wr.cell? ⟨gb142, 1, none⟩ = some (.slice A0_1 l0_1.length c0_1) := (blk_cell BK142.out 1).trans rfl
          have hcz30_2 : wr.cell? ⟨gb142, 2, none⟩ = some (.slice A0_2 l0_2.length c0_2) := (blk_cell BK142.out 2).trans rfl
          have hcz30_3 : wr.cell? ⟨gb142, 3, none⟩ = some (.slice A0_3 l0_3.length c0_3) := (blk_cell BK142.out 3).trans rfl
          have hfz30_0 := blk_frozen BK142.out 0
          have hfz30_1 := blk_frozen BK142.out 1
          have hfz30_2 := blk_frozen BK142.out 2
          have hfz30_3 := blk_frozen BK142.out 3
          go_wp2
          go_ret
          exact ⟨by first | rfl | (simp [errW_none, errW_some] <;> rfl) | (simp [*, errW_none, errW_some] <;> rfl), by repeat (first | (with_reducible first | exact HB.out | apply below_alloc | apply pw_below_drewN | apply below_drew1 | refine below_set ?_ GE142.out) | exact HB.out)⟩
        · replace c29 := Bool.eq_false_iff.mpr c29
          subst c29
          have H1 : (if 0 ≤ (l0_1.length : Int) then (if (l0_1.length : Int) < (l0_3.length : Int) then ((peneloperef07_two.f k1 (rd l0_3 (l0_1.length : Int))).bind fun t147 => (if x3_1.size + t147.size ≤ 9223372036854775807 then (some (x3_1 ++ t147)) else (none))) else (none)) else (none)) = some r := by rw [if_neg (show ¬ (false = true) by decide)] at H; exact H
          clear H
          have H := H1
          clear H1
          by_cases c31 : 0 ≤ (l0_1.length : Int)
          · rw [if_pos c31] at H
            have c31b0 : decide (0 ≤ (l0_1.length : Int)) = true := decide_eq_true c31
            have c31b1 : decide (0 ≤ l0_1.length) = true := decide_eq_true (by omega)
            clear c31
            by_cases c32 : (l0_1.length : Int) < (l0_3.length : Int)
            · rw [if_pos c32] at H
              have c32b0 : decide ((l0_1.length : Int) < (l0_3.length : Int)) = true := decide_eq_true c32
              have c32b1 : decide (l0_1.length < l0_3.length) = true := decide_eq_true (Int.ofNat_lt.mp c32)
              clear c32
              replace H := Option.bind_eq_some_iff.mp H
              obtain ⟨t147, A330, H⟩ := H
              replace H : (if x3_1.size + t147.size ≤ 9223372036854775807 then (some (x3_1 ++ t147)) else (none)) = some r := H
              have A33 := Aside0.mk A330
              clear A330
              by_cases c34 : x3_1.size + t147.size ≤ 9223372036854775807
              · rw [if_pos c34] at H
                have c34b0 := eq_true c34
                have c34b1 : decide (x3_1.size + t147.size ≤ 9223372036854775807) = true := decide_eq_true c34
                try have c34b2 : (9223372036854775807 < x3_1.size + t147.size) = False := eq_false (Nat.not_lt.2 c34)
                have c34b3 := c34b2
                try simp only [ByteArray.size_append] at c34b3
                obtain rfl := Option.some.inj H
                have hcz35_0 : wr.cell? ⟨gb142, 0, none⟩ = some (.bool false) := (blk_cell BK142.out 0).trans rfl
                have hcz35_1 : wr.cell? ⟨gb142, 1, none⟩ = some (.slice A0_1 l0_1.length c0_1) := (blk_cell BK142.out 1).trans rfl
                have hcz35_2 : wr.cell? ⟨gb142, 2, none⟩ = some (.slice A0_2 l0_2.length c0_2) := (blk_cell BK142.out 2).trans rfl
                have hcz35_3 : wr.cell? ⟨gb142, 3, none⟩ = some (.slice A0_3 l0_3.length c0_3) := (blk_cell BK142.out 3).trans rfl
                have hfz35_0 := blk_frozen BK142.out 0
                have hfz35_1 := blk_frozen BK142.out 1
                have hfz35_2 := blk_frozen BK142.out 2
                have hfz35_3 := blk_frozen BK142.out 3
                have p146 : 0 ≤ ((l0_1.length : Int) : Int) := of_decide_eq_true (by first | (with_reducible assumption) | assumption)
                have q146 : (l0_1.length : Int) < (l0_3.length : Int) := of_decide_eq_true (by first | (with_reducible assumption) | assumption)
                obtain ⟨ad146, e146, hx146_0⟩ := Kd.at_int HR0_3.out (l0_1.length : Int) p146 q146
                cases e146
                replace hx146_0 := (HB.out.cell (World.block_lt_of_cell? w _ hx146_0)).trans hx146_0
                (try simp only [Go.IntWalk.toNatUp] at hx146_0)
                replace p146 := eq_true p146
                replace q146 := eq_true q146
                go_wp2_with (first | ((with_reducible refine gate_callee (f := 34) rfl ?_); refine goesL_ (some 56) rfl rfl Try.func34 (by kernel_rfl) rfl #[.int .i64 (rd l0_3 (l0_1.length : Int))] rfl (by (try simp only [List.map_toArray, List.map_cons, List.map_nil]); first | done | rfl | (simp only [List.length_drop, List.length_take]; rfl)) ?_; (with_reducible refine (peneloperef07_two.calls k1 (rd l0_3 (l0_1.length : Int)) t147 _ A33.out).mono ?_); rintro e w36 ⟨rfl, hb⟩; refine ⟨_, rfl, ?_⟩; have n0_ := Aside0.mk (blk_below (g := gb142) (o := .cells #[.bool false, .slice A0_1 l0_1.length c0_1, .slice A0_2 l0_2.length c0_2, .slice (some ad146) l0_3.length c0_3] 25 (0, 0)) (by (with_reducible repeat (first | refine blk_drewN ?_ _ | refine blk_drew ?_ | refine blk_alloc ?_ _)); exact BK142.out) hb); have n1_ := Aside0.mk (below_step (by repeat (first | (with_reducible first | exact HB.out | apply below_alloc | apply pw_below_drewN | apply below_drew1 | refine below_set ?_ GE142.out) | exact HB.out)) hb); clear BK142; clear HB; have BK142 := n0_; have HB := n1_; clear n0_ n1_; (try clear hb); (try clear hb2); (try clear hk); (try clear hi)))
                go_ret
                exact ⟨by first | rfl | (simp [errW_none, errW_some] <;> rfl) | (simp [*, errW_none, errW_some] <;> rfl), by repeat (first | (with_reducible first | exact HB.out | apply below_alloc | apply pw_below_drewN | apply below_drew1 | refine below_set ?_ GE142.out) | exact HB.out)⟩
              · rw [if_neg c34] at H
                exact absurd H (by simp)
            · rw [if_neg c32] at H
              exact absurd H (by simp)
          · rw [if_neg c31] at H
            exact absurd H (by simp)

end Go.Proofs.Ytmnkabdaapiikaa.X
