-- laid by a program of this session (wip/tools/xprint.py), function by function; Lean checks it
import Derived.Test.YtmnkabdaapiikaaXx0
import Derived.Test.YtmnkabdaapiikaaXPut
import Derived.Test.YtmnkabdaapiikaaXRt
import Derived.Test.YtmnkabdaapiikaaXx1
import Derived.Test.YtmnkabdaapiikaaXx3
import Derived.Test.YtmnkabdaapiikaaXx4
import Derived.Test.YtmnkabdaapiikaaXx8
namespace Go.Proofs.Ytmnkabdaapiikaa.X
open Go.RowKit Go.Proofs.YtmnkabdaapiikaaW.PrintWords Go.Proofs.YtmnkabdaapiikaaW.PrintLast Go.Proofs.YtmnkabdaapiikaaW.PrintMore
attribute [local go_sem] max2_int min2_int max_two min_two max_three min_three max_four min_four   -- for this text's walks alone
set_option linter.unusedVariables false
set_option linter.unusedSimpArgs false

/-! ### penelopelaw07_NodeRights: function 3 -/
def penelopelaw07_NodeRights.f (k : Nat) (a0_0 : Bool) (l0_1 : List ByteArray) (l0_2 : List ByteArray) (l0_3 : List Int) (a1 : Bool) : Option (Bool) := (penelopelaw07_few.f a0_0 l0_1 l0_2 l0_3).bind fun bt156 => ((node_Put.f k bt156.1 bt156.2.1 bt156.2.2.1 bt156.2.2.2).bind fun bt166 => ((peneloperef07_Right.f k bt156.1 bt156.2.1 bt156.2.2.1 bt156.2.2.2 true).bind fun t168 => (if t168 = true then ((penelopelaw07_alive.f k).bind fun t171 => (if t171 = true then ((node_Right.f k bt156.1 bt156.2.1 bt156.2.2.1 bt156.2.2.2 a1).bind fun t172 => ((peneloperef07_Right.f k bt156.1 bt156.2.1 bt156.2.2.1 bt156.2.2.2 a1).bind fun t173 => (if (t172 == t173) = true then (if bt166.2 = 0 then ((peneloperef07_Put.f k bt156.1 bt156.2.1 bt156.2.2.1 bt156.2.2.2).bind fun t174 => (some (bt166.1.toList == t174.toList))) else (none)) else (none)))) else (none))) else ((penelopelaw07_alive.f k).bind fun t169 => (if t169 = true then (if bt166.2 = 1 then (if bt166.1.toList = ([] : List UInt8) then ((node_Right.f k bt156.1 bt156.2.1 bt156.2.2.1 bt156.2.2.2 a1).bind fun t170 => (some (!t170))) else (none)) else (none)) else (none))))))
theorem penelopelaw07_NodeRights.mono : ∀ a0 a1 a2 a3 a4 k, LeO (penelopelaw07_NodeRights.f k a0 a1 a2 a3 a4) (penelopelaw07_NodeRights.f (k + 1) a0 a1 a2 a3 a4) := by
  intro a0 a1 a2 a3 a4 k
  unfold penelopelaw07_NodeRights.f
  repeat' first
      | (with_reducible exact node_Put.mono _ _ _ _ _)
      | (with_reducible exact node_Right.mono _ _ _ _ _ _)
      | (with_reducible exact penelopelaw07_alive.mono _)
      | (with_reducible exact peneloperef07_Put.mono _ _ _ _ _)
      | (with_reducible exact peneloperef07_Right.mono _ _ _ _ _ _)
      | (with_reducible exact LeO.refl _)
      | (with_reducible exact LeO.none _)
      | (with_reducible refine LeO.ite ?_ ?_)
      | (with_reducible refine LeO.bind ?_ (fun _ => ?_))
      | exact node_Put.mono _ _ _ _ _
      | exact node_Right.mono _ _ _ _ _ _
      | exact penelopelaw07_alive.mono _
      | exact peneloperef07_Put.mono _ _ _ _ _
      | exact peneloperef07_Right.mono _ _ _ _ _ _
      | exact LeO.none _
      | refine LeO.ite ?_ ?_
      | refine LeO.bind ?_ (fun _ => ?_)
def penelopelaw07_NodeRights.T5 : Bool × List (List Nat × List Nat) := (true, [([], []), ([0, 0], [0]), ([1], [1]), ([1], [1]), ([2, 3, 1, 1], [1, 2, 3]), ([1], [1]), ([1], [1]), ([5, 6, 4, 1], [1, 5, 6]), ([4, 7, 1], [1, 4, 7]), ([1, 8], [1, 8]), ([9, 7], [9]), ([10], [10]), ([11, 10], [10, 11]), ([10, 12], [10, 12]), ([13, 10], [13]), ([14], [14]), ([14], [14]), ([16, 14, 14], [14, 16]), ([15, 17, 14], [14, 15, 17]), ([14, 18], [14, 18]), ([19, 17, 0, 1, 2, 3, 4, 5, 6, 7, 8, 9, 10, 11, 12, 13, 14, 15, 16, 17, 18, 19], [19])])
def penelopelaw07_NodeRights.B5 : List Nat := [0, 1, 3, 3, 15, 3, 3, 127, 255, 511, 1023, 2047, 4095, 8191, 16383, 32767, 32767, 98303, 262143, 524287, 1048575]
theorem penelopelaw07_NodeRights.tab5 : rtab .any (opsOf Try.f3 5) = penelopelaw07_NodeRights.T5 := by kernel_rfl
theorem penelopelaw07_NodeRights.bits5 : waitsOk penelopelaw07_NodeRights.T5.2 penelopelaw07_NodeRights.B5 = true := by kernel_rfl
set_option maxHeartbeats 8000000 in
set_option maxRecDepth 100000 in
theorem penelopelaw07_NodeRights.calls (k : Nat) (a0_0 : Bool) (A0_1 : Option Addr) (c0_1 : Nat) (l0_1 : List ByteArray) (A0_2 : Option Addr) (c0_2 : Nat) (l0_2 : List ByteArray) (A0_3 : Option Addr) (c0_3 : Nat) (l0_3 : List Int) (a1 : Bool) (r : Bool) (w : World) (hr0_1 : Kd.C Kd.string w A0_1 l0_1.length l0_1) (hc0_1 : l0_1.length ≤ c0_1) (hr0_2 : Kd.C Kd.string w A0_2 l0_2.length l0_2) (hc0_2 : l0_2.length ≤ c0_2) (hr0_3 : Kd.C (Kd.int .i64) w A0_3 l0_3.length l0_3) (hc0_3 : l0_3.length ≤ c0_3) (h : penelopelaw07_NodeRights.f k a0_0 l0_1 l0_2 l0_3 a1 = some r) :
    Calls Try.prog 3 #[.agg #[.bool a0_0, .slice A0_1 l0_1.length c0_1, .slice A0_2 l0_2.length c0_2, .slice A0_3 l0_3.length c0_3], .bool a1] w fun e w' => e = .returned (.bool r) ∧ Below w.heap.size w w' := by
  have hu25 := Try.underlying25
  have HR0_1 := Aside0.mk hr0_1
  have HC0_1 := Aside0.mk hc0_1
  clear hr0_1 hc0_1
  have HR0_2 := Aside0.mk hr0_2
  have HC0_2 := Aside0.mk hc0_2
  clear hr0_2 hc0_2
  have HR0_3 := Aside0.mk hr0_3
  have HC0_3 := Aside0.mk hc0_3
  clear hr0_3 hc0_3
  have HB := Aside0.mk (Below.refl w.heap.size w)
  have H : ((penelopelaw07_few.f a0_0 l0_1 l0_2 l0_3).bind fun bt156 => ((node_Put.f k bt156.1 bt156.2.1 bt156.2.2.1 bt156.2.2.2).bind fun bt166 => ((peneloperef07_Right.f k bt156.1 bt156.2.1 bt156.2.2.1 bt156.2.2.2 true).bind fun t168 => (if t168 = true then ((penelopelaw07_alive.f k).bind fun t171 => (if t171 = true then ((node_Right.f k bt156.1 bt156.2.1 bt156.2.2.1 bt156.2.2.2 a1).bind fun t172 => ((peneloperef07_Right.f k bt156.1 bt156.2.1 bt156.2.2.1 bt156.2.2.2 a1).bind fun t173 => (if (t172 == t173) = true then (if bt166.2 = 0 then ((peneloperef07_Put.f k bt156.1 bt156.2.1 bt156.2.2.1 bt156.2.2.2).bind fun t174 => (some (bt166.1.toList == t174.toList))) else (none)) else (none)))) else (none))) else ((penelopelaw07_alive.f k).bind fun t169 => (if t169 = true then (if bt166.2 = 1 then (if bt166.1.toList = ([] : List UInt8) then ((node_Right.f k bt156.1 bt156.2.1 bt156.2.2.1 bt156.2.2.2 a1).bind fun t170 => (some (!t170))) else (none)) else (none)) else (none))))))) = some r := h
  clear h
  replace H := Option.bind_eq_some_iff.mp H
  obtain ⟨⟨t156, t157, t160, t163⟩, A30, H⟩ := H
  replace H : ((node_Put.f k t156 t157 t160 t163).bind fun bt166 => ((peneloperef07_Right.f k t156 t157 t160 t163 true).bind fun t168 => (if t168 = true then ((penelopelaw07_alive.f k).bind fun t171 => (if t171 = true then ((node_Right.f k t156 t157 t160 t163 a1).bind fun t172 => ((peneloperef07_Right.f k t156 t157 t160 t163 a1).bind fun t173 => (if (t172 == t173) = true then (if bt166.2 = 0 then ((peneloperef07_Put.f k t156 t157 t160 t163).bind fun t174 => (some (bt166.1.toList == t174.toList))) else (none)) else (none)))) else (none))) else ((penelopelaw07_alive.f k).bind fun t169 => (if t169 = true then (if bt166.2 = 1 then (if bt166.1.toList = ([] : List UInt8) then ((node_Right.f k t156 t157 t160 t163 a1).bind fun t170 => (some (!t170))) else (none)) else (none)) else (none)))))) = some r := H
  have A3 := Aside0.mk A30
  clear A30
  replace H := Option.bind_eq_some_iff.mp H
  obtain ⟨⟨t166, t167⟩, A40, H⟩ := H
  replace H : ((peneloperef07_Right.f k t156 t157 t160 t163 true).bind fun t168 => (if t168 = true then ((penelopelaw07_alive.f k).bind fun t171 => (if t171 = true then ((node_Right.f k t156 t157 t160 t163 a1).bind fun t172 => ((peneloperef07_Right.f k t156 t157 t160 t163 a1).bind fun t173 => (if (t172 == t173) = true then (if t167 = 0 then ((peneloperef07_Put.f k t156 t157 t160 t163).bind fun t174 => (some (t166.toList == t174.toList))) else (none)) else (none)))) else (none))) else ((penelopelaw07_alive.f k).bind fun t169 => (if t169 = true then (if t167 = 1 then (if t166.toList = ([] : List UInt8) then ((node_Right.f k t156 t157 t160 t163 a1).bind fun t170 => (some (!t170))) else (none)) else (none)) else (none))))) = some r := H
  have A4 := Aside0.mk A40
  clear A40
  replace H := Option.bind_eq_some_iff.mp H
  obtain ⟨t168, A50, H⟩ := H
  replace H : (if t168 = true then ((penelopelaw07_alive.f k).bind fun t171 => (if t171 = true then ((node_Right.f k t156 t157 t160 t163 a1).bind fun t172 => ((peneloperef07_Right.f k t156 t157 t160 t163 a1).bind fun t173 => (if (t172 == t173) = true then (if t167 = 0 then ((peneloperef07_Put.f k t156 t157 t160 t163).bind fun t174 => (some (t166.toList == t174.toList))) else (none)) else (none)))) else (none))) else ((penelopelaw07_alive.f k).bind fun t169 => (if t169 = true then (if t167 = 1 then (if t166.toList = ([] : List UInt8) then ((node_Right.f k t156 t157 t160 t163 a1).bind fun t170 => (some (!t170))) else (none)) else (none)) else (none)))) = some r := H
  have A5 := Aside0.mk A50
  clear A50
  by_cases c6 : t168 = true
  · subst c6
    have H1 : ((penelopelaw07_alive.f k).bind fun t171 => (if t171 = true then ((node_Right.f k t156 t157 t160 t163 a1).bind fun t172 => ((peneloperef07_Right.f k t156 t157 t160 t163 a1).bind fun t173 => (if (t172 == t173) = true then (if t167 = 0 then ((peneloperef07_Put.f k t156 t157 t160 t163).bind fun t174 => (some (t166.toList == t174.toList))) else (none)) else (none)))) else (none))) = some r := by rw [if_pos rfl] at H; exact H
    clear H
    have H := H1
    clear H1
    replace H := Option.bind_eq_some_iff.mp H
    obtain ⟨t171, A70, H⟩ := H
    replace H : (if t171 = true then ((node_Right.f k t156 t157 t160 t163 a1).bind fun t172 => ((peneloperef07_Right.f k t156 t157 t160 t163 a1).bind fun t173 => (if (t172 == t173) = true then (if t167 = 0 then ((peneloperef07_Put.f k t156 t157 t160 t163).bind fun t174 => (some (t166.toList == t174.toList))) else (none)) else (none)))) else (none)) = some r := H
    have A7 := Aside0.mk A70
    clear A70
    by_cases c8 : t171 = true
    · subst c8
      have H1 : ((node_Right.f k t156 t157 t160 t163 a1).bind fun t172 => ((peneloperef07_Right.f k t156 t157 t160 t163 a1).bind fun t173 => (if (t172 == t173) = true then (if t167 = 0 then ((peneloperef07_Put.f k t156 t157 t160 t163).bind fun t174 => (some (t166.toList == t174.toList))) else (none)) else (none)))) = some r := by rw [if_pos rfl] at H; exact H
      clear H
      have H := H1
      clear H1
      replace H := Option.bind_eq_some_iff.mp H
      obtain ⟨t172, A90, H⟩ := H
      replace H : ((peneloperef07_Right.f k t156 t157 t160 t163 a1).bind fun t173 => (if (t172 == t173) = true then (if t167 = 0 then ((peneloperef07_Put.f k t156 t157 t160 t163).bind fun t174 => (some (t166.toList == t174.toList))) else (none)) else (none))) = some r := H
      have A9 := Aside0.mk A90
      clear A90
      replace H := Option.bind_eq_some_iff.mp H
      obtain ⟨t173, A100, H⟩ := H
      replace H : (if (t172 == t173) = true then (if t167 = 0 then ((peneloperef07_Put.f k t156 t157 t160 t163).bind fun t174 => (some (t166.toList == t174.toList))) else (none)) else (none)) = some r := H
      have A10 := Aside0.mk A100
      clear A100
      by_cases c11 : (t172 == t173) = true
      · rw [if_pos c11] at H
        have c11b0 : (t172 == t173) = true := c11
        (try (have c11b1 : decide (t172 = t173) = true := by simpa using c11))
        (try (have c11b2 : (t172 == t173) = true := by simpa using c11))
        clear c11
        by_cases c12 : t167 = 0
        · rw [if_pos c12] at H
          have c12b0 : (t167 == 0) = true := beq_iff_eq.mpr c12
          have c12b1 : (t167 != 0) = false := bne_eq_false_iff_eq.mpr c12
          clear c12
          replace H := Option.bind_eq_some_iff.mp H
          obtain ⟨t174, A130, H⟩ := H
          replace H : (some (t166.toList == t174.toList)) = some r := H
          have A13 := Aside0.mk A130
          clear A130
          obtain rfl := Option.some.inj H
          go_enter Try.func3, Try.ntmps3
          try go_wp2_with (first | ((with_reducible refine gate_dst (N := 2) rfl ?_); refine box_event ?hg (N := 2) ?hd (cs := #[.bool a0_0, .slice A0_1 l0_1.length c0_1, .slice A0_2 l0_2.length c0_2, .slice A0_3 l0_3.length c0_3]) (t := 25) ?hr ?_; (case hd => rfl); (case hg => rfl); (case hr => first | (go_simp; done) | (go_simp; rfl)); intro gb155 hg w14 hbox hb; have n0_ := Aside0.mk (below_step (by repeat (first | (with_reducible first | exact HB.out | apply below_alloc | apply pw_below_drewN | apply below_drew1) | exact HB.out)) hb); have n1_ := Aside0.mk (hbox); have n2_ := Aside0.mk ((by rw [hg]; exact (below_size (by repeat (first | (with_reducible first | exact HB.out | apply below_alloc | apply pw_below_drewN | apply below_drew1) | exact HB.out))) : w.heap.size ≤ gb155)); have n3_ := Aside0.mk ((by rw [hg]; exact (below_size (by repeat (first | (with_reducible first | exact HB.out | apply below_alloc | apply pw_below_drewN | apply below_drew1) | exact HB.out))) : w.heap.size ≤ gb155)); clear HB; have HB := n0_; have BK155 := n1_; have GW155 := n2_; have GE155 := n3_; clear n0_ n1_ n2_ n3_; clear hb hbox hg; have hcz15_0 : w14.cell? ⟨gb155, 0, none⟩ = some (.bool a0_0) := (blk_cell BK155.out 0).trans rfl; have hcz15_1 : w14.cell? ⟨gb155, 1, none⟩ = some (.slice A0_1 l0_1.length c0_1) := (blk_cell BK155.out 1).trans rfl; have hcz15_2 : w14.cell? ⟨gb155, 2, none⟩ = some (.slice A0_2 l0_2.length c0_2) := (blk_cell BK155.out 2).trans rfl; have hcz15_3 : w14.cell? ⟨gb155, 3, none⟩ = some (.slice A0_3 l0_3.length c0_3) := (blk_cell BK155.out 3).trans rfl; have hfz15_0 := blk_frozen BK155.out 0; have hfz15_1 := blk_frozen BK155.out 1; have hfz15_2 := blk_frozen BK155.out 2; have hfz15_3 := blk_frozen BK155.out 3) | ((with_reducible refine gate_callee (f := 10) rfl ?_); refine goesL_ (some 8) rfl rfl Try.func10 (by kernel_rfl) rfl #[.agg #[.bool a0_0, .slice A0_1 l0_1.length c0_1, .slice A0_2 l0_2.length c0_2, .slice A0_3 l0_3.length c0_3]] rfl (by (try simp only [List.map_toArray, List.map_cons, List.map_nil]); first | done | rfl | (simp only [List.length_drop, List.length_take]; rfl)) ?_; (with_reducible refine (penelopelaw07_few.calls a0_0 (fun k_ => k_ < w.heap.size) _ _ l0_1 (fun k_ => k_ < w.heap.size) _ _ l0_2 (fun k_ => k_ < w.heap.size) _ _ l0_3 t156 t157 t160 t163 _ ?side1 ?side2 ?side3 A3.out).mono ?_); (case side1 => exact Kd.V_mk HC0_1.out (Kd.F_below (Kd.C_F Kd.heap_string HR0_1.out) (by repeat (first | (with_reducible first | exact HB.out | apply below_alloc | apply pw_below_drewN | apply below_drew1 | refine below_set ?_ GE155.out) | exact HB.out)))); (case side2 => exact Kd.V_mk HC0_2.out (Kd.F_below (Kd.C_F Kd.heap_string HR0_2.out) (by repeat (first | (with_reducible first | exact HB.out | apply below_alloc | apply pw_below_drewN | apply below_drew1 | refine below_set ?_ GE155.out) | exact HB.out)))); (case side3 => exact Kd.V_mk HC0_3.out (Kd.F_below (Kd.C_F (Kd.heap_int .i64) HR0_3.out) (by repeat (first | (with_reducible first | exact HB.out | apply below_alloc | apply pw_below_drewN | apply below_drew1 | refine below_set ?_ GE155.out) | exact HB.out)))); rintro e w16 ⟨v158, v161, v164, rfl, ho0, ho1, ho2, hb⟩; refine ⟨_, rfl, ?_⟩; have n0_ := Aside0.mk (Kd.V_lower (Kd.V_mono (ok' := fun k_ => k_ ≠ gb155) ho0 (fun k_ hk_ => Or.elim hk_ (fun hs_ => Or.elim hs_ (fun hs_ => fun e_ => Nat.not_le.2 hs_ (by rw [e_]; exact GW155.out)) (fun hs_ => Or.elim hs_ (fun hs_ => fun e_ => Nat.not_le.2 hs_ (by rw [e_]; exact GW155.out)) (fun hs_ => fun e_ => Nat.not_le.2 hs_ (by rw [e_]; exact GW155.out)))) (fun hn_ => (Kd.freshB (g := gb155) (o := .cells #[.bool a0_0, .slice A0_1 l0_1.length c0_1, .slice A0_2 l0_2.length c0_2, .slice A0_3 l0_3.length c0_3] 25 (0, 0)) (by (with_reducible repeat (first | refine blk_drewN ?_ _ | refine blk_drew ?_ | refine blk_alloc ?_ _)); exact BK155.out) k_ hn_)))) (below_size (by repeat (first | (with_reducible first | exact HB.out | apply below_alloc | apply pw_below_drewN | apply below_drew1 | refine below_set ?_ GE155.out) | exact HB.out)))); have n1_ := Aside0.mk (Kd.V_lower (Kd.V_mono (ok' := fun k_ => k_ ≠ gb155) ho1 (fun k_ hk_ => Or.elim hk_ (fun hs_ => Or.elim hs_ (fun hs_ => fun e_ => Nat.not_le.2 hs_ (by rw [e_]; exact GW155.out)) (fun hs_ => Or.elim hs_ (fun hs_ => fun e_ => Nat.not_le.2 hs_ (by rw [e_]; exact GW155.out)) (fun hs_ => fun e_ => Nat.not_le.2 hs_ (by rw [e_]; exact GW155.out)))) (fun hn_ => (Kd.freshB (g := gb155) (o := .cells #[.bool a0_0, .slice A0_1 l0_1.length c0_1, .slice A0_2 l0_2.length c0_2, .slice A0_3 l0_3.length c0_3] 25 (0, 0)) (by (with_reducible repeat (first | refine blk_drewN ?_ _ | refine blk_drew ?_ | refine blk_alloc ?_ _)); exact BK155.out) k_ hn_)))) (below_size (by repeat (first | (with_reducible first | exact HB.out | apply below_alloc | apply pw_below_drewN | apply below_drew1 | refine below_set ?_ GE155.out) | exact HB.out)))); have n2_ := Aside0.mk (Kd.V_lower (Kd.V_mono (ok' := fun k_ => k_ ≠ gb155) ho2 (fun k_ hk_ => Or.elim hk_ (fun hs_ => Or.elim hs_ (fun hs_ => fun e_ => Nat.not_le.2 hs_ (by rw [e_]; exact GW155.out)) (fun hs_ => Or.elim hs_ (fun hs_ => fun e_ => Nat.not_le.2 hs_ (by rw [e_]; exact GW155.out)) (fun hs_ => fun e_ => Nat.not_le.2 hs_ (by rw [e_]; exact GW155.out)))) (fun hn_ => (Kd.freshB (g := gb155) (o := .cells #[.bool a0_0, .slice A0_1 l0_1.length c0_1, .slice A0_2 l0_2.length c0_2, .slice A0_3 l0_3.length c0_3] 25 (0, 0)) (by (with_reducible repeat (first | refine blk_drewN ?_ _ | refine blk_drew ?_ | refine blk_alloc ?_ _)); exact BK155.out) k_ hn_)))) (below_size (by repeat (first | (with_reducible first | exact HB.out | apply below_alloc | apply pw_below_drewN | apply below_drew1 | refine below_set ?_ GE155.out) | exact HB.out)))); have n3_ := Aside0.mk (blk_below (g := gb155) (o := .cells #[.bool a0_0, .slice A0_1 l0_1.length c0_1, .slice A0_2 l0_2.length c0_2, .slice A0_3 l0_3.length c0_3] 25 (0, 0)) (by (with_reducible repeat (first | refine blk_drewN ?_ _ | refine blk_drew ?_ | refine blk_alloc ?_ _)); exact BK155.out) hb); have n4_ := Aside0.mk (below_step (by repeat (first | (with_reducible first | exact HB.out | apply below_alloc | apply pw_below_drewN | apply below_drew1 | refine below_set ?_ GE155.out) | exact HB.out)) hb); clear BK155; clear HB; have HO159 := n0_; have HO162 := n1_; have HO165 := n2_; have BK155 := n3_; have HB := n4_; clear n0_ n1_ n2_ n3_ n4_; (try clear hb); (try clear hb2); (try clear hk); (try clear hi); (try clear ho0); (try clear ho1); (try clear ho2); have hcz17_0 : w16.cell? ⟨gb155, 0, none⟩ = some (.bool a0_0) := (blk_cell BK155.out 0).trans rfl; have hcz17_1 : w16.cell? ⟨gb155, 1, none⟩ = some (.slice A0_1 l0_1.length c0_1) := (blk_cell BK155.out 1).trans rfl; have hcz17_2 : w16.cell? ⟨gb155, 2, none⟩ = some (.slice A0_2 l0_2.length c0_2) := (blk_cell BK155.out 2).trans rfl; have hcz17_3 : w16.cell? ⟨gb155, 3, none⟩ = some (.slice A0_3 l0_3.length c0_3) := (blk_cell BK155.out 3).trans rfl; have hfz17_0 := blk_frozen BK155.out 0; have hfz17_1 := blk_frozen BK155.out 1; have hfz17_2 := blk_frozen BK155.out 2; have hfz17_3 := blk_frozen BK155.out 3; obtain ⟨Ao18, co18, eo18⟩ := Kd.V_slice HO159.out; subst eo18; obtain ⟨Ao19, co19, eo19⟩ := Kd.V_slice HO162.out; subst eo19; obtain ⟨Ao20, co20, eo20⟩ := Kd.V_slice HO165.out; subst eo20) | ((with_reducible refine gate_callee (f := 11) rfl ?_); refine goesL_ (some 11) rfl rfl Try.func11 (by kernel_rfl) rfl #[.agg #[.bool t156, .slice Ao18 t157.length co18, .slice Ao19 t160.length co19, .slice Ao20 t163.length co20]] rfl (by (try simp only [List.map_toArray, List.map_cons, List.map_nil]); first | done | rfl | (simp only [List.length_drop, List.length_take]; rfl)) ?_; (with_reducible refine (node_Put.calls k t156 _ _ t157 _ _ t160 _ _ t163 t166 t167 _ ?side1 ?side2 ?side3 ?side4 ?side5 ?side6 A4.out).mono ?_); (case side1 => refine (Kd.V_reads' (e := 9) (base := w.heap.size) (ok := fun k_ => k_ ≠ gb155) (n := t157.length) (c := co18) ?_).2.2; exact (by (with_reducible repeat (first | apply Kd.V_alloc | apply Kd.V_drewN | apply Kd.V_drew)); exact (Kd.V_mono (Kd.V_far (p := ⟨gb155, 3, none⟩) (Kd.V_far (p := ⟨gb155, 2, none⟩) (Kd.V_far (p := ⟨gb155, 1, none⟩) (Kd.V_far (p := ⟨gb155, 0, none⟩) (Kd.V_mono HO159.out (fun k_ hk => (⟨hk, hk⟩ : _ ∧ k_ ≠ gb155))) (fun _ hk => hk.2) (.bool t156)) (fun _ hk => hk.2) (.slice Ao18 t157.length co18)) (fun _ hk => hk.2) (.slice Ao19 t160.length co19)) (fun _ hk => hk.2) (.slice Ao20 t163.length co20)) (fun _ h_ => h_.1)))); (case side2 => exact (Kd.V_reads' HO159.out).2.1); (case side3 => refine (Kd.V_reads' (e := 9) (base := w.heap.size) (ok := fun k_ => k_ ≠ gb155) (n := t160.length) (c := co19) ?_).2.2; exact (by (with_reducible repeat (first | apply Kd.V_alloc | apply Kd.V_drewN | apply Kd.V_drew)); exact (Kd.V_mono (Kd.V_far (p := ⟨gb155, 3, none⟩) (Kd.V_far (p := ⟨gb155, 2, none⟩) (Kd.V_far (p := ⟨gb155, 1, none⟩) (Kd.V_far (p := ⟨gb155, 0, none⟩) (Kd.V_mono HO162.out (fun k_ hk => (⟨hk, hk⟩ : _ ∧ k_ ≠ gb155))) (fun _ hk => hk.2) (.bool t156)) (fun _ hk => hk.2) (.slice Ao18 t157.length co18)) (fun _ hk => hk.2) (.slice Ao19 t160.length co19)) (fun _ hk => hk.2) (.slice Ao20 t163.length co20)) (fun _ h_ => h_.1)))); (case side4 => exact (Kd.V_reads' HO162.out).2.1); (case side5 => refine (Kd.V_reads' (e := 3) (base := w.heap.size) (ok := fun k_ => k_ ≠ gb155) (n := t163.length) (c := co20) ?_).2.2; exact (by (with_reducible repeat (first | apply Kd.V_alloc | apply Kd.V_drewN | apply Kd.V_drew)); exact (Kd.V_mono (Kd.V_far (p := ⟨gb155, 3, none⟩) (Kd.V_far (p := ⟨gb155, 2, none⟩) (Kd.V_far (p := ⟨gb155, 1, none⟩) (Kd.V_far (p := ⟨gb155, 0, none⟩) (Kd.V_mono HO165.out (fun k_ hk => (⟨hk, hk⟩ : _ ∧ k_ ≠ gb155))) (fun _ hk => hk.2) (.bool t156)) (fun _ hk => hk.2) (.slice Ao18 t157.length co18)) (fun _ hk => hk.2) (.slice Ao19 t160.length co19)) (fun _ hk => hk.2) (.slice Ao20 t163.length co20)) (fun _ h_ => h_.1)))); (case side6 => exact (Kd.V_reads' HO165.out).2.1); rintro e w21 ⟨rfl, hb⟩; refine ⟨_, rfl, ?_⟩; have n0_ := Aside0.mk (Kd.V_below (by (with_reducible repeat (first | apply Kd.V_alloc | apply Kd.V_drewN | apply Kd.V_drew)); exact (Kd.V_mono (Kd.V_far (p := ⟨gb155, 3, none⟩) (Kd.V_far (p := ⟨gb155, 2, none⟩) (Kd.V_far (p := ⟨gb155, 1, none⟩) (Kd.V_far (p := ⟨gb155, 0, none⟩) (Kd.V_mono HO159.out (fun k_ hk => (⟨hk, hk⟩ : _ ∧ k_ ≠ gb155))) (fun _ hk => hk.2) (.bool t156)) (fun _ hk => hk.2) (.slice Ao18 t157.length co18)) (fun _ hk => hk.2) (.slice Ao19 t160.length co19)) (fun _ hk => hk.2) (.slice Ao20 t163.length co20)) (fun _ h_ => h_.1))) hb); have n1_ := Aside0.mk (Kd.V_below (by (with_reducible repeat (first | apply Kd.V_alloc | apply Kd.V_drewN | apply Kd.V_drew)); exact (Kd.V_mono (Kd.V_far (p := ⟨gb155, 3, none⟩) (Kd.V_far (p := ⟨gb155, 2, none⟩) (Kd.V_far (p := ⟨gb155, 1, none⟩) (Kd.V_far (p := ⟨gb155, 0, none⟩) (Kd.V_mono HO162.out (fun k_ hk => (⟨hk, hk⟩ : _ ∧ k_ ≠ gb155))) (fun _ hk => hk.2) (.bool t156)) (fun _ hk => hk.2) (.slice Ao18 t157.length co18)) (fun _ hk => hk.2) (.slice Ao19 t160.length co19)) (fun _ hk => hk.2) (.slice Ao20 t163.length co20)) (fun _ h_ => h_.1))) hb); have n2_ := Aside0.mk (Kd.V_below (by (with_reducible repeat (first | apply Kd.V_alloc | apply Kd.V_drewN | apply Kd.V_drew)); exact (Kd.V_mono (Kd.V_far (p := ⟨gb155, 3, none⟩) (Kd.V_far (p := ⟨gb155, 2, none⟩) (Kd.V_far (p := ⟨gb155, 1, none⟩) (Kd.V_far (p := ⟨gb155, 0, none⟩) (Kd.V_mono HO165.out (fun k_ hk => (⟨hk, hk⟩ : _ ∧ k_ ≠ gb155))) (fun _ hk => hk.2) (.bool t156)) (fun _ hk => hk.2) (.slice Ao18 t157.length co18)) (fun _ hk => hk.2) (.slice Ao19 t160.length co19)) (fun _ hk => hk.2) (.slice Ao20 t163.length co20)) (fun _ h_ => h_.1))) hb); have n3_ := Aside0.mk (blk_below (g := gb155) (o := .cells #[.bool t156, .slice Ao18 t157.length co18, .slice Ao19 t160.length co19, .slice Ao20 t163.length co20] 25 (0, 0)) (by (with_reducible repeat (first | refine blk_drewN ?_ _ | refine blk_drew ?_ | refine blk_alloc ?_ _)); refine blk_put (cs := #[.bool t156, .slice Ao18 t157.length co18, .slice Ao19 t160.length co19, .slice A0_3 l0_3.length c0_3]) ?_ 3 _ rfl; (with_reducible repeat (first | refine blk_drewN ?_ _ | refine blk_drew ?_ | refine blk_alloc ?_ _)); refine blk_put (cs := #[.bool t156, .slice Ao18 t157.length co18, .slice A0_2 l0_2.length c0_2, .slice A0_3 l0_3.length c0_3]) ?_ 2 _ rfl; (with_reducible repeat (first | refine blk_drewN ?_ _ | refine blk_drew ?_ | refine blk_alloc ?_ _)); refine blk_put (cs := #[.bool t156, .slice A0_1 l0_1.length c0_1, .slice A0_2 l0_2.length c0_2, .slice A0_3 l0_3.length c0_3]) ?_ 1 _ rfl; (with_reducible repeat (first | refine blk_drewN ?_ _ | refine blk_drew ?_ | refine blk_alloc ?_ _)); refine blk_put (cs := #[.bool a0_0, .slice A0_1 l0_1.length c0_1, .slice A0_2 l0_2.length c0_2, .slice A0_3 l0_3.length c0_3]) ?_ 0 _ rfl; (with_reducible repeat (first | refine blk_drewN ?_ _ | refine blk_drew ?_ | refine blk_alloc ?_ _)); exact BK155.out) hb); have n4_ := Aside0.mk (below_step (by repeat (first | (with_reducible first | exact HB.out | apply below_alloc | apply pw_below_drewN | apply below_drew1 | refine below_set ?_ GE155.out) | exact HB.out)) hb); clear HO159; clear HO162; clear HO165; clear BK155; clear HB; have HO159 := n0_; have HO162 := n1_; have HO165 := n2_; have BK155 := n3_; have HB := n4_; clear n0_ n1_ n2_ n3_ n4_; (try clear hb); (try clear hb2); (try clear hk); (try clear hi); have hcz22_0 : w21.cell? ⟨gb155, 0, none⟩ = some (.bool t156) := (blk_cell BK155.out 0).trans rfl; have hcz22_1 : w21.cell? ⟨gb155, 1, none⟩ = some (.slice Ao18 t157.length co18) := (blk_cell BK155.out 1).trans rfl; have hcz22_2 : w21.cell? ⟨gb155, 2, none⟩ = some (.slice Ao19 t160.length co19) := (blk_cell BK155.out 2).trans rfl; have hcz22_3 : w21.cell? ⟨gb155, 3, none⟩ = some (.slice Ao20 t163.length co20) := (blk_cell BK155.out 3).trans rfl; have hfz22_0 := blk_frozen BK155.out 0; have hfz22_1 := blk_frozen BK155.out 1; have hfz22_2 := blk_frozen BK155.out 2; have hfz22_3 := blk_frozen BK155.out 3) | ((with_reducible refine gate_callee (f := 12) rfl ?_); refine goesL_ (some 15) rfl rfl Try.func12 (by kernel_rfl) rfl #[.agg #[.bool t156, .slice Ao18 t157.length co18, .slice Ao19 t160.length co19, .slice Ao20 t163.length co20], .bool true] rfl (by (try simp only [List.map_toArray, List.map_cons, List.map_nil]); first | done | rfl | (simp only [List.length_drop, List.length_take]; rfl)) ?_; (with_reducible refine (peneloperef07_Right.calls k t156 _ _ t157 _ _ t160 _ _ t163 true true _ ?side1 ?side2 ?side3 ?side4 ?side5 ?side6 A5.out).mono ?_); (case side1 => repeat (first | exact (Kd.V_reads' HO159.out).2.2 | (with_reducible refine Kd.C_alloc ?_ _) | (with_reducible refine Kd.C_drewN ?_ _) | (with_reducible refine Kd.C_drew ?_))); (case side2 => exact (Kd.V_reads' HO159.out).2.1); (case side3 => repeat (first | exact (Kd.V_reads' HO162.out).2.2 | (with_reducible refine Kd.C_alloc ?_ _) | (with_reducible refine Kd.C_drewN ?_ _) | (with_reducible refine Kd.C_drew ?_))); (case side4 => exact (Kd.V_reads' HO162.out).2.1); (case side5 => repeat (first | exact (Kd.V_reads' HO165.out).2.2 | (with_reducible refine Kd.C_alloc ?_ _) | (with_reducible refine Kd.C_drewN ?_ _) | (with_reducible refine Kd.C_drew ?_))); (case side6 => exact (Kd.V_reads' HO165.out).2.1); rintro e w23 ⟨rfl, hb⟩; refine ⟨_, rfl, ?_⟩; have n0_ := Aside0.mk (Kd.V_below (by (with_reducible repeat (first | apply Kd.V_alloc | apply Kd.V_drewN | apply Kd.V_drew)); exact HO159.out) hb); have n1_ := Aside0.mk (Kd.V_below (by (with_reducible repeat (first | apply Kd.V_alloc | apply Kd.V_drewN | apply Kd.V_drew)); exact HO162.out) hb); have n2_ := Aside0.mk (Kd.V_below (by (with_reducible repeat (first | apply Kd.V_alloc | apply Kd.V_drewN | apply Kd.V_drew)); exact HO165.out) hb); have n3_ := Aside0.mk (blk_below (g := gb155) (o := .cells #[.bool t156, .slice Ao18 t157.length co18, .slice Ao19 t160.length co19, .slice Ao20 t163.length co20] 25 (0, 0)) (by (with_reducible repeat (first | refine blk_drewN ?_ _ | refine blk_drew ?_ | refine blk_alloc ?_ _)); exact BK155.out) hb); have n4_ := Aside0.mk (below_step (by repeat (first | (with_reducible first | exact HB.out | apply below_alloc | apply pw_below_drewN | apply below_drew1 | refine below_set ?_ GE155.out) | exact HB.out)) hb); clear HO159; clear HO162; clear HO165; clear BK155; clear HB; have HO159 := n0_; have HO162 := n1_; have HO165 := n2_; have BK155 := n3_; have HB := n4_; clear n0_ n1_ n2_ n3_ n4_; (try clear hb); (try clear hb2); (try clear hk); (try clear hi)))
          have n0_ := Aside0.mk (Kd.V_drew HO159.out)
          have n1_ := Aside0.mk (Kd.V_drew HO162.out)
          have n2_ := Aside0.mk (Kd.V_drew HO165.out)
          have n3_ := Aside0.mk (blk_drew BK155.out)
          have n4_ := Aside0.mk (below_drew1 HB.out)
          clear HO159
          clear HO162
          clear HO165
          clear BK155
          clear HB
          have HO159 := n0_
          have HO162 := n1_
          have HO165 := n2_
          have BK155 := n3_
          have HB := n4_
          clear n0_ n1_ n2_ n3_ n4_
          refine start_ (n := 21) (S := fun w' => w'.cell? ⟨gb155, 0, none⟩ = some (.bool t156) ∧ w'.cell? ⟨gb155, 1, none⟩ = some (.slice Ao18 t157.length co18) ∧ w'.cell? ⟨gb155, 2, none⟩ = some (.slice Ao19 t160.length co19) ∧ w'.cell? ⟨gb155, 3, none⟩ = some (.slice Ao20 t163.length co20)) (ds := []) #[false, false, false, false, false, false, false, false, false, false, false, false, false, false, false, false, false, false, false, false, false] (by kernel_rfl) rfl rfl ⟨(blk_cell BK155.out 0).trans rfl, (blk_cell BK155.out 1).trans rfl, (blk_cell BK155.out 2).trans rfl, (blk_cell BK155.out 3).trans rfl⟩ (fun hHeld => ?_); refine with_tabW penelopelaw07_NodeRights.tab5 penelopelaw07_NodeRights.bits5 (fun HT_ HW_ => ?_)
          generalize w23.drew = w24 at HO159 HO162 HO165 BK155 HB hHeld ⊢
          refine one_ (i := 0) (N := some 32) #[true, false, false, false, false, false, false, false, false, false, false, false, false, false, false, false, false, false, false, false, false] rfl rfl (one_of HT_.out (by kernel_rfl)) (by decide) (fun K hK => ?_)
          refine goes_ Try.func13 (by kernel_rfl) rfl #[] (by rfl) rfl rfl (by (try simp only [List.map_toArray, List.map_cons, List.map_nil]); first | done | rfl | (simp only [List.length_drop, List.length_take]; rfl)) ?_
          with_reducible refine (penelopelaw07_alive.calls k  true _ A7.out).mono ?_
          rintro e w25 ⟨rfl, hb⟩
          refine ⟨_, rfl, ?_⟩
          have n0_ := Aside0.mk (Kd.V_below (by (with_reducible repeat (first | apply Kd.V_alloc | apply Kd.V_drewN | apply Kd.V_drew)); exact HO159.out) hb)
          have n1_ := Aside0.mk (Kd.V_below (by (with_reducible repeat (first | apply Kd.V_alloc | apply Kd.V_drewN | apply Kd.V_drew)); exact HO162.out) hb)
          have n2_ := Aside0.mk (Kd.V_below (by (with_reducible repeat (first | apply Kd.V_alloc | apply Kd.V_drewN | apply Kd.V_drew)); exact HO165.out) hb)
          have n3_ := Aside0.mk (blk_below (g := gb155) (o := .cells #[.bool t156, .slice Ao18 t157.length co18, .slice Ao19 t160.length co19, .slice Ao20 t163.length co20] 25 (0, 0)) (by (with_reducible repeat (first | refine blk_drewN ?_ _ | refine blk_drew ?_ | refine blk_alloc ?_ _)); exact BK155.out) hb)
          have n4_ := Aside0.mk (below_step (by repeat (first | (with_reducible first | exact HB.out | apply below_alloc | apply pw_below_drewN | apply below_drew1 | refine below_set ?_ GE155.out) | exact HB.out)) hb)
          clear HO159
          clear HO162
          clear HO165
          clear BK155
          clear HB
          have HO159 := n0_
          have HO162 := n1_
          have HO165 := n2_
          have BK155 := n3_
          have HB := n4_
          clear n0_ n1_ n2_ n3_ n4_
          (try clear hb)
          (try clear hb2)
          (try clear hk)
          (try clear hi)
          refine hK.out _ _ ⟨(blk_cell BK155.out 0).trans rfl, (blk_cell BK155.out 1).trans rfl, (blk_cell BK155.out 2).trans rfl, (blk_cell BK155.out 3).trans rfl⟩ (fun hHeld => ?_)
          clear hK K
          refine norm_ (a' := ?_) ?_ ?_
          rotate_left
          · show Act.put _ (some 32) _ = _
            simp only [Act.put, List.setIfInBounds_toArray, List.set_cons_zero, List.set_cons_succ, i64_w, i32_w]
            rfl
          refine pure_ (i := 1) (N := some 33) (v := ?_) (a' := ?_) #[true, true, false, false, false, false, false, false, false, false, false, false, false, false, false, false, false, false, false, false, false] rfl rfl (any_of HT_.out (by kernel_rfl)) (fun _ _ _ h => h) (Or.inl ⟨by rfl, ?_⟩) ?_ ?_
          rotate_left
          · intro w'
            go_simp
            with_reducible rfl
          rotate_left
          · simp only [Act.put, List.setIfInBounds_toArray, List.set_cons_zero, List.set_cons_succ, i64_w, i32_w]
            rfl
          refine pure_ (i := 3) (N := some 35) (v := ?_) (a' := ?_) #[true, true, false, true, false, false, false, false, false, false, false, false, false, false, false, false, false, false, false, false, false] rfl rfl (any_of HT_.out (by kernel_rfl)) (fun _ _ _ h => h) (Or.inl ⟨by rfl, ?_⟩) ?_ ?_
          rotate_left
          · intro w'
            go_simp
            with_reducible rfl
          rotate_left
          · simp only [Act.put, List.setIfInBounds_toArray, List.set_cons_zero, List.set_cons_succ, i64_w, i32_w]
            rfl
          refine pure_ (i := 6) (N := some 38) (v := ?_) (a' := ?_) #[true, true, false, true, false, false, true, false, false, false, false, false, false, false, false, false, false, false, false, false, false] rfl rfl (any_of HT_.out (by kernel_rfl)) (fun _ _ _ h => h) (Or.inl ⟨by rfl, ?_⟩) ?_ ?_
          rotate_left
          · intro w'
            go_simp
            with_reducible rfl
          rotate_left
          · simp only [Act.put, List.setIfInBounds_toArray, List.set_cons_zero, List.set_cons_succ, i64_w, i32_w]
            rfl
          refine take_ (i := 2) (N := some 34) (v := ?_) (a' := ?_) #[true, true, true, true, false, false, true, false, false, false, false, false, false, false, false, false, false, false, false, false, false] rfl rfl (take_ofW HT_.out HW_.out (by kernel_rfl)) (fun _ _ _ h => h) (Or.inl ⟨by rfl, ?_⟩) hHeld ?_ ?_
          rotate_left
          · rintro w' ⟨s0, s1, s2, s3⟩
            go_simp
            with_reducible rfl
          rotate_left
          · simp only [Act.put, List.setIfInBounds_toArray, List.set_cons_zero, List.set_cons_succ, i64_w, i32_w]
            rfl
          refine take_ (i := 5) (N := some 37) (v := ?_) (a' := ?_) #[true, true, true, true, false, true, true, false, false, false, false, false, false, false, false, false, false, false, false, false, false] rfl rfl (take_ofW HT_.out HW_.out (by kernel_rfl)) (fun _ _ _ h => h) (Or.inl ⟨by rfl, ?_⟩) hHeld ?_ ?_
          rotate_left
          · rintro w' ⟨s0, s1, s2, s3⟩
            go_simp
            with_reducible rfl
          rotate_left
          · simp only [Act.put, List.setIfInBounds_toArray, List.set_cons_zero, List.set_cons_succ, i64_w, i32_w]
            rfl
          refine one_ (i := 4) (N := some 36) #[true, true, true, true, true, true, true, false, false, false, false, false, false, false, false, false, false, false, false, false, false] rfl rfl (one_of HT_.out (by kernel_rfl)) (by decide) (fun K hK => ?_)
          refine goes_ Try.func14 (by kernel_rfl) rfl #[.agg #[.bool t156, .slice Ao18 t157.length co18, .slice Ao19 t160.length co19, .slice Ao20 t163.length co20], .bool a1] (by rfl) rfl rfl (by (try simp only [List.map_toArray, List.map_cons, List.map_nil]); first | done | rfl | (simp only [List.length_drop, List.length_take]; rfl)) ?_
          with_reducible refine (node_Right.calls k t156 _ _ t157 _ _ t160 _ _ t163 a1 t172 _ ?side1 ?side2 ?side3 ?side4 ?side5 ?side6 A9.out).mono ?_
          (case side1 => repeat (first | exact (Kd.V_reads' HO159.out).2.2 | (with_reducible refine Kd.C_alloc ?_ _) | (with_reducible refine Kd.C_drewN ?_ _) | (with_reducible refine Kd.C_drew ?_)))
          (case side2 => exact (Kd.V_reads' HO159.out).2.1)
          (case side3 => repeat (first | exact (Kd.V_reads' HO162.out).2.2 | (with_reducible refine Kd.C_alloc ?_ _) | (with_reducible refine Kd.C_drewN ?_ _) | (with_reducible refine Kd.C_drew ?_)))
          (case side4 => exact (Kd.V_reads' HO162.out).2.1)
          (case side5 => repeat (first | exact (Kd.V_reads' HO165.out).2.2 | (with_reducible refine Kd.C_alloc ?_ _) | (with_reducible refine Kd.C_drewN ?_ _) | (with_reducible refine Kd.C_drew ?_)))
          (case side6 => exact (Kd.V_reads' HO165.out).2.1)
          rintro e w26 ⟨rfl, hb⟩
          refine ⟨_, rfl, ?_⟩
          have n0_ := Aside0.mk (Kd.V_below (by (with_reducible repeat (first | apply Kd.V_alloc | apply Kd.V_drewN | apply Kd.V_drew)); exact HO159.out) hb)
          have n1_ := Aside0.mk (Kd.V_below (by (with_reducible repeat (first | apply Kd.V_alloc | apply Kd.V_drewN | apply Kd.V_drew)); exact HO162.out) hb)
          have n2_ := Aside0.mk (Kd.V_below (by (with_reducible repeat (first | apply Kd.V_alloc | apply Kd.V_drewN | apply Kd.V_drew)); exact HO165.out) hb)
          have n3_ := Aside0.mk (blk_below (g := gb155) (o := .cells #[.bool t156, .slice Ao18 t157.length co18, .slice Ao19 t160.length co19, .slice Ao20 t163.length co20] 25 (0, 0)) (by (with_reducible repeat (first | refine blk_drewN ?_ _ | refine blk_drew ?_ | refine blk_alloc ?_ _)); exact BK155.out) hb)
          have n4_ := Aside0.mk (below_step (by repeat (first | (with_reducible first | exact HB.out | apply below_alloc | apply pw_below_drewN | apply below_drew1 | refine below_set ?_ GE155.out) | exact HB.out)) hb)
          clear HO159
          clear HO162
          clear HO165
          clear BK155
          clear HB
          have HO159 := n0_
          have HO162 := n1_
          have HO165 := n2_
          have BK155 := n3_
          have HB := n4_
          clear n0_ n1_ n2_ n3_ n4_
          (try clear hb)
          (try clear hb2)
          (try clear hk)
          (try clear hi)
          refine hK.out _ _ ⟨(blk_cell BK155.out 0).trans rfl, (blk_cell BK155.out 1).trans rfl, (blk_cell BK155.out 2).trans rfl, (blk_cell BK155.out 3).trans rfl⟩ (fun hHeld => ?_)
          clear hK K
          refine norm_ (a' := ?_) ?_ ?_
          rotate_left
          · show Act.put _ (some 36) _ = _
            simp only [Act.put, List.setIfInBounds_toArray, List.set_cons_zero, List.set_cons_succ, i64_w, i32_w]
            rfl
          refine one_ (i := 7) (N := some 39) #[true, true, true, true, true, true, true, true, false, false, false, false, false, false, false, false, false, false, false, false, false] rfl rfl (one_of HT_.out (by kernel_rfl)) (by decide) (fun K hK => ?_)
          refine goes_ Try.func12 (by kernel_rfl) rfl #[.agg #[.bool t156, .slice Ao18 t157.length co18, .slice Ao19 t160.length co19, .slice Ao20 t163.length co20], .bool a1] (by rfl) rfl rfl (by (try simp only [List.map_toArray, List.map_cons, List.map_nil]); first | done | rfl | (simp only [List.length_drop, List.length_take]; rfl)) ?_
          with_reducible refine (peneloperef07_Right.calls k t156 _ _ t157 _ _ t160 _ _ t163 a1 t173 _ ?side1 ?side2 ?side3 ?side4 ?side5 ?side6 A10.out).mono ?_
          (case side1 => repeat (first | exact (Kd.V_reads' HO159.out).2.2 | (with_reducible refine Kd.C_alloc ?_ _) | (with_reducible refine Kd.C_drewN ?_ _) | (with_reducible refine Kd.C_drew ?_)))
          (case side2 => exact (Kd.V_reads' HO159.out).2.1)
          (case side3 => repeat (first | exact (Kd.V_reads' HO162.out).2.2 | (with_reducible refine Kd.C_alloc ?_ _) | (with_reducible refine Kd.C_drewN ?_ _) | (with_reducible refine Kd.C_drew ?_)))
          (case side4 => exact (Kd.V_reads' HO162.out).2.1)
          (case side5 => repeat (first | exact (Kd.V_reads' HO165.out).2.2 | (with_reducible refine Kd.C_alloc ?_ _) | (with_reducible refine Kd.C_drewN ?_ _) | (with_reducible refine Kd.C_drew ?_)))
          (case side6 => exact (Kd.V_reads' HO165.out).2.1)
          rintro e w27 ⟨rfl, hb⟩
          refine ⟨_, rfl, ?_⟩
          have n0_ := Aside0.mk (Kd.V_below (by (with_reducible repeat (first | apply Kd.V_alloc | apply Kd.V_drewN | apply Kd.V_drew)); exact HO159.out) hb)
          have n1_ := Aside0.mk (Kd.V_below (by (with_reducible repeat (first | apply Kd.V_alloc | apply Kd.V_drewN | apply Kd.V_drew)); exact HO162.out) hb)
          have n2_ := Aside0.mk (Kd.V_below (by (with_reducible repeat (first | apply Kd.V_alloc | apply Kd.V_drewN | apply Kd.V_drew)); exact HO165.out) hb)
          have n3_ := Aside0.mk (blk_below (g := gb155) (o := .cells #[.bool t156, .slice Ao18 t157.length co18, .slice Ao19 t160.length co19, .slice Ao20 t163.length co20] 25 (0, 0)) (by (with_reducible repeat (first | refine blk_drewN ?_ _ | refine blk_drew ?_ | refine blk_alloc ?_ _)); exact BK155.out) hb)
          have n4_ := Aside0.mk (below_step (by repeat (first | (with_reducible first | exact HB.out | apply below_alloc | apply pw_below_drewN | apply below_drew1 | refine below_set ?_ GE155.out) | exact HB.out)) hb)
          clear HO159
          clear HO162
          clear HO165
          clear BK155
          clear HB
          have HO159 := n0_
          have HO162 := n1_
          have HO165 := n2_
          have BK155 := n3_
          have HB := n4_
          clear n0_ n1_ n2_ n3_ n4_
          (try clear hb)
          (try clear hb2)
          (try clear hk)
          (try clear hi)
          refine hK.out _ _ ⟨(blk_cell BK155.out 0).trans rfl, (blk_cell BK155.out 1).trans rfl, (blk_cell BK155.out 2).trans rfl, (blk_cell BK155.out 3).trans rfl⟩ (fun hHeld => ?_)
          clear hK K
          refine norm_ (a' := ?_) ?_ ?_
          rotate_left
          · show Act.put _ (some 39) _ = _
            simp only [Act.put, List.setIfInBounds_toArray, List.set_cons_zero, List.set_cons_succ, i64_w, i32_w]
            rfl
          refine pure_ (i := 8) (N := some 40) (v := ?_) (a' := ?_) #[true, true, true, true, true, true, true, true, true, false, false, false, false, false, false, false, false, false, false, false, false] rfl rfl (any_of HT_.out (by kernel_rfl)) (fun _ _ _ h => h) (Or.inl ⟨by rfl, ?_⟩) ?_ ?_
          rotate_left
          · intro w'
            go_simp
            with_reducible rfl
          rotate_left
          · simp only [Act.put, List.setIfInBounds_toArray, List.set_cons_zero, List.set_cons_succ, i64_w, i32_w]
            rfl
          refine pure_ (i := 9) (N := some 41) (v := ?_) (a' := ?_) #[true, true, true, true, true, true, true, true, true, true, false, false, false, false, false, false, false, false, false, false, false] rfl rfl (any_of HT_.out (by kernel_rfl)) (fun _ _ _ h => h) (Or.inl ⟨by rfl, ?_⟩) ?_ ?_
          rotate_left
          · intro w'
            go_simp
            with_reducible rfl
          rotate_left
          · simp only [Act.put, List.setIfInBounds_toArray, List.set_cons_zero, List.set_cons_succ, i64_w, i32_w]
            rfl
          refine pure_ (i := 10) (N := some 42) (v := ?_) (a' := ?_) #[true, true, true, true, true, true, true, true, true, true, true, false, false, false, false, false, false, false, false, false, false] rfl rfl (any_of HT_.out (by kernel_rfl)) (fun _ _ _ h => h) (Or.inl ⟨by rfl, ?_⟩) ?_ ?_
          rotate_left
          · intro w'
            go_simp
            with_reducible rfl
          rotate_left
          · simp only [Act.put, List.setIfInBounds_toArray, List.set_cons_zero, List.set_cons_succ, i64_w, i32_w]
            rfl
          refine pure_ (i := 11) (N := some 43) (v := ?_) (a' := ?_) #[true, true, true, true, true, true, true, true, true, true, true, true, false, false, false, false, false, false, false, false, false] rfl rfl (any_of HT_.out (by kernel_rfl)) (fun _ _ _ h => h) (Or.inl ⟨by rfl, ?_⟩) ?_ ?_
          rotate_left
          · intro w'
            go_simp
            with_reducible rfl
          rotate_left
          · simp only [Act.put, List.setIfInBounds_toArray, List.set_cons_zero, List.set_cons_succ, i64_w, i32_w]
            rfl
          refine pure_ (i := 12) (N := some 44) (v := ?_) (a' := ?_) #[true, true, true, true, true, true, true, true, true, true, true, true, true, false, false, false, false, false, false, false, false] rfl rfl (any_of HT_.out (by kernel_rfl)) (fun _ _ _ h => h) (Or.inl ⟨by rfl, ?_⟩) ?_ ?_
          rotate_left
          · intro w'
            go_simp
            with_reducible rfl
          rotate_left
          · simp only [Act.put, List.setIfInBounds_toArray, List.set_cons_zero, List.set_cons_succ, i64_w, i32_w]
            rfl
          refine pure_ (i := 13) (N := some 45) (v := ?_) (a' := ?_) #[true, true, true, true, true, true, true, true, true, true, true, true, true, true, false, false, false, false, false, false, false] rfl rfl (any_of HT_.out (by kernel_rfl)) (fun _ _ _ h => h) (Or.inl ⟨by rfl, ?_⟩) ?_ ?_
          rotate_left
          · intro w'
            go_simp
            with_reducible rfl
          rotate_left
          · simp only [Act.put, List.setIfInBounds_toArray, List.set_cons_zero, List.set_cons_succ, i64_w, i32_w]
            rfl
          refine pure_ (i := 14) (N := some 46) (v := ?_) (a' := ?_) #[true, true, true, true, true, true, true, true, true, true, true, true, true, true, true, false, false, false, false, false, false] rfl rfl (any_of HT_.out (by kernel_rfl)) (fun _ _ _ h => h) (Or.inl ⟨by rfl, ?_⟩) ?_ ?_
          rotate_left
          · intro w'
            go_simp
            with_reducible rfl
          rotate_left
          · simp only [Act.put, List.setIfInBounds_toArray, List.set_cons_zero, List.set_cons_succ, i64_w, i32_w]
            rfl
          refine pure_ (i := 15) (N := some 47) (v := ?_) (a' := ?_) #[true, true, true, true, true, true, true, true, true, true, true, true, true, true, true, true, false, false, false, false, false] rfl rfl (any_of HT_.out (by kernel_rfl)) (fun _ _ _ h => h) (Or.inl ⟨by rfl, ?_⟩) ?_ ?_
          rotate_left
          · intro w'
            go_simp
            with_reducible rfl
          rotate_left
          · simp only [Act.put, List.setIfInBounds_toArray, List.set_cons_zero, List.set_cons_succ, i64_w, i32_w]
            rfl
          refine take_ (i := 16) (N := some 48) (v := ?_) (a' := ?_) #[true, true, true, true, true, true, true, true, true, true, true, true, true, true, true, true, true, false, false, false, false] rfl rfl (take_ofW HT_.out HW_.out (by kernel_rfl)) (fun _ _ _ h => h) (Or.inl ⟨by rfl, ?_⟩) hHeld ?_ ?_
          rotate_left
          · rintro w' ⟨s0, s1, s2, s3⟩
            go_simp
            with_reducible rfl
          rotate_left
          · simp only [Act.put, List.setIfInBounds_toArray, List.set_cons_zero, List.set_cons_succ, i64_w, i32_w]
            rfl
          refine one_ (i := 17) (N := some 49) #[true, true, true, true, true, true, true, true, true, true, true, true, true, true, true, true, true, true, false, false, false] rfl rfl (one_of HT_.out (by kernel_rfl)) (by decide) (fun K hK => ?_)
          refine goes_ Try.func15 (by kernel_rfl) rfl #[.agg #[.bool t156, .slice Ao18 t157.length co18, .slice Ao19 t160.length co19, .slice Ao20 t163.length co20]] (by rfl) rfl rfl (by (try simp only [List.map_toArray, List.map_cons, List.map_nil]); first | done | rfl | (simp only [List.length_drop, List.length_take]; rfl)) ?_
          with_reducible refine (peneloperef07_Put.calls k t156 _ _ t157 _ _ t160 _ _ t163 t174 _ ?side1 ?side2 ?side3 ?side4 ?side5 ?side6 A13.out).mono ?_
          (case side1 => repeat (first | exact (Kd.V_reads' HO159.out).2.2 | (with_reducible refine Kd.C_alloc ?_ _) | (with_reducible refine Kd.C_drewN ?_ _) | (with_reducible refine Kd.C_drew ?_)))
          (case side2 => exact (Kd.V_reads' HO159.out).2.1)
          (case side3 => repeat (first | exact (Kd.V_reads' HO162.out).2.2 | (with_reducible refine Kd.C_alloc ?_ _) | (with_reducible refine Kd.C_drewN ?_ _) | (with_reducible refine Kd.C_drew ?_)))
          (case side4 => exact (Kd.V_reads' HO162.out).2.1)
          (case side5 => repeat (first | exact (Kd.V_reads' HO165.out).2.2 | (with_reducible refine Kd.C_alloc ?_ _) | (with_reducible refine Kd.C_drewN ?_ _) | (with_reducible refine Kd.C_drew ?_)))
          (case side6 => exact (Kd.V_reads' HO165.out).2.1)
          rintro e w28 ⟨rfl, hb⟩
          refine ⟨_, rfl, ?_⟩
          have n0_ := Aside0.mk (Kd.V_below (by (with_reducible repeat (first | apply Kd.V_alloc | apply Kd.V_drewN | apply Kd.V_drew)); exact HO159.out) hb)
          have n1_ := Aside0.mk (Kd.V_below (by (with_reducible repeat (first | apply Kd.V_alloc | apply Kd.V_drewN | apply Kd.V_drew)); exact HO162.out) hb)
          have n2_ := Aside0.mk (Kd.V_below (by (with_reducible repeat (first | apply Kd.V_alloc | apply Kd.V_drewN | apply Kd.V_drew)); exact HO165.out) hb)
          have n3_ := Aside0.mk (blk_below (g := gb155) (o := .cells #[.bool t156, .slice Ao18 t157.length co18, .slice Ao19 t160.length co19, .slice Ao20 t163.length co20] 25 (0, 0)) (by (with_reducible repeat (first | refine blk_drewN ?_ _ | refine blk_drew ?_ | refine blk_alloc ?_ _)); exact BK155.out) hb)
          have n4_ := Aside0.mk (below_step (by repeat (first | (with_reducible first | exact HB.out | apply below_alloc | apply pw_below_drewN | apply below_drew1 | refine below_set ?_ GE155.out) | exact HB.out)) hb)
          clear HO159
          clear HO162
          clear HO165
          clear BK155
          clear HB
          have HO159 := n0_
          have HO162 := n1_
          have HO165 := n2_
          have BK155 := n3_
          have HB := n4_
          clear n0_ n1_ n2_ n3_ n4_
          (try clear hb)
          (try clear hb2)
          (try clear hk)
          (try clear hi)
          refine hK.out _ _ ⟨(blk_cell BK155.out 0).trans rfl, (blk_cell BK155.out 1).trans rfl, (blk_cell BK155.out 2).trans rfl, (blk_cell BK155.out 3).trans rfl⟩ (fun hHeld => ?_)
          clear hK K
          refine norm_ (a' := ?_) ?_ ?_
          rotate_left
          · show Act.put _ (some 49) _ = _
            simp only [Act.put, List.setIfInBounds_toArray, List.set_cons_zero, List.set_cons_succ, i64_w, i32_w]
            rfl
          refine pure_ (i := 18) (N := some 50) (v := ?_) (a' := ?_) #[true, true, true, true, true, true, true, true, true, true, true, true, true, true, true, true, true, true, true, false, false] rfl rfl (any_of HT_.out (by kernel_rfl)) (fun _ _ _ h => h) (Or.inl ⟨by rfl, ?_⟩) ?_ ?_
          rotate_left
          · intro w'
            go_simp
            with_reducible rfl
          rotate_left
          · simp only [Act.put, List.setIfInBounds_toArray, List.set_cons_zero, List.set_cons_succ, i64_w, i32_w]
            rfl
          refine pure_ (i := 19) (N := some 51) (v := ?_) (a' := ?_) #[true, true, true, true, true, true, true, true, true, true, true, true, true, true, true, true, true, true, true, true, false] rfl rfl (any_of HT_.out (by kernel_rfl)) (fun _ _ _ h => h) (Or.inl ⟨by rfl, ?_⟩) ?_ ?_
          rotate_left
          · intro w'
            go_simp
            with_reducible rfl
          rotate_left
          · simp only [Act.put, List.setIfInBounds_toArray, List.set_cons_zero, List.set_cons_succ, i64_w, i32_w]
            rfl
          refine pure_ (i := 20) (N := some 4) (v := ?_) (a' := ?_) #[true, true, true, true, true, true, true, true, true, true, true, true, true, true, true, true, true, true, true, true, true] rfl rfl (any_of HT_.out (by kernel_rfl)) (fun _ _ _ h => h) (Or.inl ⟨by rfl, ?_⟩) ?_ ?_
          rotate_left
          · intro w'
            go_simp
            with_reducible rfl
          rotate_left
          · simp only [Act.put, List.setIfInBounds_toArray, List.set_cons_zero, List.set_cons_succ, i64_w, i32_w]
            rfl
          refine done_ (done_of HT_.out (by kernel_rfl)) ?_
          try go_wp2
          go_ret
          exact ⟨by first | rfl | (simp [errW_none, errW_some] <;> rfl) | (simp [*, errW_none, errW_some] <;> rfl), by repeat (first | (with_reducible first | exact HB.out | apply below_alloc | apply pw_below_drewN | apply below_drew1 | refine below_set ?_ GE155.out) | exact HB.out)⟩
        · rw [if_neg c12] at H
          have c12b0 : (t167 == 0) = false := beq_eq_false_iff_ne.mpr c12
          have c12b1 : (t167 != 0) = true := bne_iff_ne.mpr c12
          exact absurd H (by simp)
      · rw [if_neg c11] at H
        have c11b0 : (t172 == t173) = false := by simpa using c11
        (try (have c11b1 : decide (t172 = t173) = false := by simpa using c11))
        (try (have c11b2 : (t172 == t173) = false := by simpa using c11))
        (try (have c11b3 : ¬ (t172 = t173) := by simpa using c11))
        clear c11
        exact absurd H (by simp)
    · replace c8 := Bool.eq_false_iff.mpr c8
      subst c8
      have H1 : (none) = some r := by rw [if_neg (show ¬ (false = true) by decide)] at H; exact H
      clear H
      have H := H1
      clear H1
      exact absurd H (by simp)
  · replace c6 := Bool.eq_false_iff.mpr c6
    subst c6
    have H1 : ((penelopelaw07_alive.f k).bind fun t169 => (if t169 = true then (if t167 = 1 then (if t166.toList = ([] : List UInt8) then ((node_Right.f k t156 t157 t160 t163 a1).bind fun t170 => (some (!t170))) else (none)) else (none)) else (none))) = some r := by rw [if_neg (show ¬ (false = true) by decide)] at H; exact H
    clear H
    have H := H1
    clear H1
    replace H := Option.bind_eq_some_iff.mp H
    obtain ⟨t169, A290, H⟩ := H
    replace H : (if t169 = true then (if t167 = 1 then (if t166.toList = ([] : List UInt8) then ((node_Right.f k t156 t157 t160 t163 a1).bind fun t170 => (some (!t170))) else (none)) else (none)) else (none)) = some r := H
    have A29 := Aside0.mk A290
    clear A290
    by_cases c30 : t169 = true
    · subst c30
      have H1 : (if t167 = 1 then (if t166.toList = ([] : List UInt8) then ((node_Right.f k t156 t157 t160 t163 a1).bind fun t170 => (some (!t170))) else (none)) else (none)) = some r := by rw [if_pos rfl] at H; exact H
      clear H
      have H := H1
      clear H1
      by_cases c31 : t167 = 1
      · rw [if_pos c31] at H
        have c31b0 : (t167 == 1) = true := beq_iff_eq.mpr c31
        have c31b1 : (t167 != 1) = false := bne_eq_false_iff_eq.mpr c31
        clear c31
        by_cases c32 : t166.toList = ([] : List UInt8)
        · rw [if_pos c32] at H
          have c32b0 : (t166.toList == ([] : List UInt8)) = true := beq_iff_eq.mpr c32
          have c32b1 : (t166.toList != ([] : List UInt8)) = false := bne_eq_false_iff_eq.mpr c32
          clear c32
          replace H := Option.bind_eq_some_iff.mp H
          obtain ⟨t170, A330, H⟩ := H
          replace H : (some (!t170)) = some r := H
          have A33 := Aside0.mk A330
          clear A330
          obtain rfl := Option.some.inj H
          go_enter Try.func3, Try.ntmps3
          go_wp2_with (first | ((with_reducible refine gate_dst (N := 2) rfl ?_); refine box_event ?hg (N := 2) ?hd (cs := #[.bool a0_0, .slice A0_1 l0_1.length c0_1, .slice A0_2 l0_2.length c0_2, .slice A0_3 l0_3.length c0_3]) (t := 25) ?hr ?_; (case hd => rfl); (case hg => rfl); (case hr => first | (go_simp; done) | (go_simp; rfl)); intro gb155 hg w34 hbox hb; have n0_ := Aside0.mk (below_step (by repeat (first | (with_reducible first | exact HB.out | apply below_alloc | apply pw_below_drewN | apply below_drew1) | exact HB.out)) hb); have n1_ := Aside0.mk (hbox); have n2_ := Aside0.mk ((by rw [hg]; exact (below_size (by repeat (first | (with_reducible first | exact HB.out | apply below_alloc | apply pw_below_drewN | apply below_drew1) | exact HB.out))) : w.heap.size ≤ gb155)); have n3_ := Aside0.mk ((by rw [hg]; exact (below_size (by repeat (first | (with_reducible first | exact HB.out | apply below_alloc | apply pw_below_drewN | apply below_drew1) | exact HB.out))) : w.heap.size ≤ gb155)); clear HB; have HB := n0_; have BK155 := n1_; have GW155 := n2_; have GE155 := n3_; clear n0_ n1_ n2_ n3_; clear hb hbox hg; have hcz35_0 : w34.cell? ⟨gb155, 0, none⟩ = some (.bool a0_0) := (blk_cell BK155.out 0).trans rfl; have hcz35_1 : w34.cell? ⟨gb155, 1, none⟩ = some (.slice A0_1 l0_1.length c0_1) := (blk_cell BK155.out 1).trans rfl; have hcz35_2 : w34.cell? ⟨gb155, 2, none⟩ = some (.slice A0_2 l0_2.length c0_2) := (blk_cell BK155.out 2).trans rfl; have hcz35_3 : w34.cell? ⟨gb155, 3, none⟩ = some (.slice A0_3 l0_3.length c0_3) := (blk_cell BK155.out 3).trans rfl; have hfz35_0 := blk_frozen BK155.out 0; have hfz35_1 := blk_frozen BK155.out 1; have hfz35_2 := blk_frozen BK155.out 2; have hfz35_3 := blk_frozen BK155.out 3) | ((with_reducible refine gate_callee (f := 10) rfl ?_); refine goesL_ (some 8) rfl rfl Try.func10 (by kernel_rfl) rfl #[.agg #[.bool a0_0, .slice A0_1 l0_1.length c0_1, .slice A0_2 l0_2.length c0_2, .slice A0_3 l0_3.length c0_3]] rfl (by (try simp only [List.map_toArray, List.map_cons, List.map_nil]); first | done | rfl | (simp only [List.length_drop, List.length_take]; rfl)) ?_; (with_reducible refine (penelopelaw07_few.calls a0_0 (fun k_ => k_ < w.heap.size) _ _ l0_1 (fun k_ => k_ < w.heap.size) _ _ l0_2 (fun k_ => k_ < w.heap.size) _ _ l0_3 t156 t157 t160 t163 _ ?side1 ?side2 ?side3 A3.out).mono ?_); (case side1 => exact Kd.V_mk HC0_1.out (Kd.F_below (Kd.C_F Kd.heap_string HR0_1.out) (by repeat (first | (with_reducible first | exact HB.out | apply below_alloc | apply pw_below_drewN | apply below_drew1 | refine below_set ?_ GE155.out) | exact HB.out)))); (case side2 => exact Kd.V_mk HC0_2.out (Kd.F_below (Kd.C_F Kd.heap_string HR0_2.out) (by repeat (first | (with_reducible first | exact HB.out | apply below_alloc | apply pw_below_drewN | apply below_drew1 | refine below_set ?_ GE155.out) | exact HB.out)))); (case side3 => exact Kd.V_mk HC0_3.out (Kd.F_below (Kd.C_F (Kd.heap_int .i64) HR0_3.out) (by repeat (first | (with_reducible first | exact HB.out | apply below_alloc | apply pw_below_drewN | apply below_drew1 | refine below_set ?_ GE155.out) | exact HB.out)))); rintro e w36 ⟨v158, v161, v164, rfl, ho0, ho1, ho2, hb⟩; refine ⟨_, rfl, ?_⟩; have n0_ := Aside0.mk (Kd.V_lower (Kd.V_mono (ok' := fun k_ => k_ ≠ gb155) ho0 (fun k_ hk_ => Or.elim hk_ (fun hs_ => Or.elim hs_ (fun hs_ => fun e_ => Nat.not_le.2 hs_ (by rw [e_]; exact GW155.out)) (fun hs_ => Or.elim hs_ (fun hs_ => fun e_ => Nat.not_le.2 hs_ (by rw [e_]; exact GW155.out)) (fun hs_ => fun e_ => Nat.not_le.2 hs_ (by rw [e_]; exact GW155.out)))) (fun hn_ => (Kd.freshB (g := gb155) (o := .cells #[.bool a0_0, .slice A0_1 l0_1.length c0_1, .slice A0_2 l0_2.length c0_2, .slice A0_3 l0_3.length c0_3] 25 (0, 0)) (by (with_reducible repeat (first | refine blk_drewN ?_ _ | refine blk_drew ?_ | refine blk_alloc ?_ _)); exact BK155.out) k_ hn_)))) (below_size (by repeat (first | (with_reducible first | exact HB.out | apply below_alloc | apply pw_below_drewN | apply below_drew1 | refine below_set ?_ GE155.out) | exact HB.out)))); have n1_ := Aside0.mk (Kd.V_lower (Kd.V_mono (ok' := fun k_ => k_ ≠ gb155) ho1 (fun k_ hk_ => Or.elim hk_ (fun hs_ => Or.elim hs_ (fun hs_ => fun e_ => Nat.not_le.2 hs_ (by rw [e_]; exact GW155.out)) (fun hs_ => Or.elim hs_ (fun hs_ => fun e_ => Nat.not_le.2 hs_ (by rw [e_]; exact GW155.out)) (fun hs_ => fun e_ => Nat.not_le.2 hs_ (by rw [e_]; exact GW155.out)))) (fun hn_ => (Kd.freshB (g := gb155) (o := .cells #[.bool a0_0, .slice A0_1 l0_1.length c0_1, .slice A0_2 l0_2.length c0_2, .slice A0_3 l0_3.length c0_3] 25 (0, 0)) (by (with_reducible repeat (first | refine blk_drewN ?_ _ | refine blk_drew ?_ | refine blk_alloc ?_ _)); exact BK155.out) k_ hn_)))) (below_size (by repeat (first | (with_reducible first | exact HB.out | apply below_alloc | apply pw_below_drewN | apply below_drew1 | refine below_set ?_ GE155.out) | exact HB.out)))); have n2_ := Aside0.mk (Kd.V_lower (Kd.V_mono (ok' := fun k_ => k_ ≠ gb155) ho2 (fun k_ hk_ => Or.elim hk_ (fun hs_ => Or.elim hs_ (fun hs_ => fun e_ => Nat.not_le.2 hs_ (by rw [e_]; exact GW155.out)) (fun hs_ => Or.elim hs_ (fun hs_ => fun e_ => Nat.not_le.2 hs_ (by rw [e_]; exact GW155.out)) (fun hs_ => fun e_ => Nat.not_le.2 hs_ (by rw [e_]; exact GW155.out)))) (fun hn_ => (Kd.freshB (g := gb155) (o := .cells #[.bool a0_0, .slice A0_1 l0_1.length c0_1, .slice A0_2 l0_2.length c0_2, .slice A0_3 l0_3.length c0_3] 25 (0, 0)) (by (with_reducible repeat (first | refine blk_drewN ?_ _ | refine blk_drew ?_ | refine blk_alloc ?_ _)); exact BK155.out) k_ hn_)))) (below_size (by repeat (first | (with_reducible first | exact HB.out | apply below_alloc | apply pw_below_drewN | apply below_drew1 | refine below_set ?_ GE155.out) | exact HB.out)))); have n3_ := Aside0.mk (blk_below (g := gb155) (o := .cells #[.bool a0_0, .slice A0_1 l0_1.length c0_1, .slice A0_2 l0_2.length c0_2, .slice A0_3 l0_3.length c0_3] 25 (0, 0)) (by (with_reducible repeat (first | refine blk_drewN ?_ _ | refine blk_drew ?_ | refine blk_alloc ?_ _)); exact BK155.out) hb); have n4_ := Aside0.mk (below_step (by repeat (first | (with_reducible first | exact HB.out | apply below_alloc | apply pw_below_drewN | apply below_drew1 | refine below_set ?_ GE155.out) | exact HB.out)) hb); clear BK155; clear HB; have HO159 := n0_; have HO162 := n1_; have HO165 := n2_; have BK155 := n3_; have HB := n4_; clear n0_ n1_ n2_ n3_ n4_; (try clear hb); (try clear hb2); (try clear hk); (try clear hi); (try clear ho0); (try clear ho1); (try clear ho2); have hcz37_0 : w36.cell? ⟨gb155, 0, none⟩ = some (.bool a0_0) := (blk_cell BK155.out 0).trans rfl; have hcz37_1 : w36.cell? ⟨gb155, 1, none⟩ = some (.slice A0_1 l0_1.length c0_1) := (blk_cell BK155.out 1).trans rfl; have hcz37_2 : w36.cell? ⟨gb155, 2, none⟩ = some (.slice A0_2 l0_2.length c0_2) := (blk_cell BK155.out 2).trans rfl; have hcz37_3 : w36.cell? ⟨gb155, 3, none⟩ = some (.slice A0_3 l0_3.length c0_3) := (blk_cell BK155.out 3).trans rfl; have hfz37_0 := blk_frozen BK155.out 0; have hfz37_1 := blk_frozen BK155.out 1; have hfz37_2 := blk_frozen BK155.out 2; have hfz37_3 := blk_frozen BK155.out 3; obtain ⟨Ao38, co38, eo38⟩ := Kd.V_slice HO159.out; subst eo38; obtain ⟨Ao39, co39, eo39⟩ := Kd.V_slice HO162.out; subst eo39; obtain ⟨Ao40, co40, eo40⟩ := Kd.V_slice HO165.out; subst eo40) | ((with_reducible refine gate_callee (f := 11) rfl ?_); refine goesL_ (some 11) rfl rfl Try.func11 (by kernel_rfl) rfl #[.agg #[.bool t156, .slice Ao38 t157.length co38, .slice Ao39 t160.length co39, .slice Ao40 t163.length co40]] rfl (by (try simp only [List.map_toArray, List.map_cons, List.map_nil]); first | done | rfl | (simp only [List.length_drop, List.length_take]; rfl)) ?_; (with_reducible refine (node_Put.calls k t156 _ _ t157 _ _ t160 _ _ t163 t166 t167 _ ?side1 ?side2 ?side3 ?side4 ?side5 ?side6 A4.out).mono ?_); (case side1 => refine (Kd.V_reads' (e := 9) (base := w.heap.size) (ok := fun k_ => k_ ≠ gb155) (n := t157.length) (c := co38) ?_).2.2; exact (by (with_reducible repeat (first | apply Kd.V_alloc | apply Kd.V_drewN | apply Kd.V_drew)); exact (Kd.V_mono (Kd.V_far (p := ⟨gb155, 3, none⟩) (Kd.V_far (p := ⟨gb155, 2, none⟩) (Kd.V_far (p := ⟨gb155, 1, none⟩) (Kd.V_far (p := ⟨gb155, 0, none⟩) (Kd.V_mono HO159.out (fun k_ hk => (⟨hk, hk⟩ : _ ∧ k_ ≠ gb155))) (fun _ hk => hk.2) (.bool t156)) (fun _ hk => hk.2) (.slice Ao38 t157.length co38)) (fun _ hk => hk.2) (.slice Ao39 t160.length co39)) (fun _ hk => hk.2) (.slice Ao40 t163.length co40)) (fun _ h_ => h_.1)))); (case side2 => exact (Kd.V_reads' HO159.out).2.1); (case side3 => refine (Kd.V_reads' (e := 9) (base := w.heap.size) (ok := fun k_ => k_ ≠ gb155) (n := t160.length) (c := co39) ?_).2.2; exact (by (with_reducible repeat (first | apply Kd.V_alloc | apply Kd.V_drewN | apply Kd.V_drew)); exact (Kd.V_mono (Kd.V_far (p := ⟨gb155, 3, none⟩) (Kd.V_far (p := ⟨gb155, 2, none⟩) (Kd.V_far (p := ⟨gb155, 1, none⟩) (Kd.V_far (p := ⟨gb155, 0, none⟩) (Kd.V_mono HO162.out (fun k_ hk => (⟨hk, hk⟩ : _ ∧ k_ ≠ gb155))) (fun _ hk => hk.2) (.bool t156)) (fun _ hk => hk.2) (.slice Ao38 t157.length co38)) (fun _ hk => hk.2) (.slice Ao39 t160.length co39)) (fun _ hk => hk.2) (.slice Ao40 t163.length co40)) (fun _ h_ => h_.1)))); (case side4 => exact (Kd.V_reads' HO162.out).2.1); (case side5 => refine (Kd.V_reads' (e := 3) (base := w.heap.size) (ok := fun k_ => k_ ≠ gb155) (n := t163.length) (c := co40) ?_).2.2; exact (by (with_reducible repeat (first | apply Kd.V_alloc | apply Kd.V_drewN | apply Kd.V_drew)); exact (Kd.V_mono (Kd.V_far (p := ⟨gb155, 3, none⟩) (Kd.V_far (p := ⟨gb155, 2, none⟩) (Kd.V_far (p := ⟨gb155, 1, none⟩) (Kd.V_far (p := ⟨gb155, 0, none⟩) (Kd.V_mono HO165.out (fun k_ hk => (⟨hk, hk⟩ : _ ∧ k_ ≠ gb155))) (fun _ hk => hk.2) (.bool t156)) (fun _ hk => hk.2) (.slice Ao38 t157.length co38)) (fun _ hk => hk.2) (.slice Ao39 t160.length co39)) (fun _ hk => hk.2) (.slice Ao40 t163.length co40)) (fun _ h_ => h_.1)))); (case side6 => exact (Kd.V_reads' HO165.out).2.1); rintro e w41 ⟨rfl, hb⟩; refine ⟨_, rfl, ?_⟩; have n0_ := Aside0.mk (Kd.V_below (by (with_reducible repeat (first | apply Kd.V_alloc | apply Kd.V_drewN | apply Kd.V_drew)); exact (Kd.V_mono (Kd.V_far (p := ⟨gb155, 3, none⟩) (Kd.V_far (p := ⟨gb155, 2, none⟩) (Kd.V_far (p := ⟨gb155, 1, none⟩) (Kd.V_far (p := ⟨gb155, 0, none⟩) (Kd.V_mono HO159.out (fun k_ hk => (⟨hk, hk⟩ : _ ∧ k_ ≠ gb155))) (fun _ hk => hk.2) (.bool t156)) (fun _ hk => hk.2) (.slice Ao38 t157.length co38)) (fun _ hk => hk.2) (.slice Ao39 t160.length co39)) (fun _ hk => hk.2) (.slice Ao40 t163.length co40)) (fun _ h_ => h_.1))) hb); have n1_ := Aside0.mk (Kd.V_below (by (with_reducible repeat (first | apply Kd.V_alloc | apply Kd.V_drewN | apply Kd.V_drew)); exact (Kd.V_mono (Kd.V_far (p := ⟨gb155, 3, none⟩) (Kd.V_far (p := ⟨gb155, 2, none⟩) (Kd.V_far (p := ⟨gb155, 1, none⟩) (Kd.V_far (p := ⟨gb155, 0, none⟩) (Kd.V_mono HO162.out (fun k_ hk => (⟨hk, hk⟩ : _ ∧ k_ ≠ gb155))) (fun _ hk => hk.2) (.bool t156)) (fun _ hk => hk.2) (.slice Ao38 t157.length co38)) (fun _ hk => hk.2) (.slice Ao39 t160.length co39)) (fun _ hk => hk.2) (.slice Ao40 t163.length co40)) (fun _ h_ => h_.1))) hb); have n2_ := Aside0.mk (Kd.V_below (by (with_reducible repeat (first | apply Kd.V_alloc | apply Kd.V_drewN | apply Kd.V_drew)); exact (Kd.V_mono (Kd.V_far (p := ⟨gb155, 3, none⟩) (Kd.V_far (p := ⟨gb155, 2, none⟩) (Kd.V_far (p := ⟨gb155, 1, none⟩) (Kd.V_far (p := ⟨gb155, 0, none⟩) (Kd.V_mono HO165.out (fun k_ hk => (⟨hk, hk⟩ : _ ∧ k_ ≠ gb155))) (fun _ hk => hk.2) (.bool t156)) (fun _ hk => hk.2) (.slice Ao38 t157.length co38)) (fun _ hk => hk.2) (.slice Ao39 t160.length co39)) (fun _ hk => hk.2) (.slice Ao40 t163.length co40)) (fun _ h_ => h_.1))) hb); have n3_ := Aside0.mk (blk_below (g := gb155) (o := .cells #[.bool t156, .slice Ao38 t157.length co38, .slice Ao39 t160.length co39, .slice Ao40 t163.length co40] 25 (0, 0)) (by (with_reducible repeat (first | refine blk_drewN ?_ _ | refine blk_drew ?_ | refine blk_alloc ?_ _)); refine blk_put (cs := #[.bool t156, .slice Ao38 t157.length co38, .slice Ao39 t160.length co39, .slice A0_3 l0_3.length c0_3]) ?_ 3 _ rfl; (with_reducible repeat (first | refine blk_drewN ?_ _ | refine blk_drew ?_ | refine blk_alloc ?_ _)); refine blk_put (cs := #[.bool t156, .slice Ao38 t157.length co38, .slice A0_2 l0_2.length c0_2, .slice A0_3 l0_3.length c0_3]) ?_ 2 _ rfl; (with_reducible repeat (first | refine blk_drewN ?_ _ | refine blk_drew ?_ | refine blk_alloc ?_ _)); refine blk_put (cs := #[.bool t156, .slice A0_1 l0_1.length c0_1, .slice A0_2 l0_2.length c0_2, .slice A0_3 l0_3.length c0_3]) ?_ 1 _ rfl; (with_reducible repeat (first | refine blk_drewN ?_ _ | refine blk_drew ?_ | refine blk_alloc ?_ _)); refine blk_put (cs := #[.bool a0_0, .slice A0_1 l0_1.length c0_1, .slice A0_2 l0_2.length c0_2, .slice A0_3 l0_3.length c0_3]) ?_ 0 _ rfl; (with_reducible repeat (first | refine blk_drewN ?_ _ | refine blk_drew ?_ | refine blk_alloc ?_ _)); exact BK155.out) hb); have n4_ := Aside0.mk (below_step (by repeat (first | (with_reducible first | exact HB.out | apply below_alloc | apply pw_below_drewN | apply below_drew1 | refine below_set ?_ GE155.out) | exact HB.out)) hb); clear HO159; clear HO162; clear HO165; clear BK155; clear HB; have HO159 := n0_; have HO162 := n1_; have HO165 := n2_; have BK155 := n3_; have HB := n4_; clear n0_ n1_ n2_ n3_ n4_; (try clear hb); (try clear hb2); (try clear hk); (try clear hi); have hcz42_0 : w41.cell? ⟨gb155, 0, none⟩ = some (.bool t156) := (blk_cell BK155.out 0).trans rfl; have hcz42_1 : w41.cell? ⟨gb155, 1, none⟩ = some (.slice Ao38 t157.length co38) := (blk_cell BK155.out 1).trans rfl; have hcz42_2 : w41.cell? ⟨gb155, 2, none⟩ = some (.slice Ao39 t160.length co39) := (blk_cell BK155.out 2).trans rfl; have hcz42_3 : w41.cell? ⟨gb155, 3, none⟩ = some (.slice Ao40 t163.length co40) := (blk_cell BK155.out 3).trans rfl; have hfz42_0 := blk_frozen BK155.out 0; have hfz42_1 := blk_frozen BK155.out 1; have hfz42_2 := blk_frozen BK155.out 2; have hfz42_3 := blk_frozen BK155.out 3) | ((with_reducible refine gate_callee (f := 12) rfl ?_); refine goesL_ (some 15) rfl rfl Try.func12 (by kernel_rfl) rfl #[.agg #[.bool t156, .slice Ao38 t157.length co38, .slice Ao39 t160.length co39, .slice Ao40 t163.length co40], .bool true] rfl (by (try simp only [List.map_toArray, List.map_cons, List.map_nil]); first | done | rfl | (simp only [List.length_drop, List.length_take]; rfl)) ?_; (with_reducible refine (peneloperef07_Right.calls k t156 _ _ t157 _ _ t160 _ _ t163 true false _ ?side1 ?side2 ?side3 ?side4 ?side5 ?side6 A5.out).mono ?_); (case side1 => repeat (first | exact (Kd.V_reads' HO159.out).2.2 | (with_reducible refine Kd.C_alloc ?_ _) | (with_reducible refine Kd.C_drewN ?_ _) | (with_reducible refine Kd.C_drew ?_))); (case side2 => exact (Kd.V_reads' HO159.out).2.1); (case side3 => repeat (first | exact (Kd.V_reads' HO162.out).2.2 | (with_reducible refine Kd.C_alloc ?_ _) | (with_reducible refine Kd.C_drewN ?_ _) | (with_reducible refine Kd.C_drew ?_))); (case side4 => exact (Kd.V_reads' HO162.out).2.1); (case side5 => repeat (first | exact (Kd.V_reads' HO165.out).2.2 | (with_reducible refine Kd.C_alloc ?_ _) | (with_reducible refine Kd.C_drewN ?_ _) | (with_reducible refine Kd.C_drew ?_))); (case side6 => exact (Kd.V_reads' HO165.out).2.1); rintro e w43 ⟨rfl, hb⟩; refine ⟨_, rfl, ?_⟩; have n0_ := Aside0.mk (Kd.V_below (by (with_reducible repeat (first | apply Kd.V_alloc | apply Kd.V_drewN | apply Kd.V_drew)); exact HO159.out) hb); have n1_ := Aside0.mk (Kd.V_below (by (with_reducible repeat (first | apply Kd.V_alloc | apply Kd.V_drewN | apply Kd.V_drew)); exact HO162.out) hb); have n2_ := Aside0.mk (Kd.V_below (by (with_reducible repeat (first | apply Kd.V_alloc | apply Kd.V_drewN | apply Kd.V_drew)); exact HO165.out) hb); have n3_ := Aside0.mk (blk_below (g := gb155) (o := .cells #[.bool t156, .slice Ao38 t157.length co38, .slice Ao39 t160.length co39, .slice Ao40 t163.length co40] 25 (0, 0)) (by (with_reducible repeat (first | refine blk_drewN ?_ _ | refine blk_drew ?_ | refine blk_alloc ?_ _)); exact BK155.out) hb); have n4_ := Aside0.mk (below_step (by repeat (first | (with_reducible first | exact HB.out | apply below_alloc | apply pw_below_drewN | apply below_drew1 | refine below_set ?_ GE155.out) | exact HB.out)) hb); clear HO159; clear HO162; clear HO165; clear BK155; clear HB; have HO159 := n0_; have HO162 := n1_; have HO165 := n2_; have BK155 := n3_; have HB := n4_; clear n0_ n1_ n2_ n3_ n4_; (try clear hb); (try clear hb2); (try clear hk); (try clear hi)) | ((with_reducible refine gate_callee (f := 13) rfl ?_); refine goesL_ (some 17) rfl rfl Try.func13 (by kernel_rfl) rfl #[] rfl (by (try simp only [List.map_toArray, List.map_cons, List.map_nil]); first | done | rfl | (simp only [List.length_drop, List.length_take]; rfl)) ?_; (with_reducible refine (penelopelaw07_alive.calls k  true _ A29.out).mono ?_); rintro e w44 ⟨rfl, hb⟩; refine ⟨_, rfl, ?_⟩; have n0_ := Aside0.mk (Kd.V_below (by (with_reducible repeat (first | apply Kd.V_alloc | apply Kd.V_drewN | apply Kd.V_drew)); exact HO159.out) hb); have n1_ := Aside0.mk (Kd.V_below (by (with_reducible repeat (first | apply Kd.V_alloc | apply Kd.V_drewN | apply Kd.V_drew)); exact HO162.out) hb); have n2_ := Aside0.mk (Kd.V_below (by (with_reducible repeat (first | apply Kd.V_alloc | apply Kd.V_drewN | apply Kd.V_drew)); exact HO165.out) hb); have n3_ := Aside0.mk (blk_below (g := gb155) (o := .cells #[.bool t156, .slice Ao38 t157.length co38, .slice Ao39 t160.length co39, .slice Ao40 t163.length co40] 25 (0, 0)) (by (with_reducible repeat (first | refine blk_drewN ?_ _ | refine blk_drew ?_ | refine blk_alloc ?_ _)); exact BK155.out) hb); have n4_ := Aside0.mk (below_step (by repeat (first | (with_reducible first | exact HB.out | apply below_alloc | apply pw_below_drewN | apply below_drew1 | refine below_set ?_ GE155.out) | exact HB.out)) hb); clear HO159; clear HO162; clear HO165; clear BK155; clear HB; have HO159 := n0_; have HO162 := n1_; have HO165 := n2_; have BK155 := n3_; have HB := n4_; clear n0_ n1_ n2_ n3_ n4_; (try clear hb); (try clear hb2); (try clear hk); (try clear hi); have hcz45_0 : w44.cell? ⟨gb155, 0, none⟩ = some (.bool t156) := (blk_cell BK155.out 0).trans rfl; have hcz45_1 : w44.cell? ⟨gb155, 1, none⟩ = some (.slice Ao38 t157.length co38) := (blk_cell BK155.out 1).trans rfl; have hcz45_2 : w44.cell? ⟨gb155, 2, none⟩ = some (.slice Ao39 t160.length co39) := (blk_cell BK155.out 2).trans rfl; have hcz45_3 : w44.cell? ⟨gb155, 3, none⟩ = some (.slice Ao40 t163.length co40) := (blk_cell BK155.out 3).trans rfl; have hfz45_0 := blk_frozen BK155.out 0; have hfz45_1 := blk_frozen BK155.out 1; have hfz45_2 := blk_frozen BK155.out 2; have hfz45_3 := blk_frozen BK155.out 3) | (go_at_call 14; (with_reducible refine (node_Right.calls k t156 _ _ t157 _ _ t160 _ _ t163 a1 t170 _ ?side1 ?side2 ?side3 ?side4 ?side5 ?side6 A33.out).mono ?_); (case side1 => repeat (first | exact (Kd.V_reads' HO159.out).2.2 | (with_reducible refine Kd.C_alloc ?_ _) | (with_reducible refine Kd.C_drewN ?_ _) | (with_reducible refine Kd.C_drew ?_))); (case side2 => exact (Kd.V_reads' HO159.out).2.1); (case side3 => repeat (first | exact (Kd.V_reads' HO162.out).2.2 | (with_reducible refine Kd.C_alloc ?_ _) | (with_reducible refine Kd.C_drewN ?_ _) | (with_reducible refine Kd.C_drew ?_))); (case side4 => exact (Kd.V_reads' HO162.out).2.1); (case side5 => repeat (first | exact (Kd.V_reads' HO165.out).2.2 | (with_reducible refine Kd.C_alloc ?_ _) | (with_reducible refine Kd.C_drewN ?_ _) | (with_reducible refine Kd.C_drew ?_))); (case side6 => exact (Kd.V_reads' HO165.out).2.1); rintro e w46 ⟨rfl, hb⟩; have n0_ := Aside0.mk (Kd.V_below (by (with_reducible repeat (first | apply Kd.V_alloc | apply Kd.V_drewN | apply Kd.V_drew)); exact HO159.out) hb); have n1_ := Aside0.mk (Kd.V_below (by (with_reducible repeat (first | apply Kd.V_alloc | apply Kd.V_drewN | apply Kd.V_drew)); exact HO162.out) hb); have n2_ := Aside0.mk (Kd.V_below (by (with_reducible repeat (first | apply Kd.V_alloc | apply Kd.V_drewN | apply Kd.V_drew)); exact HO165.out) hb); have n3_ := Aside0.mk (blk_below (g := gb155) (o := .cells #[.bool t156, .slice Ao38 t157.length co38, .slice Ao39 t160.length co39, .slice Ao40 t163.length co40] 25 (0, 0)) (by (with_reducible repeat (first | refine blk_drewN ?_ _ | refine blk_drew ?_ | refine blk_alloc ?_ _)); exact BK155.out) hb); have n4_ := Aside0.mk (below_step (by repeat (first | (with_reducible first | exact HB.out | apply below_alloc | apply pw_below_drewN | apply below_drew1 | refine below_set ?_ GE155.out) | exact HB.out)) hb); clear HO159; clear HO162; clear HO165; clear BK155; clear HB; have HO159 := n0_; have HO162 := n1_; have HO165 := n2_; have BK155 := n3_; have HB := n4_; clear n0_ n1_ n2_ n3_ n4_; (try clear hb); (try clear hb2); (try clear hk); (try clear hi)))
          go_ret
          exact ⟨by first | rfl | (simp [errW_none, errW_some] <;> rfl) | (simp [*, errW_none, errW_some] <;> rfl), by repeat (first | (with_reducible first | exact HB.out | apply below_alloc | apply pw_below_drewN | apply below_drew1 | refine below_set ?_ GE155.out) | exact HB.out)⟩
        · rw [if_neg c32] at H
          exact absurd H (by simp)
      · rw [if_neg c31] at H
        exact absurd H (by simp)
    · replace c30 := Bool.eq_false_iff.mpr c30
      subst c30
      have H1 : (none) = some r := by rw [if_neg (show ¬ (false = true) by decide)] at H; exact H
      clear H
      have H := H1
      clear H1
      exact absurd H (by simp)

end Go.Proofs.Ytmnkabdaapiikaa.X
