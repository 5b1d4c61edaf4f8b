-- laid by a program of this session (wip/tools/xprint.py), function by function; Lean checks it
import Derived.Test.YtbgmhcefjggpgaaXx0
import Derived.Test.YtbgmhcefjggpgaaXFew
import Derived.Test.YtbgmhcefjggpgaaXRight
import Derived.Test.YtbgmhcefjggpgaaXx3
import Derived.Test.YtbgmhcefjggpgaaXx5
import Derived.Test.YtbgmhcefjggpgaaXx6
import Derived.Test.YtbgmhcefjggpgaaXx7
import Derived.Test.YtbgmhcefjggpgaaXx8
import Derived.Test.YtbgmhcefjggpgaaXx10
import Derived.Test.YtbgmhcefjggpgaaXx11
namespace Go.Proofs.Ytbgmhcefjggpgaa.X
open Go.RowKit Go.Proofs.YtbgmhcefjggpgaaW.PrintWords Go.Proofs.YtbgmhcefjggpgaaW.PrintLast Go.Proofs.YtbgmhcefjggpgaaW.PrintMore
attribute [local go_sem] max2_int min2_int max_two min_two max_three min_three max_four min_four   -- for this text's walks alone
set_option linter.unusedVariables false
set_option linter.unusedSimpArgs false

/-! ### penelopelaw16_DagRights: function 3 -/
def penelopelaw16_DagRights.j0 : Nat → List Bool → Int → List Int → List Int → Int → Bool → ByteArray → List (S39) → Option (Bool)
  | 0, _, _, _, _, _, _, _, _ => none
  | k + 1, x1, x5, x6, x8, x9, x37, x190000, x190001 => if x37 = true then (none) else (if x5 = 0 then ((peneloperef16_Order.f k x190000 x190001).bind fun t205 => ((peneloperef16_SameInts.f k x6 t205).bind fun t208 => (if t208 = true then (if (x1.length : Int) = (x190001.length : Int) then (if x9 = 0 then ((peneloperef16_Free.f k x190000 x190001 x1).bind fun t209 => ((peneloperef16_SameInts.f k x8 t209).bind fun t212 => (some t212))) else (none)) else (if x9 = 1 then (some ((x8.length : Int) == 0)) else (none))) else (none)))) else (if x9 = x5 then (some ((wrap64 ((x6.length : Int) + (x8.length : Int))) == 0)) else (none)))
def penelopelaw16_DagRights.f (k : Nat) (a0_0 : ByteArray) (l0_1 : List (S39)) (l1 : List Bool) : Option (Bool) := (penelopelaw16_few.f k a0_0 l0_1).bind fun bt190 => ((peneloperef16_Right.f k bt190.1 bt190.2).bind fun t194 => ((dag_Order.f k bt190.1 bt190.2).bind fun bt195 => ((dag_Free.f k bt190.1 bt190.2 l1).bind fun bt199 => ((dag_Right.f k bt190.1 bt190.2).bind fun t203 => (if t203 = t194 then (if bt195.2 = t194 then ((penelopelaw16_alive.f k).bind fun t204 => (penelopelaw16_DagRights.j0 k l1 t194 bt195.1 bt199.1 bt199.2 (!t204) bt190.1 bt190.2)) else (penelopelaw16_DagRights.j0 k l1 t194 bt195.1 bt199.1 bt199.2 true bt190.1 bt190.2)) else (penelopelaw16_DagRights.j0 k l1 t194 bt195.1 bt199.1 bt199.2 true bt190.1 bt190.2))))))
theorem penelopelaw16_DagRights.mono_l : ∀ k, (∀ y0 y1 y2 y3 y4 y5 y6 y7, LeO (penelopelaw16_DagRights.j0 k y0 y1 y2 y3 y4 y5 y6 y7) (penelopelaw16_DagRights.j0 (k + 1) y0 y1 y2 y3 y4 y5 y6 y7))
  | 0 => fun _ _ _ _ _ _ _ _ r h => by simp [penelopelaw16_DagRights.j0] at h
  | k + 1 => by
    have ih0 := penelopelaw16_DagRights.mono_l k
    · intro y0 y1 y2 y3 y4 y5 y6 y7
      unfold penelopelaw16_DagRights.j0
      repeat' first
      | (with_reducible exact ih0 _ _ _ _ _ _ _ _)
      | (with_reducible exact dag_Free.mono _ _ _ _)
      | (with_reducible exact dag_Order.mono _ _ _)
      | (with_reducible exact dag_Right.mono _ _ _)
      | (with_reducible exact penelopelaw16_alive.mono _)
      | (with_reducible exact penelopelaw16_few.mono _ _ _)
      | (with_reducible exact peneloperef16_Free.mono _ _ _ _)
      | (with_reducible exact peneloperef16_Order.mono _ _ _)
      | (with_reducible exact peneloperef16_Right.mono _ _ _)
      | (with_reducible exact peneloperef16_SameInts.mono _ _ _)
      | (with_reducible exact LeO.refl _)
      | (with_reducible exact LeO.none _)
      | (with_reducible refine LeO.ite ?_ ?_)
      | (with_reducible refine LeO.bind ?_ (fun _ => ?_))
      | exact ih0 _ _ _ _ _ _ _ _
      | exact dag_Free.mono _ _ _ _
      | exact dag_Order.mono _ _ _
      | exact dag_Right.mono _ _ _
      | exact penelopelaw16_alive.mono _
      | exact penelopelaw16_few.mono _ _ _
      | exact peneloperef16_Free.mono _ _ _ _
      | exact peneloperef16_Order.mono _ _ _
      | exact peneloperef16_Right.mono _ _ _
      | exact peneloperef16_SameInts.mono _ _ _
      | exact LeO.none _
      | refine LeO.ite ?_ ?_
      | refine LeO.bind ?_ (fun _ => ?_)
theorem penelopelaw16_DagRights.mono : ∀ a0 a1 a2 k, LeO (penelopelaw16_DagRights.f k a0 a1 a2) (penelopelaw16_DagRights.f (k + 1) a0 a1 a2) := by
  intro a0 a1 a2 k
  have ih0 := penelopelaw16_DagRights.mono_l k
  unfold penelopelaw16_DagRights.f
  repeat' first
      | (with_reducible exact ih0 _ _ _ _ _ _ _ _)
      | (with_reducible exact dag_Free.mono _ _ _ _)
      | (with_reducible exact dag_Order.mono _ _ _)
      | (with_reducible exact dag_Right.mono _ _ _)
      | (with_reducible exact penelopelaw16_alive.mono _)
      | (with_reducible exact penelopelaw16_few.mono _ _ _)
      | (with_reducible exact peneloperef16_Free.mono _ _ _ _)
      | (with_reducible exact peneloperef16_Order.mono _ _ _)
      | (with_reducible exact peneloperef16_Right.mono _ _ _)
      | (with_reducible exact peneloperef16_SameInts.mono _ _ _)
      | (with_reducible exact LeO.refl _)
      | (with_reducible exact LeO.none _)
      | (with_reducible refine LeO.ite ?_ ?_)
      | (with_reducible refine LeO.bind ?_ (fun _ => ?_))
      | exact ih0 _ _ _ _ _ _ _ _
      | exact dag_Free.mono _ _ _ _
      | exact dag_Order.mono _ _ _
      | exact dag_Right.mono _ _ _
      | exact penelopelaw16_alive.mono _
      | exact penelopelaw16_few.mono _ _ _
      | exact peneloperef16_Free.mono _ _ _ _
      | exact peneloperef16_Order.mono _ _ _
      | exact peneloperef16_Right.mono _ _ _
      | exact peneloperef16_SameInts.mono _ _ _
      | exact LeO.none _
      | refine LeO.ite ?_ ?_
      | refine LeO.bind ?_ (fun _ => ?_)
set_option maxHeartbeats 8000000 in
set_option maxRecDepth 100000 in
theorem penelopelaw16_DagRights.calls (k : Nat) (a0_0 : ByteArray) (A0_1 : Option Addr) (c0_1 : Nat) (l0_1 : List (S39)) (A1 : Option Addr) (c1 : Nat) (l1 : List Bool) (r : Bool) (w : World) (hr0_1 : Kd.C k39 w A0_1 l0_1.length l0_1) (hc0_1 : l0_1.length ≤ c0_1) (hr1 : Kd.C Kd.bool w A1 l1.length l1) (hc1 : l1.length ≤ c1) (h : penelopelaw16_DagRights.f k a0_0 l0_1 l1 = some r) :
    Calls Try.prog 3 #[.agg #[.string a0_0, .slice A0_1 l0_1.length c0_1], .slice A1 l1.length c1] w fun e w' => e = .returned (.bool r) ∧ Below w.heap.size w w' := by
  have hu24 := Try.underlying24
  have HR0_1 := Aside0.mk hr0_1
  have HC0_1 := Aside0.mk hc0_1
  clear hr0_1 hc0_1
  have HR1 := Aside0.mk hr1
  have HC1 := Aside0.mk hc1
  clear hr1 hc1
  have HB := Aside0.mk (Below.refl w.heap.size w)
  have H : ((penelopelaw16_few.f k a0_0 l0_1).bind fun bt190 => ((peneloperef16_Right.f k bt190.1 bt190.2).bind fun t194 => ((dag_Order.f k bt190.1 bt190.2).bind fun bt195 => ((dag_Free.f k bt190.1 bt190.2 l1).bind fun bt199 => ((dag_Right.f k bt190.1 bt190.2).bind fun t203 => (if t203 = t194 then (if bt195.2 = t194 then ((penelopelaw16_alive.f k).bind fun t204 => (penelopelaw16_DagRights.j0 k l1 t194 bt195.1 bt199.1 bt199.2 (!t204) bt190.1 bt190.2)) else (penelopelaw16_DagRights.j0 k l1 t194 bt195.1 bt199.1 bt199.2 true bt190.1 bt190.2)) else (penelopelaw16_DagRights.j0 k l1 t194 bt195.1 bt199.1 bt199.2 true bt190.1 bt190.2))))))) = some r := h
  clear h
  replace H := Option.bind_eq_some_iff.mp H
  obtain ⟨⟨t190, t191⟩, A30, H⟩ := H
  replace H : ((peneloperef16_Right.f k t190 t191).bind fun t194 => ((dag_Order.f k t190 t191).bind fun bt195 => ((dag_Free.f k t190 t191 l1).bind fun bt199 => ((dag_Right.f k t190 t191).bind fun t203 => (if t203 = t194 then (if bt195.2 = t194 then ((penelopelaw16_alive.f k).bind fun t204 => (penelopelaw16_DagRights.j0 k l1 t194 bt195.1 bt199.1 bt199.2 (!t204) t190 t191)) else (penelopelaw16_DagRights.j0 k l1 t194 bt195.1 bt199.1 bt199.2 true t190 t191)) else (penelopelaw16_DagRights.j0 k l1 t194 bt195.1 bt199.1 bt199.2 true t190 t191)))))) = some r := H
  have A3 := Aside0.mk A30
  clear A30
  replace H := Option.bind_eq_some_iff.mp H
  obtain ⟨t194, A40, H⟩ := H
  replace H : ((dag_Order.f k t190 t191).bind fun bt195 => ((dag_Free.f k t190 t191 l1).bind fun bt199 => ((dag_Right.f k t190 t191).bind fun t203 => (if t203 = t194 then (if bt195.2 = t194 then ((penelopelaw16_alive.f k).bind fun t204 => (penelopelaw16_DagRights.j0 k l1 t194 bt195.1 bt199.1 bt199.2 (!t204) t190 t191)) else (penelopelaw16_DagRights.j0 k l1 t194 bt195.1 bt199.1 bt199.2 true t190 t191)) else (penelopelaw16_DagRights.j0 k l1 t194 bt195.1 bt199.1 bt199.2 true t190 t191))))) = some r := H
  have A4 := Aside0.mk A40
  clear A40
  replace H := Option.bind_eq_some_iff.mp H
  obtain ⟨⟨t195, t198⟩, A50, H⟩ := H
  replace H : ((dag_Free.f k t190 t191 l1).bind fun bt199 => ((dag_Right.f k t190 t191).bind fun t203 => (if t203 = t194 then (if t198 = t194 then ((penelopelaw16_alive.f k).bind fun t204 => (penelopelaw16_DagRights.j0 k l1 t194 t195 bt199.1 bt199.2 (!t204) t190 t191)) else (penelopelaw16_DagRights.j0 k l1 t194 t195 bt199.1 bt199.2 true t190 t191)) else (penelopelaw16_DagRights.j0 k l1 t194 t195 bt199.1 bt199.2 true t190 t191)))) = some r := H
  have A5 := Aside0.mk A50
  clear A50
  replace H := Option.bind_eq_some_iff.mp H
  obtain ⟨⟨t199, t202⟩, A60, H⟩ := H
  replace H : ((dag_Right.f k t190 t191).bind fun t203 => (if t203 = t194 then (if t198 = t194 then ((penelopelaw16_alive.f k).bind fun t204 => (penelopelaw16_DagRights.j0 k l1 t194 t195 t199 t202 (!t204) t190 t191)) else (penelopelaw16_DagRights.j0 k l1 t194 t195 t199 t202 true t190 t191)) else (penelopelaw16_DagRights.j0 k l1 t194 t195 t199 t202 true t190 t191))) = some r := H
  have A6 := Aside0.mk A60
  clear A60
  have HC7 := Aside0.mk H
  clear H
  go_enter Try.func3, Try.ntmps3
  go_upto_region 5 with (first | ((with_reducible refine gate_dst (N := 2) rfl ?_); (try (refine gate_guard (by rfl) ?_; dsimp only)); refine box_event ?hg (N := 2) ?hd (cs := #[.string a0_0, .slice A0_1 l0_1.length c0_1]) (t := 24) ?hr ?_; (case hd => rfl); (case hg => rfl); (case hr => first | (go_simp; done) | (go_simp; rfl)); intro gb189 hg w8 hbox hb; have n0_ := Aside0.mk (below_step (by repeat (first | (with_reducible first | exact HB.out | apply below_alloc | apply pw_below_drewN | apply below_drew1) | exact HB.out)) hb); have n1_ := Aside0.mk (hbox); have n2_ := Aside0.mk ((by rw [hg]; exact (below_size (by repeat (first | (with_reducible first | exact HB.out | apply below_alloc | apply pw_below_drewN | apply below_drew1) | exact HB.out))) : w.heap.size ≤ gb189)); have n3_ := Aside0.mk ((by rw [hg]; exact (below_size (by repeat (first | (with_reducible first | exact HB.out | apply below_alloc | apply pw_below_drewN | apply below_drew1) | exact HB.out))) : w.heap.size ≤ gb189)); clear HB; have HB := n0_; have BK189 := n1_; have GW189 := n2_; have GE189 := n3_; clear n0_ n1_ n2_ n3_; clear hb hbox hg; have hcz9_0 : w8.cell? ⟨gb189, 0, none⟩ = some (.string a0_0) := (blk_cell BK189.out 0).trans rfl; have hcz9_1 : w8.cell? ⟨gb189, 1, none⟩ = some (.slice A0_1 l0_1.length c0_1) := (blk_cell BK189.out 1).trans rfl; have hfz9_0 := blk_frozen BK189.out 0; have hfz9_1 := blk_frozen BK189.out 1) | ((with_reducible refine gate_callee (f := 8) rfl ?_); refine goesL_ (some 11) rfl rfl Try.func8 (by kernel_rfl) rfl #[.agg #[.string a0_0, .slice A0_1 l0_1.length c0_1]] rfl (by (try simp only [List.map_toArray, List.map_cons, List.map_nil]); first | done | rfl | (simp only [List.length_drop, List.length_take]; rfl)) ?_; (with_reducible refine (penelopelaw16_few.calls k a0_0 _ _ l0_1 t190 t191 gb189 w _ ?side1 ?hw_ ?hq1_ ?hq2_ ?side2 A3.out).mono ?_); (case side1 => exact HR0_1.out); (case hw_ => exact (by repeat (first | (with_reducible first | exact HB.out | apply below_alloc | apply pw_below_drewN | apply below_drew1 | refine below_set ?_ GE189.out) | exact HB.out))); (case hq1_ => exact GE189.out); (case hq2_ => exact blk_lt (by (with_reducible repeat (first | refine blk_drewN ?_ _ | refine blk_drew ?_ | refine blk_alloc ?_ _)); exact BK189.out)); (case side2 => exact HC0_1.out); rintro e w10 ⟨v192, rfl, ho0, hb⟩; refine ⟨_, rfl, ?_⟩; have n0_ := Aside0.mk (Kd.N_lower ho0 (below_size (by repeat (first | (with_reducible first | exact HB.out | apply below_alloc | apply pw_below_drewN | apply below_drew1 | refine below_set ?_ GE189.out) | exact HB.out)))); have n1_ := Aside0.mk (blk_below (g := gb189) (o := .cells #[.string a0_0, .slice A0_1 l0_1.length c0_1] 24 (0, 0)) (by (with_reducible repeat (first | refine blk_drewN ?_ _ | refine blk_drew ?_ | refine blk_alloc ?_ _)); exact BK189.out) hb); have n2_ := Aside0.mk (below_step (by repeat (first | (with_reducible first | exact HB.out | apply below_alloc | apply pw_below_drewN | apply below_drew1 | refine below_set ?_ GE189.out) | exact HB.out)) hb); clear BK189; clear HB; have HO193 := n0_; have BK189 := n1_; have HB := n2_; clear n0_ n1_ n2_; (try clear hb); (try clear hb2); (try clear hk); (try clear hi); (try clear ho0); have hcz11_0 : w10.cell? ⟨gb189, 0, none⟩ = some (.string a0_0) := (blk_cell BK189.out 0).trans rfl; have hcz11_1 : w10.cell? ⟨gb189, 1, none⟩ = some (.slice A0_1 l0_1.length c0_1) := (blk_cell BK189.out 1).trans rfl; have hfz11_0 := blk_frozen BK189.out 0; have hfz11_1 := blk_frozen BK189.out 1; obtain ⟨Ao12, co12, eo12⟩ := Kd.N_slice HO193.out; subst eo12) | ((with_reducible refine gate_callee (f := 9) rfl ?_); refine goesL_ (some 13) rfl rfl Try.func9 (by kernel_rfl) rfl #[.agg #[.string t190, .slice Ao12 t191.length co12]] rfl (by (try simp only [List.map_toArray, List.map_cons, List.map_nil]); first | done | rfl | (simp only [List.length_drop, List.length_take]; rfl)) ?_; (with_reducible refine (peneloperef16_Right.calls k t190 _ _ t191 t194 _ ?side1 ?side2 A4.out).mono ?_); (case side1 => refine (Kd.N_reads' (e := 39) (base := w.heap.size) (ok := fun k_ => k_ ≠ gb189) (n := t191.length) (c := co12) ?_).2.2; exact (by (with_reducible repeat (first | apply Kd.N_alloc | apply Kd.N_drewN | apply Kd.N_drew)); exact (Kd.N_mono (Kd.N_far (p := ⟨gb189, 1, none⟩) (Kd.N_far (p := ⟨gb189, 0, none⟩) HO193.out (fun _ hk => hk) (.string t190)) (fun _ hk => hk) (.slice Ao12 t191.length co12)) (fun _ h_ => h_)))); (case side2 => exact (Kd.N_reads' HO193.out).2.1); rintro e w13 ⟨rfl, hb⟩; refine ⟨_, rfl, ?_⟩; have n0_ := Aside0.mk (Kd.N_below (by (with_reducible repeat (first | apply Kd.N_alloc | apply Kd.N_drewN | apply Kd.N_drew)); exact (Kd.N_mono (Kd.N_far (p := ⟨gb189, 1, none⟩) (Kd.N_far (p := ⟨gb189, 0, none⟩) HO193.out (fun _ hk => hk) (.string t190)) (fun _ hk => hk) (.slice Ao12 t191.length co12)) (fun _ h_ => h_))) hb); have n1_ := Aside0.mk (blk_below (g := gb189) (o := .cells #[.string t190, .slice Ao12 t191.length co12] 24 (0, 0)) (by (with_reducible repeat (first | refine blk_drewN ?_ _ | refine blk_drew ?_ | refine blk_alloc ?_ _)); refine blk_put (cs := #[.string t190, .slice A0_1 l0_1.length c0_1]) ?_ 1 _ rfl; (with_reducible repeat (first | refine blk_drewN ?_ _ | refine blk_drew ?_ | refine blk_alloc ?_ _)); refine blk_put (cs := #[.string a0_0, .slice A0_1 l0_1.length c0_1]) ?_ 0 _ rfl; (with_reducible repeat (first | refine blk_drewN ?_ _ | refine blk_drew ?_ | refine blk_alloc ?_ _)); exact BK189.out) hb); have n2_ := Aside0.mk (below_step (by repeat (first | (with_reducible first | exact HB.out | apply below_alloc | apply pw_below_drewN | apply below_drew1 | refine below_set ?_ GE189.out) | exact HB.out)) hb); clear HO193; clear BK189; clear HB; have HO193 := n0_; have BK189 := n1_; have HB := n2_; clear n0_ n1_ n2_; (try clear hb); (try clear hb2); (try clear hk); (try clear hi); have hcz14_0 : w13.cell? ⟨gb189, 0, none⟩ = some (.string t190) := (blk_cell BK189.out 0).trans rfl; have hcz14_1 : w13.cell? ⟨gb189, 1, none⟩ = some (.slice Ao12 t191.length co12) := (blk_cell BK189.out 1).trans rfl; have hfz14_0 := blk_frozen BK189.out 0; have hfz14_1 := blk_frozen BK189.out 1) | ((with_reducible refine gate_callee (f := 10) rfl ?_); refine goesL_ (some 16) rfl rfl Try.func10 (by kernel_rfl) rfl #[.agg #[.string t190, .slice Ao12 t191.length co12]] rfl (by (try simp only [List.map_toArray, List.map_cons, List.map_nil]); first | done | rfl | (simp only [List.length_drop, List.length_take]; rfl)) ?_; (with_reducible refine (dag_Order.calls k t190 _ _ t191 t195 t198 _ ?side1 ?side2 A5.out).mono ?_); (case side1 => repeat (first | exact (Kd.N_reads' HO193.out).2.2 | (with_reducible refine Kd.C_alloc ?_ _) | (with_reducible refine Kd.C_drewN ?_ _) | (with_reducible refine Kd.C_drew ?_))); (case side2 => exact (Kd.N_reads' HO193.out).2.1); rintro e w15 ⟨v196, rfl, ho0, hb⟩; refine ⟨_, rfl, ?_⟩; have n0_ := Aside0.mk (Kd.N_elder' (by (with_reducible repeat (first | apply Kd.N_alloc | apply Kd.N_drewN | apply Kd.N_drew)); exact HO193.out) (Kd.R_base ho0) hb); have n1_ := Aside0.mk (Kd.R_lower ho0 (below_size (by repeat (first | (with_reducible first | exact HB.out | apply below_alloc | apply pw_below_drewN | apply below_drew1 | refine below_set ?_ GE189.out) | exact HB.out)))); have n2_ := Aside0.mk (blk_below (g := gb189) (o := .cells #[.string t190, .slice Ao12 t191.length co12] 24 (0, 0)) (by (with_reducible repeat (first | refine blk_drewN ?_ _ | refine blk_drew ?_ | refine blk_alloc ?_ _)); exact BK189.out) hb); have n3_ := Aside0.mk (below_step (by repeat (first | (with_reducible first | exact HB.out | apply below_alloc | apply pw_below_drewN | apply below_drew1 | refine below_set ?_ GE189.out) | exact HB.out)) hb); clear HO193; clear BK189; clear HB; have HO193 := n0_; have HO197 := n1_; have BK189 := n2_; have HB := n3_; clear n0_ n1_ n2_ n3_; (try clear hb); (try clear hb2); (try clear hk); (try clear hi); (try clear ho0); have hcz16_0 : w15.cell? ⟨gb189, 0, none⟩ = some (.string t190) := (blk_cell BK189.out 0).trans rfl; have hcz16_1 : w15.cell? ⟨gb189, 1, none⟩ = some (.slice Ao12 t191.length co12) := (blk_cell BK189.out 1).trans rfl; have hfz16_0 := blk_frozen BK189.out 0; have hfz16_1 := blk_frozen BK189.out 1) | ((with_reducible refine gate_callee (f := 11) rfl ?_); refine goesL_ (some 22) rfl rfl Try.func11 (by kernel_rfl) rfl #[.agg #[.string t190, .slice Ao12 t191.length co12], .slice A1 l1.length c1] rfl (by (try simp only [List.map_toArray, List.map_cons, List.map_nil]); first | done | rfl | (simp only [List.length_drop, List.length_take]; rfl)) ?_; (with_reducible refine (dag_Free.calls k t190 _ _ t191 _ _ l1 t199 t202 _ ?side1 ?side2 ?side3 ?side4 A6.out).mono ?_); (case side1 => repeat (first | exact (Kd.N_reads' HO193.out).2.2 | (with_reducible refine Kd.C_alloc ?_ _) | (with_reducible refine Kd.C_drewN ?_ _) | (with_reducible refine Kd.C_drew ?_))); (case side2 => exact (Kd.N_reads' HO193.out).2.1); (case side3 => repeat (first | exact (Kd.C_below HR1.out HB.out) | (with_reducible refine Kd.C_alloc ?_ _) | (with_reducible refine Kd.C_drewN ?_ _) | (with_reducible refine Kd.C_drew ?_))); (case side4 => exact HC1.out); rintro e w17 ⟨v200, rfl, ho0, hb⟩; refine ⟨_, rfl, ?_⟩; have n0_ := Aside0.mk (Kd.N_elder' (by (with_reducible repeat (first | apply Kd.N_alloc | apply Kd.N_drewN | apply Kd.N_drew)); exact HO193.out) (Kd.R_base ho0) hb); have n1_ := Aside0.mk (Kd.R_elder' (by (with_reducible repeat (first | apply Kd.R_alloc | apply Kd.R_drewN | apply Kd.R_drew)); exact HO197.out) (Kd.R_base ho0) hb); have n2_ := Aside0.mk (Kd.R_lower (Kd.R_new' ho0 (Kd.R_lt (by (with_reducible repeat (first | apply Kd.R_alloc | apply Kd.R_drewN | apply Kd.R_drew)); exact HO197.out))) (below_size (by repeat (first | (with_reducible first | exact HB.out | apply below_alloc | apply pw_below_drewN | apply below_drew1 | refine below_set ?_ GE189.out) | exact HB.out)))); have n3_ := Aside0.mk (blk_below (g := gb189) (o := .cells #[.string t190, .slice Ao12 t191.length co12] 24 (0, 0)) (by (with_reducible repeat (first | refine blk_drewN ?_ _ | refine blk_drew ?_ | refine blk_alloc ?_ _)); exact BK189.out) hb); have n4_ := Aside0.mk (below_step (by repeat (first | (with_reducible first | exact HB.out | apply below_alloc | apply pw_below_drewN | apply below_drew1 | refine below_set ?_ GE189.out) | exact HB.out)) hb); clear HO193; clear HO197; clear BK189; clear HB; have HO193 := n0_; have HO197 := n1_; have HO201 := n2_; have BK189 := n3_; have HB := n4_; clear n0_ n1_ n2_ n3_ n4_; (try clear hb); (try clear hb2); (try clear hk); (try clear hi); (try clear ho0)))
  (try simp only [Act.put, List.setIfInBounds_toArray, List.set_cons_zero, List.set_cons_succ])
  go_cut [37] (fun v37 wc => ∃ (kq : Nat) (x37_6 : Bool), v37 = .bool x37_6 ∧ Aside0 (penelopelaw16_DagRights.j0 kq l1 t194 t195 t199 t202 x37_6 t190 t191 = some r) ∧ Aside0 (kq ≤ k) ∧ Aside0 (Kd.R (Kd.int .i64) 3 wc w.heap.size (fun k_ => some k_ ≠ (v200 : Value).ownBlock) v196 t195) ∧ Aside0 (Kd.R (Kd.int .i64) 3 wc w.heap.size (fun k_ => some k_ ≠ (v196 : Value).ownBlock) v200 t199) ∧ Aside0 (Kd.N k39 39 wc w.heap.size (fun k_ => k_ ≠ gb189 ∧ some k_ ≠ (v196 : Value).ownBlock ∧ some k_ ≠ (v200 : Value).ownBlock) (.slice Ao12 t191.length co12) t191) ∧ Aside0 (wc.heap[gb189]? = some (.cells #[.string t190, (.slice Ao12 t191.length co12)] 24 (0, 0))) ∧ Aside0 (Below w.heap.size w wc))
  case first =>
    have H := HC7.out
    clear HC7
    replace H := Option.bind_eq_some_iff.mp H
    obtain ⟨t203, A180, H⟩ := H
    replace H : (if t203 = t194 then (if t198 = t194 then ((penelopelaw16_alive.f k).bind fun t204 => (penelopelaw16_DagRights.j0 k l1 t194 t195 t199 t202 (!t204) t190 t191)) else (penelopelaw16_DagRights.j0 k l1 t194 t195 t199 t202 true t190 t191)) else (penelopelaw16_DagRights.j0 k l1 t194 t195 t199 t202 true t190 t191)) = some r := H
    have A18 := Aside0.mk A180
    clear A180
    by_cases c19 : t203 = t194
    · rw [if_pos c19] at H
      have c19b0 : (t203 == t194) = true := beq_iff_eq.mpr c19
      have c19b1 : (t203 != t194) = false := bne_eq_false_iff_eq.mpr c19
      clear c19
      (first | rw [c19b0] | (simp only [i64_w, i32_w]; rw [c19b0]) | skip)
      by_cases c20 : t198 = t194
      · rw [if_pos c20] at H
        have c20b0 : (t198 == t194) = true := beq_iff_eq.mpr c20
        have c20b1 : (t198 != t194) = false := bne_eq_false_iff_eq.mpr c20
        clear c20
        replace H := Option.bind_eq_some_iff.mp H
        obtain ⟨t204, A210, H⟩ := H
        replace H : (penelopelaw16_DagRights.j0 k l1 t194 t195 t199 t202 (!t204) t190 t191) = some r := H
        have A21 := Aside0.mk A210
        clear A210
        have H' := Aside0.mk H
        clear H
        have hcz22_0 : w17.cell? ⟨gb189, 0, none⟩ = some (.string t190) := (blk_cell BK189.out 0).trans rfl
        have hcz22_1 : w17.cell? ⟨gb189, 1, none⟩ = some (.slice Ao12 t191.length co12) := (blk_cell BK189.out 1).trans rfl
        have hfz22_0 := blk_frozen BK189.out 0
        have hfz22_1 := blk_frozen BK189.out 1
        go_wp2_with (first | ((with_reducible refine gate_callee (f := 12) rfl ?_); refine goesL_ (some 26) rfl rfl Try.func12 (by kernel_rfl) rfl #[.agg #[.string t190, .slice Ao12 t191.length co12]] rfl (by (try simp only [List.map_toArray, List.map_cons, List.map_nil]); first | done | rfl | (simp only [List.length_drop, List.length_take]; rfl)) ?_; (with_reducible refine (dag_Right.calls k t190 _ _ t191 t203 _ ?side1 ?side2 A18.out).mono ?_); (case side1 => repeat (first | exact (Kd.N_reads' HO193.out).2.2 | (with_reducible refine Kd.C_alloc ?_ _) | (with_reducible refine Kd.C_drewN ?_ _) | (with_reducible refine Kd.C_drew ?_))); (case side2 => exact (Kd.N_reads' HO193.out).2.1); rintro e w23 ⟨rfl, hb⟩; refine ⟨_, rfl, ?_⟩; have n0_ := Aside0.mk (Kd.N_below (by (with_reducible repeat (first | apply Kd.N_alloc | apply Kd.N_drewN | apply Kd.N_drew)); exact HO193.out) hb); have n1_ := Aside0.mk (Kd.R_below (by (with_reducible repeat (first | apply Kd.R_alloc | apply Kd.R_drewN | apply Kd.R_drew)); exact HO197.out) hb); have n2_ := Aside0.mk (Kd.R_below (by (with_reducible repeat (first | apply Kd.R_alloc | apply Kd.R_drewN | apply Kd.R_drew)); exact HO201.out) hb); have n3_ := Aside0.mk (blk_below (g := gb189) (o := .cells #[.string t190, .slice Ao12 t191.length co12] 24 (0, 0)) (by (with_reducible repeat (first | refine blk_drewN ?_ _ | refine blk_drew ?_ | refine blk_alloc ?_ _)); exact BK189.out) hb); have n4_ := Aside0.mk (below_step (by repeat (first | (with_reducible first | exact HB.out | apply below_alloc | apply pw_below_drewN | apply below_drew1 | refine below_set ?_ GE189.out) | exact HB.out)) hb); clear HO193; clear HO197; clear HO201; clear BK189; clear HB; have HO193 := n0_; have HO197 := n1_; have HO201 := n2_; have BK189 := n3_; have HB := n4_; clear n0_ n1_ n2_ n3_ n4_; (try clear hb); (try clear hb2); (try clear hk); (try clear hi)) | (go_at_call 13; (with_reducible refine (penelopelaw16_alive.calls k  t204 _ A21.out).mono ?_); rintro e w24 ⟨rfl, hb⟩; have n0_ := Aside0.mk (Kd.N_below (by (with_reducible repeat (first | apply Kd.N_alloc | apply Kd.N_drewN | apply Kd.N_drew)); exact HO193.out) hb); have n1_ := Aside0.mk (Kd.R_below (by (with_reducible repeat (first | apply Kd.R_alloc | apply Kd.R_drewN | apply Kd.R_drew)); exact HO197.out) hb); have n2_ := Aside0.mk (Kd.R_below (by (with_reducible repeat (first | apply Kd.R_alloc | apply Kd.R_drewN | apply Kd.R_drew)); exact HO201.out) hb); have n3_ := Aside0.mk (blk_below (g := gb189) (o := .cells #[.string t190, .slice Ao12 t191.length co12] 24 (0, 0)) (by (with_reducible repeat (first | refine blk_drewN ?_ _ | refine blk_drew ?_ | refine blk_alloc ?_ _)); exact BK189.out) hb); have n4_ := Aside0.mk (below_step (by repeat (first | (with_reducible first | exact HB.out | apply below_alloc | apply pw_below_drewN | apply below_drew1 | refine below_set ?_ GE189.out) | exact HB.out)) hb); clear HO193; clear HO197; clear HO201; clear BK189; clear HB; have HO193 := n0_; have HO197 := n1_; have HO201 := n2_; have BK189 := n3_; have HB := n4_; clear n0_ n1_ n2_ n3_ n4_; (try clear hb); (try clear hb2); (try clear hk); (try clear hi)))
        go_meet
        case rel => exact ⟨_, (!t204), (by first | rfl | (simp; done) | (simp [*]; done)), H', ⟨by first | omega | exact Nat.le_refl _⟩, ⟨by (with_reducible repeat (first | apply Kd.R_alloc | apply Kd.R_drewN | apply Kd.R_drew)); exact Kd.R_mono HO197.out (fun _ hk => hk.2)⟩, ⟨by (with_reducible repeat (first | apply Kd.R_alloc | apply Kd.R_drewN | apply Kd.R_drew)); exact Kd.R_mono HO201.out (fun _ hk => hk.2)⟩, ⟨by (with_reducible repeat (first | apply Kd.N_alloc | apply Kd.N_drewN | apply Kd.N_drew)); exact Kd.N_mono HO193.out (fun _ hk => ⟨hk.1.1, hk.1.2, hk.2⟩)⟩, ⟨by (with_reducible repeat (first | refine blk_drewN ?_ _ | refine blk_drew ?_ | refine blk_alloc ?_ _)); exact BK189.out⟩, ⟨by repeat (first | (with_reducible first | exact HB.out | apply below_alloc | apply pw_below_drewN | apply below_drew1 | refine below_set ?_ GE189.out) | exact HB.out)⟩⟩
      · rw [if_neg c20] at H
        have c20b0 : (t198 == t194) = false := beq_eq_false_iff_ne.mpr c20
        have c20b1 : (t198 != t194) = true := bne_iff_ne.mpr c20
        have H' := Aside0.mk H
        clear H
        have hcz25_0 : w17.cell? ⟨gb189, 0, none⟩ = some (.string t190) := (blk_cell BK189.out 0).trans rfl
        have hcz25_1 : w17.cell? ⟨gb189, 1, none⟩ = some (.slice Ao12 t191.length co12) := (blk_cell BK189.out 1).trans rfl
        have hfz25_0 := blk_frozen BK189.out 0
        have hfz25_1 := blk_frozen BK189.out 1
        go_wp2_with (first | ((with_reducible refine gate_callee (f := 12) rfl ?_); refine goesL_ (some 26) rfl rfl Try.func12 (by kernel_rfl) rfl #[.agg #[.string t190, .slice Ao12 t191.length co12]] rfl (by (try simp only [List.map_toArray, List.map_cons, List.map_nil]); first | done | rfl | (simp only [List.length_drop, List.length_take]; rfl)) ?_; (with_reducible refine (dag_Right.calls k t190 _ _ t191 t203 _ ?side1 ?side2 A18.out).mono ?_); (case side1 => repeat (first | exact (Kd.N_reads' HO193.out).2.2 | (with_reducible refine Kd.C_alloc ?_ _) | (with_reducible refine Kd.C_drewN ?_ _) | (with_reducible refine Kd.C_drew ?_))); (case side2 => exact (Kd.N_reads' HO193.out).2.1); rintro e w26 ⟨rfl, hb⟩; refine ⟨_, rfl, ?_⟩; have n0_ := Aside0.mk (Kd.N_below (by (with_reducible repeat (first | apply Kd.N_alloc | apply Kd.N_drewN | apply Kd.N_drew)); exact HO193.out) hb); have n1_ := Aside0.mk (Kd.R_below (by (with_reducible repeat (first | apply Kd.R_alloc | apply Kd.R_drewN | apply Kd.R_drew)); exact HO197.out) hb); have n2_ := Aside0.mk (Kd.R_below (by (with_reducible repeat (first | apply Kd.R_alloc | apply Kd.R_drewN | apply Kd.R_drew)); exact HO201.out) hb); have n3_ := Aside0.mk (blk_below (g := gb189) (o := .cells #[.string t190, .slice Ao12 t191.length co12] 24 (0, 0)) (by (with_reducible repeat (first | refine blk_drewN ?_ _ | refine blk_drew ?_ | refine blk_alloc ?_ _)); exact BK189.out) hb); have n4_ := Aside0.mk (below_step (by repeat (first | (with_reducible first | exact HB.out | apply below_alloc | apply pw_below_drewN | apply below_drew1 | refine below_set ?_ GE189.out) | exact HB.out)) hb); clear HO193; clear HO197; clear HO201; clear BK189; clear HB; have HO193 := n0_; have HO197 := n1_; have HO201 := n2_; have BK189 := n3_; have HB := n4_; clear n0_ n1_ n2_ n3_ n4_; (try clear hb); (try clear hb2); (try clear hk); (try clear hi)))
        go_meet
        case rel => exact ⟨_, (true), (by first | rfl | (simp; done) | (simp [*]; done)), H', ⟨by first | omega | exact Nat.le_refl _⟩, ⟨by (with_reducible repeat (first | apply Kd.R_alloc | apply Kd.R_drewN | apply Kd.R_drew)); exact Kd.R_mono HO197.out (fun _ hk => hk.2)⟩, ⟨by (with_reducible repeat (first | apply Kd.R_alloc | apply Kd.R_drewN | apply Kd.R_drew)); exact Kd.R_mono HO201.out (fun _ hk => hk.2)⟩, ⟨by (with_reducible repeat (first | apply Kd.N_alloc | apply Kd.N_drewN | apply Kd.N_drew)); exact Kd.N_mono HO193.out (fun _ hk => ⟨hk.1.1, hk.1.2, hk.2⟩)⟩, ⟨by (with_reducible repeat (first | refine blk_drewN ?_ _ | refine blk_drew ?_ | refine blk_alloc ?_ _)); exact BK189.out⟩, ⟨by repeat (first | (with_reducible first | exact HB.out | apply below_alloc | apply pw_below_drewN | apply below_drew1 | refine below_set ?_ GE189.out) | exact HB.out)⟩⟩
    · rw [if_neg c19] at H
      have c19b0 : (t203 == t194) = false := beq_eq_false_iff_ne.mpr c19
      have c19b1 : (t203 != t194) = true := bne_iff_ne.mpr c19
      (first | rw [c19b0] | (simp only [i64_w, i32_w]; rw [c19b0]) | skip)
      have H' := Aside0.mk H
      clear H
      have hcz27_0 : w17.cell? ⟨gb189, 0, none⟩ = some (.string t190) := (blk_cell BK189.out 0).trans rfl
      have hcz27_1 : w17.cell? ⟨gb189, 1, none⟩ = some (.slice Ao12 t191.length co12) := (blk_cell BK189.out 1).trans rfl
      have hfz27_0 := blk_frozen BK189.out 0
      have hfz27_1 := blk_frozen BK189.out 1
      go_wp2_with (first | ((with_reducible refine gate_callee (f := 12) rfl ?_); refine goesL_ (some 26) rfl rfl Try.func12 (by kernel_rfl) rfl #[.agg #[.string t190, .slice Ao12 t191.length co12]] rfl (by (try simp only [List.map_toArray, List.map_cons, List.map_nil]); first | done | rfl | (simp only [List.length_drop, List.length_take]; rfl)) ?_; (with_reducible refine (dag_Right.calls k t190 _ _ t191 t203 _ ?side1 ?side2 A18.out).mono ?_); (case side1 => repeat (first | exact (Kd.N_reads' HO193.out).2.2 | (with_reducible refine Kd.C_alloc ?_ _) | (with_reducible refine Kd.C_drewN ?_ _) | (with_reducible refine Kd.C_drew ?_))); (case side2 => exact (Kd.N_reads' HO193.out).2.1); rintro e w28 ⟨rfl, hb⟩; refine ⟨_, rfl, ?_⟩; have n0_ := Aside0.mk (Kd.N_below (by (with_reducible repeat (first | apply Kd.N_alloc | apply Kd.N_drewN | apply Kd.N_drew)); exact HO193.out) hb); have n1_ := Aside0.mk (Kd.R_below (by (with_reducible repeat (first | apply Kd.R_alloc | apply Kd.R_drewN | apply Kd.R_drew)); exact HO197.out) hb); have n2_ := Aside0.mk (Kd.R_below (by (with_reducible repeat (first | apply Kd.R_alloc | apply Kd.R_drewN | apply Kd.R_drew)); exact HO201.out) hb); have n3_ := Aside0.mk (blk_below (g := gb189) (o := .cells #[.string t190, .slice Ao12 t191.length co12] 24 (0, 0)) (by (with_reducible repeat (first | refine blk_drewN ?_ _ | refine blk_drew ?_ | refine blk_alloc ?_ _)); exact BK189.out) hb); have n4_ := Aside0.mk (below_step (by repeat (first | (with_reducible first | exact HB.out | apply below_alloc | apply pw_below_drewN | apply below_drew1 | refine below_set ?_ GE189.out) | exact HB.out)) hb); clear HO193; clear HO197; clear HO201; clear BK189; clear HB; have HO193 := n0_; have HO197 := n1_; have HO201 := n2_; have BK189 := n3_; have HB := n4_; clear n0_ n1_ n2_ n3_ n4_; (try clear hb); (try clear hb2); (try clear hk); (try clear hi)))
      go_meet
      case rel => exact ⟨_, (true), (by first | rfl | (simp; done) | (simp [*]; done)), H', ⟨by first | omega | exact Nat.le_refl _⟩, ⟨by (with_reducible repeat (first | apply Kd.R_alloc | apply Kd.R_drewN | apply Kd.R_drew)); exact Kd.R_mono HO197.out (fun _ hk => hk.2)⟩, ⟨by (with_reducible repeat (first | apply Kd.R_alloc | apply Kd.R_drewN | apply Kd.R_drew)); exact Kd.R_mono HO201.out (fun _ hk => hk.2)⟩, ⟨by (with_reducible repeat (first | apply Kd.N_alloc | apply Kd.N_drewN | apply Kd.N_drew)); exact Kd.N_mono HO193.out (fun _ hk => ⟨hk.1.1, hk.1.2, hk.2⟩)⟩, ⟨by (with_reducible repeat (first | refine blk_drewN ?_ _ | refine blk_drew ?_ | refine blk_alloc ?_ _)); exact BK189.out⟩, ⟨by repeat (first | (with_reducible first | exact HB.out | apply below_alloc | apply pw_below_drewN | apply below_drew1 | refine below_set ?_ GE189.out) | exact HB.out)⟩⟩
  case rest =>
    clear HC7
    try clear c1
    try clear c2
    try clear p2
    try clear c3
    try clear c8
    try clear c9
    try clear c10
    try clear c11
    try clear c12
    try clear c19
    try clear c19b0
    try clear c19b1
    try clear c20
    try clear c20b0
    try clear c20b1
    try clear hcz11_0
    try clear hcz11_1
    try clear hcz14_0
    try clear hcz14_1
    try clear hcz16_0
    try clear hcz16_1
    try clear hcz22_0
    try clear hcz22_1
    try clear hcz25_0
    try clear hcz25_1
    try clear hcz27_0
    try clear hcz27_1
    try clear hcz9_0
    try clear hcz9_1
    try clear hfz11_0
    try clear hfz11_1
    try clear hfz14_0
    try clear hfz14_1
    try clear hfz16_0
    try clear hfz16_1
    try clear hfz22_0
    try clear hfz22_1
    try clear hfz25_0
    try clear hfz25_1
    try clear hfz27_0
    try clear hfz27_1
    try clear hfz9_0
    try clear hfz9_1
    obtain ⟨kq, x37_6, rfl, HA, HJ6, HO_6, HO_8, HO_190001, BK189, HB⟩ := hcut
    cases kq with
    | zero => exact absurd HA.out (by simp [penelopelaw16_DagRights.j0])
    | succ kj6 =>
      have H := HA.out
      clear HA
      simp only [penelopelaw16_DagRights.j0] at H
      by_cases c29 : x37_6 = true
      · subst c29
        have H1 : (none) = some r := by rw [if_pos rfl] at H; exact H
        clear H
        have H := H1
        clear H1
        exact absurd H (by simp)
      · replace c29 := Bool.eq_false_iff.mpr c29
        subst c29
        have H1 : (if t194 = 0 then ((peneloperef16_Order.f kj6 t190 t191).bind fun t205 => ((peneloperef16_SameInts.f kj6 t195 t205).bind fun t208 => (if t208 = true then (if (l1.length : Int) = (t191.length : Int) then (if t202 = 0 then ((peneloperef16_Free.f kj6 t190 t191 l1).bind fun t209 => ((peneloperef16_SameInts.f kj6 t199 t209).bind fun t212 => (some t212))) else (none)) else (if t202 = 1 then (some ((t199.length : Int) == 0)) else (none))) else (none)))) else (if t202 = t194 then (some ((wrap64 ((t195.length : Int) + (t199.length : Int))) == 0)) else (none))) = some r := by rw [if_neg (show ¬ (false = true) by decide)] at H; exact H
        clear H
        have H := H1
        clear H1
        by_cases c30 : t194 = 0
        · rw [if_pos c30] at H
          have c30b0 : (t194 == 0) = true := beq_iff_eq.mpr c30
          have c30b1 : (t194 != 0) = false := bne_eq_false_iff_eq.mpr c30
          clear c30
          replace H := Option.bind_eq_some_iff.mp H
          obtain ⟨t205, A310, H⟩ := H
          replace H : ((peneloperef16_SameInts.f kj6 t195 t205).bind fun t208 => (if t208 = true then (if (l1.length : Int) = (t191.length : Int) then (if t202 = 0 then ((peneloperef16_Free.f kj6 t190 t191 l1).bind fun t209 => ((peneloperef16_SameInts.f kj6 t199 t209).bind fun t212 => (some t212))) else (none)) else (if t202 = 1 then (some ((t199.length : Int) == 0)) else (none))) else (none))) = some r := H
          have A31 := Aside0.mk A310
          clear A310
          replace H := Option.bind_eq_some_iff.mp H
          obtain ⟨t208, A320, H⟩ := H
          replace H : (if t208 = true then (if (l1.length : Int) = (t191.length : Int) then (if t202 = 0 then ((peneloperef16_Free.f kj6 t190 t191 l1).bind fun t209 => ((peneloperef16_SameInts.f kj6 t199 t209).bind fun t212 => (some t212))) else (none)) else (if t202 = 1 then (some ((t199.length : Int) == 0)) else (none))) else (none)) = some r := H
          have A32 := Aside0.mk A320
          clear A320
          by_cases c33 : t208 = true
          · subst c33
            have H1 : (if (l1.length : Int) = (t191.length : Int) then (if t202 = 0 then ((peneloperef16_Free.f kj6 t190 t191 l1).bind fun t209 => ((peneloperef16_SameInts.f kj6 t199 t209).bind fun t212 => (some t212))) else (none)) else (if t202 = 1 then (some ((t199.length : Int) == 0)) else (none))) = some r := by rw [if_pos rfl] at H; exact H
            clear H
            have H := H1
            clear H1
            by_cases c34 : (l1.length : Int) = (t191.length : Int)
            · rw [if_pos c34] at H
              have c34b0 : ((l1.length : Int) == (t191.length : Int)) = true := beq_iff_eq.mpr c34
              have c34b1 : ((l1.length : Int) != (t191.length : Int)) = false := bne_eq_false_iff_eq.mpr c34
              have c34b2 : (l1.length == t191.length) = true := by first | simpa using c34 | (simp at c34 ⊢; omega)
              clear c34
              by_cases c35 : t202 = 0
              · rw [if_pos c35] at H
                have c35b0 : (t202 == 0) = true := beq_iff_eq.mpr c35
                have c35b1 : (t202 != 0) = false := bne_eq_false_iff_eq.mpr c35
                clear c35
                replace H := Option.bind_eq_some_iff.mp H
                obtain ⟨t209, A360, H⟩ := H
                replace H : ((peneloperef16_SameInts.f kj6 t199 t209).bind fun t212 => (some t212)) = some r := H
                have A36 := Aside0.mk A360
                clear A360
                replace H := Option.bind_eq_some_iff.mp H
                obtain ⟨t212, A370, H⟩ := H
                replace H : (some t212) = some r := H
                have A37 := Aside0.mk A370
                clear A370
                obtain rfl := Option.some.inj H
                have hcz38_0 : wc.cell? ⟨gb189, 0, none⟩ = some (.string t190) := (blk_cell BK189.out 0).trans rfl
                have hcz38_1 : wc.cell? ⟨gb189, 1, none⟩ = some (.slice Ao12 t191.length co12) := (blk_cell BK189.out 1).trans rfl
                have hfz38_0 := blk_frozen BK189.out 0
                have hfz38_1 := blk_frozen BK189.out 1
                go_wp2_with (first | ((with_reducible refine gate_callee (f := 15) rfl ?_); refine goesL_ (some 53) rfl rfl Try.func15 (by kernel_rfl) rfl #[.agg #[.string t190, .slice Ao12 t191.length co12]] rfl (by (try simp only [List.map_toArray, List.map_cons, List.map_nil]); first | done | rfl | (simp only [List.length_drop, List.length_take]; rfl)) ?_; (with_reducible refine (peneloperef16_Order.calls kj6 t190 _ _ t191 t205 _ ?side1 ?side2 A31.out).mono ?_); (case side1 => repeat (first | exact (Kd.N_reads' HO_190001.out).2.2 | (with_reducible refine Kd.C_alloc ?_ _) | (with_reducible refine Kd.C_drewN ?_ _) | (with_reducible refine Kd.C_drew ?_))); (case side2 => exact (Kd.N_reads' HO_190001.out).2.1); rintro e w39 ⟨v206, rfl, ho0, hb⟩; refine ⟨_, rfl, ?_⟩; have n0_ := Aside0.mk (Kd.R_elder' (by (with_reducible repeat (first | apply Kd.R_alloc | apply Kd.R_drewN | apply Kd.R_drew)); exact HO_6.out) (Kd.R_base ho0) hb); have n1_ := Aside0.mk (Kd.R_elder' (by (with_reducible repeat (first | apply Kd.R_alloc | apply Kd.R_drewN | apply Kd.R_drew)); exact HO_8.out) (Kd.R_base ho0) hb); have n2_ := Aside0.mk (Kd.N_elder' (by (with_reducible repeat (first | apply Kd.N_alloc | apply Kd.N_drewN | apply Kd.N_drew)); exact HO_190001.out) (Kd.R_base ho0) hb); have n3_ := Aside0.mk (Kd.R_lower (Kd.R_new' (Kd.R_new' ho0 (Kd.R_lt (by (with_reducible repeat (first | apply Kd.R_alloc | apply Kd.R_drewN | apply Kd.R_drew)); exact HO_6.out))) (Kd.R_lt (by (with_reducible repeat (first | apply Kd.R_alloc | apply Kd.R_drewN | apply Kd.R_drew)); exact HO_8.out))) (below_size (by repeat (first | (with_reducible first | exact HB.out | apply below_alloc | apply pw_below_drewN | apply below_drew1 | refine below_set ?_ GE189.out) | exact HB.out)))); have n4_ := Aside0.mk (blk_below (g := gb189) (o := .cells #[.string t190, .slice Ao12 t191.length co12] 24 (0, 0)) (by (with_reducible repeat (first | refine blk_drewN ?_ _ | refine blk_drew ?_ | refine blk_alloc ?_ _)); exact BK189.out) hb); have n5_ := Aside0.mk (below_step (by repeat (first | (with_reducible first | exact HB.out | apply below_alloc | apply pw_below_drewN | apply below_drew1 | refine below_set ?_ GE189.out) | exact HB.out)) hb); clear HO_6; clear HO_8; clear HO_190001; clear BK189; clear HB; have HO_6 := n0_; have HO_8 := n1_; have HO_190001 := n2_; have HO207 := n3_; have BK189 := n4_; have HB := n5_; clear n0_ n1_ n2_ n3_ n4_ n5_; (try clear hb); (try clear hb2); (try clear hk); (try clear hi); (try clear ho0); obtain ⟨Ao40, co40, eo40⟩ := Kd.R_slice HO_6.out; subst eo40; obtain ⟨Ao41, co41, eo41⟩ := Kd.R_slice HO207.out; subst eo41) | ((with_reducible refine gate_callee (f := 14) rfl ?_); refine goesL_ (some 54) rfl rfl Try.func14 (by kernel_rfl) rfl #[.slice Ao40 t195.length co40, .slice Ao41 t205.length co41] rfl (by (try simp only [List.map_toArray, List.map_cons, List.map_nil]); first | done | rfl | (simp only [List.length_drop, List.length_take]; rfl)) ?_; (with_reducible refine (peneloperef16_SameInts.calls kj6 _ _ t195 _ _ t205 true _ ?side1 ?side2 ?side3 ?side4 A32.out).mono ?_); (case side1 => repeat (first | exact (Kd.R_reads' HO_6.out).2.2 | (with_reducible refine Kd.C_alloc ?_ _) | (with_reducible refine Kd.C_drewN ?_ _) | (with_reducible refine Kd.C_drew ?_))); (case side2 => exact (Kd.R_reads' HO_6.out).2.1); (case side3 => repeat (first | exact (Kd.R_reads' HO207.out).2.2 | (with_reducible refine Kd.C_alloc ?_ _) | (with_reducible refine Kd.C_drewN ?_ _) | (with_reducible refine Kd.C_drew ?_))); (case side4 => exact (Kd.R_reads' HO207.out).2.1); rintro e w' ⟨rfl, ⟨nd, rfl⟩⟩; refine ⟨_, rfl, ?_⟩; have hcz42_0 : w39.cell? ⟨gb189, 0, none⟩ = some (.string t190) := (blk_cell BK189.out 0).trans rfl; have hcz42_1 : w39.cell? ⟨gb189, 1, none⟩ = some (.slice Ao12 t191.length co12) := (blk_cell BK189.out 1).trans rfl; have hfz42_0 := blk_frozen BK189.out 0; have hfz42_1 := blk_frozen BK189.out 1) | (go_at_call 16; (with_reducible refine (peneloperef16_Free.calls kj6 t190 _ _ t191 _ _ l1 t209 _ ?side1 ?side2 ?side3 ?side4 A36.out).mono ?_); (case side1 => repeat (first | exact (Kd.N_reads' HO_190001.out).2.2 | (with_reducible refine Kd.C_alloc ?_ _) | (with_reducible refine Kd.C_drewN ?_ _) | (with_reducible refine Kd.C_drew ?_))); (case side2 => exact (Kd.N_reads' HO_190001.out).2.1); (case side3 => repeat (first | exact (Kd.C_below HR1.out (by repeat (first | (with_reducible first | exact HB.out | apply below_alloc | apply pw_below_drewN | apply below_drew1 | refine below_set ?_ GE189.out) | exact HB.out))) | (with_reducible refine Kd.C_alloc ?_ _) | (with_reducible refine Kd.C_drewN ?_ _) | (with_reducible refine Kd.C_drew ?_))); (case side4 => exact HC1.out); rintro e w43 ⟨v210, rfl, ho0, hb⟩; have n0_ := Aside0.mk (Kd.R_elder' (by (with_reducible repeat (first | apply Kd.R_alloc | apply Kd.R_drewN | apply Kd.R_drew)); exact HO_6.out) (Kd.R_base ho0) hb); have n1_ := Aside0.mk (Kd.R_elder' (by (with_reducible repeat (first | apply Kd.R_alloc | apply Kd.R_drewN | apply Kd.R_drew)); exact HO_8.out) (Kd.R_base ho0) hb); have n2_ := Aside0.mk (Kd.N_elder' (by (with_reducible repeat (first | apply Kd.N_alloc | apply Kd.N_drewN | apply Kd.N_drew)); exact HO_190001.out) (Kd.R_base ho0) hb); have n3_ := Aside0.mk (Kd.R_elder' (by (with_reducible repeat (first | apply Kd.R_alloc | apply Kd.R_drewN | apply Kd.R_drew)); exact HO207.out) (Kd.R_base ho0) hb); have n4_ := Aside0.mk (Kd.R_lower (Kd.R_new' (Kd.R_new' (Kd.R_new' ho0 (Kd.R_lt (by (with_reducible repeat (first | apply Kd.R_alloc | apply Kd.R_drewN | apply Kd.R_drew)); exact HO_6.out))) (Kd.R_lt (by (with_reducible repeat (first | apply Kd.R_alloc | apply Kd.R_drewN | apply Kd.R_drew)); exact HO_8.out))) (Kd.R_lt (by (with_reducible repeat (first | apply Kd.R_alloc | apply Kd.R_drewN | apply Kd.R_drew)); exact HO207.out))) (below_size (by repeat (first | (with_reducible first | exact HB.out | apply below_alloc | apply pw_below_drewN | apply below_drew1 | refine below_set ?_ GE189.out) | exact HB.out)))); have n5_ := Aside0.mk (blk_below (g := gb189) (o := .cells #[.string t190, .slice Ao12 t191.length co12] 24 (0, 0)) (by (with_reducible repeat (first | refine blk_drewN ?_ _ | refine blk_drew ?_ | refine blk_alloc ?_ _)); exact BK189.out) hb); have n6_ := Aside0.mk (below_step (by repeat (first | (with_reducible first | exact HB.out | apply below_alloc | apply pw_below_drewN | apply below_drew1 | refine below_set ?_ GE189.out) | exact HB.out)) hb); clear HO_6; clear HO_8; clear HO_190001; clear HO207; clear BK189; clear HB; have HO_6 := n0_; have HO_8 := n1_; have HO_190001 := n2_; have HO207 := n3_; have HO211 := n4_; have BK189 := n5_; have HB := n6_; clear n0_ n1_ n2_ n3_ n4_ n5_ n6_; (try clear hb); (try clear hb2); (try clear hk); (try clear hi); (try clear ho0); obtain ⟨Ao44, co44, eo44⟩ := Kd.R_slice HO_8.out; subst eo44; obtain ⟨Ao45, co45, eo45⟩ := Kd.R_slice HO211.out; subst eo45) | (go_at_call 14; (with_reducible refine (peneloperef16_SameInts.calls kj6 _ _ t199 _ _ t209 t212 _ ?side1 ?side2 ?side3 ?side4 A37.out).mono ?_); (case side1 => repeat (first | exact (Kd.R_reads' HO_8.out).2.2 | (with_reducible refine Kd.C_alloc ?_ _) | (with_reducible refine Kd.C_drewN ?_ _) | (with_reducible refine Kd.C_drew ?_))); (case side2 => exact (Kd.R_reads' HO_8.out).2.1); (case side3 => repeat (first | exact (Kd.R_reads' HO211.out).2.2 | (with_reducible refine Kd.C_alloc ?_ _) | (with_reducible refine Kd.C_drewN ?_ _) | (with_reducible refine Kd.C_drew ?_))); (case side4 => exact (Kd.R_reads' HO211.out).2.1); rintro e w' ⟨rfl, ⟨nd, rfl⟩⟩))
                go_ret
                exact ⟨by first | rfl | (simp [errW_none, errW_some] <;> rfl) | (simp [*, errW_none, errW_some] <;> rfl), by repeat (first | (with_reducible first | exact HB.out | apply below_alloc | apply pw_below_drewN | apply below_drew1 | refine below_set ?_ GE189.out) | exact HB.out)⟩
              · rw [if_neg c35] at H
                exact absurd H (by simp)
            · rw [if_neg c34] at H
              have c34b0 : ((l1.length : Int) == (t191.length : Int)) = false := beq_eq_false_iff_ne.mpr c34
              have c34b1 : ((l1.length : Int) != (t191.length : Int)) = true := bne_iff_ne.mpr c34
              have c34b2 : (l1.length == t191.length) = false := by first | simpa using c34 | (simp at c34 ⊢; omega)
              by_cases c46 : t202 = 1
              · rw [if_pos c46] at H
                have c46b0 : (t202 == 1) = true := beq_iff_eq.mpr c46
                have c46b1 : (t202 != 1) = false := bne_eq_false_iff_eq.mpr c46
                clear c46
                obtain rfl := Option.some.inj H
                have hcz47_0 : wc.cell? ⟨gb189, 0, none⟩ = some (.string t190) := (blk_cell BK189.out 0).trans rfl
                have hcz47_1 : wc.cell? ⟨gb189, 1, none⟩ = some (.slice Ao12 t191.length co12) := (blk_cell BK189.out 1).trans rfl
                have hfz47_0 := blk_frozen BK189.out 0
                have hfz47_1 := blk_frozen BK189.out 1
                go_wp2_with (first | ((with_reducible refine gate_callee (f := 15) rfl ?_); refine goesL_ (some 53) rfl rfl Try.func15 (by kernel_rfl) rfl #[.agg #[.string t190, .slice Ao12 t191.length co12]] rfl (by (try simp only [List.map_toArray, List.map_cons, List.map_nil]); first | done | rfl | (simp only [List.length_drop, List.length_take]; rfl)) ?_; (with_reducible refine (peneloperef16_Order.calls kj6 t190 _ _ t191 t205 _ ?side1 ?side2 A31.out).mono ?_); (case side1 => repeat (first | exact (Kd.N_reads' HO_190001.out).2.2 | (with_reducible refine Kd.C_alloc ?_ _) | (with_reducible refine Kd.C_drewN ?_ _) | (with_reducible refine Kd.C_drew ?_))); (case side2 => exact (Kd.N_reads' HO_190001.out).2.1); rintro e w48 ⟨v206, rfl, ho0, hb⟩; refine ⟨_, rfl, ?_⟩; have n0_ := Aside0.mk (Kd.R_elder' (by (with_reducible repeat (first | apply Kd.R_alloc | apply Kd.R_drewN | apply Kd.R_drew)); exact HO_6.out) (Kd.R_base ho0) hb); have n1_ := Aside0.mk (Kd.R_elder' (by (with_reducible repeat (first | apply Kd.R_alloc | apply Kd.R_drewN | apply Kd.R_drew)); exact HO_8.out) (Kd.R_base ho0) hb); have n2_ := Aside0.mk (Kd.N_elder' (by (with_reducible repeat (first | apply Kd.N_alloc | apply Kd.N_drewN | apply Kd.N_drew)); exact HO_190001.out) (Kd.R_base ho0) hb); have n3_ := Aside0.mk (Kd.R_lower (Kd.R_new' (Kd.R_new' ho0 (Kd.R_lt (by (with_reducible repeat (first | apply Kd.R_alloc | apply Kd.R_drewN | apply Kd.R_drew)); exact HO_6.out))) (Kd.R_lt (by (with_reducible repeat (first | apply Kd.R_alloc | apply Kd.R_drewN | apply Kd.R_drew)); exact HO_8.out))) (below_size (by repeat (first | (with_reducible first | exact HB.out | apply below_alloc | apply pw_below_drewN | apply below_drew1 | refine below_set ?_ GE189.out) | exact HB.out)))); have n4_ := Aside0.mk (blk_below (g := gb189) (o := .cells #[.string t190, .slice Ao12 t191.length co12] 24 (0, 0)) (by (with_reducible repeat (first | refine blk_drewN ?_ _ | refine blk_drew ?_ | refine blk_alloc ?_ _)); exact BK189.out) hb); have n5_ := Aside0.mk (below_step (by repeat (first | (with_reducible first | exact HB.out | apply below_alloc | apply pw_below_drewN | apply below_drew1 | refine below_set ?_ GE189.out) | exact HB.out)) hb); clear HO_6; clear HO_8; clear HO_190001; clear BK189; clear HB; have HO_6 := n0_; have HO_8 := n1_; have HO_190001 := n2_; have HO207 := n3_; have BK189 := n4_; have HB := n5_; clear n0_ n1_ n2_ n3_ n4_ n5_; (try clear hb); (try clear hb2); (try clear hk); (try clear hi); (try clear ho0); obtain ⟨Ao49, co49, eo49⟩ := Kd.R_slice HO_6.out; subst eo49; obtain ⟨Ao50, co50, eo50⟩ := Kd.R_slice HO207.out; subst eo50) | ((with_reducible refine gate_callee (f := 14) rfl ?_); refine goesL_ (some 54) rfl rfl Try.func14 (by kernel_rfl) rfl #[.slice Ao49 t195.length co49, .slice Ao50 t205.length co50] rfl (by (try simp only [List.map_toArray, List.map_cons, List.map_nil]); first | done | rfl | (simp only [List.length_drop, List.length_take]; rfl)) ?_; (with_reducible refine (peneloperef16_SameInts.calls kj6 _ _ t195 _ _ t205 true _ ?side1 ?side2 ?side3 ?side4 A32.out).mono ?_); (case side1 => repeat (first | exact (Kd.R_reads' HO_6.out).2.2 | (with_reducible refine Kd.C_alloc ?_ _) | (with_reducible refine Kd.C_drewN ?_ _) | (with_reducible refine Kd.C_drew ?_))); (case side2 => exact (Kd.R_reads' HO_6.out).2.1); (case side3 => repeat (first | exact (Kd.R_reads' HO207.out).2.2 | (with_reducible refine Kd.C_alloc ?_ _) | (with_reducible refine Kd.C_drewN ?_ _) | (with_reducible refine Kd.C_drew ?_))); (case side4 => exact (Kd.R_reads' HO207.out).2.1); rintro e w' ⟨rfl, ⟨nd, rfl⟩⟩; refine ⟨_, rfl, ?_⟩; have hcz51_0 : w48.cell? ⟨gb189, 0, none⟩ = some (.string t190) := (blk_cell BK189.out 0).trans rfl; have hcz51_1 : w48.cell? ⟨gb189, 1, none⟩ = some (.slice Ao12 t191.length co12) := (blk_cell BK189.out 1).trans rfl; have hfz51_0 := blk_frozen BK189.out 0; have hfz51_1 := blk_frozen BK189.out 1; obtain ⟨Ao52, co52, eo52⟩ := Kd.R_slice HO_8.out; subst eo52))
                go_ret
                exact ⟨by first | rfl | (simp [errW_none, errW_some] <;> rfl) | (simp [*, errW_none, errW_some] <;> rfl), by repeat (first | (with_reducible first | exact HB.out | apply below_alloc | apply pw_below_drewN | apply below_drew1 | refine below_set ?_ GE189.out) | exact HB.out)⟩
              · rw [if_neg c46] at H
                exact absurd H (by simp)
          · replace c33 := Bool.eq_false_iff.mpr c33
            subst c33
            have H1 : (none) = some r := by rw [if_neg (show ¬ (false = true) by decide)] at H; exact H
            clear H
            have H := H1
            clear H1
            exact absurd H (by simp)
        · rw [if_neg c30] at H
          have c30b0 : (t194 == 0) = false := beq_eq_false_iff_ne.mpr c30
          have c30b1 : (t194 != 0) = true := bne_iff_ne.mpr c30
          by_cases c53 : t202 = t194
          · rw [if_pos c53] at H
            have c53b0 : (t202 == t194) = true := beq_iff_eq.mpr c53
            have c53b1 : (t202 != t194) = false := bne_eq_false_iff_eq.mpr c53
            clear c53
            obtain rfl := Option.some.inj H
            obtain ⟨Ao54, co54, eo54⟩ := Kd.R_slice HO_6.out
            subst eo54
            obtain ⟨Ao55, co55, eo55⟩ := Kd.R_slice HO_8.out
            subst eo55
            go_wp2
            go_ret
            exact ⟨by first | rfl | (simp [errW_none, errW_some] <;> rfl) | (simp [*, errW_none, errW_some] <;> rfl), by repeat (first | (with_reducible first | exact HB.out | apply below_alloc | apply pw_below_drewN | apply below_drew1 | refine below_set ?_ GE189.out) | exact HB.out)⟩
          · rw [if_neg c53] at H
            exact absurd H (by simp)

end Go.Proofs.Ytbgmhcefjggpgaa.X
