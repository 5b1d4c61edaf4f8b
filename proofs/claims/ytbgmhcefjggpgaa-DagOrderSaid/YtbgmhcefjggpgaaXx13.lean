-- laid by a program of this session (wip/tools/xprint.py), function by function; Lean checks it
import Derived.Test.YtbgmhcefjggpgaaXx0
import Derived.Test.YtbgmhcefjggpgaaXFew
import Derived.Test.YtbgmhcefjggpgaaXRight
import Derived.Test.YtbgmhcefjggpgaaXx5
import Derived.Test.YtbgmhcefjggpgaaXx6
import Derived.Test.YtbgmhcefjggpgaaXx7
namespace Go.Proofs.Ytbgmhcefjggpgaa.X
open Go.RowKit Go.Proofs.YtbgmhcefjggpgaaW.PrintWords Go.Proofs.YtbgmhcefjggpgaaW.PrintLast Go.Proofs.YtbgmhcefjggpgaaW.PrintMore
attribute [local go_sem] max2_int min2_int max_two min_two max_three min_three max_four min_four   -- for this text's walks alone
set_option linter.unusedVariables false
set_option linter.unusedSimpArgs false

/-! ### penelopelaw16_DagOrder: function 4 -/
mutual
def penelopelaw16_DagOrder.l0 : Nat → List Bool → List Int → Int → Int → ByteArray → List (S39) → Option (Bool)
  | 0, _, _, _, _, _, _ => none
  | k + 1, x5, x40, x41, x42, x214000, x214001 => if x42 < x41 then (if 0 ≤ x42 then (if x42 < (x40.length : Int) then (if (rd x40 x42) < 0 then (penelopelaw16_DagOrder.j1 k x5 (rd x40 x42) x40 x41 x42 true x214000 x214001) else (if (rd x40 x42) ≥ (x5.length : Int) then (penelopelaw16_DagOrder.j1 k x5 (rd x40 x42) x40 x41 x42 true x214000 x214001) else (if 0 ≤ (rd x40 x42) then (if (rd x40 x42) < (x5.length : Int) then (penelopelaw16_DagOrder.j1 k x5 (rd x40 x42) x40 x41 x42 (rdOf false x5 (rd x40 x42)) x214000 x214001) else (none)) else (none)))) else (none)) else (none)) else ((dag_Free.f k x214000 x214001 x5).bind fun bt227 => ((penelopelaw16_alive.f k).bind fun t231 => (if t231 = true then (if bt227.2 = 0 then (some ((bt227.1.length : Int) == 0)) else (none)) else (none))))
def penelopelaw16_DagOrder.j1 : Nat → List Bool → Int → List Int → Int → Int → Bool → ByteArray → List (S39) → Option (Bool)
  | 0, _, _, _, _, _, _, _, _ => none
  | k + 1, x5, x7, x40, x41, x42, x59, x214000, x214001 => if x59 = true then (none) else (if 0 ≤ x7 then (if x7 < (x214001.length : Int) then (penelopelaw16_DagOrder.l1 k x5 x7 x40 x41 x42 ((rd_T39 x214001 x7).f0) (((rd_T39 x214001 x7).f0).length : Int) 0 x214000 x214001) else (none)) else (none))
def penelopelaw16_DagOrder.l1 : Nat → List Bool → Int → List Int → Int → Int → List Int → Int → Int → ByteArray → List (S39) → Option (Bool)
  | 0, _, _, _, _, _, _, _, _, _, _ => none
  | k + 1, x5, x7, x40, x41, x42, x65, x66, x67, x214000, x214001 => if x67 < x66 then (if 0 ≤ x67 then (if x67 < (x65.length : Int) then (if 0 ≤ (rd x65 x67) then (if (rd x65 x67) < (x5.length : Int) then (if (rdOf false x5 (rd x65 x67) = true) then (penelopelaw16_DagOrder.l1 k x5 x7 x40 x41 x42 x65 x66 (wrap64 (x67 + 1)) x214000 x214001) else (none)) else (none)) else (none)) else (none)) else (none)) else ((dag_Free.f k x214000 x214001 x5).bind fun bt237 => (if bt237.2 = 0 then (if (bt237.1.length : Int) = 0 then (none) else (if 0 < (bt237.1.length : Int) then (if (rd bt237.1 0) = x7 then (if 0 ≤ x7 then (if x7 < (x5.length : Int) then (penelopelaw16_DagOrder.l0 k (x5.set (x7 : Int).toNat true) x40 x41 (wrap64 (x42 + 1)) x214000 x214001) else (none)) else (none)) else (none)) else (none))) else (none)))
end
def penelopelaw16_DagOrder.f (k : Nat) (a0_0 : ByteArray) (l0_1 : List (S39)) : Option (Bool) := (penelopelaw16_few.f k a0_0 l0_1).bind fun bt214 => ((dag_Order.f k bt214.1 bt214.2).bind fun bt218 => (if bt218.2 = 0 then (if (bt218.1.length : Int) = (bt214.2.length : Int) then (if 0 ≤ (bt214.2.length : Int) then (if ((bt214.2.length : Int) : Int).toNat ≤ 281474976710656 then (penelopelaw16_DagOrder.l0 k (List.replicate ((bt214.2.length : Int) : Int).toNat false) bt218.1 (bt218.1.length : Int) 0 bt214.1 bt214.2) else (none)) else (none)) else (none)) else ((penelopelaw16_alive.f k).bind fun t222 => (if t222 = true then ((dag_Right.f k bt214.1 bt214.2).bind fun t223 => (some (bt218.2 == t223))) else (none)))))
theorem penelopelaw16_DagOrder.mono_l : ∀ k, (∀ y0 y1 y2 y3 y4 y5, LeO (penelopelaw16_DagOrder.l0 k y0 y1 y2 y3 y4 y5) (penelopelaw16_DagOrder.l0 (k + 1) y0 y1 y2 y3 y4 y5)) ∧ (∀ y0 y1 y2 y3 y4 y5 y6 y7, LeO (penelopelaw16_DagOrder.j1 k y0 y1 y2 y3 y4 y5 y6 y7) (penelopelaw16_DagOrder.j1 (k + 1) y0 y1 y2 y3 y4 y5 y6 y7)) ∧ (∀ y0 y1 y2 y3 y4 y5 y6 y7 y8 y9, LeO (penelopelaw16_DagOrder.l1 k y0 y1 y2 y3 y4 y5 y6 y7 y8 y9) (penelopelaw16_DagOrder.l1 (k + 1) y0 y1 y2 y3 y4 y5 y6 y7 y8 y9))
  | 0 => ⟨fun _ _ _ _ _ _ r h => by simp [penelopelaw16_DagOrder.l0] at h, fun _ _ _ _ _ _ _ _ r h => by simp [penelopelaw16_DagOrder.j1] at h, fun _ _ _ _ _ _ _ _ _ _ r h => by simp [penelopelaw16_DagOrder.l1] at h⟩
  | k + 1 => by
    obtain ⟨ih0, ih1, ih2⟩ := penelopelaw16_DagOrder.mono_l k
    refine ⟨?_, ?_, ?_⟩
    · intro y0 y1 y2 y3 y4 y5
      unfold penelopelaw16_DagOrder.l0
      repeat' first
      | (with_reducible exact ih0 _ _ _ _ _ _)
      | (with_reducible exact ih1 _ _ _ _ _ _ _ _)
      | (with_reducible exact ih2 _ _ _ _ _ _ _ _ _ _)
      | (with_reducible exact dag_Free.mono _ _ _ _)
      | (with_reducible exact dag_Order.mono _ _ _)
      | (with_reducible exact dag_Right.mono _ _ _)
      | (with_reducible exact penelopelaw16_alive.mono _)
      | (with_reducible exact penelopelaw16_few.mono _ _ _)
      | (with_reducible exact LeO.refl _)
      | (with_reducible exact LeO.none _)
      | (with_reducible refine LeO.ite ?_ ?_)
      | (with_reducible refine LeO.bind ?_ (fun _ => ?_))
      | exact ih0 _ _ _ _ _ _
      | exact ih1 _ _ _ _ _ _ _ _
      | exact ih2 _ _ _ _ _ _ _ _ _ _
      | exact dag_Free.mono _ _ _ _
      | exact dag_Order.mono _ _ _
      | exact dag_Right.mono _ _ _
      | exact penelopelaw16_alive.mono _
      | exact penelopelaw16_few.mono _ _ _
      | exact LeO.none _
      | refine LeO.ite ?_ ?_
      | refine LeO.bind ?_ (fun _ => ?_)
    · intro y0 y1 y2 y3 y4 y5 y6 y7
      unfold penelopelaw16_DagOrder.j1
      repeat' first
      | (with_reducible exact ih0 _ _ _ _ _ _)
      | (with_reducible exact ih1 _ _ _ _ _ _ _ _)
      | (with_reducible exact ih2 _ _ _ _ _ _ _ _ _ _)
      | (with_reducible exact dag_Free.mono _ _ _ _)
      | (with_reducible exact dag_Order.mono _ _ _)
      | (with_reducible exact dag_Right.mono _ _ _)
      | (with_reducible exact penelopelaw16_alive.mono _)
      | (with_reducible exact penelopelaw16_few.mono _ _ _)
      | (with_reducible exact LeO.refl _)
      | (with_reducible exact LeO.none _)
      | (with_reducible refine LeO.ite ?_ ?_)
      | (with_reducible refine LeO.bind ?_ (fun _ => ?_))
      | exact ih0 _ _ _ _ _ _
      | exact ih1 _ _ _ _ _ _ _ _
      | exact ih2 _ _ _ _ _ _ _ _ _ _
      | exact dag_Free.mono _ _ _ _
      | exact dag_Order.mono _ _ _
      | exact dag_Right.mono _ _ _
      | exact penelopelaw16_alive.mono _
      | exact penelopelaw16_few.mono _ _ _
      | exact LeO.none _
      | refine LeO.ite ?_ ?_
      | refine LeO.bind ?_ (fun _ => ?_)
    · intro y0 y1 y2 y3 y4 y5 y6 y7 y8 y9
      unfold penelopelaw16_DagOrder.l1
      repeat' first
      | (with_reducible exact ih0 _ _ _ _ _ _)
      | (with_reducible exact ih1 _ _ _ _ _ _ _ _)
      | (with_reducible exact ih2 _ _ _ _ _ _ _ _ _ _)
      | (with_reducible exact dag_Free.mono _ _ _ _)
      | (with_reducible exact dag_Order.mono _ _ _)
      | (with_reducible exact dag_Right.mono _ _ _)
      | (with_reducible exact penelopelaw16_alive.mono _)
      | (with_reducible exact penelopelaw16_few.mono _ _ _)
      | (with_reducible exact LeO.refl _)
      | (with_reducible exact LeO.none _)
      | (with_reducible refine LeO.ite ?_ ?_)
      | (with_reducible refine LeO.bind ?_ (fun _ => ?_))
      | exact ih0 _ _ _ _ _ _
      | exact ih1 _ _ _ _ _ _ _ _
      | exact ih2 _ _ _ _ _ _ _ _ _ _
      | exact dag_Free.mono _ _ _ _
      | exact dag_Order.mono _ _ _
      | exact dag_Right.mono _ _ _
      | exact penelopelaw16_alive.mono _
      | exact penelopelaw16_few.mono _ _ _
      | exact LeO.none _
      | refine LeO.ite ?_ ?_
      | refine LeO.bind ?_ (fun _ => ?_)
theorem penelopelaw16_DagOrder.mono : ∀ a0 a1 k, LeO (penelopelaw16_DagOrder.f k a0 a1) (penelopelaw16_DagOrder.f (k + 1) a0 a1) := by
  intro a0 a1 k
  obtain ⟨ih0, ih1, ih2⟩ := penelopelaw16_DagOrder.mono_l k
  unfold penelopelaw16_DagOrder.f
  repeat' first
      | (with_reducible exact ih0 _ _ _ _ _ _)
      | (with_reducible exact ih1 _ _ _ _ _ _ _ _)
      | (with_reducible exact ih2 _ _ _ _ _ _ _ _ _ _)
      | (with_reducible exact dag_Free.mono _ _ _ _)
      | (with_reducible exact dag_Order.mono _ _ _)
      | (with_reducible exact dag_Right.mono _ _ _)
      | (with_reducible exact penelopelaw16_alive.mono _)
      | (with_reducible exact penelopelaw16_few.mono _ _ _)
      | (with_reducible exact LeO.refl _)
      | (with_reducible exact LeO.none _)
      | (with_reducible refine LeO.ite ?_ ?_)
      | (with_reducible refine LeO.bind ?_ (fun _ => ?_))
      | exact ih0 _ _ _ _ _ _
      | exact ih1 _ _ _ _ _ _ _ _
      | exact ih2 _ _ _ _ _ _ _ _ _ _
      | exact dag_Free.mono _ _ _ _
      | exact dag_Order.mono _ _ _
      | exact dag_Right.mono _ _ _
      | exact penelopelaw16_alive.mono _
      | exact penelopelaw16_few.mono _ _ _
      | exact LeO.none _
      | refine LeO.ite ?_ ?_
      | refine LeO.bind ?_ (fun _ => ?_)
set_option maxHeartbeats 8000000 in
set_option maxRecDepth 100000 in
theorem penelopelaw16_DagOrder.calls (k : Nat) (a0_0 : ByteArray) (A0_1 : Option Addr) (c0_1 : Nat) (l0_1 : List (S39)) (r : Bool) (w : World) (hr0_1 : Kd.C k39 w A0_1 l0_1.length l0_1) (hc0_1 : l0_1.length ≤ c0_1) (h : penelopelaw16_DagOrder.f k a0_0 l0_1 = some r) :
    Calls Try.prog 4 #[.agg #[.string a0_0, .slice A0_1 l0_1.length c0_1]] w fun e w' => e = .returned (.bool r) ∧ Below w.heap.size w w' := by
  have hu24 := Try.underlying24
  have HR0_1 := Aside0.mk hr0_1
  have HC0_1 := Aside0.mk hc0_1
  clear hr0_1 hc0_1
  have HB := Aside0.mk (Below.refl w.heap.size w)
  have H : ((penelopelaw16_few.f k a0_0 l0_1).bind fun bt214 => ((dag_Order.f k bt214.1 bt214.2).bind fun bt218 => (if bt218.2 = 0 then (if (bt218.1.length : Int) = (bt214.2.length : Int) then (if 0 ≤ (bt214.2.length : Int) then (if ((bt214.2.length : Int) : Int).toNat ≤ 281474976710656 then (penelopelaw16_DagOrder.l0 k (List.replicate ((bt214.2.length : Int) : Int).toNat false) bt218.1 (bt218.1.length : Int) 0 bt214.1 bt214.2) else (none)) else (none)) else (none)) else ((penelopelaw16_alive.f k).bind fun t222 => (if t222 = true then ((dag_Right.f k bt214.1 bt214.2).bind fun t223 => (some (bt218.2 == t223))) else (none)))))) = some r := h
  clear h
  replace H := Option.bind_eq_some_iff.mp H
  obtain ⟨⟨t214, t215⟩, A20, H⟩ := H
  replace H : ((dag_Order.f k t214 t215).bind fun bt218 => (if bt218.2 = 0 then (if (bt218.1.length : Int) = (t215.length : Int) then (if 0 ≤ (t215.length : Int) then (if ((t215.length : Int) : Int).toNat ≤ 281474976710656 then (penelopelaw16_DagOrder.l0 k (List.replicate ((t215.length : Int) : Int).toNat false) bt218.1 (bt218.1.length : Int) 0 t214 t215) else (none)) else (none)) else (none)) else ((penelopelaw16_alive.f k).bind fun t222 => (if t222 = true then ((dag_Right.f k t214 t215).bind fun t223 => (some (bt218.2 == t223))) else (none))))) = some r := H
  have A2 := Aside0.mk A20
  clear A20
  replace H := Option.bind_eq_some_iff.mp H
  obtain ⟨⟨t218, t221⟩, A30, H⟩ := H
  replace H : (if t221 = 0 then (if (t218.length : Int) = (t215.length : Int) then (if 0 ≤ (t215.length : Int) then (if ((t215.length : Int) : Int).toNat ≤ 281474976710656 then (penelopelaw16_DagOrder.l0 k (List.replicate ((t215.length : Int) : Int).toNat false) t218 (t218.length : Int) 0 t214 t215) else (none)) else (none)) else (none)) else ((penelopelaw16_alive.f k).bind fun t222 => (if t222 = true then ((dag_Right.f k t214 t215).bind fun t223 => (some (t221 == t223))) else (none)))) = some r := H
  have A3 := Aside0.mk A30
  clear A30
  by_cases c4 : t221 = 0
  · rw [if_pos c4] at H
    have c4b0 : (t221 == 0) = true := beq_iff_eq.mpr c4
    have c4b1 : (t221 != 0) = false := bne_eq_false_iff_eq.mpr c4
    clear c4
    by_cases c5 : (t218.length : Int) = (t215.length : Int)
    · rw [if_pos c5] at H
      have c5b0 : ((t218.length : Int) == (t215.length : Int)) = true := beq_iff_eq.mpr c5
      have c5b1 : ((t218.length : Int) != (t215.length : Int)) = false := bne_eq_false_iff_eq.mpr c5
      have c5b2 : (t218.length == t215.length) = true := by first | simpa using c5 | (simp at c5 ⊢; omega)
      clear c5
      by_cases c6 : 0 ≤ (t215.length : Int)
      · rw [if_pos c6] at H
        have c6b0 := eq_true c6
        have c6b1 : decide (0 ≤ (t215.length : Int)) = true := decide_eq_true c6
        clear c6
        by_cases c7 : ((t215.length : Int) : Int).toNat ≤ 281474976710656
        · rw [if_pos c7] at H
          have c7b0 := eq_true c7
          have c7b1 : decide (((t215.length : Int) : Int).toNat ≤ 281474976710656) = true := decide_eq_true c7
          clear c7
          obtain ⟨y224, hy224⟩ : ∃ y_ : List Bool, y_ = (List.replicate ((t215.length : Int) : Int).toNat false) := ⟨_, rfl⟩
          replace H : (penelopelaw16_DagOrder.l0 k y224 t218 (t218.length : Int) 0 t214 t215) = some r := by first | (rw [hy224]; with_reducible exact H) | (have H2_ := (Option.bind_some _ _).symm.trans H; rw [hy224]; with_reducible exact H2_) | (have H2_ := (Option.bind_some _ _).symm.trans H; with_reducible exact H2_) | with_reducible exact H | (rw [hy224]; exact H) | exact H
          have Ny224 := Aside0.mk hy224
          clear hy224
          have H' := Aside0.mk H
          clear H
          go_enter Try.func4, Try.ntmps4
          go_wp2_with (first | ((with_reducible refine gate_dst (N := 1) rfl ?_); (try (refine gate_guard (by rfl) ?_; dsimp only)); refine box_event ?hg (N := 1) ?hd (cs := #[.string a0_0, .slice A0_1 l0_1.length c0_1]) (t := 24) ?hr ?_; (case hd => rfl); (case hg => rfl); (case hr => first | (go_simp; done) | (go_simp; rfl)); intro gb213 hg w8 hbox hb; have n0_ := Aside0.mk (below_step (by repeat (first | (with_reducible first | exact HB.out | apply below_alloc | apply pw_below_drewN | apply below_drew1) | exact HB.out)) hb); have n1_ := Aside0.mk (hbox); have n2_ := Aside0.mk ((by rw [hg]; exact (below_size (by repeat (first | (with_reducible first | exact HB.out | apply below_alloc | apply pw_below_drewN | apply below_drew1) | exact HB.out))) : w.heap.size ≤ gb213)); have n3_ := Aside0.mk ((by rw [hg]; exact (below_size (by repeat (first | (with_reducible first | exact HB.out | apply below_alloc | apply pw_below_drewN | apply below_drew1) | exact HB.out))) : w.heap.size ≤ gb213)); clear HB; have HB := n0_; have BK213 := n1_; have GW213 := n2_; have GE213 := n3_; clear n0_ n1_ n2_ n3_; clear hb hbox hg; have hcz9_0 : w8.cell? ⟨gb213, 0, none⟩ = some (.string a0_0) := (blk_cell BK213.out 0).trans rfl; have hcz9_1 : w8.cell? ⟨gb213, 1, none⟩ = some (.slice A0_1 l0_1.length c0_1) := (blk_cell BK213.out 1).trans rfl; have hfz9_0 := blk_frozen BK213.out 0; have hfz9_1 := blk_frozen BK213.out 1) | ((with_reducible refine gate_callee (f := 8) rfl ?_); refine goesL_ (some 15) rfl rfl Try.func8 (by kernel_rfl) rfl #[.agg #[.string a0_0, .slice A0_1 l0_1.length c0_1]] rfl (by (try simp only [List.map_toArray, List.map_cons, List.map_nil]); first | done | rfl | (simp only [List.length_drop, List.length_take]; rfl)) ?_; (with_reducible refine (penelopelaw16_few.calls k a0_0 _ _ l0_1 t214 t215 gb213 w _ ?side1 ?hw_ ?hq1_ ?hq2_ ?side2 A2.out).mono ?_); (case side1 => exact HR0_1.out); (case hw_ => exact (by repeat (first | (with_reducible first | exact HB.out | apply below_alloc | apply pw_below_drewN | apply below_drew1 | refine below_set ?_ GE213.out) | exact HB.out))); (case hq1_ => exact GE213.out); (case hq2_ => exact blk_lt (by (with_reducible repeat (first | refine blk_drewN ?_ _ | refine blk_drew ?_ | refine blk_alloc ?_ _)); exact BK213.out)); (case side2 => exact HC0_1.out); rintro e w10 ⟨v216, rfl, ho0, hb⟩; refine ⟨_, rfl, ?_⟩; have n0_ := Aside0.mk (Kd.N_lower ho0 (below_size (by repeat (first | (with_reducible first | exact HB.out | apply below_alloc | apply pw_below_drewN | apply below_drew1 | refine below_set ?_ GE213.out) | exact HB.out)))); have n1_ := Aside0.mk (blk_below (g := gb213) (o := .cells #[.string a0_0, .slice A0_1 l0_1.length c0_1] 24 (0, 0)) (by (with_reducible repeat (first | refine blk_drewN ?_ _ | refine blk_drew ?_ | refine blk_alloc ?_ _)); exact BK213.out) hb); have n2_ := Aside0.mk (below_step (by repeat (first | (with_reducible first | exact HB.out | apply below_alloc | apply pw_below_drewN | apply below_drew1 | refine below_set ?_ GE213.out) | exact HB.out)) hb); clear BK213; clear HB; have HO217 := n0_; have BK213 := n1_; have HB := n2_; clear n0_ n1_ n2_; (try clear hb); (try clear hb2); (try clear hk); (try clear hi); (try clear ho0); have hcz11_0 : w10.cell? ⟨gb213, 0, none⟩ = some (.string a0_0) := (blk_cell BK213.out 0).trans rfl; have hcz11_1 : w10.cell? ⟨gb213, 1, none⟩ = some (.slice A0_1 l0_1.length c0_1) := (blk_cell BK213.out 1).trans rfl; have hfz11_0 := blk_frozen BK213.out 0; have hfz11_1 := blk_frozen BK213.out 1; obtain ⟨Ao12, co12, eo12⟩ := Kd.N_slice HO217.out; subst eo12) | ((with_reducible refine gate_callee (f := 10) rfl ?_); refine goesL_ (some 18) rfl rfl Try.func10 (by kernel_rfl) rfl #[.agg #[.string t214, .slice Ao12 t215.length co12]] rfl (by (try simp only [List.map_toArray, List.map_cons, List.map_nil]); first | done | rfl | (simp only [List.length_drop, List.length_take]; rfl)) ?_; (with_reducible refine (dag_Order.calls k t214 _ _ t215 t218 t221 _ ?side1 ?side2 A3.out).mono ?_); (case side1 => refine (Kd.N_reads' (e := 39) (base := w.heap.size) (ok := fun k_ => k_ ≠ gb213) (n := t215.length) (c := co12) ?_).2.2; exact (by (with_reducible repeat (first | apply Kd.N_alloc | apply Kd.N_drewN | apply Kd.N_drew)); exact (Kd.N_mono (Kd.N_far (p := ⟨gb213, 1, none⟩) (Kd.N_far (p := ⟨gb213, 0, none⟩) HO217.out (fun _ hk => hk) (.string t214)) (fun _ hk => hk) (.slice Ao12 t215.length co12)) (fun _ h_ => h_)))); (case side2 => exact (Kd.N_reads' HO217.out).2.1); rintro e w13 ⟨v219, rfl, ho0, hb⟩; refine ⟨_, rfl, ?_⟩; have n0_ := Aside0.mk (Kd.N_elder' (by (with_reducible repeat (first | apply Kd.N_alloc | apply Kd.N_drewN | apply Kd.N_drew)); exact (Kd.N_mono (Kd.N_far (p := ⟨gb213, 1, none⟩) (Kd.N_far (p := ⟨gb213, 0, none⟩) HO217.out (fun _ hk => hk) (.string t214)) (fun _ hk => hk) (.slice Ao12 t215.length co12)) (fun _ h_ => h_))) (Kd.R_base ho0) hb); have n1_ := Aside0.mk (Kd.R_lower ho0 (below_size (by repeat (first | (with_reducible first | exact HB.out | apply below_alloc | apply pw_below_drewN | apply below_drew1 | refine below_set ?_ GE213.out) | exact HB.out)))); have n2_ := Aside0.mk (blk_below (g := gb213) (o := .cells #[.string t214, .slice Ao12 t215.length co12] 24 (0, 0)) (by (with_reducible repeat (first | refine blk_drewN ?_ _ | refine blk_drew ?_ | refine blk_alloc ?_ _)); refine blk_put (cs := #[.string t214, .slice A0_1 l0_1.length c0_1]) ?_ 1 _ rfl; (with_reducible repeat (first | refine blk_drewN ?_ _ | refine blk_drew ?_ | refine blk_alloc ?_ _)); refine blk_put (cs := #[.string a0_0, .slice A0_1 l0_1.length c0_1]) ?_ 0 _ rfl; (with_reducible repeat (first | refine blk_drewN ?_ _ | refine blk_drew ?_ | refine blk_alloc ?_ _)); exact BK213.out) hb); have n3_ := Aside0.mk (below_step (by repeat (first | (with_reducible first | exact HB.out | apply below_alloc | apply pw_below_drewN | apply below_drew1 | refine below_set ?_ GE213.out) | exact HB.out)) hb); clear HO217; clear BK213; clear HB; have HO217 := n0_; have HO220 := n1_; have BK213 := n2_; have HB := n3_; clear n0_ n1_ n2_ n3_; (try clear hb); (try clear hb2); (try clear hk); (try clear hi); (try clear ho0); obtain ⟨Ao14, co14, eo14⟩ := Kd.R_slice HO220.out; subst eo14; have hcz15_0 : w13.cell? ⟨gb213, 0, none⟩ = some (.string t214) := (blk_cell BK213.out 0).trans rfl; have hcz15_1 : w13.cell? ⟨gb213, 1, none⟩ = some (.slice Ao12 t215.length co12) := (blk_cell BK213.out 1).trans rfl; have hfz15_0 := blk_frozen BK213.out 0; have hfz15_1 := blk_frozen BK213.out 1) | ((with_reducible refine gate_dst (N := 39) rfl ?_); (try (refine gate_guard (by rfl) ?_; dsimp only)); refine Kd.R_make Kd.bool _ 4 rfl (N := 39) rfl 25 _ _ rfl (t215.length : Int) rfl rfl Try.underlying25 (.bool false) 1 info4 rfl (by decide) (by omega) false (ok := fun _ => True) (okp := fun _ => True) rfl (fun _ hk => hk) trivial (of_decide_eq_true (by first | (with_reducible assumption) | assumption)) (Nat.le_trans (Nat.mul_le_mul_right _ (of_decide_eq_true (by first | (with_reducible assumption) | assumption) : (t215.length : Int).toNat ≤ 281474976710656)) (by omega)) (Below.refl _ _) (Nat.le_refl _) ?_; intro v225 w16 ho17 hb hg_ hnew_; clear hg_ hnew_; (first | rw [← Ny224.out] at ho17 | (simp only [Int.reduceToNat] at ho17; rw [← Ny224.out] at ho17)); have n0_ := Aside0.mk (Kd.N_elder' (by (with_reducible repeat (first | apply Kd.N_alloc | apply Kd.N_drewN | apply Kd.N_drew)); exact HO217.out) (Kd.R_base ho17) hb); have n1_ := Aside0.mk (Kd.R_below (by (with_reducible repeat (first | apply Kd.R_alloc | apply Kd.R_drewN | apply Kd.R_drew)); exact HO220.out) hb); have n2_ := Aside0.mk (Kd.R_lower ho17 (below_size (by repeat (first | (with_reducible first | exact HB.out | apply below_alloc | apply pw_below_drewN | apply below_drew1 | refine below_set ?_ GE213.out) | exact HB.out)))); have n3_ := Aside0.mk (blk_below (g := gb213) (o := .cells #[.string t214, .slice Ao12 t215.length co12] 24 (0, 0)) (by (with_reducible repeat (first | refine blk_drewN ?_ _ | refine blk_drew ?_ | refine blk_alloc ?_ _)); exact BK213.out) hb); have n4_ := Aside0.mk (below_step (by repeat (first | (with_reducible first | exact HB.out | apply below_alloc | apply pw_below_drewN | apply below_drew1 | refine below_set ?_ GE213.out) | exact HB.out)) hb); clear HO217; clear HO220; clear BK213; clear HB; have HO217 := n0_; have HO220 := n1_; have HO226 := n2_; have BK213 := n3_; have HB := n4_; clear n0_ n1_ n2_ n3_ n4_; clear hb ho17))
          go_loopg [42] k (fun kq v42 w' => ∃ (x5_1 : List Bool) (x42_1 : Int), v42 = .int .i64 x42_1 ∧ Aside0 (penelopelaw16_DagOrder.l0 kq x5_1 t218 (t218.length : Int) x42_1 t214 t215 = some r) ∧ Aside0 (kq ≤ k) ∧ Aside0 (Kd.R Kd.bool 4 w' w.heap.size (fun _ => True) v225 x5_1) ∧ Aside0 (Kd.R (Kd.int .i64) 3 w' w.heap.size (fun _ => True) (.slice Ao14 t218.length co14) t218) ∧ Aside0 (Kd.N k39 39 w' w.heap.size (fun k_ => (k_ ≠ gb213 ∧ some k_ ≠ ((.slice Ao14 t218.length co14) : Value).ownBlock) ∧ some k_ ≠ (v225 : Value).ownBlock) (.slice Ao12 t215.length co12) t215) ∧ Aside0 (w'.heap[gb213]? = some (.cells #[.string t214, (.slice Ao12 t215.length co12)] 24 (0, 0))) ∧ Aside0 (Below w.heap.size w w'))
          case atStart => exact ⟨(y224), (0), (by first | rfl | (simp; done) | (simp [*]; done)), H', ⟨Nat.le_refl _⟩, ⟨by (with_reducible repeat (first | apply Kd.R_alloc | apply Kd.R_drewN | apply Kd.R_drew)); exact HO226.out⟩, ⟨by (with_reducible repeat (first | apply Kd.R_alloc | apply Kd.R_drewN | apply Kd.R_drew)); exact HO220.out⟩, ⟨by (with_reducible repeat (first | apply Kd.N_alloc | apply Kd.N_drewN | apply Kd.N_drew)); exact Kd.N_mono HO217.out (fun _ hk => hk)⟩, ⟨by (with_reducible repeat (first | refine blk_drewN ?_ _ | refine blk_drew ?_ | refine blk_alloc ?_ _)); exact BK213.out⟩, ⟨by repeat (first | (with_reducible first | exact HB.out | apply below_alloc | apply pw_below_drewN | apply below_drew1 | refine below_set ?_ GE213.out) | exact HB.out)⟩⟩
          case round =>
            clear H'
            try clear c1
            try clear p2
            try clear c4
            try clear c4b0
            try clear c4b1
            try clear c5
            try clear c5b0
            try clear c5b1
            try clear c5b2
            try clear c6
            try clear c6b0
            try clear c6b1
            try clear c7
            try clear c7b0
            try clear c7b1
            try clear c8
            try clear c10
            try clear hcz11_0
            try clear hcz11_1
            try clear hcz15_0
            try clear hcz15_1
            try clear hcz9_0
            try clear hcz9_1
            try clear hfz11_0
            try clear hfz11_1
            try clear hfz15_0
            try clear hfz15_1
            try clear hfz9_0
            try clear hfz9_1
            obtain ⟨x5_1, x42_1, rfl, HA, HK1, HO_5, HO_40, HO_214001, BK213, HB⟩ := hrel
            cases gk with
            | zero => exact absurd HA.out (by simp [penelopelaw16_DagOrder.l0])
            | succ k1 =>
              have H := HA.out
              clear HA
              simp only [penelopelaw16_DagOrder.l0] at H
              by_cases c18 : x42_1 < (t218.length : Int)
              · rw [if_pos c18] at H
                have c18b0 : decide (x42_1 < (t218.length : Int)) = true := decide_eq_true c18
                clear c18
                by_cases c19 : 0 ≤ x42_1
                · rw [if_pos c19] at H
                  have c19b0 : decide (0 ≤ x42_1) = true := decide_eq_true c19
                  clear c19
                  by_cases c20 : x42_1 < (t218.length : Int)
                  · rw [if_pos c20] at H
                    have c20b0 : decide (x42_1 < (t218.length : Int)) = true := decide_eq_true c20
                    clear c20
                    have HC21 := Aside0.mk H
                    clear H
                    have p232 : 0 ≤ (x42_1 : Int) := of_decide_eq_true (by first | (with_reducible assumption) | assumption)
                    have q232 : x42_1 < (t218.length : Int) := of_decide_eq_true (by first | (with_reducible assumption) | assumption)
                    obtain ⟨ad232, e232, hx232_0⟩ := Kd.at_int (Kd.R_reads' HO_40.out).2.2 x42_1 p232 q232
                    cases e232
                    replace p232 := eq_true p232
                    replace q232 := eq_true q232
                    go_upto_region 11 with (fail)
                    go_cut [59] (fun v59 wc => ∃ (kq : Nat) (x59_20 : Bool), v59 = .bool x59_20 ∧ Aside0 (penelopelaw16_DagOrder.j1 kq x5_1 (rd t218 x42_1) t218 (t218.length : Int) x42_1 x59_20 t214 t215 = some r) ∧ Aside0 (kq ≤ k1) ∧ Aside0 (Kd.R Kd.bool 4 wc w.heap.size (fun _ => True) v225 x5_1) ∧ Aside0 (Kd.R (Kd.int .i64) 3 wc w.heap.size (fun _ => True) (.slice (some ad232) t218.length co14) t218) ∧ Aside0 (Kd.N k39 39 wc w.heap.size (fun k_ => (k_ ≠ gb213 ∧ some k_ ≠ ((.slice (some ad232) t218.length co14) : Value).ownBlock) ∧ some k_ ≠ (v225 : Value).ownBlock) (.slice Ao12 t215.length co12) t215) ∧ Aside0 (wc.heap[gb213]? = some (.cells #[.string t214, (.slice Ao12 t215.length co12)] 24 (0, 0))) ∧ Aside0 (Below w.heap.size w wc))
                    case first =>
                      have H := HC21.out
                      clear HC21
                      by_cases c22 : (rd t218 x42_1) < 0
                      · rw [if_pos c22] at H
                        have c22b0 : decide ((rd t218 x42_1) < 0) = true := decide_eq_true c22
                        clear c22
                        (first | rw [c22b0] | (simp only [i64_w, i32_w]; rw [c22b0]) | skip)
                        have H' := Aside0.mk H
                        clear H
                        go_wp2
                        go_meet
                        case rel => exact ⟨_, (true), (by first | rfl | (simp; done) | (simp [*]; done)), H', ⟨by have := HK1.out; first | omega | exact Nat.le_refl _⟩, ⟨by (with_reducible repeat (first | apply Kd.R_alloc | apply Kd.R_drewN | apply Kd.R_drew)); exact HO_5.out⟩, ⟨by (with_reducible repeat (first | apply Kd.R_alloc | apply Kd.R_drewN | apply Kd.R_drew)); exact HO_40.out⟩, ⟨by (with_reducible repeat (first | apply Kd.N_alloc | apply Kd.N_drewN | apply Kd.N_drew)); exact HO_214001.out⟩, ⟨by (with_reducible repeat (first | refine blk_drewN ?_ _ | refine blk_drew ?_ | refine blk_alloc ?_ _)); exact BK213.out⟩, ⟨by repeat (first | (with_reducible first | exact HB.out | apply below_alloc | apply pw_below_drewN | apply below_drew1 | refine below_set ?_ GE213.out) | exact HB.out)⟩⟩
                      · rw [if_neg c22] at H
                        have c22b0 : decide ((rd t218 x42_1) < 0) = false := decide_eq_false c22
                        clear c22
                        (first | rw [c22b0] | (simp only [i64_w, i32_w]; rw [c22b0]) | skip)
                        by_cases c23 : (rd t218 x42_1) ≥ (x5_1.length : Int)
                        · rw [if_pos c23] at H
                          have c23b0 : decide ((x5_1.length : Int) ≤ (rd t218 x42_1)) = true := decide_eq_true c23
                          clear c23
                          have H' := Aside0.mk H
                          clear H
                          obtain ⟨Ao24, co24, eo24⟩ := Kd.R_slice HO_5.out
                          subst eo24
                          go_wp2
                          go_meet
                          case rel => exact ⟨_, (true), (by first | rfl | (simp; done) | (simp [*]; done)), H', ⟨by have := HK1.out; first | omega | exact Nat.le_refl _⟩, ⟨by (with_reducible repeat (first | apply Kd.R_alloc | apply Kd.R_drewN | apply Kd.R_drew)); exact HO_5.out⟩, ⟨by (with_reducible repeat (first | apply Kd.R_alloc | apply Kd.R_drewN | apply Kd.R_drew)); exact HO_40.out⟩, ⟨by (with_reducible repeat (first | apply Kd.N_alloc | apply Kd.N_drewN | apply Kd.N_drew)); exact HO_214001.out⟩, ⟨by (with_reducible repeat (first | refine blk_drewN ?_ _ | refine blk_drew ?_ | refine blk_alloc ?_ _)); exact BK213.out⟩, ⟨by repeat (first | (with_reducible first | exact HB.out | apply below_alloc | apply pw_below_drewN | apply below_drew1 | refine below_set ?_ GE213.out) | exact HB.out)⟩⟩
                        · rw [if_neg c23] at H
                          have c23b0 : decide ((x5_1.length : Int) ≤ (rd t218 x42_1)) = false := decide_eq_false c23
                          clear c23
                          by_cases c25 : 0 ≤ (rd t218 x42_1)
                          · rw [if_pos c25] at H
                            have c25b0 : decide (0 ≤ (rd t218 x42_1)) = true := decide_eq_true c25
                            clear c25
                            by_cases c26 : (rd t218 x42_1) < (x5_1.length : Int)
                            · rw [if_pos c26] at H
                              have c26b0 : decide ((rd t218 x42_1) < (x5_1.length : Int)) = true := decide_eq_true c26
                              clear c26
                              have H' := Aside0.mk H
                              clear H
                              obtain ⟨Ao27, co27, eo27⟩ := Kd.R_slice HO_5.out
                              subst eo27
                              have p233 : 0 ≤ ((rd t218 x42_1) : Int) := of_decide_eq_true (by first | (with_reducible assumption) | assumption)
                              have q233 : (rd t218 x42_1) < (x5_1.length : Int) := of_decide_eq_true (by first | (with_reducible assumption) | assumption)
                              obtain ⟨ad233, e233, hx233_0⟩ := Kd.at_bool (Kd.R_reads' HO_5.out).2.2 (rd t218 x42_1) p233 q233
                              cases e233
                              replace p233 := eq_true p233
                              replace q233 := eq_true q233
                              go_wp2
                              go_meet
                              case rel => exact ⟨_, (rdOf false x5_1 (rd t218 x42_1)), (by first | rfl | (simp; done) | (simp [*]; done)), H', ⟨by have := HK1.out; first | omega | exact Nat.le_refl _⟩, ⟨by (with_reducible repeat (first | apply Kd.R_alloc | apply Kd.R_drewN | apply Kd.R_drew)); exact HO_5.out⟩, ⟨by (with_reducible repeat (first | apply Kd.R_alloc | apply Kd.R_drewN | apply Kd.R_drew)); exact HO_40.out⟩, ⟨by (with_reducible repeat (first | apply Kd.N_alloc | apply Kd.N_drewN | apply Kd.N_drew)); exact HO_214001.out⟩, ⟨by (with_reducible repeat (first | refine blk_drewN ?_ _ | refine blk_drew ?_ | refine blk_alloc ?_ _)); exact BK213.out⟩, ⟨by repeat (first | (with_reducible first | exact HB.out | apply below_alloc | apply pw_below_drewN | apply below_drew1 | refine below_set ?_ GE213.out) | exact HB.out)⟩⟩
                            · rw [if_neg c26] at H
                              exact absurd H (by simp)
                          · rw [if_neg c25] at H
                            exact absurd H (by simp)
                    case rest =>
                      clear HC21
                      try clear c1
                      try clear c2
                      try clear p2
                      try clear q2
                      try clear hx2
                      try clear c4
                      try clear c4b0
                      try clear c4b1
                      try clear c5
                      try clear c5b0
                      try clear c5b1
                      try clear c5b2
                      try clear c6
                      try clear c6b0
                      try clear c6b1
                      try clear c7
                      try clear c7b0
                      try clear c7b1
                      try clear c8
                      try clear c10
                      try clear c18
                      try clear c18b0
                      try clear c19
                      try clear c19b0
                      try clear c20
                      try clear c20b0
                      try clear c22
                      try clear c22b0
                      try clear c23
                      try clear c23b0
                      try clear p23
                      try clear q23
                      try clear hx23
                      try clear c25
                      try clear c25b0
                      try clear c26
                      try clear c26b0
                      try clear hcz11_0
                      try clear hcz11_1
                      try clear hcz15_0
                      try clear hcz15_1
                      try clear hcz9_0
                      try clear hcz9_1
                      try clear hfz11_0
                      try clear hfz11_1
                      try clear hfz15_0
                      try clear hfz15_1
                      try clear hfz9_0
                      try clear hfz9_1
                      try clear hx232_0
                      try clear hx233_0
                      try clear p2
                      try clear p232
                      try clear p233
                      try clear q232
                      try clear q233
                      obtain ⟨kq, x59_20, rfl, HA, HJ20, HO_5, HO_40, HO_214001, BK213, HB⟩ := hcut
                      cases kq with
                      | zero => exact absurd HA.out (by simp [penelopelaw16_DagOrder.j1])
                      | succ kj20 =>
                        have H := HA.out
                        clear HA
                        simp only [penelopelaw16_DagOrder.j1] at H
                        by_cases c28 : x59_20 = true
                        · subst c28
                          have H1 : (none) = some r := by rw [if_pos rfl] at H; exact H
                          clear H
                          have H := H1
                          clear H1
                          exact absurd H (by simp)
                        · replace c28 := Bool.eq_false_iff.mpr c28
                          subst c28
                          have H1 : (if 0 ≤ (rd t218 x42_1) then (if (rd t218 x42_1) < (t215.length : Int) then (penelopelaw16_DagOrder.l1 kj20 x5_1 (rd t218 x42_1) t218 (t218.length : Int) x42_1 ((rd_T39 t215 (rd t218 x42_1)).f0) (((rd_T39 t215 (rd t218 x42_1)).f0).length : Int) 0 t214 t215) else (none)) else (none)) = some r := by rw [if_neg (show ¬ (false = true) by decide)] at H; exact H
                          clear H
                          have H := H1
                          clear H1
                          by_cases c29 : 0 ≤ (rd t218 x42_1)
                          · rw [if_pos c29] at H
                            have c29b0 : decide (0 ≤ (rd t218 x42_1)) = true := decide_eq_true c29
                            clear c29
                            by_cases c30 : (rd t218 x42_1) < (t215.length : Int)
                            · rw [if_pos c30] at H
                              have c30b0 : decide ((rd t218 x42_1) < (t215.length : Int)) = true := decide_eq_true c30
                              clear c30
                              have H' := Aside0.mk H
                              clear H
                              have hcz31_0 : wc.cell? ⟨gb213, 0, none⟩ = some (.string t214) := (blk_cell BK213.out 0).trans rfl
                              have hcz31_1 : wc.cell? ⟨gb213, 1, none⟩ = some (.slice Ao12 t215.length co12) := (blk_cell BK213.out 1).trans rfl
                              have hfz31_0 := blk_frozen BK213.out 0
                              have hfz31_1 := blk_frozen BK213.out 1
                              have p234 : 0 ≤ ((rd t218 x42_1) : Int) := of_decide_eq_true (by first | (with_reducible assumption) | assumption)
                              have q234 : (rd t218 x42_1) < (t215.length : Int) := of_decide_eq_true (by first | (with_reducible assumption) | assumption)
                              obtain ⟨ad234, A234_0, c234_0, e234, hx234_0, hx234_1, hx234_2, hx234_3, hl234_0, hi234_0⟩ := at_T39 (Kd.N_reads' HO_214001.out).2.2 (rd t218 x42_1) p234 q234
                              cases e234
                              have HR234_0 := Aside0.mk hi234_0
                              have HC234_0 := Aside0.mk hl234_0
                              clear hi234_0 hl234_0
                              replace p234 := eq_true p234
                              replace q234 := eq_true q234
                              go_wp2
                              go_loopg [67] kj20 (fun kq v67 w' => ∃ (x67_3 : Int), v67 = .int .i64 x67_3 ∧ Aside0 (penelopelaw16_DagOrder.l1 kq x5_1 (rd t218 x42_1) t218 (t218.length : Int) x42_1 ((rd_T39 t215 (rd t218 x42_1)).f0) (((rd_T39 t215 (rd t218 x42_1)).f0).length : Int) x67_3 t214 t215 = some r) ∧ Aside0 (kq ≤ kj20) ∧ Aside0 (Kd.R Kd.bool 4 w' w.heap.size (fun _ => True) v225 x5_1) ∧ Aside0 (Kd.R (Kd.int .i64) 3 w' w.heap.size (fun _ => True) (.slice (some ad232) t218.length co14) t218) ∧ Aside0 (Kd.N k39 39 w' w.heap.size (fun k_ => (k_ ≠ gb213 ∧ some k_ ≠ ((.slice (some ad232) t218.length co14) : Value).ownBlock) ∧ some k_ ≠ (v225 : Value).ownBlock) (.slice (some ad234) t215.length co12) t215) ∧ Aside0 (w'.heap[gb213]? = some (.cells #[.string t214, (.slice (some ad234) t215.length co12)] 24 (0, 0))) ∧ Aside0 (Kd.C (Kd.int .i64) w' A234_0 ((rd_T39 t215 (rd t218 x42_1)).f0).length ((rd_T39 t215 (rd t218 x42_1)).f0)) ∧ Aside0 (Below w.heap.size w w'))
                              case atStart => exact ⟨(0), (by first | rfl | (simp; done) | (simp [*]; done)), H', ⟨Nat.le_refl _⟩, ⟨by (with_reducible repeat (first | apply Kd.R_alloc | apply Kd.R_drewN | apply Kd.R_drew)); exact HO_5.out⟩, ⟨by (with_reducible repeat (first | apply Kd.R_alloc | apply Kd.R_drewN | apply Kd.R_drew)); exact HO_40.out⟩, ⟨by (with_reducible repeat (first | apply Kd.N_alloc | apply Kd.N_drewN | apply Kd.N_drew)); exact HO_214001.out⟩, ⟨by (with_reducible repeat (first | refine blk_drewN ?_ _ | refine blk_drew ?_ | refine blk_alloc ?_ _)); exact BK213.out⟩, ⟨by repeat (first | (with_reducible exact HR234_0.out) | (with_reducible refine Kd.C_alloc ?_ _) | (with_reducible refine Kd.C_drewN ?_ _) | (with_reducible refine Kd.C_drew ?_) | exact HR234_0.out)⟩, ⟨by repeat (first | (with_reducible first | exact HB.out | apply below_alloc | apply pw_below_drewN | apply below_drew1 | refine below_set ?_ GE213.out) | exact HB.out)⟩⟩
                              case round =>
                                clear H'
                                try clear c1
                                try clear c2
                                try clear p2
                                try clear q2
                                try clear hx2
                                try clear c3
                                try clear c4
                                try clear c4b0
                                try clear c4b1
                                try clear c5
                                try clear c5b0
                                try clear c5b1
                                try clear c5b2
                                try clear c6
                                try clear c6b0
                                try clear c6b1
                                try clear c7
                                try clear c7b0
                                try clear c7b1
                                try clear c8
                                try clear c10
                                try clear c18
                                try clear c18b0
                                try clear c19
                                try clear c19b0
                                try clear c20
                                try clear c20b0
                                try clear c22
                                try clear c22b0
                                try clear c23
                                try clear c23b0
                                try clear p23
                                try clear q23
                                try clear hx23
                                try clear c25
                                try clear c25b0
                                try clear c26
                                try clear c26b0
                                try clear c28
                                try clear c29
                                try clear c29b0
                                try clear c30
                                try clear c30b0
                                try clear hcz11_0
                                try clear hcz11_1
                                try clear hcz15_0
                                try clear hcz15_1
                                try clear hcz31_0
                                try clear hcz31_1
                                try clear hcz9_0
                                try clear hcz9_1
                                try clear hfz11_0
                                try clear hfz11_1
                                try clear hfz15_0
                                try clear hfz15_1
                                try clear hfz31_0
                                try clear hfz31_1
                                try clear hfz9_0
                                try clear hfz9_1
                                try clear hx232_0
                                try clear hx233_0
                                try clear hx234_0
                                try clear hx234_1
                                try clear hx234_2
                                try clear hx234_3
                                try clear p2
                                try clear p23
                                try clear p232
                                try clear p233
                                try clear p234
                                try clear q2
                                try clear q23
                                try clear q232
                                try clear q233
                                try clear q234
                                obtain ⟨x67_3, rfl, HA, HK3, HO_5, HO_40, HO_214001, BK213, HR234_0, HB⟩ := hrel
                                cases gk with
                                | zero => exact absurd HA.out (by simp [penelopelaw16_DagOrder.l1])
                                | succ k3 =>
                                  have H := HA.out
                                  clear HA
                                  simp only [penelopelaw16_DagOrder.l1] at H
                                  by_cases c32 : x67_3 < (((rd_T39 t215 (rd t218 x42_1)).f0).length : Int)
                                  · rw [if_pos c32] at H
                                    have c32b0 : decide (x67_3 < (((rd_T39 t215 (rd t218 x42_1)).f0).length : Int)) = true := decide_eq_true c32
                                    clear c32
                                    by_cases c33 : 0 ≤ x67_3
                                    · rw [if_pos c33] at H
                                      have c33b0 : decide (0 ≤ x67_3) = true := decide_eq_true c33
                                      clear c33
                                      by_cases c34 : x67_3 < (((rd_T39 t215 (rd t218 x42_1)).f0).length : Int)
                                      · rw [if_pos c34] at H
                                        have c34b0 : decide (x67_3 < (((rd_T39 t215 (rd t218 x42_1)).f0).length : Int)) = true := decide_eq_true c34
                                        clear c34
                                        by_cases c35 : 0 ≤ (rd ((rd_T39 t215 (rd t218 x42_1)).f0) x67_3)
                                        · rw [if_pos c35] at H
                                          have c35b0 : decide (0 ≤ (rd ((rd_T39 t215 (rd t218 x42_1)).f0) x67_3)) = true := decide_eq_true c35
                                          clear c35
                                          by_cases c36 : (rd ((rd_T39 t215 (rd t218 x42_1)).f0) x67_3) < (x5_1.length : Int)
                                          · rw [if_pos c36] at H
                                            have c36b0 : decide ((rd ((rd_T39 t215 (rd t218 x42_1)).f0) x67_3) < (x5_1.length : Int)) = true := decide_eq_true c36
                                            clear c36
                                            obtain ⟨bq37, hbq37⟩ : ∃ b_ : Bool, b_ = (rdOf false x5_1 (rd ((rd_T39 t215 (rd t218 x42_1)).f0) x67_3)) := ⟨_, rfl⟩
                                            replace H : (if (bq37 = true) then (penelopelaw16_DagOrder.l1 k3 x5_1 (rd t218 x42_1) t218 (t218.length : Int) x42_1 ((rd_T39 t215 (rd t218 x42_1)).f0) (((rd_T39 t215 (rd t218 x42_1)).f0).length : Int) (wrap64 (x67_3 + 1)) t214 t215) else (none)) = some r := by rw [← hbq37] at H; exact H
                                            have Nbq37 := Aside0.mk hbq37
                                            clear hbq37
                                            by_cases c38 : (bq37 = true)
                                            · subst c38
                                              have H1 : (penelopelaw16_DagOrder.l1 k3 x5_1 (rd t218 x42_1) t218 (t218.length : Int) x42_1 ((rd_T39 t215 (rd t218 x42_1)).f0) (((rd_T39 t215 (rd t218 x42_1)).f0).length : Int) (wrap64 (x67_3 + 1)) t214 t215) = some r := by rw [if_pos rfl] at H; exact H
                                              clear H
                                              have H := H1
                                              clear H1
                                              have H' := Aside0.mk H
                                              clear H
                                              have p235 : 0 ≤ (x67_3 : Int) := of_decide_eq_true (by first | (with_reducible assumption) | assumption)
                                              have q235 : x67_3 < (((rd_T39 t215 (rd t218 x42_1)).f0).length : Int) := of_decide_eq_true (by first | (with_reducible assumption) | assumption)
                                              obtain ⟨ad235, e235, hx235_0⟩ := Kd.at_int HR234_0.out x67_3 p235 q235
                                              cases e235
                                              try replace hx235_0 := (HB.out.cell (World.block_lt_of_cell? w _ hx235_0)).trans hx235_0
                                              replace p235 := eq_true p235
                                              replace q235 := eq_true q235
                                              obtain ⟨Ao39, co39, eo39⟩ := Kd.R_slice HO_5.out
                                              subst eo39
                                              have p236 : 0 ≤ ((rd ((rd_T39 t215 (rd t218 x42_1)).f0) x67_3) : Int) := of_decide_eq_true (by first | (with_reducible assumption) | assumption)
                                              have q236 : (rd ((rd_T39 t215 (rd t218 x42_1)).f0) x67_3) < (x5_1.length : Int) := of_decide_eq_true (by first | (with_reducible assumption) | assumption)
                                              obtain ⟨ad236, e236, hx236_0⟩ := Kd.at_bool (Kd.R_reads' HO_5.out).2.2 (rd ((rd_T39 t215 (rd t218 x42_1)).f0) x67_3) p236 q236
                                              (try rw [← Nbq37.out] at hx236_0)
                                              cases e236
                                              replace p236 := eq_true p236
                                              replace q236 := eq_true q236
                                              go_wp2
                                              go_roundg k3
                                              case measure => have := HK1.out; have := HJ20.out; have := HK3.out; omega
                                              case rel => exact ⟨(wrap64 (x67_3 + 1)), (by first | rfl | (simp; done) | (simp [*]; done)), H', ⟨by have := HK1.out; have := HJ20.out; have := HK3.out; omega⟩, ⟨by (with_reducible repeat (first | apply Kd.R_alloc | apply Kd.R_drewN | apply Kd.R_drew)); exact HO_5.out⟩, ⟨by (with_reducible repeat (first | apply Kd.R_alloc | apply Kd.R_drewN | apply Kd.R_drew)); exact HO_40.out⟩, ⟨by (with_reducible repeat (first | apply Kd.N_alloc | apply Kd.N_drewN | apply Kd.N_drew)); exact HO_214001.out⟩, ⟨by (with_reducible repeat (first | refine blk_drewN ?_ _ | refine blk_drew ?_ | refine blk_alloc ?_ _)); exact BK213.out⟩, ⟨by repeat (first | (with_reducible exact HR234_0.out) | (with_reducible refine Kd.C_alloc ?_ _) | (with_reducible refine Kd.C_drewN ?_ _) | (with_reducible refine Kd.C_drew ?_) | exact HR234_0.out)⟩, ⟨by repeat (first | (with_reducible first | exact HB.out | apply below_alloc | apply pw_below_drewN | apply below_drew1 | refine below_set ?_ GE213.out) | exact HB.out)⟩⟩
                                            · replace c38 := Bool.eq_false_iff.mpr c38
                                              subst c38
                                              have H1 : (none) = some r := by rw [if_neg (show ¬ (false = true) by decide)] at H; exact H
                                              clear H
                                              have H := H1
                                              clear H1
                                              exact absurd H (by simp)
                                          · rw [if_neg c36] at H
                                            exact absurd H (by simp)
                                        · rw [if_neg c35] at H
                                          exact absurd H (by simp)
                                      · rw [if_neg c34] at H
                                        exact absurd H (by simp)
                                    · rw [if_neg c33] at H
                                      exact absurd H (by simp)
                                  · rw [if_neg c32] at H
                                    have c32b0 : decide (x67_3 < (((rd_T39 t215 (rd t218 x42_1)).f0).length : Int)) = false := decide_eq_false c32
                                    clear c32
                                    replace H := Option.bind_eq_some_iff.mp H
                                    obtain ⟨⟨t237, t240⟩, A400, H⟩ := H
                                    replace H : (if t240 = 0 then (if (t237.length : Int) = 0 then (none) else (if 0 < (t237.length : Int) then (if (rd t237 0) = (rd t218 x42_1) then (if 0 ≤ (rd t218 x42_1) then (if (rd t218 x42_1) < (x5_1.length : Int) then (penelopelaw16_DagOrder.l0 k3 (x5_1.set ((rd t218 x42_1) : Int).toNat true) t218 (t218.length : Int) (wrap64 (x42_1 + 1)) t214 t215) else (none)) else (none)) else (none)) else (none))) else (none)) = some r := H
                                    have A40 := Aside0.mk A400
                                    clear A400
                                    by_cases c41 : t240 = 0
                                    · rw [if_pos c41] at H
                                      have c41b0 : (t240 == 0) = true := beq_iff_eq.mpr c41
                                      have c41b1 : (t240 != 0) = false := bne_eq_false_iff_eq.mpr c41
                                      clear c41
                                      by_cases c42 : (t237.length : Int) = 0
                                      · rw [if_pos c42] at H
                                        exact absurd H (by simp)
                                      · rw [if_neg c42] at H
                                        have c42b0 : ((t237.length : Int) == 0) = false := beq_eq_false_iff_ne.mpr c42
                                        have c42b1 : ((t237.length : Int) != 0) = true := bne_iff_ne.mpr c42
                                        have c42b2 : ¬ (t237 = []) := fun h_ => c42 (by rw [h_]; rfl)
                                        by_cases c43 : 0 < (t237.length : Int)
                                        · rw [if_pos c43] at H
                                          have c43b0 : decide (0 < (t237.length : Int)) = true := decide_eq_true c43
                                          have c43b1 : decide (0 < t237.length) = true := decide_eq_true (by omega)
                                          clear c43
                                          by_cases c44 : (rd t237 0) = (rd t218 x42_1)
                                          · rw [if_pos c44] at H
                                            have c44b0 : ((rd t237 0) == (rd t218 x42_1)) = true := beq_iff_eq.mpr c44
                                            have c44b1 : ((rd t237 0) != (rd t218 x42_1)) = false := bne_eq_false_iff_eq.mpr c44
                                            clear c44
                                            by_cases c45 : 0 ≤ (rd t218 x42_1)
                                            · rw [if_pos c45] at H
                                              have c45b0 : decide (0 ≤ (rd t218 x42_1)) = true := decide_eq_true c45
                                              clear c45
                                              by_cases c46 : (rd t218 x42_1) < (x5_1.length : Int)
                                              · rw [if_pos c46] at H
                                                have c46b0 : decide ((rd t218 x42_1) < (x5_1.length : Int)) = true := decide_eq_true c46
                                                clear c46
                                                obtain ⟨y242, hy242⟩ : ∃ y_ : List Bool, y_ = (x5_1.set ((rd t218 x42_1) : Int).toNat true) := ⟨_, rfl⟩
                                                replace H : (penelopelaw16_DagOrder.l0 k3 y242 t218 (t218.length : Int) (wrap64 (x42_1 + 1)) t214 t215) = some r := by first | (rw [hy242]; with_reducible exact H) | (have H2_ := (Option.bind_some _ _).symm.trans H; rw [hy242]; with_reducible exact H2_) | (have H2_ := (Option.bind_some _ _).symm.trans H; with_reducible exact H2_) | with_reducible exact H | (rw [hy242]; exact H) | exact H
                                                have Ny242 := Aside0.mk hy242
                                                clear hy242
                                                have H' := Aside0.mk H
                                                clear H
                                                have hcz48_0 : wr.cell? ⟨gb213, 0, none⟩ = some (.string t214) := (blk_cell BK213.out 0).trans rfl
                                                have hcz48_1 : wr.cell? ⟨gb213, 1, none⟩ = some (.slice (some ad234) t215.length co12) := (blk_cell BK213.out 1).trans rfl
                                                have hfz48_0 := blk_frozen BK213.out 0
                                                have hfz48_1 := blk_frozen BK213.out 1
                                                obtain ⟨Ao49, co49, eo49⟩ := Kd.R_slice HO_5.out
                                                subst eo49
                                                go_wp2_with (first | ((with_reducible refine gate_callee (f := 11) rfl ?_); refine goesL_ (some 80) rfl rfl Try.func11 (by kernel_rfl) rfl #[.agg #[.string t214, .slice (some ad234) t215.length co12], .slice Ao49 x5_1.length co49] rfl (by (try simp only [List.map_toArray, List.map_cons, List.map_nil]); first | done | rfl | (simp only [List.length_drop, List.length_take]; rfl)) ?_; (with_reducible refine (dag_Free.calls k3 t214 _ _ t215 _ _ x5_1 t237 t240 _ ?side1 ?side2 ?side3 ?side4 A40.out).mono ?_); (case side1 => repeat (first | exact (Kd.N_reads' HO_214001.out).2.2 | (with_reducible refine Kd.C_alloc ?_ _) | (with_reducible refine Kd.C_drewN ?_ _) | (with_reducible refine Kd.C_drew ?_))); (case side2 => exact (Kd.N_reads' HO_214001.out).2.1); (case side3 => repeat (first | exact (Kd.R_reads' HO_5.out).2.2 | (with_reducible refine Kd.C_alloc ?_ _) | (with_reducible refine Kd.C_drewN ?_ _) | (with_reducible refine Kd.C_drew ?_))); (case side4 => exact (Kd.R_reads' HO_5.out).2.1); rintro e w50 ⟨v238, rfl, ho0, hb⟩; refine ⟨_, rfl, ?_⟩; have n0_ := Aside0.mk (Kd.R_below (by (with_reducible repeat (first | apply Kd.R_alloc | apply Kd.R_drewN | apply Kd.R_drew)); exact HO_5.out) hb); have n1_ := Aside0.mk (Kd.R_elder' (by (with_reducible repeat (first | apply Kd.R_alloc | apply Kd.R_drewN | apply Kd.R_drew)); exact HO_40.out) (Kd.R_base ho0) hb); have n2_ := Aside0.mk (Kd.N_elder' (by (with_reducible repeat (first | apply Kd.N_alloc | apply Kd.N_drewN | apply Kd.N_drew)); exact HO_214001.out) (Kd.R_base ho0) hb); have n3_ := Aside0.mk (Kd.R_lower (Kd.R_new' ho0 (Kd.R_lt (by (with_reducible repeat (first | apply Kd.R_alloc | apply Kd.R_drewN | apply Kd.R_drew)); exact HO_40.out))) (below_size (by repeat (first | (with_reducible first | exact HB.out | apply below_alloc | apply pw_below_drewN | apply below_drew1 | refine below_set ?_ GE213.out) | exact HB.out)))); have n4_ := Aside0.mk (blk_below (g := gb213) (o := .cells #[.string t214, .slice (some ad234) t215.length co12] 24 (0, 0)) (by (with_reducible repeat (first | refine blk_drewN ?_ _ | refine blk_drew ?_ | refine blk_alloc ?_ _)); exact BK213.out) hb); have n5_ := Aside0.mk (Kd.C_below (by repeat (first | (with_reducible exact HR234_0.out) | (with_reducible refine Kd.C_alloc ?_ _) | (with_reducible refine Kd.C_drewN ?_ _) | (with_reducible refine Kd.C_drew ?_) | exact HR234_0.out)) hb); have n6_ := Aside0.mk (below_step (by repeat (first | (with_reducible first | exact HB.out | apply below_alloc | apply pw_below_drewN | apply below_drew1 | refine below_set ?_ GE213.out) | exact HB.out)) hb); clear HO_5; clear HO_40; clear HO_214001; clear BK213; clear HR234_0; clear HB; have HO_5 := n0_; have HO_40 := n1_; have HO_214001 := n2_; have HO239 := n3_; have BK213 := n4_; have HR234_0 := n5_; have HB := n6_; clear n0_ n1_ n2_ n3_ n4_ n5_ n6_; (try clear hb); (try clear hb2); (try clear hk); (try clear hi); (try clear ho0); obtain ⟨Ao51, co51, eo51⟩ := Kd.R_slice HO239.out; subst eo51; have p241 : 0 ≤ (0 : Int) := (by omega); have q241 : 0 < (t237.length : Int) := of_decide_eq_true (by first | (with_reducible assumption) | assumption); obtain ⟨ad241, e241, hx241_0⟩ := Kd.at_int (Kd.R_reads' HO239.out).2.2 0 p241 q241; cases e241; have qi241 : (0 < t237.length) = True := eq_true (by omega); (try rw [show ((0 : Int)).toNat = 0 from rfl] at hx241_0); (try rw [Addr.add_zero'] at hx241_0); replace p241 := eq_true p241; replace q241 := eq_true q241; have p47 : 0 ≤ ((rd t218 x42_1) : Int) := of_decide_eq_true (by first | (with_reducible assumption) | assumption); have q47 : ((rd t218 x42_1) : Int) < ((x5_1.length : Int) : Int) := of_decide_eq_true (by first | (with_reducible assumption) | assumption); obtain ⟨go47, co47, eo47, gb47, gl47, cl47, HG47⟩ := Kd.R_form HO_5.out (by omega); (first | cases eo47 | (injection eo47 with ea_ en_ ec_; (first | subst ea_ | (injection ea_ with ea_; subst ea_)); subst ec_; clear en_)); have GB47 := Aside0.mk gb47; have GG47 := Aside0.mk HG47; clear gb47 gl47 HG47; obtain ⟨hx47_0, hf47_0⟩ := Kd.R_celln false HO_5.out ((rd t218 x42_1) : Int) p47 q47; replace p47 := eq_true p47; replace q47 := eq_true q47; obtain ⟨hy52_, hz52_⟩ := Kd.R_celln false HO_5.out ((rd t218 x42_1) : Int) (of_decide_eq_true (by first | (with_reducible assumption) | assumption)) (of_decide_eq_true (by first | (with_reducible assumption) | assumption)); have HP52 := Kd.R_putg HO_5.out ((rd t218 x42_1) : Int) true) | ((with_reducible refine gate_store (t := 4) (p := 99) rfl ?_); refine store_event (t := 4) (p := 99) (v := ?vo_w53) (w1 := (w50.setCell ⟨go47, ((rd t218 x42_1) : Int).toNat, none⟩ (.bool true))) ?hg ?ho ?hn ?hr ?_; (case ho => rfl); (case hg => rfl); (case hn => rfl); (case hr => first | (go_simp; done) | (go_simp; rfl)); intro w53 hw; have hg : w50.grownBy w53 (some go47) := (by rw [hw]; exact HP52.2); have hp_ : Kd.R Kd.bool 4 w53 w.heap.size (fun _ => True) (.slice (some ⟨go47, 0, none⟩) x5_1.length co49) y242 := (by rw [hw, Ny242.out]; exact HP52.1); clear HP52; have n0_ := Aside0.mk (hp_); have n1_ := Aside0.mk (Kd.R_over' (v := (.slice (some ⟨go47, 0, none⟩) x5_1.length co49)) (by (with_reducible repeat (first | apply Kd.R_alloc | apply Kd.R_drewN | apply Kd.R_drew)); exact HO_40.out) (Kd.R_typed HO_5.out) (by decide) hg); have n2_ := Aside0.mk (Kd.N_grown (ok := fun k_ => ((k_ ≠ gb213 ∧ some k_ ≠ (Value.slice (some ad232) t218.length co14).ownBlock) ∧ some k_ ≠ (Value.slice (some ⟨go47, 0, none⟩) x5_1.length co49).ownBlock) ∧ some k_ ≠ (Value.slice (some ad241) t237.length co51).ownBlock) (by (with_reducible repeat (first | apply Kd.N_alloc | apply Kd.N_drewN | apply Kd.N_drew)); exact HO_214001.out) hg (fun _ hk => hk.1.2)); have n3_ := Aside0.mk (blk_grown (g := gb213) (o := .cells #[.string t214, .slice (some ad234) t215.length co12] 24 (0, 0)) (by (with_reducible repeat (first | refine blk_drewN ?_ _ | refine blk_drew ?_ | refine blk_alloc ?_ _)); exact BK213.out) hg (Kd.R_ne HO_5.out BK213.out (by decide))); have n4_ := Aside0.mk (Kd.R_over' (v := (.slice (some ⟨go47, 0, none⟩) x5_1.length co49)) (by (with_reducible repeat (first | apply Kd.R_alloc | apply Kd.R_drewN | apply Kd.R_drew)); exact HO239.out) (Kd.R_typed HO_5.out) (by decide) hg); have n5_ := Aside0.mk ((by rw [hw]; exact below_set (HB.out) GB47.out : Below w.heap.size w w53)); clear HO_5; clear HO_40; clear HO_214001; clear BK213; clear HO239; clear HB; have HO_5 := n0_; have HO_40 := n1_; have HO_214001 := n2_; have BK213 := n3_; have HO239 := n4_; have HB := n5_; clear n0_ n1_ n2_ n3_ n4_ n5_; clear hg hw hp_))
                                                go_roundg k3
                                                case measure => have := HK1.out; have := HJ20.out; have := HK3.out; omega
                                                case rel => exact ⟨(y242), (wrap64 (x42_1 + 1)), (by first | rfl | (simp; done) | (simp [*]; done)), H', ⟨by have := HK1.out; have := HJ20.out; have := HK3.out; omega⟩, ⟨by (with_reducible repeat (first | apply Kd.R_alloc | apply Kd.R_drewN | apply Kd.R_drew)); exact HO_5.out⟩, ⟨by (with_reducible repeat (first | apply Kd.R_alloc | apply Kd.R_drewN | apply Kd.R_drew)); exact Kd.R_mono HO_40.out (fun _ hk => trivial)⟩, ⟨by (with_reducible repeat (first | apply Kd.N_alloc | apply Kd.N_drewN | apply Kd.N_drew)); exact Kd.N_mono HO_214001.out (fun _ hk => hk.1)⟩, ⟨by (with_reducible repeat (first | refine blk_drewN ?_ _ | refine blk_drew ?_ | refine blk_alloc ?_ _)); exact BK213.out⟩, ⟨by repeat (first | (with_reducible first | exact HB.out | apply below_alloc | apply pw_below_drewN | apply below_drew1 | refine below_set ?_ GE213.out) | exact HB.out)⟩⟩
                                              · rw [if_neg c46] at H
                                                exact absurd H (by simp)
                                            · rw [if_neg c45] at H
                                              exact absurd H (by simp)
                                          · rw [if_neg c44] at H
                                            exact absurd H (by simp)
                                        · rw [if_neg c43] at H
                                          exact absurd H (by simp)
                                    · rw [if_neg c41] at H
                                      exact absurd H (by simp)
                            · rw [if_neg c30] at H
                              exact absurd H (by simp)
                          · rw [if_neg c29] at H
                            exact absurd H (by simp)
                  · rw [if_neg c20] at H
                    exact absurd H (by simp)
                · rw [if_neg c19] at H
                  exact absurd H (by simp)
              · rw [if_neg c18] at H
                have c18b0 : decide (x42_1 < (t218.length : Int)) = false := decide_eq_false c18
                clear c18
                replace H := Option.bind_eq_some_iff.mp H
                obtain ⟨⟨t227, t230⟩, A540, H⟩ := H
                replace H : ((penelopelaw16_alive.f k1).bind fun t231 => (if t231 = true then (if t230 = 0 then (some ((t227.length : Int) == 0)) else (none)) else (none))) = some r := H
                have A54 := Aside0.mk A540
                clear A540
                replace H := Option.bind_eq_some_iff.mp H
                obtain ⟨t231, A550, H⟩ := H
                replace H : (if t231 = true then (if t230 = 0 then (some ((t227.length : Int) == 0)) else (none)) else (none)) = some r := H
                have A55 := Aside0.mk A550
                clear A550
                by_cases c56 : t231 = true
                · subst c56
                  have H1 : (if t230 = 0 then (some ((t227.length : Int) == 0)) else (none)) = some r := by rw [if_pos rfl] at H; exact H
                  clear H
                  have H := H1
                  clear H1
                  by_cases c57 : t230 = 0
                  · rw [if_pos c57] at H
                    have c57b0 : (t230 == 0) = true := beq_iff_eq.mpr c57
                    have c57b1 : (t230 != 0) = false := bne_eq_false_iff_eq.mpr c57
                    clear c57
                    obtain rfl := Option.some.inj H
                    have hcz58_0 : wr.cell? ⟨gb213, 0, none⟩ = some (.string t214) := (blk_cell BK213.out 0).trans rfl
                    have hcz58_1 : wr.cell? ⟨gb213, 1, none⟩ = some (.slice Ao12 t215.length co12) := (blk_cell BK213.out 1).trans rfl
                    have hfz58_0 := blk_frozen BK213.out 0
                    have hfz58_1 := blk_frozen BK213.out 1
                    obtain ⟨Ao59, co59, eo59⟩ := Kd.R_slice HO_5.out
                    subst eo59
                    go_wp2_with (first | ((with_reducible refine gate_callee (f := 11) rfl ?_); refine goesL_ (some 104) rfl rfl Try.func11 (by kernel_rfl) rfl #[.agg #[.string t214, .slice Ao12 t215.length co12], .slice Ao59 x5_1.length co59] rfl (by (try simp only [List.map_toArray, List.map_cons, List.map_nil]); first | done | rfl | (simp only [List.length_drop, List.length_take]; rfl)) ?_; (with_reducible refine (dag_Free.calls k1 t214 _ _ t215 _ _ x5_1 t227 t230 _ ?side1 ?side2 ?side3 ?side4 A54.out).mono ?_); (case side1 => repeat (first | exact (Kd.N_reads' HO_214001.out).2.2 | (with_reducible refine Kd.C_alloc ?_ _) | (with_reducible refine Kd.C_drewN ?_ _) | (with_reducible refine Kd.C_drew ?_))); (case side2 => exact (Kd.N_reads' HO_214001.out).2.1); (case side3 => repeat (first | exact (Kd.R_reads' HO_5.out).2.2 | (with_reducible refine Kd.C_alloc ?_ _) | (with_reducible refine Kd.C_drewN ?_ _) | (with_reducible refine Kd.C_drew ?_))); (case side4 => exact (Kd.R_reads' HO_5.out).2.1); rintro e w60 ⟨v228, rfl, ho0, hb⟩; refine ⟨_, rfl, ?_⟩; have n0_ := Aside0.mk (Kd.R_below (by (with_reducible repeat (first | apply Kd.R_alloc | apply Kd.R_drewN | apply Kd.R_drew)); exact HO_5.out) hb); have n1_ := Aside0.mk (Kd.R_elder' (by (with_reducible repeat (first | apply Kd.R_alloc | apply Kd.R_drewN | apply Kd.R_drew)); exact HO_40.out) (Kd.R_base ho0) hb); have n2_ := Aside0.mk (Kd.N_elder' (by (with_reducible repeat (first | apply Kd.N_alloc | apply Kd.N_drewN | apply Kd.N_drew)); exact HO_214001.out) (Kd.R_base ho0) hb); have n3_ := Aside0.mk (Kd.R_lower (Kd.R_new' ho0 (Kd.R_lt (by (with_reducible repeat (first | apply Kd.R_alloc | apply Kd.R_drewN | apply Kd.R_drew)); exact HO_40.out))) (below_size (by repeat (first | (with_reducible first | exact HB.out | apply below_alloc | apply pw_below_drewN | apply below_drew1 | refine below_set ?_ GE213.out) | exact HB.out)))); have n4_ := Aside0.mk (blk_below (g := gb213) (o := .cells #[.string t214, .slice Ao12 t215.length co12] 24 (0, 0)) (by (with_reducible repeat (first | refine blk_drewN ?_ _ | refine blk_drew ?_ | refine blk_alloc ?_ _)); exact BK213.out) hb); have n5_ := Aside0.mk (below_step (by repeat (first | (with_reducible first | exact HB.out | apply below_alloc | apply pw_below_drewN | apply below_drew1 | refine below_set ?_ GE213.out) | exact HB.out)) hb); clear HO_5; clear HO_40; clear HO_214001; clear BK213; clear HB; have HO_5 := n0_; have HO_40 := n1_; have HO_214001 := n2_; have HO229 := n3_; have BK213 := n4_; have HB := n5_; clear n0_ n1_ n2_ n3_ n4_ n5_; (try clear hb); (try clear hb2); (try clear hk); (try clear hi); (try clear ho0)) | ((with_reducible refine gate_callee (f := 13) rfl ?_); refine goesL_ (some 107) rfl rfl Try.func13 (by kernel_rfl) rfl #[] rfl (by (try simp only [List.map_toArray, List.map_cons, List.map_nil]); first | done | rfl | (simp only [List.length_drop, List.length_take]; rfl)) ?_; (with_reducible refine (penelopelaw16_alive.calls k1  true _ A55.out).mono ?_); rintro e w61 ⟨rfl, hb⟩; refine ⟨_, rfl, ?_⟩; have n0_ := Aside0.mk (Kd.R_below (by (with_reducible repeat (first | apply Kd.R_alloc | apply Kd.R_drewN | apply Kd.R_drew)); exact HO_5.out) hb); have n1_ := Aside0.mk (Kd.R_below (by (with_reducible repeat (first | apply Kd.R_alloc | apply Kd.R_drewN | apply Kd.R_drew)); exact HO_40.out) hb); have n2_ := Aside0.mk (Kd.N_below (by (with_reducible repeat (first | apply Kd.N_alloc | apply Kd.N_drewN | apply Kd.N_drew)); exact HO_214001.out) hb); have n3_ := Aside0.mk (Kd.R_below (by (with_reducible repeat (first | apply Kd.R_alloc | apply Kd.R_drewN | apply Kd.R_drew)); exact HO229.out) hb); have n4_ := Aside0.mk (blk_below (g := gb213) (o := .cells #[.string t214, .slice Ao12 t215.length co12] 24 (0, 0)) (by (with_reducible repeat (first | refine blk_drewN ?_ _ | refine blk_drew ?_ | refine blk_alloc ?_ _)); exact BK213.out) hb); have n5_ := Aside0.mk (below_step (by repeat (first | (with_reducible first | exact HB.out | apply below_alloc | apply pw_below_drewN | apply below_drew1 | refine below_set ?_ GE213.out) | exact HB.out)) hb); clear HO_5; clear HO_40; clear HO_214001; clear HO229; clear BK213; clear HB; have HO_5 := n0_; have HO_40 := n1_; have HO_214001 := n2_; have HO229 := n3_; have BK213 := n4_; have HB := n5_; clear n0_ n1_ n2_ n3_ n4_ n5_; (try clear hb); (try clear hb2); (try clear hk); (try clear hi); obtain ⟨Ao62, co62, eo62⟩ := Kd.R_slice HO229.out; subst eo62))
                    go_ret
                    exact ⟨by first | rfl | (simp [errW_none, errW_some] <;> rfl) | (simp [*, errW_none, errW_some] <;> rfl), by repeat (first | (with_reducible first | exact HB.out | apply below_alloc | apply pw_below_drewN | apply below_drew1 | refine below_set ?_ GE213.out) | exact HB.out)⟩
                  · rw [if_neg c57] at H
                    exact absurd H (by simp)
                · replace c56 := Bool.eq_false_iff.mpr c56
                  subst c56
                  have H1 : (none) = some r := by rw [if_neg (show ¬ (false = true) by decide)] at H; exact H
                  clear H
                  have H := H1
                  clear H1
                  exact absurd H (by simp)
        · rw [if_neg c7] at H
          exact absurd H (by simp)
      · rw [if_neg c6] at H
        exact absurd H (by simp)
    · rw [if_neg c5] at H
      exact absurd H (by simp)
  · rw [if_neg c4] at H
    have c4b0 : (t221 == 0) = false := beq_eq_false_iff_ne.mpr c4
    have c4b1 : (t221 != 0) = true := bne_iff_ne.mpr c4
    replace H := Option.bind_eq_some_iff.mp H
    obtain ⟨t222, A630, H⟩ := H
    replace H : (if t222 = true then ((dag_Right.f k t214 t215).bind fun t223 => (some (t221 == t223))) else (none)) = some r := H
    have A63 := Aside0.mk A630
    clear A630
    by_cases c64 : t222 = true
    · subst c64
      have H1 : ((dag_Right.f k t214 t215).bind fun t223 => (some (t221 == t223))) = some r := by rw [if_pos rfl] at H; exact H
      clear H
      have H := H1
      clear H1
      replace H := Option.bind_eq_some_iff.mp H
      obtain ⟨t223, A650, H⟩ := H
      replace H : (some (t221 == t223)) = some r := H
      have A65 := Aside0.mk A650
      clear A650
      obtain rfl := Option.some.inj H
      go_enter Try.func4, Try.ntmps4
      go_wp2_with (first | ((with_reducible refine gate_dst (N := 1) rfl ?_); (try (refine gate_guard (by rfl) ?_; dsimp only)); refine box_event ?hg (N := 1) ?hd (cs := #[.string a0_0, .slice A0_1 l0_1.length c0_1]) (t := 24) ?hr ?_; (case hd => rfl); (case hg => rfl); (case hr => first | (go_simp; done) | (go_simp; rfl)); intro gb213 hg w66 hbox hb; have n0_ := Aside0.mk (below_step (by repeat (first | (with_reducible first | exact HB.out | apply below_alloc | apply pw_below_drewN | apply below_drew1) | exact HB.out)) hb); have n1_ := Aside0.mk (hbox); have n2_ := Aside0.mk ((by rw [hg]; exact (below_size (by repeat (first | (with_reducible first | exact HB.out | apply below_alloc | apply pw_below_drewN | apply below_drew1) | exact HB.out))) : w.heap.size ≤ gb213)); have n3_ := Aside0.mk ((by rw [hg]; exact (below_size (by repeat (first | (with_reducible first | exact HB.out | apply below_alloc | apply pw_below_drewN | apply below_drew1) | exact HB.out))) : w.heap.size ≤ gb213)); clear HB; have HB := n0_; have BK213 := n1_; have GW213 := n2_; have GE213 := n3_; clear n0_ n1_ n2_ n3_; clear hb hbox hg; have hcz67_0 : w66.cell? ⟨gb213, 0, none⟩ = some (.string a0_0) := (blk_cell BK213.out 0).trans rfl; have hcz67_1 : w66.cell? ⟨gb213, 1, none⟩ = some (.slice A0_1 l0_1.length c0_1) := (blk_cell BK213.out 1).trans rfl; have hfz67_0 := blk_frozen BK213.out 0; have hfz67_1 := blk_frozen BK213.out 1) | ((with_reducible refine gate_callee (f := 8) rfl ?_); refine goesL_ (some 15) rfl rfl Try.func8 (by kernel_rfl) rfl #[.agg #[.string a0_0, .slice A0_1 l0_1.length c0_1]] rfl (by (try simp only [List.map_toArray, List.map_cons, List.map_nil]); first | done | rfl | (simp only [List.length_drop, List.length_take]; rfl)) ?_; (with_reducible refine (penelopelaw16_few.calls k a0_0 _ _ l0_1 t214 t215 gb213 w _ ?side1 ?hw_ ?hq1_ ?hq2_ ?side2 A2.out).mono ?_); (case side1 => exact HR0_1.out); (case hw_ => exact (by repeat (first | (with_reducible first | exact HB.out | apply below_alloc | apply pw_below_drewN | apply below_drew1 | refine below_set ?_ GE213.out) | exact HB.out))); (case hq1_ => exact GE213.out); (case hq2_ => exact blk_lt (by (with_reducible repeat (first | refine blk_drewN ?_ _ | refine blk_drew ?_ | refine blk_alloc ?_ _)); exact BK213.out)); (case side2 => exact HC0_1.out); rintro e w68 ⟨v216, rfl, ho0, hb⟩; refine ⟨_, rfl, ?_⟩; have n0_ := Aside0.mk (Kd.N_lower ho0 (below_size (by repeat (first | (with_reducible first | exact HB.out | apply below_alloc | apply pw_below_drewN | apply below_drew1 | refine below_set ?_ GE213.out) | exact HB.out)))); have n1_ := Aside0.mk (blk_below (g := gb213) (o := .cells #[.string a0_0, .slice A0_1 l0_1.length c0_1] 24 (0, 0)) (by (with_reducible repeat (first | refine blk_drewN ?_ _ | refine blk_drew ?_ | refine blk_alloc ?_ _)); exact BK213.out) hb); have n2_ := Aside0.mk (below_step (by repeat (first | (with_reducible first | exact HB.out | apply below_alloc | apply pw_below_drewN | apply below_drew1 | refine below_set ?_ GE213.out) | exact HB.out)) hb); clear BK213; clear HB; have HO217 := n0_; have BK213 := n1_; have HB := n2_; clear n0_ n1_ n2_; (try clear hb); (try clear hb2); (try clear hk); (try clear hi); (try clear ho0); have hcz69_0 : w68.cell? ⟨gb213, 0, none⟩ = some (.string a0_0) := (blk_cell BK213.out 0).trans rfl; have hcz69_1 : w68.cell? ⟨gb213, 1, none⟩ = some (.slice A0_1 l0_1.length c0_1) := (blk_cell BK213.out 1).trans rfl; have hfz69_0 := blk_frozen BK213.out 0; have hfz69_1 := blk_frozen BK213.out 1; obtain ⟨Ao70, co70, eo70⟩ := Kd.N_slice HO217.out; subst eo70) | ((with_reducible refine gate_callee (f := 10) rfl ?_); refine goesL_ (some 18) rfl rfl Try.func10 (by kernel_rfl) rfl #[.agg #[.string t214, .slice Ao70 t215.length co70]] rfl (by (try simp only [List.map_toArray, List.map_cons, List.map_nil]); first | done | rfl | (simp only [List.length_drop, List.length_take]; rfl)) ?_; (with_reducible refine (dag_Order.calls k t214 _ _ t215 t218 t221 _ ?side1 ?side2 A3.out).mono ?_); (case side1 => refine (Kd.N_reads' (e := 39) (base := w.heap.size) (ok := fun k_ => k_ ≠ gb213) (n := t215.length) (c := co70) ?_).2.2; exact (by (with_reducible repeat (first | apply Kd.N_alloc | apply Kd.N_drewN | apply Kd.N_drew)); exact (Kd.N_mono (Kd.N_far (p := ⟨gb213, 1, none⟩) (Kd.N_far (p := ⟨gb213, 0, none⟩) HO217.out (fun _ hk => hk) (.string t214)) (fun _ hk => hk) (.slice Ao70 t215.length co70)) (fun _ h_ => h_)))); (case side2 => exact (Kd.N_reads' HO217.out).2.1); rintro e w71 ⟨v219, rfl, ho0, hb⟩; refine ⟨_, rfl, ?_⟩; have n0_ := Aside0.mk (Kd.N_elder' (by (with_reducible repeat (first | apply Kd.N_alloc | apply Kd.N_drewN | apply Kd.N_drew)); exact (Kd.N_mono (Kd.N_far (p := ⟨gb213, 1, none⟩) (Kd.N_far (p := ⟨gb213, 0, none⟩) HO217.out (fun _ hk => hk) (.string t214)) (fun _ hk => hk) (.slice Ao70 t215.length co70)) (fun _ h_ => h_))) (Kd.R_base ho0) hb); have n1_ := Aside0.mk (Kd.R_lower ho0 (below_size (by repeat (first | (with_reducible first | exact HB.out | apply below_alloc | apply pw_below_drewN | apply below_drew1 | refine below_set ?_ GE213.out) | exact HB.out)))); have n2_ := Aside0.mk (blk_below (g := gb213) (o := .cells #[.string t214, .slice Ao70 t215.length co70] 24 (0, 0)) (by (with_reducible repeat (first | refine blk_drewN ?_ _ | refine blk_drew ?_ | refine blk_alloc ?_ _)); refine blk_put (cs := #[.string t214, .slice A0_1 l0_1.length c0_1]) ?_ 1 _ rfl; (with_reducible repeat (first | refine blk_drewN ?_ _ | refine blk_drew ?_ | refine blk_alloc ?_ _)); refine blk_put (cs := #[.string a0_0, .slice A0_1 l0_1.length c0_1]) ?_ 0 _ rfl; (with_reducible repeat (first | refine blk_drewN ?_ _ | refine blk_drew ?_ | refine blk_alloc ?_ _)); exact BK213.out) hb); have n3_ := Aside0.mk (below_step (by repeat (first | (with_reducible first | exact HB.out | apply below_alloc | apply pw_below_drewN | apply below_drew1 | refine below_set ?_ GE213.out) | exact HB.out)) hb); clear HO217; clear BK213; clear HB; have HO217 := n0_; have HO220 := n1_; have BK213 := n2_; have HB := n3_; clear n0_ n1_ n2_ n3_; (try clear hb); (try clear hb2); (try clear hk); (try clear hi); (try clear ho0)) | ((with_reducible refine gate_callee (f := 13) rfl ?_); refine goesL_ (some 23) rfl rfl Try.func13 (by kernel_rfl) rfl #[] rfl (by (try simp only [List.map_toArray, List.map_cons, List.map_nil]); first | done | rfl | (simp only [List.length_drop, List.length_take]; rfl)) ?_; (with_reducible refine (penelopelaw16_alive.calls k  true _ A63.out).mono ?_); rintro e w72 ⟨rfl, hb⟩; refine ⟨_, rfl, ?_⟩; have n0_ := Aside0.mk (Kd.N_below (by (with_reducible repeat (first | apply Kd.N_alloc | apply Kd.N_drewN | apply Kd.N_drew)); exact HO217.out) hb); have n1_ := Aside0.mk (Kd.R_below (by (with_reducible repeat (first | apply Kd.R_alloc | apply Kd.R_drewN | apply Kd.R_drew)); exact HO220.out) hb); have n2_ := Aside0.mk (blk_below (g := gb213) (o := .cells #[.string t214, .slice Ao70 t215.length co70] 24 (0, 0)) (by (with_reducible repeat (first | refine blk_drewN ?_ _ | refine blk_drew ?_ | refine blk_alloc ?_ _)); exact BK213.out) hb); have n3_ := Aside0.mk (below_step (by repeat (first | (with_reducible first | exact HB.out | apply below_alloc | apply pw_below_drewN | apply below_drew1 | refine below_set ?_ GE213.out) | exact HB.out)) hb); clear HO217; clear HO220; clear BK213; clear HB; have HO217 := n0_; have HO220 := n1_; have BK213 := n2_; have HB := n3_; clear n0_ n1_ n2_ n3_; (try clear hb); (try clear hb2); (try clear hk); (try clear hi); have hcz73_0 : w72.cell? ⟨gb213, 0, none⟩ = some (.string t214) := (blk_cell BK213.out 0).trans rfl; have hcz73_1 : w72.cell? ⟨gb213, 1, none⟩ = some (.slice Ao70 t215.length co70) := (blk_cell BK213.out 1).trans rfl; have hfz73_0 := blk_frozen BK213.out 0; have hfz73_1 := blk_frozen BK213.out 1) | (go_at_call 12; (with_reducible refine (dag_Right.calls k t214 _ _ t215 t223 _ ?side1 ?side2 A65.out).mono ?_); (case side1 => repeat (first | exact (Kd.N_reads' HO217.out).2.2 | (with_reducible refine Kd.C_alloc ?_ _) | (with_reducible refine Kd.C_drewN ?_ _) | (with_reducible refine Kd.C_drew ?_))); (case side2 => exact (Kd.N_reads' HO217.out).2.1); rintro e w74 ⟨rfl, hb⟩; have n0_ := Aside0.mk (Kd.N_below (by (with_reducible repeat (first | apply Kd.N_alloc | apply Kd.N_drewN | apply Kd.N_drew)); exact HO217.out) hb); have n1_ := Aside0.mk (Kd.R_below (by (with_reducible repeat (first | apply Kd.R_alloc | apply Kd.R_drewN | apply Kd.R_drew)); exact HO220.out) hb); have n2_ := Aside0.mk (blk_below (g := gb213) (o := .cells #[.string t214, .slice Ao70 t215.length co70] 24 (0, 0)) (by (with_reducible repeat (first | refine blk_drewN ?_ _ | refine blk_drew ?_ | refine blk_alloc ?_ _)); exact BK213.out) hb); have n3_ := Aside0.mk (below_step (by repeat (first | (with_reducible first | exact HB.out | apply below_alloc | apply pw_below_drewN | apply below_drew1 | refine below_set ?_ GE213.out) | exact HB.out)) hb); clear HO217; clear HO220; clear BK213; clear HB; have HO217 := n0_; have HO220 := n1_; have BK213 := n2_; have HB := n3_; clear n0_ n1_ n2_ n3_; (try clear hb); (try clear hb2); (try clear hk); (try clear hi)))
      go_ret
      exact ⟨by first | rfl | (simp [errW_none, errW_some] <;> rfl) | (simp [*, errW_none, errW_some] <;> rfl), by repeat (first | (with_reducible first | exact HB.out | apply below_alloc | apply pw_below_drewN | apply below_drew1 | refine below_set ?_ GE213.out) | exact HB.out)⟩
    · replace c64 := Bool.eq_false_iff.mpr c64
      subst c64
      have H1 : (none) = some r := by rw [if_neg (show ¬ (false = true) by decide)] at H; exact H
      clear H
      have H := H1
      clear H1
      exact absurd H (by simp)

end Go.Proofs.Ytbgmhcefjggpgaa.X
