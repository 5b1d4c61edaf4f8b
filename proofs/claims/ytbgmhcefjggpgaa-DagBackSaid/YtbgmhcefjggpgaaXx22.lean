-- laid by a program of this session (wip/tools/xprint.py), function by function; Lean checks it
import Derived.Test.YtbgmhcefjggpgaaXx0
import Derived.Test.YtbgmhcefjggpgaaXDGet
import Derived.Test.YtbgmhcefjggpgaaXFew
import Derived.Test.YtbgmhcefjggpgaaXPut
import Derived.Test.YtbgmhcefjggpgaaXRight
import Derived.Test.YtbgmhcefjggpgaaXx7
import Derived.Test.YtbgmhcefjggpgaaXx20
namespace Go.Proofs.Ytbgmhcefjggpgaa.X
open Go.RowKit Go.Proofs.YtbgmhcefjggpgaaW.PrintWords Go.Proofs.YtbgmhcefjggpgaaW.PrintLast Go.Proofs.YtbgmhcefjggpgaaW.PrintMore
attribute [local go_sem] max2_int min2_int max_two min_two max_three min_three max_four min_four   -- for this text's walks alone
set_option linter.unusedVariables false
set_option linter.unusedSimpArgs false

/-! ### penelopelaw16_DagBack: function 7 -/
def penelopelaw16_DagBack.j0 : Nat → ByteArray → Option (Bool)
  | 0, _ => none
  | k + 1, x1 => (dag_Get.f k x1).bind fun bt314 => (if bt314.2.2 = 0 then ((dag_Put.f k bt314.1 bt314.2.1).bind fun bt320 => ((penelopelaw16_alive.f k).bind fun t322 => (if t322 = true then (if bt320.2 = 0 then (if bt320.1.toList = x1.toList then ((dag_Right.f k bt314.1 bt314.2.1).bind fun t323 => (some (t323 == 0))) else (none)) else (none)) else (none)))) else ((penelopelaw16_alive.f k).bind fun t324 => (if t324 = true then ((peneloperef16_Like.f k bt314.1 bt314.2.1 (⟨#[]⟩ : ByteArray) ([] : List (S39))).bind fun t325 => (some t325)) else (none))))
def penelopelaw16_DagBack.f (k : Nat) (a0_0 : ByteArray) (l0_1 : List (S39)) (a1 : ByteArray) : Option (Bool) := (penelopelaw16_few.f k a0_0 l0_1).bind fun bt301 => (if 0 ≤ (mn (a1.size : Int) 2000) then (if (mn (a1.size : Int) 2000) ≤ (a1.size : Int) then ((dag_Put.f k bt301.1 bt301.2).bind fun bt305 => (if bt305.2 = 0 then ((dag_Get.f k bt305.1).bind fun bt307 => (if bt307.2.2 = 0 then ((peneloperef16_Like.f k bt307.1 bt307.2.1 bt301.1 bt301.2).bind fun t313 => (if t313 = true then (if (bt305.1.size : Int) > 200 then (none) else (penelopelaw16_DagBack.j0 k (a1.extract 0 ((mn (a1.size : Int) 2000) : Int).toNat))) else (none))) else (none))) else (penelopelaw16_DagBack.j0 k (a1.extract 0 ((mn (a1.size : Int) 2000) : Int).toNat)))) else (none)) else (none))
theorem penelopelaw16_DagBack.mono_l : ∀ k, (∀ y0, LeO (penelopelaw16_DagBack.j0 k y0) (penelopelaw16_DagBack.j0 (k + 1) y0))
  | 0 => fun _ r h => by simp [penelopelaw16_DagBack.j0] at h
  | k + 1 => by
    have ih0 := penelopelaw16_DagBack.mono_l k
    · intro y0
      unfold penelopelaw16_DagBack.j0
      repeat' first
      | (with_reducible exact ih0 _)
      | (with_reducible exact dag_Get.mono _ _)
      | (with_reducible exact dag_Put.mono _ _ _)
      | (with_reducible exact dag_Right.mono _ _ _)
      | (with_reducible exact penelopelaw16_alive.mono _)
      | (with_reducible exact penelopelaw16_few.mono _ _ _)
      | (with_reducible exact peneloperef16_Like.mono _ _ _ _ _)
      | (with_reducible exact LeO.refl _)
      | (with_reducible exact LeO.none _)
      | (with_reducible refine LeO.ite ?_ ?_)
      | (with_reducible refine LeO.bind ?_ (fun _ => ?_))
      | exact ih0 _
      | exact dag_Get.mono _ _
      | exact dag_Put.mono _ _ _
      | exact dag_Right.mono _ _ _
      | exact penelopelaw16_alive.mono _
      | exact penelopelaw16_few.mono _ _ _
      | exact peneloperef16_Like.mono _ _ _ _ _
      | exact LeO.none _
      | refine LeO.ite ?_ ?_
      | refine LeO.bind ?_ (fun _ => ?_)
theorem penelopelaw16_DagBack.mono : ∀ a0 a1 a2 k, LeO (penelopelaw16_DagBack.f k a0 a1 a2) (penelopelaw16_DagBack.f (k + 1) a0 a1 a2) := by
  intro a0 a1 a2 k
  have ih0 := penelopelaw16_DagBack.mono_l k
  unfold penelopelaw16_DagBack.f
  repeat' first
      | (with_reducible exact ih0 _)
      | (with_reducible exact dag_Get.mono _ _)
      | (with_reducible exact dag_Put.mono _ _ _)
      | (with_reducible exact dag_Right.mono _ _ _)
      | (with_reducible exact penelopelaw16_alive.mono _)
      | (with_reducible exact penelopelaw16_few.mono _ _ _)
      | (with_reducible exact peneloperef16_Like.mono _ _ _ _ _)
      | (with_reducible exact LeO.refl _)
      | (with_reducible exact LeO.none _)
      | (with_reducible refine LeO.ite ?_ ?_)
      | (with_reducible refine LeO.bind ?_ (fun _ => ?_))
      | exact ih0 _
      | exact dag_Get.mono _ _
      | exact dag_Put.mono _ _ _
      | exact dag_Right.mono _ _ _
      | exact penelopelaw16_alive.mono _
      | exact penelopelaw16_few.mono _ _ _
      | exact peneloperef16_Like.mono _ _ _ _ _
      | exact LeO.none _
      | refine LeO.ite ?_ ?_
      | refine LeO.bind ?_ (fun _ => ?_)
def penelopelaw16_DagBack.T1 : Bool × List (List Nat × List Nat) := (true, [([], []), ([0], [0]), ([], []), ([], []), ([3], [3]), ([4], [4]), ([2, 5], [2, 5]), ([1, 1, 0, 1], [1]), ([6, 7, 0, 1, 2, 3, 4, 5, 6, 7], [2, 3, 6])])
def penelopelaw16_DagBack.B1 : List Nat := [0, 1, 0, 0, 8, 24, 60, 3, 255]
theorem penelopelaw16_DagBack.tab1 : rtab .any (opsOf Try.f7 1) = penelopelaw16_DagBack.T1 := by kernel_rfl
theorem penelopelaw16_DagBack.bits1 : waitsOk penelopelaw16_DagBack.T1.2 penelopelaw16_DagBack.B1 = true := by kernel_rfl
set_option maxHeartbeats 8000000 in
set_option maxRecDepth 100000 in
theorem penelopelaw16_DagBack.calls (k : Nat) (a0_0 : ByteArray) (A0_1 : Option Addr) (c0_1 : Nat) (l0_1 : List (S39)) (a1 : ByteArray) (r : Bool) (w : World) (hr0_1 : Kd.C k39 w A0_1 l0_1.length l0_1) (hc0_1 : l0_1.length ≤ c0_1) (h : penelopelaw16_DagBack.f k a0_0 l0_1 a1 = some r) :
    Calls Try.prog 7 #[.agg #[.string a0_0, .slice A0_1 l0_1.length c0_1], .string a1] w fun e w' => e = .returned (.bool r) ∧ Below w.heap.size w w' := by
  have hu24 := Try.underlying24
  have HR0_1 := Aside0.mk hr0_1
  have HC0_1 := Aside0.mk hc0_1
  clear hr0_1 hc0_1
  have HB := Aside0.mk (Below.refl w.heap.size w)
  have H : ((penelopelaw16_few.f k a0_0 l0_1).bind fun bt301 => (if 0 ≤ (mn (a1.size : Int) 2000) then (if (mn (a1.size : Int) 2000) ≤ (a1.size : Int) then ((dag_Put.f k bt301.1 bt301.2).bind fun bt305 => (if bt305.2 = 0 then ((dag_Get.f k bt305.1).bind fun bt307 => (if bt307.2.2 = 0 then ((peneloperef16_Like.f k bt307.1 bt307.2.1 bt301.1 bt301.2).bind fun t313 => (if t313 = true then (if (bt305.1.size : Int) > 200 then (none) else (penelopelaw16_DagBack.j0 k (a1.extract 0 ((mn (a1.size : Int) 2000) : Int).toNat))) else (none))) else (none))) else (penelopelaw16_DagBack.j0 k (a1.extract 0 ((mn (a1.size : Int) 2000) : Int).toNat)))) else (none)) else (none))) = some r := h
  clear h
  replace H := Option.bind_eq_some_iff.mp H
  obtain ⟨⟨t301, t302⟩, A30, H⟩ := H
  replace H : (if 0 ≤ (mn (a1.size : Int) 2000) then (if (mn (a1.size : Int) 2000) ≤ (a1.size : Int) then ((dag_Put.f k t301 t302).bind fun bt305 => (if bt305.2 = 0 then ((dag_Get.f k bt305.1).bind fun bt307 => (if bt307.2.2 = 0 then ((peneloperef16_Like.f k bt307.1 bt307.2.1 t301 t302).bind fun t313 => (if t313 = true then (if (bt305.1.size : Int) > 200 then (none) else (penelopelaw16_DagBack.j0 k (a1.extract 0 ((mn (a1.size : Int) 2000) : Int).toNat))) else (none))) else (none))) else (penelopelaw16_DagBack.j0 k (a1.extract 0 ((mn (a1.size : Int) 2000) : Int).toNat)))) else (none)) else (none)) = some r := H
  have A3 := Aside0.mk A30
  clear A30
  obtain ⟨ji4, hji4⟩ : ∃ j_ : Int, (mn (a1.size : Int) 2000) = j_ := ⟨_, rfl⟩
  replace H : (if 0 ≤ (ji4) then (if (ji4) ≤ (a1.size : Int) then ((dag_Put.f k t301 t302).bind fun bt305 => (if bt305.2 = 0 then ((dag_Get.f k bt305.1).bind fun bt307 => (if bt307.2.2 = 0 then ((peneloperef16_Like.f k bt307.1 bt307.2.1 t301 t302).bind fun t313 => (if t313 = true then (if (bt305.1.size : Int) > 200 then (none) else (penelopelaw16_DagBack.j0 k (a1.extract 0 ((ji4) : Int).toNat))) else (none))) else (none))) else (penelopelaw16_DagBack.j0 k (a1.extract 0 ((ji4) : Int).toNat)))) else (none)) else (none)) = some r := by first | (rw [hji4] at H; exact H) | (simp only [hji4] at H ⊢; exact H)
  (try rw [hji4] at A3)
  (try (have hji4h : ji4 ≤ 2000 := by (rw [← hji4]; unfold mn; (repeat' split) <;> omega)))
  (try (have hji4g : ji4 ≤ 64 := by omega))
  (try (have hji4l : 0 ≤ ji4 := by (rw [← hji4]; unfold mn; (repeat' split) <;> omega)))
  (try (have hji4m : 0 ≤ ji4 := by omega))
  have hji4_ : (if 2000 < (a1.size : Int) then 2000 else (a1.size : Int)) = ji4 := hji4
  by_cases c5 : 0 ≤ (ji4)
  · rw [if_pos c5] at H
    have c5b0 := eq_true c5
    have c5b1 : decide (0 ≤ (ji4)) = true := decide_eq_true c5
    clear c5
    by_cases c6 : (ji4) ≤ (a1.size : Int)
    · rw [if_pos c6] at H
      have c6b0 := eq_true c6
      have c6b1 : decide ((ji4) ≤ (a1.size : Int)) = true := decide_eq_true c6
      clear c6
      replace H := Option.bind_eq_some_iff.mp H
      obtain ⟨⟨t305, t306⟩, A70, H⟩ := H
      replace H : (if t306 = 0 then ((dag_Get.f k t305).bind fun bt307 => (if bt307.2.2 = 0 then ((peneloperef16_Like.f k bt307.1 bt307.2.1 t301 t302).bind fun t313 => (if t313 = true then (if (t305.size : Int) > 200 then (none) else (penelopelaw16_DagBack.j0 k (a1.extract 0 ((ji4) : Int).toNat))) else (none))) else (none))) else (penelopelaw16_DagBack.j0 k (a1.extract 0 ((ji4) : Int).toNat))) = some r := H
      have A7 := Aside0.mk A70
      clear A70
      have HC8 := Aside0.mk H
      clear H
      go_enter Try.func7, Try.ntmps7
      try go_wp2_with (first | ((with_reducible refine gate_dst (N := 2) rfl ?_); (try (refine gate_guard (by rfl) ?_; dsimp only)); refine box_event ?hg (N := 2) ?hd (cs := #[.string a0_0, .slice A0_1 l0_1.length c0_1]) (t := 24) ?hr ?_; (case hd => rfl); (case hg => rfl); (case hr => first | (go_simp; done) | (go_simp; rfl)); intro gb300 hg w9 hbox hb; have n0_ := Aside0.mk (below_step (by repeat (first | (with_reducible first | exact HB.out | apply below_alloc | apply pw_below_drewN | apply below_drew1) | exact HB.out)) hb); have n1_ := Aside0.mk (hbox); have n2_ := Aside0.mk ((by rw [hg]; exact (below_size (by repeat (first | (with_reducible first | exact HB.out | apply below_alloc | apply pw_below_drewN | apply below_drew1) | exact HB.out))) : w.heap.size ≤ gb300)); have n3_ := Aside0.mk ((by rw [hg]; exact (below_size (by repeat (first | (with_reducible first | exact HB.out | apply below_alloc | apply pw_below_drewN | apply below_drew1) | exact HB.out))) : w.heap.size ≤ gb300)); clear HB; have HB := n0_; have BK300 := n1_; have GW300 := n2_; have GE300 := n3_; clear n0_ n1_ n2_ n3_; clear hb hbox hg))
      have n0_ := Aside0.mk (blk_drew BK300.out)
      have n1_ := Aside0.mk (below_drew1 HB.out)
      clear BK300
      clear HB
      have BK300 := n0_
      have HB := n1_
      clear n0_ n1_
      refine start_ (n := 9) (S := fun w' => w'.cell? ⟨gb300, 0, none⟩ = some (.string a0_0) ∧ w'.cell? ⟨gb300, 1, none⟩ = some (.slice A0_1 l0_1.length c0_1)) (ds := [7]) #[false, false, false, false, false, false, false, false, false] (by kernel_rfl) rfl rfl ⟨(blk_cell BK300.out 0).trans rfl, (blk_cell BK300.out 1).trans rfl⟩ (fun hHeld => ?_); refine with_tabW penelopelaw16_DagBack.tab1 penelopelaw16_DagBack.bits1 (fun HT_ HW_ => ?_)
      generalize w9.drew = w10 at BK300 HB hHeld ⊢
      refine pure_ (i := 2) (N := some 15) (v := ?_) (a' := ?_) #[false, false, true, false, false, false, false, false, false] rfl rfl (any_of HT_.out (by kernel_rfl)) (fun _ _ _ h => h) (Or.inl ⟨by rfl, ?_⟩) ?_ ?_
      rotate_left
      · intro w'
        go_simp
        with_reducible rfl
      rotate_left
      · simp only [Act.put, List.setIfInBounds_toArray, List.set_cons_zero, List.set_cons_succ, i64_w, i32_w]
        rfl
      refine pure_ (i := 3) (N := some 16) (v := ?_) (a' := ?_) #[false, false, true, true, false, false, false, false, false] rfl rfl (any_of HT_.out (by kernel_rfl)) (fun _ _ _ h => h) (Or.inl ⟨by rfl, ?_⟩) ?_ ?_
      rotate_left
      · intro w'
        go_simp
        with_reducible rfl
      rotate_left
      · simp only [Act.put, List.setIfInBounds_toArray, List.set_cons_zero, List.set_cons_succ, i64_w, i32_w]
        rfl
      refine pure_ (i := 4) (N := some 17) (v := ?_) (a' := ?_) #[false, false, true, true, true, false, false, false, false] rfl rfl (any_of HT_.out (by kernel_rfl)) (fun _ _ _ h => h) (Or.inl ⟨by rfl, ?_⟩) ?_ ?_
      rotate_left
      · intro w'
        go_simp
        with_reducible rfl
      rotate_left
      · simp only [Act.put, List.setIfInBounds_toArray, List.set_cons_zero, List.set_cons_succ, i64_w, i32_w]
        rfl
      refine pure_ (i := 5) (N := some 18) (v := ?_) (a' := ?_) #[false, false, true, true, true, true, false, false, false] rfl rfl (any_of HT_.out (by kernel_rfl)) (fun _ _ _ h => h) (Or.inl ⟨by rfl, ?_⟩) ?_ ?_
      rotate_left
      · intro w'
        go_simp
        with_reducible rfl
      rotate_left
      · simp only [Act.put, List.setIfInBounds_toArray, List.set_cons_zero, List.set_cons_succ, i64_w, i32_w]
        rfl
      refine pure_ (i := 6) (N := some 19) (v := ?_) (a' := ?_) #[false, false, true, true, true, true, true, false, false] rfl rfl (any_of HT_.out (by kernel_rfl)) (fun _ _ _ h => h) (Or.inl ⟨by rfl, ?_⟩) ?_ ?_
      rotate_left
      · intro w'
        go_simp
        with_reducible rfl
      rotate_left
      · simp only [Act.put, List.setIfInBounds_toArray, List.set_cons_zero, List.set_cons_succ, i64_w, i32_w]
        rfl
      refine take_ (i := 0) (N := some 13) (v := ?_) (a' := ?_) #[true, false, true, true, true, true, true, false, false] rfl rfl (take_ofW HT_.out HW_.out (by kernel_rfl)) (fun _ _ _ h => h) (Or.inl ⟨by rfl, ?_⟩) hHeld ?_ ?_
      rotate_left
      · rintro w' ⟨s0, s1⟩
        go_simp
        with_reducible rfl
      rotate_left
      · simp only [Act.put, List.setIfInBounds_toArray, List.set_cons_zero, List.set_cons_succ, i64_w, i32_w]
        rfl
      refine one_ (i := 1) (N := some 14) #[true, true, true, true, true, true, true, false, false] rfl rfl (one_of HT_.out (by kernel_rfl)) (by decide) (fun K hK => ?_)
      refine goes_ Try.func8 (by kernel_rfl) rfl #[.agg #[.string a0_0, .slice A0_1 l0_1.length c0_1]] (by rfl) rfl rfl (by (try simp only [List.map_toArray, List.map_cons, List.map_nil]); first | done | rfl | (simp only [List.length_drop, List.length_take]; rfl)) ?_
      with_reducible refine (penelopelaw16_few.calls k a0_0 _ _ l0_1 t301 t302 gb300 w _ HR0_1.out (by repeat (first | (with_reducible first | exact HB.out | apply below_alloc | apply pw_below_drewN | apply below_drew1 | refine below_set ?_ GE300.out) | exact HB.out)) GE300.out (blk_lt (o := .cells #[.string a0_0, .slice A0_1 l0_1.length c0_1] 24 (0, 0)) (by (with_reducible repeat (first | refine blk_drewN ?_ _ | refine blk_drew ?_ | refine blk_alloc ?_ _)); exact BK300.out)) HC0_1.out A3.out).mono ?_
      rintro e w11 ⟨v303, rfl, ho0, hb⟩
      refine ⟨_, rfl, ?_⟩
      have n0_ := Aside0.mk (Kd.N_lower ho0 (below_size (by repeat (first | (with_reducible first | exact HB.out | apply below_alloc | apply pw_below_drewN | apply below_drew1 | refine below_set ?_ GE300.out) | exact HB.out))))
      have n1_ := Aside0.mk (blk_below (g := gb300) (o := .cells #[.string a0_0, .slice A0_1 l0_1.length c0_1] 24 (0, 0)) (by (with_reducible repeat (first | refine blk_drewN ?_ _ | refine blk_drew ?_ | refine blk_alloc ?_ _)); exact BK300.out) hb)
      have n2_ := Aside0.mk (below_step (by repeat (first | (with_reducible first | exact HB.out | apply below_alloc | apply pw_below_drewN | apply below_drew1 | refine below_set ?_ GE300.out) | exact HB.out)) hb)
      clear BK300
      clear HB
      have HO304 := n0_
      have BK300 := n1_
      have HB := n2_
      clear n0_ n1_ n2_
      (try clear hb)
      (try clear hb2)
      (try clear hk)
      (try clear hi)
      (try clear ho0)
      obtain ⟨Ao13, co13, eo13⟩ := Kd.N_slice HO304.out
      (first | subst eo13 | (injection eo13 with f1_ f2_ f3_; have f4_ := f1_.symm; have f5_ := f3_.symm; clear f1_ f2_ f3_; subst f4_; subst f5_))
      refine hK.out _ _ ⟨(blk_cell BK300.out 0).trans rfl, (blk_cell BK300.out 1).trans rfl⟩ (fun hHeld => ?_)
      clear hK K
      refine norm_ (a' := ?_) ?_ ?_
      rotate_left
      · show Act.put _ (some 14) _ = _
        simp only [Act.put, List.setIfInBounds_toArray, List.set_cons_zero, List.set_cons_succ, i64_w, i32_w]
        rfl
      refine last_ (i := 7) (N := none) #[true, true, true, true, true, true, true, true, false] rfl rfl (one_of HT_.out (by kernel_rfl)) (by decide) (fun K hK => ?_)
      have hs12 : w11.cell? ⟨gb300, 0, none⟩ = some (.string a0_0) := (blk_cell BK300.out 0).trans rfl
      have hfs12 := blk_frozen BK300.out 0
      have hs14 : w11.cell? ⟨gb300, 1, none⟩ = some (.slice A0_1 l0_1.length c0_1) := (blk_cell BK300.out 1).trans rfl
      have hfs14 := blk_frozen BK300.out 1
      refine skip_ (w1 := ?_) (by rfl) rfl ?_ ?_
      rotate_left
      · go_simp
        rfl
      refine hK.out _ _ ?_
      clear hK K
      refine pure_ (i := 8) (N := some 1) (v := ?_) (a' := ?_) #[true, true, true, true, true, true, true, true, true] rfl rfl (any_of HT_.out (by kernel_rfl)) (fun _ _ _ h => h) (Or.inl ⟨by rfl, ?_⟩) ?_ ?_
      rotate_left
      · intro w'
        go_simp
        with_reducible rfl
      rotate_left
      · simp only [Act.put, List.setIfInBounds_toArray, List.set_cons_zero, List.set_cons_succ, i64_w, i32_w]
        rfl
      refine done_ (done_of HT_.out (by kernel_rfl)) ?_
      have hcz15_0 : w11.cell? ⟨gb300, 0, none⟩ = some (.string a0_0) := (blk_cell BK300.out 0).trans rfl
      have hcz15_1 : w11.cell? ⟨gb300, 1, none⟩ = some (.slice A0_1 l0_1.length c0_1) := (blk_cell BK300.out 1).trans rfl
      have hfz15_0 := blk_frozen BK300.out 0
      have hfz15_1 := blk_frozen BK300.out 1
      go_upto_if 26 with (first | ((with_reducible refine gate_callee (f := 17) rfl ?_); refine goesL_ (some 22) rfl rfl Try.func17 (by kernel_rfl) rfl #[.agg #[.string t301, .slice Ao13 t302.length co13]] rfl (by (try simp only [List.map_toArray, List.map_cons, List.map_nil]); first | done | rfl | (simp only [List.length_drop, List.length_take]; rfl)) ?_; (with_reducible refine (dag_Put.calls k t301 _ _ t302 t305 t306 _ ?side1 ?side2 A7.out).mono ?_); (case side1 => refine (Kd.N_reads' (e := 39) (base := w.heap.size) (ok := fun k_ => k_ ≠ gb300) (n := t302.length) (c := co13) ?_).2.2; exact (by (with_reducible repeat (first | apply Kd.N_alloc | apply Kd.N_drewN | apply Kd.N_drew)); exact (Kd.N_mono (Kd.N_far (p := ⟨gb300, 1, none⟩) (Kd.N_far (p := ⟨gb300, 0, none⟩) HO304.out (fun _ hk => hk) (.string t301)) (fun _ hk => hk) (.slice Ao13 t302.length co13)) (fun _ h_ => h_)))); (case side2 => exact (Kd.N_reads' HO304.out).2.1); rintro e w16 ⟨rfl, hb⟩; refine ⟨_, rfl, ?_⟩; have n0_ := Aside0.mk (Kd.N_below (by (with_reducible repeat (first | apply Kd.N_alloc | apply Kd.N_drewN | apply Kd.N_drew)); exact (Kd.N_mono (Kd.N_far (p := ⟨gb300, 1, none⟩) (Kd.N_far (p := ⟨gb300, 0, none⟩) HO304.out (fun _ hk => hk) (.string t301)) (fun _ hk => hk) (.slice Ao13 t302.length co13)) (fun _ h_ => h_))) hb); have n1_ := Aside0.mk (blk_below (g := gb300) (o := .cells #[.string t301, .slice Ao13 t302.length co13] 24 (0, 0)) (by (with_reducible repeat (first | refine blk_drewN ?_ _ | refine blk_drew ?_ | refine blk_alloc ?_ _)); refine blk_put (cs := #[.string t301, .slice A0_1 l0_1.length c0_1]) ?_ 1 _ rfl; (with_reducible repeat (first | refine blk_drewN ?_ _ | refine blk_drew ?_ | refine blk_alloc ?_ _)); refine blk_put (cs := #[.string a0_0, .slice A0_1 l0_1.length c0_1]) ?_ 0 _ rfl; (with_reducible repeat (first | refine blk_drewN ?_ _ | refine blk_drew ?_ | refine blk_alloc ?_ _)); exact BK300.out) hb); have n2_ := Aside0.mk (below_step (by repeat (first | (with_reducible first | exact HB.out | apply below_alloc | apply pw_below_drewN | apply below_drew1 | refine below_set ?_ GE300.out) | exact HB.out)) hb); clear HO304; clear BK300; clear HB; have HO304 := n0_; have BK300 := n1_; have HB := n2_; clear n0_ n1_ n2_; (try clear hb); (try clear hb2); (try clear hk); (try clear hi)))
      (try simp only [Act.put, List.setIfInBounds_toArray, List.set_cons_zero, List.set_cons_succ])
      go_cut [] (fun wc => ∃ (kq : Nat), Aside0 (penelopelaw16_DagBack.j0 kq (a1.extract 0 ((ji4) : Int).toNat) = some r) ∧ Aside0 (kq ≤ k) ∧ Aside0 (Kd.N k39 39 wc w.heap.size (fun k_ => k_ ≠ gb300) (.slice Ao13 t302.length co13) t302) ∧ Aside0 (wc.heap[gb300]? = some (.cells #[.string t301, (.slice Ao13 t302.length co13)] 24 (0, 0))) ∧ Aside0 (Below w.heap.size w wc))
      case first =>
        have H := HC8.out
        clear HC8
        by_cases c17 : t306 = 0
        · rw [if_pos c17] at H
          have c17b0 : (t306 == 0) = true := beq_iff_eq.mpr c17
          have c17b1 : (t306 != 0) = false := bne_eq_false_iff_eq.mpr c17
          clear c17
          (first | rw [c17b0] | (simp only [i64_w, i32_w]; rw [c17b0]) | skip)
          replace H := Option.bind_eq_some_iff.mp H
          obtain ⟨⟨t307, t308, t311⟩, A180, H⟩ := H
          replace H : (if t311 = 0 then ((peneloperef16_Like.f k t307 t308 t301 t302).bind fun t313 => (if t313 = true then (if (t305.size : Int) > 200 then (none) else (penelopelaw16_DagBack.j0 k (a1.extract 0 ((ji4) : Int).toNat))) else (none))) else (none)) = some r := H
          have A18 := Aside0.mk A180
          clear A180
          by_cases c19 : t311 = 0
          · rw [if_pos c19] at H
            have c19b0 : (t311 == 0) = true := beq_iff_eq.mpr c19
            have c19b1 : (t311 != 0) = false := bne_eq_false_iff_eq.mpr c19
            clear c19
            replace H := Option.bind_eq_some_iff.mp H
            obtain ⟨t313, A200, H⟩ := H
            replace H : (if t313 = true then (if (t305.size : Int) > 200 then (none) else (penelopelaw16_DagBack.j0 k (a1.extract 0 ((ji4) : Int).toNat))) else (none)) = some r := H
            have A20 := Aside0.mk A200
            clear A200
            by_cases c21 : t313 = true
            · subst c21
              have H1 : (if (t305.size : Int) > 200 then (none) else (penelopelaw16_DagBack.j0 k (a1.extract 0 ((ji4) : Int).toNat))) = some r := by rw [if_pos rfl] at H; exact H
              clear H
              have H := H1
              clear H1
              by_cases c22 : (t305.size : Int) > 200
              · rw [if_pos c22] at H
                exact absurd H (by simp)
              · rw [if_neg c22] at H
                have c22b0 : decide (200 < (t305.size : Int)) = false := decide_eq_false c22
                have c22b1 : decide (200 < t305.size) = false := decide_eq_false (by omega)
                clear c22
                have H' := Aside0.mk H
                clear H
                go_wp2_with (first | ((with_reducible refine gate_callee (f := 18) rfl ?_); refine goesL_ (some 29) rfl rfl Try.func18 (by kernel_rfl) rfl #[.string t305] rfl (by (try simp only [List.map_toArray, List.map_cons, List.map_nil]); first | done | rfl | (simp only [List.length_drop, List.length_take]; rfl)) ?_; (with_reducible refine (dag_Get.calls k t305 t307 t308 t311 _ A18.out).mono ?_); rintro e w23 ⟨v309, rfl, ho0, hb⟩; refine ⟨_, rfl, ?_⟩; have n0_ := Aside0.mk (Kd.N_elder' (by (with_reducible repeat (first | apply Kd.N_alloc | apply Kd.N_drewN | apply Kd.N_drew)); exact HO304.out) (Kd.S_base ho0) hb); have n1_ := Aside0.mk (Kd.S_lower (Kd.S_new' ho0 (Kd.N_lt (by (with_reducible repeat (first | apply Kd.N_alloc | apply Kd.N_drewN | apply Kd.N_drew)); exact HO304.out))) (below_size (by repeat (first | (with_reducible first | exact HB.out | apply below_alloc | apply pw_below_drewN | apply below_drew1 | refine below_set ?_ GE300.out) | exact HB.out)))); have n2_ := Aside0.mk (blk_below (g := gb300) (o := .cells #[.string t301, .slice Ao13 t302.length co13] 24 (0, 0)) (by (with_reducible repeat (first | refine blk_drewN ?_ _ | refine blk_drew ?_ | refine blk_alloc ?_ _)); exact BK300.out) hb); have n3_ := Aside0.mk (below_step (by repeat (first | (with_reducible first | exact HB.out | apply below_alloc | apply pw_below_drewN | apply below_drew1 | refine below_set ?_ GE300.out) | exact HB.out)) hb); clear HO304; clear BK300; clear HB; have HO304 := n0_; have HO310 := n1_; have BK300 := n2_; have HB := n3_; clear n0_ n1_ n2_ n3_; (try clear hb); (try clear hb2); (try clear hk); (try clear hi); (try clear ho0)) | ((with_reducible refine gate_dst (N := 7) rfl ?_); (try (refine gate_guard (by rfl) ?_; dsimp only)); refine box_event ?hg (N := 7) ?hd (cs := #[.string (⟨#[]⟩ : ByteArray), .slice none 0 0]) (t := 24) ?hr ?_; (case hd => rfl); (case hg => rfl); (case hr => first | (go_simp; done) | (go_simp; rfl)); intro gb312 hg w24 hbox hb; have n0_ := Aside0.mk (Kd.N_below (Kd.N_elderB (by (with_reducible repeat (first | apply Kd.N_alloc | apply Kd.N_drewN | apply Kd.N_drew)); exact HO304.out) gb312 (Nat.le_of_eq hg.symm)) hb); have n1_ := Aside0.mk (Kd.S_below (by (with_reducible repeat (first | apply Kd.S_alloc | apply Kd.S_drewN | apply Kd.S_drew)); exact HO310.out) hb); have n2_ := Aside0.mk (blk_below (g := gb300) (o := .cells #[.string t301, .slice Ao13 t302.length co13] 24 (0, 0)) (by (with_reducible repeat (first | refine blk_drewN ?_ _ | refine blk_drew ?_ | refine blk_alloc ?_ _)); exact BK300.out) hb); have n3_ := Aside0.mk (below_step (by repeat (first | (with_reducible first | exact HB.out | apply below_alloc | apply pw_below_drewN | apply below_drew1 | refine below_set ?_ GE300.out) | exact HB.out)) hb); have n4_ := Aside0.mk (hbox); have n5_ := Aside0.mk ((by rw [hg]; exact (below_size (by repeat (first | (with_reducible first | exact HB.out | apply below_alloc | apply pw_below_drewN | apply below_drew1 | refine below_set ?_ GE300.out) | exact HB.out))) : w.heap.size ≤ gb312)); have n6_ := Aside0.mk ((by rw [hg]; exact (below_size (by repeat (first | (with_reducible first | exact HB.out | apply below_alloc | apply pw_below_drewN | apply below_drew1 | refine below_set ?_ GE300.out) | exact HB.out))) : w.heap.size ≤ gb312)); have n7_ := Aside0.mk ((by rw [hg]; exact Nat.ne_of_lt (blk_lt (g := gb300) (o := .cells #[.string t301, .slice Ao13 t302.length co13] 24 (0, 0)) (by (with_reducible repeat (first | refine blk_drewN ?_ _ | refine blk_drew ?_ | refine blk_alloc ?_ _)); exact BK300.out)) : gb300 ≠ gb312)); have n8_ := Aside0.mk ((by rw [hg]; exact Nat.ne_of_gt (blk_lt (g := gb300) (o := .cells #[.string t301, .slice Ao13 t302.length co13] 24 (0, 0)) (by (with_reducible repeat (first | refine blk_drewN ?_ _ | refine blk_drew ?_ | refine blk_alloc ?_ _)); exact BK300.out)) : gb312 ≠ gb300)); clear HO304; clear HO310; clear BK300; clear HB; have HO304 := n0_; have HO310 := n1_; have BK300 := n2_; have HB := n3_; have BK312 := n4_; have GW312 := n5_; have GE312 := n6_; have NB300_312 := n7_; have NB312_300 := n8_; clear n0_ n1_ n2_ n3_ n4_ n5_ n6_ n7_ n8_; clear hb hbox hg; have hnb25 := NB312_300.out; have hnc25 := NB300_312.out; have hcz26_0 : w24.cell? ⟨gb312, 0, none⟩ = some (.string (⟨#[]⟩ : ByteArray)) := (blk_cell BK312.out 0).trans rfl; have hcz26_1 : w24.cell? ⟨gb312, 1, none⟩ = some (.slice none 0 0) := (blk_cell BK312.out 1).trans rfl; have hfz26_0 := blk_frozen BK312.out 0; have hfz26_1 := blk_frozen BK312.out 1; obtain ⟨Ao27, co27, eo27⟩ := Kd.S_slice HO310.out; subst eo27; have hcz28_0 : w24.cell? ⟨gb300, 0, none⟩ = some (.string t301) := (blk_cell BK300.out 0).trans rfl; have hcz28_1 : w24.cell? ⟨gb300, 1, none⟩ = some (.slice Ao13 t302.length co13) := (blk_cell BK300.out 1).trans rfl; have hfz28_0 := blk_frozen BK300.out 0; have hfz28_1 := blk_frozen BK300.out 1) | (go_at_call 21; (with_reducible refine (peneloperef16_Like.calls k t307 _ _ t308 t301 _ _ t302 true _ ?side1 ?side2 ?side3 ?side4 A20.out).mono ?_); (case side1 => refine (Kd.S_reads' (e := 39) (base := w.heap.size) (ok := fun k_ => (True ∧ some k_ ≠ (.slice Ao13 t302.length co13 : Value).ownBlock)) (n := t308.length) (c := co27) ?_).2.2; exact (by (with_reducible repeat (first | apply Kd.S_alloc | apply Kd.S_drewN | apply Kd.S_drew)); exact (Kd.S_mono (Kd.S_far (p := ⟨gb312, 1, none⟩) (Kd.S_far (p := ⟨gb312, 0, none⟩) (Kd.S_types HO310.out BK312.out (by decide)) (fun _ hk => hk.2) (.string t307)) (fun _ hk => hk.2) (.slice Ao27 t308.length co27)) (fun _ h_ => h_.1)))); (case side2 => exact (Kd.S_reads' HO310.out).2.1); (case side3 => refine (Kd.N_reads' (e := 39) (base := w.heap.size) (ok := fun k_ => ((k_ ≠ gb300 ∧ some k_ ≠ (.slice Ao27 t308.length co27 : Value).ownBlock) ∧ k_ ≠ gb312)) (n := t302.length) (c := co13) ?_).2.2; exact (by (with_reducible repeat (first | apply Kd.N_alloc | apply Kd.N_drewN | apply Kd.N_drew)); exact (Kd.N_mono (Kd.N_far (p := ⟨gb312, 1, none⟩) (Kd.N_far (p := ⟨gb312, 0, none⟩) HO304.out (fun _ hk => hk.2) (.string t307)) (fun _ hk => hk.2) (.slice Ao27 t308.length co27)) (fun _ h_ => h_)))); (case side4 => exact (Kd.N_reads' HO304.out).2.1); rintro e w29 ⟨rfl, hb⟩; have n0_ := Aside0.mk (Kd.N_below (by (with_reducible repeat (first | apply Kd.N_alloc | apply Kd.N_drewN | apply Kd.N_drew)); exact (Kd.N_mono (Kd.N_far (p := ⟨gb312, 1, none⟩) (Kd.N_far (p := ⟨gb312, 0, none⟩) HO304.out (fun _ hk => hk.2) (.string t307)) (fun _ hk => hk.2) (.slice Ao27 t308.length co27)) (fun _ h_ => h_))) hb); have n1_ := Aside0.mk (Kd.S_below (by (with_reducible repeat (first | apply Kd.S_alloc | apply Kd.S_drewN | apply Kd.S_drew)); exact (Kd.S_mono (Kd.S_far (p := ⟨gb312, 1, none⟩) (Kd.S_far (p := ⟨gb312, 0, none⟩) (Kd.S_types HO310.out BK312.out (by decide)) (fun _ hk => hk.2) (.string t307)) (fun _ hk => hk.2) (.slice Ao27 t308.length co27)) (fun _ h_ => h_.1))) hb); have n2_ := Aside0.mk (blk_below (g := gb300) (o := .cells #[.string t301, .slice Ao13 t302.length co13] 24 (0, 0)) (by (with_reducible repeat (first | refine blk_drewN ?_ _ | refine blk_drew ?_ | refine blk_alloc ?_ _)); refine blk_far ?_ NB300_312.out _; (with_reducible repeat (first | refine blk_drewN ?_ _ | refine blk_drew ?_ | refine blk_alloc ?_ _)); refine blk_far ?_ NB300_312.out _; (with_reducible repeat (first | refine blk_drewN ?_ _ | refine blk_drew ?_ | refine blk_alloc ?_ _)); exact BK300.out) hb); have n3_ := Aside0.mk (blk_below (g := gb312) (o := .cells #[.string t307, .slice Ao27 t308.length co27] 24 (0, 0)) (by (with_reducible repeat (first | refine blk_drewN ?_ _ | refine blk_drew ?_ | refine blk_alloc ?_ _)); refine blk_put (cs := #[.string t307, .slice none 0 0]) ?_ 1 _ rfl; (with_reducible repeat (first | refine blk_drewN ?_ _ | refine blk_drew ?_ | refine blk_alloc ?_ _)); refine blk_put (cs := #[.string (⟨#[]⟩ : ByteArray), .slice none 0 0]) ?_ 0 _ rfl; (with_reducible repeat (first | refine blk_drewN ?_ _ | refine blk_drew ?_ | refine blk_alloc ?_ _)); exact BK312.out) hb); have n4_ := Aside0.mk (below_step (by repeat (first | (with_reducible first | exact HB.out | apply below_alloc | apply pw_below_drewN | apply below_drew1 | refine below_set ?_ GE300.out | refine below_set ?_ GE312.out) | exact HB.out)) hb); clear HO304; clear HO310; clear BK300; clear BK312; clear HB; have HO304 := n0_; have HO310 := n1_; have BK300 := n2_; have BK312 := n3_; have HB := n4_; clear n0_ n1_ n2_ n3_ n4_; (try clear hb); (try clear hb2); (try clear hk); (try clear hi)))
                go_meet
                case rel => exact ⟨_, H', ⟨by first | omega | exact Nat.le_refl _⟩, ⟨by (with_reducible repeat (first | apply Kd.N_alloc | apply Kd.N_drewN | apply Kd.N_drew)); exact Kd.N_mono HO304.out (fun _ hk => hk.1.1)⟩, ⟨by (with_reducible repeat (first | refine blk_drewN ?_ _ | refine blk_drew ?_ | refine blk_alloc ?_ _)); exact BK300.out⟩, ⟨by repeat (first | (with_reducible first | exact HB.out | apply below_alloc | apply pw_below_drewN | apply below_drew1 | refine below_set ?_ GE300.out | refine below_set ?_ GE312.out) | exact HB.out)⟩⟩
            · replace c21 := Bool.eq_false_iff.mpr c21
              subst c21
              have H1 : (none) = some r := by rw [if_neg (show ¬ (false = true) by decide)] at H; exact H
              clear H
              have H := H1
              clear H1
              exact absurd H (by simp)
          · rw [if_neg c19] at H
            exact absurd H (by simp)
        · rw [if_neg c17] at H
          have c17b0 : (t306 == 0) = false := beq_eq_false_iff_ne.mpr c17
          have c17b1 : (t306 != 0) = true := bne_iff_ne.mpr c17
          (first | rw [c17b0] | (simp only [i64_w, i32_w]; rw [c17b0]) | skip)
          have H' := Aside0.mk H
          clear H
          go_wp2
          go_meet
          case rel => exact ⟨_, H', ⟨by first | omega | exact Nat.le_refl _⟩, ⟨by (with_reducible repeat (first | apply Kd.N_alloc | apply Kd.N_drewN | apply Kd.N_drew)); exact HO304.out⟩, ⟨by (with_reducible repeat (first | refine blk_drewN ?_ _ | refine blk_drew ?_ | refine blk_alloc ?_ _)); exact BK300.out⟩, ⟨by repeat (first | (with_reducible first | exact HB.out | apply below_alloc | apply pw_below_drewN | apply below_drew1 | refine below_set ?_ GE300.out) | exact HB.out)⟩⟩
      case rest =>
        clear HC8
        try clear c1
        try clear c2
        try clear p2
        try clear c5
        try clear c5b0
        try clear c5b1
        try clear c6
        try clear c6b0
        try clear c6b1
        try clear c7
        try clear c8
        try clear c17
        try clear c17b0
        try clear c17b1
        try clear c18
        try clear c19
        try clear c19b0
        try clear c19b1
        try clear c21
        try clear c22
        try clear c22b0
        try clear c22b1
        try clear c25
        try clear hcz15_0
        try clear hcz15_1
        try clear hcz26_0
        try clear hcz26_1
        try clear hcz28_0
        try clear hcz28_1
        try clear hfz15_0
        try clear hfz15_1
        try clear hfz26_0
        try clear hfz26_1
        try clear hfz28_0
        try clear hfz28_1
        obtain ⟨kq, HA, HJ7, HO_301001, BK300, HB⟩ := hcut
        cases kq with
        | zero => exact absurd HA.out (by simp [penelopelaw16_DagBack.j0])
        | succ kj7 =>
          have H := HA.out
          clear HA
          simp only [penelopelaw16_DagBack.j0] at H
          replace H := Option.bind_eq_some_iff.mp H
          obtain ⟨⟨t314, t315, t318⟩, A300, H⟩ := H
          replace H : (if t318 = 0 then ((dag_Put.f kj7 t314 t315).bind fun bt320 => ((penelopelaw16_alive.f kj7).bind fun t322 => (if t322 = true then (if bt320.2 = 0 then (if bt320.1.toList = (a1.extract 0 ((ji4) : Int).toNat).toList then ((dag_Right.f kj7 t314 t315).bind fun t323 => (some (t323 == 0))) else (none)) else (none)) else (none)))) else ((penelopelaw16_alive.f kj7).bind fun t324 => (if t324 = true then ((peneloperef16_Like.f kj7 t314 t315 (⟨#[]⟩ : ByteArray) ([] : List (S39))).bind fun t325 => (some t325)) else (none)))) = some r := H
          have A30 := Aside0.mk A300
          clear A300
          by_cases c31 : t318 = 0
          · rw [if_pos c31] at H
            have c31b0 : (t318 == 0) = true := beq_iff_eq.mpr c31
            have c31b1 : (t318 != 0) = false := bne_eq_false_iff_eq.mpr c31
            clear c31
            replace H := Option.bind_eq_some_iff.mp H
            obtain ⟨⟨t320, t321⟩, A320, H⟩ := H
            replace H : ((penelopelaw16_alive.f kj7).bind fun t322 => (if t322 = true then (if t321 = 0 then (if t320.toList = (a1.extract 0 ((ji4) : Int).toNat).toList then ((dag_Right.f kj7 t314 t315).bind fun t323 => (some (t323 == 0))) else (none)) else (none)) else (none))) = some r := H
            have A32 := Aside0.mk A320
            clear A320
            replace H := Option.bind_eq_some_iff.mp H
            obtain ⟨t322, A330, H⟩ := H
            replace H : (if t322 = true then (if t321 = 0 then (if t320.toList = (a1.extract 0 ((ji4) : Int).toNat).toList then ((dag_Right.f kj7 t314 t315).bind fun t323 => (some (t323 == 0))) else (none)) else (none)) else (none)) = some r := H
            have A33 := Aside0.mk A330
            clear A330
            by_cases c34 : t322 = true
            · subst c34
              have H1 : (if t321 = 0 then (if t320.toList = (a1.extract 0 ((ji4) : Int).toNat).toList then ((dag_Right.f kj7 t314 t315).bind fun t323 => (some (t323 == 0))) else (none)) else (none)) = some r := by rw [if_pos rfl] at H; exact H
              clear H
              have H := H1
              clear H1
              by_cases c35 : t321 = 0
              · rw [if_pos c35] at H
                have c35b0 : (t321 == 0) = true := beq_iff_eq.mpr c35
                have c35b1 : (t321 != 0) = false := bne_eq_false_iff_eq.mpr c35
                clear c35
                by_cases c36 : t320.toList = (a1.extract 0 ((ji4) : Int).toNat).toList
                · rw [if_pos c36] at H
                  have c36b0 : (t320.toList == (a1.extract 0 ((ji4) : Int).toNat).toList) = true := beq_iff_eq.mpr c36
                  have c36b1 : (t320.toList != (a1.extract 0 ((ji4) : Int).toNat).toList) = false := bne_eq_false_iff_eq.mpr c36
                  clear c36
                  replace H := Option.bind_eq_some_iff.mp H
                  obtain ⟨t323, A370, H⟩ := H
                  replace H : (some (t323 == 0)) = some r := H
                  have A37 := Aside0.mk A370
                  clear A370
                  obtain rfl := Option.some.inj H
                  go_wp2_with (first | ((with_reducible refine gate_callee (f := 18) rfl ?_); refine goesL_ (some 47) rfl rfl Try.func18 (by kernel_rfl) rfl #[.string (a1.extract 0 ((ji4) : Int).toNat)] rfl (by (try simp only [List.map_toArray, List.map_cons, List.map_nil]); first | done | (simp only [hji4]; rfl) | rfl | (simp only [List.length_drop, List.length_take]; rfl)) ?_; (with_reducible refine (dag_Get.calls kj7 (a1.extract 0 ((ji4) : Int).toNat) t314 t315 t318 _ A30.out).mono ?_); rintro e w38 ⟨v316, rfl, ho0, hb⟩; refine ⟨_, rfl, ?_⟩; have n0_ := Aside0.mk (Kd.N_elder' (by (with_reducible repeat (first | apply Kd.N_alloc | apply Kd.N_drewN | apply Kd.N_drew)); exact HO_301001.out) (Kd.S_base ho0) hb); have n1_ := Aside0.mk (Kd.S_lower (Kd.S_new' ho0 (Kd.N_lt (by (with_reducible repeat (first | apply Kd.N_alloc | apply Kd.N_drewN | apply Kd.N_drew)); exact HO_301001.out))) (below_size (by repeat (first | (with_reducible first | exact HB.out | apply below_alloc | apply pw_below_drewN | apply below_drew1 | refine below_set ?_ GE300.out) | exact HB.out)))); have n2_ := Aside0.mk (blk_below (g := gb300) (o := .cells #[.string t301, .slice Ao13 t302.length co13] 24 (0, 0)) (by (with_reducible repeat (first | refine blk_drewN ?_ _ | refine blk_drew ?_ | refine blk_alloc ?_ _)); exact BK300.out) hb); have n3_ := Aside0.mk (below_step (by repeat (first | (with_reducible first | exact HB.out | apply below_alloc | apply pw_below_drewN | apply below_drew1 | refine below_set ?_ GE300.out) | exact HB.out)) hb); clear HO_301001; clear BK300; clear HB; have HO_301001 := n0_; have HO317 := n1_; have BK300 := n2_; have HB := n3_; clear n0_ n1_ n2_ n3_; (try clear hb); (try clear hb2); (try clear hk); (try clear hi); (try clear ho0)) | ((with_reducible refine gate_dst (N := 9) rfl ?_); (try (refine gate_guard (by rfl) ?_; dsimp only)); refine box_event ?hg (N := 9) ?hd (cs := #[.string (⟨#[]⟩ : ByteArray), .slice none 0 0]) (t := 24) ?hr ?_; (case hd => rfl); (case hg => rfl); (case hr => first | (go_simp; done) | (go_simp; rfl)); intro gb319 hg w39 hbox hb; have n0_ := Aside0.mk (Kd.N_below (Kd.N_elderB (by (with_reducible repeat (first | apply Kd.N_alloc | apply Kd.N_drewN | apply Kd.N_drew)); exact HO_301001.out) gb319 (Nat.le_of_eq hg.symm)) hb); have n1_ := Aside0.mk (Kd.S_below (by (with_reducible repeat (first | apply Kd.S_alloc | apply Kd.S_drewN | apply Kd.S_drew)); exact HO317.out) hb); have n2_ := Aside0.mk (blk_below (g := gb300) (o := .cells #[.string t301, .slice Ao13 t302.length co13] 24 (0, 0)) (by (with_reducible repeat (first | refine blk_drewN ?_ _ | refine blk_drew ?_ | refine blk_alloc ?_ _)); exact BK300.out) hb); have n3_ := Aside0.mk (below_step (by repeat (first | (with_reducible first | exact HB.out | apply below_alloc | apply pw_below_drewN | apply below_drew1 | refine below_set ?_ GE300.out) | exact HB.out)) hb); have n4_ := Aside0.mk (hbox); have n5_ := Aside0.mk ((by rw [hg]; exact (below_size (by repeat (first | (with_reducible first | exact HB.out | apply below_alloc | apply pw_below_drewN | apply below_drew1 | refine below_set ?_ GE300.out) | exact HB.out))) : w.heap.size ≤ gb319)); have n6_ := Aside0.mk ((by rw [hg]; exact (below_size (by repeat (first | (with_reducible first | exact HB.out | apply below_alloc | apply pw_below_drewN | apply below_drew1 | refine below_set ?_ GE300.out) | exact HB.out))) : w.heap.size ≤ gb319)); have n7_ := Aside0.mk ((by rw [hg]; exact Nat.ne_of_lt (blk_lt (g := gb300) (o := .cells #[.string t301, .slice Ao13 t302.length co13] 24 (0, 0)) (by (with_reducible repeat (first | refine blk_drewN ?_ _ | refine blk_drew ?_ | refine blk_alloc ?_ _)); exact BK300.out)) : gb300 ≠ gb319)); have n8_ := Aside0.mk ((by rw [hg]; exact Nat.ne_of_gt (blk_lt (g := gb300) (o := .cells #[.string t301, .slice Ao13 t302.length co13] 24 (0, 0)) (by (with_reducible repeat (first | refine blk_drewN ?_ _ | refine blk_drew ?_ | refine blk_alloc ?_ _)); exact BK300.out)) : gb319 ≠ gb300)); clear HO_301001; clear HO317; clear BK300; clear HB; have HO_301001 := n0_; have HO317 := n1_; have BK300 := n2_; have HB := n3_; have BK319 := n4_; have GW319 := n5_; have GE319 := n6_; have NB300_319 := n7_; have NB319_300 := n8_; clear n0_ n1_ n2_ n3_ n4_ n5_ n6_ n7_ n8_; clear hb hbox hg; have hnb40 := NB319_300.out; have hnc40 := NB300_319.out; have hcz41_0 : w39.cell? ⟨gb319, 0, none⟩ = some (.string (⟨#[]⟩ : ByteArray)) := (blk_cell BK319.out 0).trans rfl; have hcz41_1 : w39.cell? ⟨gb319, 1, none⟩ = some (.slice none 0 0) := (blk_cell BK319.out 1).trans rfl; have hfz41_0 := blk_frozen BK319.out 0; have hfz41_1 := blk_frozen BK319.out 1; obtain ⟨Ao42, co42, eo42⟩ := Kd.S_slice HO317.out; subst eo42) | ((with_reducible refine gate_callee (f := 17) rfl ?_); refine goesL_ (some 60) rfl rfl Try.func17 (by kernel_rfl) rfl #[.agg #[.string t314, .slice Ao42 t315.length co42]] rfl (by (try simp only [List.map_toArray, List.map_cons, List.map_nil]); first | done | rfl | (simp only [List.length_drop, List.length_take]; rfl)) ?_; (with_reducible refine (dag_Put.calls kj7 t314 _ _ t315 t320 t321 _ ?side1 ?side2 A32.out).mono ?_); (case side1 => refine (Kd.S_reads' (e := 39) (base := w.heap.size) (ok := fun k_ => (True ∧ some k_ ≠ (.slice Ao13 t302.length co13 : Value).ownBlock)) (n := t315.length) (c := co42) ?_).2.2; exact (by (with_reducible repeat (first | apply Kd.S_alloc | apply Kd.S_drewN | apply Kd.S_drew)); exact (Kd.S_mono (Kd.S_far (p := ⟨gb319, 1, none⟩) (Kd.S_far (p := ⟨gb319, 0, none⟩) (Kd.S_types HO317.out BK319.out (by decide)) (fun _ hk => hk.2) (.string t314)) (fun _ hk => hk.2) (.slice Ao42 t315.length co42)) (fun _ h_ => h_.1)))); (case side2 => exact (Kd.S_reads' HO317.out).2.1); rintro e w43 ⟨rfl, hb⟩; refine ⟨_, rfl, ?_⟩; have n0_ := Aside0.mk (Kd.N_below (by (with_reducible repeat (first | apply Kd.N_alloc | apply Kd.N_drewN | apply Kd.N_drew)); exact (Kd.N_mono (Kd.N_far (p := ⟨gb319, 1, none⟩) (Kd.N_far (p := ⟨gb319, 0, none⟩) HO_301001.out (fun _ hk => hk.2) (.string t314)) (fun _ hk => hk.2) (.slice Ao42 t315.length co42)) (fun _ h_ => h_))) hb); have n1_ := Aside0.mk (Kd.S_below (by (with_reducible repeat (first | apply Kd.S_alloc | apply Kd.S_drewN | apply Kd.S_drew)); exact (Kd.S_mono (Kd.S_far (p := ⟨gb319, 1, none⟩) (Kd.S_far (p := ⟨gb319, 0, none⟩) (Kd.S_types HO317.out BK319.out (by decide)) (fun _ hk => hk.2) (.string t314)) (fun _ hk => hk.2) (.slice Ao42 t315.length co42)) (fun _ h_ => h_.1))) hb); have n2_ := Aside0.mk (blk_below (g := gb300) (o := .cells #[.string t301, .slice Ao13 t302.length co13] 24 (0, 0)) (by (with_reducible repeat (first | refine blk_drewN ?_ _ | refine blk_drew ?_ | refine blk_alloc ?_ _)); refine blk_far ?_ NB300_319.out _; (with_reducible repeat (first | refine blk_drewN ?_ _ | refine blk_drew ?_ | refine blk_alloc ?_ _)); refine blk_far ?_ NB300_319.out _; (with_reducible repeat (first | refine blk_drewN ?_ _ | refine blk_drew ?_ | refine blk_alloc ?_ _)); exact BK300.out) hb); have n3_ := Aside0.mk (blk_below (g := gb319) (o := .cells #[.string t314, .slice Ao42 t315.length co42] 24 (0, 0)) (by (with_reducible repeat (first | refine blk_drewN ?_ _ | refine blk_drew ?_ | refine blk_alloc ?_ _)); refine blk_put (cs := #[.string t314, .slice none 0 0]) ?_ 1 _ rfl; (with_reducible repeat (first | refine blk_drewN ?_ _ | refine blk_drew ?_ | refine blk_alloc ?_ _)); refine blk_put (cs := #[.string (⟨#[]⟩ : ByteArray), .slice none 0 0]) ?_ 0 _ rfl; (with_reducible repeat (first | refine blk_drewN ?_ _ | refine blk_drew ?_ | refine blk_alloc ?_ _)); exact BK319.out) hb); have n4_ := Aside0.mk (below_step (by repeat (first | (with_reducible first | exact HB.out | apply below_alloc | apply pw_below_drewN | apply below_drew1 | refine below_set ?_ GE300.out | refine below_set ?_ GE319.out) | exact HB.out)) hb); clear HO_301001; clear HO317; clear BK300; clear BK319; clear HB; have HO_301001 := n0_; have HO317 := n1_; have BK300 := n2_; have BK319 := n3_; have HB := n4_; clear n0_ n1_ n2_ n3_ n4_; (try clear hb); (try clear hb2); (try clear hk); (try clear hi)) | ((with_reducible refine gate_callee (f := 13) rfl ?_); refine goesL_ (some 63) rfl rfl Try.func13 (by kernel_rfl) rfl #[] rfl (by (try simp only [List.map_toArray, List.map_cons, List.map_nil]); first | done | rfl | (simp only [List.length_drop, List.length_take]; rfl)) ?_; (with_reducible refine (penelopelaw16_alive.calls kj7  true _ A33.out).mono ?_); rintro e w44 ⟨rfl, hb⟩; refine ⟨_, rfl, ?_⟩; have n0_ := Aside0.mk (Kd.N_below (by (with_reducible repeat (first | apply Kd.N_alloc | apply Kd.N_drewN | apply Kd.N_drew)); exact HO_301001.out) hb); have n1_ := Aside0.mk (Kd.S_below (by (with_reducible repeat (first | apply Kd.S_alloc | apply Kd.S_drewN | apply Kd.S_drew)); exact HO317.out) hb); have n2_ := Aside0.mk (blk_below (g := gb300) (o := .cells #[.string t301, .slice Ao13 t302.length co13] 24 (0, 0)) (by (with_reducible repeat (first | refine blk_drewN ?_ _ | refine blk_drew ?_ | refine blk_alloc ?_ _)); exact BK300.out) hb); have n3_ := Aside0.mk (blk_below (g := gb319) (o := .cells #[.string t314, .slice Ao42 t315.length co42] 24 (0, 0)) (by (with_reducible repeat (first | refine blk_drewN ?_ _ | refine blk_drew ?_ | refine blk_alloc ?_ _)); exact BK319.out) hb); have n4_ := Aside0.mk (below_step (by repeat (first | (with_reducible first | exact HB.out | apply below_alloc | apply pw_below_drewN | apply below_drew1 | refine below_set ?_ GE300.out | refine below_set ?_ GE319.out) | exact HB.out)) hb); clear HO_301001; clear HO317; clear BK300; clear BK319; clear HB; have HO_301001 := n0_; have HO317 := n1_; have BK300 := n2_; have BK319 := n3_; have HB := n4_; clear n0_ n1_ n2_ n3_ n4_; (try clear hb); (try clear hb2); (try clear hk); (try clear hi); have hcz45_0 : w44.cell? ⟨gb319, 0, none⟩ = some (.string t314) := (blk_cell BK319.out 0).trans rfl; have hcz45_1 : w44.cell? ⟨gb319, 1, none⟩ = some (.slice Ao42 t315.length co42) := (blk_cell BK319.out 1).trans rfl; have hfz45_0 := blk_frozen BK319.out 0; have hfz45_1 := blk_frozen BK319.out 1) | (go_at_call 12; (with_reducible refine (dag_Right.calls kj7 t314 _ _ t315 t323 _ ?side1 ?side2 A37.out).mono ?_); (case side1 => repeat (first | exact (Kd.S_reads' HO317.out).2.2 | (with_reducible refine Kd.C_alloc ?_ _) | (with_reducible refine Kd.C_drewN ?_ _) | (with_reducible refine Kd.C_drew ?_))); (case side2 => exact (Kd.S_reads' HO317.out).2.1); rintro e w46 ⟨rfl, hb⟩; have n0_ := Aside0.mk (Kd.N_below (by (with_reducible repeat (first | apply Kd.N_alloc | apply Kd.N_drewN | apply Kd.N_drew)); exact HO_301001.out) hb); have n1_ := Aside0.mk (Kd.S_below (by (with_reducible repeat (first | apply Kd.S_alloc | apply Kd.S_drewN | apply Kd.S_drew)); exact HO317.out) hb); have n2_ := Aside0.mk (blk_below (g := gb300) (o := .cells #[.string t301, .slice Ao13 t302.length co13] 24 (0, 0)) (by (with_reducible repeat (first | refine blk_drewN ?_ _ | refine blk_drew ?_ | refine blk_alloc ?_ _)); exact BK300.out) hb); have n3_ := Aside0.mk (blk_below (g := gb319) (o := .cells #[.string t314, .slice Ao42 t315.length co42] 24 (0, 0)) (by (with_reducible repeat (first | refine blk_drewN ?_ _ | refine blk_drew ?_ | refine blk_alloc ?_ _)); exact BK319.out) hb); have n4_ := Aside0.mk (below_step (by repeat (first | (with_reducible first | exact HB.out | apply below_alloc | apply pw_below_drewN | apply below_drew1 | refine below_set ?_ GE300.out | refine below_set ?_ GE319.out) | exact HB.out)) hb); clear HO_301001; clear HO317; clear BK300; clear BK319; clear HB; have HO_301001 := n0_; have HO317 := n1_; have BK300 := n2_; have BK319 := n3_; have HB := n4_; clear n0_ n1_ n2_ n3_ n4_; (try clear hb); (try clear hb2); (try clear hk); (try clear hi)))
                  go_ret
                  exact ⟨by first | rfl | (simp [errW_none, errW_some] <;> rfl) | (simp only [← hji4]; first | rfl | (simp [errW_none, errW_some] <;> rfl)) | (simp [*, errW_none, errW_some] <;> rfl), by repeat (first | (with_reducible first | exact HB.out | apply below_alloc | apply pw_below_drewN | apply below_drew1 | refine below_set ?_ GE300.out | refine below_set ?_ GE319.out) | exact HB.out)⟩
                · rw [if_neg c36] at H
                  exact absurd H (by simp)
              · rw [if_neg c35] at H
                exact absurd H (by simp)
            · replace c34 := Bool.eq_false_iff.mpr c34
              subst c34
              have H1 : (none) = some r := by rw [if_neg (show ¬ (false = true) by decide)] at H; exact H
              clear H
              have H := H1
              clear H1
              exact absurd H (by simp)
          · rw [if_neg c31] at H
            have c31b0 : (t318 == 0) = false := beq_eq_false_iff_ne.mpr c31
            have c31b1 : (t318 != 0) = true := bne_iff_ne.mpr c31
            replace H := Option.bind_eq_some_iff.mp H
            obtain ⟨t324, A470, H⟩ := H
            replace H : (if t324 = true then ((peneloperef16_Like.f kj7 t314 t315 (⟨#[]⟩ : ByteArray) ([] : List (S39))).bind fun t325 => (some t325)) else (none)) = some r := H
            have A47 := Aside0.mk A470
            clear A470
            by_cases c48 : t324 = true
            · subst c48
              have H1 : ((peneloperef16_Like.f kj7 t314 t315 (⟨#[]⟩ : ByteArray) ([] : List (S39))).bind fun t325 => (some t325)) = some r := by rw [if_pos rfl] at H; exact H
              clear H
              have H := H1
              clear H1
              replace H := Option.bind_eq_some_iff.mp H
              obtain ⟨t325, A490, H⟩ := H
              replace H : (some t325) = some r := H
              have A49 := Aside0.mk A490
              clear A490
              obtain rfl := Option.some.inj H
              go_wp2_with (first | ((with_reducible refine gate_callee (f := 18) rfl ?_); refine goesL_ (some 47) rfl rfl Try.func18 (by kernel_rfl) rfl #[.string (a1.extract 0 ((ji4) : Int).toNat)] rfl (by (try simp only [List.map_toArray, List.map_cons, List.map_nil]); first | done | (simp only [hji4]; rfl) | rfl | (simp only [List.length_drop, List.length_take]; rfl)) ?_; (with_reducible refine (dag_Get.calls kj7 (a1.extract 0 ((ji4) : Int).toNat) t314 t315 t318 _ A30.out).mono ?_); rintro e w50 ⟨v316, rfl, ho0, hb⟩; refine ⟨_, rfl, ?_⟩; have n0_ := Aside0.mk (Kd.N_elder' (by (with_reducible repeat (first | apply Kd.N_alloc | apply Kd.N_drewN | apply Kd.N_drew)); exact HO_301001.out) (Kd.S_base ho0) hb); have n1_ := Aside0.mk (Kd.S_lower (Kd.S_new' ho0 (Kd.N_lt (by (with_reducible repeat (first | apply Kd.N_alloc | apply Kd.N_drewN | apply Kd.N_drew)); exact HO_301001.out))) (below_size (by repeat (first | (with_reducible first | exact HB.out | apply below_alloc | apply pw_below_drewN | apply below_drew1 | refine below_set ?_ GE300.out) | exact HB.out)))); have n2_ := Aside0.mk (blk_below (g := gb300) (o := .cells #[.string t301, .slice Ao13 t302.length co13] 24 (0, 0)) (by (with_reducible repeat (first | refine blk_drewN ?_ _ | refine blk_drew ?_ | refine blk_alloc ?_ _)); exact BK300.out) hb); have n3_ := Aside0.mk (below_step (by repeat (first | (with_reducible first | exact HB.out | apply below_alloc | apply pw_below_drewN | apply below_drew1 | refine below_set ?_ GE300.out) | exact HB.out)) hb); clear HO_301001; clear BK300; clear HB; have HO_301001 := n0_; have HO317 := n1_; have BK300 := n2_; have HB := n3_; clear n0_ n1_ n2_ n3_; (try clear hb); (try clear hb2); (try clear hk); (try clear hi); (try clear ho0)) | ((with_reducible refine gate_dst (N := 9) rfl ?_); (try (refine gate_guard (by rfl) ?_; dsimp only)); refine box_event ?hg (N := 9) ?hd (cs := #[.string (⟨#[]⟩ : ByteArray), .slice none 0 0]) (t := 24) ?hr ?_; (case hd => rfl); (case hg => rfl); (case hr => first | (go_simp; done) | (go_simp; rfl)); intro gb319 hg w51 hbox hb; have n0_ := Aside0.mk (Kd.N_below (Kd.N_elderB (by (with_reducible repeat (first | apply Kd.N_alloc | apply Kd.N_drewN | apply Kd.N_drew)); exact HO_301001.out) gb319 (Nat.le_of_eq hg.symm)) hb); have n1_ := Aside0.mk (Kd.S_below (by (with_reducible repeat (first | apply Kd.S_alloc | apply Kd.S_drewN | apply Kd.S_drew)); exact HO317.out) hb); have n2_ := Aside0.mk (blk_below (g := gb300) (o := .cells #[.string t301, .slice Ao13 t302.length co13] 24 (0, 0)) (by (with_reducible repeat (first | refine blk_drewN ?_ _ | refine blk_drew ?_ | refine blk_alloc ?_ _)); exact BK300.out) hb); have n3_ := Aside0.mk (below_step (by repeat (first | (with_reducible first | exact HB.out | apply below_alloc | apply pw_below_drewN | apply below_drew1 | refine below_set ?_ GE300.out) | exact HB.out)) hb); have n4_ := Aside0.mk (hbox); have n5_ := Aside0.mk ((by rw [hg]; exact (below_size (by repeat (first | (with_reducible first | exact HB.out | apply below_alloc | apply pw_below_drewN | apply below_drew1 | refine below_set ?_ GE300.out) | exact HB.out))) : w.heap.size ≤ gb319)); have n6_ := Aside0.mk ((by rw [hg]; exact (below_size (by repeat (first | (with_reducible first | exact HB.out | apply below_alloc | apply pw_below_drewN | apply below_drew1 | refine below_set ?_ GE300.out) | exact HB.out))) : w.heap.size ≤ gb319)); have n7_ := Aside0.mk ((by rw [hg]; exact Nat.ne_of_lt (blk_lt (g := gb300) (o := .cells #[.string t301, .slice Ao13 t302.length co13] 24 (0, 0)) (by (with_reducible repeat (first | refine blk_drewN ?_ _ | refine blk_drew ?_ | refine blk_alloc ?_ _)); exact BK300.out)) : gb300 ≠ gb319)); have n8_ := Aside0.mk ((by rw [hg]; exact Nat.ne_of_gt (blk_lt (g := gb300) (o := .cells #[.string t301, .slice Ao13 t302.length co13] 24 (0, 0)) (by (with_reducible repeat (first | refine blk_drewN ?_ _ | refine blk_drew ?_ | refine blk_alloc ?_ _)); exact BK300.out)) : gb319 ≠ gb300)); clear HO_301001; clear HO317; clear BK300; clear HB; have HO_301001 := n0_; have HO317 := n1_; have BK300 := n2_; have HB := n3_; have BK319 := n4_; have GW319 := n5_; have GE319 := n6_; have NB300_319 := n7_; have NB319_300 := n8_; clear n0_ n1_ n2_ n3_ n4_ n5_ n6_ n7_ n8_; clear hb hbox hg; have hnb52 := NB319_300.out; have hnc52 := NB300_319.out; have hcz53_0 : w51.cell? ⟨gb319, 0, none⟩ = some (.string (⟨#[]⟩ : ByteArray)) := (blk_cell BK319.out 0).trans rfl; have hcz53_1 : w51.cell? ⟨gb319, 1, none⟩ = some (.slice none 0 0) := (blk_cell BK319.out 1).trans rfl; have hfz53_0 := blk_frozen BK319.out 0; have hfz53_1 := blk_frozen BK319.out 1; obtain ⟨Ao54, co54, eo54⟩ := Kd.S_slice HO317.out; subst eo54) | ((with_reducible refine gate_callee (f := 13) rfl ?_); refine goesL_ (some 52) rfl rfl Try.func13 (by kernel_rfl) rfl #[] rfl (by (try simp only [List.map_toArray, List.map_cons, List.map_nil]); first | done | rfl | (simp only [List.length_drop, List.length_take]; rfl)) ?_; (with_reducible refine (penelopelaw16_alive.calls kj7  true _ A47.out).mono ?_); rintro e w55 ⟨rfl, hb⟩; refine ⟨_, rfl, ?_⟩; have n0_ := Aside0.mk (Kd.N_below (by (with_reducible repeat (first | apply Kd.N_alloc | apply Kd.N_drewN | apply Kd.N_drew)); exact (Kd.N_mono (Kd.N_far (p := ⟨gb319, 1, none⟩) (Kd.N_far (p := ⟨gb319, 0, none⟩) HO_301001.out (fun _ hk => hk.2) (.string t314)) (fun _ hk => hk.2) (.slice Ao54 t315.length co54)) (fun _ h_ => h_))) hb); have n1_ := Aside0.mk (Kd.S_below (by (with_reducible repeat (first | apply Kd.S_alloc | apply Kd.S_drewN | apply Kd.S_drew)); exact (Kd.S_mono (Kd.S_far (p := ⟨gb319, 1, none⟩) (Kd.S_far (p := ⟨gb319, 0, none⟩) (Kd.S_types HO317.out BK319.out (by decide)) (fun _ hk => hk.2) (.string t314)) (fun _ hk => hk.2) (.slice Ao54 t315.length co54)) (fun _ h_ => h_.1))) hb); have n2_ := Aside0.mk (blk_below (g := gb300) (o := .cells #[.string t301, .slice Ao13 t302.length co13] 24 (0, 0)) (by (with_reducible repeat (first | refine blk_drewN ?_ _ | refine blk_drew ?_ | refine blk_alloc ?_ _)); refine blk_far ?_ NB300_319.out _; (with_reducible repeat (first | refine blk_drewN ?_ _ | refine blk_drew ?_ | refine blk_alloc ?_ _)); refine blk_far ?_ NB300_319.out _; (with_reducible repeat (first | refine blk_drewN ?_ _ | refine blk_drew ?_ | refine blk_alloc ?_ _)); exact BK300.out) hb); have n3_ := Aside0.mk (blk_below (g := gb319) (o := .cells #[.string t314, .slice Ao54 t315.length co54] 24 (0, 0)) (by (with_reducible repeat (first | refine blk_drewN ?_ _ | refine blk_drew ?_ | refine blk_alloc ?_ _)); refine blk_put (cs := #[.string t314, .slice none 0 0]) ?_ 1 _ rfl; (with_reducible repeat (first | refine blk_drewN ?_ _ | refine blk_drew ?_ | refine blk_alloc ?_ _)); refine blk_put (cs := #[.string (⟨#[]⟩ : ByteArray), .slice none 0 0]) ?_ 0 _ rfl; (with_reducible repeat (first | refine blk_drewN ?_ _ | refine blk_drew ?_ | refine blk_alloc ?_ _)); exact BK319.out) hb); have n4_ := Aside0.mk (below_step (by repeat (first | (with_reducible first | exact HB.out | apply below_alloc | apply pw_below_drewN | apply below_drew1 | refine below_set ?_ GE300.out | refine below_set ?_ GE319.out) | exact HB.out)) hb); clear HO_301001; clear HO317; clear BK300; clear BK319; clear HB; have HO_301001 := n0_; have HO317 := n1_; have BK300 := n2_; have BK319 := n3_; have HB := n4_; clear n0_ n1_ n2_ n3_ n4_; (try clear hb); (try clear hb2); (try clear hk); (try clear hi); have hcz56_0 : w55.cell? ⟨gb319, 0, none⟩ = some (.string t314) := (blk_cell BK319.out 0).trans rfl; have hcz56_1 : w55.cell? ⟨gb319, 1, none⟩ = some (.slice Ao54 t315.length co54) := (blk_cell BK319.out 1).trans rfl; have hfz56_0 := blk_frozen BK319.out 0; have hfz56_1 := blk_frozen BK319.out 1) | (go_at_call 21; (refine (peneloperef16_Like.calls kj7 t314 _ _ t315 (⟨#[]⟩ : ByteArray) _ _ ([] : List (S39)) t325 _ ?side1 ?side2 ?side3 ?side4 A49.out).mono ?_); (case side1 => repeat (first | exact (Kd.S_reads' HO317.out).2.2 | (with_reducible refine Kd.C_alloc ?_ _) | (with_reducible refine Kd.C_drewN ?_ _) | (with_reducible refine Kd.C_drew ?_))); (case side2 => exact (Kd.S_reads' HO317.out).2.1); (case side3 => exact Kd.C_nil _ _); (case side4 => exact Nat.le_refl _); rintro e w57 ⟨rfl, hb⟩; have n0_ := Aside0.mk (Kd.N_below (by (with_reducible repeat (first | apply Kd.N_alloc | apply Kd.N_drewN | apply Kd.N_drew)); exact HO_301001.out) hb); have n1_ := Aside0.mk (Kd.S_below (by (with_reducible repeat (first | apply Kd.S_alloc | apply Kd.S_drewN | apply Kd.S_drew)); exact HO317.out) hb); have n2_ := Aside0.mk (blk_below (g := gb300) (o := .cells #[.string t301, .slice Ao13 t302.length co13] 24 (0, 0)) (by (with_reducible repeat (first | refine blk_drewN ?_ _ | refine blk_drew ?_ | refine blk_alloc ?_ _)); exact BK300.out) hb); have n3_ := Aside0.mk (blk_below (g := gb319) (o := .cells #[.string t314, .slice Ao54 t315.length co54] 24 (0, 0)) (by (with_reducible repeat (first | refine blk_drewN ?_ _ | refine blk_drew ?_ | refine blk_alloc ?_ _)); exact BK319.out) hb); have n4_ := Aside0.mk (below_step (by repeat (first | (with_reducible first | exact HB.out | apply below_alloc | apply pw_below_drewN | apply below_drew1 | refine below_set ?_ GE300.out | refine below_set ?_ GE319.out) | exact HB.out)) hb); clear HO_301001; clear HO317; clear BK300; clear BK319; clear HB; have HO_301001 := n0_; have HO317 := n1_; have BK300 := n2_; have BK319 := n3_; have HB := n4_; clear n0_ n1_ n2_ n3_ n4_; (try clear hb); (try clear hb2); (try clear hk); (try clear hi)))
              go_ret
              exact ⟨by first | rfl | (simp [errW_none, errW_some] <;> rfl) | (simp only [← hji4]; first | rfl | (simp [errW_none, errW_some] <;> rfl)) | (simp [*, errW_none, errW_some] <;> rfl), by repeat (first | (with_reducible first | exact HB.out | apply below_alloc | apply pw_below_drewN | apply below_drew1 | refine below_set ?_ GE300.out | refine below_set ?_ GE319.out) | exact HB.out)⟩
            · replace c48 := Bool.eq_false_iff.mpr c48
              subst c48
              have H1 : (none) = some r := by rw [if_neg (show ¬ (false = true) by decide)] at H; exact H
              clear H
              have H := H1
              clear H1
              exact absurd H (by simp)
    · rw [if_neg c6] at H
      exact absurd H (by simp)
  · rw [if_neg c5] at H
    exact absurd H (by simp)

end Go.Proofs.Ytbgmhcefjggpgaa.X
