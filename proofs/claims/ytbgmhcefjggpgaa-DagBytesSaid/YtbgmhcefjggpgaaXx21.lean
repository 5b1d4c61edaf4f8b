-- laid by a program of this session (wip/tools/xprint.py), function by function; Lean checks it
import Derived.Test.YtbgmhcefjggpgaaXx0
import Derived.Test.YtbgmhcefjggpgaaXDGet
import Derived.Test.YtbgmhcefjggpgaaXFew
import Derived.Test.YtbgmhcefjggpgaaXPut
import Derived.Test.YtbgmhcefjggpgaaXRGet
import Derived.Test.YtbgmhcefjggpgaaXx3
import Derived.Test.YtbgmhcefjggpgaaXx7
import Derived.Test.YtbgmhcefjggpgaaXx19
import Derived.Test.YtbgmhcefjggpgaaXx20
namespace Go.Proofs.Ytbgmhcefjggpgaa.X
open Go.RowKit Go.Proofs.YtbgmhcefjggpgaaW.PrintWords Go.Proofs.YtbgmhcefjggpgaaW.PrintLast Go.Proofs.YtbgmhcefjggpgaaW.PrintMore
attribute [local go_sem] max2_int min2_int max_two min_two max_three min_three max_four min_four   -- for this text's walks alone
set_option linter.unusedVariables false
set_option linter.unusedSimpArgs false

/-! ### penelopelaw16_DagBytes: function 6 -/
def penelopelaw16_DagBytes.j0 : Nat → Int → Int → Bool → ByteArray → List (S39) → ByteArray → List (S39) → Option (Bool)
  | 0, _, _, _, _, _, _, _ => none
  | k + 1, x8, x10, x56, x290000, x290001, x296000, x296001 => if x56 = true then (none) else ((penelopelaw16_alive.f k).bind fun t298 => (if t298 = true then (if x8 = x10 then ((peneloperef16_Like.f k x290000 x290001 x296000 x296001).bind fun t299 => (some t299)) else (none)) else (none)))
def penelopelaw16_DagBytes.f (k : Nat) (a0_0 : ByteArray) (l0_1 : List (S39)) (a1 : ByteArray) : Option (Bool) := (penelopelaw16_few.f k a0_0 l0_1).bind fun bt278 => (if 0 ≤ (mn (a1.size : Int) 2000) then (if (mn (a1.size : Int) 2000) ≤ (a1.size : Int) then ((dag_Put.f k bt278.1 bt278.2).bind fun bt282 => ((dag_Get.f k (a1.extract 0 ((mn (a1.size : Int) 2000) : Int).toNat)).bind fun bt284 => ((peneloperef16_Get.f k (a1.extract 0 ((mn (a1.size : Int) 2000) : Int).toNat)).bind fun bt290 => ((peneloperef16_Right.f k bt278.1 bt278.2).bind fun t296 => (if bt282.2 = t296 then (if t296 = 0 then ((peneloperef16_Put.f k bt278.1 bt278.2).bind fun t297 => (if bt282.1.toList = t297.toList then (penelopelaw16_DagBytes.j0 k bt284.2.2 bt290.2.2 false bt284.1 bt284.2.1 bt290.1 bt290.2.1) else (penelopelaw16_DagBytes.j0 k bt284.2.2 bt290.2.2 true bt284.1 bt284.2.1 bt290.1 bt290.2.1))) else (penelopelaw16_DagBytes.j0 k bt284.2.2 bt290.2.2 (bt282.1.toList != ([] : List UInt8)) bt284.1 bt284.2.1 bt290.1 bt290.2.1)) else (penelopelaw16_DagBytes.j0 k bt284.2.2 bt290.2.2 true bt284.1 bt284.2.1 bt290.1 bt290.2.1)))))) else (none)) else (none))
theorem penelopelaw16_DagBytes.mono_l : ∀ k, (∀ y0 y1 y2 y3 y4 y5 y6, LeO (penelopelaw16_DagBytes.j0 k y0 y1 y2 y3 y4 y5 y6) (penelopelaw16_DagBytes.j0 (k + 1) y0 y1 y2 y3 y4 y5 y6))
  | 0 => fun _ _ _ _ _ _ _ r h => by simp [penelopelaw16_DagBytes.j0] at h
  | k + 1 => by
    have ih0 := penelopelaw16_DagBytes.mono_l k
    · intro y0 y1 y2 y3 y4 y5 y6
      unfold penelopelaw16_DagBytes.j0
      repeat' first
      | (with_reducible exact ih0 _ _ _ _ _ _ _)
      | (with_reducible exact dag_Get.mono _ _)
      | (with_reducible exact dag_Put.mono _ _ _)
      | (with_reducible exact penelopelaw16_alive.mono _)
      | (with_reducible exact penelopelaw16_few.mono _ _ _)
      | (with_reducible exact peneloperef16_Get.mono _ _)
      | (with_reducible exact peneloperef16_Like.mono _ _ _ _ _)
      | (with_reducible exact peneloperef16_Put.mono _ _ _)
      | (with_reducible exact peneloperef16_Right.mono _ _ _)
      | (with_reducible exact LeO.refl _)
      | (with_reducible exact LeO.none _)
      | (with_reducible refine LeO.ite ?_ ?_)
      | (with_reducible refine LeO.bind ?_ (fun _ => ?_))
      | exact ih0 _ _ _ _ _ _ _
      | exact dag_Get.mono _ _
      | exact dag_Put.mono _ _ _
      | exact penelopelaw16_alive.mono _
      | exact penelopelaw16_few.mono _ _ _
      | exact peneloperef16_Get.mono _ _
      | exact peneloperef16_Like.mono _ _ _ _ _
      | exact peneloperef16_Put.mono _ _ _
      | exact peneloperef16_Right.mono _ _ _
      | exact LeO.none _
      | refine LeO.ite ?_ ?_
      | refine LeO.bind ?_ (fun _ => ?_)
theorem penelopelaw16_DagBytes.mono : ∀ a0 a1 a2 k, LeO (penelopelaw16_DagBytes.f k a0 a1 a2) (penelopelaw16_DagBytes.f (k + 1) a0 a1 a2) := by
  intro a0 a1 a2 k
  have ih0 := penelopelaw16_DagBytes.mono_l k
  unfold penelopelaw16_DagBytes.f
  repeat' first
      | (with_reducible exact ih0 _ _ _ _ _ _ _)
      | (with_reducible exact dag_Get.mono _ _)
      | (with_reducible exact dag_Put.mono _ _ _)
      | (with_reducible exact penelopelaw16_alive.mono _)
      | (with_reducible exact penelopelaw16_few.mono _ _ _)
      | (with_reducible exact peneloperef16_Get.mono _ _)
      | (with_reducible exact peneloperef16_Like.mono _ _ _ _ _)
      | (with_reducible exact peneloperef16_Put.mono _ _ _)
      | (with_reducible exact peneloperef16_Right.mono _ _ _)
      | (with_reducible exact LeO.refl _)
      | (with_reducible exact LeO.none _)
      | (with_reducible refine LeO.ite ?_ ?_)
      | (with_reducible refine LeO.bind ?_ (fun _ => ?_))
      | exact ih0 _ _ _ _ _ _ _
      | exact dag_Get.mono _ _
      | exact dag_Put.mono _ _ _
      | exact penelopelaw16_alive.mono _
      | exact penelopelaw16_few.mono _ _ _
      | exact peneloperef16_Get.mono _ _
      | exact peneloperef16_Like.mono _ _ _ _ _
      | exact peneloperef16_Put.mono _ _ _
      | exact peneloperef16_Right.mono _ _ _
      | exact LeO.none _
      | refine LeO.ite ?_ ?_
      | refine LeO.bind ?_ (fun _ => ?_)
def penelopelaw16_DagBytes.T1 : Bool × List (List Nat × List Nat) := (true, [([], []), ([0], [0]), ([], []), ([], []), ([3], [3]), ([4], [4]), ([2, 5], [2, 5]), ([1, 1, 0, 1], [1]), ([6, 7, 0, 1, 2, 3, 4, 5, 6, 7], [2, 3, 6])])
def penelopelaw16_DagBytes.B1 : List Nat := [0, 1, 0, 0, 8, 24, 60, 3, 255]
theorem penelopelaw16_DagBytes.tab1 : rtab .any (opsOf Try.f6 1) = penelopelaw16_DagBytes.T1 := by kernel_rfl
theorem penelopelaw16_DagBytes.bits1 : waitsOk penelopelaw16_DagBytes.T1.2 penelopelaw16_DagBytes.B1 = true := by kernel_rfl
set_option maxHeartbeats 8000000 in
set_option maxRecDepth 100000 in
theorem penelopelaw16_DagBytes.calls (k : Nat) (a0_0 : ByteArray) (A0_1 : Option Addr) (c0_1 : Nat) (l0_1 : List (S39)) (a1 : ByteArray) (r : Bool) (w : World) (hr0_1 : Kd.C k39 w A0_1 l0_1.length l0_1) (hc0_1 : l0_1.length ≤ c0_1) (h : penelopelaw16_DagBytes.f k a0_0 l0_1 a1 = some r) :
    Calls Try.prog 6 #[.agg #[.string a0_0, .slice A0_1 l0_1.length c0_1], .string a1] w fun e w' => e = .returned (.bool r) ∧ Below w.heap.size w w' := by
  have hu24 := Try.underlying24
  have HR0_1 := Aside0.mk hr0_1
  have HC0_1 := Aside0.mk hc0_1
  clear hr0_1 hc0_1
  have HB := Aside0.mk (Below.refl w.heap.size w)
  have H : ((penelopelaw16_few.f k a0_0 l0_1).bind fun bt278 => (if 0 ≤ (mn (a1.size : Int) 2000) then (if (mn (a1.size : Int) 2000) ≤ (a1.size : Int) then ((dag_Put.f k bt278.1 bt278.2).bind fun bt282 => ((dag_Get.f k (a1.extract 0 ((mn (a1.size : Int) 2000) : Int).toNat)).bind fun bt284 => ((peneloperef16_Get.f k (a1.extract 0 ((mn (a1.size : Int) 2000) : Int).toNat)).bind fun bt290 => ((peneloperef16_Right.f k bt278.1 bt278.2).bind fun t296 => (if bt282.2 = t296 then (if t296 = 0 then ((peneloperef16_Put.f k bt278.1 bt278.2).bind fun t297 => (if bt282.1.toList = t297.toList then (penelopelaw16_DagBytes.j0 k bt284.2.2 bt290.2.2 false bt284.1 bt284.2.1 bt290.1 bt290.2.1) else (penelopelaw16_DagBytes.j0 k bt284.2.2 bt290.2.2 true bt284.1 bt284.2.1 bt290.1 bt290.2.1))) else (penelopelaw16_DagBytes.j0 k bt284.2.2 bt290.2.2 (bt282.1.toList != ([] : List UInt8)) bt284.1 bt284.2.1 bt290.1 bt290.2.1)) else (penelopelaw16_DagBytes.j0 k bt284.2.2 bt290.2.2 true bt284.1 bt284.2.1 bt290.1 bt290.2.1)))))) else (none)) else (none))) = some r := h
  clear h
  replace H := Option.bind_eq_some_iff.mp H
  obtain ⟨⟨t278, t279⟩, A30, H⟩ := H
  replace H : (if 0 ≤ (mn (a1.size : Int) 2000) then (if (mn (a1.size : Int) 2000) ≤ (a1.size : Int) then ((dag_Put.f k t278 t279).bind fun bt282 => ((dag_Get.f k (a1.extract 0 ((mn (a1.size : Int) 2000) : Int).toNat)).bind fun bt284 => ((peneloperef16_Get.f k (a1.extract 0 ((mn (a1.size : Int) 2000) : Int).toNat)).bind fun bt290 => ((peneloperef16_Right.f k t278 t279).bind fun t296 => (if bt282.2 = t296 then (if t296 = 0 then ((peneloperef16_Put.f k t278 t279).bind fun t297 => (if bt282.1.toList = t297.toList then (penelopelaw16_DagBytes.j0 k bt284.2.2 bt290.2.2 false bt284.1 bt284.2.1 bt290.1 bt290.2.1) else (penelopelaw16_DagBytes.j0 k bt284.2.2 bt290.2.2 true bt284.1 bt284.2.1 bt290.1 bt290.2.1))) else (penelopelaw16_DagBytes.j0 k bt284.2.2 bt290.2.2 (bt282.1.toList != ([] : List UInt8)) bt284.1 bt284.2.1 bt290.1 bt290.2.1)) else (penelopelaw16_DagBytes.j0 k bt284.2.2 bt290.2.2 true bt284.1 bt284.2.1 bt290.1 bt290.2.1)))))) else (none)) else (none)) = some r := H
  have A3 := Aside0.mk A30
  clear A30
  obtain ⟨ji4, hji4⟩ : ∃ j_ : Int, (mn (a1.size : Int) 2000) = j_ := ⟨_, rfl⟩
  replace H : (if 0 ≤ (ji4) then (if (ji4) ≤ (a1.size : Int) then ((dag_Put.f k t278 t279).bind fun bt282 => ((dag_Get.f k (a1.extract 0 ((ji4) : Int).toNat)).bind fun bt284 => ((peneloperef16_Get.f k (a1.extract 0 ((ji4) : Int).toNat)).bind fun bt290 => ((peneloperef16_Right.f k t278 t279).bind fun t296 => (if bt282.2 = t296 then (if t296 = 0 then ((peneloperef16_Put.f k t278 t279).bind fun t297 => (if bt282.1.toList = t297.toList then (penelopelaw16_DagBytes.j0 k bt284.2.2 bt290.2.2 false bt284.1 bt284.2.1 bt290.1 bt290.2.1) else (penelopelaw16_DagBytes.j0 k bt284.2.2 bt290.2.2 true bt284.1 bt284.2.1 bt290.1 bt290.2.1))) else (penelopelaw16_DagBytes.j0 k bt284.2.2 bt290.2.2 (bt282.1.toList != ([] : List UInt8)) bt284.1 bt284.2.1 bt290.1 bt290.2.1)) else (penelopelaw16_DagBytes.j0 k bt284.2.2 bt290.2.2 true bt284.1 bt284.2.1 bt290.1 bt290.2.1)))))) else (none)) else (none)) = some r := by first | (rw [hji4] at H; exact H) | (simp only [hji4] at H ⊢; exact H)
  (try rw [hji4] at A3)
  (try (have hji4h : ji4 ≤ 2000 := by (rw [← hji4]; unfold mn; (repeat' split) <;> omega)))
  (try (have hji4g : ji4 ≤ 64 := by omega))
  (try (have hji4l : 0 ≤ ji4 := by (rw [← hji4]; unfold mn; (repeat' split) <;> omega)))
  (try (have hji4m : 0 ≤ ji4 := by omega))
  have hji4_ : (if 2000 < (a1.size : Int) then 2000 else (a1.size : Int)) = ji4 := hji4
  by_cases c5 : 0 ≤ (ji4)
  · rw [if_pos c5] at H
    have c5b0 := eq_true c5
    have c5b1 : decide (0 ≤ (ji4)) = true := decide_eq_true c5
    clear c5
    by_cases c6 : (ji4) ≤ (a1.size : Int)
    · rw [if_pos c6] at H
      have c6b0 := eq_true c6
      have c6b1 : decide ((ji4) ≤ (a1.size : Int)) = true := decide_eq_true c6
      clear c6
      replace H := Option.bind_eq_some_iff.mp H
      obtain ⟨⟨t282, t283⟩, A70, H⟩ := H
      replace H : ((dag_Get.f k (a1.extract 0 ((ji4) : Int).toNat)).bind fun bt284 => ((peneloperef16_Get.f k (a1.extract 0 ((ji4) : Int).toNat)).bind fun bt290 => ((peneloperef16_Right.f k t278 t279).bind fun t296 => (if t283 = t296 then (if t296 = 0 then ((peneloperef16_Put.f k t278 t279).bind fun t297 => (if t282.toList = t297.toList then (penelopelaw16_DagBytes.j0 k bt284.2.2 bt290.2.2 false bt284.1 bt284.2.1 bt290.1 bt290.2.1) else (penelopelaw16_DagBytes.j0 k bt284.2.2 bt290.2.2 true bt284.1 bt284.2.1 bt290.1 bt290.2.1))) else (penelopelaw16_DagBytes.j0 k bt284.2.2 bt290.2.2 (t282.toList != ([] : List UInt8)) bt284.1 bt284.2.1 bt290.1 bt290.2.1)) else (penelopelaw16_DagBytes.j0 k bt284.2.2 bt290.2.2 true bt284.1 bt284.2.1 bt290.1 bt290.2.1))))) = some r := H
      have A7 := Aside0.mk A70
      clear A70
      replace H := Option.bind_eq_some_iff.mp H
      obtain ⟨⟨t284, t285, t288⟩, A80, H⟩ := H
      replace H : ((peneloperef16_Get.f k (a1.extract 0 ((ji4) : Int).toNat)).bind fun bt290 => ((peneloperef16_Right.f k t278 t279).bind fun t296 => (if t283 = t296 then (if t296 = 0 then ((peneloperef16_Put.f k t278 t279).bind fun t297 => (if t282.toList = t297.toList then (penelopelaw16_DagBytes.j0 k t288 bt290.2.2 false t284 t285 bt290.1 bt290.2.1) else (penelopelaw16_DagBytes.j0 k t288 bt290.2.2 true t284 t285 bt290.1 bt290.2.1))) else (penelopelaw16_DagBytes.j0 k t288 bt290.2.2 (t282.toList != ([] : List UInt8)) t284 t285 bt290.1 bt290.2.1)) else (penelopelaw16_DagBytes.j0 k t288 bt290.2.2 true t284 t285 bt290.1 bt290.2.1)))) = some r := H
      have A8 := Aside0.mk A80
      clear A80
      replace H := Option.bind_eq_some_iff.mp H
      obtain ⟨⟨t290, t291, t294⟩, A90, H⟩ := H
      replace H : ((peneloperef16_Right.f k t278 t279).bind fun t296 => (if t283 = t296 then (if t296 = 0 then ((peneloperef16_Put.f k t278 t279).bind fun t297 => (if t282.toList = t297.toList then (penelopelaw16_DagBytes.j0 k t288 t294 false t284 t285 t290 t291) else (penelopelaw16_DagBytes.j0 k t288 t294 true t284 t285 t290 t291))) else (penelopelaw16_DagBytes.j0 k t288 t294 (t282.toList != ([] : List UInt8)) t284 t285 t290 t291)) else (penelopelaw16_DagBytes.j0 k t288 t294 true t284 t285 t290 t291))) = some r := H
      have A9 := Aside0.mk A90
      clear A90
      replace H := Option.bind_eq_some_iff.mp H
      obtain ⟨t296, A100, H⟩ := H
      replace H : (if t283 = t296 then (if t296 = 0 then ((peneloperef16_Put.f k t278 t279).bind fun t297 => (if t282.toList = t297.toList then (penelopelaw16_DagBytes.j0 k t288 t294 false t284 t285 t290 t291) else (penelopelaw16_DagBytes.j0 k t288 t294 true t284 t285 t290 t291))) else (penelopelaw16_DagBytes.j0 k t288 t294 (t282.toList != ([] : List UInt8)) t284 t285 t290 t291)) else (penelopelaw16_DagBytes.j0 k t288 t294 true t284 t285 t290 t291)) = some r := H
      have A10 := Aside0.mk A100
      clear A100
      have HC11 := Aside0.mk H
      clear H
      go_enter Try.func6, Try.ntmps6
      try go_wp2_with (first | ((with_reducible refine gate_dst (N := 2) rfl ?_); refine box_event ?hg (N := 2) ?hd (cs := #[.string a0_0, .slice A0_1 l0_1.length c0_1]) (t := 24) ?hr ?_; (case hd => rfl); (case hg => rfl); (case hr => first | (go_simp; done) | (go_simp; rfl)); intro gb277 hg w12 hbox hb; have n0_ := Aside0.mk (below_step (by repeat (first | (with_reducible first | exact HB.out | apply below_alloc | apply pw_below_drewN | apply below_drew1) | exact HB.out)) hb); have n1_ := Aside0.mk (hbox); have n2_ := Aside0.mk ((by rw [hg]; exact (below_size (by repeat (first | (with_reducible first | exact HB.out | apply below_alloc | apply pw_below_drewN | apply below_drew1) | exact HB.out))) : w.heap.size ≤ gb277)); have n3_ := Aside0.mk ((by rw [hg]; exact (below_size (by repeat (first | (with_reducible first | exact HB.out | apply below_alloc | apply pw_below_drewN | apply below_drew1) | exact HB.out))) : w.heap.size ≤ gb277)); clear HB; have HB := n0_; have BK277 := n1_; have GW277 := n2_; have GE277 := n3_; clear n0_ n1_ n2_ n3_; clear hb hbox hg))
      have n0_ := Aside0.mk (blk_drew BK277.out)
      have n1_ := Aside0.mk (below_drew1 HB.out)
      clear BK277
      clear HB
      have BK277 := n0_
      have HB := n1_
      clear n0_ n1_
      refine start_ (n := 9) (S := fun w' => w'.cell? ⟨gb277, 0, none⟩ = some (.string a0_0) ∧ w'.cell? ⟨gb277, 1, none⟩ = some (.slice A0_1 l0_1.length c0_1)) (ds := [7]) #[false, false, false, false, false, false, false, false, false] (by kernel_rfl) rfl rfl ⟨(blk_cell BK277.out 0).trans rfl, (blk_cell BK277.out 1).trans rfl⟩ (fun hHeld => ?_); refine with_tabW penelopelaw16_DagBytes.tab1 penelopelaw16_DagBytes.bits1 (fun HT_ HW_ => ?_)
      generalize w12.drew = w13 at BK277 HB hHeld ⊢
      refine pure_ (i := 2) (N := some 14) (v := ?_) (a' := ?_) #[false, false, true, false, false, false, false, false, false] rfl rfl (any_of HT_.out (by kernel_rfl)) (fun _ _ _ h => h) (Or.inl ⟨by rfl, ?_⟩) ?_ ?_
      rotate_left
      · intro w'
        go_simp
        with_reducible rfl
      rotate_left
      · simp only [Act.put, List.setIfInBounds_toArray, List.set_cons_zero, List.set_cons_succ, i64_w, i32_w]
        rfl
      refine pure_ (i := 3) (N := some 15) (v := ?_) (a' := ?_) #[false, false, true, true, false, false, false, false, false] rfl rfl (any_of HT_.out (by kernel_rfl)) (fun _ _ _ h => h) (Or.inl ⟨by rfl, ?_⟩) ?_ ?_
      rotate_left
      · intro w'
        go_simp
        with_reducible rfl
      rotate_left
      · simp only [Act.put, List.setIfInBounds_toArray, List.set_cons_zero, List.set_cons_succ, i64_w, i32_w]
        rfl
      refine pure_ (i := 4) (N := some 16) (v := ?_) (a' := ?_) #[false, false, true, true, true, false, false, false, false] rfl rfl (any_of HT_.out (by kernel_rfl)) (fun _ _ _ h => h) (Or.inl ⟨by rfl, ?_⟩) ?_ ?_
      rotate_left
      · intro w'
        go_simp
        with_reducible rfl
      rotate_left
      · simp only [Act.put, List.setIfInBounds_toArray, List.set_cons_zero, List.set_cons_succ, i64_w, i32_w]
        rfl
      refine pure_ (i := 5) (N := some 17) (v := ?_) (a' := ?_) #[false, false, true, true, true, true, false, false, false] rfl rfl (any_of HT_.out (by kernel_rfl)) (fun _ _ _ h => h) (Or.inl ⟨by rfl, ?_⟩) ?_ ?_
      rotate_left
      · intro w'
        go_simp
        with_reducible rfl
      rotate_left
      · simp only [Act.put, List.setIfInBounds_toArray, List.set_cons_zero, List.set_cons_succ, i64_w, i32_w]
        rfl
      refine pure_ (i := 6) (N := some 18) (v := ?_) (a' := ?_) #[false, false, true, true, true, true, true, false, false] rfl rfl (any_of HT_.out (by kernel_rfl)) (fun _ _ _ h => h) (Or.inl ⟨by rfl, ?_⟩) ?_ ?_
      rotate_left
      · intro w'
        go_simp
        with_reducible rfl
      rotate_left
      · simp only [Act.put, List.setIfInBounds_toArray, List.set_cons_zero, List.set_cons_succ, i64_w, i32_w]
        rfl
      refine take_ (i := 0) (N := some 12) (v := ?_) (a' := ?_) #[true, false, true, true, true, true, true, false, false] rfl rfl (take_ofW HT_.out HW_.out (by kernel_rfl)) (fun _ _ _ h => h) (Or.inl ⟨by rfl, ?_⟩) hHeld ?_ ?_
      rotate_left
      · rintro w' ⟨s0, s1⟩
        go_simp
        with_reducible rfl
      rotate_left
      · simp only [Act.put, List.setIfInBounds_toArray, List.set_cons_zero, List.set_cons_succ, i64_w, i32_w]
        rfl
      refine one_ (i := 1) (N := some 13) #[true, true, true, true, true, true, true, false, false] rfl rfl (one_of HT_.out (by kernel_rfl)) (by decide) (fun K hK => ?_)
      refine goes_ Try.func8 (by kernel_rfl) rfl #[.agg #[.string a0_0, .slice A0_1 l0_1.length c0_1]] (by rfl) rfl rfl (by (try simp only [List.map_toArray, List.map_cons, List.map_nil]); first | done | rfl | (simp only [List.length_drop, List.length_take]; rfl)) ?_
      with_reducible refine (penelopelaw16_few.calls k a0_0 _ _ l0_1 t278 t279 gb277 w _ HR0_1.out (by repeat (first | (with_reducible first | exact HB.out | apply below_alloc | apply pw_below_drewN | apply below_drew1 | refine below_set ?_ GE277.out) | exact HB.out)) GE277.out (blk_lt (o := .cells #[.string a0_0, .slice A0_1 l0_1.length c0_1] 24 (0, 0)) (by (with_reducible repeat (first | refine blk_drewN ?_ _ | refine blk_drew ?_ | refine blk_alloc ?_ _)); exact BK277.out)) HC0_1.out A3.out).mono ?_
      rintro e w14 ⟨v280, rfl, ho0, hb⟩
      refine ⟨_, rfl, ?_⟩
      have n0_ := Aside0.mk (Kd.N_lower ho0 (below_size (by repeat (first | (with_reducible first | exact HB.out | apply below_alloc | apply pw_below_drewN | apply below_drew1 | refine below_set ?_ GE277.out) | exact HB.out))))
      have n1_ := Aside0.mk (blk_below (g := gb277) (o := .cells #[.string a0_0, .slice A0_1 l0_1.length c0_1] 24 (0, 0)) (by (with_reducible repeat (first | refine blk_drewN ?_ _ | refine blk_drew ?_ | refine blk_alloc ?_ _)); exact BK277.out) hb)
      have n2_ := Aside0.mk (below_step (by repeat (first | (with_reducible first | exact HB.out | apply below_alloc | apply pw_below_drewN | apply below_drew1 | refine below_set ?_ GE277.out) | exact HB.out)) hb)
      clear BK277
      clear HB
      have HO281 := n0_
      have BK277 := n1_
      have HB := n2_
      clear n0_ n1_ n2_
      (try clear hb)
      (try clear hb2)
      (try clear hk)
      (try clear hi)
      (try clear ho0)
      obtain ⟨Ao16, co16, eo16⟩ := Kd.N_slice HO281.out
      (first | subst eo16 | (injection eo16 with f1_ f2_ f3_; have f4_ := f1_.symm; have f5_ := f3_.symm; clear f1_ f2_ f3_; subst f4_; subst f5_))
      refine hK.out _ _ ⟨(blk_cell BK277.out 0).trans rfl, (blk_cell BK277.out 1).trans rfl⟩ (fun hHeld => ?_)
      clear hK K
      refine norm_ (a' := ?_) ?_ ?_
      rotate_left
      · show Act.put _ (some 13) _ = _
        simp only [Act.put, List.setIfInBounds_toArray, List.set_cons_zero, List.set_cons_succ, i64_w, i32_w]
        rfl
      refine last_ (i := 7) (N := none) #[true, true, true, true, true, true, true, true, false] rfl rfl (one_of HT_.out (by kernel_rfl)) (by decide) (fun K hK => ?_)
      have hs15 : w14.cell? ⟨gb277, 0, none⟩ = some (.string a0_0) := (blk_cell BK277.out 0).trans rfl
      have hfs15 := blk_frozen BK277.out 0
      have hs17 : w14.cell? ⟨gb277, 1, none⟩ = some (.slice A0_1 l0_1.length c0_1) := (blk_cell BK277.out 1).trans rfl
      have hfs17 := blk_frozen BK277.out 1
      refine skip_ (w1 := ?_) (by rfl) rfl ?_ ?_
      rotate_left
      · go_simp
        rfl
      refine hK.out _ _ ?_
      clear hK K
      refine pure_ (i := 8) (N := some 1) (v := ?_) (a' := ?_) #[true, true, true, true, true, true, true, true, true] rfl rfl (any_of HT_.out (by kernel_rfl)) (fun _ _ _ h => h) (Or.inl ⟨by rfl, ?_⟩) ?_ ?_
      rotate_left
      · intro w'
        go_simp
        with_reducible rfl
      rotate_left
      · simp only [Act.put, List.setIfInBounds_toArray, List.set_cons_zero, List.set_cons_succ, i64_w, i32_w]
        rfl
      refine done_ (done_of HT_.out (by kernel_rfl)) ?_
      have hcz18_0 : w14.cell? ⟨gb277, 0, none⟩ = some (.string a0_0) := (blk_cell BK277.out 0).trans rfl
      have hcz18_1 : w14.cell? ⟨gb277, 1, none⟩ = some (.slice A0_1 l0_1.length c0_1) := (blk_cell BK277.out 1).trans rfl
      have hfz18_0 := blk_frozen BK277.out 0
      have hfz18_1 := blk_frozen BK277.out 1
      go_upto_region 6 with (first | ((with_reducible refine gate_callee (f := 17) rfl ?_); refine goesL_ (some 21) rfl rfl Try.func17 (by kernel_rfl) rfl #[.agg #[.string t278, .slice Ao16 t279.length co16]] rfl (by (try simp only [List.map_toArray, List.map_cons, List.map_nil]); first | done | rfl | (simp only [List.length_drop, List.length_take]; rfl)) ?_; (with_reducible refine (dag_Put.calls k t278 _ _ t279 t282 t283 _ ?side1 ?side2 A7.out).mono ?_); (case side1 => refine (Kd.N_reads' (e := 39) (base := w.heap.size) (ok := fun k_ => k_ ≠ gb277) (n := t279.length) (c := co16) ?_).2.2; exact (by (with_reducible repeat (first | apply Kd.N_alloc | apply Kd.N_drewN | apply Kd.N_drew)); exact (Kd.N_mono (Kd.N_far (p := ⟨gb277, 1, none⟩) (Kd.N_far (p := ⟨gb277, 0, none⟩) HO281.out (fun _ hk => hk) (.string t278)) (fun _ hk => hk) (.slice Ao16 t279.length co16)) (fun _ h_ => h_)))); (case side2 => exact (Kd.N_reads' HO281.out).2.1); rintro e w19 ⟨rfl, hb⟩; refine ⟨_, rfl, ?_⟩; have n0_ := Aside0.mk (Kd.N_below (by (with_reducible repeat (first | apply Kd.N_alloc | apply Kd.N_drewN | apply Kd.N_drew)); exact (Kd.N_mono (Kd.N_far (p := ⟨gb277, 1, none⟩) (Kd.N_far (p := ⟨gb277, 0, none⟩) HO281.out (fun _ hk => hk) (.string t278)) (fun _ hk => hk) (.slice Ao16 t279.length co16)) (fun _ h_ => h_))) hb); have n1_ := Aside0.mk (blk_below (g := gb277) (o := .cells #[.string t278, .slice Ao16 t279.length co16] 24 (0, 0)) (by (with_reducible repeat (first | refine blk_drewN ?_ _ | refine blk_drew ?_ | refine blk_alloc ?_ _)); refine blk_put (cs := #[.string t278, .slice A0_1 l0_1.length c0_1]) ?_ 1 _ rfl; (with_reducible repeat (first | refine blk_drewN ?_ _ | refine blk_drew ?_ | refine blk_alloc ?_ _)); refine blk_put (cs := #[.string a0_0, .slice A0_1 l0_1.length c0_1]) ?_ 0 _ rfl; (with_reducible repeat (first | refine blk_drewN ?_ _ | refine blk_drew ?_ | refine blk_alloc ?_ _)); exact BK277.out) hb); have n2_ := Aside0.mk (below_step (by repeat (first | (with_reducible first | exact HB.out | apply below_alloc | apply pw_below_drewN | apply below_drew1 | refine below_set ?_ GE277.out) | exact HB.out)) hb); clear HO281; clear BK277; clear HB; have HO281 := n0_; have BK277 := n1_; have HB := n2_; clear n0_ n1_ n2_; (try clear hb); (try clear hb2); (try clear hk); (try clear hi)) | ((with_reducible refine gate_callee (f := 18) rfl ?_); refine goesL_ (some 26) rfl rfl Try.func18 (by kernel_rfl) rfl #[.string (a1.extract 0 ((ji4) : Int).toNat)] rfl (by (try simp only [List.map_toArray, List.map_cons, List.map_nil]); first | done | (simp only [hji4]; rfl) | rfl | (simp only [List.length_drop, List.length_take]; rfl)) ?_; (with_reducible refine (dag_Get.calls k (a1.extract 0 ((ji4) : Int).toNat) t284 t285 t288 _ A8.out).mono ?_); rintro e w20 ⟨v286, rfl, ho0, hb⟩; refine ⟨_, rfl, ?_⟩; have n0_ := Aside0.mk (Kd.N_elder' (by (with_reducible repeat (first | apply Kd.N_alloc | apply Kd.N_drewN | apply Kd.N_drew)); exact HO281.out) (Kd.S_base ho0) hb); have n1_ := Aside0.mk (Kd.S_lower (Kd.S_new' ho0 (Kd.N_lt (by (with_reducible repeat (first | apply Kd.N_alloc | apply Kd.N_drewN | apply Kd.N_drew)); exact HO281.out))) (below_size (by repeat (first | (with_reducible first | exact HB.out | apply below_alloc | apply pw_below_drewN | apply below_drew1 | refine below_set ?_ GE277.out) | exact HB.out)))); have n2_ := Aside0.mk (blk_below (g := gb277) (o := .cells #[.string t278, .slice Ao16 t279.length co16] 24 (0, 0)) (by (with_reducible repeat (first | refine blk_drewN ?_ _ | refine blk_drew ?_ | refine blk_alloc ?_ _)); exact BK277.out) hb); have n3_ := Aside0.mk (below_step (by repeat (first | (with_reducible first | exact HB.out | apply below_alloc | apply pw_below_drewN | apply below_drew1 | refine below_set ?_ GE277.out) | exact HB.out)) hb); clear HO281; clear BK277; clear HB; have HO281 := n0_; have HO287 := n1_; have BK277 := n2_; have HB := n3_; clear n0_ n1_ n2_ n3_; (try clear hb); (try clear hb2); (try clear hk); (try clear hi); (try clear ho0)) | ((with_reducible refine gate_dst (N := 7) rfl ?_); refine box_event ?hg (N := 7) ?hd (cs := #[.string (⟨#[]⟩ : ByteArray), .slice none 0 0]) (t := 24) ?hr ?_; (case hd => rfl); (case hg => rfl); (case hr => first | (go_simp; done) | (go_simp; rfl)); intro gb289 hg w21 hbox hb; have n0_ := Aside0.mk (Kd.N_below (Kd.N_elderB (by (with_reducible repeat (first | apply Kd.N_alloc | apply Kd.N_drewN | apply Kd.N_drew)); exact HO281.out) gb289 (Nat.le_of_eq hg.symm)) hb); have n1_ := Aside0.mk (Kd.S_below (by (with_reducible repeat (first | apply Kd.S_alloc | apply Kd.S_drewN | apply Kd.S_drew)); exact HO287.out) hb); have n2_ := Aside0.mk (blk_below (g := gb277) (o := .cells #[.string t278, .slice Ao16 t279.length co16] 24 (0, 0)) (by (with_reducible repeat (first | refine blk_drewN ?_ _ | refine blk_drew ?_ | refine blk_alloc ?_ _)); exact BK277.out) hb); have n3_ := Aside0.mk (below_step (by repeat (first | (with_reducible first | exact HB.out | apply below_alloc | apply pw_below_drewN | apply below_drew1 | refine below_set ?_ GE277.out) | exact HB.out)) hb); have n4_ := Aside0.mk (hbox); have n5_ := Aside0.mk ((by rw [hg]; exact (below_size (by repeat (first | (with_reducible first | exact HB.out | apply below_alloc | apply pw_below_drewN | apply below_drew1 | refine below_set ?_ GE277.out) | exact HB.out))) : w.heap.size ≤ gb289)); have n6_ := Aside0.mk ((by rw [hg]; exact (below_size (by repeat (first | (with_reducible first | exact HB.out | apply below_alloc | apply pw_below_drewN | apply below_drew1 | refine below_set ?_ GE277.out) | exact HB.out))) : w.heap.size ≤ gb289)); have n7_ := Aside0.mk ((by rw [hg]; exact Nat.ne_of_lt (blk_lt (g := gb277) (o := .cells #[.string t278, .slice Ao16 t279.length co16] 24 (0, 0)) (by (with_reducible repeat (first | refine blk_drewN ?_ _ | refine blk_drew ?_ | refine blk_alloc ?_ _)); exact BK277.out)) : gb277 ≠ gb289)); have n8_ := Aside0.mk ((by rw [hg]; exact Nat.ne_of_gt (blk_lt (g := gb277) (o := .cells #[.string t278, .slice Ao16 t279.length co16] 24 (0, 0)) (by (with_reducible repeat (first | refine blk_drewN ?_ _ | refine blk_drew ?_ | refine blk_alloc ?_ _)); exact BK277.out)) : gb289 ≠ gb277)); clear HO281; clear HO287; clear BK277; clear HB; have HO281 := n0_; have HO287 := n1_; have BK277 := n2_; have HB := n3_; have BK289 := n4_; have GW289 := n5_; have GE289 := n6_; have NB277_289 := n7_; have NB289_277 := n8_; clear n0_ n1_ n2_ n3_ n4_ n5_ n6_ n7_ n8_; clear hb hbox hg; have hnb22 := NB289_277.out; have hnc22 := NB277_289.out; have hcz23_0 : w21.cell? ⟨gb289, 0, none⟩ = some (.string (⟨#[]⟩ : ByteArray)) := (blk_cell BK289.out 0).trans rfl; have hcz23_1 : w21.cell? ⟨gb289, 1, none⟩ = some (.slice none 0 0) := (blk_cell BK289.out 1).trans rfl; have hfz23_0 := blk_frozen BK289.out 0; have hfz23_1 := blk_frozen BK289.out 1; obtain ⟨Ao24, co24, eo24⟩ := Kd.S_slice HO287.out; subst eo24) | ((with_reducible refine gate_callee (f := 19) rfl ?_); refine goesL_ (some 31) rfl rfl Try.func19 (by kernel_rfl) rfl #[.string (a1.extract 0 ((ji4) : Int).toNat)] rfl (by (try simp only [List.map_toArray, List.map_cons, List.map_nil]); first | done | (simp only [hji4]; rfl) | rfl | (simp only [List.length_drop, List.length_take]; rfl)) ?_; (with_reducible refine (peneloperef16_Get.calls k (a1.extract 0 ((ji4) : Int).toNat) t290 t291 t294 _ A9.out).mono ?_); rintro e w25 ⟨v292, rfl, ho0, hb⟩; refine ⟨_, rfl, ?_⟩; have n0_ := Aside0.mk (Kd.N_elder' (by (with_reducible repeat (first | apply Kd.N_alloc | apply Kd.N_drewN | apply Kd.N_drew)); exact (Kd.N_mono (Kd.N_far (p := ⟨gb289, 1, none⟩) (Kd.N_far (p := ⟨gb289, 0, none⟩) HO281.out (fun _ hk => hk.2) (.string t284)) (fun _ hk => hk.2) (.slice Ao24 t285.length co24)) (fun _ h_ => h_))) (Kd.S_base ho0) hb); have n1_ := Aside0.mk (Kd.S_elder' (by (with_reducible repeat (first | apply Kd.S_alloc | apply Kd.S_drewN | apply Kd.S_drew)); exact (Kd.S_mono (Kd.S_far (p := ⟨gb289, 1, none⟩) (Kd.S_far (p := ⟨gb289, 0, none⟩) (Kd.S_types HO287.out BK289.out (by decide)) (fun _ hk => hk.2) (.string t284)) (fun _ hk => hk.2) (.slice Ao24 t285.length co24)) (fun _ h_ => h_.1))) (Kd.S_base ho0) hb); have n2_ := Aside0.mk (Kd.S_lower (Kd.S_new' (Kd.S_new' ho0 (Kd.N_lt (by (with_reducible repeat (first | apply Kd.N_alloc | apply Kd.N_drewN | apply Kd.N_drew)); exact (Kd.N_mono (Kd.N_far (p := ⟨gb289, 1, none⟩) (Kd.N_far (p := ⟨gb289, 0, none⟩) HO281.out (fun _ hk => hk.2) (.string t284)) (fun _ hk => hk.2) (.slice Ao24 t285.length co24)) (fun _ h_ => h_))))) (Kd.S_lt (by (with_reducible repeat (first | apply Kd.S_alloc | apply Kd.S_drewN | apply Kd.S_drew)); exact (Kd.S_mono (Kd.S_far (p := ⟨gb289, 1, none⟩) (Kd.S_far (p := ⟨gb289, 0, none⟩) (Kd.S_types HO287.out BK289.out (by decide)) (fun _ hk => hk.2) (.string t284)) (fun _ hk => hk.2) (.slice Ao24 t285.length co24)) (fun _ h_ => h_.1))))) (below_size (by repeat (first | (with_reducible first | exact HB.out | apply below_alloc | apply pw_below_drewN | apply below_drew1 | refine below_set ?_ GE277.out | refine below_set ?_ GE289.out) | exact HB.out)))); have n3_ := Aside0.mk (blk_below (g := gb277) (o := .cells #[.string t278, .slice Ao16 t279.length co16] 24 (0, 0)) (by (with_reducible repeat (first | refine blk_drewN ?_ _ | refine blk_drew ?_ | refine blk_alloc ?_ _)); refine blk_far ?_ NB277_289.out _; (with_reducible repeat (first | refine blk_drewN ?_ _ | refine blk_drew ?_ | refine blk_alloc ?_ _)); refine blk_far ?_ NB277_289.out _; (with_reducible repeat (first | refine blk_drewN ?_ _ | refine blk_drew ?_ | refine blk_alloc ?_ _)); exact BK277.out) hb); have n4_ := Aside0.mk (blk_below (g := gb289) (o := .cells #[.string t284, .slice Ao24 t285.length co24] 24 (0, 0)) (by (with_reducible repeat (first | refine blk_drewN ?_ _ | refine blk_drew ?_ | refine blk_alloc ?_ _)); refine blk_put (cs := #[.string t284, .slice none 0 0]) ?_ 1 _ rfl; (with_reducible repeat (first | refine blk_drewN ?_ _ | refine blk_drew ?_ | refine blk_alloc ?_ _)); refine blk_put (cs := #[.string (⟨#[]⟩ : ByteArray), .slice none 0 0]) ?_ 0 _ rfl; (with_reducible repeat (first | refine blk_drewN ?_ _ | refine blk_drew ?_ | refine blk_alloc ?_ _)); exact BK289.out) hb); have n5_ := Aside0.mk (below_step (by repeat (first | (with_reducible first | exact HB.out | apply below_alloc | apply pw_below_drewN | apply below_drew1 | refine below_set ?_ GE277.out | refine below_set ?_ GE289.out) | exact HB.out)) hb); clear HO281; clear HO287; clear BK277; clear BK289; clear HB; have HO281 := n0_; have HO287 := n1_; have HO293 := n2_; have BK277 := n3_; have BK289 := n4_; have HB := n5_; clear n0_ n1_ n2_ n3_ n4_ n5_; (try clear hb); (try clear hb2); (try clear hk); (try clear hi); (try clear ho0)) | ((with_reducible refine gate_dst (N := 9) rfl ?_); refine box_event ?hg (N := 9) ?hd (cs := #[.string (⟨#[]⟩ : ByteArray), .slice none 0 0]) (t := 24) ?hr ?_; (case hd => rfl); (case hg => rfl); (case hr => first | (go_simp; done) | (go_simp; rfl)); intro gb295 hg w26 hbox hb; have n0_ := Aside0.mk (Kd.N_below (Kd.N_elderB (by (with_reducible repeat (first | apply Kd.N_alloc | apply Kd.N_drewN | apply Kd.N_drew)); exact HO281.out) gb295 (Nat.le_of_eq hg.symm)) hb); have n1_ := Aside0.mk (Kd.S_below (by (with_reducible repeat (first | apply Kd.S_alloc | apply Kd.S_drewN | apply Kd.S_drew)); exact HO287.out) hb); have n2_ := Aside0.mk (Kd.S_below (by (with_reducible repeat (first | apply Kd.S_alloc | apply Kd.S_drewN | apply Kd.S_drew)); exact HO293.out) hb); have n3_ := Aside0.mk (blk_below (g := gb277) (o := .cells #[.string t278, .slice Ao16 t279.length co16] 24 (0, 0)) (by (with_reducible repeat (first | refine blk_drewN ?_ _ | refine blk_drew ?_ | refine blk_alloc ?_ _)); exact BK277.out) hb); have n4_ := Aside0.mk (blk_below (g := gb289) (o := .cells #[.string t284, .slice Ao24 t285.length co24] 24 (0, 0)) (by (with_reducible repeat (first | refine blk_drewN ?_ _ | refine blk_drew ?_ | refine blk_alloc ?_ _)); exact BK289.out) hb); have n5_ := Aside0.mk (below_step (by repeat (first | (with_reducible first | exact HB.out | apply below_alloc | apply pw_below_drewN | apply below_drew1 | refine below_set ?_ GE277.out | refine below_set ?_ GE289.out) | exact HB.out)) hb); have n6_ := Aside0.mk (hbox); have n7_ := Aside0.mk ((by rw [hg]; exact (below_size (by repeat (first | (with_reducible first | exact HB.out | apply below_alloc | apply pw_below_drewN | apply below_drew1 | refine below_set ?_ GE277.out | refine below_set ?_ GE289.out) | exact HB.out))) : w.heap.size ≤ gb295)); have n8_ := Aside0.mk ((by rw [hg]; exact (below_size (by repeat (first | (with_reducible first | exact HB.out | apply below_alloc | apply pw_below_drewN | apply below_drew1 | refine below_set ?_ GE277.out | refine below_set ?_ GE289.out) | exact HB.out))) : w.heap.size ≤ gb295)); have n9_ := Aside0.mk ((by rw [hg]; exact Nat.ne_of_lt (blk_lt (g := gb277) (o := .cells #[.string t278, .slice Ao16 t279.length co16] 24 (0, 0)) (by (with_reducible repeat (first | refine blk_drewN ?_ _ | refine blk_drew ?_ | refine blk_alloc ?_ _)); exact BK277.out)) : gb277 ≠ gb295)); have n10_ := Aside0.mk ((by rw [hg]; exact Nat.ne_of_gt (blk_lt (g := gb277) (o := .cells #[.string t278, .slice Ao16 t279.length co16] 24 (0, 0)) (by (with_reducible repeat (first | refine blk_drewN ?_ _ | refine blk_drew ?_ | refine blk_alloc ?_ _)); exact BK277.out)) : gb295 ≠ gb277)); have n11_ := Aside0.mk ((by rw [hg]; exact Nat.ne_of_lt (blk_lt (g := gb289) (o := .cells #[.string t284, .slice Ao24 t285.length co24] 24 (0, 0)) (by (with_reducible repeat (first | refine blk_drewN ?_ _ | refine blk_drew ?_ | refine blk_alloc ?_ _)); exact BK289.out)) : gb289 ≠ gb295)); have n12_ := Aside0.mk ((by rw [hg]; exact Nat.ne_of_gt (blk_lt (g := gb289) (o := .cells #[.string t284, .slice Ao24 t285.length co24] 24 (0, 0)) (by (with_reducible repeat (first | refine blk_drewN ?_ _ | refine blk_drew ?_ | refine blk_alloc ?_ _)); exact BK289.out)) : gb295 ≠ gb289)); clear HO281; clear HO287; clear HO293; clear BK277; clear BK289; clear HB; have HO281 := n0_; have HO287 := n1_; have HO293 := n2_; have BK277 := n3_; have BK289 := n4_; have HB := n5_; have BK295 := n6_; have GW295 := n7_; have GE295 := n8_; have NB277_295 := n9_; have NB295_277 := n10_; have NB289_295 := n11_; have NB295_289 := n12_; clear n0_ n1_ n2_ n3_ n4_ n5_ n6_ n7_ n8_ n9_ n10_ n11_ n12_; clear hb hbox hg; have hnb27 := NB295_277.out; have hnc27 := NB277_295.out; have hnb28 := NB295_289.out; have hnc28 := NB289_295.out; have hcz29_0 : w26.cell? ⟨gb295, 0, none⟩ = some (.string (⟨#[]⟩ : ByteArray)) := (blk_cell BK295.out 0).trans rfl; have hcz29_1 : w26.cell? ⟨gb295, 1, none⟩ = some (.slice none 0 0) := (blk_cell BK295.out 1).trans rfl; have hfz29_0 := blk_frozen BK295.out 0; have hfz29_1 := blk_frozen BK295.out 1; obtain ⟨Ao30, co30, eo30⟩ := Kd.S_slice HO293.out; subst eo30; have hcz31_0 : w26.cell? ⟨gb277, 0, none⟩ = some (.string t278) := (blk_cell BK277.out 0).trans rfl; have hcz31_1 : w26.cell? ⟨gb277, 1, none⟩ = some (.slice Ao16 t279.length co16) := (blk_cell BK277.out 1).trans rfl; have hfz31_0 := blk_frozen BK277.out 0; have hfz31_1 := blk_frozen BK277.out 1) | ((with_reducible refine gate_callee (f := 9) rfl ?_); refine goesL_ (some 35) rfl rfl Try.func9 (by kernel_rfl) rfl #[.agg #[.string t278, .slice Ao16 t279.length co16]] rfl (by (try simp only [List.map_toArray, List.map_cons, List.map_nil]); first | done | rfl | (simp only [List.length_drop, List.length_take]; rfl)) ?_; (with_reducible refine (peneloperef16_Right.calls k t278 _ _ t279 t296 _ ?side1 ?side2 A10.out).mono ?_); (case side1 => refine (Kd.N_reads' (e := 39) (base := w.heap.size) (ok := fun k_ => ((((k_ ≠ gb277 ∧ some k_ ≠ (.slice Ao24 t285.length co24 : Value).ownBlock) ∧ k_ ≠ gb289) ∧ some k_ ≠ (.slice Ao30 t291.length co30 : Value).ownBlock) ∧ k_ ≠ gb295)) (n := t279.length) (c := co16) ?_).2.2; exact (by (with_reducible repeat (first | apply Kd.N_alloc | apply Kd.N_drewN | apply Kd.N_drew)); exact (Kd.N_mono (Kd.N_far (p := ⟨gb295, 1, none⟩) (Kd.N_far (p := ⟨gb295, 0, none⟩) HO281.out (fun _ hk => hk.2) (.string t290)) (fun _ hk => hk.2) (.slice Ao30 t291.length co30)) (fun _ h_ => h_)))); (case side2 => exact (Kd.N_reads' HO281.out).2.1); rintro e w32 ⟨rfl, hb⟩; refine ⟨_, rfl, ?_⟩; have n0_ := Aside0.mk (Kd.N_below (by (with_reducible repeat (first | apply Kd.N_alloc | apply Kd.N_drewN | apply Kd.N_drew)); exact (Kd.N_mono (Kd.N_far (p := ⟨gb295, 1, none⟩) (Kd.N_far (p := ⟨gb295, 0, none⟩) HO281.out (fun _ hk => hk.2) (.string t290)) (fun _ hk => hk.2) (.slice Ao30 t291.length co30)) (fun _ h_ => h_))) hb); have n1_ := Aside0.mk (Kd.S_below (by (with_reducible repeat (first | apply Kd.S_alloc | apply Kd.S_drewN | apply Kd.S_drew)); exact (Kd.S_mono (Kd.S_far (p := ⟨gb295, 1, none⟩) (Kd.S_far (p := ⟨gb295, 0, none⟩) (Kd.S_types HO287.out BK295.out (by decide)) (fun _ hk => hk.2) (.string t290)) (fun _ hk => hk.2) (.slice Ao30 t291.length co30)) (fun _ h_ => h_.1))) hb); have n2_ := Aside0.mk (Kd.S_below (by (with_reducible repeat (first | apply Kd.S_alloc | apply Kd.S_drewN | apply Kd.S_drew)); exact (Kd.S_mono (Kd.S_far (p := ⟨gb295, 1, none⟩) (Kd.S_far (p := ⟨gb295, 0, none⟩) (Kd.S_types HO293.out BK295.out (by decide)) (fun _ hk => hk.2) (.string t290)) (fun _ hk => hk.2) (.slice Ao30 t291.length co30)) (fun _ h_ => h_.1))) hb); have n3_ := Aside0.mk (blk_below (g := gb277) (o := .cells #[.string t278, .slice Ao16 t279.length co16] 24 (0, 0)) (by (with_reducible repeat (first | refine blk_drewN ?_ _ | refine blk_drew ?_ | refine blk_alloc ?_ _)); refine blk_far ?_ NB277_295.out _; (with_reducible repeat (first | refine blk_drewN ?_ _ | refine blk_drew ?_ | refine blk_alloc ?_ _)); refine blk_far ?_ NB277_295.out _; (with_reducible repeat (first | refine blk_drewN ?_ _ | refine blk_drew ?_ | refine blk_alloc ?_ _)); exact BK277.out) hb); have n4_ := Aside0.mk (blk_below (g := gb289) (o := .cells #[.string t284, .slice Ao24 t285.length co24] 24 (0, 0)) (by (with_reducible repeat (first | refine blk_drewN ?_ _ | refine blk_drew ?_ | refine blk_alloc ?_ _)); refine blk_far ?_ NB289_295.out _; (with_reducible repeat (first | refine blk_drewN ?_ _ | refine blk_drew ?_ | refine blk_alloc ?_ _)); refine blk_far ?_ NB289_295.out _; (with_reducible repeat (first | refine blk_drewN ?_ _ | refine blk_drew ?_ | refine blk_alloc ?_ _)); exact BK289.out) hb); have n5_ := Aside0.mk (blk_below (g := gb295) (o := .cells #[.string t290, .slice Ao30 t291.length co30] 24 (0, 0)) (by (with_reducible repeat (first | refine blk_drewN ?_ _ | refine blk_drew ?_ | refine blk_alloc ?_ _)); refine blk_put (cs := #[.string t290, .slice none 0 0]) ?_ 1 _ rfl; (with_reducible repeat (first | refine blk_drewN ?_ _ | refine blk_drew ?_ | refine blk_alloc ?_ _)); refine blk_put (cs := #[.string (⟨#[]⟩ : ByteArray), .slice none 0 0]) ?_ 0 _ rfl; (with_reducible repeat (first | refine blk_drewN ?_ _ | refine blk_drew ?_ | refine blk_alloc ?_ _)); exact BK295.out) hb); have n6_ := Aside0.mk (below_step (by repeat (first | (with_reducible first | exact HB.out | apply below_alloc | apply pw_below_drewN | apply below_drew1 | refine below_set ?_ GE277.out | refine below_set ?_ GE289.out | refine below_set ?_ GE295.out) | exact HB.out)) hb); clear HO281; clear HO287; clear HO293; clear BK277; clear BK289; clear BK295; clear HB; have HO281 := n0_; have HO287 := n1_; have HO293 := n2_; have BK277 := n3_; have BK289 := n4_; have BK295 := n5_; have HB := n6_; clear n0_ n1_ n2_ n3_ n4_ n5_ n6_; (try clear hb); (try clear hb2); (try clear hk); (try clear hi)))
      (try simp only [Act.put, List.setIfInBounds_toArray, List.set_cons_zero, List.set_cons_succ])
      go_cut [56] (fun v56 wc => ∃ (kq : Nat) (x56_10 : Bool), v56 = .bool x56_10 ∧ Aside0 (penelopelaw16_DagBytes.j0 kq t288 t294 x56_10 t284 t285 t290 t291 = some r) ∧ Aside0 (kq ≤ k) ∧ Aside0 (Kd.N k39 39 wc w.heap.size (fun _ => True) (.slice Ao16 t279.length co16) t279) ∧ Aside0 (Kd.S k39 39 wc w.heap.size (fun k_ => some k_ ≠ ((.slice Ao16 t279.length co16) : Value).ownBlock ∧ some k_ ≠ ((.slice Ao30 t291.length co30) : Value).ownBlock) (.slice Ao24 t285.length co24) t285) ∧ Aside0 (Kd.S k39 39 wc w.heap.size (fun k_ => some k_ ≠ ((.slice Ao16 t279.length co16) : Value).ownBlock ∧ some k_ ≠ ((.slice Ao24 t285.length co24) : Value).ownBlock) (.slice Ao30 t291.length co30) t291) ∧ Aside0 (wc.heap[gb277]? = some (.cells #[.string t278, (.slice Ao16 t279.length co16)] 24 (0, 0))) ∧ Aside0 (wc.heap[gb289]? = some (.cells #[.string t284, (.slice Ao24 t285.length co24)] 24 (0, 0))) ∧ Aside0 (wc.heap[gb295]? = some (.cells #[.string t290, (.slice Ao30 t291.length co30)] 24 (0, 0))) ∧ Aside0 (Below w.heap.size w wc))
      case first =>
        have H := HC11.out
        clear HC11
        by_cases c33 : t283 = t296
        · rw [if_pos c33] at H
          have c33b0 : (t283 == t296) = true := beq_iff_eq.mpr c33
          have c33b1 : (t283 != t296) = false := bne_eq_false_iff_eq.mpr c33
          clear c33
          (first | rw [c33b0] | (simp only [i64_w, i32_w]; rw [c33b0]) | skip)
          by_cases c34 : t296 = 0
          · rw [if_pos c34] at H
            have c34b0 : (t296 == 0) = true := beq_iff_eq.mpr c34
            have c34b1 : (t296 != 0) = false := bne_eq_false_iff_eq.mpr c34
            clear c34
            replace H := Option.bind_eq_some_iff.mp H
            obtain ⟨t297, A350, H⟩ := H
            replace H : (if t282.toList = t297.toList then (penelopelaw16_DagBytes.j0 k t288 t294 false t284 t285 t290 t291) else (penelopelaw16_DagBytes.j0 k t288 t294 true t284 t285 t290 t291)) = some r := H
            have A35 := Aside0.mk A350
            clear A350
            by_cases c36 : t282.toList = t297.toList
            · rw [if_pos c36] at H
              have c36b0 : (t282.toList == t297.toList) = true := beq_iff_eq.mpr c36
              have c36b1 : (t282.toList != t297.toList) = false := bne_eq_false_iff_eq.mpr c36
              clear c36
              have H' := Aside0.mk H
              clear H
              have hnb37 := NB277_289.out
              have hnc37 := NB289_277.out
              have hnb38 := NB277_295.out
              have hnc38 := NB295_277.out
              have hcz39_0 : w32.cell? ⟨gb277, 0, none⟩ = some (.string t278) := (blk_cell BK277.out 0).trans rfl
              have hcz39_1 : w32.cell? ⟨gb277, 1, none⟩ = some (.slice Ao16 t279.length co16) := (blk_cell BK277.out 1).trans rfl
              have hfz39_0 := blk_frozen BK277.out 0
              have hfz39_1 := blk_frozen BK277.out 1
              go_wp2_with (first | (go_at_call 20; (with_reducible refine (peneloperef16_Put.calls k t278 _ _ t279 t297 _ ?side1 ?side2 A35.out).mono ?_); (case side1 => repeat (first | exact (Kd.N_reads' HO281.out).2.2 | (with_reducible refine Kd.C_alloc ?_ _) | (with_reducible refine Kd.C_drewN ?_ _) | (with_reducible refine Kd.C_drew ?_))); (case side2 => exact (Kd.N_reads' HO281.out).2.1); rintro e w40 ⟨rfl, hb⟩; have n0_ := Aside0.mk (Kd.N_below (by (with_reducible repeat (first | apply Kd.N_alloc | apply Kd.N_drewN | apply Kd.N_drew)); exact HO281.out) hb); have n1_ := Aside0.mk (Kd.S_below (by (with_reducible repeat (first | apply Kd.S_alloc | apply Kd.S_drewN | apply Kd.S_drew)); exact HO287.out) hb); have n2_ := Aside0.mk (Kd.S_below (by (with_reducible repeat (first | apply Kd.S_alloc | apply Kd.S_drewN | apply Kd.S_drew)); exact HO293.out) hb); have n3_ := Aside0.mk (blk_below (g := gb277) (o := .cells #[.string t278, .slice Ao16 t279.length co16] 24 (0, 0)) (by (with_reducible repeat (first | refine blk_drewN ?_ _ | refine blk_drew ?_ | refine blk_alloc ?_ _)); exact BK277.out) hb); have n4_ := Aside0.mk (blk_below (g := gb289) (o := .cells #[.string t284, .slice Ao24 t285.length co24] 24 (0, 0)) (by (with_reducible repeat (first | refine blk_drewN ?_ _ | refine blk_drew ?_ | refine blk_alloc ?_ _)); exact BK289.out) hb); have n5_ := Aside0.mk (blk_below (g := gb295) (o := .cells #[.string t290, .slice Ao30 t291.length co30] 24 (0, 0)) (by (with_reducible repeat (first | refine blk_drewN ?_ _ | refine blk_drew ?_ | refine blk_alloc ?_ _)); exact BK295.out) hb); have n6_ := Aside0.mk (below_step (by repeat (first | (with_reducible first | exact HB.out | apply below_alloc | apply pw_below_drewN | apply below_drew1 | refine below_set ?_ GE277.out | refine below_set ?_ GE289.out | refine below_set ?_ GE295.out) | exact HB.out)) hb); clear HO281; clear HO287; clear HO293; clear BK277; clear BK289; clear BK295; clear HB; have HO281 := n0_; have HO287 := n1_; have HO293 := n2_; have BK277 := n3_; have BK289 := n4_; have BK295 := n5_; have HB := n6_; clear n0_ n1_ n2_ n3_ n4_ n5_ n6_; (try clear hb); (try clear hb2); (try clear hk); (try clear hi)))
              go_meet
              case rel => exact ⟨_, (false), (by first | rfl | (simp; done) | (simp [*]; done)), H', ⟨by first | omega | exact Nat.le_refl _⟩, ⟨by (with_reducible repeat (first | apply Kd.N_alloc | apply Kd.N_drewN | apply Kd.N_drew)); exact Kd.N_mono HO281.out (fun _ hk => trivial)⟩, ⟨by (with_reducible repeat (first | apply Kd.S_alloc | apply Kd.S_drewN | apply Kd.S_drew)); exact Kd.S_mono HO287.out (fun _ hk => ⟨hk.1.2, hk.2⟩)⟩, ⟨by (with_reducible repeat (first | apply Kd.S_alloc | apply Kd.S_drewN | apply Kd.S_drew)); exact Kd.S_mono HO293.out (fun _ hk => ⟨hk.1.2, hk.2⟩)⟩, ⟨by (with_reducible repeat (first | refine blk_drewN ?_ _ | refine blk_drew ?_ | refine blk_alloc ?_ _)); exact BK277.out⟩, ⟨by (with_reducible repeat (first | refine blk_drewN ?_ _ | refine blk_drew ?_ | refine blk_alloc ?_ _)); exact BK289.out⟩, ⟨by (with_reducible repeat (first | refine blk_drewN ?_ _ | refine blk_drew ?_ | refine blk_alloc ?_ _)); exact BK295.out⟩, ⟨by repeat (first | (with_reducible first | exact HB.out | apply below_alloc | apply pw_below_drewN | apply below_drew1 | refine below_set ?_ GE277.out | refine below_set ?_ GE289.out | refine below_set ?_ GE295.out) | exact HB.out)⟩⟩
            · rw [if_neg c36] at H
              have c36b0 : (t282.toList == t297.toList) = false := beq_eq_false_iff_ne.mpr c36
              have c36b1 : (t282.toList != t297.toList) = true := bne_iff_ne.mpr c36
              have H' := Aside0.mk H
              clear H
              have hnb41 := NB277_289.out
              have hnc41 := NB289_277.out
              have hnb42 := NB277_295.out
              have hnc42 := NB295_277.out
              have hcz43_0 : w32.cell? ⟨gb277, 0, none⟩ = some (.string t278) := (blk_cell BK277.out 0).trans rfl
              have hcz43_1 : w32.cell? ⟨gb277, 1, none⟩ = some (.slice Ao16 t279.length co16) := (blk_cell BK277.out 1).trans rfl
              have hfz43_0 := blk_frozen BK277.out 0
              have hfz43_1 := blk_frozen BK277.out 1
              go_wp2_with (first | (go_at_call 20; (with_reducible refine (peneloperef16_Put.calls k t278 _ _ t279 t297 _ ?side1 ?side2 A35.out).mono ?_); (case side1 => repeat (first | exact (Kd.N_reads' HO281.out).2.2 | (with_reducible refine Kd.C_alloc ?_ _) | (with_reducible refine Kd.C_drewN ?_ _) | (with_reducible refine Kd.C_drew ?_))); (case side2 => exact (Kd.N_reads' HO281.out).2.1); rintro e w44 ⟨rfl, hb⟩; have n0_ := Aside0.mk (Kd.N_below (by (with_reducible repeat (first | apply Kd.N_alloc | apply Kd.N_drewN | apply Kd.N_drew)); exact HO281.out) hb); have n1_ := Aside0.mk (Kd.S_below (by (with_reducible repeat (first | apply Kd.S_alloc | apply Kd.S_drewN | apply Kd.S_drew)); exact HO287.out) hb); have n2_ := Aside0.mk (Kd.S_below (by (with_reducible repeat (first | apply Kd.S_alloc | apply Kd.S_drewN | apply Kd.S_drew)); exact HO293.out) hb); have n3_ := Aside0.mk (blk_below (g := gb277) (o := .cells #[.string t278, .slice Ao16 t279.length co16] 24 (0, 0)) (by (with_reducible repeat (first | refine blk_drewN ?_ _ | refine blk_drew ?_ | refine blk_alloc ?_ _)); exact BK277.out) hb); have n4_ := Aside0.mk (blk_below (g := gb289) (o := .cells #[.string t284, .slice Ao24 t285.length co24] 24 (0, 0)) (by (with_reducible repeat (first | refine blk_drewN ?_ _ | refine blk_drew ?_ | refine blk_alloc ?_ _)); exact BK289.out) hb); have n5_ := Aside0.mk (blk_below (g := gb295) (o := .cells #[.string t290, .slice Ao30 t291.length co30] 24 (0, 0)) (by (with_reducible repeat (first | refine blk_drewN ?_ _ | refine blk_drew ?_ | refine blk_alloc ?_ _)); exact BK295.out) hb); have n6_ := Aside0.mk (below_step (by repeat (first | (with_reducible first | exact HB.out | apply below_alloc | apply pw_below_drewN | apply below_drew1 | refine below_set ?_ GE277.out | refine below_set ?_ GE289.out | refine below_set ?_ GE295.out) | exact HB.out)) hb); clear HO281; clear HO287; clear HO293; clear BK277; clear BK289; clear BK295; clear HB; have HO281 := n0_; have HO287 := n1_; have HO293 := n2_; have BK277 := n3_; have BK289 := n4_; have BK295 := n5_; have HB := n6_; clear n0_ n1_ n2_ n3_ n4_ n5_ n6_; (try clear hb); (try clear hb2); (try clear hk); (try clear hi)))
              go_meet
              case rel => exact ⟨_, (true), (by first | rfl | (simp; done) | (simp [*]; done)), H', ⟨by first | omega | exact Nat.le_refl _⟩, ⟨by (with_reducible repeat (first | apply Kd.N_alloc | apply Kd.N_drewN | apply Kd.N_drew)); exact Kd.N_mono HO281.out (fun _ hk => trivial)⟩, ⟨by (with_reducible repeat (first | apply Kd.S_alloc | apply Kd.S_drewN | apply Kd.S_drew)); exact Kd.S_mono HO287.out (fun _ hk => ⟨hk.1.2, hk.2⟩)⟩, ⟨by (with_reducible repeat (first | apply Kd.S_alloc | apply Kd.S_drewN | apply Kd.S_drew)); exact Kd.S_mono HO293.out (fun _ hk => ⟨hk.1.2, hk.2⟩)⟩, ⟨by (with_reducible repeat (first | refine blk_drewN ?_ _ | refine blk_drew ?_ | refine blk_alloc ?_ _)); exact BK277.out⟩, ⟨by (with_reducible repeat (first | refine blk_drewN ?_ _ | refine blk_drew ?_ | refine blk_alloc ?_ _)); exact BK289.out⟩, ⟨by (with_reducible repeat (first | refine blk_drewN ?_ _ | refine blk_drew ?_ | refine blk_alloc ?_ _)); exact BK295.out⟩, ⟨by repeat (first | (with_reducible first | exact HB.out | apply below_alloc | apply pw_below_drewN | apply below_drew1 | refine below_set ?_ GE277.out | refine below_set ?_ GE289.out | refine below_set ?_ GE295.out) | exact HB.out)⟩⟩
          · rw [if_neg c34] at H
            have c34b0 : (t296 == 0) = false := beq_eq_false_iff_ne.mpr c34
            have c34b1 : (t296 != 0) = true := bne_iff_ne.mpr c34
            have H' := Aside0.mk H
            clear H
            go_wp2
            go_meet
            case rel => exact ⟨_, ((t282.toList != ([] : List UInt8))), (by first | rfl | (simp; done) | (simp; cases t282.toList <;> rfl) | (simp [*]; done)), H', ⟨by first | omega | exact Nat.le_refl _⟩, ⟨by (with_reducible repeat (first | apply Kd.N_alloc | apply Kd.N_drewN | apply Kd.N_drew)); exact Kd.N_mono HO281.out (fun _ hk => trivial)⟩, ⟨by (with_reducible repeat (first | apply Kd.S_alloc | apply Kd.S_drewN | apply Kd.S_drew)); exact Kd.S_mono HO287.out (fun _ hk => ⟨hk.1.2, hk.2⟩)⟩, ⟨by (with_reducible repeat (first | apply Kd.S_alloc | apply Kd.S_drewN | apply Kd.S_drew)); exact Kd.S_mono HO293.out (fun _ hk => ⟨hk.1.2, hk.2⟩)⟩, ⟨by (with_reducible repeat (first | refine blk_drewN ?_ _ | refine blk_drew ?_ | refine blk_alloc ?_ _)); exact BK277.out⟩, ⟨by (with_reducible repeat (first | refine blk_drewN ?_ _ | refine blk_drew ?_ | refine blk_alloc ?_ _)); exact BK289.out⟩, ⟨by (with_reducible repeat (first | refine blk_drewN ?_ _ | refine blk_drew ?_ | refine blk_alloc ?_ _)); exact BK295.out⟩, ⟨by repeat (first | (with_reducible first | exact HB.out | apply below_alloc | apply pw_below_drewN | apply below_drew1 | refine below_set ?_ GE277.out | refine below_set ?_ GE289.out | refine below_set ?_ GE295.out) | exact HB.out)⟩⟩
        · rw [if_neg c33] at H
          have c33b0 : (t283 == t296) = false := beq_eq_false_iff_ne.mpr c33
          have c33b1 : (t283 != t296) = true := bne_iff_ne.mpr c33
          (first | rw [c33b0] | (simp only [i64_w, i32_w]; rw [c33b0]) | skip)
          have H' := Aside0.mk H
          clear H
          go_wp2
          go_meet
          case rel => exact ⟨_, (true), (by first | rfl | (simp; done) | (simp [*]; done)), H', ⟨by first | omega | exact Nat.le_refl _⟩, ⟨by (with_reducible repeat (first | apply Kd.N_alloc | apply Kd.N_drewN | apply Kd.N_drew)); exact Kd.N_mono HO281.out (fun _ hk => trivial)⟩, ⟨by (with_reducible repeat (first | apply Kd.S_alloc | apply Kd.S_drewN | apply Kd.S_drew)); exact Kd.S_mono HO287.out (fun _ hk => ⟨hk.1.2, hk.2⟩)⟩, ⟨by (with_reducible repeat (first | apply Kd.S_alloc | apply Kd.S_drewN | apply Kd.S_drew)); exact Kd.S_mono HO293.out (fun _ hk => ⟨hk.1.2, hk.2⟩)⟩, ⟨by (with_reducible repeat (first | refine blk_drewN ?_ _ | refine blk_drew ?_ | refine blk_alloc ?_ _)); exact BK277.out⟩, ⟨by (with_reducible repeat (first | refine blk_drewN ?_ _ | refine blk_drew ?_ | refine blk_alloc ?_ _)); exact BK289.out⟩, ⟨by (with_reducible repeat (first | refine blk_drewN ?_ _ | refine blk_drew ?_ | refine blk_alloc ?_ _)); exact BK295.out⟩, ⟨by repeat (first | (with_reducible first | exact HB.out | apply below_alloc | apply pw_below_drewN | apply below_drew1 | refine below_set ?_ GE277.out | refine below_set ?_ GE289.out | refine below_set ?_ GE295.out) | exact HB.out)⟩⟩
      case rest =>
        clear HC11
        try clear c1
        try clear c2
        try clear p2
        try clear c3
        try clear c4
        try clear c5
        try clear c5b0
        try clear c5b1
        try clear c6
        try clear c6b0
        try clear c6b1
        try clear c8
        try clear c9
        try clear c17
        try clear c18
        try clear c19
        try clear c22
        try clear c27
        try clear c28
        try clear c33
        try clear c33b0
        try clear c33b1
        try clear c34
        try clear c34b0
        try clear c34b1
        try clear c36
        try clear c36b0
        try clear c36b1
        try clear c37
        try clear c38
        try clear c41
        try clear c42
        try clear hcz18_0
        try clear hcz18_1
        try clear hcz23_0
        try clear hcz23_1
        try clear hcz29_0
        try clear hcz29_1
        try clear hcz31_0
        try clear hcz31_1
        try clear hcz39_0
        try clear hcz39_1
        try clear hcz43_0
        try clear hcz43_1
        try clear hfz18_0
        try clear hfz18_1
        try clear hfz23_0
        try clear hfz23_1
        try clear hfz29_0
        try clear hfz29_1
        try clear hfz31_0
        try clear hfz31_1
        try clear hfz39_0
        try clear hfz39_1
        try clear hfz43_0
        try clear hfz43_1
        obtain ⟨kq, x56_10, rfl, HA, HJ10, HO_278001, HO_290001, HO_296001, BK277, BK289, BK295, HB⟩ := hcut
        cases kq with
        | zero => exact absurd HA.out (by simp [penelopelaw16_DagBytes.j0])
        | succ kj10 =>
          have H := HA.out
          clear HA
          simp only [penelopelaw16_DagBytes.j0] at H
          by_cases c45 : x56_10 = true
          · subst c45
            have H1 : (none) = some r := by rw [if_pos rfl] at H; exact H
            clear H
            have H := H1
            clear H1
            exact absurd H (by simp)
          · replace c45 := Bool.eq_false_iff.mpr c45
            subst c45
            have H1 : ((penelopelaw16_alive.f kj10).bind fun t298 => (if t298 = true then (if t288 = t294 then ((peneloperef16_Like.f kj10 t284 t285 t290 t291).bind fun t299 => (some t299)) else (none)) else (none))) = some r := by rw [if_neg (show ¬ (false = true) by decide)] at H; exact H
            clear H
            have H := H1
            clear H1
            replace H := Option.bind_eq_some_iff.mp H
            obtain ⟨t298, A460, H⟩ := H
            replace H : (if t298 = true then (if t288 = t294 then ((peneloperef16_Like.f kj10 t284 t285 t290 t291).bind fun t299 => (some t299)) else (none)) else (none)) = some r := H
            have A46 := Aside0.mk A460
            clear A460
            by_cases c47 : t298 = true
            · subst c47
              have H1 : (if t288 = t294 then ((peneloperef16_Like.f kj10 t284 t285 t290 t291).bind fun t299 => (some t299)) else (none)) = some r := by rw [if_pos rfl] at H; exact H
              clear H
              have H := H1
              clear H1
              by_cases c48 : t288 = t294
              · rw [if_pos c48] at H
                have c48b0 : (t288 == t294) = true := beq_iff_eq.mpr c48
                have c48b1 : (t288 != t294) = false := bne_eq_false_iff_eq.mpr c48
                clear c48
                replace H := Option.bind_eq_some_iff.mp H
                obtain ⟨t299, A490, H⟩ := H
                replace H : (some t299) = some r := H
                have A49 := Aside0.mk A490
                clear A490
                obtain rfl := Option.some.inj H
                go_wp2_with (first | ((with_reducible refine gate_callee (f := 13) rfl ?_); refine goesL_ (some 57) rfl rfl Try.func13 (by kernel_rfl) rfl #[] rfl (by (try simp only [List.map_toArray, List.map_cons, List.map_nil]); first | done | rfl | (simp only [List.length_drop, List.length_take]; rfl)) ?_; (with_reducible refine (penelopelaw16_alive.calls kj10  true _ A46.out).mono ?_); rintro e w50 ⟨rfl, hb⟩; refine ⟨_, rfl, ?_⟩; have n0_ := Aside0.mk (Kd.N_below (by (with_reducible repeat (first | apply Kd.N_alloc | apply Kd.N_drewN | apply Kd.N_drew)); exact HO_278001.out) hb); have n1_ := Aside0.mk (Kd.S_below (by (with_reducible repeat (first | apply Kd.S_alloc | apply Kd.S_drewN | apply Kd.S_drew)); exact HO_290001.out) hb); have n2_ := Aside0.mk (Kd.S_below (by (with_reducible repeat (first | apply Kd.S_alloc | apply Kd.S_drewN | apply Kd.S_drew)); exact HO_296001.out) hb); have n3_ := Aside0.mk (blk_below (g := gb277) (o := .cells #[.string t278, .slice Ao16 t279.length co16] 24 (0, 0)) (by (with_reducible repeat (first | refine blk_drewN ?_ _ | refine blk_drew ?_ | refine blk_alloc ?_ _)); exact BK277.out) hb); have n4_ := Aside0.mk (blk_below (g := gb289) (o := .cells #[.string t284, .slice Ao24 t285.length co24] 24 (0, 0)) (by (with_reducible repeat (first | refine blk_drewN ?_ _ | refine blk_drew ?_ | refine blk_alloc ?_ _)); exact BK289.out) hb); have n5_ := Aside0.mk (blk_below (g := gb295) (o := .cells #[.string t290, .slice Ao30 t291.length co30] 24 (0, 0)) (by (with_reducible repeat (first | refine blk_drewN ?_ _ | refine blk_drew ?_ | refine blk_alloc ?_ _)); exact BK295.out) hb); have n6_ := Aside0.mk (below_step (by repeat (first | (with_reducible first | exact HB.out | apply below_alloc | apply pw_below_drewN | apply below_drew1 | refine below_set ?_ GE277.out | refine below_set ?_ GE289.out | refine below_set ?_ GE295.out) | exact HB.out)) hb); clear HO_278001; clear HO_290001; clear HO_296001; clear BK277; clear BK289; clear BK295; clear HB; have HO_278001 := n0_; have HO_290001 := n1_; have HO_296001 := n2_; have BK277 := n3_; have BK289 := n4_; have BK295 := n5_; have HB := n6_; clear n0_ n1_ n2_ n3_ n4_ n5_ n6_; (try clear hb); (try clear hb2); (try clear hk); (try clear hi); have hnb51 := NB289_277.out; have hnc51 := NB277_289.out; have hnb52 := NB289_295.out; have hnc52 := NB295_289.out; have hcz53_0 : w50.cell? ⟨gb289, 0, none⟩ = some (.string t284) := (blk_cell BK289.out 0).trans rfl; have hcz53_1 : w50.cell? ⟨gb289, 1, none⟩ = some (.slice Ao24 t285.length co24) := (blk_cell BK289.out 1).trans rfl; have hfz53_0 := blk_frozen BK289.out 0; have hfz53_1 := blk_frozen BK289.out 1; have hnb54 := NB295_277.out; have hnc54 := NB277_295.out; have hcz55_0 : w50.cell? ⟨gb295, 0, none⟩ = some (.string t290) := (blk_cell BK295.out 0).trans rfl; have hcz55_1 : w50.cell? ⟨gb295, 1, none⟩ = some (.slice Ao30 t291.length co30) := (blk_cell BK295.out 1).trans rfl; have hfz55_0 := blk_frozen BK295.out 0; have hfz55_1 := blk_frozen BK295.out 1) | (go_at_call 21; (with_reducible refine (peneloperef16_Like.calls kj10 t284 _ _ t285 t290 _ _ t291 t299 _ ?side1 ?side2 ?side3 ?side4 A49.out).mono ?_); (case side1 => repeat (first | exact (Kd.S_reads' HO_290001.out).2.2 | (with_reducible refine Kd.C_alloc ?_ _) | (with_reducible refine Kd.C_drewN ?_ _) | (with_reducible refine Kd.C_drew ?_))); (case side2 => exact (Kd.S_reads' HO_290001.out).2.1); (case side3 => repeat (first | exact (Kd.S_reads' HO_296001.out).2.2 | (with_reducible refine Kd.C_alloc ?_ _) | (with_reducible refine Kd.C_drewN ?_ _) | (with_reducible refine Kd.C_drew ?_))); (case side4 => exact (Kd.S_reads' HO_296001.out).2.1); rintro e w56 ⟨rfl, hb⟩; have n0_ := Aside0.mk (Kd.N_below (by (with_reducible repeat (first | apply Kd.N_alloc | apply Kd.N_drewN | apply Kd.N_drew)); exact HO_278001.out) hb); have n1_ := Aside0.mk (Kd.S_below (by (with_reducible repeat (first | apply Kd.S_alloc | apply Kd.S_drewN | apply Kd.S_drew)); exact HO_290001.out) hb); have n2_ := Aside0.mk (Kd.S_below (by (with_reducible repeat (first | apply Kd.S_alloc | apply Kd.S_drewN | apply Kd.S_drew)); exact HO_296001.out) hb); have n3_ := Aside0.mk (blk_below (g := gb277) (o := .cells #[.string t278, .slice Ao16 t279.length co16] 24 (0, 0)) (by (with_reducible repeat (first | refine blk_drewN ?_ _ | refine blk_drew ?_ | refine blk_alloc ?_ _)); exact BK277.out) hb); have n4_ := Aside0.mk (blk_below (g := gb289) (o := .cells #[.string t284, .slice Ao24 t285.length co24] 24 (0, 0)) (by (with_reducible repeat (first | refine blk_drewN ?_ _ | refine blk_drew ?_ | refine blk_alloc ?_ _)); exact BK289.out) hb); have n5_ := Aside0.mk (blk_below (g := gb295) (o := .cells #[.string t290, .slice Ao30 t291.length co30] 24 (0, 0)) (by (with_reducible repeat (first | refine blk_drewN ?_ _ | refine blk_drew ?_ | refine blk_alloc ?_ _)); exact BK295.out) hb); have n6_ := Aside0.mk (below_step (by repeat (first | (with_reducible first | exact HB.out | apply below_alloc | apply pw_below_drewN | apply below_drew1 | refine below_set ?_ GE277.out | refine below_set ?_ GE289.out | refine below_set ?_ GE295.out) | exact HB.out)) hb); clear HO_278001; clear HO_290001; clear HO_296001; clear BK277; clear BK289; clear BK295; clear HB; have HO_278001 := n0_; have HO_290001 := n1_; have HO_296001 := n2_; have BK277 := n3_; have BK289 := n4_; have BK295 := n5_; have HB := n6_; clear n0_ n1_ n2_ n3_ n4_ n5_ n6_; (try clear hb); (try clear hb2); (try clear hk); (try clear hi)))
                go_ret
                exact ⟨by first | rfl | (simp [errW_none, errW_some] <;> rfl) | (simp only [← hji4]; first | rfl | (simp [errW_none, errW_some] <;> rfl)) | (simp [*, errW_none, errW_some] <;> rfl), by repeat (first | (with_reducible first | exact HB.out | apply below_alloc | apply pw_below_drewN | apply below_drew1 | refine below_set ?_ GE277.out | refine below_set ?_ GE289.out | refine below_set ?_ GE295.out) | exact HB.out)⟩
              · rw [if_neg c48] at H
                exact absurd H (by simp)
            · replace c47 := Bool.eq_false_iff.mpr c47
              subst c47
              have H1 : (none) = some r := by rw [if_neg (show ¬ (false = true) by decide)] at H; exact H
              clear H
              have H := H1
              clear H1
              exact absurd H (by simp)
    · rw [if_neg c6] at H
      exact absurd H (by simp)
  · rw [if_neg c5] at H
    exact absurd H (by simp)

end Go.Proofs.Ytbgmhcefjggpgaa.X
