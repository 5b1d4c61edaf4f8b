-- laid by a program of this session (wip/tools/xprint.py), function by function; Lean checks it
import Derived.Test.YtmnkabdaapiikaaRx0
import Derived.Test.YtmnkabdaapiikaaXNGet
import Derived.Test.YtmnkabdaapiikaaXPut
import Derived.Test.YtmnkabdaapiikaaXRt
import Derived.Test.YtmnkabdaapiikaaRx1
import Derived.Test.YtmnkabdaapiikaaRx3
import Derived.Test.YtmnkabdaapiikaaRx10
namespace Go.Proofs.Ytmnkabdaapiikaa.R
open Go.RowKit Go.Proofs.YtmnkabdaapiikaaW.PrintWords Go.Proofs.YtmnkabdaapiikaaW.PrintLast Go.Proofs.YtmnkabdaapiikaaW.PrintMore
attribute [local go_sem] max2_int min2_int max_two min_two max_three min_three max_four min_four   -- for this text's walks alone
set_option linter.unusedVariables false
set_option linter.unusedSimpArgs false

/-! ### penelopelaw07_NodeBack: function 9 -/
mutual
def penelopelaw07_NodeBack.j1 : Nat → Int → ByteArray → Option (Bool)
  | 0, _, _ => none
  | k + 1, x1, x2 => (node_Get.f k x1 x2).bind fun bt220 => (if bt220.2.2.2.2 = 0 then ((node_Put.f k bt220.1 bt220.2.1 bt220.2.2.1 bt220.2.2.2.1).bind fun bt232 => ((penelopelaw07_alive.f k).bind fun t234 => (if t234 = true then (if bt232.2 = 0 then (if bt232.1.toList = x2.toList then ((node_Right.f k bt220.1 bt220.2.1 bt220.2.2.1 bt220.2.2.2.1 true).bind fun t235 => (some t235)) else (none)) else (none)) else (none)))) else ((penelopelaw07_alive.f k).bind fun t236 => (if t236 = true then ((peneloperef07_Like.f k bt220.1 bt220.2.1 bt220.2.2.1 bt220.2.2.2.1 false ([] : List ByteArray) ([] : List ByteArray) ([] : List Int)).bind fun t237 => (some t237)) else (none))))
def penelopelaw07_NodeBack.j0 : Nat → Int → ByteArray → ByteArray → Int → Bool → List ByteArray → List ByteArray → List Int → Option (Bool)
  | 0, _, _, _, _, _, _, _, _ => none
  | k + 1, x1, x2, x7, x9, x195000, x195001, x195002, x195003 => (node_Get.f k x9 x7).bind fun bt207 => (if bt207.2.2.2.2 = 0 then ((peneloperef07_Like.f k bt207.1 bt207.2.1 bt207.2.2.1 bt207.2.2.2.1 x195000 x195001 x195002 x195003).bind fun t219 => (if t219 = true then (if (x7.size : Int) > 4000 then (none) else (penelopelaw07_NodeBack.j1 k x1 x2)) else (none))) else (none))
end
def penelopelaw07_NodeBack.f (k : Nat) (a0_0 : Bool) (l0_1 : List ByteArray) (l0_2 : List ByteArray) (l0_3 : List Int) (a1 : Int) (a2 : ByteArray) : Option (Bool) := (penelopelaw07_few.f a0_0 l0_1 l0_2 l0_3).bind fun bt195 => (if 0 ≤ (mn (a2.size : Int) 5000) then (if (mn (a2.size : Int) 5000) ≤ (a2.size : Int) then ((node_Put.f k bt195.1 bt195.2.1 bt195.2.2.1 bt195.2.2.2).bind fun bt205 => (if bt205.2 = 0 then (if bt195.1 = true then (penelopelaw07_NodeBack.j0 k a1 (a2.extract 0 ((mn (a2.size : Int) 5000) : Int).toNat) bt205.1 1 bt195.1 bt195.2.1 bt195.2.2.1 bt195.2.2.2) else (penelopelaw07_NodeBack.j0 k a1 (a2.extract 0 ((mn (a2.size : Int) 5000) : Int).toNat) bt205.1 2 bt195.1 bt195.2.1 bt195.2.2.1 bt195.2.2.2)) else (penelopelaw07_NodeBack.j1 k a1 (a2.extract 0 ((mn (a2.size : Int) 5000) : Int).toNat)))) else (none)) else (none))
theorem penelopelaw07_NodeBack.mono_l : ∀ k, (∀ y0 y1, LeO (penelopelaw07_NodeBack.j1 k y0 y1) (penelopelaw07_NodeBack.j1 (k + 1) y0 y1)) ∧ (∀ y0 y1 y2 y3 y4 y5 y6 y7, LeO (penelopelaw07_NodeBack.j0 k y0 y1 y2 y3 y4 y5 y6 y7) (penelopelaw07_NodeBack.j0 (k + 1) y0 y1 y2 y3 y4 y5 y6 y7))
  | 0 => ⟨fun _ _ r h => by simp [penelopelaw07_NodeBack.j1] at h, fun _ _ _ _ _ _ _ _ r h => by simp [penelopelaw07_NodeBack.j0] at h⟩
  | k + 1 => by
    obtain ⟨ih0, ih1⟩ := penelopelaw07_NodeBack.mono_l k
    refine ⟨?_, ?_⟩
    · intro y0 y1
      unfold penelopelaw07_NodeBack.j1
      repeat' first
      | (with_reducible exact ih0 _ _)
      | (with_reducible exact ih1 _ _ _ _ _ _ _ _)
      | (with_reducible exact node_Get.mono _ _ _)
      | (with_reducible exact node_Put.mono _ _ _ _ _)
      | (with_reducible exact node_Right.mono _ _ _ _ _ _)
      | (with_reducible exact penelopelaw07_alive.mono _)
      | (with_reducible exact peneloperef07_Like.mono _ _ _ _ _ _ _ _ _)
      | (with_reducible exact LeO.refl _)
      | (with_reducible exact LeO.none _)
      | (with_reducible refine LeO.ite ?_ ?_)
      | (with_reducible refine LeO.bind ?_ (fun _ => ?_))
      | exact ih0 _ _
      | exact ih1 _ _ _ _ _ _ _ _
      | exact node_Get.mono _ _ _
      | exact node_Put.mono _ _ _ _ _
      | exact node_Right.mono _ _ _ _ _ _
      | exact penelopelaw07_alive.mono _
      | exact peneloperef07_Like.mono _ _ _ _ _ _ _ _ _
      | exact LeO.none _
      | refine LeO.ite ?_ ?_
      | refine LeO.bind ?_ (fun _ => ?_)
    · intro y0 y1 y2 y3 y4 y5 y6 y7
      unfold penelopelaw07_NodeBack.j0
      repeat' first
      | (with_reducible exact ih0 _ _)
      | (with_reducible exact ih1 _ _ _ _ _ _ _ _)
      | (with_reducible exact node_Get.mono _ _ _)
      | (with_reducible exact node_Put.mono _ _ _ _ _)
      | (with_reducible exact node_Right.mono _ _ _ _ _ _)
      | (with_reducible exact penelopelaw07_alive.mono _)
      | (with_reducible exact peneloperef07_Like.mono _ _ _ _ _ _ _ _ _)
      | (with_reducible exact LeO.refl _)
      | (with_reducible exact LeO.none _)
      | (with_reducible refine LeO.ite ?_ ?_)
      | (with_reducible refine LeO.bind ?_ (fun _ => ?_))
      | exact ih0 _ _
      | exact ih1 _ _ _ _ _ _ _ _
      | exact node_Get.mono _ _ _
      | exact node_Put.mono _ _ _ _ _
      | exact node_Right.mono _ _ _ _ _ _
      | exact penelopelaw07_alive.mono _
      | exact peneloperef07_Like.mono _ _ _ _ _ _ _ _ _
      | exact LeO.none _
      | refine LeO.ite ?_ ?_
      | refine LeO.bind ?_ (fun _ => ?_)
theorem penelopelaw07_NodeBack.mono : ∀ a0 a1 a2 a3 a4 a5 k, LeO (penelopelaw07_NodeBack.f k a0 a1 a2 a3 a4 a5) (penelopelaw07_NodeBack.f (k + 1) a0 a1 a2 a3 a4 a5) := by
  intro a0 a1 a2 a3 a4 a5 k
  obtain ⟨ih0, ih1⟩ := penelopelaw07_NodeBack.mono_l k
  unfold penelopelaw07_NodeBack.f
  repeat' first
      | (with_reducible exact ih0 _ _)
      | (with_reducible exact ih1 _ _ _ _ _ _ _ _)
      | (with_reducible exact node_Get.mono _ _ _)
      | (with_reducible exact node_Put.mono _ _ _ _ _)
      | (with_reducible exact node_Right.mono _ _ _ _ _ _)
      | (with_reducible exact penelopelaw07_alive.mono _)
      | (with_reducible exact peneloperef07_Like.mono _ _ _ _ _ _ _ _ _)
      | (with_reducible exact LeO.refl _)
      | (with_reducible exact LeO.none _)
      | (with_reducible refine LeO.ite ?_ ?_)
      | (with_reducible refine LeO.bind ?_ (fun _ => ?_))
      | exact ih0 _ _
      | exact ih1 _ _ _ _ _ _ _ _
      | exact node_Get.mono _ _ _
      | exact node_Put.mono _ _ _ _ _
      | exact node_Right.mono _ _ _ _ _ _
      | exact penelopelaw07_alive.mono _
      | exact peneloperef07_Like.mono _ _ _ _ _ _ _ _ _
      | exact LeO.none _
      | refine LeO.ite ?_ ?_
      | refine LeO.bind ?_ (fun _ => ?_)
def penelopelaw07_NodeBack.T1 : Bool × List (List Nat × List Nat) := (true, [([], []), ([0], [0]), ([], []), ([], []), ([3], [3]), ([4], [4]), ([2, 5], [2, 5]), ([1, 1, 0, 1], [1]), ([6, 7, 0, 1, 2, 3, 4, 5, 6, 7], [2, 3, 6])])
def penelopelaw07_NodeBack.B1 : List Nat := [0, 1, 0, 0, 8, 24, 60, 3, 255]
theorem penelopelaw07_NodeBack.tab1 : rtab .any (opsOf Try.f9 1) = penelopelaw07_NodeBack.T1 := by kernel_rfl
theorem penelopelaw07_NodeBack.bits1 : waitsOk penelopelaw07_NodeBack.T1.2 penelopelaw07_NodeBack.B1 = true := by kernel_rfl
set_option maxHeartbeats 8000000 in
set_option maxRecDepth 100000 in
theorem penelopelaw07_NodeBack.calls (k : Nat) (a0_0 : Bool) (A0_1 : Option Addr) (c0_1 : Nat) (l0_1 : List ByteArray) (A0_2 : Option Addr) (c0_2 : Nat) (l0_2 : List ByteArray) (A0_3 : Option Addr) (c0_3 : Nat) (l0_3 : List Int) (a1 : Int) (a2 : ByteArray) (r : Bool) (w : World) (hr0_1 : Kd.C Kd.string w A0_1 l0_1.length l0_1) (hc0_1 : l0_1.length ≤ c0_1) (hr0_2 : Kd.C Kd.string w A0_2 l0_2.length l0_2) (hc0_2 : l0_2.length ≤ c0_2) (hr0_3 : Kd.C (Kd.int .i64) w A0_3 l0_3.length l0_3) (hc0_3 : l0_3.length ≤ c0_3) (h : penelopelaw07_NodeBack.f k a0_0 l0_1 l0_2 l0_3 a1 a2 = some r) :
    Calls Try.prog 9 #[.agg #[.bool a0_0, .slice A0_1 l0_1.length c0_1, .slice A0_2 l0_2.length c0_2, .slice A0_3 l0_3.length c0_3], .int .i64 a1, .string a2] w fun e w' => e = .returned (.bool r) ∧ Below w.heap.size w w' := by
  have hu25 := Try.underlying25
  have HR0_1 := Aside0.mk hr0_1
  have HC0_1 := Aside0.mk hc0_1
  clear hr0_1 hc0_1
  have HR0_2 := Aside0.mk hr0_2
  have HC0_2 := Aside0.mk hc0_2
  clear hr0_2 hc0_2
  have HR0_3 := Aside0.mk hr0_3
  have HC0_3 := Aside0.mk hc0_3
  clear hr0_3 hc0_3
  have HB := Aside0.mk (Below.refl w.heap.size w)
  have H : ((penelopelaw07_few.f a0_0 l0_1 l0_2 l0_3).bind fun bt195 => (if 0 ≤ (mn (a2.size : Int) 5000) then (if (mn (a2.size : Int) 5000) ≤ (a2.size : Int) then ((node_Put.f k bt195.1 bt195.2.1 bt195.2.2.1 bt195.2.2.2).bind fun bt205 => (if bt205.2 = 0 then (if bt195.1 = true then (penelopelaw07_NodeBack.j0 k a1 (a2.extract 0 ((mn (a2.size : Int) 5000) : Int).toNat) bt205.1 1 bt195.1 bt195.2.1 bt195.2.2.1 bt195.2.2.2) else (penelopelaw07_NodeBack.j0 k a1 (a2.extract 0 ((mn (a2.size : Int) 5000) : Int).toNat) bt205.1 2 bt195.1 bt195.2.1 bt195.2.2.1 bt195.2.2.2)) else (penelopelaw07_NodeBack.j1 k a1 (a2.extract 0 ((mn (a2.size : Int) 5000) : Int).toNat)))) else (none)) else (none))) = some r := h
  clear h
  replace H := Option.bind_eq_some_iff.mp H
  obtain ⟨⟨t195, t196, t199, t202⟩, A40, H⟩ := H
  replace H : (if 0 ≤ (mn (a2.size : Int) 5000) then (if (mn (a2.size : Int) 5000) ≤ (a2.size : Int) then ((node_Put.f k t195 t196 t199 t202).bind fun bt205 => (if bt205.2 = 0 then (if t195 = true then (penelopelaw07_NodeBack.j0 k a1 (a2.extract 0 ((mn (a2.size : Int) 5000) : Int).toNat) bt205.1 1 t195 t196 t199 t202) else (penelopelaw07_NodeBack.j0 k a1 (a2.extract 0 ((mn (a2.size : Int) 5000) : Int).toNat) bt205.1 2 t195 t196 t199 t202)) else (penelopelaw07_NodeBack.j1 k a1 (a2.extract 0 ((mn (a2.size : Int) 5000) : Int).toNat)))) else (none)) else (none)) = some r := H
  have A4 := Aside0.mk A40
  clear A40
  obtain ⟨ji5, hji5⟩ : ∃ j_ : Int, (mn (a2.size : Int) 5000) = j_ := ⟨_, rfl⟩
  replace H : (if 0 ≤ (ji5) then (if (ji5) ≤ (a2.size : Int) then ((node_Put.f k t195 t196 t199 t202).bind fun bt205 => (if bt205.2 = 0 then (if t195 = true then (penelopelaw07_NodeBack.j0 k a1 (a2.extract 0 ((ji5) : Int).toNat) bt205.1 1 t195 t196 t199 t202) else (penelopelaw07_NodeBack.j0 k a1 (a2.extract 0 ((ji5) : Int).toNat) bt205.1 2 t195 t196 t199 t202)) else (penelopelaw07_NodeBack.j1 k a1 (a2.extract 0 ((ji5) : Int).toNat)))) else (none)) else (none)) = some r := by first | (rw [hji5] at H; exact H) | (simp only [hji5] at H ⊢; exact H)
  (try rw [hji5] at A4)
  (try (have hji5h : ji5 ≤ 5000 := by (rw [← hji5]; unfold mn; (repeat' split) <;> omega)))
  (try (have hji5g : ji5 ≤ 64 := by omega))
  (try (have hji5l : 0 ≤ ji5 := by (rw [← hji5]; unfold mn; (repeat' split) <;> omega)))
  (try (have hji5m : 0 ≤ ji5 := by omega))
  have hji5_ : (if 5000 < (a2.size : Int) then 5000 else (a2.size : Int)) = ji5 := hji5
  by_cases c6 : 0 ≤ (ji5)
  · rw [if_pos c6] at H
    have c6b0 := eq_true c6
    have c6b1 : decide (0 ≤ (ji5)) = true := decide_eq_true c6
    clear c6
    by_cases c7 : (ji5) ≤ (a2.size : Int)
    · rw [if_pos c7] at H
      have c7b0 := eq_true c7
      have c7b1 : decide ((ji5) ≤ (a2.size : Int)) = true := decide_eq_true c7
      clear c7
      replace H := Option.bind_eq_some_iff.mp H
      obtain ⟨⟨t205, t206⟩, A80, H⟩ := H
      replace H : (if t206 = 0 then (if t195 = true then (penelopelaw07_NodeBack.j0 k a1 (a2.extract 0 ((ji5) : Int).toNat) t205 1 t195 t196 t199 t202) else (penelopelaw07_NodeBack.j0 k a1 (a2.extract 0 ((ji5) : Int).toNat) t205 2 t195 t196 t199 t202)) else (penelopelaw07_NodeBack.j1 k a1 (a2.extract 0 ((ji5) : Int).toNat))) = some r := H
      have A8 := Aside0.mk A80
      clear A80
      have HC9 := Aside0.mk H
      clear H
      go_enter Try.func9, Try.ntmps9
      try go_wp2_with (first | ((with_reducible refine gate_dst (N := 3) rfl ?_); (try (refine gate_guard (by rfl) ?_; dsimp only)); refine box_event ?hg (N := 3) ?hd (cs := #[.bool a0_0, .slice A0_1 l0_1.length c0_1, .slice A0_2 l0_2.length c0_2, .slice A0_3 l0_3.length c0_3]) (t := 25) ?hr ?_; (case hd => rfl); (case hg => rfl); (case hr => first | (go_simp; done) | (go_simp; rfl)); intro gb194 hg w10 hbox hb; have n0_ := Aside0.mk (below_step (by repeat (first | (with_reducible first | exact HB.out | apply below_alloc | apply pw_below_drewN | apply below_drew1) | exact HB.out)) hb); have n1_ := Aside0.mk (hbox); have n2_ := Aside0.mk ((by rw [hg]; exact (below_size (by repeat (first | (with_reducible first | exact HB.out | apply below_alloc | apply pw_below_drewN | apply below_drew1) | exact HB.out))) : w.heap.size ≤ gb194)); have n3_ := Aside0.mk ((by rw [hg]; exact (below_size (by repeat (first | (with_reducible first | exact HB.out | apply below_alloc | apply pw_below_drewN | apply below_drew1) | exact HB.out))) : w.heap.size ≤ gb194)); clear HB; have HB := n0_; have BK194 := n1_; have GW194 := n2_; have GE194 := n3_; clear n0_ n1_ n2_ n3_; clear hb hbox hg))
      have n0_ := Aside0.mk (blk_drew BK194.out)
      have n1_ := Aside0.mk (below_drew1 HB.out)
      clear BK194
      clear HB
      have BK194 := n0_
      have HB := n1_
      clear n0_ n1_
      refine start_ (n := 9) (S := fun w' => w'.cell? ⟨gb194, 0, none⟩ = some (.bool a0_0) ∧ w'.cell? ⟨gb194, 1, none⟩ = some (.slice A0_1 l0_1.length c0_1) ∧ w'.cell? ⟨gb194, 2, none⟩ = some (.slice A0_2 l0_2.length c0_2) ∧ w'.cell? ⟨gb194, 3, none⟩ = some (.slice A0_3 l0_3.length c0_3)) (ds := [7]) #[false, false, false, false, false, false, false, false, false] (by kernel_rfl) rfl rfl ⟨(blk_cell BK194.out 0).trans rfl, (blk_cell BK194.out 1).trans rfl, (blk_cell BK194.out 2).trans rfl, (blk_cell BK194.out 3).trans rfl⟩ (fun hHeld => ?_); refine with_tabW penelopelaw07_NodeBack.tab1 penelopelaw07_NodeBack.bits1 (fun HT_ HW_ => ?_)
      generalize w10.drew = w11 at BK194 HB hHeld ⊢
      refine pure_ (i := 2) (N := some 18) (v := ?_) (a' := ?_) #[false, false, true, false, false, false, false, false, false] rfl rfl (any_of HT_.out (by kernel_rfl)) (fun _ _ _ h => h) (Or.inl ⟨by rfl, ?_⟩) ?_ ?_
      rotate_left
      · intro w'
        go_simp
        with_reducible rfl
      rotate_left
      · simp only [Act.put, List.setIfInBounds_toArray, List.set_cons_zero, List.set_cons_succ, i64_w, i32_w]
        rfl
      refine pure_ (i := 3) (N := some 19) (v := ?_) (a' := ?_) #[false, false, true, true, false, false, false, false, false] rfl rfl (any_of HT_.out (by kernel_rfl)) (fun _ _ _ h => h) (Or.inl ⟨by rfl, ?_⟩) ?_ ?_
      rotate_left
      · intro w'
        go_simp
        with_reducible rfl
      rotate_left
      · simp only [Act.put, List.setIfInBounds_toArray, List.set_cons_zero, List.set_cons_succ, i64_w, i32_w]
        rfl
      refine pure_ (i := 4) (N := some 20) (v := ?_) (a' := ?_) #[false, false, true, true, true, false, false, false, false] rfl rfl (any_of HT_.out (by kernel_rfl)) (fun _ _ _ h => h) (Or.inl ⟨by rfl, ?_⟩) ?_ ?_
      rotate_left
      · intro w'
        go_simp
        with_reducible rfl
      rotate_left
      · simp only [Act.put, List.setIfInBounds_toArray, List.set_cons_zero, List.set_cons_succ, i64_w, i32_w]
        rfl
      refine pure_ (i := 5) (N := some 21) (v := ?_) (a' := ?_) #[false, false, true, true, true, true, false, false, false] rfl rfl (any_of HT_.out (by kernel_rfl)) (fun _ _ _ h => h) (Or.inl ⟨by rfl, ?_⟩) ?_ ?_
      rotate_left
      · intro w'
        go_simp
        with_reducible rfl
      rotate_left
      · simp only [Act.put, List.setIfInBounds_toArray, List.set_cons_zero, List.set_cons_succ, i64_w, i32_w]
        rfl
      refine pure_ (i := 6) (N := some 22) (v := ?_) (a' := ?_) #[false, false, true, true, true, true, true, false, false] rfl rfl (any_of HT_.out (by kernel_rfl)) (fun _ _ _ h => h) (Or.inl ⟨by rfl, ?_⟩) ?_ ?_
      rotate_left
      · intro w'
        go_simp
        with_reducible rfl
      rotate_left
      · simp only [Act.put, List.setIfInBounds_toArray, List.set_cons_zero, List.set_cons_succ, i64_w, i32_w]
        rfl
      refine take_ (i := 0) (N := some 16) (v := ?_) (a' := ?_) #[true, false, true, true, true, true, true, false, false] rfl rfl (take_ofW HT_.out HW_.out (by kernel_rfl)) (fun _ _ _ h => h) (Or.inl ⟨by rfl, ?_⟩) hHeld ?_ ?_
      rotate_left
      · rintro w' ⟨s0, s1, s2, s3⟩
        go_simp
        with_reducible rfl
      rotate_left
      · simp only [Act.put, List.setIfInBounds_toArray, List.set_cons_zero, List.set_cons_succ, i64_w, i32_w]
        rfl
      refine one_ (i := 1) (N := some 17) #[true, true, true, true, true, true, true, false, false] rfl rfl (one_of HT_.out (by kernel_rfl)) (by decide) (fun K hK => ?_)
      refine goes_ Try.func10 (by kernel_rfl) rfl #[.agg #[.bool a0_0, .slice A0_1 l0_1.length c0_1, .slice A0_2 l0_2.length c0_2, .slice A0_3 l0_3.length c0_3]] (by rfl) rfl rfl (by (try simp only [List.map_toArray, List.map_cons, List.map_nil]); first | done | rfl | (simp only [List.length_drop, List.length_take]; rfl)) ?_
      with_reducible refine (penelopelaw07_few.calls a0_0 (fun k_ => k_ < w.heap.size) _ _ l0_1 (fun k_ => k_ < w.heap.size) _ _ l0_2 (fun k_ => k_ < w.heap.size) _ _ l0_3 t195 t196 t199 t202 _ ?side1 ?side2 ?side3 A4.out).mono ?_
      (case side1 => exact Kd.V_mk HC0_1.out (Kd.F_below (Kd.C_F Kd.heap_string HR0_1.out) (by repeat (first | (with_reducible first | exact HB.out | apply below_alloc | apply pw_below_drewN | apply below_drew1 | refine below_set ?_ GE194.out) | exact HB.out))))
      (case side2 => exact Kd.V_mk HC0_2.out (Kd.F_below (Kd.C_F Kd.heap_string HR0_2.out) (by repeat (first | (with_reducible first | exact HB.out | apply below_alloc | apply pw_below_drewN | apply below_drew1 | refine below_set ?_ GE194.out) | exact HB.out))))
      (case side3 => exact Kd.V_mk HC0_3.out (Kd.F_below (Kd.C_F (Kd.heap_int .i64) HR0_3.out) (by repeat (first | (with_reducible first | exact HB.out | apply below_alloc | apply pw_below_drewN | apply below_drew1 | refine below_set ?_ GE194.out) | exact HB.out))))
      rintro e w12 ⟨v197, v200, v203, rfl, ho0, ho1, ho2, hb⟩
      refine ⟨_, rfl, ?_⟩
      have n0_ := Aside0.mk (Kd.V_lower (Kd.V_mono (ok' := fun k_ => k_ ≠ gb194) ho0 (fun k_ hk_ => Or.elim hk_ (fun hs_ => Or.elim hs_ (fun hs_ => fun e_ => Nat.not_le.2 hs_ (by rw [e_]; exact GW194.out)) (fun hs_ => Or.elim hs_ (fun hs_ => fun e_ => Nat.not_le.2 hs_ (by rw [e_]; exact GW194.out)) (fun hs_ => fun e_ => Nat.not_le.2 hs_ (by rw [e_]; exact GW194.out)))) (fun hn_ => (Kd.freshB (g := gb194) (o := .cells #[.bool a0_0, .slice A0_1 l0_1.length c0_1, .slice A0_2 l0_2.length c0_2, .slice A0_3 l0_3.length c0_3] 25 (0, 0)) (by (with_reducible repeat (first | refine blk_drewN ?_ _ | refine blk_drew ?_ | refine blk_alloc ?_ _)); exact BK194.out) k_ hn_)))) (below_size (by repeat (first | (with_reducible first | exact HB.out | apply below_alloc | apply pw_below_drewN | apply below_drew1 | refine below_set ?_ GE194.out) | exact HB.out))))
      have n1_ := Aside0.mk (Kd.V_lower (Kd.V_mono (ok' := fun k_ => k_ ≠ gb194) ho1 (fun k_ hk_ => Or.elim hk_ (fun hs_ => Or.elim hs_ (fun hs_ => fun e_ => Nat.not_le.2 hs_ (by rw [e_]; exact GW194.out)) (fun hs_ => Or.elim hs_ (fun hs_ => fun e_ => Nat.not_le.2 hs_ (by rw [e_]; exact GW194.out)) (fun hs_ => fun e_ => Nat.not_le.2 hs_ (by rw [e_]; exact GW194.out)))) (fun hn_ => (Kd.freshB (g := gb194) (o := .cells #[.bool a0_0, .slice A0_1 l0_1.length c0_1, .slice A0_2 l0_2.length c0_2, .slice A0_3 l0_3.length c0_3] 25 (0, 0)) (by (with_reducible repeat (first | refine blk_drewN ?_ _ | refine blk_drew ?_ | refine blk_alloc ?_ _)); exact BK194.out) k_ hn_)))) (below_size (by repeat (first | (with_reducible first | exact HB.out | apply below_alloc | apply pw_below_drewN | apply below_drew1 | refine below_set ?_ GE194.out) | exact HB.out))))
      have n2_ := Aside0.mk (Kd.V_lower (Kd.V_mono (ok' := fun k_ => k_ ≠ gb194) ho2 (fun k_ hk_ => Or.elim hk_ (fun hs_ => Or.elim hs_ (fun hs_ => fun e_ => Nat.not_le.2 hs_ (by rw [e_]; exact GW194.out)) (fun hs_ => Or.elim hs_ (fun hs_ => fun e_ => Nat.not_le.2 hs_ (by rw [e_]; exact GW194.out)) (fun hs_ => fun e_ => Nat.not_le.2 hs_ (by rw [e_]; exact GW194.out)))) (fun hn_ => (Kd.freshB (g := gb194) (o := .cells #[.bool a0_0, .slice A0_1 l0_1.length c0_1, .slice A0_2 l0_2.length c0_2, .slice A0_3 l0_3.length c0_3] 25 (0, 0)) (by (with_reducible repeat (first | refine blk_drewN ?_ _ | refine blk_drew ?_ | refine blk_alloc ?_ _)); exact BK194.out) k_ hn_)))) (below_size (by repeat (first | (with_reducible first | exact HB.out | apply below_alloc | apply pw_below_drewN | apply below_drew1 | refine below_set ?_ GE194.out) | exact HB.out))))
      have n3_ := Aside0.mk (blk_below (g := gb194) (o := .cells #[.bool a0_0, .slice A0_1 l0_1.length c0_1, .slice A0_2 l0_2.length c0_2, .slice A0_3 l0_3.length c0_3] 25 (0, 0)) (by (with_reducible repeat (first | refine blk_drewN ?_ _ | refine blk_drew ?_ | refine blk_alloc ?_ _)); exact BK194.out) hb)
      have n4_ := Aside0.mk (below_step (by repeat (first | (with_reducible first | exact HB.out | apply below_alloc | apply pw_below_drewN | apply below_drew1 | refine below_set ?_ GE194.out) | exact HB.out)) hb)
      clear BK194
      clear HB
      have HO198 := n0_
      have HO201 := n1_
      have HO204 := n2_
      have BK194 := n3_
      have HB := n4_
      clear n0_ n1_ n2_ n3_ n4_
      (try clear hb)
      (try clear hb2)
      (try clear hk)
      (try clear hi)
      (try clear ho0)
      (try clear ho1)
      (try clear ho2)
      obtain ⟨Ao14, co14, eo14⟩ := Kd.V_slice HO198.out
      (first | subst eo14 | (injection eo14 with f1_ f2_ f3_; have f4_ := f1_.symm; have f5_ := f3_.symm; clear f1_ f2_ f3_; subst f4_; subst f5_))
      obtain ⟨Ao16, co16, eo16⟩ := Kd.V_slice HO201.out
      (first | subst eo16 | (injection eo16 with f1_ f2_ f3_; have f4_ := f1_.symm; have f5_ := f3_.symm; clear f1_ f2_ f3_; subst f4_; subst f5_))
      obtain ⟨Ao18, co18, eo18⟩ := Kd.V_slice HO204.out
      (first | subst eo18 | (injection eo18 with f1_ f2_ f3_; have f4_ := f1_.symm; have f5_ := f3_.symm; clear f1_ f2_ f3_; subst f4_; subst f5_))
      refine hK.out _ _ ⟨(blk_cell BK194.out 0).trans rfl, (blk_cell BK194.out 1).trans rfl, (blk_cell BK194.out 2).trans rfl, (blk_cell BK194.out 3).trans rfl⟩ (fun hHeld => ?_)
      clear hK K
      refine norm_ (a' := ?_) ?_ ?_
      rotate_left
      · show Act.put _ (some 17) _ = _
        simp only [Act.put, List.setIfInBounds_toArray, List.set_cons_zero, List.set_cons_succ, i64_w, i32_w]
        rfl
      refine last_ (i := 7) (N := none) #[true, true, true, true, true, true, true, true, false] rfl rfl (one_of HT_.out (by kernel_rfl)) (by decide) (fun K hK => ?_)
      have hs13 : w12.cell? ⟨gb194, 0, none⟩ = some (.bool a0_0) := (blk_cell BK194.out 0).trans rfl
      have hfs13 := blk_frozen BK194.out 0
      have hs15 : w12.cell? ⟨gb194, 1, none⟩ = some (.slice A0_1 l0_1.length c0_1) := (blk_cell BK194.out 1).trans rfl
      have hfs15 := blk_frozen BK194.out 1
      have hs17 : w12.cell? ⟨gb194, 2, none⟩ = some (.slice A0_2 l0_2.length c0_2) := (blk_cell BK194.out 2).trans rfl
      have hfs17 := blk_frozen BK194.out 2
      have hs19 : w12.cell? ⟨gb194, 3, none⟩ = some (.slice A0_3 l0_3.length c0_3) := (blk_cell BK194.out 3).trans rfl
      have hfs19 := blk_frozen BK194.out 3
      refine skip_ (w1 := ?_) (by rfl) rfl ?_ ?_
      rotate_left
      · go_simp
        rfl
      refine hK.out _ _ ?_
      clear hK K
      refine pure_ (i := 8) (N := some 2) (v := ?_) (a' := ?_) #[true, true, true, true, true, true, true, true, true] rfl rfl (any_of HT_.out (by kernel_rfl)) (fun _ _ _ h => h) (Or.inl ⟨by rfl, ?_⟩) ?_ ?_
      rotate_left
      · intro w'
        go_simp
        with_reducible rfl
      rotate_left
      · simp only [Act.put, List.setIfInBounds_toArray, List.set_cons_zero, List.set_cons_succ, i64_w, i32_w]
        rfl
      refine done_ (done_of HT_.out (by kernel_rfl)) ?_
      have hcz20_0 : w12.cell? ⟨gb194, 0, none⟩ = some (.bool a0_0) := (blk_cell BK194.out 0).trans rfl
      have hcz20_1 : w12.cell? ⟨gb194, 1, none⟩ = some (.slice A0_1 l0_1.length c0_1) := (blk_cell BK194.out 1).trans rfl
      have hcz20_2 : w12.cell? ⟨gb194, 2, none⟩ = some (.slice A0_2 l0_2.length c0_2) := (blk_cell BK194.out 2).trans rfl
      have hcz20_3 : w12.cell? ⟨gb194, 3, none⟩ = some (.slice A0_3 l0_3.length c0_3) := (blk_cell BK194.out 3).trans rfl
      have hfz20_0 := blk_frozen BK194.out 0
      have hfz20_1 := blk_frozen BK194.out 1
      have hfz20_2 := blk_frozen BK194.out 2
      have hfz20_3 := blk_frozen BK194.out 3
      go_upto_if 29 with (first | ((with_reducible refine gate_callee (f := 11) rfl ?_); refine goesL_ (some 25) rfl rfl Try.func11 (by kernel_rfl) rfl #[.agg #[.bool t195, .slice Ao14 t196.length co14, .slice Ao16 t199.length co16, .slice Ao18 t202.length co18]] rfl (by (try simp only [List.map_toArray, List.map_cons, List.map_nil]); first | done | rfl | (simp only [List.length_drop, List.length_take]; rfl)) ?_; (with_reducible refine (node_Put.calls k t195 _ _ t196 _ _ t199 _ _ t202 t205 t206 _ ?side1 ?side2 ?side3 ?side4 ?side5 ?side6 A8.out).mono ?_); (case side1 => refine (Kd.V_reads' (e := 9) (base := w.heap.size) (ok := fun k_ => k_ ≠ gb194) (n := t196.length) (c := co14) ?_).2.2; exact (by (with_reducible repeat (first | apply Kd.V_alloc | apply Kd.V_drewN | apply Kd.V_drew)); exact (Kd.V_mono (Kd.V_far (p := ⟨gb194, 3, none⟩) (Kd.V_far (p := ⟨gb194, 2, none⟩) (Kd.V_far (p := ⟨gb194, 1, none⟩) (Kd.V_far (p := ⟨gb194, 0, none⟩) (Kd.V_mono HO198.out (fun k_ hk => (⟨hk, hk⟩ : _ ∧ k_ ≠ gb194))) (fun _ hk => hk.2) (.bool t195)) (fun _ hk => hk.2) (.slice Ao14 t196.length co14)) (fun _ hk => hk.2) (.slice Ao16 t199.length co16)) (fun _ hk => hk.2) (.slice Ao18 t202.length co18)) (fun _ h_ => h_.1)))); (case side2 => exact (Kd.V_reads' HO198.out).2.1); (case side3 => refine (Kd.V_reads' (e := 9) (base := w.heap.size) (ok := fun k_ => k_ ≠ gb194) (n := t199.length) (c := co16) ?_).2.2; exact (by (with_reducible repeat (first | apply Kd.V_alloc | apply Kd.V_drewN | apply Kd.V_drew)); exact (Kd.V_mono (Kd.V_far (p := ⟨gb194, 3, none⟩) (Kd.V_far (p := ⟨gb194, 2, none⟩) (Kd.V_far (p := ⟨gb194, 1, none⟩) (Kd.V_far (p := ⟨gb194, 0, none⟩) (Kd.V_mono HO201.out (fun k_ hk => (⟨hk, hk⟩ : _ ∧ k_ ≠ gb194))) (fun _ hk => hk.2) (.bool t195)) (fun _ hk => hk.2) (.slice Ao14 t196.length co14)) (fun _ hk => hk.2) (.slice Ao16 t199.length co16)) (fun _ hk => hk.2) (.slice Ao18 t202.length co18)) (fun _ h_ => h_.1)))); (case side4 => exact (Kd.V_reads' HO201.out).2.1); (case side5 => refine (Kd.V_reads' (e := 3) (base := w.heap.size) (ok := fun k_ => k_ ≠ gb194) (n := t202.length) (c := co18) ?_).2.2; exact (by (with_reducible repeat (first | apply Kd.V_alloc | apply Kd.V_drewN | apply Kd.V_drew)); exact (Kd.V_mono (Kd.V_far (p := ⟨gb194, 3, none⟩) (Kd.V_far (p := ⟨gb194, 2, none⟩) (Kd.V_far (p := ⟨gb194, 1, none⟩) (Kd.V_far (p := ⟨gb194, 0, none⟩) (Kd.V_mono HO204.out (fun k_ hk => (⟨hk, hk⟩ : _ ∧ k_ ≠ gb194))) (fun _ hk => hk.2) (.bool t195)) (fun _ hk => hk.2) (.slice Ao14 t196.length co14)) (fun _ hk => hk.2) (.slice Ao16 t199.length co16)) (fun _ hk => hk.2) (.slice Ao18 t202.length co18)) (fun _ h_ => h_.1)))); (case side6 => exact (Kd.V_reads' HO204.out).2.1); rintro e w21 ⟨rfl, hb⟩; refine ⟨_, rfl, ?_⟩; have n0_ := Aside0.mk (Kd.V_below (by (with_reducible repeat (first | apply Kd.V_alloc | apply Kd.V_drewN | apply Kd.V_drew)); exact (Kd.V_mono (Kd.V_far (p := ⟨gb194, 3, none⟩) (Kd.V_far (p := ⟨gb194, 2, none⟩) (Kd.V_far (p := ⟨gb194, 1, none⟩) (Kd.V_far (p := ⟨gb194, 0, none⟩) (Kd.V_mono HO198.out (fun k_ hk => (⟨hk, hk⟩ : _ ∧ k_ ≠ gb194))) (fun _ hk => hk.2) (.bool t195)) (fun _ hk => hk.2) (.slice Ao14 t196.length co14)) (fun _ hk => hk.2) (.slice Ao16 t199.length co16)) (fun _ hk => hk.2) (.slice Ao18 t202.length co18)) (fun _ h_ => h_.1))) hb); have n1_ := Aside0.mk (Kd.V_below (by (with_reducible repeat (first | apply Kd.V_alloc | apply Kd.V_drewN | apply Kd.V_drew)); exact (Kd.V_mono (Kd.V_far (p := ⟨gb194, 3, none⟩) (Kd.V_far (p := ⟨gb194, 2, none⟩) (Kd.V_far (p := ⟨gb194, 1, none⟩) (Kd.V_far (p := ⟨gb194, 0, none⟩) (Kd.V_mono HO201.out (fun k_ hk => (⟨hk, hk⟩ : _ ∧ k_ ≠ gb194))) (fun _ hk => hk.2) (.bool t195)) (fun _ hk => hk.2) (.slice Ao14 t196.length co14)) (fun _ hk => hk.2) (.slice Ao16 t199.length co16)) (fun _ hk => hk.2) (.slice Ao18 t202.length co18)) (fun _ h_ => h_.1))) hb); have n2_ := Aside0.mk (Kd.V_below (by (with_reducible repeat (first | apply Kd.V_alloc | apply Kd.V_drewN | apply Kd.V_drew)); exact (Kd.V_mono (Kd.V_far (p := ⟨gb194, 3, none⟩) (Kd.V_far (p := ⟨gb194, 2, none⟩) (Kd.V_far (p := ⟨gb194, 1, none⟩) (Kd.V_far (p := ⟨gb194, 0, none⟩) (Kd.V_mono HO204.out (fun k_ hk => (⟨hk, hk⟩ : _ ∧ k_ ≠ gb194))) (fun _ hk => hk.2) (.bool t195)) (fun _ hk => hk.2) (.slice Ao14 t196.length co14)) (fun _ hk => hk.2) (.slice Ao16 t199.length co16)) (fun _ hk => hk.2) (.slice Ao18 t202.length co18)) (fun _ h_ => h_.1))) hb); have n3_ := Aside0.mk (blk_below (g := gb194) (o := .cells #[.bool t195, .slice Ao14 t196.length co14, .slice Ao16 t199.length co16, .slice Ao18 t202.length co18] 25 (0, 0)) (by (with_reducible repeat (first | refine blk_drewN ?_ _ | refine blk_drew ?_ | refine blk_alloc ?_ _)); refine blk_put (cs := #[.bool t195, .slice Ao14 t196.length co14, .slice Ao16 t199.length co16, .slice A0_3 l0_3.length c0_3]) ?_ 3 _ rfl; (with_reducible repeat (first | refine blk_drewN ?_ _ | refine blk_drew ?_ | refine blk_alloc ?_ _)); refine blk_put (cs := #[.bool t195, .slice Ao14 t196.length co14, .slice A0_2 l0_2.length c0_2, .slice A0_3 l0_3.length c0_3]) ?_ 2 _ rfl; (with_reducible repeat (first | refine blk_drewN ?_ _ | refine blk_drew ?_ | refine blk_alloc ?_ _)); refine blk_put (cs := #[.bool t195, .slice A0_1 l0_1.length c0_1, .slice A0_2 l0_2.length c0_2, .slice A0_3 l0_3.length c0_3]) ?_ 1 _ rfl; (with_reducible repeat (first | refine blk_drewN ?_ _ | refine blk_drew ?_ | refine blk_alloc ?_ _)); refine blk_put (cs := #[.bool a0_0, .slice A0_1 l0_1.length c0_1, .slice A0_2 l0_2.length c0_2, .slice A0_3 l0_3.length c0_3]) ?_ 0 _ rfl; (with_reducible repeat (first | refine blk_drewN ?_ _ | refine blk_drew ?_ | refine blk_alloc ?_ _)); exact BK194.out) hb); have n4_ := Aside0.mk (below_step (by repeat (first | (with_reducible first | exact HB.out | apply below_alloc | apply pw_below_drewN | apply below_drew1 | refine below_set ?_ GE194.out) | exact HB.out)) hb); clear HO198; clear HO201; clear HO204; clear BK194; clear HB; have HO198 := n0_; have HO201 := n1_; have HO204 := n2_; have BK194 := n3_; have HB := n4_; clear n0_ n1_ n2_ n3_ n4_; (try clear hb); (try clear hb2); (try clear hk); (try clear hi)))
      (try simp only [Act.put, List.setIfInBounds_toArray, List.set_cons_zero, List.set_cons_succ])
      go_cut [] (fun wc => ∃ (kq : Nat), Aside0 (penelopelaw07_NodeBack.j1 kq a1 (a2.extract 0 ((ji5) : Int).toNat) = some r) ∧ Aside0 (kq ≤ k) ∧ Aside0 (Kd.V Kd.string 9 wc w.heap.size (fun k_ => k_ ≠ gb194) (.slice Ao14 t196.length co14) t196) ∧ Aside0 (Kd.V Kd.string 9 wc w.heap.size (fun k_ => k_ ≠ gb194) (.slice Ao16 t199.length co16) t199) ∧ Aside0 (Kd.V (Kd.int .i64) 3 wc w.heap.size (fun k_ => k_ ≠ gb194) (.slice Ao18 t202.length co18) t202) ∧ Aside0 (wc.heap[gb194]? = some (.cells #[.bool t195, (.slice Ao14 t196.length co14), (.slice Ao16 t199.length co16), (.slice Ao18 t202.length co18)] 25 (0, 0))) ∧ Aside0 (Below w.heap.size w wc))
      case first =>
        have H := HC9.out
        clear HC9
        by_cases c22 : t206 = 0
        · rw [if_pos c22] at H
          have c22b0 : (t206 == 0) = true := beq_iff_eq.mpr c22
          have c22b1 : (t206 != 0) = false := bne_eq_false_iff_eq.mpr c22
          clear c22
          (first | rw [c22b0] | (simp only [i64_w, i32_w]; rw [c22b0]) | skip)
          have HC23 := Aside0.mk H
          clear H
          have hcz24_0 : w21.cell? ⟨gb194, 0, none⟩ = some (.bool t195) := (blk_cell BK194.out 0).trans rfl
          have hcz24_1 : w21.cell? ⟨gb194, 1, none⟩ = some (.slice Ao14 t196.length co14) := (blk_cell BK194.out 1).trans rfl
          have hcz24_2 : w21.cell? ⟨gb194, 2, none⟩ = some (.slice Ao16 t199.length co16) := (blk_cell BK194.out 2).trans rfl
          have hcz24_3 : w21.cell? ⟨gb194, 3, none⟩ = some (.slice Ao18 t202.length co18) := (blk_cell BK194.out 3).trans rfl
          have hfz24_0 := blk_frozen BK194.out 0
          have hfz24_1 := blk_frozen BK194.out 1
          have hfz24_2 := blk_frozen BK194.out 2
          have hfz24_3 := blk_frozen BK194.out 3
          go_upto_if 31 with (fail)
          go_cut [9] (fun v9 wc => ∃ (kq : Nat) (x9_22 : Int), v9 = .int .i64 x9_22 ∧ Aside0 (penelopelaw07_NodeBack.j0 kq a1 (a2.extract 0 ((ji5) : Int).toNat) t205 x9_22 t195 t196 t199 t202 = some r) ∧ Aside0 (kq ≤ k) ∧ Aside0 (Kd.V Kd.string 9 wc w.heap.size (fun k_ => k_ ≠ gb194) (.slice Ao14 t196.length co14) t196) ∧ Aside0 (Kd.V Kd.string 9 wc w.heap.size (fun k_ => k_ ≠ gb194) (.slice Ao16 t199.length co16) t199) ∧ Aside0 (Kd.V (Kd.int .i64) 3 wc w.heap.size (fun k_ => k_ ≠ gb194) (.slice Ao18 t202.length co18) t202) ∧ Aside0 (wc.heap[gb194]? = some (.cells #[.bool t195, (.slice Ao14 t196.length co14), (.slice Ao16 t199.length co16), (.slice Ao18 t202.length co18)] 25 (0, 0))) ∧ Aside0 (Below w.heap.size w wc))
          case first =>
            have H := HC23.out
            clear HC23
            by_cases c25 : t195 = true
            · subst c25
              have H1 : (penelopelaw07_NodeBack.j0 k a1 (a2.extract 0 ((ji5) : Int).toNat) t205 1 true t196 t199 t202) = some r := by rw [if_pos rfl] at H; exact H
              clear H
              have H := H1
              clear H1
              have H' := Aside0.mk H
              clear H
              go_wp2
              go_meet
              case rel => exact ⟨_, (1), (by first | rfl | (simp; done) | (simp [*]; done)), H', ⟨by first | omega | exact Nat.le_refl _⟩, ⟨by (with_reducible repeat (first | apply Kd.V_alloc | apply Kd.V_drewN | apply Kd.V_drew)); exact HO198.out⟩, ⟨by (with_reducible repeat (first | apply Kd.V_alloc | apply Kd.V_drewN | apply Kd.V_drew)); exact HO201.out⟩, ⟨by (with_reducible repeat (first | apply Kd.V_alloc | apply Kd.V_drewN | apply Kd.V_drew)); exact HO204.out⟩, ⟨by (with_reducible repeat (first | refine blk_drewN ?_ _ | refine blk_drew ?_ | refine blk_alloc ?_ _)); exact BK194.out⟩, ⟨by repeat (first | (with_reducible first | exact HB.out | apply below_alloc | apply pw_below_drewN | apply below_drew1 | refine below_set ?_ GE194.out) | exact HB.out)⟩⟩
            · replace c25 := Bool.eq_false_iff.mpr c25
              subst c25
              have H1 : (penelopelaw07_NodeBack.j0 k a1 (a2.extract 0 ((ji5) : Int).toNat) t205 2 false t196 t199 t202) = some r := by rw [if_neg (show ¬ (false = true) by decide)] at H; exact H
              clear H
              have H := H1
              clear H1
              have H' := Aside0.mk H
              clear H
              go_wp2
              go_meet
              case rel => exact ⟨_, (2), (by first | rfl | (simp; done) | (simp [*]; done)), H', ⟨by first | omega | exact Nat.le_refl _⟩, ⟨by (with_reducible repeat (first | apply Kd.V_alloc | apply Kd.V_drewN | apply Kd.V_drew)); exact HO198.out⟩, ⟨by (with_reducible repeat (first | apply Kd.V_alloc | apply Kd.V_drewN | apply Kd.V_drew)); exact HO201.out⟩, ⟨by (with_reducible repeat (first | apply Kd.V_alloc | apply Kd.V_drewN | apply Kd.V_drew)); exact HO204.out⟩, ⟨by (with_reducible repeat (first | refine blk_drewN ?_ _ | refine blk_drew ?_ | refine blk_alloc ?_ _)); exact BK194.out⟩, ⟨by repeat (first | (with_reducible first | exact HB.out | apply below_alloc | apply pw_below_drewN | apply below_drew1 | refine below_set ?_ GE194.out) | exact HB.out)⟩⟩
          case rest =>
            clear HC23
            try clear c1
            try clear c2
            try clear p2
            try clear c6
            try clear c6b0
            try clear c6b1
            try clear c7
            try clear c7b0
            try clear c7b1
            try clear c9
            try clear c10
            try clear c11
            try clear c22
            try clear c22b0
            try clear c22b1
            try clear c25
            try clear hcz20_0
            try clear hcz20_1
            try clear hcz20_2
            try clear hcz20_3
            try clear hcz24_0
            try clear hcz24_1
            try clear hcz24_2
            try clear hcz24_3
            try clear hfz20_0
            try clear hfz20_1
            try clear hfz20_2
            try clear hfz20_3
            try clear hfz24_0
            try clear hfz24_1
            try clear hfz24_2
            try clear hfz24_3
            obtain ⟨kq, x9_22, rfl, HA, HJ22, HO_195001, HO_195002, HO_195003, BK194, HB⟩ := hcut
            cases kq with
            | zero => exact absurd HA.out (by simp [penelopelaw07_NodeBack.j0])
            | succ kj22 =>
              have H := HA.out
              clear HA
              simp only [penelopelaw07_NodeBack.j0] at H
              replace H := Option.bind_eq_some_iff.mp H
              obtain ⟨⟨t207, t208, t211, t214, t217⟩, A260, H⟩ := H
              replace H : (if t217 = 0 then ((peneloperef07_Like.f kj22 t207 t208 t211 t214 t195 t196 t199 t202).bind fun t219 => (if t219 = true then (if (t205.size : Int) > 4000 then (none) else (penelopelaw07_NodeBack.j1 kj22 a1 (a2.extract 0 ((ji5) : Int).toNat))) else (none))) else (none)) = some r := H
              have A26 := Aside0.mk A260
              clear A260
              by_cases c27 : t217 = 0
              · rw [if_pos c27] at H
                have c27b0 : (t217 == 0) = true := beq_iff_eq.mpr c27
                have c27b1 : (t217 != 0) = false := bne_eq_false_iff_eq.mpr c27
                clear c27
                replace H := Option.bind_eq_some_iff.mp H
                obtain ⟨t219, A280, H⟩ := H
                replace H : (if t219 = true then (if (t205.size : Int) > 4000 then (none) else (penelopelaw07_NodeBack.j1 kj22 a1 (a2.extract 0 ((ji5) : Int).toNat))) else (none)) = some r := H
                have A28 := Aside0.mk A280
                clear A280
                by_cases c29 : t219 = true
                · subst c29
                  have H1 : (if (t205.size : Int) > 4000 then (none) else (penelopelaw07_NodeBack.j1 kj22 a1 (a2.extract 0 ((ji5) : Int).toNat))) = some r := by rw [if_pos rfl] at H; exact H
                  clear H
                  have H := H1
                  clear H1
                  by_cases c30 : (t205.size : Int) > 4000
                  · rw [if_pos c30] at H
                    exact absurd H (by simp)
                  · rw [if_neg c30] at H
                    have c30b0 : decide (4000 < (t205.size : Int)) = false := decide_eq_false c30
                    have c30b1 : decide (4000 < t205.size) = false := decide_eq_false (by omega)
                    clear c30
                    have H' := Aside0.mk H
                    clear H
                    go_wp2_with (first | ((with_reducible refine gate_callee (f := 26) rfl ?_); refine goesL_ (some 35) rfl rfl Try.func26 (by kernel_rfl) rfl #[.int .i64 x9_22, .string t205] rfl (by (try simp only [List.map_toArray, List.map_cons, List.map_nil]); first | done | rfl | (simp only [List.length_drop, List.length_take]; rfl)) ?_; (with_reducible refine (node_Get.calls kj22 x9_22 t205 t207 t208 t211 t214 t217 _ A26.out).mono ?_); rintro e w31 ⟨v209, v212, v215, rfl, ho0, ho1, ho2, hb⟩; refine ⟨_, rfl, ?_⟩; have n0_ := Aside0.mk (Kd.V_mono (Kd.V_told (Kd.V_told (Kd.V_told (Kd.V_old (by (with_reducible repeat (first | apply Kd.V_alloc | apply Kd.V_drewN | apply Kd.V_drew)); exact HO_195001.out) hb) (Kd.R_base ho0)) (Kd.R_base ho1)) (Kd.R_base ho2)) (fun _ h_ => h_.1)); have n1_ := Aside0.mk (Kd.V_mono (Kd.V_told (Kd.V_told (Kd.V_told (Kd.V_old (by (with_reducible repeat (first | apply Kd.V_alloc | apply Kd.V_drewN | apply Kd.V_drew)); exact HO_195002.out) hb) (Kd.R_base ho0)) (Kd.R_base ho1)) (Kd.R_base ho2)) (fun _ h_ => h_.1)); have n2_ := Aside0.mk (Kd.V_mono (Kd.V_told (Kd.V_told (Kd.V_told (Kd.V_old (by (with_reducible repeat (first | apply Kd.V_alloc | apply Kd.V_drewN | apply Kd.V_drew)); exact HO_195003.out) hb) (Kd.R_base ho0)) (Kd.R_base ho1)) (Kd.R_base ho2)) (fun _ h_ => h_.1)); have n3_ := Aside0.mk (Kd.R_lower ho0 (below_size (by repeat (first | (with_reducible first | exact HB.out | apply below_alloc | apply pw_below_drewN | apply below_drew1 | refine below_set ?_ GE194.out) | exact HB.out)))); have n4_ := Aside0.mk (Kd.R_lower ho1 (below_size (by repeat (first | (with_reducible first | exact HB.out | apply below_alloc | apply pw_below_drewN | apply below_drew1 | refine below_set ?_ GE194.out) | exact HB.out)))); have n5_ := Aside0.mk (Kd.R_lower ho2 (below_size (by repeat (first | (with_reducible first | exact HB.out | apply below_alloc | apply pw_below_drewN | apply below_drew1 | refine below_set ?_ GE194.out) | exact HB.out)))); have n6_ := Aside0.mk (blk_below (g := gb194) (o := .cells #[.bool t195, .slice Ao14 t196.length co14, .slice Ao16 t199.length co16, .slice Ao18 t202.length co18] 25 (0, 0)) (by (with_reducible repeat (first | refine blk_drewN ?_ _ | refine blk_drew ?_ | refine blk_alloc ?_ _)); exact BK194.out) hb); have n7_ := Aside0.mk (below_step (by repeat (first | (with_reducible first | exact HB.out | apply below_alloc | apply pw_below_drewN | apply below_drew1 | refine below_set ?_ GE194.out) | exact HB.out)) hb); clear HO_195001; clear HO_195002; clear HO_195003; clear BK194; clear HB; have HO_195001 := n0_; have HO_195002 := n1_; have HO_195003 := n2_; have HO210 := n3_; have HO213 := n4_; have HO216 := n5_; have BK194 := n6_; have HB := n7_; clear n0_ n1_ n2_ n3_ n4_ n5_ n6_ n7_; (try clear hb); (try clear hb2); (try clear hk); (try clear hi); (try clear ho0); (try clear ho1); (try clear ho2)) | ((with_reducible refine gate_dst (N := 10) rfl ?_); (try (refine gate_guard (by rfl) ?_; dsimp only)); refine box_event ?hg (N := 10) ?hd (cs := #[.bool false, .slice none 0 0, .slice none 0 0, .slice none 0 0]) (t := 25) ?hr ?_; (case hd => rfl); (case hg => rfl); (case hr => first | (go_simp; done) | (go_simp; rfl)); intro gb218 hg w32 hbox hb; have n0_ := Aside0.mk (Kd.V_below (Kd.V_elderB (by (with_reducible repeat (first | apply Kd.V_alloc | apply Kd.V_drewN | apply Kd.V_drew)); exact HO_195001.out) gb218 (Nat.le_of_eq hg.symm)) hb); have n1_ := Aside0.mk (Kd.V_below (Kd.V_elderB (by (with_reducible repeat (first | apply Kd.V_alloc | apply Kd.V_drewN | apply Kd.V_drew)); exact HO_195002.out) gb218 (Nat.le_of_eq hg.symm)) hb); have n2_ := Aside0.mk (Kd.V_below (Kd.V_elderB (by (with_reducible repeat (first | apply Kd.V_alloc | apply Kd.V_drewN | apply Kd.V_drew)); exact HO_195003.out) gb218 (Nat.le_of_eq hg.symm)) hb); have n3_ := Aside0.mk (Kd.R_below (by (with_reducible repeat (first | apply Kd.R_alloc | apply Kd.R_drewN | apply Kd.R_drew)); exact HO210.out) hb); have n4_ := Aside0.mk (Kd.R_below (by (with_reducible repeat (first | apply Kd.R_alloc | apply Kd.R_drewN | apply Kd.R_drew)); exact HO213.out) hb); have n5_ := Aside0.mk (Kd.R_below (by (with_reducible repeat (first | apply Kd.R_alloc | apply Kd.R_drewN | apply Kd.R_drew)); exact HO216.out) hb); have n6_ := Aside0.mk (blk_below (g := gb194) (o := .cells #[.bool t195, .slice Ao14 t196.length co14, .slice Ao16 t199.length co16, .slice Ao18 t202.length co18] 25 (0, 0)) (by (with_reducible repeat (first | refine blk_drewN ?_ _ | refine blk_drew ?_ | refine blk_alloc ?_ _)); exact BK194.out) hb); have n7_ := Aside0.mk (below_step (by repeat (first | (with_reducible first | exact HB.out | apply below_alloc | apply pw_below_drewN | apply below_drew1 | refine below_set ?_ GE194.out) | exact HB.out)) hb); have n8_ := Aside0.mk (hbox); have n9_ := Aside0.mk ((by rw [hg]; exact (below_size (by repeat (first | (with_reducible first | exact HB.out | apply below_alloc | apply pw_below_drewN | apply below_drew1 | refine below_set ?_ GE194.out) | exact HB.out))) : w.heap.size ≤ gb218)); have n10_ := Aside0.mk ((by rw [hg]; exact (below_size (by repeat (first | (with_reducible first | exact HB.out | apply below_alloc | apply pw_below_drewN | apply below_drew1 | refine below_set ?_ GE194.out) | exact HB.out))) : w.heap.size ≤ gb218)); have n11_ := Aside0.mk ((by rw [hg]; exact Nat.ne_of_lt (blk_lt (g := gb194) (o := .cells #[.bool t195, .slice Ao14 t196.length co14, .slice Ao16 t199.length co16, .slice Ao18 t202.length co18] 25 (0, 0)) (by (with_reducible repeat (first | refine blk_drewN ?_ _ | refine blk_drew ?_ | refine blk_alloc ?_ _)); exact BK194.out)) : gb194 ≠ gb218)); have n12_ := Aside0.mk ((by rw [hg]; exact Nat.ne_of_gt (blk_lt (g := gb194) (o := .cells #[.bool t195, .slice Ao14 t196.length co14, .slice Ao16 t199.length co16, .slice Ao18 t202.length co18] 25 (0, 0)) (by (with_reducible repeat (first | refine blk_drewN ?_ _ | refine blk_drew ?_ | refine blk_alloc ?_ _)); exact BK194.out)) : gb218 ≠ gb194)); clear HO_195001; clear HO_195002; clear HO_195003; clear HO210; clear HO213; clear HO216; clear BK194; clear HB; have HO_195001 := n0_; have HO_195002 := n1_; have HO_195003 := n2_; have HO210 := n3_; have HO213 := n4_; have HO216 := n5_; have BK194 := n6_; have HB := n7_; have BK218 := n8_; have GW218 := n9_; have GE218 := n10_; have NB194_218 := n11_; have NB218_194 := n12_; clear n0_ n1_ n2_ n3_ n4_ n5_ n6_ n7_ n8_ n9_ n10_ n11_ n12_; clear hb hbox hg; have hnb33 := NB218_194.out; have hnc33 := NB194_218.out; have hcz34_0 : w32.cell? ⟨gb218, 0, none⟩ = some (.bool false) := (blk_cell BK218.out 0).trans rfl; have hcz34_1 : w32.cell? ⟨gb218, 1, none⟩ = some (.slice none 0 0) := (blk_cell BK218.out 1).trans rfl; have hcz34_2 : w32.cell? ⟨gb218, 2, none⟩ = some (.slice none 0 0) := (blk_cell BK218.out 2).trans rfl; have hcz34_3 : w32.cell? ⟨gb218, 3, none⟩ = some (.slice none 0 0) := (blk_cell BK218.out 3).trans rfl; have hfz34_0 := blk_frozen BK218.out 0; have hfz34_1 := blk_frozen BK218.out 1; have hfz34_2 := blk_frozen BK218.out 2; have hfz34_3 := blk_frozen BK218.out 3; obtain ⟨Ao35, co35, eo35⟩ := Kd.R_slice HO210.out; subst eo35; obtain ⟨Ao36, co36, eo36⟩ := Kd.R_slice HO213.out; subst eo36; obtain ⟨Ao37, co37, eo37⟩ := Kd.R_slice HO216.out; subst eo37; have hcz38_0 : w32.cell? ⟨gb194, 0, none⟩ = some (.bool t195) := (blk_cell BK194.out 0).trans rfl; have hcz38_1 : w32.cell? ⟨gb194, 1, none⟩ = some (.slice Ao14 t196.length co14) := (blk_cell BK194.out 1).trans rfl; have hcz38_2 : w32.cell? ⟨gb194, 2, none⟩ = some (.slice Ao16 t199.length co16) := (blk_cell BK194.out 2).trans rfl; have hcz38_3 : w32.cell? ⟨gb194, 3, none⟩ = some (.slice Ao18 t202.length co18) := (blk_cell BK194.out 3).trans rfl; have hfz38_0 := blk_frozen BK194.out 0; have hfz38_1 := blk_frozen BK194.out 1; have hfz38_2 := blk_frozen BK194.out 2; have hfz38_3 := blk_frozen BK194.out 3) | (go_at_call 23; (with_reducible refine (peneloperef07_Like.calls kj22 t207 _ _ t208 _ _ t211 _ _ t214 t195 _ _ t196 _ _ t199 _ _ t202 true _ ?side1 ?side2 ?side3 ?side4 ?side5 ?side6 ?side7 ?side8 ?side9 ?side10 ?side11 ?side12 A28.out).mono ?_); (case side1 => refine (Kd.R_reads' (e := 9) (base := w.heap.size) (ok := fun k_ => some k_ ≠ (.slice Ao36 t211.length co36 : Value).ownBlock) (n := t208.length) (c := co35) ?_).2.2; exact (by (with_reducible repeat (first | apply Kd.R_alloc | apply Kd.R_drewN | apply Kd.R_drew)); exact (Kd.R_mono (Kd.R_far (p := ⟨gb218, 3, none⟩) (Kd.R_far (p := ⟨gb218, 2, none⟩) (Kd.R_far (p := ⟨gb218, 1, none⟩) (Kd.R_far (p := ⟨gb218, 0, none⟩) (Kd.R_types HO210.out BK218.out (by decide)) (fun _ hk => hk.2) (.bool t207)) (fun _ hk => hk.2) (.slice Ao35 t208.length co35)) (fun _ hk => hk.2) (.slice Ao36 t211.length co36)) (fun _ hk => hk.2) (.slice Ao37 t214.length co37)) (fun _ h_ => h_.1)))); (case side2 => exact (Kd.R_reads' HO210.out).2.1); (case side3 => refine (Kd.R_reads' (e := 9) (base := w.heap.size) (ok := fun k_ => some k_ ≠ (.slice Ao35 t208.length co35 : Value).ownBlock) (n := t211.length) (c := co36) ?_).2.2; exact (by (with_reducible repeat (first | apply Kd.R_alloc | apply Kd.R_drewN | apply Kd.R_drew)); exact (Kd.R_mono (Kd.R_far (p := ⟨gb218, 3, none⟩) (Kd.R_far (p := ⟨gb218, 2, none⟩) (Kd.R_far (p := ⟨gb218, 1, none⟩) (Kd.R_far (p := ⟨gb218, 0, none⟩) (Kd.R_types HO213.out BK218.out (by decide)) (fun _ hk => hk.2) (.bool t207)) (fun _ hk => hk.2) (.slice Ao35 t208.length co35)) (fun _ hk => hk.2) (.slice Ao36 t211.length co36)) (fun _ hk => hk.2) (.slice Ao37 t214.length co37)) (fun _ h_ => h_.1)))); (case side4 => exact (Kd.R_reads' HO213.out).2.1); (case side5 => refine (Kd.R_reads' (e := 3) (base := w.heap.size) (ok := fun k_ => True) (n := t214.length) (c := co37) ?_).2.2; exact (by (with_reducible repeat (first | apply Kd.R_alloc | apply Kd.R_drewN | apply Kd.R_drew)); exact (Kd.R_mono (Kd.R_far (p := ⟨gb218, 3, none⟩) (Kd.R_far (p := ⟨gb218, 2, none⟩) (Kd.R_far (p := ⟨gb218, 1, none⟩) (Kd.R_far (p := ⟨gb218, 0, none⟩) (Kd.R_types HO216.out BK218.out (by decide)) (fun _ hk => hk.2) (.bool t207)) (fun _ hk => hk.2) (.slice Ao35 t208.length co35)) (fun _ hk => hk.2) (.slice Ao36 t211.length co36)) (fun _ hk => hk.2) (.slice Ao37 t214.length co37)) (fun _ h_ => h_.1)))); (case side6 => exact (Kd.R_reads' HO216.out).2.1); (case side7 => refine (Kd.V_reads' (e := 9) (base := w.heap.size) (ok := fun k_ => ((((k_ ≠ gb194 ∧ some k_ ≠ (.slice Ao35 t208.length co35 : Value).ownBlock) ∧ some k_ ≠ (.slice Ao36 t211.length co36 : Value).ownBlock) ∧ some k_ ≠ (.slice Ao37 t214.length co37 : Value).ownBlock) ∧ k_ ≠ gb218)) (n := t196.length) (c := co14) ?_).2.2; exact (by (with_reducible repeat (first | apply Kd.V_alloc | apply Kd.V_drewN | apply Kd.V_drew)); exact (Kd.V_mono (Kd.V_far (p := ⟨gb218, 3, none⟩) (Kd.V_far (p := ⟨gb218, 2, none⟩) (Kd.V_far (p := ⟨gb218, 1, none⟩) (Kd.V_far (p := ⟨gb218, 0, none⟩) (Kd.V_mono HO_195001.out (fun k_ hk => (⟨hk, hk.2⟩ : _ ∧ k_ ≠ gb218))) (fun _ hk => hk.2) (.bool t207)) (fun _ hk => hk.2) (.slice Ao35 t208.length co35)) (fun _ hk => hk.2) (.slice Ao36 t211.length co36)) (fun _ hk => hk.2) (.slice Ao37 t214.length co37)) (fun _ h_ => h_.1)))); (case side8 => exact (Kd.V_reads' HO_195001.out).2.1); (case side9 => refine (Kd.V_reads' (e := 9) (base := w.heap.size) (ok := fun k_ => ((((k_ ≠ gb194 ∧ some k_ ≠ (.slice Ao35 t208.length co35 : Value).ownBlock) ∧ some k_ ≠ (.slice Ao36 t211.length co36 : Value).ownBlock) ∧ some k_ ≠ (.slice Ao37 t214.length co37 : Value).ownBlock) ∧ k_ ≠ gb218)) (n := t199.length) (c := co16) ?_).2.2; exact (by (with_reducible repeat (first | apply Kd.V_alloc | apply Kd.V_drewN | apply Kd.V_drew)); exact (Kd.V_mono (Kd.V_far (p := ⟨gb218, 3, none⟩) (Kd.V_far (p := ⟨gb218, 2, none⟩) (Kd.V_far (p := ⟨gb218, 1, none⟩) (Kd.V_far (p := ⟨gb218, 0, none⟩) (Kd.V_mono HO_195002.out (fun k_ hk => (⟨hk, hk.2⟩ : _ ∧ k_ ≠ gb218))) (fun _ hk => hk.2) (.bool t207)) (fun _ hk => hk.2) (.slice Ao35 t208.length co35)) (fun _ hk => hk.2) (.slice Ao36 t211.length co36)) (fun _ hk => hk.2) (.slice Ao37 t214.length co37)) (fun _ h_ => h_.1)))); (case side10 => exact (Kd.V_reads' HO_195002.out).2.1); (case side11 => refine (Kd.V_reads' (e := 3) (base := w.heap.size) (ok := fun k_ => ((((k_ ≠ gb194 ∧ some k_ ≠ (.slice Ao35 t208.length co35 : Value).ownBlock) ∧ some k_ ≠ (.slice Ao36 t211.length co36 : Value).ownBlock) ∧ some k_ ≠ (.slice Ao37 t214.length co37 : Value).ownBlock) ∧ k_ ≠ gb218)) (n := t202.length) (c := co18) ?_).2.2; exact (by (with_reducible repeat (first | apply Kd.V_alloc | apply Kd.V_drewN | apply Kd.V_drew)); exact (Kd.V_mono (Kd.V_far (p := ⟨gb218, 3, none⟩) (Kd.V_far (p := ⟨gb218, 2, none⟩) (Kd.V_far (p := ⟨gb218, 1, none⟩) (Kd.V_far (p := ⟨gb218, 0, none⟩) (Kd.V_mono HO_195003.out (fun k_ hk => (⟨hk, hk.2⟩ : _ ∧ k_ ≠ gb218))) (fun _ hk => hk.2) (.bool t207)) (fun _ hk => hk.2) (.slice Ao35 t208.length co35)) (fun _ hk => hk.2) (.slice Ao36 t211.length co36)) (fun _ hk => hk.2) (.slice Ao37 t214.length co37)) (fun _ h_ => h_.1)))); (case side12 => exact (Kd.V_reads' HO_195003.out).2.1); rintro e w39 ⟨rfl, hb⟩; have n0_ := Aside0.mk (Kd.V_below (by (with_reducible repeat (first | apply Kd.V_alloc | apply Kd.V_drewN | apply Kd.V_drew)); exact (Kd.V_mono (Kd.V_far (p := ⟨gb218, 3, none⟩) (Kd.V_far (p := ⟨gb218, 2, none⟩) (Kd.V_far (p := ⟨gb218, 1, none⟩) (Kd.V_far (p := ⟨gb218, 0, none⟩) (Kd.V_mono HO_195001.out (fun k_ hk => (⟨hk, hk.2⟩ : _ ∧ k_ ≠ gb218))) (fun _ hk => hk.2) (.bool t207)) (fun _ hk => hk.2) (.slice Ao35 t208.length co35)) (fun _ hk => hk.2) (.slice Ao36 t211.length co36)) (fun _ hk => hk.2) (.slice Ao37 t214.length co37)) (fun _ h_ => h_.1))) hb); have n1_ := Aside0.mk (Kd.V_below (by (with_reducible repeat (first | apply Kd.V_alloc | apply Kd.V_drewN | apply Kd.V_drew)); exact (Kd.V_mono (Kd.V_far (p := ⟨gb218, 3, none⟩) (Kd.V_far (p := ⟨gb218, 2, none⟩) (Kd.V_far (p := ⟨gb218, 1, none⟩) (Kd.V_far (p := ⟨gb218, 0, none⟩) (Kd.V_mono HO_195002.out (fun k_ hk => (⟨hk, hk.2⟩ : _ ∧ k_ ≠ gb218))) (fun _ hk => hk.2) (.bool t207)) (fun _ hk => hk.2) (.slice Ao35 t208.length co35)) (fun _ hk => hk.2) (.slice Ao36 t211.length co36)) (fun _ hk => hk.2) (.slice Ao37 t214.length co37)) (fun _ h_ => h_.1))) hb); have n2_ := Aside0.mk (Kd.V_below (by (with_reducible repeat (first | apply Kd.V_alloc | apply Kd.V_drewN | apply Kd.V_drew)); exact (Kd.V_mono (Kd.V_far (p := ⟨gb218, 3, none⟩) (Kd.V_far (p := ⟨gb218, 2, none⟩) (Kd.V_far (p := ⟨gb218, 1, none⟩) (Kd.V_far (p := ⟨gb218, 0, none⟩) (Kd.V_mono HO_195003.out (fun k_ hk => (⟨hk, hk.2⟩ : _ ∧ k_ ≠ gb218))) (fun _ hk => hk.2) (.bool t207)) (fun _ hk => hk.2) (.slice Ao35 t208.length co35)) (fun _ hk => hk.2) (.slice Ao36 t211.length co36)) (fun _ hk => hk.2) (.slice Ao37 t214.length co37)) (fun _ h_ => h_.1))) hb); have n3_ := Aside0.mk (Kd.R_below (by (with_reducible repeat (first | apply Kd.R_alloc | apply Kd.R_drewN | apply Kd.R_drew)); exact (Kd.R_mono (Kd.R_far (p := ⟨gb218, 3, none⟩) (Kd.R_far (p := ⟨gb218, 2, none⟩) (Kd.R_far (p := ⟨gb218, 1, none⟩) (Kd.R_far (p := ⟨gb218, 0, none⟩) (Kd.R_types HO210.out BK218.out (by decide)) (fun _ hk => hk.2) (.bool t207)) (fun _ hk => hk.2) (.slice Ao35 t208.length co35)) (fun _ hk => hk.2) (.slice Ao36 t211.length co36)) (fun _ hk => hk.2) (.slice Ao37 t214.length co37)) (fun _ h_ => h_.1))) hb); have n4_ := Aside0.mk (Kd.R_below (by (with_reducible repeat (first | apply Kd.R_alloc | apply Kd.R_drewN | apply Kd.R_drew)); exact (Kd.R_mono (Kd.R_far (p := ⟨gb218, 3, none⟩) (Kd.R_far (p := ⟨gb218, 2, none⟩) (Kd.R_far (p := ⟨gb218, 1, none⟩) (Kd.R_far (p := ⟨gb218, 0, none⟩) (Kd.R_types HO213.out BK218.out (by decide)) (fun _ hk => hk.2) (.bool t207)) (fun _ hk => hk.2) (.slice Ao35 t208.length co35)) (fun _ hk => hk.2) (.slice Ao36 t211.length co36)) (fun _ hk => hk.2) (.slice Ao37 t214.length co37)) (fun _ h_ => h_.1))) hb); have n5_ := Aside0.mk (Kd.R_below (by (with_reducible repeat (first | apply Kd.R_alloc | apply Kd.R_drewN | apply Kd.R_drew)); exact (Kd.R_mono (Kd.R_far (p := ⟨gb218, 3, none⟩) (Kd.R_far (p := ⟨gb218, 2, none⟩) (Kd.R_far (p := ⟨gb218, 1, none⟩) (Kd.R_far (p := ⟨gb218, 0, none⟩) (Kd.R_types HO216.out BK218.out (by decide)) (fun _ hk => hk.2) (.bool t207)) (fun _ hk => hk.2) (.slice Ao35 t208.length co35)) (fun _ hk => hk.2) (.slice Ao36 t211.length co36)) (fun _ hk => hk.2) (.slice Ao37 t214.length co37)) (fun _ h_ => h_.1))) hb); have n6_ := Aside0.mk (blk_below (g := gb194) (o := .cells #[.bool t195, .slice Ao14 t196.length co14, .slice Ao16 t199.length co16, .slice Ao18 t202.length co18] 25 (0, 0)) (by (with_reducible repeat (first | refine blk_drewN ?_ _ | refine blk_drew ?_ | refine blk_alloc ?_ _)); refine blk_far ?_ NB194_218.out _; (with_reducible repeat (first | refine blk_drewN ?_ _ | refine blk_drew ?_ | refine blk_alloc ?_ _)); refine blk_far ?_ NB194_218.out _; (with_reducible repeat (first | refine blk_drewN ?_ _ | refine blk_drew ?_ | refine blk_alloc ?_ _)); refine blk_far ?_ NB194_218.out _; (with_reducible repeat (first | refine blk_drewN ?_ _ | refine blk_drew ?_ | refine blk_alloc ?_ _)); refine blk_far ?_ NB194_218.out _; (with_reducible repeat (first | refine blk_drewN ?_ _ | refine blk_drew ?_ | refine blk_alloc ?_ _)); exact BK194.out) hb); have n7_ := Aside0.mk (blk_below (g := gb218) (o := .cells #[.bool t207, .slice Ao35 t208.length co35, .slice Ao36 t211.length co36, .slice Ao37 t214.length co37] 25 (0, 0)) (by (with_reducible repeat (first | refine blk_drewN ?_ _ | refine blk_drew ?_ | refine blk_alloc ?_ _)); refine blk_put (cs := #[.bool t207, .slice Ao35 t208.length co35, .slice Ao36 t211.length co36, .slice none 0 0]) ?_ 3 _ rfl; (with_reducible repeat (first | refine blk_drewN ?_ _ | refine blk_drew ?_ | refine blk_alloc ?_ _)); refine blk_put (cs := #[.bool t207, .slice Ao35 t208.length co35, .slice none 0 0, .slice none 0 0]) ?_ 2 _ rfl; (with_reducible repeat (first | refine blk_drewN ?_ _ | refine blk_drew ?_ | refine blk_alloc ?_ _)); refine blk_put (cs := #[.bool t207, .slice none 0 0, .slice none 0 0, .slice none 0 0]) ?_ 1 _ rfl; (with_reducible repeat (first | refine blk_drewN ?_ _ | refine blk_drew ?_ | refine blk_alloc ?_ _)); refine blk_put (cs := #[.bool false, .slice none 0 0, .slice none 0 0, .slice none 0 0]) ?_ 0 _ rfl; (with_reducible repeat (first | refine blk_drewN ?_ _ | refine blk_drew ?_ | refine blk_alloc ?_ _)); exact BK218.out) hb); have n8_ := Aside0.mk (below_step (by repeat (first | (with_reducible first | exact HB.out | apply below_alloc | apply pw_below_drewN | apply below_drew1 | refine below_set ?_ GE194.out | refine below_set ?_ GE218.out) | exact HB.out)) hb); clear HO_195001; clear HO_195002; clear HO_195003; clear HO210; clear HO213; clear HO216; clear BK194; clear BK218; clear HB; have HO_195001 := n0_; have HO_195002 := n1_; have HO_195003 := n2_; have HO210 := n3_; have HO213 := n4_; have HO216 := n5_; have BK194 := n6_; have BK218 := n7_; have HB := n8_; clear n0_ n1_ n2_ n3_ n4_ n5_ n6_ n7_ n8_; (try clear hb); (try clear hb2); (try clear hk); (try clear hi)))
                    go_meet
                    case rel => exact ⟨_, H', ⟨by have := HJ22.out; first | omega | exact Nat.le_refl _⟩, ⟨by (with_reducible repeat (first | apply Kd.V_alloc | apply Kd.V_drewN | apply Kd.V_drew)); exact Kd.V_mono HO_195001.out (fun _ hk => hk.1.1.1.1)⟩, ⟨by (with_reducible repeat (first | apply Kd.V_alloc | apply Kd.V_drewN | apply Kd.V_drew)); exact Kd.V_mono HO_195002.out (fun _ hk => hk.1.1.1.1)⟩, ⟨by (with_reducible repeat (first | apply Kd.V_alloc | apply Kd.V_drewN | apply Kd.V_drew)); exact Kd.V_mono HO_195003.out (fun _ hk => hk.1.1.1.1)⟩, ⟨by (with_reducible repeat (first | refine blk_drewN ?_ _ | refine blk_drew ?_ | refine blk_alloc ?_ _)); exact BK194.out⟩, ⟨by repeat (first | (with_reducible first | exact HB.out | apply below_alloc | apply pw_below_drewN | apply below_drew1 | refine below_set ?_ GE194.out | refine below_set ?_ GE218.out) | exact HB.out)⟩⟩
                · replace c29 := Bool.eq_false_iff.mpr c29
                  subst c29
                  have H1 : (none) = some r := by rw [if_neg (show ¬ (false = true) by decide)] at H; exact H
                  clear H
                  have H := H1
                  clear H1
                  exact absurd H (by simp)
              · rw [if_neg c27] at H
                exact absurd H (by simp)
        · rw [if_neg c22] at H
          have c22b0 : (t206 == 0) = false := beq_eq_false_iff_ne.mpr c22
          have c22b1 : (t206 != 0) = true := bne_iff_ne.mpr c22
          (first | rw [c22b0] | (simp only [i64_w, i32_w]; rw [c22b0]) | skip)
          have H' := Aside0.mk H
          clear H
          go_wp2
          go_meet
          case rel => exact ⟨_, H', ⟨by first | omega | exact Nat.le_refl _⟩, ⟨by (with_reducible repeat (first | apply Kd.V_alloc | apply Kd.V_drewN | apply Kd.V_drew)); exact HO198.out⟩, ⟨by (with_reducible repeat (first | apply Kd.V_alloc | apply Kd.V_drewN | apply Kd.V_drew)); exact HO201.out⟩, ⟨by (with_reducible repeat (first | apply Kd.V_alloc | apply Kd.V_drewN | apply Kd.V_drew)); exact HO204.out⟩, ⟨by (with_reducible repeat (first | refine blk_drewN ?_ _ | refine blk_drew ?_ | refine blk_alloc ?_ _)); exact BK194.out⟩, ⟨by repeat (first | (with_reducible first | exact HB.out | apply below_alloc | apply pw_below_drewN | apply below_drew1 | refine below_set ?_ GE194.out) | exact HB.out)⟩⟩
      case rest =>
        clear HC9
        try clear c1
        try clear c2
        try clear p2
        try clear c3
        try clear c6
        try clear c6b0
        try clear c6b1
        try clear c7
        try clear c7b0
        try clear c7b1
        try clear c9
        try clear c10
        try clear c11
        try clear c22
        try clear c22b0
        try clear c22b1
        try clear c25
        try clear c26
        try clear c27
        try clear c27b0
        try clear c27b1
        try clear c29
        try clear c30
        try clear c30b0
        try clear c30b1
        try clear c33
        try clear hcz20_0
        try clear hcz20_1
        try clear hcz20_2
        try clear hcz20_3
        try clear hcz24_0
        try clear hcz24_1
        try clear hcz24_2
        try clear hcz24_3
        try clear hcz34_0
        try clear hcz34_1
        try clear hcz34_2
        try clear hcz34_3
        try clear hcz38_0
        try clear hcz38_1
        try clear hcz38_2
        try clear hcz38_3
        try clear hfz20_0
        try clear hfz20_1
        try clear hfz20_2
        try clear hfz20_3
        try clear hfz24_0
        try clear hfz24_1
        try clear hfz24_2
        try clear hfz24_3
        try clear hfz34_0
        try clear hfz34_1
        try clear hfz34_2
        try clear hfz34_3
        try clear hfz38_0
        try clear hfz38_1
        try clear hfz38_2
        try clear hfz38_3
        try clear p2
        obtain ⟨kq, HA, HJ8, HO_195001, HO_195002, HO_195003, BK194, HB⟩ := hcut
        cases kq with
        | zero => exact absurd HA.out (by simp [penelopelaw07_NodeBack.j1])
        | succ kj8 =>
          have H := HA.out
          clear HA
          simp only [penelopelaw07_NodeBack.j1] at H
          replace H := Option.bind_eq_some_iff.mp H
          obtain ⟨⟨t220, t221, t224, t227, t230⟩, A400, H⟩ := H
          replace H : (if t230 = 0 then ((node_Put.f kj8 t220 t221 t224 t227).bind fun bt232 => ((penelopelaw07_alive.f kj8).bind fun t234 => (if t234 = true then (if bt232.2 = 0 then (if bt232.1.toList = (a2.extract 0 ((ji5) : Int).toNat).toList then ((node_Right.f kj8 t220 t221 t224 t227 true).bind fun t235 => (some t235)) else (none)) else (none)) else (none)))) else ((penelopelaw07_alive.f kj8).bind fun t236 => (if t236 = true then ((peneloperef07_Like.f kj8 t220 t221 t224 t227 false ([] : List ByteArray) ([] : List ByteArray) ([] : List Int)).bind fun t237 => (some t237)) else (none)))) = some r := H
          have A40 := Aside0.mk A400
          clear A400
          by_cases c41 : t230 = 0
          · rw [if_pos c41] at H
            have c41b0 : (t230 == 0) = true := beq_iff_eq.mpr c41
            have c41b1 : (t230 != 0) = false := bne_eq_false_iff_eq.mpr c41
            clear c41
            replace H := Option.bind_eq_some_iff.mp H
            obtain ⟨⟨t232, t233⟩, A420, H⟩ := H
            replace H : ((penelopelaw07_alive.f kj8).bind fun t234 => (if t234 = true then (if t233 = 0 then (if t232.toList = (a2.extract 0 ((ji5) : Int).toNat).toList then ((node_Right.f kj8 t220 t221 t224 t227 true).bind fun t235 => (some t235)) else (none)) else (none)) else (none))) = some r := H
            have A42 := Aside0.mk A420
            clear A420
            replace H := Option.bind_eq_some_iff.mp H
            obtain ⟨t234, A430, H⟩ := H
            replace H : (if t234 = true then (if t233 = 0 then (if t232.toList = (a2.extract 0 ((ji5) : Int).toNat).toList then ((node_Right.f kj8 t220 t221 t224 t227 true).bind fun t235 => (some t235)) else (none)) else (none)) else (none)) = some r := H
            have A43 := Aside0.mk A430
            clear A430
            by_cases c44 : t234 = true
            · subst c44
              have H1 : (if t233 = 0 then (if t232.toList = (a2.extract 0 ((ji5) : Int).toNat).toList then ((node_Right.f kj8 t220 t221 t224 t227 true).bind fun t235 => (some t235)) else (none)) else (none)) = some r := by rw [if_pos rfl] at H; exact H
              clear H
              have H := H1
              clear H1
              by_cases c45 : t233 = 0
              · rw [if_pos c45] at H
                have c45b0 : (t233 == 0) = true := beq_iff_eq.mpr c45
                have c45b1 : (t233 != 0) = false := bne_eq_false_iff_eq.mpr c45
                clear c45
                by_cases c46 : t232.toList = (a2.extract 0 ((ji5) : Int).toNat).toList
                · rw [if_pos c46] at H
                  have c46b0 : (t232.toList == (a2.extract 0 ((ji5) : Int).toNat).toList) = true := beq_iff_eq.mpr c46
                  have c46b1 : (t232.toList != (a2.extract 0 ((ji5) : Int).toNat).toList) = false := bne_eq_false_iff_eq.mpr c46
                  clear c46
                  replace H := Option.bind_eq_some_iff.mp H
                  obtain ⟨t235, A470, H⟩ := H
                  replace H : (some t235) = some r := H
                  have A47 := Aside0.mk A470
                  clear A470
                  obtain rfl := Option.some.inj H
                  go_wp2_with (first | ((with_reducible refine gate_callee (f := 26) rfl ?_); refine goesL_ (some 54) rfl rfl Try.func26 (by kernel_rfl) rfl #[.int .i64 a1, .string (a2.extract 0 ((ji5) : Int).toNat)] rfl (by (try simp only [List.map_toArray, List.map_cons, List.map_nil]); first | done | (simp only [hji5]; rfl) | rfl | (simp only [List.length_drop, List.length_take]; rfl)) ?_; (with_reducible refine (node_Get.calls kj8 a1 (a2.extract 0 ((ji5) : Int).toNat) t220 t221 t224 t227 t230 _ A40.out).mono ?_); rintro e w48 ⟨v222, v225, v228, rfl, ho0, ho1, ho2, hb⟩; refine ⟨_, rfl, ?_⟩; have n0_ := Aside0.mk (Kd.V_mono (Kd.V_told (Kd.V_told (Kd.V_told (Kd.V_old (by (with_reducible repeat (first | apply Kd.V_alloc | apply Kd.V_drewN | apply Kd.V_drew)); exact HO_195001.out) hb) (Kd.R_base ho0)) (Kd.R_base ho1)) (Kd.R_base ho2)) (fun _ h_ => h_.1)); have n1_ := Aside0.mk (Kd.V_mono (Kd.V_told (Kd.V_told (Kd.V_told (Kd.V_old (by (with_reducible repeat (first | apply Kd.V_alloc | apply Kd.V_drewN | apply Kd.V_drew)); exact HO_195002.out) hb) (Kd.R_base ho0)) (Kd.R_base ho1)) (Kd.R_base ho2)) (fun _ h_ => h_.1)); have n2_ := Aside0.mk (Kd.V_mono (Kd.V_told (Kd.V_told (Kd.V_told (Kd.V_old (by (with_reducible repeat (first | apply Kd.V_alloc | apply Kd.V_drewN | apply Kd.V_drew)); exact HO_195003.out) hb) (Kd.R_base ho0)) (Kd.R_base ho1)) (Kd.R_base ho2)) (fun _ h_ => h_.1)); have n3_ := Aside0.mk (Kd.R_lower ho0 (below_size (by repeat (first | (with_reducible first | exact HB.out | apply below_alloc | apply pw_below_drewN | apply below_drew1 | refine below_set ?_ GE194.out) | exact HB.out)))); have n4_ := Aside0.mk (Kd.R_lower ho1 (below_size (by repeat (first | (with_reducible first | exact HB.out | apply below_alloc | apply pw_below_drewN | apply below_drew1 | refine below_set ?_ GE194.out) | exact HB.out)))); have n5_ := Aside0.mk (Kd.R_lower ho2 (below_size (by repeat (first | (with_reducible first | exact HB.out | apply below_alloc | apply pw_below_drewN | apply below_drew1 | refine below_set ?_ GE194.out) | exact HB.out)))); have n6_ := Aside0.mk (blk_below (g := gb194) (o := .cells #[.bool t195, .slice Ao14 t196.length co14, .slice Ao16 t199.length co16, .slice Ao18 t202.length co18] 25 (0, 0)) (by (with_reducible repeat (first | refine blk_drewN ?_ _ | refine blk_drew ?_ | refine blk_alloc ?_ _)); exact BK194.out) hb); have n7_ := Aside0.mk (below_step (by repeat (first | (with_reducible first | exact HB.out | apply below_alloc | apply pw_below_drewN | apply below_drew1 | refine below_set ?_ GE194.out) | exact HB.out)) hb); clear HO_195001; clear HO_195002; clear HO_195003; clear BK194; clear HB; have HO_195001 := n0_; have HO_195002 := n1_; have HO_195003 := n2_; have HO223 := n3_; have HO226 := n4_; have HO229 := n5_; have BK194 := n6_; have HB := n7_; clear n0_ n1_ n2_ n3_ n4_ n5_ n6_ n7_; (try clear hb); (try clear hb2); (try clear hk); (try clear hi); (try clear ho0); (try clear ho1); (try clear ho2)) | ((with_reducible refine gate_dst (N := 12) rfl ?_); (try (refine gate_guard (by rfl) ?_; dsimp only)); refine box_event ?hg (N := 12) ?hd (cs := #[.bool false, .slice none 0 0, .slice none 0 0, .slice none 0 0]) (t := 25) ?hr ?_; (case hd => rfl); (case hg => rfl); (case hr => first | (go_simp; done) | (go_simp; rfl)); intro gb231 hg w49 hbox hb; have n0_ := Aside0.mk (Kd.V_below (Kd.V_elderB (by (with_reducible repeat (first | apply Kd.V_alloc | apply Kd.V_drewN | apply Kd.V_drew)); exact HO_195001.out) gb231 (Nat.le_of_eq hg.symm)) hb); have n1_ := Aside0.mk (Kd.V_below (Kd.V_elderB (by (with_reducible repeat (first | apply Kd.V_alloc | apply Kd.V_drewN | apply Kd.V_drew)); exact HO_195002.out) gb231 (Nat.le_of_eq hg.symm)) hb); have n2_ := Aside0.mk (Kd.V_below (Kd.V_elderB (by (with_reducible repeat (first | apply Kd.V_alloc | apply Kd.V_drewN | apply Kd.V_drew)); exact HO_195003.out) gb231 (Nat.le_of_eq hg.symm)) hb); have n3_ := Aside0.mk (Kd.R_below (by (with_reducible repeat (first | apply Kd.R_alloc | apply Kd.R_drewN | apply Kd.R_drew)); exact HO223.out) hb); have n4_ := Aside0.mk (Kd.R_below (by (with_reducible repeat (first | apply Kd.R_alloc | apply Kd.R_drewN | apply Kd.R_drew)); exact HO226.out) hb); have n5_ := Aside0.mk (Kd.R_below (by (with_reducible repeat (first | apply Kd.R_alloc | apply Kd.R_drewN | apply Kd.R_drew)); exact HO229.out) hb); have n6_ := Aside0.mk (blk_below (g := gb194) (o := .cells #[.bool t195, .slice Ao14 t196.length co14, .slice Ao16 t199.length co16, .slice Ao18 t202.length co18] 25 (0, 0)) (by (with_reducible repeat (first | refine blk_drewN ?_ _ | refine blk_drew ?_ | refine blk_alloc ?_ _)); exact BK194.out) hb); have n7_ := Aside0.mk (below_step (by repeat (first | (with_reducible first | exact HB.out | apply below_alloc | apply pw_below_drewN | apply below_drew1 | refine below_set ?_ GE194.out) | exact HB.out)) hb); have n8_ := Aside0.mk (hbox); have n9_ := Aside0.mk ((by rw [hg]; exact (below_size (by repeat (first | (with_reducible first | exact HB.out | apply below_alloc | apply pw_below_drewN | apply below_drew1 | refine below_set ?_ GE194.out) | exact HB.out))) : w.heap.size ≤ gb231)); have n10_ := Aside0.mk ((by rw [hg]; exact (below_size (by repeat (first | (with_reducible first | exact HB.out | apply below_alloc | apply pw_below_drewN | apply below_drew1 | refine below_set ?_ GE194.out) | exact HB.out))) : w.heap.size ≤ gb231)); have n11_ := Aside0.mk ((by rw [hg]; exact Nat.ne_of_lt (blk_lt (g := gb194) (o := .cells #[.bool t195, .slice Ao14 t196.length co14, .slice Ao16 t199.length co16, .slice Ao18 t202.length co18] 25 (0, 0)) (by (with_reducible repeat (first | refine blk_drewN ?_ _ | refine blk_drew ?_ | refine blk_alloc ?_ _)); exact BK194.out)) : gb194 ≠ gb231)); have n12_ := Aside0.mk ((by rw [hg]; exact Nat.ne_of_gt (blk_lt (g := gb194) (o := .cells #[.bool t195, .slice Ao14 t196.length co14, .slice Ao16 t199.length co16, .slice Ao18 t202.length co18] 25 (0, 0)) (by (with_reducible repeat (first | refine blk_drewN ?_ _ | refine blk_drew ?_ | refine blk_alloc ?_ _)); exact BK194.out)) : gb231 ≠ gb194)); clear HO_195001; clear HO_195002; clear HO_195003; clear HO223; clear HO226; clear HO229; clear BK194; clear HB; have HO_195001 := n0_; have HO_195002 := n1_; have HO_195003 := n2_; have HO223 := n3_; have HO226 := n4_; have HO229 := n5_; have BK194 := n6_; have HB := n7_; have BK231 := n8_; have GW231 := n9_; have GE231 := n10_; have NB194_231 := n11_; have NB231_194 := n12_; clear n0_ n1_ n2_ n3_ n4_ n5_ n6_ n7_ n8_ n9_ n10_ n11_ n12_; clear hb hbox hg; have hnb50 := NB231_194.out; have hnc50 := NB194_231.out; have hcz51_0 : w49.cell? ⟨gb231, 0, none⟩ = some (.bool false) := (blk_cell BK231.out 0).trans rfl; have hcz51_1 : w49.cell? ⟨gb231, 1, none⟩ = some (.slice none 0 0) := (blk_cell BK231.out 1).trans rfl; have hcz51_2 : w49.cell? ⟨gb231, 2, none⟩ = some (.slice none 0 0) := (blk_cell BK231.out 2).trans rfl; have hcz51_3 : w49.cell? ⟨gb231, 3, none⟩ = some (.slice none 0 0) := (blk_cell BK231.out 3).trans rfl; have hfz51_0 := blk_frozen BK231.out 0; have hfz51_1 := blk_frozen BK231.out 1; have hfz51_2 := blk_frozen BK231.out 2; have hfz51_3 := blk_frozen BK231.out 3; obtain ⟨Ao52, co52, eo52⟩ := Kd.R_slice HO223.out; subst eo52; obtain ⟨Ao53, co53, eo53⟩ := Kd.R_slice HO226.out; subst eo53; obtain ⟨Ao54, co54, eo54⟩ := Kd.R_slice HO229.out; subst eo54) | ((with_reducible refine gate_callee (f := 11) rfl ?_); refine goesL_ (some 67) rfl rfl Try.func11 (by kernel_rfl) rfl #[.agg #[.bool t220, .slice Ao52 t221.length co52, .slice Ao53 t224.length co53, .slice Ao54 t227.length co54]] rfl (by (try simp only [List.map_toArray, List.map_cons, List.map_nil]); first | done | rfl | (simp only [List.length_drop, List.length_take]; rfl)) ?_; (with_reducible refine (node_Put.calls kj8 t220 _ _ t221 _ _ t224 _ _ t227 t232 t233 _ ?side1 ?side2 ?side3 ?side4 ?side5 ?side6 A42.out).mono ?_); (case side1 => refine (Kd.R_reads' (e := 9) (base := w.heap.size) (ok := fun k_ => some k_ ≠ (.slice Ao53 t224.length co53 : Value).ownBlock) (n := t221.length) (c := co52) ?_).2.2; exact (by (with_reducible repeat (first | apply Kd.R_alloc | apply Kd.R_drewN | apply Kd.R_drew)); exact (Kd.R_mono (Kd.R_far (p := ⟨gb231, 3, none⟩) (Kd.R_far (p := ⟨gb231, 2, none⟩) (Kd.R_far (p := ⟨gb231, 1, none⟩) (Kd.R_far (p := ⟨gb231, 0, none⟩) (Kd.R_types HO223.out BK231.out (by decide)) (fun _ hk => hk.2) (.bool t220)) (fun _ hk => hk.2) (.slice Ao52 t221.length co52)) (fun _ hk => hk.2) (.slice Ao53 t224.length co53)) (fun _ hk => hk.2) (.slice Ao54 t227.length co54)) (fun _ h_ => h_.1)))); (case side2 => exact (Kd.R_reads' HO223.out).2.1); (case side3 => refine (Kd.R_reads' (e := 9) (base := w.heap.size) (ok := fun k_ => some k_ ≠ (.slice Ao52 t221.length co52 : Value).ownBlock) (n := t224.length) (c := co53) ?_).2.2; exact (by (with_reducible repeat (first | apply Kd.R_alloc | apply Kd.R_drewN | apply Kd.R_drew)); exact (Kd.R_mono (Kd.R_far (p := ⟨gb231, 3, none⟩) (Kd.R_far (p := ⟨gb231, 2, none⟩) (Kd.R_far (p := ⟨gb231, 1, none⟩) (Kd.R_far (p := ⟨gb231, 0, none⟩) (Kd.R_types HO226.out BK231.out (by decide)) (fun _ hk => hk.2) (.bool t220)) (fun _ hk => hk.2) (.slice Ao52 t221.length co52)) (fun _ hk => hk.2) (.slice Ao53 t224.length co53)) (fun _ hk => hk.2) (.slice Ao54 t227.length co54)) (fun _ h_ => h_.1)))); (case side4 => exact (Kd.R_reads' HO226.out).2.1); (case side5 => refine (Kd.R_reads' (e := 3) (base := w.heap.size) (ok := fun k_ => True) (n := t227.length) (c := co54) ?_).2.2; exact (by (with_reducible repeat (first | apply Kd.R_alloc | apply Kd.R_drewN | apply Kd.R_drew)); exact (Kd.R_mono (Kd.R_far (p := ⟨gb231, 3, none⟩) (Kd.R_far (p := ⟨gb231, 2, none⟩) (Kd.R_far (p := ⟨gb231, 1, none⟩) (Kd.R_far (p := ⟨gb231, 0, none⟩) (Kd.R_types HO229.out BK231.out (by decide)) (fun _ hk => hk.2) (.bool t220)) (fun _ hk => hk.2) (.slice Ao52 t221.length co52)) (fun _ hk => hk.2) (.slice Ao53 t224.length co53)) (fun _ hk => hk.2) (.slice Ao54 t227.length co54)) (fun _ h_ => h_.1)))); (case side6 => exact (Kd.R_reads' HO229.out).2.1); rintro e w55 ⟨rfl, hb⟩; refine ⟨_, rfl, ?_⟩; have n0_ := Aside0.mk (Kd.V_below (by (with_reducible repeat (first | apply Kd.V_alloc | apply Kd.V_drewN | apply Kd.V_drew)); exact (Kd.V_mono (Kd.V_far (p := ⟨gb231, 3, none⟩) (Kd.V_far (p := ⟨gb231, 2, none⟩) (Kd.V_far (p := ⟨gb231, 1, none⟩) (Kd.V_far (p := ⟨gb231, 0, none⟩) (Kd.V_mono HO_195001.out (fun k_ hk => (⟨hk, hk.2⟩ : _ ∧ k_ ≠ gb231))) (fun _ hk => hk.2) (.bool t220)) (fun _ hk => hk.2) (.slice Ao52 t221.length co52)) (fun _ hk => hk.2) (.slice Ao53 t224.length co53)) (fun _ hk => hk.2) (.slice Ao54 t227.length co54)) (fun _ h_ => h_.1))) hb); have n1_ := Aside0.mk (Kd.V_below (by (with_reducible repeat (first | apply Kd.V_alloc | apply Kd.V_drewN | apply Kd.V_drew)); exact (Kd.V_mono (Kd.V_far (p := ⟨gb231, 3, none⟩) (Kd.V_far (p := ⟨gb231, 2, none⟩) (Kd.V_far (p := ⟨gb231, 1, none⟩) (Kd.V_far (p := ⟨gb231, 0, none⟩) (Kd.V_mono HO_195002.out (fun k_ hk => (⟨hk, hk.2⟩ : _ ∧ k_ ≠ gb231))) (fun _ hk => hk.2) (.bool t220)) (fun _ hk => hk.2) (.slice Ao52 t221.length co52)) (fun _ hk => hk.2) (.slice Ao53 t224.length co53)) (fun _ hk => hk.2) (.slice Ao54 t227.length co54)) (fun _ h_ => h_.1))) hb); have n2_ := Aside0.mk (Kd.V_below (by (with_reducible repeat (first | apply Kd.V_alloc | apply Kd.V_drewN | apply Kd.V_drew)); exact (Kd.V_mono (Kd.V_far (p := ⟨gb231, 3, none⟩) (Kd.V_far (p := ⟨gb231, 2, none⟩) (Kd.V_far (p := ⟨gb231, 1, none⟩) (Kd.V_far (p := ⟨gb231, 0, none⟩) (Kd.V_mono HO_195003.out (fun k_ hk => (⟨hk, hk.2⟩ : _ ∧ k_ ≠ gb231))) (fun _ hk => hk.2) (.bool t220)) (fun _ hk => hk.2) (.slice Ao52 t221.length co52)) (fun _ hk => hk.2) (.slice Ao53 t224.length co53)) (fun _ hk => hk.2) (.slice Ao54 t227.length co54)) (fun _ h_ => h_.1))) hb); have n3_ := Aside0.mk (Kd.R_below (by (with_reducible repeat (first | apply Kd.R_alloc | apply Kd.R_drewN | apply Kd.R_drew)); exact (Kd.R_mono (Kd.R_far (p := ⟨gb231, 3, none⟩) (Kd.R_far (p := ⟨gb231, 2, none⟩) (Kd.R_far (p := ⟨gb231, 1, none⟩) (Kd.R_far (p := ⟨gb231, 0, none⟩) (Kd.R_types HO223.out BK231.out (by decide)) (fun _ hk => hk.2) (.bool t220)) (fun _ hk => hk.2) (.slice Ao52 t221.length co52)) (fun _ hk => hk.2) (.slice Ao53 t224.length co53)) (fun _ hk => hk.2) (.slice Ao54 t227.length co54)) (fun _ h_ => h_.1))) hb); have n4_ := Aside0.mk (Kd.R_below (by (with_reducible repeat (first | apply Kd.R_alloc | apply Kd.R_drewN | apply Kd.R_drew)); exact (Kd.R_mono (Kd.R_far (p := ⟨gb231, 3, none⟩) (Kd.R_far (p := ⟨gb231, 2, none⟩) (Kd.R_far (p := ⟨gb231, 1, none⟩) (Kd.R_far (p := ⟨gb231, 0, none⟩) (Kd.R_types HO226.out BK231.out (by decide)) (fun _ hk => hk.2) (.bool t220)) (fun _ hk => hk.2) (.slice Ao52 t221.length co52)) (fun _ hk => hk.2) (.slice Ao53 t224.length co53)) (fun _ hk => hk.2) (.slice Ao54 t227.length co54)) (fun _ h_ => h_.1))) hb); have n5_ := Aside0.mk (Kd.R_below (by (with_reducible repeat (first | apply Kd.R_alloc | apply Kd.R_drewN | apply Kd.R_drew)); exact (Kd.R_mono (Kd.R_far (p := ⟨gb231, 3, none⟩) (Kd.R_far (p := ⟨gb231, 2, none⟩) (Kd.R_far (p := ⟨gb231, 1, none⟩) (Kd.R_far (p := ⟨gb231, 0, none⟩) (Kd.R_types HO229.out BK231.out (by decide)) (fun _ hk => hk.2) (.bool t220)) (fun _ hk => hk.2) (.slice Ao52 t221.length co52)) (fun _ hk => hk.2) (.slice Ao53 t224.length co53)) (fun _ hk => hk.2) (.slice Ao54 t227.length co54)) (fun _ h_ => h_.1))) hb); have n6_ := Aside0.mk (blk_below (g := gb194) (o := .cells #[.bool t195, .slice Ao14 t196.length co14, .slice Ao16 t199.length co16, .slice Ao18 t202.length co18] 25 (0, 0)) (by (with_reducible repeat (first | refine blk_drewN ?_ _ | refine blk_drew ?_ | refine blk_alloc ?_ _)); refine blk_far ?_ NB194_231.out _; (with_reducible repeat (first | refine blk_drewN ?_ _ | refine blk_drew ?_ | refine blk_alloc ?_ _)); refine blk_far ?_ NB194_231.out _; (with_reducible repeat (first | refine blk_drewN ?_ _ | refine blk_drew ?_ | refine blk_alloc ?_ _)); refine blk_far ?_ NB194_231.out _; (with_reducible repeat (first | refine blk_drewN ?_ _ | refine blk_drew ?_ | refine blk_alloc ?_ _)); refine blk_far ?_ NB194_231.out _; (with_reducible repeat (first | refine blk_drewN ?_ _ | refine blk_drew ?_ | refine blk_alloc ?_ _)); exact BK194.out) hb); have n7_ := Aside0.mk (blk_below (g := gb231) (o := .cells #[.bool t220, .slice Ao52 t221.length co52, .slice Ao53 t224.length co53, .slice Ao54 t227.length co54] 25 (0, 0)) (by (with_reducible repeat (first | refine blk_drewN ?_ _ | refine blk_drew ?_ | refine blk_alloc ?_ _)); refine blk_put (cs := #[.bool t220, .slice Ao52 t221.length co52, .slice Ao53 t224.length co53, .slice none 0 0]) ?_ 3 _ rfl; (with_reducible repeat (first | refine blk_drewN ?_ _ | refine blk_drew ?_ | refine blk_alloc ?_ _)); refine blk_put (cs := #[.bool t220, .slice Ao52 t221.length co52, .slice none 0 0, .slice none 0 0]) ?_ 2 _ rfl; (with_reducible repeat (first | refine blk_drewN ?_ _ | refine blk_drew ?_ | refine blk_alloc ?_ _)); refine blk_put (cs := #[.bool t220, .slice none 0 0, .slice none 0 0, .slice none 0 0]) ?_ 1 _ rfl; (with_reducible repeat (first | refine blk_drewN ?_ _ | refine blk_drew ?_ | refine blk_alloc ?_ _)); refine blk_put (cs := #[.bool false, .slice none 0 0, .slice none 0 0, .slice none 0 0]) ?_ 0 _ rfl; (with_reducible repeat (first | refine blk_drewN ?_ _ | refine blk_drew ?_ | refine blk_alloc ?_ _)); exact BK231.out) hb); have n8_ := Aside0.mk (below_step (by repeat (first | (with_reducible first | exact HB.out | apply below_alloc | apply pw_below_drewN | apply below_drew1 | refine below_set ?_ GE194.out | refine below_set ?_ GE231.out) | exact HB.out)) hb); clear HO_195001; clear HO_195002; clear HO_195003; clear HO223; clear HO226; clear HO229; clear BK194; clear BK231; clear HB; have HO_195001 := n0_; have HO_195002 := n1_; have HO_195003 := n2_; have HO223 := n3_; have HO226 := n4_; have HO229 := n5_; have BK194 := n6_; have BK231 := n7_; have HB := n8_; clear n0_ n1_ n2_ n3_ n4_ n5_ n6_ n7_ n8_; (try clear hb); (try clear hb2); (try clear hk); (try clear hi)) | ((with_reducible refine gate_callee (f := 13) rfl ?_); refine goesL_ (some 70) rfl rfl Try.func13 (by kernel_rfl) rfl #[] rfl (by (try simp only [List.map_toArray, List.map_cons, List.map_nil]); first | done | rfl | (simp only [List.length_drop, List.length_take]; rfl)) ?_; (with_reducible refine (penelopelaw07_alive.calls kj8  true _ A43.out).mono ?_); rintro e w56 ⟨rfl, hb⟩; refine ⟨_, rfl, ?_⟩; have n0_ := Aside0.mk (Kd.V_below (by (with_reducible repeat (first | apply Kd.V_alloc | apply Kd.V_drewN | apply Kd.V_drew)); exact HO_195001.out) hb); have n1_ := Aside0.mk (Kd.V_below (by (with_reducible repeat (first | apply Kd.V_alloc | apply Kd.V_drewN | apply Kd.V_drew)); exact HO_195002.out) hb); have n2_ := Aside0.mk (Kd.V_below (by (with_reducible repeat (first | apply Kd.V_alloc | apply Kd.V_drewN | apply Kd.V_drew)); exact HO_195003.out) hb); have n3_ := Aside0.mk (Kd.R_below (by (with_reducible repeat (first | apply Kd.R_alloc | apply Kd.R_drewN | apply Kd.R_drew)); exact HO223.out) hb); have n4_ := Aside0.mk (Kd.R_below (by (with_reducible repeat (first | apply Kd.R_alloc | apply Kd.R_drewN | apply Kd.R_drew)); exact HO226.out) hb); have n5_ := Aside0.mk (Kd.R_below (by (with_reducible repeat (first | apply Kd.R_alloc | apply Kd.R_drewN | apply Kd.R_drew)); exact HO229.out) hb); have n6_ := Aside0.mk (blk_below (g := gb194) (o := .cells #[.bool t195, .slice Ao14 t196.length co14, .slice Ao16 t199.length co16, .slice Ao18 t202.length co18] 25 (0, 0)) (by (with_reducible repeat (first | refine blk_drewN ?_ _ | refine blk_drew ?_ | refine blk_alloc ?_ _)); exact BK194.out) hb); have n7_ := Aside0.mk (blk_below (g := gb231) (o := .cells #[.bool t220, .slice Ao52 t221.length co52, .slice Ao53 t224.length co53, .slice Ao54 t227.length co54] 25 (0, 0)) (by (with_reducible repeat (first | refine blk_drewN ?_ _ | refine blk_drew ?_ | refine blk_alloc ?_ _)); exact BK231.out) hb); have n8_ := Aside0.mk (below_step (by repeat (first | (with_reducible first | exact HB.out | apply below_alloc | apply pw_below_drewN | apply below_drew1 | refine below_set ?_ GE194.out | refine below_set ?_ GE231.out) | exact HB.out)) hb); clear HO_195001; clear HO_195002; clear HO_195003; clear HO223; clear HO226; clear HO229; clear BK194; clear BK231; clear HB; have HO_195001 := n0_; have HO_195002 := n1_; have HO_195003 := n2_; have HO223 := n3_; have HO226 := n4_; have HO229 := n5_; have BK194 := n6_; have BK231 := n7_; have HB := n8_; clear n0_ n1_ n2_ n3_ n4_ n5_ n6_ n7_ n8_; (try clear hb); (try clear hb2); (try clear hk); (try clear hi); have hcz57_0 : w56.cell? ⟨gb231, 0, none⟩ = some (.bool t220) := (blk_cell BK231.out 0).trans rfl; have hcz57_1 : w56.cell? ⟨gb231, 1, none⟩ = some (.slice Ao52 t221.length co52) := (blk_cell BK231.out 1).trans rfl; have hcz57_2 : w56.cell? ⟨gb231, 2, none⟩ = some (.slice Ao53 t224.length co53) := (blk_cell BK231.out 2).trans rfl; have hcz57_3 : w56.cell? ⟨gb231, 3, none⟩ = some (.slice Ao54 t227.length co54) := (blk_cell BK231.out 3).trans rfl; have hfz57_0 := blk_frozen BK231.out 0; have hfz57_1 := blk_frozen BK231.out 1; have hfz57_2 := blk_frozen BK231.out 2; have hfz57_3 := blk_frozen BK231.out 3) | (go_at_call 14; (with_reducible refine (node_Right.calls kj8 t220 _ _ t221 _ _ t224 _ _ t227 true t235 _ ?side1 ?side2 ?side3 ?side4 ?side5 ?side6 A47.out).mono ?_); (case side1 => repeat (first | exact (Kd.R_reads' HO223.out).2.2 | (with_reducible refine Kd.C_alloc ?_ _) | (with_reducible refine Kd.C_drewN ?_ _) | (with_reducible refine Kd.C_drew ?_))); (case side2 => exact (Kd.R_reads' HO223.out).2.1); (case side3 => repeat (first | exact (Kd.R_reads' HO226.out).2.2 | (with_reducible refine Kd.C_alloc ?_ _) | (with_reducible refine Kd.C_drewN ?_ _) | (with_reducible refine Kd.C_drew ?_))); (case side4 => exact (Kd.R_reads' HO226.out).2.1); (case side5 => repeat (first | exact (Kd.R_reads' HO229.out).2.2 | (with_reducible refine Kd.C_alloc ?_ _) | (with_reducible refine Kd.C_drewN ?_ _) | (with_reducible refine Kd.C_drew ?_))); (case side6 => exact (Kd.R_reads' HO229.out).2.1); rintro e w58 ⟨rfl, hb⟩; have n0_ := Aside0.mk (Kd.V_below (by (with_reducible repeat (first | apply Kd.V_alloc | apply Kd.V_drewN | apply Kd.V_drew)); exact HO_195001.out) hb); have n1_ := Aside0.mk (Kd.V_below (by (with_reducible repeat (first | apply Kd.V_alloc | apply Kd.V_drewN | apply Kd.V_drew)); exact HO_195002.out) hb); have n2_ := Aside0.mk (Kd.V_below (by (with_reducible repeat (first | apply Kd.V_alloc | apply Kd.V_drewN | apply Kd.V_drew)); exact HO_195003.out) hb); have n3_ := Aside0.mk (Kd.R_below (by (with_reducible repeat (first | apply Kd.R_alloc | apply Kd.R_drewN | apply Kd.R_drew)); exact HO223.out) hb); have n4_ := Aside0.mk (Kd.R_below (by (with_reducible repeat (first | apply Kd.R_alloc | apply Kd.R_drewN | apply Kd.R_drew)); exact HO226.out) hb); have n5_ := Aside0.mk (Kd.R_below (by (with_reducible repeat (first | apply Kd.R_alloc | apply Kd.R_drewN | apply Kd.R_drew)); exact HO229.out) hb); have n6_ := Aside0.mk (blk_below (g := gb194) (o := .cells #[.bool t195, .slice Ao14 t196.length co14, .slice Ao16 t199.length co16, .slice Ao18 t202.length co18] 25 (0, 0)) (by (with_reducible repeat (first | refine blk_drewN ?_ _ | refine blk_drew ?_ | refine blk_alloc ?_ _)); exact BK194.out) hb); have n7_ := Aside0.mk (blk_below (g := gb231) (o := .cells #[.bool t220, .slice Ao52 t221.length co52, .slice Ao53 t224.length co53, .slice Ao54 t227.length co54] 25 (0, 0)) (by (with_reducible repeat (first | refine blk_drewN ?_ _ | refine blk_drew ?_ | refine blk_alloc ?_ _)); exact BK231.out) hb); have n8_ := Aside0.mk (below_step (by repeat (first | (with_reducible first | exact HB.out | apply below_alloc | apply pw_below_drewN | apply below_drew1 | refine below_set ?_ GE194.out | refine below_set ?_ GE231.out) | exact HB.out)) hb); clear HO_195001; clear HO_195002; clear HO_195003; clear HO223; clear HO226; clear HO229; clear BK194; clear BK231; clear HB; have HO_195001 := n0_; have HO_195002 := n1_; have HO_195003 := n2_; have HO223 := n3_; have HO226 := n4_; have HO229 := n5_; have BK194 := n6_; have BK231 := n7_; have HB := n8_; clear n0_ n1_ n2_ n3_ n4_ n5_ n6_ n7_ n8_; (try clear hb); (try clear hb2); (try clear hk); (try clear hi)))
                  go_ret
                  exact ⟨by first | rfl | (simp [errW_none, errW_some] <;> rfl) | (simp only [← hji5]; first | rfl | (simp [errW_none, errW_some] <;> rfl)) | (simp [*, errW_none, errW_some] <;> rfl), by repeat (first | (with_reducible first | exact HB.out | apply below_alloc | apply pw_below_drewN | apply below_drew1 | refine below_set ?_ GE194.out | refine below_set ?_ GE231.out) | exact HB.out)⟩
                · rw [if_neg c46] at H
                  exact absurd H (by simp)
              · rw [if_neg c45] at H
                exact absurd H (by simp)
            · replace c44 := Bool.eq_false_iff.mpr c44
              subst c44
              have H1 : (none) = some r := by rw [if_neg (show ¬ (false = true) by decide)] at H; exact H
              clear H
              have H := H1
              clear H1
              exact absurd H (by simp)
          · rw [if_neg c41] at H
            have c41b0 : (t230 == 0) = false := beq_eq_false_iff_ne.mpr c41
            have c41b1 : (t230 != 0) = true := bne_iff_ne.mpr c41
            replace H := Option.bind_eq_some_iff.mp H
            obtain ⟨t236, A590, H⟩ := H
            replace H : (if t236 = true then ((peneloperef07_Like.f kj8 t220 t221 t224 t227 false ([] : List ByteArray) ([] : List ByteArray) ([] : List Int)).bind fun t237 => (some t237)) else (none)) = some r := H
            have A59 := Aside0.mk A590
            clear A590
            by_cases c60 : t236 = true
            · subst c60
              have H1 : ((peneloperef07_Like.f kj8 t220 t221 t224 t227 false ([] : List ByteArray) ([] : List ByteArray) ([] : List Int)).bind fun t237 => (some t237)) = some r := by rw [if_pos rfl] at H; exact H
              clear H
              have H := H1
              clear H1
              replace H := Option.bind_eq_some_iff.mp H
              obtain ⟨t237, A610, H⟩ := H
              replace H : (some t237) = some r := H
              have A61 := Aside0.mk A610
              clear A610
              obtain rfl := Option.some.inj H
              go_wp2_with (first | ((with_reducible refine gate_callee (f := 26) rfl ?_); refine goesL_ (some 54) rfl rfl Try.func26 (by kernel_rfl) rfl #[.int .i64 a1, .string (a2.extract 0 ((ji5) : Int).toNat)] rfl (by (try simp only [List.map_toArray, List.map_cons, List.map_nil]); first | done | (simp only [hji5]; rfl) | rfl | (simp only [List.length_drop, List.length_take]; rfl)) ?_; (with_reducible refine (node_Get.calls kj8 a1 (a2.extract 0 ((ji5) : Int).toNat) t220 t221 t224 t227 t230 _ A40.out).mono ?_); rintro e w62 ⟨v222, v225, v228, rfl, ho0, ho1, ho2, hb⟩; refine ⟨_, rfl, ?_⟩; have n0_ := Aside0.mk (Kd.V_mono (Kd.V_told (Kd.V_told (Kd.V_told (Kd.V_old (by (with_reducible repeat (first | apply Kd.V_alloc | apply Kd.V_drewN | apply Kd.V_drew)); exact HO_195001.out) hb) (Kd.R_base ho0)) (Kd.R_base ho1)) (Kd.R_base ho2)) (fun _ h_ => h_.1)); have n1_ := Aside0.mk (Kd.V_mono (Kd.V_told (Kd.V_told (Kd.V_told (Kd.V_old (by (with_reducible repeat (first | apply Kd.V_alloc | apply Kd.V_drewN | apply Kd.V_drew)); exact HO_195002.out) hb) (Kd.R_base ho0)) (Kd.R_base ho1)) (Kd.R_base ho2)) (fun _ h_ => h_.1)); have n2_ := Aside0.mk (Kd.V_mono (Kd.V_told (Kd.V_told (Kd.V_told (Kd.V_old (by (with_reducible repeat (first | apply Kd.V_alloc | apply Kd.V_drewN | apply Kd.V_drew)); exact HO_195003.out) hb) (Kd.R_base ho0)) (Kd.R_base ho1)) (Kd.R_base ho2)) (fun _ h_ => h_.1)); have n3_ := Aside0.mk (Kd.R_lower ho0 (below_size (by repeat (first | (with_reducible first | exact HB.out | apply below_alloc | apply pw_below_drewN | apply below_drew1 | refine below_set ?_ GE194.out) | exact HB.out)))); have n4_ := Aside0.mk (Kd.R_lower ho1 (below_size (by repeat (first | (with_reducible first | exact HB.out | apply below_alloc | apply pw_below_drewN | apply below_drew1 | refine below_set ?_ GE194.out) | exact HB.out)))); have n5_ := Aside0.mk (Kd.R_lower ho2 (below_size (by repeat (first | (with_reducible first | exact HB.out | apply below_alloc | apply pw_below_drewN | apply below_drew1 | refine below_set ?_ GE194.out) | exact HB.out)))); have n6_ := Aside0.mk (blk_below (g := gb194) (o := .cells #[.bool t195, .slice Ao14 t196.length co14, .slice Ao16 t199.length co16, .slice Ao18 t202.length co18] 25 (0, 0)) (by (with_reducible repeat (first | refine blk_drewN ?_ _ | refine blk_drew ?_ | refine blk_alloc ?_ _)); exact BK194.out) hb); have n7_ := Aside0.mk (below_step (by repeat (first | (with_reducible first | exact HB.out | apply below_alloc | apply pw_below_drewN | apply below_drew1 | refine below_set ?_ GE194.out) | exact HB.out)) hb); clear HO_195001; clear HO_195002; clear HO_195003; clear BK194; clear HB; have HO_195001 := n0_; have HO_195002 := n1_; have HO_195003 := n2_; have HO223 := n3_; have HO226 := n4_; have HO229 := n5_; have BK194 := n6_; have HB := n7_; clear n0_ n1_ n2_ n3_ n4_ n5_ n6_ n7_; (try clear hb); (try clear hb2); (try clear hk); (try clear hi); (try clear ho0); (try clear ho1); (try clear ho2)) | ((with_reducible refine gate_dst (N := 12) rfl ?_); (try (refine gate_guard (by rfl) ?_; dsimp only)); refine box_event ?hg (N := 12) ?hd (cs := #[.bool false, .slice none 0 0, .slice none 0 0, .slice none 0 0]) (t := 25) ?hr ?_; (case hd => rfl); (case hg => rfl); (case hr => first | (go_simp; done) | (go_simp; rfl)); intro gb231 hg w63 hbox hb; have n0_ := Aside0.mk (Kd.V_below (Kd.V_elderB (by (with_reducible repeat (first | apply Kd.V_alloc | apply Kd.V_drewN | apply Kd.V_drew)); exact HO_195001.out) gb231 (Nat.le_of_eq hg.symm)) hb); have n1_ := Aside0.mk (Kd.V_below (Kd.V_elderB (by (with_reducible repeat (first | apply Kd.V_alloc | apply Kd.V_drewN | apply Kd.V_drew)); exact HO_195002.out) gb231 (Nat.le_of_eq hg.symm)) hb); have n2_ := Aside0.mk (Kd.V_below (Kd.V_elderB (by (with_reducible repeat (first | apply Kd.V_alloc | apply Kd.V_drewN | apply Kd.V_drew)); exact HO_195003.out) gb231 (Nat.le_of_eq hg.symm)) hb); have n3_ := Aside0.mk (Kd.R_below (by (with_reducible repeat (first | apply Kd.R_alloc | apply Kd.R_drewN | apply Kd.R_drew)); exact HO223.out) hb); have n4_ := Aside0.mk (Kd.R_below (by (with_reducible repeat (first | apply Kd.R_alloc | apply Kd.R_drewN | apply Kd.R_drew)); exact HO226.out) hb); have n5_ := Aside0.mk (Kd.R_below (by (with_reducible repeat (first | apply Kd.R_alloc | apply Kd.R_drewN | apply Kd.R_drew)); exact HO229.out) hb); have n6_ := Aside0.mk (blk_below (g := gb194) (o := .cells #[.bool t195, .slice Ao14 t196.length co14, .slice Ao16 t199.length co16, .slice Ao18 t202.length co18] 25 (0, 0)) (by (with_reducible repeat (first | refine blk_drewN ?_ _ | refine blk_drew ?_ | refine blk_alloc ?_ _)); exact BK194.out) hb); have n7_ := Aside0.mk (below_step (by repeat (first | (with_reducible first | exact HB.out | apply below_alloc | apply pw_below_drewN | apply below_drew1 | refine below_set ?_ GE194.out) | exact HB.out)) hb); have n8_ := Aside0.mk (hbox); have n9_ := Aside0.mk ((by rw [hg]; exact (below_size (by repeat (first | (with_reducible first | exact HB.out | apply below_alloc | apply pw_below_drewN | apply below_drew1 | refine below_set ?_ GE194.out) | exact HB.out))) : w.heap.size ≤ gb231)); have n10_ := Aside0.mk ((by rw [hg]; exact (below_size (by repeat (first | (with_reducible first | exact HB.out | apply below_alloc | apply pw_below_drewN | apply below_drew1 | refine below_set ?_ GE194.out) | exact HB.out))) : w.heap.size ≤ gb231)); have n11_ := Aside0.mk ((by rw [hg]; exact Nat.ne_of_lt (blk_lt (g := gb194) (o := .cells #[.bool t195, .slice Ao14 t196.length co14, .slice Ao16 t199.length co16, .slice Ao18 t202.length co18] 25 (0, 0)) (by (with_reducible repeat (first | refine blk_drewN ?_ _ | refine blk_drew ?_ | refine blk_alloc ?_ _)); exact BK194.out)) : gb194 ≠ gb231)); have n12_ := Aside0.mk ((by rw [hg]; exact Nat.ne_of_gt (blk_lt (g := gb194) (o := .cells #[.bool t195, .slice Ao14 t196.length co14, .slice Ao16 t199.length co16, .slice Ao18 t202.length co18] 25 (0, 0)) (by (with_reducible repeat (first | refine blk_drewN ?_ _ | refine blk_drew ?_ | refine blk_alloc ?_ _)); exact BK194.out)) : gb231 ≠ gb194)); clear HO_195001; clear HO_195002; clear HO_195003; clear HO223; clear HO226; clear HO229; clear BK194; clear HB; have HO_195001 := n0_; have HO_195002 := n1_; have HO_195003 := n2_; have HO223 := n3_; have HO226 := n4_; have HO229 := n5_; have BK194 := n6_; have HB := n7_; have BK231 := n8_; have GW231 := n9_; have GE231 := n10_; have NB194_231 := n11_; have NB231_194 := n12_; clear n0_ n1_ n2_ n3_ n4_ n5_ n6_ n7_ n8_ n9_ n10_ n11_ n12_; clear hb hbox hg; have hnb64 := NB231_194.out; have hnc64 := NB194_231.out; have hcz65_0 : w63.cell? ⟨gb231, 0, none⟩ = some (.bool false) := (blk_cell BK231.out 0).trans rfl; have hcz65_1 : w63.cell? ⟨gb231, 1, none⟩ = some (.slice none 0 0) := (blk_cell BK231.out 1).trans rfl; have hcz65_2 : w63.cell? ⟨gb231, 2, none⟩ = some (.slice none 0 0) := (blk_cell BK231.out 2).trans rfl; have hcz65_3 : w63.cell? ⟨gb231, 3, none⟩ = some (.slice none 0 0) := (blk_cell BK231.out 3).trans rfl; have hfz65_0 := blk_frozen BK231.out 0; have hfz65_1 := blk_frozen BK231.out 1; have hfz65_2 := blk_frozen BK231.out 2; have hfz65_3 := blk_frozen BK231.out 3; obtain ⟨Ao66, co66, eo66⟩ := Kd.R_slice HO223.out; subst eo66; obtain ⟨Ao67, co67, eo67⟩ := Kd.R_slice HO226.out; subst eo67; obtain ⟨Ao68, co68, eo68⟩ := Kd.R_slice HO229.out; subst eo68) | ((with_reducible refine gate_callee (f := 13) rfl ?_); refine goesL_ (some 59) rfl rfl Try.func13 (by kernel_rfl) rfl #[] rfl (by (try simp only [List.map_toArray, List.map_cons, List.map_nil]); first | done | rfl | (simp only [List.length_drop, List.length_take]; rfl)) ?_; (with_reducible refine (penelopelaw07_alive.calls kj8  true _ A59.out).mono ?_); rintro e w69 ⟨rfl, hb⟩; refine ⟨_, rfl, ?_⟩; have n0_ := Aside0.mk (Kd.V_below (by (with_reducible repeat (first | apply Kd.V_alloc | apply Kd.V_drewN | apply Kd.V_drew)); exact (Kd.V_mono (Kd.V_far (p := ⟨gb231, 3, none⟩) (Kd.V_far (p := ⟨gb231, 2, none⟩) (Kd.V_far (p := ⟨gb231, 1, none⟩) (Kd.V_far (p := ⟨gb231, 0, none⟩) (Kd.V_mono HO_195001.out (fun k_ hk => (⟨hk, hk.2⟩ : _ ∧ k_ ≠ gb231))) (fun _ hk => hk.2) (.bool t220)) (fun _ hk => hk.2) (.slice Ao66 t221.length co66)) (fun _ hk => hk.2) (.slice Ao67 t224.length co67)) (fun _ hk => hk.2) (.slice Ao68 t227.length co68)) (fun _ h_ => h_.1))) hb); have n1_ := Aside0.mk (Kd.V_below (by (with_reducible repeat (first | apply Kd.V_alloc | apply Kd.V_drewN | apply Kd.V_drew)); exact (Kd.V_mono (Kd.V_far (p := ⟨gb231, 3, none⟩) (Kd.V_far (p := ⟨gb231, 2, none⟩) (Kd.V_far (p := ⟨gb231, 1, none⟩) (Kd.V_far (p := ⟨gb231, 0, none⟩) (Kd.V_mono HO_195002.out (fun k_ hk => (⟨hk, hk.2⟩ : _ ∧ k_ ≠ gb231))) (fun _ hk => hk.2) (.bool t220)) (fun _ hk => hk.2) (.slice Ao66 t221.length co66)) (fun _ hk => hk.2) (.slice Ao67 t224.length co67)) (fun _ hk => hk.2) (.slice Ao68 t227.length co68)) (fun _ h_ => h_.1))) hb); have n2_ := Aside0.mk (Kd.V_below (by (with_reducible repeat (first | apply Kd.V_alloc | apply Kd.V_drewN | apply Kd.V_drew)); exact (Kd.V_mono (Kd.V_far (p := ⟨gb231, 3, none⟩) (Kd.V_far (p := ⟨gb231, 2, none⟩) (Kd.V_far (p := ⟨gb231, 1, none⟩) (Kd.V_far (p := ⟨gb231, 0, none⟩) (Kd.V_mono HO_195003.out (fun k_ hk => (⟨hk, hk.2⟩ : _ ∧ k_ ≠ gb231))) (fun _ hk => hk.2) (.bool t220)) (fun _ hk => hk.2) (.slice Ao66 t221.length co66)) (fun _ hk => hk.2) (.slice Ao67 t224.length co67)) (fun _ hk => hk.2) (.slice Ao68 t227.length co68)) (fun _ h_ => h_.1))) hb); have n3_ := Aside0.mk (Kd.R_below (by (with_reducible repeat (first | apply Kd.R_alloc | apply Kd.R_drewN | apply Kd.R_drew)); exact (Kd.R_mono (Kd.R_far (p := ⟨gb231, 3, none⟩) (Kd.R_far (p := ⟨gb231, 2, none⟩) (Kd.R_far (p := ⟨gb231, 1, none⟩) (Kd.R_far (p := ⟨gb231, 0, none⟩) (Kd.R_types HO223.out BK231.out (by decide)) (fun _ hk => hk.2) (.bool t220)) (fun _ hk => hk.2) (.slice Ao66 t221.length co66)) (fun _ hk => hk.2) (.slice Ao67 t224.length co67)) (fun _ hk => hk.2) (.slice Ao68 t227.length co68)) (fun _ h_ => h_.1))) hb); have n4_ := Aside0.mk (Kd.R_below (by (with_reducible repeat (first | apply Kd.R_alloc | apply Kd.R_drewN | apply Kd.R_drew)); exact (Kd.R_mono (Kd.R_far (p := ⟨gb231, 3, none⟩) (Kd.R_far (p := ⟨gb231, 2, none⟩) (Kd.R_far (p := ⟨gb231, 1, none⟩) (Kd.R_far (p := ⟨gb231, 0, none⟩) (Kd.R_types HO226.out BK231.out (by decide)) (fun _ hk => hk.2) (.bool t220)) (fun _ hk => hk.2) (.slice Ao66 t221.length co66)) (fun _ hk => hk.2) (.slice Ao67 t224.length co67)) (fun _ hk => hk.2) (.slice Ao68 t227.length co68)) (fun _ h_ => h_.1))) hb); have n5_ := Aside0.mk (Kd.R_below (by (with_reducible repeat (first | apply Kd.R_alloc | apply Kd.R_drewN | apply Kd.R_drew)); exact (Kd.R_mono (Kd.R_far (p := ⟨gb231, 3, none⟩) (Kd.R_far (p := ⟨gb231, 2, none⟩) (Kd.R_far (p := ⟨gb231, 1, none⟩) (Kd.R_far (p := ⟨gb231, 0, none⟩) (Kd.R_types HO229.out BK231.out (by decide)) (fun _ hk => hk.2) (.bool t220)) (fun _ hk => hk.2) (.slice Ao66 t221.length co66)) (fun _ hk => hk.2) (.slice Ao67 t224.length co67)) (fun _ hk => hk.2) (.slice Ao68 t227.length co68)) (fun _ h_ => h_.1))) hb); have n6_ := Aside0.mk (blk_below (g := gb194) (o := .cells #[.bool t195, .slice Ao14 t196.length co14, .slice Ao16 t199.length co16, .slice Ao18 t202.length co18] 25 (0, 0)) (by (with_reducible repeat (first | refine blk_drewN ?_ _ | refine blk_drew ?_ | refine blk_alloc ?_ _)); refine blk_far ?_ NB194_231.out _; (with_reducible repeat (first | refine blk_drewN ?_ _ | refine blk_drew ?_ | refine blk_alloc ?_ _)); refine blk_far ?_ NB194_231.out _; (with_reducible repeat (first | refine blk_drewN ?_ _ | refine blk_drew ?_ | refine blk_alloc ?_ _)); refine blk_far ?_ NB194_231.out _; (with_reducible repeat (first | refine blk_drewN ?_ _ | refine blk_drew ?_ | refine blk_alloc ?_ _)); refine blk_far ?_ NB194_231.out _; (with_reducible repeat (first | refine blk_drewN ?_ _ | refine blk_drew ?_ | refine blk_alloc ?_ _)); exact BK194.out) hb); have n7_ := Aside0.mk (blk_below (g := gb231) (o := .cells #[.bool t220, .slice Ao66 t221.length co66, .slice Ao67 t224.length co67, .slice Ao68 t227.length co68] 25 (0, 0)) (by (with_reducible repeat (first | refine blk_drewN ?_ _ | refine blk_drew ?_ | refine blk_alloc ?_ _)); refine blk_put (cs := #[.bool t220, .slice Ao66 t221.length co66, .slice Ao67 t224.length co67, .slice none 0 0]) ?_ 3 _ rfl; (with_reducible repeat (first | refine blk_drewN ?_ _ | refine blk_drew ?_ | refine blk_alloc ?_ _)); refine blk_put (cs := #[.bool t220, .slice Ao66 t221.length co66, .slice none 0 0, .slice none 0 0]) ?_ 2 _ rfl; (with_reducible repeat (first | refine blk_drewN ?_ _ | refine blk_drew ?_ | refine blk_alloc ?_ _)); refine blk_put (cs := #[.bool t220, .slice none 0 0, .slice none 0 0, .slice none 0 0]) ?_ 1 _ rfl; (with_reducible repeat (first | refine blk_drewN ?_ _ | refine blk_drew ?_ | refine blk_alloc ?_ _)); refine blk_put (cs := #[.bool false, .slice none 0 0, .slice none 0 0, .slice none 0 0]) ?_ 0 _ rfl; (with_reducible repeat (first | refine blk_drewN ?_ _ | refine blk_drew ?_ | refine blk_alloc ?_ _)); exact BK231.out) hb); have n8_ := Aside0.mk (below_step (by repeat (first | (with_reducible first | exact HB.out | apply below_alloc | apply pw_below_drewN | apply below_drew1 | refine below_set ?_ GE194.out | refine below_set ?_ GE231.out) | exact HB.out)) hb); clear HO_195001; clear HO_195002; clear HO_195003; clear HO223; clear HO226; clear HO229; clear BK194; clear BK231; clear HB; have HO_195001 := n0_; have HO_195002 := n1_; have HO_195003 := n2_; have HO223 := n3_; have HO226 := n4_; have HO229 := n5_; have BK194 := n6_; have BK231 := n7_; have HB := n8_; clear n0_ n1_ n2_ n3_ n4_ n5_ n6_ n7_ n8_; (try clear hb); (try clear hb2); (try clear hk); (try clear hi); have hcz70_0 : w69.cell? ⟨gb231, 0, none⟩ = some (.bool t220) := (blk_cell BK231.out 0).trans rfl; have hcz70_1 : w69.cell? ⟨gb231, 1, none⟩ = some (.slice Ao66 t221.length co66) := (blk_cell BK231.out 1).trans rfl; have hcz70_2 : w69.cell? ⟨gb231, 2, none⟩ = some (.slice Ao67 t224.length co67) := (blk_cell BK231.out 2).trans rfl; have hcz70_3 : w69.cell? ⟨gb231, 3, none⟩ = some (.slice Ao68 t227.length co68) := (blk_cell BK231.out 3).trans rfl; have hfz70_0 := blk_frozen BK231.out 0; have hfz70_1 := blk_frozen BK231.out 1; have hfz70_2 := blk_frozen BK231.out 2; have hfz70_3 := blk_frozen BK231.out 3) | (go_at_call 23; (refine (peneloperef07_Like.calls kj8 t220 _ _ t221 _ _ t224 _ _ t227 false _ _ ([] : List ByteArray) _ _ ([] : List ByteArray) _ _ ([] : List Int) t237 _ ?side1 ?side2 ?side3 ?side4 ?side5 ?side6 ?side7 ?side8 ?side9 ?side10 ?side11 ?side12 A61.out).mono ?_); (case side1 => repeat (first | exact (Kd.R_reads' HO223.out).2.2 | (with_reducible refine Kd.C_alloc ?_ _) | (with_reducible refine Kd.C_drewN ?_ _) | (with_reducible refine Kd.C_drew ?_))); (case side2 => exact (Kd.R_reads' HO223.out).2.1); (case side3 => repeat (first | exact (Kd.R_reads' HO226.out).2.2 | (with_reducible refine Kd.C_alloc ?_ _) | (with_reducible refine Kd.C_drewN ?_ _) | (with_reducible refine Kd.C_drew ?_))); (case side4 => exact (Kd.R_reads' HO226.out).2.1); (case side5 => repeat (first | exact (Kd.R_reads' HO229.out).2.2 | (with_reducible refine Kd.C_alloc ?_ _) | (with_reducible refine Kd.C_drewN ?_ _) | (with_reducible refine Kd.C_drew ?_))); (case side6 => exact (Kd.R_reads' HO229.out).2.1); (case side7 => exact Kd.C_nil _ _); (case side8 => exact Nat.le_refl _); (case side9 => exact Kd.C_nil _ _); (case side10 => exact Nat.le_refl _); (case side11 => exact Kd.C_nil _ _); (case side12 => exact Nat.le_refl _); rintro e w71 ⟨rfl, hb⟩; have n0_ := Aside0.mk (Kd.V_below (by (with_reducible repeat (first | apply Kd.V_alloc | apply Kd.V_drewN | apply Kd.V_drew)); exact HO_195001.out) hb); have n1_ := Aside0.mk (Kd.V_below (by (with_reducible repeat (first | apply Kd.V_alloc | apply Kd.V_drewN | apply Kd.V_drew)); exact HO_195002.out) hb); have n2_ := Aside0.mk (Kd.V_below (by (with_reducible repeat (first | apply Kd.V_alloc | apply Kd.V_drewN | apply Kd.V_drew)); exact HO_195003.out) hb); have n3_ := Aside0.mk (Kd.R_below (by (with_reducible repeat (first | apply Kd.R_alloc | apply Kd.R_drewN | apply Kd.R_drew)); exact HO223.out) hb); have n4_ := Aside0.mk (Kd.R_below (by (with_reducible repeat (first | apply Kd.R_alloc | apply Kd.R_drewN | apply Kd.R_drew)); exact HO226.out) hb); have n5_ := Aside0.mk (Kd.R_below (by (with_reducible repeat (first | apply Kd.R_alloc | apply Kd.R_drewN | apply Kd.R_drew)); exact HO229.out) hb); have n6_ := Aside0.mk (blk_below (g := gb194) (o := .cells #[.bool t195, .slice Ao14 t196.length co14, .slice Ao16 t199.length co16, .slice Ao18 t202.length co18] 25 (0, 0)) (by (with_reducible repeat (first | refine blk_drewN ?_ _ | refine blk_drew ?_ | refine blk_alloc ?_ _)); exact BK194.out) hb); have n7_ := Aside0.mk (blk_below (g := gb231) (o := .cells #[.bool t220, .slice Ao66 t221.length co66, .slice Ao67 t224.length co67, .slice Ao68 t227.length co68] 25 (0, 0)) (by (with_reducible repeat (first | refine blk_drewN ?_ _ | refine blk_drew ?_ | refine blk_alloc ?_ _)); exact BK231.out) hb); have n8_ := Aside0.mk (below_step (by repeat (first | (with_reducible first | exact HB.out | apply below_alloc | apply pw_below_drewN | apply below_drew1 | refine below_set ?_ GE194.out | refine below_set ?_ GE231.out) | exact HB.out)) hb); clear HO_195001; clear HO_195002; clear HO_195003; clear HO223; clear HO226; clear HO229; clear BK194; clear BK231; clear HB; have HO_195001 := n0_; have HO_195002 := n1_; have HO_195003 := n2_; have HO223 := n3_; have HO226 := n4_; have HO229 := n5_; have BK194 := n6_; have BK231 := n7_; have HB := n8_; clear n0_ n1_ n2_ n3_ n4_ n5_ n6_ n7_ n8_; (try clear hb); (try clear hb2); (try clear hk); (try clear hi)))
              go_ret
              exact ⟨by first | rfl | (simp [errW_none, errW_some] <;> rfl) | (simp only [← hji5]; first | rfl | (simp [errW_none, errW_some] <;> rfl)) | (simp [*, errW_none, errW_some] <;> rfl), by repeat (first | (with_reducible first | exact HB.out | apply below_alloc | apply pw_below_drewN | apply below_drew1 | refine below_set ?_ GE194.out | refine below_set ?_ GE231.out) | exact HB.out)⟩
            · replace c60 := Bool.eq_false_iff.mpr c60
              subst c60
              have H1 : (none) = some r := by rw [if_neg (show ¬ (false = true) by decide)] at H; exact H
              clear H
              have H := H1
              clear H1
              exact absurd H (by simp)
    · rw [if_neg c7] at H
      exact absurd H (by simp)
  · rw [if_neg c6] at H
    exact absurd H (by simp)

end Go.Proofs.Ytmnkabdaapiikaa.R
