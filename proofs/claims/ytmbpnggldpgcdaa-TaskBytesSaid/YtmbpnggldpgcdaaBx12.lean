-- laid by a program of this session (wip/tools/xprint.py), function by function; Lean checks it
import Derived.Test.YtmbpnggldpgcdaaBx0
import Derived.Test.YtmbpnggldpgcdaaBx8
import Derived.Test.YtmbpnggldpgcdaaBx11
namespace Go.Proofs.Ytmbpnggldpgcdaa.B
open Go.RowKit Go.Proofs.YtmbpnggldpgcdaaW.PrintWords Go.Proofs.YtmbpnggldpgcdaaW.PrintLast Go.Proofs.YtmbpnggldpgcdaaW.PrintMore
attribute [local go_sem] max2_int min2_int max_two min_two max_three min_three max_four min_four   -- for this text's walks alone
set_option linter.unusedVariables false
set_option linter.unusedSimpArgs false

/-! ### peneloperef18_Put: function 31 -/
def peneloperef18_Put.f (k : Nat) (a0_0 : Int) (a0_1 : Int) (a0_2 : Int) (a0_3 : Int) (a0_4 : ByteArray) : Option (ByteArray) := (peneloperef01_Text.f a0_4).bind fun bt150 => ((peneloperef18_number.f k a0_0 1).bind fun t152 => ((peneloperef18_number.f k a0_1 1).bind fun t153 => (if t152.size + t153.size ≤ 9223372036854775807 then ((peneloperef18_number.f k a0_2 6).bind fun t154 => (if (t152 ++ t153).size + t154.size ≤ 9223372036854775807 then ((peneloperef18_number.f k a0_3 6).bind fun t155 => (if ((t152 ++ t153) ++ t154).size + t155.size ≤ 9223372036854775807 then (if (((t152 ++ t153) ++ t154) ++ t155).size + bt150.1.size ≤ 9223372036854775807 then (some ((((t152 ++ t153) ++ t154) ++ t155) ++ bt150.1)) else (none)) else (none))) else (none))) else (none))))
theorem peneloperef18_Put.mono : ∀ a0 a1 a2 a3 a4 k, LeO (peneloperef18_Put.f k a0 a1 a2 a3 a4) (peneloperef18_Put.f (k + 1) a0 a1 a2 a3 a4) := by
  intro a0 a1 a2 a3 a4 k
  unfold peneloperef18_Put.f
  repeat' first
      | (with_reducible exact peneloperef18_number.mono _ _ _)
      | (with_reducible exact LeO.refl _)
      | (with_reducible exact LeO.none _)
      | (with_reducible refine LeO.ite ?_ ?_)
      | (with_reducible refine LeO.bind ?_ (fun _ => ?_))
      | exact peneloperef18_number.mono _ _ _
      | exact LeO.none _
      | refine LeO.ite ?_ ?_
      | refine LeO.bind ?_ (fun _ => ?_)
def peneloperef18_Put.T2 : Bool × List (List Nat × List Nat) := (true, [([], []), ([0], [0]), ([1], [1]), ([], []), ([3], [3]), ([4, 2], [4]), ([2, 5], [2, 5]), ([], []), ([7], [7]), ([8, 5], [8]), ([6, 9], [6, 9]), ([], []), ([11], [11]), ([12, 9], [12]), ([10, 13], [10, 13]), ([], []), ([14, 15], [14, 15]), ([16, 13, 0, 1, 2, 3, 4, 5, 6, 7, 8, 9, 10, 11, 12, 13, 14, 15, 16], [16])])
def peneloperef18_Put.B2 : List Nat := [0, 1, 3, 0, 8, 31, 63, 0, 128, 447, 1023, 0, 2048, 7103, 16383, 0, 65535, 131071]
theorem peneloperef18_Put.tab2 : rtab .any (opsOf Try.f31 2) = peneloperef18_Put.T2 := by kernel_rfl
theorem peneloperef18_Put.bits2 : waitsOk peneloperef18_Put.T2.2 peneloperef18_Put.B2 = true := by kernel_rfl
set_option maxHeartbeats 8000000 in
set_option maxRecDepth 100000 in
theorem peneloperef18_Put.calls (k : Nat) (a0_0 : Int) (a0_1 : Int) (a0_2 : Int) (a0_3 : Int) (a0_4 : ByteArray) (r : ByteArray) (w : World) (h : peneloperef18_Put.f k a0_0 a0_1 a0_2 a0_3 a0_4 = some r) :
    Calls Try.prog 31 #[.agg #[.int .i64 a0_0, .int .i64 a0_1, .int .i64 a0_2, .int .i64 a0_3, .string a0_4]] w fun e w' => e = .returned (.string r) ∧ Below w.heap.size w w' := by
  have hu26 := Try.underlying26
  have HB := Aside0.mk (Below.refl w.heap.size w)
  have H : ((peneloperef01_Text.f a0_4).bind fun bt150 => ((peneloperef18_number.f k a0_0 1).bind fun t152 => ((peneloperef18_number.f k a0_1 1).bind fun t153 => (if t152.size + t153.size ≤ 9223372036854775807 then ((peneloperef18_number.f k a0_2 6).bind fun t154 => (if (t152 ++ t153).size + t154.size ≤ 9223372036854775807 then ((peneloperef18_number.f k a0_3 6).bind fun t155 => (if ((t152 ++ t153) ++ t154).size + t155.size ≤ 9223372036854775807 then (if (((t152 ++ t153) ++ t154) ++ t155).size + bt150.1.size ≤ 9223372036854775807 then (some ((((t152 ++ t153) ++ t154) ++ t155) ++ bt150.1)) else (none)) else (none))) else (none))) else (none))))) = some r := h
  clear h
  replace H := Option.bind_eq_some_iff.mp H
  obtain ⟨⟨t150, t151⟩, A20, H⟩ := H
  replace H : ((peneloperef18_number.f k a0_0 1).bind fun t152 => ((peneloperef18_number.f k a0_1 1).bind fun t153 => (if t152.size + t153.size ≤ 9223372036854775807 then ((peneloperef18_number.f k a0_2 6).bind fun t154 => (if (t152 ++ t153).size + t154.size ≤ 9223372036854775807 then ((peneloperef18_number.f k a0_3 6).bind fun t155 => (if ((t152 ++ t153) ++ t154).size + t155.size ≤ 9223372036854775807 then (if (((t152 ++ t153) ++ t154) ++ t155).size + t150.size ≤ 9223372036854775807 then (some ((((t152 ++ t153) ++ t154) ++ t155) ++ t150)) else (none)) else (none))) else (none))) else (none)))) = some r := H
  have A2 := Aside0.mk A20
  clear A20
  replace H := Option.bind_eq_some_iff.mp H
  obtain ⟨t152, A30, H⟩ := H
  replace H : ((peneloperef18_number.f k a0_1 1).bind fun t153 => (if t152.size + t153.size ≤ 9223372036854775807 then ((peneloperef18_number.f k a0_2 6).bind fun t154 => (if (t152 ++ t153).size + t154.size ≤ 9223372036854775807 then ((peneloperef18_number.f k a0_3 6).bind fun t155 => (if ((t152 ++ t153) ++ t154).size + t155.size ≤ 9223372036854775807 then (if (((t152 ++ t153) ++ t154) ++ t155).size + t150.size ≤ 9223372036854775807 then (some ((((t152 ++ t153) ++ t154) ++ t155) ++ t150)) else (none)) else (none))) else (none))) else (none))) = some r := H
  have A3 := Aside0.mk A30
  clear A30
  replace H := Option.bind_eq_some_iff.mp H
  obtain ⟨t153, A40, H⟩ := H
  replace H : (if t152.size + t153.size ≤ 9223372036854775807 then ((peneloperef18_number.f k a0_2 6).bind fun t154 => (if (t152 ++ t153).size + t154.size ≤ 9223372036854775807 then ((peneloperef18_number.f k a0_3 6).bind fun t155 => (if ((t152 ++ t153) ++ t154).size + t155.size ≤ 9223372036854775807 then (if (((t152 ++ t153) ++ t154) ++ t155).size + t150.size ≤ 9223372036854775807 then (some ((((t152 ++ t153) ++ t154) ++ t155) ++ t150)) else (none)) else (none))) else (none))) else (none)) = some r := H
  have A4 := Aside0.mk A40
  clear A40
  by_cases c5 : t152.size + t153.size ≤ 9223372036854775807
  · rw [if_pos c5] at H
    have c5b0 := eq_true c5
    have c5b1 : decide (t152.size + t153.size ≤ 9223372036854775807) = true := decide_eq_true c5
    try have c5b2 : (9223372036854775807 < t152.size + t153.size) = False := eq_false (Nat.not_lt.2 c5)
    have c5b3 := c5b2
    try simp only [ByteArray.size_append] at c5b3
    replace H := Option.bind_eq_some_iff.mp H
    obtain ⟨t154, A60, H⟩ := H
    replace H : (if (t152 ++ t153).size + t154.size ≤ 9223372036854775807 then ((peneloperef18_number.f k a0_3 6).bind fun t155 => (if ((t152 ++ t153) ++ t154).size + t155.size ≤ 9223372036854775807 then (if (((t152 ++ t153) ++ t154) ++ t155).size + t150.size ≤ 9223372036854775807 then (some ((((t152 ++ t153) ++ t154) ++ t155) ++ t150)) else (none)) else (none))) else (none)) = some r := H
    have A6 := Aside0.mk A60
    clear A60
    by_cases c7 : (t152 ++ t153).size + t154.size ≤ 9223372036854775807
    · rw [if_pos c7] at H
      have c7b0 := eq_true c7
      have c7b1 : decide ((t152 ++ t153).size + t154.size ≤ 9223372036854775807) = true := decide_eq_true c7
      try have c7b2 : (9223372036854775807 < (t152 ++ t153).size + t154.size) = False := eq_false (Nat.not_lt.2 c7)
      have c7b3 := c7b2
      try simp only [ByteArray.size_append] at c7b3
      replace H := Option.bind_eq_some_iff.mp H
      obtain ⟨t155, A80, H⟩ := H
      replace H : (if ((t152 ++ t153) ++ t154).size + t155.size ≤ 9223372036854775807 then (if (((t152 ++ t153) ++ t154) ++ t155).size + t150.size ≤ 9223372036854775807 then (some ((((t152 ++ t153) ++ t154) ++ t155) ++ t150)) else (none)) else (none)) = some r := H
      have A8 := Aside0.mk A80
      clear A80
      by_cases c9 : ((t152 ++ t153) ++ t154).size + t155.size ≤ 9223372036854775807
      · rw [if_pos c9] at H
        have c9b0 := eq_true c9
        have c9b1 : decide (((t152 ++ t153) ++ t154).size + t155.size ≤ 9223372036854775807) = true := decide_eq_true c9
        try have c9b2 : (9223372036854775807 < ((t152 ++ t153) ++ t154).size + t155.size) = False := eq_false (Nat.not_lt.2 c9)
        have c9b3 := c9b2
        try simp only [ByteArray.size_append] at c9b3
        by_cases c10 : (((t152 ++ t153) ++ t154) ++ t155).size + t150.size ≤ 9223372036854775807
        · rw [if_pos c10] at H
          have c10b0 := eq_true c10
          have c10b1 : decide ((((t152 ++ t153) ++ t154) ++ t155).size + t150.size ≤ 9223372036854775807) = true := decide_eq_true c10
          try have c10b2 : (9223372036854775807 < (((t152 ++ t153) ++ t154) ++ t155).size + t150.size) = False := eq_false (Nat.not_lt.2 c10)
          have c10b3 := c10b2
          try simp only [ByteArray.size_append] at c10b3
          obtain rfl := Option.some.inj H
          go_enter Try.func31, Try.ntmps31
          try go_wp2_with (first | ((with_reducible refine gate_dst (N := 1) rfl ?_); refine box_event ?hg (N := 1) ?hd (cs := #[.int .i64 a0_0, .int .i64 a0_1, .int .i64 a0_2, .int .i64 a0_3, .string a0_4]) (t := 26) ?hr ?_; (case hd => rfl); (case hg => rfl); (case hr => first | (go_simp; done) | (go_simp; rfl)); intro gb149 hg w11 hbox hb; have n0_ := Aside0.mk (below_step (by repeat (first | (with_reducible first | exact HB.out | apply below_alloc | apply pw_below_drewN | apply below_drew1) | exact HB.out)) hb); have n1_ := Aside0.mk (hbox); have n2_ := Aside0.mk ((by rw [hg]; exact (below_size (by repeat (first | (with_reducible first | exact HB.out | apply below_alloc | apply pw_below_drewN | apply below_drew1) | exact HB.out))) : w.heap.size ≤ gb149)); have n3_ := Aside0.mk ((by rw [hg]; exact (below_size (by repeat (first | (with_reducible first | exact HB.out | apply below_alloc | apply pw_below_drewN | apply below_drew1) | exact HB.out))) : w.heap.size ≤ gb149)); clear HB; have HB := n0_; have BK149 := n1_; have GW149 := n2_; have GE149 := n3_; clear n0_ n1_ n2_ n3_; clear hb hbox hg; have hcz12_0 : w11.cell? ⟨gb149, 0, none⟩ = some (.int .i64 a0_0) := (blk_cell BK149.out 0).trans rfl; have hcz12_1 : w11.cell? ⟨gb149, 1, none⟩ = some (.int .i64 a0_1) := (blk_cell BK149.out 1).trans rfl; have hcz12_2 : w11.cell? ⟨gb149, 2, none⟩ = some (.int .i64 a0_2) := (blk_cell BK149.out 2).trans rfl; have hcz12_3 : w11.cell? ⟨gb149, 3, none⟩ = some (.int .i64 a0_3) := (blk_cell BK149.out 3).trans rfl; have hcz12_4 : w11.cell? ⟨gb149, 4, none⟩ = some (.string a0_4) := (blk_cell BK149.out 4).trans rfl; have hfz12_0 := blk_frozen BK149.out 0; have hfz12_1 := blk_frozen BK149.out 1; have hfz12_2 := blk_frozen BK149.out 2; have hfz12_3 := blk_frozen BK149.out 3; have hfz12_4 := blk_frozen BK149.out 4) | ((with_reducible refine gate_callee (f := 45) rfl ?_); refine goesL_ (some 8) rfl rfl Try.func45 (by kernel_rfl) rfl #[.string a0_4] rfl (by (try simp only [List.map_toArray, List.map_cons, List.map_nil]); first | done | rfl | (simp only [List.length_drop, List.length_take]; rfl)) ?_; (with_reducible refine (peneloperef01_Text.calls a0_4 t150 t151 _ A2.out).mono ?_); rintro e w13 ⟨rfl, hb⟩; refine ⟨_, rfl, ?_⟩; have n0_ := Aside0.mk (blk_below (g := gb149) (o := .cells #[.int .i64 a0_0, .int .i64 a0_1, .int .i64 a0_2, .int .i64 a0_3, .string a0_4] 26 (0, 0)) (by (with_reducible repeat (first | refine blk_drewN ?_ _ | refine blk_drew ?_ | refine blk_alloc ?_ _)); exact BK149.out) hb); have n1_ := Aside0.mk (below_step (by repeat (first | (with_reducible first | exact HB.out | apply below_alloc | apply pw_below_drewN | apply below_drew1 | refine below_set ?_ GE149.out) | exact HB.out)) hb); clear BK149; clear HB; have BK149 := n0_; have HB := n1_; clear n0_ n1_; (try clear hb); (try clear hb2); (try clear hk); (try clear hi)))
          have n0_ := Aside0.mk (blk_drew BK149.out)
          have n1_ := Aside0.mk (below_drew1 HB.out)
          clear BK149
          clear HB
          have BK149 := n0_
          have HB := n1_
          clear n0_ n1_
          refine start_ (n := 18) (S := fun w' => w'.cell? ⟨gb149, 0, none⟩ = some (.int .i64 a0_0) ∧ w'.cell? ⟨gb149, 1, none⟩ = some (.int .i64 a0_1) ∧ w'.cell? ⟨gb149, 2, none⟩ = some (.int .i64 a0_2) ∧ w'.cell? ⟨gb149, 3, none⟩ = some (.int .i64 a0_3) ∧ w'.cell? ⟨gb149, 4, none⟩ = some (.string a0_4)) (ds := []) #[false, false, false, false, false, false, false, false, false, false, false, false, false, false, false, false, false, false] (by kernel_rfl) rfl rfl ⟨(blk_cell BK149.out 0).trans rfl, (blk_cell BK149.out 1).trans rfl, (blk_cell BK149.out 2).trans rfl, (blk_cell BK149.out 3).trans rfl, (blk_cell BK149.out 4).trans rfl⟩ (fun hHeld => ?_); refine with_tabW peneloperef18_Put.tab2 peneloperef18_Put.bits2 (fun HT_ HW_ => ?_)
          generalize w13.drew = w14 at BK149 HB hHeld ⊢
          refine pure_ (i := 0) (N := some 11) (v := ?_) (a' := ?_) #[true, false, false, false, false, false, false, false, false, false, false, false, false, false, false, false, false, false] rfl rfl (any_of HT_.out (by kernel_rfl)) (fun _ _ _ h => h) (Or.inl ⟨by rfl, ?_⟩) ?_ ?_
          rotate_left
          · intro w'
            go_simp
            with_reducible rfl
          rotate_left
          · simp only [Act.put, List.setIfInBounds_toArray, List.set_cons_zero, List.set_cons_succ, i64_w, i32_w]
            rfl
          refine pure_ (i := 3) (N := some 14) (v := ?_) (a' := ?_) #[true, false, false, true, false, false, false, false, false, false, false, false, false, false, false, false, false, false] rfl rfl (any_of HT_.out (by kernel_rfl)) (fun _ _ _ h => h) (Or.inl ⟨by rfl, ?_⟩) ?_ ?_
          rotate_left
          · intro w'
            go_simp
            with_reducible rfl
          rotate_left
          · simp only [Act.put, List.setIfInBounds_toArray, List.set_cons_zero, List.set_cons_succ, i64_w, i32_w]
            rfl
          refine pure_ (i := 7) (N := some 18) (v := ?_) (a' := ?_) #[true, false, false, true, false, false, false, true, false, false, false, false, false, false, false, false, false, false] rfl rfl (any_of HT_.out (by kernel_rfl)) (fun _ _ _ h => h) (Or.inl ⟨by rfl, ?_⟩) ?_ ?_
          rotate_left
          · intro w'
            go_simp
            with_reducible rfl
          rotate_left
          · simp only [Act.put, List.setIfInBounds_toArray, List.set_cons_zero, List.set_cons_succ, i64_w, i32_w]
            rfl
          refine pure_ (i := 11) (N := some 22) (v := ?_) (a' := ?_) #[true, false, false, true, false, false, false, true, false, false, false, true, false, false, false, false, false, false] rfl rfl (any_of HT_.out (by kernel_rfl)) (fun _ _ _ h => h) (Or.inl ⟨by rfl, ?_⟩) ?_ ?_
          rotate_left
          · intro w'
            go_simp
            with_reducible rfl
          rotate_left
          · simp only [Act.put, List.setIfInBounds_toArray, List.set_cons_zero, List.set_cons_succ, i64_w, i32_w]
            rfl
          refine pure_ (i := 15) (N := some 26) (v := ?_) (a' := ?_) #[true, false, false, true, false, false, false, true, false, false, false, true, false, false, false, true, false, false] rfl rfl (any_of HT_.out (by kernel_rfl)) (fun _ _ _ h => h) (Or.inl ⟨by rfl, ?_⟩) ?_ ?_
          rotate_left
          · intro w'
            go_simp
            with_reducible rfl
          rotate_left
          · simp only [Act.put, List.setIfInBounds_toArray, List.set_cons_zero, List.set_cons_succ, i64_w, i32_w]
            rfl
          refine take_ (i := 1) (N := some 12) (v := ?_) (a' := ?_) #[true, true, false, true, false, false, false, true, false, false, false, true, false, false, false, true, false, false] rfl rfl (take_ofW HT_.out HW_.out (by kernel_rfl)) (fun _ _ _ h => h) (Or.inl ⟨by rfl, ?_⟩) hHeld ?_ ?_
          rotate_left
          · rintro w' ⟨s0, s1, s2, s3, s4⟩
            go_simp
            with_reducible rfl
          rotate_left
          · simp only [Act.put, List.setIfInBounds_toArray, List.set_cons_zero, List.set_cons_succ, i64_w, i32_w]
            rfl
          refine take_ (i := 4) (N := some 15) (v := ?_) (a' := ?_) #[true, true, false, true, true, false, false, true, false, false, false, true, false, false, false, true, false, false] rfl rfl (take_ofW HT_.out HW_.out (by kernel_rfl)) (fun _ _ _ h => h) (Or.inl ⟨by rfl, ?_⟩) hHeld ?_ ?_
          rotate_left
          · rintro w' ⟨s0, s1, s2, s3, s4⟩
            go_simp
            with_reducible rfl
          rotate_left
          · simp only [Act.put, List.setIfInBounds_toArray, List.set_cons_zero, List.set_cons_succ, i64_w, i32_w]
            rfl
          refine take_ (i := 8) (N := some 19) (v := ?_) (a' := ?_) #[true, true, false, true, true, false, false, true, true, false, false, true, false, false, false, true, false, false] rfl rfl (take_ofW HT_.out HW_.out (by kernel_rfl)) (fun _ _ _ h => h) (Or.inl ⟨by rfl, ?_⟩) hHeld ?_ ?_
          rotate_left
          · rintro w' ⟨s0, s1, s2, s3, s4⟩
            go_simp
            with_reducible rfl
          rotate_left
          · simp only [Act.put, List.setIfInBounds_toArray, List.set_cons_zero, List.set_cons_succ, i64_w, i32_w]
            rfl
          refine take_ (i := 12) (N := some 23) (v := ?_) (a' := ?_) #[true, true, false, true, true, false, false, true, true, false, false, true, true, false, false, true, false, false] rfl rfl (take_ofW HT_.out HW_.out (by kernel_rfl)) (fun _ _ _ h => h) (Or.inl ⟨by rfl, ?_⟩) hHeld ?_ ?_
          rotate_left
          · rintro w' ⟨s0, s1, s2, s3, s4⟩
            go_simp
            with_reducible rfl
          rotate_left
          · simp only [Act.put, List.setIfInBounds_toArray, List.set_cons_zero, List.set_cons_succ, i64_w, i32_w]
            rfl
          refine one_ (i := 2) (N := some 13) #[true, true, true, true, true, false, false, true, true, false, false, true, true, false, false, true, false, false] rfl rfl (one_of HT_.out (by kernel_rfl)) (by decide) (fun K hK => ?_)
          refine goes_ Try.func46 (by kernel_rfl) rfl #[.int .i64 a0_0, .int .i64 1] (by rfl) rfl rfl (by (try simp only [List.map_toArray, List.map_cons, List.map_nil]); first | done | rfl | (simp only [List.length_drop, List.length_take]; rfl)) ?_
          with_reducible refine (peneloperef18_number.calls k a0_0 1 t152 _ A3.out).mono ?_
          rintro e w15 ⟨rfl, hb⟩
          refine ⟨_, rfl, ?_⟩
          have n0_ := Aside0.mk (blk_below (g := gb149) (o := .cells #[.int .i64 a0_0, .int .i64 a0_1, .int .i64 a0_2, .int .i64 a0_3, .string a0_4] 26 (0, 0)) (by (with_reducible repeat (first | refine blk_drewN ?_ _ | refine blk_drew ?_ | refine blk_alloc ?_ _)); exact BK149.out) hb)
          have n1_ := Aside0.mk (below_step (by repeat (first | (with_reducible first | exact HB.out | apply below_alloc | apply pw_below_drewN | apply below_drew1 | refine below_set ?_ GE149.out) | exact HB.out)) hb)
          clear BK149
          clear HB
          have BK149 := n0_
          have HB := n1_
          clear n0_ n1_
          (try clear hb)
          (try clear hb2)
          (try clear hk)
          (try clear hi)
          refine hK.out _ _ ⟨(blk_cell BK149.out 0).trans rfl, (blk_cell BK149.out 1).trans rfl, (blk_cell BK149.out 2).trans rfl, (blk_cell BK149.out 3).trans rfl, (blk_cell BK149.out 4).trans rfl⟩ (fun hHeld => ?_)
          clear hK K
          refine norm_ (a' := ?_) ?_ ?_
          rotate_left
          · show Act.put _ (some 13) _ = _
            simp only [Act.put, List.setIfInBounds_toArray, List.set_cons_zero, List.set_cons_succ, i64_w, i32_w]
            rfl
          refine one_ (i := 5) (N := some 16) #[true, true, true, true, true, true, false, true, true, false, false, true, true, false, false, true, false, false] rfl rfl (one_of HT_.out (by kernel_rfl)) (by decide) (fun K hK => ?_)
          refine goes_ Try.func46 (by kernel_rfl) rfl #[.int .i64 a0_1, .int .i64 1] (by rfl) rfl rfl (by (try simp only [List.map_toArray, List.map_cons, List.map_nil]); first | done | rfl | (simp only [List.length_drop, List.length_take]; rfl)) ?_
          with_reducible refine (peneloperef18_number.calls k a0_1 1 t153 _ A4.out).mono ?_
          rintro e w16 ⟨rfl, hb⟩
          refine ⟨_, rfl, ?_⟩
          have n0_ := Aside0.mk (blk_below (g := gb149) (o := .cells #[.int .i64 a0_0, .int .i64 a0_1, .int .i64 a0_2, .int .i64 a0_3, .string a0_4] 26 (0, 0)) (by (with_reducible repeat (first | refine blk_drewN ?_ _ | refine blk_drew ?_ | refine blk_alloc ?_ _)); exact BK149.out) hb)
          have n1_ := Aside0.mk (below_step (by repeat (first | (with_reducible first | exact HB.out | apply below_alloc | apply pw_below_drewN | apply below_drew1 | refine below_set ?_ GE149.out) | exact HB.out)) hb)
          clear BK149
          clear HB
          have BK149 := n0_
          have HB := n1_
          clear n0_ n1_
          (try clear hb)
          (try clear hb2)
          (try clear hk)
          (try clear hi)
          refine hK.out _ _ ⟨(blk_cell BK149.out 0).trans rfl, (blk_cell BK149.out 1).trans rfl, (blk_cell BK149.out 2).trans rfl, (blk_cell BK149.out 3).trans rfl, (blk_cell BK149.out 4).trans rfl⟩ (fun hHeld => ?_)
          clear hK K
          refine norm_ (a' := ?_) ?_ ?_
          rotate_left
          · show Act.put _ (some 16) _ = _
            simp only [Act.put, List.setIfInBounds_toArray, List.set_cons_zero, List.set_cons_succ, i64_w, i32_w]
            rfl
          refine pure_ (i := 6) (N := some 17) (v := ?_) (a' := ?_) #[true, true, true, true, true, true, true, true, true, false, false, true, true, false, false, true, false, false] rfl rfl (any_of HT_.out (by kernel_rfl)) (fun _ _ _ h => h) (Or.inl ⟨by rfl, ?_⟩) ?_ ?_
          rotate_left
          · intro w'
            go_simp
            with_reducible rfl
          rotate_left
          · simp only [Act.put, List.setIfInBounds_toArray, List.set_cons_zero, List.set_cons_succ, i64_w, i32_w]
            rfl
          refine one_ (i := 9) (N := some 20) #[true, true, true, true, true, true, true, true, true, true, false, true, true, false, false, true, false, false] rfl rfl (one_of HT_.out (by kernel_rfl)) (by decide) (fun K hK => ?_)
          refine goes_ Try.func46 (by kernel_rfl) rfl #[.int .i64 a0_2, .int .i64 6] (by rfl) rfl rfl (by (try simp only [List.map_toArray, List.map_cons, List.map_nil]); first | done | rfl | (simp only [List.length_drop, List.length_take]; rfl)) ?_
          with_reducible refine (peneloperef18_number.calls k a0_2 6 t154 _ A6.out).mono ?_
          rintro e w17 ⟨rfl, hb⟩
          refine ⟨_, rfl, ?_⟩
          have n0_ := Aside0.mk (blk_below (g := gb149) (o := .cells #[.int .i64 a0_0, .int .i64 a0_1, .int .i64 a0_2, .int .i64 a0_3, .string a0_4] 26 (0, 0)) (by (with_reducible repeat (first | refine blk_drewN ?_ _ | refine blk_drew ?_ | refine blk_alloc ?_ _)); exact BK149.out) hb)
          have n1_ := Aside0.mk (below_step (by repeat (first | (with_reducible first | exact HB.out | apply below_alloc | apply pw_below_drewN | apply below_drew1 | refine below_set ?_ GE149.out) | exact HB.out)) hb)
          clear BK149
          clear HB
          have BK149 := n0_
          have HB := n1_
          clear n0_ n1_
          (try clear hb)
          (try clear hb2)
          (try clear hk)
          (try clear hi)
          refine hK.out _ _ ⟨(blk_cell BK149.out 0).trans rfl, (blk_cell BK149.out 1).trans rfl, (blk_cell BK149.out 2).trans rfl, (blk_cell BK149.out 3).trans rfl, (blk_cell BK149.out 4).trans rfl⟩ (fun hHeld => ?_)
          clear hK K
          refine norm_ (a' := ?_) ?_ ?_
          rotate_left
          · show Act.put _ (some 20) _ = _
            simp only [Act.put, List.setIfInBounds_toArray, List.set_cons_zero, List.set_cons_succ, i64_w, i32_w]
            rfl
          refine pure_ (i := 10) (N := some 21) (v := ?_) (a' := ?_) #[true, true, true, true, true, true, true, true, true, true, true, true, true, false, false, true, false, false] rfl rfl (any_of HT_.out (by kernel_rfl)) (fun _ _ _ h => h) (Or.inl ⟨by rfl, ?_⟩) ?_ ?_
          rotate_left
          · intro w'
            go_simp
            with_reducible rfl
          rotate_left
          · simp only [Act.put, List.setIfInBounds_toArray, List.set_cons_zero, List.set_cons_succ, i64_w, i32_w]
            rfl
          refine one_ (i := 13) (N := some 24) #[true, true, true, true, true, true, true, true, true, true, true, true, true, true, false, true, false, false] rfl rfl (one_of HT_.out (by kernel_rfl)) (by decide) (fun K hK => ?_)
          refine goes_ Try.func46 (by kernel_rfl) rfl #[.int .i64 a0_3, .int .i64 6] (by rfl) rfl rfl (by (try simp only [List.map_toArray, List.map_cons, List.map_nil]); first | done | rfl | (simp only [List.length_drop, List.length_take]; rfl)) ?_
          with_reducible refine (peneloperef18_number.calls k a0_3 6 t155 _ A8.out).mono ?_
          rintro e w18 ⟨rfl, hb⟩
          refine ⟨_, rfl, ?_⟩
          have n0_ := Aside0.mk (blk_below (g := gb149) (o := .cells #[.int .i64 a0_0, .int .i64 a0_1, .int .i64 a0_2, .int .i64 a0_3, .string a0_4] 26 (0, 0)) (by (with_reducible repeat (first | refine blk_drewN ?_ _ | refine blk_drew ?_ | refine blk_alloc ?_ _)); exact BK149.out) hb)
          have n1_ := Aside0.mk (below_step (by repeat (first | (with_reducible first | exact HB.out | apply below_alloc | apply pw_below_drewN | apply below_drew1 | refine below_set ?_ GE149.out) | exact HB.out)) hb)
          clear BK149
          clear HB
          have BK149 := n0_
          have HB := n1_
          clear n0_ n1_
          (try clear hb)
          (try clear hb2)
          (try clear hk)
          (try clear hi)
          refine hK.out _ _ ⟨(blk_cell BK149.out 0).trans rfl, (blk_cell BK149.out 1).trans rfl, (blk_cell BK149.out 2).trans rfl, (blk_cell BK149.out 3).trans rfl, (blk_cell BK149.out 4).trans rfl⟩ (fun hHeld => ?_)
          clear hK K
          refine norm_ (a' := ?_) ?_ ?_
          rotate_left
          · show Act.put _ (some 24) _ = _
            simp only [Act.put, List.setIfInBounds_toArray, List.set_cons_zero, List.set_cons_succ, i64_w, i32_w]
            rfl
          refine pure_ (i := 14) (N := some 25) (v := ?_) (a' := ?_) #[true, true, true, true, true, true, true, true, true, true, true, true, true, true, true, true, false, false] rfl rfl (any_of HT_.out (by kernel_rfl)) (fun _ _ _ h => h) (Or.inl ⟨by rfl, ?_⟩) ?_ ?_
          rotate_left
          · intro w'
            go_simp
            with_reducible rfl
          rotate_left
          · simp only [Act.put, List.setIfInBounds_toArray, List.set_cons_zero, List.set_cons_succ, i64_w, i32_w]
            rfl
          refine pure_ (i := 16) (N := some 27) (v := ?_) (a' := ?_) #[true, true, true, true, true, true, true, true, true, true, true, true, true, true, true, true, true, false] rfl rfl (any_of HT_.out (by kernel_rfl)) (fun _ _ _ h => h) (Or.inl ⟨by rfl, ?_⟩) ?_ ?_
          rotate_left
          · intro w'
            go_simp
            with_reducible rfl
          rotate_left
          · simp only [Act.put, List.setIfInBounds_toArray, List.set_cons_zero, List.set_cons_succ, i64_w, i32_w]
            rfl
          refine pure_ (i := 17) (N := some 2) (v := ?_) (a' := ?_) #[true, true, true, true, true, true, true, true, true, true, true, true, true, true, true, true, true, true] rfl rfl (any_of HT_.out (by kernel_rfl)) (fun _ _ _ h => h) (Or.inl ⟨by rfl, ?_⟩) ?_ ?_
          rotate_left
          · intro w'
            go_simp
            with_reducible rfl
          rotate_left
          · simp only [Act.put, List.setIfInBounds_toArray, List.set_cons_zero, List.set_cons_succ, i64_w, i32_w]
            rfl
          refine done_ (done_of HT_.out (by kernel_rfl)) ?_
          try go_wp2
          go_ret
          exact ⟨by first | rfl | (simp [errW_none, errW_some] <;> rfl) | (simp [*, errW_none, errW_some] <;> rfl), by repeat (first | (with_reducible first | exact HB.out | apply below_alloc | apply pw_below_drewN | apply below_drew1 | refine below_set ?_ GE149.out) | exact HB.out)⟩
        · rw [if_neg c10] at H
          exact absurd H (by simp)
      · rw [if_neg c9] at H
        exact absurd H (by simp)
    · rw [if_neg c7] at H
      exact absurd H (by simp)
  · rw [if_neg c5] at H
    exact absurd H (by simp)

end Go.Proofs.Ytmbpnggldpgcdaa.B
