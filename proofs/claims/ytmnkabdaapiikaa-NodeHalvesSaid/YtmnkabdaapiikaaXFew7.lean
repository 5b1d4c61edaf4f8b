/- The law's few: what the machine's call comes to, its rows told as cuts of what came in. -/
import Derived.Test.YtmnkabdaapiikaaXCut
import Derived.Test.YtmnkabdaapiikaaCx0
namespace Go.Proofs.Ytmnkabdaapiikaa
open Go.RowKit Go.Proofs.YtmnkabdaapiikaaW.PrintWords Go.Proofs.YtmnkabdaapiikaaW.PrintLast Go.Proofs.YtmnkabdaapiikaaW.PrintMore Go.Proofs.Ytmnkabdaapiikaa.C
attribute [local go_sem] max2_int min2_int max_two min_two max_three min_three max_four min_four   -- for this text's walks alone
set_option linter.unusedVariables false
set_option linter.unusedSimpArgs false
set_option maxHeartbeats 8000000 in
set_option maxRecDepth 100000 in
theorem few7.calls (lf : Bool) (A1 : Option Addr) (c1 : Nat) (Ks : List ByteArray) (A2 : Option Addr) (c2 : Nat) (Vs : List ByteArray) (A3 : Option Addr) (c3 : Nat) (Cs : List Int) (w : World) (hc1 : Ks.length ≤ c1) (hc2 : Vs.length ≤ c2) (hc3 : Cs.length ≤ c3) :
    Calls Try.prog 10 #[.agg #[.bool lf, .slice A1 Ks.length c1, .slice A2 Vs.length c2, .slice A3 Cs.length c3]] w fun e w' => e = .returned (.agg #[.bool lf, .slice A1 (Ks.take 30).length c1, .slice A2 (Vs.take 30).length c2, .slice A3 (Cs.take 30).length c3]) ∧ Below w.heap.size w w' := by
  have hu25 := Try.underlying25
  have HC1 := Aside0.mk hc1
  have HC2 := Aside0.mk hc2
  have HC3 := Aside0.mk hc3
  have HB := Aside0.mk (Below.refl w.heap.size w)
  clear hc1 hc2 hc3
  go_enter Try.func10, Try.ntmps10
  go_upto_region 1 with (first | ((with_reducible refine gate_dst (N := 1) rfl ?_); refine box_event ?hg (N := 1) ?hd (cs := #[.bool lf, .slice A1 Ks.length c1, .slice A2 Vs.length c2, .slice A3 Cs.length c3]) (t := 25) ?hr ?_; (case hd => rfl); (case hg => rfl); (case hr => first | (go_simp; done) | (go_simp; rfl)); intro g1 hg w1 hbox hb; have NB := Aside0.mk (below_step (by repeat (first | (with_reducible first | exact HB.out | apply below_alloc | apply pw_below_drewN | apply below_drew1) | exact HB.out)) hb); have G1 := Aside0.mk (show w.heap.size ≤ g1 by rw [hg]; exact below_size (by repeat (first | (with_reducible first | exact HB.out | apply below_alloc | apply pw_below_drewN | apply below_drew1) | exact HB.out))); clear HB; have HB := NB; have B1 := Aside0.mk hbox; clear NB hb hbox hg) | ((with_reducible refine gate_dst (N := 2) rfl ?_); refine box_event ?hg (N := 2) ?hd (cs := #[.bool false, .slice none 0 0, .slice none 0 0, .slice none 0 0]) (t := 25) ?hr ?_; (case hd => rfl); (case hg => rfl); (case hr => first | (go_simp; done) | (go_simp; rfl)); intro g2 hg w2 hbox hb; have NB := Aside0.mk (below_step (by repeat (first | (with_reducible first | exact HB.out | apply below_alloc | apply pw_below_drewN | apply below_drew1) | exact HB.out)) hb); have G2 := Aside0.mk (show w.heap.size ≤ g2 by rw [hg]; exact below_size (by repeat (first | (with_reducible first | exact HB.out | apply below_alloc | apply pw_below_drewN | apply below_drew1) | exact HB.out))); have XB1 := Aside0.mk (blk_below (o := .cells #[.bool lf, .slice A1 Ks.length c1, .slice A2 Vs.length c2, .slice A3 Cs.length c3] 25 (0, 0)) (by (with_reducible repeat (first | refine blk_drewN ?_ _ | refine blk_drew ?_ | refine blk_alloc ?_ _)); exact B1.out) hb); have N12 := Aside0.mk (show g1 ≠ g2 by rw [hg]; exact Nat.ne_of_lt (blk_lt (o := .cells #[.bool lf, .slice A1 Ks.length c1, .slice A2 Vs.length c2, .slice A3 Cs.length c3] 25 (0, 0)) (by (with_reducible repeat (first | refine blk_drewN ?_ _ | refine blk_drew ?_ | refine blk_alloc ?_ _)); exact B1.out))); clear HB; have HB := NB; clear B1; have B1 := XB1; clear XB1; have B2 := Aside0.mk hbox; clear NB hb hbox hg))
  have n12 := N12.out
  obtain ⟨m1, hm1⟩ : ∃ j_ : Int, (mn (Ks.length : Int) 30) = j_ := ⟨_, rfl⟩
  have hm1l : 0 ≤ m1 := by (rw [← hm1]; unfold mn; (repeat' split) <;> omega)
  have hm1h : m1 ≤ (Ks.length : Int) := by (rw [← hm1]; unfold mn; (repeat' split) <;> omega)
  have hm1_ : (if 30 < (Ks.length : Int) then 30 else (Ks.length : Int)) = m1 := hm1
  obtain ⟨i0m1, hi0m1, _, hszm1, _⟩ := info_parts info9
  have hcutm1 := cut_to (P := Try.prog) 22 9 .i64 Try.underlying22 hi0m1 A1 Ks.length c1 m1 hm1l hm1h HC1.out
  have hym1 : (Ks.take 30).length = (m1 : Int).toNat := by (rw [List.length_take, ← hm1]; unfold mn; (repeat' split) <;> omega)
  rw [← hym1] at hcutm1
  generalize eKK3 : Ks.take 30 = K3 at *
  clear hi0m1 hszm1 hym1 hm1
  obtain ⟨m2, hm2⟩ : ∃ j_ : Int, (mn (Vs.length : Int) 30) = j_ := ⟨_, rfl⟩
  have hm2l : 0 ≤ m2 := by (rw [← hm2]; unfold mn; (repeat' split) <;> omega)
  have hm2h : m2 ≤ (Vs.length : Int) := by (rw [← hm2]; unfold mn; (repeat' split) <;> omega)
  have hm2_ : (if 30 < (Vs.length : Int) then 30 else (Vs.length : Int)) = m2 := hm2
  obtain ⟨i0m2, hi0m2, _, hszm2, _⟩ := info_parts info9
  have hcutm2 := cut_to (P := Try.prog) 22 9 .i64 Try.underlying22 hi0m2 A2 Vs.length c2 m2 hm2l hm2h HC2.out
  have hym2 : (Vs.take 30).length = (m2 : Int).toNat := by (rw [List.length_take, ← hm2]; unfold mn; (repeat' split) <;> omega)
  rw [← hym2] at hcutm2
  generalize eKV3 : Vs.take 30 = V3 at *
  clear hi0m2 hszm2 hym2 hm2
  obtain ⟨m3, hm3⟩ : ∃ j_ : Int, (mn (Cs.length : Int) 30) = j_ := ⟨_, rfl⟩
  have hm3l : 0 ≤ m3 := by (rw [← hm3]; unfold mn; (repeat' split) <;> omega)
  have hm3h : m3 ≤ (Cs.length : Int) := by (rw [← hm3]; unfold mn; (repeat' split) <;> omega)
  have hm3_ : (if 30 < (Cs.length : Int) then 30 else (Cs.length : Int)) = m3 := hm3
  obtain ⟨i0m3, hi0m3, _, hszm3, _⟩ := info_parts info3
  have hcutm3 := cut_to (P := Try.prog) 23 3 .i64 Try.underlying23 hi0m3 A3 Cs.length c3 m3 hm3l hm3h HC3.out
  have hym3 : (Cs.take 30).length = (m3 : Int).toNat := by (rw [List.length_take, ← hm3]; unfold mn; (repeat' split) <;> omega)
  rw [← hym3] at hcutm3
  generalize eKC3 : Cs.take 30 = C3 at *
  clear hi0m3 hszm3 hym3 hm3
  have n0_ := Aside0.mk (below_drew1 HB.out)
  have n1_ := Aside0.mk (blk_drew B1.out)
  have n2_ := Aside0.mk (blk_drew B2.out)
  clear HB B1 B2
  have HB := n0_
  have B1 := n1_
  have B2 := n2_
  clear n0_ n1_ n2_
  refine start_ (n := 27) (S := fun w' => w'.cell? ⟨g1, 0, none⟩ = some (.bool lf) ∧ w'.cell? ⟨g1, 1, none⟩ = some (.slice A1 Ks.length c1) ∧ w'.cell? ⟨g1, 2, none⟩ = some (.slice A2 Vs.length c2) ∧ w'.cell? ⟨g1, 3, none⟩ = some (.slice A3 Cs.length c3)) (ds := [22, 24, 26]) #[false, false, false, false, false, false, false, false, false, false, false, false, false, false, false, false, false, false, false, false, false, false, false, false, false, false, false] (by kernel_rfl) rfl rfl ⟨((blk_cell (B1.out) 0).trans rfl), ((blk_cell (B1.out) 1).trans rfl), ((blk_cell (B1.out) 2).trans rfl), ((blk_cell (B1.out) 3).trans rfl)⟩ (fun hHeld => ?_)
  generalize w2.drew = q at HB B1 B2 hHeld ⊢
  refine pure_ (i := 0) (N := some 3) (v := ?_) (a' := ?_) #[true, false, false, false, false, false, false, false, false, false, false, false, false, false, false, false, false, false, false, false, false, false, false, false, false, false, false] rfl rfl (by kernel_rfl) (fun _ _ _ h => h) (Or.inl ⟨by rfl, ?_⟩) ?_ ?_
  rotate_left
  · intro w'
    go_simp
    with_reducible rfl
  rotate_left
  · simp only [Act.put, List.setIfInBounds_toArray, List.set_cons_zero, List.set_cons_succ, i64_w, i32_w]
    rfl
  refine pure_ (i := 2) (N := some 5) (v := ?_) (a' := ?_) #[true, false, true, false, false, false, false, false, false, false, false, false, false, false, false, false, false, false, false, false, false, false, false, false, false, false, false] rfl rfl (by kernel_rfl) (fun _ _ _ h => h) (Or.inl ⟨by rfl, ?_⟩) ?_ ?_
  rotate_left
  · intro w'
    go_simp
    with_reducible rfl
  rotate_left
  · simp only [Act.put, List.setIfInBounds_toArray, List.set_cons_zero, List.set_cons_succ, i64_w, i32_w]
    rfl
  refine pure_ (i := 7) (N := some 10) (v := ?_) (a' := ?_) #[true, false, true, false, false, false, false, true, false, false, false, false, false, false, false, false, false, false, false, false, false, false, false, false, false, false, false] rfl rfl (by kernel_rfl) (fun _ _ _ h => h) (Or.inl ⟨by rfl, ?_⟩) ?_ ?_
  rotate_left
  · intro w'
    go_simp
    with_reducible rfl
  rotate_left
  · simp only [Act.put, List.setIfInBounds_toArray, List.set_cons_zero, List.set_cons_succ, i64_w, i32_w]
    rfl
  refine pure_ (i := 9) (N := some 12) (v := ?_) (a' := ?_) #[true, false, true, false, false, false, false, true, false, true, false, false, false, false, false, false, false, false, false, false, false, false, false, false, false, false, false] rfl rfl (by kernel_rfl) (fun _ _ _ h => h) (Or.inl ⟨by rfl, ?_⟩) ?_ ?_
  rotate_left
  · intro w'
    go_simp
    with_reducible rfl
  rotate_left
  · simp only [Act.put, List.setIfInBounds_toArray, List.set_cons_zero, List.set_cons_succ, i64_w, i32_w]
    rfl
  refine pure_ (i := 14) (N := some 17) (v := ?_) (a' := ?_) #[true, false, true, false, false, false, false, true, false, true, false, false, false, false, true, false, false, false, false, false, false, false, false, false, false, false, false] rfl rfl (by kernel_rfl) (fun _ _ _ h => h) (Or.inl ⟨by rfl, ?_⟩) ?_ ?_
  rotate_left
  · intro w'
    go_simp
    with_reducible rfl
  rotate_left
  · simp only [Act.put, List.setIfInBounds_toArray, List.set_cons_zero, List.set_cons_succ, i64_w, i32_w]
    rfl
  refine pure_ (i := 16) (N := some 19) (v := ?_) (a' := ?_) #[true, false, true, false, false, false, false, true, false, true, false, false, false, false, true, false, true, false, false, false, false, false, false, false, false, false, false] rfl rfl (by kernel_rfl) (fun _ _ _ h => h) (Or.inl ⟨by rfl, ?_⟩) ?_ ?_
  rotate_left
  · intro w'
    go_simp
    with_reducible rfl
  rotate_left
  · simp only [Act.put, List.setIfInBounds_toArray, List.set_cons_zero, List.set_cons_succ, i64_w, i32_w]
    rfl
  refine take_ (i := 1) (N := some 4) (v := ?_) (a' := ?_) #[true, true, true, false, false, false, false, true, false, true, false, false, false, false, true, false, true, false, false, false, false, false, false, false, false, false, false] rfl rfl (by kernel_rfl) (fun _ _ _ h => h) (Or.inl ⟨by rfl, ?_⟩) hHeld ?_ ?_
  rotate_left
  · rintro w' ⟨s0, s1, s2, s3⟩
    go_simp
    with_reducible rfl
  rotate_left
  · simp only [Act.put, List.setIfInBounds_toArray, List.set_cons_zero, List.set_cons_succ, i64_w, i32_w]
    rfl
  refine take_ (i := 3) (N := some 6) (v := ?_) (a' := ?_) #[true, true, true, true, false, false, false, true, false, true, false, false, false, false, true, false, true, false, false, false, false, false, false, false, false, false, false] rfl rfl (by kernel_rfl) (fun _ _ _ h => h) (Or.inl ⟨by rfl, ?_⟩) hHeld ?_ ?_
  rotate_left
  · rintro w' ⟨s0, s1, s2, s3⟩
    go_simp
    with_reducible rfl
  rotate_left
  · simp only [Act.put, List.setIfInBounds_toArray, List.set_cons_zero, List.set_cons_succ, i64_w, i32_w]
    rfl
  refine pure_ (i := 4) (N := some 7) (v := ?_) (a' := ?_) #[true, true, true, true, true, false, false, true, false, true, false, false, false, false, true, false, true, false, false, false, false, false, false, false, false, false, false] rfl rfl (by kernel_rfl) (fun _ _ _ h => h) (Or.inl ⟨by rfl, ?_⟩) ?_ ?_
  rotate_left
  · intro w'
    go_simp
    with_reducible rfl
  rotate_left
  · simp only [Act.put, List.setIfInBounds_toArray, List.set_cons_zero, List.set_cons_succ, i64_w, i32_w]
    rfl
  refine pure_ (i := 5) (N := some 8) (v := ?_) (a' := ?_) #[true, true, true, true, true, true, false, true, false, true, false, false, false, false, true, false, true, false, false, false, false, false, false, false, false, false, false] rfl rfl (by kernel_rfl) (fun _ _ _ h => h) (Or.inl ⟨by rfl, ?_⟩) ?_ ?_
  rotate_left
  · intro w'
    go_simp
    with_reducible rfl
  rotate_left
  · simp only [Act.put, List.setIfInBounds_toArray, List.set_cons_zero, List.set_cons_succ, i64_w, i32_w]
    rfl
  refine pure_ (i := 6) (N := some 9) (v := ?_) (a' := ?_) #[true, true, true, true, true, true, true, true, false, true, false, false, false, false, true, false, true, false, false, false, false, false, false, false, false, false, false] rfl rfl (by kernel_rfl) (fun _ _ _ h => h) (Or.inl ⟨by rfl, ?_⟩) ?_ ?_
  rotate_left
  · intro w'
    go_simp
    with_reducible rfl
  rotate_left
  · simp only [Act.put, List.setIfInBounds_toArray, List.set_cons_zero, List.set_cons_succ, i64_w, i32_w]
    rfl
  refine take_ (i := 8) (N := some 11) (v := ?_) (a' := ?_) #[true, true, true, true, true, true, true, true, true, true, false, false, false, false, true, false, true, false, false, false, false, false, false, false, false, false, false] rfl rfl (by kernel_rfl) (fun _ _ _ h => h) (Or.inl ⟨by rfl, ?_⟩) hHeld ?_ ?_
  rotate_left
  · rintro w' ⟨s0, s1, s2, s3⟩
    go_simp
    with_reducible rfl
  rotate_left
  · simp only [Act.put, List.setIfInBounds_toArray, List.set_cons_zero, List.set_cons_succ, i64_w, i32_w]
    rfl
  refine take_ (i := 10) (N := some 13) (v := ?_) (a' := ?_) #[true, true, true, true, true, true, true, true, true, true, true, false, false, false, true, false, true, false, false, false, false, false, false, false, false, false, false] rfl rfl (by kernel_rfl) (fun _ _ _ h => h) (Or.inl ⟨by rfl, ?_⟩) hHeld ?_ ?_
  rotate_left
  · rintro w' ⟨s0, s1, s2, s3⟩
    go_simp
    with_reducible rfl
  rotate_left
  · simp only [Act.put, List.setIfInBounds_toArray, List.set_cons_zero, List.set_cons_succ, i64_w, i32_w]
    rfl
  refine pure_ (i := 11) (N := some 14) (v := ?_) (a' := ?_) #[true, true, true, true, true, true, true, true, true, true, true, true, false, false, true, false, true, false, false, false, false, false, false, false, false, false, false] rfl rfl (by kernel_rfl) (fun _ _ _ h => h) (Or.inl ⟨by rfl, ?_⟩) ?_ ?_
  rotate_left
  · intro w'
    go_simp
    with_reducible rfl
  rotate_left
  · simp only [Act.put, List.setIfInBounds_toArray, List.set_cons_zero, List.set_cons_succ, i64_w, i32_w]
    rfl
  refine pure_ (i := 12) (N := some 15) (v := ?_) (a' := ?_) #[true, true, true, true, true, true, true, true, true, true, true, true, true, false, true, false, true, false, false, false, false, false, false, false, false, false, false] rfl rfl (by kernel_rfl) (fun _ _ _ h => h) (Or.inl ⟨by rfl, ?_⟩) ?_ ?_
  rotate_left
  · intro w'
    go_simp
    with_reducible rfl
  rotate_left
  · simp only [Act.put, List.setIfInBounds_toArray, List.set_cons_zero, List.set_cons_succ, i64_w, i32_w]
    rfl
  refine pure_ (i := 13) (N := some 16) (v := ?_) (a' := ?_) #[true, true, true, true, true, true, true, true, true, true, true, true, true, true, true, false, true, false, false, false, false, false, false, false, false, false, false] rfl rfl (by kernel_rfl) (fun _ _ _ h => h) (Or.inl ⟨by rfl, ?_⟩) ?_ ?_
  rotate_left
  · intro w'
    go_simp
    with_reducible rfl
  rotate_left
  · simp only [Act.put, List.setIfInBounds_toArray, List.set_cons_zero, List.set_cons_succ, i64_w, i32_w]
    rfl
  refine take_ (i := 15) (N := some 18) (v := ?_) (a' := ?_) #[true, true, true, true, true, true, true, true, true, true, true, true, true, true, true, true, true, false, false, false, false, false, false, false, false, false, false] rfl rfl (by kernel_rfl) (fun _ _ _ h => h) (Or.inl ⟨by rfl, ?_⟩) hHeld ?_ ?_
  rotate_left
  · rintro w' ⟨s0, s1, s2, s3⟩
    go_simp
    with_reducible rfl
  rotate_left
  · simp only [Act.put, List.setIfInBounds_toArray, List.set_cons_zero, List.set_cons_succ, i64_w, i32_w]
    rfl
  refine take_ (i := 17) (N := some 20) (v := ?_) (a' := ?_) #[true, true, true, true, true, true, true, true, true, true, true, true, true, true, true, true, true, true, false, false, false, false, false, false, false, false, false] rfl rfl (by kernel_rfl) (fun _ _ _ h => h) (Or.inl ⟨by rfl, ?_⟩) hHeld ?_ ?_
  rotate_left
  · rintro w' ⟨s0, s1, s2, s3⟩
    go_simp
    with_reducible rfl
  rotate_left
  · simp only [Act.put, List.setIfInBounds_toArray, List.set_cons_zero, List.set_cons_succ, i64_w, i32_w]
    rfl
  refine pure_ (i := 18) (N := some 21) (v := ?_) (a' := ?_) #[true, true, true, true, true, true, true, true, true, true, true, true, true, true, true, true, true, true, true, false, false, false, false, false, false, false, false] rfl rfl (by kernel_rfl) (fun _ _ _ h => h) (Or.inl ⟨by rfl, ?_⟩) ?_ ?_
  rotate_left
  · intro w'
    go_simp
    with_reducible rfl
  rotate_left
  · simp only [Act.put, List.setIfInBounds_toArray, List.set_cons_zero, List.set_cons_succ, i64_w, i32_w]
    rfl
  refine pure_ (i := 19) (N := some 22) (v := ?_) (a' := ?_) #[true, true, true, true, true, true, true, true, true, true, true, true, true, true, true, true, true, true, true, true, false, false, false, false, false, false, false] rfl rfl (by kernel_rfl) (fun _ _ _ h => h) (Or.inl ⟨by rfl, ?_⟩) ?_ ?_
  rotate_left
  · intro w'
    go_simp
    with_reducible rfl
  rotate_left
  · simp only [Act.put, List.setIfInBounds_toArray, List.set_cons_zero, List.set_cons_succ, i64_w, i32_w]
    rfl
  refine pure_ (i := 20) (N := some 23) (v := ?_) (a' := ?_) #[true, true, true, true, true, true, true, true, true, true, true, true, true, true, true, true, true, true, true, true, true, false, false, false, false, false, false] rfl rfl (by kernel_rfl) (fun _ _ _ h => h) (Or.inl ⟨by rfl, ?_⟩) ?_ ?_
  rotate_left
  · intro w'
    go_simp
    with_reducible rfl
  rotate_left
  · simp only [Act.put, List.setIfInBounds_toArray, List.set_cons_zero, List.set_cons_succ, i64_w, i32_w]
    rfl
  refine pure_ (i := 21) (N := some 24) (v := ?_) (a' := ?_) #[true, true, true, true, true, true, true, true, true, true, true, true, true, true, true, true, true, true, true, true, true, true, false, false, false, false, false] rfl rfl (by kernel_rfl) (fun _ _ _ h => h) (Or.inl ⟨by rfl, ?_⟩) ?_ ?_
  rotate_left
  · intro w'
    go_simp
    with_reducible rfl
  rotate_left
  · simp only [Act.put, List.setIfInBounds_toArray, List.set_cons_zero, List.set_cons_succ, i64_w, i32_w]
    rfl
  refine last_ (i := 22) (N := none) #[true, true, true, true, true, true, true, true, true, true, true, true, true, true, true, true, true, true, true, true, true, true, true, false, false, false, false] rfl rfl (by kernel_rfl) (by decide) (fun K hK => ?_)
  have yf0 := blk_frozen B1.out 0
  have yf1 := blk_frozen B1.out 1
  have yf2 := blk_frozen B1.out 2
  have yf3 := blk_frozen B1.out 3
  refine skip_ (w1 := ?_) (by rfl) rfl ?_ ?_
  rotate_left
  · go_simp
    rfl
  refine hK.out _ _ ?_
  clear hK K
  refine pure_ (i := 23) (N := some 25) (v := ?_) (a' := ?_) #[true, true, true, true, true, true, true, true, true, true, true, true, true, true, true, true, true, true, true, true, true, true, true, true, false, false, false] rfl rfl (by kernel_rfl) (fun _ _ _ h => h) (Or.inl ⟨by rfl, ?_⟩) ?_ ?_
  rotate_left
  · intro w'
    go_simp
    with_reducible rfl
  rotate_left
  · simp only [Act.put, List.setIfInBounds_toArray, List.set_cons_zero, List.set_cons_succ, i64_w, i32_w]
    rfl
  refine last_ (i := 24) (N := none) #[true, true, true, true, true, true, true, true, true, true, true, true, true, true, true, true, true, true, true, true, true, true, true, true, true, false, false] rfl rfl (by kernel_rfl) (by decide) (fun K hK => ?_)
  refine skip_ (w1 := ?_) (by rfl) rfl ?_ ?_
  rotate_left
  · go_simp
    rfl
  refine hK.out _ _ ?_
  clear hK K
  refine pure_ (i := 25) (N := some 26) (v := ?_) (a' := ?_) #[true, true, true, true, true, true, true, true, true, true, true, true, true, true, true, true, true, true, true, true, true, true, true, true, true, true, false] rfl rfl (by kernel_rfl) (fun _ _ _ h => h) (Or.inl ⟨by rfl, ?_⟩) ?_ ?_
  rotate_left
  · intro w'
    go_simp
    with_reducible rfl
  rotate_left
  · simp only [Act.put, List.setIfInBounds_toArray, List.set_cons_zero, List.set_cons_succ, i64_w, i32_w]
    rfl
  refine last_ (i := 26) (N := none) #[true, true, true, true, true, true, true, true, true, true, true, true, true, true, true, true, true, true, true, true, true, true, true, true, true, true, true] rfl rfl (by kernel_rfl) (by decide) (fun K hK => ?_)
  refine skip_ (w1 := ?_) (by rfl) rfl ?_ ?_
  rotate_left
  · go_simp
    rfl
  refine hK.out _ _ ?_
  clear hK K
  refine done_ (by kernel_rfl) ?_
  go_upto_region 2 with fail
  have X1 := Aside0.mk (show ((((q.setCell ⟨g1, 1, none⟩ (.slice A1 K3.length c1)).setCell ⟨g1, 2, none⟩ (.slice A2 V3.length c2)).setCell ⟨g1, 3, none⟩ (.slice A3 C3.length c3))).heap[g1]? = some (.cells #[.bool lf, .slice A1 K3.length c1, .slice A2 V3.length c2, .slice A3 C3.length c3] 25 (0, 0)) from blk_put (cs := #[.bool lf, .slice A1 K3.length c1, .slice A2 V3.length c2, .slice A3 Cs.length c3]) (blk_put (cs := #[.bool lf, .slice A1 K3.length c1, .slice A2 Vs.length c2, .slice A3 Cs.length c3]) (blk_put B1.out 1 _ rfl) 2 _ rfl) 3 _ rfl)
  have X2 := Aside0.mk (show ((((q.setCell ⟨g1, 1, none⟩ (.slice A1 K3.length c1)).setCell ⟨g1, 2, none⟩ (.slice A2 V3.length c2)).setCell ⟨g1, 3, none⟩ (.slice A3 C3.length c3))).heap[g2]? = some (.cells #[.bool false, .slice none 0 0, .slice none 0 0, .slice none 0 0] 25 (0, 0)) from blk_far (blk_far (blk_far B2.out N12.out.symm _) N12.out.symm _) N12.out.symm _)
  have XB := Aside0.mk (show Below w.heap.size w ((((q.setCell ⟨g1, 1, none⟩ (.slice A1 K3.length c1)).setCell ⟨g1, 2, none⟩ (.slice A2 V3.length c2)).setCell ⟨g1, 3, none⟩ (.slice A3 C3.length c3))) from below_set (below_set (below_set HB.out G1.out) G1.out) G1.out)
  clear B1 B2 HB
  have B1 := X1
  have B2 := X2
  have HB := XB
  clear X1 X2 XB
  generalize (((q.setCell ⟨g1, 1, none⟩ (.slice A1 K3.length c1)).setCell ⟨g1, 2, none⟩ (.slice A2 V3.length c2)).setCell ⟨g1, 3, none⟩ (.slice A3 C3.length c3)) = q6 at *
  have e0_ : q6.cell? ⟨g1, 0, none⟩ = some (.bool lf) := (blk_cell B1.out 0).trans rfl
  have e1_ : q6.cell? ⟨g1, 1, none⟩ = some (.slice A1 K3.length c1) := (blk_cell B1.out 1).trans rfl
  have e2_ : q6.cell? ⟨g1, 2, none⟩ = some (.slice A2 V3.length c2) := (blk_cell B1.out 2).trans rfl
  have e3_ : q6.cell? ⟨g1, 3, none⟩ = some (.slice A3 C3.length c3) := (blk_cell B1.out 3).trans rfl
  have z0 : q6.cell? ⟨g2, 0, none⟩ = some (.bool false) := (blk_cell B2.out 0).trans rfl
  have z1 : q6.cell? ⟨g2, 1, none⟩ = some (.slice none 0 0) := (blk_cell B2.out 1).trans rfl
  have z2 : q6.cell? ⟨g2, 2, none⟩ = some (.slice none 0 0) := (blk_cell B2.out 2).trans rfl
  have z3 : q6.cell? ⟨g2, 3, none⟩ = some (.slice none 0 0) := (blk_cell B2.out 3).trans rfl
  have zf0 := blk_frozen B2.out 0
  have zf1 := blk_frozen B2.out 1
  have zf2 := blk_frozen B2.out 2
  have zf3 := blk_frozen B2.out 3
  go_wp2
  refine bodyPost_ret (results_cell_row rfl _ _ g2 25 #[.bool lf, .slice A1 K3.length c1, .slice A2 V3.length c2, .slice A3 C3.length c3] (0, 0) _ rfl (set4_put B2.out) Try.underlying25 rfl (by kernel_rfl)) rfl ?_
  exact ⟨by rw [eKK3, eKV3, eKC3], set4_below HB.out G2.out⟩
end Go.Proofs.Ytmnkabdaapiikaa
