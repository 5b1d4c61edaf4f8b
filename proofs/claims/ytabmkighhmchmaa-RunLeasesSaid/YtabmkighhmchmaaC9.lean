/- Words and walks for the law RunLeases, joined and made small by a program of mine. -/
import Derived.Test.YtabmkighhmchmaaC2
import Derived.Test.YtabmkighhmchmaaC7
import Derived.Test.YtabmkighhmchmaaC8
namespace Go.Proofs.Ytabmkighhmchmaa.X
open Go.RowKit Go.YW.PrintWords Go.YW.PrintLast Go.YW.PrintMore Go.YW.Sq
attribute [local go_sem] q0y q0w q1e q1d q0t q0s q0x q0v
set_option linter.unusedVariables false
set_option linter.unusedSimpArgs false
mutual
def Fg.l0 : Nat → List (S51) → Int → Int → ByteArray → ByteArray → List (S49) → Int → List (S51) → Option (ByteArray × ByteArray × (List (S49)) × Int × (List (S51)))
 | 0, _, _, _, _, _, _, _, _ => none
 | k + 1, a8, a9, a6, a2, a3, a4, a7, a5 => if a6 < a9 then (if 0 ≤ a6 then (if a6 < (a8.length : Int) then ((Gd.f ((q0a a8 a6).f0) ((q0a a8 a6).f1) ((q0a a8 a6).f2) ((q0a a8 a6).f3) ((q0a a8 a6).f4)).bind fun a0 => ((Fm.f k a2 a3 a4 a7 a5 a6 a0.1 a0.2.1 a0.2.2.1 a0.2.2.2.1 a0.2.2.2.2).bind fun a1 => (Fg.l0 k a8 a9 (wrap64 (a6 + 1)) a1.1 a1.2.1 a1.2.2.1 a1.2.2.2.1 a1.2.2.2.2))) else (none)) else (none)) else (some (a2, a3, a4, 2, a5))
def Fg.l1 : Nat → List (S51) → Int → Int → ByteArray → ByteArray → List (S49) → Int → List (S51) → Option (ByteArray × ByteArray × (List (S49)) × Int × (List (S51)))
 | 0, _, _, _, _, _, _, _, _ => none
 | k + 1, a8, b0, a7, a1, a2, a3, a4, a0 => if a7 < b0 then (if 0 ≤ a7 then (if a7 < (a8.length : Int) then ((Fo.f k a1 a2 a3 a4 a0 a7).bind fun a9 => (if a9 = true then ((Gj.f ((q0a a8 a7).f0) ((q0a a8 a7).f1) ((q0a a8 a7).f2) ((q0a a8 a7).f3) ((q0a a8 a7).f4)).bind fun a5 => ((Fm.f k a1 a2 a3 a4 a0 a7 a5.1 a5.2.1 a5.2.2.1 a5.2.2.2.1 a5.2.2.2.2).bind fun a6 => (Fg.l1 k a8 b0 (wrap64 (a7 + 1)) a6.1 a6.2.1 a6.2.2.1 a6.2.2.2.1 a6.2.2.2.2))) else (Fg.l1 k a8 b0 (wrap64 (a7 + 1)) a1 a2 a3 a4 a0))) else (none)) else (none)) else (Fg.l2 k true a0 (a0.length : Int) 0 a1 a2 a3 a4 a0)
def Fg.l2 : Nat → Bool → List (S51) → Int → Int → ByteArray → ByteArray → List (S49) → Int → List (S51) → Option (ByteArray × ByteArray × (List (S49)) × Int × (List (S51)))
 | 0, _, _, _, _, _, _, _, _, _ => none
 | k + 1, x7, a6, a7, a5, a0, a1, a2, a4, a3 => if a5 < a7 then (if 0 ≤ a5 then (if a5 < (a6.length : Int) then (if x7 = true then (Fg.l2 k (((q0a a6 a5).f0) == 3) a6 a7 (wrap64 (a5 + 1)) a0 a1 a2 a4 a3) else (Fg.l2 k false a6 a7 (wrap64 (a5 + 1)) a0 a1 a2 a4 a3)) else (none)) else (none)) else (if x7 = true then (some (a0, a1, a2, 1, a3)) else (some (a0, a1, a2, a4, a3)))
end
def Fg.f (k : Nat) (a1 : ByteArray) (a2 : ByteArray) (a4 : List (S49)) (a3 : Int) (a0 : List (S51)) : Option (ByteArray × ByteArray × (List (S49)) × Int × (List (S51))) := (Fi.f k a1 a2 a4 a3 a0 4).bind fun a5 => (if a5 = true then (Fg.l0 k a0 (a0.length : Int) 0 a1 a2 a4 a3 a0) else (Fg.l1 k a0 (a0.length : Int) 0 a1 a2 a4 a3 a0))
set_option maxHeartbeats 8000000 in
set_option maxRecDepth 100000 in
theorem Fg.calls (k : Nat) (e7 : ByteArray) (e8 : ByteArray) (b8 : Nat → Prop) (f5 : Option Addr) (f6 : Nat) (e0 : List (S49)) (e9 : Int) (b9 : Nat → Prop) (e5 : Option Addr) (e6 : Nat) (a5 : List (S51)) (r1 : ByteArray) (r2 : ByteArray) (r3 : List (S49)) (r4 : Int) (r5 : List (S51)) (w : World) (q0 : Kd.V k49 49 w w.heap.size (fun k_ => b8 k_) (.slice f5 e0.length f6) e0) (q1 : Kd.V k51 51 w w.heap.size (fun k_ => b9 k_) (.slice e5 a5.length e6) a5) (h : Fg.f k e7 e8 e0 e9 a5 = some (r1, r2, r3, r4, r5)) :
  Calls Try.prog 35 #[.agg #[.string e7, .string e8, .slice f5 e0.length f6, .int .i64 e9, .slice e5 a5.length e6]] w fun e w' => ∃ L3 L4 : Value, e = .returned (.agg #[.string r1, .string r2, L3, .int .i64 r4, L4]) ∧ Kd.V k49 49 w' w.heap.size (fun k_ => ((b8 k_ ∨ b9 k_) ∨ w.heap.size ≤ k_)) L3 r3 ∧ Kd.V k51 51 w' w.heap.size (fun k_ => ((b8 k_ ∨ b9 k_) ∨ w.heap.size ≤ k_)) L4 r5 ∧ Below w.heap.size w w' := by
 have N0 := Try.underlying27
 have N1 := Try.underlying51
 have c9 := am (show Kd.V k49 49 w w.heap.size (fun k_ => ((b8 k_ ∨ b9 k_) ∨ w.heap.size ≤ k_)) (.slice f5 e0.length f6) e0 from Kd.V_mono q0 (fun k_ hk => .inl (.inl hk)))
 have c6 := am (show Kd.V k51 51 w w.heap.size (fun k_ => ((b8 k_ ∨ b9 k_) ∨ w.heap.size ≤ k_)) (.slice e5 a5.length e6) a5 from Kd.V_mono q1 (fun k_ hk => .inl (.inr hk)))
 have HB := am (Below.refl w.heap.size w)
 unfold Fg.f at h
 have H := h
 clear h
 replace H := Option.bind_eq_some_iff.mp H
 obtain ⟨D5, D9, H⟩ := H
 try dsimp only at H
 have A2 := am D9
 clear D9
 by_cases c3 : D5 = true
 ·
  subst c3
  rw [if_pos rfl] at H
  try dsimp only at H
  have H' := am H
  clear H
  go_enter Try.func35, Try.ntmps35
  go_wp2_with (first | ((with_reducible refine gD 1 ?_); refine bz 1 #[.string e7, .string e8, .slice f5 e0.length f6, .int .i64 e9, .slice e5 a5.length e6] 27 HB ?_; clear HB; intro b2 hg w4 hb a0 n7 HB; replace c9 := vE c9 hg hb; replace c6 := vE c6 hg hb; clear hb hg) | ((with_reducible refine gD 2 ?_); refine bz 2 #[.string (⟨#[]⟩ : ByteArray), .string (⟨#[]⟩ : ByteArray), .slice none 0 0, .int .i64 0, .slice none 0 0] 27 HB ?_; clear HB; intro b7 hg w5 hb a4 n8 HB; replace c9 := vE c9 hg hb; replace c6 := vE c6 hg hb; have b1 := nL hg a0; have b6 := nG hg a0; replace a0 := kB a0 hb; clear hb hg; have L9 := nn b1; have k3 := y5 a0) | ((with_reducible refine gC 27 ?_); refine gL 11 Try.func27 #[.agg #[.string e7, .string e8, .slice f5 e0.length f6, .int .i64 e9, .slice e5 a5.length e6], .int .i64 4] ?_; (with_reducible refine (Fi.calls k e7 e8 _ _ e0 e9 _ _ a5 4 true _ ?side1 ?side2 ?side3 ?side4 A2.out).mono ?_); (case side1 => exact pC ((Kd.V_reads' c9.out).2.2)); (case side2 => exact (Kd.V_reads' c9.out).2.1); (case side3 => exact pC ((Kd.V_reads' c6.out).2.2)); (case side4 => exact (Kd.V_reads' c6.out).2.1); rintro e w8 ⟨rfl, hb⟩; refine ⟨_, rfl, ?_⟩; replace c9 := vB c9 hb; replace c6 := vB c6 hb; replace a0 := kB a0 hb; replace a4 := kB a4 hb; replace HB := bS HB hb; (try clear hb); have k4 := y5 a0))
  go_loopg [15] k (fun kq N2 w' => ∃ (b3 : Int) (a6 : ByteArray) (a7 : ByteArray) (a8 : List (S49)) (a9 : Int) (a3 : List (S51)) (d0 : Value) (d6 : Value), N2 = .int .i64 b3 ∧ q0e (Fg.l0 kq a5 (a5.length : Int) b3 a6 a7 a8 a9 a3 = some (r1, r2, r3, r4, r5)) ∧ q0e (kq ≤ k) ∧ q0e (Kd.V k51 51 w' w.heap.size (fun k_ => ((b8 k_ ∨ b9 k_) ∨ w.heap.size ≤ k_) ∧ k_ ≠ b2 ∧ k_ ≠ b7) (.slice e5 a5.length e6) a5) ∧ q0e (Kd.V k49 49 w' w.heap.size (fun k_ => ((b8 k_ ∨ b9 k_) ∨ w.heap.size ≤ k_) ∧ k_ ≠ b2 ∧ k_ ≠ b7) d0 a8) ∧ q0e (Kd.V k51 51 w' w.heap.size (fun k_ => ((b8 k_ ∨ b9 k_) ∨ w.heap.size ≤ k_) ∧ k_ ≠ b2 ∧ k_ ≠ b7) d6 a3) ∧ q0e (w'.heap[b2]? = some (.cells #[.string a6, .string a7, d0, .int .i64 a9, d6] 27 (0, 0))) ∧ q0e (w'.heap[b7]? = some (.cells #[.string (⟨#[]⟩ : ByteArray), .string (⟨#[]⟩ : ByteArray), (.slice none 0 0), .int .i64 0, (.slice none 0 0)] 27 (0, 0))) ∧ q0e (Below w.heap.size w w'))
  case atStart => exact ⟨(0), (e7), (e8), (e0), (e9), (a5), (.slice f5 e0.length f6), (.slice e5 a5.length e6), el, H', ⟨Nat.le_refl _⟩, (vM c6), (vM c9), (vM c6), ⟨pk a0.out⟩, ⟨pk a4.out⟩, ⟨pB HB.out⟩⟩
  case round =>
   clear H'
   try clear c3
   try clear k3
   try clear k4
   try clear a0; try clear a4; try clear HB
   obtain ⟨b3, a6, a7, a8, a9, a3, d0, d6, rfl, HA, h2, d5, a2, a1, a0, a4, HB⟩ := hrel
   cases gk with
   | zero => exact absurd HA.out (by simp [Fg.l0])
   | succ k1 =>
    have H := HA.out
    clear HA
    simp only [Fg.l0] at H
    by_cases m5 : b3 < (a5.length : Int)
    ·
     rw [if_pos m5] at H
     have o3 := decide_eq_true m5
     clear m5
     by_cases r6 : 0 ≤ b3
     ·
      rw [if_pos r6] at H
      have E3 := decide_eq_true r6
      clear r6
      by_cases r7 : b3 < (a5.length : Int)
      ·
       rw [if_pos r7] at H
       have E4 := decide_eq_true r7
       clear r7
       replace H := Option.bind_eq_some_iff.mp H
       obtain ⟨⟨k7, k8, k9, l3, l4⟩, m7, H⟩ := H
       try dsimp only at H
       have L5 := am m7
       clear m7
       replace H := Option.bind_eq_some_iff.mp H
       obtain ⟨⟨q2, q3, l5, q4, l6⟩, m8, H⟩ := H
       try dsimp only at H
       have L6 := am m8
       clear m8
       have H' := am H
       clear H
       have k5 : 0 ≤ (b3 : Int) := od
       have k6 : b3 < (a5.length : Int) := od
       obtain ⟨E2, C5, A6, A7, A8, A9, B0⟩ := q1j (Kd.V_reads' d5.out).2.2 b3 k5 k6
       cases C5
       replace k5 := eq_true k5
       replace k6 := eq_true k6
       try go_wp2_with (first | ((with_reducible refine gD 4 ?_); refine bz 4 #[.int .i64 0, .int .i64 0, .int .i64 0, .int .i64 0, .string (⟨#[]⟩ : ByteArray)] 51 HB ?_; clear HB; intro d1 hg N7 hb b5 E1 HB; replace d5 := vE d5 hg hb; replace a2 := vE a2 hg hb; replace a1 := vE a1 hg hb; have d7 := nL hg a0; have d3 := nG hg a0; replace a0 := kB a0 hb; have m4 := nL hg a4; have g7 := nG hg a4; replace a4 := kB a4 hb; clear hb hg; have H9 := nn d3; have I0 := nn g7; have t5 := y5 b5))
       obtain ⟨w19, hw⟩ : ∃ x, x = (((((N7.setCell ⟨d1, 0, none⟩ (.int .i64 ((q0a a5 b3).f0))).setCell ⟨d1, 1, none⟩ (.int .i64 ((q0a a5 b3).f1))).setCell ⟨d1, 2, none⟩ (.int .i64 ((q0a a5 b3).f2))).setCell ⟨d1, 3, none⟩ (.int .i64 ((q0a a5 b3).f3))).setCell ⟨d1, 4, none⟩ (.string ((q0a a5 b3).f4))) := ⟨_, rfl⟩
       have K6 := vW (ok' := fun k_ => ((b8 k_ ∨ b9 k_) ∨ w.heap.size ≤ k_) ∧ k_ ≠ b2 ∧ k_ ≠ b7 ∧ k_ ≠ d1) hw d5
       have K7 := vW (ok' := fun k_ => ((b8 k_ ∨ b9 k_) ∨ w.heap.size ≤ k_) ∧ k_ ≠ b2 ∧ k_ ≠ b7 ∧ k_ ≠ d1) hw a2
       have K8 := vW (ok' := fun k_ => ((b8 k_ ∨ b9 k_) ∨ w.heap.size ≤ k_) ∧ k_ ≠ b2 ∧ k_ ≠ b7 ∧ k_ ≠ d1) hw a1
       have K9 := kW hw a0
       have L0 := kW hw a4
       have L1 := pW (cs' := #[.int .i64 ((q0a a5 b3).f0), .int .i64 ((q0a a5 b3).f1), .int .i64 ((q0a a5 b3).f2), .int .i64 ((q0a a5 b3).f3), .string ((q0a a5 b3).f4)]) hw b5
       have L2 := bW hw HB
       (try clear d5)
       (try clear a2)
       (try clear a1)
       (try clear a0)
       (try clear a4)
       (try clear b5)
       (try clear HB)
       rw [← hw]
       clear hw
       have d5 := K6
       have a2 := K7
       have a1 := K8
       have a0 := K9
       have a4 := L0
       have b5 := L1
       have HB := L2
       clear K6 K7 K8 K9 L0 L1 L2
       replace d5 := am (Kd.V_drew d5.out)
       replace a2 := am (Kd.V_drew a2.out)
       replace a1 := am (Kd.V_drew a1.out)
       replace a0 := am (q0g a0.out)
       replace a4 := am (q0g a4.out)
       replace b5 := am (q0g b5.out)
       replace HB := am (q0b HB.out)
       refine q2a (n := 6) (S := fun w' => w'.cell? ⟨b2, 0, none⟩ = some (.string a6) ∧ w'.cell? ⟨b2, 1, none⟩ = some (.string a7) ∧ w'.cell? ⟨b2, 2, none⟩ = some (d0) ∧ w'.cell? ⟨b2, 3, none⟩ = some (.int .i64 a9) ∧ w'.cell? ⟨b2, 4, none⟩ = some (d6) ∧ w'.cell? ⟨d1, 0, none⟩ = some (.int .i64 ((q0a a5 b3).f0)) ∧ w'.cell? ⟨d1, 1, none⟩ = some (.int .i64 ((q0a a5 b3).f1)) ∧ w'.cell? ⟨d1, 2, none⟩ = some (.int .i64 ((q0a a5 b3).f2)) ∧ w'.cell? ⟨d1, 3, none⟩ = some (.int .i64 ((q0a a5 b3).f3)) ∧ w'.cell? ⟨d1, 4, none⟩ = some (.string ((q0a a5 b3).f4))) (ds := [5]) #[false, false, false, false, false, false] (by kernel_rfl) rfl rfl ⟨bc a0.out, bc a0.out, bc a0.out, bc a0.out, bc a0.out, bc b5.out, bc b5.out, bc b5.out, bc b5.out, bc b5.out⟩ (fun d9 => ?_)
       generalize w19.drew = N9 at d5 a2 a1 a0 a4 b5 HB d9 ⊢
       refine pure_ (i := 1) (N := some 21) (v := ?_) (a' := ?_) #[false, true, false, false, false, false] rfl rfl (by kernel_rfl) (fun _ _ _ h => h) (Or.inl ⟨by rfl, ?_⟩) ?_ ?_
       rotate_left
       ·
        intro w'
        go_simp
        with_reducible rfl
       rotate_left
       ·
        simp only [Act.put, List.setIfInBounds_toArray, List.set_cons_zero, List.set_cons_succ, q1u, q1v]
        rfl
       refine take_ (i := 0) (N := some 20) (v := ?_) (a' := ?_) #[true, true, false, false, false, false] rfl rfl (by kernel_rfl) (fun _ _ _ h => h) (Or.inl ⟨by rfl, ?_⟩) d9 ?_ ?_
       rotate_left
       ·
        rintro w' ⟨s0, s1, s2, s3, s4, s5, s6, s7, s8, s9⟩
        go_simp
        with_reducible rfl
       rotate_left
       ·
        simp only [Act.put, List.setIfInBounds_toArray, List.set_cons_zero, List.set_cons_succ, q1u, q1v]
        rfl
       refine take_ (i := 2) (N := some 22) (v := ?_) (a' := ?_) #[true, true, true, false, false, false] rfl rfl (by kernel_rfl) (fun _ _ _ h => h) (Or.inl ⟨by rfl, ?_⟩) d9 ?_ ?_
       rotate_left
       ·
        rintro w' ⟨s0, s1, s2, s3, s4, s5, s6, s7, s8, s9⟩
        go_simp
        with_reducible rfl
       rotate_left
       ·
        simp only [Act.put, List.setIfInBounds_toArray, List.set_cons_zero, List.set_cons_succ, q1u, q1v]
        rfl
       refine one_ (i := 3) (N := some 23) #[true, true, true, true, false, false] rfl rfl (by kernel_rfl) (by decide) (fun K hK => ?_)
       refine q1r Try.func67 (by kernel_rfl) rfl #[.agg #[.int .i64 ((q0a a5 b3).f0), .int .i64 ((q0a a5 b3).f1), .int .i64 ((q0a a5 b3).f2), .int .i64 ((q0a a5 b3).f3), .string ((q0a a5 b3).f4)]] (by rfl) rfl rfl (by (try simp only [List.map_toArray, List.map_cons, List.map_nil]); first | done | rfl | (simp only [List.length_drop, List.length_take]; rfl)) ?_
       with_reducible refine (Gd.calls ((q0a a5 b3).f0) ((q0a a5 b3).f1) ((q0a a5 b3).f2) ((q0a a5 b3).f3) ((q0a a5 b3).f4) k7 k8 k9 l3 l4 _ L5.out).mono ?_
       rintro e O0 ⟨rfl, hb⟩
       refine ⟨_, rfl, ?_⟩
       replace d5 := vB d5 hb
       replace a2 := vB a2 hb
       replace a1 := vB a1 hb
       replace a0 := kB a0 hb
       replace a4 := kB a4 hb
       replace b5 := kB b5 hb
       replace HB := bS HB hb
       (try clear hb)
       (try clear hb2)
       (try clear hk)
       (try clear hi)
       obtain ⟨n3, o6, p1⟩ := Kd.V_slice a2.out
       (first | subst p1 | (injection p1 with f1_ f2_ f3_; have h4 := f1_.symm; have h5 := f3_.symm; clear f1_ f2_ f3_; subst h4; subst h5))
       obtain ⟨n4, o7, p2⟩ := Kd.V_slice a1.out
       (first | subst p2 | (injection p2 with f1_ f2_ f3_; have h4 := f1_.symm; have h5 := f3_.symm; clear f1_ f2_ f3_; subst h4; subst h5))
       refine hK.out _ _ ⟨bc a0.out, bc a0.out, bc a0.out, bc a0.out, bc a0.out, bc b5.out, bc b5.out, bc b5.out, bc b5.out, bc b5.out⟩ (fun d9 => ?_)
       clear hK K
       refine nh ?_
       refine one_ (i := 4) (N := some 24) #[true, true, true, true, true, false] rfl rfl (by kernel_rfl) (by decide) (fun K hK => ?_)
       refine q1r Try.func48 (by kernel_rfl) rfl #[.agg #[.string a6, .string a7, .slice n3 a8.length o6, .int .i64 a9, .slice n4 a3.length o7], .int .i64 b3, .agg #[.int .i64 k7, .int .i64 k8, .int .i64 k9, .int .i64 l3, .string l4]] (by rfl) rfl rfl (by (try simp only [List.map_toArray, List.map_cons, List.map_nil]); first | done | rfl | (simp only [List.length_drop, List.length_take]; rfl)) ?_
       with_reducible refine (Fm.calls k1 a6 a7 (fun k_ => (((b8 k_ ∨ b9 k_) ∨ w.heap.size ≤ k_) ∧ (k_ ≠ b2 ∧ (k_ ≠ b7 ∧ k_ ≠ d1)))) _ _ a8 a9 _ _ a3 b3 k7 k8 k9 l3 l4 q2 q3 l5 q4 l6 _ ?side1 ?side2 ?side3 L6.out).mono ?_
       (case side1 => exact a2.out)
       (case side2 => exact pC ((Kd.V_reads' a1.out).2.2))
       (case side3 => exact (Kd.V_reads' a1.out).2.1)
       rintro e q8 ⟨N3, D7, rfl, p9, h6, hb⟩
       refine ⟨_, rfl, ?_⟩
       replace d5 := am (Kd.V_elder' (pV d5.out) (Kd.R_base h6) hb)
       replace a2 := am (Kd.V_elder' (pV a2.out) (Kd.R_base h6) hb)
       replace a1 := am (Kd.V_elder' (pV a1.out) (Kd.R_base h6) hb)
       have j3 := vL (ok' := fun k_ => ((b8 k_ ∨ b9 k_) ∨ w.heap.size ≤ k_) ∧ some k_ ≠ (D7 : Value).ownBlock ∧ k_ ≠ b2 ∧ k_ ≠ b7 ∧ k_ ≠ d1) HB p9 (fun k_ g8 => ⟨Or.elim g8.1 (fun f7 => f7.1) (fun D4 => (.inr (Nat.le_trans (q0m (pB HB.out)) D4))), g8.2, Or.elim g8.1 (fun f7 => f7.2.1) (fB a0), Or.elim g8.1 (fun f7 => f7.2.2.1) (fB a4), Or.elim g8.1 (fun f7 => f7.2.2.2) (fB b5)⟩)
       have j4 := am (Kd.R_lower (Kd.R_newB (Kd.R_newM (M := fun k_ => (w.heap.size ≤ k_)) (Kd.R_mono (ok' := fun k_ => True) h6 (fun _ g8 => trivial)) (q0m (pB HB.out)) (fun k_ h_ => h_)) (g := d1) (o := .cells #[.int .i64 ((q0a a5 b3).f0), .int .i64 ((q0a a5 b3).f1), .int .i64 ((q0a a5 b3).f2), .int .i64 ((q0a a5 b3).f3), .string ((q0a a5 b3).f4)] 51 (0, 0)) (pk b5.out)) (q0m (pB HB.out)))
       replace a0 := kB a0 hb
       replace a4 := kB a4 hb
       replace b5 := kB b5 hb
       replace HB := bS HB hb
       (try clear hb)
       (try clear hb2)
       (try clear hk)
       (try clear hi)
       (try clear p9)
       (try clear h6)
       obtain ⟨B1, B8, p3⟩ := Kd.V_slice j3.out
       (first | subst p3 | (injection p3 with f1_ f2_ f3_; have h4 := f1_.symm; have h5 := f3_.symm; clear f1_ f2_ f3_; subst h4; subst h5))
       obtain ⟨B2, B9, p4⟩ := Kd.R_slice j4.out
       (first | subst p4 | (injection p4 with f1_ f2_ f3_; have h4 := f1_.symm; have h5 := f3_.symm; clear f1_ f2_ f3_; subst h4; subst h5))
       refine hK.out _ _ ⟨bc a0.out, bc a0.out, bc a0.out, bc a0.out, bc a0.out, bc b5.out, bc b5.out, bc b5.out, bc b5.out, bc b5.out⟩ (fun d9 => ?_)
       clear hK K
       refine nh ?_
       refine last_ (i := 5) (N := none) #[true, true, true, true, true, true] rfl rfl (by kernel_rfl) (by decide) (fun K hK => ?_)
       have M0 : q8.cell? ⟨b2, 0, none⟩ = some (.string a6) := bc a0.out
       have E9 := z1 a0.out
       have x4 := b6.out
       have x5 := d3.out
       have u7 := b1.out
       have u8 := d7.out
       have M1 : q8.cell? ⟨b2, 1, none⟩ = some (.string a7) := bc a0.out
       have H0 := q0j a0.out 1
       have x6 := b6.out
       have x7 := d3.out
       have u9 := b1.out
       have v0 := d7.out
       have M2 : q8.cell? ⟨b2, 2, none⟩ = some (.slice n3 a8.length o6) := bc a0.out
       have H1 := q0j a0.out 2
       have x8 := b6.out
       have x9 := d3.out
       have v1 := b1.out
       have v2 := d7.out
       have M3 : q8.cell? ⟨b2, 3, none⟩ = some (.int .i64 a9) := bc a0.out
       have H2 := q0j a0.out 3
       have y0 := b6.out
       have y6 := d3.out
       have v3 := b1.out
       have v4 := d7.out
       have M4 : q8.cell? ⟨b2, 4, none⟩ = some (.slice n4 a3.length o7) := bc a0.out
       have H3 := q0j a0.out 4
       have y7 := b6.out
       have y8 := d3.out
       have v5 := b1.out
       have v6 := d7.out
       refine skip_ (w1 := ?_) (by rfl) rfl ?_ ?_
       rotate_left
       ·
        go_simp
        rfl
       refine hK.out _ _ ?_
       clear hK K
       refine q1w (by kernel_rfl) ?_
       try go_wp2
       go_roundg k1
       case measure => have := h2.out; omega
       case rel => exact ⟨(wrap64 (b3 + 1)), (q2), (q3), (l5), (q4), (l6), (.slice B1 l5.length B8), (.slice B2 l6.length B9), el, H', ⟨by have := h2.out; omega⟩, (vM d5), (vM j3), ⟨Kd.V_mono (Kd.R_V (ok := fun k_ => w.heap.size ≤ k_ ∧ k_ ≠ b2 ∧ k_ ≠ b7) (by exact Kd.R_mono (pR (Kd.R_types (Kd.R_types (Kd.R_types j4.out a0.out (by decide)) a4.out (by decide)) a0.out (by decide))) (fun _ hk => ⟨hk.1.1.1.1.1, ⟨hk.1.1.2, hk.1.2⟩⟩))) (fun k_ hk => by first | exact ⟨(.inr (hk.1)), hk.2⟩ | exact (.inr (hk)))⟩, ⟨pP a0.out⟩, ⟨pk a4.out⟩, ⟨pB HB.out⟩⟩
      rw [if_neg r7] at H
      exact absurd H (by simp)
     rw [if_neg r6] at H
     exact absurd H (by simp)
    rw [if_neg m5] at H
    have o3 := decide_eq_false m5
    clear m5
    simp only [Option.some.injEq, Prod.mk.injEq] at H
    obtain ⟨rfl, rfl, rfl, rfl, rfl⟩ := H
    have I1 := nn b1
    have t6 := y5 a0
    have t7 := y5 a4
    obtain ⟨B3, C0, C6⟩ := Kd.V_slice a2.out
    subst C6
    obtain ⟨B4, C1, C7⟩ := Kd.V_slice a1.out
    subst C7
    go_wp2
    refine bodyPost_ret (results_cell_row rfl _ _ b7 27 #[.string a6, .string a7, .slice B3 a8.length C0, .int .i64 2, .slice B4 a3.length C1] (0, 0) _ rfl (pP a4.out) Try.underlying27 rfl (by kernel_rfl)) rfl ?_
    exact ⟨_, _, by first | rfl | (simp [q1b, q1a] <;> rfl) | (simp [*, q1b, q1a] <;> rfl), by exact Kd.V_mono (pV a2.out) (fun _ hk => hk.1), by exact Kd.V_mono (pV a1.out) (fun _ hk => hk.1), pB HB.out⟩
 replace c3 := Bool.eq_false_iff.mpr c3
 subst c3
 rw [if_neg (show ¬ (false = true) by decide)] at H
 try dsimp only at H
 have H' := am H
 clear H
 go_enter Try.func35, Try.ntmps35
 go_wp2_with (first | ((with_reducible refine gD 1 ?_); refine bz 1 #[.string e7, .string e8, .slice f5 e0.length f6, .int .i64 e9, .slice e5 a5.length e6] 27 HB ?_; clear HB; intro b2 hg O1 hb a0 n7 HB; replace c9 := vE c9 hg hb; replace c6 := vE c6 hg hb; clear hb hg) | ((with_reducible refine gD 2 ?_); refine bz 2 #[.string (⟨#[]⟩ : ByteArray), .string (⟨#[]⟩ : ByteArray), .slice none 0 0, .int .i64 0, .slice none 0 0] 27 HB ?_; clear HB; intro b7 hg O2 hb a4 n8 HB; replace c9 := vE c9 hg hb; replace c6 := vE c6 hg hb; have b1 := nL hg a0; have b6 := nG hg a0; replace a0 := kB a0 hb; clear hb hg; have I2 := nn b1; have g2 := y5 a0) | ((with_reducible refine gC 27 ?_); refine gL 11 Try.func27 #[.agg #[.string e7, .string e8, .slice f5 e0.length f6, .int .i64 e9, .slice e5 a5.length e6], .int .i64 4] ?_; (with_reducible refine (Fi.calls k e7 e8 _ _ e0 e9 _ _ a5 4 false _ ?side1 ?side2 ?side3 ?side4 A2.out).mono ?_); (case side1 => exact pC ((Kd.V_reads' c9.out).2.2)); (case side2 => exact (Kd.V_reads' c9.out).2.1); (case side3 => exact pC ((Kd.V_reads' c6.out).2.2)); (case side4 => exact (Kd.V_reads' c6.out).2.1); rintro e O3 ⟨rfl, hb⟩; refine ⟨_, rfl, ?_⟩; replace c9 := vB c9 hb; replace c6 := vB c6 hb; replace a0 := kB a0 hb; replace a4 := kB a4 hb; replace HB := bS HB hb; (try clear hb); have g3 := y5 a0))
 go_loopg [31] k (fun kq N5 w' => ∃ (b0 : Int) (a6 : ByteArray) (a7 : ByteArray) (a8 : List (S49)) (a9 : Int) (a3 : List (S51)) (d0 : Value) (d6 : Value), N5 = .int .i64 b0 ∧ q0e (Fg.l1 kq a5 (a5.length : Int) b0 a6 a7 a8 a9 a3 = some (r1, r2, r3, r4, r5)) ∧ q0e (kq ≤ k) ∧ q0e (Kd.V k51 51 w' w.heap.size (fun k_ => ((b8 k_ ∨ b9 k_) ∨ w.heap.size ≤ k_) ∧ k_ ≠ b2 ∧ k_ ≠ b7) (.slice e5 a5.length e6) a5) ∧ q0e (Kd.V k49 49 w' w.heap.size (fun k_ => ((b8 k_ ∨ b9 k_) ∨ w.heap.size ≤ k_) ∧ k_ ≠ b2 ∧ k_ ≠ b7) d0 a8) ∧ q0e (Kd.V k51 51 w' w.heap.size (fun k_ => ((b8 k_ ∨ b9 k_) ∨ w.heap.size ≤ k_) ∧ k_ ≠ b2 ∧ k_ ≠ b7) d6 a3) ∧ q0e (w'.heap[b2]? = some (.cells #[.string a6, .string a7, d0, .int .i64 a9, d6] 27 (0, 0))) ∧ q0e (w'.heap[b7]? = some (.cells #[.string (⟨#[]⟩ : ByteArray), .string (⟨#[]⟩ : ByteArray), (.slice none 0 0), .int .i64 0, (.slice none 0 0)] 27 (0, 0))) ∧ q0e (Below w.heap.size w w'))
 case atStart => exact ⟨(0), (e7), (e8), (e0), (e9), (a5), (.slice f5 e0.length f6), (.slice e5 a5.length e6), el, H', ⟨Nat.le_refl _⟩, (vM c6), (vM c9), (vM c6), ⟨pk a0.out⟩, ⟨pk a4.out⟩, ⟨pB HB.out⟩⟩
 case round =>
  clear H'
  try clear c3
  try clear g2
  try clear g3
  try clear a0; try clear a4; try clear HB
  obtain ⟨b0, a6, a7, a8, a9, a3, d0, d6, rfl, HA, h2, c8, a2, a1, a0, a4, HB⟩ := hrel
  cases gk with
  | zero => exact absurd HA.out (by simp [Fg.l1])
  | succ k1 =>
   have H := HA.out
   clear HA
   simp only [Fg.l1] at H
   by_cases j8 : b0 < (a5.length : Int)
   ·
    rw [if_pos j8] at H
    have j7 := decide_eq_true j8
    clear j8
    by_cases r8 : 0 ≤ b0
    ·
     rw [if_pos r8] at H
     have E5 := decide_eq_true r8
     clear r8
     by_cases r9 : b0 < (a5.length : Int)
     ·
      rw [if_pos r9] at H
      have E6 := decide_eq_true r9
      clear r9
      replace H := Option.bind_eq_some_iff.mp H
      obtain ⟨D6, m9, H⟩ := H
      try dsimp only at H
      have E0 := am m9
      clear m9
      by_cases t0 : D6 = true
      ·
       subst t0
       rw [if_pos rfl] at H
       try dsimp only at H
       replace H := Option.bind_eq_some_iff.mp H
       obtain ⟨⟨l7, l8, l9, m0, m1⟩, n0, H⟩ := H
       try dsimp only at H
       have L7 := am n0
       clear n0
       replace H := Option.bind_eq_some_iff.mp H
       obtain ⟨⟨q5, q6, m2, q7, m3⟩, n1, H⟩ := H
       try dsimp only at H
       have L8 := am n1
       clear n1
       have H' := am H
       clear H
       have f8 : 0 ≤ (b0 : Int) := od
       have g0 : b0 < (a5.length : Int) := od
       obtain ⟨o1, j9, i3, i4, i5, i6, i7⟩ := q1j (Kd.V_reads' c8.out).2.2 b0 f8 g0
       cases j9
       replace f8 := eq_true f8
       replace g0 := eq_true g0
       try go_wp2_with (first | ((with_reducible refine gD 6 ?_); refine bz 6 #[.int .i64 0, .int .i64 0, .int .i64 0, .int .i64 0, .string (⟨#[]⟩ : ByteArray)] 51 HB ?_; clear HB; intro d8 hg O4 hb b4 n9 HB; replace c8 := vE c8 hg hb; replace a2 := vE a2 hg hb; replace a1 := vE a1 hg hb; have d2 := nL hg a0; have c7 := nG hg a0; replace a0 := kB a0 hb; have g5 := nL hg a4; have e1 := nG hg a4; replace a4 := kB a4 hb; clear hb hg; have I3 := nn c7; have I4 := nn e1; have t8 := y5 b4; have I5 := nn b1; have t9 := y5 a0; obtain ⟨h8, i0, C8⟩ := Kd.V_slice a2.out; subst C8; obtain ⟨h9, i1, C9⟩ := Kd.V_slice a1.out; subst C9) | ((with_reducible refine gC 41 ?_); refine gL 38 Try.func41 #[.agg #[.string a6, .string a7, .slice h8 a8.length i0, .int .i64 a9, .slice h9 a3.length i1], .int .i64 b0] ?_; (with_reducible refine (Fo.calls k1 a6 a7 _ _ a8 a9 _ _ a3 b0 true _ ?side1 ?side2 ?side3 ?side4 E0.out).mono ?_); (case side1 => exact (Kd.V_reads' (pV a2.out)).2.2); (case side2 => exact (Kd.V_reads' a2.out).2.1); (case side3 => exact (Kd.V_reads' (pV a1.out)).2.2); (case side4 => exact (Kd.V_reads' a1.out).2.1); rintro e N8 ⟨rfl, hb⟩; refine ⟨_, rfl, ?_⟩; replace c8 := vB c8 hb; replace a2 := vB a2 hb; replace a1 := vB a1 hb; replace a0 := kB a0 hb; replace a4 := kB a4 hb; replace b4 := am (q0c (g := d8) (o := .cells #[.int .i64 ((q0a a5 b0).f0), .int .i64 ((q0a a5 b0).f1), .int .i64 ((q0a a5 b0).f2), .int .i64 ((q0a a5 b0).f3), .string ((q0a a5 b0).f4)] 51 (0, 0)) (pP b4.out) hb); replace HB := bS HB hb; (try clear hb)))
       replace c8 := am (Kd.V_drew c8.out)
       replace a2 := am (Kd.V_drew a2.out)
       replace a1 := am (Kd.V_drew a1.out)
       replace a0 := am (q0g a0.out)
       replace a4 := am (q0g a4.out)
       replace b4 := am (q0g b4.out)
       replace HB := am (q0b HB.out)
       refine q2a (n := 6) (S := fun w' => w'.cell? ⟨b2, 0, none⟩ = some (.string a6) ∧ w'.cell? ⟨b2, 1, none⟩ = some (.string a7) ∧ w'.cell? ⟨b2, 2, none⟩ = some (.slice h8 a8.length i0) ∧ w'.cell? ⟨b2, 3, none⟩ = some (.int .i64 a9) ∧ w'.cell? ⟨b2, 4, none⟩ = some (.slice h9 a3.length i1) ∧ w'.cell? ⟨d8, 0, none⟩ = some (.int .i64 ((q0a a5 b0).f0)) ∧ w'.cell? ⟨d8, 1, none⟩ = some (.int .i64 ((q0a a5 b0).f1)) ∧ w'.cell? ⟨d8, 2, none⟩ = some (.int .i64 ((q0a a5 b0).f2)) ∧ w'.cell? ⟨d8, 3, none⟩ = some (.int .i64 ((q0a a5 b0).f3)) ∧ w'.cell? ⟨d8, 4, none⟩ = some (.string ((q0a a5 b0).f4))) (ds := [5]) #[false, false, false, false, false, false] (by kernel_rfl) rfl rfl ⟨bc a0.out, bc a0.out, bc a0.out, bc a0.out, bc a0.out, bc b4.out, bc b4.out, bc b4.out, bc b4.out, bc b4.out⟩ (fun d9 => ?_)
       generalize N8.drew = O5 at c8 a2 a1 a0 a4 b4 HB d9 ⊢
       refine pure_ (i := 1) (N := some 40) (v := ?_) (a' := ?_) #[false, true, false, false, false, false] rfl rfl (by kernel_rfl) (fun _ _ _ h => h) (Or.inl ⟨by rfl, ?_⟩) ?_ ?_
       rotate_left
       ·
        intro w'
        go_simp
        with_reducible rfl
       rotate_left
       ·
        simp only [Act.put, List.setIfInBounds_toArray, List.set_cons_zero, List.set_cons_succ, q1u, q1v]
        rfl
       refine take_ (i := 0) (N := some 39) (v := ?_) (a' := ?_) #[true, true, false, false, false, false] rfl rfl (by kernel_rfl) (fun _ _ _ h => h) (Or.inl ⟨by rfl, ?_⟩) d9 ?_ ?_
       rotate_left
       ·
        rintro w' ⟨s0, s1, s2, s3, s4, s5, s6, s7, s8, s9⟩
        go_simp
        with_reducible rfl
       rotate_left
       ·
        simp only [Act.put, List.setIfInBounds_toArray, List.set_cons_zero, List.set_cons_succ, q1u, q1v]
        rfl
       refine take_ (i := 2) (N := some 41) (v := ?_) (a' := ?_) #[true, true, true, false, false, false] rfl rfl (by kernel_rfl) (fun _ _ _ h => h) (Or.inl ⟨by rfl, ?_⟩) d9 ?_ ?_
       rotate_left
       ·
        rintro w' ⟨s0, s1, s2, s3, s4, s5, s6, s7, s8, s9⟩
        go_simp
        with_reducible rfl
       rotate_left
       ·
        simp only [Act.put, List.setIfInBounds_toArray, List.set_cons_zero, List.set_cons_succ, q1u, q1v]
        rfl
       refine one_ (i := 3) (N := some 42) #[true, true, true, true, false, false] rfl rfl (by kernel_rfl) (by decide) (fun K hK => ?_)
       refine q1r Try.func74 (by kernel_rfl) rfl #[.agg #[.int .i64 ((q0a a5 b0).f0), .int .i64 ((q0a a5 b0).f1), .int .i64 ((q0a a5 b0).f2), .int .i64 ((q0a a5 b0).f3), .string ((q0a a5 b0).f4)]] (by rfl) rfl rfl (by (try simp only [List.map_toArray, List.map_cons, List.map_nil]); first | done | rfl | (simp only [List.length_drop, List.length_take]; rfl)) ?_
       with_reducible refine (Gj.calls ((q0a a5 b0).f0) ((q0a a5 b0).f1) ((q0a a5 b0).f2) ((q0a a5 b0).f3) ((q0a a5 b0).f4) l7 l8 l9 m0 m1 _ L7.out).mono ?_
       rintro e O6 ⟨rfl, hb⟩
       refine ⟨_, rfl, ?_⟩
       replace c8 := vB c8 hb
       replace a2 := vB a2 hb
       replace a1 := vB a1 hb
       replace a0 := kB a0 hb
       replace a4 := kB a4 hb
       replace b4 := kB b4 hb
       replace HB := bS HB hb
       (try clear hb)
       (try clear hb2)
       (try clear hk)
       (try clear hi)
       refine hK.out _ _ ⟨bc a0.out, bc a0.out, bc a0.out, bc a0.out, bc a0.out, bc b4.out, bc b4.out, bc b4.out, bc b4.out, bc b4.out⟩ (fun d9 => ?_)
       clear hK K
       refine nh ?_
       refine one_ (i := 4) (N := some 43) #[true, true, true, true, true, false] rfl rfl (by kernel_rfl) (by decide) (fun K hK => ?_)
       refine q1r Try.func48 (by kernel_rfl) rfl #[.agg #[.string a6, .string a7, .slice h8 a8.length i0, .int .i64 a9, .slice h9 a3.length i1], .int .i64 b0, .agg #[.int .i64 l7, .int .i64 l8, .int .i64 l9, .int .i64 m0, .string m1]] (by rfl) rfl rfl (by (try simp only [List.map_toArray, List.map_cons, List.map_nil]); first | done | rfl | (simp only [List.length_drop, List.length_take]; rfl)) ?_
       with_reducible refine (Fm.calls k1 a6 a7 (fun k_ => ((((b8 k_ ∨ b9 k_) ∨ w.heap.size ≤ k_) ∧ (k_ ≠ b2 ∧ k_ ≠ b7)) ∧ k_ ≠ d8)) _ _ a8 a9 _ _ a3 b0 l7 l8 l9 m0 m1 q5 q6 m2 q7 m3 _ ?side1 ?side2 ?side3 L8.out).mono ?_
       (case side1 => exact a2.out)
       (case side2 => exact pC ((Kd.V_reads' a1.out).2.2))
       (case side3 => exact (Kd.V_reads' a1.out).2.1)
       rintro e q9 ⟨N4, D8, rfl, p9, h6, hb⟩
       refine ⟨_, rfl, ?_⟩
       replace c8 := am (Kd.V_elder' (pV c8.out) (Kd.R_base h6) hb)
       replace a2 := am (Kd.V_elder' (pV a2.out) (Kd.R_base h6) hb)
       replace a1 := am (Kd.V_elder' (pV a1.out) (Kd.R_base h6) hb)
       have j5 := vL (ok' := fun k_ => ((b8 k_ ∨ b9 k_) ∨ w.heap.size ≤ k_) ∧ some k_ ≠ (D8 : Value).ownBlock ∧ k_ ≠ b2 ∧ k_ ≠ b7 ∧ k_ ≠ d8) HB p9 (fun k_ g8 => ⟨Or.elim g8.1 (fun f7 => f7.1.1) (fun D4 => (.inr (Nat.le_trans (q0m (pB HB.out)) D4))), g8.2, Or.elim g8.1 (fun f7 => f7.1.2.1) (fB a0), Or.elim g8.1 (fun f7 => f7.1.2.2) (fB a4), Or.elim g8.1 (fun f7 => f7.2) (fB b4)⟩)
       have j6 := am (Kd.R_lower (Kd.R_newB (Kd.R_newM (M := fun k_ => (w.heap.size ≤ k_)) (Kd.R_mono (ok' := fun k_ => True) h6 (fun _ g8 => trivial)) (q0m (pB HB.out)) (fun k_ h_ => h_)) (g := d8) (o := .cells #[.int .i64 ((q0a a5 b0).f0), .int .i64 ((q0a a5 b0).f1), .int .i64 ((q0a a5 b0).f2), .int .i64 ((q0a a5 b0).f3), .string ((q0a a5 b0).f4)] 51 (0, 0)) (pk b4.out)) (q0m (pB HB.out)))
       replace a0 := kB a0 hb
       replace a4 := kB a4 hb
       replace b4 := kB b4 hb
       replace HB := bS HB hb
       (try clear hb)
       (try clear hb2)
       (try clear hk)
       (try clear hi)
       (try clear p9)
       (try clear h6)
       obtain ⟨B5, C2, p5⟩ := Kd.V_slice j5.out
       (first | subst p5 | (injection p5 with f1_ f2_ f3_; have h4 := f1_.symm; have h5 := f3_.symm; clear f1_ f2_ f3_; subst h4; subst h5))
       obtain ⟨B6, C3, p6⟩ := Kd.R_slice j6.out
       (first | subst p6 | (injection p6 with f1_ f2_ f3_; have h4 := f1_.symm; have h5 := f3_.symm; clear f1_ f2_ f3_; subst h4; subst h5))
       refine hK.out _ _ ⟨bc a0.out, bc a0.out, bc a0.out, bc a0.out, bc a0.out, bc b4.out, bc b4.out, bc b4.out, bc b4.out, bc b4.out⟩ (fun d9 => ?_)
       clear hK K
       refine nh ?_
       refine last_ (i := 5) (N := none) #[true, true, true, true, true, true] rfl rfl (by kernel_rfl) (by decide) (fun K hK => ?_)
       have M5 : q9.cell? ⟨b2, 0, none⟩ = some (.string a6) := bc a0.out
       have H4 := z1 a0.out
       have y9 := b6.out
       have z0 := c7.out
       have v8 := b1.out
       have v9 := d2.out
       have M6 : q9.cell? ⟨b2, 1, none⟩ = some (.string a7) := bc a0.out
       have H5 := q0j a0.out 1
       have z6 := b6.out
       have z7 := c7.out
       have w2 := b1.out
       have w3 := d2.out
       have M7 : q9.cell? ⟨b2, 2, none⟩ = some (.slice h8 a8.length i0) := bc a0.out
       have H6 := q0j a0.out 2
       have z8 := b6.out
       have z9 := c7.out
       have w6 := b1.out
       have w7 := d2.out
       have M8 : q9.cell? ⟨b2, 3, none⟩ = some (.int .i64 a9) := bc a0.out
       have H7 := q0j a0.out 3
       have A1 := b6.out
       have A3 := c7.out
       have w9 := b1.out
       have x0 := d2.out
       have M9 : q9.cell? ⟨b2, 4, none⟩ = some (.slice h9 a3.length i1) := bc a0.out
       have H8 := q0j a0.out 4
       have A4 := b6.out
       have A5 := c7.out
       have x2 := b1.out
       have x3 := d2.out
       refine skip_ (w1 := ?_) (by rfl) rfl ?_ ?_
       rotate_left
       ·
        go_simp
        rfl
       refine hK.out _ _ ?_
       clear hK K
       refine q1w (by kernel_rfl) ?_
       try go_wp2
       go_roundg k1
       case measure => have := h2.out; omega
       case rel => exact ⟨(wrap64 (b0 + 1)), (q5), (q6), (m2), (q7), (m3), (.slice B5 m2.length C2), (.slice B6 m3.length C3), el, H', ⟨by have := h2.out; omega⟩, (vM c8), (vM j5), ⟨Kd.V_mono (Kd.R_V (ok := fun k_ => w.heap.size ≤ k_ ∧ k_ ≠ b2 ∧ k_ ≠ b7) (by exact Kd.R_mono (pR (Kd.R_types (Kd.R_types (Kd.R_types j6.out a0.out (by decide)) a4.out (by decide)) a0.out (by decide))) (fun _ hk => ⟨hk.1.1.1.1.1, ⟨hk.1.1.2, hk.1.2⟩⟩))) (fun k_ hk => by first | exact ⟨(.inr (hk.1)), hk.2⟩ | exact (.inr (hk)))⟩, ⟨pP a0.out⟩, ⟨pk a4.out⟩, ⟨pB HB.out⟩⟩
      replace t0 := Bool.eq_false_iff.mpr t0
      subst t0
      rw [if_neg (show ¬ (false = true) by decide)] at H
      try dsimp only at H
      have H' := am H
      clear H
      have f8 : 0 ≤ (b0 : Int) := od
      have g0 : b0 < (a5.length : Int) := od
      obtain ⟨o1, j9, i3, i4, i5, i6, i7⟩ := q1j (Kd.V_reads' c8.out).2.2 b0 f8 g0
      cases j9
      replace f8 := eq_true f8
      replace g0 := eq_true g0
      go_wp2_with (first | ((with_reducible refine gD 6 ?_); refine bz 6 #[.int .i64 0, .int .i64 0, .int .i64 0, .int .i64 0, .string (⟨#[]⟩ : ByteArray)] 51 HB ?_; clear HB; intro d8 hg O7 hb b4 n9 HB; replace c8 := vE c8 hg hb; replace a2 := vE a2 hg hb; replace a1 := vE a1 hg hb; have d2 := nL hg a0; have c7 := nG hg a0; replace a0 := kB a0 hb; have g5 := nL hg a4; have e1 := nG hg a4; replace a4 := kB a4 hb; clear hb hg; have I6 := nn c7; have I7 := nn e1; have u0 := y5 b4; have I8 := nn b1; have u1 := y5 a0; obtain ⟨n5, o8, D0⟩ := Kd.V_slice a2.out; subst D0; obtain ⟨n6, o9, D1⟩ := Kd.V_slice a1.out; subst D1) | ((with_reducible refine gC 41 ?_); refine gL 38 Try.func41 #[.agg #[.string a6, .string a7, .slice n5 a8.length o8, .int .i64 a9, .slice n6 a3.length o9], .int .i64 b0] ?_; (with_reducible refine (Fo.calls k1 a6 a7 _ _ a8 a9 _ _ a3 b0 false _ ?side1 ?side2 ?side3 ?side4 E0.out).mono ?_); (case side1 => exact (Kd.V_reads' (pV a2.out)).2.2); (case side2 => exact (Kd.V_reads' a2.out).2.1); (case side3 => exact (Kd.V_reads' (pV a1.out)).2.2); (case side4 => exact (Kd.V_reads' a1.out).2.1); rintro e O8 ⟨rfl, hb⟩; refine ⟨_, rfl, ?_⟩; replace c8 := vB c8 hb; replace a2 := vB a2 hb; replace a1 := vB a1 hb; replace a0 := kB a0 hb; replace a4 := kB a4 hb; replace b4 := am (q0c (g := d8) (o := .cells #[.int .i64 ((q0a a5 b0).f0), .int .i64 ((q0a a5 b0).f1), .int .i64 ((q0a a5 b0).f2), .int .i64 ((q0a a5 b0).f3), .string ((q0a a5 b0).f4)] 51 (0, 0)) (pP b4.out) hb); replace HB := bS HB hb; (try clear hb)))
      go_roundg k1
      case measure => have := h2.out; omega
      case rel => exact ⟨(wrap64 (b0 + 1)), (a6), (a7), (a8), (a9), (a3), (.slice n5 a8.length o8), (.slice n6 a3.length o9), el, H', ⟨by have := h2.out; omega⟩, (vM c8), (vM a2), (vM a1), ⟨pk a0.out⟩, ⟨pk a4.out⟩, ⟨pB HB.out⟩⟩
     rw [if_neg r9] at H
     exact absurd H (by simp)
    rw [if_neg r8] at H
    exact absurd H (by simp)
   rw [if_neg j8] at H
   have j7 := decide_eq_false j8
   clear j8
   have H' := am H
   clear H
   have I9 := nn b1
   have i2 := y5 a0
   obtain ⟨g9, h3, D2⟩ := Kd.V_slice a1.out
   subst D2
   go_wp2
   go_loopg [7, 48] k1 (fun kq v7 N6 w' => ∃ (h7 : Bool) (d4 : Int), v7 = .bool h7 ∧ N6 = .int .i64 d4 ∧ q0e (Fg.l2 kq h7 a3 (a3.length : Int) d4 a6 a7 a8 a9 a3 = some (r1, r2, r3, r4, r5)) ∧ q0e (kq ≤ k1) ∧ q0e (Kd.V k51 51 w' w.heap.size (fun k_ => ((b8 k_ ∨ b9 k_) ∨ w.heap.size ≤ k_) ∧ k_ ≠ b2 ∧ k_ ≠ b7) (.slice g9 a3.length h3) a3) ∧ q0e (Kd.V k49 49 w' w.heap.size (fun k_ => ((b8 k_ ∨ b9 k_) ∨ w.heap.size ≤ k_) ∧ k_ ≠ b2 ∧ k_ ≠ b7) d0 a8) ∧ q0e (Kd.V k51 51 w' w.heap.size (fun k_ => ((b8 k_ ∨ b9 k_) ∨ w.heap.size ≤ k_) ∧ k_ ≠ b2 ∧ k_ ≠ b7) (.slice g9 a3.length h3) a3) ∧ q0e (w'.heap[b2]? = some (.cells #[.string a6, .string a7, d0, .int .i64 a9, (.slice g9 a3.length h3)] 27 (0, 0))) ∧ q0e (w'.heap[b7]? = some (.cells #[.string (⟨#[]⟩ : ByteArray), .string (⟨#[]⟩ : ByteArray), (.slice none 0 0), .int .i64 0, (.slice none 0 0)] 27 (0, 0))) ∧ q0e (Below w.heap.size w w'))
   case atStart => exact ⟨(true), (0), el, el, H', ⟨Nat.le_refl _⟩, ⟨(pV a1.out)⟩, ⟨(pV a2.out)⟩, ⟨(pV a1.out)⟩, ⟨pk a0.out⟩, ⟨pk a4.out⟩, ⟨pB HB.out⟩⟩
   case round =>
    clear H'
    try clear c3
    try clear j8
    try clear j7
    try clear g2
    try clear g3
    try clear i2
    try clear a0; try clear a4; try clear HB
    obtain ⟨h7, d4, rfl, rfl, HA, r0, e4, a2, a1, a0, a4, HB⟩ := hrel
    cases gk with
    | zero => exact absurd HA.out (by simp [Fg.l2])
    | succ k2 =>
     have H := HA.out
     clear HA
     simp only [Fg.l2] at H
     by_cases m6 : d4 < (a3.length : Int)
     ·
      rw [if_pos m6] at H
      have o4 := decide_eq_true m6
      clear m6
      by_cases t1 : 0 ≤ d4
      ·
       rw [if_pos t1] at H
       have E7 := decide_eq_true t1
       clear t1
       by_cases t2 : d4 < (a3.length : Int)
       ·
        rw [if_pos t2] at H
        have E8 := decide_eq_true t2
        clear t2
        by_cases t3 : h7 = true
        ·
         subst t3
         rw [if_pos rfl] at H
         try dsimp only at H
         have H' := am H
         clear H
         have f9 : 0 ≤ (d4 : Int) := od
         have g1 : d4 < (a3.length : Int) := od
         obtain ⟨o2, k0, i8, i9, j0, j1, j2⟩ := q1j (Kd.V_reads' e4.out).2.2 d4 f9 g1
         cases k0
         replace f9 := eq_true f9
         replace g1 := eq_true g1
         go_wp2_with (first | ((with_reducible refine gD 9 ?_); refine bz 9 #[.int .i64 0, .int .i64 0, .int .i64 0, .int .i64 0, .string (⟨#[]⟩ : ByteArray)] 51 HB ?_; clear HB; intro p7 hg O9 hb h0 o0 HB; replace e4 := vE e4 hg hb; replace a2 := vE a2 hg hb; replace a1 := vE a1 hg hb; have g4 := nL hg a0; have e2 := nG hg a0; replace a0 := kB a0 hb; have g6 := nL hg a4; have e3 := nG hg a4; replace a4 := kB a4 hb; clear hb hg; have K0 := nn e2; have K1 := nn e3; have u2 := y5 h0))
         go_roundg k2
         case measure => have := h2.out; have := r0.out; omega
         case rel => exact ⟨((((q0a a3 d4).f0) == 3)), (wrap64 (d4 + 1)), el, el, H', ⟨by have := h2.out; have := r0.out; omega⟩, (vM e4), (vM a2), (vM a1), ⟨pk a0.out⟩, ⟨pk a4.out⟩, ⟨pB HB.out⟩⟩
        replace t3 := Bool.eq_false_iff.mpr t3
        subst t3
        rw [if_neg (show ¬ (false = true) by decide)] at H
        try dsimp only at H
        have H' := am H
        clear H
        have f9 : 0 ≤ (d4 : Int) := od
        have g1 : d4 < (a3.length : Int) := od
        obtain ⟨o2, k0, i8, i9, j0, j1, j2⟩ := q1j (Kd.V_reads' e4.out).2.2 d4 f9 g1
        cases k0
        replace f9 := eq_true f9
        replace g1 := eq_true g1
        go_wp2_with (first | ((with_reducible refine gD 9 ?_); refine bz 9 #[.int .i64 0, .int .i64 0, .int .i64 0, .int .i64 0, .string (⟨#[]⟩ : ByteArray)] 51 HB ?_; clear HB; intro p7 hg P0 hb h0 o0 HB; replace e4 := vE e4 hg hb; replace a2 := vE a2 hg hb; replace a1 := vE a1 hg hb; have g4 := nL hg a0; have e2 := nG hg a0; replace a0 := kB a0 hb; have g6 := nL hg a4; have e3 := nG hg a4; replace a4 := kB a4 hb; clear hb hg; have K2 := nn e2; have K3 := nn e3; have u3 := y5 h0))
        go_roundg k2
        case measure => have := h2.out; have := r0.out; omega
        case rel => exact ⟨(false), (wrap64 (d4 + 1)), el, el, H', ⟨by have := h2.out; have := r0.out; omega⟩, (vM e4), (vM a2), (vM a1), ⟨pk a0.out⟩, ⟨pk a4.out⟩, ⟨pB HB.out⟩⟩
       rw [if_neg t2] at H
       exact absurd H (by simp)
      rw [if_neg t1] at H
      exact absurd H (by simp)
     rw [if_neg m6] at H
     have o4 := decide_eq_false m6
     clear m6
     by_cases t4 : h7 = true
     ·
      subst t4
      rw [if_pos rfl] at H
      try dsimp only at H
      simp only [Option.some.injEq, Prod.mk.injEq] at H
      obtain ⟨rfl, rfl, rfl, rfl, rfl⟩ := H
      have K4 := nn b1
      have u4 := y5 a0
      have u5 := y5 a4
      obtain ⟨B7, C4, D3⟩ := Kd.V_slice a2.out
      subst D3
      go_wp2
      refine bodyPost_ret (results_cell_row rfl _ _ b7 27 #[.string a6, .string a7, .slice B7 a8.length C4, .int .i64 1, .slice g9 a3.length h3] (0, 0) _ rfl (pP a4.out) Try.underlying27 rfl (by kernel_rfl)) rfl ?_
      exact ⟨_, _, by first | rfl | (simp [q1b, q1a] <;> rfl) | (simp [*, q1b, q1a] <;> rfl), by exact Kd.V_mono (pV a2.out) (fun _ hk => hk.1), by exact Kd.V_mono (pV a1.out) (fun _ hk => hk.1), pB HB.out⟩
     replace t4 := Bool.eq_false_iff.mpr t4
     subst t4
     rw [if_neg (show ¬ (false = true) by decide)] at H
     try dsimp only at H
     simp only [Option.some.injEq, Prod.mk.injEq] at H
     obtain ⟨rfl, rfl, rfl, rfl, rfl⟩ := H
     have K5 := nn b1
     have u6 := y5 a0
     have p8 := y5 a4
     obtain ⟨n2, o5, p0⟩ := Kd.V_slice a2.out
     subst p0
     go_wp2
     refine bodyPost_ret (results_cell_row rfl _ _ b7 27 #[.string a6, .string a7, .slice n2 a8.length o5, .int .i64 a9, .slice g9 a3.length h3] (0, 0) _ rfl (pP a4.out) Try.underlying27 rfl (by kernel_rfl)) rfl ?_
     exact ⟨_, _, by first | rfl | (simp [q1b, q1a] <;> rfl) | (simp [*, q1b, q1a] <;> rfl), by exact Kd.V_mono (pV a2.out) (fun _ hk => hk.1), by exact Kd.V_mono (pV a1.out) (fun _ hk => hk.1), pB HB.out⟩
mutual
def Fl.l0 : Nat → Int → Int → List (S51) → Int → Int → ByteArray → ByteArray → List (S49) → Int → List (S51) → Option (Int)
 | 0, _, _, _, _, _, _, _, _, _, _ => none
 | k + 1, x1, x5, x9, a7, a0, a1, a2, a3, a4, a5 => if a0 < a7 then (if 0 ≤ a0 then (if a0 < (x9.length : Int) then (if ((q0a x9 a0).f0) = 2 then ((Fp.f k x1).bind fun a6 => (Fl.j1 k x1 x5 a0 x9 a7 a0 (decide (((q0a x9 a0).f2) ≤ a6)) a1 a2 a3 a4 a5 ((q0a x9 a0).f0) ((q0a x9 a0).f1) ((q0a x9 a0).f2) ((q0a x9 a0).f3) ((q0a x9 a0).f4))) else (Fl.j1 k x1 x5 a0 x9 a7 a0 false a1 a2 a3 a4 a5 ((q0a x9 a0).f0) ((q0a x9 a0).f1) ((q0a x9 a0).f2) ((q0a x9 a0).f3) ((q0a x9 a0).f4))) else (none)) else (none)) else (some x5)
def Fl.j1 : Nat → Int → Int → Int → List (S51) → Int → Int → Bool → ByteArray → ByteArray → List (S49) → Int → List (S51) → Int → Int → Int → Int → ByteArray → Option (Int)
 | 0, _, _, _, _, _, _, _, _, _, _, _, _, _, _, _, _, _ => none
 | k + 1, x1, x5, x6, x9, a6, a7, b2, a1, a2, a3, a4, a0, a8, a9, a5, b0, b1 => if b2 = true then (if x5 < 0 then (Fl.l0 k x1 x6 x9 a6 (wrap64 (a7 + 1)) a1 a2 a3 a4 a0) else (if 0 ≤ x5 then (if x5 < (a0.length : Int) then (if a5 < ((q0a a0 x5).f2) then (Fl.l0 k x1 x6 x9 a6 (wrap64 (a7 + 1)) a1 a2 a3 a4 a0) else (Fl.l0 k x1 x5 x9 a6 (wrap64 (a7 + 1)) a1 a2 a3 a4 a0)) else (none)) else (none))) else (Fl.l0 k x1 x5 x9 a6 (wrap64 (a7 + 1)) a1 a2 a3 a4 a0)
end
def Fl.f (k : Nat) (a2 : ByteArray) (a3 : ByteArray) (a5 : List (S49)) (a4 : Int) (a0 : List (S51)) (a1 : Int) : Option (Int) := Fl.l0 k a1 (-1) a0 (a0.length : Int) 0 a2 a3 a5 a4 a0
set_option maxHeartbeats 8000000 in
set_option maxRecDepth 100000 in
theorem Fl.calls (k : Nat) (b4 : ByteArray) (b5 : ByteArray) (f6 : Option Addr) (f7 : Nat) (b3 : List (S49)) (b6 : Int) (g3 : Option Addr) (f8 : Nat) (a3 : List (S51)) (a1 : Int) (r : Int) (w : World) (i0 : Kd.C k49 w f6 b3.length b3) (h6 : b3.length ≤ f7) (i1 : Kd.C k51 w g3 a3.length a3) (h7 : a3.length ≤ f8) (h : Fl.f k b4 b5 b3 b6 a3 a1 = some r) :
  Calls Try.prog 47 #[.agg #[.string b4, .string b5, .slice f6 b3.length f7, .int .i64 b6, .slice g3 a3.length f8], .int .i64 a1] w fun e w' => e = .returned (.int .i64 r) ∧ Below w.heap.size w w' := by
 have l8 := Try.underlying27
 have l9 := Try.underlying51
 have l1 := am i0
 have k8 := am h6
 clear i0 h6
 have g4 := am i1
 have k9 := am h7
 clear i1 h7
 have HB := am (Below.refl w.heap.size w)
 unfold Fl.f at h
 have H := h
 clear h
 have H' := am H
 clear H
 go_enter Try.func47, Try.ntmps47
 go_wp2_with (first | ((with_reducible refine gD 2 ?_); refine bz 2 #[.string b4, .string b5, .slice f6 b3.length f7, .int .i64 b6, .slice g3 a3.length f8] 27 HB ?_; clear HB; intro g1 hg w3 hb a2 h3 HB; clear hb hg; obtain ⟨d0, d1, d2, d3, d4, e0, e1, e2, e3, e4⟩ := y5 a2))
 repeat (go_quiet (first | ((with_reducible refine gD 2 ?_); refine bz 2 #[.string b4, .string b5, .slice f6 b3.length f7, .int .i64 b6, .slice g3 a3.length f8] 27 HB ?_; clear HB; intro g1 hg w3 hb a2 h3 HB; clear hb hg; obtain ⟨d0, d1, d2, d3, d4, e0, e1, e2, e3, e4⟩ := y5 a2)); try go_wp2_with (first | ((with_reducible refine gD 2 ?_); refine bz 2 #[.string b4, .string b5, .slice f6 b3.length f7, .int .i64 b6, .slice g3 a3.length f8] 27 HB ?_; clear HB; intro g1 hg w3 hb a2 h3 HB; clear hb hg; obtain ⟨d0, d1, d2, d3, d4, e0, e1, e2, e3, e4⟩ := y5 a2)))
 go_loopg [5, 11] k (fun kq v5 m0 w' => ∃ (a7 : Int) (a0 : Int), v5 = .int .i64 a7 ∧ m0 = .int .i64 a0 ∧ q0e (Fl.l0 kq a1 a7 a3 (a3.length : Int) a0 b4 b5 b3 b6 a3 = some r) ∧ q0e (kq ≤ k) ∧ q0e (w'.heap[g1]? = some (.cells #[.string b4, .string b5, (.slice f6 b3.length f7), .int .i64 b6, (.slice g3 a3.length f8)] 27 (0, 0))) ∧ q0e (Below w.heap.size w w'))
 case atStart => exact ⟨((-1)), (0), el, el, H', ⟨Nat.le_refl _⟩, ⟨pk a2.out⟩, ⟨pB HB.out⟩⟩
 case round =>
  clear H'
  try clear d0
  try clear d1
  try clear d2
  try clear d3
  try clear d4
  try clear e0
  try clear e1
  try clear e2
  try clear e3
  try clear e4
  try clear a2; try clear HB
  obtain ⟨a7, a0, rfl, rfl, HA, g8, a2, HB⟩ := hrel
  cases gk with
  | zero => exact absurd HA.out (by simp [Fl.l0])
  | succ k1 =>
   have H := HA.out
   clear HA
   simp only [Fl.l0] at H
   by_cases c5 : a0 < (a3.length : Int)
   ·
    rw [if_pos c5] at H
    have j0 := decide_eq_true c5
    clear c5
    by_cases c6 : 0 ≤ a0
    ·
     rw [if_pos c6] at H
     have k5 := decide_eq_true c6
     clear c6
     by_cases c7 : a0 < (a3.length : Int)
     ·
      rw [if_pos c7] at H
      have k6 := decide_eq_true c7
      clear c7
      have k4 := am H
      clear H
      have g9 : 0 ≤ (a0 : Int) := od
      have h0 : a0 < (a3.length : Int) := od
      obtain ⟨g5, k7, e5, e6, e7, e8, e9⟩ := q1j g4.out a0 g9 h0
      cases k7
      replace e5 := bX HB e5
      replace e6 := bX HB e6
      replace e7 := bX HB e7
      replace e8 := bX HB e8
      replace e9 := bX HB e9
      replace g9 := eq_true g9
      replace h0 := eq_true h0
      go_upto_region 5 with (first | ((with_reducible refine gD 7 ?_); refine bz 7 #[.int .i64 0, .int .i64 0, .int .i64 0, .int .i64 0, .string (⟨#[]⟩ : ByteArray)] 51 HB ?_; clear HB; intro g7 hg w9 hb a6 h4 HB; have a5 := nL hg a2; have a4 := nG hg a2; replace a2 := kB a2 hb; clear hb hg; have h8 := a4.out; have h9 := a5.out; obtain ⟨b7, b8, b9, c8, c9, d5, d6, d7, d8, d9⟩ := y5 a6))
      repeat (go_quiet (first | ((with_reducible refine gD 7 ?_); refine bz 7 #[.int .i64 0, .int .i64 0, .int .i64 0, .int .i64 0, .string (⟨#[]⟩ : ByteArray)] 51 HB ?_; clear HB; intro g7 hg w9 hb a6 h4 HB; have a5 := nL hg a2; have a4 := nG hg a2; replace a2 := kB a2 hb; clear hb hg; have h8 := a4.out; have h9 := a5.out; obtain ⟨b7, b8, b9, c8, c9, d5, d6, d7, d8, d9⟩ := y5 a6)); go_upto_region 5 with (first | ((with_reducible refine gD 7 ?_); refine bz 7 #[.int .i64 0, .int .i64 0, .int .i64 0, .int .i64 0, .string (⟨#[]⟩ : ByteArray)] 51 HB ?_; clear HB; intro g7 hg w9 hb a6 h4 HB; have a5 := nL hg a2; have a4 := nG hg a2; replace a2 := kB a2 hb; clear hb hg; have h8 := a4.out; have h9 := a5.out; obtain ⟨b7, b8, b9, c8, c9, d5, d6, d7, d8, d9⟩ := y5 a6)))
      (try simp only [Act.put, List.setIfInBounds_toArray, List.set_cons_zero, List.set_cons_succ])
      go_cut [25] (fun m1 wc => ∃ (kq : Nat) (g2 : Bool), m1 = .bool g2 ∧ q0e (Fl.j1 kq a1 a7 a0 a3 (a3.length : Int) a0 g2 b4 b5 b3 b6 a3 ((q0a a3 a0).f0) ((q0a a3 a0).f1) ((q0a a3 a0).f2) ((q0a a3 a0).f3) ((q0a a3 a0).f4) = some r) ∧ q0e (kq ≤ k1) ∧ q0e (wc.heap[g1]? = some (.cells #[.string b4, .string b5, (.slice f6 b3.length f7), .int .i64 b6, (.slice (some g5) a3.length f8)] 27 (0, 0))) ∧ q0e (wc.heap[g7]? = some (.cells #[.int .i64 ((q0a a3 a0).f0), .int .i64 ((q0a a3 a0).f1), .int .i64 ((q0a a3 a0).f2), .int .i64 ((q0a a3 a0).f3), .string ((q0a a3 a0).f4)] 51 (0, 0))) ∧ q0e (Below w.heap.size w wc))
      case first =>
       have H := k4.out
       clear k4
       by_cases i6 : ((q0a a3 a0).f0) = 2
       ·
        rw [if_pos i6] at H
        obtain ⟨f5, i7⟩ := qt i6
        clear i6
        (first | rw [f5] | (simp only [q1u, q1v]; rw [f5]) | skip)
        replace H := Option.bind_eq_some_iff.mp H
        obtain ⟨h2, i5, H⟩ := H
        try dsimp only at H
        have k3 := am i5
        clear i5
        have H' := am H
        clear H
        have l4 := nn a4
        have j5 := y5 a6
        go_wp2_with (first | (go_at_call 65; (with_reducible refine (Fp.calls k1 a1 h2 _ k3.out).mono ?_); rintro e w' ⟨rfl, ⟨nd, rfl⟩⟩; (try first | exact ⟨rfl, _, World.drewN_drewN _ _ _⟩ | exact ⟨rfl, _, Eq.trans (World.drewN_drewN _ _ _) (congrArg (World.drewN _) (Nat.add_assoc _ _ _))⟩)))
        repeat (go_quiet (first | (go_at_call 65; (with_reducible refine (Fp.calls k1 a1 h2 _ k3.out).mono ?_); rintro e w' ⟨rfl, ⟨nd, rfl⟩⟩; (try first | exact ⟨rfl, _, World.drewN_drewN _ _ _⟩ | exact ⟨rfl, _, Eq.trans (World.drewN_drewN _ _ _) (congrArg (World.drewN _) (Nat.add_assoc _ _ _))⟩))); try go_wp2_with (first | (go_at_call 65; (with_reducible refine (Fp.calls k1 a1 h2 _ k3.out).mono ?_); rintro e w' ⟨rfl, ⟨nd, rfl⟩⟩; (try first | exact ⟨rfl, _, World.drewN_drewN _ _ _⟩ | exact ⟨rfl, _, Eq.trans (World.drewN_drewN _ _ _) (congrArg (World.drewN _) (Nat.add_assoc _ _ _))⟩))))
        go_meet
        case rel => exact ⟨_, (decide (((q0a a3 a0).f2) ≤ h2)), el, H', ⟨by have := g8.out; first | omega | exact Nat.le_refl _⟩, ⟨pk a2.out⟩, ⟨pP a6.out⟩, ⟨pB HB.out⟩⟩
       rw [if_neg i6] at H
       obtain ⟨f5, i7⟩ := qf i6
       (first | rw [f5] | (simp only [q1u, q1v]; rw [f5]) | skip)
       have H' := am H
       clear H
       have l5 := nn a4
       have j6 := y5 a6
       go_wp2
       repeat (go_quiet (fail); try go_wp2)
       go_meet
       case rel => exact ⟨_, (false), el, H', ⟨by have := g8.out; first | omega | exact Nat.le_refl _⟩, ⟨pk a2.out⟩, ⟨pP a6.out⟩, ⟨pB HB.out⟩⟩
      case rest =>
       clear k4
       try clear c5
       try clear j0
       try clear c6
       try clear k5
       try clear c7
       try clear k6
       try clear b7
       try clear b8
       try clear b9
       try clear c8
       try clear c9
       try clear d0
       try clear d1
       try clear d2
       try clear d3
       try clear d4
       try clear d5
       try clear d6
       try clear d7
       try clear d8
       try clear d9
       try clear e0
       try clear e1
       try clear e2
       try clear e3
       try clear e4
       try clear e5
       try clear e6
       try clear e7
       try clear e8
       try clear e9
       try clear g9
       try clear h0
       obtain ⟨kq, g2, rfl, HA, h5, a2, a6, HB⟩ := hcut
       cases kq with
       | zero => exact absurd HA.out (by simp [Fl.j1])
       | succ k2 =>
        have H := HA.out
        clear HA
        simp only [Fl.j1] at H
        by_cases j2 : g2 = true
        ·
         subst j2
         rw [if_pos rfl] at H
         try dsimp only at H
         by_cases i3 : a7 < 0
         ·
          rw [if_pos i3] at H
          have i8 := decide_eq_true i3
          clear i3
          have H' := am H
          clear H
          go_wp2
          repeat (go_quiet (fail); try go_wp2)
          go_roundg k2
          case measure => have := g8.out; have := h5.out; omega
          case rel => exact ⟨(a0), (wrap64 (a0 + 1)), el, el, H', ⟨by have := g8.out; have := h5.out; omega⟩, ⟨pk a2.out⟩, ⟨pB HB.out⟩⟩
         rw [if_neg i3] at H
         have i8 := decide_eq_false i3
         clear i3
         by_cases j3 : 0 ≤ a7
         ·
          rw [if_pos j3] at H
          have l2 := decide_eq_true j3
          clear j3
          by_cases j4 : a7 < (a3.length : Int)
          ·
           rw [if_pos j4] at H
           have l3 := decide_eq_true j4
           clear j4
           by_cases i4 : ((q0a a3 a0).f2) < ((q0a a3 a7).f2)
           ·
            rw [if_pos i4] at H
            have i9 := decide_eq_true i4
            clear i4
            have H' := am H
            clear H
            have l6 := nn a4
            have j7 := y5 a6
            have j8 := y5 a2
            have f9 : 0 ≤ (a7 : Int) := od
            have g0 : a7 < (a3.length : Int) := od
            obtain ⟨g6, i2, a8, a9, b0, b1, b2⟩ := q1j g4.out a7 f9 g0
            obtain rfl : g5 = g6 := (by injection i2)
            replace a8 := bX HB a8
            replace a9 := bX HB a9
            replace b0 := bX HB b0
            replace b1 := bX HB b1
            replace b2 := bX HB b2
            replace f9 := eq_true f9
            replace g0 := eq_true g0
            go_wp2
            repeat (go_quiet (fail); try go_wp2)
            go_roundg k2
            case measure => have := g8.out; have := h5.out; omega
            case rel => exact ⟨(a0), (wrap64 (a0 + 1)), el, el, H', ⟨by have := g8.out; have := h5.out; omega⟩, ⟨pk a2.out⟩, ⟨pB HB.out⟩⟩
           rw [if_neg i4] at H
           have i9 := decide_eq_false i4
           clear i4
           have H' := am H
           clear H
           have l7 := nn a4
           have j9 := y5 a6
           have k0 := y5 a2
           have f9 : 0 ≤ (a7 : Int) := od
           have g0 : a7 < (a3.length : Int) := od
           obtain ⟨g6, i2, a8, a9, b0, b1, b2⟩ := q1j g4.out a7 f9 g0
           obtain rfl : g5 = g6 := (by injection i2)
           replace a8 := bX HB a8
           replace a9 := bX HB a9
           replace b0 := bX HB b0
           replace b1 := bX HB b1
           replace b2 := bX HB b2
           replace f9 := eq_true f9
           replace g0 := eq_true g0
           go_wp2
           repeat (go_quiet (fail); try go_wp2)
           go_roundg k2
           case measure => have := g8.out; have := h5.out; omega
           case rel => exact ⟨(a7), (wrap64 (a0 + 1)), el, el, H', ⟨by have := g8.out; have := h5.out; omega⟩, ⟨pk a2.out⟩, ⟨pB HB.out⟩⟩
          rw [if_neg j4] at H
          exact absurd H (by simp)
         rw [if_neg j3] at H
         exact absurd H (by simp)
        replace j2 := Bool.eq_false_iff.mpr j2
        subst j2
        rw [if_neg (show ¬ (false = true) by decide)] at H
        try dsimp only at H
        have H' := am H
        clear H
        go_wp2
        repeat (go_quiet (fail); try go_wp2)
        go_roundg k2
        case measure => have := g8.out; have := h5.out; omega
        case rel => exact ⟨(a7), (wrap64 (a0 + 1)), el, el, H', ⟨by have := g8.out; have := h5.out; omega⟩, ⟨pk a2.out⟩, ⟨pB HB.out⟩⟩
     rw [if_neg c7] at H
     exact absurd H (by simp)
    rw [if_neg c6] at H
    exact absurd H (by simp)
   rw [if_neg c5] at H
   have j0 := decide_eq_false c5
   clear c5
   obtain rfl := Option.some.inj H
   go_wp2
   repeat (go_quiet (fail); try go_wp2)
   go_ret
   exact ⟨er, pB HB.out⟩
mutual
def Fh.j0 : Nat → Int → Int → Bool → Option (Int)
 | 0, _, _, _ => none
 | k + 1, x0, x1, a0 => if a0 = true then (some 0) else (if x0 ≥ 1048576 then (Fh.j1 k x0 x1 true) else (Fh.j1 k x0 x1 (decide (x1 > 40))))
def Fh.j1 : Nat → Int → Int → Bool → Option (Int)
 | 0, _, _, _ => none
 | k + 1, x0, x1, a0 => if a0 = true then (some 1048576) else (Fh.l0 k x0 x1 1)
def Fh.l0 : Nat → Int → Int → Int → Option (Int)
 | 0, _, _, _ => none
 | k + 1, x0, x1, x5 => if x5 < x1 then (Fh.l0 k (wrap64 (2 * x0)) x1 (wrap64 (x5 + 1))) else (if x0 > 1048576 then (some 1048576) else (some x0))
end
def Fh.f (k : Nat) (a0 : Int) (a1 : Int) : Option (Int) := if a0 < 1 then (Fh.j0 k a0 a1 true) else (Fh.j0 k a0 a1 (decide (a1 < 1)))
set_option maxHeartbeats 8000000 in
set_option maxRecDepth 100000 in
theorem Fh.calls (k : Nat) (a0 : Int) (a1 : Int) (r : Int) (w : World) (h : Fh.f k a0 a1 = some r) :
  Calls Try.prog 85 #[.int .i64 a0, .int .i64 a1] w fun e w' => e = .returned (.int .i64 r) ∧ q0r w w' := by
 unfold Fh.f at h
 have H := h
 clear h
 have b1 := am H
 clear H
 go_enter Try.func85, Try.ntmps85
 go_upto_region 1 with (fail)
 go_cut [11] (fun b8 wc => ∃ (kq : Nat) (a2 : Bool), b8 = .bool a2 ∧ q0e (Fh.j0 kq a0 a1 a2 = some r) ∧ q0e (kq ≤ k) ∧ q0r w wc)
 case first =>
  have H := b1.out
  clear b1
  by_cases c4 : a0 < 1
  ·
   rw [if_pos c4] at H
   have a4 := decide_eq_true c4
   clear c4
   (first | rw [a4] | (simp only [q1u, q1v]; rw [a4]) | skip)
   have H' := am H
   clear H
   go_wp2
   go_meet
   case rel => exact ⟨_, (true), el, H', ol, by repeat (first | exact q0r.refl _ | apply q0r.step)⟩
  rw [if_neg c4] at H
  have a4 := decide_eq_false c4
  clear c4
  (first | rw [a4] | (simp only [q1u, q1v]; rw [a4]) | skip)
  have H' := am H
  clear H
  go_wp2
  go_meet
  case rel => exact ⟨_, (decide (a1 < 1)), el, H', ol, by repeat (first | exact q0r.refl _ | apply q0r.step)⟩
 case rest =>
  clear b1
  obtain ⟨kq, a2, rfl, HA, b0, ⟨c6, rfl⟩⟩ := hcut
  cases kq with
  | zero => exact absurd HA.out (by simp [Fh.j0])
  | succ b7 =>
   have H := HA.out
   clear HA
   simp only [Fh.j0] at H
   by_cases c5 : a2 = true
   ·
    subst c5
    rw [if_pos rfl] at H
    try dsimp only at H
    obtain rfl := Option.some.inj H
    go_wp2
    go_ret
    exact ⟨by first | rfl | (simp; done) | (simp [*]; done), by repeat (first | exact q0r.refl _ | apply q0r.step)⟩
   replace c5 := Bool.eq_false_iff.mpr c5
   subst c5
   rw [if_neg (show ¬ (false = true) by decide)] at H
   try dsimp only at H
   have b2 := am H
   clear H
   go_upto_region 3 with (fail)
   go_cut [17] (fun b9 wc => ∃ (kq : Nat) (a3 : Bool), b9 = .bool a3 ∧ q0e (Fh.j1 kq a0 a1 a3 = some r) ∧ q0e (kq ≤ b7) ∧ q0r w wc)
   case first =>
    have H := b2.out
    clear b2
    by_cases c7 : a0 ≥ 1048576
    ·
     rw [if_pos c7] at H
     have a5 := decide_eq_true c7
     clear c7
     (first | rw [a5] | (simp only [q1u, q1v]; rw [a5]) | skip)
     have H' := am H
     clear H
     go_wp2
     go_meet
     case rel => exact ⟨_, (true), el, H', ⟨by have := b0.out; first | omega | exact Nat.le_refl _⟩, by repeat (first | exact q0r.refl _ | apply q0r.step)⟩
    rw [if_neg c7] at H
    have a5 := decide_eq_false c7
    clear c7
    (first | rw [a5] | (simp only [q1u, q1v]; rw [a5]) | skip)
    have H' := am H
    clear H
    go_wp2
    go_meet
    case rel => exact ⟨_, (decide (a1 > 40)), el, H', ⟨by have := b0.out; first | omega | exact Nat.le_refl _⟩, by repeat (first | exact q0r.refl _ | apply q0r.step)⟩
   case rest =>
    clear b2
    try clear c5
    obtain ⟨kq, a3, rfl, HA, b4, ⟨d0, rfl⟩⟩ := hcut
    cases kq with
    | zero => exact absurd HA.out (by simp [Fh.j1])
    | succ b6 =>
     have H := HA.out
     clear HA
     simp only [Fh.j1] at H
     by_cases c8 : a3 = true
     ·
      subst c8
      rw [if_pos rfl] at H
      try dsimp only at H
      obtain rfl := Option.some.inj H
      go_wp2
      go_ret
      exact ⟨by first | rfl | (simp; done) | (simp [*]; done), by repeat (first | exact q0r.refl _ | apply q0r.step)⟩
     replace c8 := Bool.eq_false_iff.mpr c8
     subst c8
     rw [if_neg (show ¬ (false = true) by decide)] at H
     try dsimp only at H
     have H' := am H
     clear H
     go_wp2
     go_loopg [0, 5] b6 (fun kq v0 v5 w' => ∃ (a6 : Int) (a7 : Int), v0 = .int .i64 a6 ∧ v5 = .int .i64 a7 ∧ q0e (Fh.l0 kq a6 a1 a7 = some r) ∧ q0e (kq ≤ b6) ∧ q0r w w')
     case atStart => exact ⟨(a0), (1), el, el, H', ⟨Nat.le_refl _⟩, by repeat (first | exact q0r.refl _ | apply q0r.step)⟩
     case round =>
      clear H'
      try clear c5
      try clear c8
      obtain ⟨a6, a7, rfl, rfl, HA, b5, ⟨m3, rfl⟩⟩ := hrel
      cases gk with
      | zero => exact absurd HA.out (by simp [Fh.l0])
      | succ k3 =>
       have H := HA.out
       clear HA
       simp only [Fh.l0] at H
       by_cases c9 : a7 < a1
       ·
        rw [if_pos c9] at H
        have b3 := decide_eq_true c9
        clear c9
        have H' := am H
        clear H
        go_wp2
        go_roundg k3
        case measure => have := b0.out; have := b4.out; have := b5.out; omega
        case rel => exact ⟨(wrap64 (2 * a6)), (wrap64 (a7 + 1)), el, el, H', ⟨by have := b0.out; have := b4.out; have := b5.out; omega⟩, by repeat (first | exact q0r.refl _ | apply q0r.step)⟩
       rw [if_neg c9] at H
       have b3 := decide_eq_false c9
       clear c9
       by_cases a8 : a6 > 1048576
       ·
        rw [if_pos a8] at H
        have a9 := decide_eq_true a8
        clear a8
        obtain rfl := Option.some.inj H
        go_wp2
        go_ret
        exact ⟨by first | rfl | (simp; done) | (simp [*]; done), by repeat (first | exact q0r.refl _ | apply q0r.step)⟩
       rw [if_neg a8] at H
       have a9 := decide_eq_false a8
       clear a8
       obtain rfl := Option.some.inj H
       go_wp2
       go_ret
       exact ⟨by first | rfl | (simp; done) | (simp [*]; done), by repeat (first | exact q0r.refl _ | apply q0r.step)⟩
def Gf.f (k : Nat) (b1 : List Int) (a3 : Int) (a4 : Int) (a8 : Int) (a5 : Int) (a0 : Int) (a9 : Int) (b0 : Int) (a1 : ByteArray) (a2 : Int) : Option (Int × Int × Int × Int × ByteArray × Int) := if a5 = 2 then (if a0 ≥ a3 then (some (4, a0, 0, 0, a1, 0)) else ((Fh.f k a4 a0).bind fun a6 => ((Fe.f k a2 (([a6] : List Int))).bind fun a7 => (some (1, a0, a7, 0, a1, 0))))) else (some (0, 0, 0, 0, (⟨#[]⟩ : ByteArray), 191))
set_option maxHeartbeats 8000000 in
set_option maxRecDepth 100000 in
theorem Gf.calls (k : Nat) (b8 : Option Addr) (c7 : Nat) (b3 : List Int) (b5 : Int) (b4 : Int) (b9 : Int) (c6 : Int) (a8 : Int) (b6 : Int) (c9 : Int) (a9 : ByteArray) (a2 : Int) (r1 : Int) (r2 : Int) (r3 : Int) (r4 : Int) (r5 : ByteArray) (r6 : Int) (w : World) (d8 : Kd.C (Kd.int .i64) w b8 b3.length b3) (d7 : b3.length ≤ c7) (h : Gf.f k b3 b5 b4 b9 c6 a8 b6 c9 a9 a2 = some (r1, r2, r3, r4, r5, r6)) :
  Calls Try.prog 60 #[.agg #[.slice b8 b3.length c7, .int .i64 b5, .int .i64 b4, .int .i64 b9], .agg #[.int .i64 c6, .int .i64 a8, .int .i64 b6, .int .i64 c9, .string a9], .int .i64 a2] w fun e w' => e = .returned (.tuple #[.agg #[.int .i64 r1, .int .i64 r2, .int .i64 r3, .int .i64 r4, .string r5], .int .i64 r6]) ∧ Below w.heap.size w w' := by
 have i0 := Try.underlying49
 have i1 := Try.underlying51
 have g1 := am d8
 have g0 := am d7
 clear d8 d7
 have HB := am (Below.refl w.heap.size w)
 unfold Gf.f at h
 have H := h
 clear h
 by_cases c4 : c6 = 2
 ·
  rw [if_pos c4] at H
  obtain ⟨f6, f7⟩ := qt c4
  clear c4
  by_cases c5 : a8 ≥ b5
  ·
   rw [if_pos c5] at H
   have f8 := decide_eq_true c5
   clear c5
   simp only [Option.some.injEq, Prod.mk.injEq] at H
   obtain ⟨rfl, rfl, rfl, rfl, rfl, rfl⟩ := H
   go_enter Try.func60, Try.ntmps60
   go_wp2_with (first | ((with_reducible refine gD 3 ?_); refine bz 3 #[.slice b8 b3.length c7, .int .i64 b5, .int .i64 b4, .int .i64 b9] 49 HB ?_; clear HB; intro d0 hg w6 hb a0 d3 HB; clear hb hg) | ((with_reducible refine gD 4 ?_); refine bz 4 #[.int .i64 c6, .int .i64 a8, .int .i64 b6, .int .i64 c9, .string a9] 51 HB ?_; clear HB; intro b7 hg w7 hb a1 d4 HB; have b1 := nL hg a0; have a4 := nG hg a0; replace a0 := kB a0 hb; clear hb hg) | ((with_reducible refine gD 6 ?_); refine bz 6 #[.int .i64 0, .int .i64 0, .int .i64 0, .int .i64 0, .string (⟨#[]⟩ : ByteArray)] 51 HB ?_; clear HB; intro b2 hg w8 hb a3 d5 HB; have a6 := nL hg a0; have a7 := nG hg a0; replace a0 := kB a0 hb; have a5 := nL hg a1; replace a1 := kB a1 hb; clear hb hg; have h9 := nn a4; have g2 := nn a5; have e6 := y5 a1; have g3 := nn a6; have e7 := y4 a0; have e8 := y5 a3))
   refine bodyPost_ret (q1h rfl _ _ b2 51 #[.int .i64 4, .int .i64 a8, .int .i64 0, .int .i64 0, .string a9] (0, 0) _ rfl (pP a3.out) Try.underlying51 rfl (by kernel_rfl)) rfl ?_
   exact ⟨er, pB HB.out⟩
  rw [if_neg c5] at H
  have f8 := decide_eq_false c5
  clear c5
  replace H := Option.bind_eq_some_iff.mp H
  obtain ⟨c8, e1, H⟩ := H
  try dsimp only at H
  have h6 := am e1
  clear e1
  obtain ⟨y268, hy268⟩ : ∃ y_ : List Int, y_ = (([c8] : List Int)) := ⟨_, rfl⟩
  replace H : ((Fe.f k a2 y268).bind fun d2 => (some (1, a8, d2, 0, a9, 0))) = some (r1, r2, r3, r4, r5, r6) := by first | (rw [hy268]; with_reducible exact H) | (have f5 := (Option.bind_some _ _).symm.trans H; rw [hy268]; with_reducible exact f5) | (have f5 := (Option.bind_some _ _).symm.trans H; with_reducible exact f5) | with_reducible exact H | (rw [hy268]; exact H) | exact H
  have d6 := am hy268
  clear hy268
  replace H := Option.bind_eq_some_iff.mp H
  obtain ⟨d2, e2, H⟩ := H
  try dsimp only at H
  have h7 := am e2
  clear e2
  simp only [Option.some.injEq, Prod.mk.injEq] at H
  obtain ⟨rfl, rfl, rfl, rfl, rfl, rfl⟩ := H
  go_enter Try.func60, Try.ntmps60
  go_wp2_with (first | ((with_reducible refine gD 3 ?_); refine bz 3 #[.slice b8 b3.length c7, .int .i64 b5, .int .i64 b4, .int .i64 b9] 49 HB ?_; clear HB; intro d0 hg i3 hb a0 d3 HB; clear hb hg) | ((with_reducible refine gD 4 ?_); refine bz 4 #[.int .i64 c6, .int .i64 a8, .int .i64 b6, .int .i64 c9, .string a9] 51 HB ?_; clear HB; intro b7 hg i4 hb a1 d4 HB; have b1 := nL hg a0; have a4 := nG hg a0; replace a0 := kB a0 hb; clear hb hg) | ((with_reducible refine gD 6 ?_); refine bz 6 #[.int .i64 0, .int .i64 0, .int .i64 0, .int .i64 0, .string (⟨#[]⟩ : ByteArray)] 51 HB ?_; clear HB; intro b2 hg i5 hb a3 d5 HB; have a6 := nL hg a0; have a7 := nG hg a0; replace a0 := kB a0 hb; have a5 := nL hg a1; replace a1 := kB a1 hb; clear hb hg; have g4 := nn a4; have g5 := nn a5; have e9 := y5 a1; have g6 := nn a6; have f0 := y4 a0) | ((with_reducible refine gC 85 ?_); refine gL 27 Try.func85 #[.int .i64 b4, .int .i64 a8] ?_; (with_reducible refine (Fh.calls k b4 a8 c8 _ h6.out).mono ?_); rintro e w' ⟨rfl, ⟨nd, rfl⟩⟩; refine ⟨_, rfl, ?_⟩) | ((with_reducible refine gD 28 ?_); refine Kd.R_lit (Kd.int .i64) _ 3 ?hg (N := 28) ?hd (xs := ([c8] : List Int)) (inner := [.int .i64 c8]) (ok := fun _ => True) (okp := fun _ => True) ?hr ?hp (fun _ hk => hk) trivial (Below.refl _ _) (Nat.le_refl _) (by simp) ?_; (case hd => rfl); (case hg => rfl); (case hr => first | (go_simp; done) | (go_simp; rfl)); (case hp => exact (Reps.one (show Kd.M (Kd.int .i64) _ _ _ c8 [.int .i64 c8] from rfl) (Reps.none _ _))); intro i2 d9 d1 hb h8 e5; clear h8 e5; (first | rw [← d6.out] at d1 | (simp only [Int.reduceToNat] at d1; rw [← d6.out] at d1)); have b0 := am (Kd.R_lower d1 (q0m (pB HB.out))); replace a0 := kB a0 hb; replace a1 := am (q0c (g := b7) (o := .cells #[.int .i64 1, .int .i64 a8, .int .i64 b6, .int .i64 0, .string a9] 51 (0, 0)) (pP a1.out) hb); replace a3 := kB a3 hb; replace HB := bS HB hb; clear hb d1; obtain ⟨e3, e4, f9⟩ := Kd.R_slice b0.out; subst f9) | ((with_reducible refine gC 84 ?_); refine gL 29 Try.func84 #[.int .i64 a2, .slice e3 y268.length e4] ?_; (with_reducible refine (Fe.calls k a2 _ _ y268 d2 _ ?side1 ?side2 h7.out).mono ?_); (case side1 => exact pC ((Kd.R_reads' b0.out).2.2)); (case side2 => exact (Kd.R_reads' b0.out).2.1); rintro e w' ⟨rfl, ⟨nd, rfl⟩⟩; refine ⟨_, rfl, ?_⟩; (try (rw [drewN_self d9]; generalize e0 : World.drewN d9 _ = d9; have h0 : q0e (Kd.R (Kd.int .i64) 3 d9 w.heap.size (fun _ => True) (.slice e3 y268.length e4) y268) := ⟨by rw [← e0]; exact (pR b0.out)⟩; have h2 : q0e (d9.heap[d0]? = some (.cells #[.slice b8 b3.length c7, .int .i64 b5, .int .i64 b4, .int .i64 b9] 49 (0, 0))) := ⟨by rw [← e0]; exact (pk a0.out)⟩; have h3 : q0e (d9.heap[b7]? = some (.cells #[.int .i64 1, .int .i64 a8, .int .i64 b6, .int .i64 0, .string a9] 51 (0, 0))) := ⟨by rw [← e0]; exact (pk a1.out)⟩; have h4 : q0e (d9.heap[b2]? = some (.cells #[.int .i64 0, .int .i64 0, .int .i64 0, .int .i64 0, .string (⟨#[]⟩ : ByteArray)] 51 (0, 0))) := ⟨by rw [← e0]; exact (pk a3.out)⟩; have h5 : q0e (Below w.heap.size w d9) := ⟨by rw [← e0]; exact (pB HB.out)⟩; clear b0 a0 a1 a3 HB e0; have b0 := h0; have a0 := h2; have a1 := h3; have a3 := h4; have HB := h5; clear h0 h2 h3 h4 h5)); have f1 := y5 a1; have f2 := y5 a3))
  refine bodyPost_ret (q1h rfl _ _ b2 51 #[.int .i64 1, .int .i64 a8, .int .i64 d2, .int .i64 0, .string a9] (0, 0) _ rfl (pP a3.out) Try.underlying51 rfl (by kernel_rfl)) rfl ?_
  exact ⟨er, pB HB.out⟩
 rw [if_neg c4] at H
 obtain ⟨f6, f7⟩ := qf c4
 simp only [Option.some.injEq, Prod.mk.injEq] at H
 obtain ⟨rfl, rfl, rfl, rfl, rfl, rfl⟩ := H
 go_enter Try.func60, Try.ntmps60
 go_wp2_with (first | ((with_reducible refine gD 3 ?_); refine bz 3 #[.slice b8 b3.length c7, .int .i64 b5, .int .i64 b4, .int .i64 b9] 49 HB ?_; clear HB; intro d0 hg i6 hb a0 d3 HB; clear hb hg) | ((with_reducible refine gD 4 ?_); refine bz 4 #[.int .i64 c6, .int .i64 a8, .int .i64 b6, .int .i64 c9, .string a9] 51 HB ?_; clear HB; intro b7 hg i7 hb a1 d4 HB; have b1 := nL hg a0; have a4 := nG hg a0; replace a0 := kB a0 hb; clear hb hg) | ((with_reducible refine gD 6 ?_); refine bz 6 #[.int .i64 0, .int .i64 0, .int .i64 0, .int .i64 0, .string (⟨#[]⟩ : ByteArray)] 51 HB ?_; clear HB; intro b2 hg i8 hb a3 d5 HB; have a6 := nL hg a0; have a7 := nG hg a0; replace a0 := kB a0 hb; have a5 := nL hg a1; replace a1 := kB a1 hb; clear hb hg; have g7 := nn a4; have g8 := nn a5; have f3 := y5 a1; have g9 := nn a7; have f4 := y5 a3))
 refine bodyPost_ret (q1h rfl _ _ b2 51 #[.int .i64 0, .int .i64 0, .int .i64 0, .int .i64 0, .string (⟨#[]⟩ : ByteArray)] (0, 0) _ rfl (pP a3.out) Try.underlying51 rfl (by kernel_rfl)) rfl ?_
 exact ⟨er, pB HB.out⟩
def Gh.f (k : Nat) (b0 : List Int) (a7 : Int) (a8 : Int) (a9 : Int) (a3 : Int) (a4 : Int) (a1 : Int) (a5 : Int) (a6 : ByteArray) (a2 : Int) : Option (Int × Int × Int × Int × ByteArray) := if a3 = 2 then ((Fp.f k a2).bind fun b1 => (if a1 ≤ b1 then ((Gf.f k b0 a7 a8 a9 a3 a4 a1 a5 a6 a1).bind fun a0 => (some (a0.1, a0.2.1, a0.2.2.1, a0.2.2.2.1, a0.2.2.2.2.1))) else (some (a3, a4, a1, a5, a6)))) else (some (a3, a4, a1, a5, a6))
set_option maxHeartbeats 8000000 in
set_option maxRecDepth 100000 in
theorem Gh.calls (k : Nat) (d8 : Option Addr) (d9 : Nat) (b9 : List Int) (d0 : Int) (d1 : Int) (d2 : Int) (b7 : Int) (c7 : Int) (b6 : Int) (c8 : Int) (c9 : ByteArray) (a2 : Int) (r1 : Int) (r2 : Int) (r3 : Int) (r4 : Int) (r5 : ByteArray) (w : World) (p5 : Kd.C (Kd.int .i64) w d8 b9.length b9) (n0 : b9.length ≤ d9) (h : Gh.f k b9 d0 d1 d2 b7 c7 b6 c8 c9 a2 = some (r1, r2, r3, r4, r5)) :
  Calls Try.prog 49 #[.agg #[.slice d8 b9.length d9, .int .i64 d0, .int .i64 d1, .int .i64 d2], .agg #[.int .i64 b7, .int .i64 c7, .int .i64 b6, .int .i64 c8, .string c9], .int .i64 a2] w fun e w' => e = .returned (.agg #[.int .i64 r1, .int .i64 r2, .int .i64 r3, .int .i64 r4, .string r5]) ∧ Below w.heap.size w w' := by
 have r6 := Try.underlying49
 have r7 := Try.underlying51
 have m2 := am p5
 have m1 := am n0
 clear p5 n0
 have HB := am (Below.refl w.heap.size w)
 unfold Gh.f at h
 have H := h
 clear h
 by_cases c4 : b7 = 2
 ·
  rw [if_pos c4] at H
  obtain ⟨p7, p8⟩ := qt c4
  clear c4
  replace H := Option.bind_eq_some_iff.mp H
  obtain ⟨e1, q0, H⟩ := H
  try dsimp only at H
  have A5 := am q0
  clear q0
  by_cases c6 : b6 ≤ e1
  ·
   rw [if_pos c6] at H
   have p9 := decide_eq_true c6
   clear c6
   replace H := Option.bind_eq_some_iff.mp H
   obtain ⟨⟨m3, m4, m5, m6, m7, p6⟩, q1, H⟩ := H
   try dsimp only at H
   have A7 := am q1
   clear q1
   simp only [Option.some.injEq, Prod.mk.injEq] at H
   obtain ⟨rfl, rfl, rfl, rfl, rfl⟩ := H
   go_enter Try.func49, Try.ntmps49
   go_wp2_with (first | ((with_reducible refine gD 3 ?_); refine bz 3 #[.slice d8 b9.length d9, .int .i64 d0, .int .i64 d1, .int .i64 d2] 49 HB ?_; clear HB; intro d6 hg w8 hb a0 d3 HB; clear hb hg) | ((with_reducible refine gD 4 ?_); refine bz 4 #[.int .i64 b7, .int .i64 c7, .int .i64 b6, .int .i64 c8, .string c9] 51 HB ?_; clear HB; intro d7 hg w9 hb a1 d4 HB; have a3 := nL hg a0; have a5 := nG hg a0; replace a0 := kB a0 hb; clear hb hg) | ((with_reducible refine gD 6 ?_); refine bz 6 #[.int .i64 0, .int .i64 0, .int .i64 0, .int .i64 0, .string (⟨#[]⟩ : ByteArray)] 51 HB ?_; clear HB; intro b8 hg q2 hb a9 d5 HB; have a4 := nL hg a0; have a7 := nG hg a0; replace a0 := kB a0 hb; have a6 := nL hg a1; have a8 := nG hg a1; replace a1 := kB a1 hb; clear hb hg; have n1 := a5.out; have o3 := a3.out; have n2 := a6.out; have o4 := a8.out; obtain ⟨e2, e3, e4, e5, e6, i2, i3, i4, i5, i6⟩ := y5 a1) | (go_at_call 65; (with_reducible refine (Fp.calls k a2 e1 _ A5.out).mono ?_); rintro e w' ⟨rfl, ⟨nd, rfl⟩⟩; (try first | exact ⟨rfl, _, World.drewN_drewN _ _ _⟩ | exact ⟨rfl, _, Eq.trans (World.drewN_drewN _ _ _) (congrArg (World.drewN _) (Nat.add_assoc _ _ _))⟩); have n3 := a4.out; have o5 := a7.out; obtain ⟨e7, e8, e9, f0, i7, i8, i9, j0⟩ := y4 a0) | (go_at_call 60; (with_reducible refine (Gf.calls k _ _ b9 d0 d1 d2 b7 c7 b6 c8 c9 b6 m3 m4 m5 m6 m7 p6 _ ?side1 ?side2 A7.out).mono ?_); (case side1 => exact (Kd.C_below m2.out (pB (pB HB.out)))); (case side2 => exact m1.out); rintro e q3 ⟨rfl, hb⟩; replace a0 := kB a0 hb; replace a1 := kB a1 hb; replace a9 := kB a9 hb; replace HB := bS HB hb; (try clear hb)) | ((with_reducible refine gD 7 ?_); refine bz 7 #[.int .i64 0, .int .i64 0, .int .i64 0, .int .i64 0, .string (⟨#[]⟩ : ByteArray)] 51 HB ?_; clear HB; intro m9 hg q4 hb e0 m8 HB; have b0 := nL hg a0; have b3 := nG hg a0; replace a0 := kB a0 hb; have b1 := nL hg a1; have b4 := nG hg a1; replace a1 := kB a1 hb; have b2 := nL hg a9; have b5 := nG hg a9; replace a9 := kB a9 hb; clear hb hg; have n4 := b3.out; have o6 := b0.out; have n5 := b4.out; have o7 := b1.out; have n6 := b5.out; have o8 := b2.out; obtain ⟨f1, f2, f3, f4, f5, j1, j2, j3, j4, j5⟩ := y5 e0; obtain ⟨f6, f7, f8, f9, g0, j6, j7, j8, j9, k0⟩ := y5 a9))
   repeat (go_quiet (first | ((with_reducible refine gD 3 ?_); refine bz 3 #[.slice d8 b9.length d9, .int .i64 d0, .int .i64 d1, .int .i64 d2] 49 HB ?_; clear HB; intro d6 hg w8 hb a0 d3 HB; clear hb hg) | ((with_reducible refine gD 4 ?_); refine bz 4 #[.int .i64 b7, .int .i64 c7, .int .i64 b6, .int .i64 c8, .string c9] 51 HB ?_; clear HB; intro d7 hg w9 hb a1 d4 HB; have a3 := nL hg a0; have a5 := nG hg a0; replace a0 := kB a0 hb; clear hb hg) | ((with_reducible refine gD 6 ?_); refine bz 6 #[.int .i64 0, .int .i64 0, .int .i64 0, .int .i64 0, .string (⟨#[]⟩ : ByteArray)] 51 HB ?_; clear HB; intro b8 hg q2 hb a9 d5 HB; have a4 := nL hg a0; have a7 := nG hg a0; replace a0 := kB a0 hb; have a6 := nL hg a1; have a8 := nG hg a1; replace a1 := kB a1 hb; clear hb hg; have n1 := a5.out; have o3 := a3.out; have n2 := a6.out; have o4 := a8.out; obtain ⟨e2, e3, e4, e5, e6, i2, i3, i4, i5, i6⟩ := y5 a1) | (go_at_call 65; (with_reducible refine (Fp.calls k a2 e1 _ A5.out).mono ?_); rintro e w' ⟨rfl, ⟨nd, rfl⟩⟩; (try first | exact ⟨rfl, _, World.drewN_drewN _ _ _⟩ | exact ⟨rfl, _, Eq.trans (World.drewN_drewN _ _ _) (congrArg (World.drewN _) (Nat.add_assoc _ _ _))⟩); have n3 := a4.out; have o5 := a7.out; obtain ⟨e7, e8, e9, f0, i7, i8, i9, j0⟩ := y4 a0) | (go_at_call 60; (with_reducible refine (Gf.calls k _ _ b9 d0 d1 d2 b7 c7 b6 c8 c9 b6 m3 m4 m5 m6 m7 p6 _ ?side1 ?side2 A7.out).mono ?_); (case side1 => exact (Kd.C_below m2.out (pB (pB HB.out)))); (case side2 => exact m1.out); rintro e q3 ⟨rfl, hb⟩; replace a0 := kB a0 hb; replace a1 := kB a1 hb; replace a9 := kB a9 hb; replace HB := bS HB hb; (try clear hb)) | ((with_reducible refine gD 7 ?_); refine bz 7 #[.int .i64 0, .int .i64 0, .int .i64 0, .int .i64 0, .string (⟨#[]⟩ : ByteArray)] 51 HB ?_; clear HB; intro m9 hg q4 hb e0 m8 HB; have b0 := nL hg a0; have b3 := nG hg a0; replace a0 := kB a0 hb; have b1 := nL hg a1; have b4 := nG hg a1; replace a1 := kB a1 hb; have b2 := nL hg a9; have b5 := nG hg a9; replace a9 := kB a9 hb; clear hb hg; have n4 := b3.out; have o6 := b0.out; have n5 := b4.out; have o7 := b1.out; have n6 := b5.out; have o8 := b2.out; obtain ⟨f1, f2, f3, f4, f5, j1, j2, j3, j4, j5⟩ := y5 e0; obtain ⟨f6, f7, f8, f9, g0, j6, j7, j8, j9, k0⟩ := y5 a9)); try go_wp2_with (first | ((with_reducible refine gD 3 ?_); refine bz 3 #[.slice d8 b9.length d9, .int .i64 d0, .int .i64 d1, .int .i64 d2] 49 HB ?_; clear HB; intro d6 hg w8 hb a0 d3 HB; clear hb hg) | ((with_reducible refine gD 4 ?_); refine bz 4 #[.int .i64 b7, .int .i64 c7, .int .i64 b6, .int .i64 c8, .string c9] 51 HB ?_; clear HB; intro d7 hg w9 hb a1 d4 HB; have a3 := nL hg a0; have a5 := nG hg a0; replace a0 := kB a0 hb; clear hb hg) | ((with_reducible refine gD 6 ?_); refine bz 6 #[.int .i64 0, .int .i64 0, .int .i64 0, .int .i64 0, .string (⟨#[]⟩ : ByteArray)] 51 HB ?_; clear HB; intro b8 hg q2 hb a9 d5 HB; have a4 := nL hg a0; have a7 := nG hg a0; replace a0 := kB a0 hb; have a6 := nL hg a1; have a8 := nG hg a1; replace a1 := kB a1 hb; clear hb hg; have n1 := a5.out; have o3 := a3.out; have n2 := a6.out; have o4 := a8.out; obtain ⟨e2, e3, e4, e5, e6, i2, i3, i4, i5, i6⟩ := y5 a1) | (go_at_call 65; (with_reducible refine (Fp.calls k a2 e1 _ A5.out).mono ?_); rintro e w' ⟨rfl, ⟨nd, rfl⟩⟩; (try first | exact ⟨rfl, _, World.drewN_drewN _ _ _⟩ | exact ⟨rfl, _, Eq.trans (World.drewN_drewN _ _ _) (congrArg (World.drewN _) (Nat.add_assoc _ _ _))⟩); have n3 := a4.out; have o5 := a7.out; obtain ⟨e7, e8, e9, f0, i7, i8, i9, j0⟩ := y4 a0) | (go_at_call 60; (with_reducible refine (Gf.calls k _ _ b9 d0 d1 d2 b7 c7 b6 c8 c9 b6 m3 m4 m5 m6 m7 p6 _ ?side1 ?side2 A7.out).mono ?_); (case side1 => exact (Kd.C_below m2.out (pB (pB HB.out)))); (case side2 => exact m1.out); rintro e q3 ⟨rfl, hb⟩; replace a0 := kB a0 hb; replace a1 := kB a1 hb; replace a9 := kB a9 hb; replace HB := bS HB hb; (try clear hb)) | ((with_reducible refine gD 7 ?_); refine bz 7 #[.int .i64 0, .int .i64 0, .int .i64 0, .int .i64 0, .string (⟨#[]⟩ : ByteArray)] 51 HB ?_; clear HB; intro m9 hg q4 hb e0 m8 HB; have b0 := nL hg a0; have b3 := nG hg a0; replace a0 := kB a0 hb; have b1 := nL hg a1; have b4 := nG hg a1; replace a1 := kB a1 hb; have b2 := nL hg a9; have b5 := nG hg a9; replace a9 := kB a9 hb; clear hb hg; have n4 := b3.out; have o6 := b0.out; have n5 := b4.out; have o7 := b1.out; have n6 := b5.out; have o8 := b2.out; obtain ⟨f1, f2, f3, f4, f5, j1, j2, j3, j4, j5⟩ := y5 e0; obtain ⟨f6, f7, f8, f9, g0, j6, j7, j8, j9, k0⟩ := y5 a9)))
   refine bodyPost_ret (results_cell_row rfl _ _ b8 51 #[.int .i64 m3, .int .i64 m4, .int .i64 m5, .int .i64 m6, .string m7] (0, 0) _ rfl (pP a9.out) Try.underlying51 rfl (by kernel_rfl)) rfl ?_
   exact ⟨er, pB HB.out⟩
  rw [if_neg c6] at H
  have p9 := decide_eq_false c6
  clear c6
  simp only [Option.some.injEq, Prod.mk.injEq] at H
  obtain ⟨rfl, rfl, rfl, rfl, rfl⟩ := H
  go_enter Try.func49, Try.ntmps49
  go_wp2_with (first | ((with_reducible refine gD 3 ?_); refine bz 3 #[.slice d8 b9.length d9, .int .i64 d0, .int .i64 d1, .int .i64 d2] 49 HB ?_; clear HB; intro d6 hg q5 hb a0 d3 HB; clear hb hg) | ((with_reducible refine gD 4 ?_); refine bz 4 #[.int .i64 b7, .int .i64 c7, .int .i64 b6, .int .i64 c8, .string c9] 51 HB ?_; clear HB; intro d7 hg q6 hb a1 d4 HB; have a3 := nL hg a0; have a5 := nG hg a0; replace a0 := kB a0 hb; clear hb hg) | ((with_reducible refine gD 6 ?_); refine bz 6 #[.int .i64 0, .int .i64 0, .int .i64 0, .int .i64 0, .string (⟨#[]⟩ : ByteArray)] 51 HB ?_; clear HB; intro b8 hg q7 hb a9 d5 HB; have a4 := nL hg a0; have a7 := nG hg a0; replace a0 := kB a0 hb; have a6 := nL hg a1; have a8 := nG hg a1; replace a1 := kB a1 hb; clear hb hg; have n7 := a5.out; have o9 := a3.out; have n8 := a6.out; have p0 := a8.out; obtain ⟨g1, g2, g3, g4, g5, k1, k2, k3, k4, k5⟩ := y5 a1) | (go_at_call 65; (with_reducible refine (Fp.calls k a2 e1 _ A5.out).mono ?_); rintro e w' ⟨rfl, ⟨nd, rfl⟩⟩; (try first | exact ⟨rfl, _, World.drewN_drewN _ _ _⟩ | exact ⟨rfl, _, Eq.trans (World.drewN_drewN _ _ _) (congrArg (World.drewN _) (Nat.add_assoc _ _ _))⟩); have n9 := a7.out; have p1 := a4.out; obtain ⟨g6, g7, g8, g9, h0, k6, k7, k8, k9, l0⟩ := y5 a9))
  repeat (go_quiet (first | ((with_reducible refine gD 3 ?_); refine bz 3 #[.slice d8 b9.length d9, .int .i64 d0, .int .i64 d1, .int .i64 d2] 49 HB ?_; clear HB; intro d6 hg q5 hb a0 d3 HB; clear hb hg) | ((with_reducible refine gD 4 ?_); refine bz 4 #[.int .i64 b7, .int .i64 c7, .int .i64 b6, .int .i64 c8, .string c9] 51 HB ?_; clear HB; intro d7 hg q6 hb a1 d4 HB; have a3 := nL hg a0; have a5 := nG hg a0; replace a0 := kB a0 hb; clear hb hg) | ((with_reducible refine gD 6 ?_); refine bz 6 #[.int .i64 0, .int .i64 0, .int .i64 0, .int .i64 0, .string (⟨#[]⟩ : ByteArray)] 51 HB ?_; clear HB; intro b8 hg q7 hb a9 d5 HB; have a4 := nL hg a0; have a7 := nG hg a0; replace a0 := kB a0 hb; have a6 := nL hg a1; have a8 := nG hg a1; replace a1 := kB a1 hb; clear hb hg; have n7 := a5.out; have o9 := a3.out; have n8 := a6.out; have p0 := a8.out; obtain ⟨g1, g2, g3, g4, g5, k1, k2, k3, k4, k5⟩ := y5 a1) | (go_at_call 65; (with_reducible refine (Fp.calls k a2 e1 _ A5.out).mono ?_); rintro e w' ⟨rfl, ⟨nd, rfl⟩⟩; (try first | exact ⟨rfl, _, World.drewN_drewN _ _ _⟩ | exact ⟨rfl, _, Eq.trans (World.drewN_drewN _ _ _) (congrArg (World.drewN _) (Nat.add_assoc _ _ _))⟩); have n9 := a7.out; have p1 := a4.out; obtain ⟨g6, g7, g8, g9, h0, k6, k7, k8, k9, l0⟩ := y5 a9)); try go_wp2_with (first | ((with_reducible refine gD 3 ?_); refine bz 3 #[.slice d8 b9.length d9, .int .i64 d0, .int .i64 d1, .int .i64 d2] 49 HB ?_; clear HB; intro d6 hg q5 hb a0 d3 HB; clear hb hg) | ((with_reducible refine gD 4 ?_); refine bz 4 #[.int .i64 b7, .int .i64 c7, .int .i64 b6, .int .i64 c8, .string c9] 51 HB ?_; clear HB; intro d7 hg q6 hb a1 d4 HB; have a3 := nL hg a0; have a5 := nG hg a0; replace a0 := kB a0 hb; clear hb hg) | ((with_reducible refine gD 6 ?_); refine bz 6 #[.int .i64 0, .int .i64 0, .int .i64 0, .int .i64 0, .string (⟨#[]⟩ : ByteArray)] 51 HB ?_; clear HB; intro b8 hg q7 hb a9 d5 HB; have a4 := nL hg a0; have a7 := nG hg a0; replace a0 := kB a0 hb; have a6 := nL hg a1; have a8 := nG hg a1; replace a1 := kB a1 hb; clear hb hg; have n7 := a5.out; have o9 := a3.out; have n8 := a6.out; have p0 := a8.out; obtain ⟨g1, g2, g3, g4, g5, k1, k2, k3, k4, k5⟩ := y5 a1) | (go_at_call 65; (with_reducible refine (Fp.calls k a2 e1 _ A5.out).mono ?_); rintro e w' ⟨rfl, ⟨nd, rfl⟩⟩; (try first | exact ⟨rfl, _, World.drewN_drewN _ _ _⟩ | exact ⟨rfl, _, Eq.trans (World.drewN_drewN _ _ _) (congrArg (World.drewN _) (Nat.add_assoc _ _ _))⟩); have n9 := a7.out; have p1 := a4.out; obtain ⟨g6, g7, g8, g9, h0, k6, k7, k8, k9, l0⟩ := y5 a9)))
  refine bodyPost_ret (results_cell_row rfl _ _ b8 51 #[.int .i64 b7, .int .i64 c7, .int .i64 b6, .int .i64 c8, .string c9] (0, 0) _ rfl (pP a9.out) Try.underlying51 rfl (by kernel_rfl)) rfl ?_
  exact ⟨er, pB HB.out⟩
 rw [if_neg c4] at H
 obtain ⟨p7, p8⟩ := qf c4
 simp only [Option.some.injEq, Prod.mk.injEq] at H
 obtain ⟨rfl, rfl, rfl, rfl, rfl⟩ := H
 go_enter Try.func49, Try.ntmps49
 go_wp2_with (first | ((with_reducible refine gD 3 ?_); refine bz 3 #[.slice d8 b9.length d9, .int .i64 d0, .int .i64 d1, .int .i64 d2] 49 HB ?_; clear HB; intro d6 hg q8 hb a0 d3 HB; clear hb hg) | ((with_reducible refine gD 4 ?_); refine bz 4 #[.int .i64 b7, .int .i64 c7, .int .i64 b6, .int .i64 c8, .string c9] 51 HB ?_; clear HB; intro d7 hg q9 hb a1 d4 HB; have a3 := nL hg a0; have a5 := nG hg a0; replace a0 := kB a0 hb; clear hb hg) | ((with_reducible refine gD 6 ?_); refine bz 6 #[.int .i64 0, .int .i64 0, .int .i64 0, .int .i64 0, .string (⟨#[]⟩ : ByteArray)] 51 HB ?_; clear HB; intro b8 hg r0 hb a9 d5 HB; have a4 := nL hg a0; have a7 := nG hg a0; replace a0 := kB a0 hb; have a6 := nL hg a1; have a8 := nG hg a1; replace a1 := kB a1 hb; clear hb hg; have o0 := a5.out; have p2 := a3.out; have o1 := a6.out; have p3 := a8.out; obtain ⟨h2, h3, h4, h5, h6, l1, l2, l3, l4, l5⟩ := y5 a1; have o2 := a7.out; have p4 := a4.out; obtain ⟨h7, h8, h9, i0, i1, l6, l7, l8, l9, m0⟩ := y5 a9))
 repeat (go_quiet (first | ((with_reducible refine gD 3 ?_); refine bz 3 #[.slice d8 b9.length d9, .int .i64 d0, .int .i64 d1, .int .i64 d2] 49 HB ?_; clear HB; intro d6 hg q8 hb a0 d3 HB; clear hb hg) | ((with_reducible refine gD 4 ?_); refine bz 4 #[.int .i64 b7, .int .i64 c7, .int .i64 b6, .int .i64 c8, .string c9] 51 HB ?_; clear HB; intro d7 hg q9 hb a1 d4 HB; have a3 := nL hg a0; have a5 := nG hg a0; replace a0 := kB a0 hb; clear hb hg) | ((with_reducible refine gD 6 ?_); refine bz 6 #[.int .i64 0, .int .i64 0, .int .i64 0, .int .i64 0, .string (⟨#[]⟩ : ByteArray)] 51 HB ?_; clear HB; intro b8 hg r0 hb a9 d5 HB; have a4 := nL hg a0; have a7 := nG hg a0; replace a0 := kB a0 hb; have a6 := nL hg a1; have a8 := nG hg a1; replace a1 := kB a1 hb; clear hb hg; have o0 := a5.out; have p2 := a3.out; have o1 := a6.out; have p3 := a8.out; obtain ⟨h2, h3, h4, h5, h6, l1, l2, l3, l4, l5⟩ := y5 a1; have o2 := a7.out; have p4 := a4.out; obtain ⟨h7, h8, h9, i0, i1, l6, l7, l8, l9, m0⟩ := y5 a9)); try go_wp2_with (first | ((with_reducible refine gD 3 ?_); refine bz 3 #[.slice d8 b9.length d9, .int .i64 d0, .int .i64 d1, .int .i64 d2] 49 HB ?_; clear HB; intro d6 hg q8 hb a0 d3 HB; clear hb hg) | ((with_reducible refine gD 4 ?_); refine bz 4 #[.int .i64 b7, .int .i64 c7, .int .i64 b6, .int .i64 c8, .string c9] 51 HB ?_; clear HB; intro d7 hg q9 hb a1 d4 HB; have a3 := nL hg a0; have a5 := nG hg a0; replace a0 := kB a0 hb; clear hb hg) | ((with_reducible refine gD 6 ?_); refine bz 6 #[.int .i64 0, .int .i64 0, .int .i64 0, .int .i64 0, .string (⟨#[]⟩ : ByteArray)] 51 HB ?_; clear HB; intro b8 hg r0 hb a9 d5 HB; have a4 := nL hg a0; have a7 := nG hg a0; replace a0 := kB a0 hb; have a6 := nL hg a1; have a8 := nG hg a1; replace a1 := kB a1 hb; clear hb hg; have o0 := a5.out; have p2 := a3.out; have o1 := a6.out; have p3 := a8.out; obtain ⟨h2, h3, h4, h5, h6, l1, l2, l3, l4, l5⟩ := y5 a1; have o2 := a7.out; have p4 := a4.out; obtain ⟨h7, h8, h9, i0, i1, l6, l7, l8, l9, m0⟩ := y5 a9)))
 refine bodyPost_ret (results_cell_row rfl _ _ b8 51 #[.int .i64 b7, .int .i64 c7, .int .i64 b6, .int .i64 c8, .string c9] (0, 0) _ rfl (pP a9.out) Try.underlying51 rfl (by kernel_rfl)) rfl ?_
 exact ⟨er, pB HB.out⟩
def Fj.l0 : Nat → Int → Int → Int → ByteArray → ByteArray → List (S49) → Int → List (S51) → Option (ByteArray × ByteArray × (List (S49)) × Int × (List (S51)))
 | 0, _, _, _, _, _, _, _, _ => none
 | k + 1, x1, x8, x9, a3, a4, a1, a5, a0 => if x9 < x8 then ((Fl.f k a3 a4 a1 a5 a0 x1).bind fun a2 => (if a2 ≥ 0 then (if 0 ≤ a2 then (if a2 < (a1.length : Int) then (if a2 < (a0.length : Int) then ((Gh.f k ((q0d a1 a2).f0) ((q0d a1 a2).f1) ((q0d a1 a2).f2) ((q0d a1 a2).f3) ((q0a a0 a2).f0) ((q0a a0 a2).f1) ((q0a a0 a2).f2) ((q0a a0 a2).f3) ((q0a a0 a2).f4) x1).bind fun a6 => ((Fm.f k a3 a4 a1 a5 a0 a2 a6.1 a6.2.1 a6.2.2.1 a6.2.2.2.1 a6.2.2.2.2).bind fun a7 => ((Fg.f k a7.1 a7.2.1 a7.2.2.1 a7.2.2.2.1 a7.2.2.2.2).bind fun a8 => (Fj.l0 k x1 x8 (wrap64 (x9 + 1)) a8.1 a8.2.1 a8.2.2.1 a8.2.2.2.1 a8.2.2.2.2)))) else (none)) else (none)) else (none)) else (Fj.l0 k x1 x8 (wrap64 (x9 + 1)) a3 a4 a1 a5 a0))) else (some (a3, a4, a1, a5, a0))
def Fj.f (k : Nat) (a2 : ByteArray) (a3 : ByteArray) (a5 : List (S49)) (a4 : Int) (a0 : List (S51)) (a1 : Int) : Option (ByteArray × ByteArray × (List (S49)) × Int × (List (S51))) := Fj.l0 k a1 (a0.length : Int) 0 a2 a3 a5 a4 a0
def Fj.T5 : Bool × List (List Nat × List Nat) := (true, [([], []), ([], []), ([], []), ([2], [2]), ([3], [3]), ([], []), ([4, 5], [4, 5]), ([6], [6]), ([], []), ([8], [8]), ([], []), ([9, 10], [9, 10]), ([11], [11]), ([], []), ([7, 12, 13], [7, 12, 13]), ([0, 1, 14, 14], [0, 1, 14]), ([15, 15], [15]), ([16, 16, 0, 1, 2, 3, 4, 5, 6, 7, 8, 9, 10, 11, 12, 13, 14, 15, 16], [16])])
def Fj.B5 : List Nat := [0, 0, 0, 4, 12, 0, 60, 124, 0, 256, 0, 1792, 3840, 0, 16380, 32767, 65535, 131071]
theorem Fj.tab5 : rtab .any (opsOf Try.f18 5) = Fj.T5 := by kernel_rfl
theorem Fj.bits5 : q3h Fj.T5.2 Fj.B5 = true := by kernel_rfl
set_option maxHeartbeats 8000000 in
set_option maxRecDepth 100000 in
theorem Fj.calls (k : Nat) (i0 : ByteArray) (i1 : ByteArray) (b8 : Nat → Prop) (g5 : Option Addr) (h4 : Nat) (d7 : List (S49)) (i2 : Int) (b9 : Nat → Prop) (g6 : Option Addr) (h5 : Nat) (d3 : List (S51)) (a1 : Int) (r1 : ByteArray) (r2 : ByteArray) (r3 : List (S49)) (r4 : Int) (r5 : List (S51)) (w : World) (m6 : Kd.V k49 49 w w.heap.size (fun k_ => b8 k_) (.slice g5 d7.length h4) d7) (m7 : Kd.V k51 51 w w.heap.size (fun k_ => b9 k_) (.slice g6 d3.length h5) d3) (h : Fj.f k i0 i1 d7 i2 d3 a1 = some (r1, r2, r3, r4, r5)) :
  Calls Try.prog 18 #[.agg #[.string i0, .string i1, .slice g5 d7.length h4, .int .i64 i2, .slice g6 d3.length h5], .int .i64 a1] w fun e w' => ∃ t5 t6 : Value, e = .returned (.agg #[.string r1, .string r2, t5, .int .i64 r4, t6]) ∧ Kd.V k49 49 w' w.heap.size (fun k_ => ((b8 k_ ∨ b9 k_) ∨ w.heap.size ≤ k_)) t5 r3 ∧ Kd.V k51 51 w' w.heap.size (fun k_ => ((b8 k_ ∨ b9 k_) ∨ w.heap.size ≤ k_)) t6 r5 ∧ Below w.heap.size w w' := by
 have u6 := Try.underlying27
 have u7 := Try.underlying49
 have u8 := Try.underlying51
 have e1 := am (show Kd.V k49 49 w w.heap.size (fun k_ => ((b8 k_ ∨ b9 k_) ∨ w.heap.size ≤ k_)) (.slice g5 d7.length h4) d7 from Kd.V_mono m6 (fun k_ hk => .inl (.inl hk)))
 have e2 := am (show Kd.V k51 51 w w.heap.size (fun k_ => ((b8 k_ ∨ b9 k_) ∨ w.heap.size ≤ k_)) (.slice g6 d3.length h5) d3 from Kd.V_mono m7 (fun k_ hk => .inl (.inr hk)))
 have HB := am (Below.refl w.heap.size w)
 unfold Fj.f at h
 have H := h
 clear h
 have H' := am H
 clear H
 go_enter Try.func18, Try.ntmps18
 go_wp2_with (first | ((with_reducible refine gD 2 ?_); refine bz 2 #[.string i0, .string i1, .slice g5 d7.length h4, .int .i64 i2, .slice g6 d3.length h5] 27 HB ?_; clear HB; intro b4 hg w3 hb a3 s1 HB; replace e1 := vE e1 hg hb; replace e2 := vE e2 hg hb; clear hb hg) | ((with_reducible refine gD 4 ?_); refine bz 4 #[.string (⟨#[]⟩ : ByteArray), .string (⟨#[]⟩ : ByteArray), .slice none 0 0, .int .i64 0, .slice none 0 0] 27 HB ?_; clear HB; intro d1 hg w4 hb b1 s2 HB; replace e1 := vE e1 hg hb; replace e2 := vE e2 hg hb; have b2 := nL hg a3; have b5 := nG hg a3; replace a3 := kB a3 hb; clear hb hg; have u0 := nn b2; have j6 := y5 a3))
 go_loopg [9] k (fun kq v9 w' => ∃ (g4 : Int) (a8 : ByteArray) (a9 : ByteArray) (a2 : List (S49)) (b0 : Int) (a0 : List (S51)) (d8 : Value) (d9 : Value), v9 = .int .i64 g4 ∧ q0e (Fj.l0 kq a1 (d3.length : Int) g4 a8 a9 a2 b0 a0 = some (r1, r2, r3, r4, r5)) ∧ q0e (kq ≤ k) ∧ q0e (Kd.V k49 49 w' w.heap.size (fun k_ => ((b8 k_ ∨ b9 k_) ∨ w.heap.size ≤ k_) ∧ k_ ≠ b4 ∧ k_ ≠ d1) d8 a2) ∧ q0e (Kd.V k51 51 w' w.heap.size (fun k_ => ((b8 k_ ∨ b9 k_) ∨ w.heap.size ≤ k_) ∧ k_ ≠ b4 ∧ k_ ≠ d1) d9 a0) ∧ q0e (w'.heap[b4]? = some (.cells #[.string a8, .string a9, d8, .int .i64 b0, d9] 27 (0, 0))) ∧ q0e (w'.heap[d1]? = some (.cells #[.string (⟨#[]⟩ : ByteArray), .string (⟨#[]⟩ : ByteArray), (.slice none 0 0), .int .i64 0, (.slice none 0 0)] 27 (0, 0))) ∧ q0e (Below w.heap.size w w'))
 case atStart => exact ⟨(0), (i0), (i1), (d7), (i2), (d3), (.slice g5 d7.length h4), (.slice g6 d3.length h5), el, H', ⟨Nat.le_refl _⟩, (vM e1), (vM e2), ⟨pk a3.out⟩, ⟨pk b1.out⟩, ⟨pB HB.out⟩⟩
 case round =>
  clear H'
  try clear j6
  try clear a3; try clear b1; try clear HB
  obtain ⟨g4, a8, a9, a2, b0, a0, d8, d9, rfl, HA, n2, a5, a6, a3, b1, HB⟩ := hrel
  cases gk with
  | zero => exact absurd HA.out (by simp [Fj.l0])
  | succ k1 =>
   have H := HA.out
   clear HA
   simp only [Fj.l0] at H
   by_cases c7 : g4 < (d3.length : Int)
   ·
    rw [if_pos c7] at H
    have p9 := decide_eq_true c7
    clear c7
    replace H := Option.bind_eq_some_iff.mp H
    obtain ⟨a7, s0, H⟩ := H
    try dsimp only at H
    have A8 := am s0
    clear s0
    by_cases c9 : a7 ≥ 0
    ·
     rw [if_pos c9] at H
     have q0 := decide_eq_true c9
     clear c9
     by_cases n3 : 0 ≤ a7
     ·
      rw [if_pos n3] at H
      have s3 := decide_eq_true n3
      clear n3
      by_cases n4 : a7 < (a2.length : Int)
      ·
       rw [if_pos n4] at H
       have s4 := decide_eq_true n4
       clear n4
       by_cases n5 : a7 < (a0.length : Int)
       ·
        rw [if_pos n5] at H
        have s5 := decide_eq_true n5
        clear n5
        replace H := Option.bind_eq_some_iff.mp H
        obtain ⟨⟨j9, k0, k2, k3, k4⟩, l2, H⟩ := H
        try dsimp only at H
        have t7 := am l2
        clear l2
        replace H := Option.bind_eq_some_iff.mp H
        obtain ⟨⟨k5, k6, k7, k8, h8⟩, l3, H⟩ := H
        try dsimp only at H
        have t8 := am l3
        clear l3
        replace H := Option.bind_eq_some_iff.mp H
        obtain ⟨⟨m8, m9, k9, n0, l1⟩, l4, H⟩ := H
        try dsimp only at H
        have t9 := am l4
        clear l4
        have H' := am H
        clear H
        have t2 := nn b2
        have n6 := y5 a3
        obtain ⟨p2, i3, q8⟩ := Kd.V_slice a5.out
        subst q8
        obtain ⟨p3, i4, q9⟩ := Kd.V_slice a6.out
        subst q9
        try go_wp2_with (first | ((with_reducible refine gC 47 ?_); refine gL 13 Try.func47 #[.agg #[.string a8, .string a9, .slice p2 a2.length i3, .int .i64 b0, .slice p3 a0.length i4], .int .i64 a1] ?_; (with_reducible refine (Fl.calls k1 a8 a9 _ _ a2 b0 _ _ a0 a1 a7 _ ?side1 ?side2 ?side3 ?side4 A8.out).mono ?_); (case side1 => exact pC ((Kd.V_reads' a5.out).2.2)); (case side2 => exact (Kd.V_reads' a5.out).2.1); (case side3 => exact pC ((Kd.V_reads' a6.out).2.2)); (case side4 => exact (Kd.V_reads' a6.out).2.1); rintro e v2 ⟨rfl, hb⟩; refine ⟨_, rfl, ?_⟩; replace a5 := vB a5 hb; replace a6 := vB a6 hb; replace a3 := kB a3 hb; replace b1 := kB b1 hb; replace HB := bS HB hb; (try clear hb)))
        replace a5 := am (Kd.V_drew a5.out)
        replace a6 := am (Kd.V_drew a6.out)
        replace a3 := am (q0g a3.out)
        replace b1 := am (q0g b1.out)
        replace HB := am (q0b HB.out)
        have i5 : 0 ≤ (a7 : Int) := od
        have i6 : a7 < (a2.length : Int) := od
        obtain ⟨d0, g7, h6, q6, d6, f5, f6, f7, e9, e8⟩ := q1s (Kd.V_reads' a5.out).2.2 a7 i5 i6
        cases q6
        obtain ⟨s6, j5, j4, h7⟩ := Kd.V_get a5.out z49 a7 i5 (by first | exact i6 | exact of_decide_eq_true (by first | (with_reducible assumption) | assumption) | (have e_ := (Kd.V_reads' a5.out).1; omega))
        obtain ⟨p0, p1, rfl, e0, d5⟩ := k49_openF j4
        have d2 := h7 0 _ rfl
        rw [Nat.add_zero] at d2
        replace d2 := Option.some.inj (d2.symm.trans d6)
        injection d2 with hva_ hvn_ hvc_
        rw [hva_] at d5
        rw [hvc_] at e0
        have b7 := am (show Kd.V (Kd.int .i64) 3 _ w.heap.size _ _ ((q0d a2 a7).f0) from Kd.V_mk e0 d5)
        clear hva_ hvn_ hvc_ d5 e0 h7 j5
        have b3 := am e8
        have h9 := am e9
        clear e8 e9
        replace i5 := eq_true i5
        replace i6 := eq_true i6
        have j7 : 0 ≤ (a7 : Int) := od
        have j8 : a7 < (a0.length : Int) := od
        obtain ⟨c6, q7, f8, f9, g0, g1, g2⟩ := q1j (Kd.V_reads' a6.out).2.2 a7 j7 j8
        cases q7
        replace j7 := eq_true j7
        replace j8 := eq_true j8
        refine q2a (n := 18) (S := fun w' => w'.cell? ⟨b4, 0, none⟩ = some (.string a8) ∧ w'.cell? ⟨b4, 1, none⟩ = some (.string a9) ∧ w'.cell? ⟨b4, 2, none⟩ = some (.slice (some d0) a2.length i3) ∧ w'.cell? ⟨b4, 3, none⟩ = some (.int .i64 b0) ∧ w'.cell? ⟨b4, 4, none⟩ = some (.slice (some c6) a0.length i4) ∧ w'.cell? (d0.add ((a7).toNat * 4)) = some (.slice g7 ((q0d a2 a7).f0).length h6) ∧ w'.cell? ⟨(d0.add ((a7).toNat * 4)).block, (d0.add ((a7).toNat * 4)).off + 1, none⟩ = some (.int .i64 ((q0d a2 a7).f1)) ∧ w'.cell? ⟨(d0.add ((a7).toNat * 4)).block, (d0.add ((a7).toNat * 4)).off + 2, none⟩ = some (.int .i64 ((q0d a2 a7).f2)) ∧ w'.cell? ⟨(d0.add ((a7).toNat * 4)).block, (d0.add ((a7).toNat * 4)).off + 3, none⟩ = some (.int .i64 ((q0d a2 a7).f3)) ∧ w'.cell? (c6.add ((a7).toNat * 5)) = some (.int .i64 ((q0a a0 a7).f0)) ∧ w'.cell? ⟨(c6.add ((a7).toNat * 5)).block, (c6.add ((a7).toNat * 5)).off + 1, none⟩ = some (.int .i64 ((q0a a0 a7).f1)) ∧ w'.cell? ⟨(c6.add ((a7).toNat * 5)).block, (c6.add ((a7).toNat * 5)).off + 2, none⟩ = some (.int .i64 ((q0a a0 a7).f2)) ∧ w'.cell? ⟨(c6.add ((a7).toNat * 5)).block, (c6.add ((a7).toNat * 5)).off + 3, none⟩ = some (.int .i64 ((q0a a0 a7).f3)) ∧ w'.cell? ⟨(c6.add ((a7).toNat * 5)).block, (c6.add ((a7).toNat * 5)).off + 4, none⟩ = some (.string ((q0a a0 a7).f4))) (ds := [17]) (ba 18 0) (by kernel_rfl) rfl rfl ⟨bc a3.out, bc a3.out, bc a3.out, bc a3.out, bc a3.out, d6, f5, f6, f7, f8, f9, g0, g1, g2⟩ (fun a4 => ?_); refine q1x Fj.tab5 Fj.bits5 (fun d4 l7 => ?_)
        generalize v2.drew = v3 at a5 a6 a3 b1 HB b7 b3 d6 f5 f6 f7 f8 f9 g0 g1 g2 a4 ⊢
        refine pu 1 17 (ba 18 2) d4 ?_
        refine pu 2 18 (ba 18 6) d4 ?_
        refine pu 3 19 (ba 18 14) d4 ?_
        refine pu 5 21 (ba 18 46) d4 ?_
        refine pu 8 24 (ba 18 302) d4 ?_
        refine pu 10 26 (ba 18 1326) d4 ?_
        refine pu 13 29 (ba 18 9518) d4 ?_
        refine tk 0 16 (ba 18 9519) d4 l7 a4 ?_
        refine tk 4 20 (ba 18 9535) d4 l7 a4 ?_
        refine pu 6 22 (ba 18 9599) d4 ?_
        refine tk 7 23 (ba 18 9727) d4 l7 a4 ?_
        refine tk 9 25 (ba 18 10239) d4 l7 a4 ?_
        refine pu 11 27 (ba 18 12287) d4 ?_
        refine tk 12 28 (ba 18 16383) d4 l7 a4 ?_
        refine one_ (i := 14) (N := some 30) (ba 18 32767) rfl rfl (q3g d4.out (by kernel_rfl)) (by decide) (fun K hK => ?_)
        refine q1r Try.func49 (by kernel_rfl) rfl #[.agg #[.slice g7 ((q0d a2 a7).f0).length h6, .int .i64 ((q0d a2 a7).f1), .int .i64 ((q0d a2 a7).f2), .int .i64 ((q0d a2 a7).f3)], .agg #[.int .i64 ((q0a a0 a7).f0), .int .i64 ((q0a a0 a7).f1), .int .i64 ((q0a a0 a7).f2), .int .i64 ((q0a a0 a7).f3), .string ((q0a a0 a7).f4)], .int .i64 a1] (by rfl) rfl rfl (by (try simp only [List.map_toArray, List.map_cons, List.map_nil]); first | done | rfl | (simp only [List.length_drop, List.length_take]; rfl)) ?_
        with_reducible refine (Gh.calls k1 _ _ ((q0d a2 a7).f0) ((q0d a2 a7).f1) ((q0d a2 a7).f2) ((q0d a2 a7).f3) ((q0a a0 a7).f0) ((q0a a0 a7).f1) ((q0a a0 a7).f2) ((q0a a0 a7).f3) ((q0a a0 a7).f4) a1 j9 k0 k2 k3 k4 _ ?side1 ?side2 t7.out).mono ?_
        (case side1 => repeat (first | exact (by repeat (first | (with_reducible exact b3.out) | (with_reducible refine Kd.C_alloc ?_ _) | (with_reducible refine Kd.C_drewN ?_ _) | (with_reducible refine Kd.C_drew ?_) | exact b3.out)) | (with_reducible refine Kd.C_alloc ?_ _) | (with_reducible refine Kd.C_drewN ?_ _) | (with_reducible refine Kd.C_drew ?_)))
        (case side2 => exact h9.out)
        rintro e v4 ⟨rfl, hb⟩
        have g8 := (hb.cell (World.block_lt_of_cell? _ _ (a4.2.2.2.2.2.1))).trans (a4.2.2.2.2.2.1)
        have g9 := (hb.cell (World.block_lt_of_cell? _ _ (a4.2.2.2.2.2.2.1))).trans (a4.2.2.2.2.2.2.1)
        have h0 := (hb.cell (World.block_lt_of_cell? _ _ (a4.2.2.2.2.2.2.2.1))).trans (a4.2.2.2.2.2.2.2.1)
        have h2 := (hb.cell (World.block_lt_of_cell? _ _ (a4.2.2.2.2.2.2.2.2.1))).trans (a4.2.2.2.2.2.2.2.2.1)
        have h3 := (hb.cell (World.block_lt_of_cell? _ _ (a4.2.2.2.2.2.2.2.2.2.1))).trans (a4.2.2.2.2.2.2.2.2.2.1)
        have e3 := (hb.cell (World.block_lt_of_cell? _ _ (a4.2.2.2.2.2.2.2.2.2.2.1))).trans (a4.2.2.2.2.2.2.2.2.2.2.1)
        have e4 := (hb.cell (World.block_lt_of_cell? _ _ (a4.2.2.2.2.2.2.2.2.2.2.2.1))).trans (a4.2.2.2.2.2.2.2.2.2.2.2.1)
        have e5 := (hb.cell (World.block_lt_of_cell? _ _ (a4.2.2.2.2.2.2.2.2.2.2.2.2.1))).trans (a4.2.2.2.2.2.2.2.2.2.2.2.2.1)
        have e6 := (hb.cell (World.block_lt_of_cell? _ _ (a4.2.2.2.2.2.2.2.2.2.2.2.2.2))).trans (a4.2.2.2.2.2.2.2.2.2.2.2.2.2)
        refine ⟨_, rfl, ?_⟩
        replace a5 := vB a5 hb
        replace a6 := vB a6 hb
        replace b7 := vB b7 hb
        replace a3 := kB a3 hb
        replace b1 := kB b1 hb
        replace b3 := am (Kd.C_below (by repeat (first | (with_reducible exact b3.out) | (with_reducible refine Kd.C_alloc ?_ _) | (with_reducible refine Kd.C_drewN ?_ _) | (with_reducible refine Kd.C_drew ?_) | exact b3.out)) hb)
        replace HB := bS HB hb
        (try clear hb)
        (try clear hb2)
        (try clear hk)
        (try clear hi)
        refine hK.out _ _ ⟨bc a3.out, bc a3.out, bc a3.out, bc a3.out, bc a3.out, g8, g9, h0, h2, h3, e3, e4, e5, e6⟩ (fun a4 => ?_)
        clear hK K
        refine nh ?_
        refine one_ (i := 15) (N := some 31) (ba 18 65535) rfl rfl (q3g d4.out (by kernel_rfl)) (by decide) (fun K hK => ?_)
        refine q1r Try.func48 (by kernel_rfl) rfl #[.agg #[.string a8, .string a9, .slice (some d0) a2.length i3, .int .i64 b0, .slice (some c6) a0.length i4], .int .i64 a7, .agg #[.int .i64 j9, .int .i64 k0, .int .i64 k2, .int .i64 k3, .string k4]] (by rfl) rfl rfl (by (try simp only [List.map_toArray, List.map_cons, List.map_nil]); first | done | rfl | (simp only [List.length_drop, List.length_take]; rfl)) ?_
        with_reducible refine (Fm.calls k1 a8 a9 (fun k_ => (((b8 k_ ∨ b9 k_) ∨ w.heap.size ≤ k_) ∧ (k_ ≠ b4 ∧ k_ ≠ d1))) _ _ a2 b0 _ _ a0 a7 j9 k0 k2 k3 k4 k5 k6 k7 k8 h8 _ ?side1 ?side2 ?side3 t8.out).mono ?_
        (case side1 => exact a5.out)
        (case side2 => exact pC ((Kd.V_reads' a6.out).2.2))
        (case side3 => exact (Kd.V_reads' a6.out).2.1)
        rintro e v5 ⟨u9, r9, rfl, m5, i9, hb⟩
        have g8 := (hb.cell (World.block_lt_of_cell? _ _ (a4.2.2.2.2.2.1))).trans (a4.2.2.2.2.2.1)
        have g9 := (hb.cell (World.block_lt_of_cell? _ _ (a4.2.2.2.2.2.2.1))).trans (a4.2.2.2.2.2.2.1)
        have h0 := (hb.cell (World.block_lt_of_cell? _ _ (a4.2.2.2.2.2.2.2.1))).trans (a4.2.2.2.2.2.2.2.1)
        have h2 := (hb.cell (World.block_lt_of_cell? _ _ (a4.2.2.2.2.2.2.2.2.1))).trans (a4.2.2.2.2.2.2.2.2.1)
        have h3 := (hb.cell (World.block_lt_of_cell? _ _ (a4.2.2.2.2.2.2.2.2.2.1))).trans (a4.2.2.2.2.2.2.2.2.2.1)
        have e3 := (hb.cell (World.block_lt_of_cell? _ _ (a4.2.2.2.2.2.2.2.2.2.2.1))).trans (a4.2.2.2.2.2.2.2.2.2.2.1)
        have e4 := (hb.cell (World.block_lt_of_cell? _ _ (a4.2.2.2.2.2.2.2.2.2.2.2.1))).trans (a4.2.2.2.2.2.2.2.2.2.2.2.1)
        have e5 := (hb.cell (World.block_lt_of_cell? _ _ (a4.2.2.2.2.2.2.2.2.2.2.2.2.1))).trans (a4.2.2.2.2.2.2.2.2.2.2.2.2.1)
        have e6 := (hb.cell (World.block_lt_of_cell? _ _ (a4.2.2.2.2.2.2.2.2.2.2.2.2.2))).trans (a4.2.2.2.2.2.2.2.2.2.2.2.2.2)
        refine ⟨_, rfl, ?_⟩
        replace a5 := am (Kd.V_elder' (pV a5.out) (Kd.R_base i9) hb)
        replace a6 := am (Kd.V_elder' (pV a6.out) (Kd.R_base i9) hb)
        replace b7 := am (Kd.V_elder' (pV b7.out) (Kd.R_base i9) hb)
        have e7 := vL (ok' := fun k_ => ((b8 k_ ∨ b9 k_) ∨ w.heap.size ≤ k_) ∧ some k_ ≠ (r9 : Value).ownBlock ∧ k_ ≠ b4 ∧ k_ ≠ d1) HB m5 (fun k_ g3 => ⟨Or.elim g3.1 (fun b6 => b6.1) (fun m4 => (.inr (Nat.le_trans (q0m (pB HB.out)) m4))), g3.2, Or.elim g3.1 (fun b6 => b6.2.1) (fB a3), Or.elim g3.1 (fun b6 => b6.2.2) (fB b1)⟩)
        have c8 := am (Kd.R_lower (Kd.R_newM (M := fun k_ => (w.heap.size ≤ k_)) (Kd.R_mono (ok' := fun k_ => True) i9 (fun _ g3 => trivial)) (q0m (pB HB.out)) (fun k_ h_ => h_)) (q0m (pB HB.out)))
        replace a3 := kB a3 hb
        replace b1 := kB b1 hb
        replace b3 := am (Kd.C_below (by repeat (first | (with_reducible exact b3.out) | (with_reducible refine Kd.C_alloc ?_ _) | (with_reducible refine Kd.C_drewN ?_ _) | (with_reducible refine Kd.C_drew ?_) | exact b3.out)) hb)
        replace HB := bS HB hb
        (try clear hb)
        (try clear hb2)
        (try clear hk)
        (try clear hi)
        (try clear m5)
        (try clear i9)
        obtain ⟨p4, q1, m0⟩ := Kd.V_slice e7.out
        (first | subst m0 | (injection m0 with f1_ f2_ f3_; have j2 := f1_.symm; have j3 := f3_.symm; clear f1_ f2_ f3_; subst j2; subst j3))
        obtain ⟨j0, j1, m1⟩ := Kd.R_slice c8.out
        (first | subst m1 | (injection m1 with f1_ f2_ f3_; have j2 := f1_.symm; have j3 := f3_.symm; clear f1_ f2_ f3_; subst j2; subst j3))
        refine hK.out _ _ ⟨bc a3.out, bc a3.out, bc a3.out, bc a3.out, bc a3.out, g8, g9, h0, h2, h3, e3, e4, e5, e6⟩ (fun a4 => ?_)
        clear hK K
        refine nh ?_
        refine one_ (i := 16) (N := some 32) (ba 18 131071) rfl rfl (q3g d4.out (by kernel_rfl)) (by decide) (fun K hK => ?_)
        refine q1r Try.func35 (by kernel_rfl) rfl #[.agg #[.string k5, .string k6, .slice p4 k7.length q1, .int .i64 k8, .slice j0 h8.length j1]] (by rfl) rfl rfl (by (try simp only [List.map_toArray, List.map_cons, List.map_nil]); first | done | rfl | (simp only [List.length_drop, List.length_take]; rfl)) ?_
        with_reducible refine (Fg.calls k1 k5 k6 (fun k_ => (((b8 k_ ∨ b9 k_) ∨ w.heap.size ≤ k_) ∧ (some k_ ≠ (.slice j0 h8.length j1 : Value).ownBlock ∧ (k_ ≠ b4 ∧ k_ ≠ d1)))) _ _ k7 k8 (fun k_ => some k_ = (.slice j0 h8.length j1 : Value).ownBlock) _ _ h8 m8 m9 k9 n0 l1 _ ?side1 ?side2 t9.out).mono ?_
        (case side1 => exact e7.out)
        (case side2 => exact Kd.R_V (Kd.R_tight rfl (Kd.R_types (Kd.R_types (c8.out) a3.out (by decide)) b1.out (by decide))))
        rintro e n1 ⟨v0, v1, rfl, m5, i9, hb⟩
        have g8 := (hb.cell (World.block_lt_of_cell? _ _ (a4.2.2.2.2.2.1))).trans (a4.2.2.2.2.2.1)
        have g9 := (hb.cell (World.block_lt_of_cell? _ _ (a4.2.2.2.2.2.2.1))).trans (a4.2.2.2.2.2.2.1)
        have h0 := (hb.cell (World.block_lt_of_cell? _ _ (a4.2.2.2.2.2.2.2.1))).trans (a4.2.2.2.2.2.2.2.1)
        have h2 := (hb.cell (World.block_lt_of_cell? _ _ (a4.2.2.2.2.2.2.2.2.1))).trans (a4.2.2.2.2.2.2.2.2.1)
        have h3 := (hb.cell (World.block_lt_of_cell? _ _ (a4.2.2.2.2.2.2.2.2.2.1))).trans (a4.2.2.2.2.2.2.2.2.2.1)
        have e3 := (hb.cell (World.block_lt_of_cell? _ _ (a4.2.2.2.2.2.2.2.2.2.2.1))).trans (a4.2.2.2.2.2.2.2.2.2.2.1)
        have e4 := (hb.cell (World.block_lt_of_cell? _ _ (a4.2.2.2.2.2.2.2.2.2.2.2.1))).trans (a4.2.2.2.2.2.2.2.2.2.2.2.1)
        have e5 := (hb.cell (World.block_lt_of_cell? _ _ (a4.2.2.2.2.2.2.2.2.2.2.2.2.1))).trans (a4.2.2.2.2.2.2.2.2.2.2.2.2.1)
        have e6 := (hb.cell (World.block_lt_of_cell? _ _ (a4.2.2.2.2.2.2.2.2.2.2.2.2.2))).trans (a4.2.2.2.2.2.2.2.2.2.2.2.2.2)
        refine ⟨_, rfl, ?_⟩
        replace a5 := vB a5 hb
        replace a6 := vB a6 hb
        replace b7 := vB b7 hb
        replace e7 := vB e7 hb
        have i7 := vL (ok' := fun k_ => ((b8 k_ ∨ b9 k_) ∨ w.heap.size ≤ k_) ∧ k_ ≠ b4 ∧ k_ ≠ d1) HB m5 (fun k_ g3 => ⟨Or.elim g3 (fun b6 => Or.elim b6 (fun b6 => b6.1) (fun b6 => (.inr (((Kd.R_types (Kd.R_types (c8.out) a3.out (by decide)) b1.out (by decide)).1 k_ b6.symm).1.1.1)))) (fun m4 => (.inr (Nat.le_trans (q0m (pB HB.out)) m4))), Or.elim g3 (fun b6 => Or.elim b6 (fun b6 => b6.2.2.1) (fun b6 => ((Kd.R_types (Kd.R_types (c8.out) a3.out (by decide)) b1.out (by decide)).1 k_ b6.symm).1.2)) (fB a3), Or.elim g3 (fun b6 => Or.elim b6 (fun b6 => b6.2.2.2) (fun b6 => ((Kd.R_types (Kd.R_types (c8.out) a3.out (by decide)) b1.out (by decide)).1 k_ b6.symm).2)) (fB b1)⟩)
        have i8 := vL (ok' := fun k_ => ((b8 k_ ∨ b9 k_) ∨ w.heap.size ≤ k_) ∧ k_ ≠ b4 ∧ k_ ≠ d1) HB i9 (fun k_ g3 => ⟨Or.elim g3 (fun b6 => Or.elim b6 (fun b6 => b6.1) (fun b6 => (.inr (((Kd.R_types (Kd.R_types (c8.out) a3.out (by decide)) b1.out (by decide)).1 k_ b6.symm).1.1.1)))) (fun m4 => (.inr (Nat.le_trans (q0m (pB HB.out)) m4))), Or.elim g3 (fun b6 => Or.elim b6 (fun b6 => b6.2.2.1) (fun b6 => ((Kd.R_types (Kd.R_types (c8.out) a3.out (by decide)) b1.out (by decide)).1 k_ b6.symm).1.2)) (fB a3), Or.elim g3 (fun b6 => Or.elim b6 (fun b6 => b6.2.2.2) (fun b6 => ((Kd.R_types (Kd.R_types (c8.out) a3.out (by decide)) b1.out (by decide)).1 k_ b6.symm).2)) (fB b1)⟩)
        replace c8 := am (Kd.R_below (pR c8.out) hb)
        replace a3 := kB a3 hb
        replace b1 := kB b1 hb
        replace b3 := am (Kd.C_below (by repeat (first | (with_reducible exact b3.out) | (with_reducible refine Kd.C_alloc ?_ _) | (with_reducible refine Kd.C_drewN ?_ _) | (with_reducible refine Kd.C_drew ?_) | exact b3.out)) hb)
        replace HB := bS HB hb
        (try clear hb)
        (try clear hb2)
        (try clear hk)
        (try clear hi)
        (try clear m5)
        (try clear i9)
        obtain ⟨p5, q2, m2⟩ := Kd.V_slice i7.out
        (first | subst m2 | (injection m2 with f1_ f2_ f3_; have j2 := f1_.symm; have j3 := f3_.symm; clear f1_ f2_ f3_; subst j2; subst j3))
        obtain ⟨p6, q3, m3⟩ := Kd.V_slice i8.out
        (first | subst m3 | (injection m3 with f1_ f2_ f3_; have j2 := f1_.symm; have j3 := f3_.symm; clear f1_ f2_ f3_; subst j2; subst j3))
        refine hK.out _ _ ⟨bc a3.out, bc a3.out, bc a3.out, bc a3.out, bc a3.out, g8, g9, h0, h2, h3, e3, e4, e5, e6⟩ (fun a4 => ?_)
        clear hK K
        refine nh ?_
        refine last_ (i := 17) (N := none) (ba 18 262143) rfl rfl (q3g d4.out (by kernel_rfl)) (by decide) (fun K hK => ?_)
        have u1 : n1.cell? ⟨b4, 0, none⟩ = some (.string a8) := bc a3.out
        have s7 := z1 a3.out
        have o5 := b5.out
        have o0 := b2.out
        have u2 : n1.cell? ⟨b4, 1, none⟩ = some (.string a9) := bc a3.out
        have s8 := q0j a3.out 1
        have o6 := b5.out
        have o1 := b2.out
        have u3 : n1.cell? ⟨b4, 2, none⟩ = some (.slice (some d0) a2.length i3) := bc a3.out
        have s9 := q0j a3.out 2
        have o7 := b5.out
        have o2 := b2.out
        have u4 : n1.cell? ⟨b4, 3, none⟩ = some (.int .i64 b0) := bc a3.out
        have t0 := q0j a3.out 3
        have o8 := b5.out
        have o3 := b2.out
        have u5 : n1.cell? ⟨b4, 4, none⟩ = some (.slice (some c6) a0.length i4) := bc a3.out
        have t1 := q0j a3.out 4
        have o9 := b5.out
        have o4 := b2.out
        refine skip_ (w1 := ?_) (by rfl) rfl ?_ ?_
        rotate_left
        ·
         go_simp
         rfl
        refine hK.out _ _ ?_
        clear hK K
        refine q1w (q2r d4.out (by kernel_rfl)) ?_
        try go_wp2
        go_roundg k1
        case measure => have := n2.out; omega
        case rel => exact ⟨(wrap64 (g4 + 1)), (m8), (m9), (k9), (n0), (l1), (.slice p5 k9.length q2), (.slice p6 l1.length q3), el, H', ⟨by have := n2.out; omega⟩, ⟨(pV i7.out)⟩, ⟨(pV i8.out)⟩, ⟨pP a3.out⟩, ⟨pk b1.out⟩, ⟨pB HB.out⟩⟩
       rw [if_neg n5] at H
       exact absurd H (by simp)
      rw [if_neg n4] at H
      exact absurd H (by simp)
     rw [if_neg n3] at H
     exact absurd H (by simp)
    rw [if_neg c9] at H
    have q0 := decide_eq_false c9
    clear c9
    have H' := am H
    clear H
    have t3 := nn b2
    have n7 := y5 a3
    obtain ⟨l5, l8, r0⟩ := Kd.V_slice a5.out
    subst r0
    obtain ⟨l6, l9, r6⟩ := Kd.V_slice a6.out
    subst r6
    go_wp2_with (first | ((with_reducible refine gC 47 ?_); refine gL 13 Try.func47 #[.agg #[.string a8, .string a9, .slice l5 a2.length l8, .int .i64 b0, .slice l6 a0.length l9], .int .i64 a1] ?_; (with_reducible refine (Fl.calls k1 a8 a9 _ _ a2 b0 _ _ a0 a1 a7 _ ?side1 ?side2 ?side3 ?side4 A8.out).mono ?_); (case side1 => exact pC ((Kd.V_reads' a5.out).2.2)); (case side2 => exact (Kd.V_reads' a5.out).2.1); (case side3 => exact pC ((Kd.V_reads' a6.out).2.2)); (case side4 => exact (Kd.V_reads' a6.out).2.1); rintro e v6 ⟨rfl, hb⟩; refine ⟨_, rfl, ?_⟩; replace a5 := vB a5 hb; replace a6 := vB a6 hb; replace a3 := kB a3 hb; replace b1 := kB b1 hb; replace HB := bS HB hb; (try clear hb)))
    go_roundg k1
    case measure => have := n2.out; omega
    case rel => exact ⟨(wrap64 (g4 + 1)), (a8), (a9), (a2), (b0), (a0), (.slice l5 a2.length l8), (.slice l6 a0.length l9), el, H', ⟨by have := n2.out; omega⟩, ⟨(pV a5.out)⟩, ⟨(pV a6.out)⟩, ⟨pk a3.out⟩, ⟨pk b1.out⟩, ⟨pB HB.out⟩⟩
   rw [if_neg c7] at H
   have p9 := decide_eq_false c7
   clear c7
   simp only [Option.some.injEq, Prod.mk.injEq] at H
   obtain ⟨rfl, rfl, rfl, rfl, rfl⟩ := H
   have t4 := nn b2
   have n8 := y5 a3
   have n9 := y5 b1
   obtain ⟨p7, q4, r7⟩ := Kd.V_slice a5.out
   subst r7
   obtain ⟨p8, q5, r8⟩ := Kd.V_slice a6.out
   subst r8
   go_wp2
   refine bodyPost_ret (results_cell_row rfl _ _ d1 27 #[.string a8, .string a9, .slice p7 a2.length q4, .int .i64 b0, .slice p8 a0.length q5] (0, 0) _ rfl (pP b1.out) Try.underlying27 rfl (by kernel_rfl)) rfl ?_
   exact ⟨_, _, by first | rfl | (simp [q1b, q1a] <;> rfl) | (simp [*, q1b, q1a] <;> rfl), by exact Kd.V_mono (pV a5.out) (fun _ hk => hk.1), by exact Kd.V_mono (pV a6.out) (fun _ hk => hk.1), pB HB.out⟩
def Fv.j0 : Nat → Int → Int → Bool → List Int → Int → Int → Int → Int → Int → Int → Int → ByteArray → Option (Int × Int × Int × Int × ByteArray × Int)
 | 0, _, _, _, _, _, _, _, _, _, _, _, _ => none
 | k + 1, x2, x3, b1, a5, a6, a7, a0, a1, a2, a3, a8, a4 => if b1 = true then (some (0, 0, 0, 0, (⟨#[]⟩ : ByteArray), 1)) else (if a1 = 1 then ((Fp.f k x2).bind fun a9 => (if a3 > a9 then (some (0, 0, 0, 0, (⟨#[]⟩ : ByteArray), 192)) else ((Fe.f k x2 (([a0] : List Int))).bind fun b0 => (some (2, wrap64 (a2 + 1), b0, x3, a4, 0))))) else (some (0, 0, 0, 0, (⟨#[]⟩ : ByteArray), 192)))
def Fv.f (k : Nat) (b0 : List Int) (a0 : Int) (a1 : Int) (a4 : Int) (a5 : Int) (a6 : Int) (a7 : Int) (a8 : Int) (a9 : ByteArray) (a2 : Int) (a3 : Int) : Option (Int × Int × Int × Int × ByteArray × Int) := if a3 < 1 then (Fv.j0 k a2 a3 true b0 a0 a1 a4 a5 a6 a7 a8 a9) else (Fv.j0 k a2 a3 (decide (a3 > 1099511627776)) b0 a0 a1 a4 a5 a6 a7 a8 a9)
set_option maxHeartbeats 8000000 in
set_option maxRecDepth 100000 in
theorem Fv.calls (k : Nat) (h4 : Option Addr) (h5 : Nat) (b8 : List Int) (d1 : Int) (d2 : Int) (a9 : Int) (c8 : Int) (b3 : Int) (b5 : Int) (b7 : Int) (b4 : ByteArray) (a2 : Int) (a3 : Int) (r1 : Int) (r2 : Int) (r3 : Int) (r4 : Int) (r5 : ByteArray) (r6 : Int) (w : World) (i9 : Kd.C (Kd.int .i64) w h4 b8.length b8) (i4 : b8.length ≤ h5) (h : Fv.f k b8 d1 d2 a9 c8 b3 b5 b7 b4 a2 a3 = some (r1, r2, r3, r4, r5, r6)) :
  Calls Try.prog 66 #[.agg #[.slice h4 b8.length h5, .int .i64 d1, .int .i64 d2, .int .i64 a9], .agg #[.int .i64 c8, .int .i64 b3, .int .i64 b5, .int .i64 b7, .string b4], .int .i64 a2, .int .i64 a3] w fun e w' => e = .returned (.tuple #[.agg #[.int .i64 r1, .int .i64 r2, .int .i64 r3, .int .i64 r4, .string r5], .int .i64 r6]) ∧ Below w.heap.size w w' := by
 have m4 := Try.underlying49
 have m5 := Try.underlying51
 have l3 := am i9
 have l2 := am i4
 clear i9 i4
 have HB := am (Below.refl w.heap.size w)
 unfold Fv.f at h
 have H := h
 clear h
 have l1 := am H
 clear H
 go_enter Try.func66, Try.ntmps66
 go_upto_region 1 with (first | ((with_reducible refine gD 4 ?_); refine bz 4 #[.slice h4 b8.length h5, .int .i64 d1, .int .i64 d2, .int .i64 a9] 49 HB ?_; clear HB; intro h9 hg w6 hb a0 i1 HB; clear hb hg) | ((with_reducible refine gD 5 ?_); refine bz 5 #[.int .i64 c8, .int .i64 b3, .int .i64 b5, .int .i64 b7, .string b4] 51 HB ?_; clear HB; intro c7 hg w7 hb a1 i2 HB; have b9 := nL hg a0; have a7 := nG hg a0; replace a0 := kB a0 hb; clear hb hg) | ((with_reducible refine gD 8 ?_); refine bz 8 #[.int .i64 0, .int .i64 0, .int .i64 0, .int .i64 0, .string (⟨#[]⟩ : ByteArray)] 51 HB ?_; clear HB; intro b6 hg w8 hb a5 i3 HB; have a6 := nL hg a0; have a4 := nG hg a0; replace a0 := kB a0 hb; have a8 := nL hg a1; have b2 := nG hg a1; replace a1 := kB a1 hb; clear hb hg))
 repeat (go_quiet (first | ((with_reducible refine gD 4 ?_); refine bz 4 #[.slice h4 b8.length h5, .int .i64 d1, .int .i64 d2, .int .i64 a9] 49 HB ?_; clear HB; intro h9 hg w6 hb a0 i1 HB; clear hb hg) | ((with_reducible refine gD 5 ?_); refine bz 5 #[.int .i64 c8, .int .i64 b3, .int .i64 b5, .int .i64 b7, .string b4] 51 HB ?_; clear HB; intro c7 hg w7 hb a1 i2 HB; have b9 := nL hg a0; have a7 := nG hg a0; replace a0 := kB a0 hb; clear hb hg) | ((with_reducible refine gD 8 ?_); refine bz 8 #[.int .i64 0, .int .i64 0, .int .i64 0, .int .i64 0, .string (⟨#[]⟩ : ByteArray)] 51 HB ?_; clear HB; intro b6 hg w8 hb a5 i3 HB; have a6 := nL hg a0; have a4 := nG hg a0; replace a0 := kB a0 hb; have a8 := nL hg a1; have b2 := nG hg a1; replace a1 := kB a1 hb; clear hb hg)); go_upto_region 1 with (first | ((with_reducible refine gD 4 ?_); refine bz 4 #[.slice h4 b8.length h5, .int .i64 d1, .int .i64 d2, .int .i64 a9] 49 HB ?_; clear HB; intro h9 hg w6 hb a0 i1 HB; clear hb hg) | ((with_reducible refine gD 5 ?_); refine bz 5 #[.int .i64 c8, .int .i64 b3, .int .i64 b5, .int .i64 b7, .string b4] 51 HB ?_; clear HB; intro c7 hg w7 hb a1 i2 HB; have b9 := nL hg a0; have a7 := nG hg a0; replace a0 := kB a0 hb; clear hb hg) | ((with_reducible refine gD 8 ?_); refine bz 8 #[.int .i64 0, .int .i64 0, .int .i64 0, .int .i64 0, .string (⟨#[]⟩ : ByteArray)] 51 HB ?_; clear HB; intro b6 hg w8 hb a5 i3 HB; have a6 := nL hg a0; have a4 := nG hg a0; replace a0 := kB a0 hb; have a8 := nL hg a1; have b2 := nG hg a1; replace a1 := kB a1 hb; clear hb hg)))
 (try simp only [Act.put, List.setIfInBounds_toArray, List.set_cons_zero, List.set_cons_succ])
 go_cut [15] (fun m6 wc => ∃ (kq : Nat) (h3 : Bool), m6 = .bool h3 ∧ q0e (Fv.j0 kq a2 a3 h3 b8 d1 d2 a9 c8 b3 b5 b7 b4 = some (r1, r2, r3, r4, r5, r6)) ∧ q0e (kq ≤ k) ∧ q0e (wc.heap[h9]? = some (.cells #[(.slice h4 b8.length h5), .int .i64 d1, .int .i64 d2, .int .i64 a9] 49 (0, 0))) ∧ q0e (wc.heap[c7]? = some (.cells #[.int .i64 c8, .int .i64 b3, .int .i64 b5, .int .i64 b7, .string b4] 51 (0, 0))) ∧ q0e (wc.heap[b6]? = some (.cells #[.int .i64 0, .int .i64 0, .int .i64 0, .int .i64 0, .string (⟨#[]⟩ : ByteArray)] 51 (0, 0))) ∧ q0e (Below w.heap.size w wc))
 case first =>
  have H := l1.out
  clear l1
  by_cases c9 : a3 < 1
  ·
   rw [if_pos c9] at H
   have h7 := decide_eq_true c9
   clear c9
   (first | rw [h7] | (simp only [q1u, q1v]; rw [h7]) | skip)
   have H' := am H
   clear H
   go_wp2
   repeat (go_quiet (fail); try go_wp2)
   go_meet
   case rel => exact ⟨_, (true), el, H', ol, ⟨pk a0.out⟩, ⟨pk a1.out⟩, ⟨pk a5.out⟩, ⟨pB HB.out⟩⟩
  rw [if_neg c9] at H
  have h7 := decide_eq_false c9
  clear c9
  (first | rw [h7] | (simp only [q1u, q1v]; rw [h7]) | skip)
  have H' := am H
  clear H
  go_wp2
  repeat (go_quiet (fail); try go_wp2)
  go_meet
  case rel => exact ⟨_, (decide (a3 > 1099511627776)), el, H', ol, ⟨pk a0.out⟩, ⟨pk a1.out⟩, ⟨pk a5.out⟩, ⟨pB HB.out⟩⟩
 case rest =>
  clear l1
  obtain ⟨kq, h3, rfl, HA, m7, a0, a1, a5, HB⟩ := hcut
  cases kq with
  | zero => exact absurd HA.out (by simp [Fv.j0])
  | succ i0 =>
   have H := HA.out
   clear HA
   simp only [Fv.j0] at H
   by_cases k3 : h3 = true
   ·
    subst k3
    rw [if_pos rfl] at H
    try dsimp only at H
    simp only [Option.some.injEq, Prod.mk.injEq] at H
    obtain ⟨rfl, rfl, rfl, rfl, rfl, rfl⟩ := H
    have l4 := nn a4
    have l5 := nn b2
    have k4 := y5 a5
    go_wp2
    repeat (go_quiet (fail); try go_wp2)
    refine bodyPost_ret (q1h rfl _ _ b6 51 #[.int .i64 0, .int .i64 0, .int .i64 0, .int .i64 0, .string (⟨#[]⟩ : ByteArray)] (0, 0) _ rfl (pP a5.out) Try.underlying51 rfl (by kernel_rfl)) rfl ?_
    exact ⟨er, pB HB.out⟩
   replace k3 := Bool.eq_false_iff.mpr k3
   subst k3
   rw [if_neg (show ¬ (false = true) by decide)] at H
   try dsimp only at H
   by_cases j6 : c8 = 1
   ·
    rw [if_pos j6] at H
    obtain ⟨j7, j8⟩ := qt j6
    clear j6
    replace H := Option.bind_eq_some_iff.mp H
    obtain ⟨d3, j3, H⟩ := H
    try dsimp only at H
    have j1 := am j3
    clear j3
    by_cases j2 : b5 > d3
    ·
     rw [if_pos j2] at H
     have j9 := decide_eq_true j2
     clear j2
     simp only [Option.some.injEq, Prod.mk.injEq] at H
     obtain ⟨rfl, rfl, rfl, rfl, rfl, rfl⟩ := H
     have l6 := nn a7
     have l7 := nn a8
     have k5 := y5 a1
     go_wp2_with (first | (go_at_call 65; (with_reducible refine (Fp.calls i0 a2 d3 _ j1.out).mono ?_); rintro e w' ⟨rfl, ⟨nd, rfl⟩⟩; (try first | exact ⟨rfl, _, World.drewN_drewN _ _ _⟩ | exact ⟨rfl, _, Eq.trans (World.drewN_drewN _ _ _) (congrArg (World.drewN _) (Nat.add_assoc _ _ _))⟩); have i5 := a4.out; have i7 := a6.out; obtain ⟨d4, d5, d6, d7, d8, f3, f4, f5, f6, f7⟩ := y5 a5))
     repeat (go_quiet (first | (go_at_call 65; (with_reducible refine (Fp.calls i0 a2 d3 _ j1.out).mono ?_); rintro e w' ⟨rfl, ⟨nd, rfl⟩⟩; (try first | exact ⟨rfl, _, World.drewN_drewN _ _ _⟩ | exact ⟨rfl, _, Eq.trans (World.drewN_drewN _ _ _) (congrArg (World.drewN _) (Nat.add_assoc _ _ _))⟩); have i5 := a4.out; have i7 := a6.out; obtain ⟨d4, d5, d6, d7, d8, f3, f4, f5, f6, f7⟩ := y5 a5)); try go_wp2_with (first | (go_at_call 65; (with_reducible refine (Fp.calls i0 a2 d3 _ j1.out).mono ?_); rintro e w' ⟨rfl, ⟨nd, rfl⟩⟩; (try first | exact ⟨rfl, _, World.drewN_drewN _ _ _⟩ | exact ⟨rfl, _, Eq.trans (World.drewN_drewN _ _ _) (congrArg (World.drewN _) (Nat.add_assoc _ _ _))⟩); have i5 := a4.out; have i7 := a6.out; obtain ⟨d4, d5, d6, d7, d8, f3, f4, f5, f6, f7⟩ := y5 a5)))
     refine bodyPost_ret (q1h rfl _ _ b6 51 #[.int .i64 0, .int .i64 0, .int .i64 0, .int .i64 0, .string (⟨#[]⟩ : ByteArray)] (0, 0) _ rfl (pP a5.out) Try.underlying51 rfl (by kernel_rfl)) rfl ?_
     exact ⟨er, pB HB.out⟩
    rw [if_neg j2] at H
    have j9 := decide_eq_false j2
    clear j2
    obtain ⟨y526, hy526⟩ : ∃ y_ : List Int, y_ = (([a9] : List Int)) := ⟨_, rfl⟩
    replace H : ((Fe.f i0 a2 y526).bind fun h6 => (some (2, wrap64 (b3 + 1), h6, a3, b4, 0))) = some (r1, r2, r3, r4, r5, r6) := by first | (rw [hy526]; with_reducible exact H) | (have l0 := (Option.bind_some _ _).symm.trans H; rw [hy526]; with_reducible exact l0) | (have l0 := (Option.bind_some _ _).symm.trans H; with_reducible exact l0) | with_reducible exact H | (rw [hy526]; exact H) | exact H
    have c6 := am hy526
    clear hy526
    replace H := Option.bind_eq_some_iff.mp H
    obtain ⟨h6, j4, H⟩ := H
    try dsimp only at H
    have k9 := am j4
    clear j4
    simp only [Option.some.injEq, Prod.mk.injEq] at H
    obtain ⟨rfl, rfl, rfl, rfl, rfl, rfl⟩ := H
    have l8 := nn a7
    have l9 := nn a8
    have k6 := y5 a1
    go_wp2_with (first | (go_at_call 65; (with_reducible refine (Fp.calls i0 a2 d3 _ j1.out).mono ?_); rintro e w' ⟨rfl, ⟨nd, rfl⟩⟩; (try first | exact ⟨rfl, _, World.drewN_drewN _ _ _⟩ | exact ⟨rfl, _, Eq.trans (World.drewN_drewN _ _ _) (congrArg (World.drewN _) (Nat.add_assoc _ _ _))⟩); have i6 := a6.out; have i8 := a4.out; obtain ⟨d9, e0, e1, e2, f8, f9, g0, g1⟩ := y4 a0) | ((with_reducible refine gD 36 ?_); refine Kd.R_lit (Kd.int .i64) _ 3 ?hg (N := 36) ?hd (xs := ([a9] : List Int)) (inner := [.int .i64 a9]) (ok := fun _ => True) (okp := fun _ => True) ?hr ?hp (fun _ hk => hk) trivial (Below.refl _ _) (Nat.le_refl _) (by simp) ?_; (case hd => rfl); (case hg => rfl); (case hr => first | (go_simp; done) | (go_simp; rfl)); (case hp => exact (Reps.one (show Kd.M (Kd.int .i64) _ _ _ a9 [.int .i64 a9] from rfl) (Reps.none _ _))); intro k2 m3 b1 hb k1 d0; clear k1 d0; (first | rw [← c6.out] at b1 | (simp only [Int.reduceToNat] at b1; rw [← c6.out] at b1)); have b0 := am (Kd.R_lower b1 (q0m (pB HB.out))); replace a0 := kB a0 hb; replace a1 := am (q0c (g := c7) (o := .cells #[.int .i64 2, .int .i64 (wrap64 (b3 + 1)), .int .i64 b5, .int .i64 b7, .string b4] 51 (0, 0)) (pP a1.out) hb); replace a5 := kB a5 hb; replace HB := bS HB hb; clear hb b1; obtain ⟨j5, k0, h8⟩ := Kd.R_slice b0.out; subst h8) | (go_at_call 84; (with_reducible refine (Fe.calls i0 a2 _ _ y526 h6 _ ?side1 ?side2 k9.out).mono ?_); (case side1 => exact pC ((Kd.R_reads' b0.out).2.2)); (case side2 => exact (Kd.R_reads' b0.out).2.1); rintro e w' ⟨rfl, ⟨nd, rfl⟩⟩; (try first | exact ⟨rfl, _, World.drewN_drewN _ _ _⟩ | exact ⟨rfl, _, Eq.trans (World.drewN_drewN _ _ _) (congrArg (World.drewN _) (Nat.add_assoc _ _ _))⟩); obtain ⟨e3, e4, e5, e6, e7, g2, g3, g4, g5, g6⟩ := y5 a1; obtain ⟨e8, e9, f0, f1, f2, g7, g8, g9, h0, h2⟩ := y5 a5))
    repeat (go_quiet (first | (go_at_call 65; (with_reducible refine (Fp.calls i0 a2 d3 _ j1.out).mono ?_); rintro e w' ⟨rfl, ⟨nd, rfl⟩⟩; (try first | exact ⟨rfl, _, World.drewN_drewN _ _ _⟩ | exact ⟨rfl, _, Eq.trans (World.drewN_drewN _ _ _) (congrArg (World.drewN _) (Nat.add_assoc _ _ _))⟩); have i6 := a6.out; have i8 := a4.out; obtain ⟨d9, e0, e1, e2, f8, f9, g0, g1⟩ := y4 a0) | ((with_reducible refine gD 36 ?_); refine Kd.R_lit (Kd.int .i64) _ 3 ?hg (N := 36) ?hd (xs := ([a9] : List Int)) (inner := [.int .i64 a9]) (ok := fun _ => True) (okp := fun _ => True) ?hr ?hp (fun _ hk => hk) trivial (Below.refl _ _) (Nat.le_refl _) (by simp) ?_; (case hd => rfl); (case hg => rfl); (case hr => first | (go_simp; done) | (go_simp; rfl)); (case hp => exact (Reps.one (show Kd.M (Kd.int .i64) _ _ _ a9 [.int .i64 a9] from rfl) (Reps.none _ _))); intro k2 m3 b1 hb k1 d0; clear k1 d0; (first | rw [← c6.out] at b1 | (simp only [Int.reduceToNat] at b1; rw [← c6.out] at b1)); have b0 := am (Kd.R_lower b1 (q0m (pB HB.out))); replace a0 := kB a0 hb; replace a1 := am (q0c (g := c7) (o := .cells #[.int .i64 2, .int .i64 (wrap64 (b3 + 1)), .int .i64 b5, .int .i64 b7, .string b4] 51 (0, 0)) (pP a1.out) hb); replace a5 := kB a5 hb; replace HB := bS HB hb; clear hb b1; obtain ⟨j5, k0, h8⟩ := Kd.R_slice b0.out; subst h8) | (go_at_call 84; (with_reducible refine (Fe.calls i0 a2 _ _ y526 h6 _ ?side1 ?side2 k9.out).mono ?_); (case side1 => exact pC ((Kd.R_reads' b0.out).2.2)); (case side2 => exact (Kd.R_reads' b0.out).2.1); rintro e w' ⟨rfl, ⟨nd, rfl⟩⟩; (try first | exact ⟨rfl, _, World.drewN_drewN _ _ _⟩ | exact ⟨rfl, _, Eq.trans (World.drewN_drewN _ _ _) (congrArg (World.drewN _) (Nat.add_assoc _ _ _))⟩); obtain ⟨e3, e4, e5, e6, e7, g2, g3, g4, g5, g6⟩ := y5 a1; obtain ⟨e8, e9, f0, f1, f2, g7, g8, g9, h0, h2⟩ := y5 a5)); try go_wp2_with (first | (go_at_call 65; (with_reducible refine (Fp.calls i0 a2 d3 _ j1.out).mono ?_); rintro e w' ⟨rfl, ⟨nd, rfl⟩⟩; (try first | exact ⟨rfl, _, World.drewN_drewN _ _ _⟩ | exact ⟨rfl, _, Eq.trans (World.drewN_drewN _ _ _) (congrArg (World.drewN _) (Nat.add_assoc _ _ _))⟩); have i6 := a6.out; have i8 := a4.out; obtain ⟨d9, e0, e1, e2, f8, f9, g0, g1⟩ := y4 a0) | ((with_reducible refine gD 36 ?_); refine Kd.R_lit (Kd.int .i64) _ 3 ?hg (N := 36) ?hd (xs := ([a9] : List Int)) (inner := [.int .i64 a9]) (ok := fun _ => True) (okp := fun _ => True) ?hr ?hp (fun _ hk => hk) trivial (Below.refl _ _) (Nat.le_refl _) (by simp) ?_; (case hd => rfl); (case hg => rfl); (case hr => first | (go_simp; done) | (go_simp; rfl)); (case hp => exact (Reps.one (show Kd.M (Kd.int .i64) _ _ _ a9 [.int .i64 a9] from rfl) (Reps.none _ _))); intro k2 m3 b1 hb k1 d0; clear k1 d0; (first | rw [← c6.out] at b1 | (simp only [Int.reduceToNat] at b1; rw [← c6.out] at b1)); have b0 := am (Kd.R_lower b1 (q0m (pB HB.out))); replace a0 := kB a0 hb; replace a1 := am (q0c (g := c7) (o := .cells #[.int .i64 2, .int .i64 (wrap64 (b3 + 1)), .int .i64 b5, .int .i64 b7, .string b4] 51 (0, 0)) (pP a1.out) hb); replace a5 := kB a5 hb; replace HB := bS HB hb; clear hb b1; obtain ⟨j5, k0, h8⟩ := Kd.R_slice b0.out; subst h8) | (go_at_call 84; (with_reducible refine (Fe.calls i0 a2 _ _ y526 h6 _ ?side1 ?side2 k9.out).mono ?_); (case side1 => exact pC ((Kd.R_reads' b0.out).2.2)); (case side2 => exact (Kd.R_reads' b0.out).2.1); rintro e w' ⟨rfl, ⟨nd, rfl⟩⟩; (try first | exact ⟨rfl, _, World.drewN_drewN _ _ _⟩ | exact ⟨rfl, _, Eq.trans (World.drewN_drewN _ _ _) (congrArg (World.drewN _) (Nat.add_assoc _ _ _))⟩); obtain ⟨e3, e4, e5, e6, e7, g2, g3, g4, g5, g6⟩ := y5 a1; obtain ⟨e8, e9, f0, f1, f2, g7, g8, g9, h0, h2⟩ := y5 a5)))
    refine bodyPost_ret (q1h rfl _ _ b6 51 #[.int .i64 2, .int .i64 (wrap64 (b3 + 1)), .int .i64 h6, .int .i64 a3, .string b4] (0, 0) _ rfl (pP a5.out) Try.underlying51 rfl (by kernel_rfl)) rfl ?_
    exact ⟨er, pB HB.out⟩
   rw [if_neg j6] at H
   obtain ⟨j7, j8⟩ := qf j6
   simp only [Option.some.injEq, Prod.mk.injEq] at H
   obtain ⟨rfl, rfl, rfl, rfl, rfl, rfl⟩ := H
   have m0 := nn a7
   have m1 := nn a8
   have k7 := y5 a1
   have m2 := nn a4
   have k8 := y5 a5
   go_wp2
   repeat (go_quiet (fail); try go_wp2)
   refine bodyPost_ret (q1h rfl _ _ b6 51 #[.int .i64 0, .int .i64 0, .int .i64 0, .int .i64 0, .string (⟨#[]⟩ : ByteArray)] (0, 0) _ rfl (pP a5.out) Try.underlying51 rfl (by kernel_rfl)) rfl ?_
   exact ⟨er, pB HB.out⟩
end Go.Proofs.Ytabmkighhmchmaa.X
