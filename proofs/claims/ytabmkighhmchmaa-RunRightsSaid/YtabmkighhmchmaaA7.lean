/- Words and walks for the law RunRights, joined and made small by a program of mine. -/
import Derived.Test.YtabmkighhmchmaaA2
import Derived.Test.YtabmkighhmchmaaA6
namespace Go.Proofs.Ytabmkighhmchmaa.X
open Go.RowKit Go.Proofs.YtabmkighhmchmaaW.PrintWords Go.Proofs.YtabmkighhmchmaaW.PrintLast Go.Proofs.YtabmkighhmchmaaW.PrintMore Go.Proofs.YtabmkighhmchmaaW.Sq
attribute [local go_sem] max2_int min2_int max_two min_two max_three min_three max_four min_four
set_option linter.unusedVariables false
set_option linter.unusedSimpArgs false
mutual
def Fg.l0 : Nat → List (S51) → Int → Int → ByteArray → ByteArray → List (S49) → Int → List (S51) → Option (ByteArray × ByteArray × (List (S49)) × Int × (List (S51)))
 | 0, _, _, _, _, _, _, _, _ => none
 | k + 1, a8, a9, a6, a2, a3, a4, a7, a5 => if a6 < a9 then (if 0 ≤ a6 then (if a6 < (a8.length : Int) then ((Ga.f ((rd_T51 a8 a6).f0) ((rd_T51 a8 a6).f1) ((rd_T51 a8 a6).f2) ((rd_T51 a8 a6).f3) ((rd_T51 a8 a6).f4)).bind fun a0 => ((Fr.f k a2 a3 a4 a7 a5 a6 a0.1 a0.2.1 a0.2.2.1 a0.2.2.2.1 a0.2.2.2.2).bind fun a1 => (Fg.l0 k a8 a9 (wrap64 (a6 + 1)) a1.1 a1.2.1 a1.2.2.1 a1.2.2.2.1 a1.2.2.2.2))) else (none)) else (none)) else (some (a2, a3, a4, 2, a5))
def Fg.l1 : Nat → List (S51) → Int → Int → ByteArray → ByteArray → List (S49) → Int → List (S51) → Option (ByteArray × ByteArray × (List (S49)) × Int × (List (S51)))
 | 0, _, _, _, _, _, _, _, _ => none
 | k + 1, a8, b0, a7, a1, a2, a3, a4, a0 => if a7 < b0 then (if 0 ≤ a7 then (if a7 < (a8.length : Int) then ((Fo.f k a1 a2 a3 a4 a0 a7).bind fun a9 => (if a9 = true then ((Gd.f ((rd_T51 a8 a7).f0) ((rd_T51 a8 a7).f1) ((rd_T51 a8 a7).f2) ((rd_T51 a8 a7).f3) ((rd_T51 a8 a7).f4)).bind fun a5 => ((Fr.f k a1 a2 a3 a4 a0 a7 a5.1 a5.2.1 a5.2.2.1 a5.2.2.2.1 a5.2.2.2.2).bind fun a6 => (Fg.l1 k a8 b0 (wrap64 (a7 + 1)) a6.1 a6.2.1 a6.2.2.1 a6.2.2.2.1 a6.2.2.2.2))) else (Fg.l1 k a8 b0 (wrap64 (a7 + 1)) a1 a2 a3 a4 a0))) else (none)) else (none)) else (Fg.l2 k true a0 (a0.length : Int) 0 a1 a2 a3 a4 a0)
def Fg.l2 : Nat → Bool → List (S51) → Int → Int → ByteArray → ByteArray → List (S49) → Int → List (S51) → Option (ByteArray × ByteArray × (List (S49)) × Int × (List (S51)))
 | 0, _, _, _, _, _, _, _, _, _ => none
 | k + 1, x7, a6, a7, a5, a0, a1, a2, a4, a3 => if a5 < a7 then (if 0 ≤ a5 then (if a5 < (a6.length : Int) then (if x7 = true then (Fg.l2 k (((rd_T51 a6 a5).f0) == 3) a6 a7 (wrap64 (a5 + 1)) a0 a1 a2 a4 a3) else (Fg.l2 k false a6 a7 (wrap64 (a5 + 1)) a0 a1 a2 a4 a3)) else (none)) else (none)) else (if x7 = true then (some (a0, a1, a2, 1, a3)) else (some (a0, a1, a2, a4, a3)))
end
def Fg.f (k : Nat) (a1 : ByteArray) (a2 : ByteArray) (a4 : List (S49)) (a3 : Int) (a0 : List (S51)) : Option (ByteArray × ByteArray × (List (S49)) × Int × (List (S51))) := (Fi.f k a1 a2 a4 a3 a0 4).bind fun a5 => (if a5 = true then (Fg.l0 k a0 (a0.length : Int) 0 a1 a2 a4 a3 a0) else (Fg.l1 k a0 (a0.length : Int) 0 a1 a2 a4 a3 a0))
set_option maxHeartbeats 8000000 in
set_option maxRecDepth 100000 in
theorem Fg.calls (k : Nat) (e7 : ByteArray) (e8 : ByteArray) (b9 : Nat → Prop) (f5 : Option Addr) (f6 : Nat) (e0 : List (S49)) (e9 : Int) (c6 : Nat → Prop) (e6 : Option Addr) (e5 : Nat) (a4 : List (S51)) (r1 : ByteArray) (r2 : ByteArray) (r3 : List (S49)) (r4 : Int) (r5 : List (S51)) (w : World) (q3 : Kd.V k49 49 w w.heap.size (fun k_ => b9 k_) (.slice f5 e0.length f6) e0) (q4 : Kd.V k51 51 w w.heap.size (fun k_ => c6 k_) (.slice e6 a4.length e5) a4) (h : Fg.f k e7 e8 e0 e9 a4 = some (r1, r2, r3, r4, r5)) :
  Calls Try.prog 35 #[.agg #[.string e7, .string e8, .slice f5 e0.length f6, .int .i64 e9, .slice e6 a4.length e5]] w fun e w' => ∃ I4 I5 : Value, e = .returned (.agg #[.string r1, .string r2, I4, .int .i64 r4, I5]) ∧ Kd.V k49 49 w' w.heap.size (fun k_ => ((b9 k_ ∨ c6 k_) ∨ w.heap.size ≤ k_)) I4 r3 ∧ Kd.V k51 51 w' w.heap.size (fun k_ => ((b9 k_ ∨ c6 k_) ∨ w.heap.size ≤ k_)) I5 r5 ∧ Below w.heap.size w w' := by
 have K1 := Try.underlying27
 have K2 := Try.underlying51
 have d1 := am (show Kd.V k49 49 w w.heap.size (fun k_ => ((b9 k_ ∨ c6 k_) ∨ w.heap.size ≤ k_)) (.slice f5 e0.length f6) e0 from Kd.V_mono q3 (fun k_ hk => .inl (.inl hk)))
 have c8 := am (show Kd.V k51 51 w w.heap.size (fun k_ => ((b9 k_ ∨ c6 k_) ∨ w.heap.size ≤ k_)) (.slice e6 a4.length e5) a4 from Kd.V_mono q4 (fun k_ hk => .inl (.inr hk)))
 have HB := am (Below.refl w.heap.size w)
 unfold Fg.f at h
 have H := h
 clear h
 replace H := Option.bind_eq_some_iff.mp H
 obtain ⟨E4, E8, H⟩ := H
 try dsimp only at H
 have A2 := am E8
 clear E8
 by_cases c3 : E4 = true
 ·
  subst c3
  rw [if_pos rfl] at H
  try dsimp only at H
  have H' := am H
  clear H
  go_enter Try.func35, Try.ntmps35
  go_wp2_with (first | ((with_reducible refine gD 1 ?_); refine bz 1 #[.string e7, .string e8, .slice f5 e0.length f6, .int .i64 e9, .slice e6 a4.length e5] 27 HB ?_; clear HB; intro b4 hg w4 hb a0 n9 HB; replace d1 := vE d1 hg hb; replace c8 := vE c8 hg hb; clear hb hg) | ((with_reducible refine gD 2 ?_); refine bz 2 #[.string (⟨#[]⟩ : ByteArray), .string (⟨#[]⟩ : ByteArray), .slice none 0 0, .int .i64 0, .slice none 0 0] 27 HB ?_; clear HB; intro b8 hg w5 hb a6 o0 HB; replace d1 := vE d1 hg hb; replace c8 := vE c8 hg hb; have b3 := nL hg a0; have b7 := nG hg a0; replace a0 := kB a0 hb; clear hb hg; have J0 := nn b3; have k5 := y5 a0) | ((with_reducible refine gC 27 ?_); refine gL 11 Try.func27 #[.agg #[.string e7, .string e8, .slice f5 e0.length f6, .int .i64 e9, .slice e6 a4.length e5], .int .i64 4] ?_; (with_reducible refine (Fi.calls k e7 e8 _ _ e0 e9 _ _ a4 4 true _ ?side1 ?side2 ?side3 ?side4 A2.out).mono ?_); (case side1 => exact pC ((Kd.V_reads' d1.out).2.2)); (case side2 => exact (Kd.V_reads' d1.out).2.1); (case side3 => exact pC ((Kd.V_reads' c8.out).2.2)); (case side4 => exact (Kd.V_reads' c8.out).2.1); rintro e w8 ⟨rfl, hb⟩; refine ⟨_, rfl, ?_⟩; replace d1 := vB d1 hb; replace c8 := vB c8 hb; replace a0 := kB a0 hb; replace a6 := kB a6 hb; replace HB := bS HB hb; (try clear hb); (try clear hb2); (try clear hk); (try clear hi); have k6 := y5 a0))
  go_loopg [15] k (fun kq K3 w' => ∃ (a5 : Int) (a7 : ByteArray) (a8 : ByteArray) (a9 : List (S49)) (b0 : Int) (a3 : List (S51)) (c7 : Value) (d2 : Value), K3 = .int .i64 a5 ∧ Aside0 (Fg.l0 kq a4 (a4.length : Int) a5 a7 a8 a9 b0 a3 = some (r1, r2, r3, r4, r5)) ∧ Aside0 (kq ≤ k) ∧ Aside0 (Kd.V k51 51 w' w.heap.size (fun k_ => ((b9 k_ ∨ c6 k_) ∨ w.heap.size ≤ k_) ∧ k_ ≠ b4 ∧ k_ ≠ b8) (.slice e6 a4.length e5) a4) ∧ Aside0 (Kd.V k49 49 w' w.heap.size (fun k_ => ((b9 k_ ∨ c6 k_) ∨ w.heap.size ≤ k_) ∧ k_ ≠ b4 ∧ k_ ≠ b8) c7 a9) ∧ Aside0 (Kd.V k51 51 w' w.heap.size (fun k_ => ((b9 k_ ∨ c6 k_) ∨ w.heap.size ≤ k_) ∧ k_ ≠ b4 ∧ k_ ≠ b8) d2 a3) ∧ Aside0 (w'.heap[b4]? = some (.cells #[.string a7, .string a8, c7, .int .i64 b0, d2] 27 (0, 0))) ∧ Aside0 (w'.heap[b8]? = some (.cells #[.string (⟨#[]⟩ : ByteArray), .string (⟨#[]⟩ : ByteArray), (.slice none 0 0), .int .i64 0, (.slice none 0 0)] 27 (0, 0))) ∧ Aside0 (Below w.heap.size w w'))
  case atStart => exact ⟨(0), (e7), (e8), (e0), (e9), (a4), (.slice f5 e0.length f6), (.slice e6 a4.length e5), el, H', ⟨Nat.le_refl _⟩, ⟨by exact Kd.V_mono (pV c8.out) (fun _ hk => ⟨hk.1.1, ⟨hk.1.2, hk.2⟩⟩)⟩, ⟨by exact Kd.V_mono (pV d1.out) (fun _ hk => ⟨hk.1.1, ⟨hk.1.2, hk.2⟩⟩)⟩, ⟨by exact Kd.V_mono (pV c8.out) (fun _ hk => ⟨hk.1.1, ⟨hk.1.2, hk.2⟩⟩)⟩, ⟨pk a0.out⟩, ⟨pk a6.out⟩, ⟨pB HB.out⟩⟩
  case round =>
   clear H'
   try clear c3
   try clear k5
   try clear k6
   try clear a0; try clear a6; try clear HB
   obtain ⟨a5, a7, a8, a9, b0, a3, c7, d2, rfl, HA, h3, d6, a2, a1, a0, a6, HB⟩ := hrel
   cases gk with
   | zero => exact absurd HA.out (by simp [Fg.l0])
   | succ k1 =>
    have H := HA.out
    clear HA
    simp only [Fg.l0] at H
    by_cases m7 : a5 < (a4.length : Int)
    ·
     rw [if_pos m7] at H
     have o6 := decide_eq_true m7
     clear m7
     by_cases r9 : 0 ≤ a5
     ·
      rw [if_pos r9] at H
      have F1 := decide_eq_true r9
      clear r9
      by_cases t0 : a5 < (a4.length : Int)
      ·
       rw [if_pos t0] at H
       have F2 := decide_eq_true t0
       clear t0
       replace H := Option.bind_eq_some_iff.mp H
       obtain ⟨⟨k9, l3, l4, l5, l6⟩, m9, H⟩ := H
       try dsimp only at H
       have I6 := am m9
       clear m9
       replace H := Option.bind_eq_some_iff.mp H
       obtain ⟨⟨q5, q6, l7, q7, l8⟩, n0, H⟩ := H
       try dsimp only at H
       have I7 := am n0
       clear n0
       have H' := am H
       clear H
       have k7 : 0 ≤ (a5 : Int) := od
       have k8 : a5 < (a4.length : Int) := od
       obtain ⟨o3, C8, A9, B0, B1, B2, B3⟩ := at_T51 (Kd.V_reads' d6.out).2.2 a5 k7 k8
       cases C8
       replace k7 := eq_true k7
       replace k8 := eq_true k8
       try go_wp2_with (first | ((with_reducible refine gD 4 ?_); refine bz 4 #[.int .i64 0, .int .i64 0, .int .i64 0, .int .i64 0, .string (⟨#[]⟩ : ByteArray)] 51 HB ?_; clear HB; intro b1 hg j9 hb b6 F0 HB; replace d6 := vE d6 hg hb; replace a2 := vE a2 hg hb; replace a1 := vE a1 hg hb; have d7 := nL hg a0; have d4 := nG hg a0; replace a0 := kB a0 hb; have m6 := nL hg a6; have g8 := nG hg a6; replace a6 := kB a6 hb; clear hb hg; have G7 := nn d4; have G8 := nn g8; have t8 := y5 b6))
       have D7 : Aside0 (Kd.V k51 51 (((((j9.setCell ⟨b1, 0, none⟩ (.int .i64 ((rd_T51 a4 a5).f0))).setCell ⟨b1, 1, none⟩ (.int .i64 ((rd_T51 a4 a5).f1))).setCell ⟨b1, 2, none⟩ (.int .i64 ((rd_T51 a4 a5).f2))).setCell ⟨b1, 3, none⟩ (.int .i64 ((rd_T51 a4 a5).f3))).setCell ⟨b1, 4, none⟩ (.string ((rd_T51 a4 a5).f4))) w.heap.size (fun k_ => ((b9 k_ ∨ c6 k_) ∨ w.heap.size ≤ k_) ∧ k_ ≠ b4 ∧ k_ ≠ b8 ∧ k_ ≠ b1) (.slice (some o3) a4.length e5) a4) := ⟨by exact Kd.V_mono (pV d6.out) (fun _ hk => ⟨hk.1.1, ⟨hk.1.2.1, ⟨hk.1.2.2, hk.2⟩⟩⟩)⟩
       have D8 : Aside0 (Kd.V k49 49 (((((j9.setCell ⟨b1, 0, none⟩ (.int .i64 ((rd_T51 a4 a5).f0))).setCell ⟨b1, 1, none⟩ (.int .i64 ((rd_T51 a4 a5).f1))).setCell ⟨b1, 2, none⟩ (.int .i64 ((rd_T51 a4 a5).f2))).setCell ⟨b1, 3, none⟩ (.int .i64 ((rd_T51 a4 a5).f3))).setCell ⟨b1, 4, none⟩ (.string ((rd_T51 a4 a5).f4))) w.heap.size (fun k_ => ((b9 k_ ∨ c6 k_) ∨ w.heap.size ≤ k_) ∧ k_ ≠ b4 ∧ k_ ≠ b8 ∧ k_ ≠ b1) c7 a9) := ⟨by exact Kd.V_mono (pV a2.out) (fun _ hk => ⟨hk.1.1, ⟨hk.1.2.1, ⟨hk.1.2.2, hk.2⟩⟩⟩)⟩
       have D9 : Aside0 (Kd.V k51 51 (((((j9.setCell ⟨b1, 0, none⟩ (.int .i64 ((rd_T51 a4 a5).f0))).setCell ⟨b1, 1, none⟩ (.int .i64 ((rd_T51 a4 a5).f1))).setCell ⟨b1, 2, none⟩ (.int .i64 ((rd_T51 a4 a5).f2))).setCell ⟨b1, 3, none⟩ (.int .i64 ((rd_T51 a4 a5).f3))).setCell ⟨b1, 4, none⟩ (.string ((rd_T51 a4 a5).f4))) w.heap.size (fun k_ => ((b9 k_ ∨ c6 k_) ∨ w.heap.size ≤ k_) ∧ k_ ≠ b4 ∧ k_ ≠ b8 ∧ k_ ≠ b1) d2 a3) := ⟨by exact Kd.V_mono (pV a1.out) (fun _ hk => ⟨hk.1.1, ⟨hk.1.2.1, ⟨hk.1.2.2, hk.2⟩⟩⟩)⟩
       have E0 : Aside0 ((((((j9.setCell ⟨b1, 0, none⟩ (.int .i64 ((rd_T51 a4 a5).f0))).setCell ⟨b1, 1, none⟩ (.int .i64 ((rd_T51 a4 a5).f1))).setCell ⟨b1, 2, none⟩ (.int .i64 ((rd_T51 a4 a5).f2))).setCell ⟨b1, 3, none⟩ (.int .i64 ((rd_T51 a4 a5).f3))).setCell ⟨b1, 4, none⟩ (.string ((rd_T51 a4 a5).f4))).heap[b4]? = some (.cells #[.string a7, .string a8, c7, .int .i64 b0, d2] 27 (0, 0))) := ⟨pk a0.out⟩
       have E1 : Aside0 ((((((j9.setCell ⟨b1, 0, none⟩ (.int .i64 ((rd_T51 a4 a5).f0))).setCell ⟨b1, 1, none⟩ (.int .i64 ((rd_T51 a4 a5).f1))).setCell ⟨b1, 2, none⟩ (.int .i64 ((rd_T51 a4 a5).f2))).setCell ⟨b1, 3, none⟩ (.int .i64 ((rd_T51 a4 a5).f3))).setCell ⟨b1, 4, none⟩ (.string ((rd_T51 a4 a5).f4))).heap[b8]? = some (.cells #[.string (⟨#[]⟩ : ByteArray), .string (⟨#[]⟩ : ByteArray), .slice none 0 0, .int .i64 0, .slice none 0 0] 27 (0, 0))) := ⟨pk a6.out⟩
       have E2 : Aside0 ((((((j9.setCell ⟨b1, 0, none⟩ (.int .i64 ((rd_T51 a4 a5).f0))).setCell ⟨b1, 1, none⟩ (.int .i64 ((rd_T51 a4 a5).f1))).setCell ⟨b1, 2, none⟩ (.int .i64 ((rd_T51 a4 a5).f2))).setCell ⟨b1, 3, none⟩ (.int .i64 ((rd_T51 a4 a5).f3))).setCell ⟨b1, 4, none⟩ (.string ((rd_T51 a4 a5).f4))).heap[b1]? = some (.cells #[.int .i64 ((rd_T51 a4 a5).f0), .int .i64 ((rd_T51 a4 a5).f1), .int .i64 ((rd_T51 a4 a5).f2), .int .i64 ((rd_T51 a4 a5).f3), .string ((rd_T51 a4 a5).f4)] 51 (0, 0))) := ⟨pP b6.out⟩
       have E3 : Aside0 (Below w.heap.size w (((((j9.setCell ⟨b1, 0, none⟩ (.int .i64 ((rd_T51 a4 a5).f0))).setCell ⟨b1, 1, none⟩ (.int .i64 ((rd_T51 a4 a5).f1))).setCell ⟨b1, 2, none⟩ (.int .i64 ((rd_T51 a4 a5).f2))).setCell ⟨b1, 3, none⟩ (.int .i64 ((rd_T51 a4 a5).f3))).setCell ⟨b1, 4, none⟩ (.string ((rd_T51 a4 a5).f4)))) := ⟨pB HB.out⟩
       (try clear d6)
       (try clear a2)
       (try clear a1)
       (try clear a0)
       (try clear a6)
       (try clear b6)
       (try clear HB)
       generalize (((((j9.setCell ⟨b1, 0, none⟩ (.int .i64 ((rd_T51 a4 a5).f0))).setCell ⟨b1, 1, none⟩ (.int .i64 ((rd_T51 a4 a5).f1))).setCell ⟨b1, 2, none⟩ (.int .i64 ((rd_T51 a4 a5).f2))).setCell ⟨b1, 3, none⟩ (.int .i64 ((rd_T51 a4 a5).f3))).setCell ⟨b1, 4, none⟩ (.string ((rd_T51 a4 a5).f4))) = K8 at D7 D8 D9 E0 E1 E2 E3 ⊢
       have d6 := D7
       have a2 := D8
       have a1 := D9
       have a0 := E0
       have a6 := E1
       have b6 := E2
       have HB := E3
       clear D7 D8 D9 E0 E1 E2 E3
       replace d6 := am (Kd.V_drew d6.out)
       replace a2 := am (Kd.V_drew a2.out)
       replace a1 := am (Kd.V_drew a1.out)
       replace a0 := am (blk_drew a0.out)
       replace a6 := am (blk_drew a6.out)
       replace b6 := am (blk_drew b6.out)
       replace HB := am (below_drew1 HB.out)
       refine start_ (n := 6) (S := fun w' => w'.cell? ⟨b4, 0, none⟩ = some (.string a7) ∧ w'.cell? ⟨b4, 1, none⟩ = some (.string a8) ∧ w'.cell? ⟨b4, 2, none⟩ = some (c7) ∧ w'.cell? ⟨b4, 3, none⟩ = some (.int .i64 b0) ∧ w'.cell? ⟨b4, 4, none⟩ = some (d2) ∧ w'.cell? ⟨b1, 0, none⟩ = some (.int .i64 ((rd_T51 a4 a5).f0)) ∧ w'.cell? ⟨b1, 1, none⟩ = some (.int .i64 ((rd_T51 a4 a5).f1)) ∧ w'.cell? ⟨b1, 2, none⟩ = some (.int .i64 ((rd_T51 a4 a5).f2)) ∧ w'.cell? ⟨b1, 3, none⟩ = some (.int .i64 ((rd_T51 a4 a5).f3)) ∧ w'.cell? ⟨b1, 4, none⟩ = some (.string ((rd_T51 a4 a5).f4))) (ds := [5]) #[false, false, false, false, false, false] (by kernel_rfl) rfl rfl ⟨bc a0.out, bc a0.out, bc a0.out, bc a0.out, bc a0.out, bc b6.out, bc b6.out, bc b6.out, bc b6.out, bc b6.out⟩ (fun d9 => ?_)
       generalize K8.drew = L0 at d6 a2 a1 a0 a6 b6 HB d9 ⊢
       refine pure_ (i := 1) (N := some 21) (v := ?_) (a' := ?_) #[false, true, false, false, false, false] rfl rfl (by kernel_rfl) (fun _ _ _ h => h) (Or.inl ⟨by rfl, ?_⟩) ?_ ?_
       rotate_left
       ·
        intro w'
        go_simp
        with_reducible rfl
       rotate_left
       ·
        simp only [Act.put, List.setIfInBounds_toArray, List.set_cons_zero, List.set_cons_succ, i64_w, i32_w]
        rfl
       refine take_ (i := 0) (N := some 20) (v := ?_) (a' := ?_) #[true, true, false, false, false, false] rfl rfl (by kernel_rfl) (fun _ _ _ h => h) (Or.inl ⟨by rfl, ?_⟩) d9 ?_ ?_
       rotate_left
       ·
        rintro w' ⟨s0, s1, s2, s3, s4, s5, s6, s7, s8, s9⟩
        go_simp
        with_reducible rfl
       rotate_left
       ·
        simp only [Act.put, List.setIfInBounds_toArray, List.set_cons_zero, List.set_cons_succ, i64_w, i32_w]
        rfl
       refine take_ (i := 2) (N := some 22) (v := ?_) (a' := ?_) #[true, true, true, false, false, false] rfl rfl (by kernel_rfl) (fun _ _ _ h => h) (Or.inl ⟨by rfl, ?_⟩) d9 ?_ ?_
       rotate_left
       ·
        rintro w' ⟨s0, s1, s2, s3, s4, s5, s6, s7, s8, s9⟩
        go_simp
        with_reducible rfl
       rotate_left
       ·
        simp only [Act.put, List.setIfInBounds_toArray, List.set_cons_zero, List.set_cons_succ, i64_w, i32_w]
        rfl
       refine one_ (i := 3) (N := some 23) #[true, true, true, true, false, false] rfl rfl (by kernel_rfl) (by decide) (fun K hK => ?_)
       refine goes_ Try.func67 (by kernel_rfl) rfl #[.agg #[.int .i64 ((rd_T51 a4 a5).f0), .int .i64 ((rd_T51 a4 a5).f1), .int .i64 ((rd_T51 a4 a5).f2), .int .i64 ((rd_T51 a4 a5).f3), .string ((rd_T51 a4 a5).f4)]] (by rfl) rfl rfl (by (try simp only [List.map_toArray, List.map_cons, List.map_nil]); first | done | rfl | (simp only [List.length_drop, List.length_take]; rfl)) ?_
       with_reducible refine (Ga.calls ((rd_T51 a4 a5).f0) ((rd_T51 a4 a5).f1) ((rd_T51 a4 a5).f2) ((rd_T51 a4 a5).f3) ((rd_T51 a4 a5).f4) k9 l3 l4 l5 l6 _ I6.out).mono ?_
       rintro e L1 ⟨rfl, hb⟩
       refine ⟨_, rfl, ?_⟩
       replace d6 := vB d6 hb
       replace a2 := vB a2 hb
       replace a1 := vB a1 hb
       replace a0 := kB a0 hb
       replace a6 := kB a6 hb
       replace b6 := kB b6 hb
       replace HB := bS HB hb
       (try clear hb)
       (try clear hb2)
       (try clear hk)
       (try clear hi)
       obtain ⟨n5, o9, p4⟩ := Kd.V_slice a2.out
       (first | subst p4 | (injection p4 with f1_ f2_ f3_; have h5 := f1_.symm; have h6 := f3_.symm; clear f1_ f2_ f3_; subst h5; subst h6))
       obtain ⟨n6, p0, p5⟩ := Kd.V_slice a1.out
       (first | subst p5 | (injection p5 with f1_ f2_ f3_; have h5 := f1_.symm; have h6 := f3_.symm; clear f1_ f2_ f3_; subst h5; subst h6))
       refine hK.out _ _ ⟨bc a0.out, bc a0.out, bc a0.out, bc a0.out, bc a0.out, bc b6.out, bc b6.out, bc b6.out, bc b6.out, bc b6.out⟩ (fun d9 => ?_)
       clear hK K
       refine nh ?_
       refine one_ (i := 4) (N := some 24) #[true, true, true, true, true, false] rfl rfl (by kernel_rfl) (by decide) (fun K hK => ?_)
       refine goes_ Try.func48 (by kernel_rfl) rfl #[.agg #[.string a7, .string a8, .slice n5 a9.length o9, .int .i64 b0, .slice n6 a3.length p0], .int .i64 a5, .agg #[.int .i64 k9, .int .i64 l3, .int .i64 l4, .int .i64 l5, .string l6]] (by rfl) rfl rfl (by (try simp only [List.map_toArray, List.map_cons, List.map_nil]); first | done | rfl | (simp only [List.length_drop, List.length_take]; rfl)) ?_
       with_reducible refine (Fr.calls k1 a7 a8 (fun k_ => (((b9 k_ ∨ c6 k_) ∨ w.heap.size ≤ k_) ∧ (k_ ≠ b4 ∧ (k_ ≠ b8 ∧ k_ ≠ b1)))) _ _ a9 b0 _ _ a3 a5 k9 l3 l4 l5 l6 q5 q6 l7 q7 l8 _ ?side1 ?side2 ?side3 I7.out).mono ?_
       (case side1 => exact a2.out)
       (case side2 => exact pC ((Kd.V_reads' a1.out).2.2))
       (case side3 => exact (Kd.V_reads' a1.out).2.1)
       rintro e r6 ⟨K4, E6, rfl, q2, h7, hb⟩
       refine ⟨_, rfl, ?_⟩
       replace d6 := am (Kd.V_elder' (pV d6.out) (Kd.R_base h7) hb)
       replace a2 := am (Kd.V_elder' (pV a2.out) (Kd.R_base h7) hb)
       replace a1 := am (Kd.V_elder' (pV a1.out) (Kd.R_base h7) hb)
       have j4 := am (Kd.V_lower (Kd.V_mono (ok' := fun k_ => ((b9 k_ ∨ c6 k_) ∨ w.heap.size ≤ k_) ∧ some k_ ≠ (E6 : Value).ownBlock ∧ k_ ≠ b4 ∧ k_ ≠ b8 ∧ k_ ≠ b1) q2 (fun k_ g9 => ⟨Or.elim g9.1 (fun f8 => f8.1) (fun f7 => (.inr (Nat.le_trans (below_size (pB HB.out)) f7))), g9.2, Or.elim g9.1 (fun f8 => f8.2.1) (fun f7 => (Kd.freshB (pk a0.out) k_ f7)), Or.elim g9.1 (fun f8 => f8.2.2.1) (fun f7 => (Kd.freshB (pk a6.out) k_ f7)), Or.elim g9.1 (fun f8 => f8.2.2.2) (fun f7 => (Kd.freshB (pk b6.out) k_ f7))⟩)) (below_size (pB HB.out)))
       have j5 := am (Kd.R_lower (Kd.R_newB (Kd.R_newM (M := fun k_ => (w.heap.size ≤ k_)) (Kd.R_mono (ok' := fun k_ => True) h7 (fun _ g9 => trivial)) (below_size (pB HB.out)) (fun k_ h_ => h_)) (g := b1) (o := .cells #[.int .i64 ((rd_T51 a4 a5).f0), .int .i64 ((rd_T51 a4 a5).f1), .int .i64 ((rd_T51 a4 a5).f2), .int .i64 ((rd_T51 a4 a5).f3), .string ((rd_T51 a4 a5).f4)] 51 (0, 0)) (pk b6.out)) (below_size (pB HB.out)))
       replace a0 := kB a0 hb
       replace a6 := kB a6 hb
       replace b6 := kB b6 hb
       replace HB := bS HB hb
       (try clear hb)
       (try clear hb2)
       (try clear hk)
       (try clear hi)
       (try clear q2)
       (try clear h7)
       obtain ⟨B4, C1, p6⟩ := Kd.V_slice j4.out
       (first | subst p6 | (injection p6 with f1_ f2_ f3_; have h5 := f1_.symm; have h6 := f3_.symm; clear f1_ f2_ f3_; subst h5; subst h6))
       obtain ⟨B5, C2, p7⟩ := Kd.R_slice j5.out
       (first | subst p7 | (injection p7 with f1_ f2_ f3_; have h5 := f1_.symm; have h6 := f3_.symm; clear f1_ f2_ f3_; subst h5; subst h6))
       refine hK.out _ _ ⟨bc a0.out, bc a0.out, bc a0.out, bc a0.out, bc a0.out, bc b6.out, bc b6.out, bc b6.out, bc b6.out, bc b6.out⟩ (fun d9 => ?_)
       clear hK K
       refine nh ?_
       refine last_ (i := 5) (N := none) #[true, true, true, true, true, true] rfl rfl (by kernel_rfl) (by decide) (fun K hK => ?_)
       have J1 : r6.cell? ⟨b4, 0, none⟩ = some (.string a7) := bc a0.out
       have F7 := z1 a0.out
       have x7 := b7.out
       have x8 := d4.out
       have v0 := b3.out
       have v1 := d7.out
       have J2 : r6.cell? ⟨b4, 1, none⟩ = some (.string a8) := bc a0.out
       have F8 := blk_frozen a0.out 1
       have x9 := b7.out
       have y0 := d4.out
       have v2 := b3.out
       have v3 := d7.out
       have J3 : r6.cell? ⟨b4, 2, none⟩ = some (.slice n5 a9.length o9) := bc a0.out
       have F9 := blk_frozen a0.out 2
       have y6 := b7.out
       have y7 := d4.out
       have v4 := b3.out
       have v5 := d7.out
       have J4 : r6.cell? ⟨b4, 3, none⟩ = some (.int .i64 b0) := bc a0.out
       have G0 := blk_frozen a0.out 3
       have y8 := b7.out
       have y9 := d4.out
       have v6 := b3.out
       have v8 := d7.out
       have J5 : r6.cell? ⟨b4, 4, none⟩ = some (.slice n6 a3.length p0) := bc a0.out
       have G1 := blk_frozen a0.out 4
       have z0 := b7.out
       have z6 := d4.out
       have v9 := b3.out
       have w2 := d7.out
       refine skip_ (w1 := ?_) (by rfl) rfl ?_ ?_
       rotate_left
       ·
        go_simp
        rfl
       refine hK.out _ _ ?_
       clear hK K
       refine done_ (by kernel_rfl) ?_
       try go_wp2
       go_roundg k1
       case measure => have := h3.out; omega
       case rel => exact ⟨(wrap64 (a5 + 1)), (q5), (q6), (l7), (q7), (l8), (.slice B4 l7.length C1), (.slice B5 l8.length C2), el, H', ⟨by have := h3.out; omega⟩, ⟨by exact Kd.V_mono (pV d6.out) (fun _ hk => ⟨hk.1.1, ⟨hk.1.2.1, hk.1.2.2.1⟩⟩)⟩, ⟨by exact Kd.V_mono (pV j4.out) (fun _ hk => ⟨hk.1, ⟨hk.2.2.1, hk.2.2.2.1⟩⟩)⟩, ⟨Kd.V_mono (Kd.R_V (ok := fun k_ => w.heap.size ≤ k_ ∧ k_ ≠ b4 ∧ k_ ≠ b8) (by exact Kd.R_mono (pR (Kd.R_types (Kd.R_types (Kd.R_types j5.out a0.out (by decide)) a6.out (by decide)) a0.out (by decide))) (fun _ hk => ⟨hk.1.1.1.1.1, ⟨hk.1.1.2, hk.1.2⟩⟩))) (fun k_ hk => by first | exact ⟨(.inr (hk.1)), hk.2⟩ | exact (.inr (hk)))⟩, ⟨pP a0.out⟩, ⟨pk a6.out⟩, ⟨pB HB.out⟩⟩
      rw [if_neg t0] at H
      exact absurd H (by simp)
     rw [if_neg r9] at H
     exact absurd H (by simp)
    rw [if_neg m7] at H
    have o6 := decide_eq_false m7
    clear m7
    simp only [Option.some.injEq, Prod.mk.injEq] at H
    obtain ⟨rfl, rfl, rfl, rfl, rfl⟩ := H
    have G9 := nn b3
    have t9 := y5 a0
    have u0 := y5 a6
    obtain ⟨B6, C3, C9⟩ := Kd.V_slice a2.out
    subst C9
    obtain ⟨B7, C4, D0⟩ := Kd.V_slice a1.out
    subst D0
    go_wp2
    refine bodyPost_ret (results_cell_row rfl _ _ b8 27 #[.string a7, .string a8, .slice B6 a9.length C3, .int .i64 2, .slice B7 a3.length C4] (0, 0) _ rfl (pP a6.out) Try.underlying27 rfl (by kernel_rfl)) rfl ?_
    exact ⟨_, _, by first | rfl | (simp [errW_none, errW_some] <;> rfl) | (simp [*, errW_none, errW_some] <;> rfl), by exact Kd.V_mono (pV a2.out) (fun _ hk => hk.1), by exact Kd.V_mono (pV a1.out) (fun _ hk => hk.1), pB HB.out⟩
 replace c3 := Bool.eq_false_iff.mpr c3
 subst c3
 rw [if_neg (show ¬ (false = true) by decide)] at H
 try dsimp only at H
 have H' := am H
 clear H
 go_enter Try.func35, Try.ntmps35
 go_wp2_with (first | ((with_reducible refine gD 1 ?_); refine bz 1 #[.string e7, .string e8, .slice f5 e0.length f6, .int .i64 e9, .slice e6 a4.length e5] 27 HB ?_; clear HB; intro b4 hg L2 hb a0 n9 HB; replace d1 := vE d1 hg hb; replace c8 := vE c8 hg hb; clear hb hg) | ((with_reducible refine gD 2 ?_); refine bz 2 #[.string (⟨#[]⟩ : ByteArray), .string (⟨#[]⟩ : ByteArray), .slice none 0 0, .int .i64 0, .slice none 0 0] 27 HB ?_; clear HB; intro b8 hg L3 hb a6 o0 HB; replace d1 := vE d1 hg hb; replace c8 := vE c8 hg hb; have b3 := nL hg a0; have b7 := nG hg a0; replace a0 := kB a0 hb; clear hb hg; have H0 := nn b3; have g3 := y5 a0) | ((with_reducible refine gC 27 ?_); refine gL 11 Try.func27 #[.agg #[.string e7, .string e8, .slice f5 e0.length f6, .int .i64 e9, .slice e6 a4.length e5], .int .i64 4] ?_; (with_reducible refine (Fi.calls k e7 e8 _ _ e0 e9 _ _ a4 4 false _ ?side1 ?side2 ?side3 ?side4 A2.out).mono ?_); (case side1 => exact pC ((Kd.V_reads' d1.out).2.2)); (case side2 => exact (Kd.V_reads' d1.out).2.1); (case side3 => exact pC ((Kd.V_reads' c8.out).2.2)); (case side4 => exact (Kd.V_reads' c8.out).2.1); rintro e L4 ⟨rfl, hb⟩; refine ⟨_, rfl, ?_⟩; replace d1 := vB d1 hb; replace c8 := vB c8 hb; replace a0 := kB a0 hb; replace a6 := kB a6 hb; replace HB := bS HB hb; (try clear hb); (try clear hb2); (try clear hk); (try clear hi); have g4 := y5 a0))
 go_loopg [31] k (fun kq K6 w' => ∃ (b2 : Int) (a7 : ByteArray) (a8 : ByteArray) (a9 : List (S49)) (b0 : Int) (a3 : List (S51)) (c7 : Value) (d2 : Value), K6 = .int .i64 b2 ∧ Aside0 (Fg.l1 kq a4 (a4.length : Int) b2 a7 a8 a9 b0 a3 = some (r1, r2, r3, r4, r5)) ∧ Aside0 (kq ≤ k) ∧ Aside0 (Kd.V k51 51 w' w.heap.size (fun k_ => ((b9 k_ ∨ c6 k_) ∨ w.heap.size ≤ k_) ∧ k_ ≠ b4 ∧ k_ ≠ b8) (.slice e6 a4.length e5) a4) ∧ Aside0 (Kd.V k49 49 w' w.heap.size (fun k_ => ((b9 k_ ∨ c6 k_) ∨ w.heap.size ≤ k_) ∧ k_ ≠ b4 ∧ k_ ≠ b8) c7 a9) ∧ Aside0 (Kd.V k51 51 w' w.heap.size (fun k_ => ((b9 k_ ∨ c6 k_) ∨ w.heap.size ≤ k_) ∧ k_ ≠ b4 ∧ k_ ≠ b8) d2 a3) ∧ Aside0 (w'.heap[b4]? = some (.cells #[.string a7, .string a8, c7, .int .i64 b0, d2] 27 (0, 0))) ∧ Aside0 (w'.heap[b8]? = some (.cells #[.string (⟨#[]⟩ : ByteArray), .string (⟨#[]⟩ : ByteArray), (.slice none 0 0), .int .i64 0, (.slice none 0 0)] 27 (0, 0))) ∧ Aside0 (Below w.heap.size w w'))
 case atStart => exact ⟨(0), (e7), (e8), (e0), (e9), (a4), (.slice f5 e0.length f6), (.slice e6 a4.length e5), el, H', ⟨Nat.le_refl _⟩, ⟨by exact Kd.V_mono (pV c8.out) (fun _ hk => ⟨hk.1.1, ⟨hk.1.2, hk.2⟩⟩)⟩, ⟨by exact Kd.V_mono (pV d1.out) (fun _ hk => ⟨hk.1.1, ⟨hk.1.2, hk.2⟩⟩)⟩, ⟨by exact Kd.V_mono (pV c8.out) (fun _ hk => ⟨hk.1.1, ⟨hk.1.2, hk.2⟩⟩)⟩, ⟨pk a0.out⟩, ⟨pk a6.out⟩, ⟨pB HB.out⟩⟩
 case round =>
  clear H'
  try clear c3
  try clear g3
  try clear g4
  try clear a0; try clear a6; try clear HB
  obtain ⟨b2, a7, a8, a9, b0, a3, c7, d2, rfl, HA, h3, d0, a2, a1, a0, a6, HB⟩ := hrel
  cases gk with
  | zero => exact absurd HA.out (by simp [Fg.l1])
  | succ k1 =>
   have H := HA.out
   clear HA
   simp only [Fg.l1] at H
   by_cases k0 : b2 < (a4.length : Int)
   ·
    rw [if_pos k0] at H
    have j8 := decide_eq_true k0
    clear k0
    by_cases t1 : 0 ≤ b2
    ·
     rw [if_pos t1] at H
     have F3 := decide_eq_true t1
     clear t1
     by_cases t2 : b2 < (a4.length : Int)
     ·
      rw [if_pos t2] at H
      have F4 := decide_eq_true t2
      clear t2
      replace H := Option.bind_eq_some_iff.mp H
      obtain ⟨E5, n1, H⟩ := H
      try dsimp only at H
      have E9 := am n1
      clear n1
      by_cases t3 : E5 = true
      ·
       subst t3
       rw [if_pos rfl] at H
       try dsimp only at H
       replace H := Option.bind_eq_some_iff.mp H
       obtain ⟨⟨l9, m0, m1, m2, m3⟩, n2, H⟩ := H
       try dsimp only at H
       have I8 := am n2
       clear n2
       replace H := Option.bind_eq_some_iff.mp H
       obtain ⟨⟨q8, q9, m4, r0, m5⟩, n3, H⟩ := H
       try dsimp only at H
       have I9 := am n3
       clear n3
       have H' := am H
       clear H
       have f9 : 0 ≤ (b2 : Int) := od
       have g1 : b2 < (a4.length : Int) := od
       obtain ⟨o4, k3, i4, i5, i6, i7, i8⟩ := at_T51 (Kd.V_reads' d0.out).2.2 b2 f9 g1
       cases k3
       replace f9 := eq_true f9
       replace g1 := eq_true g1
       try go_wp2_with (first | ((with_reducible refine gD 6 ?_); refine bz 6 #[.int .i64 0, .int .i64 0, .int .i64 0, .int .i64 0, .string (⟨#[]⟩ : ByteArray)] 51 HB ?_; clear HB; intro d8 hg L5 hb b5 o1 HB; replace d0 := vE d0 hg hb; replace a2 := vE a2 hg hb; replace a1 := vE a1 hg hb; have d3 := nL hg a0; have c9 := nG hg a0; replace a0 := kB a0 hb; have g6 := nL hg a6; have e1 := nG hg a6; replace a6 := kB a6 hb; clear hb hg; have H1 := nn c9; have H2 := nn e1; have u1 := y5 b5; have H3 := nn b3; have u2 := y5 a0; obtain ⟨h9, i1, D1⟩ := Kd.V_slice a2.out; subst D1; obtain ⟨i0, i2, D2⟩ := Kd.V_slice a1.out; subst D2) | ((with_reducible refine gC 41 ?_); refine gL 38 Try.func41 #[.agg #[.string a7, .string a8, .slice h9 a9.length i1, .int .i64 b0, .slice i0 a3.length i2], .int .i64 b2] ?_; (with_reducible refine (Fo.calls k1 a7 a8 _ _ a9 b0 _ _ a3 b2 true _ ?side1 ?side2 ?side3 ?side4 E9.out).mono ?_); (case side1 => exact (Kd.V_reads' (pV a2.out)).2.2); (case side2 => exact (Kd.V_reads' a2.out).2.1); (case side3 => exact (Kd.V_reads' (pV a1.out)).2.2); (case side4 => exact (Kd.V_reads' a1.out).2.1); rintro e K9 ⟨rfl, hb⟩; refine ⟨_, rfl, ?_⟩; replace d0 := vB d0 hb; replace a2 := vB a2 hb; replace a1 := vB a1 hb; replace a0 := kB a0 hb; replace a6 := kB a6 hb; replace b5 := am (blk_below (g := d8) (o := .cells #[.int .i64 ((rd_T51 a4 b2).f0), .int .i64 ((rd_T51 a4 b2).f1), .int .i64 ((rd_T51 a4 b2).f2), .int .i64 ((rd_T51 a4 b2).f3), .string ((rd_T51 a4 b2).f4)] 51 (0, 0)) (pP b5.out) hb); replace HB := bS HB hb; (try clear hb); (try clear hb2); (try clear hk); (try clear hi)))
       replace d0 := am (Kd.V_drew d0.out)
       replace a2 := am (Kd.V_drew a2.out)
       replace a1 := am (Kd.V_drew a1.out)
       replace a0 := am (blk_drew a0.out)
       replace a6 := am (blk_drew a6.out)
       replace b5 := am (blk_drew b5.out)
       replace HB := am (below_drew1 HB.out)
       refine start_ (n := 6) (S := fun w' => w'.cell? ⟨b4, 0, none⟩ = some (.string a7) ∧ w'.cell? ⟨b4, 1, none⟩ = some (.string a8) ∧ w'.cell? ⟨b4, 2, none⟩ = some (.slice h9 a9.length i1) ∧ w'.cell? ⟨b4, 3, none⟩ = some (.int .i64 b0) ∧ w'.cell? ⟨b4, 4, none⟩ = some (.slice i0 a3.length i2) ∧ w'.cell? ⟨d8, 0, none⟩ = some (.int .i64 ((rd_T51 a4 b2).f0)) ∧ w'.cell? ⟨d8, 1, none⟩ = some (.int .i64 ((rd_T51 a4 b2).f1)) ∧ w'.cell? ⟨d8, 2, none⟩ = some (.int .i64 ((rd_T51 a4 b2).f2)) ∧ w'.cell? ⟨d8, 3, none⟩ = some (.int .i64 ((rd_T51 a4 b2).f3)) ∧ w'.cell? ⟨d8, 4, none⟩ = some (.string ((rd_T51 a4 b2).f4))) (ds := [5]) #[false, false, false, false, false, false] (by kernel_rfl) rfl rfl ⟨bc a0.out, bc a0.out, bc a0.out, bc a0.out, bc a0.out, bc b5.out, bc b5.out, bc b5.out, bc b5.out, bc b5.out⟩ (fun d9 => ?_)
       generalize K9.drew = L6 at d0 a2 a1 a0 a6 b5 HB d9 ⊢
       refine pure_ (i := 1) (N := some 40) (v := ?_) (a' := ?_) #[false, true, false, false, false, false] rfl rfl (by kernel_rfl) (fun _ _ _ h => h) (Or.inl ⟨by rfl, ?_⟩) ?_ ?_
       rotate_left
       ·
        intro w'
        go_simp
        with_reducible rfl
       rotate_left
       ·
        simp only [Act.put, List.setIfInBounds_toArray, List.set_cons_zero, List.set_cons_succ, i64_w, i32_w]
        rfl
       refine take_ (i := 0) (N := some 39) (v := ?_) (a' := ?_) #[true, true, false, false, false, false] rfl rfl (by kernel_rfl) (fun _ _ _ h => h) (Or.inl ⟨by rfl, ?_⟩) d9 ?_ ?_
       rotate_left
       ·
        rintro w' ⟨s0, s1, s2, s3, s4, s5, s6, s7, s8, s9⟩
        go_simp
        with_reducible rfl
       rotate_left
       ·
        simp only [Act.put, List.setIfInBounds_toArray, List.set_cons_zero, List.set_cons_succ, i64_w, i32_w]
        rfl
       refine take_ (i := 2) (N := some 41) (v := ?_) (a' := ?_) #[true, true, true, false, false, false] rfl rfl (by kernel_rfl) (fun _ _ _ h => h) (Or.inl ⟨by rfl, ?_⟩) d9 ?_ ?_
       rotate_left
       ·
        rintro w' ⟨s0, s1, s2, s3, s4, s5, s6, s7, s8, s9⟩
        go_simp
        with_reducible rfl
       rotate_left
       ·
        simp only [Act.put, List.setIfInBounds_toArray, List.set_cons_zero, List.set_cons_succ, i64_w, i32_w]
        rfl
       refine one_ (i := 3) (N := some 42) #[true, true, true, true, false, false] rfl rfl (by kernel_rfl) (by decide) (fun K hK => ?_)
       refine goes_ Try.func74 (by kernel_rfl) rfl #[.agg #[.int .i64 ((rd_T51 a4 b2).f0), .int .i64 ((rd_T51 a4 b2).f1), .int .i64 ((rd_T51 a4 b2).f2), .int .i64 ((rd_T51 a4 b2).f3), .string ((rd_T51 a4 b2).f4)]] (by rfl) rfl rfl (by (try simp only [List.map_toArray, List.map_cons, List.map_nil]); first | done | rfl | (simp only [List.length_drop, List.length_take]; rfl)) ?_
       with_reducible refine (Gd.calls ((rd_T51 a4 b2).f0) ((rd_T51 a4 b2).f1) ((rd_T51 a4 b2).f2) ((rd_T51 a4 b2).f3) ((rd_T51 a4 b2).f4) l9 m0 m1 m2 m3 _ I8.out).mono ?_
       rintro e L7 ⟨rfl, hb⟩
       refine ⟨_, rfl, ?_⟩
       replace d0 := vB d0 hb
       replace a2 := vB a2 hb
       replace a1 := vB a1 hb
       replace a0 := kB a0 hb
       replace a6 := kB a6 hb
       replace b5 := kB b5 hb
       replace HB := bS HB hb
       (try clear hb)
       (try clear hb2)
       (try clear hk)
       (try clear hi)
       refine hK.out _ _ ⟨bc a0.out, bc a0.out, bc a0.out, bc a0.out, bc a0.out, bc b5.out, bc b5.out, bc b5.out, bc b5.out, bc b5.out⟩ (fun d9 => ?_)
       clear hK K
       refine nh ?_
       refine one_ (i := 4) (N := some 43) #[true, true, true, true, true, false] rfl rfl (by kernel_rfl) (by decide) (fun K hK => ?_)
       refine goes_ Try.func48 (by kernel_rfl) rfl #[.agg #[.string a7, .string a8, .slice h9 a9.length i1, .int .i64 b0, .slice i0 a3.length i2], .int .i64 b2, .agg #[.int .i64 l9, .int .i64 m0, .int .i64 m1, .int .i64 m2, .string m3]] (by rfl) rfl rfl (by (try simp only [List.map_toArray, List.map_cons, List.map_nil]); first | done | rfl | (simp only [List.length_drop, List.length_take]; rfl)) ?_
       with_reducible refine (Fr.calls k1 a7 a8 (fun k_ => ((((b9 k_ ∨ c6 k_) ∨ w.heap.size ≤ k_) ∧ (k_ ≠ b4 ∧ k_ ≠ b8)) ∧ k_ ≠ d8)) _ _ a9 b0 _ _ a3 b2 l9 m0 m1 m2 m3 q8 q9 m4 r0 m5 _ ?side1 ?side2 ?side3 I9.out).mono ?_
       (case side1 => exact a2.out)
       (case side2 => exact pC ((Kd.V_reads' a1.out).2.2))
       (case side3 => exact (Kd.V_reads' a1.out).2.1)
       rintro e r7 ⟨K5, E7, rfl, q2, h7, hb⟩
       refine ⟨_, rfl, ?_⟩
       replace d0 := am (Kd.V_elder' (pV d0.out) (Kd.R_base h7) hb)
       replace a2 := am (Kd.V_elder' (pV a2.out) (Kd.R_base h7) hb)
       replace a1 := am (Kd.V_elder' (pV a1.out) (Kd.R_base h7) hb)
       have j6 := am (Kd.V_lower (Kd.V_mono (ok' := fun k_ => ((b9 k_ ∨ c6 k_) ∨ w.heap.size ≤ k_) ∧ some k_ ≠ (E7 : Value).ownBlock ∧ k_ ≠ b4 ∧ k_ ≠ b8 ∧ k_ ≠ d8) q2 (fun k_ g9 => ⟨Or.elim g9.1 (fun f8 => f8.1.1) (fun f7 => (.inr (Nat.le_trans (below_size (pB HB.out)) f7))), g9.2, Or.elim g9.1 (fun f8 => f8.1.2.1) (fun f7 => (Kd.freshB (pk a0.out) k_ f7)), Or.elim g9.1 (fun f8 => f8.1.2.2) (fun f7 => (Kd.freshB (pk a6.out) k_ f7)), Or.elim g9.1 (fun f8 => f8.2) (fun f7 => (Kd.freshB (pk b5.out) k_ f7))⟩)) (below_size (pB HB.out)))
       have j7 := am (Kd.R_lower (Kd.R_newB (Kd.R_newM (M := fun k_ => (w.heap.size ≤ k_)) (Kd.R_mono (ok' := fun k_ => True) h7 (fun _ g9 => trivial)) (below_size (pB HB.out)) (fun k_ h_ => h_)) (g := d8) (o := .cells #[.int .i64 ((rd_T51 a4 b2).f0), .int .i64 ((rd_T51 a4 b2).f1), .int .i64 ((rd_T51 a4 b2).f2), .int .i64 ((rd_T51 a4 b2).f3), .string ((rd_T51 a4 b2).f4)] 51 (0, 0)) (pk b5.out)) (below_size (pB HB.out)))
       replace a0 := kB a0 hb
       replace a6 := kB a6 hb
       replace b5 := kB b5 hb
       replace HB := bS HB hb
       (try clear hb)
       (try clear hb2)
       (try clear hk)
       (try clear hi)
       (try clear q2)
       (try clear h7)
       obtain ⟨B8, C5, p8⟩ := Kd.V_slice j6.out
       (first | subst p8 | (injection p8 with f1_ f2_ f3_; have h5 := f1_.symm; have h6 := f3_.symm; clear f1_ f2_ f3_; subst h5; subst h6))
       obtain ⟨B9, C6, p9⟩ := Kd.R_slice j7.out
       (first | subst p9 | (injection p9 with f1_ f2_ f3_; have h5 := f1_.symm; have h6 := f3_.symm; clear f1_ f2_ f3_; subst h5; subst h6))
       refine hK.out _ _ ⟨bc a0.out, bc a0.out, bc a0.out, bc a0.out, bc a0.out, bc b5.out, bc b5.out, bc b5.out, bc b5.out, bc b5.out⟩ (fun d9 => ?_)
       clear hK K
       refine nh ?_
       refine last_ (i := 5) (N := none) #[true, true, true, true, true, true] rfl rfl (by kernel_rfl) (by decide) (fun K hK => ?_)
       have J6 : r7.cell? ⟨b4, 0, none⟩ = some (.string a7) := bc a0.out
       have G2 := z1 a0.out
       have z7 := b7.out
       have z8 := c9.out
       have w3 := b3.out
       have w6 := d3.out
       have J7 : r7.cell? ⟨b4, 1, none⟩ = some (.string a8) := bc a0.out
       have G3 := blk_frozen a0.out 1
       have z9 := b7.out
       have A1 := c9.out
       have w7 := b3.out
       have w9 := d3.out
       have J8 : r7.cell? ⟨b4, 2, none⟩ = some (.slice h9 a9.length i1) := bc a0.out
       have G4 := blk_frozen a0.out 2
       have A3 := b7.out
       have A4 := c9.out
       have x0 := b3.out
       have x2 := d3.out
       have J9 : r7.cell? ⟨b4, 3, none⟩ = some (.int .i64 b0) := bc a0.out
       have G5 := blk_frozen a0.out 3
       have A5 := b7.out
       have A6 := c9.out
       have x3 := b3.out
       have x4 := d3.out
       have K0 : r7.cell? ⟨b4, 4, none⟩ = some (.slice i0 a3.length i2) := bc a0.out
       have G6 := blk_frozen a0.out 4
       have A7 := b7.out
       have A8 := c9.out
       have x5 := b3.out
       have x6 := d3.out
       refine skip_ (w1 := ?_) (by rfl) rfl ?_ ?_
       rotate_left
       ·
        go_simp
        rfl
       refine hK.out _ _ ?_
       clear hK K
       refine done_ (by kernel_rfl) ?_
       try go_wp2
       go_roundg k1
       case measure => have := h3.out; omega
       case rel => exact ⟨(wrap64 (b2 + 1)), (q8), (q9), (m4), (r0), (m5), (.slice B8 m4.length C5), (.slice B9 m5.length C6), el, H', ⟨by have := h3.out; omega⟩, ⟨by exact Kd.V_mono (pV d0.out) (fun _ hk => ⟨hk.1.1.1, ⟨hk.1.1.2.1, hk.1.1.2.2⟩⟩)⟩, ⟨by exact Kd.V_mono (pV j6.out) (fun _ hk => ⟨hk.1, ⟨hk.2.2.1, hk.2.2.2.1⟩⟩)⟩, ⟨Kd.V_mono (Kd.R_V (ok := fun k_ => w.heap.size ≤ k_ ∧ k_ ≠ b4 ∧ k_ ≠ b8) (by exact Kd.R_mono (pR (Kd.R_types (Kd.R_types (Kd.R_types j7.out a0.out (by decide)) a6.out (by decide)) a0.out (by decide))) (fun _ hk => ⟨hk.1.1.1.1.1, ⟨hk.1.1.2, hk.1.2⟩⟩))) (fun k_ hk => by first | exact ⟨(.inr (hk.1)), hk.2⟩ | exact (.inr (hk)))⟩, ⟨pP a0.out⟩, ⟨pk a6.out⟩, ⟨pB HB.out⟩⟩
      replace t3 := Bool.eq_false_iff.mpr t3
      subst t3
      rw [if_neg (show ¬ (false = true) by decide)] at H
      try dsimp only at H
      have H' := am H
      clear H
      have f9 : 0 ≤ (b2 : Int) := od
      have g1 : b2 < (a4.length : Int) := od
      obtain ⟨o4, k3, i4, i5, i6, i7, i8⟩ := at_T51 (Kd.V_reads' d0.out).2.2 b2 f9 g1
      cases k3
      replace f9 := eq_true f9
      replace g1 := eq_true g1
      go_wp2_with (first | ((with_reducible refine gD 6 ?_); refine bz 6 #[.int .i64 0, .int .i64 0, .int .i64 0, .int .i64 0, .string (⟨#[]⟩ : ByteArray)] 51 HB ?_; clear HB; intro d8 hg L8 hb b5 o1 HB; replace d0 := vE d0 hg hb; replace a2 := vE a2 hg hb; replace a1 := vE a1 hg hb; have d3 := nL hg a0; have c9 := nG hg a0; replace a0 := kB a0 hb; have g6 := nL hg a6; have e1 := nG hg a6; replace a6 := kB a6 hb; clear hb hg; have H4 := nn c9; have H5 := nn e1; have u3 := y5 b5; have H6 := nn b3; have u4 := y5 a0; obtain ⟨n7, p1, D3⟩ := Kd.V_slice a2.out; subst D3; obtain ⟨n8, p2, D4⟩ := Kd.V_slice a1.out; subst D4) | ((with_reducible refine gC 41 ?_); refine gL 38 Try.func41 #[.agg #[.string a7, .string a8, .slice n7 a9.length p1, .int .i64 b0, .slice n8 a3.length p2], .int .i64 b2] ?_; (with_reducible refine (Fo.calls k1 a7 a8 _ _ a9 b0 _ _ a3 b2 false _ ?side1 ?side2 ?side3 ?side4 E9.out).mono ?_); (case side1 => exact (Kd.V_reads' (pV a2.out)).2.2); (case side2 => exact (Kd.V_reads' a2.out).2.1); (case side3 => exact (Kd.V_reads' (pV a1.out)).2.2); (case side4 => exact (Kd.V_reads' a1.out).2.1); rintro e L9 ⟨rfl, hb⟩; refine ⟨_, rfl, ?_⟩; replace d0 := vB d0 hb; replace a2 := vB a2 hb; replace a1 := vB a1 hb; replace a0 := kB a0 hb; replace a6 := kB a6 hb; replace b5 := am (blk_below (g := d8) (o := .cells #[.int .i64 ((rd_T51 a4 b2).f0), .int .i64 ((rd_T51 a4 b2).f1), .int .i64 ((rd_T51 a4 b2).f2), .int .i64 ((rd_T51 a4 b2).f3), .string ((rd_T51 a4 b2).f4)] 51 (0, 0)) (pP b5.out) hb); replace HB := bS HB hb; (try clear hb); (try clear hb2); (try clear hk); (try clear hi)))
      go_roundg k1
      case measure => have := h3.out; omega
      case rel => exact ⟨(wrap64 (b2 + 1)), (a7), (a8), (a9), (b0), (a3), (.slice n7 a9.length p1), (.slice n8 a3.length p2), el, H', ⟨by have := h3.out; omega⟩, ⟨by exact Kd.V_mono (pV d0.out) (fun _ hk => ⟨hk.1.1, ⟨hk.1.2.1, hk.1.2.2⟩⟩)⟩, ⟨by exact Kd.V_mono (pV a2.out) (fun _ hk => ⟨hk.1.1, ⟨hk.1.2.1, hk.1.2.2⟩⟩)⟩, ⟨by exact Kd.V_mono (pV a1.out) (fun _ hk => ⟨hk.1.1, ⟨hk.1.2.1, hk.1.2.2⟩⟩)⟩, ⟨pk a0.out⟩, ⟨pk a6.out⟩, ⟨pB HB.out⟩⟩
     rw [if_neg t2] at H
     exact absurd H (by simp)
    rw [if_neg t1] at H
    exact absurd H (by simp)
   rw [if_neg k0] at H
   have j8 := decide_eq_false k0
   clear k0
   have H' := am H
   clear H
   have H7 := nn b3
   have i3 := y5 a0
   obtain ⟨h0, h4, D5⟩ := Kd.V_slice a1.out
   subst D5
   go_wp2
   go_loopg [7, 48] k1 (fun kq v7 K7 w' => ∃ (h8 : Bool) (d5 : Int), v7 = .bool h8 ∧ K7 = .int .i64 d5 ∧ Aside0 (Fg.l2 kq h8 a3 (a3.length : Int) d5 a7 a8 a9 b0 a3 = some (r1, r2, r3, r4, r5)) ∧ Aside0 (kq ≤ k1) ∧ Aside0 (Kd.V k51 51 w' w.heap.size (fun k_ => ((b9 k_ ∨ c6 k_) ∨ w.heap.size ≤ k_) ∧ k_ ≠ b4 ∧ k_ ≠ b8) (.slice h0 a3.length h4) a3) ∧ Aside0 (Kd.V k49 49 w' w.heap.size (fun k_ => ((b9 k_ ∨ c6 k_) ∨ w.heap.size ≤ k_) ∧ k_ ≠ b4 ∧ k_ ≠ b8) c7 a9) ∧ Aside0 (Kd.V k51 51 w' w.heap.size (fun k_ => ((b9 k_ ∨ c6 k_) ∨ w.heap.size ≤ k_) ∧ k_ ≠ b4 ∧ k_ ≠ b8) (.slice h0 a3.length h4) a3) ∧ Aside0 (w'.heap[b4]? = some (.cells #[.string a7, .string a8, c7, .int .i64 b0, (.slice h0 a3.length h4)] 27 (0, 0))) ∧ Aside0 (w'.heap[b8]? = some (.cells #[.string (⟨#[]⟩ : ByteArray), .string (⟨#[]⟩ : ByteArray), (.slice none 0 0), .int .i64 0, (.slice none 0 0)] 27 (0, 0))) ∧ Aside0 (Below w.heap.size w w'))
   case atStart => exact ⟨(true), (0), el, el, H', ⟨Nat.le_refl _⟩, ⟨(pV a1.out)⟩, ⟨(pV a2.out)⟩, ⟨(pV a1.out)⟩, ⟨pk a0.out⟩, ⟨pk a6.out⟩, ⟨pB HB.out⟩⟩
   case round =>
    clear H'
    try clear c3
    try clear k0
    try clear j8
    try clear g3
    try clear g4
    try clear i3
    try clear a0; try clear a6; try clear HB
    obtain ⟨h8, d5, rfl, rfl, HA, r8, e4, a2, a1, a0, a6, HB⟩ := hrel
    cases gk with
    | zero => exact absurd HA.out (by simp [Fg.l2])
    | succ k2 =>
     have H := HA.out
     clear HA
     simp only [Fg.l2] at H
     by_cases m8 : d5 < (a3.length : Int)
     ·
      rw [if_pos m8] at H
      have o7 := decide_eq_true m8
      clear m8
      by_cases t4 : 0 ≤ d5
      ·
       rw [if_pos t4] at H
       have F5 := decide_eq_true t4
       clear t4
       by_cases t5 : d5 < (a3.length : Int)
       ·
        rw [if_pos t5] at H
        have F6 := decide_eq_true t5
        clear t5
        by_cases t6 : h8 = true
        ·
         subst t6
         rw [if_pos rfl] at H
         try dsimp only at H
         have H' := am H
         clear H
         have g0 : 0 ≤ (d5 : Int) := od
         have g2 : d5 < (a3.length : Int) := od
         obtain ⟨o5, k4, i9, j0, j1, j2, j3⟩ := at_T51 (Kd.V_reads' e4.out).2.2 d5 g0 g2
         cases k4
         replace g0 := eq_true g0
         replace g2 := eq_true g2
         go_wp2_with (first | ((with_reducible refine gD 9 ?_); refine bz 9 #[.int .i64 0, .int .i64 0, .int .i64 0, .int .i64 0, .string (⟨#[]⟩ : ByteArray)] 51 HB ?_; clear HB; intro q0 hg M0 hb h2 o2 HB; replace e4 := vE e4 hg hb; replace a2 := vE a2 hg hb; replace a1 := vE a1 hg hb; have g5 := nL hg a0; have e2 := nG hg a0; replace a0 := kB a0 hb; have g7 := nL hg a6; have e3 := nG hg a6; replace a6 := kB a6 hb; clear hb hg; have H8 := nn e2; have H9 := nn e3; have u5 := y5 h2))
         go_roundg k2
         case measure => have := h3.out; have := r8.out; omega
         case rel => exact ⟨((((rd_T51 a3 d5).f0) == 3)), (wrap64 (d5 + 1)), el, el, H', ⟨by have := h3.out; have := r8.out; omega⟩, ⟨by exact Kd.V_mono (pV e4.out) (fun _ hk => ⟨hk.1.1, ⟨hk.1.2.1, hk.1.2.2⟩⟩)⟩, ⟨by exact Kd.V_mono (pV a2.out) (fun _ hk => ⟨hk.1.1, ⟨hk.1.2.1, hk.1.2.2⟩⟩)⟩, ⟨by exact Kd.V_mono (pV a1.out) (fun _ hk => ⟨hk.1.1, ⟨hk.1.2.1, hk.1.2.2⟩⟩)⟩, ⟨pk a0.out⟩, ⟨pk a6.out⟩, ⟨pB HB.out⟩⟩
        replace t6 := Bool.eq_false_iff.mpr t6
        subst t6
        rw [if_neg (show ¬ (false = true) by decide)] at H
        try dsimp only at H
        have H' := am H
        clear H
        have g0 : 0 ≤ (d5 : Int) := od
        have g2 : d5 < (a3.length : Int) := od
        obtain ⟨o5, k4, i9, j0, j1, j2, j3⟩ := at_T51 (Kd.V_reads' e4.out).2.2 d5 g0 g2
        cases k4
        replace g0 := eq_true g0
        replace g2 := eq_true g2
        go_wp2_with (first | ((with_reducible refine gD 9 ?_); refine bz 9 #[.int .i64 0, .int .i64 0, .int .i64 0, .int .i64 0, .string (⟨#[]⟩ : ByteArray)] 51 HB ?_; clear HB; intro q0 hg M1 hb h2 o2 HB; replace e4 := vE e4 hg hb; replace a2 := vE a2 hg hb; replace a1 := vE a1 hg hb; have g5 := nL hg a0; have e2 := nG hg a0; replace a0 := kB a0 hb; have g7 := nL hg a6; have e3 := nG hg a6; replace a6 := kB a6 hb; clear hb hg; have I0 := nn e2; have I1 := nn e3; have u6 := y5 h2))
        go_roundg k2
        case measure => have := h3.out; have := r8.out; omega
        case rel => exact ⟨(false), (wrap64 (d5 + 1)), el, el, H', ⟨by have := h3.out; have := r8.out; omega⟩, ⟨by exact Kd.V_mono (pV e4.out) (fun _ hk => ⟨hk.1.1, ⟨hk.1.2.1, hk.1.2.2⟩⟩)⟩, ⟨by exact Kd.V_mono (pV a2.out) (fun _ hk => ⟨hk.1.1, ⟨hk.1.2.1, hk.1.2.2⟩⟩)⟩, ⟨by exact Kd.V_mono (pV a1.out) (fun _ hk => ⟨hk.1.1, ⟨hk.1.2.1, hk.1.2.2⟩⟩)⟩, ⟨pk a0.out⟩, ⟨pk a6.out⟩, ⟨pB HB.out⟩⟩
       rw [if_neg t5] at H
       exact absurd H (by simp)
      rw [if_neg t4] at H
      exact absurd H (by simp)
     rw [if_neg m8] at H
     have o7 := decide_eq_false m8
     clear m8
     by_cases t7 : h8 = true
     ·
      subst t7
      rw [if_pos rfl] at H
      try dsimp only at H
      simp only [Option.some.injEq, Prod.mk.injEq] at H
      obtain ⟨rfl, rfl, rfl, rfl, rfl⟩ := H
      have I2 := nn b3
      have u7 := y5 a0
      have u8 := y5 a6
      obtain ⟨C0, C7, D6⟩ := Kd.V_slice a2.out
      subst D6
      go_wp2
      refine bodyPost_ret (results_cell_row rfl _ _ b8 27 #[.string a7, .string a8, .slice C0 a9.length C7, .int .i64 1, .slice h0 a3.length h4] (0, 0) _ rfl (pP a6.out) Try.underlying27 rfl (by kernel_rfl)) rfl ?_
      exact ⟨_, _, by first | rfl | (simp [errW_none, errW_some] <;> rfl) | (simp [*, errW_none, errW_some] <;> rfl), by exact Kd.V_mono (pV a2.out) (fun _ hk => hk.1), by exact Kd.V_mono (pV a1.out) (fun _ hk => hk.1), pB HB.out⟩
     replace t7 := Bool.eq_false_iff.mpr t7
     subst t7
     rw [if_neg (show ¬ (false = true) by decide)] at H
     try dsimp only at H
     simp only [Option.some.injEq, Prod.mk.injEq] at H
     obtain ⟨rfl, rfl, rfl, rfl, rfl⟩ := H
     have I3 := nn b3
     have u9 := y5 a0
     have q1 := y5 a6
     obtain ⟨n4, o8, p3⟩ := Kd.V_slice a2.out
     subst p3
     go_wp2
     refine bodyPost_ret (results_cell_row rfl _ _ b8 27 #[.string a7, .string a8, .slice n4 a9.length o8, .int .i64 b0, .slice h0 a3.length h4] (0, 0) _ rfl (pP a6.out) Try.underlying27 rfl (by kernel_rfl)) rfl ?_
     exact ⟨_, _, by first | rfl | (simp [errW_none, errW_some] <;> rfl) | (simp [*, errW_none, errW_some] <;> rfl), by exact Kd.V_mono (pV a2.out) (fun _ hk => hk.1), by exact Kd.V_mono (pV a1.out) (fun _ hk => hk.1), pB HB.out⟩
def Fw.l0 : Nat → Int → Int → ByteArray → ByteArray → List (S49) → Int → List (S51) → Option (ByteArray × ByteArray × (List (S49)) × Int × (List (S51)))
 | 0, _, _, _, _, _, _, _ => none
 | k + 1, a6, a7, a2, a3, a4, a5, a0 => if a7 < a6 then (if a0.length < 2932031007402 then (Fw.l0 k a6 (wrap64 (a7 + 1)) a2 a3 a4 a5 (a0 ++ [(⟨0, 0, 0, 0, (⟨#[]⟩ : ByteArray)⟩ : S51)])) else (none)) else ((Fg.f k a2 a3 a4 a5 a0).bind fun a1 => (some (a1.1, a1.2.1, a1.2.2.1, a1.2.2.2.1, a1.2.2.2.2)))
def Fw.f (k : Nat) (a0 : ByteArray) (a2 : ByteArray) (a1 : List (S49)) : Option (ByteArray × ByteArray × (List (S49)) × Int × (List (S51))) := Fw.l0 k (a1.length : Int) 0 a0 a2 a1 0 ([] : List (S51))
set_option maxHeartbeats 8000000 in
set_option maxRecDepth 100000 in
theorem Fw.calls (k : Nat) (a0 : ByteArray) (c6 : ByteArray) (b0 : Nat → Prop) (b9 : Option Addr) (c7 : Nat) (a9 : List (S49)) (r1 : ByteArray) (r2 : ByteArray) (r3 : List (S49)) (r4 : Int) (r5 : List (S51)) (w : World) (e7 : Kd.V k49 49 w w.heap.size (fun k_ => b0 k_) (.slice b9 a9.length c7) a9) (h : Fw.f k a0 c6 a9 = some (r1, r2, r3, r4, r5)) :
  Calls Try.prog 13 #[.string a0, .agg #[.string c6, .slice b9 a9.length c7]] w fun e w' => ∃ i2 i3 : Value, e = .returned (.agg #[.string r1, .string r2, i2, .int .i64 r4, i3]) ∧ Kd.V k49 49 w' w.heap.size (fun k_ => (b0 k_ ∨ w.heap.size ≤ k_)) i2 r3 ∧ Kd.V k51 51 w' w.heap.size (fun k_ => (b0 k_ ∨ w.heap.size ≤ k_)) i3 r5 ∧ Below w.heap.size w w' := by
 have i8 := Try.underlying24
 have i9 := Try.underlying27
 have j0 := Try.underlying51
 have b5 := am (show Kd.V k49 49 w w.heap.size (fun k_ => (b0 k_ ∨ w.heap.size ≤ k_)) (.slice b9 a9.length c7) a9 from Kd.V_mono e7 (fun k_ hk => .inl hk))
 have HB := am (Below.refl w.heap.size w)
 unfold Fw.f at h
 have H := h
 clear h
 have H' := am H
 clear H
 go_enter Try.func13, Try.ntmps13
 go_wp2_with (first | ((with_reducible refine gD 3 ?_); refine bz 3 #[.string c6, .slice b9 a9.length c7] 24 HB ?_; clear HB; intro b6 hg w3 hb a2 h0 HB; replace b5 := vE b5 hg hb; clear hb hg) | ((with_reducible refine gD 4 ?_); refine bz 4 #[.string (⟨#[]⟩ : ByteArray), .string (⟨#[]⟩ : ByteArray), .slice none 0 0, .int .i64 0, .slice none 0 0] 27 HB ?_; clear HB; intro b2 hg w4 hb a3 h2 HB; replace b5 := vE b5 hg hb; have c9 := nL hg a2; have d0 := nG hg a2; replace a2 := kB a2 hb; clear hb hg; have i5 := nn c9; have d9 := y2 a2) | ((with_reducible refine gD 5 ?_); refine bz 5 #[.string (⟨#[]⟩ : ByteArray), .string (⟨#[]⟩ : ByteArray), .slice none 0 0, .int .i64 0, .slice none 0 0] 27 HB ?_; clear HB; intro b7 hg w7 hb a4 h3 HB; replace b5 := vE b5 hg hb; have e0 := nL hg a2; have b3 := nG hg a2; replace a2 := kB a2 hb; have e1 := nL hg a3; have b4 := nG hg a3; replace a3 := kB a3 hb; clear hb hg; have i6 := nn b3; have i7 := nn b4; have d1 := y5 a4; have d2 := y2 a2))
 go_loopg [12] k (fun kq j1 w' => ∃ (b8 : Int) (a5 : List (S51)) (b1 : Value), j1 = .int .i64 b8 ∧ Aside0 (Fw.l0 kq (a9.length : Int) b8 a0 c6 a9 0 a5 = some (r1, r2, r3, r4, r5)) ∧ Aside0 (kq ≤ k) ∧ Aside0 (Kd.V k49 49 w' w.heap.size (fun k_ => (b0 k_ ∨ w.heap.size ≤ k_) ∧ some k_ ≠ (b1 : Value).ownBlock ∧ k_ ≠ b6 ∧ k_ ≠ b2 ∧ k_ ≠ b7) (.slice b9 a9.length c7) a9) ∧ Aside0 (Kd.V k49 49 w' w.heap.size (fun k_ => (b0 k_ ∨ w.heap.size ≤ k_) ∧ some k_ ≠ (b1 : Value).ownBlock ∧ k_ ≠ b6 ∧ k_ ≠ b2 ∧ k_ ≠ b7) (.slice b9 a9.length c7) a9) ∧ Aside0 (Kd.R k51 51 w' w.heap.size (fun k_ => (w.heap.size ≤ k_)) b1 a5) ∧ Aside0 (w'.heap[b6]? = some (.cells #[.string c6, (.slice b9 a9.length c7)] 24 (0, 0))) ∧ Aside0 (w'.heap[b2]? = some (.cells #[.string (⟨#[]⟩ : ByteArray), .string (⟨#[]⟩ : ByteArray), (.slice none 0 0), .int .i64 0, (.slice none 0 0)] 27 (0, 0))) ∧ Aside0 (w'.heap[b7]? = some (.cells #[.string a0, .string c6, (.slice b9 a9.length c7), .int .i64 0, b1] 27 (0, 0))) ∧ Aside0 (Below w.heap.size w w'))
 case atStart => exact ⟨(0), (([] : List (S51))), (.slice none 0 0), el, H', ⟨Nat.le_refl _⟩, ⟨by exact Kd.V_mono (pV b5.out) (fun _ hk => ⟨hk.1.1.1, ⟨(by simp [Value.ownBlock]), ⟨hk.1.1.2, ⟨hk.1.2, hk.2⟩⟩⟩⟩)⟩, ⟨by exact Kd.V_mono (pV b5.out) (fun _ hk => ⟨hk.1.1.1, ⟨(by simp [Value.ownBlock]), ⟨hk.1.1.2, ⟨hk.1.2, hk.2⟩⟩⟩⟩)⟩, ⟨by first | exact Kd.R_nil _ _ _ _ _ | exact Kd.N_nil _ _ _ _ _ | exact Kd.V_nil _ _ _ _ _ | exact Kd.Q_nil _ _ _ _ _ | exact Kd.S_nil _ _ _ _ _⟩, ⟨pk a2.out⟩, ⟨pk a3.out⟩, ⟨pP a4.out⟩, ⟨pB HB.out⟩⟩
 case round =>
  clear H'
  try clear d1
  try clear d2
  try clear d9
  try clear a2; try clear a3; try clear a4; try clear HB
  obtain ⟨b8, a5, b1, rfl, HA, h4, a8, a6, a1, a2, a3, a4, HB⟩ := hrel
  cases gk with
  | zero => exact absurd HA.out (by simp [Fw.l0])
  | succ k1 =>
   have H := HA.out
   clear HA
   simp only [Fw.l0] at H
   by_cases e2 : b8 < (a9.length : Int)
   ·
    rw [if_pos e2] at H
    have e6 := decide_eq_true e2
    clear e2
    by_cases f3 : a5.length < 2932031007402
    ·
     rw [if_pos f3] at H
     have e4 := am f3
     clear f3
     obtain ⟨y203, hy203⟩ : ∃ y_ : List (S51), y_ = (a5 ++ [(⟨0, 0, 0, 0, (⟨#[]⟩ : ByteArray)⟩ : S51)]) := ⟨_, rfl⟩
     replace H : (Fw.l0 k1 (a9.length : Int) (wrap64 (b8 + 1)) a0 c6 a9 0 y203) = some (r1, r2, r3, r4, r5) := by first | (rw [hy203]; with_reducible exact H) | (have g1 := (Option.bind_some _ _).symm.trans H; rw [hy203]; with_reducible exact g1) | (have g1 := (Option.bind_some _ _).symm.trans H; with_reducible exact g1) | with_reducible exact H | (rw [hy203]; exact H) | exact H
     have e5 := am hy203
     clear hy203
     have H' := am H
     clear H
     have h5 := nn b3
     have h6 := nn b4
     have f4 := y5 a4
     go_wp2_with (first | ((with_reducible refine gate_builtin (b := .append) (xs := #[.tmp 15, .tmp 17]) rfl ?_); at_builtin; refine Kd.R_append k51 (w0 := w) w.heap.size rfl (.tmp 15) (.tmp 17) 25 51 (.agg #[(.int .i64 0), (.int .i64 0), (.int .i64 0), (.int .i64 0), (.string ⟨#[]⟩)]) 48 rfl Try.underlying25 info51 rfl (by decide) (by omega) b1 a5 (⟨0, 0, 0, 0, (⟨#[]⟩ : ByteArray)⟩ : S51) [.int .i64 0, .int .i64 0, .int .i64 0, .int .i64 0, .string (⟨#[]⟩ : ByteArray)] (fun k_ => (w.heap.size ≤ k_)) (fun _ => False) rfl rfl ?aP (fun _ hk => hk.elim) ?aF ?aO ?aB ?aS ?aL ?_; (case aP => exact k51_mkM _ _ _ (⟨0, 0, 0, 0, (⟨#[]⟩ : ByteArray)⟩ : S51)); (case aB => exact (pB HB.out)); (case aF => exact (fun k_ hk => (Nat.le_trans (below_size (pB HB.out)) hk))); (case aO => exact (pR a1.out)); (case aS => exact (below_size (pB HB.out))); (case aL => have := e4.out; omega); intro j2 j5 ho hb hg g9; rw [← e5.out] at ho; replace a8 := am (Kd.V_afterv (ok := (fun k_ => (b0 k_ ∨ w.heap.size ≤ k_) ∧ k_ ≠ b6 ∧ k_ ≠ b2 ∧ k_ ≠ b7)) (by exact Kd.V_mono (pV a8.out) (fun _ hk => ⟨⟨hk.1, ⟨hk.2.2.1, ⟨hk.2.2.2.1, hk.2.2.2.2⟩⟩⟩, hk.2.1⟩)) hg g9); replace a6 := am (Kd.V_afterv (ok := (fun k_ => (b0 k_ ∨ w.heap.size ≤ k_) ∧ k_ ≠ b6 ∧ k_ ≠ b2 ∧ k_ ≠ b7)) (by exact Kd.V_mono (pV a6.out) (fun _ hk => ⟨⟨hk.1, ⟨hk.2.2.1, ⟨hk.2.2.2.1, hk.2.2.2.2⟩⟩⟩, hk.2.1⟩)) hg g9); replace a2 := am (blk_grown (pk a2.out) hg (Kd.R_ne a1.out a2.out (by decide))); replace a3 := am (blk_grown (pk a3.out) hg (Kd.R_ne a1.out a3.out (by decide))); replace a4 := am (blk_grown (pk a4.out) hg (Kd.R_ne a1.out a4.out (by decide))); replace HB := am (hb); have d4 := am (ho); clear a1 ho hb hg g9; obtain ⟨f8, g2, g5⟩ := Kd.R_slice d4.out; subst g5; have f5 := y5 a4))
     go_roundg k1
     case measure => have := h4.out; omega
     case rel => exact ⟨(wrap64 (b8 + 1)), (y203), (.slice f8 y203.length g2), el, H', ⟨by have := h4.out; omega⟩, ⟨by exact Kd.V_mono (pV a8.out) (fun _ hk => ⟨hk.1.1, ⟨hk.2, ⟨hk.1.2.1, ⟨hk.1.2.2.1, hk.1.2.2.2⟩⟩⟩⟩)⟩, ⟨by exact Kd.V_mono (pV a6.out) (fun _ hk => ⟨hk.1.1, ⟨hk.2, ⟨hk.1.2.1, ⟨hk.1.2.2.1, hk.1.2.2.2⟩⟩⟩⟩)⟩, ⟨by exact Kd.R_mono (pR (Kd.R_types d4.out a4.out (by decide))) (fun _ hk => hk.1)⟩, ⟨pk a2.out⟩, ⟨pk a3.out⟩, ⟨pP a4.out⟩, ⟨pB HB.out⟩⟩
    rw [if_neg f3] at H
    exact absurd H (by simp)
   rw [if_neg e2] at H
   have e6 := decide_eq_false e2
   clear e2
   replace H := Option.bind_eq_some_iff.mp H
   obtain ⟨⟨e8, e9, f0, f1, f2⟩, e3, H⟩ := H
   try dsimp only at H
   have i4 := am e3
   clear e3
   simp only [Option.some.injEq, Prod.mk.injEq] at H
   obtain ⟨rfl, rfl, rfl, rfl, rfl⟩ := H
   have h7 := nn b3
   have h8 := nn b4
   have f6 := y5 a4
   obtain ⟨d7, d8, g6⟩ := Kd.R_slice a1.out
   subst g6
   go_wp2_with (first | ((with_reducible refine gC 35 ?_); refine gL 22 Try.func35 #[.agg #[.string a0, .string c6, .slice b9 a9.length c7, .int .i64 0, .slice d7 a5.length d8]] ?_; (with_reducible refine (Fg.calls k1 a0 c6 (fun k_ => ((b0 k_ ∨ w.heap.size ≤ k_) ∧ (some k_ ≠ (.slice d7 a5.length d8 : Value).ownBlock ∧ (k_ ≠ b6 ∧ (k_ ≠ b2 ∧ k_ ≠ b7))))) _ _ a9 0 (fun k_ => some k_ = (.slice d7 a5.length d8 : Value).ownBlock) _ _ a5 e8 e9 f0 f1 f2 _ ?side1 ?side2 i4.out).mono ?_); (case side1 => exact a6.out); (case side2 => exact Kd.R_V (Kd.R_tight rfl (Kd.R_types (Kd.R_types (Kd.R_types (a1.out) a2.out (by decide)) a3.out (by decide)) a4.out (by decide)))); rintro e j6 ⟨j3, j4, rfl, i0, i1, hb⟩; refine ⟨_, rfl, ?_⟩; replace a8 := vB a8 hb; replace a6 := vB a6 hb; have d5 := am (Kd.V_lower (Kd.V_mono (ok' := fun k_ => (b0 k_ ∨ w.heap.size ≤ k_) ∧ k_ ≠ b6 ∧ k_ ≠ b2 ∧ k_ ≠ b7) i0 (fun k_ d3 => ⟨Or.elim d3 (fun a7 => Or.elim a7 (fun a7 => a7.1) (fun a7 => (.inr (((Kd.R_types (Kd.R_types (Kd.R_types (a1.out) a2.out (by decide)) a3.out (by decide)) a4.out (by decide)).1 k_ a7.symm).1.1.1)))) (fun c8 => (.inr (Nat.le_trans (below_size (pB HB.out)) c8))), Or.elim d3 (fun a7 => Or.elim a7 (fun a7 => a7.2.2.1) (fun a7 => ((Kd.R_types (Kd.R_types (Kd.R_types (a1.out) a2.out (by decide)) a3.out (by decide)) a4.out (by decide)).1 k_ a7.symm).1.1.2)) (fun c8 => (Kd.freshB (pk a2.out) k_ c8)), Or.elim d3 (fun a7 => Or.elim a7 (fun a7 => a7.2.2.2.1) (fun a7 => ((Kd.R_types (Kd.R_types (Kd.R_types (a1.out) a2.out (by decide)) a3.out (by decide)) a4.out (by decide)).1 k_ a7.symm).1.2)) (fun c8 => (Kd.freshB (pk a3.out) k_ c8)), Or.elim d3 (fun a7 => Or.elim a7 (fun a7 => a7.2.2.2.2) (fun a7 => ((Kd.R_types (Kd.R_types (Kd.R_types (a1.out) a2.out (by decide)) a3.out (by decide)) a4.out (by decide)).1 k_ a7.symm).2)) (fun c8 => (Kd.freshB (pk a4.out) k_ c8))⟩)) (below_size (pB HB.out))); have d6 := am (Kd.V_lower (Kd.V_mono (ok' := fun k_ => (b0 k_ ∨ w.heap.size ≤ k_) ∧ k_ ≠ b6 ∧ k_ ≠ b2 ∧ k_ ≠ b7) i1 (fun k_ d3 => ⟨Or.elim d3 (fun a7 => Or.elim a7 (fun a7 => a7.1) (fun a7 => (.inr (((Kd.R_types (Kd.R_types (Kd.R_types (a1.out) a2.out (by decide)) a3.out (by decide)) a4.out (by decide)).1 k_ a7.symm).1.1.1)))) (fun c8 => (.inr (Nat.le_trans (below_size (pB HB.out)) c8))), Or.elim d3 (fun a7 => Or.elim a7 (fun a7 => a7.2.2.1) (fun a7 => ((Kd.R_types (Kd.R_types (Kd.R_types (a1.out) a2.out (by decide)) a3.out (by decide)) a4.out (by decide)).1 k_ a7.symm).1.1.2)) (fun c8 => (Kd.freshB (pk a2.out) k_ c8)), Or.elim d3 (fun a7 => Or.elim a7 (fun a7 => a7.2.2.2.1) (fun a7 => ((Kd.R_types (Kd.R_types (Kd.R_types (a1.out) a2.out (by decide)) a3.out (by decide)) a4.out (by decide)).1 k_ a7.symm).1.2)) (fun c8 => (Kd.freshB (pk a3.out) k_ c8)), Or.elim d3 (fun a7 => Or.elim a7 (fun a7 => a7.2.2.2.2) (fun a7 => ((Kd.R_types (Kd.R_types (Kd.R_types (a1.out) a2.out (by decide)) a3.out (by decide)) a4.out (by decide)).1 k_ a7.symm).2)) (fun c8 => (Kd.freshB (pk a4.out) k_ c8))⟩)) (below_size (pB HB.out))); replace a1 := am (Kd.R_below (pR a1.out) hb); replace a2 := kB a2 hb; replace a3 := kB a3 hb; replace a4 := kB a4 hb; replace HB := bS HB hb; (try clear hb); (try clear hb2); (try clear hk); (try clear hi); (try clear i0); (try clear i1); have h9 := nn d0; have f7 := y5 a3; obtain ⟨f9, g3, g7⟩ := Kd.V_slice d5.out; subst g7; obtain ⟨g0, g4, g8⟩ := Kd.V_slice d6.out; subst g8))
   refine bodyPost_ret (results_cell_row rfl _ _ b2 27 #[.string e8, .string e9, .slice f9 f0.length g3, .int .i64 f1, .slice g0 f2.length g4] (0, 0) _ rfl (pP a3.out) Try.underlying27 rfl (by kernel_rfl)) rfl ?_
   exact ⟨_, _, by first | rfl | (simp [errW_none, errW_some] <;> rfl) | (simp [*, errW_none, errW_some] <;> rfl), by exact Kd.V_mono (pV d5.out) (fun _ hk => hk.1), by exact Kd.V_mono (pV d6.out) (fun _ hk => hk.1), pB HB.out⟩
def Fz.f (k : Nat) (a0 : ByteArray) (a1 : ByteArray) (a3 : List (S49)) (a2 : Int) (a4 : List (S51)) : Option (Bool) := (Fi.f k a0 a1 a3 a2 a4 0).bind fun a5 => (if a5 = true then (some true) else ((Fi.f k a0 a1 a3 a2 a4 1).bind fun a6 => (if a6 = true then (some true) else ((Fi.f k a0 a1 a3 a2 a4 2).bind fun a7 => (some a7)))))
set_option maxHeartbeats 8000000 in
set_option maxRecDepth 100000 in
theorem Fz.calls (k : Nat) (a3 : ByteArray) (a4 : ByteArray) (b0 : Option Addr) (b2 : Nat) (a1 : List (S49)) (a5 : Int) (b1 : Option Addr) (b3 : Nat) (a2 : List (S51)) (r : Bool) (w : World) (b8 : Kd.C k49 w b0 a1.length a1) (b6 : a1.length ≤ b2) (b9 : Kd.C k51 w b1 a2.length a2) (b7 : a2.length ≤ b3) (h : Fz.f k a3 a4 a1 a5 a2 = some r) :
  Calls Try.prog 76 #[.agg #[.string a3, .string a4, .slice b0 a1.length b2, .int .i64 a5, .slice b1 a2.length b3]] w fun e w' => e = .returned (.bool r) ∧ Below w.heap.size w w' := by
 have e0 := Try.underlying27
 have a8 := am b8
 have a6 := am b6
 clear b8 b6
 have a9 := am b9
 have a7 := am b7
 clear b9 b7
 have HB := am (Below.refl w.heap.size w)
 unfold Fz.f at h
 have H := h
 clear h
 replace H := Option.bind_eq_some_iff.mp H
 obtain ⟨d4, d7, H⟩ := H
 try dsimp only at H
 have A2 := am d7
 clear d7
 by_cases c3 : d4 = true
 ·
  subst c3
  rw [if_pos rfl] at H
  try dsimp only at H
  obtain rfl := Option.some.inj H
  go_enter Try.func76, Try.ntmps76
  go_wp2_with (first | ((with_reducible refine gD 1 ?_); refine bz 1 #[.string a3, .string a4, .slice b0 a1.length b2, .int .i64 a5, .slice b1 a2.length b3] 27 HB ?_; clear HB; intro b5 hg w4 hb a0 b4 HB; clear hb hg; have d3 := y5 a0) | ((with_reducible refine gC 27 ?_); refine gL 4 Try.func27 #[.agg #[.string a3, .string a4, .slice b0 a1.length b2, .int .i64 a5, .slice b1 a2.length b3], .int .i64 0] ?_; (with_reducible refine (Fi.calls k a3 a4 _ _ a1 a5 _ _ a2 0 true _ ?side1 ?side2 ?side3 ?side4 A2.out).mono ?_); (case side1 => exact (Kd.C_below a8.out (pB HB.out))); (case side2 => exact a6.out); (case side3 => exact (Kd.C_below a9.out (pB HB.out))); (case side4 => exact a7.out); rintro e w6 ⟨rfl, hb⟩; refine ⟨_, rfl, ?_⟩; replace a0 := kB a0 hb; replace HB := bS HB hb; (try clear hb); (try clear hb2); (try clear hk); (try clear hi)))
  go_ret
  exact ⟨er, pB HB.out⟩
 replace c3 := Bool.eq_false_iff.mpr c3
 subst c3
 rw [if_neg (show ¬ (false = true) by decide)] at H
 try dsimp only at H
 replace H := Option.bind_eq_some_iff.mp H
 obtain ⟨d5, d8, H⟩ := H
 try dsimp only at H
 have A7 := am d8
 clear d8
 by_cases c8 : d5 = true
 ·
  subst c8
  rw [if_pos rfl] at H
  try dsimp only at H
  obtain rfl := Option.some.inj H
  go_enter Try.func76, Try.ntmps76
  go_wp2_with (first | ((with_reducible refine gD 1 ?_); refine bz 1 #[.string a3, .string a4, .slice b0 a1.length b2, .int .i64 a5, .slice b1 a2.length b3] 27 HB ?_; clear HB; intro b5 hg w9 hb a0 b4 HB; clear hb hg; have c7 := y5 a0) | ((with_reducible refine gC 27 ?_); refine gL 4 Try.func27 #[.agg #[.string a3, .string a4, .slice b0 a1.length b2, .int .i64 a5, .slice b1 a2.length b3], .int .i64 0] ?_; (with_reducible refine (Fi.calls k a3 a4 _ _ a1 a5 _ _ a2 0 false _ ?side1 ?side2 ?side3 ?side4 A2.out).mono ?_); (case side1 => exact (Kd.C_below a8.out (pB HB.out))); (case side2 => exact a6.out); (case side3 => exact (Kd.C_below a9.out (pB HB.out))); (case side4 => exact a7.out); rintro e e1 ⟨rfl, hb⟩; refine ⟨_, rfl, ?_⟩; replace a0 := kB a0 hb; replace HB := bS HB hb; (try clear hb); (try clear hb2); (try clear hk); (try clear hi); have c9 := y5 a0) | (go_at_call 27; (with_reducible refine (Fi.calls k a3 a4 _ _ a1 a5 _ _ a2 1 true _ ?side1 ?side2 ?side3 ?side4 A7.out).mono ?_); (case side1 => exact (Kd.C_below a8.out (pB HB.out))); (case side2 => exact a6.out); (case side3 => exact (Kd.C_below a9.out (pB HB.out))); (case side4 => exact a7.out); rintro e e2 ⟨rfl, hb⟩; replace a0 := kB a0 hb; replace HB := bS HB hb; (try clear hb); (try clear hb2); (try clear hk); (try clear hi)))
  go_ret
  exact ⟨er, pB HB.out⟩
 replace c8 := Bool.eq_false_iff.mpr c8
 subst c8
 rw [if_neg (show ¬ (false = true) by decide)] at H
 try dsimp only at H
 replace H := Option.bind_eq_some_iff.mp H
 obtain ⟨d6, c6, H⟩ := H
 try dsimp only at H
 have d9 := am c6
 clear c6
 obtain rfl := Option.some.inj H
 go_enter Try.func76, Try.ntmps76
 go_wp2_with (first | ((with_reducible refine gD 1 ?_); refine bz 1 #[.string a3, .string a4, .slice b0 a1.length b2, .int .i64 a5, .slice b1 a2.length b3] 27 HB ?_; clear HB; intro b5 hg e3 hb a0 b4 HB; clear hb hg; have d0 := y5 a0) | ((with_reducible refine gC 27 ?_); refine gL 4 Try.func27 #[.agg #[.string a3, .string a4, .slice b0 a1.length b2, .int .i64 a5, .slice b1 a2.length b3], .int .i64 0] ?_; (with_reducible refine (Fi.calls k a3 a4 _ _ a1 a5 _ _ a2 0 false _ ?side1 ?side2 ?side3 ?side4 A2.out).mono ?_); (case side1 => exact (Kd.C_below a8.out (pB HB.out))); (case side2 => exact a6.out); (case side3 => exact (Kd.C_below a9.out (pB HB.out))); (case side4 => exact a7.out); rintro e e4 ⟨rfl, hb⟩; refine ⟨_, rfl, ?_⟩; replace a0 := kB a0 hb; replace HB := bS HB hb; (try clear hb); (try clear hb2); (try clear hk); (try clear hi); have d1 := y5 a0) | (go_at_call 27; (with_reducible refine (Fi.calls k a3 a4 _ _ a1 a5 _ _ a2 1 false _ ?side1 ?side2 ?side3 ?side4 A7.out).mono ?_); (case side1 => exact (Kd.C_below a8.out (pB HB.out))); (case side2 => exact a6.out); (case side3 => exact (Kd.C_below a9.out (pB HB.out))); (case side4 => exact a7.out); rintro e e5 ⟨rfl, hb⟩; replace a0 := kB a0 hb; replace HB := bS HB hb; (try clear hb); (try clear hb2); (try clear hk); (try clear hi); have d2 := y5 a0) | (go_at_call 27; (with_reducible refine (Fi.calls k a3 a4 _ _ a1 a5 _ _ a2 2 d6 _ ?side1 ?side2 ?side3 ?side4 d9.out).mono ?_); (case side1 => exact (Kd.C_below a8.out (pB HB.out))); (case side2 => exact a6.out); (case side3 => exact (Kd.C_below a9.out (pB HB.out))); (case side4 => exact a7.out); rintro e e6 ⟨rfl, hb⟩; replace a0 := kB a0 hb; replace HB := bS HB hb; (try clear hb); (try clear hb2); (try clear hk); (try clear hi)))
 go_ret
 exact ⟨er, pB HB.out⟩
def Fx.j0 : Nat → Bool → ByteArray → ByteArray → List (S49) → Int → List (S51) → Option (Bool)
 | 0, _, _, _, _, _, _ => none
 | k + 1, a9, a1, a2, a3, a0, a4 => if a9 = true then (some (a0 == 1)) else ((Fi.f k a1 a2 a3 a0 a4 4).bind fun a5 => (if a5 = true then (if a0 = 2 then ((Fz.f k a1 a2 a3 a0 a4).bind fun a6 => (some (!a6))) else (some false)) else ((Fz.f k a1 a2 a3 a0 a4).bind fun a7 => (if a7 = true then (if a0 = 0 then ((Fi.f k a1 a2 a3 a0 a4 5).bind fun a8 => (some (!a8))) else (some false)) else (some (a0 == 3))))))
def Fx.f (k : Nat) (a0 : ByteArray) (a1 : ByteArray) (a3 : List (S49)) (a2 : Int) (a4 : List (S51)) : Option (Bool) := (Fz.f k a0 a1 a3 a2 a4).bind fun a5 => (if a5 = true then (Fx.j0 k false a0 a1 a3 a2 a4) else ((Fi.f k a0 a1 a3 a2 a4 4).bind fun a6 => (if a6 = true then (Fx.j0 k false a0 a1 a3 a2 a4) else ((Fi.f k a0 a1 a3 a2 a4 5).bind fun a7 => (Fx.j0 k (!a7) a0 a1 a3 a2 a4)))))
set_option maxHeartbeats 8000000 in
set_option maxRecDepth 100000 in
theorem Fx.calls (k : Nat) (a4 : ByteArray) (a5 : ByteArray) (b0 : Option Addr) (b2 : Nat) (a1 : List (S49)) (a3 : Int) (b1 : Option Addr) (b3 : Nat) (a2 : List (S51)) (r : Bool) (w : World) (b8 : Kd.C k49 w b0 a1.length a1) (b6 : a1.length ≤ b2) (b9 : Kd.C k51 w b1 a2.length a2) (b7 : a2.length ≤ b3) (h : Fx.f k a4 a5 a1 a3 a2 = some r) :
  Calls Try.prog 39 #[.agg #[.string a4, .string a5, .slice b0 a1.length b2, .int .i64 a3, .slice b1 a2.length b3]] w fun e w' => e = .returned (.bool r) ∧ Below w.heap.size w w' := by
 have h9 := Try.underlying27
 have a8 := am b8
 have a6 := am b6
 clear b8 b6
 have a9 := am b9
 have a7 := am b7
 clear b9 b7
 have HB := am (Below.refl w.heap.size w)
 unfold Fx.f at h
 have H := h
 clear h
 have g4 := am H
 clear H
 go_enter Try.func39, Try.ntmps39
 go_upto_region 1 with (first | ((with_reducible refine gD 1 ?_); refine bz 1 #[.string a4, .string a5, .slice b0 a1.length b2, .int .i64 a3, .slice b1 a2.length b3] 27 HB ?_; clear HB; intro d9 hg w3 hb a0 h5 HB; clear hb hg))
 (try simp only [Act.put, List.setIfInBounds_toArray, List.set_cons_zero, List.set_cons_succ])
 go_cut [15] (fun i0 wc => ∃ (kq : Nat) (b4 : Bool), i0 = .bool b4 ∧ Aside0 (Fx.j0 kq b4 a4 a5 a1 a3 a2 = some r) ∧ Aside0 (kq ≤ k) ∧ Aside0 (wc.heap[d9]? = some (.cells #[.string a4, .string a5, (.slice b0 a1.length b2), .int .i64 a3, (.slice b1 a2.length b3)] 27 (0, 0))) ∧ Aside0 (Below w.heap.size w wc))
 case first =>
  have H := g4.out
  clear g4
  replace H := Option.bind_eq_some_iff.mp H
  obtain ⟨g6, h3, H⟩ := H
  try dsimp only at H
  have A4 := am h3
  clear h3
  by_cases c5 : g6 = true
  ·
   subst c5
   rw [if_pos rfl] at H
   try dsimp only at H
   have H' := am H
   clear H
   have g5 := y5 a0
   go_wp2_with (first | ((with_reducible refine gC 76 ?_); refine gL 4 Try.func76 #[.agg #[.string a4, .string a5, .slice b0 a1.length b2, .int .i64 a3, .slice b1 a2.length b3]] ?_; (with_reducible refine (Fz.calls k a4 a5 _ _ a1 a3 _ _ a2 true _ ?side1 ?side2 ?side3 ?side4 A4.out).mono ?_); (case side1 => exact (Kd.C_below a8.out (pB HB.out))); (case side2 => exact a6.out); (case side3 => exact (Kd.C_below a9.out (pB HB.out))); (case side4 => exact a7.out); rintro e w7 ⟨rfl, hb⟩; refine ⟨_, rfl, ?_⟩; replace a0 := kB a0 hb; replace HB := bS HB hb; (try clear hb); (try clear hb2); (try clear hk); (try clear hi)))
   go_meet
   case rel => exact ⟨_, (false), el, H', ol, ⟨pk a0.out⟩, ⟨pB HB.out⟩⟩
  replace c5 := Bool.eq_false_iff.mpr c5
  subst c5
  rw [if_neg (show ¬ (false = true) by decide)] at H
  try dsimp only at H
  replace H := Option.bind_eq_some_iff.mp H
  obtain ⟨g7, h4, H⟩ := H
  try dsimp only at H
  have A8 := am h4
  clear h4
  by_cases c9 : g7 = true
  ·
   subst c9
   rw [if_pos rfl] at H
   try dsimp only at H
   have H' := am H
   clear H
   have e4 := y5 a0
   go_wp2_with (first | ((with_reducible refine gC 76 ?_); refine gL 4 Try.func76 #[.agg #[.string a4, .string a5, .slice b0 a1.length b2, .int .i64 a3, .slice b1 a2.length b3]] ?_; (with_reducible refine (Fz.calls k a4 a5 _ _ a1 a3 _ _ a2 false _ ?side1 ?side2 ?side3 ?side4 A4.out).mono ?_); (case side1 => exact (Kd.C_below a8.out (pB HB.out))); (case side2 => exact a6.out); (case side3 => exact (Kd.C_below a9.out (pB HB.out))); (case side4 => exact a7.out); rintro e i2 ⟨rfl, hb⟩; refine ⟨_, rfl, ?_⟩; replace a0 := kB a0 hb; replace HB := bS HB hb; (try clear hb); (try clear hb2); (try clear hk); (try clear hi); have e5 := y5 a0) | (go_at_call 27; (with_reducible refine (Fi.calls k a4 a5 _ _ a1 a3 _ _ a2 4 true _ ?side1 ?side2 ?side3 ?side4 A8.out).mono ?_); (case side1 => exact (Kd.C_below a8.out (pB HB.out))); (case side2 => exact a6.out); (case side3 => exact (Kd.C_below a9.out (pB HB.out))); (case side4 => exact a7.out); rintro e i3 ⟨rfl, hb⟩; replace a0 := kB a0 hb; replace HB := bS HB hb; (try clear hb); (try clear hb2); (try clear hk); (try clear hi)))
   go_meet
   case rel => exact ⟨_, (false), el, H', ol, ⟨pk a0.out⟩, ⟨pB HB.out⟩⟩
  replace c9 := Bool.eq_false_iff.mpr c9
  subst c9
  rw [if_neg (show ¬ (false = true) by decide)] at H
  try dsimp only at H
  replace H := Option.bind_eq_some_iff.mp H
  obtain ⟨e0, c6, H⟩ := H
  try dsimp only at H
  have h6 := am c6
  clear c6
  have H' := am H
  clear H
  have e6 := y5 a0
  go_wp2_with (first | ((with_reducible refine gC 76 ?_); refine gL 4 Try.func76 #[.agg #[.string a4, .string a5, .slice b0 a1.length b2, .int .i64 a3, .slice b1 a2.length b3]] ?_; (with_reducible refine (Fz.calls k a4 a5 _ _ a1 a3 _ _ a2 false _ ?side1 ?side2 ?side3 ?side4 A4.out).mono ?_); (case side1 => exact (Kd.C_below a8.out (pB HB.out))); (case side2 => exact a6.out); (case side3 => exact (Kd.C_below a9.out (pB HB.out))); (case side4 => exact a7.out); rintro e i4 ⟨rfl, hb⟩; refine ⟨_, rfl, ?_⟩; replace a0 := kB a0 hb; replace HB := bS HB hb; (try clear hb); (try clear hb2); (try clear hk); (try clear hi); have e7 := y5 a0) | (go_at_call 27; (with_reducible refine (Fi.calls k a4 a5 _ _ a1 a3 _ _ a2 4 false _ ?side1 ?side2 ?side3 ?side4 A8.out).mono ?_); (case side1 => exact (Kd.C_below a8.out (pB HB.out))); (case side2 => exact a6.out); (case side3 => exact (Kd.C_below a9.out (pB HB.out))); (case side4 => exact a7.out); rintro e i5 ⟨rfl, hb⟩; replace a0 := kB a0 hb; replace HB := bS HB hb; (try clear hb); (try clear hb2); (try clear hk); (try clear hi); have e8 := y5 a0) | (go_at_call 27; (with_reducible refine (Fi.calls k a4 a5 _ _ a1 a3 _ _ a2 5 e0 _ ?side1 ?side2 ?side3 ?side4 h6.out).mono ?_); (case side1 => exact (Kd.C_below a8.out (pB HB.out))); (case side2 => exact a6.out); (case side3 => exact (Kd.C_below a9.out (pB HB.out))); (case side4 => exact a7.out); rintro e i6 ⟨rfl, hb⟩; replace a0 := kB a0 hb; replace HB := bS HB hb; (try clear hb); (try clear hb2); (try clear hk); (try clear hi)))
  go_meet
  case rel => exact ⟨_, (!e0), el, H', ol, ⟨pk a0.out⟩, ⟨pB HB.out⟩⟩
 case rest =>
  clear g4
  obtain ⟨kq, b4, rfl, HA, i1, a0, HB⟩ := hcut
  cases kq with
  | zero => exact absurd HA.out (by simp [Fx.j0])
  | succ b5 =>
   have H := HA.out
   clear HA
   simp only [Fx.j0] at H
   by_cases e1 : b4 = true
   ·
    subst e1
    rw [if_pos rfl] at H
    try dsimp only at H
    obtain rfl := Option.some.inj H
    have e9 := y5 a0
    go_wp2
    go_ret
    exact ⟨er, pB HB.out⟩
   replace e1 := Bool.eq_false_iff.mpr e1
   subst e1
   rw [if_neg (show ¬ (false = true) by decide)] at H
   try dsimp only at H
   replace H := Option.bind_eq_some_iff.mp H
   obtain ⟨g8, c8, H⟩ := H
   try dsimp only at H
   have c7 := am c8
   clear c8
   by_cases e2 : g8 = true
   ·
    subst e2
    rw [if_pos rfl] at H
    try dsimp only at H
    by_cases d3 : a3 = 2
    ·
     rw [if_pos d3] at H
     obtain ⟨d4, d5⟩ := qt d3
     clear d3
     replace H := Option.bind_eq_some_iff.mp H
     obtain ⟨g9, d0, H⟩ := H
     try dsimp only at H
     have h7 := am d0
     clear d0
     obtain rfl := Option.some.inj H
     have f0 := y5 a0
     go_wp2_with (first | ((with_reducible refine gC 27 ?_); refine gL 20 Try.func27 #[.agg #[.string a4, .string a5, .slice b0 a1.length b2, .int .i64 a3, .slice b1 a2.length b3], .int .i64 4] ?_; (with_reducible refine (Fi.calls b5 a4 a5 _ _ a1 a3 _ _ a2 4 true _ ?side1 ?side2 ?side3 ?side4 c7.out).mono ?_); (case side1 => exact (Kd.C_below a8.out (pB HB.out))); (case side2 => exact a6.out); (case side3 => exact (Kd.C_below a9.out (pB HB.out))); (case side4 => exact a7.out); rintro e i7 ⟨rfl, hb⟩; refine ⟨_, rfl, ?_⟩; replace a0 := kB a0 hb; replace HB := bS HB hb; (try clear hb); (try clear hb2); (try clear hk); (try clear hi); have f1 := y5 a0) | (go_at_call 76; (with_reducible refine (Fz.calls b5 a4 a5 _ _ a1 a3 _ _ a2 g9 _ ?side1 ?side2 ?side3 ?side4 h7.out).mono ?_); (case side1 => exact (Kd.C_below a8.out (pB HB.out))); (case side2 => exact a6.out); (case side3 => exact (Kd.C_below a9.out (pB HB.out))); (case side4 => exact a7.out); rintro e i8 ⟨rfl, hb⟩; replace a0 := kB a0 hb; replace HB := bS HB hb; (try clear hb); (try clear hb2); (try clear hk); (try clear hi)))
     go_ret
     exact ⟨er, pB HB.out⟩
    rw [if_neg d3] at H
    obtain ⟨d4, d5⟩ := qf d3
    obtain rfl := Option.some.inj H
    have f2 := y5 a0
    go_wp2_with (first | ((with_reducible refine gC 27 ?_); refine gL 20 Try.func27 #[.agg #[.string a4, .string a5, .slice b0 a1.length b2, .int .i64 a3, .slice b1 a2.length b3], .int .i64 4] ?_; (with_reducible refine (Fi.calls b5 a4 a5 _ _ a1 a3 _ _ a2 4 true _ ?side1 ?side2 ?side3 ?side4 c7.out).mono ?_); (case side1 => exact (Kd.C_below a8.out (pB HB.out))); (case side2 => exact a6.out); (case side3 => exact (Kd.C_below a9.out (pB HB.out))); (case side4 => exact a7.out); rintro e i9 ⟨rfl, hb⟩; refine ⟨_, rfl, ?_⟩; replace a0 := kB a0 hb; replace HB := bS HB hb; (try clear hb); (try clear hb2); (try clear hk); (try clear hi); have f3 := y5 a0))
    go_ret
    exact ⟨er, pB HB.out⟩
   replace e2 := Bool.eq_false_iff.mpr e2
   subst e2
   rw [if_neg (show ¬ (false = true) by decide)] at H
   try dsimp only at H
   replace H := Option.bind_eq_some_iff.mp H
   obtain ⟨h0, d1, H⟩ := H
   try dsimp only at H
   have g3 := am d1
   clear d1
   by_cases e3 : h0 = true
   ·
    subst e3
    rw [if_pos rfl] at H
    try dsimp only at H
    by_cases d6 : a3 = 0
    ·
     rw [if_pos d6] at H
     obtain ⟨d7, d8⟩ := qt d6
     clear d6
     replace H := Option.bind_eq_some_iff.mp H
     obtain ⟨h2, d2, H⟩ := H
     try dsimp only at H
     have h8 := am d2
     clear d2
     obtain rfl := Option.some.inj H
     have f4 := y5 a0
     go_wp2_with (first | ((with_reducible refine gC 27 ?_); refine gL 20 Try.func27 #[.agg #[.string a4, .string a5, .slice b0 a1.length b2, .int .i64 a3, .slice b1 a2.length b3], .int .i64 4] ?_; (with_reducible refine (Fi.calls b5 a4 a5 _ _ a1 a3 _ _ a2 4 false _ ?side1 ?side2 ?side3 ?side4 c7.out).mono ?_); (case side1 => exact (Kd.C_below a8.out (pB HB.out))); (case side2 => exact a6.out); (case side3 => exact (Kd.C_below a9.out (pB HB.out))); (case side4 => exact a7.out); rintro e j1 ⟨rfl, hb⟩; refine ⟨_, rfl, ?_⟩; replace a0 := kB a0 hb; replace HB := bS HB hb; (try clear hb); (try clear hb2); (try clear hk); (try clear hi); have f5 := y5 a0) | ((with_reducible refine gC 76 ?_); refine gL 30 Try.func76 #[.agg #[.string a4, .string a5, .slice b0 a1.length b2, .int .i64 a3, .slice b1 a2.length b3]] ?_; (with_reducible refine (Fz.calls b5 a4 a5 _ _ a1 a3 _ _ a2 true _ ?side1 ?side2 ?side3 ?side4 g3.out).mono ?_); (case side1 => exact (Kd.C_below a8.out (pB HB.out))); (case side2 => exact a6.out); (case side3 => exact (Kd.C_below a9.out (pB HB.out))); (case side4 => exact a7.out); rintro e j2 ⟨rfl, hb⟩; refine ⟨_, rfl, ?_⟩; replace a0 := kB a0 hb; replace HB := bS HB hb; (try clear hb); (try clear hb2); (try clear hk); (try clear hi); have f6 := y5 a0) | (go_at_call 27; (with_reducible refine (Fi.calls b5 a4 a5 _ _ a1 a3 _ _ a2 5 h2 _ ?side1 ?side2 ?side3 ?side4 h8.out).mono ?_); (case side1 => exact (Kd.C_below a8.out (pB HB.out))); (case side2 => exact a6.out); (case side3 => exact (Kd.C_below a9.out (pB HB.out))); (case side4 => exact a7.out); rintro e j3 ⟨rfl, hb⟩; replace a0 := kB a0 hb; replace HB := bS HB hb; (try clear hb); (try clear hb2); (try clear hk); (try clear hi)))
     go_ret
     exact ⟨er, pB HB.out⟩
    rw [if_neg d6] at H
    obtain ⟨d7, d8⟩ := qf d6
    obtain rfl := Option.some.inj H
    have f7 := y5 a0
    go_wp2_with (first | ((with_reducible refine gC 27 ?_); refine gL 20 Try.func27 #[.agg #[.string a4, .string a5, .slice b0 a1.length b2, .int .i64 a3, .slice b1 a2.length b3], .int .i64 4] ?_; (with_reducible refine (Fi.calls b5 a4 a5 _ _ a1 a3 _ _ a2 4 false _ ?side1 ?side2 ?side3 ?side4 c7.out).mono ?_); (case side1 => exact (Kd.C_below a8.out (pB HB.out))); (case side2 => exact a6.out); (case side3 => exact (Kd.C_below a9.out (pB HB.out))); (case side4 => exact a7.out); rintro e j4 ⟨rfl, hb⟩; refine ⟨_, rfl, ?_⟩; replace a0 := kB a0 hb; replace HB := bS HB hb; (try clear hb); (try clear hb2); (try clear hk); (try clear hi); have f8 := y5 a0) | ((with_reducible refine gC 76 ?_); refine gL 30 Try.func76 #[.agg #[.string a4, .string a5, .slice b0 a1.length b2, .int .i64 a3, .slice b1 a2.length b3]] ?_; (with_reducible refine (Fz.calls b5 a4 a5 _ _ a1 a3 _ _ a2 true _ ?side1 ?side2 ?side3 ?side4 g3.out).mono ?_); (case side1 => exact (Kd.C_below a8.out (pB HB.out))); (case side2 => exact a6.out); (case side3 => exact (Kd.C_below a9.out (pB HB.out))); (case side4 => exact a7.out); rintro e j5 ⟨rfl, hb⟩; refine ⟨_, rfl, ?_⟩; replace a0 := kB a0 hb; replace HB := bS HB hb; (try clear hb); (try clear hb2); (try clear hk); (try clear hi); have f9 := y5 a0))
    go_ret
    exact ⟨er, pB HB.out⟩
   replace e3 := Bool.eq_false_iff.mpr e3
   subst e3
   rw [if_neg (show ¬ (false = true) by decide)] at H
   try dsimp only at H
   obtain rfl := Option.some.inj H
   have g0 := y5 a0
   go_wp2_with (first | ((with_reducible refine gC 27 ?_); refine gL 20 Try.func27 #[.agg #[.string a4, .string a5, .slice b0 a1.length b2, .int .i64 a3, .slice b1 a2.length b3], .int .i64 4] ?_; (with_reducible refine (Fi.calls b5 a4 a5 _ _ a1 a3 _ _ a2 4 false _ ?side1 ?side2 ?side3 ?side4 c7.out).mono ?_); (case side1 => exact (Kd.C_below a8.out (pB HB.out))); (case side2 => exact a6.out); (case side3 => exact (Kd.C_below a9.out (pB HB.out))); (case side4 => exact a7.out); rintro e j6 ⟨rfl, hb⟩; refine ⟨_, rfl, ?_⟩; replace a0 := kB a0 hb; replace HB := bS HB hb; (try clear hb); (try clear hb2); (try clear hk); (try clear hi); have g1 := y5 a0) | ((with_reducible refine gC 76 ?_); refine gL 30 Try.func76 #[.agg #[.string a4, .string a5, .slice b0 a1.length b2, .int .i64 a3, .slice b1 a2.length b3]] ?_; (with_reducible refine (Fz.calls b5 a4 a5 _ _ a1 a3 _ _ a2 false _ ?side1 ?side2 ?side3 ?side4 g3.out).mono ?_); (case side1 => exact (Kd.C_below a8.out (pB HB.out))); (case side2 => exact a6.out); (case side3 => exact (Kd.C_below a9.out (pB HB.out))); (case side4 => exact a7.out); rintro e j7 ⟨rfl, hb⟩; refine ⟨_, rfl, ?_⟩; replace a0 := kB a0 hb; replace HB := bS HB hb; (try clear hb); (try clear hb2); (try clear hk); (try clear hi); have g2 := y5 a0))
   go_ret
   exact ⟨er, pB HB.out⟩
def Fj.j0 : Nat → Bool → Int → Int → Int → Int → ByteArray → Option (Bool)
 | 0, _, _, _, _, _, _ => none
 | k + 1, a5, a0, a3, a4, a1, a2 => if a5 = true then (some false) else (if a0 = 2 then (if a1 < 1 then (some false) else (if a0 = 3 then (some true) else (some (a2.toList == ([] : List UInt8))))) else (if a1 = 0 then (if a0 = 3 then (some true) else (some (a2.toList == ([] : List UInt8)))) else (some false)))
def Fj.f (k : Nat) (a0 : Int) (a1 : Int) (a2 : Int) (a3 : Int) (a4 : ByteArray) : Option (Bool) := if a0 < 0 then (Fj.j0 k true a0 a1 a2 a3 a4) else (if a0 > 5 then (Fj.j0 k true a0 a1 a2 a3 a4) else (if a1 < 0 then (Fj.j0 k true a0 a1 a2 a3 a4) else (if a1 > 8 then (Fj.j0 k true a0 a1 a2 a3 a4) else (if a2 < 0 then (Fj.j0 k true a0 a1 a2 a3 a4) else (if a2 > 1099511627776 then (Fj.j0 k true a0 a1 a2 a3 a4) else (if a3 > 1099511627776 then (Fj.j0 k true a0 a1 a2 a3 a4) else (Fj.j0 k (decide ((a4.size : Int) > 16)) a0 a1 a2 a3 a4)))))))
set_option maxHeartbeats 8000000 in
set_option maxRecDepth 100000 in
theorem Fj.calls (k : Nat) (a1 : Int) (a3 : Int) (a4 : Int) (a2 : Int) (a6 : ByteArray) (r : Bool) (w : World) (h : Fj.f k a1 a3 a4 a2 a6 = some r) :
  Calls Try.prog 77 #[.agg #[.int .i64 a1, .int .i64 a3, .int .i64 a4, .int .i64 a2, .string a6]] w fun e w' => e = .returned (.bool r) ∧ Below w.heap.size w w' := by
 have f8 := Try.underlying51
 have HB := am (Below.refl w.heap.size w)
 unfold Fj.f at h
 have H := h
 clear h
 have f1 := am H
 clear H
 go_enter Try.func77, Try.ntmps77
 go_upto_region 1 with (first | ((with_reducible refine gD 1 ?_); (try (refine gate_guard (by rfl) ?_; dsimp only)); refine bz 1 #[.int .i64 a1, .int .i64 a3, .int .i64 a4, .int .i64 a2, .string a6] 51 HB ?_; clear HB; intro d8 hg w3 hb a0 f7 HB; clear hb hg))
 (try simp only [Act.put, List.setIfInBounds_toArray, List.set_cons_zero, List.set_cons_succ])
 go_cut [41] (fun f9 wc => ∃ (kq : Nat) (a5 : Bool), f9 = .bool a5 ∧ Aside0 (Fj.j0 kq a5 a1 a3 a4 a2 a6 = some r) ∧ Aside0 (kq ≤ k) ∧ Aside0 (wc.heap[d8]? = some (.cells #[.int .i64 a1, .int .i64 a3, .int .i64 a4, .int .i64 a2, .string a6] 51 (0, 0))) ∧ Aside0 (Below w.heap.size w wc))
 case first =>
  have H := f1.out
  clear f1
  by_cases c4 : a1 < 0
  ·
   rw [if_pos c4] at H
   have a7 := decide_eq_true c4
   clear c4
   (first | rw [a7] | (simp only [i64_w, i32_w]; rw [a7]) | skip)
   have H' := am H
   clear H
   have f4 := y5 a0
   go_wp2
   go_meet
   case rel => exact ⟨_, (true), el, H', ol, ⟨pk a0.out⟩, ⟨pB HB.out⟩⟩
  rw [if_neg c4] at H
  have a7 := decide_eq_false c4
  clear c4
  (first | rw [a7] | (simp only [i64_w, i32_w]; rw [a7]) | skip)
  by_cases c6 : a1 > 5
  ·
   rw [if_pos c6] at H
   have f2 := decide_eq_true c6
   clear c6
   have H' := am H
   clear H
   have f5 := y5 a0
   go_wp2
   go_meet
   case rel => exact ⟨_, (true), el, H', ol, ⟨pk a0.out⟩, ⟨pB HB.out⟩⟩
  rw [if_neg c6] at H
  have f2 := decide_eq_false c6
  clear c6
  by_cases c8 : a3 < 0
  ·
   rw [if_pos c8] at H
   have f3 := decide_eq_true c8
   clear c8
   have H' := am H
   clear H
   have f6 := y5 a0
   go_wp2
   go_meet
   case rel => exact ⟨_, (true), el, H', ol, ⟨pk a0.out⟩, ⟨pB HB.out⟩⟩
  rw [if_neg c8] at H
  have f3 := decide_eq_false c8
  clear c8
  by_cases a8 : a3 > 8
  ·
   rw [if_pos a8] at H
   have b3 := decide_eq_true a8
   clear a8
   have H' := am H
   clear H
   have e0 := y5 a0
   go_wp2
   go_meet
   case rel => exact ⟨_, (true), el, H', ol, ⟨pk a0.out⟩, ⟨pB HB.out⟩⟩
  rw [if_neg a8] at H
  have b3 := decide_eq_false a8
  clear a8
  by_cases a9 : a4 < 0
  ·
   rw [if_pos a9] at H
   have b4 := decide_eq_true a9
   clear a9
   have H' := am H
   clear H
   have e1 := y5 a0
   go_wp2
   go_meet
   case rel => exact ⟨_, (true), el, H', ol, ⟨pk a0.out⟩, ⟨pB HB.out⟩⟩
  rw [if_neg a9] at H
  have b4 := decide_eq_false a9
  clear a9
  by_cases b0 : a4 > 1099511627776
  ·
   rw [if_pos b0] at H
   have b5 := decide_eq_true b0
   clear b0
   have H' := am H
   clear H
   have e2 := y5 a0
   go_wp2
   go_meet
   case rel => exact ⟨_, (true), el, H', ol, ⟨pk a0.out⟩, ⟨pB HB.out⟩⟩
  rw [if_neg b0] at H
  have b5 := decide_eq_false b0
  clear b0
  by_cases b1 : a2 > 1099511627776
  ·
   rw [if_pos b1] at H
   have b6 := decide_eq_true b1
   clear b1
   have H' := am H
   clear H
   have e3 := y5 a0
   go_wp2
   go_meet
   case rel => exact ⟨_, (true), el, H', ol, ⟨pk a0.out⟩, ⟨pB HB.out⟩⟩
  rw [if_neg b1] at H
  have b6 := decide_eq_false b1
  clear b1
  have H' := am H
  clear H
  have e4 := y5 a0
  go_wp2
  go_meet
  case rel => exact ⟨_, (decide ((a6.size : Int) > 16)), el, H', ol, ⟨pk a0.out⟩, ⟨pB HB.out⟩⟩
 case rest =>
  clear f1
  obtain ⟨kq, a5, rfl, HA, g0, a0, HB⟩ := hcut
  cases kq with
  | zero => exact absurd HA.out (by simp [Fj.j0])
  | succ g1 =>
   have H := HA.out
   clear HA
   simp only [Fj.j0] at H
   by_cases d9 : a5 = true
   ·
    subst d9
    rw [if_pos rfl] at H
    try dsimp only at H
    obtain rfl := Option.some.inj H
    go_wp2
    go_ret
    exact ⟨er, pB HB.out⟩
   replace d9 := Bool.eq_false_iff.mpr d9
   subst d9
   rw [if_neg (show ¬ (false = true) by decide)] at H
   try dsimp only at H
   by_cases b7 : a1 = 2
   ·
    rw [if_pos b7] at H
    obtain ⟨b8, b9⟩ := qt b7
    clear b7
    by_cases b2 : a2 < 1
    ·
     rw [if_pos b2] at H
     have c7 := decide_eq_true b2
     clear b2
     obtain rfl := Option.some.inj H
     have e5 := y5 a0
     go_wp2
     go_ret
     exact ⟨er, pB HB.out⟩
    rw [if_neg b2] at H
    have c7 := decide_eq_false b2
    clear b2
    by_cases c9 : a1 = 3
    ·
     rw [if_pos c9] at H
     obtain ⟨d0, d1⟩ := qt c9
     clear c9
     obtain rfl := Option.some.inj H
     have e6 := y5 a0
     go_wp2
     go_ret
     exact ⟨er, pB HB.out⟩
    rw [if_neg c9] at H
    obtain ⟨d0, d1⟩ := qf c9
    obtain rfl := Option.some.inj H
    have e7 := y5 a0
    go_wp2
    go_ret
    exact ⟨er, pB HB.out⟩
   rw [if_neg b7] at H
   obtain ⟨b8, b9⟩ := qf b7
   by_cases d2 : a2 = 0
   ·
    rw [if_pos d2] at H
    obtain ⟨d3, d4⟩ := qt d2
    clear d2
    by_cases d5 : a1 = 3
    ·
     rw [if_pos d5] at H
     obtain ⟨d6, d7⟩ := qt d5
     clear d5
     obtain rfl := Option.some.inj H
     have e8 := y5 a0
     go_wp2
     go_ret
     exact ⟨er, pB HB.out⟩
    rw [if_neg d5] at H
    obtain ⟨d6, d7⟩ := qf d5
    obtain rfl := Option.some.inj H
    have e9 := y5 a0
    go_wp2
    go_ret
    exact ⟨er, pB HB.out⟩
   rw [if_neg d2] at H
   obtain ⟨d3, d4⟩ := qf d2
   obtain rfl := Option.some.inj H
   have f0 := y5 a0
   go_wp2
   go_ret
   exact ⟨er, pB HB.out⟩
mutual
def Fd.j0 : Nat → Bool → List Int → Int → Int → Int → Int → Int → Int → Int → ByteArray → Option (Bool)
 | 0, _, _, _, _, _, _, _, _, _, _ => none
 | k + 1, a9, a3, a4, a5, a6, a0, a1, a2, a7, a8 => if a9 = true then (some false) else (if a0 = 0 then (if a1 = 0 then (Fd.j1 k (a2 != 0) a3 a4 a5 a6 a0 a1 a2 a7 a8) else (Fd.j1 k true a3 a4 a5 a6 a0 a1 a2 a7 a8)) else (Fd.j1 k false a3 a4 a5 a6 a0 a1 a2 a7 a8))
def Fd.j1 : Nat → Bool → List Int → Int → Int → Int → Int → Int → Int → Int → ByteArray → Option (Bool)
 | 0, _, _, _, _, _, _, _, _, _, _ => none
 | k + 1, a9, a3, a0, a4, a5, a1, a2, a6, a7, a8 => if a9 = true then (some false) else (if a1 = 1 then (Fd.j2 k (decide (a2 ≥ a0)) a3 a0 a4 a5 a1 a2 a6 a7 a8) else (Fd.j2 k false a3 a0 a4 a5 a1 a2 a6 a7 a8))
def Fd.j2 : Nat → Bool → List Int → Int → Int → Int → Int → Int → Int → Int → ByteArray → Option (Bool)
 | 0, _, _, _, _, _, _, _, _, _, _ => none
 | k + 1, a9, a2, a3, a4, a5, a0, a1, a6, a7, a8 => if a9 = true then (some false) else (if a0 = 2 then (Fd.j3 k (decide (a1 < 1)) a2 a3 a4 a5 a0 a1 a6 a7 a8) else (if a0 = 3 then (Fd.j3 k (decide (a1 < 1)) a2 a3 a4 a5 a0 a1 a6 a7 a8) else (Fd.j3 k false a2 a3 a4 a5 a0 a1 a6 a7 a8)))
def Fd.j3 : Nat → Bool → List Int → Int → Int → Int → Int → Int → Int → Int → ByteArray → Option (Bool)
 | 0, _, _, _, _, _, _, _, _, _, _ => none
 | k + 1, a9, a4, a2, a5, a6, a0, a3, a1, a7, a8 => if a9 = true then (some false) else (if a0 = 4 then (if a3 = a2 then (if a1 = 0 then (some true) else (if a0 = 1 then (some true) else (some (a0 == 2)))) else (some false)) else (if a1 = 0 then (some true) else (if a0 = 1 then (some true) else (some (a0 == 2)))))
end
def Fd.f (k : Nat) (a8 : List Int) (a1 : Int) (a6 : Int) (a7 : Int) (a2 : Int) (a0 : Int) (a3 : Int) (a4 : Int) (a5 : ByteArray) : Option (Bool) := (Fj.f k a2 a0 a3 a4 a5).bind fun a9 => (if a9 = true then (Fd.j0 k (decide (a0 > a1)) a8 a1 a6 a7 a2 a0 a3 a4 a5) else (Fd.j0 k true a8 a1 a6 a7 a2 a0 a3 a4 a5))
set_option maxHeartbeats 8000000 in
set_option maxRecDepth 100000 in
theorem Fd.calls (k : Nat) (b8 : Option Addr) (b9 : Nat) (a9 : List Int) (a8 : Int) (b0 : Int) (b1 : Int) (a3 : Int) (a4 : Int) (a5 : Int) (a6 : Int) (a7 : ByteArray) (r : Bool) (w : World) (d3 : Kd.C (Kd.int .i64) w b8 a9.length a9) (d2 : a9.length ≤ b9) (h : Fd.f k a9 a8 b0 b1 a3 a4 a5 a6 a7 = some r) :
  Calls Try.prog 40 #[.agg #[.slice b8 a9.length b9, .int .i64 a8, .int .i64 b0, .int .i64 b1], .agg #[.int .i64 a3, .int .i64 a4, .int .i64 a5, .int .i64 a6, .string a7]] w fun e w' => e = .returned (.bool r) ∧ Below w.heap.size w w' := by
 have m9 := Try.underlying49
 have n0 := Try.underlying51
 have l0 := am d3
 have k9 := am d2
 clear d3 d2
 have HB := am (Below.refl w.heap.size w)
 unfold Fd.f at h
 have H := h
 clear h
 have k1 := am H
 clear H
 go_enter Try.func40, Try.ntmps40
 go_upto_region 1 with (first | ((with_reducible refine gD 2 ?_); refine bz 2 #[.slice b8 a9.length b9, .int .i64 a8, .int .i64 b0, .int .i64 b1] 49 HB ?_; clear HB; intro c6 hg w4 hb a2 k7 HB; clear hb hg) | ((with_reducible refine gD 3 ?_); refine bz 3 #[.int .i64 a3, .int .i64 a4, .int .i64 a5, .int .i64 a6, .string a7] 51 HB ?_; clear HB; intro c8 hg w5 hb a1 k8 HB; have d9 := nL hg a2; have a0 := nG hg a2; replace a2 := kB a2 hb; clear hb hg))
 (try simp only [Act.put, List.setIfInBounds_toArray, List.set_cons_zero, List.set_cons_succ])
 go_cut [14] (fun n3 wc => ∃ (kq : Nat) (c9 : Bool), n3 = .bool c9 ∧ Aside0 (Fd.j0 kq c9 a9 a8 b0 b1 a3 a4 a5 a6 a7 = some r) ∧ Aside0 (kq ≤ k) ∧ Aside0 (wc.heap[c6]? = some (.cells #[(.slice b8 a9.length b9), .int .i64 a8, .int .i64 b0, .int .i64 b1] 49 (0, 0))) ∧ Aside0 (wc.heap[c8]? = some (.cells #[.int .i64 a3, .int .i64 a4, .int .i64 a5, .int .i64 a6, .string a7] 51 (0, 0))) ∧ Aside0 (Below w.heap.size w wc))
 case first =>
  have H := k1.out
  clear k1
  replace H := Option.bind_eq_some_iff.mp H
  obtain ⟨k5, k6, H⟩ := H
  try dsimp only at H
  have A6 := am k6
  clear k6
  by_cases c7 : k5 = true
  ·
   subst c7
   rw [if_pos rfl] at H
   try dsimp only at H
   have H' := am H
   clear H
   have m8 := nn a0
   have k2 := y5 a1
   go_wp2_with (first | ((with_reducible refine gC 77 ?_); refine gL 6 Try.func77 #[.agg #[.int .i64 a3, .int .i64 a4, .int .i64 a5, .int .i64 a6, .string a7]] ?_; (with_reducible refine (Fj.calls k a3 a4 a5 a6 a7 true _ A6.out).mono ?_); rintro e n7 ⟨rfl, hb⟩; refine ⟨_, rfl, ?_⟩; replace a2 := kB a2 hb; replace a1 := kB a1 hb; replace HB := bS HB hb; (try clear hb); (try clear hb2); (try clear hk); (try clear hi); have h4 := y5 a1; have h5 := y4 a2))
   go_meet
   case rel => exact ⟨_, (decide (a4 > a8)), el, H', ol, ⟨pk a2.out⟩, ⟨pk a1.out⟩, ⟨pB HB.out⟩⟩
  replace c7 := Bool.eq_false_iff.mpr c7
  subst c7
  rw [if_neg (show ¬ (false = true) by decide)] at H
  try dsimp only at H
  have H' := am H
  clear H
  have l1 := nn a0
  have h6 := y5 a1
  go_wp2_with (first | ((with_reducible refine gC 77 ?_); refine gL 6 Try.func77 #[.agg #[.int .i64 a3, .int .i64 a4, .int .i64 a5, .int .i64 a6, .string a7]] ?_; (with_reducible refine (Fj.calls k a3 a4 a5 a6 a7 false _ A6.out).mono ?_); rintro e n8 ⟨rfl, hb⟩; refine ⟨_, rfl, ?_⟩; replace a2 := kB a2 hb; replace a1 := kB a1 hb; replace HB := bS HB hb; (try clear hb); (try clear hb2); (try clear hk); (try clear hi)))
  go_meet
  case rel => exact ⟨_, (true), el, H', ol, ⟨pk a2.out⟩, ⟨pk a1.out⟩, ⟨pB HB.out⟩⟩
 case rest =>
  clear k1
  obtain ⟨kq, c9, rfl, HA, d1, a2, a1, HB⟩ := hcut
  cases kq with
  | zero => exact absurd HA.out (by simp [Fd.j0])
  | succ n1 =>
   have H := HA.out
   clear HA
   simp only [Fd.j0] at H
   by_cases d8 : c9 = true
   ·
    subst d8
    rw [if_pos rfl] at H
    try dsimp only at H
    obtain rfl := Option.some.inj H
    go_wp2
    go_ret
    exact ⟨er, pB HB.out⟩
   replace d8 := Bool.eq_false_iff.mpr d8
   subst d8
   rw [if_neg (show ¬ (false = true) by decide)] at H
   try dsimp only at H
   have d4 := am H
   clear H
   go_upto_region 3 with (fail)
   go_cut [27] (fun n4 wc => ∃ (kq : Nat) (b2 : Bool), n4 = .bool b2 ∧ Aside0 (Fd.j1 kq b2 a9 a8 b0 b1 a3 a4 a5 a6 a7 = some r) ∧ Aside0 (kq ≤ n1) ∧ Aside0 (wc.heap[c6]? = some (.cells #[(.slice b8 a9.length b9), .int .i64 a8, .int .i64 b0, .int .i64 b1] 49 (0, 0))) ∧ Aside0 (wc.heap[c8]? = some (.cells #[.int .i64 a3, .int .i64 a4, .int .i64 a5, .int .i64 a6, .string a7] 51 (0, 0))) ∧ Aside0 (Below w.heap.size w wc))
   case first =>
    have H := d4.out
    clear d4
    by_cases e1 : a3 = 0
    ·
     rw [if_pos e1] at H
     obtain ⟨b5, e2⟩ := qt e1
     clear e1
     (first | rw [b5] | (simp only [i64_w, i32_w]; rw [b5]) | skip)
     by_cases e3 : a4 = 0
     ·
      rw [if_pos e3] at H
      obtain ⟨e4, e5⟩ := qt e3
      clear e3
      have H' := am H
      clear H
      have l2 := nn a0
      have h7 := y5 a1
      go_wp2
      go_meet
      case rel => exact ⟨_, ((a5 != 0)), el, H', ⟨by have := d1.out; first | omega | exact Nat.le_refl _⟩, ⟨pk a2.out⟩, ⟨pk a1.out⟩, ⟨pB HB.out⟩⟩
     rw [if_neg e3] at H
     obtain ⟨e4, e5⟩ := qf e3
     have H' := am H
     clear H
     have l3 := nn a0
     have h8 := y5 a1
     go_wp2
     go_meet
     case rel => exact ⟨_, (true), el, H', ⟨by have := d1.out; first | omega | exact Nat.le_refl _⟩, ⟨pk a2.out⟩, ⟨pk a1.out⟩, ⟨pB HB.out⟩⟩
    rw [if_neg e1] at H
    obtain ⟨b5, e2⟩ := qf e1
    (first | rw [b5] | (simp only [i64_w, i32_w]; rw [b5]) | skip)
    have H' := am H
    clear H
    have l4 := nn a0
    have h9 := y5 a1
    go_wp2
    go_meet
    case rel => exact ⟨_, (false), el, H', ⟨by have := d1.out; first | omega | exact Nat.le_refl _⟩, ⟨pk a2.out⟩, ⟨pk a1.out⟩, ⟨pB HB.out⟩⟩
   case rest =>
    clear d4
    try clear d8
    obtain ⟨kq, b2, rfl, HA, d0, a2, a1, HB⟩ := hcut
    cases kq with
    | zero => exact absurd HA.out (by simp [Fd.j1])
    | succ k3 =>
     have H := HA.out
     clear HA
     simp only [Fd.j1] at H
     by_cases e0 : b2 = true
     ·
      subst e0
      rw [if_pos rfl] at H
      try dsimp only at H
      obtain rfl := Option.some.inj H
      go_wp2
      go_ret
      exact ⟨er, pB HB.out⟩
     replace e0 := Bool.eq_false_iff.mpr e0
     subst e0
     rw [if_neg (show ¬ (false = true) by decide)] at H
     try dsimp only at H
     have d5 := am H
     clear H
     go_upto_region 5 with (fail)
     go_cut [37] (fun n5 wc => ∃ (kq : Nat) (b3 : Bool), n5 = .bool b3 ∧ Aside0 (Fd.j2 kq b3 a9 a8 b0 b1 a3 a4 a5 a6 a7 = some r) ∧ Aside0 (kq ≤ k3) ∧ Aside0 (wc.heap[c6]? = some (.cells #[(.slice b8 a9.length b9), .int .i64 a8, .int .i64 b0, .int .i64 b1] 49 (0, 0))) ∧ Aside0 (wc.heap[c8]? = some (.cells #[.int .i64 a3, .int .i64 a4, .int .i64 a5, .int .i64 a6, .string a7] 51 (0, 0))) ∧ Aside0 (Below w.heap.size w wc))
     case first =>
      have H := d5.out
      clear d5
      by_cases e6 : a3 = 1
      ·
       rw [if_pos e6] at H
       obtain ⟨b6, e7⟩ := qt e6
       clear e6
       (first | rw [b6] | (simp only [i64_w, i32_w]; rw [b6]) | skip)
       have H' := am H
       clear H
       have l5 := nn a0
       have i0 := y5 a1
       have i1 := y4 a2
       go_wp2
       go_meet
       case rel => exact ⟨_, (decide (a4 ≥ a8)), el, H', ⟨by have := d1.out; have := d0.out; first | omega | exact Nat.le_refl _⟩, ⟨pk a2.out⟩, ⟨pk a1.out⟩, ⟨pB HB.out⟩⟩
      rw [if_neg e6] at H
      obtain ⟨b6, e7⟩ := qf e6
      (first | rw [b6] | (simp only [i64_w, i32_w]; rw [b6]) | skip)
      have H' := am H
      clear H
      have l6 := nn a0
      have i2 := y5 a1
      go_wp2
      go_meet
      case rel => exact ⟨_, (false), el, H', ⟨by have := d1.out; have := d0.out; first | omega | exact Nat.le_refl _⟩, ⟨pk a2.out⟩, ⟨pk a1.out⟩, ⟨pB HB.out⟩⟩
     case rest =>
      clear d5
      try clear d8
      try clear e0
      obtain ⟨kq, b3, rfl, HA, d7, a2, a1, HB⟩ := hcut
      cases kq with
      | zero => exact absurd HA.out (by simp [Fd.j2])
      | succ k4 =>
       have H := HA.out
       clear HA
       simp only [Fd.j2] at H
       by_cases e8 : b3 = true
       ·
        subst e8
        rw [if_pos rfl] at H
        try dsimp only at H
        obtain rfl := Option.some.inj H
        go_wp2
        go_ret
        exact ⟨er, pB HB.out⟩
       replace e8 := Bool.eq_false_iff.mpr e8
       subst e8
       rw [if_neg (show ¬ (false = true) by decide)] at H
       try dsimp only at H
       have d6 := am H
       clear H
       go_upto_region 7 with (fail)
       go_cut [50] (fun n6 wc => ∃ (kq : Nat) (b4 : Bool), n6 = .bool b4 ∧ Aside0 (Fd.j3 kq b4 a9 a8 b0 b1 a3 a4 a5 a6 a7 = some r) ∧ Aside0 (kq ≤ k4) ∧ Aside0 (wc.heap[c6]? = some (.cells #[(.slice b8 a9.length b9), .int .i64 a8, .int .i64 b0, .int .i64 b1] 49 (0, 0))) ∧ Aside0 (wc.heap[c8]? = some (.cells #[.int .i64 a3, .int .i64 a4, .int .i64 a5, .int .i64 a6, .string a7] 51 (0, 0))) ∧ Aside0 (Below w.heap.size w wc))
       case first =>
        have H := d6.out
        clear d6
        by_cases e9 : a3 = 2
        ·
         rw [if_pos e9] at H
         obtain ⟨b7, f0⟩ := qt e9
         clear e9
         (first | rw [b7] | (simp only [i64_w, i32_w]; rw [b7]) | skip)
         have H' := am H
         clear H
         have l7 := nn a0
         have i3 := y5 a1
         go_wp2
         go_meet
         case rel => exact ⟨_, (decide (a4 < 1)), el, H', ⟨by have := d1.out; have := d0.out; have := d7.out; first | omega | exact Nat.le_refl _⟩, ⟨pk a2.out⟩, ⟨pk a1.out⟩, ⟨pB HB.out⟩⟩
        rw [if_neg e9] at H
        obtain ⟨b7, f0⟩ := qf e9
        (first | rw [b7] | (simp only [i64_w, i32_w]; rw [b7]) | skip)
        by_cases f1 : a3 = 3
        ·
         rw [if_pos f1] at H
         obtain ⟨f2, f3⟩ := qt f1
         clear f1
         have H' := am H
         clear H
         have l8 := nn a0
         have i4 := y5 a1
         go_wp2
         go_meet
         case rel => exact ⟨_, (decide (a4 < 1)), el, H', ⟨by have := d1.out; have := d0.out; have := d7.out; first | omega | exact Nat.le_refl _⟩, ⟨pk a2.out⟩, ⟨pk a1.out⟩, ⟨pB HB.out⟩⟩
        rw [if_neg f1] at H
        obtain ⟨f2, f3⟩ := qf f1
        have H' := am H
        clear H
        have l9 := nn a0
        have i5 := y5 a1
        go_wp2
        go_meet
        case rel => exact ⟨_, (false), el, H', ⟨by have := d1.out; have := d0.out; have := d7.out; first | omega | exact Nat.le_refl _⟩, ⟨pk a2.out⟩, ⟨pk a1.out⟩, ⟨pB HB.out⟩⟩
       case rest =>
        clear d6
        try clear d8
        try clear e0
        try clear e8
        obtain ⟨kq, b4, rfl, HA, m7, a2, a1, HB⟩ := hcut
        cases kq with
        | zero => exact absurd HA.out (by simp [Fd.j3])
        | succ n2 =>
         have H := HA.out
         clear HA
         simp only [Fd.j3] at H
         by_cases h3 : b4 = true
         ·
          subst h3
          rw [if_pos rfl] at H
          try dsimp only at H
          obtain rfl := Option.some.inj H
          go_wp2
          go_ret
          exact ⟨er, pB HB.out⟩
         replace h3 := Bool.eq_false_iff.mpr h3
         subst h3
         rw [if_neg (show ¬ (false = true) by decide)] at H
         try dsimp only at H
         by_cases f4 : a3 = 4
         ·
          rw [if_pos f4] at H
          obtain ⟨f5, f6⟩ := qt f4
          clear f4
          by_cases f7 : a4 = a8
          ·
           rw [if_pos f7] at H
           obtain ⟨f8, f9⟩ := qt f7
           clear f7
           by_cases g0 : a5 = 0
           ·
            rw [if_pos g0] at H
            obtain ⟨g1, g2⟩ := qt g0
            clear g0
            obtain rfl := Option.some.inj H
            have m0 := nn a0
            have i6 := y5 a1
            have i7 := y4 a2
            go_wp2
            go_ret
            exact ⟨er, pB HB.out⟩
           rw [if_neg g0] at H
           obtain ⟨g1, g2⟩ := qf g0
           by_cases g3 : a3 = 1
           ·
            rw [if_pos g3] at H
            obtain ⟨g4, g5⟩ := qt g3
            clear g3
            obtain rfl := Option.some.inj H
            have m1 := nn a0
            have i8 := y5 a1
            have i9 := y4 a2
            go_wp2
            go_ret
            exact ⟨er, pB HB.out⟩
           rw [if_neg g3] at H
           obtain ⟨g4, g5⟩ := qf g3
           obtain rfl := Option.some.inj H
           have m2 := nn a0
           have j4 := y5 a1
           have j5 := y4 a2
           go_wp2
           go_ret
           exact ⟨er, pB HB.out⟩
          rw [if_neg f7] at H
          obtain ⟨f8, f9⟩ := qf f7
          obtain rfl := Option.some.inj H
          have m3 := nn a0
          have j6 := y5 a1
          have j7 := y4 a2
          go_wp2
          go_ret
          exact ⟨er, pB HB.out⟩
         rw [if_neg f4] at H
         obtain ⟨f5, f6⟩ := qf f4
         by_cases g6 : a5 = 0
         ·
          rw [if_pos g6] at H
          obtain ⟨g7, g8⟩ := qt g6
          clear g6
          obtain rfl := Option.some.inj H
          have m4 := nn a0
          have j8 := y5 a1
          go_wp2
          go_ret
          exact ⟨er, pB HB.out⟩
         rw [if_neg g6] at H
         obtain ⟨g7, g8⟩ := qf g6
         by_cases g9 : a3 = 1
         ·
          rw [if_pos g9] at H
          obtain ⟨h0, h2⟩ := qt g9
          clear g9
          obtain rfl := Option.some.inj H
          have m5 := nn a0
          have j9 := y5 a1
          go_wp2
          go_ret
          exact ⟨er, pB HB.out⟩
         rw [if_neg g9] at H
         obtain ⟨h0, h2⟩ := qf g9
         obtain rfl := Option.some.inj H
         have m6 := nn a0
         have k0 := y5 a1
         go_wp2
         go_ret
         exact ⟨er, pB HB.out⟩
end Go.Proofs.Ytabmkighhmchmaa.X
