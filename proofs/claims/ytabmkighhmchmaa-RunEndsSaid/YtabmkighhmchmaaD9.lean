/- Words and walks for the law RunEnds, joined and made small by a program of mine. -/
import Derived.Test.YtabmkighhmchmaaD2
import Derived.Test.YtabmkighhmchmaaD5
import Derived.Test.YtabmkighhmchmaaD8
import Derived.Test.YtabmkighhmchmaaD6
import Derived.Test.YtabmkighhmchmaaD7
import Derived.Test.YtabmkighhmchmaaD3
import Derived.Test.YtabmkighhmchmaaD4
import Derived.OpenShut
import Derived.Lib.Strings
namespace Go.Proofs.Ytabmkighhmchmaa.X
open Go.RowKit Go.Proofs.YtabmkighhmchmaaW.PrintWords Go.Proofs.YtabmkighhmchmaaW.PrintLast Go.Proofs.YtabmkighhmchmaaW.PrintMore Go.Proofs.YtabmkighhmchmaaW.Sq
attribute [local go_sem] max2_int min2_int max_two min_two max_three min_three max_four min_four
set_option linter.unusedVariables false
set_option linter.unusedSimpArgs false
def Fo.f (k : Nat)  : Option (Bool) := (Fz.f k (⟨#[107]⟩ : ByteArray) (⟨#[97]⟩ : ByteArray) (([(⟨([] : List Int), 1, 0, 1⟩ : S49)] : List (S49)))).bind fun a0 => (if a0.2.2.2.2.2 = 0 then (if (a0.2.2.2.2.1.length : Int) = 1 then (if 0 < (a0.2.2.2.2.1.length : Int) then (if ((rd_T51 a0.2.2.2.2.1 0).f0) = 1 then ((Ga.f k a0.1 a0.2.1 a0.2.2.1 a0.2.2.2.1 a0.2.2.2.2.1).bind fun a1 => (some a1)) else (some false)) else (none)) else (some false)) else (some false))
set_option maxHeartbeats 8000000 in
set_option maxRecDepth 100000 in
theorem Fo.calls (k : Nat)  (r : Bool) (w : World) (h : Fo.f k  = some r) :
  Calls Try.prog 16 #[] w fun e w' => e = .returned (.bool r) ∧ Below w.heap.size w w' := by
 have k3 := Try.underlying49
 have k1 := Try.underlying24
 have k2 := Try.underlying27
 have HB := am (Below.refl w.heap.size w)
 unfold Fo.f at h
 have H := h
 clear h
 obtain ⟨y241, hy241⟩ : ∃ y_ : List (S49), y_ = (([(⟨([] : List Int), 1, 0, 1⟩ : S49)] : List (S49))) := ⟨_, rfl⟩
 replace H : ((Fz.f k (⟨#[107]⟩ : ByteArray) (⟨#[97]⟩ : ByteArray) y241).bind fun c7 => (if c7.2.2.2.2.2 = 0 then (if (c7.2.2.2.2.1.length : Int) = 1 then (if 0 < (c7.2.2.2.2.1.length : Int) then (if ((rd_T51 c7.2.2.2.2.1 0).f0) = 1 then ((Ga.f k c7.1 c7.2.1 c7.2.2.1 c7.2.2.2.1 c7.2.2.2.2.1).bind fun e8 => (some e8)) else (some false)) else (none)) else (some false)) else (some false))) = some r := by first | (rw [hy241]; with_reducible exact H) | (have g2 := (Option.bind_some _ _).symm.trans H; rw [hy241]; with_reducible exact g2) | (have g2 := (Option.bind_some _ _).symm.trans H; with_reducible exact g2) | with_reducible exact H | (rw [hy241]; exact H) | exact H
 have c9 := am hy241
 clear hy241
 replace H := Option.bind_eq_some_iff.mp H
 obtain ⟨⟨b6, b7, b8, b9, b5, e5⟩, i4, H⟩ := H
 try dsimp only at H
 have A1 := am i4
 clear i4
 by_cases c2 : e5 = 0
 ·
  rw [if_pos c2] at H
  obtain ⟨g3, g4⟩ := qt c2
  clear c2
  by_cases c3 : (b5.length : Int) = 1
  ·
   rw [if_pos c3] at H
   obtain ⟨g5, g6⟩ := qt c3
   clear c3
   by_cases c4 : 0 < (b5.length : Int)
   ·
    rw [if_pos c4] at H
    have j3 := decide_eq_true c4
    have j4 : decide (0 < b5.length) = true := decide_eq_true (by omega)
    clear c4
    by_cases c5 : ((rd_T51 b5 0).f0) = 1
    ·
     rw [if_pos c5] at H
     obtain ⟨g7, g8⟩ := qt c5
     clear c5
     replace H := Option.bind_eq_some_iff.mp H
     obtain ⟨e8, i5, H⟩ := H
     try dsimp only at H
     have A6 := am i5
     clear i5
     obtain rfl := Option.some.inj H
     go_enter Try.func16, Try.ntmps16
     go_wp2_with (first | ((with_reducible refine gD 5 ?_); (try (refine gate_guard (by rfl) ?_; dsimp only)); refine Kd.S_lit k49 _ 49 ?hg (N := 5) ?hd (xs := ([(⟨([] : List Int), 1, 0, 1⟩ : S49)] : List (S49))) (inner := [.slice none 0 0, .int .i64 1, .int .i64 0, .int .i64 1]) (ok := fun _ => True) (okp := fun _ => True) ?hr ?hp (fun _ hk => hk) trivial (Below.refl _ _) (Nat.le_refl _) (by simp) ?_; (case hd => rfl); (case hg => rfl); (case hr => first | (go_simp; done) | (go_simp; rfl)); (case hp => exact (Reps.c4 (show Kd.M k49 _ _ _ (⟨([] : List Int), 1, 0, 1⟩ : S49) [.slice none 0 0, .int .i64 1, .int .i64 0, .int .i64 1] from (k49_mkM _ _ _ (⟨([] : List Int), 1, 0, 1⟩ : S49) (Kd.R_nil _ _ _ _ _))) (Reps.none _ _))); intro e9 w7 f3 hb e7 d0; clear e7 d0; (first | rw [← c9.out] at f3 | (simp only [Int.reduceToNat] at f3; rw [← c9.out] at f3)); have a7 := am (Kd.S_lower f3 (below_size (pB HB.out))); replace HB := bS HB hb; clear hb f3; obtain ⟨j2, j9, k0⟩ := Kd.S_slice a7.out; subst k0) | ((with_reducible refine gC 10 ?_); refine gL 7 Try.func10 #[.string (⟨#[107]⟩ : ByteArray), .agg #[.string (⟨#[97]⟩ : ByteArray), .slice j2 y241.length j9]] ?_; (with_reducible refine (Fz.calls k (⟨#[107]⟩ : ByteArray) (⟨#[97]⟩ : ByteArray) (fun k_ => True) _ _ y241 b6 b7 b8 b9 b5 e5 _ ?side1 A1.out).mono ?_); (case side1 => exact Kd.S_V (a7.out)); rintro e k4 ⟨f1, f2, rfl, e0, e1, hb⟩; refine ⟨_, rfl, ?_⟩; replace a7 := am (Kd.S_below (pS a7.out) hb); have b4 := am (Kd.V_lower (Kd.V_mono (ok' := fun k_ => True) e0 (fun k_ c8 => trivial)) (below_size (pB HB.out))); have a6 := am (Kd.V_lower (Kd.V_mono (ok' := fun k_ => True) e1 (fun k_ c8 => trivial)) (below_size (pB HB.out))); replace HB := bS HB hb; (try clear hb); (try clear hb2); (try clear hk); (try clear hi); (try clear e0); (try clear e1)) | ((with_reducible refine gD 1 ?_); (try (refine gate_guard (by rfl) ?_; dsimp only)); refine bz 1 #[.string (⟨#[]⟩ : ByteArray), .string (⟨#[]⟩ : ByteArray), .slice none 0 0, .int .i64 0, .slice none 0 0] 27 HB ?_; clear HB; intro a0 hg k5 hb c6 d7 HB; replace a7 := am (Kd.S_below (pS a7.out) hb); replace b4 := vE b4 hg hb; replace a6 := vE a6 hg hb; clear hb hg; have f5 := y5 c6; obtain ⟨d3, d4, h3⟩ := Kd.V_slice b4.out; subst h3; obtain ⟨i6, d5, h4⟩ := Kd.V_slice a6.out; subst h4; have d1 : 0 ≤ (0 : Int) := (by omega); have d2 : 0 < (b5.length : Int) := od; obtain ⟨b3, e6, a1, a2, a3, a4, a5⟩ := at_T51 (Kd.V_reads' a6.out).2.2 0 d1 d2; cases e6; have f4 : (0 < b5.length) = True := eq_true (by omega); (try rw [show ((0 : Int)).toNat = 0 from rfl] at a1); (try rw [show 0 * 5 = 0 from rfl] at a1); (try rw [Addr.add_zero'] at a1); (try rw [show ((0 : Int)).toNat = 0 from rfl] at a2); (try rw [show 0 * 5 = 0 from rfl] at a2); (try rw [Addr.add_zero'] at a2); (try rw [show ((0 : Int)).toNat = 0 from rfl] at a3); (try rw [show 0 * 5 = 0 from rfl] at a3); (try rw [Addr.add_zero'] at a3); (try rw [show ((0 : Int)).toNat = 0 from rfl] at a4); (try rw [show 0 * 5 = 0 from rfl] at a4); (try rw [Addr.add_zero'] at a4); (try rw [show ((0 : Int)).toNat = 0 from rfl] at a5); (try rw [show 0 * 5 = 0 from rfl] at a5); (try rw [Addr.add_zero'] at a5); have a8 : b3.block ≠ a0 := vaw a6.out (fun _ c8 => c8.2) (hn := by omega); have a9 : b3.block ≠ a0 := vaw a6.out (fun _ c8 => c8.2) (hn := by omega); have b0 : b3.block ≠ a0 := vaw a6.out (fun _ c8 => c8.2) (hn := by omega); have b1 : b3.block ≠ a0 := vaw a6.out (fun _ c8 => c8.2) (hn := by omega); have b2 : b3.block ≠ a0 := vaw a6.out (fun _ c8 => c8.2) (hn := by omega); replace a1 := (cell_far (p := ⟨a0, 0, none⟩) (nb a8) (.string b6)).trans a1; replace a2 := (cell_far (p := ⟨a0, 0, none⟩) (nb a8) (.string b6)).trans a2; replace a3 := (cell_far (p := ⟨a0, 0, none⟩) (nb a8) (.string b6)).trans a3; replace a4 := (cell_far (p := ⟨a0, 0, none⟩) (nb a8) (.string b6)).trans a4; replace a5 := (cell_far (p := ⟨a0, 0, none⟩) (nb a8) (.string b6)).trans a5; replace a1 := (cell_far (p := ⟨a0, 1, none⟩) (nb a9) (.string b7)).trans a1; replace a2 := (cell_far (p := ⟨a0, 1, none⟩) (nb a9) (.string b7)).trans a2; replace a3 := (cell_far (p := ⟨a0, 1, none⟩) (nb a9) (.string b7)).trans a3; replace a4 := (cell_far (p := ⟨a0, 1, none⟩) (nb a9) (.string b7)).trans a4; replace a5 := (cell_far (p := ⟨a0, 1, none⟩) (nb a9) (.string b7)).trans a5; replace a1 := (cell_far (p := ⟨a0, 2, none⟩) (nb b0) (.slice d3 b8.length d4)).trans a1; replace a2 := (cell_far (p := ⟨a0, 2, none⟩) (nb b0) (.slice d3 b8.length d4)).trans a2; replace a3 := (cell_far (p := ⟨a0, 2, none⟩) (nb b0) (.slice d3 b8.length d4)).trans a3; replace a4 := (cell_far (p := ⟨a0, 2, none⟩) (nb b0) (.slice d3 b8.length d4)).trans a4; replace a5 := (cell_far (p := ⟨a0, 2, none⟩) (nb b0) (.slice d3 b8.length d4)).trans a5; replace a1 := (cell_far (p := ⟨a0, 3, none⟩) (nb b1) (.int .i64 b9)).trans a1; replace a2 := (cell_far (p := ⟨a0, 3, none⟩) (nb b1) (.int .i64 b9)).trans a2; replace a3 := (cell_far (p := ⟨a0, 3, none⟩) (nb b1) (.int .i64 b9)).trans a3; replace a4 := (cell_far (p := ⟨a0, 3, none⟩) (nb b1) (.int .i64 b9)).trans a4; replace a5 := (cell_far (p := ⟨a0, 3, none⟩) (nb b1) (.int .i64 b9)).trans a5; replace a1 := (cell_far (p := ⟨a0, 4, none⟩) (nb b2) (.slice (some b3) b5.length d5)).trans a1; replace a2 := (cell_far (p := ⟨a0, 4, none⟩) (nb b2) (.slice (some b3) b5.length d5)).trans a2; replace a3 := (cell_far (p := ⟨a0, 4, none⟩) (nb b2) (.slice (some b3) b5.length d5)).trans a3; replace a4 := (cell_far (p := ⟨a0, 4, none⟩) (nb b2) (.slice (some b3) b5.length d5)).trans a4; replace a5 := (cell_far (p := ⟨a0, 4, none⟩) (nb b2) (.slice (some b3) b5.length d5)).trans a5; clear a8 a9 b0 b1 b2; replace d1 := eq_true d1; replace d2 := eq_true d2) | (go_at_call 17; (with_reducible refine (Ga.calls k b6 b7 _ _ b8 b9 _ _ b5 e8 _ ?side1 ?side2 ?side3 ?side4 A6.out).mono ?_); (case side1 => exact (Kd.V_reads' (pV b4.out)).2.2); (case side2 => exact (Kd.V_reads' b4.out).2.1); (case side3 => exact (Kd.V_reads' (pV a6.out)).2.2); (case side4 => exact (Kd.V_reads' a6.out).2.1); rintro e k6 ⟨rfl, hb⟩; replace a7 := am (Kd.S_below ((Kd.S_mono (pS (Kd.S_types a7.out c6.out (by decide))) (fun _ h_ => h_.1))) hb); replace b4 := vB b4 hb; replace a6 := vB a6 hb; replace c6 := am (blk_below (g := a0) (o := .cells #[.string b6, .string b7, .slice d3 b8.length d4, .int .i64 b9, .slice (some b3) b5.length d5] 27 (0, 0)) (pP c6.out) hb); replace HB := bS HB hb; (try clear hb); (try clear hb2); (try clear hk); (try clear hi)))
     go_ret
     exact ⟨er, pB HB.out⟩
    rw [if_neg c5] at H
    obtain ⟨g7, g8⟩ := qf c5
    clear c5
    obtain rfl := Option.some.inj H
    go_enter Try.func16, Try.ntmps16
    go_wp2_with (first | ((with_reducible refine gD 5 ?_); (try (refine gate_guard (by rfl) ?_; dsimp only)); refine Kd.S_lit k49 _ 49 ?hg (N := 5) ?hd (xs := ([(⟨([] : List Int), 1, 0, 1⟩ : S49)] : List (S49))) (inner := [.slice none 0 0, .int .i64 1, .int .i64 0, .int .i64 1]) (ok := fun _ => True) (okp := fun _ => True) ?hr ?hp (fun _ hk => hk) trivial (Below.refl _ _) (Nat.le_refl _) (by simp) ?_; (case hd => rfl); (case hg => rfl); (case hr => first | (go_simp; done) | (go_simp; rfl)); (case hp => exact (Reps.c4 (show Kd.M k49 _ _ _ (⟨([] : List Int), 1, 0, 1⟩ : S49) [.slice none 0 0, .int .i64 1, .int .i64 0, .int .i64 1] from (k49_mkM _ _ _ (⟨([] : List Int), 1, 0, 1⟩ : S49) (Kd.R_nil _ _ _ _ _))) (Reps.none _ _))); intro e9 k7 e2 hb e7 d0; clear e7 d0; (first | rw [← c9.out] at e2 | (simp only [Int.reduceToNat] at e2; rw [← c9.out] at e2)); have a7 := am (Kd.S_lower e2 (below_size (pB HB.out))); replace HB := bS HB hb; clear hb e2; obtain ⟨f9, g9, h5⟩ := Kd.S_slice a7.out; subst h5) | ((with_reducible refine gC 10 ?_); refine gL 7 Try.func10 #[.string (⟨#[107]⟩ : ByteArray), .agg #[.string (⟨#[97]⟩ : ByteArray), .slice f9 y241.length g9]] ?_; (with_reducible refine (Fz.calls k (⟨#[107]⟩ : ByteArray) (⟨#[97]⟩ : ByteArray) (fun k_ => True) _ _ y241 b6 b7 b8 b9 b5 e5 _ ?side1 A1.out).mono ?_); (case side1 => exact Kd.S_V (a7.out)); rintro e k8 ⟨f1, f2, rfl, e0, e1, hb⟩; refine ⟨_, rfl, ?_⟩; replace a7 := am (Kd.S_below (pS a7.out) hb); have b4 := am (Kd.V_lower (Kd.V_mono (ok' := fun k_ => True) e0 (fun k_ c8 => trivial)) (below_size (pB HB.out))); have a6 := am (Kd.V_lower (Kd.V_mono (ok' := fun k_ => True) e1 (fun k_ c8 => trivial)) (below_size (pB HB.out))); replace HB := bS HB hb; (try clear hb); (try clear hb2); (try clear hk); (try clear hi); (try clear e0); (try clear e1)) | ((with_reducible refine gD 1 ?_); (try (refine gate_guard (by rfl) ?_; dsimp only)); refine bz 1 #[.string (⟨#[]⟩ : ByteArray), .string (⟨#[]⟩ : ByteArray), .slice none 0 0, .int .i64 0, .slice none 0 0] 27 HB ?_; clear HB; intro a0 hg k9 hb c6 d7 HB; replace a7 := am (Kd.S_below (pS a7.out) hb); replace b4 := vE b4 hg hb; replace a6 := vE a6 hg hb; clear hb hg; have f6 := y5 c6; obtain ⟨d6, d8, h6⟩ := Kd.V_slice b4.out; subst h6; obtain ⟨i7, d9, h7⟩ := Kd.V_slice a6.out; subst h7; have d1 : 0 ≤ (0 : Int) := (by omega); have d2 : 0 < (b5.length : Int) := od; obtain ⟨b3, e6, a1, a2, a3, a4, a5⟩ := at_T51 (Kd.V_reads' a6.out).2.2 0 d1 d2; cases e6; have f4 : (0 < b5.length) = True := eq_true (by omega); (try rw [show ((0 : Int)).toNat = 0 from rfl] at a1); (try rw [show 0 * 5 = 0 from rfl] at a1); (try rw [Addr.add_zero'] at a1); (try rw [show ((0 : Int)).toNat = 0 from rfl] at a2); (try rw [show 0 * 5 = 0 from rfl] at a2); (try rw [Addr.add_zero'] at a2); (try rw [show ((0 : Int)).toNat = 0 from rfl] at a3); (try rw [show 0 * 5 = 0 from rfl] at a3); (try rw [Addr.add_zero'] at a3); (try rw [show ((0 : Int)).toNat = 0 from rfl] at a4); (try rw [show 0 * 5 = 0 from rfl] at a4); (try rw [Addr.add_zero'] at a4); (try rw [show ((0 : Int)).toNat = 0 from rfl] at a5); (try rw [show 0 * 5 = 0 from rfl] at a5); (try rw [Addr.add_zero'] at a5); have a8 : b3.block ≠ a0 := vaw a6.out (fun _ c8 => c8.2) (hn := by omega); have a9 : b3.block ≠ a0 := vaw a6.out (fun _ c8 => c8.2) (hn := by omega); have b0 : b3.block ≠ a0 := vaw a6.out (fun _ c8 => c8.2) (hn := by omega); have b1 : b3.block ≠ a0 := vaw a6.out (fun _ c8 => c8.2) (hn := by omega); have b2 : b3.block ≠ a0 := vaw a6.out (fun _ c8 => c8.2) (hn := by omega); replace a1 := (cell_far (p := ⟨a0, 0, none⟩) (nb a8) (.string b6)).trans a1; replace a2 := (cell_far (p := ⟨a0, 0, none⟩) (nb a8) (.string b6)).trans a2; replace a3 := (cell_far (p := ⟨a0, 0, none⟩) (nb a8) (.string b6)).trans a3; replace a4 := (cell_far (p := ⟨a0, 0, none⟩) (nb a8) (.string b6)).trans a4; replace a5 := (cell_far (p := ⟨a0, 0, none⟩) (nb a8) (.string b6)).trans a5; replace a1 := (cell_far (p := ⟨a0, 1, none⟩) (nb a9) (.string b7)).trans a1; replace a2 := (cell_far (p := ⟨a0, 1, none⟩) (nb a9) (.string b7)).trans a2; replace a3 := (cell_far (p := ⟨a0, 1, none⟩) (nb a9) (.string b7)).trans a3; replace a4 := (cell_far (p := ⟨a0, 1, none⟩) (nb a9) (.string b7)).trans a4; replace a5 := (cell_far (p := ⟨a0, 1, none⟩) (nb a9) (.string b7)).trans a5; replace a1 := (cell_far (p := ⟨a0, 2, none⟩) (nb b0) (.slice d6 b8.length d8)).trans a1; replace a2 := (cell_far (p := ⟨a0, 2, none⟩) (nb b0) (.slice d6 b8.length d8)).trans a2; replace a3 := (cell_far (p := ⟨a0, 2, none⟩) (nb b0) (.slice d6 b8.length d8)).trans a3; replace a4 := (cell_far (p := ⟨a0, 2, none⟩) (nb b0) (.slice d6 b8.length d8)).trans a4; replace a5 := (cell_far (p := ⟨a0, 2, none⟩) (nb b0) (.slice d6 b8.length d8)).trans a5; replace a1 := (cell_far (p := ⟨a0, 3, none⟩) (nb b1) (.int .i64 b9)).trans a1; replace a2 := (cell_far (p := ⟨a0, 3, none⟩) (nb b1) (.int .i64 b9)).trans a2; replace a3 := (cell_far (p := ⟨a0, 3, none⟩) (nb b1) (.int .i64 b9)).trans a3; replace a4 := (cell_far (p := ⟨a0, 3, none⟩) (nb b1) (.int .i64 b9)).trans a4; replace a5 := (cell_far (p := ⟨a0, 3, none⟩) (nb b1) (.int .i64 b9)).trans a5; replace a1 := (cell_far (p := ⟨a0, 4, none⟩) (nb b2) (.slice (some b3) b5.length d9)).trans a1; replace a2 := (cell_far (p := ⟨a0, 4, none⟩) (nb b2) (.slice (some b3) b5.length d9)).trans a2; replace a3 := (cell_far (p := ⟨a0, 4, none⟩) (nb b2) (.slice (some b3) b5.length d9)).trans a3; replace a4 := (cell_far (p := ⟨a0, 4, none⟩) (nb b2) (.slice (some b3) b5.length d9)).trans a4; replace a5 := (cell_far (p := ⟨a0, 4, none⟩) (nb b2) (.slice (some b3) b5.length d9)).trans a5; clear a8 a9 b0 b1 b2; replace d1 := eq_true d1; replace d2 := eq_true d2))
    go_ret
    exact ⟨er, pB HB.out⟩
   rw [if_neg c4] at H
   exact absurd H (by simp)
  rw [if_neg c3] at H
  obtain ⟨g5, g6⟩ := qf c3
  obtain rfl := Option.some.inj H
  go_enter Try.func16, Try.ntmps16
  go_wp2_with (first | ((with_reducible refine gD 5 ?_); (try (refine gate_guard (by rfl) ?_; dsimp only)); refine Kd.S_lit k49 _ 49 ?hg (N := 5) ?hd (xs := ([(⟨([] : List Int), 1, 0, 1⟩ : S49)] : List (S49))) (inner := [.slice none 0 0, .int .i64 1, .int .i64 0, .int .i64 1]) (ok := fun _ => True) (okp := fun _ => True) ?hr ?hp (fun _ hk => hk) trivial (Below.refl _ _) (Nat.le_refl _) (by simp) ?_; (case hd => rfl); (case hg => rfl); (case hr => first | (go_simp; done) | (go_simp; rfl)); (case hp => exact (Reps.c4 (show Kd.M k49 _ _ _ (⟨([] : List Int), 1, 0, 1⟩ : S49) [.slice none 0 0, .int .i64 1, .int .i64 0, .int .i64 1] from (k49_mkM _ _ _ (⟨([] : List Int), 1, 0, 1⟩ : S49) (Kd.R_nil _ _ _ _ _))) (Reps.none _ _))); intro e9 l0 e3 hb e7 d0; clear e7 d0; (first | rw [← c9.out] at e3 | (simp only [Int.reduceToNat] at e3; rw [← c9.out] at e3)); have a7 := am (Kd.S_lower e3 (below_size (pB HB.out))); replace HB := bS HB hb; clear hb e3; obtain ⟨g0, h0, h8⟩ := Kd.S_slice a7.out; subst h8) | ((with_reducible refine gC 10 ?_); refine gL 7 Try.func10 #[.string (⟨#[107]⟩ : ByteArray), .agg #[.string (⟨#[97]⟩ : ByteArray), .slice g0 y241.length h0]] ?_; (with_reducible refine (Fz.calls k (⟨#[107]⟩ : ByteArray) (⟨#[97]⟩ : ByteArray) (fun k_ => True) _ _ y241 b6 b7 b8 b9 b5 e5 _ ?side1 A1.out).mono ?_); (case side1 => exact Kd.S_V (a7.out)); rintro e l1 ⟨f1, f2, rfl, e0, e1, hb⟩; refine ⟨_, rfl, ?_⟩; replace a7 := am (Kd.S_below (pS a7.out) hb); have b4 := am (Kd.V_lower (Kd.V_mono (ok' := fun k_ => True) e0 (fun k_ c8 => trivial)) (below_size (pB HB.out))); have a6 := am (Kd.V_lower (Kd.V_mono (ok' := fun k_ => True) e1 (fun k_ c8 => trivial)) (below_size (pB HB.out))); replace HB := bS HB hb; (try clear hb); (try clear hb2); (try clear hk); (try clear hi); (try clear e0); (try clear e1)) | ((with_reducible refine gD 1 ?_); (try (refine gate_guard (by rfl) ?_; dsimp only)); refine bz 1 #[.string (⟨#[]⟩ : ByteArray), .string (⟨#[]⟩ : ByteArray), .slice none 0 0, .int .i64 0, .slice none 0 0] 27 HB ?_; clear HB; intro a0 hg l2 hb c6 d7 HB; replace a7 := am (Kd.S_below (pS a7.out) hb); replace b4 := vE b4 hg hb; replace a6 := vE a6 hg hb; clear hb hg; have f7 := y5 c6; obtain ⟨i8, j5, h9⟩ := Kd.V_slice b4.out; subst h9; obtain ⟨i9, j6, i0⟩ := Kd.V_slice a6.out; subst i0))
  go_ret
  exact ⟨er, pB HB.out⟩
 rw [if_neg c2] at H
 obtain ⟨g3, g4⟩ := qf c2
 obtain rfl := Option.some.inj H
 go_enter Try.func16, Try.ntmps16
 go_wp2_with (first | ((with_reducible refine gD 5 ?_); (try (refine gate_guard (by rfl) ?_; dsimp only)); refine Kd.S_lit k49 _ 49 ?hg (N := 5) ?hd (xs := ([(⟨([] : List Int), 1, 0, 1⟩ : S49)] : List (S49))) (inner := [.slice none 0 0, .int .i64 1, .int .i64 0, .int .i64 1]) (ok := fun _ => True) (okp := fun _ => True) ?hr ?hp (fun _ hk => hk) trivial (Below.refl _ _) (Nat.le_refl _) (by simp) ?_; (case hd => rfl); (case hg => rfl); (case hr => first | (go_simp; done) | (go_simp; rfl)); (case hp => exact (Reps.c4 (show Kd.M k49 _ _ _ (⟨([] : List Int), 1, 0, 1⟩ : S49) [.slice none 0 0, .int .i64 1, .int .i64 0, .int .i64 1] from (k49_mkM _ _ _ (⟨([] : List Int), 1, 0, 1⟩ : S49) (Kd.R_nil _ _ _ _ _))) (Reps.none _ _))); intro e9 l3 e4 hb e7 d0; clear e7 d0; (first | rw [← c9.out] at e4 | (simp only [Int.reduceToNat] at e4; rw [← c9.out] at e4)); have a7 := am (Kd.S_lower e4 (below_size (pB HB.out))); replace HB := bS HB hb; clear hb e4; obtain ⟨g1, h2, i1⟩ := Kd.S_slice a7.out; subst i1) | ((with_reducible refine gC 10 ?_); refine gL 7 Try.func10 #[.string (⟨#[107]⟩ : ByteArray), .agg #[.string (⟨#[97]⟩ : ByteArray), .slice g1 y241.length h2]] ?_; (with_reducible refine (Fz.calls k (⟨#[107]⟩ : ByteArray) (⟨#[97]⟩ : ByteArray) (fun k_ => True) _ _ y241 b6 b7 b8 b9 b5 e5 _ ?side1 A1.out).mono ?_); (case side1 => exact Kd.S_V (a7.out)); rintro e l4 ⟨f1, f2, rfl, e0, e1, hb⟩; refine ⟨_, rfl, ?_⟩; replace a7 := am (Kd.S_below (pS a7.out) hb); have b4 := am (Kd.V_lower (Kd.V_mono (ok' := fun k_ => True) e0 (fun k_ c8 => trivial)) (below_size (pB HB.out))); have a6 := am (Kd.V_lower (Kd.V_mono (ok' := fun k_ => True) e1 (fun k_ c8 => trivial)) (below_size (pB HB.out))); replace HB := bS HB hb; (try clear hb); (try clear hb2); (try clear hk); (try clear hi); (try clear e0); (try clear e1)) | ((with_reducible refine gD 1 ?_); (try (refine gate_guard (by rfl) ?_; dsimp only)); refine bz 1 #[.string (⟨#[]⟩ : ByteArray), .string (⟨#[]⟩ : ByteArray), .slice none 0 0, .int .i64 0, .slice none 0 0] 27 HB ?_; clear HB; intro a0 hg l5 hb c6 d7 HB; replace a7 := am (Kd.S_below (pS a7.out) hb); replace b4 := vE b4 hg hb; replace a6 := vE a6 hg hb; clear hb hg; have f8 := y5 c6; obtain ⟨j0, j7, i2⟩ := Kd.V_slice b4.out; subst i2; obtain ⟨j1, j8, i3⟩ := Kd.V_slice a6.out; subst i3))
 go_ret
 exact ⟨er, pB HB.out⟩
mutual
def Fa.l0 : Nat → List Int → Int → Int → Int → List (S49) → Int → Int → ByteArray → ByteArray → List (S49) → Int → List (S51) → Option (Bool)
 | 0, _, _, _, _, _, _, _, _, _, _, _, _ => none
 | k + 1, x1, x6, x7, x8, a6, a7, a5, a0, a1, a2, a3, a4 => if a5 < a7 then (if 0 ≤ a5 then (if a5 < (a6.length : Int) then (Fa.l0 k x1 x6 (wrap64 (x7 + ((rd_T49 a6 a5).f1))) x8 a6 a7 (wrap64 (a5 + 1)) a0 a1 a2 a3 a4) else (none)) else (none)) else (Fa.l1 k x1 x6 x7 x8 1 a0 a1 a2 a3 a4)
def Fa.l1 : Nat → List Int → Int → Int → Int → Int → ByteArray → ByteArray → List (S49) → Int → List (S51) → Option (Bool)
 | 0, _, _, _, _, _, _, _, _, _, _ => none
 | k + 1, x1, x6, x7, x8, a9, a2, a3, a4, a0, a1 => if a9 ≤ x7 then (Fa.l2 k x1 x6 x7 x8 a9 a1 (a1.length : Int) 0 a2 a3 a4 a0 a1) else ((Fo.f k).bind fun a5 => (if a5 = true then (if a0 = 2 then ((Ff.f k a2 a3 a4 a0 a1 4).bind fun a6 => (if a6 = true then (some true) else (if a0 = 1 then ((Ff.f k a2 a3 a4 a0 a1 1).bind fun a7 => (some (!a7))) else (none)))) else (if a0 = 1 then ((Ff.f k a2 a3 a4 a0 a1 1).bind fun a8 => (some (!a8))) else (none))) else (none)))
def Fa.l2 : Nat → List Int → Int → Int → Int → Int → List (S51) → Int → Int → ByteArray → ByteArray → List (S49) → Int → List (S51) → Option (Bool)
 | 0, _, _, _, _, _, _, _, _, _, _, _, _, _ => none
 | k + 1, x1, x6, x7, x8, a7, a8, a9, a6, a1, a2, a3, a4, a5 => if a6 < a9 then (if 0 ≤ a6 then (if a6 < (a8.length : Int) then (if ((rd_T51 a8 a6).f0) = 1 then (Fa.l2 k x1 x6 x7 (mx x8 ((rd_T51 a8 a6).f2)) a7 a8 a9 (wrap64 (a6 + 1)) a1 a2 a3 a4 a5) else (Fa.l2 k x1 x6 x7 x8 a7 a8 a9 (wrap64 (a6 + 1)) a1 a2 a3 a4 a5)) else (none)) else (none)) else ((Gb.f k a1 a2 a3 a4 a5 x8 a7).bind fun a0 => (if a0.2.2.2.2.2.2 = 0 then (if a0.2.2.2.2.2.1 < 0 then (Fa.j3 k x1 x6 x7 x8 a7 a0.2.2.2.2.2.1 true a0.1 a0.2.1 a0.2.2.1 a0.2.2.2.1 a0.2.2.2.2.1) else (Fa.j3 k x1 x6 x7 x8 a7 a0.2.2.2.2.2.1 (decide (a0.2.2.2.2.2.1 ≥ (a0.2.2.2.2.1.length : Int))) a0.1 a0.2.1 a0.2.2.1 a0.2.2.2.1 a0.2.2.2.2.1)) else (Fa.j3 k x1 x6 x7 x8 a7 a0.2.2.2.2.2.1 true a0.1 a0.2.1 a0.2.2.1 a0.2.2.2.1 a0.2.2.2.2.1)))
def Fa.j3 : Nat → List Int → Int → Int → Int → Int → Int → Bool → ByteArray → ByteArray → List (S49) → Int → List (S51) → Option (Bool)
 | 0, _, _, _, _, _, _, _, _, _, _, _, _ => none
 | k + 1, x1, x6, x7, x8, a5, a6, a7, a0, a1, a2, a3, a4 => if a7 = true then (none) else (if a5 ≤ (x1.length : Int) then (if 0 ≤ (wrap64 (a5 - 1)) then (if (wrap64 (a5 - 1)) < (x1.length : Int) then (Fa.j4 k x1 x6 x7 x8 a5 a6 (rd x1 (wrap64 (a5 - 1))) a0 a1 a2 a3 a4) else (none)) else (none)) else (Fa.j4 k x1 x6 x7 x8 a5 a6 0 a0 a1 a2 a3 a4))
def Fa.j4 : Nat → List Int → Int → Int → Int → Int → Int → Int → ByteArray → ByteArray → List (S49) → Int → List (S51) → Option (Bool)
 | 0, _, _, _, _, _, _, _, _, _, _, _, _ => none
 | k + 1, x1, x6, x7, x8, a8, a9, b0, a1, a2, a3, a4, a0 => if (Int.tmod (wrap64 ((Int.tmod b0 3) + 3)) 3) = 0 then ((Gc.f k a1 a2 a3 a4 a0 x8 a8 (⟨#[114]⟩ : ByteArray)).bind fun a5 => (Fa.j5 k x1 a5.2.2.2.2.2 x7 x8 a8 a5.1 a5.2.1 a5.2.2.1 a5.2.2.2.1 a5.2.2.2.2.1)) else (if (Int.tmod (wrap64 ((Int.tmod b0 3) + 3)) 3) = 1 then ((Gd.f k a1 a2 a3 a4 a0 x8 a8).bind fun a6 => (Fa.j5 k x1 a6.2.2.2.2.2 x7 x8 a8 a6.1 a6.2.1 a6.2.2.1 a6.2.2.2.1 a6.2.2.2.2.1)) else (if (Int.tmod (wrap64 ((Int.tmod b0 3) + 3)) 3) = 2 then (if 0 ≤ a9 then (if a9 < (a0.length : Int) then ((F3.f k a1 a2 a3 a4 a0 (mx x8 ((rd_T51 a0 a9).f2))).bind fun a7 => (Fa.j5 k x1 a7.2.2.2.2.2 x7 (mx x8 ((rd_T51 a0 a9).f2)) a8 a7.1 a7.2.1 a7.2.2.1 a7.2.2.2.1 a7.2.2.2.2.1)) else (none)) else (none)) else (Fa.j5 k x1 x6 x7 x8 a8 a1 a2 a3 a4 a0)))
def Fa.j5 : Nat → List Int → Int → Int → Int → Int → ByteArray → ByteArray → List (S49) → Int → List (S51) → Option (Bool)
 | 0, _, _, _, _, _, _, _, _, _, _ => none
 | k + 1, x1, x6, x7, x8, a6, a0, a1, a2, a3, a4 => if x6 = 0 then ((Fb.f k a0 a1 a2 a3 a4).bind fun a5 => (Fa.j6 k x1 x6 x7 x8 a6 (!a5) a0 a1 a2 a3 a4)) else (Fa.j6 k x1 x6 x7 x8 a6 true a0 a1 a2 a3 a4)
def Fa.j6 : Nat → List Int → Int → Int → Int → Int → Bool → ByteArray → ByteArray → List (S49) → Int → List (S51) → Option (Bool)
 | 0, _, _, _, _, _, _, _, _, _, _, _ => none
 | k + 1, x1, x6, x7, x8, b0, a9, a1, a2, a3, a0, a4 => if a9 = true then (none) else (if a0 = 0 then (Fa.l1 k x1 x6 x7 x8 (wrap64 (b0 + 1)) a1 a2 a3 a0 a4) else ((Fo.f k).bind fun a5 => (if a5 = true then (if a0 = 2 then ((Ff.f k a1 a2 a3 a0 a4 4).bind fun a6 => (if a6 = true then (some true) else (if a0 = 1 then ((Ff.f k a1 a2 a3 a0 a4 1).bind fun a7 => (some (!a7))) else (none)))) else (if a0 = 1 then ((Ff.f k a1 a2 a3 a0 a4 1).bind fun a8 => (some (!a8))) else (none))) else (none))))
end
def Fa.f (k : Nat) (a2 : ByteArray) (a1 : List (S49)) (l1 : List Int) : Option (Bool) := (Fz.f k (⟨#[107]⟩ : ByteArray) a2 a1).bind fun a0 => (if a0.2.2.2.2.2 = 0 then (Fa.l0 k l1 a0.2.2.2.2.2 0 0 a1 (a1.length : Int) 0 a0.1 a0.2.1 a0.2.2.1 a0.2.2.2.1 a0.2.2.2.2.1) else ((Fo.f k).bind fun a3 => (if a3 = true then ((Fh.f k a2 a1).bind fun a4 => (some (a0.2.2.2.2.2 == a4))) else (none))))
set_option maxHeartbeats 8000000 in
set_option maxRecDepth 100000 in
theorem Fa.calls (k : Nat) (e9 : ByteArray) (g1 : Option Addr) (g6 : Nat) (d7 : List (S49)) (A1 : Option Addr) (c1 : Nat) (l1 : List Int) (r : Bool) (w : World) (s1 : Kd.C k49 w g1 d7.length d7) (s0 : d7.length ≤ g6) (W4 : Kd.C (Kd.int .i64) w A1 l1.length l1) (U2 : l1.length ≤ c1) (h : Fa.f k e9 d7 l1 = some r) :
  Calls Try.prog 6 #[.agg #[.string e9, .slice g1 d7.length g6], .slice A1 l1.length c1] w fun e w' => e = .returned (.bool r) ∧ Below w.heap.size w w' := by
 have X2 := Try.underlying24
 have X3 := Try.underlying27
 have X4 := Try.underlying49
 have X5 := Try.underlying51
 have l5 := am s1
 have o0 := am s0
 clear s1 s0
 have X0 := am W4
 have Aj := am U2
 clear W4 U2
 have HB := am (Below.refl w.heap.size w)
 unfold Fa.f at h
 have H := h
 clear h
 replace H := Option.bind_eq_some_iff.mp H
 obtain ⟨⟨n5, n6, i3, n7, i4, o5⟩, Q0, H⟩ := H
 try dsimp only at H
 have A3 := am Q0
 clear Q0
 by_cases c4 : o5 = 0
 ·
  rw [if_pos c4] at H
  obtain ⟨j7, j8⟩ := qt c4
  clear c4
  have H' := am H
  clear H
  go_enter Try.func6, Try.ntmps6
  go_wp2_with (first | ((with_reducible refine gD 2 ?_); (try (refine gate_guard (by rfl) ?_; dsimp only)); refine bz 2 #[.string e9, .slice g1 d7.length g6] 24 HB ?_; clear HB; intro a8 hg w5 hb a3 i7 HB; clear hb hg; have f6 := y2 a3) | ((with_reducible refine gC 10 ?_); refine gL 20 Try.func10 #[.string (⟨#[107]⟩ : ByteArray), .agg #[.string e9, .slice g1 d7.length g6]] ?_; (with_reducible refine (Fz.calls k (⟨#[107]⟩ : ByteArray) e9 (fun k_ => k_ < w.heap.size) _ _ d7 n5 n6 i3 n7 i4 o5 _ ?side1 A3.out).mono ?_); (case side1 => exact Kd.V_mk o0.out (Kd.F_below (Kd.C_F k49_heap l5.out) (pB HB.out))); rintro e w7 ⟨P8, P9, rfl, k6, k7, hb⟩; refine ⟨_, rfl, ?_⟩; have e1 := am (Kd.V_lower (Kd.V_mono (ok' := fun k_ => k_ ≠ a8) k6 (fun k_ e4 => Or.elim e4 (fun b0 => fun e_ => Nat.not_le.2 b0 (by rw [e_]; exact i7.out)) (fun d6 => (Kd.freshB (pk a3.out) k_ d6)))) (below_size (pB HB.out))); have e2 := am (Kd.V_lower (Kd.V_mono (ok' := fun k_ => k_ ≠ a8) k7 (fun k_ e4 => Or.elim e4 (fun b0 => fun e_ => Nat.not_le.2 b0 (by rw [e_]; exact i7.out)) (fun d6 => (Kd.freshB (pk a3.out) k_ d6)))) (below_size (pB HB.out))); replace a3 := kB a3 hb; replace HB := bS HB hb; (try clear hb); (try clear hb2); (try clear hk); (try clear hi); (try clear k6); (try clear k7)) | ((with_reducible refine gD 5 ?_); (try (refine gate_guard (by rfl) ?_; dsimp only)); refine bz 5 #[.string (⟨#[]⟩ : ByteArray), .string (⟨#[]⟩ : ByteArray), .slice none 0 0, .int .i64 0, .slice none 0 0] 27 HB ?_; clear HB; intro a7 hg w8 hb a2 h4 HB; replace e1 := vE e1 hg hb; replace e2 := vE e2 hg hb; have m8 := nL hg a3; have b2 := nG hg a3; replace a3 := kB a3 hb; clear hb hg; have X1 := nn b2; have d9 := y5 a2; obtain ⟨s4, t8, L8⟩ := Kd.V_slice e1.out; subst L8; obtain ⟨s5, t9, L9⟩ := Kd.V_slice e2.out; subst L9; have e0 := y2 a3))
  go_loopg [7, 35] k (fun kq v7 X8 w' => ∃ (g0 : Int) (e8 : Int), v7 = .int .i64 g0 ∧ X8 = .int .i64 e8 ∧ Aside0 (Fa.l0 kq l1 o5 g0 0 d7 (d7.length : Int) e8 n5 n6 i3 n7 i4 = some r) ∧ Aside0 (kq ≤ k) ∧ Aside0 (Kd.V k49 49 w' w.heap.size (fun k_ => k_ ≠ a8 ∧ k_ ≠ a7) (.slice s4 i3.length t8) i3) ∧ Aside0 (Kd.V k51 51 w' w.heap.size (fun k_ => k_ ≠ a8 ∧ k_ ≠ a7) (.slice s5 i4.length t9) i4) ∧ Aside0 (w'.heap[a8]? = some (.cells #[.string e9, (.slice g1 d7.length g6)] 24 (0, 0))) ∧ Aside0 (w'.heap[a7]? = some (.cells #[.string n5, .string n6, (.slice s4 i3.length t8), .int .i64 n7, (.slice s5 i4.length t9)] 27 (0, 0))) ∧ Aside0 (Below w.heap.size w w'))
  case atStart => exact ⟨(0), (0), el, el, H', ⟨Nat.le_refl _⟩, ⟨(pV e1.out)⟩, ⟨(pV e2.out)⟩, ⟨pk a3.out⟩, ⟨pP a2.out⟩, ⟨pB HB.out⟩⟩
  case round =>
   clear H'
   try clear c1
   try clear c4
   try clear j7
   try clear j8
   try clear d9
   try clear e0
   try clear f6
   try clear a3; try clear a2; try clear HB
   obtain ⟨g0, e8, rfl, rfl, HA, i0, a1, a0, a3, a2, HB⟩ := hrel
   cases gk with
   | zero => exact absurd HA.out (by simp [Fa.l0])
   | succ k1 =>
    have H := HA.out
    clear HA
    simp only [Fa.l0] at H
    by_cases n8 : e8 < (d7.length : Int)
    ·
     rw [if_pos n8] at H
     have h2 := decide_eq_true n8
     clear n8
     by_cases G4 : 0 ≤ e8
     ·
      rw [if_pos G4] at H
      have R8 := decide_eq_true G4
      clear G4
      by_cases G5 : e8 < (d7.length : Int)
      ·
       rw [if_pos G5] at H
       have R9 := decide_eq_true G5
       clear G5
       have H' := am H
       clear H
       have u2 : 0 ≤ (e8 : Int) := od
       have u5 : e8 < (d7.length : Int) := od
       obtain ⟨R7, J3, K8, L5, m3, m4, m5, m6, l7, l6⟩ := at_T49 l5.out e8 u2 u5
       cases L5
       replace m3 := bX HB m3
       replace m4 := bX HB m4
       replace m5 := bX HB m5
       replace m6 := bX HB m6
       have G3 := am l6
       have G2 := am l7
       clear l6 l7
       replace u2 := eq_true u2
       replace u5 := eq_true u5
       go_wp2_with (first | ((with_reducible refine gD 10 ?_); (try (refine gate_guard (by rfl) ?_; dsimp only)); refine bz 10 #[.slice none 0 0, .int .i64 0, .int .i64 0, .int .i64 0] 49 HB ?_; clear HB; intro U1 hg Ak hb x7 R5 HB; replace a1 := vE a1 hg hb; replace a0 := vE a0 hg hb; have v4 := nL hg a3; have n1 := nG hg a3; replace a3 := kB a3 hb; have v9 := nL hg a2; have n2 := nG hg a2; replace a2 := kB a2 hb; clear hb hg; have U3 := nn n1; have U4 := nn n2; have H2 := y4 x7))
       go_roundg k1
       case measure => have := i0.out; omega
       case rel => exact ⟨(wrap64 (g0 + ((rd_T49 d7 e8).f1))), (wrap64 (e8 + 1)), el, el, H', ⟨by have := i0.out; omega⟩, ⟨by exact Kd.V_mono (pV a1.out) (fun _ hk => ⟨hk.1.1, hk.1.2⟩)⟩, ⟨by exact Kd.V_mono (pV a0.out) (fun _ hk => ⟨hk.1.1, hk.1.2⟩)⟩, ⟨pk a3.out⟩, ⟨pk a2.out⟩, ⟨pB HB.out⟩⟩
      rw [if_neg G5] at H
      exact absurd H (by simp)
     rw [if_neg G4] at H
     exact absurd H (by simp)
    rw [if_neg n8] at H
    have h2 := decide_eq_false n8
    clear n8
    have H' := am H
    clear H
    go_wp2
    go_loopg [6, 8, 11] k1 (fun kq v6 v8 X6 w' => ∃ (i5 : Int) (q3 : Int) (d0 : Int) (b6 : ByteArray) (b7 : ByteArray) (b4 : List (S49)) (b3 : Int) (a6 : List (S51)) (d1 : Value) (d5 : Value), v6 = .int .i64 i5 ∧ v8 = .int .i64 q3 ∧ X6 = .int .i64 d0 ∧ Aside0 (Fa.l1 kq l1 i5 g0 q3 d0 b6 b7 b4 b3 a6 = some r) ∧ Aside0 (kq ≤ k1) ∧ Aside0 (Kd.V k49 49 w' w.heap.size (fun k_ => k_ ≠ a8 ∧ k_ ≠ a7) d1 b4) ∧ Aside0 (Kd.V k51 51 w' w.heap.size (fun k_ => k_ ≠ a8 ∧ k_ ≠ a7) d5 a6) ∧ Aside0 (w'.heap[a8]? = some (.cells #[.string e9, (.slice g1 d7.length g6)] 24 (0, 0))) ∧ Aside0 (w'.heap[a7]? = some (.cells #[.string b6, .string b7, d1, .int .i64 b3, d5] 27 (0, 0))) ∧ Aside0 (Below w.heap.size w w'))
    case atStart => exact ⟨(o5), (0), (1), (n5), (n6), (i3), (n7), (i4), (.slice s4 i3.length t8), (.slice s5 i4.length t9), el, el, el, H', ⟨Nat.le_refl _⟩, ⟨(pV a1.out)⟩, ⟨(pV a0.out)⟩, ⟨pk a3.out⟩, ⟨pk a2.out⟩, ⟨pB HB.out⟩⟩
    case round =>
     clear H'
     try clear c1
     try clear c4
     try clear j7
     try clear j8
     try clear n8
     try clear h2
     try clear d9
     try clear e0
     try clear f6
     try clear a3; try clear a2; try clear HB
     obtain ⟨i5, q3, d0, b6, b7, b4, b3, a6, d1, d5, rfl, rfl, rfl, HA, i9, a1, a0, a3, a2, HB⟩ := hrel
     cases gk with
     | zero => exact absurd HA.out (by simp [Fa.l1])
     | succ k2 =>
      have H := HA.out
      clear HA
      simp only [Fa.l1] at H
      by_cases o4 : d0 ≤ g0
      ·
       rw [if_pos o4] at H
       have h8 := decide_eq_true o4
       clear o4
       have H' := am H
       clear H
       have U5 := nn b2
       have f8 := y5 a2
       obtain ⟨m7, n3, M0⟩ := Kd.V_slice a0.out
       subst M0
       go_wp2
       go_loopg [8, 52] k2 (fun kq v8 X9 w' => ∃ (d8 : Int) (d4 : Int), v8 = .int .i64 d8 ∧ X9 = .int .i64 d4 ∧ Aside0 (Fa.l2 kq l1 i5 g0 d8 d0 a6 (a6.length : Int) d4 b6 b7 b4 b3 a6 = some r) ∧ Aside0 (kq ≤ k2) ∧ Aside0 (Kd.V k51 51 w' w.heap.size (fun k_ => k_ ≠ a8 ∧ k_ ≠ a7) (.slice m7 a6.length n3) a6) ∧ Aside0 (Kd.V k49 49 w' w.heap.size (fun k_ => k_ ≠ a8 ∧ k_ ≠ a7) d1 b4) ∧ Aside0 (Kd.V k51 51 w' w.heap.size (fun k_ => k_ ≠ a8 ∧ k_ ≠ a7) (.slice m7 a6.length n3) a6) ∧ Aside0 (w'.heap[a8]? = some (.cells #[.string e9, (.slice g1 d7.length g6)] 24 (0, 0))) ∧ Aside0 (w'.heap[a7]? = some (.cells #[.string b6, .string b7, d1, .int .i64 b3, (.slice m7 a6.length n3)] 27 (0, 0))) ∧ Aside0 (Below w.heap.size w w'))
       case atStart => exact ⟨(q3), (0), el, el, H', ⟨Nat.le_refl _⟩, ⟨(pV a0.out)⟩, ⟨(pV a1.out)⟩, ⟨(pV a0.out)⟩, ⟨pk a3.out⟩, ⟨pk a2.out⟩, ⟨pB HB.out⟩⟩
       case round =>
        clear H'
        try clear c1
        try clear c4
        try clear j7
        try clear j8
        try clear n8
        try clear h2
        try clear o4
        try clear h8
        try clear d9
        try clear e0
        try clear f8
        try clear f6
        try clear a3; try clear a2; try clear HB
        obtain ⟨d8, d4, rfl, rfl, HA, j0, e3, a1, a0, a3, a2, HB⟩ := hrel
        cases gk with
        | zero => exact absurd HA.out (by simp [Fa.l2])
        | succ k3 =>
         have H := HA.out
         clear HA
         simp only [Fa.l2] at H
         by_cases o6 : d4 < (a6.length : Int)
         ·
          rw [if_pos o6] at H
          have j2 := decide_eq_true o6
          clear o6
          by_cases G6 : 0 ≤ d4
          ·
           rw [if_pos G6] at H
           have S0 := decide_eq_true G6
           clear G6
           by_cases G7 : d4 < (a6.length : Int)
           ·
            rw [if_pos G7] at H
            have S1 := decide_eq_true G7
            clear G7
            by_cases y7 : ((rd_T51 a6 d4).f0) = 1
            ·
             rw [if_pos y7] at H
             obtain ⟨y8, y9⟩ := qt y7
             clear y7
             obtain ⟨ji29, hji29⟩ : ∃ j_ : Int, (mx d8 ((rd_T51 a6 d4).f2)) = j_ := ⟨_, rfl⟩
             replace H : (Fa.l2 k3 l1 i5 g0 ji29 d0 a6 (a6.length : Int) (wrap64 (d4 + 1)) b6 b7 b4 b3 a6) = some r := by first | (rw [hji29] at H; exact H) | (simp only [hji29] at H ⊢; exact H)
             have N0 : (if d8 < ((rd_T51 a6 d4).f2) then ((rd_T51 a6 d4).f2) else d8) = ji29 := hji29
             have H' := am H
             clear H
             have l3 : 0 ≤ (d4 : Int) := od
             have l4 : d4 < (a6.length : Int) := od
             obtain ⟨y0, u1, p8, p9, q0, q1, q2⟩ := at_T51 (Kd.V_reads' e3.out).2.2 d4 l3 l4
             cases u1
             replace l3 := eq_true l3
             replace l4 := eq_true l4
             go_wp2_with (first | ((with_reducible refine gD 13 ?_); (try (refine gate_guard (by rfl) ?_; dsimp only)); refine bz 13 #[.int .i64 0, .int .i64 0, .int .i64 0, .int .i64 0, .string (⟨#[]⟩ : ByteArray)] 51 HB ?_; clear HB; intro C9 hg Al hb n9 x8 HB; replace e3 := vE e3 hg hb; replace a1 := vE a1 hg hb; replace a0 := vE a0 hg hb; have m9 := nL hg a3; have g2 := nG hg a3; replace a3 := kB a3 hb; have n0 := nL hg a2; have g3 := nG hg a2; replace a2 := kB a2 hb; clear hb hg; have U6 := nn g2; have U7 := nn g3; have H3 := y5 n9))
             go_roundg k3
             case measure => have := i0.out; have := i9.out; have := j0.out; omega
             case rel => exact ⟨(ji29), (wrap64 (d4 + 1)), (by first | rfl | (simp; done) | (simp only [← hji29] <;> (first | rfl | simp)) | (simp [*]; done)), el, H', ⟨by have := i0.out; have := i9.out; have := j0.out; omega⟩, ⟨by exact Kd.V_mono (pV e3.out) (fun _ hk => ⟨hk.1.1, hk.1.2⟩)⟩, ⟨by exact Kd.V_mono (pV a1.out) (fun _ hk => ⟨hk.1.1, hk.1.2⟩)⟩, ⟨by exact Kd.V_mono (pV a0.out) (fun _ hk => ⟨hk.1.1, hk.1.2⟩)⟩, ⟨pk a3.out⟩, ⟨pk a2.out⟩, ⟨pB HB.out⟩⟩
            rw [if_neg y7] at H
            obtain ⟨y8, y9⟩ := qf y7
            have H' := am H
            clear H
            have l3 : 0 ≤ (d4 : Int) := od
            have l4 : d4 < (a6.length : Int) := od
            obtain ⟨y0, u1, p8, p9, q0, q1, q2⟩ := at_T51 (Kd.V_reads' e3.out).2.2 d4 l3 l4
            cases u1
            replace l3 := eq_true l3
            replace l4 := eq_true l4
            go_wp2_with (first | ((with_reducible refine gD 13 ?_); (try (refine gate_guard (by rfl) ?_; dsimp only)); refine bz 13 #[.int .i64 0, .int .i64 0, .int .i64 0, .int .i64 0, .string (⟨#[]⟩ : ByteArray)] 51 HB ?_; clear HB; intro C9 hg Am hb n9 x8 HB; replace e3 := vE e3 hg hb; replace a1 := vE a1 hg hb; replace a0 := vE a0 hg hb; have m9 := nL hg a3; have g2 := nG hg a3; replace a3 := kB a3 hb; have n0 := nL hg a2; have g3 := nG hg a2; replace a2 := kB a2 hb; clear hb hg; have U8 := nn g2; have U9 := nn g3; have H4 := y5 n9))
            go_roundg k3
            case measure => have := i0.out; have := i9.out; have := j0.out; omega
            case rel => exact ⟨(d8), (wrap64 (d4 + 1)), el, el, H', ⟨by have := i0.out; have := i9.out; have := j0.out; omega⟩, ⟨by exact Kd.V_mono (pV e3.out) (fun _ hk => ⟨hk.1.1, hk.1.2⟩)⟩, ⟨by exact Kd.V_mono (pV a1.out) (fun _ hk => ⟨hk.1.1, hk.1.2⟩)⟩, ⟨by exact Kd.V_mono (pV a0.out) (fun _ hk => ⟨hk.1.1, hk.1.2⟩)⟩, ⟨pk a3.out⟩, ⟨pk a2.out⟩, ⟨pB HB.out⟩⟩
           rw [if_neg G7] at H
           exact absurd H (by simp)
          rw [if_neg G6] at H
          exact absurd H (by simp)
         rw [if_neg o6] at H
         have j2 := decide_eq_false o6
         clear o6
         replace H := Option.bind_eq_some_iff.mp H
         obtain ⟨⟨e5, e6, d3, e7, c9, f9, E8⟩, w9, H⟩ := H
         try dsimp only at H
         have W5 := am w9
         clear w9
         have s7 := am H
         clear H
         have V0 := nn b2
         have g8 := y5 a2
         obtain ⟨s6, u0, M1⟩ := Kd.V_slice a1.out
         subst M1
         go_upto_region 20 with (first | ((with_reducible refine gC 23 ?_); refine gL 68 Try.func23 #[.agg #[.string b6, .string b7, .slice s6 b4.length u0, .int .i64 b3, .slice m7 a6.length n3], .int .i64 d8, .int .i64 d0] ?_; (with_reducible refine (Gb.calls k3 b6 b7 (fun k_ => (k_ ≠ a8 ∧ k_ ≠ a7)) _ _ b4 b3 (fun k_ => (k_ ≠ a8 ∧ k_ ≠ a7)) _ _ a6 d8 d0 e5 e6 d3 e7 c9 f9 E8 _ ?side1 ?side2 W5.out).mono ?_); (case side1 => exact a1.out); (case side2 => exact a0.out); rintro e An ⟨Y0, Y1, rfl, k6, k7, hb⟩; refine ⟨_, rfl, ?_⟩; replace e3 := vB e3 hb; replace a1 := vB a1 hb; replace a0 := vB a0 hb; have h5 := am (Kd.V_lower (Kd.V_mono (ok' := fun k_ => k_ ≠ a8 ∧ k_ ≠ a7) k6 (fun k_ e4 => ⟨Or.elim e4 (fun b0 => Or.elim b0 (fun b0 => b0.1) (fun b0 => b0.1)) (fun d6 => (Kd.freshB (pk a3.out) k_ d6)), Or.elim e4 (fun b0 => Or.elim b0 (fun b0 => b0.2) (fun b0 => b0.2)) (fun d6 => (Kd.freshB (pk a2.out) k_ d6))⟩)) (below_size (pB HB.out))); have h6 := am (Kd.V_lower (Kd.V_mono (ok' := fun k_ => k_ ≠ a8 ∧ k_ ≠ a7) k7 (fun k_ e4 => ⟨Or.elim e4 (fun b0 => Or.elim b0 (fun b0 => b0.1) (fun b0 => b0.1)) (fun d6 => (Kd.freshB (pk a3.out) k_ d6)), Or.elim e4 (fun b0 => Or.elim b0 (fun b0 => b0.2) (fun b0 => b0.2)) (fun d6 => (Kd.freshB (pk a2.out) k_ d6))⟩)) (below_size (pB HB.out))); replace a3 := kB a3 hb; replace a2 := kB a2 hb; replace HB := bS HB hb; (try clear hb); (try clear hb2); (try clear hk); (try clear hi); (try clear k6); (try clear k7)) | ((with_reducible refine gD 14 ?_); (try (refine gate_guard (by rfl) ?_; dsimp only)); refine bz 14 #[.string (⟨#[]⟩ : ByteArray), .string (⟨#[]⟩ : ByteArray), .slice none 0 0, .int .i64 0, .slice none 0 0] 27 HB ?_; clear HB; intro b5 hg Ao hb a9 R6 HB; replace e3 := vE e3 hg hb; replace a1 := vE a1 hg hb; replace a0 := vE a0 hg hb; replace h5 := vE h5 hg hb; replace h6 := vE h6 hg hb; have v5 := nL hg a3; have g4 := nG hg a3; replace a3 := kB a3 hb; have d2 := nL hg a2; have g5 := nG hg a2; replace a2 := kB a2 hb; clear hb hg; have V1 := nn g4; have V2 := nn g5; have g9 := y5 a9; obtain ⟨f3, f4, M2⟩ := Kd.V_slice h5.out; subst M2; obtain ⟨f7, f5, M3⟩ := Kd.V_slice h6.out; subst M3))
         (try simp only [Act.put, List.setIfInBounds_toArray, List.set_cons_zero, List.set_cons_succ])
         go_cut [84] (fun Y8 wc => ∃ (kq : Nat) (i6 : Bool), Y8 = .bool i6 ∧ Aside0 (Fa.j3 kq l1 i5 g0 d8 d0 f9 i6 e5 e6 d3 e7 c9 = some r) ∧ Aside0 (kq ≤ k3) ∧ Aside0 (Kd.V k49 49 wc w.heap.size (fun k_ => k_ ≠ a8 ∧ k_ ≠ a7 ∧ k_ ≠ b5) (.slice s6 b4.length u0) b4) ∧ Aside0 (Kd.V k51 51 wc w.heap.size (fun k_ => k_ ≠ a8 ∧ k_ ≠ a7 ∧ k_ ≠ b5) (.slice m7 a6.length n3) a6) ∧ Aside0 (Kd.V k49 49 wc w.heap.size (fun k_ => k_ ≠ a8 ∧ k_ ≠ a7 ∧ k_ ≠ b5) (.slice f3 d3.length f4) d3) ∧ Aside0 (Kd.V k51 51 wc w.heap.size (fun k_ => k_ ≠ a8 ∧ k_ ≠ a7 ∧ k_ ≠ b5) (.slice f7 c9.length f5) c9) ∧ Aside0 (wc.heap[a8]? = some (.cells #[.string e9, (.slice g1 d7.length g6)] 24 (0, 0))) ∧ Aside0 (wc.heap[a7]? = some (.cells #[.string b6, .string b7, (.slice s6 b4.length u0), .int .i64 b3, (.slice m7 a6.length n3)] 27 (0, 0))) ∧ Aside0 (wc.heap[b5]? = some (.cells #[.string e5, .string e6, (.slice f3 d3.length f4), .int .i64 e7, (.slice f7 c9.length f5)] 27 (0, 0))) ∧ Aside0 (Below w.heap.size w wc))
         case first =>
          have H := s7.out
          clear s7
          by_cases z0 : E8 = 0
          ·
           rw [if_pos z0] at H
           obtain ⟨j9, z6⟩ := qt z0
           clear z0
           (first | rw [j9] | (simp only [i64_w, i32_w]; rw [j9]) | skip)
           by_cases w2 : f9 < 0
           ·
            rw [if_pos w2] at H
            have z7 := decide_eq_true w2
            clear w2
            have H' := am H
            clear H
            go_wp2
            go_meet
            case rel => exact ⟨_, (true), el, H', ⟨by have := i0.out; have := i9.out; have := j0.out; first | omega | exact Nat.le_refl _⟩, ⟨by exact Kd.V_mono (pV a1.out) (fun _ hk => ⟨hk.1.1, ⟨hk.1.2, hk.2⟩⟩)⟩, ⟨by exact Kd.V_mono (pV a0.out) (fun _ hk => ⟨hk.1.1, ⟨hk.1.2, hk.2⟩⟩)⟩, ⟨by exact Kd.V_mono (pV h5.out) (fun _ hk => ⟨hk.1.1, ⟨hk.1.2, hk.2⟩⟩)⟩, ⟨by exact Kd.V_mono (pV h6.out) (fun _ hk => ⟨hk.1.1, ⟨hk.1.2, hk.2⟩⟩)⟩, ⟨pk a3.out⟩, ⟨pk a2.out⟩, ⟨pP a9.out⟩, ⟨pB HB.out⟩⟩
           rw [if_neg w2] at H
           have z7 := decide_eq_false w2
           clear w2
           have H' := am H
           clear H
           have V3 := nn g4
           have V4 := nn g5
           have H5 := y5 a9
           go_wp2
           go_meet
           case rel => exact ⟨_, (decide (f9 ≥ (c9.length : Int))), el, H', ⟨by have := i0.out; have := i9.out; have := j0.out; first | omega | exact Nat.le_refl _⟩, ⟨by exact Kd.V_mono (pV a1.out) (fun _ hk => ⟨hk.1.1, ⟨hk.1.2, hk.2⟩⟩)⟩, ⟨by exact Kd.V_mono (pV a0.out) (fun _ hk => ⟨hk.1.1, ⟨hk.1.2, hk.2⟩⟩)⟩, ⟨by exact Kd.V_mono (pV h5.out) (fun _ hk => ⟨hk.1.1, ⟨hk.1.2, hk.2⟩⟩)⟩, ⟨by exact Kd.V_mono (pV h6.out) (fun _ hk => ⟨hk.1.1, ⟨hk.1.2, hk.2⟩⟩)⟩, ⟨pk a3.out⟩, ⟨pk a2.out⟩, ⟨pP a9.out⟩, ⟨pB HB.out⟩⟩
          rw [if_neg z0] at H
          obtain ⟨j9, z6⟩ := qf z0
          (first | rw [j9] | (simp only [i64_w, i32_w]; rw [j9]) | skip)
          have H' := am H
          clear H
          go_wp2
          go_meet
          case rel => exact ⟨_, (true), el, H', ⟨by have := i0.out; have := i9.out; have := j0.out; first | omega | exact Nat.le_refl _⟩, ⟨by exact Kd.V_mono (pV a1.out) (fun _ hk => ⟨hk.1.1, ⟨hk.1.2, hk.2⟩⟩)⟩, ⟨by exact Kd.V_mono (pV a0.out) (fun _ hk => ⟨hk.1.1, ⟨hk.1.2, hk.2⟩⟩)⟩, ⟨by exact Kd.V_mono (pV h5.out) (fun _ hk => ⟨hk.1.1, ⟨hk.1.2, hk.2⟩⟩)⟩, ⟨by exact Kd.V_mono (pV h6.out) (fun _ hk => ⟨hk.1.1, ⟨hk.1.2, hk.2⟩⟩)⟩, ⟨pk a3.out⟩, ⟨pk a2.out⟩, ⟨pP a9.out⟩, ⟨pB HB.out⟩⟩
         case rest =>
          clear s7
          try clear c1
          try clear c4
          try clear j7
          try clear j8
          try clear n8
          try clear h2
          try clear o4
          try clear h8
          try clear o6
          try clear j2
          try clear d9
          try clear e0
          try clear f8
          try clear g8
          try clear g9
          try clear f6
          obtain ⟨kq, i6, rfl, HA, h3, a1, a0, a4, a5, a3, a2, a9, HB⟩ := hcut
          cases kq with
          | zero => exact absurd HA.out (by simp [Fa.j3])
          | succ E6 =>
           have H := HA.out
           clear HA
           simp only [Fa.j3] at H
           by_cases t7 : i6 = true
           ·
            subst t7
            rw [if_pos rfl] at H
            try dsimp only at H
            exact absurd H (by simp)
           replace t7 := Bool.eq_false_iff.mpr t7
           subst t7
           rw [if_neg (show ¬ (false = true) by decide)] at H
           try dsimp only at H
           have s8 := am H
           clear H
           have V5 := nn g4
           have V6 := nn g5
           have i1 := y5 a9
           have V7 := nn b2
           have i2 := y5 a2
           go_upto_if 89 with (fail)
           go_cut [17] (fun X7 wc => ∃ (kq : Nat) (g7 : Int), X7 = .int .i64 g7 ∧ Aside0 (Fa.j4 kq l1 i5 g0 d8 d0 f9 g7 e5 e6 d3 e7 c9 = some r) ∧ Aside0 (kq ≤ E6) ∧ Aside0 (Kd.V k49 49 wc w.heap.size (fun k_ => k_ ≠ a8 ∧ k_ ≠ a7 ∧ k_ ≠ b5) (.slice f3 d3.length f4) d3) ∧ Aside0 (Kd.V k51 51 wc w.heap.size (fun k_ => k_ ≠ a8 ∧ k_ ≠ a7 ∧ k_ ≠ b5) (.slice f7 c9.length f5) c9) ∧ Aside0 (Kd.V k49 49 wc w.heap.size (fun k_ => k_ ≠ a8 ∧ k_ ≠ a7 ∧ k_ ≠ b5) (.slice f3 d3.length f4) d3) ∧ Aside0 (Kd.V k51 51 wc w.heap.size (fun k_ => k_ ≠ a8 ∧ k_ ≠ a7 ∧ k_ ≠ b5) (.slice f7 c9.length f5) c9) ∧ Aside0 (wc.heap[a8]? = some (.cells #[.string e9, (.slice g1 d7.length g6)] 24 (0, 0))) ∧ Aside0 (wc.heap[a7]? = some (.cells #[.string e5, .string e6, (.slice f3 d3.length f4), .int .i64 e7, (.slice f7 c9.length f5)] 27 (0, 0))) ∧ Aside0 (wc.heap[b5]? = some (.cells #[.string e5, .string e6, (.slice f3 d3.length f4), .int .i64 e7, (.slice f7 c9.length f5)] 27 (0, 0))) ∧ Aside0 (Below w.heap.size w wc))
           case first =>
            have H := s8.out
            clear s8
            by_cases w3 : d0 ≤ (l1.length : Int)
            ·
             rw [if_pos w3] at H
             have k0 := decide_eq_true w3
             clear w3
             (first | rw [k0] | (simp only [i64_w, i32_w]; rw [k0]) | skip)
             obtain ⟨ji63, hji63⟩ : ∃ j_ : Int, (wrap64 (d0 - 1)) = j_ := ⟨_, rfl⟩
             replace H : (if 0 ≤ (ji63) then (if (ji63) < (l1.length : Int) then (Fa.j4 E6 l1 i5 g0 d8 d0 f9 (rd l1 (ji63)) e5 e6 d3 e7 c9) else (none)) else (none)) = some r := by first | (rw [hji63] at H; exact H) | (simp only [hji63] at H ⊢; exact H)
             have N1 : (IntKind.i64.wrap (d0 - 1)) = ji63 := (i64_w _).trans hji63
             by_cases G8 : 0 ≤ (ji63)
             ·
              rw [if_pos G8] at H
              have S3 := decide_eq_true G8
              clear G8
              by_cases G9 : (ji63) < (l1.length : Int)
              ·
               rw [if_pos G9] at H
               have S4 := decide_eq_true G9
               clear G9
               have H' := am H
               clear H
               have u3 : 0 ≤ ((ji63) : Int) := od
               have u6 : (ji63) < (l1.length : Int) := od
               obtain ⟨j1, L6, c8⟩ := Kd.at_int X0.out (ji63) u3 u6
               cases L6
               have l8 : j1.block ≠ a7 := Nat.ne_of_lt (Nat.lt_of_lt_of_le (by have := World.block_lt_of_cell? _ _ c8; first | rwa [add_block] at this | exact this) h4.out)
               have l9 : j1.block ≠ a7 := Nat.ne_of_lt (Nat.lt_of_lt_of_le (by have := World.block_lt_of_cell? _ _ c8; first | rwa [add_block] at this | exact this) h4.out)
               have m0 : j1.block ≠ a7 := Nat.ne_of_lt (Nat.lt_of_lt_of_le (by have := World.block_lt_of_cell? _ _ c8; first | rwa [add_block] at this | exact this) h4.out)
               have m1 : j1.block ≠ a7 := Nat.ne_of_lt (Nat.lt_of_lt_of_le (by have := World.block_lt_of_cell? _ _ c8; first | rwa [add_block] at this | exact this) h4.out)
               have m2 : j1.block ≠ a7 := Nat.ne_of_lt (Nat.lt_of_lt_of_le (by have := World.block_lt_of_cell? _ _ c8; first | rwa [add_block] at this | exact this) h4.out)
               replace c8 := bX HB c8
               replace c8 := (cell_far (p := ⟨a7, 0, none⟩) (nb l8) (.string e5)).trans c8
               replace c8 := (cell_far (p := ⟨a7, 1, none⟩) (nb l9) (.string e6)).trans c8
               replace c8 := (cell_far (p := ⟨a7, 2, none⟩) (nb m0) (.slice f3 d3.length f4)).trans c8
               replace c8 := (cell_far (p := ⟨a7, 3, none⟩) (nb m1) (.int .i64 e7)).trans c8
               replace c8 := (cell_far (p := ⟨a7, 4, none⟩) (nb m2) (.slice f7 c9.length f5)).trans c8
               clear l8 l9 m0 m1 m2
               replace u3 := eq_true u3
               replace u6 := eq_true u6
               go_wp2
               go_meet
               case rel => exact ⟨_, (rd l1 (ji63)), (by first | rfl | (simp; done) | (simp only [← hji63] <;> (first | rfl | simp)) | (simp [*]; done)), H', ⟨by have := i0.out; have := i9.out; have := j0.out; have := h3.out; first | omega | exact Nat.le_refl _⟩, ⟨(pV a4.out)⟩, ⟨(pV a5.out)⟩, ⟨(pV a4.out)⟩, ⟨(pV a5.out)⟩, ⟨pk a3.out⟩, ⟨pP a2.out⟩, ⟨pk a9.out⟩, ⟨pB HB.out⟩⟩
              rw [if_neg G9] at H
              exact absurd H (by simp)
             rw [if_neg G8] at H
             exact absurd H (by simp)
            rw [if_neg w3] at H
            have k0 := decide_eq_false w3
            clear w3
            (first | rw [k0] | (simp only [i64_w, i32_w]; rw [k0]) | skip)
            have H' := am H
            clear H
            go_wp2
            go_meet
            case rel => exact ⟨_, (0), el, H', ⟨by have := i0.out; have := i9.out; have := j0.out; have := h3.out; first | omega | exact Nat.le_refl _⟩, ⟨(pV a4.out)⟩, ⟨(pV a5.out)⟩, ⟨(pV a4.out)⟩, ⟨(pV a5.out)⟩, ⟨pk a3.out⟩, ⟨pP a2.out⟩, ⟨pk a9.out⟩, ⟨pB HB.out⟩⟩
           case rest =>
            clear s8
            try clear c1
            try clear c4
            try clear j7
            try clear j8
            try clear n8
            try clear h2
            try clear o4
            try clear h8
            try clear o6
            try clear j2
            try clear t7
            try clear d9
            try clear e0
            try clear f8
            try clear g8
            try clear g9
            try clear i1
            try clear i2
            try clear f6
            obtain ⟨kq, g7, rfl, HA, i8, a1, a0, a4, a5, a3, a2, a9, HB⟩ := hcut
            cases kq with
            | zero => exact absurd HA.out (by simp [Fa.j4])
            | succ n4 =>
             have H := HA.out
             clear HA
             simp only [Fa.j4] at H
             have s9 := am H
             clear H
             go_upto_block 6 with (fail)
             go_cut [6, 8] (fun v6 v8 wc => ∃ (kq : Nat) (h9 : Int) (k9 : Int) (b8 : ByteArray) (b9 : ByteArray) (c6 : List (S49)) (b1 : Int) (c7 : List (S51)) (d1 : Value) (d5 : Value), v6 = .int .i64 h9 ∧ v8 = .int .i64 k9 ∧ Aside0 (Fa.j5 kq l1 h9 g0 k9 d0 b8 b9 c6 b1 c7 = some r) ∧ Aside0 (kq ≤ n4) ∧ Aside0 (Kd.V k49 49 wc w.heap.size (fun k_ => k_ ≠ a8 ∧ k_ ≠ a7 ∧ k_ ≠ b5) d1 c6) ∧ Aside0 (Kd.V k51 51 wc w.heap.size (fun k_ => k_ ≠ a8 ∧ k_ ≠ a7 ∧ k_ ≠ b5) d5 c7) ∧ Aside0 (Kd.V k49 49 wc w.heap.size (fun k_ => k_ ≠ a8 ∧ k_ ≠ a7 ∧ k_ ≠ b5) (.slice f3 d3.length f4) d3) ∧ Aside0 (Kd.V k51 51 wc w.heap.size (fun k_ => k_ ≠ a8 ∧ k_ ≠ a7 ∧ k_ ≠ b5) (.slice f7 c9.length f5) c9) ∧ Aside0 (wc.heap[a8]? = some (.cells #[.string e9, (.slice g1 d7.length g6)] 24 (0, 0))) ∧ Aside0 (wc.heap[a7]? = some (.cells #[.string b8, .string b9, d1, .int .i64 b1, d5] 27 (0, 0))) ∧ Aside0 (wc.heap[b5]? = some (.cells #[.string e5, .string e6, (.slice f3 d3.length f4), .int .i64 e7, (.slice f7 c9.length f5)] 27 (0, 0))) ∧ Aside0 (Below w.heap.size w wc))
             case first =>
              have H := s9.out
              clear s9
              by_cases z8 : (Int.tmod (wrap64 ((Int.tmod g7 3) + 3)) 3) = 0
              ·
               rw [if_pos z8] at H
               obtain ⟨k4, z9⟩ := qt z8
               clear z8
               (first | rw [k4] | (simp only [i64_w, i32_w]; rw [k4]) | skip)
               replace H := Option.bind_eq_some_iff.mp H
               obtain ⟨⟨E9, F0, u8, F1, u9, F2⟩, x0, H⟩ := H
               try dsimp only at H
               have W6 := am x0
               clear x0
               have H' := am H
               clear H
               have V8 := nn b2
               have V9 := nn d2
               have H6 := y5 a2
               go_wp2_with (first | ((with_reducible refine gC 20 ?_); refine gL 105 Try.func20 #[.agg #[.string e5, .string e6, .slice f3 d3.length f4, .int .i64 e7, .slice f7 c9.length f5], .int .i64 d8, .int .i64 d0, .string (⟨#[114]⟩ : ByteArray)] ?_; (with_reducible refine (Gc.calls n4 e5 e6 (fun k_ => (k_ ≠ a8 ∧ (k_ ≠ a7 ∧ k_ ≠ b5))) _ _ d3 e7 (fun k_ => (k_ ≠ a8 ∧ (k_ ≠ a7 ∧ k_ ≠ b5))) _ _ c9 d8 d0 (⟨#[114]⟩ : ByteArray) E9 F0 u8 F1 u9 F2 _ ?side1 ?side2 W6.out).mono ?_); (case side1 => exact a1.out); (case side2 => exact a0.out); rintro e Ap ⟨Y2, Y3, rfl, k6, k7, hb⟩; refine ⟨_, rfl, ?_⟩; replace a1 := vB a1 hb; replace a0 := vB a0 hb; replace a4 := vB a4 hb; replace a5 := vB a5 hb; have r4 := am (Kd.V_lower (Kd.V_mono (ok' := fun k_ => k_ ≠ a8 ∧ k_ ≠ a7 ∧ k_ ≠ b5) k6 (fun k_ e4 => ⟨Or.elim e4 (fun b0 => Or.elim b0 (fun b0 => b0.1) (fun b0 => b0.1)) (fun d6 => (Kd.freshB (pk a3.out) k_ d6)), Or.elim e4 (fun b0 => Or.elim b0 (fun b0 => b0.2.1) (fun b0 => b0.2.1)) (fun d6 => (Kd.freshB (pk a2.out) k_ d6)), Or.elim e4 (fun b0 => Or.elim b0 (fun b0 => b0.2.2) (fun b0 => b0.2.2)) (fun d6 => (Kd.freshB (pk a9.out) k_ d6))⟩)) (below_size (pB HB.out))); have r5 := am (Kd.V_lower (Kd.V_mono (ok' := fun k_ => k_ ≠ a8 ∧ k_ ≠ a7 ∧ k_ ≠ b5) k7 (fun k_ e4 => ⟨Or.elim e4 (fun b0 => Or.elim b0 (fun b0 => b0.1) (fun b0 => b0.1)) (fun d6 => (Kd.freshB (pk a3.out) k_ d6)), Or.elim e4 (fun b0 => Or.elim b0 (fun b0 => b0.2.1) (fun b0 => b0.2.1)) (fun d6 => (Kd.freshB (pk a2.out) k_ d6)), Or.elim e4 (fun b0 => Or.elim b0 (fun b0 => b0.2.2) (fun b0 => b0.2.2)) (fun d6 => (Kd.freshB (pk a9.out) k_ d6))⟩)) (below_size (pB HB.out))); replace a3 := kB a3 hb; replace a2 := kB a2 hb; replace a9 := kB a9 hb; replace HB := bS HB hb; (try clear hb); (try clear hb2); (try clear hk); (try clear hi); (try clear k6); (try clear k7); have H7 := y5 a2; obtain ⟨J4, K9, M4⟩ := Kd.V_slice r4.out; subst M4; obtain ⟨J5, L0, M5⟩ := Kd.V_slice r5.out; subst M5))
               go_meet
               case rel => exact ⟨_, (F2), (d8), (E9), (F0), (u8), (F1), (u9), (.slice J4 u8.length K9), (.slice J5 u9.length L0), el, el, H', ⟨by have := i0.out; have := i9.out; have := j0.out; have := h3.out; have := i8.out; first | omega | exact Nat.le_refl _⟩, ⟨(pV r4.out)⟩, ⟨(pV r5.out)⟩, ⟨(pV a4.out)⟩, ⟨(pV a5.out)⟩, ⟨pk a3.out⟩, ⟨pP a2.out⟩, ⟨pk a9.out⟩, ⟨pB HB.out⟩⟩
              rw [if_neg z8] at H
              obtain ⟨k4, z9⟩ := qf z8
              (first | rw [k4] | (simp only [i64_w, i32_w]; rw [k4]) | skip)
              by_cases A2 : (Int.tmod (wrap64 ((Int.tmod g7 3) + 3)) 3) = 1
              ·
               rw [if_pos A2] at H
               obtain ⟨A4, A5⟩ := qt A2
               clear A2
               replace H := Option.bind_eq_some_iff.mp H
               obtain ⟨⟨F3, F4, v0, F5, v1, F6⟩, x2, H⟩ := H
               try dsimp only at H
               have W7 := am x2
               clear x2
               have H' := am H
               clear H
               have W0 := nn b2
               have W1 := nn d2
               have H8 := y5 a2
               go_wp2_with (first | ((with_reducible refine gC 21 ?_); refine gL 114 Try.func21 #[.agg #[.string e5, .string e6, .slice f3 d3.length f4, .int .i64 e7, .slice f7 c9.length f5], .int .i64 d8, .int .i64 d0] ?_; (with_reducible refine (Gd.calls n4 e5 e6 (fun k_ => (k_ ≠ a8 ∧ (k_ ≠ a7 ∧ k_ ≠ b5))) _ _ d3 e7 (fun k_ => (k_ ≠ a8 ∧ (k_ ≠ a7 ∧ k_ ≠ b5))) _ _ c9 d8 d0 F3 F4 v0 F5 v1 F6 _ ?side1 ?side2 W7.out).mono ?_); (case side1 => exact a1.out); (case side2 => exact a0.out); rintro e Aq ⟨Y4, Y5, rfl, k6, k7, hb⟩; refine ⟨_, rfl, ?_⟩; replace a1 := vB a1 hb; replace a0 := vB a0 hb; replace a4 := vB a4 hb; replace a5 := vB a5 hb; have r6 := am (Kd.V_lower (Kd.V_mono (ok' := fun k_ => k_ ≠ a8 ∧ k_ ≠ a7 ∧ k_ ≠ b5) k6 (fun k_ e4 => ⟨Or.elim e4 (fun b0 => Or.elim b0 (fun b0 => b0.1) (fun b0 => b0.1)) (fun d6 => (Kd.freshB (pk a3.out) k_ d6)), Or.elim e4 (fun b0 => Or.elim b0 (fun b0 => b0.2.1) (fun b0 => b0.2.1)) (fun d6 => (Kd.freshB (pk a2.out) k_ d6)), Or.elim e4 (fun b0 => Or.elim b0 (fun b0 => b0.2.2) (fun b0 => b0.2.2)) (fun d6 => (Kd.freshB (pk a9.out) k_ d6))⟩)) (below_size (pB HB.out))); have r7 := am (Kd.V_lower (Kd.V_mono (ok' := fun k_ => k_ ≠ a8 ∧ k_ ≠ a7 ∧ k_ ≠ b5) k7 (fun k_ e4 => ⟨Or.elim e4 (fun b0 => Or.elim b0 (fun b0 => b0.1) (fun b0 => b0.1)) (fun d6 => (Kd.freshB (pk a3.out) k_ d6)), Or.elim e4 (fun b0 => Or.elim b0 (fun b0 => b0.2.1) (fun b0 => b0.2.1)) (fun d6 => (Kd.freshB (pk a2.out) k_ d6)), Or.elim e4 (fun b0 => Or.elim b0 (fun b0 => b0.2.2) (fun b0 => b0.2.2)) (fun d6 => (Kd.freshB (pk a9.out) k_ d6))⟩)) (below_size (pB HB.out))); replace a3 := kB a3 hb; replace a2 := kB a2 hb; replace a9 := kB a9 hb; replace HB := bS HB hb; (try clear hb); (try clear hb2); (try clear hk); (try clear hi); (try clear k6); (try clear k7); have H9 := y5 a2; obtain ⟨J6, L1, M6⟩ := Kd.V_slice r6.out; subst M6; obtain ⟨J7, L2, M7⟩ := Kd.V_slice r7.out; subst M7))
               go_meet
               case rel => exact ⟨_, (F6), (d8), (F3), (F4), (v0), (F5), (v1), (.slice J6 v0.length L1), (.slice J7 v1.length L2), el, el, H', ⟨by have := i0.out; have := i9.out; have := j0.out; have := h3.out; have := i8.out; first | omega | exact Nat.le_refl _⟩, ⟨(pV r6.out)⟩, ⟨(pV r7.out)⟩, ⟨(pV a4.out)⟩, ⟨(pV a5.out)⟩, ⟨pk a3.out⟩, ⟨pP a2.out⟩, ⟨pk a9.out⟩, ⟨pB HB.out⟩⟩
              rw [if_neg A2] at H
              obtain ⟨A4, A5⟩ := qf A2
              by_cases A6 : (Int.tmod (wrap64 ((Int.tmod g7 3) + 3)) 3) = 2
              ·
               rw [if_pos A6] at H
               obtain ⟨A7, A8⟩ := qt A6
               clear A6
               by_cases H0 : 0 ≤ f9
               ·
                rw [if_pos H0] at H
                have S5 := decide_eq_true H0
                clear H0
                by_cases H1 : f9 < (c9.length : Int)
                ·
                 rw [if_pos H1] at H
                 have S6 := decide_eq_true H1
                 clear H1
                 obtain ⟨ji88, hji88⟩ : ∃ j_ : Int, (mx d8 ((rd_T51 c9 f9).f2)) = j_ := ⟨_, rfl⟩
                 replace H : ((F3.f n4 e5 e6 d3 e7 c9 (ji88)).bind fun h7 => (Fa.j5 n4 l1 h7.2.2.2.2.2 g0 ji88 d0 h7.1 h7.2.1 h7.2.2.1 h7.2.2.2.1 h7.2.2.2.2.1)) = some r := by first | (rw [hji88] at H; exact H) | (simp only [hji88] at H ⊢; exact H)
                 have N2 : (if d8 < ((rd_T51 c9 f9).f2) then ((rd_T51 c9 f9).f2) else d8) = ji88 := hji88
                 replace H := Option.bind_eq_some_iff.mp H
                 obtain ⟨⟨F7, F8, v2, F9, v3, G0⟩, x3, H⟩ := H
                 try dsimp only at H
                 have W8 := am x3
                 clear x3
                 have H' := am H
                 clear H
                 have W2 := nn b2
                 have W3 := nn d2
                 have I0 := y5 a2
                 have u4 : 0 ≤ (f9 : Int) := od
                 have u7 : f9 < (c9.length : Int) := od
                 obtain ⟨y6, L7, I2, I3, I4, I5, I6⟩ := at_T51 (Kd.V_reads' a0.out).2.2 f9 u4 u7
                 cases L7
                 replace u4 := eq_true u4
                 replace u7 := eq_true u7
                 go_wp2_with (first | ((with_reducible refine gC 14 ?_); refine goesL_ (some 130) rfl rfl Try.func14 (by kernel_rfl) rfl #[.agg #[.string e5, .string e6, .slice f3 d3.length f4, .int .i64 e7, .slice (some y6) c9.length f5], .int .i64 ji88] rfl (by (try simp only [List.map_toArray, List.map_cons, List.map_nil]); first | done | (simp only [hji88]; rfl) | rfl | (simp only [List.length_drop, List.length_take]; rfl)) ?_; (with_reducible refine (F3.calls n4 e5 e6 (fun k_ => (k_ ≠ a8 ∧ (k_ ≠ a7 ∧ k_ ≠ b5))) _ _ d3 e7 (fun k_ => (k_ ≠ a8 ∧ (k_ ≠ a7 ∧ k_ ≠ b5))) _ _ c9 ji88 F7 F8 v2 F9 v3 G0 _ ?side1 ?side2 W8.out).mono ?_); (case side1 => exact a1.out); (case side2 => exact a0.out); rintro e Ar ⟨Y6, Y7, rfl, k6, k7, hb⟩; refine ⟨_, rfl, ?_⟩; replace a1 := vB a1 hb; replace a0 := vB a0 hb; replace a4 := vB a4 hb; replace a5 := vB a5 hb; have r8 := am (Kd.V_lower (Kd.V_mono (ok' := fun k_ => k_ ≠ a8 ∧ k_ ≠ a7 ∧ k_ ≠ b5) k6 (fun k_ e4 => ⟨Or.elim e4 (fun b0 => Or.elim b0 (fun b0 => b0.1) (fun b0 => b0.1)) (fun d6 => (Kd.freshB (pk a3.out) k_ d6)), Or.elim e4 (fun b0 => Or.elim b0 (fun b0 => b0.2.1) (fun b0 => b0.2.1)) (fun d6 => (Kd.freshB (pk a2.out) k_ d6)), Or.elim e4 (fun b0 => Or.elim b0 (fun b0 => b0.2.2) (fun b0 => b0.2.2)) (fun d6 => (Kd.freshB (pk a9.out) k_ d6))⟩)) (below_size (pB HB.out))); have r9 := am (Kd.V_lower (Kd.V_mono (ok' := fun k_ => k_ ≠ a8 ∧ k_ ≠ a7 ∧ k_ ≠ b5) k7 (fun k_ e4 => ⟨Or.elim e4 (fun b0 => Or.elim b0 (fun b0 => b0.1) (fun b0 => b0.1)) (fun d6 => (Kd.freshB (pk a3.out) k_ d6)), Or.elim e4 (fun b0 => Or.elim b0 (fun b0 => b0.2.1) (fun b0 => b0.2.1)) (fun d6 => (Kd.freshB (pk a2.out) k_ d6)), Or.elim e4 (fun b0 => Or.elim b0 (fun b0 => b0.2.2) (fun b0 => b0.2.2)) (fun d6 => (Kd.freshB (pk a9.out) k_ d6))⟩)) (below_size (pB HB.out))); replace a3 := kB a3 hb; replace a2 := kB a2 hb; replace a9 := kB a9 hb; replace HB := bS HB hb; (try clear hb); (try clear hb2); (try clear hk); (try clear hi); (try clear k6); (try clear k7); have I1 := y5 a2; obtain ⟨J8, L3, M8⟩ := Kd.V_slice r8.out; subst M8; obtain ⟨J9, L4, M9⟩ := Kd.V_slice r9.out; subst M9))
                 go_meet
                 case rel => exact ⟨_, (G0), (ji88), (F7), (F8), (v2), (F9), (v3), (.slice J8 v2.length L3), (.slice J9 v3.length L4), el, (by first | rfl | (simp; done) | (simp only [← hji88] <;> (first | rfl | simp)) | (simp [*]; done)), H', ⟨by have := i0.out; have := i9.out; have := j0.out; have := h3.out; have := i8.out; first | omega | exact Nat.le_refl _⟩, ⟨(pV r8.out)⟩, ⟨(pV r9.out)⟩, ⟨(pV a4.out)⟩, ⟨(pV a5.out)⟩, ⟨pk a3.out⟩, ⟨pP a2.out⟩, ⟨pk a9.out⟩, ⟨pB HB.out⟩⟩
                rw [if_neg H1] at H
                exact absurd H (by simp)
               rw [if_neg H0] at H
               exact absurd H (by simp)
              rw [if_neg A6] at H
              obtain ⟨A7, A8⟩ := qf A6
              have H' := am H
              clear H
              go_wp2
              go_meet
              case rel => exact ⟨_, (i5), (d8), (e5), (e6), (d3), (e7), (c9), (.slice f3 d3.length f4), (.slice f7 c9.length f5), el, el, H', ⟨by have := i0.out; have := i9.out; have := j0.out; have := h3.out; have := i8.out; first | omega | exact Nat.le_refl _⟩, ⟨(pV a1.out)⟩, ⟨(pV a0.out)⟩, ⟨(pV a4.out)⟩, ⟨(pV a5.out)⟩, ⟨pk a3.out⟩, ⟨pk a2.out⟩, ⟨pk a9.out⟩, ⟨pB HB.out⟩⟩
             case rest =>
              clear s9
              try clear c1
              try clear c4
              try clear j7
              try clear j8
              try clear n8
              try clear h2
              try clear o4
              try clear h8
              try clear o6
              try clear j2
              try clear t7
              try clear d9
              try clear e0
              try clear f8
              try clear g8
              try clear g9
              try clear i1
              try clear i2
              try clear f6
              obtain ⟨kq, h9, k9, b8, b9, c6, b1, c7, d1, d5, rfl, rfl, HA, o7, a1, a0, a4, a5, a3, a2, a9, HB⟩ := hcut
              cases kq with
              | zero => exact absurd HA.out (by simp [Fa.j5])
              | succ E7 =>
               have H := HA.out
               clear HA
               simp only [Fa.j5] at H
               have t0 := am H
               clear H
               go_upto_region 34 with (fail)
               go_cut [139] (fun P7 wc => ∃ (kq : Nat) (h0 : Bool), P7 = .bool h0 ∧ Aside0 (Fa.j6 kq l1 h9 g0 k9 d0 h0 b8 b9 c6 b1 c7 = some r) ∧ Aside0 (kq ≤ E7) ∧ Aside0 (Kd.V k49 49 wc w.heap.size (fun k_ => k_ ≠ a8 ∧ k_ ≠ a7 ∧ k_ ≠ b5) d1 c6) ∧ Aside0 (Kd.V k51 51 wc w.heap.size (fun k_ => k_ ≠ a8 ∧ k_ ≠ a7 ∧ k_ ≠ b5) d5 c7) ∧ Aside0 (Kd.V k49 49 wc w.heap.size (fun k_ => k_ ≠ a8 ∧ k_ ≠ a7 ∧ k_ ≠ b5) (.slice f3 d3.length f4) d3) ∧ Aside0 (Kd.V k51 51 wc w.heap.size (fun k_ => k_ ≠ a8 ∧ k_ ≠ a7 ∧ k_ ≠ b5) (.slice f7 c9.length f5) c9) ∧ Aside0 (wc.heap[a8]? = some (.cells #[.string e9, (.slice g1 d7.length g6)] 24 (0, 0))) ∧ Aside0 (wc.heap[a7]? = some (.cells #[.string b8, .string b9, d1, .int .i64 b1, d5] 27 (0, 0))) ∧ Aside0 (wc.heap[b5]? = some (.cells #[.string e5, .string e6, (.slice f3 d3.length f4), .int .i64 e7, (.slice f7 c9.length f5)] 27 (0, 0))) ∧ Aside0 (Below w.heap.size w wc))
               case first =>
                have H := t0.out
                clear t0
                by_cases A9 : h9 = 0
                ·
                 rw [if_pos A9] at H
                 obtain ⟨k5, B0⟩ := qt A9
                 clear A9
                 (first | rw [k5] | (simp only [i64_w, i32_w]; rw [k5]) | skip)
                 replace H := Option.bind_eq_some_iff.mp H
                 obtain ⟨G1, x4, H⟩ := H
                 try dsimp only at H
                 have W9 := am x4
                 clear x4
                 have H' := am H
                 clear H
                 have N3 := nn b2
                 have N4 := nn d2
                 have D0 := y5 a2
                 obtain ⟨Q1, S7, B3⟩ := Kd.V_slice a1.out
                 subst B3
                 obtain ⟨Q2, S8, B4⟩ := Kd.V_slice a0.out
                 subst B4
                 go_wp2_with (first | (go_at_call 15; (with_reducible refine (Fb.calls E7 b8 b9 _ _ c6 b1 _ _ c7 G1 _ ?side1 ?side2 ?side3 ?side4 W9.out).mono ?_); (case side1 => exact pC ((Kd.V_reads' a1.out).2.2)); (case side2 => exact (Kd.V_reads' a1.out).2.1); (case side3 => exact pC ((Kd.V_reads' a0.out).2.2)); (case side4 => exact (Kd.V_reads' a0.out).2.1); rintro e Y9 ⟨rfl, hb⟩; replace a1 := vB a1 hb; replace a0 := vB a0 hb; replace a4 := vB a4 hb; replace a5 := vB a5 hb; replace a3 := kB a3 hb; replace a2 := kB a2 hb; replace a9 := kB a9 hb; replace HB := bS HB hb; (try clear hb); (try clear hb2); (try clear hk); (try clear hi)))
                 go_meet
                 case rel => exact ⟨_, (!G1), el, H', ⟨by have := i0.out; have := i9.out; have := j0.out; have := h3.out; have := i8.out; have := o7.out; first | omega | exact Nat.le_refl _⟩, ⟨(pV a1.out)⟩, ⟨(pV a0.out)⟩, ⟨(pV a4.out)⟩, ⟨(pV a5.out)⟩, ⟨pk a3.out⟩, ⟨pk a2.out⟩, ⟨pk a9.out⟩, ⟨pB HB.out⟩⟩
                rw [if_neg A9] at H
                obtain ⟨k5, B0⟩ := qf A9
                (first | rw [k5] | (simp only [i64_w, i32_w]; rw [k5]) | skip)
                have H' := am H
                clear H
                go_wp2
                go_meet
                case rel => exact ⟨_, (true), el, H', ⟨by have := i0.out; have := i9.out; have := j0.out; have := h3.out; have := i8.out; have := o7.out; first | omega | exact Nat.le_refl _⟩, ⟨(pV a1.out)⟩, ⟨(pV a0.out)⟩, ⟨(pV a4.out)⟩, ⟨(pV a5.out)⟩, ⟨pk a3.out⟩, ⟨pk a2.out⟩, ⟨pk a9.out⟩, ⟨pB HB.out⟩⟩
               case rest =>
                clear t0
                try clear c1
                try clear c4
                try clear j7
                try clear j8
                try clear n8
                try clear h2
                try clear o4
                try clear h8
                try clear o6
                try clear j2
                try clear t7
                try clear d9
                try clear e0
                try clear f8
                try clear g8
                try clear g9
                try clear i1
                try clear i2
                try clear f6
                obtain ⟨kq, h0, rfl, HA, x9, a1, a0, a4, a5, a3, a2, a9, HB⟩ := hcut
                cases kq with
                | zero => exact absurd HA.out (by simp [Fa.j6])
                | succ k8 =>
                 have H := HA.out
                 clear HA
                 simp only [Fa.j6] at H
                 by_cases o8 : h0 = true
                 ·
                  subst o8
                  rw [if_pos rfl] at H
                  try dsimp only at H
                  exact absurd H (by simp)
                 replace o8 := Bool.eq_false_iff.mpr o8
                 subst o8
                 rw [if_neg (show ¬ (false = true) by decide)] at H
                 try dsimp only at H
                 by_cases o1 : b1 = 0
                 ·
                  rw [if_pos o1] at H
                  obtain ⟨t1, t2⟩ := qt o1
                  clear o1
                  have H' := am H
                  clear H
                  have N5 := nn b2
                  have N6 := nn d2
                  have D1 := y5 a2
                  go_wp2
                  go_roundg k8
                  case measure => have := i0.out; have := i9.out; have := j0.out; have := h3.out; have := i8.out; have := o7.out; have := x9.out; omega
                  case rel => exact ⟨(h9), (k9), (wrap64 (d0 + 1)), (b8), (b9), (c6), (b1), (c7), (d1), (d5), el, el, el, H', ⟨by have := i0.out; have := i9.out; have := j0.out; have := h3.out; have := i8.out; have := o7.out; have := x9.out; omega⟩, ⟨by exact Kd.V_mono (pV a1.out) (fun _ hk => ⟨hk.1, hk.2.1⟩)⟩, ⟨by exact Kd.V_mono (pV a0.out) (fun _ hk => ⟨hk.1, hk.2.1⟩)⟩, ⟨pk a3.out⟩, ⟨pk a2.out⟩, ⟨pB HB.out⟩⟩
                 rw [if_neg o1] at H
                 obtain ⟨t1, t2⟩ := qf o1
                 replace H := Option.bind_eq_some_iff.mp H
                 obtain ⟨P3, q4, H⟩ := H
                 try dsimp only at H
                 have s2 := am q4
                 clear q4
                 by_cases o9 : P3 = true
                 ·
                  subst o9
                  rw [if_pos rfl] at H
                  try dsimp only at H
                  by_cases o2 : b1 = 2
                  ·
                   rw [if_pos o2] at H
                   obtain ⟨t3, t4⟩ := qt o2
                   clear o2
                   replace H := Option.bind_eq_some_iff.mp H
                   obtain ⟨P4, q5, H⟩ := H
                   try dsimp only at H
                   have w4 := am q5
                   clear q5
                   by_cases p0 : P4 = true
                   ·
                    subst p0
                    rw [if_pos rfl] at H
                    try dsimp only at H
                    obtain rfl := Option.some.inj H
                    have N7 := nn b2
                    have N8 := nn d2
                    have D2 := y5 a2
                    go_wp2_with (first | ((with_reducible refine gC 16 ?_); refine gL 143 Try.func16 #[] ?_; (with_reducible refine (Fo.calls k8  true _ s2.out).mono ?_); rintro e Z0 ⟨rfl, hb⟩; refine ⟨_, rfl, ?_⟩; replace a1 := vB a1 hb; replace a0 := vB a0 hb; replace a4 := vB a4 hb; replace a5 := vB a5 hb; replace a3 := kB a3 hb; replace a2 := kB a2 hb; replace a9 := kB a9 hb; replace HB := bS HB hb; (try clear hb); (try clear hb2); (try clear hk); (try clear hi); have D3 := y5 a2; obtain ⟨Q3, S9, B5⟩ := Kd.V_slice a1.out; subst B5; obtain ⟨Q4, T0, B6⟩ := Kd.V_slice a0.out; subst B6) | (go_at_call 27; (with_reducible refine (Ff.calls k8 b8 b9 _ _ c6 b1 _ _ c7 4 true _ ?side1 ?side2 ?side3 ?side4 w4.out).mono ?_); (case side1 => exact pC ((Kd.V_reads' a1.out).2.2)); (case side2 => exact (Kd.V_reads' a1.out).2.1); (case side3 => exact pC ((Kd.V_reads' a0.out).2.2)); (case side4 => exact (Kd.V_reads' a0.out).2.1); rintro e Z1 ⟨rfl, hb⟩; replace a1 := vB a1 hb; replace a0 := vB a0 hb; replace a4 := vB a4 hb; replace a5 := vB a5 hb; replace a3 := kB a3 hb; replace a2 := kB a2 hb; replace a9 := kB a9 hb; replace HB := bS HB hb; (try clear hb); (try clear hb2); (try clear hk); (try clear hi)))
                    go_ret
                    exact ⟨er, pB HB.out⟩
                   replace p0 := Bool.eq_false_iff.mpr p0
                   subst p0
                   rw [if_neg (show ¬ (false = true) by decide)] at H
                   try dsimp only at H
                   by_cases p1 : b1 = 1
                   ·
                    rw [if_pos p1] at H
                    obtain ⟨K0, K1⟩ := qt p1
                    clear p1
                    replace H := Option.bind_eq_some_iff.mp H
                    obtain ⟨P5, q6, H⟩ := H
                    try dsimp only at H
                    have I7 := am q6
                    clear q6
                    obtain rfl := Option.some.inj H
                    have N9 := nn b2
                    have O0 := nn d2
                    have D4 := y5 a2
                    go_wp2_with (first | ((with_reducible refine gC 16 ?_); refine gL 143 Try.func16 #[] ?_; (with_reducible refine (Fo.calls k8  true _ s2.out).mono ?_); rintro e Z2 ⟨rfl, hb⟩; refine ⟨_, rfl, ?_⟩; replace a1 := vB a1 hb; replace a0 := vB a0 hb; replace a4 := vB a4 hb; replace a5 := vB a5 hb; replace a3 := kB a3 hb; replace a2 := kB a2 hb; replace a9 := kB a9 hb; replace HB := bS HB hb; (try clear hb); (try clear hb2); (try clear hk); (try clear hi); have D5 := y5 a2; obtain ⟨Q5, T1, B7⟩ := Kd.V_slice a1.out; subst B7; obtain ⟨Q6, T2, B8⟩ := Kd.V_slice a0.out; subst B8) | (go_at_call 27; (with_reducible refine (Ff.calls k8 b8 b9 _ _ c6 b1 _ _ c7 4 false _ ?side1 ?side2 ?side3 ?side4 w4.out).mono ?_); (case side1 => exact pC ((Kd.V_reads' a1.out).2.2)); (case side2 => exact (Kd.V_reads' a1.out).2.1); (case side3 => exact pC ((Kd.V_reads' a0.out).2.2)); (case side4 => exact (Kd.V_reads' a0.out).2.1); rintro e Z3 ⟨rfl, hb⟩; replace a1 := vB a1 hb; replace a0 := vB a0 hb; replace a4 := vB a4 hb; replace a5 := vB a5 hb; replace a3 := kB a3 hb; replace a2 := kB a2 hb; replace a9 := kB a9 hb; replace HB := bS HB hb; (try clear hb); (try clear hb2); (try clear hk); (try clear hi); have D6 := y5 a2) | (go_at_call 27; (with_reducible refine (Ff.calls k8 b8 b9 _ _ c6 b1 _ _ c7 1 P5 _ ?side1 ?side2 ?side3 ?side4 I7.out).mono ?_); (case side1 => exact pC ((Kd.V_reads' a1.out).2.2)); (case side2 => exact (Kd.V_reads' a1.out).2.1); (case side3 => exact pC ((Kd.V_reads' a0.out).2.2)); (case side4 => exact (Kd.V_reads' a0.out).2.1); rintro e Z4 ⟨rfl, hb⟩; replace a1 := vB a1 hb; replace a0 := vB a0 hb; replace a4 := vB a4 hb; replace a5 := vB a5 hb; replace a3 := kB a3 hb; replace a2 := kB a2 hb; replace a9 := kB a9 hb; replace HB := bS HB hb; (try clear hb); (try clear hb2); (try clear hk); (try clear hi)))
                    go_ret
                    exact ⟨er, pB HB.out⟩
                   rw [if_neg p1] at H
                   exact absurd H (by simp)
                  rw [if_neg o2] at H
                  obtain ⟨t3, t4⟩ := qf o2
                  by_cases p2 : b1 = 1
                  ·
                   rw [if_pos p2] at H
                   obtain ⟨K2, K3⟩ := qt p2
                   clear p2
                   replace H := Option.bind_eq_some_iff.mp H
                   obtain ⟨P6, q7, H⟩ := H
                   try dsimp only at H
                   have I8 := am q7
                   clear q7
                   obtain rfl := Option.some.inj H
                   have O1 := nn b2
                   have O2 := nn d2
                   have D7 := y5 a2
                   go_wp2_with (first | ((with_reducible refine gC 16 ?_); refine gL 143 Try.func16 #[] ?_; (with_reducible refine (Fo.calls k8  true _ s2.out).mono ?_); rintro e Z5 ⟨rfl, hb⟩; refine ⟨_, rfl, ?_⟩; replace a1 := vB a1 hb; replace a0 := vB a0 hb; replace a4 := vB a4 hb; replace a5 := vB a5 hb; replace a3 := kB a3 hb; replace a2 := kB a2 hb; replace a9 := kB a9 hb; replace HB := bS HB hb; (try clear hb); (try clear hb2); (try clear hk); (try clear hi); have D8 := y5 a2; obtain ⟨Q7, T3, B9⟩ := Kd.V_slice a1.out; subst B9; obtain ⟨Q8, T4, C0⟩ := Kd.V_slice a0.out; subst C0) | (go_at_call 27; (with_reducible refine (Ff.calls k8 b8 b9 _ _ c6 b1 _ _ c7 1 P6 _ ?side1 ?side2 ?side3 ?side4 I8.out).mono ?_); (case side1 => exact pC ((Kd.V_reads' a1.out).2.2)); (case side2 => exact (Kd.V_reads' a1.out).2.1); (case side3 => exact pC ((Kd.V_reads' a0.out).2.2)); (case side4 => exact (Kd.V_reads' a0.out).2.1); rintro e Z6 ⟨rfl, hb⟩; replace a1 := vB a1 hb; replace a0 := vB a0 hb; replace a4 := vB a4 hb; replace a5 := vB a5 hb; replace a3 := kB a3 hb; replace a2 := kB a2 hb; replace a9 := kB a9 hb; replace HB := bS HB hb; (try clear hb); (try clear hb2); (try clear hk); (try clear hi)))
                   go_ret
                   exact ⟨er, pB HB.out⟩
                  rw [if_neg p2] at H
                  exact absurd H (by simp)
                 replace o9 := Bool.eq_false_iff.mpr o9
                 subst o9
                 rw [if_neg (show ¬ (false = true) by decide)] at H
                 try dsimp only at H
                 exact absurd H (by simp)
      rw [if_neg o4] at H
      have h8 := decide_eq_false o4
      clear o4
      replace H := Option.bind_eq_some_iff.mp H
      obtain ⟨O9, q8, H⟩ := H
      try dsimp only at H
      have s3 := am q8
      clear q8
      by_cases p3 : O9 = true
      ·
       subst p3
       rw [if_pos rfl] at H
       try dsimp only at H
       by_cases o3 : b3 = 2
       ·
        rw [if_pos o3] at H
        obtain ⟨t5, t6⟩ := qt o3
        clear o3
        replace H := Option.bind_eq_some_iff.mp H
        obtain ⟨P0, q9, H⟩ := H
        try dsimp only at H
        have w6 := am q9
        clear q9
        by_cases p4 : P0 = true
        ·
         subst p4
         rw [if_pos rfl] at H
         try dsimp only at H
         obtain rfl := Option.some.inj H
         go_wp2_with (first | ((with_reducible refine gC 16 ?_); refine gL 143 Try.func16 #[] ?_; (with_reducible refine (Fo.calls k2  true _ s3.out).mono ?_); rintro e Z7 ⟨rfl, hb⟩; refine ⟨_, rfl, ?_⟩; replace a1 := vB a1 hb; replace a0 := vB a0 hb; replace a3 := kB a3 hb; replace a2 := kB a2 hb; replace HB := bS HB hb; (try clear hb); (try clear hb2); (try clear hk); (try clear hi); have O3 := nn b2; have D9 := y5 a2; obtain ⟨Q9, T5, C1⟩ := Kd.V_slice a1.out; subst C1; obtain ⟨R0, T6, C2⟩ := Kd.V_slice a0.out; subst C2) | (go_at_call 27; (with_reducible refine (Ff.calls k2 b6 b7 _ _ b4 b3 _ _ a6 4 true _ ?side1 ?side2 ?side3 ?side4 w6.out).mono ?_); (case side1 => exact pC ((Kd.V_reads' a1.out).2.2)); (case side2 => exact (Kd.V_reads' a1.out).2.1); (case side3 => exact pC ((Kd.V_reads' a0.out).2.2)); (case side4 => exact (Kd.V_reads' a0.out).2.1); rintro e Z8 ⟨rfl, hb⟩; replace a1 := vB a1 hb; replace a0 := vB a0 hb; replace a3 := kB a3 hb; replace a2 := kB a2 hb; replace HB := bS HB hb; (try clear hb); (try clear hb2); (try clear hk); (try clear hi)))
         go_ret
         exact ⟨er, pB HB.out⟩
        replace p4 := Bool.eq_false_iff.mpr p4
        subst p4
        rw [if_neg (show ¬ (false = true) by decide)] at H
        try dsimp only at H
        by_cases p5 : b3 = 1
        ·
         rw [if_pos p5] at H
         obtain ⟨K4, K5⟩ := qt p5
         clear p5
         replace H := Option.bind_eq_some_iff.mp H
         obtain ⟨P1, r0, H⟩ := H
         try dsimp only at H
         have I9 := am r0
         clear r0
         obtain rfl := Option.some.inj H
         go_wp2_with (first | ((with_reducible refine gC 16 ?_); refine gL 143 Try.func16 #[] ?_; (with_reducible refine (Fo.calls k2  true _ s3.out).mono ?_); rintro e Z9 ⟨rfl, hb⟩; refine ⟨_, rfl, ?_⟩; replace a1 := vB a1 hb; replace a0 := vB a0 hb; replace a3 := kB a3 hb; replace a2 := kB a2 hb; replace HB := bS HB hb; (try clear hb); (try clear hb2); (try clear hk); (try clear hi); have O4 := nn b2; have E0 := y5 a2; obtain ⟨R1, T7, C3⟩ := Kd.V_slice a1.out; subst C3; obtain ⟨R2, T8, C4⟩ := Kd.V_slice a0.out; subst C4) | (go_at_call 27; (with_reducible refine (Ff.calls k2 b6 b7 _ _ b4 b3 _ _ a6 4 false _ ?side1 ?side2 ?side3 ?side4 w6.out).mono ?_); (case side1 => exact pC ((Kd.V_reads' a1.out).2.2)); (case side2 => exact (Kd.V_reads' a1.out).2.1); (case side3 => exact pC ((Kd.V_reads' a0.out).2.2)); (case side4 => exact (Kd.V_reads' a0.out).2.1); rintro e Aa ⟨rfl, hb⟩; replace a1 := vB a1 hb; replace a0 := vB a0 hb; replace a3 := kB a3 hb; replace a2 := kB a2 hb; replace HB := bS HB hb; (try clear hb); (try clear hb2); (try clear hk); (try clear hi); have E1 := y5 a2) | (go_at_call 27; (with_reducible refine (Ff.calls k2 b6 b7 _ _ b4 b3 _ _ a6 1 P1 _ ?side1 ?side2 ?side3 ?side4 I9.out).mono ?_); (case side1 => exact pC ((Kd.V_reads' a1.out).2.2)); (case side2 => exact (Kd.V_reads' a1.out).2.1); (case side3 => exact pC ((Kd.V_reads' a0.out).2.2)); (case side4 => exact (Kd.V_reads' a0.out).2.1); rintro e Ab ⟨rfl, hb⟩; replace a1 := vB a1 hb; replace a0 := vB a0 hb; replace a3 := kB a3 hb; replace a2 := kB a2 hb; replace HB := bS HB hb; (try clear hb); (try clear hb2); (try clear hk); (try clear hi)))
         go_ret
         exact ⟨er, pB HB.out⟩
        rw [if_neg p5] at H
        exact absurd H (by simp)
       rw [if_neg o3] at H
       obtain ⟨t5, t6⟩ := qf o3
       by_cases p6 : b3 = 1
       ·
        rw [if_pos p6] at H
        obtain ⟨K6, K7⟩ := qt p6
        clear p6
        replace H := Option.bind_eq_some_iff.mp H
        obtain ⟨P2, r1, H⟩ := H
        try dsimp only at H
        have J0 := am r1
        clear r1
        obtain rfl := Option.some.inj H
        go_wp2_with (first | ((with_reducible refine gC 16 ?_); refine gL 143 Try.func16 #[] ?_; (with_reducible refine (Fo.calls k2  true _ s3.out).mono ?_); rintro e Ac ⟨rfl, hb⟩; refine ⟨_, rfl, ?_⟩; replace a1 := vB a1 hb; replace a0 := vB a0 hb; replace a3 := kB a3 hb; replace a2 := kB a2 hb; replace HB := bS HB hb; (try clear hb); (try clear hb2); (try clear hk); (try clear hi); have O5 := nn b2; have E2 := y5 a2; obtain ⟨R3, T9, C5⟩ := Kd.V_slice a1.out; subst C5; obtain ⟨R4, U0, C6⟩ := Kd.V_slice a0.out; subst C6) | (go_at_call 27; (with_reducible refine (Ff.calls k2 b6 b7 _ _ b4 b3 _ _ a6 1 P2 _ ?side1 ?side2 ?side3 ?side4 J0.out).mono ?_); (case side1 => exact pC ((Kd.V_reads' a1.out).2.2)); (case side2 => exact (Kd.V_reads' a1.out).2.1); (case side3 => exact pC ((Kd.V_reads' a0.out).2.2)); (case side4 => exact (Kd.V_reads' a0.out).2.1); rintro e Ad ⟨rfl, hb⟩; replace a1 := vB a1 hb; replace a0 := vB a0 hb; replace a3 := kB a3 hb; replace a2 := kB a2 hb; replace HB := bS HB hb; (try clear hb); (try clear hb2); (try clear hk); (try clear hi)))
        go_ret
        exact ⟨er, pB HB.out⟩
       rw [if_neg p6] at H
       exact absurd H (by simp)
      replace p3 := Bool.eq_false_iff.mpr p3
      subst p3
      rw [if_neg (show ¬ (false = true) by decide)] at H
      try dsimp only at H
      exact absurd H (by simp)
 rw [if_neg c4] at H
 obtain ⟨j7, j8⟩ := qf c4
 replace H := Option.bind_eq_some_iff.mp H
 obtain ⟨O7, r2, H⟩ := H
 try dsimp only at H
 have J1 := am r2
 clear r2
 by_cases p7 : O7 = true
 ·
  subst p7
  rw [if_pos rfl] at H
  try dsimp only at H
  replace H := Option.bind_eq_some_iff.mp H
  obtain ⟨O8, r3, H⟩ := H
  try dsimp only at H
  have J2 := am r3
  clear r3
  obtain rfl := Option.some.inj H
  go_enter Try.func6, Try.ntmps6
  go_wp2_with (first | ((with_reducible refine gD 2 ?_); (try (refine gate_guard (by rfl) ?_; dsimp only)); refine bz 2 #[.string e9, .slice g1 d7.length g6] 24 HB ?_; clear HB; intro a8 hg Ae hb a3 i7 HB; clear hb hg; have E3 := y2 a3) | ((with_reducible refine gC 10 ?_); refine gL 20 Try.func10 #[.string (⟨#[107]⟩ : ByteArray), .agg #[.string e9, .slice g1 d7.length g6]] ?_; (with_reducible refine (Fz.calls k (⟨#[107]⟩ : ByteArray) e9 (fun k_ => k_ < w.heap.size) _ _ d7 n5 n6 i3 n7 i4 o5 _ ?side1 A3.out).mono ?_); (case side1 => exact Kd.V_mk o0.out (Kd.F_below (Kd.C_F k49_heap l5.out) (pB HB.out))); rintro e Af ⟨P8, P9, rfl, k6, k7, hb⟩; refine ⟨_, rfl, ?_⟩; have e1 := am (Kd.V_lower (Kd.V_mono (ok' := fun k_ => k_ ≠ a8) k6 (fun k_ e4 => Or.elim e4 (fun b0 => fun e_ => Nat.not_le.2 b0 (by rw [e_]; exact i7.out)) (fun d6 => (Kd.freshB (pk a3.out) k_ d6)))) (below_size (pB HB.out))); have e2 := am (Kd.V_lower (Kd.V_mono (ok' := fun k_ => k_ ≠ a8) k7 (fun k_ e4 => Or.elim e4 (fun b0 => fun e_ => Nat.not_le.2 b0 (by rw [e_]; exact i7.out)) (fun d6 => (Kd.freshB (pk a3.out) k_ d6)))) (below_size (pB HB.out))); replace a3 := kB a3 hb; replace HB := bS HB hb; (try clear hb); (try clear hb2); (try clear hk); (try clear hi); (try clear k6); (try clear k7)) | ((with_reducible refine gD 5 ?_); (try (refine gate_guard (by rfl) ?_; dsimp only)); refine bz 5 #[.string (⟨#[]⟩ : ByteArray), .string (⟨#[]⟩ : ByteArray), .slice none 0 0, .int .i64 0, .slice none 0 0] 27 HB ?_; clear HB; intro a7 hg Ag hb a2 h4 HB; replace e1 := vE e1 hg hb; replace e2 := vE e2 hg hb; have m8 := nL hg a3; have b2 := nG hg a3; replace a3 := kB a3 hb; clear hb hg; have O6 := nn b2; have E4 := y5 a2; obtain ⟨x5, B1, C7⟩ := Kd.V_slice e1.out; subst C7; obtain ⟨x6, B2, C8⟩ := Kd.V_slice e2.out; subst C8) | ((with_reducible refine gC 16 ?_); refine gL 25 Try.func16 #[] ?_; (with_reducible refine (Fo.calls k  true _ J1.out).mono ?_); rintro e Ah ⟨rfl, hb⟩; refine ⟨_, rfl, ?_⟩; replace e1 := vB e1 hb; replace e2 := vB e2 hb; replace a3 := kB a3 hb; replace a2 := am (blk_below (g := a7) (o := .cells #[.string n5, .string n6, .slice x5 i3.length B1, .int .i64 n7, .slice x6 i4.length B2] 27 (0, 0)) (pP a2.out) hb); replace HB := bS HB hb; (try clear hb); (try clear hb2); (try clear hk); (try clear hi); have E5 := y2 a3) | (go_at_call 11; (with_reducible refine (Fh.calls k e9 _ _ d7 O8 _ ?side1 ?side2 J2.out).mono ?_); (case side1 => exact (Kd.C_below l5.out (pB HB.out))); (case side2 => exact o0.out); rintro e Ai ⟨rfl, hb⟩; replace e1 := vB e1 hb; replace e2 := vB e2 hb; replace a3 := kB a3 hb; replace a2 := kB a2 hb; replace HB := bS HB hb; (try clear hb); (try clear hb2); (try clear hk); (try clear hi)))
  go_ret
  exact ⟨er, pB HB.out⟩
 replace p7 := Bool.eq_false_iff.mpr p7
 subst p7
 rw [if_neg (show ¬ (false = true) by decide)] at H
 try dsimp only at H
 exact absurd H (by simp)
end Go.Proofs.Ytabmkighhmchmaa.X
namespace Go.Proofs.Ytabmkighhmchmaa.X
open Go.RowKit Go.Proofs.YtabmkighhmchmaaW.PrintWords
def Fa.Pure : Prop := ∀ (x0 : S24) (x1 : List Int), (x0.f0.size ≤ maxLen ∧ (x0.f1.length ≤ maxLen ∧ ∀ a_ ∈ x0.f1, ((a_.f0.length ≤ maxLen ∧ ∀ b_ ∈ a_.f0, (Lit.int .i64 b_).wf = true) ∧ (Lit.int .i64 a_.f1).wf = true ∧ (Lit.int .i64 a_.f2).wf = true ∧ (Lit.int .i64 a_.f3).wf = true))) → (x1.length ≤ maxLen ∧ ∀ a_ ∈ x1, (Lit.int .i64 a_).wf = true) → ∃ k, Fa.f k x0.f0 x0.f1 x1 = some true
end Go.Proofs.Ytabmkighhmchmaa.X
namespace Go.Proofs.Ytabmkighhmchmaa.X
open Go.RowKit Go.Proofs.YtabmkighhmchmaaW.PrintWords Go.Proofs.YtabmkighhmchmaaW.PrintLast Go.Proofs.YtabmkighhmchmaaW.PrintMore Go.Proofs.YtabmkighhmchmaaW.Sq
attribute [local go_sem] max2_int min2_int max_two min_two max_three min_three max_four min_four
set_option linter.unusedVariables false
set_option linter.unusedSimpArgs false
end Go.Proofs.Ytabmkighhmchmaa.X
namespace Go.Proofs.Ytabmkighhmchmaa.Pure
open Go.RowKit Go.Proofs.Ytabmkighhmchmaa.X Go.Proofs.YtabmkighhmchmaaW.PrintWords Go.Proofs.YtabmkighhmchmaaW.PrintLast
theorem rd51_nat (xs : List S51) (i : Nat) (h : i < xs.length) : rd_T51 xs (i : Int) = xs[i] := by
 simp [rd_T51, List.getD_eq_getElem?_getD, List.getElem?_eq_getElem h]
theorem rd49_nat (ts : List S49) (i : Nat) (h : i < ts.length) : rd_T49 ts (i : Int) = ts[i] := by
 simp [rd_T49, List.getD_eq_getElem?_getD, List.getElem?_eq_getElem h]
theorem wrap_nat (i : Nat) (h : i ≤ 1000000) : wrap64 ((i : Int) + 1) = ((i + 1 : Nat) : Int) := by unfold wrap64; omega
def hasB (c : Int) (xs : List S51) : Bool := xs.any fun s => decide (s.f0 = c)
theorem has_l0 (c : Int) (xs : List S51) (hl : xs.length ≤ 1000) : ∀ m i k : Nat, i + m = xs.length → m < k → Ff.l0 k c xs (xs.length : Int) (i : Int) = some (hasB c (xs.drop i)) := by
 intro m
 induction m with
 | zero =>
  intro i k hi hk
  obtain ⟨k, rfl⟩ : ∃ q, k = q + 1 := ⟨k - 1, by omega⟩
  rw [Ff.l0, if_neg (by omega), List.drop_eq_nil_of_le (by omega)]
  rfl
 | succ m ih =>
  intro i k hi hk
  obtain ⟨k, rfl⟩ : ∃ q, k = q + 1 := ⟨k - 1, by omega⟩
  rw [Ff.l0, if_pos (by omega), if_pos (by omega), if_pos (by omega), rd51_nat xs i (by omega), List.drop_eq_getElem_cons (show i < xs.length by omega)]
  unfold hasB
  rw [List.any_cons]
  by_cases h : xs[i].f0 = c
  ·
   rw [if_pos h, decide_eq_true h, Bool.true_or]
  rw [if_neg h, decide_eq_false h, Bool.false_or, wrap_nat i (by omega), ih (i + 1) k (by omega) (by omega)]
  rfl
theorem has_f (k : Nat) (ky nm : ByteArray) (ts : List S49) (is : Int) (xs : List S51) (c : Int) (hl : xs.length ≤ 1000) (hk : xs.length < k) : Ff.f k ky nm ts is xs c = some (hasB c xs) := by
 have h := has_l0 c xs hl xs.length 0 k (by omega) hk
 rw [List.drop_zero] at h
 exact h
def readyB (ts : List S49) (xs : List S51) (i : Nat) : Bool := (rd_T49 ts (i : Int)).f0.all fun x => decide ((rd_T51 xs x).f0 = 3)
def Wf (ts : List S49) (n : Nat) : Prop := ts.length = n ∧ n ≤ 10 ∧ ∀ i : Nat, i < n → (rd_T49 ts (i : Int)).f0.length ≤ 10 ∧ ∀ x ∈ (rd_T49 ts (i : Int)).f0, 0 ≤ x ∧ x < (n : Int)
theorem rdI_nat (l : List Int) (i : Nat) (h : i < l.length) : rd l (i : Int) = l[i] := by simp [rd, List.getD_eq_getElem?_getD, List.getElem?_eq_getElem h]
theorem isready_l0 (l : List Int) (ky nm : ByteArray) (ts : List S49) (is : Int) (xs : List S51) (hl : l.length ≤ 1000) (hx : ∀ x ∈ l, 0 ≤ x ∧ x < (xs.length : Int)) : ∀ m i k : Nat, i + m = l.length → m < k →
  Fi.l0 k l (l.length : Int) (i : Int) ky nm ts is xs = some ((l.drop i).all fun x => decide ((rd_T51 xs x).f0 = 3)) := by
 intro m
 induction m with
 | zero =>
  intro i k hi hk
  obtain ⟨k, rfl⟩ : ∃ q, k = q + 1 := ⟨k - 1, by omega⟩
  rw [Fi.l0, if_neg (by omega), List.drop_eq_nil_of_le (by omega)]
  rfl
 | succ m ih =>
  intro i k hi hk
  obtain ⟨k, rfl⟩ : ∃ q, k = q + 1 := ⟨k - 1, by omega⟩
  have hb := hx l[i] (List.getElem_mem _)
  rw [Fi.l0, if_pos (by omega), if_pos (by omega), if_pos (by omega), rdI_nat l i (by omega), if_pos hb.1, if_pos hb.2, List.drop_eq_getElem_cons (show i < l.length by omega), List.all_cons]
  by_cases h : (rd_T51 xs l[i]).f0 = 3
  ·
   rw [if_pos h, decide_eq_true h, Bool.true_and, wrap_nat i (by omega), ih (i + 1) k (by omega) (by omega)]
  rw [if_neg h, decide_eq_false h, Bool.false_and]
theorem isready_f (k : Nat) (ky nm : ByteArray) (ts : List S49) (is : Int) (xs : List S51) (h : Wf ts xs.length) (i : Nat) (hi : i < xs.length) (hk : 20 ≤ k) : Fi.f k ky nm ts is xs (i : Int) = some (readyB ts xs i) := by
 obtain ⟨h1, h2, h3⟩ := h
 obtain ⟨h4, h5⟩ := h3 i hi
 unfold Fi.f
 rw [if_pos (by omega), if_pos (by omega)]
 have h6 := isready_l0 (rd_T49 ts (i : Int)).f0 ky nm ts is xs (by omega) h5 (rd_T49 ts (i : Int)).f0.length 0 k (by omega) (by omega)
 rw [List.drop_zero] at h6
 exact h6
theorem anyO_open (xs : List S51) : ∀ l : List Int, (∀ x ∈ l, 0 ≤ x ∧ x < (xs.length : Int)) → anyO (openO xs) l = some (!(l.all fun x => decide ((rd_T51 xs x).f0 = 3)))
 | [], _ => rfl
 | x :: l, h => by
  have hb := h x (List.mem_cons_self ..)
  rw [anyO, openO, if_pos hb, Option.bind_some, List.all_cons, anyO_open xs l (fun y hy => h y (List.mem_cons_of_mem _ hy))]
  by_cases e : (rd_T51 xs x).f0 = 3
  ·
   rw [decide_eq_true e, Bool.true_and, if_neg (by simp [e])]
  rw [decide_eq_false e, Bool.false_and, if_pos (by simpa using e)]
  rfl
theorem ready_o (ts : List S49) (xs : List S51) (h : Wf ts xs.length) (i : Nat) (hi : i < xs.length) : readyO ts xs (i : Int) = some (readyB ts xs i) := by
 obtain ⟨h1, h2, h3⟩ := h
 obtain ⟨h4, h5⟩ := h3 i hi
 unfold readyO
 rw [if_pos ⟨by omega, by omega⟩]
 unfold anyF
 rw [if_pos (by omega), anyO_open xs _ h5, Option.bind_some, Bool.not_not]
 rfl
end Go.Proofs.Ytabmkighhmchmaa.Pure
namespace Go.Proofs.Ytabmkighhmchmaa.X
open Go.RowKit Go.Proofs.YtabmkighhmchmaaW.PrintWords Go.Proofs.YtabmkighhmchmaaW.PrintLast Go.Proofs.YtabmkighhmchmaaW.PrintMore Go.Proofs.YtabmkighhmchmaaW.Sq
attribute [local go_sem] max2_int min2_int max_two min_two max_three min_three max_four min_four
set_option linter.unusedVariables false
set_option linter.unusedSimpArgs false
set_option linter.unusedSimpArgs false
end Go.Proofs.Ytabmkighhmchmaa.X
namespace Go.Proofs.Ytabmkighhmchmaa.Pure
open Go.RowKit Go.Proofs.Ytabmkighhmchmaa.X Go.Proofs.YtabmkighhmchmaaW.PrintWords Go.Proofs.YtabmkighhmchmaaW.PrintLast
def readyTo (ts : List S49) (xs : List S51) : Nat → List S51
 | 0 => xs
 | q + 1 => if readyB ts (readyTo ts xs q) q = true then (readyTo ts xs q).set q (readyS (rd_T51 xs (q : Int))) else readyTo ts xs q
theorem readyTo_len (ts : List S49) (xs : List S51) : ∀ q, (readyTo ts xs q).length = xs.length
 | 0 => rfl
 | q + 1 => by rw [readyTo]; split <;> simp [readyTo_len ts xs q]
theorem readyTo_at (ts : List S49) (xs : List S51) : ∀ (q j : Nat), q ≤ j → rd_T51 (readyTo ts xs q) (j : Int) = rd_T51 xs (j : Int)
 | 0, _, _ => rfl
 | q + 1, j, h => by
  have ih := readyTo_at ts xs q j (by omega)
  rw [readyTo]
  split
  ·
   rw [← ih]
   unfold rd_T51
   simp only [Int.toNat_natCast, List.getD_eq_getElem?_getD]
   rw [List.getElem?_set_ne (by omega)]
  exact ih
def allB (c : Int) (xs : List S51) : Bool := xs.all fun s => decide (s.f0 = c)
def mendP (ts : List S49) (is : Int) (xs : List S51) : Int × List S51 :=
 if hasB 4 xs = true then (2, xs.map cancelS) else (if allB 3 (readyTo ts xs xs.length) = true then 1 else is, readyTo ts xs xs.length)
theorem upto_snd (xs : List S51) : ∀ n, n ≤ xs.length → (upto xs n).map (·.2) = xs.take n
 | 0, _ => by simp [upto]
 | n + 1, h => by rw [upto_succ, List.map_append, upto_snd xs n (by omega), List.take_succ_eq_append_getElem (by omega)]; simp [rd51_nat xs n (by omega)]
theorem cnt_eq (ks : List Int) (xs : List S51) : cntI ks (upto xs xs.length) = ((xs.filter fun s => ks.contains s.f0).length : Int) := by
 unfold cntI
 rw [← List.length_map (f := (·.2)) , show (List.filter (fun x : Nat × S51 => ks.contains x.2.f0) (upto xs xs.length)).map (·.2) = List.filter (fun s : S51 => ks.contains s.f0) ((upto xs xs.length).map (·.2)) by rw [List.filter_map]; rfl, upto_snd xs _ (Nat.le_refl _), List.take_length]
theorem cnt_pos (c : Int) (xs : List S51) : 0 < cntI [c] (upto xs xs.length) ↔ hasB c xs = true := by
 rw [cnt_eq]
 unfold hasB
 rw [List.any_eq_true]
 constructor
 ·
  intro h
  obtain ⟨s, hs⟩ := List.exists_mem_of_length_pos (l := xs.filter fun s => [c].contains s.f0) (by omega)
  rw [List.mem_filter] at hs
  exact ⟨s, hs.1, by simpa using hs.2⟩
 rintro ⟨s, hs, h⟩
 have : s ∈ xs.filter fun s => [c].contains s.f0 := List.mem_filter.2 ⟨hs, by simpa using h⟩
 have := List.length_pos_of_mem this
 omega
theorem cnt_all (c : Int) (xs : List S51) : cntI [c] (upto xs xs.length) = (xs.length : Int) ↔ allB c xs = true := by
 rw [cnt_eq]
 unfold allB
 rw [List.all_eq_true]
 constructor
 ·
  intro h s hs
  have h2 : (xs.filter fun s => [c].contains s.f0).length = xs.length := by omega
  rw [List.length_filter_eq_length_iff] at h2
  simpa using h2 s hs
 intro h
 have h2 : (xs.filter fun s => [c].contains s.f0).length = xs.length := List.length_filter_eq_length_iff.2 (fun s hs => by simpa using h s hs)
 omega
theorem mendTo_eq (ts : List S49) (xs : List S51) (h : Wf ts xs.length) : ∀ q, q ≤ xs.length → mendTo ts xs q = some (readyTo ts xs q)
 | 0, _ => rfl
 | q + 1, hq => by
  rw [mendTo, mendTo_eq ts xs h q (by omega), Option.bind_some, ready_o ts (readyTo ts xs q) (by rw [readyTo_len]; exact h) q (by rw [readyTo_len]; omega), Option.bind_some, readyTo, readyTo_at ts xs q q (Nat.le_refl _)]
theorem mend_f (ts : List S49) (is : Int) (xs : List S51) (h : Wf ts xs.length) : mendF ts is xs = some (mendP ts is xs) := by
 unfold mendF mendP
 rw [if_pos (by have := h.2.1; omega)]
 by_cases h4 : hasB 4 xs = true
 ·
  rw [if_pos ((cnt_pos 4 xs).2 h4), if_pos h4]
 rw [if_neg (fun h' => h4 ((cnt_pos 4 xs).1 h')), if_neg h4, mendTo_eq ts xs h _ (Nat.le_refl _), Option.bind_some]
 by_cases h3 : allB 3 (readyTo ts xs xs.length) = true
 ·
  rw [if_pos ((cnt_all 3 _).2 h3), if_pos h3]
 rw [if_neg (fun h' => h3 ((cnt_all 3 _).1 h')), if_neg h3]
end Go.Proofs.Ytabmkighhmchmaa.Pure
namespace Go.Proofs.Ytabmkighhmchmaa.X
open Go.RowKit Go.Proofs.YtabmkighhmchmaaW.PrintWords Go.Proofs.YtabmkighhmchmaaW.PrintLast Go.Proofs.YtabmkighhmchmaaW.PrintMore Go.Proofs.YtabmkighhmchmaaW.Sq
attribute [local go_sem] max2_int min2_int max_two min_two max_three min_three max_four min_four
set_option linter.unusedVariables false
set_option linter.unusedSimpArgs false
set_option linter.unusedSimpArgs false
set_option linter.unusedSimpArgs false
set_option linter.unusedSimpArgs false
set_option linter.unusedSimpArgs false
set_option linter.unusedSimpArgs false
set_option linter.unusedSimpArgs false
set_option linter.unusedSimpArgs false
end Go.Proofs.Ytabmkighhmchmaa.X
namespace Go.Proofs.Ytabmkighhmchmaa.Pure
open Go.RowKit Go.Proofs.Ytabmkighhmchmaa.X Go.Proofs.YtabmkighhmchmaaW.PrintWords Go.Proofs.YtabmkighhmchmaaW.PrintLast
def aft (w n : Int) : Int := if w < 1 ∨ n < 1 then 0 else min (w * 2 ^ (n - 1).toNat) 1048576
theorem pow_pos' (n : Nat) : (1 : Int) ≤ 2 ^ n := by
 induction n with
 | zero => simp
 | succ n ih => rw [Int.pow_succ]; omega
theorem mul_ge {x : Int} {n : Nat} (h : 0 ≤ x) : x ≤ x * 2 ^ n := by
 have h1 := pow_pos' n
 have h2 := Int.mul_le_mul_of_nonneg_left h1 h
 omega
theorem mul_step (x : Int) (n : Nat) : x * 2 ^ (n + 1) = 2 * x * 2 ^ n := by
 rw [Int.pow_succ, Int.mul_comm 2 x, Int.mul_assoc, Int.mul_comm (2 ^ n) 2]
theorem min_step {x : Int} {n : Nat} (h : 0 ≤ x) : min (min x 1048576 * 2 ^ n) 1048576 = min (x * 2 ^ n) 1048576 := by
 by_cases hx : x ≤ 1048576
 ·
  rw [Int.min_eq_left (a := x) (b := 1048576) hx]
 rw [Int.min_eq_right (a := x) (b := 1048576) (by omega)]
 have h1 := mul_ge (x := 1048576) (n := n) (by omega)
 have h2 := mul_ge (x := x) (n := n) h
 omega
theorem after_l0 (e : Nat) : ∀ (k : Nat) (x0 x1 : Int), 1 ≤ x0 → x0 ≤ 1048576 → -9223372036854775808 ≤ x1 - 1 → x1 ≤ 9223372036854775807 → 1048576 ≤ x0 * 2 ^ e → e < k →
  Fq.l0 k x0 x1 = some (min (x0 * 2 ^ (x1 - 1).toNat) 1048576) := by
 induction e with
 | zero =>
  intro k x0 x1 h0 h1 h2 h3 he hk
  obtain ⟨k, rfl⟩ : ∃ m, k = m + 1 := ⟨k - 1, by omega⟩
  have hx : x0 = 1048576 := by simp at he; omega
  have hg := mul_ge (x := x0) (n := (x1 - 1).toNat) (by omega)
  simp only [Fq.l0]
  have hm : mn x0 1048576 = min (x0 * 2 ^ (x1 - 1).toNat) 1048576 := by unfold mn; split <;> omega
  by_cases hc : x1 > 1
  ·
   rw [if_pos hc, if_neg (by omega), hm]
  rw [if_neg hc, hm]
 | succ e ih =>
  intro k x0 x1 h0 h1 h2 h3 he hk
  obtain ⟨k, rfl⟩ : ∃ m, k = m + 1 := ⟨k - 1, by omega⟩
  simp only [Fq.l0]
  by_cases hc : x1 > 1
  ·
   rw [if_pos hc]
   by_cases hd : x0 < 1048576
   ·
    rw [if_pos hd]
    have e1 : wrap64 (x0 * 2) = 2 * x0 := by unfold wrap64; omega
    have e2 : wrap64 (x1 - 1) = x1 - 1 := by unfold wrap64; omega
    have e3 : (x1 - 1).toNat = (x1 - 1 - 1).toNat + 1 := by omega
    rw [e1, e2, e3, mul_step]
    by_cases hs : 2 * x0 ≤ 1048576
    ·
     exact ih k (2 * x0) (x1 - 1) (by omega) hs (by omega) (by omega) (by rw [← mul_step]; exact he) (by omega)
    have hg := mul_ge (x := 2 * x0) (n := (x1 - 1 - 1).toNat) (by omega)
    obtain ⟨k, rfl⟩ : ∃ m, k = m + 1 := ⟨k - 1, by omega⟩
    simp only [Fq.l0]
    have hm : mn (2 * x0) 1048576 = min (2 * x0 * 2 ^ (x1 - 1 - 1).toNat) 1048576 := by unfold mn; split <;> omega
    by_cases a0 : x1 - 1 > 1
    ·
     rw [if_pos a0, if_neg (by omega), hm]
    rw [if_neg a0, hm]
   rw [if_neg hd]
   have hg := mul_ge (x := x0) (n := (x1 - 1).toNat) (by omega)
   congr 1
   unfold mn; split <;> omega
  rw [if_neg hc]
  have e3 : (x1 - 1).toNat = 0 := by omega
  rw [e3]
  congr 1
  simp
  unfold mn; split <;> omega
theorem after_f (k : Nat) (w n : Int) (hn : -9223372036854775808 ≤ n) (a1 : n ≤ 9223372036854775807) (hk : 24 ≤ k) : Fq.f k w n = some (aft w n) := by
 obtain ⟨k, rfl⟩ : ∃ m, k = m + 1 := ⟨k - 1, by omega⟩
 unfold Fq.f aft
 by_cases hw : w < 1
 ·
  rw [if_pos hw, if_pos (.inl hw)]; simp [Fq.j0]
 rw [if_neg hw]
 by_cases a0 : n < 1
 ·
  rw [if_pos (.inr a0), decide_eq_true a0]; simp [Fq.j0]
 rw [if_neg (by omega), decide_eq_false a0]
 simp only [Fq.j0]
 rw [if_neg (by simp)]
 have hm : mn w 1048576 = min w 1048576 := by unfold mn; split <;> omega
 rw [hm, ← min_step (by omega)]
 exact after_l0 20 k _ n (by omega) (by omega) (by omega) a1 (have : 1 ≤ min w 1048576 := (by omega); by omega) (by omega)
theorem aft_bd (w n : Int) : 0 ≤ aft w n ∧ aft w n ≤ 1048576 := by
 unfold aft
 split
 ·
  omega
 have := mul_ge (x := w) (n := (n - 1).toNat) (by omega)
 omega
def cnt (p : Int) : Int := min (max p 0) 1099511627776
def csum (l : List Int) : Int := (l.map cnt).sum
theorem cnt_bd (p : Int) : 0 ≤ cnt p ∧ cnt p ≤ 1099511627776 := by unfold cnt; omega
theorem csum_cons (p : Int) (l : List Int) : csum (p :: l) = cnt p + csum l := by simp [csum]
theorem csum_nonneg (l : List Int) : 0 ≤ csum l := by
 induction l with
 | nil => simp [csum]
 | cons p l ih => rw [csum_cons]; have := cnt_bd p; omega
theorem cnt_mn (p : Int) : mn (mx p 0) 1099511627776 = cnt p := by unfold mn mx cnt; split <;> split <;> omega
theorem mn_min (a b : Int) : mn a b = min a b := by unfold mn; split <;> omega
theorem rd_at {l : List Int} {i : Int} (h0 : 0 ≤ i) (h : i < l.length) : rd l i = l[i.toNat]'(by omega) := by
 unfold rd
 have : i.toNat < l.length := by omega
 simp [List.getD, this]
theorem until_l0 (xs : List Int) (hn : xs.length ≤ 17592186044416) (d : Nat) : ∀ (k : Nat) (s i : Int), 0 ≤ s → s ≤ 1099511627776 → 0 ≤ i → i ≤ xs.length → (xs.length : Int) - i = d → d < k →
  Fj.l0 k s xs (xs.length : Int) i = some (min (s + csum (xs.drop i.toNat)) 1099511627776) := by
 induction d with
 | zero =>
  intro k s i h0 h1 h2 h3 hd hk
  obtain ⟨k, rfl⟩ : ∃ m, k = m + 1 := ⟨k - 1, by omega⟩
  simp only [Fj.l0]
  rw [if_neg (by omega), List.drop_of_length_le (by omega)]
  simp [csum]
  omega
 | succ d ih =>
  intro k s i h0 h1 h2 h3 hd hk
  obtain ⟨k, rfl⟩ : ∃ m, k = m + 1 := ⟨k - 1, by omega⟩
  simp only [Fj.l0]
  have hj : i.toNat < xs.length := by omega
  have hb := cnt_bd (xs[i.toNat])
  have e1 : wrap64 (i + 1) = i + 1 := by unfold wrap64; omega
  have e2 : wrap64 (s + cnt (xs[i.toNat])) = s + cnt (xs[i.toNat]) := by unfold wrap64; omega
  have hc := csum_nonneg (xs.drop (i.toNat + 1))
  rw [if_pos (by omega), if_pos h2, if_pos (by omega), cnt_mn, rd_at h2 (by omega), e1, e2, mn_min, ih k _ (i + 1) (by omega) (by omega) (by omega) (by omega) (by omega) (by omega)]
  rw [List.drop_eq_getElem_cons hj, csum_cons, show (i + 1).toNat = i.toNat + 1 from by omega]
  congr 1
  omega
theorem until_f (k : Nat) (a : Int) (l : List Int) (hl : l.length ≤ 40) (hk : 50 ≤ k) : Fj.f k a l = some (min (cnt a + csum l) 1099511627776) := by
 unfold Fj.f
 simp only [Option.bind_some]
 rw [if_pos (by simp; omega)]
 have := until_l0 ([a] ++ l) (by simp; omega) ([a] ++ l).length k 0 0 (by omega) (by omega) (by omega) (by omega) (by omega) (by simp; omega)
 rw [this]
 simp [csum_cons]
def unt (a : Int) (l : List Int) : Int := min (cnt a + csum l) 1099511627776
theorem unt_f (k : Nat) (a : Int) (l : List Int) (hl : l.length ≤ 40) (hk : 50 ≤ k) : Fj.f k a l = some (unt a l) := until_f k a l hl hk
theorem unt_bd (a : Int) (l : List Int) : 0 ≤ unt a l ∧ unt a l ≤ 1099511627776 := by
 have h1 := cnt_bd a
 have h2 := csum_nonneg l
 unfold unt
 omega
theorem unt_nil (a : Int) : unt a [] = cnt a := by
 have := cnt_bd a
 simp [unt, csum]
 omega
theorem unt_one (a b : Int) : unt a [b] = min (cnt a + cnt b) 1099511627776 := by simp [unt, csum]
abbrev St := Int × Int × Int × Int × ByteArray
def noText : ByteArray := ⟨#[]⟩
def leaseV (a0 is a1 a2 : Int) (a3 : ByteArray) (now token : Int) : Int × Int × Int × Int × ByteArray × Int :=
 if token < 1 ∨ token > 1099511627776 then (0, 0, 0, 0, noText, 1)
 else if is = 1 ∧ a2 ≤ unt now [] then (2, wrap64 (a1 + 1), unt now [a0], token, a3, 0) else (0, 0, 0, 0, noText, 192)
theorem lease_f (k : Nat) (hk : 60 ≤ k) (l0 : List Int) (a2 a4 a0 is a1 a3 a6 : Int) (a5 : ByteArray) (now token : Int) :
  Fl.f k l0 a2 a4 a0 is a1 a3 a6 a5 now token = some (leaseV a0 is a1 a3 a5 now token) := by
 obtain ⟨k, rfl⟩ : ∃ m, k = m + 1 := ⟨k - 1, by omega⟩
 unfold Fl.f leaseV
 by_cases h1 : token < 1
 ·
  rw [if_pos h1, if_pos (.inl h1)]
  simp only [Fl.j0, if_true]
  rfl
 rw [if_neg h1]
 by_cases h2 : token > 1099511627776
 ·
  rw [decide_eq_true h2, if_pos (.inr h2)]
  simp only [Fl.j0, if_true]
  rfl
 rw [decide_eq_false h2, if_neg (by omega)]
 simp only [Fl.j0]
 rw [if_neg (by simp)]
 by_cases h3 : is = 1
 ·
  rw [if_pos h3, unt_f k now [] (by simp) (by omega)]
  simp only [Option.bind_some]
  by_cases h4 : a3 > unt now []
  ·
   rw [if_pos h4, if_neg (by omega)]
   rfl
  rw [if_neg h4, unt_f k now [a0] (by simp) (by omega), if_pos (by omega)]
  rfl
 rw [if_neg h3, if_neg (by omega)]
 rfl
def StandsP (is a0 a2 a1 : Int) (a3 : ByteArray) : Prop :=
 0 ≤ is ∧ is ≤ 5 ∧ 0 ≤ a0 ∧ a0 ≤ 8 ∧ 0 ≤ a2 ∧ a2 ≤ 1099511627776 ∧ 0 ≤ a1 ∧ a1 ≤ 1099511627776 ∧ (a1 > 0 ↔ is = 2) ∧ a3.size ≤ 16 ∧ (a3.data.toList = [] ∨ is = 3)
instance (is a0 a2 a1 : Int) (a3 : ByteArray) : Decidable (StandsP is a0 a2 a1 a3) := by unfold StandsP; infer_instance
def RightP (a1 is a0 a2 a4 : Int) (a3 : ByteArray) : Prop :=
 StandsP is a0 a2 a4 a3 ∧ a0 ≤ a1 ∧ (is = 0 → a0 = 0 ∧ a2 = 0) ∧ (is = 1 → a0 < a1) ∧ (is = 2 ∨ is = 3 → 1 ≤ a0) ∧ (is = 4 → a0 = a1) ∧ (a2 = 0 ∨ is = 1 ∨ is = 2)
instance (a1 is a0 a2 a4 : Int) (a3 : ByteArray) : Decidable (RightP a1 is a0 a2 a4 a3) := by unfold RightP; infer_instance
theorem ofNot {p : Prop} [Decidable p] (h : ¬ p) : some false = some (decide p) := by rw [decide_eq_false h]
theorem ofYes {p : Prop} [Decidable p] (h : p) : some true = some (decide p) := by rw [decide_eq_true h]
theorem ofIff {b : Bool} {p : Prop} [Decidable p] (h : b = true ↔ p) : some b = some (decide p) := by
 congr 1
 by_cases hp : p
 ·
  rw [decide_eq_true hp, h.2 hp]
 rw [decide_eq_false hp]
 exact Bool.eq_false_iff.2 (fun e => hp (h.1 e))
theorem stands_f (k : Nat) (hk : 1 ≤ k) (is a0 a2 a1 : Int) (a4 : ByteArray) : Fr.f k is a0 a2 a1 a4 = some (decide (StandsP is a0 a2 a1 a4)) := by
 obtain ⟨k, rfl⟩ : ∃ m, k = m + 1 := ⟨k - 1, by omega⟩
 unfold Fr.f
 by_cases h1 : is < 0
 ·
  rw [if_pos h1]; simp only [Fr.j0, if_true]; exact ofNot (by unfold StandsP; omega)
 rw [if_neg h1]
 by_cases h2 : is > 5
 ·
  rw [if_pos h2]; simp only [Fr.j0, if_true]; exact ofNot (by unfold StandsP; omega)
 rw [if_neg h2]
 by_cases h3 : a0 < 0
 ·
  rw [if_pos h3]; simp only [Fr.j0, if_true]; exact ofNot (by unfold StandsP; omega)
 rw [if_neg h3]
 by_cases h4 : a0 > 8
 ·
  rw [if_pos h4]; simp only [Fr.j0, if_true]; exact ofNot (by unfold StandsP; omega)
 rw [if_neg h4]
 by_cases h5 : a2 < 0
 ·
  rw [if_pos h5]; simp only [Fr.j0, if_true]; exact ofNot (by unfold StandsP; omega)
 rw [if_neg h5]
 simp only [Fr.j0]
 by_cases h6 : a2 > 1099511627776
 ·
  rw [if_pos (decide_eq_true h6)]; exact ofNot (by unfold StandsP; omega)
 rw [if_neg (by simpa using h6)]
 by_cases h7 : a1 < 0
 ·
  rw [if_pos h7]; exact ofNot (by unfold StandsP; omega)
 rw [if_neg h7]
 by_cases h8 : a1 > 1099511627776
 ·
  rw [if_pos h8]; exact ofNot (by unfold StandsP; omega)
 rw [if_neg h8]
 by_cases h9 : a1 > 0 ↔ is = 2
 ·
  have e9 : ¬ ((decide (a1 > 0) != (is == 2)) = true) := by
   by_cases a : a1 > 0 <;> by_cases b : is = 2 <;> simp [a, b] <;> omega
  rw [if_neg e9]
  by_cases a5 : (a4.size : Int) ≤ 16
  ·
   rw [if_pos a5]
   by_cases a3 : a4.data.toList = []
   ·
    rw [if_pos (by rw [Go.Lib.toList_data]; exact a3)]
    exact ofYes ⟨by omega, by omega, by omega, by omega, by omega, by omega, by omega, by omega, h9, by omega, .inl a3⟩
   rw [if_neg (by rw [Go.Lib.toList_data]; exact a3)]
   exact ofIff ⟨fun e => ⟨by omega, by omega, by omega, by omega, by omega, by omega, by omega, by omega, h9, by omega, .inr (by simpa using e)⟩, fun e => by
    obtain ⟨_, _, _, _, _, _, _, _, _, _, e⟩ := e
    rcases e with e | e
    ·
     exact absurd e a3
    simpa using e⟩
  rw [if_neg a5]; exact ofNot (by unfold StandsP; omega)
 have e9 : ((decide (a1 > 0) != (is == 2)) = true) := by
  by_cases a : a1 > 0 <;> by_cases b : is = 2 <;> simp [a, b] <;> omega
 rw [if_pos e9]; exact ofNot (by unfold StandsP; omega)
theorem right_f (k : Nat) (hk : 2 ≤ k) (l0 : List Int) (a1 a6 a2 is a0 a4 a5 : Int) (a3 : ByteArray) :
  Fv.f k l0 a1 a6 a2 is a0 a4 a5 a3 = some (decide (RightP a1 is a0 a4 a5 a3)) := by
 obtain ⟨k, rfl⟩ : ∃ m, k = m + 1 := ⟨k - 1, by omega⟩
 unfold Fv.f
 rw [stands_f (k + 1) (by omega)]
 simp only [Option.bind_some]
 by_cases hs : StandsP is a0 a4 a5 a3
 ·
  rw [if_pos (decide_eq_true hs)]
  simp only [Fv.j0]
  by_cases h1 : a0 > a1
  ·
   rw [if_pos (decide_eq_true h1)]; exact ofNot (by unfold RightP; omega)
  rw [if_neg (by simpa using h1)]
  have a7 := hs
  unfold StandsP at a7
  by_cases i0 : is = 0
  ·
   rw [if_pos i0]
   refine ofIff ?_
   have hr : a3.data.toList = [] := by
    rcases a7.2.2.2.2.2.2.2.2.2.2 with h | h
    ·
     exact h
    omega
   simp only [Go.Lib.toList_data, hr, Bool.and_eq_true, beq_iff_eq]
   unfold RightP
   constructor
   ·
    intro h; exact ⟨hs, by omega, by omega, by omega, by omega, by omega, by omega⟩
   intro h; exact ⟨i0, by omega, by omega, by omega, trivial⟩
  rw [if_neg i0]
  by_cases i1 : is = 1
  ·
   rw [if_pos i1]; exact ofIff (by unfold RightP; simp only [decide_eq_true_eq]; exact ⟨fun h => ⟨hs, by omega, by omega, by omega, by omega, by omega, by omega⟩, fun h => by omega⟩)
  rw [if_neg i1]
  by_cases i2 : is = 2
  ·
   rw [if_pos i2]; exact ofIff (by unfold RightP; simp only [decide_eq_true_eq]; exact ⟨fun h => ⟨hs, by omega, by omega, by omega, by omega, by omega, by omega⟩, fun h => by omega⟩)
  rw [if_neg i2]
  by_cases i4 : is = 4
  ·
   rw [if_pos i4]
   by_cases e : a0 = a1
   ·
    rw [if_pos e]; exact ofIff (by unfold RightP; simp only [beq_iff_eq]; exact ⟨fun h => ⟨hs, by omega, by omega, by omega, by omega, by omega, by omega⟩, fun h => by omega⟩)
   rw [if_neg e]; exact ofNot (by unfold RightP; omega)
  rw [if_neg i4]
  by_cases i5 : is = 5
  ·
   rw [if_pos i5]; exact ofIff (by unfold RightP; simp only [beq_iff_eq]; exact ⟨fun h => ⟨hs, by omega, by omega, by omega, by omega, by omega, by omega⟩, fun h => by omega⟩)
  rw [if_neg i5]
  by_cases e : a0 ≥ 1
  ·
   rw [if_pos e]; exact ofIff (by unfold RightP; simp only [beq_iff_eq]; exact ⟨fun h => ⟨hs, by omega, by omega, by omega, by omega, by omega, by omega⟩, fun h => by omega⟩)
  rw [if_neg e]; exact ofNot (by unfold RightP; omega)
 rw [if_neg (by simpa using hs)]
 simp only [Fv.j0, if_true]
 exact ofNot (fun h => hs h.1)
theorem ref_stands_f (k : Nat) (hk : 1 ≤ k) (is a0 a2 a1 : Int) (a3 : ByteArray) : Fg.f k is a0 a2 a1 a3 = some (decide (StandsP is a0 a2 a1 a3)) := by
 obtain ⟨k, rfl⟩ : ∃ m, k = m + 1 := ⟨k - 1, by omega⟩
 unfold Fg.f
 by_cases h1 : is < 0
 ·
  rw [if_pos h1]; simp only [Fg.j0, if_true]; exact ofNot (by unfold StandsP; omega)
 rw [if_neg h1]
 by_cases h2 : is > 5
 ·
  rw [if_pos h2]; simp only [Fg.j0, if_true]; exact ofNot (by unfold StandsP; omega)
 rw [if_neg h2]
 by_cases h3 : a0 < 0
 ·
  rw [if_pos h3]; simp only [Fg.j0, if_true]; exact ofNot (by unfold StandsP; omega)
 rw [if_neg h3]
 by_cases h4 : a0 > 8
 ·
  rw [if_pos h4]; simp only [Fg.j0, if_true]; exact ofNot (by unfold StandsP; omega)
 rw [if_neg h4]
 by_cases h5 : a2 < 0
 ·
  rw [if_pos h5]; simp only [Fg.j0, if_true]; exact ofNot (by unfold StandsP; omega)
 rw [if_neg h5]
 by_cases h6 : a2 > 1099511627776
 ·
  rw [if_pos h6]; simp only [Fg.j0, if_true]; exact ofNot (by unfold StandsP; omega)
 rw [if_neg h6]
 by_cases h7 : a1 > 1099511627776
 ·
  rw [if_pos h7]; simp only [Fg.j0, if_true]; exact ofNot (by unfold StandsP; omega)
 rw [if_neg h7]
 simp only [Fg.j0]
 by_cases h8 : (a3.size : Int) > 16
 ·
  rw [if_pos (decide_eq_true h8)]; exact ofNot (by unfold StandsP; omega)
 rw [if_neg (by simpa using h8)]
 by_cases i2 : is = 2
 ·
  rw [if_pos i2]
  by_cases h9 : a1 < 1
  ·
   rw [if_pos h9]; exact ofNot (by unfold StandsP; omega)
  rw [if_neg h9, if_neg (by omega)]
  refine ofIff ?_
  simp only [Go.Lib.toList_data, beq_iff_eq]
  constructor
  ·
   intro h; exact ⟨by omega, by omega, by omega, by omega, by omega, by omega, by omega, by omega, by omega, by omega, .inl h⟩
  rintro ⟨_, _, _, _, _, _, _, _, _, _, h | h⟩
  ·
   exact h
  omega
 rw [if_neg i2]
 by_cases h9 : a1 = 0
 ·
  rw [if_pos h9]
  by_cases i3 : is = 3
  ·
   rw [if_pos i3]
   exact ofYes ⟨by omega, by omega, by omega, by omega, by omega, by omega, by omega, by omega, by omega, by omega, .inr i3⟩
  rw [if_neg i3]
  refine ofIff ?_
  simp only [Go.Lib.toList_data, beq_iff_eq]
  constructor
  ·
   intro h; exact ⟨by omega, by omega, by omega, by omega, by omega, by omega, by omega, by omega, by omega, by omega, .inl h⟩
  rintro ⟨_, _, _, _, _, _, _, _, _, _, h | h⟩
  ·
   exact h
  omega
 rw [if_neg h9]; exact ofNot (by unfold StandsP; omega)
theorem ref_right_f (k : Nat) (hk : 5 ≤ k) (l0 : List Int) (a1 a8 a4 is a0 a2 a6 : Int) (a5 : ByteArray) :
  Fe.f k l0 a1 a8 a4 is a0 a2 a6 a5 = some (decide (RightP a1 is a0 a2 a6 a5)) := by
 obtain ⟨k, rfl⟩ : ∃ m, k = m + 4 := ⟨k - 4, by omega⟩
 unfold Fe.f
 rw [ref_stands_f (k + 4) (by omega)]
 simp only [Option.bind_some]
 by_cases hs : StandsP is a0 a2 a6 a5
 ·
  rw [if_pos (decide_eq_true hs)]
  simp only [Fe.j0]
  by_cases h1 : a0 > a1
  ·
   rw [if_pos (decide_eq_true h1)]; exact ofNot (by unfold RightP; omega)
  rw [if_neg (by simpa using h1)]
  have a9 := hs
  unfold StandsP at a9
  by_cases i0 : is = 0
  ·
   rw [if_pos i0]
   by_cases t0 : a0 = 0
   ·
    rw [if_pos t0]
    simp only [Fe.j1]
    by_cases d0 : a2 = 0
    ·
     rw [if_neg (by simpa using d0), if_neg (by omega)]
     simp only [Fe.j2]
     rw [if_neg (by simp), if_neg (by omega), if_neg (by omega)]
     simp only [Fe.j3]
     rw [if_neg (by simp), if_neg (by omega), if_pos d0]
     exact ofYes (by unfold RightP; exact ⟨hs, by omega, by omega, by omega, by omega, by omega, by omega⟩)
    rw [if_pos (by simpa using d0)]; exact ofNot (by unfold RightP; omega)
   rw [if_neg t0]
   simp only [Fe.j1, if_true]
   exact ofNot (by unfold RightP; omega)
  rw [if_neg i0]
  simp only [Fe.j1]
  rw [if_neg (by simp)]
  by_cases i1 : is = 1
  ·
   rw [if_pos i1]
   simp only [Fe.j2]
   by_cases h2 : a0 ≥ a1
   ·
    rw [if_pos (decide_eq_true h2)]; exact ofNot (by unfold RightP; omega)
   rw [if_neg (by simpa using h2), if_neg (by omega), if_neg (by omega)]
   simp only [Fe.j3]
   rw [if_neg (by simp), if_neg (by omega)]
   have a7 : RightP a1 is a0 a2 a6 a5 := by unfold RightP; exact ⟨hs, by omega, by omega, by omega, by omega, by omega, by omega⟩
   by_cases d0 : a2 = 0
   ·
    rw [if_pos d0]; exact ofYes a7
   rw [if_neg d0, if_pos i1]; exact ofYes a7
  rw [if_neg i1]
  simp only [Fe.j2]
  rw [if_neg (by simp)]
  by_cases i2 : is = 2
  ·
   rw [if_pos i2]
   simp only [Fe.j3]
   by_cases h2 : a0 < 1
   ·
    rw [if_pos (decide_eq_true h2)]; exact ofNot (by unfold RightP; omega)
   rw [if_neg (by simpa using h2), if_neg (by omega)]
   have a7 : RightP a1 is a0 a2 a6 a5 := by unfold RightP; exact ⟨hs, by omega, by omega, by omega, by omega, by omega, by omega⟩
   by_cases d0 : a2 = 0
   ·
    rw [if_pos d0]; exact ofYes a7
   rw [if_neg d0, if_neg i1]; exact ofIff ⟨fun _ => a7, fun _ => by simpa using i2⟩
  rw [if_neg i2]
  have a3 : (if a2 = 0 then some true else if is = 1 then some true else some (is == 2)) = some (decide (a2 = 0)) := by
   by_cases d0 : a2 = 0
   ·
    rw [if_pos d0]; exact ofYes d0
   rw [if_neg d0, if_neg i1]; exact ofIff ⟨fun h => absurd (by simpa using h) i2, fun h => absurd h d0⟩
  by_cases i3 : is = 3
  ·
   rw [if_pos i3]
   simp only [Fe.j3]
   by_cases h2 : a0 < 1
   ·
    rw [if_pos (decide_eq_true h2)]; exact ofNot (by unfold RightP; omega)
   rw [if_neg (by simpa using h2), if_neg (by omega), a3]
   exact ofIff (by simp only [decide_eq_true_eq]; unfold RightP; exact ⟨fun h => ⟨hs, by omega, by omega, by omega, by omega, by omega, by omega⟩, fun h => by omega⟩)
  rw [if_neg i3]
  simp only [Fe.j3]
  rw [if_neg (by simp)]
  by_cases i4 : is = 4
  ·
   rw [if_pos i4]
   by_cases e : a0 = a1
   ·
    rw [if_pos e, a3]
    exact ofIff (by simp only [decide_eq_true_eq]; unfold RightP; exact ⟨fun h => ⟨hs, by omega, by omega, by omega, by omega, by omega, by omega⟩, fun h => by omega⟩)
   rw [if_neg e]; exact ofNot (by unfold RightP; omega)
  rw [if_neg i4, a3]
  exact ofIff (by simp only [decide_eq_true_eq]; unfold RightP; exact ⟨fun h => ⟨hs, by omega, by omega, by omega, by omega, by omega, by omega⟩, fun h => by omega⟩)
 rw [if_neg (by simpa using hs)]
 simp only [Fe.j0, if_true]
 exact ofNot (fun h => hs h.1)
def failV (a1 a2 is a0 : Int) (a3 : ByteArray) (now : Int) : Int × Int × Int × Int × ByteArray × Int :=
 if is = 2 then (if a0 ≥ a1 then (4, a0, 0, 0, a3, 0) else (1, a0, unt now [aft a2 a0], 0, a3, 0)) else (0, 0, 0, 0, noText, 191)
theorem fail_f (k : Nat) (hk : 60 ≤ k) (l0 : List Int) (a1 a2 a3 is a0 a5 a6 : Int) (a4 : ByteArray) (now : Int) (h1 : -9223372036854775808 ≤ a0) (h2 : a0 ≤ 9223372036854775807) :
  Fx.f k l0 a1 a2 a3 is a0 a5 a6 a4 now = some (failV a1 a2 is a0 a4 now) := by
 unfold Fx.f failV
 by_cases i2 : is = 2
 ·
  rw [if_pos i2, if_pos i2]
  by_cases h : a0 ≥ a1
  ·
   rw [if_pos h, if_pos h]
  rw [if_neg h, if_neg h, after_f k a2 a0 h1 h2 (by omega)]
  simp only [Option.bind_some]
  rw [unt_f k now _ (by simp) (by omega)]
  rfl
 rw [if_neg i2, if_neg i2]
 rfl
def expireV (a1 a4 is a0 a2 a5 : Int) (a3 : ByteArray) (now : Int) : St :=
 if is = 2 ∧ a2 ≤ unt now [] then (if a0 ≥ a1 then (4, a0, 0, 0, a3) else (1, a0, unt a2 [aft a4 a0], 0, a3)) else (is, a0, a2, a5, a3)
theorem expire_f (k : Nat) (hk : 60 ≤ k) (l0 : List Int) (a1 a3 a2 is a0 a4 a6 : Int) (a5 : ByteArray) (now : Int) (h1 : -9223372036854775808 ≤ a0) (h2 : a0 ≤ 9223372036854775807) :
  Fs.f k l0 a1 a3 a2 is a0 a4 a6 a5 now = some (expireV a1 a3 is a0 a4 a6 a5 now) := by
 unfold Fs.f expireV
 by_cases i2 : is = 2
 ·
  rw [if_pos i2, unt_f k now [] (by simp) (by omega)]
  simp only [Option.bind_some]
  by_cases h : a4 > unt now []
  ·
   rw [if_pos h, if_neg (by omega)]
  rw [if_neg h, if_pos ⟨i2, by omega⟩, fail_f k hk l0 a1 a3 a2 is a0 a4 a6 a5 a4 h1 h2]
  unfold failV
  simp only [Option.bind_some]
  rw [if_pos i2]
  split <;> rfl
 rw [if_neg i2, if_neg (by omega)]
def beatV (a0 is a1 a3 : Int) (a2 : ByteArray) (now : Int) : Int × Int × Int × Int × ByteArray × Int :=
 if is = 2 then (is, a1, unt now [a0], a3, a2, 0) else (0, 0, 0, 0, noText, 191)
theorem beat_f (k : Nat) (hk : 60 ≤ k) (l0 : List Int) (a2 a3 a0 is a1 a6 a5 : Int) (a4 : ByteArray) (now : Int) :
  F0.f k l0 a2 a3 a0 is a1 a6 a5 a4 now = some (beatV a0 is a1 a5 a4 now) := by
 unfold F0.f beatV
 by_cases i2 : is = 2
 ·
  rw [if_pos i2, unt_f k now _ (by simp) (by omega), if_pos i2]
  rfl
 rw [if_neg i2, if_neg i2]
 rfl
def doneV (is a1 : Int) (a0 : ByteArray) : Int × Int × Int × Int × ByteArray × Int :=
 if is = 2 then (if a0.size ≤ 16 then (3, a1, 0, 0, a0, 0) else (0, 0, 0, 0, noText, 1)) else (0, 0, 0, 0, noText, 191)
theorem done_f (l0 : List Int) (a3 a4 a2 is a1 a5 a7 : Int) (a6 a0 : ByteArray) :
  F1.f l0 a3 a4 a2 is a1 a5 a7 a6 a0 = some (doneV is a1 a0) := by
 unfold F1.f doneV
 by_cases i2 : is = 2
 ·
  rw [if_pos i2, if_pos i2]
  by_cases h : (a0.size : Int) > 16
  ·
   rw [if_pos h, if_neg (by omega)]
   rfl
  rw [if_neg h, if_pos (by omega)]
 rw [if_neg i2, if_neg i2]
 rfl
end Go.Proofs.Ytabmkighhmchmaa.Pure
namespace Go.Proofs.Ytabmkighhmchmaa.X
open Go.RowKit Go.Proofs.YtabmkighhmchmaaW.PrintWords Go.Proofs.YtabmkighhmchmaaW.PrintLast Go.Proofs.YtabmkighhmchmaaW.PrintMore Go.Proofs.YtabmkighhmchmaaW.Sq
attribute [local go_sem] max2_int min2_int max_two min_two max_three min_three max_four min_four
set_option linter.unusedVariables false
set_option linter.unusedSimpArgs false
end Go.Proofs.Ytabmkighhmchmaa.X
namespace Go.Proofs.Ytabmkighhmchmaa.Pure
open Go.RowKit Go.Proofs.Ytabmkighhmchmaa.X Go.Proofs.YtabmkighhmchmaaW.PrintWords Go.Proofs.YtabmkighhmchmaaW.PrintLast
end Go.Proofs.Ytabmkighhmchmaa.Pure
namespace Go.Proofs.Ytabmkighhmchmaa.X
open Go.RowKit Go.Proofs.YtabmkighhmchmaaW.PrintWords Go.Proofs.YtabmkighhmchmaaW.PrintLast Go.Proofs.YtabmkighhmchmaaW.PrintMore Go.Proofs.YtabmkighhmchmaaW.Sq
attribute [local go_sem] max2_int min2_int max_two min_two max_three min_three max_four min_four
set_option linter.unusedVariables false
set_option linter.unusedSimpArgs false
end Go.Proofs.Ytabmkighhmchmaa.X
namespace Go.Proofs.Ytabmkighhmchmaa.Pure
open Go.RowKit Go.Proofs.Ytabmkighhmchmaa.X Go.Proofs.YtabmkighhmchmaaW.PrintWords Go.Proofs.YtabmkighhmchmaaW.PrintLast
def ofV (p : Int × Int × Int × Int × ByteArray) : S51 := ⟨p.1, p.2.1, p.2.2.1, p.2.2.2.1, p.2.2.2.2⟩
def expS (t : S49) (s : S51) (now : Int) : S51 := ofV (expireV t.f1 t.f2 s.f0 s.f1 s.f2 s.f3 s.f4 now)
def Tr (xs : List S51) : Prop := ∀ s ∈ xs, -9223372036854775808 ≤ s.f1 ∧ s.f1 ≤ 9223372036854775807
theorem rd51_mem {xs : List S51} {i : Int} (h0 : 0 ≤ i) (h1 : i < (xs.length : Int)) : rd_T51 xs i ∈ xs := by
 obtain ⟨n, rfl⟩ := Int.eq_ofNat_of_zero_le h0
 rw [rd51_nat xs n (by omega)]
 exact List.getElem_mem _
theorem exp_o (k : Nat) (hk : 60 ≤ k) (t : S49) (s : S51) (now : Int) (h : -9223372036854775808 ≤ s.f1 ∧ s.f1 ≤ 9223372036854775807) : expireO k t s now = some (expS t s now) := by
 unfold expireO
 rw [expire_f k hk _ _ _ _ _ _ _ _ _ _ h.1 h.2, Option.bind_some]
 rfl
def stepS (ts : List S49) (now : Int) (p : Int × List S51) : Int × List S51 :=
 if 0 ≤ firstF (unt now []) p.2 (List.finRange p.2.length) then
  mendP ts p.1 (p.2.set (firstF (unt now []) p.2 (List.finRange p.2.length)).toNat (expS (rd_T49 ts (firstF (unt now []) p.2 (List.finRange p.2.length))) (rd_T51 p.2 (firstF (unt now []) p.2 (List.finRange p.2.length))) now))
 else p
def iterS (ts : List S49) (now : Int) : Nat → Int × List S51 → Int × List S51
 | 0, p => p
 | n + 1, p => iterS ts now n (stepS ts now p)
theorem mendP_len (ts : List S49) (is : Int) (xs : List S51) : (mendP ts is xs).2.length = xs.length := by
 unfold mendP
 split
 ·
  simp
 simp [readyTo_len]
theorem stepS_len (ts : List S49) (now : Int) (p : Int × List S51) : (stepS ts now p).2.length = p.2.length := by
 unfold stepS
 split
 ·
  rw [mendP_len, List.length_set]
 rfl
theorem cancelS_tr (s : S51) : (cancelS s).f1 = s.f1 := by unfold cancelS; split <;> rfl
theorem readyS_tr (s : S51) : (readyS s).f1 = s.f1 := by unfold readyS; split <;> rfl
theorem expS_tr (t : S49) (s : S51) (now : Int) : (expS t s now).f1 = s.f1 := by unfold expS ofV expireV; split <;> (try split) <;> rfl
theorem tr_set {xs : List S51} (h : Tr xs) (i : Nat) (s : S51) (hs : -9223372036854775808 ≤ s.f1 ∧ s.f1 ≤ 9223372036854775807) : Tr (xs.set i s) := by
 intro y hy
 rcases List.mem_or_eq_of_mem_set hy with hy | rfl
 ·
  exact h y hy
 exact hs
theorem tr_ready (ts : List S49) (xs : List S51) (h : Tr xs) : ∀ q, q ≤ xs.length → Tr (readyTo ts xs q)
 | 0, _ => h
 | q + 1, hq => by
  rw [readyTo]
  split
  ·
   exact tr_set (tr_ready ts xs h q (by omega)) _ _ (by rw [readyS_tr]; exact h _ (rd51_mem (by omega) (by omega)))
  exact tr_ready ts xs h q (by omega)
theorem tr_mend (ts : List S49) (is : Int) (xs : List S51) (h : Tr xs) : Tr (mendP ts is xs).2 := by
 unfold mendP
 split
 ·
  intro y hy
  obtain ⟨s, hs, rfl⟩ := List.mem_map.1 hy
  rw [cancelS_tr]
  exact h s hs
 exact tr_ready ts xs h _ (Nat.le_refl _)
theorem tr_step (ts : List S49) (now : Int) (p : Int × List S51) (h : Tr p.2) : Tr (stepS ts now p).2 := by
 unfold stepS
 split
 ·
  rename_i h0
  have h1 := (firstF_lt (unt now []) p.2 (List.finRange p.2.length)).2
  exact tr_mend _ _ _ (tr_set h _ _ (by rw [expS_tr]; exact h _ (rd51_mem h0 h1)))
 exact h
end Go.Proofs.Ytabmkighhmchmaa.Pure
