-- laid by a program of this session (wip/tools/xprint.py), function by function; Lean checks it
import Derived.Test.YtmnkabdaapiikaaCx0
import Derived.Test.YtmnkabdaapiikaaXPut
import Derived.Test.YtmnkabdaapiikaaSq
namespace Go.Proofs.Ytmnkabdaapiikaa.C
open Go.RowKit Go.Proofs.YtmnkabdaapiikaaW.PrintWords Go.Proofs.YtmnkabdaapiikaaW.PrintLast Go.Proofs.YtmnkabdaapiikaaW.PrintMore Go.Proofs.YtmnkabdaapiikaaW.Sq
attribute [local go_sem] max2_int min2_int max_two min_two max_three min_three max_four min_four   -- for this text's walks alone
set_option linter.unusedVariables false
set_option linter.unusedSimpArgs false

/-! ### penelopelaw07_alive: function 13 -/
def penelopelaw07_alive.f (k : Nat)  : Option (Bool) := (node_Put.f k true ([] : List ByteArray) ([] : List ByteArray) ([] : List Int)).bind fun bt118 => (if bt118.2 = 0 then (some (bt118.1.toList == ([0] : List UInt8))) else (some false))
theorem penelopelaw07_alive.mono : ∀ k, LeO (penelopelaw07_alive.f k ) (penelopelaw07_alive.f (k + 1) ) := by
 intro  k
 unfold penelopelaw07_alive.f
 repeat' first
   | (with_reducible exact node_Put.mono _ _ _ _ _)
   | (with_reducible exact LeO.refl _)
   | (with_reducible exact LeO.none _)
   | (with_reducible refine LeO.ite ?_ ?_)
   | (with_reducible refine LeO.bind ?_ (fun _ => ?_))
   | exact node_Put.mono _ _ _ _ _
   | exact LeO.none _
   | refine LeO.ite ?_ ?_
   | refine LeO.bind ?_ (fun _ => ?_)
set_option maxHeartbeats 8000000 in
set_option maxRecDepth 100000 in
theorem penelopelaw07_alive.calls (k : Nat)  (r : Bool) (w : World) (h : penelopelaw07_alive.f k  = some r) :
  Calls Try.prog 13 #[] w fun e w' => e = .returned (.bool r) ∧ Below w.heap.size w w' := by
 have hu25 := Try.underlying25
 have HB := am (Below.refl w.heap.size w)
 have H : ((node_Put.f k true ([] : List ByteArray) ([] : List ByteArray) ([] : List Int)).bind fun bt118 => (if bt118.2 = 0 then (some (bt118.1.toList == ([0] : List UInt8))) else (some false))) = some r := h
 clear h
 replace H := Option.bind_eq_some_iff.mp H
 obtain ⟨⟨t118, t119⟩, A10, H⟩ := H
 replace H : (if t119 = 0 then (some (t118.toList == ([0] : List UInt8))) else (some false)) = some r := H
 have A1 := am A10
 clear A10
 by_cases c2 : t119 = 0
 ·
  rw [if_pos c2] at H
  have c2b0 : (t119 == 0) = true := beq_iff_eq.mpr c2
  have c2b1 : (t119 != 0) = false := bne_eq_false_iff_eq.mpr c2
  clear c2
  obtain rfl := Option.some.inj H
  go_enter Try.func13, Try.ntmps13
  go_wp2_with (first | ((with_reducible refine gate_callee (f := 11) rfl ?_); refine goesL_ (some 5) rfl rfl Try.func11 (by kernel_rfl) rfl #[.agg #[.bool true, .slice none 0 0, .slice none 0 0, .slice none 0 0]] rfl (by (try simp only [List.map_toArray, List.map_cons, List.map_nil]); first | done | rfl | (simp only [List.length_drop, List.length_take]; rfl)) ?_; (refine (node_Put.calls k true _ _ ([] : List ByteArray) _ _ ([] : List ByteArray) _ _ ([] : List Int) t118 t119 _ ?side1 ?side2 ?side3 ?side4 ?side5 ?side6 A1.out).mono ?_); (case side1 => exact Kd.C_nil _ _); (case side2 => exact Nat.le_refl _); (case side3 => exact Kd.C_nil _ _); (case side4 => exact Nat.le_refl _); (case side5 => exact Kd.C_nil _ _); (case side6 => exact Nat.le_refl _); rintro e w3 ⟨rfl, hb⟩; refine ⟨_, rfl, ?_⟩; replace HB := am (below_step (pB HB.out) hb); (try clear hb); (try clear hb2); (try clear hk); (try clear hi)))
  go_ret
  exact ⟨by first | rfl | (simp [errW_none, errW_some] <;> rfl) | (simp [*, errW_none, errW_some] <;> rfl), pB HB.out⟩
 ·
  rw [if_neg c2] at H
  have c2b0 : (t119 == 0) = false := beq_eq_false_iff_ne.mpr c2
  have c2b1 : (t119 != 0) = true := bne_iff_ne.mpr c2
  obtain rfl := Option.some.inj H
  go_enter Try.func13, Try.ntmps13
  go_wp2_with (first | ((with_reducible refine gate_callee (f := 11) rfl ?_); refine goesL_ (some 5) rfl rfl Try.func11 (by kernel_rfl) rfl #[.agg #[.bool true, .slice none 0 0, .slice none 0 0, .slice none 0 0]] rfl (by (try simp only [List.map_toArray, List.map_cons, List.map_nil]); first | done | rfl | (simp only [List.length_drop, List.length_take]; rfl)) ?_; (refine (node_Put.calls k true _ _ ([] : List ByteArray) _ _ ([] : List ByteArray) _ _ ([] : List Int) t118 t119 _ ?side1 ?side2 ?side3 ?side4 ?side5 ?side6 A1.out).mono ?_); (case side1 => exact Kd.C_nil _ _); (case side2 => exact Nat.le_refl _); (case side3 => exact Kd.C_nil _ _); (case side4 => exact Nat.le_refl _); (case side5 => exact Kd.C_nil _ _); (case side6 => exact Nat.le_refl _); rintro e w4 ⟨rfl, hb⟩; refine ⟨_, rfl, ?_⟩; replace HB := am (below_step (pB HB.out) hb); (try clear hb); (try clear hb2); (try clear hk); (try clear hi)))
  go_ret
  exact ⟨by first | rfl | (simp [errW_none, errW_some] <;> rfl) | (simp [*, errW_none, errW_some] <;> rfl), pB HB.out⟩

end Go.Proofs.Ytmnkabdaapiikaa.C
