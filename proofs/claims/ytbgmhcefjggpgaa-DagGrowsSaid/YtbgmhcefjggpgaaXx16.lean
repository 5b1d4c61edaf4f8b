-- laid by a program of this session (wip/tools/xprint.py), function by function; Lean checks it
import Derived.Test.YtbgmhcefjggpgaaXx0
import Derived.Test.YtbgmhcefjggpgaaXFew
import Derived.Test.YtbgmhcefjggpgaaXMap
import Derived.Test.YtbgmhcefjggpgaaXx6
import Derived.Test.YtbgmhcefjggpgaaXx7
namespace Go.Proofs.Ytbgmhcefjggpgaa.X
open Go.RowKit Go.Proofs.YtbgmhcefjggpgaaW.PrintWords Go.Proofs.YtbgmhcefjggpgaaW.PrintLast Go.Proofs.YtbgmhcefjggpgaaW.PrintMore
attribute [local go_sem] max2_int min2_int max_two min_two max_three min_three max_four min_four   -- for this text's walks alone
set_option linter.unusedVariables false
set_option linter.unusedSimpArgs false

/-! ### penelopelaw16_DagGrows: function 5 -/
mutual
def penelopelaw16_DagGrows.j0 : Nat → List Bool → Int → List Int → Int → Bool → ByteArray → List (S39) → Option (Bool)
  | 0, _, _, _, _, _, _, _ => none
  | k + 1, x1, x2, x7, x8, x36, x246000, x246001 => if x36 = true then ((penelopelaw16_alive.f k).bind fun t254 => (if t254 = true then (if x8 = 0 then (some ((x1.length : Int) == (x246001.length : Int))) else (some true)) else (none))) else (if (x7.length : Int) = 0 then (none) else (if 0 ≤ (Int.tmod (wrap64 ((Int.tmod x2 (x7.length : Int)) + (x7.length : Int))) (x7.length : Int)) then (if (Int.tmod (wrap64 ((Int.tmod x2 (x7.length : Int)) + (x7.length : Int))) (x7.length : Int)) < (x7.length : Int) then ((some (([] : List Bool) : List Bool)).bind fun y256 => (if y256.length + x1.length < 140737488355328 then ((some (y256 ++ x1 : List Bool)).bind fun y259 => (if (rd x7 (Int.tmod (wrap64 ((Int.tmod x2 (x7.length : Int)) + (x7.length : Int))) (x7.length : Int))) < 0 then (penelopelaw16_DagGrows.j1 k x7 (rd x7 (Int.tmod (wrap64 ((Int.tmod x2 (x7.length : Int)) + (x7.length : Int))) (x7.length : Int))) y259 true x246000 x246001) else (if (rd x7 (Int.tmod (wrap64 ((Int.tmod x2 (x7.length : Int)) + (x7.length : Int))) (x7.length : Int))) ≥ (y259.length : Int) then (penelopelaw16_DagGrows.j1 k x7 (rd x7 (Int.tmod (wrap64 ((Int.tmod x2 (x7.length : Int)) + (x7.length : Int))) (x7.length : Int))) y259 true x246000 x246001) else (if 0 ≤ (rd x7 (Int.tmod (wrap64 ((Int.tmod x2 (x7.length : Int)) + (x7.length : Int))) (x7.length : Int))) then (if (rd x7 (Int.tmod (wrap64 ((Int.tmod x2 (x7.length : Int)) + (x7.length : Int))) (x7.length : Int))) < (y259.length : Int) then (penelopelaw16_DagGrows.j1 k x7 (rd x7 (Int.tmod (wrap64 ((Int.tmod x2 (x7.length : Int)) + (x7.length : Int))) (x7.length : Int))) y259 (rdOf false y259 (rd x7 (Int.tmod (wrap64 ((Int.tmod x2 (x7.length : Int)) + (x7.length : Int))) (x7.length : Int)))) x246000 x246001) else (none)) else (none))))) else (none))) else (none)) else (none)))
def penelopelaw16_DagGrows.j1 : Nat → List Int → Int → List Bool → Bool → ByteArray → List (S39) → Option (Bool)
  | 0, _, _, _, _, _, _ => none
  | k + 1, x7, x9, x10, x79, x246000, x246001 => if x79 = true then (none) else (if 0 ≤ x9 then (if x9 < (x10.length : Int) then ((dag_Free.f k x246000 x246001 (x10.set (x9 : Int).toNat true)).bind fun bt264 => (if bt264.2 = 0 then (if x7.length ≤ 1000000 ∧ (∀ x ∈ x7, 0 ≤ x ∧ x < 1000000) ∧ (∀ x ∈ bt264.1, 0 ≤ x ∧ x < 1000000) then (penelopelaw16_DagGrows.l0 k x7 x9 bt264.1 777 x7 (x7.length : Int) 0 x246000 x246001) else (none)) else (none))) else (none)) else (none))
def penelopelaw16_DagGrows.l0 : Nat → List Int → Int → List Int → Int → List Int → Int → Int → ByteArray → List (S39) → Option (Bool)
  | 0, _, _, _, _, _, _, _, _, _ => none
  | k + 1, x7, x9, x11, x13, x92, x93, x94, x246000, x246001 => if x94 < x93 then (if 0 ≤ x94 then (if x94 < (x92.length : Int) then (penelopelaw16_DagGrows.l0 k x7 x9 x11 x13 x92 x93 (wrap64 (x94 + 1)) x246000 x246001) else (none)) else (none)) else (penelopelaw16_DagGrows.l1 k x7 x9 x13 0 x11 (x11.length : Int) 0 x246000 x246001)
def penelopelaw16_DagGrows.l1 : Nat → List Int → Int → Int → Int → List Int → Int → Int → ByteArray → List (S39) → Option (Bool)
  | 0, _, _, _, _, _, _, _, _, _ => none
  | k + 1, x7, x9, x13, x16, x101, x102, x103, x246000, x246001 => if x103 < x102 then (if 0 ≤ x103 then (if x103 < (x101.length : Int) then (if x7.contains (rd x101 x103) = true then (penelopelaw16_DagGrows.l1 k x7 x9 x13 (wrap64 (x16 + 1)) x101 x102 (wrap64 (x103 + 1)) x246000 x246001) else (if (rd x101 x103) < 0 then (penelopelaw16_DagGrows.j4 k x7 x9 x13 x16 (rd x101 x103) x101 x102 x103 true x246000 x246001) else (penelopelaw16_DagGrows.j4 k x7 x9 x13 x16 (rd x101 x103) x101 x102 x103 (decide ((rd x101 x103) ≥ (x246001.length : Int))) x246000 x246001))) else (none)) else (none)) else ((penelopelaw16_alive.f k).bind fun t269 => (if t269 = true then (some (x16 == (wrap64 ((x7.length : Int) - 1)))) else (none)))
def penelopelaw16_DagGrows.j4 : Nat → List Int → Int → Int → Int → Int → List Int → Int → Int → Bool → ByteArray → List (S39) → Option (Bool)
  | 0, _, _, _, _, _, _, _, _, _, _, _ => none
  | k + 1, x7, x9, x13, x16, x18, x101, x102, x103, x120, x246000, x246001 => if x120 = true then (none) else (if 0 ≤ x18 then (if x18 < (x246001.length : Int) then (penelopelaw16_DagGrows.l2 k x7 x9 x13 x16 false x101 x102 x103 ((rd_T39 x246001 x18).f0) (((rd_T39 x246001 x18).f0).length : Int) 0 x246000 x246001) else (none)) else (none))
def penelopelaw16_DagGrows.l2 : Nat → List Int → Int → Int → Int → Bool → List Int → Int → Int → List Int → Int → Int → ByteArray → List (S39) → Option (Bool)
  | 0, _, _, _, _, _, _, _, _, _, _, _, _, _ => none
  | k + 1, x7, x9, x13, x16, x19, x101, x102, x103, x126, x127, x128, x246000, x246001 => if x128 < x127 then (if 0 ≤ x128 then (if x128 < (x126.length : Int) then (if x19 = true then (penelopelaw16_DagGrows.l2 k x7 x9 x13 x16 true x101 x102 x103 x126 x127 (wrap64 (x128 + 1)) x246000 x246001) else (penelopelaw16_DagGrows.l2 k x7 x9 x13 x16 ((rd x126 x128) == x9) x101 x102 x103 x126 x127 (wrap64 (x128 + 1)) x246000 x246001)) else (none)) else (none)) else (if x19 = true then (penelopelaw16_DagGrows.l1 k x7 x9 x13 x16 x101 x102 (wrap64 (x103 + 1)) x246000 x246001) else (none))
end
def penelopelaw16_DagGrows.f (k : Nat) (a0_0 : ByteArray) (l0_1 : List (S39)) (l1 : List Bool) (a2 : Int) : Option (Bool) := (penelopelaw16_few.f k a0_0 l0_1).bind fun bt246 => ((dag_Free.f k bt246.1 bt246.2 l1).bind fun bt250 => (if bt250.2 = 0 then (penelopelaw16_DagGrows.j0 k l1 a2 bt250.1 bt250.2 ((bt250.1.length : Int) == 0) bt246.1 bt246.2) else (penelopelaw16_DagGrows.j0 k l1 a2 bt250.1 bt250.2 true bt246.1 bt246.2)))
theorem penelopelaw16_DagGrows.mono_l : ∀ k, (∀ y0 y1 y2 y3 y4 y5 y6, LeO (penelopelaw16_DagGrows.j0 k y0 y1 y2 y3 y4 y5 y6) (penelopelaw16_DagGrows.j0 (k + 1) y0 y1 y2 y3 y4 y5 y6)) ∧ (∀ y0 y1 y2 y3 y4 y5, LeO (penelopelaw16_DagGrows.j1 k y0 y1 y2 y3 y4 y5) (penelopelaw16_DagGrows.j1 (k + 1) y0 y1 y2 y3 y4 y5)) ∧ (∀ y0 y1 y2 y3 y4 y5 y6 y7 y8, LeO (penelopelaw16_DagGrows.l0 k y0 y1 y2 y3 y4 y5 y6 y7 y8) (penelopelaw16_DagGrows.l0 (k + 1) y0 y1 y2 y3 y4 y5 y6 y7 y8)) ∧ (∀ y0 y1 y2 y3 y4 y5 y6 y7 y8, LeO (penelopelaw16_DagGrows.l1 k y0 y1 y2 y3 y4 y5 y6 y7 y8) (penelopelaw16_DagGrows.l1 (k + 1) y0 y1 y2 y3 y4 y5 y6 y7 y8)) ∧ (∀ y0 y1 y2 y3 y4 y5 y6 y7 y8 y9 y10, LeO (penelopelaw16_DagGrows.j4 k y0 y1 y2 y3 y4 y5 y6 y7 y8 y9 y10) (penelopelaw16_DagGrows.j4 (k + 1) y0 y1 y2 y3 y4 y5 y6 y7 y8 y9 y10)) ∧ (∀ y0 y1 y2 y3 y4 y5 y6 y7 y8 y9 y10 y11 y12, LeO (penelopelaw16_DagGrows.l2 k y0 y1 y2 y3 y4 y5 y6 y7 y8 y9 y10 y11 y12) (penelopelaw16_DagGrows.l2 (k + 1) y0 y1 y2 y3 y4 y5 y6 y7 y8 y9 y10 y11 y12))
  | 0 => ⟨fun _ _ _ _ _ _ _ r h => by simp [penelopelaw16_DagGrows.j0] at h, fun _ _ _ _ _ _ r h => by simp [penelopelaw16_DagGrows.j1] at h, fun _ _ _ _ _ _ _ _ _ r h => by simp [penelopelaw16_DagGrows.l0] at h, fun _ _ _ _ _ _ _ _ _ r h => by simp [penelopelaw16_DagGrows.l1] at h, fun _ _ _ _ _ _ _ _ _ _ _ r h => by simp [penelopelaw16_DagGrows.j4] at h, fun _ _ _ _ _ _ _ _ _ _ _ _ _ r h => by simp [penelopelaw16_DagGrows.l2] at h⟩
  | k + 1 => by
    obtain ⟨ih0, ih1, ih2, ih3, ih4, ih5⟩ := penelopelaw16_DagGrows.mono_l k
    refine ⟨?_, ?_, ?_, ?_, ?_, ?_⟩
    · intro y0 y1 y2 y3 y4 y5 y6
      unfold penelopelaw16_DagGrows.j0
      repeat' first
      | (with_reducible exact ih0 _ _ _ _ _ _ _)
      | (with_reducible exact ih1 _ _ _ _ _ _)
      | (with_reducible exact ih2 _ _ _ _ _ _ _ _ _)
      | (with_reducible exact ih3 _ _ _ _ _ _ _ _ _)
      | (with_reducible exact ih4 _ _ _ _ _ _ _ _ _ _ _)
      | (with_reducible exact ih5 _ _ _ _ _ _ _ _ _ _ _ _ _)
      | (with_reducible exact dag_Free.mono _ _ _ _)
      | (with_reducible exact penelopelaw16_alive.mono _)
      | (with_reducible exact penelopelaw16_few.mono _ _ _)
      | (with_reducible exact LeO.refl _)
      | (with_reducible exact LeO.none _)
      | (with_reducible refine LeO.ite ?_ ?_)
      | (with_reducible refine LeO.bind ?_ (fun _ => ?_))
      | exact ih0 _ _ _ _ _ _ _
      | exact ih1 _ _ _ _ _ _
      | exact ih2 _ _ _ _ _ _ _ _ _
      | exact ih3 _ _ _ _ _ _ _ _ _
      | exact ih4 _ _ _ _ _ _ _ _ _ _ _
      | exact ih5 _ _ _ _ _ _ _ _ _ _ _ _ _
      | exact dag_Free.mono _ _ _ _
      | exact penelopelaw16_alive.mono _
      | exact penelopelaw16_few.mono _ _ _
      | exact LeO.none _
      | refine LeO.ite ?_ ?_
      | refine LeO.bind ?_ (fun _ => ?_)
    · intro y0 y1 y2 y3 y4 y5
      unfold penelopelaw16_DagGrows.j1
      repeat' first
      | (with_reducible exact ih0 _ _ _ _ _ _ _)
      | (with_reducible exact ih1 _ _ _ _ _ _)
      | (with_reducible exact ih2 _ _ _ _ _ _ _ _ _)
      | (with_reducible exact ih3 _ _ _ _ _ _ _ _ _)
      | (with_reducible exact ih4 _ _ _ _ _ _ _ _ _ _ _)
      | (with_reducible exact ih5 _ _ _ _ _ _ _ _ _ _ _ _ _)
      | (with_reducible exact dag_Free.mono _ _ _ _)
      | (with_reducible exact penelopelaw16_alive.mono _)
      | (with_reducible exact penelopelaw16_few.mono _ _ _)
      | (with_reducible exact LeO.refl _)
      | (with_reducible exact LeO.none _)
      | (with_reducible refine LeO.ite ?_ ?_)
      | (with_reducible refine LeO.bind ?_ (fun _ => ?_))
      | exact ih0 _ _ _ _ _ _ _
      | exact ih1 _ _ _ _ _ _
      | exact ih2 _ _ _ _ _ _ _ _ _
      | exact ih3 _ _ _ _ _ _ _ _ _
      | exact ih4 _ _ _ _ _ _ _ _ _ _ _
      | exact ih5 _ _ _ _ _ _ _ _ _ _ _ _ _
      | exact dag_Free.mono _ _ _ _
      | exact penelopelaw16_alive.mono _
      | exact penelopelaw16_few.mono _ _ _
      | exact LeO.none _
      | refine LeO.ite ?_ ?_
      | refine LeO.bind ?_ (fun _ => ?_)
    · intro y0 y1 y2 y3 y4 y5 y6 y7 y8
      unfold penelopelaw16_DagGrows.l0
      repeat' first
      | (with_reducible exact ih0 _ _ _ _ _ _ _)
      | (with_reducible exact ih1 _ _ _ _ _ _)
      | (with_reducible exact ih2 _ _ _ _ _ _ _ _ _)
      | (with_reducible exact ih3 _ _ _ _ _ _ _ _ _)
      | (with_reducible exact ih4 _ _ _ _ _ _ _ _ _ _ _)
      | (with_reducible exact ih5 _ _ _ _ _ _ _ _ _ _ _ _ _)
      | (with_reducible exact dag_Free.mono _ _ _ _)
      | (with_reducible exact penelopelaw16_alive.mono _)
      | (with_reducible exact penelopelaw16_few.mono _ _ _)
      | (with_reducible exact LeO.refl _)
      | (with_reducible exact LeO.none _)
      | (with_reducible refine LeO.ite ?_ ?_)
      | (with_reducible refine LeO.bind ?_ (fun _ => ?_))
      | exact ih0 _ _ _ _ _ _ _
      | exact ih1 _ _ _ _ _ _
      | exact ih2 _ _ _ _ _ _ _ _ _
      | exact ih3 _ _ _ _ _ _ _ _ _
      | exact ih4 _ _ _ _ _ _ _ _ _ _ _
      | exact ih5 _ _ _ _ _ _ _ _ _ _ _ _ _
      | exact dag_Free.mono _ _ _ _
      | exact penelopelaw16_alive.mono _
      | exact penelopelaw16_few.mono _ _ _
      | exact LeO.none _
      | refine LeO.ite ?_ ?_
      | refine LeO.bind ?_ (fun _ => ?_)
    · intro y0 y1 y2 y3 y4 y5 y6 y7 y8
      unfold penelopelaw16_DagGrows.l1
      repeat' first
      | (with_reducible exact ih0 _ _ _ _ _ _ _)
      | (with_reducible exact ih1 _ _ _ _ _ _)
      | (with_reducible exact ih2 _ _ _ _ _ _ _ _ _)
      | (with_reducible exact ih3 _ _ _ _ _ _ _ _ _)
      | (with_reducible exact ih4 _ _ _ _ _ _ _ _ _ _ _)
      | (with_reducible exact ih5 _ _ _ _ _ _ _ _ _ _ _ _ _)
      | (with_reducible exact dag_Free.mono _ _ _ _)
      | (with_reducible exact penelopelaw16_alive.mono _)
      | (with_reducible exact penelopelaw16_few.mono _ _ _)
      | (with_reducible exact LeO.refl _)
      | (with_reducible exact LeO.none _)
      | (with_reducible refine LeO.ite ?_ ?_)
      | (with_reducible refine LeO.bind ?_ (fun _ => ?_))
      | exact ih0 _ _ _ _ _ _ _
      | exact ih1 _ _ _ _ _ _
      | exact ih2 _ _ _ _ _ _ _ _ _
      | exact ih3 _ _ _ _ _ _ _ _ _
      | exact ih4 _ _ _ _ _ _ _ _ _ _ _
      | exact ih5 _ _ _ _ _ _ _ _ _ _ _ _ _
      | exact dag_Free.mono _ _ _ _
      | exact penelopelaw16_alive.mono _
      | exact penelopelaw16_few.mono _ _ _
      | exact LeO.none _
      | refine LeO.ite ?_ ?_
      | refine LeO.bind ?_ (fun _ => ?_)
    · intro y0 y1 y2 y3 y4 y5 y6 y7 y8 y9 y10
      unfold penelopelaw16_DagGrows.j4
      repeat' first
      | (with_reducible exact ih0 _ _ _ _ _ _ _)
      | (with_reducible exact ih1 _ _ _ _ _ _)
      | (with_reducible exact ih2 _ _ _ _ _ _ _ _ _)
      | (with_reducible exact ih3 _ _ _ _ _ _ _ _ _)
      | (with_reducible exact ih4 _ _ _ _ _ _ _ _ _ _ _)
      | (with_reducible exact ih5 _ _ _ _ _ _ _ _ _ _ _ _ _)
      | (with_reducible exact dag_Free.mono _ _ _ _)
      | (with_reducible exact penelopelaw16_alive.mono _)
      | (with_reducible exact penelopelaw16_few.mono _ _ _)
      | (with_reducible exact LeO.refl _)
      | (with_reducible exact LeO.none _)
      | (with_reducible refine LeO.ite ?_ ?_)
      | (with_reducible refine LeO.bind ?_ (fun _ => ?_))
      | exact ih0 _ _ _ _ _ _ _
      | exact ih1 _ _ _ _ _ _
      | exact ih2 _ _ _ _ _ _ _ _ _
      | exact ih3 _ _ _ _ _ _ _ _ _
      | exact ih4 _ _ _ _ _ _ _ _ _ _ _
      | exact ih5 _ _ _ _ _ _ _ _ _ _ _ _ _
      | exact dag_Free.mono _ _ _ _
      | exact penelopelaw16_alive.mono _
      | exact penelopelaw16_few.mono _ _ _
      | exact LeO.none _
      | refine LeO.ite ?_ ?_
      | refine LeO.bind ?_ (fun _ => ?_)
    · intro y0 y1 y2 y3 y4 y5 y6 y7 y8 y9 y10 y11 y12
      unfold penelopelaw16_DagGrows.l2
      repeat' first
      | (with_reducible exact ih0 _ _ _ _ _ _ _)
      | (with_reducible exact ih1 _ _ _ _ _ _)
      | (with_reducible exact ih2 _ _ _ _ _ _ _ _ _)
      | (with_reducible exact ih3 _ _ _ _ _ _ _ _ _)
      | (with_reducible exact ih4 _ _ _ _ _ _ _ _ _ _ _)
      | (with_reducible exact ih5 _ _ _ _ _ _ _ _ _ _ _ _ _)
      | (with_reducible exact dag_Free.mono _ _ _ _)
      | (with_reducible exact penelopelaw16_alive.mono _)
      | (with_reducible exact penelopelaw16_few.mono _ _ _)
      | (with_reducible exact LeO.refl _)
      | (with_reducible exact LeO.none _)
      | (with_reducible refine LeO.ite ?_ ?_)
      | (with_reducible refine LeO.bind ?_ (fun _ => ?_))
      | exact ih0 _ _ _ _ _ _ _
      | exact ih1 _ _ _ _ _ _
      | exact ih2 _ _ _ _ _ _ _ _ _
      | exact ih3 _ _ _ _ _ _ _ _ _
      | exact ih4 _ _ _ _ _ _ _ _ _ _ _
      | exact ih5 _ _ _ _ _ _ _ _ _ _ _ _ _
      | exact dag_Free.mono _ _ _ _
      | exact penelopelaw16_alive.mono _
      | exact penelopelaw16_few.mono _ _ _
      | exact LeO.none _
      | refine LeO.ite ?_ ?_
      | refine LeO.bind ?_ (fun _ => ?_)
theorem penelopelaw16_DagGrows.mono : ∀ a0 a1 a2 a3 k, LeO (penelopelaw16_DagGrows.f k a0 a1 a2 a3) (penelopelaw16_DagGrows.f (k + 1) a0 a1 a2 a3) := by
  intro a0 a1 a2 a3 k
  obtain ⟨ih0, ih1, ih2, ih3, ih4, ih5⟩ := penelopelaw16_DagGrows.mono_l k
  unfold penelopelaw16_DagGrows.f
  repeat' first
      | (with_reducible exact ih0 _ _ _ _ _ _ _)
      | (with_reducible exact ih1 _ _ _ _ _ _)
      | (with_reducible exact ih2 _ _ _ _ _ _ _ _ _)
      | (with_reducible exact ih3 _ _ _ _ _ _ _ _ _)
      | (with_reducible exact ih4 _ _ _ _ _ _ _ _ _ _ _)
      | (with_reducible exact ih5 _ _ _ _ _ _ _ _ _ _ _ _ _)
      | (with_reducible exact dag_Free.mono _ _ _ _)
      | (with_reducible exact penelopelaw16_alive.mono _)
      | (with_reducible exact penelopelaw16_few.mono _ _ _)
      | (with_reducible exact LeO.refl _)
      | (with_reducible exact LeO.none _)
      | (with_reducible refine LeO.ite ?_ ?_)
      | (with_reducible refine LeO.bind ?_ (fun _ => ?_))
      | exact ih0 _ _ _ _ _ _ _
      | exact ih1 _ _ _ _ _ _
      | exact ih2 _ _ _ _ _ _ _ _ _
      | exact ih3 _ _ _ _ _ _ _ _ _
      | exact ih4 _ _ _ _ _ _ _ _ _ _ _
      | exact ih5 _ _ _ _ _ _ _ _ _ _ _ _ _
      | exact dag_Free.mono _ _ _ _
      | exact penelopelaw16_alive.mono _
      | exact penelopelaw16_few.mono _ _ _
      | exact LeO.none _
      | refine LeO.ite ?_ ?_
      | refine LeO.bind ?_ (fun _ => ?_)
set_option maxHeartbeats 8000000 in
set_option maxRecDepth 100000 in
theorem penelopelaw16_DagGrows.calls (k : Nat) (a0_0 : ByteArray) (A0_1 : Option Addr) (c0_1 : Nat) (l0_1 : List (S39)) (A1 : Option Addr) (c1 : Nat) (l1 : List Bool) (a2 : Int) (r : Bool) (w : World) (hr0_1 : Kd.C k39 w A0_1 l0_1.length l0_1) (hc0_1 : l0_1.length ≤ c0_1) (hr1 : Kd.C Kd.bool w A1 l1.length l1) (hc1 : l1.length ≤ c1) (h : penelopelaw16_DagGrows.f k a0_0 l0_1 l1 a2 = some r) :
    Calls Try.prog 5 #[.agg #[.string a0_0, .slice A0_1 l0_1.length c0_1], .slice A1 l1.length c1, .int .i64 a2] w fun e w' => e = .returned (.bool r) ∧ Below w.heap.size w w' := by
  have hu24 := Try.underlying24
  have HR0_1 := Aside0.mk hr0_1
  have HC0_1 := Aside0.mk hc0_1
  clear hr0_1 hc0_1
  have HR1 := Aside0.mk hr1
  have HC1 := Aside0.mk hc1
  clear hr1 hc1
  have HB := Aside0.mk (Below.refl w.heap.size w)
  have H : ((penelopelaw16_few.f k a0_0 l0_1).bind fun bt246 => ((dag_Free.f k bt246.1 bt246.2 l1).bind fun bt250 => (if bt250.2 = 0 then (penelopelaw16_DagGrows.j0 k l1 a2 bt250.1 bt250.2 ((bt250.1.length : Int) == 0) bt246.1 bt246.2) else (penelopelaw16_DagGrows.j0 k l1 a2 bt250.1 bt250.2 true bt246.1 bt246.2)))) = some r := h
  clear h
  replace H := Option.bind_eq_some_iff.mp H
  obtain ⟨⟨t246, t247⟩, A40, H⟩ := H
  replace H : ((dag_Free.f k t246 t247 l1).bind fun bt250 => (if bt250.2 = 0 then (penelopelaw16_DagGrows.j0 k l1 a2 bt250.1 bt250.2 ((bt250.1.length : Int) == 0) t246 t247) else (penelopelaw16_DagGrows.j0 k l1 a2 bt250.1 bt250.2 true t246 t247))) = some r := H
  have A4 := Aside0.mk A40
  clear A40
  replace H := Option.bind_eq_some_iff.mp H
  obtain ⟨⟨t250, t253⟩, A50, H⟩ := H
  replace H : (if t253 = 0 then (penelopelaw16_DagGrows.j0 k l1 a2 t250 t253 ((t250.length : Int) == 0) t246 t247) else (penelopelaw16_DagGrows.j0 k l1 a2 t250 t253 true t246 t247)) = some r := H
  have A5 := Aside0.mk A50
  clear A50
  have HC6 := Aside0.mk H
  clear H
  go_enter Try.func5, Try.ntmps5
  go_upto_region 3 with (first | ((with_reducible refine gate_dst (N := 3) rfl ?_); (try (refine gate_guard (by rfl) ?_; dsimp only)); refine box_event ?hg (N := 3) ?hd (cs := #[.string a0_0, .slice A0_1 l0_1.length c0_1]) (t := 24) ?hr ?_; (case hd => rfl); (case hg => rfl); (case hr => first | (go_simp; done) | (go_simp; rfl)); intro gb245 hg w7 hbox hb; have n0_ := Aside0.mk (below_step (by repeat (first | (with_reducible first | exact HB.out | apply below_alloc | apply pw_below_drewN | apply below_drew1) | exact HB.out)) hb); have n1_ := Aside0.mk (hbox); have n2_ := Aside0.mk ((by rw [hg]; exact (below_size (by repeat (first | (with_reducible first | exact HB.out | apply below_alloc | apply pw_below_drewN | apply below_drew1) | exact HB.out))) : w.heap.size ≤ gb245)); have n3_ := Aside0.mk ((by rw [hg]; exact (below_size (by repeat (first | (with_reducible first | exact HB.out | apply below_alloc | apply pw_below_drewN | apply below_drew1) | exact HB.out))) : w.heap.size ≤ gb245)); clear HB; have HB := n0_; have BK245 := n1_; have GW245 := n2_; have GE245 := n3_; clear n0_ n1_ n2_ n3_; clear hb hbox hg; have hcz8_0 : w7.cell? ⟨gb245, 0, none⟩ = some (.string a0_0) := (blk_cell BK245.out 0).trans rfl; have hcz8_1 : w7.cell? ⟨gb245, 1, none⟩ = some (.slice A0_1 l0_1.length c0_1) := (blk_cell BK245.out 1).trans rfl; have hfz8_0 := blk_frozen BK245.out 0; have hfz8_1 := blk_frozen BK245.out 1) | ((with_reducible refine gate_callee (f := 8) rfl ?_); refine goesL_ (some 23) rfl rfl Try.func8 (by kernel_rfl) rfl #[.agg #[.string a0_0, .slice A0_1 l0_1.length c0_1]] rfl (by (try simp only [List.map_toArray, List.map_cons, List.map_nil]); first | done | rfl | (simp only [List.length_drop, List.length_take]; rfl)) ?_; (with_reducible refine (penelopelaw16_few.calls k a0_0 _ _ l0_1 t246 t247 gb245 w _ HR0_1.out (by repeat (first | (with_reducible first | exact HB.out | apply below_alloc | apply pw_below_drewN | apply below_drew1 | refine below_set ?_ GE245.out) | exact HB.out)) GE245.out (blk_lt (o := .cells #[.string a0_0, .slice A0_1 l0_1.length c0_1] 24 (0, 0)) (by (with_reducible repeat (first | refine blk_drewN ?_ _ | refine blk_drew ?_ | refine blk_alloc ?_ _)); exact BK245.out)) HC0_1.out A4.out).mono ?_); rintro e w9 ⟨v248, rfl, ho0, hb⟩; refine ⟨_, rfl, ?_⟩; have n0_ := Aside0.mk (Kd.N_lower ho0 (below_size (by repeat (first | (with_reducible first | exact HB.out | apply below_alloc | apply pw_below_drewN | apply below_drew1 | refine below_set ?_ GE245.out) | exact HB.out)))); have n1_ := Aside0.mk (blk_below (g := gb245) (o := .cells #[.string a0_0, .slice A0_1 l0_1.length c0_1] 24 (0, 0)) (by (with_reducible repeat (first | refine blk_drewN ?_ _ | refine blk_drew ?_ | refine blk_alloc ?_ _)); exact BK245.out) hb); have n2_ := Aside0.mk (below_step (by repeat (first | (with_reducible first | exact HB.out | apply below_alloc | apply pw_below_drewN | apply below_drew1 | refine below_set ?_ GE245.out) | exact HB.out)) hb); clear BK245; clear HB; have HO249 := n0_; have BK245 := n1_; have HB := n2_; clear n0_ n1_ n2_; (try clear hb); (try clear hb2); (try clear hk); (try clear hi); (try clear ho0); have hcz10_0 : w9.cell? ⟨gb245, 0, none⟩ = some (.string a0_0) := (blk_cell BK245.out 0).trans rfl; have hcz10_1 : w9.cell? ⟨gb245, 1, none⟩ = some (.slice A0_1 l0_1.length c0_1) := (blk_cell BK245.out 1).trans rfl; have hfz10_0 := blk_frozen BK245.out 0; have hfz10_1 := blk_frozen BK245.out 1; obtain ⟨Ao11, co11, eo11⟩ := Kd.N_slice HO249.out; subst eo11) | ((with_reducible refine gate_callee (f := 11) rfl ?_); refine goesL_ (some 27) rfl rfl Try.func11 (by kernel_rfl) rfl #[.agg #[.string t246, .slice Ao11 t247.length co11], .slice A1 l1.length c1] rfl (by (try simp only [List.map_toArray, List.map_cons, List.map_nil]); first | done | rfl | (simp only [List.length_drop, List.length_take]; rfl)) ?_; (with_reducible refine (dag_Free.calls k t246 _ _ t247 _ _ l1 t250 t253 _ ?side1 ?side2 ?side3 ?side4 A5.out).mono ?_); (case side1 => refine (Kd.N_reads' (e := 39) (base := w.heap.size) (ok := fun k_ => k_ ≠ gb245) (n := t247.length) (c := co11) ?_).2.2; exact (by (with_reducible repeat (first | apply Kd.N_alloc | apply Kd.N_drewN | apply Kd.N_drew)); exact (Kd.N_mono (Kd.N_far (p := ⟨gb245, 1, none⟩) (Kd.N_far (p := ⟨gb245, 0, none⟩) HO249.out (fun _ hk => hk) (.string t246)) (fun _ hk => hk) (.slice Ao11 t247.length co11)) (fun _ h_ => h_)))); (case side2 => exact (Kd.N_reads' HO249.out).2.1); (case side3 => exact Kd.C_below HR1.out (by repeat (first | (with_reducible first | exact HB.out | apply below_alloc | apply pw_below_drewN | apply below_drew1 | refine below_set ?_ GE245.out) | exact HB.out))); (case side4 => exact HC1.out); rintro e w12 ⟨v251, rfl, ho0, hb⟩; refine ⟨_, rfl, ?_⟩; have n0_ := Aside0.mk (Kd.N_elder' (by (with_reducible repeat (first | apply Kd.N_alloc | apply Kd.N_drewN | apply Kd.N_drew)); exact (Kd.N_mono (Kd.N_far (p := ⟨gb245, 1, none⟩) (Kd.N_far (p := ⟨gb245, 0, none⟩) HO249.out (fun _ hk => hk) (.string t246)) (fun _ hk => hk) (.slice Ao11 t247.length co11)) (fun _ h_ => h_))) (Kd.R_base ho0) hb); have n1_ := Aside0.mk (Kd.R_lower ho0 (below_size (by repeat (first | (with_reducible first | exact HB.out | apply below_alloc | apply pw_below_drewN | apply below_drew1 | refine below_set ?_ GE245.out) | exact HB.out)))); have n2_ := Aside0.mk (blk_below (g := gb245) (o := .cells #[.string t246, .slice Ao11 t247.length co11] 24 (0, 0)) (by (with_reducible repeat (first | refine blk_drewN ?_ _ | refine blk_drew ?_ | refine blk_alloc ?_ _)); refine blk_put (cs := #[.string t246, .slice A0_1 l0_1.length c0_1]) ?_ 1 _ rfl; (with_reducible repeat (first | refine blk_drewN ?_ _ | refine blk_drew ?_ | refine blk_alloc ?_ _)); refine blk_put (cs := #[.string a0_0, .slice A0_1 l0_1.length c0_1]) ?_ 0 _ rfl; (with_reducible repeat (first | refine blk_drewN ?_ _ | refine blk_drew ?_ | refine blk_alloc ?_ _)); exact BK245.out) hb); have n3_ := Aside0.mk (below_step (by repeat (first | (with_reducible first | exact HB.out | apply below_alloc | apply pw_below_drewN | apply below_drew1 | refine below_set ?_ GE245.out) | exact HB.out)) hb); clear HO249; clear BK245; clear HB; have HO249 := n0_; have HO252 := n1_; have BK245 := n2_; have HB := n3_; clear n0_ n1_ n2_ n3_; (try clear hb); (try clear hb2); (try clear hk); (try clear hi); (try clear ho0)))
  (try simp only [Act.put, List.setIfInBounds_toArray, List.set_cons_zero, List.set_cons_succ])
  go_cut [36] (fun v36 wc => ∃ (kq : Nat) (x36_5 : Bool), v36 = .bool x36_5 ∧ Aside0 (penelopelaw16_DagGrows.j0 kq l1 a2 t250 t253 x36_5 t246 t247 = some r) ∧ Aside0 (kq ≤ k) ∧ Aside0 (Kd.R (Kd.int .i64) 3 wc w.heap.size (fun _ => True) v251 t250) ∧ Aside0 (Kd.N k39 39 wc w.heap.size (fun k_ => some k_ ≠ (v251 : Value).ownBlock) (.slice Ao11 t247.length co11) t247) ∧ Aside0 (wc.heap[gb245]? = some (.cells #[.string t246, (.slice Ao11 t247.length co11)] 24 (0, 0))) ∧ Aside0 (Below w.heap.size w wc))
  case first =>
    have H := HC6.out
    clear HC6
    by_cases c13 : t253 = 0
    · rw [if_pos c13] at H
      have c13b0 : (t253 == 0) = true := beq_iff_eq.mpr c13
      have c13b1 : (t253 != 0) = false := bne_eq_false_iff_eq.mpr c13
      clear c13
      (first | rw [c13b0] | (simp only [i64_w, i32_w]; rw [c13b0]) | skip)
      have H' := Aside0.mk H
      clear H
      obtain ⟨Ao14, co14, eo14⟩ := Kd.R_slice HO252.out
      subst eo14
      go_wp2
      go_meet
      case rel => exact ⟨_, (((t250.length : Int) == 0)), (by first | rfl | (simp; done) | (simp [*]; done)), H', ⟨by first | omega | exact Nat.le_refl _⟩, ⟨by (with_reducible repeat (first | apply Kd.R_alloc | apply Kd.R_drewN | apply Kd.R_drew)); exact HO252.out⟩, ⟨by (with_reducible repeat (first | apply Kd.N_alloc | apply Kd.N_drewN | apply Kd.N_drew)); exact Kd.N_mono HO249.out (fun _ hk => hk.2)⟩, ⟨by (with_reducible repeat (first | refine blk_drewN ?_ _ | refine blk_drew ?_ | refine blk_alloc ?_ _)); exact BK245.out⟩, ⟨by repeat (first | (with_reducible first | exact HB.out | apply below_alloc | apply pw_below_drewN | apply below_drew1 | refine below_set ?_ GE245.out) | exact HB.out)⟩⟩
    · rw [if_neg c13] at H
      have c13b0 : (t253 == 0) = false := beq_eq_false_iff_ne.mpr c13
      have c13b1 : (t253 != 0) = true := bne_iff_ne.mpr c13
      (first | rw [c13b0] | (simp only [i64_w, i32_w]; rw [c13b0]) | skip)
      have H' := Aside0.mk H
      clear H
      go_wp2
      go_meet
      case rel => exact ⟨_, (true), (by first | rfl | (simp; done) | (simp [*]; done)), H', ⟨by first | omega | exact Nat.le_refl _⟩, ⟨by (with_reducible repeat (first | apply Kd.R_alloc | apply Kd.R_drewN | apply Kd.R_drew)); exact HO252.out⟩, ⟨by (with_reducible repeat (first | apply Kd.N_alloc | apply Kd.N_drewN | apply Kd.N_drew)); exact Kd.N_mono HO249.out (fun _ hk => hk.2)⟩, ⟨by (with_reducible repeat (first | refine blk_drewN ?_ _ | refine blk_drew ?_ | refine blk_alloc ?_ _)); exact BK245.out⟩, ⟨by repeat (first | (with_reducible first | exact HB.out | apply below_alloc | apply pw_below_drewN | apply below_drew1 | refine below_set ?_ GE245.out) | exact HB.out)⟩⟩
  case rest =>
    clear HC6
    try clear c1
    try clear p2
    try clear c5
    try clear c8
    try clear c11
    try clear c13
    try clear c13b0
    try clear c13b1
    try clear hcz10_0
    try clear hcz10_1
    try clear hcz8_0
    try clear hcz8_1
    try clear hfz10_0
    try clear hfz10_1
    try clear hfz8_0
    try clear hfz8_1
    obtain ⟨kq, x36_5, rfl, HA, HJ5, HO_7, HO_246001, BK245, HB⟩ := hcut
    cases kq with
    | zero => exact absurd HA.out (by simp [penelopelaw16_DagGrows.j0])
    | succ kj5 =>
      have H := HA.out
      clear HA
      simp only [penelopelaw16_DagGrows.j0] at H
      by_cases c15 : x36_5 = true
      · subst c15
        have H1 : ((penelopelaw16_alive.f kj5).bind fun t254 => (if t254 = true then (if t253 = 0 then (some ((l1.length : Int) == (t247.length : Int))) else (some true)) else (none))) = some r := by rw [if_pos rfl] at H; exact H
        clear H
        have H := H1
        clear H1
        replace H := Option.bind_eq_some_iff.mp H
        obtain ⟨t254, A160, H⟩ := H
        replace H : (if t254 = true then (if t253 = 0 then (some ((l1.length : Int) == (t247.length : Int))) else (some true)) else (none)) = some r := H
        have A16 := Aside0.mk A160
        clear A160
        by_cases c17 : t254 = true
        · subst c17
          have H1 : (if t253 = 0 then (some ((l1.length : Int) == (t247.length : Int))) else (some true)) = some r := by rw [if_pos rfl] at H; exact H
          clear H
          have H := H1
          clear H1
          by_cases c18 : t253 = 0
          · rw [if_pos c18] at H
            have c18b0 : (t253 == 0) = true := beq_iff_eq.mpr c18
            have c18b1 : (t253 != 0) = false := bne_eq_false_iff_eq.mpr c18
            clear c18
            obtain rfl := Option.some.inj H
            go_wp2_with (first | ((with_reducible refine gate_callee (f := 13) rfl ?_); refine goesL_ (some 37) rfl rfl Try.func13 (by kernel_rfl) rfl #[] rfl (by (try simp only [List.map_toArray, List.map_cons, List.map_nil]); first | done | rfl | (simp only [List.length_drop, List.length_take]; rfl)) ?_; (with_reducible refine (penelopelaw16_alive.calls kj5  true _ A16.out).mono ?_); rintro e w19 ⟨rfl, hb⟩; refine ⟨_, rfl, ?_⟩; have n0_ := Aside0.mk (Kd.R_below (by (with_reducible repeat (first | apply Kd.R_alloc | apply Kd.R_drewN | apply Kd.R_drew)); exact HO_7.out) hb); have n1_ := Aside0.mk (Kd.N_below (by (with_reducible repeat (first | apply Kd.N_alloc | apply Kd.N_drewN | apply Kd.N_drew)); exact HO_246001.out) hb); have n2_ := Aside0.mk (blk_below (g := gb245) (o := .cells #[.string t246, .slice Ao11 t247.length co11] 24 (0, 0)) (by (with_reducible repeat (first | refine blk_drewN ?_ _ | refine blk_drew ?_ | refine blk_alloc ?_ _)); exact BK245.out) hb); have n3_ := Aside0.mk (below_step (by repeat (first | (with_reducible first | exact HB.out | apply below_alloc | apply pw_below_drewN | apply below_drew1 | refine below_set ?_ GE245.out) | exact HB.out)) hb); clear HO_7; clear HO_246001; clear BK245; clear HB; have HO_7 := n0_; have HO_246001 := n1_; have BK245 := n2_; have HB := n3_; clear n0_ n1_ n2_ n3_; (try clear hb); (try clear hb2); (try clear hk); (try clear hi); have hcz20_0 : w19.cell? ⟨gb245, 0, none⟩ = some (.string t246) := (blk_cell BK245.out 0).trans rfl; have hcz20_1 : w19.cell? ⟨gb245, 1, none⟩ = some (.slice Ao11 t247.length co11) := (blk_cell BK245.out 1).trans rfl; have hfz20_0 := blk_frozen BK245.out 0; have hfz20_1 := blk_frozen BK245.out 1))
            go_ret
            exact ⟨by first | rfl | (simp [errW_none, errW_some] <;> rfl) | (simp [*, errW_none, errW_some] <;> rfl), by repeat (first | (with_reducible first | exact HB.out | apply below_alloc | apply pw_below_drewN | apply below_drew1 | refine below_set ?_ GE245.out) | exact HB.out)⟩
          · rw [if_neg c18] at H
            have c18b0 : (t253 == 0) = false := beq_eq_false_iff_ne.mpr c18
            have c18b1 : (t253 != 0) = true := bne_iff_ne.mpr c18
            obtain rfl := Option.some.inj H
            go_wp2_with (first | ((with_reducible refine gate_callee (f := 13) rfl ?_); refine goesL_ (some 37) rfl rfl Try.func13 (by kernel_rfl) rfl #[] rfl (by (try simp only [List.map_toArray, List.map_cons, List.map_nil]); first | done | rfl | (simp only [List.length_drop, List.length_take]; rfl)) ?_; (with_reducible refine (penelopelaw16_alive.calls kj5  true _ A16.out).mono ?_); rintro e w21 ⟨rfl, hb⟩; refine ⟨_, rfl, ?_⟩; have n0_ := Aside0.mk (Kd.R_below (by (with_reducible repeat (first | apply Kd.R_alloc | apply Kd.R_drewN | apply Kd.R_drew)); exact HO_7.out) hb); have n1_ := Aside0.mk (Kd.N_below (by (with_reducible repeat (first | apply Kd.N_alloc | apply Kd.N_drewN | apply Kd.N_drew)); exact HO_246001.out) hb); have n2_ := Aside0.mk (blk_below (g := gb245) (o := .cells #[.string t246, .slice Ao11 t247.length co11] 24 (0, 0)) (by (with_reducible repeat (first | refine blk_drewN ?_ _ | refine blk_drew ?_ | refine blk_alloc ?_ _)); exact BK245.out) hb); have n3_ := Aside0.mk (below_step (by repeat (first | (with_reducible first | exact HB.out | apply below_alloc | apply pw_below_drewN | apply below_drew1 | refine below_set ?_ GE245.out) | exact HB.out)) hb); clear HO_7; clear HO_246001; clear BK245; clear HB; have HO_7 := n0_; have HO_246001 := n1_; have BK245 := n2_; have HB := n3_; clear n0_ n1_ n2_ n3_; (try clear hb); (try clear hb2); (try clear hk); (try clear hi)))
            go_ret
            exact ⟨by first | rfl | (simp [errW_none, errW_some] <;> rfl) | (simp [*, errW_none, errW_some] <;> rfl), by repeat (first | (with_reducible first | exact HB.out | apply below_alloc | apply pw_below_drewN | apply below_drew1 | refine below_set ?_ GE245.out) | exact HB.out)⟩
        · replace c17 := Bool.eq_false_iff.mpr c17
          subst c17
          have H1 : (none) = some r := by rw [if_neg (show ¬ (false = true) by decide)] at H; exact H
          clear H
          have H := H1
          clear H1
          exact absurd H (by simp)
      · replace c15 := Bool.eq_false_iff.mpr c15
        subst c15
        have H1 : (if (t250.length : Int) = 0 then (none) else (if 0 ≤ (Int.tmod (wrap64 ((Int.tmod a2 (t250.length : Int)) + (t250.length : Int))) (t250.length : Int)) then (if (Int.tmod (wrap64 ((Int.tmod a2 (t250.length : Int)) + (t250.length : Int))) (t250.length : Int)) < (t250.length : Int) then ((some (([] : List Bool) : List Bool)).bind fun y256 => (if y256.length + l1.length < 140737488355328 then ((some (y256 ++ l1 : List Bool)).bind fun y259 => (if (rd t250 (Int.tmod (wrap64 ((Int.tmod a2 (t250.length : Int)) + (t250.length : Int))) (t250.length : Int))) < 0 then (penelopelaw16_DagGrows.j1 kj5 t250 (rd t250 (Int.tmod (wrap64 ((Int.tmod a2 (t250.length : Int)) + (t250.length : Int))) (t250.length : Int))) y259 true t246 t247) else (if (rd t250 (Int.tmod (wrap64 ((Int.tmod a2 (t250.length : Int)) + (t250.length : Int))) (t250.length : Int))) ≥ (y259.length : Int) then (penelopelaw16_DagGrows.j1 kj5 t250 (rd t250 (Int.tmod (wrap64 ((Int.tmod a2 (t250.length : Int)) + (t250.length : Int))) (t250.length : Int))) y259 true t246 t247) else (if 0 ≤ (rd t250 (Int.tmod (wrap64 ((Int.tmod a2 (t250.length : Int)) + (t250.length : Int))) (t250.length : Int))) then (if (rd t250 (Int.tmod (wrap64 ((Int.tmod a2 (t250.length : Int)) + (t250.length : Int))) (t250.length : Int))) < (y259.length : Int) then (penelopelaw16_DagGrows.j1 kj5 t250 (rd t250 (Int.tmod (wrap64 ((Int.tmod a2 (t250.length : Int)) + (t250.length : Int))) (t250.length : Int))) y259 (rdOf false y259 (rd t250 (Int.tmod (wrap64 ((Int.tmod a2 (t250.length : Int)) + (t250.length : Int))) (t250.length : Int)))) t246 t247) else (none)) else (none))))) else (none))) else (none)) else (none))) = some r := by rw [if_neg (show ¬ (false = true) by decide)] at H; exact H
        clear H
        have H := H1
        clear H1
        by_cases c22 : (t250.length : Int) = 0
        · rw [if_pos c22] at H
          exact absurd H (by simp)
        · rw [if_neg c22] at H
          have c22b0 : ((t250.length : Int) == 0) = false := beq_eq_false_iff_ne.mpr c22
          have c22b1 : ((t250.length : Int) != 0) = true := bne_iff_ne.mpr c22
          have c22b2 : ¬ (t250 = []) := fun h_ => c22 (by rw [h_]; rfl)
          obtain ⟨ji23, hji23⟩ : ∃ j_ : Int, (Int.tmod (wrap64 ((Int.tmod a2 (t250.length : Int)) + (t250.length : Int))) (t250.length : Int)) = j_ := ⟨_, rfl⟩
          replace H : (if 0 ≤ (ji23) then (if (ji23) < (t250.length : Int) then ((some (([] : List Bool) : List Bool)).bind fun y256 => (if y256.length + l1.length < 140737488355328 then ((some (y256 ++ l1 : List Bool)).bind fun y259 => (if (rd t250 (ji23)) < 0 then (penelopelaw16_DagGrows.j1 kj5 t250 (rd t250 (ji23)) y259 true t246 t247) else (if (rd t250 (ji23)) ≥ (y259.length : Int) then (penelopelaw16_DagGrows.j1 kj5 t250 (rd t250 (ji23)) y259 true t246 t247) else (if 0 ≤ (rd t250 (ji23)) then (if (rd t250 (ji23)) < (y259.length : Int) then (penelopelaw16_DagGrows.j1 kj5 t250 (rd t250 (ji23)) y259 (rdOf false y259 (rd t250 (ji23))) t246 t247) else (none)) else (none))))) else (none))) else (none)) else (none)) = some r := by first | (rw [hji23] at H; exact H) | (simp only [hji23] at H ⊢; exact H)
          by_cases c24 : 0 ≤ (ji23)
          · rw [if_pos c24] at H
            have c24b0 : decide (0 ≤ (ji23)) = true := decide_eq_true c24
            clear c24
            by_cases c25 : (ji23) < (t250.length : Int)
            · rw [if_pos c25] at H
              have c25b0 : decide ((ji23) < (t250.length : Int)) = true := decide_eq_true c25
              clear c25
              obtain ⟨y256, hy256⟩ : ∃ y_ : List Bool, y_ = (([] : List Bool)) := ⟨_, rfl⟩
              replace H : (if y256.length + l1.length < 140737488355328 then ((some (y256 ++ l1 : List Bool)).bind fun y259 => (if (rd t250 (ji23)) < 0 then (penelopelaw16_DagGrows.j1 kj5 t250 (rd t250 (ji23)) y259 true t246 t247) else (if (rd t250 (ji23)) ≥ (y259.length : Int) then (penelopelaw16_DagGrows.j1 kj5 t250 (rd t250 (ji23)) y259 true t246 t247) else (if 0 ≤ (rd t250 (ji23)) then (if (rd t250 (ji23)) < (y259.length : Int) then (penelopelaw16_DagGrows.j1 kj5 t250 (rd t250 (ji23)) y259 (rdOf false y259 (rd t250 (ji23))) t246 t247) else (none)) else (none))))) else (none)) = some r := by first | (rw [hy256]; with_reducible exact H) | (have H2_ := (Option.bind_some _ _).symm.trans H; rw [hy256]; with_reducible exact H2_) | (have H2_ := (Option.bind_some _ _).symm.trans H; with_reducible exact H2_) | with_reducible exact H | (rw [hy256]; exact H) | exact H
              have Ny256 := Aside0.mk hy256
              clear hy256
              by_cases c26 : y256.length + l1.length < 140737488355328
              · rw [if_pos c26] at H
                have LMc26 := Aside0.mk c26
                clear c26
                obtain ⟨y259, hy259⟩ : ∃ y_ : List Bool, y_ = (y256 ++ l1) := ⟨_, rfl⟩
                replace H : (if (rd t250 (ji23)) < 0 then (penelopelaw16_DagGrows.j1 kj5 t250 (rd t250 (ji23)) y259 true t246 t247) else (if (rd t250 (ji23)) ≥ (y259.length : Int) then (penelopelaw16_DagGrows.j1 kj5 t250 (rd t250 (ji23)) y259 true t246 t247) else (if 0 ≤ (rd t250 (ji23)) then (if (rd t250 (ji23)) < (y259.length : Int) then (penelopelaw16_DagGrows.j1 kj5 t250 (rd t250 (ji23)) y259 (rdOf false y259 (rd t250 (ji23))) t246 t247) else (none)) else (none)))) = some r := by first | (rw [hy259]; with_reducible exact H) | (have H2_ := (Option.bind_some _ _).symm.trans H; rw [hy259]; with_reducible exact H2_) | (have H2_ := (Option.bind_some _ _).symm.trans H; with_reducible exact H2_) | with_reducible exact H | (rw [hy259]; exact H) | exact H
                have Ny259 := Aside0.mk hy259
                clear hy259
                have HC27 := Aside0.mk H
                clear H
                obtain ⟨Ao28, co28, eo28⟩ := Kd.R_slice HO_7.out
                subst eo28
                have p255 : 0 ≤ ((ji23) : Int) := of_decide_eq_true (by first | (with_reducible assumption) | assumption)
                have q255 : (ji23) < (t250.length : Int) := of_decide_eq_true (by first | (with_reducible assumption) | assumption)
                obtain ⟨ad255, e255, hx255_0⟩ := Kd.at_int (Kd.R_reads' HO_7.out).2.2 (ji23) p255 q255
                cases e255
                replace p255 := eq_true p255
                replace q255 := eq_true q255
                go_upto_region 7 with (first | ((with_reducible refine gate_dst (N := 63) rfl ?_); (try (refine gate_guard (by rfl) ?_; dsimp only)); refine Kd.R_lit Kd.bool _ 4 ?hg (N := 63) ?hd (xs := ([] : List Bool)) (inner := []) (ok := fun _ => True) (okp := fun _ => True) ?hr ?hp (fun _ hk => hk) trivial (Below.refl _ _) (Nat.le_refl _) (by simp) ?_; (case hd => rfl); (case hg => rfl); (case hr => first | (go_simp; done) | (go_simp; rfl)); (case hp => exact (Reps.none _ _)); intro v257 w29 ho30 hb hg_ hnew_; clear hg_ hnew_; (first | rw [← Ny256.out] at ho30 | (simp only [Int.reduceToNat] at ho30; rw [← Ny256.out] at ho30)); have n0_ := Aside0.mk (Kd.R_below (by (with_reducible repeat (first | apply Kd.R_alloc | apply Kd.R_drewN | apply Kd.R_drew)); exact HO_7.out) hb); have n1_ := Aside0.mk (Kd.N_elder' (by (with_reducible repeat (first | apply Kd.N_alloc | apply Kd.N_drewN | apply Kd.N_drew)); exact HO_246001.out) (Kd.R_base ho30) hb); have n2_ := Aside0.mk (Kd.R_lower ho30 (below_size (by repeat (first | (with_reducible first | exact HB.out | apply below_alloc | apply pw_below_drewN | apply below_drew1 | refine below_set ?_ GE245.out) | exact HB.out)))); have n3_ := Aside0.mk (blk_below (g := gb245) (o := .cells #[.string t246, .slice Ao11 t247.length co11] 24 (0, 0)) (by (with_reducible repeat (first | refine blk_drewN ?_ _ | refine blk_drew ?_ | refine blk_alloc ?_ _)); exact BK245.out) hb); have n4_ := Aside0.mk (below_step (by repeat (first | (with_reducible first | exact HB.out | apply below_alloc | apply pw_below_drewN | apply below_drew1 | refine below_set ?_ GE245.out) | exact HB.out)) hb); clear HO_7; clear HO_246001; clear BK245; clear HB; have HO_7 := n0_; have HO_246001 := n1_; have HO258 := n2_; have BK245 := n3_; have HB := n4_; clear n0_ n1_ n2_ n3_ n4_; clear hb ho30) | ((with_reducible refine gate_builtin (b := .append) (xs := #[.tmp 63, .tmp 64]) rfl ?_); (try (refine gate_guard (by rfl) ?_; dsimp only)); at_builtin; refine Kd.R_append_rows Kd.bool (w0 := w) w.heap.size rfl (.tmp 63) (.tmp 64) 25 4 (.bool false) 1 rfl Try.underlying25 info4 rfl (by decide) (by omega) v257 y256 l1 _ _ _ (fun _ => True) (fun _ => False) rfl rfl ?aO ?aR (fun _ _ h => h) (fun _ h => h.elim) ?aF ?aB ?aS ?aL ?_; (case aR => repeat (first | exact (Kd.C_below HR1.out HB.out) | (with_reducible refine Kd.C_alloc ?_ _) | (with_reducible refine Kd.C_drewN ?_ _) | (with_reducible refine Kd.C_drew ?_))); (case aB => exact (by repeat (first | (with_reducible first | exact HB.out | apply below_alloc | apply pw_below_drewN | apply below_drew1 | refine below_set ?_ GE245.out) | exact HB.out))); (case aF => exact (fun _ _ => trivial)); (case aO => exact (by (with_reducible repeat (first | apply Kd.R_alloc | apply Kd.R_drewN | apply Kd.R_drew)); exact HO258.out)); (case aS => exact (below_size (by repeat (first | (with_reducible first | exact HB.out | apply below_alloc | apply pw_below_drewN | apply below_drew1 | refine below_set ?_ GE245.out) | exact HB.out)))); (case aL => have := LMc26.out; omega); intro v260 w31 ho hb hg hat; rw [← Ny259.out] at ho; have n0_ := Aside0.mk (Kd.R_over' (by (with_reducible repeat (first | apply Kd.R_alloc | apply Kd.R_drewN | apply Kd.R_drew)); exact HO_7.out) (Kd.R_typed (by (with_reducible repeat (first | apply Kd.R_alloc | apply Kd.R_drewN | apply Kd.R_drew)); exact HO258.out)) (by decide) hg); have n1_ := Aside0.mk (Kd.N_after (by (with_reducible repeat (first | apply Kd.N_alloc | apply Kd.N_drewN | apply Kd.N_drew)); exact HO_246001.out) hg hat); have n2_ := Aside0.mk (blk_grown (g := gb245) (o := .cells #[.string t246, .slice Ao11 t247.length co11] 24 (0, 0)) (by (with_reducible repeat (first | refine blk_drewN ?_ _ | refine blk_drew ?_ | refine blk_alloc ?_ _)); exact BK245.out) hg (Kd.R_ne HO258.out BK245.out (by decide))); have n3_ := Aside0.mk (hb); have n4_ := Aside0.mk (ho); clear HO_7; clear HO_246001; clear BK245; clear HB; clear HO258; have HO_7 := n0_; have HO_246001 := n1_; have BK245 := n2_; have HB := n3_; have HO261 := n4_; clear n0_ n1_ n2_ n3_ n4_; clear ho hb hg hat))
                (try simp only [Act.put, List.setIfInBounds_toArray, List.set_cons_zero, List.set_cons_succ])
                go_cut [79] (fun v79 wc => ∃ (kq : Nat) (x79_26 : Bool), v79 = .bool x79_26 ∧ Aside0 (penelopelaw16_DagGrows.j1 kq t250 (rd t250 (ji23)) y259 x79_26 t246 t247 = some r) ∧ Aside0 (kq ≤ kj5) ∧ Aside0 (Kd.R (Kd.int .i64) 3 wc w.heap.size (fun _ => True) (.slice (some ad255) t250.length co28) t250) ∧ Aside0 (Kd.R Kd.bool 4 wc w.heap.size (fun _ => True) v260 y259) ∧ Aside0 (Kd.N k39 39 wc w.heap.size (fun k_ => some k_ ≠ ((.slice (some ad255) t250.length co28) : Value).ownBlock ∧ some k_ ≠ (v260 : Value).ownBlock) (.slice Ao11 t247.length co11) t247) ∧ Aside0 (wc.heap[gb245]? = some (.cells #[.string t246, (.slice Ao11 t247.length co11)] 24 (0, 0))) ∧ Aside0 (Below w.heap.size w wc))
                case first =>
                  have H := HC27.out
                  clear HC27
                  by_cases c32 : (rd t250 (ji23)) < 0
                  · rw [if_pos c32] at H
                    have c32b0 : decide ((rd t250 (ji23)) < 0) = true := decide_eq_true c32
                    clear c32
                    (first | rw [c32b0] | (simp only [i64_w, i32_w]; rw [c32b0]) | skip)
                    have H' := Aside0.mk H
                    clear H
                    go_wp2
                    go_meet
                    case rel => exact ⟨_, (true), (by first | rfl | (simp; done) | (simp [*]; done)), H', ⟨by have := HJ5.out; first | omega | exact Nat.le_refl _⟩, ⟨by (with_reducible repeat (first | apply Kd.R_alloc | apply Kd.R_drewN | apply Kd.R_drew)); exact HO_7.out⟩, ⟨by (with_reducible repeat (first | apply Kd.R_alloc | apply Kd.R_drewN | apply Kd.R_drew)); exact HO261.out⟩, ⟨by (with_reducible repeat (first | apply Kd.N_alloc | apply Kd.N_drewN | apply Kd.N_drew)); exact HO_246001.out⟩, ⟨by (with_reducible repeat (first | refine blk_drewN ?_ _ | refine blk_drew ?_ | refine blk_alloc ?_ _)); exact BK245.out⟩, ⟨by repeat (first | (with_reducible first | exact HB.out | apply below_alloc | apply pw_below_drewN | apply below_drew1 | refine below_set ?_ GE245.out) | exact HB.out)⟩⟩
                  · rw [if_neg c32] at H
                    have c32b0 : decide ((rd t250 (ji23)) < 0) = false := decide_eq_false c32
                    clear c32
                    (first | rw [c32b0] | (simp only [i64_w, i32_w]; rw [c32b0]) | skip)
                    by_cases c33 : (rd t250 (ji23)) ≥ (y259.length : Int)
                    · rw [if_pos c33] at H
                      have c33b0 : decide ((y259.length : Int) ≤ (rd t250 (ji23))) = true := decide_eq_true c33
                      clear c33
                      have H' := Aside0.mk H
                      clear H
                      obtain ⟨Ao34, co34, eo34⟩ := Kd.R_slice HO261.out
                      subst eo34
                      go_wp2
                      go_meet
                      case rel => exact ⟨_, (true), (by first | rfl | (simp; done) | (simp [*]; done)), H', ⟨by have := HJ5.out; first | omega | exact Nat.le_refl _⟩, ⟨by (with_reducible repeat (first | apply Kd.R_alloc | apply Kd.R_drewN | apply Kd.R_drew)); exact HO_7.out⟩, ⟨by (with_reducible repeat (first | apply Kd.R_alloc | apply Kd.R_drewN | apply Kd.R_drew)); exact HO261.out⟩, ⟨by (with_reducible repeat (first | apply Kd.N_alloc | apply Kd.N_drewN | apply Kd.N_drew)); exact HO_246001.out⟩, ⟨by (with_reducible repeat (first | refine blk_drewN ?_ _ | refine blk_drew ?_ | refine blk_alloc ?_ _)); exact BK245.out⟩, ⟨by repeat (first | (with_reducible first | exact HB.out | apply below_alloc | apply pw_below_drewN | apply below_drew1 | refine below_set ?_ GE245.out) | exact HB.out)⟩⟩
                    · rw [if_neg c33] at H
                      have c33b0 : decide ((y259.length : Int) ≤ (rd t250 (ji23))) = false := decide_eq_false c33
                      clear c33
                      by_cases c35 : 0 ≤ (rd t250 (ji23))
                      · rw [if_pos c35] at H
                        have c35b0 : decide (0 ≤ (rd t250 (ji23))) = true := decide_eq_true c35
                        clear c35
                        by_cases c36 : (rd t250 (ji23)) < (y259.length : Int)
                        · rw [if_pos c36] at H
                          have c36b0 : decide ((rd t250 (ji23)) < (y259.length : Int)) = true := decide_eq_true c36
                          clear c36
                          have H' := Aside0.mk H
                          clear H
                          obtain ⟨Ao37, co37, eo37⟩ := Kd.R_slice HO261.out
                          subst eo37
                          have p262 : 0 ≤ ((rd t250 (ji23)) : Int) := of_decide_eq_true (by first | (with_reducible assumption) | assumption)
                          have q262 : (rd t250 (ji23)) < (y259.length : Int) := of_decide_eq_true (by first | (with_reducible assumption) | assumption)
                          obtain ⟨ad262, e262, hx262_0⟩ := Kd.at_bool (Kd.R_reads' HO261.out).2.2 (rd t250 (ji23)) p262 q262
                          cases e262
                          replace p262 := eq_true p262
                          replace q262 := eq_true q262
                          go_wp2
                          go_meet
                          case rel => exact ⟨_, (rdOf false y259 (rd t250 (ji23))), (by first | rfl | (simp; done) | (simp only [← hji23] <;> (first | rfl | simp)) | (simp [*]; done)), H', ⟨by have := HJ5.out; first | omega | exact Nat.le_refl _⟩, ⟨by (with_reducible repeat (first | apply Kd.R_alloc | apply Kd.R_drewN | apply Kd.R_drew)); exact HO_7.out⟩, ⟨by (with_reducible repeat (first | apply Kd.R_alloc | apply Kd.R_drewN | apply Kd.R_drew)); exact HO261.out⟩, ⟨by (with_reducible repeat (first | apply Kd.N_alloc | apply Kd.N_drewN | apply Kd.N_drew)); exact HO_246001.out⟩, ⟨by (with_reducible repeat (first | refine blk_drewN ?_ _ | refine blk_drew ?_ | refine blk_alloc ?_ _)); exact BK245.out⟩, ⟨by repeat (first | (with_reducible first | exact HB.out | apply below_alloc | apply pw_below_drewN | apply below_drew1 | refine below_set ?_ GE245.out) | exact HB.out)⟩⟩
                        · rw [if_neg c36] at H
                          exact absurd H (by simp)
                      · rw [if_neg c35] at H
                        exact absurd H (by simp)
                case rest =>
                  clear HC27
                  try clear c1
                  try clear c2
                  try clear p2
                  try clear q2
                  try clear hx2
                  try clear c3
                  try clear c5
                  try clear p6
                  try clear c8
                  try clear c11
                  try clear c13
                  try clear c13b0
                  try clear c13b1
                  try clear c15
                  try clear c17
                  try clear c18
                  try clear c18b0
                  try clear c18b1
                  try clear c22
                  try clear c22b0
                  try clear c22b1
                  try clear c22b2
                  try clear c24
                  try clear c24b0
                  try clear c25
                  try clear c25b0
                  try clear p25
                  try clear q25
                  try clear hx25
                  try clear c26
                  try clear p26
                  try clear q26
                  try clear hx26
                  try clear c32
                  try clear c32b0
                  try clear c33
                  try clear c33b0
                  try clear c35
                  try clear c35b0
                  try clear c36
                  try clear c36b0
                  try clear hcz10_0
                  try clear hcz10_1
                  try clear hcz20_0
                  try clear hcz20_1
                  try clear hcz8_0
                  try clear hcz8_1
                  try clear hfz10_0
                  try clear hfz10_1
                  try clear hfz20_0
                  try clear hfz20_1
                  try clear hfz8_0
                  try clear hfz8_1
                  try clear hx255_0
                  try clear hx262_0
                  try clear p2
                  try clear p255
                  try clear p262
                  try clear q255
                  try clear q262
                  obtain ⟨kq, x79_26, rfl, HA, HJ26, HO_7, HO_10, HO_246001, BK245, HB⟩ := hcut
                  cases kq with
                  | zero => exact absurd HA.out (by simp [penelopelaw16_DagGrows.j1])
                  | succ kj26 =>
                    have H := HA.out
                    clear HA
                    simp only [penelopelaw16_DagGrows.j1] at H
                    by_cases c38 : x79_26 = true
                    · subst c38
                      have H1 : (none) = some r := by rw [if_pos rfl] at H; exact H
                      clear H
                      have H := H1
                      clear H1
                      exact absurd H (by simp)
                    · replace c38 := Bool.eq_false_iff.mpr c38
                      subst c38
                      have H1 : (if 0 ≤ (rd t250 (ji23)) then (if (rd t250 (ji23)) < (y259.length : Int) then ((dag_Free.f kj26 t246 t247 (y259.set ((rd t250 (ji23)) : Int).toNat true)).bind fun bt264 => (if bt264.2 = 0 then (if t250.length ≤ 1000000 ∧ (∀ x ∈ t250, 0 ≤ x ∧ x < 1000000) ∧ (∀ x ∈ bt264.1, 0 ≤ x ∧ x < 1000000) then (penelopelaw16_DagGrows.l0 kj26 t250 (rd t250 (ji23)) bt264.1 777 t250 (t250.length : Int) 0 t246 t247) else (none)) else (none))) else (none)) else (none)) = some r := by rw [if_neg (show ¬ (false = true) by decide)] at H; exact H
                      clear H
                      have H := H1
                      clear H1
                      by_cases c39 : 0 ≤ (rd t250 (ji23))
                      · rw [if_pos c39] at H
                        have c39b0 : decide (0 ≤ (rd t250 (ji23))) = true := decide_eq_true c39
                        clear c39
                        by_cases c40 : (rd t250 (ji23)) < (y259.length : Int)
                        · rw [if_pos c40] at H
                          have c40b0 : decide ((rd t250 (ji23)) < (y259.length : Int)) = true := decide_eq_true c40
                          clear c40
                          obtain ⟨y263, hy263⟩ : ∃ y_ : List Bool, y_ = (y259.set ((rd t250 (ji23)) : Int).toNat true) := ⟨_, rfl⟩
                          replace H : ((dag_Free.f kj26 t246 t247 y263).bind fun bt264 => (if bt264.2 = 0 then (if t250.length ≤ 1000000 ∧ (∀ x ∈ t250, 0 ≤ x ∧ x < 1000000) ∧ (∀ x ∈ bt264.1, 0 ≤ x ∧ x < 1000000) then (penelopelaw16_DagGrows.l0 kj26 t250 (rd t250 (ji23)) bt264.1 777 t250 (t250.length : Int) 0 t246 t247) else (none)) else (none))) = some r := by first | (rw [hy263]; with_reducible exact H) | (have H2_ := (Option.bind_some _ _).symm.trans H; rw [hy263]; with_reducible exact H2_) | (have H2_ := (Option.bind_some _ _).symm.trans H; with_reducible exact H2_) | with_reducible exact H | (rw [hy263]; exact H) | exact H
                          have Ny263 := Aside0.mk hy263
                          clear hy263
                          replace H := Option.bind_eq_some_iff.mp H
                          obtain ⟨⟨t264, t267⟩, A420, H⟩ := H
                          replace H : (if t267 = 0 then (if t250.length ≤ 1000000 ∧ (∀ x ∈ t250, 0 ≤ x ∧ x < 1000000) ∧ (∀ x ∈ t264, 0 ≤ x ∧ x < 1000000) then (penelopelaw16_DagGrows.l0 kj26 t250 (rd t250 (ji23)) t264 777 t250 (t250.length : Int) 0 t246 t247) else (none)) else (none)) = some r := H
                          have A42 := Aside0.mk A420
                          clear A420
                          by_cases c43 : t267 = 0
                          · rw [if_pos c43] at H
                            by_cases cG : t250.length ≤ 1000000 ∧ (∀ x ∈ t250, 0 ≤ x ∧ x < 1000000) ∧ (∀ x ∈ t264, 0 ≤ x ∧ x < 1000000)
                            case neg => rw [if_neg cG] at H; exact absurd H (by simp)
                            rw [if_pos cG] at H
                            have GG := Aside0.mk cG
                            clear cG
                            have c43b0 : (t267 == 0) = true := beq_iff_eq.mpr c43
                            have c43b1 : (t267 != 0) = false := bne_eq_false_iff_eq.mpr c43
                            clear c43
                            have H' := Aside0.mk H
                            clear H
                            have p41 : 0 ≤ ((rd t250 (ji23)) : Int) := of_decide_eq_true (by first | (with_reducible assumption) | assumption)
                            have q41 : ((rd t250 (ji23)) : Int) < ((y259.length : Int) : Int) := of_decide_eq_true (by first | (with_reducible assumption) | assumption)
                            obtain ⟨go41, co41, eo41, gb41, gl41, cl41, HG41⟩ := Kd.R_form HO_10.out (by omega)
                            (first | cases eo41 | (injection eo41 with ea_ en_ ec_; (first | subst ea_ | (injection ea_ with ea_; subst ea_)); subst ec_; clear en_))
                            have GB41 := Aside0.mk gb41
                            have GG41 := Aside0.mk HG41
                            clear gb41 gl41 HG41
                            obtain ⟨hx41_0, hf41_0⟩ := Kd.R_celln false HO_10.out ((rd t250 (ji23)) : Int) p41 q41
                            replace p41 := eq_true p41
                            replace q41 := eq_true q41
                            have HP44 := Kd.R_putg HO_10.out ((rd t250 (ji23)) : Int) true
                            have hmm := @run_makeMap Try.prog
                            go_wp2_with (first | ((with_reducible refine gate_store (t := 4) (p := 82) rfl ?_); refine store_event (t := 4) (p := 82) (v := ?vo_w45) (w1 := (wc.setCell ⟨go41, ((rd t250 (ji23)) : Int).toNat, none⟩ (.bool true))) ?hg ?ho ?hn ?hr ?_; (case ho => rfl); (case hg => rfl); (case hn => rfl); (case hr => first | (go_simp; done) | (go_simp; rfl)); intro w45 hw; have hg : wc.grownBy w45 (some go41) := (by rw [hw]; exact HP44.2); have hp_ : Kd.R Kd.bool 4 w45 w.heap.size (fun _ => True) (.slice (some ⟨go41, 0, none⟩) y259.length co41) y263 := (by rw [hw, Ny263.out]; exact HP44.1); clear HP44; have n0_ := Aside0.mk (Kd.R_over' (v := (.slice (some ⟨go41, 0, none⟩) y259.length co41)) (by (with_reducible repeat (first | apply Kd.R_alloc | apply Kd.R_drewN | apply Kd.R_drew)); exact HO_7.out) (Kd.R_typed HO_10.out) (by decide) hg); have n1_ := Aside0.mk (hp_); have n2_ := Aside0.mk (Kd.N_grown (ok := fun k_ => some k_ ≠ ((.slice (some ad255) t250.length co28) : Value).ownBlock ∧ some k_ ≠ ((.slice (some ⟨go41, 0, none⟩) y259.length co41) : Value).ownBlock) (by (with_reducible repeat (first | apply Kd.N_alloc | apply Kd.N_drewN | apply Kd.N_drew)); exact HO_246001.out) hg (fun _ hk => hk.2)); have n3_ := Aside0.mk (blk_grown (g := gb245) (o := .cells #[.string t246, .slice Ao11 t247.length co11] 24 (0, 0)) (by (with_reducible repeat (first | refine blk_drewN ?_ _ | refine blk_drew ?_ | refine blk_alloc ?_ _)); exact BK245.out) hg (Kd.R_ne HO_10.out BK245.out (by decide))); have n4_ := Aside0.mk ((by rw [hw]; exact below_set (HB.out) GB41.out : Below w.heap.size w w45)); clear HO_7; clear HO_10; clear HO_246001; clear BK245; clear HB; have HO_7 := n0_; have HO_10 := n1_; have HO_246001 := n2_; have BK245 := n3_; have HB := n4_; clear n0_ n1_ n2_ n3_ n4_; clear hg hw hp_; have hcz46_0 : w45.cell? ⟨gb245, 0, none⟩ = some (.string t246) := (blk_cell BK245.out 0).trans rfl; have hcz46_1 : w45.cell? ⟨gb245, 1, none⟩ = some (.slice Ao11 t247.length co11) := (blk_cell BK245.out 1).trans rfl; have hfz46_0 := blk_frozen BK245.out 0; have hfz46_1 := blk_frozen BK245.out 1) | ((with_reducible refine gate_callee (f := 11) rfl ?_); refine goesL_ (some 86) rfl rfl Try.func11 (by kernel_rfl) rfl #[.agg #[.string t246, .slice Ao11 t247.length co11], .slice (some ⟨go41, 0, none⟩) y263.length co41] rfl (by (try simp only [List.map_toArray, List.map_cons, List.map_nil]); first | done | (rw [show y263.length = y259.length from (Kd.R_reads' HO_10.out).1.symm] <;> rfl) | rfl | (simp only [List.length_drop, List.length_take]; rfl)) ?_; (with_reducible refine (dag_Free.calls kj26 t246 _ _ t247 _ _ y263 t264 t267 _ ?side1 ?side2 ?side3 ?side4 A42.out).mono ?_); (case side1 => repeat (first | exact (Kd.N_reads' HO_246001.out).2.2 | (with_reducible refine Kd.C_alloc ?_ _) | (with_reducible refine Kd.C_drewN ?_ _) | (with_reducible refine Kd.C_drew ?_))); (case side2 => exact (Kd.N_reads' HO_246001.out).2.1); (case side3 => repeat (first | exact (Kd.R_reads' HO_10.out).2.2 | (with_reducible refine Kd.C_alloc ?_ _) | (with_reducible refine Kd.C_drewN ?_ _) | (with_reducible refine Kd.C_drew ?_))); (case side4 => rw [show y263.length = y259.length from (Kd.R_reads' HO_10.out).1.symm]; exact (Kd.R_reads' HO_10.out).2.1); rintro e w47 ⟨v265, rfl, ho0, hb⟩; refine ⟨_, rfl, ?_⟩; have n0_ := Aside0.mk (Kd.R_elder' (by (with_reducible repeat (first | apply Kd.R_alloc | apply Kd.R_drewN | apply Kd.R_drew)); exact HO_7.out) (Kd.R_base ho0) hb); have n1_ := Aside0.mk (Kd.R_below (by (with_reducible repeat (first | apply Kd.R_alloc | apply Kd.R_drewN | apply Kd.R_drew)); exact HO_10.out) hb); have n2_ := Aside0.mk (Kd.N_elder' (by (with_reducible repeat (first | apply Kd.N_alloc | apply Kd.N_drewN | apply Kd.N_drew)); exact HO_246001.out) (Kd.R_base ho0) hb); have n3_ := Aside0.mk (Kd.R_lower (Kd.R_new' ho0 (Kd.R_lt (by (with_reducible repeat (first | apply Kd.R_alloc | apply Kd.R_drewN | apply Kd.R_drew)); exact HO_7.out))) (below_size (by repeat (first | (with_reducible first | exact HB.out | apply below_alloc | apply pw_below_drewN | apply below_drew1 | refine below_set ?_ GE245.out) | exact HB.out)))); have n4_ := Aside0.mk (blk_below (g := gb245) (o := .cells #[.string t246, .slice Ao11 t247.length co11] 24 (0, 0)) (by (with_reducible repeat (first | refine blk_drewN ?_ _ | refine blk_drew ?_ | refine blk_alloc ?_ _)); exact BK245.out) hb); have n5_ := Aside0.mk (below_step (by repeat (first | (with_reducible first | exact HB.out | apply below_alloc | apply pw_below_drewN | apply below_drew1 | refine below_set ?_ GE245.out) | exact HB.out)) hb); clear HO_7; clear HO_10; clear HO_246001; clear BK245; clear HB; have HO_7 := n0_; have HO_10 := n1_; have HO_246001 := n2_; have HO266 := n3_; have BK245 := n4_; have HB := n5_; clear n0_ n1_ n2_ n3_ n4_ n5_; (try clear hb); (try clear hb2); (try clear hk); (try clear hi); (try clear ho0)))
                            have HM := Aside0.mk (isSet_made w47)
                            have GM := Aside0.mk (show w.heap.size ≤ w47.heap.size from below_size HB.out)
                            have HN_ := Aside0.mk (Kd.N_elderB HO_246001.out w47.heap.size (Nat.le_refl _))
                            clear HO_246001 hmm
                            have HO_246001 := HN_
                            clear HN_
                            generalize w47.heap.size = bm at HM GM HO_246001 ⊢
                            go_loopg [94] kj26 (fun kq v94 w' => ∃ (x94_3 : Int), v94 = .int .i64 x94_3 ∧ Aside0 (penelopelaw16_DagGrows.l0 kq t250 (rd t250 (ji23)) t264 777 t250 (t250.length : Int) x94_3 t246 t247 = some r) ∧ Aside0 (kq ≤ kj26) ∧ Aside0 (Kd.R (Kd.int .i64) 3 w' w.heap.size (fun k_ => some k_ ≠ (v265 : Value).ownBlock) (.slice (some ad255) t250.length co28) t250) ∧ Aside0 (Kd.R (Kd.int .i64) 3 w' w.heap.size (fun k_ => some k_ ≠ ((.slice (some ad255) t250.length co28) : Value).ownBlock ∧ some k_ ≠ ((.slice (some ad255) t250.length co28) : Value).ownBlock) v265 t264) ∧ Aside0 (Kd.R (Kd.int .i64) 3 w' w.heap.size (fun k_ => some k_ ≠ (v265 : Value).ownBlock) (.slice (some ad255) t250.length co28) t250) ∧ Aside0 (Kd.N k39 39 w' w.heap.size (fun k_ => (some k_ ≠ ((.slice (some ad255) t250.length co28) : Value).ownBlock ∧ some k_ ≠ (v265 : Value).ownBlock ∧ some k_ ≠ ((.slice (some ad255) t250.length co28) : Value).ownBlock) ∧ k_ ≠ bm) (.slice Ao11 t247.length co11) t247) ∧ Aside0 (w'.heap[gb245]? = some (.cells #[.string t246, (.slice Ao11 t247.length co11)] 24 (0, 0))) ∧ Aside0 (Below w.heap.size w w') ∧ Aside0 (0 ≤ x94_3) ∧ Aside0 (isSet w' bm x94_3.toNat (t250.take x94_3.toNat)))
                            case atStart => exact ⟨(0), (by first | rfl | (simp; done) | (simp [*]; done)), H', ⟨Nat.le_refl _⟩, ⟨by (with_reducible repeat (first | apply Kd.R_alloc | apply Kd.R_drewN | apply Kd.R_drew)); exact Kd.R_mono HO_7.out (fun _ hk => hk.2)⟩, ⟨by (with_reducible repeat (first | apply Kd.R_alloc | apply Kd.R_drewN | apply Kd.R_drew)); exact Kd.R_mono HO266.out (fun _ hk => ⟨hk.2, hk.2⟩)⟩, ⟨by (with_reducible repeat (first | apply Kd.R_alloc | apply Kd.R_drewN | apply Kd.R_drew)); exact Kd.R_mono HO_7.out (fun _ hk => hk.2)⟩, ⟨by (with_reducible repeat (first | apply Kd.N_alloc | apply Kd.N_drewN | apply Kd.N_drew)); exact Kd.N_mono HO_246001.out (fun _ hk => ⟨⟨hk.1.1.1, ⟨hk.1.2, hk.1.1.1⟩⟩, hk.2⟩)⟩, ⟨by (with_reducible repeat (first | refine blk_drewN ?_ _ | refine blk_drew ?_ | refine blk_alloc ?_ _)); exact BK245.out⟩, ⟨by repeat (first | (with_reducible first | exact HB.out | apply below_alloc | apply pw_below_drewN | apply below_drew1 | refine below_set ?_ GE245.out) | exact HB.out)⟩, ⟨by omega⟩, ⟨HM.out⟩⟩
                            case round =>
                              clear H'
                              try clear c1
                              try clear c2
                              try clear p2
                              try clear q2
                              try clear hx2
                              try clear c3
                              try clear c4
                              try clear p4
                              try clear q4
                              try clear hx4
                              try clear hf4
                              try clear c5
                              try clear p6
                              try clear c8
                              try clear c11
                              try clear c13
                              try clear c13b0
                              try clear c13b1
                              try clear c15
                              try clear c17
                              try clear c18
                              try clear c18b0
                              try clear c18b1
                              try clear c22
                              try clear c22b0
                              try clear c22b1
                              try clear c22b2
                              try clear c24
                              try clear c24b0
                              try clear c25
                              try clear c25b0
                              try clear p25
                              try clear q25
                              try clear hx25
                              try clear c26
                              try clear p26
                              try clear q26
                              try clear hx26
                              try clear c32
                              try clear c32b0
                              try clear c33
                              try clear c33b0
                              try clear c35
                              try clear c35b0
                              try clear c36
                              try clear c36b0
                              try clear c38
                              try clear c39
                              try clear c39b0
                              try clear c40
                              try clear c40b0
                              try clear p41
                              try clear q41
                              try clear hx41
                              try clear hf41
                              try clear c43
                              try clear c43b0
                              try clear c43b1
                              try clear hcz10_0
                              try clear hcz10_1
                              try clear hcz20_0
                              try clear hcz20_1
                              try clear hcz46_0
                              try clear hcz46_1
                              try clear hcz8_0
                              try clear hcz8_1
                              try clear hfz10_0
                              try clear hfz10_1
                              try clear hfz20_0
                              try clear hfz20_1
                              try clear hfz46_0
                              try clear hfz46_1
                              try clear hfz8_0
                              try clear hfz8_1
                              try clear hx255_0
                              try clear hx262_0
                              try clear hx41_0
                              try clear p2
                              try clear p25
                              try clear p255
                              try clear p26
                              try clear p262
                              try clear p41
                              try clear p6
                              try clear q2
                              try clear q25
                              try clear q255
                              try clear q26
                              try clear q262
                              try clear q41
                              clear HM
                              obtain ⟨x94_3, rfl, HA, HK3, HO_7, HO_11, HO_92, HO_246001, BK245, HB, HX0, HM⟩ := hrel
                              cases gk with
                              | zero => exact absurd HA.out (by simp [penelopelaw16_DagGrows.l0])
                              | succ k3 =>
                                have H := HA.out
                                clear HA
                                simp only [penelopelaw16_DagGrows.l0] at H
                                by_cases c48 : x94_3 < (t250.length : Int)
                                · rw [if_pos c48] at H
                                  have c48b0 : decide (x94_3 < (t250.length : Int)) = true := decide_eq_true c48
                                  clear c48
                                  by_cases c49 : 0 ≤ x94_3
                                  · rw [if_pos c49] at H
                                    have c49b0 : decide (0 ≤ x94_3) = true := decide_eq_true c49
                                    clear c49
                                    by_cases c50 : x94_3 < (t250.length : Int)
                                    · rw [if_pos c50] at H
                                      have c50b0 : decide (x94_3 < (t250.length : Int)) = true := decide_eq_true c50
                                      clear c50
                                      have H' := Aside0.mk H
                                      clear H
                                      have p268 : 0 ≤ (x94_3 : Int) := of_decide_eq_true (by first | (with_reducible assumption) | assumption)
                                      have q268 : x94_3 < (t250.length : Int) := of_decide_eq_true (by first | (with_reducible assumption) | assumption)
                                      obtain ⟨ad268, e268, hx268_0⟩ := Kd.at_int (Kd.R_reads' HO_92.out).2.2 x94_3 p268 q268
                                      obtain rfl : ad255 = ad268 := (by injection e268)
                                      have hn50 : x94_3.toNat < 1000000 := by (have := GG.out.1; omega)
                                      have YB := Aside0.mk (rd_bound GG.out.2.1 p268 q268)
                                      have EY := Aside0.mk (take_rd p268 q268)
                                      have EW := Aside0.mk (show (wrap64 (x94_3 + 1)).toNat = x94_3.toNat + 1 by (have := GG.out.1; unfold wrap64; omega))
                                      have EW0 := Aside0.mk (show 0 ≤ wrap64 (x94_3 + 1) by (have := GG.out.1; unfold wrap64; omega))
                                      replace p268 := eq_true p268
                                      replace q268 := eq_true q268
                                      go_wp2_with (at_mapUpdate; refine set_put _ rfl _ _ _ rfl bm _ _ rfl (by with_reducible repeat (first | exact HM.out | apply isSet_drewN | apply isSet_drew)) hn50 _ rfl rfl YB.out.1 YB.out.2 ?_; intro wm hm1 hg1; have n0_ := Aside0.mk (keepM_R hg1 (by with_reducible repeat (first | exact HM.out | apply isSet_drewN | apply isSet_drew)) (by (with_reducible repeat (first | apply Kd.R_alloc | apply Kd.R_drewN | apply Kd.R_drew)); exact HO_7.out)); have n1_ := Aside0.mk (keepM_R hg1 (by with_reducible repeat (first | exact HM.out | apply isSet_drewN | apply isSet_drew)) (by (with_reducible repeat (first | apply Kd.R_alloc | apply Kd.R_drewN | apply Kd.R_drew)); exact HO_11.out)); have n2_ := Aside0.mk (keepM_R hg1 (by with_reducible repeat (first | exact HM.out | apply isSet_drewN | apply isSet_drew)) (by (with_reducible repeat (first | apply Kd.R_alloc | apply Kd.R_drewN | apply Kd.R_drew)); exact HO_92.out)); have n3_ := Aside0.mk (Kd.N_grown (ok := (fun k_ => (some k_ ≠ ((.slice (some ad255) t250.length co28) : Value).ownBlock ∧ some k_ ≠ (v265 : Value).ownBlock ∧ some k_ ≠ ((.slice (some ad255) t250.length co28) : Value).ownBlock) ∧ k_ ≠ bm)) (by (with_reducible repeat (first | apply Kd.N_alloc | apply Kd.N_drewN | apply Kd.N_drew)); exact HO_246001.out) hg1 (fun _ hk he => hk.2 (Option.some.inj he))); have n4_ := Aside0.mk (keepM_blk (g := gb245) (cs := #[.string t246, .slice Ao11 t247.length co11]) (ty := 24) hg1 (by with_reducible repeat (first | exact HM.out | apply isSet_drewN | apply isSet_drew)) (by (with_reducible repeat (first | refine blk_drewN ?_ _ | refine blk_drew ?_ | refine blk_alloc ?_ _)); exact BK245.out)); have n5_ := Aside0.mk (Below.grown (by repeat (first | (with_reducible first | exact HB.out | apply below_alloc | apply pw_below_drewN | apply below_drew1 | refine below_set ?_ GE245.out) | exact HB.out)) hg1 (below_size (by repeat (first | (with_reducible first | exact HB.out | apply below_alloc | apply pw_below_drewN | apply below_drew1 | refine below_set ?_ GE245.out) | exact HB.out))) (fun j hj => by cases hj; exact GM.out)); have n6_ := Aside0.mk hm1; clear HO_7 HO_11 HO_92 HO_246001 BK245 HB HM hm1 hg1; have HO_7 := n0_; have HO_11 := n1_; have HO_92 := n2_; have HO_246001 := n3_; have BK245 := n4_; have HB := n5_; have HM := n6_; clear n0_ n1_ n2_ n3_ n4_ n5_ n6_)
                                      go_roundg k3
                                      case measure => have := HJ5.out; have := HJ26.out; have := HK3.out; omega
                                      case rel => exact ⟨(wrap64 (x94_3 + 1)), (by first | rfl | (simp; done) | (simp [*]; done)), H', ⟨by have := HJ5.out; have := HJ26.out; have := HK3.out; omega⟩, ⟨by (with_reducible repeat (first | apply Kd.R_alloc | apply Kd.R_drewN | apply Kd.R_drew)); exact HO_7.out⟩, ⟨by (with_reducible repeat (first | apply Kd.R_alloc | apply Kd.R_drewN | apply Kd.R_drew)); exact HO_11.out⟩, ⟨by (with_reducible repeat (first | apply Kd.R_alloc | apply Kd.R_drewN | apply Kd.R_drew)); exact HO_92.out⟩, ⟨by (with_reducible repeat (first | apply Kd.N_alloc | apply Kd.N_drewN | apply Kd.N_drew)); exact HO_246001.out⟩, ⟨by (with_reducible repeat (first | refine blk_drewN ?_ _ | refine blk_drew ?_ | refine blk_alloc ?_ _)); exact BK245.out⟩, ⟨by repeat (first | (with_reducible first | exact HB.out | apply below_alloc | apply pw_below_drewN | apply below_drew1 | refine below_set ?_ GE245.out) | exact HB.out)⟩, EW0, ⟨by rw [EW.out, ← EY.out]; exact HM.out⟩⟩
                                    · rw [if_neg c50] at H
                                      exact absurd H (by simp)
                                  · rw [if_neg c49] at H
                                    exact absurd H (by simp)
                                · rw [if_neg c48] at H
                                  have HMF := Aside0.mk (show isSet wr bm x94_3.toNat t250 by (have e_ : t250.take x94_3.toNat = t250 := List.take_of_length_le (by (have := HX0.out; omega)); have h_ := HM.out; rw [e_] at h_; exact h_))
                                  clear HM
                                  have HM := HMF
                                  clear HMF
                                  have c48b0 : decide (x94_3 < (t250.length : Int)) = false := decide_eq_false c48
                                  clear c48
                                  have H' := Aside0.mk H
                                  clear H
                                  obtain ⟨Ao51, co51, eo51⟩ := Kd.R_slice HO_11.out
                                  subst eo51
                                  go_wp2
                                  go_loopg [16, 103] k3 (fun kq v16 v103 w' => ∃ (x16_4 : Int) (x103_4 : Int), v16 = .int .i64 x16_4 ∧ v103 = .int .i64 x103_4 ∧ Aside0 (penelopelaw16_DagGrows.l1 kq t250 (rd t250 (ji23)) 777 x16_4 t264 (t264.length : Int) x103_4 t246 t247 = some r) ∧ Aside0 (kq ≤ k3) ∧ Aside0 (Kd.R (Kd.int .i64) 3 w' w.heap.size (fun k_ => some k_ ≠ ((.slice Ao51 t264.length co51) : Value).ownBlock) (.slice (some ad255) t250.length co28) t250) ∧ Aside0 (Kd.R (Kd.int .i64) 3 w' w.heap.size (fun k_ => some k_ ≠ ((.slice (some ad255) t250.length co28) : Value).ownBlock) (.slice Ao51 t264.length co51) t264) ∧ Aside0 (Kd.N k39 39 w' w.heap.size (fun k_ => some k_ ≠ ((.slice (some ad255) t250.length co28) : Value).ownBlock ∧ some k_ ≠ ((.slice Ao51 t264.length co51) : Value).ownBlock) (.slice Ao11 t247.length co11) t247) ∧ Aside0 (w'.heap[gb245]? = some (.cells #[.string t246, (.slice Ao11 t247.length co11)] 24 (0, 0))) ∧ Aside0 (Below w.heap.size w w') ∧ Aside0 (isSet w' bm x94_3.toNat t250))
                                  case atStart => exact ⟨(0), (0), (by first | rfl | (simp; done) | (simp [*]; done)), (by first | rfl | (simp; done) | (simp [*]; done)), H', ⟨Nat.le_refl _⟩, ⟨by (with_reducible repeat (first | apply Kd.R_alloc | apply Kd.R_drewN | apply Kd.R_drew)); exact HO_7.out⟩, ⟨by (with_reducible repeat (first | apply Kd.R_alloc | apply Kd.R_drewN | apply Kd.R_drew)); exact Kd.R_mono HO_11.out (fun _ hk => hk.1)⟩, ⟨by (with_reducible repeat (first | apply Kd.N_alloc | apply Kd.N_drewN | apply Kd.N_drew)); exact Kd.N_mono HO_246001.out (fun _ hk => ⟨hk.1.1, hk.1.2.1⟩)⟩, ⟨by (with_reducible repeat (first | refine blk_drewN ?_ _ | refine blk_drew ?_ | refine blk_alloc ?_ _)); exact BK245.out⟩, ⟨by repeat (first | (with_reducible first | exact HB.out | apply below_alloc | apply pw_below_drewN | apply below_drew1 | refine below_set ?_ GE245.out) | exact HB.out)⟩, ⟨(by with_reducible repeat (first | exact HM.out | apply isSet_drewN | apply isSet_drew))⟩⟩
                                  case round =>
                                    clear H'
                                    try clear c1
                                    try clear c2
                                    try clear p2
                                    try clear q2
                                    try clear hx2
                                    try clear c3
                                    try clear c4
                                    try clear p4
                                    try clear q4
                                    try clear hx4
                                    try clear hf4
                                    try clear c5
                                    try clear p6
                                    try clear c8
                                    try clear c11
                                    try clear c13
                                    try clear c13b0
                                    try clear c13b1
                                    try clear c15
                                    try clear c17
                                    try clear c18
                                    try clear c18b0
                                    try clear c18b1
                                    try clear c22
                                    try clear c22b0
                                    try clear c22b1
                                    try clear c22b2
                                    try clear c24
                                    try clear c24b0
                                    try clear c25
                                    try clear c25b0
                                    try clear p25
                                    try clear q25
                                    try clear hx25
                                    try clear c26
                                    try clear p26
                                    try clear q26
                                    try clear hx26
                                    try clear c32
                                    try clear c32b0
                                    try clear c33
                                    try clear c33b0
                                    try clear c35
                                    try clear c35b0
                                    try clear c36
                                    try clear c36b0
                                    try clear c38
                                    try clear c39
                                    try clear c39b0
                                    try clear c40
                                    try clear c40b0
                                    try clear p41
                                    try clear q41
                                    try clear hx41
                                    try clear hf41
                                    try clear c43
                                    try clear c43b0
                                    try clear c43b1
                                    try clear c48
                                    try clear c48b0
                                    try clear c49
                                    try clear c49b0
                                    try clear c50
                                    try clear c50b0
                                    try clear hcz10_0
                                    try clear hcz10_1
                                    try clear hcz20_0
                                    try clear hcz20_1
                                    try clear hcz46_0
                                    try clear hcz46_1
                                    try clear hcz8_0
                                    try clear hcz8_1
                                    try clear hfz10_0
                                    try clear hfz10_1
                                    try clear hfz20_0
                                    try clear hfz20_1
                                    try clear hfz46_0
                                    try clear hfz46_1
                                    try clear hfz8_0
                                    try clear hfz8_1
                                    try clear hx255_0
                                    try clear hx262_0
                                    try clear hx268_0
                                    try clear hx41_0
                                    try clear p2
                                    try clear p25
                                    try clear p255
                                    try clear p26
                                    try clear p262
                                    try clear p268
                                    try clear p4
                                    try clear p41
                                    try clear p6
                                    try clear q2
                                    try clear q25
                                    try clear q255
                                    try clear q26
                                    try clear q262
                                    try clear q268
                                    try clear q4
                                    try clear q41
                                    clear HM
                                    obtain ⟨x16_4, x103_4, rfl, rfl, HA, HK4, HO_7, HO_101, HO_246001, BK245, HB, HM⟩ := hrel
                                    cases gk with
                                    | zero => exact absurd HA.out (by simp [penelopelaw16_DagGrows.l1])
                                    | succ k4 =>
                                      have H := HA.out
                                      clear HA
                                      simp only [penelopelaw16_DagGrows.l1] at H
                                      by_cases c52 : x103_4 < (t264.length : Int)
                                      · rw [if_pos c52] at H
                                        have c52b0 : decide (x103_4 < (t264.length : Int)) = true := decide_eq_true c52
                                        clear c52
                                        by_cases c53 : 0 ≤ x103_4
                                        · rw [if_pos c53] at H
                                          have c53b0 : decide (0 ≤ x103_4) = true := decide_eq_true c53
                                          clear c53
                                          by_cases c54 : x103_4 < (t264.length : Int)
                                          · rw [if_pos c54] at H
                                            have c54b0 : decide (x103_4 < (t264.length : Int)) = true := decide_eq_true c54
                                            clear c54
                                            by_cases c55 : t250.contains (rd t264 x103_4) = true
                                            · rw [if_pos c55] at H
                                              have c55b0 : t250.contains (rd t264 x103_4) = true := c55
                                              clear c55
                                              have H' := Aside0.mk H
                                              clear H
                                              have p270 : 0 ≤ (x103_4 : Int) := of_decide_eq_true (by first | (with_reducible assumption) | assumption)
                                              have q270 : x103_4 < (t264.length : Int) := of_decide_eq_true (by first | (with_reducible assumption) | assumption)
                                              obtain ⟨ad270, e270, hx270_0⟩ := Kd.at_int (Kd.R_reads' HO_101.out).2.2 x103_4 p270 q270
                                              cases e270
                                              have YB := Aside0.mk (rd_bound GG.out.2.2 p270 q270)
                                              replace p270 := eq_true p270
                                              replace q270 := eq_true q270
                                              go_wp2_with (at_lookup; refine set_get _ rfl _ _ rfl bm x94_3.toNat t250 rfl (by with_reducible repeat (first | exact HM.out | apply isSet_drewN | apply isSet_drew)) (rd t264 x103_4) rfl YB.out.1 YB.out.2 ?_; rw [c55b0])
                                              go_roundg k4
                                              case measure => have := HJ5.out; have := HJ26.out; have := HK3.out; have := HK4.out; omega
                                              case rel => exact ⟨(wrap64 (x16_4 + 1)), (wrap64 (x103_4 + 1)), (by first | rfl | (simp; done) | (simp [*]; done)), (by first | rfl | (simp; done) | (simp [*]; done)), H', ⟨by have := HJ5.out; have := HJ26.out; have := HK3.out; have := HK4.out; omega⟩, ⟨by (with_reducible repeat (first | apply Kd.R_alloc | apply Kd.R_drewN | apply Kd.R_drew)); exact HO_7.out⟩, ⟨by (with_reducible repeat (first | apply Kd.R_alloc | apply Kd.R_drewN | apply Kd.R_drew)); exact HO_101.out⟩, ⟨by (with_reducible repeat (first | apply Kd.N_alloc | apply Kd.N_drewN | apply Kd.N_drew)); exact HO_246001.out⟩, ⟨by (with_reducible repeat (first | refine blk_drewN ?_ _ | refine blk_drew ?_ | refine blk_alloc ?_ _)); exact BK245.out⟩, ⟨by repeat (first | (with_reducible first | exact HB.out | apply below_alloc | apply pw_below_drewN | apply below_drew1 | refine below_set ?_ GE245.out) | exact HB.out)⟩, ⟨(by with_reducible repeat (first | exact HM.out | apply isSet_drewN | apply isSet_drew))⟩⟩
                                            · rw [if_neg c55] at H
                                              have c55b0 : t250.contains (rd t264 x103_4) = false := Bool.eq_false_iff.mpr c55
                                              have HC56 := Aside0.mk H
                                              clear H
                                              have p270 : 0 ≤ (x103_4 : Int) := of_decide_eq_true (by first | (with_reducible assumption) | assumption)
                                              have q270 : x103_4 < (t264.length : Int) := of_decide_eq_true (by first | (with_reducible assumption) | assumption)
                                              obtain ⟨ad270, e270, hx270_0⟩ := Kd.at_int (Kd.R_reads' HO_101.out).2.2 x103_4 p270 q270
                                              cases e270
                                              have YB := Aside0.mk (rd_bound GG.out.2.2 p270 q270)
                                              replace p270 := eq_true p270
                                              replace q270 := eq_true q270
                                              go_upto_region 25 with (at_lookup; refine set_get _ rfl _ _ rfl bm x94_3.toNat t250 rfl (by with_reducible repeat (first | exact HM.out | apply isSet_drewN | apply isSet_drew)) (rd t264 x103_4) rfl YB.out.1 YB.out.2 ?_; rw [c55b0])
                                              (try simp only [Act.put, List.setIfInBounds_toArray, List.set_cons_zero, List.set_cons_succ])
                                              go_cut [120] (fun v120 wc => ∃ (kq : Nat) (x120_55 : Bool), v120 = .bool x120_55 ∧ Aside0 (penelopelaw16_DagGrows.j4 kq t250 (rd t250 (ji23)) 777 x16_4 (rd t264 x103_4) t264 (t264.length : Int) x103_4 x120_55 t246 t247 = some r) ∧ Aside0 (kq ≤ k4) ∧ Aside0 (Kd.R (Kd.int .i64) 3 wc w.heap.size (fun k_ => some k_ ≠ ((.slice (some ad270) t264.length co51) : Value).ownBlock) (.slice (some ad255) t250.length co28) t250) ∧ Aside0 (Kd.R (Kd.int .i64) 3 wc w.heap.size (fun k_ => some k_ ≠ ((.slice (some ad255) t250.length co28) : Value).ownBlock) (.slice (some ad270) t264.length co51) t264) ∧ Aside0 (Kd.N k39 39 wc w.heap.size (fun k_ => some k_ ≠ ((.slice (some ad255) t250.length co28) : Value).ownBlock ∧ some k_ ≠ ((.slice (some ad270) t264.length co51) : Value).ownBlock) (.slice Ao11 t247.length co11) t247) ∧ Aside0 (wc.heap[gb245]? = some (.cells #[.string t246, (.slice Ao11 t247.length co11)] 24 (0, 0))) ∧ Aside0 (Below w.heap.size w wc) ∧ Aside0 (isSet wc bm x94_3.toNat t250))
                                              case first =>
                                                have H := HC56.out
                                                clear HC56
                                                by_cases c57 : (rd t264 x103_4) < 0
                                                · rw [if_pos c57] at H
                                                  have c57b0 : decide ((rd t264 x103_4) < 0) = true := decide_eq_true c57
                                                  clear c57
                                                  (first | rw [c57b0] | (simp only [i64_w, i32_w]; rw [c57b0]) | skip)
                                                  have H' := Aside0.mk H
                                                  clear H
                                                  go_wp2
                                                  go_meet
                                                  case rel => exact ⟨_, (true), (by first | rfl | (simp; done) | (simp [*]; done)), H', ⟨by have := HJ5.out; have := HJ26.out; have := HK3.out; have := HK4.out; first | omega | exact Nat.le_refl _⟩, ⟨by (with_reducible repeat (first | apply Kd.R_alloc | apply Kd.R_drewN | apply Kd.R_drew)); exact HO_7.out⟩, ⟨by (with_reducible repeat (first | apply Kd.R_alloc | apply Kd.R_drewN | apply Kd.R_drew)); exact HO_101.out⟩, ⟨by (with_reducible repeat (first | apply Kd.N_alloc | apply Kd.N_drewN | apply Kd.N_drew)); exact HO_246001.out⟩, ⟨by (with_reducible repeat (first | refine blk_drewN ?_ _ | refine blk_drew ?_ | refine blk_alloc ?_ _)); exact BK245.out⟩, ⟨by repeat (first | (with_reducible first | exact HB.out | apply below_alloc | apply pw_below_drewN | apply below_drew1 | refine below_set ?_ GE245.out) | exact HB.out)⟩, ⟨(by with_reducible repeat (first | exact HM.out | apply isSet_drewN | apply isSet_drew))⟩⟩
                                                · rw [if_neg c57] at H
                                                  have c57b0 : decide ((rd t264 x103_4) < 0) = false := decide_eq_false c57
                                                  clear c57
                                                  (first | rw [c57b0] | (simp only [i64_w, i32_w]; rw [c57b0]) | skip)
                                                  have H' := Aside0.mk H
                                                  clear H
                                                  have hcz58_0 : wr.cell? ⟨gb245, 0, none⟩ = some (.string t246) := (blk_cell BK245.out 0).trans rfl
                                                  have hcz58_1 : wr.cell? ⟨gb245, 1, none⟩ = some (.slice Ao11 t247.length co11) := (blk_cell BK245.out 1).trans rfl
                                                  have hfz58_0 := blk_frozen BK245.out 0
                                                  have hfz58_1 := blk_frozen BK245.out 1
                                                  go_wp2
                                                  go_meet
                                                  case rel => exact ⟨_, (decide ((rd t264 x103_4) ≥ (t247.length : Int))), (by first | rfl | (simp; done) | (simp [*]; done)), H', ⟨by have := HJ5.out; have := HJ26.out; have := HK3.out; have := HK4.out; first | omega | exact Nat.le_refl _⟩, ⟨by (with_reducible repeat (first | apply Kd.R_alloc | apply Kd.R_drewN | apply Kd.R_drew)); exact HO_7.out⟩, ⟨by (with_reducible repeat (first | apply Kd.R_alloc | apply Kd.R_drewN | apply Kd.R_drew)); exact HO_101.out⟩, ⟨by (with_reducible repeat (first | apply Kd.N_alloc | apply Kd.N_drewN | apply Kd.N_drew)); exact HO_246001.out⟩, ⟨by (with_reducible repeat (first | refine blk_drewN ?_ _ | refine blk_drew ?_ | refine blk_alloc ?_ _)); exact BK245.out⟩, ⟨by repeat (first | (with_reducible first | exact HB.out | apply below_alloc | apply pw_below_drewN | apply below_drew1 | refine below_set ?_ GE245.out) | exact HB.out)⟩, ⟨(by with_reducible repeat (first | exact HM.out | apply isSet_drewN | apply isSet_drew))⟩⟩
                                              case rest =>
                                                clear HC56
                                                try clear c1
                                                try clear c2
                                                try clear p2
                                                try clear q2
                                                try clear hx2
                                                try clear c3
                                                try clear c4
                                                try clear p4
                                                try clear q4
                                                try clear hx4
                                                try clear hf4
                                                try clear c5
                                                try clear p6
                                                try clear c8
                                                try clear c11
                                                try clear c13
                                                try clear c13b0
                                                try clear c13b1
                                                try clear c15
                                                try clear c17
                                                try clear c18
                                                try clear c18b0
                                                try clear c18b1
                                                try clear c22
                                                try clear c22b0
                                                try clear c22b1
                                                try clear c22b2
                                                try clear c24
                                                try clear c24b0
                                                try clear c25
                                                try clear c25b0
                                                try clear p25
                                                try clear q25
                                                try clear hx25
                                                try clear c26
                                                try clear p26
                                                try clear q26
                                                try clear hx26
                                                try clear p27
                                                try clear q27
                                                try clear hx27
                                                try clear c32
                                                try clear c32b0
                                                try clear c33
                                                try clear c33b0
                                                try clear c35
                                                try clear c35b0
                                                try clear c36
                                                try clear c36b0
                                                try clear c38
                                                try clear c39
                                                try clear c39b0
                                                try clear c40
                                                try clear c40b0
                                                try clear p41
                                                try clear q41
                                                try clear hx41
                                                try clear hf41
                                                try clear c43
                                                try clear c43b0
                                                try clear c43b1
                                                try clear c48
                                                try clear c48b0
                                                try clear c49
                                                try clear c49b0
                                                try clear c50
                                                try clear c50b0
                                                try clear c52
                                                try clear c52b0
                                                try clear c53
                                                try clear c53b0
                                                try clear c54
                                                try clear c54b0
                                                try clear c55
                                                try clear c55b0
                                                try clear c55b1
                                                try clear c57
                                                try clear c57b0
                                                try clear hcz10_0
                                                try clear hcz10_1
                                                try clear hcz20_0
                                                try clear hcz20_1
                                                try clear hcz46_0
                                                try clear hcz46_1
                                                try clear hcz58_0
                                                try clear hcz58_1
                                                try clear hcz8_0
                                                try clear hcz8_1
                                                try clear hfz10_0
                                                try clear hfz10_1
                                                try clear hfz20_0
                                                try clear hfz20_1
                                                try clear hfz46_0
                                                try clear hfz46_1
                                                try clear hfz58_0
                                                try clear hfz58_1
                                                try clear hfz8_0
                                                try clear hfz8_1
                                                try clear hx255_0
                                                try clear hx262_0
                                                try clear hx268_0
                                                try clear hx270_0
                                                try clear hx41_0
                                                try clear p2
                                                try clear p25
                                                try clear p255
                                                try clear p26
                                                try clear p262
                                                try clear p268
                                                try clear p270
                                                try clear p4
                                                try clear p41
                                                try clear p6
                                                try clear q2
                                                try clear q25
                                                try clear q255
                                                try clear q26
                                                try clear q262
                                                try clear q268
                                                try clear q270
                                                try clear q4
                                                try clear q41
                                                clear HM
                                                obtain ⟨kq, x120_55, rfl, HA, HJ55, HO_7, HO_101, HO_246001, BK245, HB, HM⟩ := hcut
                                                cases kq with
                                                | zero => exact absurd HA.out (by simp [penelopelaw16_DagGrows.j4])
                                                | succ kj55 =>
                                                  have H := HA.out
                                                  clear HA
                                                  simp only [penelopelaw16_DagGrows.j4] at H
                                                  by_cases c59 : x120_55 = true
                                                  · subst c59
                                                    have H1 : (none) = some r := by rw [if_pos rfl] at H; exact H
                                                    clear H
                                                    have H := H1
                                                    clear H1
                                                    exact absurd H (by simp)
                                                  · replace c59 := Bool.eq_false_iff.mpr c59
                                                    subst c59
                                                    have H1 : (if 0 ≤ (rd t264 x103_4) then (if (rd t264 x103_4) < (t247.length : Int) then (penelopelaw16_DagGrows.l2 kj55 t250 (rd t250 (ji23)) 777 x16_4 false t264 (t264.length : Int) x103_4 ((rd_T39 t247 (rd t264 x103_4)).f0) (((rd_T39 t247 (rd t264 x103_4)).f0).length : Int) 0 t246 t247) else (none)) else (none)) = some r := by rw [if_neg (show ¬ (false = true) by decide)] at H; exact H
                                                    clear H
                                                    have H := H1
                                                    clear H1
                                                    by_cases c60 : 0 ≤ (rd t264 x103_4)
                                                    · rw [if_pos c60] at H
                                                      have c60b0 : decide (0 ≤ (rd t264 x103_4)) = true := decide_eq_true c60
                                                      clear c60
                                                      by_cases c61 : (rd t264 x103_4) < (t247.length : Int)
                                                      · rw [if_pos c61] at H
                                                        have c61b0 : decide ((rd t264 x103_4) < (t247.length : Int)) = true := decide_eq_true c61
                                                        clear c61
                                                        have H' := Aside0.mk H
                                                        clear H
                                                        have hcz62_0 : wc.cell? ⟨gb245, 0, none⟩ = some (.string t246) := (blk_cell BK245.out 0).trans rfl
                                                        have hcz62_1 : wc.cell? ⟨gb245, 1, none⟩ = some (.slice Ao11 t247.length co11) := (blk_cell BK245.out 1).trans rfl
                                                        have hfz62_0 := blk_frozen BK245.out 0
                                                        have hfz62_1 := blk_frozen BK245.out 1
                                                        have p271 : 0 ≤ ((rd t264 x103_4) : Int) := of_decide_eq_true (by first | (with_reducible assumption) | assumption)
                                                        have q271 : (rd t264 x103_4) < (t247.length : Int) := of_decide_eq_true (by first | (with_reducible assumption) | assumption)
                                                        obtain ⟨ad271, A271_0, c271_0, e271, hx271_0, hx271_1, hx271_2, hx271_3, hl271_0, hi271_0⟩ := at_T39 (Kd.N_reads' HO_246001.out).2.2 (rd t264 x103_4) p271 q271
                                                        cases e271
                                                        have HR271_0 := Aside0.mk hi271_0
                                                        have HC271_0 := Aside0.mk hl271_0
                                                        clear hi271_0 hl271_0
                                                        replace p271 := eq_true p271
                                                        replace q271 := eq_true q271
                                                        go_wp2
                                                        go_loopg [19, 128] kj55 (fun kq v19 v128 w' => ∃ (x19_6 : Bool) (x128_6 : Int), v19 = .bool x19_6 ∧ v128 = .int .i64 x128_6 ∧ Aside0 (penelopelaw16_DagGrows.l2 kq t250 (rd t250 (ji23)) 777 x16_4 x19_6 t264 (t264.length : Int) x103_4 ((rd_T39 t247 (rd t264 x103_4)).f0) (((rd_T39 t247 (rd t264 x103_4)).f0).length : Int) x128_6 t246 t247 = some r) ∧ Aside0 (kq ≤ kj55) ∧ Aside0 (Kd.R (Kd.int .i64) 3 w' w.heap.size (fun k_ => some k_ ≠ ((.slice (some ad270) t264.length co51) : Value).ownBlock) (.slice (some ad255) t250.length co28) t250) ∧ Aside0 (Kd.R (Kd.int .i64) 3 w' w.heap.size (fun k_ => some k_ ≠ ((.slice (some ad255) t250.length co28) : Value).ownBlock) (.slice (some ad270) t264.length co51) t264) ∧ Aside0 (Kd.N k39 39 w' w.heap.size (fun k_ => some k_ ≠ ((.slice (some ad255) t250.length co28) : Value).ownBlock ∧ some k_ ≠ ((.slice (some ad270) t264.length co51) : Value).ownBlock) (.slice (some ad271) t247.length co11) t247) ∧ Aside0 (w'.heap[gb245]? = some (.cells #[.string t246, (.slice (some ad271) t247.length co11)] 24 (0, 0))) ∧ Aside0 (Kd.C (Kd.int .i64) w' A271_0 ((rd_T39 t247 (rd t264 x103_4)).f0).length ((rd_T39 t247 (rd t264 x103_4)).f0)) ∧ Aside0 (Below w.heap.size w w') ∧ Aside0 (isSet w' bm x94_3.toNat t250))
                                                        case atStart => exact ⟨(false), (0), (by first | rfl | (simp; done) | (simp [*]; done)), (by first | rfl | (simp; done) | (simp [*]; done)), H', ⟨Nat.le_refl _⟩, ⟨by (with_reducible repeat (first | apply Kd.R_alloc | apply Kd.R_drewN | apply Kd.R_drew)); exact HO_7.out⟩, ⟨by (with_reducible repeat (first | apply Kd.R_alloc | apply Kd.R_drewN | apply Kd.R_drew)); exact HO_101.out⟩, ⟨by (with_reducible repeat (first | apply Kd.N_alloc | apply Kd.N_drewN | apply Kd.N_drew)); exact HO_246001.out⟩, ⟨by (with_reducible repeat (first | refine blk_drewN ?_ _ | refine blk_drew ?_ | refine blk_alloc ?_ _)); exact BK245.out⟩, ⟨by repeat (first | (with_reducible exact HR271_0.out) | (with_reducible refine Kd.C_alloc ?_ _) | (with_reducible refine Kd.C_drewN ?_ _) | (with_reducible refine Kd.C_drew ?_) | exact HR271_0.out)⟩, ⟨by repeat (first | (with_reducible first | exact HB.out | apply below_alloc | apply pw_below_drewN | apply below_drew1 | refine below_set ?_ GE245.out) | exact HB.out)⟩, ⟨(by with_reducible repeat (first | exact HM.out | apply isSet_drewN | apply isSet_drew))⟩⟩
                                                        case round =>
                                                          clear H'
                                                          try clear c1
                                                          try clear c2
                                                          try clear p2
                                                          try clear q2
                                                          try clear hx2
                                                          try clear c3
                                                          try clear c4
                                                          try clear p4
                                                          try clear q4
                                                          try clear hx4
                                                          try clear hf4
                                                          try clear c5
                                                          try clear c6
                                                          try clear p6
                                                          try clear c8
                                                          try clear c11
                                                          try clear c13
                                                          try clear c13b0
                                                          try clear c13b1
                                                          try clear c15
                                                          try clear c17
                                                          try clear c18
                                                          try clear c18b0
                                                          try clear c18b1
                                                          try clear c22
                                                          try clear c22b0
                                                          try clear c22b1
                                                          try clear c22b2
                                                          try clear c24
                                                          try clear c24b0
                                                          try clear c25
                                                          try clear c25b0
                                                          try clear p25
                                                          try clear q25
                                                          try clear hx25
                                                          try clear c26
                                                          try clear p26
                                                          try clear q26
                                                          try clear hx26
                                                          try clear c27
                                                          try clear p27
                                                          try clear q27
                                                          try clear hx27
                                                          try clear c32
                                                          try clear c32b0
                                                          try clear c33
                                                          try clear c33b0
                                                          try clear c35
                                                          try clear c35b0
                                                          try clear c36
                                                          try clear c36b0
                                                          try clear c38
                                                          try clear c39
                                                          try clear c39b0
                                                          try clear c40
                                                          try clear c40b0
                                                          try clear p41
                                                          try clear q41
                                                          try clear hx41
                                                          try clear hf41
                                                          try clear c43
                                                          try clear c43b0
                                                          try clear c43b1
                                                          try clear c48
                                                          try clear c48b0
                                                          try clear c49
                                                          try clear c49b0
                                                          try clear c50
                                                          try clear c50b0
                                                          try clear c52
                                                          try clear c52b0
                                                          try clear c53
                                                          try clear c53b0
                                                          try clear c54
                                                          try clear c54b0
                                                          try clear c55
                                                          try clear c55b0
                                                          try clear c55b1
                                                          try clear c57
                                                          try clear c57b0
                                                          try clear c59
                                                          try clear c60
                                                          try clear c60b0
                                                          try clear c61
                                                          try clear c61b0
                                                          try clear hcz10_0
                                                          try clear hcz10_1
                                                          try clear hcz20_0
                                                          try clear hcz20_1
                                                          try clear hcz46_0
                                                          try clear hcz46_1
                                                          try clear hcz58_0
                                                          try clear hcz58_1
                                                          try clear hcz62_0
                                                          try clear hcz62_1
                                                          try clear hcz8_0
                                                          try clear hcz8_1
                                                          try clear hfz10_0
                                                          try clear hfz10_1
                                                          try clear hfz20_0
                                                          try clear hfz20_1
                                                          try clear hfz46_0
                                                          try clear hfz46_1
                                                          try clear hfz58_0
                                                          try clear hfz58_1
                                                          try clear hfz62_0
                                                          try clear hfz62_1
                                                          try clear hfz8_0
                                                          try clear hfz8_1
                                                          try clear hx255_0
                                                          try clear hx262_0
                                                          try clear hx268_0
                                                          try clear hx270_0
                                                          try clear hx271_0
                                                          try clear hx271_1
                                                          try clear hx271_2
                                                          try clear hx271_3
                                                          try clear hx41_0
                                                          try clear p2
                                                          try clear p25
                                                          try clear p255
                                                          try clear p26
                                                          try clear p262
                                                          try clear p268
                                                          try clear p27
                                                          try clear p270
                                                          try clear p271
                                                          try clear p4
                                                          try clear p41
                                                          try clear p6
                                                          try clear q2
                                                          try clear q25
                                                          try clear q255
                                                          try clear q26
                                                          try clear q262
                                                          try clear q268
                                                          try clear q27
                                                          try clear q270
                                                          try clear q271
                                                          try clear q4
                                                          try clear q41
                                                          clear HM
                                                          obtain ⟨x19_6, x128_6, rfl, rfl, HA, HK6, HO_7, HO_101, HO_246001, BK245, HR271_0, HB, HM⟩ := hrel
                                                          cases gk with
                                                          | zero => exact absurd HA.out (by simp [penelopelaw16_DagGrows.l2])
                                                          | succ k6 =>
                                                            have H := HA.out
                                                            clear HA
                                                            simp only [penelopelaw16_DagGrows.l2] at H
                                                            by_cases c63 : x128_6 < (((rd_T39 t247 (rd t264 x103_4)).f0).length : Int)
                                                            · rw [if_pos c63] at H
                                                              have c63b0 : decide (x128_6 < (((rd_T39 t247 (rd t264 x103_4)).f0).length : Int)) = true := decide_eq_true c63
                                                              clear c63
                                                              by_cases c64 : 0 ≤ x128_6
                                                              · rw [if_pos c64] at H
                                                                have c64b0 : decide (0 ≤ x128_6) = true := decide_eq_true c64
                                                                clear c64
                                                                by_cases c65 : x128_6 < (((rd_T39 t247 (rd t264 x103_4)).f0).length : Int)
                                                                · rw [if_pos c65] at H
                                                                  have c65b0 : decide (x128_6 < (((rd_T39 t247 (rd t264 x103_4)).f0).length : Int)) = true := decide_eq_true c65
                                                                  clear c65
                                                                  by_cases c66 : x19_6 = true
                                                                  · subst c66
                                                                    have H1 : (penelopelaw16_DagGrows.l2 k6 t250 (rd t250 (ji23)) 777 x16_4 true t264 (t264.length : Int) x103_4 ((rd_T39 t247 (rd t264 x103_4)).f0) (((rd_T39 t247 (rd t264 x103_4)).f0).length : Int) (wrap64 (x128_6 + 1)) t246 t247) = some r := by rw [if_pos rfl] at H; exact H
                                                                    clear H
                                                                    have H := H1
                                                                    clear H1
                                                                    have H' := Aside0.mk H
                                                                    clear H
                                                                    have p272 : 0 ≤ (x128_6 : Int) := of_decide_eq_true (by first | (with_reducible assumption) | assumption)
                                                                    have q272 : x128_6 < (((rd_T39 t247 (rd t264 x103_4)).f0).length : Int) := of_decide_eq_true (by first | (with_reducible assumption) | assumption)
                                                                    obtain ⟨ad272, e272, hx272_0⟩ := Kd.at_int HR271_0.out x128_6 p272 q272
                                                                    cases e272
                                                                    replace p272 := eq_true p272
                                                                    replace q272 := eq_true q272
                                                                    go_wp2
                                                                    go_roundg k6
                                                                    case measure => have := HJ5.out; have := HJ26.out; have := HK3.out; have := HK4.out; have := HJ55.out; have := HK6.out; omega
                                                                    case rel => exact ⟨(true), (wrap64 (x128_6 + 1)), (by first | rfl | (simp; done) | (simp [*]; done)), (by first | rfl | (simp; done) | (simp [*]; done)), H', ⟨by have := HJ5.out; have := HJ26.out; have := HK3.out; have := HK4.out; have := HJ55.out; have := HK6.out; omega⟩, ⟨by (with_reducible repeat (first | apply Kd.R_alloc | apply Kd.R_drewN | apply Kd.R_drew)); exact HO_7.out⟩, ⟨by (with_reducible repeat (first | apply Kd.R_alloc | apply Kd.R_drewN | apply Kd.R_drew)); exact HO_101.out⟩, ⟨by (with_reducible repeat (first | apply Kd.N_alloc | apply Kd.N_drewN | apply Kd.N_drew)); exact HO_246001.out⟩, ⟨by (with_reducible repeat (first | refine blk_drewN ?_ _ | refine blk_drew ?_ | refine blk_alloc ?_ _)); exact BK245.out⟩, ⟨by repeat (first | (with_reducible exact HR271_0.out) | (with_reducible refine Kd.C_alloc ?_ _) | (with_reducible refine Kd.C_drewN ?_ _) | (with_reducible refine Kd.C_drew ?_) | exact HR271_0.out)⟩, ⟨by repeat (first | (with_reducible first | exact HB.out | apply below_alloc | apply pw_below_drewN | apply below_drew1 | refine below_set ?_ GE245.out) | exact HB.out)⟩, ⟨(by with_reducible repeat (first | exact HM.out | apply isSet_drewN | apply isSet_drew))⟩⟩
                                                                  · replace c66 := Bool.eq_false_iff.mpr c66
                                                                    subst c66
                                                                    have H1 : (penelopelaw16_DagGrows.l2 k6 t250 (rd t250 (ji23)) 777 x16_4 ((rd ((rd_T39 t247 (rd t264 x103_4)).f0) x128_6) == (rd t250 (ji23))) t264 (t264.length : Int) x103_4 ((rd_T39 t247 (rd t264 x103_4)).f0) (((rd_T39 t247 (rd t264 x103_4)).f0).length : Int) (wrap64 (x128_6 + 1)) t246 t247) = some r := by rw [if_neg (show ¬ (false = true) by decide)] at H; exact H
                                                                    clear H
                                                                    have H := H1
                                                                    clear H1
                                                                    have H' := Aside0.mk H
                                                                    clear H
                                                                    have p272 : 0 ≤ (x128_6 : Int) := of_decide_eq_true (by first | (with_reducible assumption) | assumption)
                                                                    have q272 : x128_6 < (((rd_T39 t247 (rd t264 x103_4)).f0).length : Int) := of_decide_eq_true (by first | (with_reducible assumption) | assumption)
                                                                    obtain ⟨ad272, e272, hx272_0⟩ := Kd.at_int HR271_0.out x128_6 p272 q272
                                                                    cases e272
                                                                    replace p272 := eq_true p272
                                                                    replace q272 := eq_true q272
                                                                    go_wp2
                                                                    go_roundg k6
                                                                    case measure => have := HJ5.out; have := HJ26.out; have := HK3.out; have := HK4.out; have := HJ55.out; have := HK6.out; omega
                                                                    case rel => exact ⟨(((rd ((rd_T39 t247 (rd t264 x103_4)).f0) x128_6) == (rd t250 (ji23)))), (wrap64 (x128_6 + 1)), (by first | rfl | (simp; done) | (simp only [← hji23] <;> (first | rfl | simp)) | (simp [*]; done)), (by first | rfl | (simp; done) | (simp [*]; done)), H', ⟨by have := HJ5.out; have := HJ26.out; have := HK3.out; have := HK4.out; have := HJ55.out; have := HK6.out; omega⟩, ⟨by (with_reducible repeat (first | apply Kd.R_alloc | apply Kd.R_drewN | apply Kd.R_drew)); exact HO_7.out⟩, ⟨by (with_reducible repeat (first | apply Kd.R_alloc | apply Kd.R_drewN | apply Kd.R_drew)); exact HO_101.out⟩, ⟨by (with_reducible repeat (first | apply Kd.N_alloc | apply Kd.N_drewN | apply Kd.N_drew)); exact HO_246001.out⟩, ⟨by (with_reducible repeat (first | refine blk_drewN ?_ _ | refine blk_drew ?_ | refine blk_alloc ?_ _)); exact BK245.out⟩, ⟨by repeat (first | (with_reducible exact HR271_0.out) | (with_reducible refine Kd.C_alloc ?_ _) | (with_reducible refine Kd.C_drewN ?_ _) | (with_reducible refine Kd.C_drew ?_) | exact HR271_0.out)⟩, ⟨by repeat (first | (with_reducible first | exact HB.out | apply below_alloc | apply pw_below_drewN | apply below_drew1 | refine below_set ?_ GE245.out) | exact HB.out)⟩, ⟨(by with_reducible repeat (first | exact HM.out | apply isSet_drewN | apply isSet_drew))⟩⟩
                                                                · rw [if_neg c65] at H
                                                                  exact absurd H (by simp)
                                                              · rw [if_neg c64] at H
                                                                exact absurd H (by simp)
                                                            · rw [if_neg c63] at H
                                                              have c63b0 : decide (x128_6 < (((rd_T39 t247 (rd t264 x103_4)).f0).length : Int)) = false := decide_eq_false c63
                                                              clear c63
                                                              by_cases c67 : x19_6 = true
                                                              · subst c67
                                                                have H1 : (penelopelaw16_DagGrows.l1 k6 t250 (rd t250 (ji23)) 777 x16_4 t264 (t264.length : Int) (wrap64 (x103_4 + 1)) t246 t247) = some r := by rw [if_pos rfl] at H; exact H
                                                                clear H
                                                                have H := H1
                                                                clear H1
                                                                have H' := Aside0.mk H
                                                                clear H
                                                                go_wp2
                                                                go_roundg k6
                                                                case measure => have := HJ5.out; have := HJ26.out; have := HK3.out; have := HK4.out; have := HJ55.out; have := HK6.out; omega
                                                                case rel => exact ⟨(x16_4), (wrap64 (x103_4 + 1)), (by first | rfl | (simp; done) | (simp [*]; done)), (by first | rfl | (simp; done) | (simp [*]; done)), H', ⟨by have := HJ5.out; have := HJ26.out; have := HK3.out; have := HK4.out; have := HJ55.out; have := HK6.out; omega⟩, ⟨by (with_reducible repeat (first | apply Kd.R_alloc | apply Kd.R_drewN | apply Kd.R_drew)); exact HO_7.out⟩, ⟨by (with_reducible repeat (first | apply Kd.R_alloc | apply Kd.R_drewN | apply Kd.R_drew)); exact HO_101.out⟩, ⟨by (with_reducible repeat (first | apply Kd.N_alloc | apply Kd.N_drewN | apply Kd.N_drew)); exact HO_246001.out⟩, ⟨by (with_reducible repeat (first | refine blk_drewN ?_ _ | refine blk_drew ?_ | refine blk_alloc ?_ _)); exact BK245.out⟩, ⟨by repeat (first | (with_reducible first | exact HB.out | apply below_alloc | apply pw_below_drewN | apply below_drew1 | refine below_set ?_ GE245.out) | exact HB.out)⟩, ⟨(by with_reducible repeat (first | exact HM.out | apply isSet_drewN | apply isSet_drew))⟩⟩
                                                              · replace c67 := Bool.eq_false_iff.mpr c67
                                                                subst c67
                                                                have H1 : (none) = some r := by rw [if_neg (show ¬ (false = true) by decide)] at H; exact H
                                                                clear H
                                                                have H := H1
                                                                clear H1
                                                                exact absurd H (by simp)
                                                      · rw [if_neg c61] at H
                                                        exact absurd H (by simp)
                                                    · rw [if_neg c60] at H
                                                      exact absurd H (by simp)
                                          · rw [if_neg c54] at H
                                            exact absurd H (by simp)
                                        · rw [if_neg c53] at H
                                          exact absurd H (by simp)
                                      · rw [if_neg c52] at H
                                        have c52b0 : decide (x103_4 < (t264.length : Int)) = false := decide_eq_false c52
                                        clear c52
                                        replace H := Option.bind_eq_some_iff.mp H
                                        obtain ⟨t269, A680, H⟩ := H
                                        replace H : (if t269 = true then (some (x16_4 == (wrap64 ((t250.length : Int) - 1)))) else (none)) = some r := H
                                        have A68 := Aside0.mk A680
                                        clear A680
                                        by_cases c69 : t269 = true
                                        · subst c69
                                          have H1 : (some (x16_4 == (wrap64 ((t250.length : Int) - 1)))) = some r := by rw [if_pos rfl] at H; exact H
                                          clear H
                                          have H := H1
                                          clear H1
                                          obtain rfl := Option.some.inj H
                                          go_wp2_with (first | ((with_reducible refine gate_callee (f := 13) rfl ?_); refine goesL_ (some 142) rfl rfl Try.func13 (by kernel_rfl) rfl #[] rfl (by (try simp only [List.map_toArray, List.map_cons, List.map_nil]); first | done | rfl | (simp only [List.length_drop, List.length_take]; rfl)) ?_; (with_reducible refine (penelopelaw16_alive.calls k4  true _ A68.out).mono ?_); rintro e w70 ⟨rfl, hb⟩; refine ⟨_, rfl, ?_⟩; have n0_ := Aside0.mk (Kd.R_below (by (with_reducible repeat (first | apply Kd.R_alloc | apply Kd.R_drewN | apply Kd.R_drew)); exact HO_7.out) hb); have n1_ := Aside0.mk (Kd.R_below (by (with_reducible repeat (first | apply Kd.R_alloc | apply Kd.R_drewN | apply Kd.R_drew)); exact HO_101.out) hb); have n2_ := Aside0.mk (Kd.N_below (by (with_reducible repeat (first | apply Kd.N_alloc | apply Kd.N_drewN | apply Kd.N_drew)); exact HO_246001.out) hb); have n3_ := Aside0.mk (blk_below (g := gb245) (o := .cells #[.string t246, .slice Ao11 t247.length co11] 24 (0, 0)) (by (with_reducible repeat (first | refine blk_drewN ?_ _ | refine blk_drew ?_ | refine blk_alloc ?_ _)); exact BK245.out) hb); have n4_ := Aside0.mk (below_step (by repeat (first | (with_reducible first | exact HB.out | apply below_alloc | apply pw_below_drewN | apply below_drew1 | refine below_set ?_ GE245.out) | exact HB.out)) hb); clear HO_7; clear HO_101; clear HO_246001; clear BK245; clear HB; have HO_7 := n0_; have HO_101 := n1_; have HO_246001 := n2_; have BK245 := n3_; have HB := n4_; clear n0_ n1_ n2_ n3_ n4_; (try clear hb); (try clear hb2); (try clear hk); (try clear hi)))
                                          go_ret
                                          exact ⟨by first | rfl | (simp [errW_none, errW_some] <;> rfl) | (simp only [← hji23]; first | rfl | (simp [errW_none, errW_some] <;> rfl)) | (simp [*, errW_none, errW_some] <;> rfl), by repeat (first | (with_reducible first | exact HB.out | apply below_alloc | apply pw_below_drewN | apply below_drew1 | refine below_set ?_ GE245.out) | exact HB.out)⟩
                                        · replace c69 := Bool.eq_false_iff.mpr c69
                                          subst c69
                                          have H1 : (none) = some r := by rw [if_neg (show ¬ (false = true) by decide)] at H; exact H
                                          clear H
                                          have H := H1
                                          clear H1
                                          exact absurd H (by simp)
                          · rw [if_neg c43] at H
                            exact absurd H (by simp)
                        · rw [if_neg c40] at H
                          exact absurd H (by simp)
                      · rw [if_neg c39] at H
                        exact absurd H (by simp)
              · rw [if_neg c26] at H
                exact absurd H (by simp)
            · rw [if_neg c25] at H
              exact absurd H (by simp)
          · rw [if_neg c24] at H
            exact absurd H (by simp)

end Go.Proofs.Ytbgmhcefjggpgaa.X
